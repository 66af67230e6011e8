/- Texts of this proof, put together: SHash4, SIs, SEsc, SBuf, Args. -/
import Derived.Lib.MakeNoZero
import Derived.ChangeArms
import Derived.DataReads
import Derived.WideShapes
import Derived.Test.YtdnoacgopfcpbaaGreatQ08
set_option linter.unusedVariables false
set_option linter.unusedSimpArgs false
namespace Go.Proofs.YtdnoacgopfcpbaaGreat
section
set_option maxRecDepth 100000
theorem sla_ceAt {b : Nat} {T : TypeId} {l : List Value} (off k : Nat) : SlA (Ce b T l) (some ⟨b, off, none⟩) ((l.drop off).take k) := fun x => .inr ⟨b, off, l, T, (0, 0), rfl, .inr (by have : _ = Res.one b _ := x; rw [this]; exact Res.one_same _ _), by rw [List.length_take, List.take_eq_take_iff.2]; simp⟩
def hexP (x : UInt32) (j : Nat) : Bs := (List.range j).map fun j => hexD.getD ((x >>> UInt32.ofNat (28 - 4 * j)) &&& 15).toNat 0
theorem hexP_succ (x : UInt32) (j : Nat) : hexP x (j + 1) = hexP x j ++ [hexD.getD ((x >>> UInt32.ofNat (28 - 4 * j)) &&& 15).toNat 0] := by simp [hexP, List.range_succ]
theorem hexP_len (x : UInt32) (j : Nat) : (hexP x j).length = j := by simp [hexP]
theorem and15 (x : UInt32) : (x &&& 15).toNat < 16 := by
 rw [UInt32.toNat_and]; exact Nat.lt_of_le_of_lt Nat.and_le_right (by decide)
theorem hash_Sum_sp (s : Bs) (hs : s.length ≤ 1099511627776) : SpF Tryz.prog 198 [vS s] (vS (shaB s)) := by
 have hpl := padB_len s
 have hbu : blocksN s ≤ 17179869185 := by unfold blocksN; omega
 have hb1 : 1 ≤ blocksN s := by unfold blocksN; omega
 obtain ⟨N, hN⟩ : ∃ N, N = blocksN s := ⟨_, rfl⟩
 obtain ⟨p, hp⟩ : ∃ p, p = padB s := ⟨_, rfl⟩
 have hsha : shaB s = (sumsW p h0W N).list.flatMap hexW := by rw [hN, hp]; rfl
 have hpd := hash_padded_sp s hs
 rw [← hN] at hpl hbu hb1 hpd
 rw [← hp] at hpl hpd
 have hpv : (vUs p).length = 64 * N := by simp [vUs, hpl]
 refine Sp.body (n := 39) Tryz.call198 Tryz.func198 rfl rfl rfl ?_
 refine Qc (k:=Vv (k:=Wq (Qc (k:=?_))))
 refine wo_pv (pv_buildA (vs := [_, _, _, _, _]) Tryz.underlying95 ti94 rfl rfl rfl ti95 rfl rfl) rfl ?_
 refine Zc [.int .u32 0, .int .u32 0, .int .u32 0, .int .u32 0, .int .u32 0] (k:=fun b3 => Zp (k:=Wq (Za (k:=Qc (k:=Vv (k:=?_))))))
 refine r_callX hpd rfl rfl rfl (fun g _ => ?_)
 refine Vv (k:=Wq (Zb (k:=?_)))
 refine p_loop (fun (i : { x : Nat × Option Addr // x.1 ≤ N ∧ (x.1 < N → x.2 = some ⟨g, 64 * x.1, none⟩) ∧ ∀ b, x.2 = some b → b.spot = none }) => [(3, .pointer (some ⟨b3, 0, none⟩)), (4, .slice i.1.2 (64 * N - 64 * i.1.1) (64 * N - 64 * i.1.1))]) (fun (i : { x : Nat × Option Addr // x.1 ≤ N ∧ (x.1 < N → x.2 = some ⟨g, 64 * x.1, none⟩) ∧ ∀ b, x.2 = some b → b.spot = none }) => [Ce b3 95 ((sumsW p h0W i.1.1).list.map vW), Ce g 5 (vUs p)]) (fun (i : { x : Nat × Option Addr // x.1 ≤ N ∧ (x.1 < N → x.2 = some ⟨g, 64 * x.1, none⟩) ∧ ∀ b, x.2 = some b → b.spot = none }) => N - i.1.1) rfl (⟨(0, some ⟨g, 0, none⟩), Nat.zero_le _, fun _ => rfl, fun b e => by cases e; rfl⟩) ?_ ?_ (fun i => ?_)
 · exact ⟨rfl, rfl, trivial⟩
 ·
  exact ent_step (ce_norm (by rfl) (by rfl)) ent_pick
 obtain ⟨⟨i, ad⟩, hi, had, hsp⟩ := i
 dsimp only at hi had hsp ⊢
 try dsimp only
 refine Za (k:=Qc (k:=Qv (k:=Vv (k:=Wq (Zi (t:=fun h14 => ?_) (f:=fun h14 => ?_))))))
 ·
  refine Zk (k:=Ya (Za (k:=Zb (k:=?_))))
  have hiN : i < N := by omega
  have hal := had hiN
  subst hal
  have hvt : vUs ((p.drop (64 * i)).take 64) = ((vUs p).drop (64 * i)).take 64 := by simp [vUs, List.map_take, List.map_drop]
  refine Zr (k:=Vv (k:=?_))
  refine wo_pv (pv_slslice_tom (m := 64) Tryz.underlying56 ti5 rfl rfl rfl (by omega)) rfl ?_
  refine r_call1 (hash_take_sp (B := Ce g 5 (vUs p)) b3 (64 * N - 64 * i) (sumsW p h0W i) ((p.drop (64 * i)).take 64) (by rw [List.length_take, List.length_drop]; omega) (by rw [hvt]; exact sla_ceAt (64 * i) 64)) rfl rfl rfl ?_
  refine Wn (Yb (Ya (Zr (k:=Vv (k:=?_)))))
  refine wo_pv (pv_slslice_froma (m := 64) (kk := 64) Tryz.underlying56 ti5 rfl rfl rfl rfl rfl (by omega) (Nat.le_refl _) hsp) rfl ?_
  refine Vv (k:=Wn ?_)
  refine to_inv ⟨(i + 1, fromA (some ⟨g, 64 * i, none⟩) 64 (64 * N - 64 * i) 64), by dsimp only; omega, fun h => ?_, fun b e => ?_⟩ (by dsimp only; omega) ⟨rfl, ?_, trivial⟩ ?_
  · dsimp only at h ⊢
    rw [fromA, if_pos (by omega)]
    simp only [elemA]
    congr 2
  · dsimp only at e
    unfold fromA at e
    split at e
    · simp only [elemA, Option.some.injEq] at e; subst e; rfl
    · exact hsp b e
  · dsimp only
    show some (Value.slice _ _ _) = some (Value.slice _ _ _)
    rw [show 64 * N - 64 * i - 64 = 64 * N - 64 * (i + 1) from by omega]
  · dsimp only
    rw [show sumsW p h0W (i + 1) = takeW (sumsW p h0W i) ((p.drop (64 * i)).take 64) from rfl]
    exact ent_pick
 ·
  refine Ze (k:=Xa (Xi (Xb (Ya (Za (k:=?_))))))
  have hiN : i = N := by omega
  subst hiN
  obtain ⟨hl, hhl⟩ : ∃ hl, hl = (sumsW p h0W i).list := ⟨_, rfl⟩
  have hl5 : hl.length = 5 := by rw [hhl]; rfl
  have hag : (Value.agg #[vW (sumsW p h0W i).a, vW (sumsW p h0W i).b, vW (sumsW p h0W i).c, vW (sumsW p h0W i).d, vW (sumsW p h0W i).e]) = .agg (hl.map vW).toArray := by rw [hhl]; rfl
  rw [← hhl] at hsha
  refine Zr (k:=Vv (k:=Wq (Za (k:=Qc (k:=Zm [_, _, _, _, _] (k:=Vv (k:=Wq (Zb (k:=?_)))))))))
  refine p_loop (fun (i : { x : (Option Addr × Nat) × Nat // x.2 ≤ 5 }) => [(5, .slice i.1.1.1 (8 * i.1.2) i.1.1.2), (20, .agg (hl.map vW).toArray), (21, vI i.1.2)]) (fun (i : { x : (Option Addr × Nat) × Nat // x.2 ≤ 5 }) => [Row 5 1 (.slice i.1.1.1 (8 * i.1.2) i.1.1.2) (8 * i.1.2) (vUs ((hl.take i.1.2).flatMap hexW))]) (fun (i : { x : (Option Addr × Nat) × Nat // x.2 ≤ 5 }) => 5 - i.1.2) rfl (⟨((none, 0), 0), Nat.zero_le _⟩) ?_ ?_ (fun i => ?_)
  · exact ⟨rfl, by subst hhl; rfl, rfl, trivial⟩
  ·
   exact ent_step row_nil ent_nil
  obtain ⟨⟨⟨a1, c1⟩, m⟩, hm⟩ := i
  dsimp only at hm ⊢
  try dsimp only
  refine Qc (k:=Vv (k:=Wq (Za (k:=Zi (t:=fun h22 => ?_) (f:=fun h22 => ?_)))))
  ·
   refine Zk (k:=Ya (Za (k:=Zb (k:=Qc (k:=?_)))))
   refine wo_pv (pv_aidx Tryz.underlying95 Tryz.underlying94 ti94 rfl rfl rfl rfl rfl (by omega) (vW_getD (m := m) (by omega))) rfl ?_
   refine Vv (k:=Wq (Za (k:=?_)))
   obtain ⟨x, hx⟩ : ∃ x, x = hl.getD m 0 := ⟨_, rfl⟩
   rw [← hx]
   obtain ⟨xs, hxs⟩ : ∃ xs, xs = (hl.take m).flatMap hexW := ⟨_, rfl⟩
   rw [← hxs]
   refine Zr (k:=Vv (k:=Wq (Zb (k:=?_))))
   refine p_loop (fun (i : { y : (Option Addr × Nat) × Nat // y.2 ≤ 8 }) => [(5, .slice i.1.1.1 (8 * m + i.1.2) i.1.1.2), (7, vW x), (8, vI (28 - 4 * i.1.2)), (20, .agg (hl.map vW).toArray), (21, vI m)]) (fun (i : { y : (Option Addr × Nat) × Nat // y.2 ≤ 8 }) => [Row 5 1 (.slice i.1.1.1 (8 * m + i.1.2) i.1.1.2) (8 * m + i.1.2) (vUs (xs ++ hexP x i.1.2))]) (fun (i : { y : (Option Addr × Nat) × Nat // y.2 ≤ 8 }) => 8 - i.1.2) rfl (⟨((a1, c1), 0), Nat.zero_le _⟩) ?_ ?_ (fun i => ?_)
   · exact ⟨rfl, rfl, rfl, rfl, rfl, trivial⟩
   ·
    dsimp only
    rw [show hexP x 0 = [] from rfl, List.append_nil]
    exact ent_pick
   obtain ⟨⟨⟨a2, c2⟩, j⟩, hj⟩ := i
   dsimp only at hj ⊢
   try dsimp only
   refine Za (k:=Qc (k:=Qv (k:=Wq (Zi (t:=fun h25 => ?_) (f:=fun h25 => ?_)))))
   ·
    refine Zk (k:=Ya (Za (k:=Zb (k:=Zr (k:=Qv (k:=Vv (k:=?_)))))))
    refine wo_pv (pv_shrW (m := 28 - 4 * j) rfl rfl (by omega) (by omega)) rfl ?_
    refine wo_pv (pv_andW (b := 15) rfl rfl) rfl ?_
    refine wo_pv (pv_indexm (l := hexD) (m := ((x >>> UInt32.ofNat (28 - 4 * j)) &&& 15).toNat) Tryz.underlying9 rfl rfl rfl (show _ < 16 from and15 _)) rfl ?_
    refine Zv [_] (cs := [_]) (k:=fun b34 => ?_)
    refine r_append1 (sz := 1) (bytes := 1) Tryz.underlying56 ti5 rfl rfl rfl rfl rfl rfl rfl (by rfl) (by rfl) (by omega) (by simp only [maxLen]; omega) rfl (fun a35 c35 => ?_)
    refine Vv (k:=Wn (Yb (Ya (Zr (k:=Qv (k:=Vv (k:=Wn ?_)))))))
    refine to_inv ⟨((a35, c35), j + 1), by dsimp only; omega⟩ (by dsimp only; omega) ⟨rfl, rfl, vI_eq (by dsimp only; omega), rfl, rfl, trivial⟩ ?_
    dsimp only
    refine row_norm1 (by omega) ?_
    rw [hexP_succ, ← List.append_assoc]
    simp [vUs]
   ·
    refine Ze (k:=Xa (Xi (Xb (Yb (Ya (Zr (k:=Qv (k:=Wn ?_))))))))
    have hj8 : j = 8 := by omega
    subst hj8
    have hml : m < hl.length := by omega
    have hxe : xs ++ hexP x 8 = (hl.take (m + 1)).flatMap hexW := by
     rw [List.take_succ_eq_append_getElem hml, List.flatMap_append, ← hxs]
     have : x = hl[m] := by rw [hx]; simp [hml]
     rw [this]; simp [hexW, hexP]
    refine to_inv ⟨((a2, c2), m + 1), by dsimp only; omega⟩ (by dsimp only; omega) ⟨sl_eq (by dsimp only; omega), rfl, rfl, trivial⟩ ?_
    dsimp only
    rw [← hxe]
    exact ent_pick
  ·
   refine Ze (k:=Xa (Xi (Xb (Ya (Za (k:=?_))))))
   have hm5 : m = 5 := by omega
   subst hm5
   rw [List.take_of_length_le (by omega), ← hsha]
   refine Zr (k:=Vv (k:=?_))
   refine wo_row (fun h => by simp at h) (fun gg cap cur e1 e2 e3 e4 e5 e6 => ?_)
   cases e1
   refine r_b2s (l := shaB s) Tryz.underlying56 Tryz.underlying9 Tryz.underlying5 rfl (by simpa using e6) (by omega) rfl ?_
   refine Vv (k:=Wq (Zt (k:=?_)))
   refine fin_ret () (vs := [_]) (Cs := []) rfl (.tmp rfl .nil) rfl trivial ?_
   exact ent_nil
end
section
set_option maxRecDepth 100000
def isN (s : Bs) : Bool := decide (s.length = 40 ∧ ∀ c ∈ s, c ∈ hexD)
theorem isN_sha (s : Bs) : isN (shaB s) = true := decide_eq_true ⟨shaB_len s, shaB_mem s⟩
theorem index_neg {l : Bs} {c : UInt8} : Lib.indexByte l c < 0 ↔ c ∉ l := by
 rw [indexByte_find]
 cases h : l.findIdx? (· == c) with
 | none =>
   rw [List.findIdx?_eq_none_iff] at h
   simp only [Int.reduceNeg, Int.reduceLT, true_iff]
   intro hm
   have := h c hm
   simp at this
 | some i =>
   have h1 := List.findIdx?_eq_some_iff_getElem.1 h
   obtain ⟨hi, h2, _⟩ := h1
   have : l[i] = c := by simpa using h2
   constructor
   · intro h; dsimp only at h; omega
   · intro hm; exact absurd (this ▸ List.getElem_mem hi) hm
theorem hash_Is_sp (s : Bs) (hs : s.length ≤ 9223372036854775807) : SpF Tryz.prog 207 [vS s] (vB (isN s)) := by
 refine Sp.body (n := 18) Tryz.call207 Tryz.func207 rfl rfl rfl ?_
 refine Qc (k:=Vv (k:=Wq (Za (k:=Qc (k:=Qv (k:=Vv (k:=Wq (Zb (k:=?_)))))))))
 refine p_loop (fun (i : { j : Nat // j ≤ s.length ∧ ∀ i (h : i < s.length), i < j → s[i] ∈ hexD }) => [(0, vS s), (5, vI s.length), (6, vI i.1)]) (fun (i : { j : Nat // j ≤ s.length ∧ ∀ i (h : i < s.length), i < j → s[i] ∈ hexD }) => []) (fun (i : { j : Nat // j ≤ s.length ∧ ∀ i (h : i < s.length), i < j → s[i] ∈ hexD }) => s.length - i.1) rfl (⟨0, Nat.zero_le _, fun i h1 h2 => by omega⟩) ?_ ?_ (fun i => ?_)
 · exact ⟨rfl, rfl, rfl, trivial⟩
 ·
  exact ent_pick
 obtain ⟨j, hj, hin⟩ := i
 dsimp only
 try dsimp only
 refine Qc (k:=Vv (k:=Wq (Za (k:=Zi (t:=fun h7 => ?_) (f:=fun h7 => ?_)))))
 ·
  refine Zk (k:=Ya (Za (k:=Zb (k:=Qc (k:=Qv (k:=Wq (Za (k:=?_))))))))
  have hjl : j < s.length := by omega
  have hg : ((s.getD j 0).toNat : Int).toNat.toUInt8 = s[j] := by
   have : s.getD j 0 = s[j] := by simp [hjl]
   rw [this]; simp
  refine Zr (k:=Qv (k:=Vv (k:=?_)))
  refine r_callF (IndexByte_sp hexD ((s.getD j 0).toNat : Int)) rfl rfl rfl ?_
  refine Vv (k:=Wq (Zi (t:=fun h13 => ?_) (f:=fun h13 => ?_)))
  ·
   refine Qc (k:=Vv (k:=Wq (Zt (k:=Vb (Va (Vi (Vb (Va ?_))))))))
   have hc : s[j] ∉ hexD := by
    have := index_neg.1 h13
    rw [hg] at this; exact this
   refine fin_ret () (vs := [_]) (Cs := []) rfl (.tmp rfl .nil) ?_ trivial ent_nil
   have : isN s = false := decide_eq_false (fun ⟨_, h⟩ => hc (h _ (List.getElem_mem hjl)))
   rw [this]; rfl
  ·
   refine Zk (k:=Yb (Ya (Zr (k:=Qv (k:=Wn ?_)))))
   refine to_inv ⟨j + 1, by omega, fun i hi h => ?_⟩ (by dsimp only; omega) ⟨rfl, rfl, rfl, trivial⟩ ent_nil
   by_cases he : i = j
   · subst he
     have := h13
     rw [index_neg, hg] at this
     exact Classical.not_not.1 this
   · exact hin i hi (by omega)
 ·
  refine Ze (k:=Xa (Xi (Xb (Ya (Qc (k:=Qv (k:=Qv (k:=Wq ?_))))))))
  refine Zt (k:=?_)
  refine fin_ret () (vs := [_]) (Cs := []) rfl (.tmp rfl .nil) ?_ trivial ent_nil
  have hall : ∀ c ∈ s, c ∈ hexD := fun c hc => by
   obtain ⟨i, hi, rfl⟩ := List.getElem_of_mem hc
   exact hin i hi (by omega)
  show vB _ = vB _
  congr 1
  rw [isN]
  exact decide_eq_decide.2 ⟨fun h => ⟨by omega, hall⟩, fun h => by omega⟩
end
section
set_option maxRecDepth 100000
theorem WriteByte_sp (p : Nat) (l : List UInt8) (c : UInt8) (h : l.length + 1 ≤ 140737488355328) : Sp1 Tryz.prog 156 [.pointer (some ⟨p, 0, none⟩), vU c.toNat] [IsB p l] .nilIface [IsB p (l ++ [c])] := by
 refine Sp.body (n := 17) Tryz.call156 Tryz.func156 rfl rfl rfl ?_
 refine wc_exi fun q1 => wc_exi fun q2 => wc_al (wc_pu fun hq => ?_)
 refine Qc (k:=Vv (k:=Wq (Qc (k:=Vv (k:=?_)))))
 refine r_call1 (copyCheck_sp p q1 q2 hq.1) rfl rfl rfl ?_
 refine Wq (Qc (k:=Qv (k:=Vv (k:=Qx 1 56 (k:=Vv (k:=Zv [_] (cs := [_]) (k:=fun b13 => ?_)))))))
 refine r_append1 (sz := 1) (bytes := 1) Tryz.underlying56 ti5 rfl rfl rfl rfl rfl rfl rfl (by rfl) (by rfl) (by omega) (by simp only [maxLen]; omega) rfl (fun a14 c14 => ?_)
 refine Vv (k:=Vf 1 56 (k:=?_))
 refine r_store ti56 rfl rfl rfl rfl (by simp) ?_
 refine Wq (Qc (k:=Vv (k:=Wq (Zt (k:=?_)))))
 refine fin_ret () (vs := [_]) (Cs := []) rfl (.tmp rfl .nil) rfl trivial ?_
 refine ent_ex (.pointer (some ⟨p, 0, none⟩)) ?_
 refine ent_ex (.slice a14 (l.length + 1) c14) ?_
 refine ent_al ?_
 have e1 : (l ++ [c]).length = l.length + 1 := List.length_append
 have e2 : vUs (l ++ [c]) = vUs l ++ [vU c.toNat] := by simp [vUs]
 rw [e1, e2]
 refine ent_pu ⟨.inr rfl, fun e => by omega⟩ ent_pick
theorem zb163next0 {G : Prop} (h : G := by
    refine to_inv ⟨j + 1, by omega⟩ (by dsimp only; omega) ⟨rfl, rfl, rfl, rfl, trivial⟩ ?_
    dsimp only
    rw [hsu]
    exact ent_pick) : G := h
theorem escape_Put_sp (s : Bs) (hs : s.length ≤ 1099511627776) : SpF Tryz.prog 163 [vS s] (vS (escB s)) := by
 refine Sp.body (n := 28) Tryz.call163 Tryz.func163 rfl rfl rfl ?_
 refine Qc (k:=Vv (k:=Wq (Qc (k:=Zc [.pointer none, .slice none 0 0] (k:=fun b3 => ?_)))))
 refine wo_ent' (fold_newB (p := b3) (by rfl) (by rfl) (by rfl)) ?_
 refine Wq (Za (k:=Qc (k:=Qv (k:=Vv (k:=Wq (Zb (k:=?_)))))))
 refine p_loop (fun (i : { j : Nat // j ≤ s.length }) => [(0, vS s), (3, .pointer (some ⟨b3, 0, none⟩)), (6, vI s.length), (7, vI i.1)]) (fun (i : { j : Nat // j ≤ s.length }) => [IsB b3 (escB (s.take i.1))]) (fun (i : { j : Nat // j ≤ s.length }) => s.length - i.1) rfl (⟨0, Nat.zero_le _⟩) ?_ ?_ (fun i => ?_)
 · exact ⟨rfl, rfl, rfl, rfl, trivial⟩
 ·
  exact Ent.refl _
 obtain ⟨j, hj⟩ := i
 dsimp only
 try dsimp only
 refine Qc (k:=Vv (k:=Wq (Za (k:=Zi (t:=fun h8 => ?_) (f:=fun h8 => ?_)))))
 ·
  refine Zk (k:=Ya (Za (k:=Zb (k:=Za (k:=?_)))))
  have hjl : j < s.length := by omega
  have htl := (escB_len (s.take j)).2
  rw [List.length_take] at htl
  have hsu : escB (s.take (j + 1)) = escB (s.take j) ++ escC (s.getD j 0) := by
   rw [List.take_succ_eq_append_getElem hjl, escB_app]; simp [escB, hjl]
  refine Zr (k:=Qv (k:=Wq (Qc (k:=Qv (k:=Vv (k:=Wq (Zb (k:=Za (k:=?_)))))))))
  refine Zr (k:=Qv (k:=Wq (Zi (t:=fun h17 => ?_) (f:=fun h17 => ?_))))
  ·
   refine Zr (k:=?_)
   refine r_call1 (WriteString_sp b3 (escB (s.take j)) [92, 115] (by simp only [List.length_cons, List.length_nil]; omega)) rfl rfl rfl ?_
   rw [escC, if_pos (by omega)] at hsu
   refine Wn (Yb (Yb (Ya (Zr (k:=Qv (k:=Wn ?_))))))
   exact zb163next0
  ·
   refine Qc (k:=Qv (k:=Wq (Zi (t:=fun h20 => ?_) (f:=fun h20 => ?_))))
   ·
    refine Zr (k:=?_)
    refine r_call1 (WriteString_sp b3 (escB (s.take j)) [92, 110] (by simp only [List.length_cons, List.length_nil]; omega)) rfl rfl rfl ?_
    rw [escC, if_neg (by omega), if_pos (by omega)] at hsu
    refine Wn (Yb (Yb (Ya (Zr (k:=Qv (k:=Wn ?_))))))
    exact zb163next0
   ·
    refine Qc (k:=Qv (k:=Wq (Zi (t:=fun h23 => ?_) (f:=fun h23 => ?_))))
    ·
     refine Zr (k:=?_)
     refine r_call1 (WriteString_sp b3 (escB (s.take j)) [92, 92] (by simp only [List.length_cons, List.length_nil]; omega)) rfl rfl rfl ?_
     rw [escC, if_neg (by omega), if_neg (by omega), if_pos (by omega)] at hsu
     refine Wn (Yb (Yb (Ya (Zr (k:=Qv (k:=Wn ?_))))))
     exact zb163next0
    ·
     refine Zr (k:=Qv (k:=Vv (k:=?_)))
     refine r_call1 (WriteByte_sp b3 (escB (s.take j)) (s.getD j 0) (by omega)) rfl rfl rfl ?_
     rw [escC, if_neg (by omega), if_neg (by omega), if_neg (by omega)] at hsu
     refine Wn (Yb (Yb (Ya (Zr (k:=Qv (k:=Wn ?_))))))
     exact zb163next0
 ·
  refine Ze (k:=Xa (Xi (Xb (Ya (Za (k:=?_))))))
  have hjl : j = s.length := by omega
  subst hjl
  rw [List.take_length]
  refine Zr (k:=?_)
  refine r_call1 (String_sp b3 (escB s) (by have := (escB_len s).2; omega)) rfl rfl rfl ?_
  refine Vv (k:=Wq (Zt (k:=?_)))
  refine fin_ret () (vs := [_]) (Cs := []) rfl (.tmp rfl .nil) rfl trivial ?_
  exact ent_nil
theorem zb50next0 {G : Prop} (h : G := by refine to_inv ⟨j + 1, by omega⟩ (by dsimp only; omega) ⟨rfl, by rw [hsu]; rfl, rfl, trivial⟩ ent_nil) : G := h
theorem ref10_Escape_sp (s : Bs) (hs : s.length ≤ 1099511627776) : SpF Tryz.prog 50 [vS s] (vS (escB s)) := by
 refine Sp.body (n := 34) Tryz.call50 Tryz.func50 rfl rfl rfl ?_
 refine Qc (k:=Vv (k:=Wq (Qc (k:=Vv (k:=Wq (Za (k:=Qc (k:=Vv (k:=?_)))))))))
 refine Wq (Zb (k:=?_))
 refine p_loop (fun (i : { j : Nat // j ≤ s.length }) => [(0, vS s), (3, vS (escB (s.take i.1))), (4, vI i.1)]) (fun (i : { j : Nat // j ≤ s.length }) => []) (fun (i : { j : Nat // j ≤ s.length }) => s.length - i.1) rfl (⟨0, Nat.zero_le _⟩) ?_ ?_ (fun i => ?_)
 · exact ⟨rfl, rfl, rfl, trivial⟩
 ·
  exact ent_nil
 obtain ⟨j, hj⟩ := i
 dsimp only
 have htl := (escB_len (s.take j)).2
 rw [List.length_take] at htl
 try dsimp only
 refine Za (k:=Qc (k:=Qv (k:=Qv (k:=Wq (Zi (t:=fun h8 => ?_) (f:=fun h8 => ?_))))))
 ·
  refine Zk (k:=Ya (Za (k:=Zb (k:=Za (k:=?_)))))
  have hjl : j < s.length := by omega
  have hsu : escB (s.take (j + 1)) = escB (s.take j) ++ escC (s.getD j 0) := by
   rw [List.take_succ_eq_append_getElem hjl, escB_app]; simp [escB, hjl]
  refine Zr (k:=Qv (k:=Vv (k:=Wq (Zb (k:=Qc (k:=Qv (k:=Wq (Zi (t:=fun h21 => ?_) (f:=fun h21 => ?_)))))))))
  ·
   rw [escC, if_pos (by omega)] at hsu
   refine Zr (k:=Qv (k:=Vv (k:=Wn (Yb (Yb (Ya (Zr (k:=Qv (k:=Vv (k:=?_))))))))))
   refine Wn ?_
   exact zb50next0
  ·
   refine Qc (k:=Qv (k:=Wq (Zi (t:=fun h25 => ?_) (f:=fun h25 => ?_))))
   ·
    rw [escC, if_neg (by omega), if_pos (by omega)] at hsu
    refine Zr (k:=Qv (k:=Vv (k:=Wn (Yb (Yb (Ya (Zr (k:=Qv (k:=Vv (k:=?_))))))))))
    refine Wn ?_
    exact zb50next0
   ·
    refine Qc (k:=Qv (k:=Wq (Zi (t:=fun h29 => ?_) (f:=fun h29 => ?_))))
    ·
     rw [escC, if_neg (by omega), if_neg (by omega), if_pos (by omega)] at hsu
     refine Zr (k:=Qv (k:=Vv (k:=Wn (Yb (Yb (Ya (Zr (k:=Qv (k:=Vv (k:=?_))))))))))
     refine Wn ?_
     exact zb50next0
    ·
     rw [escC, if_neg (by omega), if_neg (by omega), if_neg (by omega)] at hsu
     refine Zr (k:=Qv (k:=Qv (k:=Vv (k:=?_))))
     refine wo_pv (pv_slice_inm (m := j) (o := j + 1) Tryz.underlying9 rfl rfl rfl rfl (by omega) (by omega) (by omega)) rfl ?_
     have hone : (s.drop j).take (j + 1 - j) = [s.getD j 0] := by
      rw [drop_cons' hjl, show j + 1 - j = 1 from by omega]; rfl
     rw [hone]
     refine Qv (k:=Wn (Yb (Yb (Ya (Zr (k:=Qv (k:=Vv (k:=Wn ?_))))))))
     exact zb50next0
 ·
  refine Ze (k:=Xa (Xi (Xb (Ya (Qc (k:=Qv (k:=Wq (Zt (k:=?_)))))))))
  have hjl : j = s.length := by omega
  subst hjl
  rw [List.take_length]
  exact fin_ret () (vs := [_]) (Cs := []) rfl (.tmp rfl .nil) rfl trivial ent_nil
/-- What a word reads as. -/
def unV (s : Bs) : Value := .tuple #[vS ((unescB s).getD []), vB (unescB s).isSome]
theorem map_map_app {x : Option Bs} {a b : Bs} : (x.map (b ++ ·)).map (a ++ ·) = x.map ((a ++ b) ++ ·) := by cases x <;> simp
theorem map_nil_app (x : Option Bs) : x = x.map ([] ++ ·) := by cases x <;> rfl
theorem unesc_len : ∀ (n : Nat) (s t : Bs), s.length ≤ n → unescB s = some t → t.length ≤ s.length := by
 intro n
 induction n with
 | zero =>
   intro s t hs h
   have : s = [] := List.eq_nil_of_length_eq_zero (by omega)
   subst this
   cases h; simp
 | succ n ih =>
   intro s t hs h
   cases s with
   | nil => cases h; simp
   | cons c r =>
     simp only [List.length_cons] at hs ⊢
     rw [unescB_eq] at h
     split at h
     · split at h
       · cases h
       · rename_i d r'
         simp only [List.length_cons] at hs ⊢
         split at h
         · cases h
         · cases e : unescB r' with
           | none => rw [e] at h; cases h
           | some u =>
             rw [e] at h
             cases h
             have := ih r' u (by omega) e
             simp only [List.length_cons]; omega
     · split at h
       · cases h
       · cases e : unescB r with
         | none => rw [e] at h; cases h
         | some u =>
           rw [e] at h
           cases h
           have := ih r u (by omega) e
           simp only [List.length_cons]; omega
theorem unescB_len {s t : Bs} (h : unescB s = some t) : t.length ≤ s.length := unesc_len _ s t (Nat.le_refl _) h
theorem un_plain {s : Bs} {i : Nat} (h : i < s.length) (h1 : (s.getD i 0).toNat ≠ 92) (h2 : (s.getD i 0).toNat ≠ 32) (h3 : (s.getD i 0).toNat ≠ 10) : unescB (s.drop i) = (unescB (s.drop (i + 1))).map ([s.getD i 0] ++ ·) := by
 rw [drop_cons' h, unescB_eq, if_neg h1, if_neg (by omega)]; rfl
theorem un_bad {s : Bs} {i : Nat} (h : i < s.length) (h1 : (s.getD i 0).toNat ≠ 92) (h2 : (s.getD i 0).toNat = 32 ∨ (s.getD i 0).toNat = 10) : unescB (s.drop i) = none := by
 rw [drop_cons' h, unescB_eq, if_neg h1, if_pos h2]
theorem un_last {s : Bs} {i : Nat} (h : i < s.length) (h1 : (s.getD i 0).toNat = 92) (h2 : i + 1 = s.length) : unescB (s.drop i) = none := by
 rw [drop_cons' h, unescB_eq, if_pos h1, h2, List.drop_length]
theorem un_two {s : Bs} {i : Nat} (h : i < s.length) (h1 : (s.getD i 0).toNat = 92) (h2 : i + 1 < s.length) : unescB (s.drop i) = match unC (s.getD (i + 1) 0) with | none => none | some e => (unescB (s.drop (i + 2))).map ([e] ++ ·) := by
 rw [drop_cons' h, unescB_eq, if_pos h1, drop_cons' h2]
 rfl
theorem zb107next0 {G : Prop} (h : G := by
    rw [map_map_app] at hu
    first
    | exact to_inv ⟨(_, j + 1), by dsimp only; omega, by dsimp only; rw [List.length_append]; simp only [List.length_singleton]; omega, hu⟩ (by dsimp only; omega) ⟨rfl, rfl, rfl, trivial⟩ ent_pick
    | exact to_inv ⟨(_, j + 2), by dsimp only; omega, by dsimp only; rw [List.length_append]; simp only [List.length_singleton]; omega, hu⟩ (by dsimp only; omega) ⟨rfl, rfl, vI_eq (by dsimp only; omega), trivial⟩ ent_pick) : G := h
theorem zb107ret18 {G : Prop} (h : G := by
    rw [un_bad hjl (by omega) (by omega)] at hu
    refine fin_ret () (vs := [_, _]) (Cs := []) rfl (.tmp rfl (.tmp rfl .nil)) ?_ trivial ent_nil
    rw [unV, hu]; rfl) : G := h
theorem escape_Read_sp (s : Bs) (hs : s.length ≤ 1099511627776) : SpF Tryz.prog 107 [vS s] (unV s) := by
 refine Sp.body (n := 42) Tryz.call107 Tryz.func107 rfl rfl rfl ?_
 refine Qc (k:=Qv (k:=Wq (Qc (k:=Zc [.pointer none, .slice none 0 0] (k:=fun b4 => ?_)))))
 refine wo_ent' (fold_newB (p := b4) (by rfl) (by rfl) (by rfl)) ?_
 refine Wq (Za (k:=Qc (k:=Vv (k:=Wq (Zb (k:=?_))))))
 refine p_loop (fun (i : { x : Bs × Nat // x.2 ≤ s.length ∧ x.1.length ≤ x.2 ∧ unescB s = (unescB (s.drop x.2)).map (x.1 ++ ·) }) => [(0, vS s), (4, .pointer (some ⟨b4, 0, none⟩)), (5, vI i.1.2)]) (fun (i : { x : Bs × Nat // x.2 ≤ s.length ∧ x.1.length ≤ x.2 ∧ unescB s = (unescB (s.drop x.2)).map (x.1 ++ ·) }) => [IsB b4 i.1.1]) (fun (i : { x : Bs × Nat // x.2 ≤ s.length ∧ x.1.length ≤ x.2 ∧ unescB s = (unescB (s.drop x.2)).map (x.1 ++ ·) }) => s.length - i.1.2) rfl (⟨([], 0), Nat.zero_le _, Nat.zero_le _, map_nil_app (unescB s)⟩) ?_ ?_ (fun i => ?_)
 · exact ⟨rfl, rfl, rfl, trivial⟩
 ·
  exact Ent.refl _
 obtain ⟨⟨out, j⟩, hj, hol, hu⟩ := i
 dsimp only at hj hol hu ⊢
 try dsimp only
 refine Za (k:=Qc (k:=Qv (k:=Qv (k:=Wq (Zi (t:=fun h10 => ?_) (f:=fun h10 => ?_))))))
 ·
  refine Zk (k:=Ya (Za (k:=Zb (k:=Za (k:=?_)))))
  have hjl : j < s.length := by omega
  refine Zr (k:=Qv (k:=Qv (k:=Wq (Za (k:=Qc (k:=Qv (k:=Wq ?_)))))))
  refine Zi (t:=fun h17 => ?_) (f:=fun h17 => ?_)
  ·
   refine Za (k:=Qc (k:=Qv (k:=Vv (k:=Wq (Qc (k:=Qv (k:=Vv (k:=?_))))))))
   refine Vv (k:=Wq (Zi (t:=fun h23 => ?_) (f:=fun h23 => ?_)))
   ·
    refine Qc (k:=Qv (k:=Wq (Zt (k:=Va (Va (Vb (Va (Vi (Vb ?_)))))))))
    refine Va ?_
    rw [un_last hjl (by omega) (by omega)] at hu
    refine fin_ret () (vs := [_, _]) (Cs := []) rfl (.tmp rfl (.tmp rfl .nil)) ?_ trivial ent_nil
    rw [unV, hu]; rfl
   ·
    refine Zk (k:=Ya (Za (k:=?_)))
    have hj1 : j + 1 < s.length := by omega
    rw [un_two hjl (by omega) hj1] at hu
    refine Zr (k:=Qv (k:=?_))
    refine wo_pv (pv_indexm (m := j + 1) Tryz.underlying9 rfl rfl (by omega) (by omega)) rfl ?_
    refine Wq (Zb (k:=Qc (k:=Qv (k:=Wq (Zi (t:=fun h27 => ?_) (f:=fun h27 => ?_))))))
    ·
     rw [unC, if_pos (by omega)] at hu
     refine Zr (k:=Vv (k:=Wn (Yb (Ya (Zr (k:=Vv (k:=?_)))))))
     first
     | (rw [un_plain hjl (by omega) (by omega) (by omega)] at hu
        refine r_call1 (WriteByte_sp b4 out (s.getD j 0) (by omega)) rfl rfl rfl ?_)
     | refine r_call1 (WriteByte_sp b4 out 32 (by omega)) rfl rfl rfl ?_
     | refine r_call1 (WriteByte_sp b4 out 10 (by omega)) rfl rfl rfl ?_
     | (rw [hc92]; refine r_call1 (WriteByte_sp b4 out 92 (by omega)) rfl rfl rfl ?_)
     refine Wn (Yb (Ya (Zr (k:=Qv (k:=Vv (k:=Wn ?_))))))
     exact zb107next0
    ·
     refine Qc (k:=Qv (k:=Wq (Zi (t:=fun h29 => ?_) (f:=fun h29 => ?_))))
     ·
      rw [unC, if_neg (by omega), if_pos (by omega)] at hu
      refine Zr (k:=Vv (k:=Wn (Yb (Ya (Zr (k:=Vv (k:=?_)))))))
      first
      | (rw [un_plain hjl (by omega) (by omega) (by omega)] at hu
         refine r_call1 (WriteByte_sp b4 out (s.getD j 0) (by omega)) rfl rfl rfl ?_)
      | refine r_call1 (WriteByte_sp b4 out 32 (by omega)) rfl rfl rfl ?_
      | refine r_call1 (WriteByte_sp b4 out 10 (by omega)) rfl rfl rfl ?_
      | (rw [hc92]; refine r_call1 (WriteByte_sp b4 out 92 (by omega)) rfl rfl rfl ?_)
      refine Wn (Yb (Ya (Zr (k:=Qv (k:=Vv (k:=Wn ?_))))))
      exact zb107next0
     ·
      refine Qc (k:=Qv (k:=Wq (Zi (t:=fun h31 => ?_) (f:=fun h31 => ?_))))
      ·
       rw [unC, if_neg (by omega), if_neg (by omega), if_pos (by omega)] at hu
       have hc92 : s.getD j 0 = 92 := u8eq.2 (show _ = 92 by omega)
       refine Zk (k:=Yb (Ya (Zr (k:=Vv (k:=?_)))))
       first
       | (rw [un_plain hjl (by omega) (by omega) (by omega)] at hu
          refine r_call1 (WriteByte_sp b4 out (s.getD j 0) (by omega)) rfl rfl rfl ?_)
       | refine r_call1 (WriteByte_sp b4 out 32 (by omega)) rfl rfl rfl ?_
       | refine r_call1 (WriteByte_sp b4 out 10 (by omega)) rfl rfl rfl ?_
       | (rw [hc92]; refine r_call1 (WriteByte_sp b4 out 92 (by omega)) rfl rfl rfl ?_)
       refine Wn (Yb (Ya (Zr (k:=Qv (k:=Vv (k:=Wn ?_))))))
       exact zb107next0
      ·
       refine Qc (k:=Qv (k:=Wq (Zt (k:=Vb (Va (Vb (Va (Vi (Vb ?_)))))))))
       refine Va ?_
       rw [unC, if_neg (by omega), if_neg (by omega), if_neg (by omega)] at hu
       refine fin_ret () (vs := [_, _]) (Cs := []) rfl (.tmp rfl (.tmp rfl .nil)) ?_ trivial ent_nil
       rw [unV, hu]; rfl
  ·
   refine Qc (k:=Qv (k:=Vv (k:=Gi 2 (t:=fun h35 => ?_) (f:=fun h35 => ?_))))
   ·
    refine O1 (k:=O1 (k:=P1 (k:=Wq (Z1 (k:=Qc (k:=Qv (k:=Wq (Zt (k:=Va ?_)))))))))
    refine Vb (Va (Vi (Vb (Va ?_))))
    exact zb107ret18
   ·
    refine J0 (k:=J0 (k:=P0 (k:=Wq (Zi (t:=fun h38 => ?_) (f:=fun h38 => ?_)))))
    ·
     refine Qc (k:=Qv (k:=Wq (Zt (k:=Va (Vb (Va (Vi (Vb (Va ?_)))))))))
     exact zb107ret18
    ·
     refine Zk (k:=Ya (Zr (k:=Vv (k:=?_))))
     first
     | (rw [un_plain hjl (by omega) (by omega) (by omega)] at hu
        refine r_call1 (WriteByte_sp b4 out (s.getD j 0) (by omega)) rfl rfl rfl ?_)
     | refine r_call1 (WriteByte_sp b4 out 32 (by omega)) rfl rfl rfl ?_
     | refine r_call1 (WriteByte_sp b4 out 10 (by omega)) rfl rfl rfl ?_
     | (rw [hc92]; refine r_call1 (WriteByte_sp b4 out 92 (by omega)) rfl rfl rfl ?_)
     refine Wn (Yb (Ya (Zr (k:=Qv (k:=Vv (k:=Wn ?_))))))
     exact zb107next0
 ·
  refine Ze (k:=Xa (Xi (Xb (Ya (Za (k:=?_))))))
  have hjl : j = s.length := by omega
  subst hjl
  rw [unescB_end (Nat.le_refl _)] at hu
  simp only [Option.map_some, List.append_nil] at hu
  refine Zr (k:=?_)
  refine r_call1 (String_sp b4 out (by omega)) rfl rfl rfl ?_
  refine Qv (k:=Wq (Zt (k:=?_)))
  refine fin_ret () (vs := [_, _]) (Cs := []) rfl (.tmp rfl (.tmp rfl .nil)) ?_ trivial ent_nil
  rw [unV, hu]; rfl
theorem word_not {s : Bs} {j : Nat} (h : j < s.length) (hb : (s.getD j 0).toNat ≤ 32 ∨ 126 < (s.getD j 0).toNat ∨ (s.getD j 0).toNat = 92) : ¬ wordP s := by
 rintro ⟨h1, _⟩
 have := h1 (s.getD j 0) (by simp [h])
 omega
theorem word_all {s : Bs} (h : ∀ i, i < s.length → 32 < (s.getD i 0).toNat ∧ (s.getD i 0).toNat ≤ 126 ∧ (s.getD i 0).toNat ≠ 92) : wordP s ↔ 1 ≤ s.length ∧ s.length ≤ 12 :=
 ⟨fun x => x.2, fun x => ⟨fun c hc => by obtain ⟨i, hi, rfl⟩ := mem_getD (d := 0) hc; exact h i hi, x⟩⟩
theorem zb212ret5 {G : Prop} (h : G := by
    have hn := word_not hjl (by omega)
    refine fin_ret () (vs := [_]) (Cs := []) rfl (.tmp rfl .nil) ?_ trivial ent_nil
    rw [decide_eq_false hn]; rfl) : G := h
theorem zb212ret7 {G : Prop} (h : G := by
    refine fin_ret () (vs := [_]) (Cs := []) rfl (.tmp rfl .nil) ?_ trivial ent_nil
    show vB _ = vB _
    congr 1
    first
    | (have hp := List.length_pos_iff.2 h28
       refine decide_eq_decide.2 (Iff.trans ?_ hall.symm)
       constructor <;> intro h <;> omega)
    | (have hp : s = [] := by simpa using h28
       exact (decide_eq_false (fun h => by have := (hall.1 h).1; rw [hp] at this; simp at this)).symm)) : G := h
theorem escape_Word_sp (s : Bs) (hs : s.length ≤ 9223372036854775807) : SpF Tryz.prog 212 [vS s] (vB (decide (wordP s))) := by
 refine Sp.body (n := 33) Tryz.call212 Tryz.func212 rfl rfl rfl ?_
 refine Qc (k:=Vv (k:=Wq (Za (k:=Qc (k:=Qv (k:=Vv (k:=Wq (Zb (k:=?_)))))))))
 refine p_loop (fun (i : { j : Nat // j ≤ s.length ∧ ∀ i, i < j → 32 < (s.getD i 0).toNat ∧ (s.getD i 0).toNat ≤ 126 ∧ (s.getD i 0).toNat ≠ 92 }) => [(0, vS s), (5, vI s.length), (6, vI i.1)]) (fun (i : { j : Nat // j ≤ s.length ∧ ∀ i, i < j → 32 < (s.getD i 0).toNat ∧ (s.getD i 0).toNat ≤ 126 ∧ (s.getD i 0).toNat ≠ 92 }) => []) (fun (i : { j : Nat // j ≤ s.length ∧ ∀ i, i < j → 32 < (s.getD i 0).toNat ∧ (s.getD i 0).toNat ≤ 126 ∧ (s.getD i 0).toNat ≠ 92 }) => s.length - i.1) rfl (⟨0, Nat.zero_le _, fun i h => by omega⟩) ?_ ?_ (fun i => ?_)
 · exact ⟨rfl, rfl, rfl, trivial⟩
 ·
  exact ent_pick
 obtain ⟨j, hj, hin⟩ := i
 dsimp only
 try dsimp only
 refine Qc (k:=Vv (k:=Wq (Za (k:=Zi (t:=fun h7 => ?_) (f:=fun h7 => ?_)))))
 ·
  refine Zk (k:=Ya (Za (k:=Zb (k:=Qc (k:=Qv (k:=Wq (Za (k:=?_))))))))
  have hjl : j < s.length := by omega
  refine Zr (k:=Qv (k:=Qv (k:=Vv (k:=Gi 4 (t:=fun h13 => ?_) (f:=fun h13 => ?_)))))
  ·
   refine O1 (k:=O1 (k:=O1 (k:=O1 (k:=P1 (k:=Vv (k:=O1 (k:=O1 (k:=O1 (k:=O1 (k:=P1 (k:=Wq ?_)))))))))))
   refine Z1 (k:=Qc (k:=Vv (k:=Wq (Zt (k:=Vb (Va (Vi (Vb (Va ?_)))))))))
   exact zb212ret5
  ·
   refine J0 (k:=J0 (k:=J0 (k:=J0 (k:=P0 (k:=Vv (k:=Gi 10 (t:=fun h19 => ?_) (f:=fun h19 => ?_)))))))
   ·
    refine O1 (k:=O1 (k:=O1 (k:=O1 (k:=P1 (k:=Wq (Z1 (k:=Qc (k:=Vv (k:=Wq (Zt (k:=?_)))))))))))
    refine Vb (Va (Vi (Vb (Va ?_))))
    exact zb212ret5
   ·
    refine J0 (k:=J0 (k:=J0 (k:=J0 (k:=P0 (k:=Wq (Zi (t:=fun h24 => ?_) (f:=fun h24 => ?_)))))))
    ·
     refine Qc (k:=Vv (k:=Wq (Zt (k:=Vb (Va (Vi (Vb (Va ?_))))))))
     exact zb212ret5
    ·
     refine Zk (k:=Yb (Ya (Zr (k:=Qv (k:=Wn ?_)))))
     refine to_inv ⟨j + 1, by omega, fun i hi => ?_⟩ (by dsimp only; omega) ⟨rfl, rfl, rfl, trivial⟩ ent_nil
     by_cases he : i = j
     · subst he; omega
     · exact hin i (by omega)
 ·
  refine Ze (k:=Xa (Xi (Xb (Ya (Za (k:=?_))))))
  have hall := word_all (s := s) fun i hi => hin i (by omega)
  refine Zr (k:=Qv (k:=Vv (k:=Gi 2 (t:=fun h28 => ?_) (f:=fun h28 => ?_))))
  ·
   refine J1 (k:=J1 (k:=J1 (k:=P1 (k:=Vv (k:=Wq (Zt (k:=?_)))))))
   exact zb212ret7
  ·
   refine O0 (k:=O0 (k:=O0 (k:=P0 (k:=Vv (k:=Wq (Zt (k:=?_)))))))
   exact zb212ret7
theorem Index_one_sp (l : List UInt8) (c : UInt8) : SpF Tryz.prog 225 [vS l, vS [c]] (vI (Lib.indexByte l c)) :=
 SpF.of_same Tryz.call225 fun w => Tryz.stringslite_Index_one ⟨⟨l⟩⟩ c w
theorem Contains_one_sp (l : List UInt8) (c : UInt8) : SpF Tryz.prog 226 [vS l, vS [c]] (vB (decide (c ∈ l))) := by
 have e : decide (0 ≤ Lib.indexByte l c) = decide (c ∈ l) := decide_eq_decide.2 ⟨fun h => Classical.byContradiction fun hn => by have := index_neg.2 hn; omega, fun h => Classical.byContradiction fun hn => index_neg.1 (by omega) h⟩
 rw [← e]
 exact SpF.of_same Tryz.call226 fun w => Tryz.strings_Contains_one ⟨⟨l⟩⟩ c w
theorem TrimPrefix_sp (l p : List UInt8) : SpF Tryz.prog 108 [vS l, vS p] (vS (Lib.trimPrefix l p)) :=
 SpF.of_same Tryz.call108 fun w => Tryz.strings_TrimPrefix ⟨⟨l⟩⟩ ⟨⟨p⟩⟩ w
def cutV (d : UInt8) (s : Bs) : Value := .tuple #[vS (cutP d s).1, vS (cutP d s).2.1, vB (cutP d s).2.2]
theorem cutP_index (d : UInt8) (s : Bs) : (Lib.indexByte s d < 0 ∧ cutP d s = (s, [], false)) ∨ ∃ i : Nat, Lib.indexByte s d = (i : Int) ∧ i < s.length ∧ cutP d s = (s.take i, s.drop (i + 1), true) := by
 rw [indexByte_find]
 unfold cutP
 cases h : s.findIdx? (· == d) with
 | none => exact .inl ⟨by decide, rfl⟩
 | some i => exact .inr ⟨i, rfl, (List.findIdx?_eq_some_iff_getElem.1 h).1, rfl⟩
theorem liteCut_sp (s : Bs) (d : UInt8) (hs : s.length ≤ 1099511627776) : SpF Tryz.prog 199 [vS s, vS [d]] (cutV d s) := by
 have hx := index_neg (l := s) (c := d)
 have hc := cutP_index d s
 have hd1 : ([d] : Bs).length = 1 := rfl
 refine Sp.body (n := 23) Tryz.call199 Tryz.func199 rfl rfl rfl ?_
 refine Qc (k:=Qv (k:=Vv (k:=Wq (Za (k:=Qc (k:=Qv (k:=?_)))))))
 refine r_callF (Index_one_sp s d) rfl rfl rfl ?_
 refine Vv (k:=Wq (Qc (k:=Qv (k:=Wq (Zi (t:=fun h12 => ?_) (f:=fun h12 => ?_))))))
 ·
  obtain ⟨i, hi, hil, hcut⟩ := hc.resolve_left (fun h => by omega)
  rw [hi]
  refine Za (k:=Dw [] (k:=?_))
  refine Dv 0 (k:=Dv 1 (k:=?_))
  refine d_first 2 rfl rfl rfl (by kernel_rfl) (by kernel_rfl) (tl_pv (pv_slice_tom (m := i) Tryz.underlying9 rfl rfl rfl (by omega))) ?_
  refine Dv 3 (k:=Dv 4 (k:=Dv 5 (k:=Dv 6 (k:=Dv 7 (k:=?_)))))
  refine d_first 8 rfl rfl rfl (by kernel_rfl) (by kernel_rfl) (tl_pv (pv_slice_fromm (m := i + 1) Tryz.underlying9 rfl rfl rfl (by omega))) ?_
  refine Dv 9 (k:=Dv 10 (k:=Dv 11 (k:=Dd (k:=Ya (Zt (k:=Va ?_))))))
  refine fin_ret () (vs := [_, _, _]) (Cs := []) rfl (.tmp rfl (.tmp rfl (.tmp rfl .nil))) ?_ trivial ent_nil
  rw [cutV, hcut]; rfl
 ·
  refine Zk (k:=Ya (Qc (k:=Qv (k:=Qv (k:=Wq (Zt (k:=?_)))))))
  refine fin_ret () (vs := [_, _, _]) (Cs := []) rfl (.tmp rfl (.tmp rfl (.tmp rfl .nil))) ?_ trivial ent_nil
  rcases hc with ⟨_, hc⟩ | ⟨i, hi, _, _⟩
  · rw [cutV, hc]; rfl
  · omega
theorem Cut_sp (s : Bs) (d : UInt8) (hs : s.length ≤ 1099511627776) : SpF Tryz.prog 153 [vS s, vS [d]] (cutV d s) := by
 refine Sp.body (n := 13) Tryz.call153 Tryz.func153 rfl rfl rfl ?_
 refine Qc (k:=Qv (k:=Vv (k:=Wq (Qc (k:=Qv (k:=?_))))))
 refine r_callF (liteCut_sp s d hs) rfl rfl rfl ?_
 refine wo_pv (pv_extract (v := vS (cutP d s).1) rfl rfl) rfl ?_
 refine Qv (k:=Qv (k:=Vv (k:=Wq (Zt (k:=?_)))))
 exact fin_ret () (vs := [_, _, _]) (Cs := []) rfl (.tmp rfl (.tmp rfl (.tmp rfl .nil))) rfl trivial ent_nil
/-! Words that blanks part. -/
theorem escape_Words_sp (s : Bs) : Sp Tryz.prog 154 [vS s] [] (X := Nat) (fun b => .func (.func 200) #[] #[.pointer (some ⟨b, 0, none⟩)]) (fun _ => True) (fun b => [Ce b 9 [vS s]]) := by
 refine Sp.body (n := 4) Tryz.call154 Tryz.func154 rfl rfl rfl ?_
 refine Qc (k:=Zx [_] (k:=fun b1 => Vv (k:=Wq (Qc (k:=Qv (k:=Wq (Zt (k:=?_))))))))
 refine fin_ret b1 (vs := [_]) (Cs := []) rfl (.tmp rfl .nil) rfl trivial ?_
 exact ent_pick
abbrev okW (s : Bs) : List Bs → Bs → Prop := fun pre w => ∃ r, splitB 32 s = pre ++ w :: r
abbrev stopW (s : Bs) : List Bs → Prop := fun pre => ∃ r, splitB 32 s = pre ++ r
theorem zb200ret {G : Prop} (h : G := by
    first
    | (refine fin_ret (some (pre ++ [w])) (vs := []) (Cs := []) rfl .nil rfl (fun p e => by cases e; obtain ⟨r, hr⟩ := hc1; exact ⟨r, by rw [hpre, hr]; simp⟩) ?_
       simp only [endsAt]
       exact ent_pick)
    | (have hall : splitB 32 s = pre ++ [w] := by rw [hpre, hc2 (by simpa using h19)]
       refine fin_ret none (vs := []) (Cs := []) rfl .nil rfl (fun p e => by cases e) ?_
       simp only [endsAt]
       rw [hall]
       exact ent_pick)) : G := h
theorem escape_Words_it (s : Bs) (hs : s.length ≤ 1099511627776) (b : Nat) :
    Iter Tryz.prog 200 [.pointer (some ⟨b, 0, none⟩)] (fun w : Bs => [vS w]) (okW s) (stopW s) [Ce b 9 [vS s]] [] (splitB 32 s) (fun _ => .tuple #[]) := by
 intro y J Jx ys
 refine Sp.body (n := 21) Tryz.call200 Tryz.func200 rfl rfl rfl ?_
 refine Zb (k:=?_)
 refine p_loop (fun (i : { x : List Bs × Bs // splitB 32 s = x.1 ++ splitB 32 x.2 ∧ x.2.length ≤ s.length }) => [(0, y), (1, .pointer (some ⟨b, 0, none⟩))]) (fun (i : { x : List Bs × Bs // splitB 32 s = x.1 ++ splitB 32 x.2 ∧ x.2.length ≤ s.length }) => [J i.1.1, Ce b 9 [vS i.1.2]]) (fun (i : { x : List Bs × Bs // splitB 32 s = x.1 ++ splitB 32 x.2 ∧ x.2.length ≤ s.length }) => i.1.2.length) rfl (⟨([], s), rfl, Nat.le_refl _⟩) ?_ ?_ (fun i => ?_)
 · exact ⟨rfl, rfl, trivial⟩
 ·
  exact Ent.refl _
 obtain ⟨⟨pre, t⟩, hpre, htl⟩ := i
 dsimp only at hpre htl ⊢
 try dsimp only
 refine Zb (k:=Za (k:=?_))
 have hcc : (∃ r, splitB 32 t = (cutP 32 t).1 :: r) ∧ ((cutP 32 t).2.2 = false → splitB 32 t = [(cutP 32 t).1]) ∧ ((cutP 32 t).2.2 = true → splitB 32 t = (cutP 32 t).1 :: splitB 32 (cutP 32 t).2.1 ∧ (cutP 32 t).2.1.length < t.length) := by
  rcases cutP_cases 32 t with ⟨hn, hc⟩ | ⟨x, r, he, hn, hc⟩
  · rw [hc, splitB_one hn]
    refine ⟨⟨[], rfl⟩, fun _ => rfl, ?_⟩
    intro h; cases h
  · rw [hc, he, splitB_cut hn]
    refine ⟨⟨_, rfl⟩, ?_, ?_⟩
    · intro h; cases h
    · intro _
      refine ⟨rfl, ?_⟩
      simp; omega
 generalize hw : (cutP 32 t).1 = w at hcc
 generalize hr : (cutP 32 t).2.1 = rest at hcc
 generalize hm : (cutP 32 t).2.2 = more at hcc
 obtain ⟨hc1, hc2, hc3⟩ := hcc
 refine Zr (k:=Zd (k:=?_))
 refine r_callF (Cut_sp t 32 (by omega)) rfl rfl rfl ?_
 rw [cutV]
 rw [hw, hr, hm]
 refine Vv (k:=?_)
 refine wo_pv (pv_extract (v := vS w) rfl rfl) rfl ?_
 refine wo_pv (pv_extract (v := vS rest) rfl rfl) rfl ?_
 refine wo_pv (pv_extract (v := vB more) rfl rfl) rfl ?_
 refine Qv (k:=Vv (k:=Wq (Za (k:=Qc (k:=Qv (k:=?_))))))
 refine r_yield ys pre w (by obtain ⟨r, hr⟩ := hc1; exact ⟨r, by rw [hpre, hr]⟩) rfl rfl rfl ?_ ?_
 ·
  refine Qv (k:=J0 (k:=J0 (k:=P0 (k:=Wq (Zi (t:=fun h19 => ?_) (f:=fun h19 => ?_))))))
  ·
   refine Zt (k:=Va (Vb (Vi (Vb ?_))))
   exact zb200ret
  ·
   refine Zk (k:=Ya (Zr (k:=Vv (k:=Zo (k:=Wn (Yb ?_))))))
   obtain ⟨h1, h2⟩ := hc3 (by simp_all)
   refine to_inv ⟨(pre ++ [w], rest), ?_, ?_⟩ ?_ ⟨rfl, rfl, trivial⟩ ent_pick
   · dsimp only; rw [hpre, h1]; simp
   · dsimp only; omega
   · dsimp only; omega
 ·
  refine Qv (k:=O1 (k:=O1 (k:=P1 (k:=Wq (Z1 (k:=Zt (k:=Va (Vb (Vi (Vb ?_))))))))))
  exact zb200ret
end
section
set_option maxRecDepth 100000
section
variable {r : Option Nat} {P : Program} {n : Nat} {ops : Array Oper} {os : List Oper} {A : List HP} {L : Loc} {Hs : List HP} {Q : Out} {ty : TypeId} {d : Nat} {pos : String} {after : Array Edge}
theorem opt_mkNoZero {dst : Option Tmp} {g : FuncId} {fn : Func} {x : Operand} {m : Nat} {t e it : TypeId} {ts : Array TypeId} (hf : P.funcs[g]? = some fn) (hname : (fn.name == "runtime.NumGoroutine") = false)
    (hb : fn.body.isNone = true) (hn : Extern.findNext fn = none) (he : Extern.find fn = some (Extern.BytealgMakeNoZero.makeNoZero #[it] #[t])) (ht : P.underlying t = some (.slice e)) (hx : ev L x = some (vI (m : Int))) (hm : m ≤ 140737488355328) :
    OpT r P n ⟨dst, .call ⟨.value (.func g), #[x], ts⟩, ty, pos, after, none⟩ A L [] (fun x : Nat × List Value => .slice (some ⟨x.1, 0, none⟩) m x.2.length) (fun x => m ≤ x.2.length ∧ x.2.length ≤ maxLen) (fun x => [Ce x.1 e x.2]) := by
 intro a fr w M h hA hfr dj dj' s sA t'
 obtain ⟨cs, hr, h1, h2⟩ := Lib.run_makeNoZero (P := P) w #[it] t e ht m (by omega)
 have hrun : (execOp a.eval ⟨dst, .call ⟨.value (.func g), #[x], ts⟩, ty, pos, after, none⟩).run P w = .ok (.value (.slice (some ⟨w.heap.size, 0, none⟩) m cs.size)) (w.drew.drew.alloc (.cells cs e)) := by
  simp only [execOp, resolve, Act.eval, Deferred.ofValue, Sem.run_bind, Sem.run_pure, Result.andThen_ok, invoke]
  have hq := run_callFunc_extern hf hname hb hn he #[vI (m : Int)] w
  have ha : a.eval x = vI (m : Int) := fr.ev hx
  simp only [Array.append_empty, Array.empty_append, List.map_toArray, List.map_cons, List.map_nil, ha]
  rw [hq, hr]; rfl
 rw [hrun]
 have t2 := t'.drew.drew.alloc (.cells cs e)
 obtain ⟨f1, f2⟩ := fresh_none t'.drew.drew
 obtain ⟨f3, f4⟩ := Res.add_none.1 f2
 obtain ⟨f5, f6⟩ := Res.add_none.1 f3
 replace f4 : hfr w.heap.size = none := f4
 replace f5 : h w.heap.size = none := f5
 replace f6 : hA w.heap.size = none := f6
 obtain ⟨d1, d2⟩ := Res.dj_add_left.1 dj'
 refine ⟨(w.heap.size, cs.toList), M, Res.one w.heap.size (.cells cs e), by simp, ⟨by simpa using h1, by simpa using h2 (by simp only [maxLen]; omega)⟩, Kn.le_refl _, one_dj f6, Res.dj_add_left.2 ⟨one_dj f4, d2⟩, ?_, Res.one w.heap.size (.cells cs e), Res.emp, Res.dj_emp _, (Res.add_emp _).symm, by show _ = Res.one _ _; simp, trivial⟩
 refine t2.le ?_
 intro i o e'
 simp only [Res.add] at e' ⊢
 show (match Res.one w.heap.size _ i with | some o => some o | none => _) = _
 cases e1 : Res.one w.heap.size (Obj.cells cs e) i with
 | some u => rw [e1] at e'; simpa using e'
 | none =>
   rw [e1] at e'
   cases e2 : hA i with
   | some u =>
     rw [e2] at e'
     rcases dj i with y | y
     · rw [y]; simpa using e'
     · rw [y] at e2; cases e2
   | none =>
     rw [e2] at e'
     have e3 : hfr i = some o := by simpa using e'
     rcases d1 i with y | y
     · rw [y]; simpa using e3
     · rw [y] at e3; cases e3
theorem pv_copy0 {x y : Operand} {dT sT e : TypeId} {i : TypeInfo} {a : Option Addr} {c : Nat} (hu : P.underlying dT = some (.slice e)) (hs : P.underlying sT = some (.slice e)) (hi : P.info? e = some i)
    (hx : ev L x = some (.slice a 0 c)) (hy : ev L y = some (.slice none 0 0)) : PV P n L (.call ⟨.builtin .copy, #[x, y], #[dT, sT]⟩) ty (vI 0) :=
 ⟨by intro c; simp, fun ac f w _ _ _ _ => by
  cases a <;> simp [execOp, resolve, f.ev hx, f.ev hy, invoke, builtin, Builtin.copy_, run_underlying hu, run_underlying hs, sizeOf, typeInfo, program, Sem.run, hi, storeCells, Builtin.firstCells, Builtin.lenOf] <;> rfl⟩
end
/-- A Builder that holds nothing yet, and has room. -/
def IsBG (p : Nat) : HP := Ex fun q : Nat × Nat => Al [Ce p 225 [.pointer (some ⟨p, 0, none⟩), .slice (some ⟨q.1, 0, none⟩) 0 q.2], Row 5 1 (.slice (some ⟨q.1, 0, none⟩) 0 q.2) 0 []]
theorem Builder_grow_sp (p m : Nat) (hm : m ≤ 140737488355328) : Sp1 Tryz.prog 242 [.pointer (some ⟨p, 0, none⟩), vI m] [Ce p 225 [.pointer (some ⟨p, 0, none⟩), .slice none 0 0]] (.tuple #[]) [IsBG p] := by
 refine Sp.body (n := 30) Tryz.call242 Tryz.func242 rfl rfl rfl ?_
 refine Za (k:=Dw [Ce p 225 [.pointer (some ⟨p, 0, none⟩), .slice none 0 0]] (k:=?_))
 refine Dv 0 (k:=Dv 1 (k:=Di 2 (t:=Uf 1 56) (k:=Di 3 (t:=Ul) (k:=Dv 4 (k:=Dv 5 (k:=Dv 6 (k:=Dv 7 (k:=Dv 9 (k:=Dv 10 (k:=Di 11 (t:=Uf 1 56) (k:=Di 12 (t:=Ul) (k:=?_))))))))))))
 refine Dv 13 (k:=Dn 8 (k:=?_))
 refine an_opT (opt_mkNoZero (m := m) (e := 5) Tryz.func247 (by kernel_rfl) (by kernel_rfl) (by kernel_rfl) (it := 3) (t := 56) (by kernel_rfl) Tryz.underlying56 (vI_eq (by omega)) hm) rfl (fun x13 hx13 => ?_)
 obtain ⟨g, cs⟩ := x13
 obtain ⟨hx1, hx2⟩ := hx13
 dsimp only at hx1 hx2
 dsimp only
 refine d_first 14 rfl rfl rfl (by kernel_rfl) (by kernel_rfl) (tl_pv (pv_slslice_tom (m := 0) Tryz.underlying56 ti5 rfl rfl rfl (Nat.zero_le _))) ?_
 refine Dv 15 (k:=Dd (k:=Ya (Qc (k:=Qv (k:=Vv (k:=Qx 1 56 (k:=?_)))))))
 refine wo_pv (pv_copy0 Tryz.underlying56 Tryz.underlying56 ti5 rfl rfl) rfl ?_
 refine Wq (Zr (k:=Qv (k:=Vv (k:=Vf 1 56 (k:=?_)))))
 refine r_store ti56 rfl rfl rfl rfl (by simp) ?_
 refine Wn ?_
 refine fin_end () (vs := []) (Cs := []) rfl .nil rfl trivial ?_
 refine ent_ex (g, cs.length) ?_
 refine ent_al ?_
 exact (ent_row (k := 0) (cap := cs.length) (sz := 1) (e := 5) (g := g) (xs := []) (cur := cs) (Nat.zero_le _) hx2 (Nat.mul_one _).symm rfl rfl).trans ent_pick
theorem Builder_Grow_sp (p m : Nat) (h0 : 0 < m) (hm : m ≤ 140737488355328) : Sp1 Tryz.prog 227 [.pointer (some ⟨p, 0, none⟩), vI m] [Ce p 225 [.pointer none, .slice none 0 0]] (.tuple #[]) [IsBG p] := by
 refine Sp.body (n := 25) Tryz.call227 Tryz.func227 rfl rfl rfl ?_
 refine Qc (k:=Vv (k:=?_))
 refine r_call1 (copyCheck_nil p (.slice none 0 0)) rfl rfl rfl ?_
 refine Wq (Za (k:=Qc (k:=Qv (k:=Wq (Zi (t:=fun h7 => ?_) (f:=fun h7 => ?_))))))
 ·
  omega
  --done
 ·
  refine Zk (k:=Ya (Za (k:=Dw [Ce p 225 [.pointer (some ⟨p, 0, none⟩), .slice none 0 0]] (k:=?_))))
  refine Dv 0 (k:=Dv 1 (k:=Di 2 (t:=Uf 1 56) (k:=Di 3 (t:=Ul) (k:=Dv 4 (k:=Dv 5 (k:=Dv 6 (k:=Di 7 (t:=Uf 1 56) (k:=Di 8 (t:=Ul) (k:=Dv 9 (k:=Dv 10 (k:=Dv 11 (k:=?_))))))))))))
  refine Dv 12 (k:=Dd (k:=Ya (Zi (t:=fun h21 => ?_) (f:=fun h21 => ?_))))
  ·
   refine Zr (k:=Qv (k:=?_))
   refine r_call1 (Builder_grow_sp p m hm) rfl rfl rfl ?_
   refine Wn ?_
   refine fin_end () (vs := []) (Cs := []) rfl .nil rfl trivial ?_
   exact ent_pick
  ·
   omega
   --done
theorem WriteStringG_sp (p : Nat) (s : List UInt8) (hs : s ≠ []) (h : s.length ≤ 140737488355328) : Sp1 Tryz.prog 202 [.pointer (some ⟨p, 0, none⟩), vS s] [IsBG p] (.tuple #[vI s.length, .nilIface]) [IsB p s] := by
 have hp := List.length_pos_iff.2 hs
 refine Sp.body (n := 19) Tryz.call202 Tryz.func202 rfl rfl rfl ?_
 refine wc_exi fun q => wc_al ?_
 obtain ⟨g, cap⟩ := q
 dsimp only
 refine Qc (k:=Qv (k:=Wq (Qc (k:=Vv (k:=?_)))))
 refine r_call1 (copyCheck_own p (.slice (some ⟨g, 0, none⟩) 0 cap)) rfl rfl rfl ?_
 refine Wq (Qc (k:=Qv (k:=Vv (k:=Qx 1 56 (k:=Vv (k:=?_))))))
 refine wo_opT (by intro c; simp) (opt_appendS Tryz.underlying56 Tryz.underlying9 ti5 rfl rfl rfl rfl rfl (by omega) (xs := []) (k := 0)) rfl (fun x14 hx14 => ?_)
 obtain ⟨⟨a14, c14, rfl⟩, hx14⟩ := hx14
 refine Vv (k:=Vf 1 56 (k:=?_))
 refine r_store ti56 rfl rfl rfl rfl (by simp) ?_
 refine Wq (Qc (k:=Qv (k:=Qv (k:=Wq (Zt (k:=?_))))))
 refine fin_ret () (vs := [_, _]) (Cs := []) rfl (.tmp rfl (.tmp rfl .nil)) rfl trivial ?_
 refine ent_ex (.pointer (some ⟨p, 0, none⟩)) ?_
 refine ent_ex (.slice a14 (0 + s.length) c14) ?_
 refine ent_al ?_
 refine ent_pu ⟨.inr rfl, fun e => by omega⟩ ?_
 rw [Nat.zero_add, List.nil_append]
 exact ent_pick
def joinB : List Bs → Bs
 | [] => []
 | x :: r => x ++ argsB r
def sumL (l : List Bs) (j : Nat) : Nat := ((l.take j).map List.length).sum
theorem sumL_succ {l : List Bs} {j : Nat} (h : j < l.length) : sumL l (j + 1) = sumL l j + (l.getD j []).length := by
 rw [sumL, sumL, List.take_succ_eq_append_getElem h, List.map_append, List.sum_append]
 simp [h]
theorem argsB_len (l : List Bs) : (argsB l).length = l.length + sumL l l.length := by
 simp only [sumL, List.take_length]
 induction l with
 | nil => rfl
 | cons a l ih => rw [argsB_cons, List.length_cons, List.length_append, ih, List.map_cons, List.sum_cons, List.length_cons]; omega
theorem sumL_le {l : List Bs} {j : Nat} : sumL l j ≤ sumL l l.length := by
 simp only [sumL, List.take_length]
 conv => rhs; rw [← List.take_append_drop j l]
 rw [List.map_append, List.sum_append]
 omega
theorem argsB_take {l : List Bs} {j : Nat} (h : j < l.length) : argsB (l.take (j + 1)) = argsB (l.take j) ++ (32 :: l.getD j []) := by
 rw [List.take_succ_eq_append_getElem h, argsB_app]; simp [argsB, h]
set_option maxHeartbeats 1000000 in
theorem strings_Join_sp {a : Option Addr} (c : Nat) (x : Bs) (rest : List Bs) (hx : x ≠ []) (hl : rest.length ≤ 1073741824) (ht : x.length + (argsB rest).length ≤ 1099511627776) :
    Sp1 Tryz.prog 203 [.slice a (rest.length + 1) c, vS [32]] [Row 9 1 (.slice a (rest.length + 1) c) (rest.length + 1) ((x :: rest).map vS)] (vS (joinB (x :: rest))) [] := by
 have hp := List.length_pos_iff.2 hx
 obtain ⟨l, hll⟩ : ∃ l, l = x :: rest := ⟨_, rfl⟩
 have hln : l.length = rest.length + 1 := by rw [hll]; rfl
 have hal : (argsB l).length = l.length + sumL l l.length := argsB_len l
 have hal2 : (argsB l).length = 1 + (x.length + (argsB rest).length) := by rw [hll, argsB_cons, List.length_cons, List.length_append]; omega
 rw [← hll]
 have h0 : (l.map vS)[0]? = some (vS x) := by rw [hll]; rfl
 have hdr : (l.map vS).drop 1 = rest.map vS := by rw [hll]; rfl
 refine Sp.body (n := 75) Tryz.call203 Tryz.func203 rfl rfl rfl ?_
 refine wc_know (A := Row 9 1 (.slice a (rest.length + 1) c) (rest.length + 1) (l.map vS)) HasC.get row_know (fun hk => ?_)
 obtain ⟨hk1, _, hk3⟩ := hk
 refine Qc (k:=Vv (k:=Wq (Za (k:=Qc (k:=Qv (k:=Wq (Zb (k:=Za (k:=?_)))))))))
 refine Zr (k:=Qv (k:=Wq (Zi (t:=fun h13 => ?_) (f:=fun h13 => ?_))))
 ·
  omega
  --done
 ·
  refine Qc (k:=Qv (k:=Wq (Zi (t:=fun h15 => ?_) (f:=fun h15 => ?_))))
  ·
   refine Qc (k:=Vv (k:=Ye 1 (m := 0) (k:=?_)))
   refine r_eload Tryz.underlying9 rfl rfl h0 rfl ?_
   refine Vv (k:=Wq (Zt (k:=Vb (Va ?_))))
   have hr : rest = [] := List.eq_nil_of_length_eq_zero (by omega)
   refine fin_ret () (vs := [_]) (Cs := []) rfl (.tmp rfl .nil) ?_ trivial ent_nil
   rw [hll, hr, joinB, argsB_nil, List.append_nil]; rfl
  ·
   refine Zk (k:=Yb (Ya (Qc (k:=Vv (k:=Wq (Za (k:=Qc (k:=Qv (k:=?_)))))))))
   refine Vv (k:=Wq (Zi (t:=fun h22 => ?_) (f:=fun h22 => ?_)))
   ·
    refine Za (k:=Qc (k:=Qv (k:=?_)))
    rw [show (([32] : Bs).length : Int) = 1 from rfl]
    refine Qv (k:=Qv (k:=Vv (k:=Wq (Zi (t:=fun h29 => ?_) (f:=fun h29 => ?_)))))
    ·
     have hq : 2 ≤ (9223372036854775807 : Int) / (((rest.length + 1 : Nat) : Int) - 1) := Int.le_ediv_of_mul_le (by omega) (by omega)
     omega
     --done
    ·
     refine Zk (k:=Ya (Zr (k:=Qv (k:=Vv (k:=?_)))))
     rw [show (([32] : Bs).length : Int) = 1 from rfl]
     refine Qv (k:=Qv (k:=Qv (k:=Wq (Za (k:=Qc (k:=Qv (k:=?_)))))))
     refine Vv (k:=Wq (Zb (k:=?_)))
     refine p_loop (fun (i : { j : Nat // j ≤ l.length }) => [(0, .slice a (rest.length + 1) c), (1, vS [32]), (5, vI ((rest.length + sumL l i.1 : Nat) : Int)), (39, .slice a (rest.length + 1) c), (40, vI ((rest.length + 1 : Nat) : Int)), (41, vI i.1)]) (fun (i : { j : Nat // j ≤ l.length }) => [Row 9 1 (.slice a (rest.length + 1) c) (rest.length + 1) (l.map vS)]) (fun (i : { j : Nat // j ≤ l.length }) => l.length - i.1) rfl (⟨0, Nat.zero_le _⟩) ?_ ?_ (fun i => ?_)
     · exact ⟨rfl, rfl, vI_eq (by simp only [sumL, List.take_zero, List.map_nil, List.sum_nil]; omega), rfl, rfl, rfl, trivial⟩
     ·
      exact ent_pick
     obtain ⟨j, hj⟩ := i
     dsimp only
     have hsj := sumL_le (l := l) (j := j)
     try dsimp only
     refine Qc (k:=Vv (k:=Wq (Za (k:=Zi (t:=fun h42 => ?_) (f:=fun h42 => ?_)))))
     ·
      refine Zk (k:=Ya (Za (k:=Zb (k:=Za (k:=?_)))))
      have hjl : j < l.length := by omega
      have hss := sumL_succ hjl
      have hsj1 := sumL_le (l := l) (j := j + 1)
      refine Zr (k:=Ye 1 (k:=Yl (hv:=by exact get_mapD [] hjl) (k:=Vv (k:=Wq (Za (k:=Qc (k:=Qv (k:=Qv (k:=?_)))))))))
      refine Vv (k:=Wq (Zi (t:=fun h49 => ?_) (f:=fun h49 => ?_)))
      ·
       omega
       --done
      ·
       refine Zk (k:=Ya (Zr (k:=Qv (k:=Qv (k:=Vv (k:=Wn (Yb (Ya (Zr (k:=?_))))))))))
       refine Qv (k:=Wn ?_)
       refine to_inv ⟨j + 1, by omega⟩ (by dsimp only; omega) ⟨rfl, rfl, vI_eq (by dsimp only; omega), rfl, rfl, rfl, trivial⟩ ent_pick
     ·
      refine Ze (k:=Xa (Xi (Xb (Ya (Za (k:=?_))))))
      have hjl : j = l.length := by omega
      subst hjl
      refine Zr (k:=Zc [.pointer none, .slice none 0 0] (k:=fun b8 => Wq (Qc (k:=Vv (k:=?_)))))
      refine r_call1 (Builder_Grow_sp b8 (rest.length + sumL l l.length) (by omega) (by omega)) rfl rfl rfl ?_
      refine Wq (Qc (k:=Vv (k:=Ye 1 (m := 0) (k:=?_))))
      refine r_eload Tryz.underlying9 rfl rfl h0 rfl ?_
      refine r_call1 (WriteStringG_sp b8 x hx (by omega)) rfl rfl rfl ?_
      refine Wq (Za (k:=Qc (k:=Vv (k:=?_))))
      refine wo_pv (pv_slslice_froma (m := 1) (kk := 1) Tryz.underlying27 ti9 rfl rfl rfl rfl rfl (by omega) hk1 hk3) rfl ?_
      haveI hrd : RdSl (fromA a 1 c 1) (rest.map vS) [Row 9 1 (.slice a (rest.length + 1) c) (rest.length + 1) (l.map vS)] := ⟨⟨_, by rw [← hdr]; exact sla_from (m := 1) (kk := 1) (Nat.mul_one 1) (by omega), .here⟩⟩
      refine Qv (k:=Wq (Zb (k:=?_)))
      refine p_loop (fun (i : { j : Nat // j ≤ rest.length }) => [(1, vS [32]), (8, .pointer (some ⟨b8, 0, none⟩)), (63, .slice (fromA a 1 c 1) rest.length (c - 1)), (64, vI rest.length), (65, vI i.1)]) (fun (i : { j : Nat // j ≤ rest.length }) => [IsB b8 (x ++ argsB (rest.take i.1)), Row 9 1 (.slice a (rest.length + 1) c) (rest.length + 1) (l.map vS)]) (fun (i : { j : Nat // j ≤ rest.length }) => rest.length - i.1) rfl (⟨0, Nat.zero_le _⟩) ?_ ?_ (fun i => ?_)
      · exact ⟨rfl, rfl, rfl, rfl, rfl, trivial⟩
      ·
       dsimp only
       rw [List.take_zero, argsB_nil, List.append_nil]
       exact ent_pick
      obtain ⟨j, hj⟩ := i
      dsimp only
      try dsimp only
      refine Qc (k:=Vv (k:=Wq (Za (k:=Zi (t:=fun h66 => ?_) (f:=fun h66 => ?_)))))
      ·
       refine Zk (k:=Ya (Za (k:=Zb (k:=Za (k:=?_)))))
       have hjl : j < rest.length := by omega
       have hat := argsB_take hjl
       have hlt : (argsB (rest.take (j + 1))).length ≤ (argsB rest).length := by
        conv => rhs; rw [← List.take_append_drop (j + 1) rest, argsB_app, List.length_append]
        omega
       have hlt2 := congrArg List.length hat
       rw [List.length_append, List.length_cons] at hlt2
       refine Zr (k:=?_)
       refine r_elemAddr (sz := 1) Tryz.underlying27 ti9 rfl rfl rfl rfl (by omega) (by rw [List.length_map]; omega) (Nat.mul_one _) rfl ?_
       refine Yl (hv:=by exact get_mapD [] hjl) (k:=Vv (k:=Wq (Qc (k:=Vv (k:=?_)))))
       refine r_call1 (WriteString_sp b8 (x ++ argsB (rest.take j)) [32] (by rw [List.length_append, List.length_singleton]; omega)) rfl rfl rfl ?_
       refine Wq (Zr (k:=Vv (k:=?_)))
       refine r_call1 (WriteString_sp b8 (x ++ argsB (rest.take j) ++ [32]) (rest.getD j []) (by rw [List.length_append, List.length_append, List.length_singleton]; omega)) rfl rfl rfl ?_
       refine Wn (Yb (Ya (Zr (k:=Qv (k:=Wn ?_)))))
       refine to_inv ⟨j + 1, by omega⟩ (by dsimp only; omega) ⟨rfl, rfl, rfl, rfl, rfl, trivial⟩ ?_
       dsimp only
       rw [hat, show x ++ (argsB (rest.take j) ++ 32 :: rest.getD j []) = x ++ argsB (rest.take j) ++ [32] ++ rest.getD j [] from by simp]
       exact ent_pick
      ·
       refine Ze (k:=Xa (Xi (Xb (Ya (Za (k:=?_))))))
       have hjl : j = rest.length := by omega
       subst hjl
       rw [List.take_length]
       refine Zr (k:=?_)
       refine r_call1 (String_sp b8 (x ++ argsB rest) (by rw [List.length_append]; omega)) rfl rfl rfl ?_
       refine Vv (k:=Wq (Zt (k:=?_)))
       refine fin_ret () (vs := [_]) (Cs := []) rfl (.tmp rfl .nil) (by rw [hll]; rfl) trivial ent_nil
   ·
    simp at h22
    --done
end
section
/-- The memory as it is when the law begins. -/
abbrev kn (w : World) : Kn := ⟨fun b => w.heap[b]?, w⟩
abbrev At (w : World) (A : HP) : Prop := A.at_ (kn w) Res.emp
section
variable {H : Type} {enc : TypeId × Value → H} {P : Program} {w : World} {spare : Nat → Bool} {held : Bool} {fuel : Nat} {t e : TypeId} {cs : List Value} {x : DataW H × List MemPlace}
end
end
end Go.Proofs.YtdnoacgopfcpbaaGreat
