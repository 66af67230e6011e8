/- Texts of this proof, put together: SHash4, SIs. -/
import Derived.Test.YtibccdcemcgkeaaGreatQ07
import Derived.Test.YtibccdcemcgkeaaGreatQ06
set_option linter.unusedVariables false
set_option linter.unusedSimpArgs false
section
set_option maxRecDepth 100000
namespace Go.Proofs.YtibccdcemcgkeaaGreat
theorem sla_ceAt {b : Nat} {T : TypeId} {l : List Value} (off k : Nat) : SlA (Ce b T l) (some ⟨b, off, none⟩) ((l.drop off).take k) := fun x => .inr ⟨b, off, l, T, (0, 0), rfl, .inr (by have : _ = Res.one b _ := x; rw [this]; exact Res.one_same _ _), by rw [List.length_take, List.take_eq_take_iff.2]; simp⟩
def hexP (x : UInt32) (j : Nat) : Bs := (List.range j).map fun j => hexD.getD ((x >>> UInt32.ofNat (28 - 4 * j)) &&& 15).toNat 0
theorem hexP_succ (x : UInt32) (j : Nat) : hexP x (j + 1) = hexP x j ++ [hexD.getD ((x >>> UInt32.ofNat (28 - 4 * j)) &&& 15).toNat 0] := by simp [hexP, List.range_succ]
theorem hexP_len (x : UInt32) (j : Nat) : (hexP x j).length = j := by simp [hexP]
theorem and15 (x : UInt32) : (x &&& 15).toNat < 16 := by
 rw [UInt32.toNat_and]; exact Nat.lt_of_le_of_lt Nat.and_le_right (by decide)
theorem hash_Sum_sp (s : Bs) (hs : s.length ≤ 1099511627776) : SpF Tryz.prog 35 [vS s] (vS (shaB s)) := by
 have hpl := padB_len s
 have hbu : blocksN s ≤ 17179869185 := by unfold blocksN; omega
 have hb1 : 1 ≤ blocksN s := by unfold blocksN; omega
 obtain ⟨N, hN⟩ : ∃ N, N = blocksN s := ⟨_, rfl⟩
 obtain ⟨p, hp⟩ : ∃ p, p = padB s := ⟨_, rfl⟩
 have hsha : shaB s = (sumsW p h0W N).list.flatMap hexW := by rw [hN, hp]; rfl
 have hpd := hash_padded_sp s hs
 rw [← hN] at hpl hbu hb1 hpd
 rw [← hp] at hpl hpd
 have hpv : (vUs p).length = 64 * N := by simp [vUs, hpl]
 refine Sp.body (n := 39) Tryz.call35 Tryz.func35 rfl rfl rfl ?_
 refine p_seq rfl ?_
 refine p_region rfl ?_
 refine wo_pv (pv_assign rfl) rfl ?_
 refine q_seq ?_
 refine p_seq rfl ?_
 refine p_region rfl ?_
 refine wo_pv (pv_buildA (vs := [_, _, _, _, _]) Tryz.underlying103 ti102 rfl rfl rfl ti103 rfl rfl) rfl ?_
 refine wo_alloc (zs := [.int .u32 0, .int .u32 0, .int .u32 0, .int .u32 0, .int .u32 0]) ti103 rfl rfl rfl (fun b3 => ?_)
 refine r_storea ti103 rfl rfl rfl rfl (by simp; try omega) ?_
 refine q_seq ?_
 refine p_seq rfl ?_
 refine p_seq rfl ?_
 refine p_region rfl ?_
 refine wo_pv (pv_move rfl) rfl ?_
 refine r_callX hpd rfl rfl rfl (fun g _ => ?_)
 refine wo_pv (pv_assign rfl) rfl ?_
 refine q_seq ?_
 refine p_block 0 rfl ?_
 refine p_loop (fun (i : { x : Nat × Option Addr // x.1 ≤ N ∧ (x.1 < N → x.2 = some ⟨g, 64 * x.1, none⟩) ∧ ∀ b, x.2 = some b → b.spot = none }) => [(3, .pointer (some ⟨b3, 0, none⟩)), (4, .slice i.1.2 (64 * N - 64 * i.1.1) (64 * N - 64 * i.1.1))]) (fun (i : { x : Nat × Option Addr // x.1 ≤ N ∧ (x.1 < N → x.2 = some ⟨g, 64 * x.1, none⟩) ∧ ∀ b, x.2 = some b → b.spot = none }) => [Ce b3 103 ((sumsW p h0W i.1.1).list.map vW), Ce g 5 (vUs p)]) (fun (i : { x : Nat × Option Addr // x.1 ≤ N ∧ (x.1 < N → x.2 = some ⟨g, 64 * x.1, none⟩) ∧ ∀ b, x.2 = some b → b.spot = none }) => N - i.1.1) rfl (⟨(0, some ⟨g, 0, none⟩), Nat.zero_le _, fun _ => rfl, fun b e => by cases e; rfl⟩) ?_ ?_ (fun i => ?_)
 · exact ⟨rfl, rfl, trivial⟩
 ·
  exact ent_step (ce_norm (by rfl) (by rfl)) ent_pick
 obtain ⟨⟨i, ad⟩, hi, had, hsp⟩ := i
 dsimp only at hi had hsp ⊢
 try dsimp only
 refine p_seq rfl ?_
 refine p_seq rfl ?_
 refine p_region rfl ?_
 refine wo_pv (pv_move rfl) rfl ?_
 refine wo_pv (pv_call_len_sl Tryz.underlying89 rfl) rfl ?_
 refine wo_pv (pv_gtr rfl rfl) rfl ?_
 refine q_seq ?_
 first | refine p_ite rfl rfl (fun h14 => ?_) (fun h14 => ?_) | refine p_cond rfl rfl (fun h14 => ?_) (fun h14 => ?_)
 ·
  refine p_skip rfl ?_
  refine t_seq ?_
  refine p_seq rfl ?_
  refine p_block 1 rfl ?_
  have hiN : i < N := by omega
  have hal := had hiN
  subst hal
  have hvt : vUs ((p.drop (64 * i)).take 64) = ((vUs p).drop (64 * i)).take 64 := by simp [vUs, List.map_take, List.map_drop]
  refine p_region rfl ?_
  refine wo_pv (pv_move rfl) rfl ?_
  refine wo_pv (pv_slslice_tom (m := 64) Tryz.underlying89 ti5 rfl rfl rfl (by omega)) rfl ?_
  refine r_call1 (hash_take_sp (B := Ce g 5 (vUs p)) b3 (64 * N - 64 * i) (sumsW p h0W i) ((p.drop (64 * i)).take 64) (by rw [List.length_take, List.length_drop]; omega) (by rw [hvt]; exact sla_ceAt (64 * i) 64)) rfl rfl rfl ?_
  refine wo_nil ?_
  refine to_block ?_
  refine t_seq ?_
  refine p_region rfl ?_
  refine wo_pv (pv_move rfl) rfl ?_
  refine wo_pv (pv_slslice_froma (m := 64) (kk := 64) Tryz.underlying89 ti5 rfl rfl rfl rfl rfl (by omega) (Nat.le_refl _) hsp) rfl ?_
  refine wo_pv (pv_assign rfl) rfl ?_
  refine wo_nil ?_
  refine to_inv ⟨(i + 1, fromA (some ⟨g, 64 * i, none⟩) 64 (64 * N - 64 * i) 64), by dsimp only; omega, fun h => ?_, fun b e => ?_⟩ (by dsimp only; omega) ⟨rfl, ?_, trivial⟩ ?_
  · dsimp only at h ⊢
    rw [fromA, if_pos (by omega)]
    simp only [elemA]
    congr 2
  · dsimp only at e
    unfold fromA at e
    split at e
    · simp only [elemA, Option.some.injEq] at e; subst e; rfl
    · exact hsp b e
  · dsimp only
    show some (Value.slice _ _ _) = some (Value.slice _ _ _)
    rw [show 64 * N - 64 * i - 64 = 64 * N - 64 * (i + 1) from by omega]
  · dsimp only
    rw [show sumsW p h0W (i + 1) = takeW (sumsW p h0W i) ((p.drop (64 * i)).take 64) from rfl]
    exact ent_pick
 ·
  refine p_exit 0 rfl ?_
  refine t_seq_exit ?_
  refine to_inv_exit ?_
  refine to_block_here ?_
  refine t_seq ?_
  refine p_seq rfl ?_
  have hiN : i = N := by omega
  subst hiN
  obtain ⟨hl, hhl⟩ : ∃ hl, hl = (sumsW p h0W i).list := ⟨_, rfl⟩
  have hl5 : hl.length = 5 := by rw [hhl]; rfl
  have hag : (Value.agg #[vW (sumsW p h0W i).a, vW (sumsW p h0W i).b, vW (sumsW p h0W i).c, vW (sumsW p h0W i).d, vW (sumsW p h0W i).e]) = .agg (hl.map vW).toArray := by rw [hhl]; rfl
  rw [← hhl] at hsha
  refine p_region rfl ?_
  refine wo_pv (pv_assign rfl) rfl ?_
  refine q_seq ?_
  refine p_seq rfl ?_
  refine p_seq rfl ?_
  refine p_region rfl ?_
  refine r_loada (vs := [_, _, _, _, _]) Tryz.underlying103 rfl ti103 rfl (by exact Nat.le_of_ble_eq_true rfl) (by rfl) rfl ?_
  refine wo_pv (pv_move rfl) rfl ?_
  refine q_seq ?_
  refine p_block 2 rfl ?_
  refine p_loop (fun (i : { x : (Option Addr × Nat) × Nat // x.2 ≤ 5 }) => [(5, .slice i.1.1.1 (8 * i.1.2) i.1.1.2), (20, .agg (hl.map vW).toArray), (21, vI i.1.2)]) (fun (i : { x : (Option Addr × Nat) × Nat // x.2 ≤ 5 }) => [Row 5 1 (.slice i.1.1.1 (8 * i.1.2) i.1.1.2) (8 * i.1.2) (vUs ((hl.take i.1.2).flatMap hexW))]) (fun (i : { x : (Option Addr × Nat) × Nat // x.2 ≤ 5 }) => 5 - i.1.2) rfl (⟨((none, 0), 0), Nat.zero_le _⟩) ?_ ?_ (fun i => ?_)
  · exact ⟨rfl, by subst hhl; rfl, rfl, trivial⟩
  ·
   exact ent_step row_nil ent_nil
  obtain ⟨⟨⟨a1, c1⟩, m⟩, hm⟩ := i
  dsimp only at hm ⊢
  try dsimp only
  refine p_seq rfl ?_
  refine p_region rfl ?_
  refine wo_pv (pv_lss rfl rfl) rfl ?_
  refine q_seq ?_
  refine p_seq rfl ?_
  first | refine p_ite rfl rfl (fun h22 => ?_) (fun h22 => ?_) | refine p_cond rfl rfl (fun h22 => ?_) (fun h22 => ?_)
  ·
   refine p_skip rfl ?_
   refine t_seq ?_
   refine p_seq rfl ?_
   refine p_block 3 rfl ?_
   refine p_seq rfl ?_
   refine p_region rfl ?_
   refine wo_pv (pv_aidx Tryz.underlying103 Tryz.underlying102 ti102 rfl rfl rfl rfl rfl (by omega) (vW_getD (m := m) (by omega))) rfl ?_
   refine wo_pv (pv_assign rfl) rfl ?_
   refine q_seq ?_
   refine p_seq rfl ?_
   obtain ⟨x, hx⟩ : ∃ x, x = hl.getD m 0 := ⟨_, rfl⟩
   rw [← hx]
   obtain ⟨xs, hxs⟩ : ∃ xs, xs = (hl.take m).flatMap hexW := ⟨_, rfl⟩
   rw [← hxs]
   refine p_region rfl ?_
   refine wo_pv (pv_assign rfl) rfl ?_
   refine q_seq ?_
   refine p_block 4 rfl ?_
   refine p_loop (fun (i : { y : (Option Addr × Nat) × Nat // y.2 ≤ 8 }) => [(5, .slice i.1.1.1 (8 * m + i.1.2) i.1.1.2), (7, vW x), (8, vI (28 - 4 * i.1.2)), (20, .agg (hl.map vW).toArray), (21, vI m)]) (fun (i : { y : (Option Addr × Nat) × Nat // y.2 ≤ 8 }) => [Row 5 1 (.slice i.1.1.1 (8 * m + i.1.2) i.1.1.2) (8 * m + i.1.2) (vUs (xs ++ hexP x i.1.2))]) (fun (i : { y : (Option Addr × Nat) × Nat // y.2 ≤ 8 }) => 8 - i.1.2) rfl (⟨((a1, c1), 0), Nat.zero_le _⟩) ?_ ?_ (fun i => ?_)
   · exact ⟨rfl, rfl, rfl, rfl, rfl, trivial⟩
   ·
    dsimp only
    rw [show hexP x 0 = [] from rfl, List.append_nil]
    exact ent_pick
   obtain ⟨⟨⟨a2, c2⟩, j⟩, hj⟩ := i
   dsimp only at hj ⊢
   try dsimp only
   refine p_seq rfl ?_
   refine p_seq rfl ?_
   refine p_region rfl ?_
   refine wo_pv (pv_move rfl) rfl ?_
   refine wo_pv (pv_geq rfl rfl) rfl ?_
   refine q_seq ?_
   first | refine p_ite rfl rfl (fun h25 => ?_) (fun h25 => ?_) | refine p_cond rfl rfl (fun h25 => ?_) (fun h25 => ?_)
   ·
    refine p_skip rfl ?_
    refine t_seq ?_
    refine p_seq rfl ?_
    refine p_block 5 rfl ?_
    refine p_region rfl ?_
    refine wo_pv (pv_move rfl) rfl ?_
    refine wo_pv (pv_move rfl) rfl ?_
    refine wo_pv (pv_move rfl) rfl ?_
    refine wo_pv (pv_shrW (m := 28 - 4 * j) rfl rfl (by omega) (by omega)) rfl ?_
    refine wo_pv (pv_andW (b := 15) rfl rfl) rfl ?_
    refine wo_pv (pv_indexm (l := hexD) (m := ((x >>> UInt32.ofNat (28 - 4 * j)) &&& 15).toNat) Tryz.underlying9 rfl rfl rfl (show _ < 16 from and15 _)) rfl ?_
    refine r_buildSliceL [_] (cs := [_]) Tryz.underlying89 ti5 rfl rfl rfl rfl rfl rfl rfl rfl (fun b34 => ?_)
    refine r_append1 (sz := 1) (bytes := 1) Tryz.underlying89 ti5 rfl rfl rfl rfl rfl rfl rfl (by rfl) (by rfl) (by omega) (by simp only [maxLen]; omega) rfl (fun a35 c35 => ?_)
    refine wo_pv (pv_assign rfl) rfl ?_
    refine wo_nil ?_
    refine to_block ?_
    refine t_seq ?_
    refine p_region rfl ?_
    refine wo_pv (pv_move rfl) rfl ?_
    refine wo_pv (pv_sub rfl rfl (by omega)) rfl ?_
    refine wo_pv (pv_assign rfl) rfl ?_
    refine wo_nil ?_
    refine to_inv ⟨((a35, c35), j + 1), by dsimp only; omega⟩ (by dsimp only; omega) ⟨rfl, rfl, vI_eq (by dsimp only; omega), rfl, rfl, trivial⟩ ?_
    dsimp only
    refine row_norm1 (by omega) ?_
    rw [hexP_succ, ← List.append_assoc]
    simp [vUs]
   ·
    refine p_exit 4 rfl ?_
    refine t_seq_exit ?_
    refine to_inv_exit ?_
    refine to_block_here ?_
    refine to_block ?_
    refine t_seq ?_
    refine p_region rfl ?_
    refine wo_pv (pv_add rfl rfl (by omega)) rfl ?_
    refine wo_pv (pv_move rfl) rfl ?_
    refine wo_nil ?_
    have hj8 : j = 8 := by omega
    subst hj8
    have hml : m < hl.length := by omega
    have hxe : xs ++ hexP x 8 = (hl.take (m + 1)).flatMap hexW := by
     rw [List.take_succ_eq_append_getElem hml, List.flatMap_append, ← hxs]
     have : x = hl[m] := by rw [hx]; simp [hml]
     rw [this]; simp [hexW, hexP]
    refine to_inv ⟨((a2, c2), m + 1), by dsimp only; omega⟩ (by dsimp only; omega) ⟨sl_eq (by dsimp only; omega), rfl, rfl, trivial⟩ ?_
    dsimp only
    rw [← hxe]
    exact ent_pick
  ·
   refine p_exit 2 rfl ?_
   refine t_seq_exit ?_
   refine to_inv_exit ?_
   refine to_block_here ?_
   refine t_seq ?_
   refine p_seq rfl ?_
   have hm5 : m = 5 := by omega
   subst hm5
   rw [List.take_of_length_le (by omega), ← hsha]
   refine p_region rfl ?_
   refine wo_pv (pv_move rfl) rfl ?_
   refine wo_row (fun h => by simp at h) (fun gg cap cur e1 e2 e3 e4 e5 e6 => ?_)
   cases e1
   refine r_b2s (l := shaB s) Tryz.underlying89 Tryz.underlying9 Tryz.underlying5 rfl (by simpa using e6) (by omega) rfl ?_
   refine wo_pv (pv_assign rfl) rfl ?_
   refine q_seq ?_
   refine p_ret rfl ?_
   refine fin_ret () (vs := [_]) (Cs := []) rfl (.tmp rfl .nil) rfl trivial ?_
   exact ent_nil
end Go.Proofs.YtibccdcemcgkeaaGreat
end
section
set_option maxRecDepth 100000
namespace Go.Proofs.YtibccdcemcgkeaaGreat
def isN (s : Bs) : Bool := decide (s.length = 40 ∧ ∀ c ∈ s, c ∈ hexD)
theorem isN_sha (s : Bs) : isN (shaB s) = true := decide_eq_true ⟨shaB_len s, shaB_mem s⟩
theorem index_neg {l : Bs} {c : UInt8} : Lib.indexByte l c < 0 ↔ c ∉ l := by
 rw [indexByte_find]
 cases h : l.findIdx? (· == c) with
 | none =>
   rw [List.findIdx?_eq_none_iff] at h
   simp only [Int.reduceNeg, Int.reduceLT, true_iff]
   intro hm
   have := h c hm
   simp at this
 | some i =>
   have h1 := List.findIdx?_eq_some_iff_getElem.1 h
   obtain ⟨hi, h2, _⟩ := h1
   have : l[i] = c := by simpa using h2
   constructor
   · intro h; dsimp only at h; omega
   · intro hm; exact absurd (this ▸ List.getElem_mem hi) hm
theorem hash_Is_sp (s : Bs) (hs : s.length ≤ 9223372036854775807) : SpF Tryz.prog 120 [vS s] (vB (isN s)) := by
 refine Sp.body (n := 18) Tryz.call120 Tryz.func120 rfl rfl rfl ?_
 refine p_seq rfl ?_
 refine p_region rfl ?_
 refine wo_pv (pv_assign rfl) rfl ?_
 refine q_seq ?_
 refine p_seq rfl ?_
 refine p_seq rfl ?_
 refine p_region rfl ?_
 refine wo_pv (pv_move rfl) rfl ?_
 refine wo_pv (pv_call_len_s Tryz.underlying9 rfl) rfl ?_
 refine wo_pv (pv_move rfl) rfl ?_
 refine q_seq ?_
 refine p_block 0 rfl ?_
 refine p_loop (fun (i : { j : Nat // j ≤ s.length ∧ ∀ i (h : i < s.length), i < j → s[i] ∈ hexD }) => [(0, vS s), (5, vI s.length), (6, vI i.1)]) (fun (i : { j : Nat // j ≤ s.length ∧ ∀ i (h : i < s.length), i < j → s[i] ∈ hexD }) => []) (fun (i : { j : Nat // j ≤ s.length ∧ ∀ i (h : i < s.length), i < j → s[i] ∈ hexD }) => s.length - i.1) rfl (⟨0, Nat.zero_le _, fun i h1 h2 => by omega⟩) ?_ ?_ (fun i => ?_)
 · exact ⟨rfl, rfl, rfl, trivial⟩
 ·
  exact ent_pick
 obtain ⟨j, hj, hin⟩ := i
 dsimp only
 try dsimp only
 refine p_seq rfl ?_
 refine p_region rfl ?_
 refine wo_pv (pv_lss rfl rfl) rfl ?_
 refine q_seq ?_
 refine p_seq rfl ?_
 first | refine p_ite rfl rfl (fun h7 => ?_) (fun h7 => ?_) | refine p_cond rfl rfl (fun h7 => ?_) (fun h7 => ?_)
 ·
  refine p_skip rfl ?_
  refine t_seq ?_
  refine p_seq rfl ?_
  refine p_block 1 rfl ?_
  refine p_seq rfl ?_
  refine p_region rfl ?_
  refine wo_pv (pv_move rfl) rfl ?_
  refine wo_pv (pv_assign rfl) rfl ?_
  refine q_seq ?_
  refine p_seq rfl ?_
  have hjl : j < s.length := by omega
  have hg : ((s.getD j 0).toNat : Int).toNat.toUInt8 = s[j] := by
   have : s.getD j 0 = s[j] := by simp [hjl]
   rw [this]; simp
  refine p_region rfl ?_
  refine wo_pv (pv_move rfl) rfl ?_
  refine wo_pv (pv_move rfl) rfl ?_
  refine wo_pv (pv_indexm Tryz.underlying9 rfl rfl rfl (by omega)) rfl ?_
  refine r_callF (IndexByte_sp hexD ((s.getD j 0).toNat : Int)) rfl rfl rfl ?_
  refine wo_pv (pv_lss rfl rfl) rfl ?_
  refine q_seq ?_
  first | refine p_ite rfl rfl (fun h13 => ?_) (fun h13 => ?_) | refine p_cond rfl rfl (fun h13 => ?_) (fun h13 => ?_)
  ·
   refine p_seq rfl ?_
   refine p_region rfl ?_
   refine wo_pv (pv_assign rfl) rfl ?_
   refine q_seq ?_
   refine p_ret rfl ?_
   refine to_block_ret ?_
   refine t_seq_ret ?_
   refine to_inv_ret ?_
   refine to_block_ret ?_
   refine t_seq_ret ?_
   have hc : s[j] ∉ hexD := by
    have := index_neg.1 h13
    rw [hg] at this; exact this
   refine fin_ret () (vs := [_]) (Cs := []) rfl (.tmp rfl .nil) ?_ trivial ent_nil
   have : isN s = false := decide_eq_false (fun ⟨_, h⟩ => hc (h _ (List.getElem_mem hjl)))
   rw [this]; rfl
  ·
   refine p_skip rfl ?_
   refine to_block ?_
   refine t_seq ?_
   refine p_region rfl ?_
   refine wo_pv (pv_add rfl rfl (by omega)) rfl ?_
   refine wo_pv (pv_move rfl) rfl ?_
   refine wo_nil ?_
   refine to_inv ⟨j + 1, by omega, fun i hi h => ?_⟩ (by dsimp only; omega) ⟨rfl, rfl, rfl, trivial⟩ ent_nil
   by_cases he : i = j
   · subst he
     have := h13
     rw [index_neg, hg] at this
     exact Classical.not_not.1 this
   · exact hin i hi (by omega)
 ·
  refine p_exit 0 rfl ?_
  refine t_seq_exit ?_
  refine to_inv_exit ?_
  refine to_block_here ?_
  refine t_seq ?_
  refine p_seq rfl ?_
  refine p_region rfl ?_
  refine wo_pv (pv_move rfl) rfl ?_
  refine wo_pv (pv_call_len_s Tryz.underlying9 rfl) rfl ?_
  refine wo_pv (pv_eql rfl rfl) rfl ?_
  refine wo_pv (pv_assign rfl) rfl ?_
  refine q_seq ?_
  refine p_ret rfl ?_
  refine fin_ret () (vs := [_]) (Cs := []) rfl (.tmp rfl .nil) ?_ trivial ent_nil
  have hall : ∀ c ∈ s, c ∈ hexD := fun c hc => by
   obtain ⟨i, hi, rfl⟩ := List.getElem_of_mem hc
   exact hin i hi (by omega)
  show vB _ = vB _
  congr 1
  rw [isN]
  exact decide_eq_decide.2 ⟨fun h => ⟨by omega, hall⟩, fun h => by omega⟩
end Go.Proofs.YtibccdcemcgkeaaGreat
end
