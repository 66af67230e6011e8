/- Texts of this proof, put together: Slic, SHash4, SBlob3, SBlob4, LawBlobRuns, PCard, PEsc, SIs, SEsc. -/
import Derived.Lib.MakeNoZero
import Derived.Test.YtibccdcemcgkeaaGreatQ14
import Derived.Test.YtibccdcemcgkeaaGreatQ13
set_option linter.unusedVariables false
set_option linter.unusedSimpArgs false
namespace Go.Proofs.YtibccdcemcgkeaaGreat
section
/-- The address of a slice that begins so many elements on. -/
def fromA (a : Option Addr) (m cap kk : Nat) : Option Addr := if m < cap then elemA a kk else a
section
variable {r : Option Nat} {P : Program} {n : Nat} {L : Loc} {Hs : List HP} {Q : Out} {ty : TypeId}
theorem pv_slslice_froma {x y : Operand} {a : Option Addr} {len cap m kk : Nat} {k : IntKind} {i : Int} {t e : TypeId} {ti : TypeInfo} {sz : Nat} (ht : P.underlying t = some (.slice e)) (hi : P.info? e = some ti) (hsz : ti.size = sz) (hx : ev L x = some (.slice a len cap)) (hy : ev L y = some (.int k i)) (hm : i = (m : Int)) (hk : m * sz = kk) (h : m ≤ len) (hc : len ≤ cap) (ha : ∀ b, a = some b → b.spot = none) :
    PV P n L (.slice t x (some y) none none) ty (.slice (fromA a m cap kk) (len - m) (cap - m)) := by
 by_cases hlt : m < cap
 · have := pv_slslice_fromm (P := P) (n := n) (ty := ty) ht hi hsz hx hy hm hk h hlt ha
   rw [fromA, if_pos hlt]; exact this
 · subst hm
   have := pv_slslice_from (P := P) (n := n) (ty := ty) ht hi hx hy (by omega) (by omega)
   rw [Int.toNat_natCast, if_pos (by omega)] at this
   rw [fromA, if_neg hlt]; exact this
end
end
section
set_option maxRecDepth 100000
theorem sla_ceAt {b : Nat} {T : TypeId} {l : List Value} (off k : Nat) : SlA (Ce b T l) (some ⟨b, off, none⟩) ((l.drop off).take k) := fun x => .inr ⟨b, off, l, T, (0, 0), rfl, .inr (by have : _ = Res.one b _ := x; rw [this]; exact Res.one_same _ _), by rw [List.length_take, List.take_eq_take_iff.2]; simp⟩
def hexP (x : UInt32) (j : Nat) : Bs := (List.range j).map fun j => hexD.getD ((x >>> UInt32.ofNat (28 - 4 * j)) &&& 15).toNat 0
theorem hexP_succ (x : UInt32) (j : Nat) : hexP x (j + 1) = hexP x j ++ [hexD.getD ((x >>> UInt32.ofNat (28 - 4 * j)) &&& 15).toNat 0] := by simp [hexP, List.range_succ]
theorem and15 (x : UInt32) : (x &&& 15).toNat < 16 := by
 rw [UInt32.toNat_and]; exact Nat.lt_of_le_of_lt Nat.and_le_right (by decide)
theorem hash_Sum_sp (s : Bs) (hs : s.length ≤ 1099511627776) : SpF Tryz.prog 35 [vS s] (vS (shaB s)) := by
 have hpl := padB_len s
 have hbu : blocksN s ≤ 17179869185 := by unfold blocksN; omega
 have hb1 : 1 ≤ blocksN s := by unfold blocksN; omega
 obtain ⟨N, hN⟩ : ∃ N, N = blocksN s := ⟨_, rfl⟩
 obtain ⟨p, hp⟩ : ∃ p, p = padB s := ⟨_, rfl⟩
 have hsha : shaB s = (sumsW p h0W N).list.flatMap hexW := by rw [hN, hp]; rfl
 have hpd := hash_padded_sp s hs
 rw [← hN] at hpl hbu hb1 hpd
 rw [← hp] at hpl hpd
 have hpv : (vUs p).length = 64 * N := by simp [vUs, hpl]
 refine Sp.body (n := 39) Tryz.call35 Tryz.func35 rfl rfl rfl ?_
 refine Qc (k:=Vv (k:=Wq (Qc (k:=?_))))
 refine wo_pv (pv_buildA (vs := [_, _, _, _, _]) Tryz.underlying103 ti102 rfl rfl rfl ti103 rfl rfl) rfl ?_
 refine Zc [.int .u32 0, .int .u32 0, .int .u32 0, .int .u32 0, .int .u32 0] (k:=fun b3 => Zp (k:=Wq (Za (k:=Qc (k:=Vv (k:=?_))))))
 refine r_callX hpd rfl rfl rfl (fun g _ => ?_)
 refine Vv (k:=Wq (Zb (k:=?_)))
 refine p_loop (fun (i : { x : Nat × Option Addr // x.1 ≤ N ∧ (x.1 < N → x.2 = some ⟨g, 64 * x.1, none⟩) ∧ ∀ b, x.2 = some b → b.spot = none }) => [(3, .pointer (some ⟨b3, 0, none⟩)), (4, .slice i.1.2 (64 * N - 64 * i.1.1) (64 * N - 64 * i.1.1))]) (fun (i : { x : Nat × Option Addr // x.1 ≤ N ∧ (x.1 < N → x.2 = some ⟨g, 64 * x.1, none⟩) ∧ ∀ b, x.2 = some b → b.spot = none }) => [Ce b3 103 ((sumsW p h0W i.1.1).list.map vW), Ce g 5 (vUs p)]) (fun (i : { x : Nat × Option Addr // x.1 ≤ N ∧ (x.1 < N → x.2 = some ⟨g, 64 * x.1, none⟩) ∧ ∀ b, x.2 = some b → b.spot = none }) => N - i.1.1) rfl (⟨(0, some ⟨g, 0, none⟩), Nat.zero_le _, fun _ => rfl, fun b e => by cases e; rfl⟩) ?_ ?_ (fun i => ?_)
 · exact ⟨rfl, rfl, trivial⟩
 ·
  exact ent_step (ce_norm (by rfl) (by rfl)) ent_pick
 obtain ⟨⟨i, ad⟩, hi, had, hsp⟩ := i
 dsimp only at hi had hsp ⊢
 try dsimp only
 refine Za (k:=Qc (k:=Qv (k:=Vv (k:=Wq (Zi (t:=fun h14 => ?_) (f:=fun h14 => ?_))))))
 ·
  refine Zk (k:=Ya (Za (k:=Zb (k:=?_))))
  have hiN : i < N := by omega
  have hal := had hiN
  subst hal
  have hvt : vUs ((p.drop (64 * i)).take 64) = ((vUs p).drop (64 * i)).take 64 := by simp [vUs, List.map_take, List.map_drop]
  refine Zr (k:=Vv (k:=?_))
  refine wo_pv (pv_slslice_tom (m := 64) Tryz.underlying89 ti5 rfl rfl rfl (by omega)) rfl ?_
  refine r_call1 (hash_take_sp (B := Ce g 5 (vUs p)) b3 (64 * N - 64 * i) (sumsW p h0W i) ((p.drop (64 * i)).take 64) (by rw [List.length_take, List.length_drop]; omega) (by rw [hvt]; exact sla_ceAt (64 * i) 64)) rfl rfl rfl ?_
  refine Wn (Yb (Ya (Zr (k:=Vv (k:=?_)))))
  refine wo_pv (pv_slslice_froma (m := 64) (kk := 64) Tryz.underlying89 ti5 rfl rfl rfl rfl rfl (by omega) (Nat.le_refl _) hsp) rfl ?_
  refine Vv (k:=Wn ?_)
  refine to_inv ⟨(i + 1, fromA (some ⟨g, 64 * i, none⟩) 64 (64 * N - 64 * i) 64), by dsimp only; omega, fun h => ?_, fun b e => ?_⟩ (by dsimp only; omega) ⟨rfl, ?_, trivial⟩ ?_
  · dsimp only at h ⊢
    rw [fromA, if_pos (by omega)]
    simp only [elemA]
    congr 2
  · dsimp only at e
    unfold fromA at e
    split at e
    · simp only [elemA, Option.some.injEq] at e; subst e; rfl
    · exact hsp b e
  · dsimp only
    show some (Value.slice _ _ _) = some (Value.slice _ _ _)
    rw [show 64 * N - 64 * i - 64 = 64 * N - 64 * (i + 1) from by omega]
  · dsimp only
    rw [show sumsW p h0W (i + 1) = takeW (sumsW p h0W i) ((p.drop (64 * i)).take 64) from rfl]
    exact ent_pick
 ·
  refine Ze (k:=Xa (Xi (Xb (Ya (Za (k:=?_))))))
  have hiN : i = N := by omega
  subst hiN
  obtain ⟨hl, hhl⟩ : ∃ hl, hl = (sumsW p h0W i).list := ⟨_, rfl⟩
  have hl5 : hl.length = 5 := by rw [hhl]; rfl
  have hag : (Value.agg #[vW (sumsW p h0W i).a, vW (sumsW p h0W i).b, vW (sumsW p h0W i).c, vW (sumsW p h0W i).d, vW (sumsW p h0W i).e]) = .agg (hl.map vW).toArray := by rw [hhl]; rfl
  rw [← hhl] at hsha
  refine Zr (k:=Vv (k:=Wq (Za (k:=Qc (k:=Zm [_, _, _, _, _] (k:=Vv (k:=Wq (Zb (k:=?_)))))))))
  refine p_loop (fun (i : { x : (Option Addr × Nat) × Nat // x.2 ≤ 5 }) => [(5, .slice i.1.1.1 (8 * i.1.2) i.1.1.2), (20, .agg (hl.map vW).toArray), (21, vI i.1.2)]) (fun (i : { x : (Option Addr × Nat) × Nat // x.2 ≤ 5 }) => [Row 5 1 (.slice i.1.1.1 (8 * i.1.2) i.1.1.2) (8 * i.1.2) (vUs ((hl.take i.1.2).flatMap hexW))]) (fun (i : { x : (Option Addr × Nat) × Nat // x.2 ≤ 5 }) => 5 - i.1.2) rfl (⟨((none, 0), 0), Nat.zero_le _⟩) ?_ ?_ (fun i => ?_)
  · exact ⟨rfl, by subst hhl; rfl, rfl, trivial⟩
  ·
   exact ent_step row_nil ent_nil
  obtain ⟨⟨⟨a1, c1⟩, m⟩, hm⟩ := i
  dsimp only at hm ⊢
  try dsimp only
  refine Qc (k:=Vv (k:=Wq (Za (k:=Zi (t:=fun h22 => ?_) (f:=fun h22 => ?_)))))
  ·
   refine Zk (k:=Ya (Za (k:=Zb (k:=Qc (k:=?_)))))
   refine wo_pv (pv_aidx Tryz.underlying103 Tryz.underlying102 ti102 rfl rfl rfl rfl rfl (by omega) (vW_getD (m := m) (by omega))) rfl ?_
   refine Vv (k:=Wq (Za (k:=?_)))
   obtain ⟨x, hx⟩ : ∃ x, x = hl.getD m 0 := ⟨_, rfl⟩
   rw [← hx]
   obtain ⟨xs, hxs⟩ : ∃ xs, xs = (hl.take m).flatMap hexW := ⟨_, rfl⟩
   rw [← hxs]
   refine Zr (k:=Vv (k:=Wq (Zb (k:=?_))))
   refine p_loop (fun (i : { y : (Option Addr × Nat) × Nat // y.2 ≤ 8 }) => [(5, .slice i.1.1.1 (8 * m + i.1.2) i.1.1.2), (7, vW x), (8, vI (28 - 4 * i.1.2)), (20, .agg (hl.map vW).toArray), (21, vI m)]) (fun (i : { y : (Option Addr × Nat) × Nat // y.2 ≤ 8 }) => [Row 5 1 (.slice i.1.1.1 (8 * m + i.1.2) i.1.1.2) (8 * m + i.1.2) (vUs (xs ++ hexP x i.1.2))]) (fun (i : { y : (Option Addr × Nat) × Nat // y.2 ≤ 8 }) => 8 - i.1.2) rfl (⟨((a1, c1), 0), Nat.zero_le _⟩) ?_ ?_ (fun i => ?_)
   · exact ⟨rfl, rfl, rfl, rfl, rfl, trivial⟩
   ·
    dsimp only
    rw [show hexP x 0 = [] from rfl, List.append_nil]
    exact ent_pick
   obtain ⟨⟨⟨a2, c2⟩, j⟩, hj⟩ := i
   dsimp only at hj ⊢
   try dsimp only
   refine Za (k:=Qc (k:=Qv (k:=Wq (Zi (t:=fun h25 => ?_) (f:=fun h25 => ?_)))))
   ·
    refine Zk (k:=Ya (Za (k:=Zb (k:=Zr (k:=Qv (k:=Vv (k:=?_)))))))
    refine wo_pv (pv_shrW (m := 28 - 4 * j) rfl rfl (by omega) (by omega)) rfl ?_
    refine wo_pv (pv_andW (b := 15) rfl rfl) rfl ?_
    refine wo_pv (pv_indexm (l := hexD) (m := ((x >>> UInt32.ofNat (28 - 4 * j)) &&& 15).toNat) Tryz.underlying9 rfl rfl rfl (show _ < 16 from and15 _)) rfl ?_
    refine Zv [_] (cs := [_]) (k:=fun b34 => ?_)
    refine r_append1 (sz := 1) (bytes := 1) Tryz.underlying89 ti5 rfl rfl rfl rfl rfl rfl rfl (by rfl) (by rfl) (by omega) (by simp only [maxLen]; omega) rfl (fun a35 c35 => ?_)
    refine Vv (k:=Wn (Yb (Ya (Zr (k:=Qv (k:=Vv (k:=Wn ?_)))))))
    refine to_inv ⟨((a35, c35), j + 1), by dsimp only; omega⟩ (by dsimp only; omega) ⟨rfl, rfl, vI_eq (by dsimp only; omega), rfl, rfl, trivial⟩ ?_
    dsimp only
    refine row_norm1 (by omega) ?_
    rw [hexP_succ, ← List.append_assoc]
    simp [vUs]
   ·
    refine Ze (k:=Xa (Xi (Xb (Yb (Ya (Zr (k:=Qv (k:=Wn ?_))))))))
    have hj8 : j = 8 := by omega
    subst hj8
    have hml : m < hl.length := by omega
    have hxe : xs ++ hexP x 8 = (hl.take (m + 1)).flatMap hexW := by
     rw [List.take_succ_eq_append_getElem hml, List.flatMap_append, ← hxs]
     have : x = hl[m] := by rw [hx]; simp [hml]
     rw [this]; simp [hexW, hexP]
    refine to_inv ⟨((a2, c2), m + 1), by dsimp only; omega⟩ (by dsimp only; omega) ⟨sl_eq (by dsimp only; omega), rfl, rfl, trivial⟩ ?_
    dsimp only
    rw [← hxe]
    exact ent_pick
  ·
   refine Ze (k:=Xa (Xi (Xb (Ya (Za (k:=?_))))))
   have hm5 : m = 5 := by omega
   subst hm5
   rw [List.take_of_length_le (by omega), ← hsha]
   refine Zr (k:=Vv (k:=?_))
   refine wo_row (fun h => by simp at h) (fun gg cap cur e1 e2 e3 e4 e5 e6 => ?_)
   cases e1
   refine r_b2s (l := shaB s) Tryz.underlying89 Tryz.underlying9 Tryz.underlying5 rfl (by simpa using e6) (by omega) rfl ?_
   refine Vv (k:=Wq (Zt (k:=?_)))
   refine fin_ret () (vs := [_]) (Cs := []) rfl (.tmp rfl .nil) rfl trivial ?_
   exact ent_nil
end
section
set_option maxRecDepth 100000
theorem zb37ret4 {G : Prop} (h : G := by
    unfold rowF
    try dsimp only
    try rw [if_pos (by first | (left; omega) | (right; left; omega) | (right; right; assumption))]
    exact fin_ret () (vs := [_]) (Cs := [Ce b8 77 [vS (98 :: name), vS (102 :: content), .bool false]]) rfl (.cell (l := [vS (98 :: name), vS (102 :: content), .bool false]) (us := [vS (98 :: name), vS (102 :: content), .bool false]) rfl (shows_ce (T := 77)) Tryz.underlying77 rfl ti77 (by exact Nat.le_of_ble_eq_true rfl) rfl .nil) rfl trivial ent_pick) : G := h
theorem zb37ret7 {G : Prop} (h : G := by
    rw [if_pos (by first | exact .inl h49 | exact .inr (by omega))]
    exact fin_ret () (vs := [_]) (Cs := [Ce b8 77 [vS (98 :: name), vS (102 :: content), .bool false]]) rfl (.cell (l := [vS (98 :: name), vS (102 :: content), .bool false]) (us := [vS (98 :: name), vS (102 :: content), .bool false]) rfl (shows_ce (T := 77)) Tryz.underlying77 rfl ti77 (by exact Nat.le_of_ble_eq_true rfl) rfl .nil) rfl trivial ent_pick) : G := h
set_option maxHeartbeats 2000000 in
theorem blob_Row_sp (s p : Nat) (J : Jn) (K : Ks) (hK : TxtK K) (name content base : Bs) (hn : name.length ≤ 1073741824) (hc : content.length ≤ 1073741824) (hb : base.length ≤ 1073741824) :
    Sp1 Tryz.prog 37 [.pointer (some ⟨s, 0, none⟩), vS name, vS content, vS base] [IsS s p J K] (.agg (rowC (rowB K name content base)).toArray) [IsS s p J K] := by
 obtain ⟨y, hy⟩ : ∃ y, y = ctnB K base := ⟨_, rfl⟩
 have hC := blob_Content_sp s p J K hK base (by omega)
 have hD := blob_Depth_sp s p J K hK base (by omega)
 have hS := blob_stands_sp s p J K hK base name (by omega)
 have hyl : ∀ t, y = some t → t.length ≤ 1073741824 := fun t e => ctnR_len hK (k := 3) (n := base) (by rw [← e, hy]; rfl)
 rw [← hy] at hC
 unfold rowB
 rw [← hy]
 generalize depB K base = dd at hD ⊢
 generalize staB K base name = st at hS ⊢
 refine Sp.body (n := 66) Tryz.call37 Tryz.func37 rfl rfl rfl ?_
 refine Qc (k:=Zc [vS [], vS [], .bool false] (k:=fun b8 => Wq (Qc (k:=Vv (k:=?_)))))
 refine wo_pv (pv_cat rfl rfl (by simp only [List.length_singleton]; omega)) rfl ?_
 rw [List.singleton_append]
 refine Vv (k:=?_)
 refine wo_pv (pv_cat rfl rfl (by simp only [List.length_singleton]; omega)) rfl ?_
 rw [List.singleton_append]
 refine Vx (Ps [_, _, .bool false]) (k:=Zc [vS [], vS [], .bool false] (k:=fun b9 => Zp (k:=Wq (Qc (k:=Qv (k:=?_))))))
 refine r_call1 hC rfl rfl rfl ?_
 refine Vv (k:=?_)
 refine wo_pv (pv_extract (v := vS (y.getD [])) rfl rfl) rfl ?_
 refine wo_pv (pv_extract (v := vB y.isSome) rfl rfl) rfl ?_
 refine Qv (k:=Wq (Za (k:=Qc (k:=Qv (k:=Vv (k:=Gi 2 (t:=fun h26 => ?_) (f:=fun h26 => ?_)))))))
 ·
  obtain rfl : y = none := by cases y with | none => rfl | some z => simp at h26
  refine O1 (k:=O1 (k:=O1 (k:=P1 (k:=Vv (k:=O1 (k:=O1 (k:=O1 (k:=O1 (k:=P1 (k:=Vv (k:=O1 (k:=?_))))))))))))
  refine O1 (k:=O1 (k:=O1 (k:=P1 (k:=Wq (Z1 (k:=Qc (k:=Zm [_, _, _] (k:=Zp (k:=Wq (Zt (k:=?_)))))))))))
  refine Va ?_
  exact zb37ret4
 ·
  obtain ⟨src, rfl⟩ : ∃ z, y = some z := by cases y with | none => simp at h26 | some z => exact ⟨z, rfl⟩
  have hsl := hyl src rfl
  dsimp only [Option.getD_some]
  refine J0 (k:=J0 (k:=J0 (k:=P0 (k:=Vv (k:=Gi 7 (t:=fun h31 => ?_) (f:=fun h31 => ?_))))))
  ·
   refine O1 (k:=O1 (k:=O1 (k:=O1 (k:=P1 (k:=Vv (k:=O1 (k:=O1 (k:=O1 (k:=O1 (k:=P1 (k:=Wq ?_)))))))))))
   refine Z1 (k:=Qc (k:=Zm [_, _, _] (k:=Zp (k:=Wq (Zt (k:=Va ?_))))))
   exact zb37ret4
  ·
   refine J0 (k:=J0 (k:=I0 (k:=?_)))
   refine r_call1 hD rfl rfl rfl ?_
   refine J0 (k:=P0 (k:=Vv (k:=Gi 13 (t:=fun h37 => ?_) (f:=fun h37 => ?_))))
   ·
    refine O1 (k:=O1 (k:=O1 (k:=O1 (k:=P1 (k:=Wq (Z1 (k:=Qc (k:=Zm [_, _, _] (k:=Zp (k:=Wq ?_))))))))))
    refine Zt (k:=Va ?_)
    exact zb37ret4
   ·
    refine J0 (k:=J0 (k:=J0 (k:=I0 (k:=?_))))
    refine r_call1 hS rfl rfl rfl ?_
    refine P0 (k:=Wq (Zi (t:=fun h42 => ?_) (f:=fun h42 => ?_)))
    ·
     refine Qc (k:=Zm [_, _, _] (k:=Zp (k:=Wq (Zt (k:=Va ?_)))))
     exact zb37ret4
    ·
     have hnot : ¬ (base.length ≠ 40 ∨ 3 ≤ dd ∨ st = true) := by
      rintro (h | h | h)
      · omega
      · omega
      · first
        | (rw [h] at h42; cases h42)
        | (exact absurd h (by assumption))
        | simp_all
     unfold rowF
     dsimp only
     rw [if_neg hnot]
     have hbl : base.length = 40 := by omega
     refine Zk (k:=Ya (Qc (k:=Qv (k:=?_))))
     refine r_callF (delta_Make_sp src content hsl hc) rfl rfl rfl ?_
     obtain ⟨m, hm⟩ : ∃ m, m = makeB src content := ⟨_, rfl⟩
     rw [← hm]
     refine Vv (k:=Wq (Za (k:=Qc (k:=Qv (k:=Vv (k:=Gi 2 (t:=fun h49 => ?_) (f:=fun h49 => ?_)))))))
     ·
      refine O1 (k:=O1 (k:=O1 (k:=O1 (k:=O1 (k:=O1 (k:=O1 (k:=P1 (k:=Wq (Z1 (k:=Qc (k:=?_)))))))))))
      refine Zm [_, _, _] (k:=Zp (k:=Wq (Zt (k:=Va ?_))))
      exact zb37ret7
     ·
      refine J0 (k:=J0 (k:=J0 (k:=J0 (k:=J0 (k:=J0 (k:=?_))))))
      refine J0 (k:=P0 (k:=Wq (Zi (t:=fun h57 => ?_) (f:=fun h57 => ?_))))
      ·
       refine Qc (k:=Zm [_, _, _] (k:=Zp (k:=Wq (Zt (k:=Va ?_)))))
       exact zb37ret7
      ·
       refine Zk (k:=Ya (Za (k:=?_)))
       have hml : (m.length : Int) < (content.length : Int) - 1 - 40 := by omega
       rw [if_neg (by rintro (h | h); exact absurd h (by assumption); omega)]
       refine Zr (k:=Vv (k:=?_))
       refine wo_pv (pv_cat rfl rfl (by simp only [List.length_singleton]; omega)) rfl ?_
       rw [List.singleton_append]
       refine Vv (k:=?_)
       refine wo_pv (pv_cat rfl rfl (by simp only [List.length_singleton]; omega)) rfl ?_
       rw [List.singleton_append]
       refine Vv (k:=?_)
       refine wo_pv (pv_cat rfl rfl (by simp only [List.length_cons]; omega)) rfl ?_
       rw [List.cons_append]
       refine Vx (Ps [_, _, .bool false]) (k:=Zp (k:=Wq (Zt (k:=?_))))
       exact fin_ret () (vs := [_]) (Cs := [Ce b8 77 [vS (98 :: name), vS (100 :: (base ++ m)), .bool false]]) rfl (.cell (l := [vS (98 :: name), vS (100 :: (base ++ m)), .bool false]) (us := [vS (98 :: name), vS (100 :: (base ++ m)), .bool false]) rfl (shows_ce (T := 77)) Tryz.underlying77 rfl ti77 (by exact Nat.le_of_ble_eq_true rfl) rfl .nil) rfl trivial ent_pick
theorem blob_Names_sp (s : Nat) : Sp Tryz.prog 44 [.pointer (some ⟨s, 0, none⟩)] [] (X := Nat) (fun b => .func (.func 99) #[] #[.pointer (some ⟨b, 0, none⟩)]) (fun _ => True) (fun b => [Ce b 72 [.pointer (some ⟨s, 0, none⟩)]]) := by
 refine Sp.body (n := 4) Tryz.call44 Tryz.func44 rfl rfl rfl ?_
 refine Qc (k:=Zx [_] (k:=fun b1 => Vv (k:=Wq (Qc (k:=Qv (k:=Wq (Zt (k:=?_))))))))
 refine fin_ret b1 (vs := [_]) (Cs := []) rfl (.tmp rfl .nil) rfl trivial ?_
 exact ent_pick
theorem fromS_98 {K : Ks} {x : Bs × Value} (h : x ∈ fromS K [98]) : ∃ n, x.1 = 98 :: n := by
 have hp := (fromS_mem h).2.1
 cases hx : x.1 with
 | nil => rw [hx] at hp; simp [Lib.hasPrefix] at hp
 | cons c n =>
   rw [hx] at hp
   have : 98 = c := by simpa [Lib.hasPrefix] using hp
   exact ⟨n, by rw [← this]⟩
set_option maxHeartbeats 2000000 in
theorem blob_Names_itB (s p b : Nat) (J : Jn) (K : Ks) (hK : K.length ≤ 4398046511104) :
    IterB Tryz.prog 99 [.pointer (some ⟨b, 0, none⟩)] (fun w : Bs => [vS w]) (okL (nmsB K)) (stopL (nmsB K)) (IsS s p J K) [Ce b 72 [.pointer (some ⟨s, 0, none⟩)]] [Ce b 72 [.pointer (some ⟨s, 0, none⟩)]] (nmsB K) (fun _ => .tuple #[]) := by
 intro y Jy J0 Jx ys hj1 hj2
 obtain ⟨ly, rfl, hys⟩ := id ys
 refine Sp.body (n := 13) Tryz.call99 Tryz.func99 rfl rfl rfl ?_
 refine Qc (k:=Zx [_] (k:=fun b2 => Wq (Qc (k:=Zd (k:=?_)))))
 refine r_callX (store_From_sp s [98]) rfl rfl rfl (fun x5 _ => ?_)
 refine Wq (Zb (k:=?_))
 refine p_rangeFuncB (fun pre => [Jy (pre.map fun x => x.1.drop 1), Ce b2 112 [.func (.yield ly) #[] #[]], Ce b 72 [.pointer (some ⟨s, 0, none⟩)]]) (fun j pre => if j = none then [Jx (pre.map fun x => x.1.drop 1), Ce b 72 [.pointer (some ⟨s, 0, none⟩)]] else [Pu False]) (fun pre => [J0 (pre.map fun x => x.1.drop 1), Ce b2 112 [.func (.yield ly) #[] #[]], Ce b 72 [.pointer (some ⟨s, 0, none⟩)]]) rfl (store_From_itB x5.1 x5.2 s p J K [98] hK) rfl (fun _ => by rfl) rfl (fun pre => ?_) (fun pre => ?_) ?_ (fun l pre w hok => ?_) ?_ (fun j pre hs => ?_)
 · (refine ent_open2 (hj1 (pre.map fun x => x.1.drop 1)) ?_; exact ent_pick)
 · (refine ent_fold2 (hj2 (pre.map fun x => x.1.drop 1)) ?_; exact ent_pick)
 · (refine ent_app ?_; rw [List.map_nil]; exact ent_pick)
 ·
  obtain ⟨k, v⟩ := w
  obtain ⟨rr, hrr⟩ := hok
  obtain ⟨nm, hnm⟩ := fromS_98 (K := K) (x := (k, v)) (by rw [hrr]; simp)
  dsimp only at hnm
  subst hnm
  refine Zr (k:=Vv (k:=Wg (Zb (k:=Za (k:=Dw [Ce b2 112 [.func (.yield ly) #[] #[]]] (k:=?_))))))
  refine Di 0 (t:=Ul) (k:=Dv 1 (k:=?_))
  refine d_first 2 rfl rfl rfl (by kernel_rfl) (by kernel_rfl) (tl_pv (pv_slice_fromm (m := 1) Tryz.underlying9 rfl rfl rfl (by simp))) ?_
  refine Dn 3 (k:=?_)
  refine an_yield ys (pre.map fun x => x.1.drop 1) nm ⟨rr.map fun x => x.1.drop 1, by rw [nmsB, hrr]; simp⟩ rfl rfl rfl ?_ ?_
  ·
   refine Dv 4 (k:=Dd (k:=Ya (Z0 (k:=Zk (k:=Yb ?_)))))
   refine to_round ?_
   simp only [List.map_append, List.map_cons, List.map_nil, List.drop_succ_cons, List.drop_zero]
   exact ent_pick
  ·
   refine Dv 4 (k:=Dd (k:=Ya (Z1 (k:=Zt (k:=Vb ?_)))))
   refine to_round_ret ?_
   rw [if_pos rfl]
   simp only [List.map_append, List.map_cons, List.map_nil, List.drop_succ_cons, List.drop_zero]
   exact ent_pick
 ·
  skip
  refine Yb ?_
  refine fin_end none (vs := []) (Cs := []) rfl .nil rfl (fun pre e => by cases e) ?_
  simp only [endsAt]
  rw [show (fromS K [98]).map (fun x => x.1.drop 1) = nmsB K from rfl]
  exact ent_pick
 ·
  by_cases hj : j = none
  · subst hj
    rw [if_pos rfl]
    refine Zt (k:=Vb ?_)
    obtain ⟨h1, r, hr⟩ := hs
    refine fin_ret (some (pre.map fun x => x.1.drop 1)) (vs := []) (Cs := []) rfl .nil rfl (fun q e => by cases e; exact ⟨by simpa using h1, r.map fun x => x.1.drop 1, by rw [nmsB, hr, List.map_append]⟩) ?_
    simp only [endsAt]
    exact ent_pick
  · rw [if_neg hj]
    exact wc_no (fun s => by obtain ⟨_, _, _, _, a, _⟩ := s; exact a)
theorem nms_len2 (K : Ks) : (nmsB K).length ≤ K.length := by
 rw [nmsB, List.length_map, fromS, fromL, List.length_map]
 exact Nat.le_trans (List.length_filter_le _ _) (by rw [keysS_len]; exact Nat.le_refl _)
theorem nms_name {K : Ks} {n : Bs} (h : n ∈ nmsB K) : 98 :: n ∈ K.map (·.1) := by
 obtain ⟨x, hx, rfl⟩ := List.mem_map.1 h
 obtain ⟨m, hm⟩ := fromS_98 hx
 have := (fromS_mem hx).1
 rw [hm] at this ⊢
 exact this
/-- Names are not too long. -/
def NamK (K : Ks) : Prop := ∀ k ∈ K.map (·.1), k.length ≤ 1073741824
theorem zb41roundret {G : Prop} (h : G := by
    refine to_round_ret ?_
    rw [if_pos rfl]
    first
    | exact ent_pu hbad ent_pick
    | exact ent_pu (hno (fun t e => by cases e; assumption)) ent_pick) : G := h
theorem zb41ret {G : Prop} (h : G := by
    first
    | exact fin_ret () (vs := [_]) (Cs := [Ce b2 4 [vB false]]) rfl (.cell1 (l := [vB false]) rfl (shows_ce (T := 4)) Tryz.underlying4 rfl rfl .nil) rfl trivial ent_pick
    | exact fin_ret () (vs := [_]) (Cs := [Ce b2 4 [vB true]]) rfl (.cell1 (l := [vB true]) rfl (shows_ce (T := 4)) Tryz.underlying4 rfl rfl .nil) rfl trivial ent_pick) : G := h
set_option maxHeartbeats 2000000 in
theorem blob_Check_sp (s p : Nat) (J : Jn) (K : Ks) (hK : TxtK K) (hN : NamK K) (hl : K.length ≤ 4398046511104) : Sp1 Tryz.prog 41 [.pointer (some ⟨s, 0, none⟩)] [IsS s p J K] (vB (checkB K)) [IsS s p J K] := by
 refine Sp.body (n := 23) Tryz.call41 Tryz.func41 rfl rfl rfl ?_
 refine Qc (k:=Zx [_] (k:=fun b1 => Zc [.bool false] (k:=fun b2 => Wq (Za (k:=Qc (k:=Zd (k:=?_)))))))
 refine r_callX (blob_Names_sp s) rfl rfl rfl (fun x7 _ => ?_)
 refine Wq (Zb (k:=?_))
 refine p_rangeFuncB (fun pre => [Pu (∀ n ∈ pre, (ctnB K n).map shaB = some n), Ce b2 4 [vB false], Ce b1 72 [.pointer (some ⟨s, 0, none⟩)], IsS s p J K]) (fun j pre => if j = none then [Pu (checkB K = false), Ce b2 4 [vB false], IsS s p J K] else [Pu False]) (fun pre => [Pu (∀ n ∈ pre, (ctnB K n).map shaB = some n), Ce b2 4 [vB false], Ce b1 72 [.pointer (some ⟨s, 0, none⟩)]]) rfl (blob_Names_itB s p x7 J K hl) rfl (fun _ => by rfl) rfl (fun pre => ?_) (fun pre => ?_) ?_ (fun l pre n hok => ?_) ?_ (fun j pre hs => ?_)
 · exact ent_pick
 · exact ent_pick
 · (refine ent_app (ent_pu (fun n h => by cases h) ?_); exact ent_pick)
 ·
  obtain ⟨rr, hrr⟩ := hok
  refine wc_pu fun hall => ?_
  have hnm : n ∈ nmsB K := by rw [hrr]; simp
  have hnl := hN _ (nms_name hnm)
  rw [List.length_cons] at hnl
  obtain ⟨y, hy⟩ : ∃ y, y = ctnB K n := ⟨_, rfl⟩
  have hC := blob_Content_sp s p J K hK n (by omega)
  have hyl : ∀ t, y = some t → t.length ≤ 1073741824 := fun t e => ctnR_len hK (k := 3) (n := n) (by rw [← e, hy]; rfl)
  rw [← hy] at hC
  have hno : (∀ t, y = some t → shaB t ≠ n) → checkB K = false := fun h => by
   unfold checkB
   rw [List.all_eq_false]
   refine ⟨n, hnm, ?_⟩
   rw [← hy]
   cases y with
   | none => simp
   | some t => simpa using h t rfl
  refine Zr (k:=Vv (k:=Wg (Zb (k:=Qc (k:=Zd (k:=Vv (k:=?_)))))))
  refine r_call1 hC rfl rfl rfl ?_
  refine Vv (k:=?_)
  refine wo_pv (pv_extract (v := vS (y.getD [])) rfl rfl) rfl ?_
  refine wo_pv (pv_extract (v := vB y.isSome) rfl rfl) rfl ?_
  refine Qv (k:=Wq (Qc (k:=Qv (k:=Vv (k:=Gi 2 (t:=fun h17 => ?_) (f:=fun h17 => ?_))))))
  ·
   obtain rfl : y = none := by cases y with | none => rfl | some z => simp at h17
   have hbad := hno (fun t e => by cases e)
   refine O1 (k:=O1 (k:=O1 (k:=O1 (k:=P1 (k:=Wq (Z1 (k:=Qc (k:=Zo (k:=Wq (Zt (k:=?_)))))))))))
   refine Vb ?_
   exact zb41roundret
  ·
   obtain ⟨t, rfl⟩ : ∃ z, y = some z := by cases y with | none => simp at h17 | some z => exact ⟨z, rfl⟩
   have htl := hyl t rfl
   dsimp only [Option.getD_some]
   refine J0 (k:=I0 (k:=?_))
   refine r_callF (hash_Sum_sp t (by omega)) rfl rfl rfl ?_
   refine J0 (k:=J0 (k:=P0 (k:=Wq (Zi (t:=fun h22 => ?_) (f:=fun h22 => ?_)))))
   ·
    refine Qc (k:=Zo (k:=Wq (Zt (k:=Vb ?_))))
    exact zb41roundret
   ·
    refine Zk (k:=Yb ?_)
    refine to_round (ent_pu (fun m hm => ?_) ent_pick)
    rcases List.mem_append.1 hm with h | h
    · exact hall m h
    · rw [List.mem_singleton.1 h, ← hy]
      have h22 := h22
      first
      | (show some (shaB t) = some n
         congr 1
         simpa using h22)
      | simp_all
 ·
  refine tw_know (A := Pu (∀ n ∈ nmsB K, (ctnB K n).map shaB = some n)) .here (fun x => x) (fun hall => ?_)
  have hch : checkB K = true := by
   unfold checkB
   rw [List.all_eq_true]
   exact fun n hn => decide_eq_true (hall n hn)
  rw [hch]
  refine Yb (Ya (Qc (k:=Zo (k:=Wq (Zt (k:=?_))))))
  exact zb41ret
 ·
  by_cases hj : j = none
  · subst hj
    rw [if_pos rfl]
    simp only [List.cons_append, List.nil_append]
    refine wc_pu fun hbad => ?_
    rw [hbad]
    refine Zt (k:=Vb (Va ?_))
    exact zb41ret
  · rw [if_neg hj]
    exact wc_no (fun s => by obtain ⟨_, _, _, _, a, _⟩ := s; exact a)
end
section
set_option maxRecDepth 100000
def DropH (b : Nat) (l : List Rw) : HP := Ex fun ac : Option Addr × Nat => Al [Row 77 3 (.slice ac.1 l.length ac.2) l.length (l.flatMap rowC), Ce b 81 [.slice ac.1 l.length ac.2]]
set_option maxHeartbeats 2000000 in
theorem blob_Drop_sp (s p : Nat) (J : Jn) (K : Ks) (hK : TxtK K) (hN : NamK K) (hl : K.length ≤ 1073741824) (name : Bs) (hnm : name.length ≤ 1073741824) :
    Sp Tryz.prog 39 [.pointer (some ⟨s, 0, none⟩), vS name] [IsS s p J K] (X := Option Addr × Nat) (fun x => .slice x.1 (dropB K name).length x.2) (fun _ => True) (fun x => [Row 77 3 (.slice x.1 (dropB K name).length x.2) (dropB K name).length ((dropB K name).flatMap rowC), IsS s p J K]) := by
 have hG := store_Get_sp s p J K (98 :: name)
 rw [(hK.get (98 :: name)).1] at hG
 have hl2 := nms_len2 K
 unfold dropB
 generalize hms : (mlook K (98 :: name)).isSome = ms at hG ⊢
 refine Sp.body (n := 66) Tryz.call39 Tryz.func39 rfl rfl rfl ?_
 refine Qc (k:=Zx [_] (k:=fun b2 => Zx [_] (k:=fun b3 => Vv (k:=Wq (Za (k:=Qc (k:=Zd (k:=Zd (k:=?_)))))))))
 refine wo_pv (pv_cat rfl rfl (by simp only [List.length_singleton]; omega)) rfl ?_
 rw [List.singleton_append]
 refine r_call1 hG rfl rfl rfl ?_
 refine Vv (k:=?_)
 refine wo_pv (pv_extract (v := vS (getB K (98 :: name))) rfl rfl) rfl ?_
 refine wo_pv (pv_extract (v := vB ms) rfl rfl) rfl ?_
 refine Qv (k:=Wq (Qc (k:=Qv (k:=Wq (Zi (t:=fun h22 => ?_) (f:=fun h22 => ?_))))))
 ·
  refine Qc (k:=Vv (k:=Wq (Zt (k:=Va ?_))))
  rw [if_neg (by first | assumption | simp_all)]
  refine fin_ret (none, 0) (vs := [_]) (Cs := []) rfl (.tmp rfl .nil) rfl trivial ?_
  exact ent_step row_nil ent_pick
 ·
  refine Zk (k:=Ya (Qc (k:=Zc [.slice none 0 0] (k:=fun b7 => Wq (Za (k:=Qc (k:=Zd (k:=?_))))))))
  refine r_callX (blob_Names_sp s) rfl rfl rfl (fun x24 _ => ?_)
  refine Wq (Zb (k:=?_))
  refine p_rangeFuncB (fun pre => [DropH b7 (dropF K name pre), Ce b3 9 [vS name], Ce b2 72 [.pointer (some ⟨s, 0, none⟩)], IsS s p J K]) (fun j pre => [Pu False]) (fun pre => [DropH b7 (dropF K name pre), Ce b3 9 [vS name], Ce b2 72 [.pointer (some ⟨s, 0, none⟩)]]) rfl (blob_Names_itB s p x24 J K (by omega)) rfl (fun _ => by rfl) rfl (fun pre => ?_) (fun pre => ?_) ?_ (fun l pre n hok => ?_) ?_ (fun j pre hs => ?_)
  · exact ent_pick
  · exact ent_pick
  · (rw [show dropF K name [] = [] from rfl]; refine ent_app (ent_ex (none, 0) ?_); refine ent_al ?_; exact ent_step row_nil ent_pick)
  ·
   obtain ⟨rr, hrr⟩ := hok
   have hn := hN _ (nms_name (n := n) (by rw [hrr]; simp))
   rw [List.length_cons] at hn
   have hpl := dropF_len K name pre
   have hpl2 : pre.length < (nmsB K).length := by rw [hrr]; simp
   refine wc_front (DropH b7 (dropF K name pre)) ?_
   refine wc_exi fun ac => wc_al ?_
   obtain ⟨a, c⟩ := ac
   obtain ⟨x, hx⟩ : ∃ x, x = basedB K n := ⟨_, rfl⟩
   have hB := blob_based_sp s p J K hK n (by omega)
   rw [← hx] at hB
   obtain ⟨y, hy⟩ : ∃ y, y = ctnB K n := ⟨_, rfl⟩
   have hC := blob_Content_sp s p J K hK n (by omega)
   have hyl : ∀ t, y = some t → t.length ≤ 1073741824 := fun t e => ctnR_len hK (k := 3) (n := n) (by rw [← e, hy]; rfl)
   rw [← hy] at hC
   have hdo : dropF K name (pre ++ [n]) = dropF K name pre ++ dropG name n x y := by rw [dropF_snoc, dropO, hx, hy]
   generalize dropF K name pre = out at *
   refine Zr (k:=Vv (k:=Wg (Zb (k:=Za (k:=Qc (k:=Zd (k:=Vv (k:=?_))))))))
   refine r_call1 hB rfl rfl rfl ?_
   refine Vv (k:=?_)
   refine wo_pv (pv_extract (v := vS (x.getD ([], [])).1) rfl rfl) rfl ?_
   refine wo_pv (pv_extract (v := vS (x.getD ([], [])).2) rfl rfl) rfl ?_
   refine wo_pv (pv_extract (v := vB x.isSome) rfl rfl) rfl ?_
   refine Qv (k:=Vv (k:=Wq (Qc (k:=Qv (k:=Vv (k:=Gi 2 (t:=fun h35 => ?_) (f:=fun h35 => ?_)))))))
   ·
    refine O1 (k:=O1 (k:=O1 (k:=P1 (k:=Vv (k:=O1 (k:=O1 (k:=O1 (k:=P1 (k:=Wq (Z1 (k:=Ze (k:=?_))))))))))))
    refine Xa (Xb ?_)
    refine to_round ?_
    rw [hdo]
    first
    | (have e : dropG name n x y = [] := by clear hdo hB hC hyl hx hy; cases x <;> cases y <;> simp_all [dropG]
       rw [e, List.append_nil]
       refine ent_ex (a, c) ?_
       refine ent_al ?_
       exact ent_pick)
    | (have e : dropG name n x y = [⟨98 :: n, 102 :: y.getD [], false⟩] := by clear hdo hB hC hyl hx hy; cases x <;> cases y <;> simp_all [dropG]
       rw [e]
       refine ent_ex (a59, c59) ?_
       refine ent_al ?_
       simp only [List.length_append, List.length_cons, List.length_nil, Nat.zero_add, List.flatMap_append]
       exact ent_step (row_norm (by rfl) (by rfl)) ent_pick)
   ·
    refine J0 (k:=I0 (k:=Zd (k:=J0 (k:=P0 (k:=Vv (k:=Gi 7 (t:=fun h40 => ?_) (f:=fun h40 => ?_)))))))
    ·
     refine O1 (k:=O1 (k:=O1 (k:=P1 (k:=Wq (Z1 (k:=Ze (k:=Xa (Xb ?_))))))))
     refine to_round ?_
     rw [hdo]
     first
     | (have e : dropG name n x y = [] := by clear hdo hB hC hyl hx hy; cases x <;> cases y <;> simp_all [dropG]
        rw [e, List.append_nil]
        refine ent_ex (a, c) ?_
        refine ent_al ?_
        exact ent_pick)
     | (have e : dropG name n x y = [⟨98 :: n, 102 :: y.getD [], false⟩] := by clear hdo hB hC hyl hx hy; cases x <;> cases y <;> simp_all [dropG]
        rw [e]
        refine ent_ex (a59, c59) ?_
        refine ent_al ?_
        simp only [List.length_append, List.length_cons, List.length_nil, Nat.zero_add, List.flatMap_append]
        exact ent_step (row_norm (by rfl) (by rfl)) ent_pick)
    ·
     refine J0 (k:=I0 (k:=Zd (k:=J0 (k:=P0 (k:=Wq (Zi (t:=fun h44 => ?_) (f:=fun h44 => ?_)))))))
     ·
      refine Ze (k:=Xa (Xb ?_))
      refine to_round ?_
      rw [hdo]
      first
      | (have e : dropG name n x y = [] := by clear hdo hB hC hyl hx hy; cases x <;> cases y <;> simp_all [dropG]
         rw [e, List.append_nil]
         refine ent_ex (a, c) ?_
         refine ent_al ?_
         exact ent_pick)
      | (have e : dropG name n x y = [⟨98 :: n, 102 :: y.getD [], false⟩] := by clear hdo hB hC hyl hx hy; cases x <;> cases y <;> simp_all [dropG]
         rw [e]
         refine ent_ex (a59, c59) ?_
         refine ent_al ?_
         simp only [List.length_append, List.length_cons, List.length_nil, Nat.zero_add, List.flatMap_append]
         exact ent_step (row_norm (by rfl) (by rfl)) ent_pick)
     ·
      refine Zk (k:=Ya (Qc (k:=Zd (k:=Vv (k:=?_)))))
      refine r_call1 hC rfl rfl rfl ?_
      refine Vv (k:=?_)
      refine wo_pv (pv_extract (v := vS (y.getD [])) rfl rfl) rfl ?_
      refine wo_pv (pv_extract (v := vB y.isSome) rfl rfl) rfl ?_
      refine Qv (k:=Wq (Qc (k:=Vv (k:=Wq (Zi (t:=fun h51 => ?_) (f:=fun h51 => ?_))))))
      ·
       have hyl2 : (y.getD []).length ≤ 1073741824 := by cases y with | none => simp at h51 | some t => exact hyl t rfl
       refine Zr (k:=Zd (k:=Vv (k:=?_)))
       refine wo_pv (pv_cat rfl rfl (by simp only [List.length_singleton]; omega)) rfl ?_
       rw [List.singleton_append]
       refine Vv (k:=?_)
       refine wo_pv (pv_cat rfl rfl (by simp only [List.length_singleton]; omega)) rfl ?_
       rw [List.singleton_append]
       refine Vx (Ps [_, _, .bool false]) (k:=Zv [_] (cs := [_, _, _]) (k:=fun b58 => ?_))
       refine r_append1 (sz := 3) (bytes := 40) Tryz.underlying81 ti77 rfl rfl rfl rfl rfl rfl rfl (by rfl) (by rfl) (by omega) (by simp only [maxLen]; omega) rfl (fun a59 c59 => ?_)
       refine Zo (k:=Wn (Yb ?_))
       refine to_round ?_
       rw [hdo]
       first
       | (have e : dropG name n x y = [] := by clear hdo hB hC hyl hx hy; cases x <;> cases y <;> simp_all [dropG]
          rw [e, List.append_nil]
          refine ent_ex (a, c) ?_
          refine ent_al ?_
          exact ent_pick)
       | (have e : dropG name n x y = [⟨98 :: n, 102 :: y.getD [], false⟩] := by clear hdo hB hC hyl hx hy; cases x <;> cases y <;> simp_all [dropG]
          rw [e]
          refine ent_ex (a59, c59) ?_
          refine ent_al ?_
          simp only [List.length_append, List.length_cons, List.length_nil, Nat.zero_add, List.flatMap_append]
          exact ent_step (row_norm (by rfl) (by rfl)) ent_pick)
      ·
       refine Zk (k:=Yb ?_)
       refine to_round ?_
       rw [hdo]
       first
       | (have e : dropG name n x y = [] := by clear hdo hB hC hyl hx hy; cases x <;> cases y <;> simp_all [dropG]
          rw [e, List.append_nil]
          refine ent_ex (a, c) ?_
          refine ent_al ?_
          exact ent_pick)
       | (have e : dropG name n x y = [⟨98 :: n, 102 :: y.getD [], false⟩] := by clear hdo hB hC hyl hx hy; cases x <;> cases y <;> simp_all [dropG]
          rw [e]
          refine ent_ex (a59, c59) ?_
          refine ent_al ?_
          simp only [List.length_append, List.length_cons, List.length_nil, Nat.zero_add, List.flatMap_append]
          exact ent_step (row_norm (by rfl) (by rfl)) ent_pick)
  ·
   skip
   refine Yb (Ya (Za (k:=?_)))
   have hfl := dropF_len K name (nmsB K)
   refine wc_front (DropH b7 (dropF K name (nmsB K))) ?_
   refine wc_exi fun ac => wc_al ?_
   obtain ⟨a, c⟩ := ac
   generalize dropF K name (nmsB K) = out at *
   refine Zr (k:=Zd (k:=Zd (k:=?_)))
   refine wo_pv (pv_cat rfl rfl (by simp only [List.length_singleton]; omega)) rfl ?_
   rw [List.singleton_append]
   refine Vx (Ps [_, vS [], _]) (k:=Zv [_] (cs := [_, _, _]) (k:=fun b64 => ?_))
   refine r_append1 (sz := 3) (bytes := 40) Tryz.underlying81 ti77 rfl rfl rfl rfl rfl rfl rfl (by rfl) (by rfl) (by omega) (by simp only [maxLen]; omega) rfl (fun a65 c65 => ?_)
   refine Vv (k:=Wq (Zt (k:=?_)))
   rw [if_pos (by first | assumption | simp_all)]
   refine fin_ret (a65, c65) (vs := [_]) (Cs := []) rfl (.tmp rfl .nil) (by simp only [List.length_append, List.length_cons, List.length_nil, Nat.zero_add]; rfl) trivial ?_
   simp only [List.length_append, List.length_cons, List.length_nil, Nat.zero_add, List.flatMap_append]
   exact ent_step (row_norm (by rfl) (by rfl)) ent_pick
  ·
   exact wc_no (fun s => by obtain ⟨_, _, _, _, a, _⟩ := s; exact a)
end
section
set_option maxRecDepth 100000
set_option maxHeartbeats 4000000 in
theorem BlobRuns_sp : Sp1 Tryz.prog 8 [] [] (vB true) [] := by
 have r := r8_one
 have hxl := x81_len
 have i0 : BI 60 0 ⟨[], 0, false⟩ [] (newD 60) := bi_new (by decide) (by decide)
 refine Sp.body (n := 106) Tryz.call8 Tryz.func8 rfl rfl rfl ?_
 refine Qc (k:=Vv (k:=Wq (Qc (k:=?_))))
 refine r_callX (disk_New_sp 60) rfl rfl rfl (fun d _ => ?_)
 refine Vv (k:=Wq (Qc (k:=Vv (k:=?_))))
 refine r_callX (store_Open_sp d (newD 60)) rfl rfl rfl (fun s _ => ?_)
 refine Vv (k:=Wq (Za (k:=Qc (k:=Vv (k:=?_)))))
 refine wo_pv (pv_peql_nil Tryz.underlying70 rfl rfl) rfl ?_
 refine Vv (k:=Gi 2 (t:=fun h18 => ?_) (f:=fun h18 => ?_))
 ·
  cases h18
  --done
 ·
  refine J0 (k:=I0 (k:=?_))
  refine wo_pv (pv_peql_nil Tryz.underlying72 rfl rfl) rfl ?_
  refine P0 (k:=Wq (Zi (t:=fun h21 => ?_) (f:=fun h21 => ?_)))
  ·
   cases h21
   --done
  ·
   refine Zk (k:=Ya (Qc (k:=Vv (k:=Wq (Za (k:=?_))))))
   refine wc_keep [(0, .bool false), (1, .pointer (some ⟨d, 0, none⟩)), (2, .pointer (some ⟨s, 0, none⟩)), (3, vS x81)] ⟨rfl, rfl, rfl, rfl, trivial⟩ ?_
   rw [show openJ (newD 60) = ⟨[], 0, false⟩ from rfl, show openK (⟨[], 0, false⟩ : Jn).l = [] from rfl]
   generalize x81 = x at *
   refine Zr (k:=Vv (k:=?_))
   refine wo_pv (pv_cat rfl rfl (by simp only [List.length_singleton]; omega)) rfl ?_
   obtain ⟨y, hy⟩ : ∃ y, y = x ++ [33] := ⟨_, rfl⟩
   rw [← hy]
   have hyl : y.length = 106 := by rw [hy, List.length_append, hxl]; rfl
   obtain ⟨a, ha⟩ : ∃ a, a = shaB x := ⟨_, rfl⟩
   obtain ⟨b, hb⟩ : ∃ b, b = shaB y := ⟨_, rfl⟩
   rw [← ha, ← hy, ← hb] at r
   refine Vv (k:=Wq (Qc (k:=Vv (k:=?_))))
   refine r_callF (hash_Sum_sp x (by omega)) rfl rfl rfl ?_
   refine Vv (k:=?_)
   refine r_callF (hash_Sum_sp y (by omega)) rfl rfl rfl ?_
   refine Qv (k:=Wq (Za (k:=?_)))
   rw [← ha, ← hb]
   have hal := r.al
   have hbl := r.bl
   have e1 : rowB [] a x [] = ⟨98 :: a, 102 :: x, false⟩ := r8_row1
   have hR1 := blob_Row_sp s d ⟨[], 0, false⟩ [] i0.txt a x [] (by omega) (by omega) (by simp)
   rw [e1] at hR1
   obtain ⟨ja, da, i1, hC1⟩ := i0.sp (l := [⟨98 :: a, 102 :: x, false⟩]) 6 (fun q hq => by rw [List.mem_singleton.1 hq]; exact ⟨by simp, by simp; omega, by simp; omega, fun e => by cases e⟩) (Nat.le_trans (textOf_one (by simp <;> omega) (by simp <;> omega)) (by simp <;> omega)) (by decide) (by decide)
   rw [show doR [] [(⟨98 :: a, 102 :: x, false⟩ : Rw)] = k81 a x from rfl] at i1 hC1
   refine Zr (k:=Qv (k:=Qv (k:=?_)))
   refine r_call1 hR1 rfl rfl rfl ?_
   refine Zv [_] (cs := [_, _, _]) (k:=fun b33 => ?_)
   refine wo_ent' (ce_norm (b := b33) (T := 77) (l' := [(⟨98 :: a, 102 :: x, false⟩ : Rw)].flatMap rowC) (by rfl) (by rfl)) ?_
   refine r_call1 (hC1 (Ce b33 77 ([(⟨98 :: a, 102 :: x, false⟩ : Rw)].flatMap rowC)) _ s d 1 1 sla_ce rfl) rfl rfl rfl ?_
   refine Wq (Za (k:=?_))
   have e2 := r.row2
   have e3 := r.drop
   have g2 : getB (k82 a b x (makeB x (x ++ [33]))) (98 :: b) = 100 :: (a ++ makeB x (x ++ [33])) := r8_get2b
   have g3 := r.get3
   have hck := r.check (by rw [← hy]; exact hb.symm)
   have hml := pre_len (s := x) (t := [33]) (by omega) (by decide) (by rw [hxl]; decide)
   rw [← hy] at e2 e3 g2 g3 hck hml
   rw [List.length_singleton] at hml
   have hR2 := blob_Row_sp s d ja (k81 a x) i1.txt b y a (by omega) (by omega) (by omega)
   rw [e2] at hR2
   have hm0 : 0 < (makeB x y).length := List.length_pos_iff.2 (makeB_ne (by omega))
   generalize makeB x y = m at *
   have hva : List.take (41 - 1) (List.drop 1 (100 :: (a ++ m))) = a := by
    rw [List.drop_succ_cons, List.drop_zero]
    show List.take 40 _ = _
    rw [← hal, List.take_left]
   obtain ⟨jb, db, i2, hC2⟩ := i1.sp (l := [⟨98 :: b, 100 :: (a ++ m), false⟩]) 4 (fun q hq => by rw [List.mem_singleton.1 hq]; exact ⟨by simp, by simp; omega, by simp; omega, fun e => by cases e⟩) (Nat.le_trans (textOf_one (by simp <;> omega) (by simp <;> omega)) (by simp <;> omega)) (by decide) (by decide)
   rw [show doR (k81 a x) [(⟨98 :: b, 100 :: (a ++ m), false⟩ : Rw)] = k82 a b x m from rfl] at i2 hC2
   refine Zr (k:=Qv (k:=Qv (k:=Vv (k:=?_))))
   refine r_call1 hR2 rfl rfl rfl ?_
   refine Zv [_] (cs := [_, _, _]) (k:=fun b41 => ?_)
   refine wo_ent' (ce_norm (b := b41) (T := 77) (l' := [(⟨98 :: b, 100 :: (a ++ m), false⟩ : Rw)].flatMap rowC) (by rfl) (by rfl)) ?_
   refine r_call1 (hC2 (Ce b41 77 ([(⟨98 :: b, 100 :: (a ++ m), false⟩ : Rw)].flatMap rowC)) _ s d 1 1 sla_ce rfl) rfl rfl rfl ?_
   refine Wq (Za (k:=?_))
   have hG2 := store_Get_sp s d jb (k82 a b x m) (98 :: b)
   rw [(i2.txt.get (98 :: b)).1, g2] at hG2
   generalize (mlook (k82 a b x m) (98 :: b)).isSome = q2 at hG2
   refine Zr (k:=Qv (k:=?_))
   refine wo_pv (pv_cat rfl rfl (by simp only [List.length_singleton]; omega)) rfl ?_
   rw [List.singleton_append]
   refine r_call1 hG2 rfl rfl rfl ?_
   refine Vv (k:=?_)
   refine wo_pv (pv_extract (v := vS (100 :: (a ++ m))) rfl rfl) rfl ?_
   refine wo_pv (pv_extract (v := vB q2) rfl rfl) rfl ?_
   refine Qv (k:=Wq (Za (k:=?_)))
   have hD := blob_Drop_sp s d jb (k82 a b x m) i2.txt i2.NamK (by have := i2.len; omega) a (by omega)
   rw [e3] at hD
   simp only [List.length_cons, List.length_nil, Nat.zero_add, Nat.reduceAdd] at hD
   obtain ⟨jc3, dc3, i3, hC3⟩ := i2.sp (l := [⟨98 :: b, 102 :: y, false⟩, ⟨98 :: a, [], true⟩]) 7 (fun q hq => by
    rcases List.mem_cons.1 hq with rfl | hq
    · exact ⟨by simp, by simp; omega, by simp; omega, fun e => by cases e⟩
    · rw [List.mem_singleton.1 hq]; exact ⟨by simp, by simp; omega, by simp, fun e => rfl⟩) (Nat.le_trans (textOf_two (by simp <;> omega) (by simp <;> omega) (by simp <;> omega) (by simp <;> omega)) (by simp <;> omega)) (by decide) (by decide)
   rw [show doR (k82 a b x m) [(⟨98 :: b, 102 :: y, false⟩ : Rw), ⟨98 :: a, [], true⟩] = k83 a b x y m from rfl] at i3 hC3
   refine Zr (k:=Qv (k:=Vv (k:=?_)))
   refine r_callX hD rfl rfl rfl (fun x53 _ => ?_)
   refine r_call1 (hC3 (Row 77 3 (.slice x53.1 2 x53.2) 2 ([(⟨98 :: b, 102 :: y, false⟩ : Rw), ⟨98 :: a, [], true⟩].flatMap rowC)) _ s d 2 x53.2 sla_row rfl) rfl rfl rfl ?_
   refine Wq (Za (k:=?_))
   have hG3 := store_Get_sp s d jc3 (k83 a b x y m) (98 :: b)
   rw [(i3.txt.get (98 :: b)).1, g3] at hG3
   generalize (mlook (k83 a b x y m) (98 :: b)).isSome = q3 at hG3
   refine Zr (k:=Qv (k:=?_))
   refine wo_pv (pv_cat rfl rfl (by simp only [List.length_singleton]; omega)) rfl ?_
   rw [List.singleton_append]
   refine r_call1 hG3 rfl rfl rfl ?_
   refine Vv (k:=?_)
   refine wo_pv (pv_extract (v := vS (102 :: y)) rfl rfl) rfl ?_
   refine wo_pv (pv_extract (v := vB q3) rfl rfl) rfl ?_
   refine Qv (k:=Wq (Za (k:=?_)))
   have hCt := blob_Content_sp s d jc3 (k83 a b x y m) i3.txt b (by omega)
   rw [show ctnB (k83 a b x y m) b = some y from full_ctn g3 3] at hCt
   have hCk := blob_Check_sp s d jc3 (k83 a b x y m) i3.txt i3.NamK (by have := i3.len; omega)
   rw [hck] at hCk
   have hDp := blob_Depth_sp s d jc3 (k83 a b x y m) i3.txt b (by omega)
   rw [full_dep g3] at hDp
   refine Zr (k:=Qv (k:=?_))
   refine r_call1 hCt rfl rfl rfl ?_
   refine Vv (k:=?_)
   refine wo_pv (pv_extract (v := vS y) rfl rfl) rfl ?_
   refine wo_pv (pv_extract (v := vB true) rfl rfl) rfl ?_
   refine Qv (k:=Wq (Qc (k:=Qv (k:=Qv (k:=Gi 3 (t:=fun h71 => ?_) (f:=fun h71 => ?_))))))
   ·
    refine J1 (k:=I1 (k:=?_))
    refine wo_pv (pv_indexm (m := 0) Tryz.underlying9 rfl rfl rfl (by simp)) rfl ?_
    refine J1 (k:=P1 (k:=Vv (k:=Gi 8 (t:=fun h76 => ?_) (f:=fun h76 => ?_))))
    ·
     refine J1 (k:=I1 (k:=?_))
     refine wo_pv (pv_slice_inm (m := 1) (o := 41) Tryz.underlying9 rfl rfl rfl rfl rfl (by omega) (by simp; omega)) rfl ?_
     refine J1 (k:=J1 (k:=P1 (k:=Vv (k:=Gi 14 (t:=fun h82 => ?_) (f:=fun h82 => ?_)))))
     ·
      refine J1 (k:=J1 (k:=I1 (k:=?_)))
      refine wo_pv (pv_cat rfl rfl (by simp only [List.length_singleton]; omega)) rfl ?_
      rw [List.singleton_append]
      refine J1 (k:=P1 (k:=Vv (k:=Gi 20 (t:=fun h88 => ?_) (f:=fun h88 => ?_))))
      ·
       refine J1 (k:=J1 (k:=J1 (k:=P1 (k:=Vv (k:=Gi 25 (t:=fun h93 => ?_) (f:=fun h93 => ?_))))))
       ·
        refine J1 (k:=P1 (k:=Vv (k:=Gi 28 (t:=fun h96 => ?_) (f:=fun h96 => ?_))))
        ·
         refine J1 (k:=I1 (k:=?_))
         refine r_call1 hCk rfl rfl rfl ?_
         refine P1 (k:=Vv (k:=Gi 32 (t:=fun h100 => ?_) (f:=fun h100 => ?_)))
         ·
          refine J1 (k:=J1 (k:=I1 (k:=?_)))
          refine r_call1 hDp rfl rfl rfl ?_
          refine J1 (k:=P1 (k:=Vv (k:=Wq (Zt (k:=?_)))))
          exact fin_ret () (vs := [_]) (Cs := []) rfl (.tmp rfl .nil) rfl trivial ent_nil
         ·
          cases h100
          --done
        ·
         cases h96
         --done
       ·
        exact absurd rfl h93
        --done
      ·
       exact absurd rfl h88
       --done
     ·
      exact absurd hva h82
      --done
    ·
     exact absurd rfl h76
     --done
   ·
    exact absurd (by simp; omega) h71
    --done
end
structure Cd where
 l : UInt8
 args : List Bs
 deriving DecidableEq, Repr
def argsB (l : List Bs) : Bs := l.flatMap (fun a => 32 :: a)
def lineB (c : Cd) : Bs := c.l :: argsB c.args
def cardB (c : Cd) : Bs := lineB c ++ [10]
def bodyB (l : List Cd) : Bs := l.flatMap cardB
def sealB (s : Bs) : Bs := s ++ [90, 32] ++ shaB s ++ [10]
def printB (l : List Cd) : Bs := sealB (bodyB l)
def argOk (a : Bs) : Prop := a ≠ [] ∧ 32 ∉ a ∧ 10 ∉ a
instance (a : Bs) : Decidable (argOk a) := inferInstanceAs (Decidable (_ ∧ _ ∧ _))
def cd0 : Cd := ⟨0, []⟩
structure OkC (l : List Cd) (i : Nat) : Prop where
 lo : 65 ≤ (l.getD i cd0).l.toNat
 hi : (l.getD i cd0).l.toNat ≤ 89
 rise : 0 < i → (l.getD (i - 1) cd0).l.toNat ≤ (l.getD i cd0).l.toNat
 args : ∀ a ∈ (l.getD i cd0).args, argOk a
structure RightC (l : List Cd) : Prop where
 ne : l ≠ []
 ok : ∀ i, i < l.length → OkC l i
instance (l : List Cd) (i : Nat) : Decidable (OkC l i) := decidable_of_iff (65 ≤ (l.getD i cd0).l.toNat ∧ (l.getD i cd0).l.toNat ≤ 89 ∧ (0 < i → (l.getD (i - 1) cd0).l.toNat ≤ (l.getD i cd0).l.toNat) ∧ ∀ a ∈ (l.getD i cd0).args, argOk a) ⟨fun ⟨a, b, c, d⟩ => ⟨a, b, c, d⟩, fun ⟨a, b, c, d⟩ => ⟨a, b, c, d⟩⟩
instance (l : List Cd) : Decidable (RightC l) := decidable_of_iff (l ≠ [] ∧ ∀ i, i < l.length → OkC l i) ⟨fun ⟨a, b⟩ => ⟨a, b⟩, fun ⟨a, b⟩ => ⟨a, b⟩⟩
theorem mem_getD {α : Type} {l : List α} {d x : α} (h : x ∈ l) : ∃ i, i < l.length ∧ l.getD i d = x := by
 obtain ⟨i, hi, rfl⟩ := List.getElem_of_mem h
 exact ⟨i, hi, by simp [hi]⟩
theorem RightC.lets {l : List Cd} (r : RightC l) : ∀ c ∈ l, 65 ≤ c.l.toNat ∧ c.l.toNat ≤ 89 := by
 intro c hc
 obtain ⟨i, hi, rfl⟩ := mem_getD (d := cd0) hc
 exact ⟨(r.ok i hi).lo, (r.ok i hi).hi⟩
theorem RightC.args {l : List Cd} (r : RightC l) : ∀ c ∈ l, ∀ a ∈ c.args, argOk a := by
 intro c hc
 obtain ⟨i, hi, rfl⟩ := mem_getD (d := cd0) hc
 exact (r.ok i hi).args
theorem RightC.mk' {l : List Cd} (ne : l ≠ []) (lets : ∀ c ∈ l, 65 ≤ c.l.toNat ∧ c.l.toNat ≤ 89) (args : ∀ c ∈ l, ∀ a ∈ c.args, argOk a) (rise : l.Pairwise (fun a b => a.l.toNat ≤ b.l.toNat)) : RightC l := by
 refine ⟨ne, fun i hi => ?_⟩
 have e : ∀ j, j < l.length → l.getD j cd0 ∈ l := fun j hj => by simp [hj]
 refine ⟨(lets _ (e i hi)).1, (lets _ (e i hi)).2, fun h0 => ?_, args _ (e i hi)⟩
 have := List.pairwise_iff_getElem.1 rise (i - 1) i (by omega) hi (by omega)
 simpa [hi, show i - 1 < l.length by omega] using this
theorem RightC.rise {l : List Cd} (r : RightC l) : l.Pairwise (fun a b => a.l.toNat ≤ b.l.toNat) := by
 rw [List.pairwise_iff_getElem]
 have key : ∀ d i (h : i + d < l.length), (l[i]'(by omega)).l.toNat ≤ (l[i + d]).l.toNat := by
  intro d
  induction d with
  | zero => intros; simp
  | succ d ih =>
    intro i h
    have h1 := ih i (by omega)
    have h2 := (r.ok (i + d + 1) (by omega)).rise (by omega)
    simp [show i + d < l.length by omega, show i + d + 1 < l.length by omega] at h2
    exact Nat.le_trans h1 h2
 intro i j hi hj hij
 have := key (j - i) i (by omega)
 simpa [show i + (j - i) = j by omega] using this
/-! Parts of a text between marks. -/
/-- A text that some cards print. -/
def ReadsC (s : Bs) (l : List Cd) : Prop := RightC l ∧ printB l = s
theorem RightC.both {l : List Cd} (r : RightC l) : ∀ c ∈ l, 65 ≤ c.l.toNat ∧ ∀ a ∈ c.args, argOk a := fun c hc => ⟨(r.lets c hc).1, r.args c hc⟩
theorem u8eq {c d : UInt8} : c = d ↔ c.toNat = d.toNat := UInt8.toNat_inj.symm
def escC (c : UInt8) : Bs := if c.toNat = 32 then [92, 115] else if c.toNat = 10 then [92, 110] else if c.toNat = 92 then [92, 92] else [c]
def escB (s : Bs) : Bs := s.flatMap escC
def unC (c : UInt8) : Option UInt8 := if c.toNat = 115 then some 32 else if c.toNat = 110 then some 10 else if c.toNat = 92 then some 92 else none
def unescB : Bs → Option Bs
 | [] => some []
 | c :: r => if c.toNat = 92 then (match r with
     | [] => none
     | d :: r' => match unC d with
       | none => none
       | some e => (unescB r').map (e :: ·))
   else if c.toNat = 32 ∨ c.toNat = 10 then none else (unescB r).map (c :: ·)
theorem unescB_eq (c : UInt8) (r : Bs) : unescB (c :: r) = if c.toNat = 92 then (match r with
      | [] => none
      | d :: r' => match unC d with
        | none => none
        | some e => (unescB r').map (e :: ·))
    else if c.toNat = 32 ∨ c.toNat = 10 then none else (unescB r).map (c :: ·) := by
 cases r <;> simp only [unescB]
theorem escB_cons (c : UInt8) (s : Bs) : escB (c :: s) = escC c ++ escB s := by simp [escB]
theorem escC_ok (c : UInt8) : (∀ d ∈ escC c, d.toNat ≠ 32 ∧ d.toNat ≠ 10) ∧ 1 ≤ (escC c).length ∧ (escC c).length ≤ 2 := by
 unfold escC
 split
 · exact ⟨by decide, by decide, by decide⟩
 · split
   · exact ⟨by decide, by decide, by decide⟩
   · split
     · exact ⟨by decide, by decide, by decide⟩
     · rename_i h1 h2 h3
       exact ⟨fun d hd => by rw [List.mem_singleton.1 hd]; exact ⟨h1, h2⟩, by simp, by simp⟩
theorem escB_ok (s : Bs) : ∀ d ∈ escB s, d.toNat ≠ 32 ∧ d.toNat ≠ 10 := by
 intro d hd
 obtain ⟨c, _, hc⟩ := List.mem_flatMap.1 hd
 exact (escC_ok c).1 d hc
theorem escB_len (s : Bs) : s.length ≤ (escB s).length ∧ (escB s).length ≤ 2 * s.length := by
 induction s with
 | nil => exact ⟨Nat.le_refl _, Nat.le_refl _⟩
 | cons c s ih =>
   have := escC_ok c
   rw [escB_cons, List.length_append, List.length_cons]; omega
theorem mem32 {a : Bs} (h : ∀ d ∈ a, d.toNat ≠ 32 ∧ d.toNat ≠ 10) : 32 ∉ a ∧ 10 ∉ a := ⟨fun e => (h _ e).1 rfl, fun e => (h _ e).2 rfl⟩
theorem argOk_iff {a : Bs} : argOk a ↔ a.length ≠ 0 ∧ ∀ d ∈ a, d.toNat ≠ 32 ∧ d.toNat ≠ 10 := by
 constructor
 · rintro ⟨h1, h2, h3⟩
   refine ⟨fun e => h1 (List.eq_nil_of_length_eq_zero e), fun d hd => ⟨fun e => h2 ?_, fun e => h3 ?_⟩⟩
   · have : d = 32 := u8eq.2 e
     exact this ▸ hd
   · have : d = 10 := u8eq.2 e
     exact this ▸ hd
 · rintro ⟨h1, h2⟩
   exact ⟨fun e => h1 (by simp [e]), mem32 h2⟩
theorem argOk_esc {s : Bs} (h : s ≠ []) : argOk (escB s) := by
 rw [argOk_iff]
 refine ⟨?_, escB_ok s⟩
 have := (escB_len s).1
 have := List.length_pos_iff.2 h
 omega
/-- A word: what may be a name. -/
def wordP (s : Bs) : Prop := (∀ c ∈ s, 32 < c.toNat ∧ c.toNat ≤ 126 ∧ c.toNat ≠ 92) ∧ 1 ≤ s.length ∧ s.length ≤ 12
instance (s : Bs) : Decidable (wordP s) := inferInstanceAs (Decidable (_ ∧ _ ∧ _))
theorem wordP_ok {s : Bs} (h : wordP s) : argOk s := argOk_iff.2 ⟨by have := h.2.1; omega, fun d hd => by have := h.1 d hd; omega⟩
theorem isN_ok {s : Bs} (h : s.length = 40) (k : ∀ c ∈ s, c ∈ hexD) : argOk s := argOk_iff.2 ⟨by omega, fun d hd => by
 have := k d hd
 revert this; revert d; intro d _ hm
 have key : ∀ d ∈ hexD, d.toNat ≠ 32 ∧ d.toNat ≠ 10 := by decide
 exact key d hm⟩
section
set_option maxRecDepth 100000
def isN (s : Bs) : Bool := decide (s.length = 40 ∧ ∀ c ∈ s, c ∈ hexD)
end
section
set_option maxRecDepth 100000
theorem unesc_len : ∀ (n : Nat) (s t : Bs), s.length ≤ n → unescB s = some t → t.length ≤ s.length := by
 intro n
 induction n with
 | zero =>
   intro s t hs h
   have : s = [] := List.eq_nil_of_length_eq_zero (by omega)
   subst this
   cases h; simp
 | succ n ih =>
   intro s t hs h
   cases s with
   | nil => cases h; simp
   | cons c r =>
     simp only [List.length_cons] at hs ⊢
     rw [unescB_eq] at h
     split at h
     · split at h
       · cases h
       · rename_i d r'
         simp only [List.length_cons] at hs ⊢
         split at h
         · cases h
         · cases e : unescB r' with
           | none => rw [e] at h; cases h
           | some u =>
             rw [e] at h
             cases h
             have := ih r' u (by omega) e
             simp only [List.length_cons]; omega
     · split at h
       · cases h
       · cases e : unescB r with
         | none => rw [e] at h; cases h
         | some u =>
           rw [e] at h
           cases h
           have := ih r u (by omega) e
           simp only [List.length_cons]; omega
theorem unescB_len {s t : Bs} (h : unescB s = some t) : t.length ≤ s.length := unesc_len _ s t (Nat.le_refl _) h
/-! Words that blanks part. -/
end
end Go.Proofs.YtibccdcemcgkeaaGreat
