/- Texts of this proof, put together: Slic, SHash4, SBlob3, SBlob4, PPlays8. -/
import Derived.Test.YtibccdcemcgkeaaGreatQ14
import Derived.Test.YtibccdcemcgkeaaGreatQ13
set_option linter.unusedVariables false
set_option linter.unusedSimpArgs false
namespace Go.Proofs.YtibccdcemcgkeaaGreat
section
/-- The address of a slice that begins so many elements on. -/
def fromA (a : Option Addr) (m cap kk : Nat) : Option Addr := if m < cap then elemA a kk else a
section
variable {r : Option Nat} {P : Program} {n : Nat} {L : Loc} {Hs : List HP} {Q : Out} {ty : TypeId}
theorem pv_slslice_froma {x y : Operand} {a : Option Addr} {len cap m kk : Nat} {k : IntKind} {i : Int} {t e : TypeId} {ti : TypeInfo} {sz : Nat} (ht : P.underlying t = some (.slice e)) (hi : P.info? e = some ti) (hsz : ti.size = sz) (hx : ev L x = some (.slice a len cap)) (hy : ev L y = some (.int k i)) (hm : i = (m : Int)) (hk : m * sz = kk) (h : m ≤ len) (hc : len ≤ cap) (ha : ∀ b, a = some b → b.spot = none) :
    PV P n L (.slice t x (some y) none none) ty (.slice (fromA a m cap kk) (len - m) (cap - m)) := by
 by_cases hlt : m < cap
 · have := pv_slslice_fromm (P := P) (n := n) (ty := ty) ht hi hsz hx hy hm hk h hlt ha
   rw [fromA, if_pos hlt]; exact this
 · subst hm
   have := pv_slslice_from (P := P) (n := n) (ty := ty) ht hi hx hy (by omega) (by omega)
   rw [Int.toNat_natCast, if_pos (by omega)] at this
   rw [fromA, if_neg hlt]; exact this
end
end
section
set_option maxRecDepth 100000
theorem sla_ceAt {b : Nat} {T : TypeId} {l : List Value} (off k : Nat) : SlA (Ce b T l) (some ⟨b, off, none⟩) ((l.drop off).take k) := fun x => .inr ⟨b, off, l, T, (0, 0), rfl, .inr (by have : _ = Res.one b _ := x; rw [this]; exact Res.one_same _ _), by rw [List.length_take, List.take_eq_take_iff.2]; simp⟩
def hexP (x : UInt32) (j : Nat) : Bs := (List.range j).map fun j => hexD.getD ((x >>> UInt32.ofNat (28 - 4 * j)) &&& 15).toNat 0
theorem hexP_succ (x : UInt32) (j : Nat) : hexP x (j + 1) = hexP x j ++ [hexD.getD ((x >>> UInt32.ofNat (28 - 4 * j)) &&& 15).toNat 0] := by simp [hexP, List.range_succ]
theorem and15 (x : UInt32) : (x &&& 15).toNat < 16 := by
 rw [UInt32.toNat_and]; exact Nat.lt_of_le_of_lt Nat.and_le_right (by decide)
theorem hash_Sum_sp (s : Bs) (hs : s.length ≤ 1099511627776) : SpF Tryz.prog 35 [vS s] (vS (shaB s)) := by
 have hpl := padB_len s
 have hbu : blocksN s ≤ 17179869185 := by unfold blocksN; omega
 have hb1 : 1 ≤ blocksN s := by unfold blocksN; omega
 obtain ⟨N, hN⟩ : ∃ N, N = blocksN s := ⟨_, rfl⟩
 obtain ⟨p, hp⟩ : ∃ p, p = padB s := ⟨_, rfl⟩
 have hsha : shaB s = (sumsW p h0W N).list.flatMap hexW := by rw [hN, hp]; rfl
 have hpd := hash_padded_sp s hs
 rw [← hN] at hpl hbu hb1 hpd
 rw [← hp] at hpl hpd
 have hpv : (vUs p).length = 64 * N := by simp [vUs, hpl]
 refine Sp.body (n := 39) Tryz.call35 Tryz.func35 rfl rfl rfl ?_
 refine Qc (k:=Vv (k:=Wq (Qc (k:=?_))))
 refine wo_pv (pv_buildA (vs := [_, _, _, _, _]) Tryz.underlying103 ti102 rfl rfl rfl ti103 rfl rfl) rfl ?_
 refine Zc [.int .u32 0, .int .u32 0, .int .u32 0, .int .u32 0, .int .u32 0] (k:=fun b3 => Zp (k:=Wq (Za (k:=Qc (k:=Vv (k:=?_))))))
 refine r_callX hpd rfl rfl rfl (fun g _ => ?_)
 refine Vv (k:=Wq (Zb (k:=?_)))
 refine p_loop (fun (i : { x : Nat × Option Addr // x.1 ≤ N ∧ (x.1 < N → x.2 = some ⟨g, 64 * x.1, none⟩) ∧ ∀ b, x.2 = some b → b.spot = none }) => [(3, .pointer (some ⟨b3, 0, none⟩)), (4, .slice i.1.2 (64 * N - 64 * i.1.1) (64 * N - 64 * i.1.1))]) (fun (i : { x : Nat × Option Addr // x.1 ≤ N ∧ (x.1 < N → x.2 = some ⟨g, 64 * x.1, none⟩) ∧ ∀ b, x.2 = some b → b.spot = none }) => [Ce b3 103 ((sumsW p h0W i.1.1).list.map vW), Ce g 5 (vUs p)]) (fun (i : { x : Nat × Option Addr // x.1 ≤ N ∧ (x.1 < N → x.2 = some ⟨g, 64 * x.1, none⟩) ∧ ∀ b, x.2 = some b → b.spot = none }) => N - i.1.1) rfl (⟨(0, some ⟨g, 0, none⟩), Nat.zero_le _, fun _ => rfl, fun b e => by cases e; rfl⟩) ?_ ?_ (fun i => ?_)
 · exact ⟨rfl, rfl, trivial⟩
 ·
  exact ent_step (ce_norm (by rfl) (by rfl)) ent_pick
 obtain ⟨⟨i, ad⟩, hi, had, hsp⟩ := i
 dsimp only at hi had hsp ⊢
 try dsimp only
 refine Za (k:=Qc (k:=Qv (k:=Vv (k:=Wq (Zi (t:=fun h14 => ?_) (f:=fun h14 => ?_))))))
 ·
  refine Zk (k:=Ya (Za (k:=Zb (k:=?_))))
  have hiN : i < N := by omega
  have hal := had hiN
  subst hal
  have hvt : vUs ((p.drop (64 * i)).take 64) = ((vUs p).drop (64 * i)).take 64 := by simp [vUs, List.map_take, List.map_drop]
  refine Zr (k:=Vv (k:=?_))
  refine wo_pv (pv_slslice_tom (m := 64) Tryz.underlying89 ti5 rfl rfl rfl (by omega)) rfl ?_
  refine r_call1 (hash_take_sp (B := Ce g 5 (vUs p)) b3 (64 * N - 64 * i) (sumsW p h0W i) ((p.drop (64 * i)).take 64) (by rw [List.length_take, List.length_drop]; omega) (by rw [hvt]; exact sla_ceAt (64 * i) 64)) rfl rfl rfl ?_
  refine Wn (Yb (Ya (Zr (k:=Vv (k:=?_)))))
  refine wo_pv (pv_slslice_froma (m := 64) (kk := 64) Tryz.underlying89 ti5 rfl rfl rfl rfl rfl (by omega) (Nat.le_refl _) hsp) rfl ?_
  refine Vv (k:=Wn ?_)
  refine to_inv ⟨(i + 1, fromA (some ⟨g, 64 * i, none⟩) 64 (64 * N - 64 * i) 64), by dsimp only; omega, fun h => ?_, fun b e => ?_⟩ (by dsimp only; omega) ⟨rfl, ?_, trivial⟩ ?_
  · dsimp only at h ⊢
    rw [fromA, if_pos (by omega)]
    simp only [elemA]
    congr 2
  · dsimp only at e
    unfold fromA at e
    split at e
    · simp only [elemA, Option.some.injEq] at e; subst e; rfl
    · exact hsp b e
  · dsimp only
    show some (Value.slice _ _ _) = some (Value.slice _ _ _)
    rw [show 64 * N - 64 * i - 64 = 64 * N - 64 * (i + 1) from by omega]
  · dsimp only
    rw [show sumsW p h0W (i + 1) = takeW (sumsW p h0W i) ((p.drop (64 * i)).take 64) from rfl]
    exact ent_pick
 ·
  refine Ze (k:=Xa (Xi (Xb (Ya (Za (k:=?_))))))
  have hiN : i = N := by omega
  subst hiN
  obtain ⟨hl, hhl⟩ : ∃ hl, hl = (sumsW p h0W i).list := ⟨_, rfl⟩
  have hl5 : hl.length = 5 := by rw [hhl]; rfl
  have hag : (Value.agg #[vW (sumsW p h0W i).a, vW (sumsW p h0W i).b, vW (sumsW p h0W i).c, vW (sumsW p h0W i).d, vW (sumsW p h0W i).e]) = .agg (hl.map vW).toArray := by rw [hhl]; rfl
  rw [← hhl] at hsha
  refine Zr (k:=Vv (k:=Wq (Za (k:=Qc (k:=Zm [_, _, _, _, _] (k:=Vv (k:=Wq (Zb (k:=?_)))))))))
  refine p_loop (fun (i : { x : (Option Addr × Nat) × Nat // x.2 ≤ 5 }) => [(5, .slice i.1.1.1 (8 * i.1.2) i.1.1.2), (20, .agg (hl.map vW).toArray), (21, vI i.1.2)]) (fun (i : { x : (Option Addr × Nat) × Nat // x.2 ≤ 5 }) => [Row 5 1 (.slice i.1.1.1 (8 * i.1.2) i.1.1.2) (8 * i.1.2) (vUs ((hl.take i.1.2).flatMap hexW))]) (fun (i : { x : (Option Addr × Nat) × Nat // x.2 ≤ 5 }) => 5 - i.1.2) rfl (⟨((none, 0), 0), Nat.zero_le _⟩) ?_ ?_ (fun i => ?_)
  · exact ⟨rfl, by subst hhl; rfl, rfl, trivial⟩
  ·
   exact ent_step row_nil ent_nil
  obtain ⟨⟨⟨a1, c1⟩, m⟩, hm⟩ := i
  dsimp only at hm ⊢
  try dsimp only
  refine Qc (k:=Vv (k:=Wq (Za (k:=Zi (t:=fun h22 => ?_) (f:=fun h22 => ?_)))))
  ·
   refine Zk (k:=Ya (Za (k:=Zb (k:=Qc (k:=?_)))))
   refine wo_pv (pv_aidx Tryz.underlying103 Tryz.underlying102 ti102 rfl rfl rfl rfl rfl (by omega) (vW_getD (m := m) (by omega))) rfl ?_
   refine Vv (k:=Wq (Za (k:=?_)))
   obtain ⟨x, hx⟩ : ∃ x, x = hl.getD m 0 := ⟨_, rfl⟩
   rw [← hx]
   obtain ⟨xs, hxs⟩ : ∃ xs, xs = (hl.take m).flatMap hexW := ⟨_, rfl⟩
   rw [← hxs]
   refine Zr (k:=Vv (k:=Wq (Zb (k:=?_))))
   refine p_loop (fun (i : { y : (Option Addr × Nat) × Nat // y.2 ≤ 8 }) => [(5, .slice i.1.1.1 (8 * m + i.1.2) i.1.1.2), (7, vW x), (8, vI (28 - 4 * i.1.2)), (20, .agg (hl.map vW).toArray), (21, vI m)]) (fun (i : { y : (Option Addr × Nat) × Nat // y.2 ≤ 8 }) => [Row 5 1 (.slice i.1.1.1 (8 * m + i.1.2) i.1.1.2) (8 * m + i.1.2) (vUs (xs ++ hexP x i.1.2))]) (fun (i : { y : (Option Addr × Nat) × Nat // y.2 ≤ 8 }) => 8 - i.1.2) rfl (⟨((a1, c1), 0), Nat.zero_le _⟩) ?_ ?_ (fun i => ?_)
   · exact ⟨rfl, rfl, rfl, rfl, rfl, trivial⟩
   ·
    dsimp only
    rw [show hexP x 0 = [] from rfl, List.append_nil]
    exact ent_pick
   obtain ⟨⟨⟨a2, c2⟩, j⟩, hj⟩ := i
   dsimp only at hj ⊢
   try dsimp only
   refine Za (k:=Qc (k:=Qv (k:=Wq (Zi (t:=fun h25 => ?_) (f:=fun h25 => ?_)))))
   ·
    refine Zk (k:=Ya (Za (k:=Zb (k:=Zr (k:=Qv (k:=Vv (k:=?_)))))))
    refine wo_pv (pv_shrW (m := 28 - 4 * j) rfl rfl (by omega) (by omega)) rfl ?_
    refine wo_pv (pv_andW (b := 15) rfl rfl) rfl ?_
    refine wo_pv (pv_indexm (l := hexD) (m := ((x >>> UInt32.ofNat (28 - 4 * j)) &&& 15).toNat) Tryz.underlying9 rfl rfl rfl (show _ < 16 from and15 _)) rfl ?_
    refine Zv [_] (cs := [_]) (k:=fun b34 => ?_)
    refine r_append1 (sz := 1) (bytes := 1) Tryz.underlying89 ti5 rfl rfl rfl rfl rfl rfl rfl (by rfl) (by rfl) (by omega) (by simp only [maxLen]; omega) rfl (fun a35 c35 => ?_)
    refine Vv (k:=Wn (Yb (Ya (Zr (k:=Qv (k:=Vv (k:=Wn ?_)))))))
    refine to_inv ⟨((a35, c35), j + 1), by dsimp only; omega⟩ (by dsimp only; omega) ⟨rfl, rfl, vI_eq (by dsimp only; omega), rfl, rfl, trivial⟩ ?_
    dsimp only
    refine row_norm1 (by omega) ?_
    rw [hexP_succ, ← List.append_assoc]
    simp [vUs]
   ·
    refine Ze (k:=Xa (Xi (Xb (Yb (Ya (Zr (k:=Qv (k:=Wn ?_))))))))
    have hj8 : j = 8 := by omega
    subst hj8
    have hml : m < hl.length := by omega
    have hxe : xs ++ hexP x 8 = (hl.take (m + 1)).flatMap hexW := by
     rw [List.take_succ_eq_append_getElem hml, List.flatMap_append, ← hxs]
     have : x = hl[m] := by rw [hx]; simp [hml]
     rw [this]; simp [hexW, hexP]
    refine to_inv ⟨((a2, c2), m + 1), by dsimp only; omega⟩ (by dsimp only; omega) ⟨sl_eq (by dsimp only; omega), rfl, rfl, trivial⟩ ?_
    dsimp only
    rw [← hxe]
    exact ent_pick
  ·
   refine Ze (k:=Xa (Xi (Xb (Ya (Za (k:=?_))))))
   have hm5 : m = 5 := by omega
   subst hm5
   rw [List.take_of_length_le (by omega), ← hsha]
   refine Zr (k:=Vv (k:=?_))
   refine wo_row (fun h => by simp at h) (fun gg cap cur e1 e2 e3 e4 e5 e6 => ?_)
   cases e1
   refine r_b2s (l := shaB s) Tryz.underlying89 Tryz.underlying9 Tryz.underlying5 rfl (by simpa using e6) (by omega) rfl ?_
   refine Vv (k:=Wq (Zt (k:=?_)))
   refine fin_ret () (vs := [_]) (Cs := []) rfl (.tmp rfl .nil) rfl trivial ?_
   exact ent_nil
end
section
set_option maxRecDepth 100000
theorem zb37ret4 {G : Prop} (h : G := by
    unfold rowF
    try dsimp only
    try rw [if_pos (by first | (left; omega) | (right; left; omega) | (right; right; assumption))]
    exact fin_ret () (vs := [_]) (Cs := [Ce b8 77 [vS (98 :: name), vS (102 :: content), .bool false]]) rfl (.cell (l := [vS (98 :: name), vS (102 :: content), .bool false]) (us := [vS (98 :: name), vS (102 :: content), .bool false]) rfl (shows_ce (T := 77)) Tryz.underlying77 rfl ti77 (by exact Nat.le_of_ble_eq_true rfl) rfl .nil) rfl trivial ent_pick) : G := h
theorem zb37ret7 {G : Prop} (h : G := by
    rw [if_pos (by first | exact .inl h49 | exact .inr (by omega))]
    exact fin_ret () (vs := [_]) (Cs := [Ce b8 77 [vS (98 :: name), vS (102 :: content), .bool false]]) rfl (.cell (l := [vS (98 :: name), vS (102 :: content), .bool false]) (us := [vS (98 :: name), vS (102 :: content), .bool false]) rfl (shows_ce (T := 77)) Tryz.underlying77 rfl ti77 (by exact Nat.le_of_ble_eq_true rfl) rfl .nil) rfl trivial ent_pick) : G := h
set_option maxHeartbeats 2000000 in
theorem blob_Row_sp (s p : Nat) (J : Jn) (K : Ks) (hK : TxtK K) (name content base : Bs) (hn : name.length ≤ 1073741824) (hc : content.length ≤ 1073741824) (hb : base.length ≤ 1073741824) :
    Sp1 Tryz.prog 37 [.pointer (some ⟨s, 0, none⟩), vS name, vS content, vS base] [IsS s p J K] (.agg (rowC (rowB K name content base)).toArray) [IsS s p J K] := by
 obtain ⟨y, hy⟩ : ∃ y, y = ctnB K base := ⟨_, rfl⟩
 have hC := blob_Content_sp s p J K hK base (by omega)
 have hD := blob_Depth_sp s p J K hK base (by omega)
 have hS := blob_stands_sp s p J K hK base name (by omega)
 have hyl : ∀ t, y = some t → t.length ≤ 1073741824 := fun t e => ctnR_len hK (k := 3) (n := base) (by rw [← e, hy]; rfl)
 rw [← hy] at hC
 unfold rowB
 rw [← hy]
 generalize depB K base = dd at hD ⊢
 generalize staB K base name = st at hS ⊢
 refine Sp.body (n := 66) Tryz.call37 Tryz.func37 rfl rfl rfl ?_
 refine Qc (k:=Zc [vS [], vS [], .bool false] (k:=fun b8 => Wq (Qc (k:=Vv (k:=?_)))))
 refine wo_pv (pv_cat rfl rfl (by simp only [List.length_singleton]; omega)) rfl ?_
 rw [List.singleton_append]
 refine Vv (k:=?_)
 refine wo_pv (pv_cat rfl rfl (by simp only [List.length_singleton]; omega)) rfl ?_
 rw [List.singleton_append]
 refine Vx (Ps [_, _, .bool false]) (k:=Zc [vS [], vS [], .bool false] (k:=fun b9 => Zp (k:=Wq (Qc (k:=Qv (k:=?_))))))
 refine r_call1 hC rfl rfl rfl ?_
 refine Vv (k:=?_)
 refine wo_pv (pv_extract (v := vS (y.getD [])) rfl rfl) rfl ?_
 refine wo_pv (pv_extract (v := vB y.isSome) rfl rfl) rfl ?_
 refine Qv (k:=Wq (Za (k:=Qc (k:=Qv (k:=Vv (k:=Gi 2 (t:=fun h26 => ?_) (f:=fun h26 => ?_)))))))
 ·
  obtain rfl : y = none := by cases y with | none => rfl | some z => simp at h26
  refine O1 (k:=O1 (k:=O1 (k:=P1 (k:=Vv (k:=O1 (k:=O1 (k:=O1 (k:=O1 (k:=P1 (k:=Vv (k:=O1 (k:=?_))))))))))))
  refine O1 (k:=O1 (k:=O1 (k:=P1 (k:=Wq (Z1 (k:=Qc (k:=Zm [_, _, _] (k:=Zp (k:=Wq (Zt (k:=?_)))))))))))
  refine Va ?_
  exact zb37ret4
 ·
  obtain ⟨src, rfl⟩ : ∃ z, y = some z := by cases y with | none => simp at h26 | some z => exact ⟨z, rfl⟩
  have hsl := hyl src rfl
  dsimp only [Option.getD_some]
  refine J0 (k:=J0 (k:=J0 (k:=P0 (k:=Vv (k:=Gi 7 (t:=fun h31 => ?_) (f:=fun h31 => ?_))))))
  ·
   refine O1 (k:=O1 (k:=O1 (k:=O1 (k:=P1 (k:=Vv (k:=O1 (k:=O1 (k:=O1 (k:=O1 (k:=P1 (k:=Wq ?_)))))))))))
   refine Z1 (k:=Qc (k:=Zm [_, _, _] (k:=Zp (k:=Wq (Zt (k:=Va ?_))))))
   exact zb37ret4
  ·
   refine J0 (k:=J0 (k:=I0 (k:=?_)))
   refine r_call1 hD rfl rfl rfl ?_
   refine J0 (k:=P0 (k:=Vv (k:=Gi 13 (t:=fun h37 => ?_) (f:=fun h37 => ?_))))
   ·
    refine O1 (k:=O1 (k:=O1 (k:=O1 (k:=P1 (k:=Wq (Z1 (k:=Qc (k:=Zm [_, _, _] (k:=Zp (k:=Wq ?_))))))))))
    refine Zt (k:=Va ?_)
    exact zb37ret4
   ·
    refine J0 (k:=J0 (k:=J0 (k:=I0 (k:=?_))))
    refine r_call1 hS rfl rfl rfl ?_
    refine P0 (k:=Wq (Zi (t:=fun h42 => ?_) (f:=fun h42 => ?_)))
    ·
     refine Qc (k:=Zm [_, _, _] (k:=Zp (k:=Wq (Zt (k:=Va ?_)))))
     exact zb37ret4
    ·
     have hnot : ¬ (base.length ≠ 40 ∨ 3 ≤ dd ∨ st = true) := by
      rintro (h | h | h)
      · omega
      · omega
      · first
        | (rw [h] at h42; cases h42)
        | (exact absurd h (by assumption))
        | simp_all
     unfold rowF
     dsimp only
     rw [if_neg hnot]
     have hbl : base.length = 40 := by omega
     refine Zk (k:=Ya (Qc (k:=Qv (k:=?_))))
     refine r_callF (delta_Make_sp src content hsl hc) rfl rfl rfl ?_
     obtain ⟨m, hm⟩ : ∃ m, m = makeB src content := ⟨_, rfl⟩
     rw [← hm]
     refine Vv (k:=Wq (Za (k:=Qc (k:=Qv (k:=Vv (k:=Gi 2 (t:=fun h49 => ?_) (f:=fun h49 => ?_)))))))
     ·
      refine O1 (k:=O1 (k:=O1 (k:=O1 (k:=O1 (k:=O1 (k:=O1 (k:=P1 (k:=Wq (Z1 (k:=Qc (k:=?_)))))))))))
      refine Zm [_, _, _] (k:=Zp (k:=Wq (Zt (k:=Va ?_))))
      exact zb37ret7
     ·
      refine J0 (k:=J0 (k:=J0 (k:=J0 (k:=J0 (k:=J0 (k:=?_))))))
      refine J0 (k:=P0 (k:=Wq (Zi (t:=fun h57 => ?_) (f:=fun h57 => ?_))))
      ·
       refine Qc (k:=Zm [_, _, _] (k:=Zp (k:=Wq (Zt (k:=Va ?_)))))
       exact zb37ret7
      ·
       refine Zk (k:=Ya (Za (k:=?_)))
       have hml : (m.length : Int) < (content.length : Int) - 1 - 40 := by omega
       rw [if_neg (by rintro (h | h); exact absurd h (by assumption); omega)]
       refine Zr (k:=Vv (k:=?_))
       refine wo_pv (pv_cat rfl rfl (by simp only [List.length_singleton]; omega)) rfl ?_
       rw [List.singleton_append]
       refine Vv (k:=?_)
       refine wo_pv (pv_cat rfl rfl (by simp only [List.length_singleton]; omega)) rfl ?_
       rw [List.singleton_append]
       refine Vv (k:=?_)
       refine wo_pv (pv_cat rfl rfl (by simp only [List.length_cons]; omega)) rfl ?_
       rw [List.cons_append]
       refine Vx (Ps [_, _, .bool false]) (k:=Zp (k:=Wq (Zt (k:=?_))))
       exact fin_ret () (vs := [_]) (Cs := [Ce b8 77 [vS (98 :: name), vS (100 :: (base ++ m)), .bool false]]) rfl (.cell (l := [vS (98 :: name), vS (100 :: (base ++ m)), .bool false]) (us := [vS (98 :: name), vS (100 :: (base ++ m)), .bool false]) rfl (shows_ce (T := 77)) Tryz.underlying77 rfl ti77 (by exact Nat.le_of_ble_eq_true rfl) rfl .nil) rfl trivial ent_pick
theorem blob_Names_sp (s : Nat) : Sp Tryz.prog 44 [.pointer (some ⟨s, 0, none⟩)] [] (X := Nat) (fun b => .func (.func 99) #[] #[.pointer (some ⟨b, 0, none⟩)]) (fun _ => True) (fun b => [Ce b 72 [.pointer (some ⟨s, 0, none⟩)]]) := by
 refine Sp.body (n := 4) Tryz.call44 Tryz.func44 rfl rfl rfl ?_
 refine Qc (k:=Zx [_] (k:=fun b1 => Vv (k:=Wq (Qc (k:=Qv (k:=Wq (Zt (k:=?_))))))))
 refine fin_ret b1 (vs := [_]) (Cs := []) rfl (.tmp rfl .nil) rfl trivial ?_
 exact ent_pick
theorem fromS_98 {K : Ks} {x : Bs × Value} (h : x ∈ fromS K [98]) : ∃ n, x.1 = 98 :: n := by
 have hp := (fromS_mem h).2.1
 cases hx : x.1 with
 | nil => rw [hx] at hp; simp [Lib.hasPrefix] at hp
 | cons c n =>
   rw [hx] at hp
   have : 98 = c := by simpa [Lib.hasPrefix] using hp
   exact ⟨n, by rw [← this]⟩
set_option maxHeartbeats 2000000 in
theorem blob_Names_itB (s p b : Nat) (J : Jn) (K : Ks) (hK : K.length ≤ 4398046511104) :
    IterB Tryz.prog 99 [.pointer (some ⟨b, 0, none⟩)] (fun w : Bs => [vS w]) (okL (nmsB K)) (stopL (nmsB K)) (IsS s p J K) [Ce b 72 [.pointer (some ⟨s, 0, none⟩)]] [Ce b 72 [.pointer (some ⟨s, 0, none⟩)]] (nmsB K) (fun _ => .tuple #[]) := by
 intro y Jy J0 Jx ys hj1 hj2
 obtain ⟨ly, rfl, hys⟩ := id ys
 refine Sp.body (n := 13) Tryz.call99 Tryz.func99 rfl rfl rfl ?_
 refine Qc (k:=Zx [_] (k:=fun b2 => Wq (Qc (k:=Zd (k:=?_)))))
 refine r_callX (store_From_sp s [98]) rfl rfl rfl (fun x5 _ => ?_)
 refine Wq (Zb (k:=?_))
 refine p_rangeFuncB (fun pre => [Jy (pre.map fun x => x.1.drop 1), Ce b2 112 [.func (.yield ly) #[] #[]], Ce b 72 [.pointer (some ⟨s, 0, none⟩)]]) (fun j pre => if j = none then [Jx (pre.map fun x => x.1.drop 1), Ce b 72 [.pointer (some ⟨s, 0, none⟩)]] else [Pu False]) (fun pre => [J0 (pre.map fun x => x.1.drop 1), Ce b2 112 [.func (.yield ly) #[] #[]], Ce b 72 [.pointer (some ⟨s, 0, none⟩)]]) rfl (store_From_itB x5.1 x5.2 s p J K [98] hK) rfl (fun _ => by rfl) rfl (fun pre => ?_) (fun pre => ?_) ?_ (fun l pre w hok => ?_) ?_ (fun j pre hs => ?_)
 · (refine ent_open2 (hj1 (pre.map fun x => x.1.drop 1)) ?_; exact ent_pick)
 · (refine ent_fold2 (hj2 (pre.map fun x => x.1.drop 1)) ?_; exact ent_pick)
 · (refine ent_app ?_; rw [List.map_nil]; exact ent_pick)
 ·
  obtain ⟨k, v⟩ := w
  obtain ⟨rr, hrr⟩ := hok
  obtain ⟨nm, hnm⟩ := fromS_98 (K := K) (x := (k, v)) (by rw [hrr]; simp)
  dsimp only at hnm
  subst hnm
  refine Zr (k:=Vv (k:=Wg (Zb (k:=Za (k:=Dw [Ce b2 112 [.func (.yield ly) #[] #[]]] (k:=?_))))))
  refine Di 0 (t:=Ul) (k:=Dv 1 (k:=?_))
  refine d_first 2 rfl rfl rfl (by kernel_rfl) (by kernel_rfl) (tl_pv (pv_slice_fromm (m := 1) Tryz.underlying9 rfl rfl rfl (by simp))) ?_
  refine Dn 3 (k:=?_)
  refine an_yield ys (pre.map fun x => x.1.drop 1) nm ⟨rr.map fun x => x.1.drop 1, by rw [nmsB, hrr]; simp⟩ rfl rfl rfl ?_ ?_
  ·
   refine Dv 4 (k:=Dd (k:=Ya (Z0 (k:=Zk (k:=Yb ?_)))))
   refine to_round ?_
   simp only [List.map_append, List.map_cons, List.map_nil, List.drop_succ_cons, List.drop_zero]
   exact ent_pick
  ·
   refine Dv 4 (k:=Dd (k:=Ya (Z1 (k:=Zt (k:=Vb ?_)))))
   refine to_round_ret ?_
   rw [if_pos rfl]
   simp only [List.map_append, List.map_cons, List.map_nil, List.drop_succ_cons, List.drop_zero]
   exact ent_pick
 ·
  skip
  refine Yb ?_
  refine fin_end none (vs := []) (Cs := []) rfl .nil rfl (fun pre e => by cases e) ?_
  simp only [endsAt]
  rw [show (fromS K [98]).map (fun x => x.1.drop 1) = nmsB K from rfl]
  exact ent_pick
 ·
  by_cases hj : j = none
  · subst hj
    rw [if_pos rfl]
    refine Zt (k:=Vb ?_)
    obtain ⟨h1, r, hr⟩ := hs
    refine fin_ret (some (pre.map fun x => x.1.drop 1)) (vs := []) (Cs := []) rfl .nil rfl (fun q e => by cases e; exact ⟨by simpa using h1, r.map fun x => x.1.drop 1, by rw [nmsB, hr, List.map_append]⟩) ?_
    simp only [endsAt]
    exact ent_pick
  · rw [if_neg hj]
    exact wc_no (fun s => by obtain ⟨_, _, _, _, a, _⟩ := s; exact a)
theorem nms_len2 (K : Ks) : (nmsB K).length ≤ K.length := by
 rw [nmsB, List.length_map, fromS, fromL, List.length_map]
 exact Nat.le_trans (List.length_filter_le _ _) (by rw [keysS_len]; exact Nat.le_refl _)
theorem nms_name {K : Ks} {n : Bs} (h : n ∈ nmsB K) : 98 :: n ∈ K.map (·.1) := by
 obtain ⟨x, hx, rfl⟩ := List.mem_map.1 h
 obtain ⟨m, hm⟩ := fromS_98 hx
 have := (fromS_mem hx).1
 rw [hm] at this ⊢
 exact this
/-- Names are not too long. -/
def NamK (K : Ks) : Prop := ∀ k ∈ K.map (·.1), k.length ≤ 1073741824
theorem zb41roundret {G : Prop} (h : G := by
    refine to_round_ret ?_
    rw [if_pos rfl]
    first
    | exact ent_pu hbad ent_pick
    | exact ent_pu (hno (fun t e => by cases e; assumption)) ent_pick) : G := h
theorem zb41ret {G : Prop} (h : G := by
    first
    | exact fin_ret () (vs := [_]) (Cs := [Ce b2 4 [vB false]]) rfl (.cell1 (l := [vB false]) rfl (shows_ce (T := 4)) Tryz.underlying4 rfl rfl .nil) rfl trivial ent_pick
    | exact fin_ret () (vs := [_]) (Cs := [Ce b2 4 [vB true]]) rfl (.cell1 (l := [vB true]) rfl (shows_ce (T := 4)) Tryz.underlying4 rfl rfl .nil) rfl trivial ent_pick) : G := h
set_option maxHeartbeats 2000000 in
theorem blob_Check_sp (s p : Nat) (J : Jn) (K : Ks) (hK : TxtK K) (hN : NamK K) (hl : K.length ≤ 4398046511104) : Sp1 Tryz.prog 41 [.pointer (some ⟨s, 0, none⟩)] [IsS s p J K] (vB (checkB K)) [IsS s p J K] := by
 refine Sp.body (n := 23) Tryz.call41 Tryz.func41 rfl rfl rfl ?_
 refine Qc (k:=Zx [_] (k:=fun b1 => Zc [.bool false] (k:=fun b2 => Wq (Za (k:=Qc (k:=Zd (k:=?_)))))))
 refine r_callX (blob_Names_sp s) rfl rfl rfl (fun x7 _ => ?_)
 refine Wq (Zb (k:=?_))
 refine p_rangeFuncB (fun pre => [Pu (∀ n ∈ pre, (ctnB K n).map shaB = some n), Ce b2 4 [vB false], Ce b1 72 [.pointer (some ⟨s, 0, none⟩)], IsS s p J K]) (fun j pre => if j = none then [Pu (checkB K = false), Ce b2 4 [vB false], IsS s p J K] else [Pu False]) (fun pre => [Pu (∀ n ∈ pre, (ctnB K n).map shaB = some n), Ce b2 4 [vB false], Ce b1 72 [.pointer (some ⟨s, 0, none⟩)]]) rfl (blob_Names_itB s p x7 J K hl) rfl (fun _ => by rfl) rfl (fun pre => ?_) (fun pre => ?_) ?_ (fun l pre n hok => ?_) ?_ (fun j pre hs => ?_)
 · exact ent_pick
 · exact ent_pick
 · (refine ent_app (ent_pu (fun n h => by cases h) ?_); exact ent_pick)
 ·
  obtain ⟨rr, hrr⟩ := hok
  refine wc_pu fun hall => ?_
  have hnm : n ∈ nmsB K := by rw [hrr]; simp
  have hnl := hN _ (nms_name hnm)
  rw [List.length_cons] at hnl
  obtain ⟨y, hy⟩ : ∃ y, y = ctnB K n := ⟨_, rfl⟩
  have hC := blob_Content_sp s p J K hK n (by omega)
  have hyl : ∀ t, y = some t → t.length ≤ 1073741824 := fun t e => ctnR_len hK (k := 3) (n := n) (by rw [← e, hy]; rfl)
  rw [← hy] at hC
  have hno : (∀ t, y = some t → shaB t ≠ n) → checkB K = false := fun h => by
   unfold checkB
   rw [List.all_eq_false]
   refine ⟨n, hnm, ?_⟩
   rw [← hy]
   cases y with
   | none => simp
   | some t => simpa using h t rfl
  refine Zr (k:=Vv (k:=Wg (Zb (k:=Qc (k:=Zd (k:=Vv (k:=?_)))))))
  refine r_call1 hC rfl rfl rfl ?_
  refine Vv (k:=?_)
  refine wo_pv (pv_extract (v := vS (y.getD [])) rfl rfl) rfl ?_
  refine wo_pv (pv_extract (v := vB y.isSome) rfl rfl) rfl ?_
  refine Qv (k:=Wq (Qc (k:=Qv (k:=Vv (k:=Gi 2 (t:=fun h17 => ?_) (f:=fun h17 => ?_))))))
  ·
   obtain rfl : y = none := by cases y with | none => rfl | some z => simp at h17
   have hbad := hno (fun t e => by cases e)
   refine O1 (k:=O1 (k:=O1 (k:=O1 (k:=P1 (k:=Wq (Z1 (k:=Qc (k:=Zo (k:=Wq (Zt (k:=?_)))))))))))
   refine Vb ?_
   exact zb41roundret
  ·
   obtain ⟨t, rfl⟩ : ∃ z, y = some z := by cases y with | none => simp at h17 | some z => exact ⟨z, rfl⟩
   have htl := hyl t rfl
   dsimp only [Option.getD_some]
   refine J0 (k:=I0 (k:=?_))
   refine r_callF (hash_Sum_sp t (by omega)) rfl rfl rfl ?_
   refine J0 (k:=J0 (k:=P0 (k:=Wq (Zi (t:=fun h22 => ?_) (f:=fun h22 => ?_)))))
   ·
    refine Qc (k:=Zo (k:=Wq (Zt (k:=Vb ?_))))
    exact zb41roundret
   ·
    refine Zk (k:=Yb ?_)
    refine to_round (ent_pu (fun m hm => ?_) ent_pick)
    rcases List.mem_append.1 hm with h | h
    · exact hall m h
    · rw [List.mem_singleton.1 h, ← hy]
      have h22 := h22
      first
      | (show some (shaB t) = some n
         congr 1
         simpa using h22)
      | simp_all
 ·
  refine tw_know (A := Pu (∀ n ∈ nmsB K, (ctnB K n).map shaB = some n)) .here (fun x => x) (fun hall => ?_)
  have hch : checkB K = true := by
   unfold checkB
   rw [List.all_eq_true]
   exact fun n hn => decide_eq_true (hall n hn)
  rw [hch]
  refine Yb (Ya (Qc (k:=Zo (k:=Wq (Zt (k:=?_))))))
  exact zb41ret
 ·
  by_cases hj : j = none
  · subst hj
    rw [if_pos rfl]
    simp only [List.cons_append, List.nil_append]
    refine wc_pu fun hbad => ?_
    rw [hbad]
    refine Zt (k:=Vb (Va ?_))
    exact zb41ret
  · rw [if_neg hj]
    exact wc_no (fun s => by obtain ⟨_, _, _, _, a, _⟩ := s; exact a)
end
section
set_option maxRecDepth 100000
def DropH (b : Nat) (l : List Rw) : HP := Ex fun ac : Option Addr × Nat => Al [Row 77 3 (.slice ac.1 l.length ac.2) l.length (l.flatMap rowC), Ce b 81 [.slice ac.1 l.length ac.2]]
set_option maxHeartbeats 2000000 in
theorem blob_Drop_sp (s p : Nat) (J : Jn) (K : Ks) (hK : TxtK K) (hN : NamK K) (hl : K.length ≤ 1073741824) (name : Bs) (hnm : name.length ≤ 1073741824) :
    Sp Tryz.prog 39 [.pointer (some ⟨s, 0, none⟩), vS name] [IsS s p J K] (X := Option Addr × Nat) (fun x => .slice x.1 (dropB K name).length x.2) (fun _ => True) (fun x => [Row 77 3 (.slice x.1 (dropB K name).length x.2) (dropB K name).length ((dropB K name).flatMap rowC), IsS s p J K]) := by
 have hG := store_Get_sp s p J K (98 :: name)
 rw [(hK.get (98 :: name)).1] at hG
 have hl2 := nms_len2 K
 unfold dropB
 generalize hms : (mlook K (98 :: name)).isSome = ms at hG ⊢
 refine Sp.body (n := 66) Tryz.call39 Tryz.func39 rfl rfl rfl ?_
 refine Qc (k:=Zx [_] (k:=fun b2 => Zx [_] (k:=fun b3 => Vv (k:=Wq (Za (k:=Qc (k:=Zd (k:=Zd (k:=?_)))))))))
 refine wo_pv (pv_cat rfl rfl (by simp only [List.length_singleton]; omega)) rfl ?_
 rw [List.singleton_append]
 refine r_call1 hG rfl rfl rfl ?_
 refine Vv (k:=?_)
 refine wo_pv (pv_extract (v := vS (getB K (98 :: name))) rfl rfl) rfl ?_
 refine wo_pv (pv_extract (v := vB ms) rfl rfl) rfl ?_
 refine Qv (k:=Wq (Qc (k:=Qv (k:=Wq (Zi (t:=fun h22 => ?_) (f:=fun h22 => ?_))))))
 ·
  refine Qc (k:=Vv (k:=Wq (Zt (k:=Va ?_))))
  rw [if_neg (by first | assumption | simp_all)]
  refine fin_ret (none, 0) (vs := [_]) (Cs := []) rfl (.tmp rfl .nil) rfl trivial ?_
  exact ent_step row_nil ent_pick
 ·
  refine Zk (k:=Ya (Qc (k:=Zc [.slice none 0 0] (k:=fun b7 => Wq (Za (k:=Qc (k:=Zd (k:=?_))))))))
  refine r_callX (blob_Names_sp s) rfl rfl rfl (fun x24 _ => ?_)
  refine Wq (Zb (k:=?_))
  refine p_rangeFuncB (fun pre => [DropH b7 (dropF K name pre), Ce b3 9 [vS name], Ce b2 72 [.pointer (some ⟨s, 0, none⟩)], IsS s p J K]) (fun j pre => [Pu False]) (fun pre => [DropH b7 (dropF K name pre), Ce b3 9 [vS name], Ce b2 72 [.pointer (some ⟨s, 0, none⟩)]]) rfl (blob_Names_itB s p x24 J K (by omega)) rfl (fun _ => by rfl) rfl (fun pre => ?_) (fun pre => ?_) ?_ (fun l pre n hok => ?_) ?_ (fun j pre hs => ?_)
  · exact ent_pick
  · exact ent_pick
  · (rw [show dropF K name [] = [] from rfl]; refine ent_app (ent_ex (none, 0) ?_); refine ent_al ?_; exact ent_step row_nil ent_pick)
  ·
   obtain ⟨rr, hrr⟩ := hok
   have hn := hN _ (nms_name (n := n) (by rw [hrr]; simp))
   rw [List.length_cons] at hn
   have hpl := dropF_len K name pre
   have hpl2 : pre.length < (nmsB K).length := by rw [hrr]; simp
   refine wc_front (DropH b7 (dropF K name pre)) ?_
   refine wc_exi fun ac => wc_al ?_
   obtain ⟨a, c⟩ := ac
   obtain ⟨x, hx⟩ : ∃ x, x = basedB K n := ⟨_, rfl⟩
   have hB := blob_based_sp s p J K hK n (by omega)
   rw [← hx] at hB
   obtain ⟨y, hy⟩ : ∃ y, y = ctnB K n := ⟨_, rfl⟩
   have hC := blob_Content_sp s p J K hK n (by omega)
   have hyl : ∀ t, y = some t → t.length ≤ 1073741824 := fun t e => ctnR_len hK (k := 3) (n := n) (by rw [← e, hy]; rfl)
   rw [← hy] at hC
   have hdo : dropF K name (pre ++ [n]) = dropF K name pre ++ dropG name n x y := by rw [dropF_snoc, dropO, hx, hy]
   generalize dropF K name pre = out at *
   refine Zr (k:=Vv (k:=Wg (Zb (k:=Za (k:=Qc (k:=Zd (k:=Vv (k:=?_))))))))
   refine r_call1 hB rfl rfl rfl ?_
   refine Vv (k:=?_)
   refine wo_pv (pv_extract (v := vS (x.getD ([], [])).1) rfl rfl) rfl ?_
   refine wo_pv (pv_extract (v := vS (x.getD ([], [])).2) rfl rfl) rfl ?_
   refine wo_pv (pv_extract (v := vB x.isSome) rfl rfl) rfl ?_
   refine Qv (k:=Vv (k:=Wq (Qc (k:=Qv (k:=Vv (k:=Gi 2 (t:=fun h35 => ?_) (f:=fun h35 => ?_)))))))
   ·
    refine O1 (k:=O1 (k:=O1 (k:=P1 (k:=Vv (k:=O1 (k:=O1 (k:=O1 (k:=P1 (k:=Wq (Z1 (k:=Ze (k:=?_))))))))))))
    refine Xa (Xb ?_)
    refine to_round ?_
    rw [hdo]
    first
    | (have e : dropG name n x y = [] := by clear hdo hB hC hyl hx hy; cases x <;> cases y <;> simp_all [dropG]
       rw [e, List.append_nil]
       refine ent_ex (a, c) ?_
       refine ent_al ?_
       exact ent_pick)
    | (have e : dropG name n x y = [⟨98 :: n, 102 :: y.getD [], false⟩] := by clear hdo hB hC hyl hx hy; cases x <;> cases y <;> simp_all [dropG]
       rw [e]
       refine ent_ex (a59, c59) ?_
       refine ent_al ?_
       simp only [List.length_append, List.length_cons, List.length_nil, Nat.zero_add, List.flatMap_append]
       exact ent_step (row_norm (by rfl) (by rfl)) ent_pick)
   ·
    refine J0 (k:=I0 (k:=Zd (k:=J0 (k:=P0 (k:=Vv (k:=Gi 7 (t:=fun h40 => ?_) (f:=fun h40 => ?_)))))))
    ·
     refine O1 (k:=O1 (k:=O1 (k:=P1 (k:=Wq (Z1 (k:=Ze (k:=Xa (Xb ?_))))))))
     refine to_round ?_
     rw [hdo]
     first
     | (have e : dropG name n x y = [] := by clear hdo hB hC hyl hx hy; cases x <;> cases y <;> simp_all [dropG]
        rw [e, List.append_nil]
        refine ent_ex (a, c) ?_
        refine ent_al ?_
        exact ent_pick)
     | (have e : dropG name n x y = [⟨98 :: n, 102 :: y.getD [], false⟩] := by clear hdo hB hC hyl hx hy; cases x <;> cases y <;> simp_all [dropG]
        rw [e]
        refine ent_ex (a59, c59) ?_
        refine ent_al ?_
        simp only [List.length_append, List.length_cons, List.length_nil, Nat.zero_add, List.flatMap_append]
        exact ent_step (row_norm (by rfl) (by rfl)) ent_pick)
    ·
     refine J0 (k:=I0 (k:=Zd (k:=J0 (k:=P0 (k:=Wq (Zi (t:=fun h44 => ?_) (f:=fun h44 => ?_)))))))
     ·
      refine Ze (k:=Xa (Xb ?_))
      refine to_round ?_
      rw [hdo]
      first
      | (have e : dropG name n x y = [] := by clear hdo hB hC hyl hx hy; cases x <;> cases y <;> simp_all [dropG]
         rw [e, List.append_nil]
         refine ent_ex (a, c) ?_
         refine ent_al ?_
         exact ent_pick)
      | (have e : dropG name n x y = [⟨98 :: n, 102 :: y.getD [], false⟩] := by clear hdo hB hC hyl hx hy; cases x <;> cases y <;> simp_all [dropG]
         rw [e]
         refine ent_ex (a59, c59) ?_
         refine ent_al ?_
         simp only [List.length_append, List.length_cons, List.length_nil, Nat.zero_add, List.flatMap_append]
         exact ent_step (row_norm (by rfl) (by rfl)) ent_pick)
     ·
      refine Zk (k:=Ya (Qc (k:=Zd (k:=Vv (k:=?_)))))
      refine r_call1 hC rfl rfl rfl ?_
      refine Vv (k:=?_)
      refine wo_pv (pv_extract (v := vS (y.getD [])) rfl rfl) rfl ?_
      refine wo_pv (pv_extract (v := vB y.isSome) rfl rfl) rfl ?_
      refine Qv (k:=Wq (Qc (k:=Vv (k:=Wq (Zi (t:=fun h51 => ?_) (f:=fun h51 => ?_))))))
      ·
       have hyl2 : (y.getD []).length ≤ 1073741824 := by cases y with | none => simp at h51 | some t => exact hyl t rfl
       refine Zr (k:=Zd (k:=Vv (k:=?_)))
       refine wo_pv (pv_cat rfl rfl (by simp only [List.length_singleton]; omega)) rfl ?_
       rw [List.singleton_append]
       refine Vv (k:=?_)
       refine wo_pv (pv_cat rfl rfl (by simp only [List.length_singleton]; omega)) rfl ?_
       rw [List.singleton_append]
       refine Vx (Ps [_, _, .bool false]) (k:=Zv [_] (cs := [_, _, _]) (k:=fun b58 => ?_))
       refine r_append1 (sz := 3) (bytes := 40) Tryz.underlying81 ti77 rfl rfl rfl rfl rfl rfl rfl (by rfl) (by rfl) (by omega) (by simp only [maxLen]; omega) rfl (fun a59 c59 => ?_)
       refine Zo (k:=Wn (Yb ?_))
       refine to_round ?_
       rw [hdo]
       first
       | (have e : dropG name n x y = [] := by clear hdo hB hC hyl hx hy; cases x <;> cases y <;> simp_all [dropG]
          rw [e, List.append_nil]
          refine ent_ex (a, c) ?_
          refine ent_al ?_
          exact ent_pick)
       | (have e : dropG name n x y = [⟨98 :: n, 102 :: y.getD [], false⟩] := by clear hdo hB hC hyl hx hy; cases x <;> cases y <;> simp_all [dropG]
          rw [e]
          refine ent_ex (a59, c59) ?_
          refine ent_al ?_
          simp only [List.length_append, List.length_cons, List.length_nil, Nat.zero_add, List.flatMap_append]
          exact ent_step (row_norm (by rfl) (by rfl)) ent_pick)
      ·
       refine Zk (k:=Yb ?_)
       refine to_round ?_
       rw [hdo]
       first
       | (have e : dropG name n x y = [] := by clear hdo hB hC hyl hx hy; cases x <;> cases y <;> simp_all [dropG]
          rw [e, List.append_nil]
          refine ent_ex (a, c) ?_
          refine ent_al ?_
          exact ent_pick)
       | (have e : dropG name n x y = [⟨98 :: n, 102 :: y.getD [], false⟩] := by clear hdo hB hC hyl hx hy; cases x <;> cases y <;> simp_all [dropG]
          rw [e]
          refine ent_ex (a59, c59) ?_
          refine ent_al ?_
          simp only [List.length_append, List.length_cons, List.length_nil, Nat.zero_add, List.flatMap_append]
          exact ent_step (row_norm (by rfl) (by rfl)) ent_pick)
  ·
   skip
   refine Yb (Ya (Za (k:=?_)))
   have hfl := dropF_len K name (nmsB K)
   refine wc_front (DropH b7 (dropF K name (nmsB K))) ?_
   refine wc_exi fun ac => wc_al ?_
   obtain ⟨a, c⟩ := ac
   generalize dropF K name (nmsB K) = out at *
   refine Zr (k:=Zd (k:=Zd (k:=?_)))
   refine wo_pv (pv_cat rfl rfl (by simp only [List.length_singleton]; omega)) rfl ?_
   rw [List.singleton_append]
   refine Vx (Ps [_, vS [], _]) (k:=Zv [_] (cs := [_, _, _]) (k:=fun b64 => ?_))
   refine r_append1 (sz := 3) (bytes := 40) Tryz.underlying81 ti77 rfl rfl rfl rfl rfl rfl rfl (by rfl) (by rfl) (by omega) (by simp only [maxLen]; omega) rfl (fun a65 c65 => ?_)
   refine Vv (k:=Wq (Zt (k:=?_)))
   rw [if_pos (by first | assumption | simp_all)]
   refine fin_ret (a65, c65) (vs := [_]) (Cs := []) rfl (.tmp rfl .nil) (by simp only [List.length_append, List.length_cons, List.length_nil, Nat.zero_add]; rfl) trivial ?_
   simp only [List.length_append, List.length_cons, List.length_nil, Nat.zero_add, List.flatMap_append]
   exact ent_step (row_norm (by rfl) (by rfl)) ent_pick
  ·
   exact wc_no (fun s => by obtain ⟨_, _, _, _, a, _⟩ := s; exact a)
end
/-- A name's text, over so many deltas. -/
def Ch (K : Ks) : Nat → Bs → Bs → Prop
 | 0, x, t => getB K (98 :: x) = 102 :: t
 | k + 1, x, t => ∃ b m s, b.length = 40 ∧ getB K (98 :: x) = 100 :: (b ++ m) ∧ Ch K k b s ∧ applyB s m = some t
theorem Ch.row {K : Ks} {k : Nat} {x t : Bs} (h : Ch K k x t) : getB K (98 :: x) ≠ [] := by
 cases k with
 | zero => rw [show getB K (98 :: x) = 102 :: t from h]; simp
 | succ k => obtain ⟨b, m, s, _, e, _⟩ := h; rw [e]; simp
theorem Ch.ctn {K : Ks} : ∀ {k : Nat} {x t : Bs}, Ch K k x t → ∀ j, k ≤ j → ctnR K j x = some t := by
 intro k
 induction k with
 | zero => intro x t h j _; exact full_ctn h j
 | succ k ih =>
   intro x t h j hj
   obtain ⟨b, m, s, hb, e, h2, ha⟩ := h
   obtain ⟨i, rfl⟩ : ∃ i, j = i + 1 := ⟨j - 1, by omega⟩
   rw [del_ctn hb e, ih h2 i (by omega)]; exact ha
theorem Ch.depF {K : Ks} : ∀ {k : Nat} {x t : Bs}, Ch K k x t → ∀ j, k ≤ j → depF K j x = k := by
 intro k
 induction k with
 | zero =>
   intro x t h j _
   cases j with
   | zero => rfl
   | succ j => rw [Go.Proofs.YtibccdcemcgkeaaGreat.depF, full_based h]
 | succ k ih =>
   intro x t h j hj
   obtain ⟨b, m, s, hb, e, h2, ha⟩ := h
   obtain ⟨i, rfl⟩ : ∃ i, j = i + 1 := ⟨j - 1, by omega⟩
   rw [del_depF hb e, ih h2 i (by omega)]
theorem Ch.dep {K : Ks} {k : Nat} {x t : Bs} (h : Ch K k x t) (hk : k ≤ 4) : depB K x = k := by
 unfold depB
 rw [h.depF 4 hk, if_neg]
 rintro (e | ⟨e1, e2⟩)
 · exact h.row e
 · cases k with
   | zero => rw [show getB K (98 :: x) = 102 :: t from h] at e1; simp at e1
   | succ k => obtain ⟨b, m, s, _, e, _⟩ := h; rw [e] at e2; simp at e2
theorem Ch.sta {K : Ks} {on : Bs} (ho : getB K (98 :: on) = []) : ∀ {k : Nat} {x t : Bs}, Ch K k x t → ∀ j, staF K on j x = false := by
 intro k
 induction k with
 | zero =>
   intro x t h j
   have hn : x ≠ on := fun e => h.row (by rw [e]; exact ho)
   cases j with
   | zero => rfl
   | succ j => rw [staF, full_based h, if_neg hn]
 | succ k ih =>
   intro x t h j
   have hn : x ≠ on := fun e => h.row (by rw [e]; exact ho)
   obtain ⟨b, m, s, hb, e, h2, ha⟩ := h
   cases j with
   | zero => rfl
   | succ j => rw [del_staF hb e, if_neg hn]; exact ih h2 j
/-! By the document. -/
/-! What a store holds. -/
structure Hb (K H : Ks) : Prop where
 nd : (K.map (·.1)).Nodup
 hd : (H.map (·.1)).Nodup
 key : ∀ n, n ∈ H.map (·.1) ↔ 98 :: n ∈ K.map (·.1)
 all : ∀ p ∈ H, ∃ t k, p.2 = vS t ∧ shaB t = p.1 ∧ t.length ≤ 300 ∧ k ≤ 3 ∧ Ch K k p.1 t
theorem hb_nil : Hb [] [] := ⟨List.nodup_nil, List.nodup_nil, by simp, by simp⟩
theorem get_nil {K : Ks} {k : Bs} (h : k ∉ K.map (·.1)) : getB K k = [] := by
 unfold getB
 rw [mlook_none h]
 simp [bytesV, vS]
theorem Hb.of {K H : Ks} (b : Hb K H) {x : Bs} (h : x ∈ H.map (·.1)) : ∃ t k, mlook H x = some (vS t) ∧ shaB t = x ∧ t.length ≤ 300 ∧ k ≤ 3 ∧ Ch K k x t := by
 obtain ⟨v, hv⟩ := Option.isSome_iff_exists.1 (mlook_mem h)
 obtain ⟨t, k, h1, h2, h3, h4, h5⟩ := b.all _ (mem_of_mlook hv)
 dsimp only at h1 h2 h5
 exact ⟨t, k, by rw [hv, h1], h2, h3, h4, h5⟩
theorem Hb.nms {K H : Ks} (b : Hb K H) {n : Bs} : n ∈ nmsB K ↔ n ∈ H.map (·.1) := by rw [nms_mem, b.key]
theorem Hb.count {K H : Ks} (b : Hb K H) : (nmsB K).length = H.length := by
 have := ((List.perm_ext_iff_of_nodup (nms_nodup b.nd) b.hd).2 fun n => b.nms).length_eq
 simpa using this
theorem Hb.check {K H : Ks} (b : Hb K H) : checkB K = true := by
 unfold checkB
 rw [List.all_eq_true]
 intro n hn
 obtain ⟨t, k, _, h2, _, h4, h5⟩ := b.of (b.nms.1 hn)
 rw [ctnB, h5.ctn 3 h4]
 exact decide_eq_true (congrArg some h2)
theorem Hb.ok {K H : Ks} (b : Hb K H) {x : Bs} (h : getB K (98 :: x) ≠ []) : x ∈ H.map (·.1) := by
 rw [b.key]
 exact Decidable.byContradiction fun e => h (get_nil e)
theorem Hb.none {K H : Ks} (b : Hb K H) {x : Bs} (h : x ∉ H.map (·.1)) : getB K (98 :: x) = [] := get_nil fun e => h ((b.key x).2 e)
/-! A text is put. -/
theorem Ch.put {K : Ks} (hn : (K.map (·.1)).Nodup) {x : Bs} (v : Bs) (hx : getB K (98 :: x) = []) : ∀ {k : Nat} {y t : Bs}, Ch K k y t → Ch (doOne K ⟨98 :: x, v, false⟩) k y t := by
 intro k
 induction k with
 | zero =>
   intro y t h
   have hxy : x ≠ y := fun e => h.row (by rw [← e]; exact hx)
   show getB _ _ = _
   rw [getB_doOne hn, if_neg (by simpa using hxy)]
   exact h
 | succ k ih =>
   intro y t h
   have hxy : x ≠ y := fun e => h.row (by rw [← e]; exact hx)
   obtain ⟨b, m, s, hb, e, h2, ha⟩ := h
   exact ⟨b, m, s, hb, by rw [getB_doOne hn, if_neg (by simpa using hxy)]; exact e, ih h2, ha⟩
/-- What a row is that keeps a text. -/
structure RowP (K H : Ks) (x t base rv : Bs) : Prop where
 row : rowB K x t base = ⟨98 :: x, rv, false⟩
 kind : rv = 102 :: t ∨ ∃ src k, Ch K k base src ∧ k < 3 ∧ src.length ≤ 300 ∧ base.length = 40 ∧ base ≠ x ∧ rv = 100 :: (base ++ makeB src t) ∧ rv.length < t.length
theorem Hb.row {K H : Ks} (b : Hb K H) {x t : Bs} (hx : x ∉ H.map (·.1)) (base : Bs) : ∃ rv, RowP K H x t base rv := by
 cases e : ctnB K base with
 | none => exact ⟨_, rowB_none e, .inl rfl⟩
 | some src =>
   have hb : base ∈ H.map (·.1) := b.ok fun h => by rw [ctnB, no_ctn h] at e; cases e
   obtain ⟨u, k, _, _, h3, h4, h5⟩ := b.of hb
   have hu : u = src := by have := h5.ctn 3 h4; rw [ctnB, this] at e; cases e; rfl
   subst hu
   have hne : base ≠ x := fun h => hx (h ▸ hb)
   have hr : rowB K x t base = rowF x t base (some u) k false := by
    rw [rowB, e, h5.dep (by omega), staB, h5.sta (b.none hx) 4]
   unfold rowF at hr
   dsimp only at hr
   split at hr
   · exact ⟨_, hr, .inl rfl⟩
   · rename_i h6
     split at hr
     · exact ⟨_, hr, .inl rfl⟩
     · rename_i h7
       have hl : base.length = 40 := Decidable.byContradiction fun h => h6 (.inl h)
       refine ⟨_, hr, .inr ⟨u, k, h5, Decidable.byContradiction fun h => h6 (.inr (.inl (by omega))), h3, hl, hne, rfl, ?_⟩⟩
       have : ¬ ((t.length : Int) - 1 - 40 ≤ (makeB u t).length) := fun h => h7 (.inr h)
       simp; omega
theorem RowP.len {K H : Ks} {x t base rv : Bs} (r : RowP K H x t base rv) : rv.length ≤ t.length + 1 ∧ 0 < rv.length := by
 rcases r.kind with h | ⟨src, k, _, _, _, _, _, h, h2⟩
 · rw [h]; simp
 · exact ⟨by omega, by rw [h]; simp⟩
theorem Hb.put {K H : Ks} (b : Hb K H) {x t base rv : Bs} (hx : x ∉ H.map (·.1)) (hs : shaB t = x) (ht : t.length ≤ 300) (r : RowP K H x t base rv) : Hb (doOne K ⟨98 :: x, rv, false⟩) (mput H x (vS t)) := by
 refine ⟨doOne_nd b.nd _, mput_nodup b.hd _ _, fun n => ?_, fun p hp => ?_⟩
 · rw [key_doOne b.nd, ← mlook_isSome, mlook_mput]
   by_cases e : x = n
   · subst e; simp
   · rw [if_neg e, if_neg (by simpa using e), mlook_isSome, b.key]
 · rcases mem_mput hp with hp | rfl
   · obtain ⟨u, k, h1, h2, h3, h4, h5⟩ := b.all p hp
     exact ⟨u, k, h1, h2, h3, h4, h5.put b.nd rv (b.none hx)⟩
   · have hg : getB (doOne K ⟨98 :: x, rv, false⟩) (98 :: x) = rv := by rw [getB_doOne b.nd, if_pos rfl]; rfl
     rcases r.kind with h | ⟨src, k, h1, h2, h3, h4, h5, h6, h7⟩
     · exact ⟨t, 0, rfl, hs, ht, Nat.zero_le _, by rw [h] at hg ⊢; exact hg⟩
     · exact ⟨t, k + 1, rfl, hs, ht, by omega, base, _, src, h4, by rw [← h6]; exact hg, h1.put b.nd rv (b.none hx), apply_make ht (by omega)⟩
/-! A name is dropped. -/
theorem drop_cases (K : Ks) (x n : Bs) : dropO K x n = [] ∨ ∃ t, dropO K x n = [⟨98 :: n, 102 :: t, false⟩] ∧ ctnB K n = some t := by
 unfold dropO dropG
 split
 · exact .inl rfl
 · split
   · exact .inl rfl
   · split
     · exact .inl rfl
     · rename_i t e; exact .inr ⟨t, rfl, e⟩
theorem doR_one (K : Ks) (r : Rw) : doR K [r] = doOne K r := rfl
theorem doR_append (K : Ks) (l m : List Rw) : doR K (l ++ m) = doR (doR K l) m := by unfold doR; rw [List.foldl_append]
theorem get_drops (K : Ks) (x y : Bs) : ∀ (ns : List Bs), ns.Nodup → ∀ (K' : Ks), (K'.map (·.1)).Nodup →
    getB (doR K' (dropF K x ns)) (98 :: y) = if y ∈ ns then (dropO K x y).foldl (fun _ r => r.val) (getB K' (98 :: y)) else getB K' (98 :: y) := by
 intro ns
 induction ns with
 | nil => intro _ K' _; rfl
 | cons n ns ih =>
   intro hn K' hk
   simp only [List.nodup_cons] at hn
   rw [show dropF K x (n :: ns) = dropO K x n ++ dropF K x ns from rfl, doR_append, ih hn.2 _ (doR_nd _ hk)]
   by_cases e : n = y
   · subst e
     rw [if_neg hn.1, if_pos (by simp)]
     rcases drop_cases K x n with h | ⟨t, h, _⟩
     · rw [h]; rfl
     · rw [h]
       rw [doR_one, getB_doOne hk, if_pos rfl]; rfl
   · have : getB (doR K' (dropO K x n)) (98 :: y) = getB K' (98 :: y) := by
       rcases drop_cases K x n with h | ⟨t, h, _⟩
       · rw [h]; rfl
       · rw [h]
         rw [doR_one, getB_doOne hk, if_neg (by simpa using e)]
     rw [this]
     by_cases e2 : y ∈ ns
     · rw [if_pos e2, if_pos (by simp [e2])]
     · rw [if_neg e2, if_neg (by simp [e2, Ne.symm e])]
theorem key_drops (K : Ks) (x k : Bs) : ∀ (ns : List Bs) (K' : Ks), (K'.map (·.1)).Nodup → (∀ n ∈ ns, 98 :: n ∈ K'.map (·.1)) → (k ∈ (doR K' (dropF K x ns)).map (·.1) ↔ k ∈ K'.map (·.1)) := by
 intro ns
 induction ns with
 | nil => intro K' _ _; exact Iff.rfl
 | cons n ns ih =>
   intro K' hk hm
   rw [show dropF K x (n :: ns) = dropO K x n ++ dropF K x ns from rfl, doR_append]
   have h1 : ∀ k, k ∈ (doR K' (dropO K x n)).map (·.1) ↔ k ∈ K'.map (·.1) := by
    intro k
    rcases drop_cases K x n with h | ⟨t, h, _⟩
    · rw [h]; exact Iff.rfl
    · rw [h]
      rw [doR_one, key_doOne hk]
      by_cases e : 98 :: n = k
      · rw [if_pos e]; exact ⟨fun _ => e ▸ hm n (by simp), fun _ => rfl⟩
      · rw [if_neg e]
   rw [ih _ (doR_nd _ hk) (fun q hq => (h1 _).2 (hm q (by simp [hq]))), h1]
def kdr (K : Ks) (x : Bs) : Ks := doR K (dropB K x)
theorem kdr_eq {K : Ks} {x : Bs} (h : 98 :: x ∈ K.map (·.1)) : kdr K x = doOne (doR K (dropF K x (nmsB K))) ⟨98 :: x, [], true⟩ := by
 rw [kdr, dropB, if_pos (mlook_isSome.2 h), doR_append]; rfl
theorem kdr_get {K : Ks} {x y : Bs} (hn : (K.map (·.1)).Nodup) (h : 98 :: x ∈ K.map (·.1)) (hy : 98 :: y ∈ K.map (·.1)) (hxy : x ≠ y) : getB (kdr K x) (98 :: y) = (dropO K x y).foldl (fun _ r => r.val) (getB K (98 :: y)) := by
 rw [kdr_eq h, getB_doOne (doR_nd _ hn), if_neg (by simpa using hxy), get_drops K x y _ (nms_nodup hn) K hn, if_pos (nms_mem.2 hy)]
theorem kdr_key {K : Ks} {x k : Bs} (hn : (K.map (·.1)).Nodup) (h : 98 :: x ∈ K.map (·.1)) : k ∈ (kdr K x).map (·.1) ↔ 98 :: x ≠ k ∧ k ∈ K.map (·.1) := by
 rw [kdr_eq h, key_doOne (doR_nd _ hn), key_drops K x k _ K hn fun n hm => nms_mem.1 hm]
 by_cases e : 98 :: x = k
 · simp [e]
 · simp [e]
theorem Ch.drop {K : Ks} {x : Bs} (hn : (K.map (·.1)).Nodup) (hx : 98 :: x ∈ K.map (·.1)) : ∀ {k : Nat} {y t : Bs}, k ≤ 3 → x ≠ y → Ch K k y t → ∃ k', k' ≤ k ∧ Ch (kdr K x) k' y t := by
 intro k
 induction k with
 | zero =>
   intro y t _ hy h
   have hm : 98 :: y ∈ K.map (·.1) := Decidable.byContradiction fun e => h.row (get_nil e)
   refine ⟨0, Nat.le_refl _, ?_⟩
   show getB _ _ = _
   rw [kdr_get hn hx hm hy, dropO, full_based h]
   exact h
 | succ k ih =>
   intro y t hk hy h
   have hc := h.ctn 3 hk
   have hm : 98 :: y ∈ K.map (·.1) := Decidable.byContradiction fun e => h.row (get_nil e)
   obtain ⟨b, m, s, hb, e, h2, ha⟩ := h
   have hg := kdr_get hn hx hm hy
   rw [dropO, del_based hb e, show ctnB K y = some t from hc] at hg
   unfold dropG at hg
   dsimp only at hg
   by_cases hbx : b = x
   · rw [if_neg (by rintro (h | h); exact h hbx; exact hy h.symm)] at hg
     exact ⟨0, Nat.zero_le _, hg⟩
   · rw [if_pos (.inl hbx)] at hg
     obtain ⟨k', h3, h4⟩ := ih (by omega) (Ne.symm hbx) h2
     exact ⟨k' + 1, by omega, b, m, s, hb, by rw [hg]; exact e, h4, ha⟩
theorem Hb.drop {K H : Ks} (b : Hb K H) {x : Bs} (h : x ∈ H.map (·.1)) : Hb (kdr K x) (mdel H x) := by
 have hx := (b.key x).1 h
 refine ⟨doR_nd _ b.nd, mdel_nodup b.hd _, fun n => ?_, fun p hp => ?_⟩
 · rw [kdr_key b.nd hx, ← mlook_isSome, mlook_mdel b.hd]
   by_cases e : x = n
   · simp [e]
   · rw [if_neg e, mlook_isSome, b.key]; simp [e]
 · have hm := mem_mdel hp
   obtain ⟨t, k, h1, h2, h3, h4, h5⟩ := b.all p hm
   have hxp : x ≠ p.1 := fun e => by
    have h6 := mlook_of_mem (mdel_nodup b.hd x) (show (p.1, p.2) ∈ mdel H x from hp)
    rw [mlook_mdel b.hd, if_pos e] at h6; cases h6
   obtain ⟨k', h6, h7⟩ := h5.drop b.nd hx h4 hxp
   exact ⟨t, k', h1, h2, h3, by omega, h7⟩
theorem drop_none {K : Ks} {x : Bs} (h : 98 :: x ∉ K.map (·.1)) : dropB K x = [] := by
 rw [dropB, if_neg (fun e => h (mlook_isSome.1 e))]
theorem Hb.gone {K H : Ks} (b : Hb K H) {x : Bs} (h : x ∉ H.map (·.1)) : Hb (doR K (dropB K x)) (mdel H x) := by
 have e1 : dropB K x = [] := drop_none fun e => h ((b.key x).2 e)
 have e2 : mdel H x = H := by
  have : ∀ (l : Ks), x ∉ l.map (·.1) → mdel l x = l := by
   intro l
   induction l with
   | nil => intro _; rfl
   | cons q l ih =>
     intro hl
     simp only [List.map_cons, List.mem_cons, not_or] at hl
     rw [mdel, if_neg (fun e => hl.1 e.symm), ih hl.2]
  exact this H h
 rw [e1, e2]; exact b
theorem Hb.dropped {K H : Ks} (b : Hb K H) (x : Bs) : Hb (doR K (dropB K x)) (mdel H x) ∧ ((dropB K x).length > 0 ↔ x ∈ H.map (·.1)) := by
 by_cases h : x ∈ H.map (·.1)
 · exact ⟨b.drop h, by rw [dropB, if_pos (mlook_isSome.2 ((b.key x).1 h))]; simp [h]⟩
 · exact ⟨b.gone h, by rw [drop_none fun e => h ((b.key x).2 e)]; simp [h]⟩
theorem dropB_ok {K H : Ks} (b : Hb K H) (hk : ∀ k ∈ K.map (·.1), k.length ≤ 60) {x : Bs} (hx : x.length ≤ 40) : (∀ r ∈ dropB K x, r.Ok) ∧ (∀ r ∈ dropB K x, r.key.length ≤ 60 ∧ r.val.length ≤ 301) ∧ (dropB K x).length ≤ H.length + 1 := by
 have key : ∀ r ∈ dropF K x (nmsB K), ∃ n t, n ∈ H.map (·.1) ∧ r = ⟨98 :: n, 102 :: t, false⟩ ∧ t.length ≤ 300 := by
  intro r hr
  obtain ⟨n, hn, hr⟩ := List.mem_flatMap.1 hr
  rcases drop_cases K x n with h | ⟨t, h, hc⟩
  · rw [h] at hr; cases hr
  · rw [h] at hr
    have hm := b.nms.1 hn
    obtain ⟨u, k, _, _, h3, h4, h5⟩ := b.of hm
    have := h5.ctn 3 h4
    rw [ctnB, this] at hc
    cases hc
    exact ⟨n, t, hm, List.mem_singleton.1 hr, h3⟩
 have all : ∀ r ∈ dropB K x, r.Ok ∧ r.key.length ≤ 60 ∧ r.val.length ≤ 301 := by
  intro r hr
  unfold dropB at hr
  split at hr
  · rcases List.mem_append.1 hr with hr | hr
    · obtain ⟨n, t, hn, rfl, ht⟩ := key r hr
      have := hk _ ((b.key n).1 hn)
      exact ⟨⟨by simp, this, by simp; omega, fun e => by cases e⟩, this, by simp; omega⟩
    · rw [List.mem_singleton.1 hr]
      exact ⟨⟨by simp, by simp; omega, by simp, fun _ => rfl⟩, by simp; omega, by simp⟩
  · cases hr
 refine ⟨fun r hr => (all r hr).1, fun r hr => (all r hr).2, ?_⟩
 unfold dropB
 split
 · have := dropF_len K x (nmsB K)
   rw [b.count] at this
   simp; omega
 · simp
theorem textOf_many {l : List Rw} (h : ∀ r ∈ l, r.key.length ≤ 60 ∧ r.val.length ≤ 301) : (textOf l).length ≤ 390 * l.length := by
 induction l with
 | nil => simp [textOf]
 | cons r l ih =>
   have h1 := h r (by simp)
   have h2 := ih fun q hq => h q (by simp [hq])
   have h3 := rowText_le (r := r) (by omega) (by omega)
   simp only [textOf, List.flatMap_cons, List.length_append, List.length_cons] at h2 ⊢
   omega
/-- How much is written at most, by so many puts and drops. -/
def wrote (p q : Nat) : Nat := 13 * p + q * (13 * p + 15)
theorem wrote_put (p q : Nat) : wrote p q + 13 ≤ wrote (p + 1) q := by
 unfold wrote
 have : q * (13 * p + 15) ≤ q * (13 * (p + 1) + 15) := Nat.mul_le_mul_left _ (by omega)
 omega
theorem wrote_drop (p q : Nat) : wrote p q + (13 * (p + 1) + 1) ≤ wrote p (q + 1) := by
 unfold wrote
 rw [Nat.add_mul, Nat.one_mul]
 omega
/-- Where the law stands. -/
structure SB where
 p : Nat
 q : Nat
 J : Jn
 K : Ks
 D : Dk
 H : Ks
 ns : List Bs
 na : Option Addr
 nc : Nat
structure SB.Ok (x : SB) (m : Nat) : Prop where
 pq : x.p + x.q ≤ m
 bi : BI 1500 (wrote x.p x.q) x.J x.K x.D
 hb : Hb x.K x.H
 hl : x.H.length ≤ x.p
 nl : ∀ y ∈ x.ns, y.length = 40
 nn : x.ns.length ≤ m
theorem SB.Ok.up {x : SB} {m n : Nat} (h : x.Ok m) (l : m ≤ n) : x.Ok n := ⟨Nat.le_trans h.pq l, h.bi, h.hb, h.hl, h.nl, Nat.le_trans h.nn l⟩
theorem mput_len (H : Ks) (x : Bs) (v : Value) : (mput H x v).length ≤ H.length + 1 := by
 have := congrArg List.length (mput_keys H x v)
 rw [List.length_map] at this
 rw [this]
 split <;> simp
theorem mdel_len (H : Ks) (x : Bs) : (mdel H x).length ≤ H.length := by
 have := (mdel_keys H x).length_le
 simpa using this
theorem SB.Ok.put {x : SB} {m : Nat} (h : x.Ok m) {n t base rv : Bs} {J : Jn} {D : Dk} {a : Option Addr} {c : Nat} (hx : n ∉ x.H.map (·.1)) (hs : shaB t = n) (ht : t.length ≤ 300) (r : RowP x.K x.H n t base rv)
    (b : BI 1500 (wrote x.p x.q + 12 + 1) J (doR x.K [⟨98 :: n, rv, false⟩]) D) : SB.Ok ⟨x.p + 1, x.q, J, doR x.K [⟨98 :: n, rv, false⟩], D, mput x.H n (vS t), x.ns ++ [n], a, c⟩ (m + 1) := by
 refine ⟨by have := h.pq; dsimp only; omega, b.up (wrote_put _ _), h.hb.put hx hs ht r, by have := h.hl; have := mput_len x.H n (vS t); dsimp only; omega, fun y hy => ?_, by have := h.nn; simp; omega⟩
 rcases List.mem_append.1 hy with hy | hy
 · exact h.nl y hy
 · rw [List.mem_singleton.1 hy, ← hs]; exact shaB_len _
theorem SB.Ok.drop {x : SB} {m : Nat} (h : x.Ok m) (n : Bs) {J : Jn} {D : Dk} (b : BI 1500 (wrote x.p x.q + 13 * (x.p + 1) + 1) J (doR x.K (dropB x.K n)) D) :
    SB.Ok ⟨x.p, x.q + 1, J, doR x.K (dropB x.K n), D, mdel x.H n, x.ns, x.na, x.nc⟩ (m + 1) := by
 exact ⟨by have := h.pq; dsimp only; omega, b.up (by have := wrote_drop x.p x.q; omega), (h.hb.dropped n).1, by have := h.hl; have := mdel_len x.H n; dsimp only; omega, h.nl, by have := h.nn; dsimp only; omega⟩
end Go.Proofs.YtibccdcemcgkeaaGreat
