/- Texts of this proof, put together: SDig, SDel, SDel2, SDel3. -/
import Derived.Test.YtibccdcemcgkeaaGreatQ09
set_option linter.unusedVariables false
set_option linter.unusedSimpArgs false
namespace Go.Proofs.YtibccdcemcgkeaaGreat
section
set_option maxRecDepth 100000
theorem dg_slice (k : Nat) : (digL.drop (k % 64)).take (k % 64 + 1 - k % 64) = [dg k] := by
 have h : k % 64 < digL.length := by rw [digL_len]; omega
 rw [show k % 64 + 1 - k % 64 = 1 by omega, List.drop_eq_getElem_cons h, List.take_succ_cons, List.take_zero, dg]
 simp [h]
theorem c48 (c : UInt8) : ((c.toNat : Int) = 48) ↔ c = 48 := ⟨fun h => UInt8.toNat_inj.1 (by show c.toNat = 48; omega), fun h => by rw [h]; rfl⟩
def pre64 (m : Nat) : Bs := if m = 0 then [] else putN m
theorem pre64_pos {m : Nat} (h : 0 < m) : pre64 m = pre64 (m / 64) ++ [dg m] := by
 unfold pre64
 rw [if_neg (by omega), putN]
 split
 · rw [if_pos (by omega)]; rfl
 · rw [if_neg (by omega)]
theorem putN_split (n : Nat) : putN n = pre64 (n / 64) ++ [dg n] := by
 by_cases h : 0 < n
 · rw [← pre64_pos h, pre64, if_neg (by omega)]
 · have : n = 0 := by omega
   subst this; rw [putN]; rfl
theorem fdiv64 (n : Nat) : Int.fdiv (n : Int) (2 ^ min 6 IntKind.i64.bits) = ((n / 64 : Nat) : Int) := by
 have e : min 6 IntKind.i64.bits = 6 := by decide
 rw [e, Int.fdiv_eq_ediv_of_nonneg _ (by decide)]
 show (n : Int) / 64 = _
 omega
theorem and63 (n : Nat) : bits .and .i64 (n : Int) 63 = ((n % 64 : Nat) : Int) := by rw [i64_and63]; omega
theorem shl6 (n : Nat) (h : n ≤ 1073741824) : IntKind.i64.wrap ((n : Int) * 2 ^ min 6 IntKind.i64.bits) = ((n * 64 : Nat) : Int) := by
 have e : min 6 IntKind.i64.bits = 6 := by decide
 rw [e, show ((2 : Int) ^ 6) = 64 from rfl, i64_in' (by omega)]; omega
set_option maxHeartbeats 1000000 in
theorem digit_Put_sp (n : Nat) (h : n ≤ 1073741824) : SpF Tryz.prog 142 [vI n] (vS (putN n)) := by
 refine Sp.body (n := 28) Tryz.call142 Tryz.func142 rfl rfl rfl ?_
 refine Qc (k:=Vv (k:=Wq (Za (k:=Qc (k:=Vv (k:=?_))))))
 refine r_callF (digit_may_sp n) rfl rfl rfl ?_
 refine Vv (k:=Wq (Zi (t:=fun h6 => ?_) (f:=fun h6 => ?_)))
 ·
  exfalso; exact h6 ⟨by omega, by omega⟩
  --done
 ·
  refine Zk (k:=Ya (Qc (k:=Vv (k:=?_))))
  refine wo_pv (pv_and rfl rfl) rfl ?_
  rw [and63]
  refine Vv (k:=?_)
  refine wo_pv (pv_and rfl rfl) rfl ?_
  rw [and63]
  refine Vv (k:=?_)
  refine wo_pv (pv_slice_inm (m := n % 64) (o := n % 64 + 1) Tryz.underlying9 rfl rfl rfl rfl (by exact Int.natCast_succ _) (by omega) (by show n % 64 + 1 ≤ 64; omega)) rfl ?_
  change wo _ _ _ _ _ ((12, vS ((digL.drop (n % 64)).take (n % 64 + 1 - n % 64))) :: _) _ _
  rw [dg_slice]
  refine Vv (k:=Wq (Za (k:=Qc (k:=Vv (k:=?_)))))
  refine wo_pv (pv_shr (m := 6) rfl rfl) rfl ?_
  rw [fdiv64]
  refine Vv (k:=Wq (Zb (k:=?_)))
  refine p_loop (fun (i : { p : Nat × Bs // pre64 p.1 ++ p.2 = putN n ∧ p.1 ≤ n }) => [(0, vI i.1.1), (3, vS i.1.2)]) (fun (i : { p : Nat × Bs // pre64 p.1 ++ p.2 = putN n ∧ p.1 ≤ n }) => []) (fun (i : { p : Nat × Bs // pre64 p.1 ++ p.2 = putN n ∧ p.1 ≤ n }) => i.1.1) rfl (⟨(n / 64, [dg n]), (putN_split n).symm, by dsimp only; omega⟩) ?_ ?_ (fun i => ?_)
  · exact ⟨rfl, rfl, trivial⟩
  ·
   exact ent_pick
  obtain ⟨⟨m, out⟩, hi, hm⟩ := i
  have hlen := (putN_len h).2
  rw [← hi, List.length_append] at hlen
  dsimp only at hi hm hlen ⊢
  try dsimp only
  refine Za (k:=Qc (k:=Qv (k:=Wq (Zi (t:=fun h16 => ?_) (f:=fun h16 => ?_)))))
  ·
   refine Zk (k:=Ya (Za (k:=Zb (k:=Zr (k:=Vv (k:=?_))))))
   refine wo_pv (pv_and rfl rfl) rfl ?_
   rw [and63]
   refine Vv (k:=?_)
   refine wo_pv (pv_and rfl rfl) rfl ?_
   rw [and63]
   refine Vv (k:=?_)
   refine wo_pv (pv_slice_inm (m := m % 64) (o := m % 64 + 1) Tryz.underlying9 rfl rfl rfl rfl (by exact Int.natCast_succ _) (by omega) (by show m % 64 + 1 ≤ 64; omega)) rfl ?_
   change wo _ _ _ _ _ ((24, vS ((digL.drop (m % 64)).take (m % 64 + 1 - m % 64))) :: _) _ _
   rw [dg_slice]
   refine Qv (k:=Vv (k:=Wn (Yb (Ya (Zr (k:=Vv (k:=?_)))))))
   refine wo_pv (pv_shr (m := 6) rfl rfl) rfl ?_
   rw [fdiv64]
   refine Vv (k:=Wn ?_)
   refine to_inv ⟨(m / 64, dg m :: out), ?_, ?_⟩ ?_ ⟨rfl, rfl, trivial⟩ ent_nil
   · rw [← hi, pre64_pos (m := m) (by omega)]; simp
   · dsimp only; omega
   · dsimp only; omega
  ·
   refine Ze (k:=Xa (Xi (Xb (Ya (Qc (k:=Qv (k:=Wq (Zt (k:=?_)))))))))
   have hm0 : m = 0 := by omega
   subst hm0
   refine fin_ret () (vs := [_]) rfl (.tmp rfl .nil) ?_ trivial ent_nil
   rw [← hi]; rfl
/-- What reading answers. -/
def rdV (x : Option (Nat × Nat)) : Value := .tuple #[vI ((x.getD (0, 0)).1 : Nat), vI ((x.getD (0, 0)).2 : Nat), vB x.isSome]
theorem u8_back (c : UInt8) : ((c.toNat : Int).toNat).toUInt8 = c := by simp
theorem zb148ret2 {G : Prop} (h : G := by
    refine fin_ret () (vs := [_, _, _]) (Cs := []) rfl (.tmp rfl (.tmp rfl (.tmp rfl .nil))) ?_ trivial ent_nil
    rw [rdN_end (by omega)]; rfl) : G := h
theorem zb148join11 {G : Prop} (h : G := by
    first
    | exact to_inv ⟨(n, j), hj1, hj2, hr.symm⟩ trivial ⟨rfl, rfl, rfl, rfl, trivial⟩ ent_nil
    | (have hjl : j = s.length := by omega
       rw [List.drop_eq_nil_of_le (by omega)] at hr
       exact to_inv ⟨(n, j), hj1, hj2, hr.symm⟩ trivial ⟨rfl, rfl, rfl, rfl, trivial⟩ ent_nil)) : G := h
theorem zb148ret10 {G : Prop} (h : G := by
    refine fin_ret () (vs := [_, _, _]) (Cs := []) rfl (.tmp rfl (.tmp rfl (.tmp rfl .nil))) ?_ trivial ent_nil
    have : rdN s k = none := by
     rw [rdN, ← hr, if_pos]
     · rfl
     · first
       | (left; omega)
       | (right; exact ⟨by omega, decide_eq_true ((c48 _).1 (by assumption))⟩)
    rw [this]; rfl) : G := h
theorem zb148next0 {G : Prop} (h : G := by
    refine to_inv ⟨(n * 64 + d, j + 1), by dsimp only; omega, by dsimp only; omega, by dsimp only; omega, ?_⟩ (by dsimp only; omega) ⟨rfl, rfl, rfl, rfl, trivial⟩ ent_nil
    dsimp only
    rw [← hr, if_neg, show j + 1 - k = j - k + 1 by omega]
    rintro (h1 | ⟨h1, h2⟩)
    · omega
    · have h3 := of_decide_eq_true h2
      first
      | omega
      | exact absurd ((c48 _).2 h3) (by assumption)) : G := h
set_option maxHeartbeats 1000000 in
theorem digit_Read_sp (s : Bs) (k : Nat) (hs : s.length ≤ 140737488355328) (hk : k ≤ 140737488355328) : SpF Tryz.prog 148 [vS s, vI k] (rdV (rdN s k)) := by
 refine Sp.body (n := 51) Tryz.call148 Tryz.func148 rfl rfl rfl ?_
 refine Qc (k:=Qv (k:=Vv (k:=Wq (Za (k:=Qc (k:=Qv (k:=Vv (k:=?_))))))))
 refine Gi 2 (t:=fun h10 => ?_) (f:=fun h10 => ?_)
 ·
  refine O1 (k:=O1 (k:=O1 (k:=O1 (k:=P1 (k:=Wq (Z1 (k:=Qc (k:=Qv (k:=Vv (k:=?_))))))))))
  refine Wq (Zt (k:=Va ?_))
  exact zb148ret2
 ·
  refine J0 (k:=J0 (k:=J0 (k:=J0 (k:=P0 (k:=Wq (Zi (t:=fun h15 => ?_) (f:=fun h15 => ?_)))))))
  ·
   refine Qc (k:=Qv (k:=Vv (k:=Wq (Zt (k:=Va ?_)))))
   exact zb148ret2
  ·
   refine Zk (k:=Ya ?_)
   refine p_cut (fun (i : { p : Nat × Nat // k ≤ p.2 ∧ p.2 ≤ s.length ∧ (rdF (decide (s.getD k 0 = 48)) (s.drop k) 0 0 = if p.2 - k = 0 then none else some (p.1, p.2 - k)) }) => [(0, vS s), (1, vI k), (4, vI i.1.1), (5, vI i.1.2)]) (fun (i : { p : Nat × Nat // k ≤ p.2 ∧ p.2 ≤ s.length ∧ (rdF (decide (s.getD k 0 = 48)) (s.drop k) 0 0 = if p.2 - k = 0 then none else some (p.1, p.2 - k)) }) => []) rfl (fun i => ?_) ?_
   ·
    obtain ⟨⟨n, j⟩, hj1, hj2, hr⟩ := i
    dsimp only at hj1 hj2 hr ⊢
    try dsimp only
    refine Za (k:=Qc (k:=Qv (k:=Vv (k:=Wq (Zi (t:=fun h48 => ?_) (f:=fun h48 => ?_))))))
    ·
     refine Qc (k:=Qv (k:=Vv (k:=Wq (Zt (k:=Va ?_)))))
     refine fin_ret () (vs := [_, _, _]) (Cs := []) rfl (.tmp rfl (.tmp rfl (.tmp rfl .nil))) ?_ trivial ent_nil
     rw [rdN, hr, if_pos (by omega)]; rfl
    ·
     refine Zk (k:=Ya (Qc (k:=Qv (k:=Qv (k:=Vv (k:=Wq (Zt (k:=?_))))))))
     refine fin_ret () (vs := [_, _, _]) (Cs := []) rfl (.tmp rfl (.tmp rfl (.tmp rfl .nil))) ?_ trivial ent_nil
     rw [rdN, hr, if_neg (by omega)]
     show _ = rdV (some (n, k + (j - k)))
     rw [show k + (j - k) = j by omega]; rfl
   ·
    refine Qc (k:=Qv (k:=Wq (Zb (k:=?_))))
    refine p_loop (fun (i : { p : Nat × Nat // k ≤ p.2 ∧ p.2 ≤ s.length ∧ p.1 ≤ 1073741824 ∧ rdF (decide (s.getD k 0 = 48)) (s.drop p.2) p.1 (p.2 - k) = rdF (decide (s.getD k 0 = 48)) (s.drop k) 0 0 }) => [(0, vS s), (1, vI k), (4, vI i.1.1), (5, vI i.1.2)]) (fun (i : { p : Nat × Nat // k ≤ p.2 ∧ p.2 ≤ s.length ∧ p.1 ≤ 1073741824 ∧ rdF (decide (s.getD k 0 = 48)) (s.drop p.2) p.1 (p.2 - k) = rdF (decide (s.getD k 0 = 48)) (s.drop k) 0 0 }) => []) (fun (i : { p : Nat × Nat // k ≤ p.2 ∧ p.2 ≤ s.length ∧ p.1 ≤ 1073741824 ∧ rdF (decide (s.getD k 0 = 48)) (s.drop p.2) p.1 (p.2 - k) = rdF (decide (s.getD k 0 = 48)) (s.drop k) 0 0 }) => s.length - i.1.2) rfl (⟨(0, k), Nat.le_refl _, by dsimp only; omega, Nat.zero_le _, by dsimp only; rw [Nat.sub_self]⟩) ?_ ?_ (fun i => ?_)
    · exact ⟨rfl, rfl, rfl, rfl, trivial⟩
    ·
     exact ent_pick
    obtain ⟨⟨n, j⟩, hj1, hj2, hn, hr⟩ := i
    dsimp only at hj1 hj2 hn hr ⊢
    try dsimp only
    refine Za (k:=Qc (k:=Qv (k:=Qv (k:=Wq (Zi (t:=fun h20 => ?_) (f:=fun h20 => ?_))))))
    ·
     refine Zk (k:=Ya (Za (k:=Zb (k:=Za (k:=?_)))))
     have hjl : j < s.length := by omega
     obtain ⟨c, hc⟩ : ∃ c, c = s.getD j 0 := ⟨_, rfl⟩
     have hd : s.drop j = c :: s.drop (j + 1) := by rw [List.drop_eq_getElem_cons hjl, hc]; simp [hjl]
     rw [hd] at hr
     simp only [rdF] at hr
     refine Zr (k:=Qv (k:=Vv (k:=?_)))
     rw [← hc]
     refine r_callF (IndexByte_sp digL (c.toNat : Int)) rfl rfl rfl ?_
     rw [u8_back, index_dv]
     refine Vv (k:=Wq (Za (k:=Qc (k:=Qv (k:=Wq (Zi (t:=fun h28 => ?_) (f:=fun h28 => ?_)))))))
     ·
      have hdn : dv c = none := by
       cases e : dv c with
       | none => rfl
       | some d => rw [e] at h28; exact absurd h28 (Int.not_lt.2 (Int.natCast_nonneg d))
      rw [hdn] at hr
      dsimp only at hr
      refine Ze (k:=Xa (Xo (k:=Xa (Xi (Xb ?_)))))
      exact zb148join11
     ·
      obtain ⟨d, hdd⟩ : ∃ d, dv c = some d := by
       cases e : dv c with
       | none => rw [e] at h28; exact absurd (by decide) h28
       | some d => exact ⟨d, rfl⟩
      have hd64 := dv_lt hdd
      rw [hdd] at hr h28 ⊢
      dsimp only at hr ⊢
      refine Zk (k:=Ya (Qc (k:=Vv (k:=?_))))
      refine wo_pv (pv_shl (m := 6) rfl rfl) rfl ?_
      rw [shl6 n hn]
      refine Vv (k:=?_)
      refine wo_pv (pv_or rfl rfl) rfl ?_
      rw [i64_orj 6 (by omega) (by omega) (by omega)]
      refine Vv (k:=Wq (Qc (k:=Qv (k:=Vv (k:=Gi 2 (t:=fun h35 => ?_) (f:=fun h35 => ?_))))))
      ·
       refine O1 (k:=O1 (k:=O1 (k:=O1 (k:=Ou (k:=Ou (k:=Ou (k:=Ou (k:=O1 (k:=P1 (k:=Wq (Z1 (k:=?_))))))))))))
       refine Qc (k:=Qv (k:=Vv (k:=Wq (Zt (k:=Vb (Va (Vi (Vb (Vi ?_)))))))))
       exact zb148ret10
      ·
       refine J0 (k:=J0 (k:=J0 (k:=J0 (k:=Gi 6 (t:=fun h39 => ?_) (f:=fun h39 => ?_)))))
       ·
        refine J1 (k:=J1 (k:=I1 (k:=?_)))
        refine wo_pv (pv_indexm (m := k) Tryz.underlying9 rfl rfl rfl (by omega)) rfl ?_
        refine J1 (k:=I0 (k:=P1 (k:=P0 (k:=Wq (Zi (t:=fun h45 => ?_) (f:=fun h45 => ?_))))))
        ·
         refine Qc (k:=Qv (k:=Vv (k:=Wq (Zt (k:=Vb (Va (Vi (Vb (Vi ?_)))))))))
         exact zb148ret10
        ·
         refine Zk (k:=Yb (Ya (Zr (k:=Qv (k:=Vv (k:=Wn ?_))))))
         exact zb148next0
       ·
        refine O0 (k:=O0 (k:=O0 (k:=O0 (k:=I0 (k:=P0 (k:=P0 (k:=Wq (Z0 (k:=Zk (k:=Yb (Ya ?_)))))))))))
        refine Zr (k:=Qv (k:=Vv (k:=Wn ?_)))
        exact zb148next0
    ·
     refine Ze (k:=Xa (Xi (Xb ?_)))
     exact zb148join11
/-! The document's own. -/
end
section
set_option maxRecDepth 100000
set_option maxHeartbeats 1000000 in
theorem delta_Check_sp (s : Bs) (hs : s.length ≤ 140737488355328) : SpF Tryz.prog 145 [vS s] (vI (chkB s)) := by
 refine Sp.body (n := 25) Tryz.call145 Tryz.func145 rfl rfl rfl ?_
 refine Qc (k:=Vv (k:=Wq (Qc (k:=Vv (k:=Wq (Za (k:=Qc (k:=Vv (k:=?_)))))))))
 refine Qv (k:=Wq (Zb (k:=?_)))
 refine p_loop (fun (i : { j : Nat // j ≤ s.length }) => [(0, vS s), (3, vW (UInt32.ofNat (sumB (s.take i.1) 0))), (6, vI s.length), (7, vI i.1)]) (fun (i : { j : Nat // j ≤ s.length }) => []) (fun (i : { j : Nat // j ≤ s.length }) => s.length - i.1) rfl (⟨0, Nat.zero_le _⟩) ?_ ?_ (fun i => ?_)
 · exact ⟨rfl, rfl, rfl, rfl, trivial⟩
 ·
  exact ent_pick
 obtain ⟨j, hj⟩ := i
 dsimp only
 try dsimp only
 refine Qc (k:=Vv (k:=Wq (Za (k:=Zi (t:=fun h8 => ?_) (f:=fun h8 => ?_)))))
 ·
  refine Zk (k:=Ya (Za (k:=Zb (k:=Qc (k:=Qv (k:=Wq ?_))))))
  have hjl : j < s.length := by omega
  have hst := sumB_take s j
  refine Zr (k:=Qv (k:=Qv (k:=?_)))
  refine wo_pv (pv_convW rfl Tryz.underlying5 Tryz.underlying102) rfl ?_
  refine Qv (k:=?_)
  rw [show (j : Int) % 4 = ((j % 4 : Nat) : Int) by omega]
  refine Qv (k:=?_)
  rw [show (8 : Int) * (3 - ((j % 4 : Nat) : Int)) = ((8 * (3 - j % 4) : Nat) : Int) by omega]
  refine wo_pv (pv_shlW (m := 8 * (3 - j % 4)) rfl rfl rfl (by omega)) rfl ?_
  rw [w_byte _ (by omega)]
  refine wo_pv (pv_addW rfl rfl) rfl ?_
  rw [w_add, ← hst]
  refine Vv (k:=Wn (Yb (Ya (Zr (k:=Qv (k:=Wn ?_))))))
  exact to_inv ⟨j + 1, by omega⟩ (by dsimp only; omega) ⟨rfl, rfl, rfl, rfl, trivial⟩ ent_nil
 ·
  refine Ze (k:=Xa (Xi (Xb (Ya (Qc (k:=Vv (k:=?_)))))))
  refine wo_pv (pv_andW (b := 1073741823) rfl rfl) rfl ?_
  refine wo_pv (pv_conv_in (i := ((UInt32.ofNat (sumB (s.take j) 0) &&& 1073741823).toNat : Int)) rfl Tryz.underlying102 Tryz.underlying3 (i64_in' (by rw [w_mask]; omega))) rfl ?_
  refine Vv (k:=Wq (Zt (k:=?_)))
  refine fin_ret () (vs := [_]) (Cs := []) rfl (.tmp rfl .nil) ?_ trivial ent_nil
  rw [w_mask, List.take_of_length_le (by omega)]; rfl
/-- The size that a delta says. -/
def sizeB (d : Bs) : Option (Nat × Nat) := match rdN d 0 with
 | none => none
 | some (n, j) => if d.length ≤ j ∨ d.getD j 0 ≠ 10 then none else some (n, j)
def sizeV (x : Option (Nat × Nat)) : Value := .tuple #[vI ((x.getD (0, 0)).1 : Nat), vB x.isSome]
theorem u8_eq (c : UInt8) (k : Nat) (hk : k < 256) : ((c.toNat : Int) = (k : Int)) ↔ c = UInt8.ofNat k := by
 constructor
 · intro h
   apply UInt8.toNat_inj.1
   rw [UInt8.toNat_ofNat']; omega
 · intro h
   rw [h, UInt8.toNat_ofNat']; omega
theorem zb146ret3 {G : Prop} (h : G := by
    refine fin_ret () (vs := [_, _]) (Cs := []) rfl (.tmp rfl (.tmp rfl .nil)) ?_ trivial ent_nil
    first
    | rfl
    | (try dsimp only
       rw [if_pos]
       · rfl
       · first
         | (left; omega)
         | (right; intro h; exact absurd ((e10 _).2 h) (by assumption)))) : G := h
theorem delta_Size_sp (d : Bs) (hd : d.length ≤ 1099511627776) : SpF Tryz.prog 146 [vS d] (sizeV (sizeB d)) := by
 have hR := digit_Read_sp d 0 (by omega) (Nat.zero_le _)
 have e10 : ∀ c : UInt8, ((c.toNat : Int) = 10) ↔ c = 10 := fun c => u8_eq c 10 (by decide)
 unfold sizeB
 obtain ⟨x, hx⟩ : ∃ x, x = rdN d 0 := ⟨_, rfl⟩
 rw [← hx] at hR ⊢
 have hj : ∀ n j, x = some (n, j) → j ≤ d.length := fun n j e => by rw [hx] at e; have := rdN_le e; omega
 refine Sp.body (n := 28) Tryz.call146 Tryz.func146 rfl rfl rfl ?_
 refine Qc (k:=Qv (k:=Wq (Qc (k:=Vv (k:=?_)))))
 refine r_callF hR rfl rfl rfl ?_
 refine Vv (k:=?_)
 refine wo_pv (pv_extract (v := vI ((x.getD (0, 0)).1 : Nat)) rfl rfl) rfl ?_
 refine wo_pv (pv_extract (v := vI ((x.getD (0, 0)).2 : Nat)) rfl rfl) rfl ?_
 refine wo_pv (pv_extract (v := vB x.isSome) rfl rfl) rfl ?_
 refine Qv (k:=Vv (k:=Wq (Za (k:=Qc (k:=Qv (k:=Vv (k:=Gi 2 (t:=fun h15 => ?_) (f:=fun h15 => ?_))))))))
 ·
  obtain rfl : x = none := by cases x with | none => rfl | some y => simp at h15
  refine O1 (k:=O1 (k:=O1 (k:=O1 (k:=P1 (k:=Vv (k:=O1 (k:=O1 (k:=O1 (k:=O1 (k:=P1 (k:=Wq ?_)))))))))))
  refine Z1 (k:=Qc (k:=Qv (k:=Wq (Zt (k:=Va ?_)))))
  exact zb146ret3
 ·
  obtain ⟨⟨n, j⟩, rfl⟩ : ∃ y, x = some y := by cases x with | none => simp at h15 | some y => exact ⟨y, rfl⟩
  have hjl := hj n j rfl
  dsimp only [Option.getD_some]
  refine J0 (k:=J0 (k:=J0 (k:=J0 (k:=P0 (k:=Vv (k:=Gi 8 (t:=fun h21 => ?_) (f:=fun h21 => ?_)))))))
  ·
   refine O1 (k:=O1 (k:=O1 (k:=O1 (k:=P1 (k:=Wq (Z1 (k:=Qc (k:=Qv (k:=Wq ?_)))))))))
   refine Zt (k:=Va ?_)
   exact zb146ret3
  ·
   refine J0 (k:=J0 (k:=I0 (k:=?_)))
   refine wo_pv (pv_indexm (m := j) Tryz.underlying9 rfl rfl rfl (by omega)) rfl ?_
   refine J0 (k:=P0 (k:=Wq (Zi (t:=fun h26 => ?_) (f:=fun h26 => ?_))))
   ·
    refine Qc (k:=Qv (k:=Wq (Zt (k:=Va ?_))))
    exact zb146ret3
   ·
    refine Zk (k:=Ya (Qc (k:=Qv (k:=Vv (k:=Wq (Zt (k:=?_)))))))
    refine fin_ret () (vs := [_, _]) (Cs := []) rfl (.tmp rfl (.tmp rfl .nil)) ?_ trivial ent_nil
    try dsimp only
    rw [if_neg]
    · rfl
    · rintro (h | h)
      · omega
      · exact h ((e10 _).1 (by first | assumption | (apply Classical.not_not.1; assumption)))
def cmdV (x : Option (Bs × Nat)) : Value := .tuple #[vS (x.getD ([], 0)).1, vI ((x.getD ([], 0)).2 : Nat), vB x.isSome]
theorem zb149ret2 {G : Prop} (h : G := by
    refine fin_ret () (vs := [_, _, _]) (Cs := []) rfl (.tmp rfl (.tmp rfl (.tmp rfl .nil))) ?_ trivial ent_nil
    rw [if_pos (by omega)]; rfl) : G := h
theorem zb149ret12 {G : Prop} (h : G := by
    refine fin_ret () (vs := [_, _, _]) (Cs := []) rfl (.tmp rfl (.tmp rfl (.tmp rfl .nil))) ?_ trivial ent_nil
    first
    | rfl
    | (rw [if_neg (by omega)]; rfl)
    | (try dsimp only
       rw [if_neg]
       · rfl
       · rintro ⟨r1, r2, r3, r4⟩
         first
         | omega
         | exact absurd ((e44 _).2 r2) (by assumption))
    | (rw [if_neg (show ¬ (n = 0 ∨ d.length ≤ i) by omega), if_neg (fun h => absurd ((e58 _).2 h) (by assumption)), if_neg (fun h => absurd ((e64 _).2 h) (by assumption))]; rfl)) : G := h
set_option maxHeartbeats 1000000 in
theorem delta_command_sp (src d : Bs) (n i : Nat) (hs : src.length ≤ 1099511627776) (hd : d.length ≤ 1099511627776) (hn : n ≤ 1073741824) (hi : i ≤ 1099511627776) : SpF Tryz.prog 149 [vS src, vS d, vI n, vI i] (cmdV (cmdB src d n i)) := by
 have hR := digit_Read_sp d (i + 1) (by omega) (by omega)
 have e58 : ∀ c : UInt8, ((c.toNat : Int) = 58) ↔ c = 58 := fun c => u8_eq c 58 (by decide)
 have e64 : ∀ c : UInt8, ((c.toNat : Int) = 64) ↔ c = 64 := fun c => u8_eq c 64 (by decide)
 have e44 : ∀ c : UInt8, ((c.toNat : Int) = 44) ↔ c = 44 := fun c => u8_eq c 44 (by decide)
 obtain ⟨x, hx⟩ : ∃ x, x = rdN d (i + 1) := ⟨_, rfl⟩
 have hj : ∀ n j, x = some (n, j) → n ≤ 1073741824 ∧ j ≤ d.length := fun n j e => by rw [hx] at e; have := rdN_le e; omega
 unfold cmdB
 rw [← hx] at hR ⊢
 refine Sp.body (n := 89) Tryz.call149 Tryz.func149 rfl rfl rfl ?_
 refine Qc (k:=Qv (k:=Vv (k:=Wq (Za (k:=Qc (k:=Qv (k:=Vv (k:=?_))))))))
 refine Gi 2 (t:=fun h16 => ?_) (f:=fun h16 => ?_)
 ·
  refine O1 (k:=O1 (k:=O1 (k:=O1 (k:=P1 (k:=Wq (Z1 (k:=Qc (k:=Qv (k:=Vv (k:=?_))))))))))
  refine Wq (Zt (k:=Va ?_))
  exact zb149ret2
 ·
  refine J0 (k:=J0 (k:=J0 (k:=J0 (k:=P0 (k:=Wq (Zi (t:=fun h21 => ?_) (f:=fun h21 => ?_)))))))
  ·
   refine Qc (k:=Qv (k:=Vv (k:=Wq (Zt (k:=Va ?_)))))
   exact zb149ret2
  ·
   refine Zk (k:=Ya (Za (k:=Qc (k:=Qv (k:=?_)))))
   refine wo_pv (pv_indexm (m := i) Tryz.underlying9 rfl rfl rfl (by omega)) rfl ?_
   refine Wq (Zb (k:=Qc (k:=Qv (k:=Wq (Zi (t:=fun h25 => ?_) (f:=fun h25 => ?_))))))
   ·
    refine Za (k:=?_)
    rw [if_neg (show ¬ (n = 0 ∨ d.length ≤ i) by omega), if_pos ((e58 _).1 (by assumption))]
    refine Zr (k:=Qv (k:=Vv (k:=Wq (Qc (k:=Qv (k:=Qv (k:=Vv (k:=?_))))))))
    refine Vv (k:=Wq (Zi (t:=fun h34 => ?_) (f:=fun h34 => ?_)))
    ·
     refine Qc (k:=Qv (k:=Qv (k:=Vv (k:=?_))))
     refine wo_pv (pv_slice_inm (m := i + 1) (o := i + 1 + n) Tryz.underlying9 rfl rfl rfl (by omega) (by omega) (by omega) (by omega)) rfl ?_
     rw [show i + 1 + n - (i + 1) = n by omega]
     refine Qv (k:=Qv (k:=Qv (k:=Wq (Zt (k:=Vb (Va ?_))))))
     refine fin_ret () (vs := [_, _, _]) (Cs := []) rfl (.tmp rfl (.tmp rfl (.tmp rfl .nil))) ?_ trivial ent_nil
     rw [if_pos (by omega)]
     show Value.tuple #[_, _, _] = Value.tuple #[_, _, _]
     simp only [Option.getD_some]
     rw [show (i : Int) + 1 + n = ((i + 1 + n : Nat) : Int) by omega]; rfl
    ·
     refine Zk (k:=Yb (Ya (Qc (k:=Qv (k:=Vv (k:=Wq (Zt (k:=?_))))))))
     exact zb149ret12
   ·
    refine Qc (k:=Qv (k:=Wq (Zi (t:=fun h44 => ?_) (f:=fun h44 => ?_))))
    ·
     refine Za (k:=?_)
     rw [if_neg (show ¬ (n = 0 ∨ d.length ≤ i) by omega), if_neg (fun h => absurd ((e58 _).2 h) (by assumption)), if_pos ((e64 _).1 (by assumption))]
     refine Zr (k:=Qv (k:=Vv (k:=?_)))
     refine r_callF hR rfl rfl rfl ?_
     refine Vv (k:=?_)
     refine wo_pv (pv_extract (v := vI ((x.getD (0, 0)).1 : Nat)) rfl rfl) rfl ?_
     refine wo_pv (pv_extract (v := vI ((x.getD (0, 0)).2 : Nat)) rfl rfl) rfl ?_
     refine wo_pv (pv_extract (v := vB x.isSome) rfl rfl) rfl ?_
     refine Qv (k:=Vv (k:=Wq (Qc (k:=Qv (k:=Gi 1 (t:=fun h55 => ?_) (f:=fun h55 => ?_))))))
     ·
      obtain ⟨⟨f, j⟩, rfl⟩ : ∃ y, x = some y := by cases x with | none => simp at h55 | some y => exact ⟨y, rfl⟩
      have hjl := hj f j rfl
      dsimp only [Option.getD_some]
      refine J1 (k:=J1 (k:=J1 (k:=J1 (k:=P1 (k:=Vv (k:=Gi 7 (t:=fun h61 => ?_) (f:=fun h61 => ?_)))))))
      ·
       refine J1 (k:=J1 (k:=I1 (k:=?_)))
       refine wo_pv (pv_indexm (m := j) Tryz.underlying9 rfl rfl rfl (by omega)) rfl ?_
       refine J1 (k:=P1 (k:=Vv (k:=Gi 13 (t:=fun h67 => ?_) (f:=fun h67 => ?_))))
       ·
        refine J1 (k:=J1 (k:=J1 (k:=J1 (k:=P1 (k:=Vv (k:=Gi 19 (t:=fun h73 => ?_) (f:=fun h73 => ?_)))))))
        ·
         refine J1 (k:=J1 (k:=J1 (k:=J1 (k:=J1 (k:=J1 (k:=?_))))))
         refine P1 (k:=Wq (Zi (t:=fun h80 => ?_) (f:=fun h80 => ?_)))
         ·
          refine Qc (k:=Qv (k:=Qv (k:=Vv (k:=?_))))
          refine wo_pv (pv_slice_inm (m := f) (o := f + n) Tryz.underlying9 rfl rfl rfl rfl (by omega) (by omega) (by omega)) rfl ?_
          rw [show f + n - f = n by omega]
          refine Qv (k:=Qv (k:=Vv (k:=Wq (Zt (k:=Vb (Va ?_))))))
          refine fin_ret () (vs := [_, _, _]) (Cs := []) rfl (.tmp rfl (.tmp rfl (.tmp rfl .nil))) ?_ trivial ent_nil
          try dsimp only
          rw [if_pos ⟨by omega, (e44 _).1 (by assumption), by omega, by omega⟩]; rfl
         ·
          refine Zk (k:=Yb (Ya (Qc (k:=Qv (k:=Vv (k:=Wq (Zt (k:=?_))))))))
          exact zb149ret12
        ·
         refine O0 (k:=O0 (k:=O0 (k:=O0 (k:=O0 (k:=O0 (k:=P0 (k:=Wq (Z0 (k:=Zk (k:=Yb (Ya ?_)))))))))))
         refine Qc (k:=Qv (k:=Vv (k:=Wq (Zt (k:=?_)))))
         exact zb149ret12
       ·
        refine O0 (k:=O0 (k:=O0 (k:=O0 (k:=P0 (k:=Vv (k:=O0 (k:=O0 (k:=O0 (k:=O0 (k:=O0 (k:=O0 (k:=?_))))))))))))
        refine P0 (k:=Wq (Z0 (k:=Zk (k:=Yb (Ya (Qc (k:=Qv (k:=Vv (k:=Wq ?_)))))))))
        refine Zt (k:=?_)
        exact zb149ret12
      ·
       refine O0 (k:=O0 (k:=O0 (k:=O0 (k:=P0 (k:=Vv (k:=O0 (k:=O0 (k:=O0 (k:=O0 (k:=P0 (k:=Vv (k:=?_))))))))))))
       refine O0 (k:=O0 (k:=O0 (k:=O0 (k:=O0 (k:=O0 (k:=P0 (k:=Wq (Z0 (k:=Zk (k:=Yb (Ya ?_)))))))))))
       refine Qc (k:=Qv (k:=Vv (k:=Wq (Zt (k:=?_)))))
       exact zb149ret12
     ·
      obtain rfl : x = none := by cases x with | none => rfl | some y => simp at h55
      refine O0 (k:=O0 (k:=O0 (k:=O0 (k:=P0 (k:=Vv (k:=O0 (k:=O0 (k:=O0 (k:=O0 (k:=P0 (k:=Vv (k:=?_))))))))))))
      refine O0 (k:=O0 (k:=O0 (k:=O0 (k:=P0 (k:=Vv (k:=O0 (k:=O0 (k:=O0 (k:=O0 (k:=O0 (k:=O0 (k:=?_))))))))))))
      refine P0 (k:=Wq (Z0 (k:=Zk (k:=Yb (Ya (Qc (k:=Qv (k:=Vv (k:=Wq ?_)))))))))
      refine Zt (k:=?_)
      exact zb149ret12
    ·
     refine Zk (k:=Yb (Ya (Qc (k:=Qv (k:=Vv (k:=Wq (Zt (k:=?_))))))))
     exact zb149ret12
end
section
set_option maxRecDepth 100000
theorem rdF_digs {z : Bool} : ∀ {s : Bs} {n k m j : Nat}, rdF z s n k = some (m, j) → ∀ i, i < j - k → dv (s.getD i 0) ≠ none := by
 intro s
 induction s with
 | nil =>
   intro n k m j h i hi
   simp only [rdF] at h
   split at h
   · cases h
   · cases h; omega
 | cons c r ih =>
   intro n k m j h i hi
   simp only [rdF] at h
   split at h
   · split at h
     · cases h
     · cases h; omega
   · rename_i d hd
     split at h
     · cases h
     · cases i with
       | zero => rw [List.getD_cons_zero, hd]; exact fun h => by cases h
       | succ i => rw [List.getD_cons_succ]; exact ih h i (by omega)
theorem rdN_nl {d : Bs} {n j : Nat} (h : rdN d 0 = some (n, j)) (hj : j < d.length) (h10 : d.getD j 0 = 10) : Lib.indexByte d 10 = (j : Int) := by
 unfold rdN at h
 rw [List.drop_zero] at h
 cases e : rdF (decide (d.getD 0 0 = 48)) d 0 0 with
 | none => rw [e] at h; cases h
 | some x =>
   rw [e] at h
   have hx : x = (n, j) := by cases h; simp
   rw [hx] at e
   have hd := rdF_digs e
   have hf : d.findIdx? (· == 10) = some j := by
    rw [List.findIdx?_eq_some_iff_getElem]
    refine ⟨hj, ?_, fun i hi => ?_⟩
    · have : d[j] = d.getD j 0 := by simp [hj]
      rw [this, h10]; rfl
    · have : d[i] = d.getD i 0 := by simp [show i < d.length by omega]
      rw [this]
      have h2 := hd i (by omega)
      intro h3
      rw [eq_of_beq h3] at h2
      exact h2 (by decide)
   rw [indexByte_find, hf]
theorem applyB_size (src d : Bs) : applyB src d = match sizeB d with
    | none => none
    | some (n, j) => if 300 < n then none else goB src d n (d.length + 1) (j + 1) [] := by
 unfold applyB sizeB
 cases rdN d 0 with
 | none => rfl
 | some x =>
   obtain ⟨n, j⟩ := x
   dsimp only
   by_cases h : d.length ≤ j ∨ d.getD j 0 ≠ 10
   · rw [if_pos h, if_pos (h.elim (fun e => .inl e) (fun e => .inr (.inl e)))]
   · rw [if_neg h]
     dsimp only
     by_cases h3 : 300 < n
     · rw [if_pos (.inr (.inr h3)), if_pos h3]
     · rw [if_neg h3, if_neg (by rintro (e | e | e); exact h (.inl e); exact h (.inr e); exact h3 e)]
theorem sizeB_some {d : Bs} {n j : Nat} (h : sizeB d = some (n, j)) : rdN d 0 = some (n, j) ∧ j < d.length ∧ d.getD j 0 = 10 := by
 unfold sizeB at h
 cases e : rdN d 0 with
 | none => rw [e] at h; cases h
 | some x =>
   rw [e] at h
   dsimp only at h
   split at h
   · cases h
   · rename_i h2
     cases h
     exact ⟨rfl, by omega, Classical.not_not.1 fun h => h2 (.inr h)⟩
def apV (x : Option Bs) : Value := .tuple #[vS (x.getD []), vB x.isSome]
theorem zb98ret3 {G : Prop} (h : G := by
    refine fin_ret () (vs := [_, _]) (Cs := []) rfl (.tmp rfl (.tmp rfl .nil)) ?_ trivial ent_nil
    first
    | rfl
    | (try dsimp only
       rw [if_pos (by omega)]; rfl)) : G := h
theorem zb98ret8 {G : Prop} (h : G := by
    refine fin_ret () (vs := [_, _]) (Cs := []) rfl (.tmp rfl (.tmp rfl .nil)) ?_ trivial ent_nil
    try dsimp only
    rw [if_neg (by omega), hst]
    first
    | rfl
    | (rw [if_pos (by omega)]; rfl)) : G := h
theorem zb98ret11 {G : Prop} (h : G := by
    refine fin_ret () (vs := [_, _]) (Cs := []) rfl (.tmp rfl (.tmp rfl .nil)) ?_ trivial ent_nil
    try dsimp only
    rw [if_neg (by omega), hst, if_neg (by omega)]; rfl) : G := h
theorem zb98ret15 {G : Prop} (h : G := by
    refine fin_ret () (vs := [_, _]) (Cs := []) rfl (.tmp rfl (.tmp rfl .nil)) ?_ trivial ent_nil
    try dsimp only
    rw [if_neg (by omega), hst]
    first
    | rfl
    | (rw [if_pos (by omega)]; rfl)) : G := h
set_option maxHeartbeats 4000000 in
theorem delta_Apply_sp (src d : Bs) (hs : src.length ≤ 1099511627776) (hd : d.length ≤ 1099511627775) : SpF Tryz.prog 98 [vS src, vS d] (apV (applyB src d)) := by
 have e59 : ∀ c : UInt8, ((c.toNat : Int) = 59) ↔ c = 59 := fun c => u8_eq c 59 (by decide)
 rw [applyB_size]
 obtain ⟨x, hx⟩ : ∃ x, x = sizeB d := ⟨_, rfl⟩
 have hSz := delta_Size_sp d (by omega)
 rw [← hx] at hSz ⊢
 refine Sp.body (n := 90) Tryz.call98 Tryz.func98 rfl rfl rfl ?_
 refine Qc (k:=Qv (k:=Wq (Qc (k:=Vv (k:=?_)))))
 refine r_callF hSz rfl rfl rfl ?_
 refine Vv (k:=?_)
 refine wo_pv (pv_extract (v := vI ((x.getD (0, 0)).1 : Nat)) rfl rfl) rfl ?_
 refine wo_pv (pv_extract (v := vB x.isSome) rfl rfl) rfl ?_
 refine Qv (k:=Wq (Za (k:=Qc (k:=Qv (k:=Vv (k:=Gi 2 (t:=fun h22 => ?_) (f:=fun h22 => ?_)))))))
 ·
  obtain rfl : x = none := by cases x with | none => rfl | some y => simp at h22
  refine O1 (k:=O1 (k:=P1 (k:=Wq (Z1 (k:=Qc (k:=Qv (k:=Wq (Zt (k:=Va ?_)))))))))
  exact zb98ret3
 ·
  obtain ⟨⟨size, j0⟩, rfl⟩ : ∃ y, x = some y := by cases x with | none => simp at h22 | some y => exact ⟨y, rfl⟩
  dsimp only [Option.getD_some]
  obtain ⟨hr0, hj0, h10⟩ := sizeB_some hx.symm
  refine J0 (k:=J0 (k:=P0 (k:=Wq (Zi (t:=fun h25 => ?_) (f:=fun h25 => ?_)))))
  ·
   refine Qc (k:=Qv (k:=Wq (Zt (k:=Va ?_))))
   exact zb98ret3
  ·
   refine Zk (k:=Ya (Qc (k:=Vv (k:=Wq (Qc (k:=Vv (k:=?_)))))))
   refine r_callF (IndexByte_sp d 10) rfl rfl rfl ?_
   rw [show (10 : Int).toNat.toUInt8 = 10 from rfl, rdN_nl hr0 hj0 h10]
   refine Qv (k:=Wq (Zb (k:=?_)))
   refine p_loop (fun (i : { p : Nat × Bs // p.1 ≤ d.length ∧ p.2.length ≤ 300 ∧ goB src d size (d.length + 1) (j0 + 1) [] = goB src d size (d.length + 1) p.1 p.2 }) => [(0, vS src), (1, vS d), (6, vI size), (8, vS i.1.2), (9, vI i.1.1)]) (fun (i : { p : Nat × Bs // p.1 ≤ d.length ∧ p.2.length ≤ 300 ∧ goB src d size (d.length + 1) (j0 + 1) [] = goB src d size (d.length + 1) p.1 p.2 }) => []) (fun (i : { p : Nat × Bs // p.1 ≤ d.length ∧ p.2.length ≤ 300 ∧ goB src d size (d.length + 1) (j0 + 1) [] = goB src d size (d.length + 1) p.1 p.2 }) => d.length - i.1.1) rfl (⟨(j0 + 1, []), by dsimp only; omega, by simp, rfl⟩) ?_ ?_ (fun i => ?_)
   · exact ⟨rfl, rfl, rfl, rfl, rfl, trivial⟩
   ·
    exact ent_pick
   obtain ⟨⟨i, out⟩, hi, ho, hg⟩ := i
   dsimp only at hi ho hg ⊢
   have hst := goB_step (src := src) (size := size) (out := out) hi
   rw [← hg] at hst
   obtain ⟨y, hy⟩ : ∃ y, y = rdN d i := ⟨_, rfl⟩
   have hR := digit_Read_sp d i (by omega) (by omega)
   have hyl : ∀ n j, y = some (n, j) → n ≤ 1073741824 ∧ i < j ∧ j ≤ d.length := fun n j e => by rw [hy] at e; have := rdN_le e; omega
   rw [← hy] at hR hst
   clear hg
   try dsimp only
   refine Zb (k:=Qc (k:=Qv (k:=?_)))
   refine r_callF hR rfl rfl rfl ?_
   refine Vv (k:=?_)
   refine wo_pv (pv_extract (v := vI ((y.getD (0, 0)).1 : Nat)) rfl rfl) rfl ?_
   refine wo_pv (pv_extract (v := vI ((y.getD (0, 0)).2 : Nat)) rfl rfl) rfl ?_
   refine wo_pv (pv_extract (v := vB y.isSome) rfl rfl) rfl ?_
   refine Qv (k:=Vv (k:=Wq (Za (k:=Qc (k:=Qv (k:=Vv (k:=Gi 2 (t:=fun h38 => ?_) (f:=fun h38 => ?_))))))))
   ·
    obtain rfl : y = none := by cases y with | none => rfl | some y => simp at h38
    refine O1 (k:=O1 (k:=O1 (k:=O1 (k:=P1 (k:=Wq (Z1 (k:=Qc (k:=Qv (k:=Wq ?_)))))))))
    refine Zt (k:=Va (Vb (Vi (Vb ?_))))
    exact zb98ret8
   ·
    obtain ⟨⟨n, j⟩, rfl⟩ : ∃ w, y = some w := by cases y with | none => simp at h38 | some w => exact ⟨w, rfl⟩
    obtain ⟨hn, hij, hjl⟩ := hyl n j rfl
    dsimp only [Option.getD_some] at hst ⊢
    refine J0 (k:=J0 (k:=J0 (k:=J0 (k:=P0 (k:=Wq (Zi (t:=fun h43 => ?_) (f:=fun h43 => ?_)))))))
    ·
     refine Qc (k:=Qv (k:=Wq (Zt (k:=Va (Vb (Vi (Vb ?_)))))))
     exact zb98ret8
    ·
     refine Zk (k:=Ya (Za (k:=Za (k:=?_))))
     have hjl2 : j < d.length := by omega
     rw [if_neg (by omega)] at hst
     refine Zr (k:=Qv (k:=?_))
     refine wo_pv (pv_indexm (m := j) Tryz.underlying9 rfl rfl rfl (by omega)) rfl ?_
     refine Vv (k:=Wq (Zi (t:=fun h47 => ?_) (f:=fun h47 => ?_)))
     ·
      rw [if_pos ((e59 _).1 h47)] at hst
      refine Za (k:=Qc (k:=Qv (k:=Qv (k:=Qv (k:=Gi 5 (t:=fun h53 => ?_) (f:=fun h53 => ?_))))))
      ·
       refine O1 (k:=O1 (k:=O1 (k:=O1 (k:=P1 (k:=Vv (k:=O1 (k:=O1 (k:=O1 (k:=O1 (k:=P1 (k:=Wq ?_)))))))))))
       refine Z1 (k:=Qc (k:=Qv (k:=Wq (Zt (k:=Va (Va (Vb (Vi (Vb ?_)))))))))
       exact zb98ret11
      ·
       refine J0 (k:=J0 (k:=J0 (k:=J0 (k:=P0 (k:=Vv (k:=Gi 11 (t:=fun h59 => ?_) (f:=fun h59 => ?_)))))))
       ·
        refine O1 (k:=O1 (k:=O1 (k:=O1 (k:=P1 (k:=Wq (Z1 (k:=Qc (k:=Qv (k:=Wq ?_)))))))))
        refine Zt (k:=Va (Va (Vb (Vi (Vb ?_)))))
        exact zb98ret11
       ·
        refine J0 (k:=J0 (k:=I0 (k:=?_)))
        refine r_callF (delta_Check_sp out (by omega)) rfl rfl rfl ?_
        refine J0 (k:=P0 (k:=Wq (Zi (t:=fun h64 => ?_) (f:=fun h64 => ?_))))
        ·
         refine Qc (k:=Qv (k:=Wq (Zt (k:=Va (Va (Vb (Vi (Vb ?_))))))))
         exact zb98ret11
        ·
         refine Zk (k:=Ya (Qc (k:=Qv (k:=Vv (k:=Wq (Zt (k:=Va (Vb (Vi ?_)))))))))
         refine Vb ?_
         refine fin_ret () (vs := [_, _]) (Cs := []) rfl (.tmp rfl (.tmp rfl .nil)) ?_ trivial ent_nil
         try dsimp only
         rw [if_neg (by omega), hst, if_pos (by omega)]; rfl
     ·
      rw [if_neg (fun h => h47 ((e59 _).2 h))] at hst
      obtain ⟨w, hw⟩ : ∃ w, w = cmdB src d n j := ⟨_, rfl⟩
      have hC := delta_command_sp src d n j hs (by omega) hn (by omega)
      have hwl : ∀ s b, w = some (s, b) → j < b ∧ b ≤ d.length := fun s b e => by rw [hw] at e; have := cmdB_le e; omega
      rw [← hw] at hC hst
      refine Zk (k:=Ya (Qc (k:=Qv (k:=Qv (k:=?_)))))
      refine r_callF hC rfl rfl rfl ?_
      refine Vv (k:=?_)
      refine wo_pv (pv_extract (v := vS (w.getD ([], 0)).1) rfl rfl) rfl ?_
      refine wo_pv (pv_extract (v := vI ((w.getD ([], 0)).2 : Nat)) rfl rfl) rfl ?_
      refine wo_pv (pv_extract (v := vB w.isSome) rfl rfl) rfl ?_
      refine Qv (k:=Vv (k:=Wq (Za (k:=Qc (k:=Qv (k:=Vv (k:=Gi 2 (t:=fun h77 => ?_) (f:=fun h77 => ?_))))))))
      ·
       obtain rfl : w = none := by cases w with | none => rfl | some y => simp at h77
       refine O1 (k:=O1 (k:=O1 (k:=O1 (k:=O1 (k:=O1 (k:=O1 (k:=P1 (k:=Wq (Z1 (k:=Qc (k:=?_)))))))))))
       refine Qv (k:=Wq (Zt (k:=Va (Vb (Vi (Vb ?_))))))
       exact zb98ret15
      ·
       obtain ⟨⟨t, b⟩, rfl⟩ : ∃ v, w = some v := by cases w with | none => simp at h77 | some v => exact ⟨v, rfl⟩
       obtain ⟨hjb, hbl⟩ := hwl t b rfl
       dsimp only [Option.getD_some] at hst ⊢
       refine J0 (k:=J0 (k:=J0 (k:=J0 (k:=J0 (k:=J0 (k:=?_))))))
       refine J0 (k:=P0 (k:=Wq (Zi (t:=fun h85 => ?_) (f:=fun h85 => ?_))))
       ·
        refine Qc (k:=Qv (k:=Wq (Zt (k:=Va (Vb (Vi (Vb ?_)))))))
        exact zb98ret15
       ·
        refine Zk (k:=Ya ?_)
        rw [if_neg (by omega)] at hst
        refine Zr (k:=Qv (k:=?_))
        refine wo_pv (pv_cat rfl rfl (by omega)) rfl ?_
        refine Qv (k:=Vv (k:=Wn (Yb ?_)))
        refine to_inv ⟨(b, out ++ t), by dsimp only; omega, by dsimp only; rw [List.length_append]; omega, hst⟩ (by dsimp only; omega) ⟨rfl, rfl, rfl, rfl, rfl, trivial⟩ ent_nil
theorem cmdB_58 {src d : Bs} {n i : Nat} (h : i < d.length) (hc : d.getD i 0 = 58) : cmdB src d n i = if n = 0 then none else if n ≤ d.length - (i + 1) then some ((d.drop (i + 1)).take n, i + 1 + n) else none := by
 unfold cmdB
 by_cases e : n = 0
 · rw [if_pos (.inl e), if_pos e]
 · rw [if_neg (by omega), if_neg e, if_pos hc]
theorem cmdB_64 {src d : Bs} {n i : Nat} (h : i < d.length) (hc : d.getD i 0 = 64) : cmdB src d n i = if n = 0 then none else match rdN d (i + 1) with
    | none => none
    | some (f, j) => if j < d.length ∧ d.getD j 0 = 44 ∧ f ≤ src.length ∧ n ≤ src.length - f then some ((src.drop f).take n, j + 1) else none := by
 unfold cmdB
 by_cases e : n = 0
 · rw [if_pos (.inl e), if_pos e]
 · rw [if_neg (by omega), if_neg e, if_neg (by rw [hc]; decide), if_pos hc]
   cases rdN d (i + 1) <;> rfl
end
section
set_option maxRecDepth 100000
/-- How many bytes two texts begin with alike. -/
def lcpN : Bs → Bs → Nat
 | a :: s, b :: t => if a = b then lcpN s t + 1 else 0
 | _, _ => 0
theorem lcp_le : ∀ (s t : Bs), lcpN s t ≤ s.length ∧ lcpN s t ≤ t.length := by
 intro s
 induction s with
 | nil => intro t; simp [lcpN]
 | cons a s ih =>
   intro t
   cases t with
   | nil => simp [lcpN]
   | cons b t =>
     have := ih t
     simp only [lcpN, List.length_cons]
     split <;> omega
theorem lcp_ne : ∀ (s t : Bs) (n : Nat), s.getD n 0 ≠ t.getD n 0 → lcpN s t ≤ n := by
 intro s
 induction s with
 | nil => intro t n _; simp [lcpN]
 | cons a s ih =>
   intro t n h
   cases t with
   | nil => simp [lcpN]
   | cons b t =>
     simp only [lcpN]
     split
     · cases n with
       | zero => rename_i e; exact absurd e (by simpa using h)
       | succ n => have := ih t n (by simpa using h); omega
     · omega
theorem lcp_step {s t : Bs} (hs : s ≠ []) (ht : t ≠ []) (h : s.getD 0 0 = t.getD 0 0) : lcpN s t = 1 + lcpN (s.drop 1) (t.drop 1) := by
 cases s with
 | nil => exact absurd rfl hs
 | cons a s =>
   cases t with
   | nil => exact absurd rfl ht
   | cons b t => simp only [List.getD_cons_zero] at h; simp [lcpN, h, Nat.add_comm]
theorem lcp_take : ∀ (s t : Bs), s.take (lcpN s t) = t.take (lcpN s t) := by
 intro s
 induction s with
 | nil => intro t; simp [lcpN]
 | cons a s ih =>
   intro t
   cases t with
   | nil => simp [lcpN]
   | cons b t =>
     simp only [lcpN]
     split
     · rename_i e; rw [e, List.take_succ_cons, List.take_succ_cons, ih]
     · rfl
def lonS (src rest : Bs) (p : Nat × Nat) (i : Nat) : Nat × Nat := if p.2 < lcpN (src.drop i) rest then (i, lcpN (src.drop i) rest) else p
def lonF (src rest : Bs) : Nat → Nat × Nat
 | 0 => (0, 0)
 | j + 1 => lonS src rest (lonF src rest j) j
def lonB (src rest : Bs) : Nat × Nat := lonF src rest src.length
theorem lonF_ok (src rest : Bs) : ∀ j, j ≤ src.length → (lonF src rest j).1 ≤ src.length ∧ (lonF src rest j).2 = lcpN (src.drop (lonF src rest j).1) rest ∨ (lonF src rest j) = (0, 0) := by
 intro j
 induction j with
 | zero => intro _; exact .inr rfl
 | succ j ih =>
   intro h
   simp only [lonF, lonS]
   split
   · left; exact ⟨by dsimp only; omega, rfl⟩
   · exact ih (by omega)
theorem lonF_le (src rest : Bs) {j : Nat} (h : j ≤ src.length) : (lonF src rest j).1 + (lonF src rest j).2 ≤ src.length ∧ (lonF src rest j).2 ≤ rest.length ∧ (src.drop (lonF src rest j).1).take (lonF src rest j).2 = rest.take (lonF src rest j).2 := by
 rcases lonF_ok src rest j h with ⟨h1, h2⟩ | h1
 · have h3 := lcp_le (src.drop (lonF src rest j).1) rest
   rw [List.length_drop, ← h2] at h3
   refine ⟨by omega, h3.2, ?_⟩
   have h4 := lcp_take (src.drop (lonF src rest j).1) rest
   rwa [← h2] at h4
 · rw [h1]; simp
theorem lonF_stop {src rest : Bs} {j : Nat} (h : rest.length ≤ (lonF src rest j).2) : ∀ k, lonF src rest (j + k) = lonF src rest j := by
 intro k
 induction k with
 | zero => rfl
 | succ k ih =>
   rw [← Nat.add_assoc, lonF, ih, lonS, if_neg]
   have := (lcp_le (src.drop (j + k)) rest).2
   omega
theorem zb143join14 {G : Prop} (h : G := by
    first
    | (have hjs : j = src.length := by omega
       exact to_inv ⟨(f, n), by rw [hp, hjs]; rfl⟩ trivial ⟨rfl, rfl, trivial⟩ ent_nil)
    | (refine to_inv ⟨(f, n), ?_⟩ trivial ⟨rfl, rfl, trivial⟩ ent_nil
       have h3 := lonF_stop (src := src) (rest := rest) (j := j) (by rw [← hp]; dsimp only; omega) (src.length - j)
       rw [show j + (src.length - j) = src.length by omega] at h3
       rw [hp, lonB, h3])) : G := h
theorem zb143next0 {G : Prop} (h : G := by
    first
    | exact to_inv ⟨(j + 1, (j, k)), by dsimp only; omega, by dsimp only; rw [hsu, if_pos (by omega), hk]⟩ (by dsimp only; omega) ⟨rfl, rfl, rfl, rfl, rfl, rfl, trivial⟩ ent_nil
    | (refine to_inv ⟨(j + 1, (f, n)), by dsimp only; omega, ?_⟩ (by dsimp only; omega) ⟨rfl, rfl, rfl, rfl, rfl, rfl, trivial⟩ ent_nil
       dsimp only
       rw [hsu, if_neg]
       first
       | omega
       | (have h5 := lcp_ne (src.drop j) rest n (by
            have hd3 : (src.drop j).getD n 0 = src.getD (j + n) 0 := by simp [List.getD_eq_getElem?_getD, List.getElem?_drop]
            rw [hd3]
            intro e
            exact h34 (by rw [e]))
          omega))) : G := h
theorem zb143join11 {G : Prop} (h : G := by
    first
    | exact to_inv ⟨k, hlk.symm⟩ trivial ⟨rfl, rfl, rfl, rfl, rfl, rfl, rfl, rfl, trivial⟩ ent_nil
    | (refine to_inv ⟨k, ?_⟩ trivial ⟨rfl, rfl, rfl, rfl, rfl, rfl, rfl, rfl, trivial⟩ ent_nil
       have h4 := lcp_le (src.drop (j + k)) (rest.drop k)
       rw [List.length_drop, List.length_drop] at h4
       omega)) : G := h
set_option maxHeartbeats 4000000 in
theorem delta_longest_sp (src rest : Bs) (hs : src.length ≤ 1073741824) (hr : rest.length ≤ 1073741824) : SpF Tryz.prog 143 [vS src, vS rest] (.tuple #[vI (lonB src rest).1, vI (lonB src rest).2]) := by
 refine Sp.body (n := 69) Tryz.call143 Tryz.func143 rfl rfl rfl ?_
 refine Qc (k:=Qv (k:=Wq (Zs (k:=Za (k:=Zl (k:=Ya ?_))))))
 refine p_cut (fun (i : { p : Nat × Nat // p = lonB src rest }) => [(4, vI i.1.1), (5, vI i.1.2)]) (fun (i : { p : Nat × Nat // p = lonB src rest }) => []) rfl (fun i => ?_) ?_
 ·
  obtain ⟨⟨f, n⟩, hp⟩ := i
  dsimp only
  try dsimp only
  refine Qc (k:=Qv (k:=Qv (k:=Wq (Zt (k:=Vs ?_)))))
  refine fin_ret () (vs := [_, _]) (Cs := []) rfl (.tmp rfl (.tmp rfl .nil)) ?_ trivial ent_nil
  rw [← hp]; rfl
 ·
  refine Qc (k:=Qv (k:=Vv (k:=?_)))
  rw [show min (src.length : Int) 1073741824 = (src.length : Int) by omega]
  refine Vv (k:=Wq (Zb (k:=?_)))
  refine p_loop (fun (i : { x : Nat × (Nat × Nat) // x.1 ≤ src.length ∧ x.2 = lonF src rest x.1 }) => [(0, vS src), (1, vS rest), (4, vI i.1.2.1), (5, vI i.1.2.2), (10, vI src.length), (11, vI i.1.1)]) (fun (i : { x : Nat × (Nat × Nat) // x.1 ≤ src.length ∧ x.2 = lonF src rest x.1 }) => []) (fun (i : { x : Nat × (Nat × Nat) // x.1 ≤ src.length ∧ x.2 = lonF src rest x.1 }) => src.length - i.1.1) rfl (⟨(0, (0, 0)), Nat.zero_le _, rfl⟩) ?_ ?_ (fun i => ?_)
  · exact ⟨rfl, rfl, rfl, rfl, rfl, rfl, trivial⟩
  ·
   exact ent_pick
  obtain ⟨⟨j, f, n⟩, hj, hp⟩ := i
  dsimp only at hj hp ⊢
  have hle := lonF_le src rest hj
  have hsu : lonF src rest (j + 1) = lonS src rest (f, n) j := by rw [lonF, ← hp]
  have hll := lcp_le (src.drop j) rest
  rw [← hp] at hle
  rw [List.length_drop] at hll
  dsimp only at hle
  simp only [lonS] at hsu
  try dsimp only
  refine Qc (k:=Vv (k:=Wq (Za (k:=Zi (t:=fun h12 => ?_) (f:=fun h12 => ?_)))))
  ·
   refine Zk (k:=Ya (Za (k:=Zb (k:=Qc (k:=Qv (k:=Wq (Za (k:=Qc (k:=?_)))))))))
   refine Qv (k:=Qv (k:=Wq (Zi (t:=fun h17 => ?_) (f:=fun h17 => ?_))))
   ·
    refine Ze (k:=Xa (Xo (k:=Xa (Xi (Xb ?_)))))
    exact zb143join14
   ·
    refine Zk (k:=Ya (Za (k:=Za (k:=Dw [] (k:=?_)))))
    refine Dv 0 (k:=Dv 1 (k:=Dv 2 (k:=Dv 3 (k:=Dv 4 (k:=Dv 5 (k:=Dv 6 (k:=Gd 6 (t:=fun h24 => ?_) (f:=fun h24 => ?_))))))))
    ·
     refine D1 7 (k:=D1 8 (k:=D1 9 (k:=D1 10 (k:=D1 11 (k:=D1 12 (k:=D1 13 (k:=D1 14 (k:=D1 15 (k:=DP1 16 (k:=Dd (k:=Ya ?_)))))))))))
     refine Z1 (k:=Ze (k:=Xa (Xb (Ya (Zr (k:=Qv (k:=Wn ?_)))))))
     exact zb143next0
    ·
     refine Di 7 (t:=U0 (h:=Uv)) (k:=Di 8 (t:=U0 (h:=Uv)) (k:=Di 9 (t:=U0 (h:=Uv)) (k:=Di 10 (t:=U0 (h:=Uv)) (k:=?_))))
     refine d_first 11 rfl rfl rfl (by kernel_rfl) (by kernel_rfl) (tl_in (b := false) rfl (tl_pv (pv_indexm (m := j + n) Tryz.underlying9 rfl rfl rfl (by omega)))) ?_
     refine Di 12 (t:=U0 (h:=Uv)) (k:=Di 13 (t:=U0 (h:=Uv)) (k:=?_))
     refine d_first 14 rfl rfl rfl (by kernel_rfl) (by kernel_rfl) (tl_in (b := false) rfl (tl_pv (pv_indexm (m := n) Tryz.underlying9 rfl rfl rfl (by omega)))) ?_
     refine Di 15 (t:=U0 (h:=Uv)) (k:=DP0 16 (k:=Dd (k:=Ya (Zi (t:=fun h34 => ?_) (f:=fun h34 => ?_)))))
     ·
      refine Ze (k:=Xa (Xb (Ya (Zr (k:=Qv (k:=Wn ?_))))))
      exact zb143next0
     ·
      refine Zk (k:=Ya (Qc (k:=Vv (k:=Wq ?_))))
      refine p_cut (fun (i : { k : Nat // k = lcpN (src.drop j) rest }) => [(0, vS src), (1, vS rest), (4, vI f), (5, vI n), (6, vI j), (7, vI i.1), (10, vI src.length), (11, vI j)]) (fun (i : { k : Nat // k = lcpN (src.drop j) rest }) => []) rfl (fun i => ?_) ?_
      ·
       obtain ⟨k, hk⟩ := i
       dsimp only
       try dsimp only
       refine Qc (k:=Qv (k:=Vv (k:=Wq (Zi (t:=fun h63 => ?_) (f:=fun h63 => ?_)))))
       ·
        refine Zr (k:=Qv (k:=Qv (k:=Wn (Yb (Ya (Zr (k:=Qv (k:=Wn ?_))))))))
        exact zb143next0
       ·
        refine Zk (k:=Yb (Ya (Zr (k:=Qv (k:=Wn ?_)))))
        exact zb143next0
      ·
       refine Zb (k:=?_)
       refine p_loop (fun (i : { k : Nat // k ≤ rest.length ∧ j + k ≤ src.length ∧ lcpN (src.drop j) rest = k + lcpN (src.drop (j + k)) (rest.drop k) }) => [(0, vS src), (1, vS rest), (4, vI f), (5, vI n), (6, vI j), (7, vI i.1), (10, vI src.length), (11, vI j)]) (fun (i : { k : Nat // k ≤ rest.length ∧ j + k ≤ src.length ∧ lcpN (src.drop j) rest = k + lcpN (src.drop (j + k)) (rest.drop k) }) => []) (fun (i : { k : Nat // k ≤ rest.length ∧ j + k ≤ src.length ∧ lcpN (src.drop j) rest = k + lcpN (src.drop (j + k)) (rest.drop k) }) => rest.length - i.1) rfl (⟨0, Nat.zero_le _, by omega, by simp⟩) ?_ ?_ (fun i => ?_)
       · exact ⟨rfl, rfl, rfl, rfl, rfl, rfl, rfl, rfl, trivial⟩
       ·
        exact ent_pick
       obtain ⟨k, hk1, hk2, hk3⟩ := i
       dsimp only
       have hd1 : (src.drop (j + k)).getD 0 0 = src.getD (j + k) 0 := by simp [List.getD_eq_getElem?_getD, List.getElem?_drop]
       have hd2 : (rest.drop k).getD 0 0 = rest.getD k 0 := by simp [List.getD_eq_getElem?_getD, List.getElem?_drop]
       have hcc : ((src.getD (j + k) 0).toNat : Int) = ((rest.getD k 0).toNat : Int) → src.getD (j + k) 0 = rest.getD k 0 := fun h => UInt8.toNat_inj.1 (by omega)
       try dsimp only
       refine Za (k:=Qc (k:=Qv (k:=Qv (k:=Vv (k:=Gi 4 (t:=fun h39 => ?_) (f:=fun h39 => ?_))))))
       ·
        refine J1 (k:=J1 (k:=J1 (k:=J1 (k:=J1 (k:=J1 (k:=?_))))))
        refine P1 (k:=Wq (Zi (t:=fun h46 => ?_) (f:=fun h46 => ?_)))
        ·
         refine Zk (k:=Ya (Zb (k:=Za (k:=Za (k:=Dw [] (k:=?_))))))
         refine Dv 0 (k:=Dv 1 (k:=Dv 2 (k:=Dv 3 (k:=?_))))
         refine d_first 4 rfl rfl rfl (by kernel_rfl) (by kernel_rfl) (tl_pv (pv_indexm (m := j + k) Tryz.underlying9 rfl rfl rfl (by omega))) ?_
         refine Dv 5 (k:=Dv 6 (k:=?_))
         refine d_first 7 rfl rfl rfl (by kernel_rfl) (by kernel_rfl) (tl_pv (pv_indexm (m := k) Tryz.underlying9 rfl rfl rfl (by omega))) ?_
         refine Dv 8 (k:=Dd (k:=Ya (Zi (t:=fun h55 => ?_) (f:=fun h55 => ?_))))
         ·
          have hlk : lcpN (src.drop j) rest = k := by
           have := lcp_ne (src.drop (j + k)) (rest.drop k) 0 (by rw [hd1, hd2]; exact fun e => h55 (by rw [e]))
           omega
          refine Za (k:=Qc (k:=Qv (k:=Vv (k:=Wq (Zi (t:=fun h58 => ?_) (f:=fun h58 => ?_))))))
          ·
           refine Ze (k:=Xa (Xa (Xo (k:=Xi (Xo (k:=Xi (Xb (Ya (Zr (k:=Qv (k:=?_)))))))))))
           refine Wn ?_
           exact zb143next0
          ·
           refine Zk (k:=Ya (Ze (k:=Xa (Xo (k:=Xi (Xb ?_))))))
           exact zb143join11
         ·
          refine Zk (k:=Ya (Zr (k:=Qv (k:=Vv (k:=Wn (Yb ?_))))))
          refine to_inv ⟨k + 1, by omega, by omega, ?_⟩ (by dsimp only; omega) ⟨rfl, rfl, rfl, rfl, rfl, rfl, rfl, rfl, trivial⟩ ent_nil
          have h3 := lcp_step (s := src.drop (j + k)) (t := rest.drop k) (fun e => by have := congrArg List.length e; rw [List.length_drop] at this; simp at this; omega) (fun e => by have := congrArg List.length e; rw [List.length_drop] at this; simp at this; omega) (by rw [hd1, hd2]; exact hcc (Classical.not_not.1 h55))
          rw [hk3, h3, List.drop_drop, List.drop_drop]
          rw [show j + (k + 1) = j + k + 1 by omega]
          omega
        ·
         refine Ze (k:=Xa (Xi (Xb ?_)))
         exact zb143join11
       ·
        refine O0 (k:=O0 (k:=O0 (k:=O0 (k:=O0 (k:=O0 (k:=P0 (k:=Wq (Z0 (k:=Ze (k:=Xa (Xi ?_)))))))))))
        refine Xb ?_
        exact zb143join11
  ·
   refine Ze (k:=Xa (Xi (Xb ?_)))
   exact zb143join14
/-- A command that puts a text. -/
def plainB (s : Bs) : Bs := if s = [] then [] else putN s.length ++ [58] ++ s
theorem delta_plain_sp (s : Bs) (hs : s.length ≤ 1073741824) : SpF Tryz.prog 144 [vS s] (vS (plainB s)) := by
 have hp := putN_len hs
 refine Sp.body (n := 11) Tryz.call144 Tryz.func144 rfl rfl rfl ?_
 refine Qc (k:=Vv (k:=Wq (Za (k:=Qc (k:=Qv (k:=Wq (Zi (t:=fun h4 => ?_) (f:=fun h4 => ?_))))))))
 ·
  refine Qc (k:=Vv (k:=Wq (Zt (k:=Va ?_))))
  refine fin_ret () (vs := [_]) (Cs := []) rfl (.tmp rfl .nil) ?_ trivial ent_nil
  rw [plainB, if_pos h4]; rfl
 ·
  refine Zk (k:=Ya (Qc (k:=Qv (k:=?_))))
  refine r_callF (digit_Put_sp s.length hs) rfl rfl rfl ?_
  refine wo_pv (pv_cat rfl rfl (by simp only [List.length_singleton]; omega)) rfl ?_
  refine Vv (k:=?_)
  refine wo_pv (pv_cat rfl rfl (by simp only [List.length_append, List.length_singleton]; omega)) rfl ?_
  refine Vv (k:=Wq (Zt (k:=?_)))
  refine fin_ret () (vs := [_]) (Cs := []) rfl (.tmp rfl .nil) ?_ trivial ent_nil
  rw [plainB, if_neg h4]; rfl
theorem plainB_len {s : Bs} (h : s.length ≤ 1073741824) : (plainB s).length ≤ s.length + 7 := by
 have := putN_len h
 unfold plainB
 split
 · simp
 · simp only [List.length_append, List.length_singleton]; omega
/-! Making a delta. -/
def copyB (n f : Nat) (p : Bs) : Bs := p ++ putN n ++ [64] ++ putN f ++ [44]
def mkF (src tgt : Bs) : Nat → Nat → Nat → Bs → Bs
 | 0, _, done, out => out ++ plainB (tgt.drop done) ++ putN (chkB tgt) ++ [59]
 | k + 1, i, done, out => if tgt.length ≤ i then out ++ plainB (tgt.drop done) ++ putN (chkB tgt) ++ [59]
   else if (lonB src (tgt.drop i)).2 < 16 then mkF src tgt k (i + 1) done out
   else mkF src tgt k (i + (lonB src (tgt.drop i)).2) (i + (lonB src (tgt.drop i)).2) (out ++ copyB (lonB src (tgt.drop i)).2 (lonB src (tgt.drop i)).1 (plainB ((tgt.drop done).take (i - done))))
theorem mkF_more (src tgt : Bs) : ∀ (k g i done : Nat) (out : Bs), tgt.length ≤ i + k → tgt.length ≤ i + g → mkF src tgt k i done out = mkF src tgt g i done out := by
 intro k
 induction k with
 | zero =>
   intro g i done out h1 h2
   cases g with
   | zero => rfl
   | succ g => rw [mkF, mkF, if_pos (by omega)]
 | succ k ih =>
   intro g i done out h1 h2
   cases g with
   | zero => rw [mkF, mkF, if_pos (by omega)]
   | succ g =>
     rw [mkF, mkF]
     split
     · rfl
     · split
       · exact ih g _ _ _ (by omega) (by omega)
       · exact ih g _ _ _ (by omega) (by omega)
def makeB (src tgt : Bs) : Bs := if 300 < tgt.length then [] else mkF src tgt tgt.length 0 0 (putN tgt.length ++ [10])
theorem mkF_step (src tgt : Bs) {i : Nat} (h : i < tgt.length) (done : Nat) (out : Bs) : mkF src tgt tgt.length i done out = if (lonB src (tgt.drop i)).2 < 16 then mkF src tgt tgt.length (i + 1) done out
    else mkF src tgt tgt.length (i + (lonB src (tgt.drop i)).2) (i + (lonB src (tgt.drop i)).2) (out ++ copyB (lonB src (tgt.drop i)).2 (lonB src (tgt.drop i)).1 (plainB ((tgt.drop done).take (i - done)))) := by
 obtain ⟨k, hk⟩ : ∃ k, tgt.length = k + 1 := ⟨tgt.length - 1, by omega⟩
 conv => lhs; rw [hk, mkF, if_neg (by omega)]
 split
 · exact mkF_more _ _ _ _ _ _ _ (by omega) (by omega)
 · exact mkF_more _ _ _ _ _ _ _ (by omega) (by omega)
theorem mkF_end (src tgt : Bs) {i : Nat} (h : tgt.length ≤ i) (done : Nat) (out : Bs) : mkF src tgt tgt.length i done out = out ++ plainB (tgt.drop done) ++ putN (chkB tgt) ++ [59] := by
 rw [mkF_more src tgt tgt.length 0 i done out (by omega) (by omega)]; rfl
theorem zb96next0 {G : Prop} (h : G := by
    first
    | exact to_inv ⟨(i + 1, done, out), by dsimp only; omega, by dsimp only; omega, ho, hm⟩ (by dsimp only; omega) ⟨rfl, rfl, rfl, rfl, rfl, trivial⟩ ent_nil
    | exact to_inv ⟨(i + n, i + n, out ++ copyB n f (plainB ((tgt.drop done).take (i - done)))), by dsimp only; omega, by dsimp only; omega, by dsimp only [copyB]; simp only [List.length_append, List.length_singleton]; omega, hm⟩ (by dsimp only; omega) ⟨rfl, rfl, rfl, rfl, rfl, trivial⟩ ent_nil) : G := h
set_option maxHeartbeats 4000000 in
theorem delta_Make_sp (src tgt : Bs) (hs : src.length ≤ 1073741824) (ht : tgt.length ≤ 1073741824) : SpF Tryz.prog 96 [vS src, vS tgt] (vS (makeB src tgt)) := by
 refine Sp.body (n := 63) Tryz.call96 Tryz.func96 rfl rfl rfl ?_
 refine Qc (k:=Vv (k:=Wq (Za (k:=Qc (k:=Qv (k:=Vv (k:=Wq (Zi (t:=fun h12 => ?_) (f:=fun h12 => ?_)))))))))
 ·
  refine Qc (k:=Vv (k:=Wq (Zt (k:=Va ?_))))
  refine fin_ret () (vs := [_]) (Cs := []) rfl (.tmp rfl .nil) ?_ trivial ent_nil
  rw [makeB, if_pos (by omega)]; rfl
 ·
  have h300 : tgt.length ≤ 300 := by omega
  have hpl := putN_len (n := tgt.length) (by omega)
  have hmk : makeB src tgt = mkF src tgt tgt.length 0 0 (putN tgt.length ++ [10]) := by rw [makeB, if_neg (by omega)]
  rw [hmk]
  clear hmk
  refine Zk (k:=Ya (Qc (k:=Qv (k:=?_))))
  refine r_callF (digit_Put_sp tgt.length (by omega)) rfl rfl rfl ?_
  refine wo_pv (pv_cat rfl rfl (by simp only [List.length_singleton]; omega)) rfl ?_
  refine Vv (k:=Wq (Qc (k:=Vv (k:=Wq (Za (k:=Qc (k:=Vv (k:=Wq (Zb (k:=?_))))))))))
  refine p_loop (fun (i : { x : Nat × Nat × Bs // x.2.1 ≤ x.1 ∧ x.1 ≤ tgt.length ∧ x.2.2.length ≤ 7 + 30 * x.2.1 ∧ mkF src tgt tgt.length 0 0 (putN tgt.length ++ [10]) = mkF src tgt tgt.length x.1 x.2.1 x.2.2 }) => [(0, vS src), (1, vS tgt), (5, vS i.1.2.2), (6, vI i.1.2.1), (7, vI i.1.1)]) (fun (i : { x : Nat × Nat × Bs // x.2.1 ≤ x.1 ∧ x.1 ≤ tgt.length ∧ x.2.2.length ≤ 7 + 30 * x.2.1 ∧ mkF src tgt tgt.length 0 0 (putN tgt.length ++ [10]) = mkF src tgt tgt.length x.1 x.2.1 x.2.2 }) => []) (fun (i : { x : Nat × Nat × Bs // x.2.1 ≤ x.1 ∧ x.1 ≤ tgt.length ∧ x.2.2.length ≤ 7 + 30 * x.2.1 ∧ mkF src tgt tgt.length 0 0 (putN tgt.length ++ [10]) = mkF src tgt tgt.length x.1 x.2.1 x.2.2 }) => tgt.length - i.1.1) rfl (⟨(0, 0, putN tgt.length ++ [10]), Nat.le_refl _, Nat.zero_le _, by dsimp only; rw [List.length_append, List.length_singleton]; omega, rfl⟩) ?_ ?_ (fun i => ?_)
  · exact ⟨rfl, rfl, rfl, rfl, rfl, trivial⟩
  ·
   exact ent_pick
  obtain ⟨⟨i, done, out⟩, hdi, hi, ho, hm⟩ := i
  dsimp only at hdi hi ho hm ⊢
  try dsimp only
  refine Za (k:=Qc (k:=Qv (k:=Qv (k:=Wq (Zi (t:=fun h20 => ?_) (f:=fun h20 => ?_))))))
  ·
   refine Zk (k:=Ya (Zb (k:=Za (k:=?_))))
   have hil : i < tgt.length := by omega
   rw [mkF_step src tgt hil] at hm
   have hrl : (tgt.drop i).length = tgt.length - i := List.length_drop
   have hle := lonF_le src (tgt.drop i) (Nat.le_refl src.length)
   change (lonB src (tgt.drop i)).1 + (lonB src (tgt.drop i)).2 ≤ _ ∧ (lonB src (tgt.drop i)).2 ≤ _ ∧ _ at hle
   have hL := delta_longest_sp src (tgt.drop i) hs (by omega)
   obtain ⟨f, n, hfn⟩ : ∃ f n, lonB src (tgt.drop i) = (f, n) := ⟨_, _, rfl⟩
   rw [hfn] at hm hle hL
   dsimp only at hm hle hL
   rw [hrl] at hle
   refine Zr (k:=Qv (k:=Qv (k:=?_)))
   refine r_callF hL rfl rfl rfl ?_
   refine Vv (k:=?_)
   refine wo_pv (pv_extract (v := vI f) rfl rfl) rfl ?_
   refine wo_pv (pv_extract (v := vI n) rfl rfl) rfl ?_
   refine Qv (k:=Wq (Za (k:=Qc (k:=Qv (k:=Wq (Zi (t:=fun h30 => ?_) (f:=fun h30 => ?_)))))))
   ·
    rw [if_pos (by omega)] at hm
    refine Qc (k:=Qv (k:=Vv (k:=Wq (Ze (k:=Xa (Xb ?_))))))
    exact zb96next0
   ·
    rw [if_neg (by omega)] at hm
    have hpt : ((tgt.drop done).take (i - done)).length = i - done := by rw [List.length_take, List.length_drop]; omega
    have hpp := plainB_len (s := (tgt.drop done).take (i - done)) (by omega)
    have hpn := putN_len (n := n) (by omega)
    have hpf := putN_len (n := f) (by omega)
    refine Zk (k:=Ya (Qc (k:=Qv (k:=Qv (k:=?_)))))
    refine wo_pv (pv_slice_inm (m := done) (o := i) Tryz.underlying9 rfl rfl rfl rfl rfl (by omega) (by omega)) rfl ?_
    refine r_callF (delta_plain_sp _ (by omega)) rfl rfl rfl ?_
    refine Vv (k:=?_)
    refine r_callF (digit_Put_sp n (by omega)) rfl rfl rfl ?_
    refine wo_pv (pv_cat rfl rfl (by omega)) rfl ?_
    refine wo_pv (pv_cat rfl rfl (by simp only [List.length_append, List.length_singleton]; omega)) rfl ?_
    refine Vv (k:=?_)
    refine r_callF (digit_Put_sp f (by omega)) rfl rfl rfl ?_
    refine wo_pv (pv_cat rfl rfl (by simp only [List.length_append, List.length_singleton]; omega)) rfl ?_
    refine wo_pv (pv_cat rfl rfl (by simp only [List.length_append, List.length_singleton]; omega)) rfl ?_
    refine wo_pv (pv_cat rfl rfl (by simp only [List.length_append, List.length_singleton]; omega)) rfl ?_
    refine Vv (k:=Wq (Qc (k:=Qv (k:=Qv (k:=Wq (Zr (k:=Qv (k:=?_))))))))
    refine Wn (Yb ?_)
    exact zb96next0
  ·
   refine Ze (k:=Xa (Xi (Xb (Ya (Za (k:=?_))))))
   rw [hm, mkF_end src tgt (by omega)]
   have hpd : (tgt.drop done).length = tgt.length - done := List.length_drop
   have hpp := plainB_len (s := tgt.drop done) (by omega)
   have hpc := putN_len (chkB_lt tgt)
   refine Zr (k:=Qv (k:=Qv (k:=?_)))
   refine r_callF (delta_plain_sp _ (by omega)) rfl rfl rfl ?_
   refine wo_pv (pv_cat rfl rfl (by omega)) rfl ?_
   refine Vv (k:=?_)
   refine r_callF (delta_Check_sp tgt (by omega)) rfl rfl rfl ?_
   refine r_callF (digit_Put_sp (chkB tgt) (chkB_lt tgt)) rfl rfl rfl ?_
   refine wo_pv (pv_cat rfl rfl (by simp only [List.length_append]; omega)) rfl ?_
   refine wo_pv (pv_cat rfl rfl (by simp only [List.length_append, List.length_singleton]; omega)) rfl ?_
   refine Vv (k:=Wq (Zt (k:=?_)))
   exact fin_ret () (vs := [_]) (Cs := []) rfl (.tmp rfl .nil) rfl trivial ent_nil
end
end Go.Proofs.YtibccdcemcgkeaaGreat
