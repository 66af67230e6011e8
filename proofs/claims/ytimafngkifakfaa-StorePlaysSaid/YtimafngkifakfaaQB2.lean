/- Texts of this proof, put together: Digit, Digit2, SDisk, SlFn. -/
import Derived.Test.YtimafngkifakfaaQA1
import Derived.Test.YtimafngkifakfaaQA3
import Derived.Test.YtimafngkifakfaaQB1
import Derived.Test.YtimafngkifakfaaQA4
set_option linter.unusedVariables false
set_option linter.unusedSimpArgs false
/- Package digit: decimals. -/
set_option maxRecDepth 100000
namespace Go.Proofs.Ytimafngkifakfaa

theorem digit_may_sp (n : Int) : SpF Try.prog 62 [vI n] (vB (decide (0 ≤ n ∧ n ≤ 1073741824))) := by
  refine Sp.body (n := 9) Try.call62 Try.func62 rfl rfl rfl ?_
  refine p_seq rfl ?_
  refine p_region rfl ?_
  refine wo_pv (pv_assign rfl) rfl ?_
  refine q_seq ?_
  refine p_seq rfl ?_
  refine p_region rfl ?_
  refine wo_pv (pv_move rfl) rfl ?_
  refine wo_pv (pv_geq rfl rfl) rfl ?_
  refine wo_pv (pv_move rfl) rfl ?_
  first | refine wo_gite (j := 2) rfl rfl (fun h5 => ?_) (fun h5 => ?_) | refine wo_gsplit (j := 2) rfl rfl (fun h5 => ?_) (fun h5 => ?_)
  · -- t5 True
    refine wo_in (b := true) rfl ?_
    refine wo_pv (pv_move rfl) rfl ?_
    refine wo_in (b := true) rfl ?_
    refine wo_pv (pv_leq rfl rfl) rfl ?_
    refine wo_pv (pv_pick_t rfl rfl) rfl ?_
    refine wo_pv (pv_assign rfl) rfl ?_
    refine q_seq ?_
    refine p_ret rfl ?_
    refine fin_ret () (vs := [_]) rfl (.tmp rfl .nil) ?_ trivial ent_nil
    simp [pack]; omega
  · -- t5 False
    refine wo_out (b := false) rfl rfl rfl ?_
    refine wo_out (b := false) rfl rfl rfl ?_
    refine wo_pv (pv_pick_f rfl rfl) rfl ?_
    refine wo_pv (pv_assign rfl) rfl ?_
    refine q_seq ?_
    refine p_ret rfl ?_
    refine fin_ret () (vs := [_]) rfl (.tmp rfl .nil) ?_ trivial ent_nil
    simp [pack]; omega

theorem wrap_dgt (m : Nat) : IntKind.u8.wrap (48 + (m : Int) % 10) = ((dgt m).toNat : Int) := by
  rw [dgt_toNat, IntWalk.u8_in _ (by omega)]; omega

theorem digit_Dec_sp (n : Nat) (h : n ≤ 1073741824) : SpF Try.prog 41 [vI n] (vS (decN n)) := by
  refine Sp.body (n := 28) Try.call41 Try.func41 rfl rfl rfl ?_
  refine p_seq rfl ?_
  refine p_region rfl ?_
  refine wo_pv (pv_assign rfl) rfl ?_
  refine q_seq ?_
  refine p_seq rfl ?_
  refine p_seq rfl ?_
  refine p_region rfl ?_
  refine wo_pv (pv_move rfl) rfl ?_
  refine r_callF (digit_may_sp n) rfl rfl rfl ?_
  refine wo_pv (by first | exact pv_notd rfl | exact pv_not rfl) rfl ?_
  refine q_seq ?_
  first | refine p_ite rfl rfl (fun h6 => ?_) (fun h6 => ?_) | refine p_cond rfl rfl (fun h6 => ?_) (fun h6 => ?_)
  · -- t6 True
    exfalso; exact h6 ⟨by omega, by omega⟩
    --done
  · -- t6 False
    refine p_skip rfl ?_
    refine t_seq ?_
    refine p_seq rfl ?_
    refine p_region rfl ?_
    refine wo_pv (pv_move rfl) rfl ?_
    refine wo_pv (pv_rem rfl rfl (by omega)) rfl ?_
    refine wo_pv (pv_add rfl rfl (by omega)) rfl ?_
    refine wo_pv (pv_conv rfl Try.underlying3 Try.underlying5) rfl ?_
    refine r_buildSliceL [_] (cs := [_]) Try.underlying44 ti5 rfl rfl rfl rfl rfl rfl rfl rfl (fun b11 => ?_)
    refine r_b2s (l := [dgt n]) Try.underlying44 Try.underlying9 Try.underlying5 rfl (by simp [vUs, wrap_dgt]) (by simp) rfl ?_
    refine wo_pv (pv_assign rfl) rfl ?_
    refine q_seq ?_
    refine p_seq rfl ?_
    refine p_seq rfl ?_
    refine p_region rfl ?_
    refine wo_pv (pv_move rfl) rfl ?_
    refine wo_pv (pv_quo rfl rfl (by omega)) rfl ?_
    refine wo_pv (pv_assign rfl) rfl ?_
    refine q_seq ?_
    refine p_block 0 rfl ?_
    refine p_loop (fun (i : { p : Nat × List UInt8 // preN p.1 ++ p.2 = decN n ∧ p.1 ≤ n }) => [(0, vI i.1.1), (3, vS i.1.2)]) (fun (i : { p : Nat × List UInt8 // preN p.1 ++ p.2 = decN n ∧ p.1 ≤ n }) => []) (fun (i : { p : Nat × List UInt8 // preN p.1 ++ p.2 = decN n ∧ p.1 ≤ n }) => i.1.1) rfl (⟨(n / 10, [dgt n]), (decN_split n).symm, by dsimp only; omega⟩) ?_ ?_ (fun i => ?_)
    · exact ⟨rfl, rfl, trivial⟩
    · -- H at start
      exact ent_pick
    obtain ⟨⟨m, out⟩, hi, hm⟩ := i
    have hlen := decN_len n
    rw [← hi, List.length_append] at hlen
    dsimp only at hi hm hlen
    try dsimp only
    refine p_seq rfl ?_
    refine p_seq rfl ?_
    refine p_region rfl ?_
    refine wo_pv (pv_move rfl) rfl ?_
    refine wo_pv (pv_gtr rfl rfl) rfl ?_
    refine q_seq ?_
    first | refine p_ite rfl rfl (fun h16 => ?_) (fun h16 => ?_) | refine p_cond rfl rfl (fun h16 => ?_) (fun h16 => ?_)
    · -- t16 True
      refine p_skip rfl ?_
      refine t_seq ?_
      refine p_seq rfl ?_
      refine p_block 1 rfl ?_
      refine p_region rfl ?_
      refine wo_pv (pv_move rfl) rfl ?_
      refine wo_pv (pv_rem rfl rfl (by omega)) rfl ?_
      refine wo_pv (pv_add rfl rfl (by omega)) rfl ?_
      refine wo_pv (pv_conv rfl Try.underlying3 Try.underlying5) rfl ?_
      refine r_buildSliceL [_] (cs := [_]) Try.underlying44 ti5 rfl rfl rfl rfl rfl rfl rfl rfl (fun b23 => ?_)
      refine r_b2s (l := [dgt m]) Try.underlying44 Try.underlying9 Try.underlying5 rfl (by simp [vUs, wrap_dgt]) (by simp) rfl ?_
      refine wo_pv (pv_move rfl) rfl ?_
      refine wo_pv (pv_cat rfl rfl (by first | (simp only [List.length_append, List.length_take, List.length_drop, List.length_cons, List.length_nil]; omega) | (simp; try omega))) rfl ?_
      refine wo_pv (pv_assign rfl) rfl ?_
      refine wo_nil ?_
      refine to_block ?_
      refine t_seq ?_
      refine p_region rfl ?_
      refine wo_pv (pv_move rfl) rfl ?_
      refine wo_pv (pv_quo rfl rfl (by omega)) rfl ?_
      refine wo_pv (pv_assign rfl) rfl ?_
      refine wo_nil ?_
      refine to_inv ⟨(m / 10, dgt m :: out), ?_, ?_⟩ ?_ ⟨rfl, rfl, trivial⟩ ent_nil
      · rw [← hi, preN_pos (n := m) (by omega)]; simp
      · dsimp only; omega
      · dsimp only; omega
    · -- t16 False
      refine p_exit 0 rfl ?_
      refine t_seq_exit ?_
      refine to_inv_exit ?_
      refine to_block_here ?_
      refine t_seq ?_
      refine p_seq rfl ?_
      refine p_region rfl ?_
      refine wo_pv (pv_move rfl) rfl ?_
      refine wo_pv (pv_assign rfl) rfl ?_
      refine q_seq ?_
      refine p_ret rfl ?_
      have hm0 : m = 0 := by omega
      subst hm0
      refine fin_ret () (vs := [_]) rfl (.tmp rfl .nil) ?_ trivial ent_nil
      rw [← hi]; simp [pack, preN]
end Go.Proofs.Ytimafngkifakfaa

/- Package digit: decimals that are read. -/
set_option maxRecDepth 100000
namespace Go.Proofs.Ytimafngkifakfaa

theorem digit_DecP_sp (n : Nat) : SpF Try.prog 41 [vI n] (vS (decP n)) := by
  by_cases h : n ≤ 1073741824
  · rw [decP, if_pos h]; exact digit_Dec_sp n h
  · rw [decP, if_neg h]
    refine Sp.body (n := 28) Try.call41 Try.func41 rfl rfl rfl ?_
    refine p_seq rfl ?_
    refine p_region rfl ?_
    refine wo_pv (pv_assign rfl) rfl ?_
    refine q_seq ?_
    refine p_seq rfl ?_
    refine p_seq rfl ?_
    refine p_region rfl ?_
    refine wo_pv (pv_move rfl) rfl ?_
    refine r_callF (digit_may_sp n) rfl rfl rfl ?_
    refine wo_pv (by first | exact pv_notd rfl | exact pv_not rfl) rfl ?_
    refine q_seq ?_
    first | refine p_ite rfl rfl (fun h6 => ?_) (fun h6 => ?_) | refine p_cond rfl rfl (fun h6 => ?_) (fun h6 => ?_)
    · -- t6 True
      refine p_seq rfl ?_
      refine p_region rfl ?_
      refine wo_pv (pv_assign rfl) rfl ?_
      refine q_seq ?_
      refine p_ret rfl ?_
      refine t_seq_ret ?_
      exact fin_ret () (vs := [_]) rfl (.tmp rfl .nil) rfl trivial ent_nil
    · -- t6 False
      exfalso; exact h6 (by omega)
      --done

theorem digit_ReadDec_sp (s : List UInt8) (hs : s.length ≤ 140737488355328) : SpF Try.prog 80 [vS s] (.tuple #[vI ((readDec s).getD 0 : Nat), vB (readDec s).isSome]) := by
  refine Sp.body (n := 43) Try.call80 Try.func80 rfl rfl rfl ?_
  refine p_seq rfl ?_
  refine p_region rfl ?_
  refine wo_pv (pv_assign rfl) rfl ?_
  refine wo_pv (pv_assign rfl) rfl ?_
  refine q_seq ?_
  refine p_seq rfl ?_
  refine p_region rfl ?_
  refine wo_pv (pv_assign rfl) rfl ?_
  refine q_seq ?_
  refine p_seq rfl ?_
  refine p_seq rfl ?_
  refine p_region rfl ?_
  refine wo_pv (pv_move rfl) rfl ?_
  refine wo_pv (pv_call_len_s Try.underlying9 rfl) rfl ?_
  refine wo_pv (pv_move rfl) rfl ?_
  refine q_seq ?_
  refine p_block 0 rfl ?_
  refine p_loop (fun (i : { p : Nat × Nat // dn (s.drop p.1) p.2 = dn s 0 ∧ p.1 ≤ s.length ∧ p.2 ≤ 10737418249 }) => [(0, vS s), (7, vI s.length), (8, vI i.1.1), (4, vI i.1.2)]) (fun (i : { p : Nat × Nat // dn (s.drop p.1) p.2 = dn s 0 ∧ p.1 ≤ s.length ∧ p.2 ≤ 10737418249 }) => []) (fun (i : { p : Nat × Nat // dn (s.drop p.1) p.2 = dn s 0 ∧ p.1 ≤ s.length ∧ p.2 ≤ 10737418249 }) => s.length - i.1.1) rfl (⟨(0, 0), rfl, Nat.zero_le _, by omega⟩) ?_ ?_ (fun i => ?_)
  · exact ⟨rfl, rfl, rfl, rfl, trivial⟩
  · -- H at start
    exact ent_pick
  obtain ⟨⟨j, n⟩, hi, hj, hn⟩ := i
  dsimp only at hi hj hn
  try dsimp only
  refine p_seq rfl ?_
  refine p_region rfl ?_
  refine wo_pv (pv_lss rfl rfl) rfl ?_
  refine q_seq ?_
  refine p_seq rfl ?_
  first | refine p_ite rfl rfl (fun h9 => ?_) (fun h9 => ?_) | refine p_cond rfl rfl (fun h9 => ?_) (fun h9 => ?_)
  · -- t9 True
    refine p_skip rfl ?_
    refine t_seq ?_
    refine p_seq rfl ?_
    refine p_block 1 rfl ?_
    refine p_seq rfl ?_
    refine p_region rfl ?_
    refine wo_pv (pv_move rfl) rfl ?_
    refine wo_pv (pv_assign rfl) rfl ?_
    refine q_seq ?_
    refine p_seq rfl ?_
    refine p_seq rfl ?_
    refine p_region rfl ?_
    refine wo_pv (pv_move rfl) rfl ?_
    refine wo_pv (pv_move rfl) rfl ?_
    refine wo_pv (pv_indexm Try.underlying9 rfl rfl rfl (by omega)) rfl ?_
    refine wo_pv (pv_lss rfl rfl) rfl ?_
    refine wo_pv (pv_move rfl) rfl ?_
    first | refine wo_gite (j := 4) rfl rfl (fun h15 => ?_) (fun h15 => ?_) | refine wo_gsplit (j := 4) rfl rfl (fun h15 => ?_) (fun h15 => ?_)
    · -- t15 True
      refine wo_out (b := true) rfl rfl rfl ?_
      refine wo_out (b := true) rfl rfl rfl ?_
      refine wo_out (b := true) rfl rfl rfl ?_
      refine wo_out (b := true) rfl rfl rfl ?_
      refine wo_pv (pv_pick_t rfl rfl) rfl ?_
      refine wo_pv (pv_move rfl) rfl ?_
      refine wo_out (b := true) rfl rfl rfl ?_
      refine wo_out (b := true) rfl rfl rfl ?_
      refine wo_pv (pv_pick_t rfl rfl) rfl ?_
      refine q_seq ?_
      refine p_true rfl rfl ?_
      refine p_seq rfl ?_
      refine p_region rfl ?_
      refine wo_pv (pv_assign rfl) rfl ?_
      refine wo_pv (pv_assign rfl) rfl ?_
      refine q_seq ?_
      refine p_ret rfl ?_
      refine t_seq_ret ?_
      refine to_block_ret ?_
      refine t_seq_ret ?_
      refine to_inv_ret ?_
      refine to_block_ret ?_
      refine t_seq_ret ?_
      have hd := dn_step (s := s) (i := j) (by omega) n
      rw [hi, if_pos (by omega)] at hd
      refine fin_ret () (vs := [_, _]) rfl (.tmp rfl (.tmp rfl .nil)) ?_ trivial ent_nil
      simp [readDec, hd, pack]
    · -- t15 False
      refine wo_in (b := false) rfl ?_
      refine wo_pv (pv_move rfl) rfl ?_
      refine wo_in (b := false) rfl ?_
      refine wo_pv (pv_move rfl) rfl ?_
      refine wo_in (b := false) rfl ?_
      refine wo_pv (pv_indexm Try.underlying9 rfl rfl rfl (by omega)) rfl ?_
      refine wo_in (b := false) rfl ?_
      refine wo_pv (pv_gtr rfl rfl) rfl ?_
      refine wo_pv (pv_pick_f rfl rfl) rfl ?_
      refine wo_pv (pv_move rfl) rfl ?_
      first | refine wo_gite (j := 10) rfl rfl (fun h21 => ?_) (fun h21 => ?_) | refine wo_gsplit (j := 10) rfl rfl (fun h21 => ?_) (fun h21 => ?_)
      · -- t21 True
        refine wo_out (b := true) rfl rfl rfl ?_
        refine wo_out (b := true) rfl rfl rfl ?_
        refine wo_pv (pv_pick_t rfl rfl) rfl ?_
        refine q_seq ?_
        refine p_true rfl rfl ?_
        refine p_seq rfl ?_
        refine p_region rfl ?_
        refine wo_pv (pv_assign rfl) rfl ?_
        refine wo_pv (pv_assign rfl) rfl ?_
        refine q_seq ?_
        refine p_ret rfl ?_
        refine t_seq_ret ?_
        refine to_block_ret ?_
        refine t_seq_ret ?_
        refine to_inv_ret ?_
        refine to_block_ret ?_
        refine t_seq_ret ?_
        have hd := dn_step (s := s) (i := j) (by omega) n
        rw [hi, if_pos (by omega)] at hd
        refine fin_ret () (vs := [_, _]) rfl (.tmp rfl (.tmp rfl .nil)) ?_ trivial ent_nil
        simp [readDec, hd, pack]
      · -- t21 False
        refine wo_in (b := false) rfl ?_
        refine wo_pv (pv_move rfl) rfl ?_
        refine wo_in (b := false) rfl ?_
        refine wo_pv (pv_gtr rfl rfl) rfl ?_
        refine wo_pv (pv_pick_f rfl rfl) rfl ?_
        refine q_seq ?_
        first | refine p_ite rfl rfl (fun h24 => ?_) (fun h24 => ?_) | refine p_cond rfl rfl (fun h24 => ?_) (fun h24 => ?_)
        · -- t24 True
          refine p_seq rfl ?_
          refine p_region rfl ?_
          refine wo_pv (pv_assign rfl) rfl ?_
          refine wo_pv (pv_assign rfl) rfl ?_
          refine q_seq ?_
          refine p_ret rfl ?_
          refine t_seq_ret ?_
          refine to_block_ret ?_
          refine t_seq_ret ?_
          refine to_inv_ret ?_
          refine to_block_ret ?_
          refine t_seq_ret ?_
          have hd := dn_step (s := s) (i := j) (by omega) n
          rw [hi, if_pos (by omega)] at hd
          refine fin_ret () (vs := [_, _]) rfl (.tmp rfl (.tmp rfl .nil)) ?_ trivial ent_nil
          simp [readDec, hd, pack]
        · -- t24 False
          refine p_skip rfl ?_
          refine t_seq ?_
          refine p_region rfl ?_
          refine wo_pv (pv_move rfl) rfl ?_
          refine wo_pv (pv_mul rfl rfl (by omega)) rfl ?_
          refine wo_pv (pv_move rfl) rfl ?_
          refine wo_pv (pv_move rfl) rfl ?_
          refine wo_pv (pv_indexm Try.underlying9 rfl rfl rfl (by omega)) rfl ?_
          refine wo_pv (by first | exact pv_subu rfl rfl (by omega) | exact pv_subw rfl rfl) rfl ?_
          refine wo_pv (pv_conv_in rfl Try.underlying5 Try.underlying3 (by first | exact wrap_byte _ | exact wrap_u8 _ | exact i64_in' (by omega))) rfl ?_
          refine wo_pv (pv_add rfl rfl (by omega)) rfl ?_
          refine wo_pv (pv_assign rfl) rfl ?_
          refine wo_nil ?_
          refine to_block ?_
          refine t_seq ?_
          refine p_region rfl ?_
          refine wo_pv (pv_add rfl rfl (by omega)) rfl ?_
          refine wo_pv (pv_move rfl) rfl ?_
          refine wo_nil ?_
          have hd := dn_step (s := s) (i := j) (by omega) n
          rw [hi, if_neg (by omega)] at hd
          refine to_inv ⟨(j + 1, 10 * n + ((s.getD j 0).toNat - 48)), hd.symm, ?_, ?_⟩ ?_ ⟨rfl, rfl, rfl, ?_, trivial⟩ ent_nil
          · dsimp only; omega
          · dsimp only; omega
          · dsimp only; omega
          · have e : (((10 * n + ((s.getD j 0).toNat - 48) : Nat)) : Int) = 10 * (n : Int) + (((s.getD j 0).toNat : Int) - 48) := by omega
            dsimp only; rw [e]; rfl
  · -- t9 False
    refine p_exit 0 rfl ?_
    refine t_seq_exit ?_
    refine to_inv_exit ?_
    refine to_block_here ?_
    refine t_seq ?_
    refine p_seq rfl ?_
    refine p_seq rfl ?_
    refine p_region rfl ?_
    refine wo_pv (pv_move rfl) rfl ?_
    refine wo_pv (pv_seql rfl rfl) rfl ?_
    refine wo_pv (pv_move rfl) rfl ?_
    first | refine wo_gite (j := 2) rfl rfl (fun h36 => ?_) (fun h36 => ?_) | refine wo_gsplit (j := 2) rfl rfl (fun h36 => ?_) (fun h36 => ?_)
    · -- t36 True
      refine wo_out (b := true) rfl rfl rfl ?_
      refine wo_out (b := true) rfl rfl rfl ?_
      refine wo_out (b := true) rfl rfl rfl ?_
      refine wo_out (b := true) rfl rfl rfl ?_
      refine wo_pv (pv_pick_t rfl rfl) rfl ?_
      refine q_seq ?_
      refine p_true rfl rfl ?_
      refine p_seq rfl ?_
      refine p_region rfl ?_
      refine wo_pv (pv_assign rfl) rfl ?_
      refine wo_pv (pv_assign rfl) rfl ?_
      refine q_seq ?_
      refine p_ret rfl ?_
      refine t_seq_ret ?_
      have hjs : j = s.length := by omega
      subst hjs
      rw [List.drop_length, dn] at hi
      have hc : s = [] ∨ ¬ decP n = s := by first | exact .inl ‹s = []› | exact .inr ‹_›
      refine fin_ret () (vs := [_, _]) rfl (.tmp rfl (.tmp rfl .nil)) ?_ trivial ent_nil
      simp only [readDec, ← hi, if_pos hc]
      rfl
    · -- t36 False
      refine wo_in (b := false) rfl ?_
      refine wo_pv (pv_move rfl) rfl ?_
      refine wo_in (b := false) rfl ?_
      refine r_callF (digit_DecP_sp n) rfl rfl rfl ?_
      refine wo_in (b := false) rfl ?_
      refine wo_pv (pv_move rfl) rfl ?_
      refine wo_in (b := false) rfl ?_
      refine wo_pv (pv_sneq rfl rfl) rfl ?_
      refine wo_pv (pv_pick_f rfl rfl) rfl ?_
      refine q_seq ?_
      first | refine p_ite rfl rfl (fun h41 => ?_) (fun h41 => ?_) | refine p_cond rfl rfl (fun h41 => ?_) (fun h41 => ?_)
      · -- t41 True
        refine p_seq rfl ?_
        refine p_region rfl ?_
        refine wo_pv (pv_assign rfl) rfl ?_
        refine wo_pv (pv_assign rfl) rfl ?_
        refine q_seq ?_
        refine p_ret rfl ?_
        refine t_seq_ret ?_
        have hjs : j = s.length := by omega
        subst hjs
        rw [List.drop_length, dn] at hi
        have hc : s = [] ∨ ¬ decP n = s := by first | exact .inl ‹s = []› | exact .inr ‹_›
        refine fin_ret () (vs := [_, _]) rfl (.tmp rfl (.tmp rfl .nil)) ?_ trivial ent_nil
        simp only [readDec, ← hi, if_pos hc]
        rfl
      · -- t41 False
        refine p_skip rfl ?_
        refine t_seq ?_
        refine p_seq rfl ?_
        refine p_region rfl ?_
        refine wo_pv (pv_move rfl) rfl ?_
        refine wo_pv (pv_assign rfl) rfl ?_
        refine wo_pv (pv_assign rfl) rfl ?_
        refine q_seq ?_
        refine p_ret rfl ?_
        have hjs : j = s.length := by omega
        subst hjs
        rw [List.drop_length, dn] at hi
        refine fin_ret () (vs := [_, _]) rfl (.tmp rfl (.tmp rfl .nil)) ?_ trivial ent_nil
        simp_all [readDec, pack, ← hi]
end Go.Proofs.Ytimafngkifakfaa

/- Package disk. -/
set_option maxRecDepth 100000
namespace Go.Proofs.Ytimafngkifakfaa

theorem bits_Mul_sp (x y : Nat) (hx : x < 18446744073709551616) (hy : y < 18446744073709551616) : SpF Try.prog 54 [.int .u64 x, .int .u64 y] (.tuple #[.int .u64 ((x * y / 18446744073709551616 : Nat) : Int), .int .u64 ((x * y % 18446744073709551616 : Nat) : Int)]) :=
  SpF.of_same Try.call54 fun w => Try.bits_Mul x y hx hy w

theorem copy_step (x z : Value) (j k : Nat) (h0 : 0 < j) (h : j < k) :
    let cur := List.replicate j x ++ List.replicate (k - j) z
    let m := Nat.min j (k - j)
    cur.take (0 + j) ++ List.replicate m x ++ cur.drop (0 + j + m) = List.replicate (j + m) x ++ List.replicate (k - (j + m)) z := by
  intro cur m
  have hm : m ≤ k - j := Nat.min_le_right _ _
  have e1 : cur.take (0 + j) = List.replicate j x := by
    rw [Nat.zero_add]
    have : (List.replicate j x).length = j := List.length_replicate
    conv => lhs; arg 1; rw [← this]
    exact List.take_left
  have e2 : cur.drop (0 + j + m) = List.replicate (k - (j + m)) z := by
    rw [Nat.zero_add, ← List.drop_drop]
    have : (List.replicate j x).length = j := List.length_replicate
    have e3 : cur.drop j = List.replicate (k - j) z := by
      conv => lhs; arg 1; rw [← this]
      exact List.drop_left
    rw [e3, List.drop_replicate]; congr 1; omega
  rw [e1, e2, List.append_assoc, ← List.append_assoc, List.replicate_append_replicate]

theorem take_rep (x z : Value) (j k : Nat) : ((List.replicate j x ++ List.replicate (k - j) z).drop 0).take (Nat.min j (k - j)) = List.replicate (Nat.min j (k - j)) x := by
  rw [List.drop_zero, List.take_append_of_le_length (by simp; exact Nat.min_le_left _ _), List.take_replicate]
  congr 1
  exact Nat.min_eq_left (Nat.min_le_left _ _)
theorem u64_in {m : Int} (h : 0 ≤ m ∧ m ≤ 18446744073709551615) : IntKind.u64.wrap m = m := by rw [IntKind.wrap_u64]; omega
theorem bits_Mul_one (k : Nat) (hk : k ≤ 2000) : SpF Try.prog 54 [.int .u64 (1 : Int), .int .u64 (k : Int)] (.tuple #[.int .u64 0, .int .u64 (k : Int)]) := by
  have := bits_Mul_sp 1 k (by omega) (by omega)
  have e1 : 1 * k / 18446744073709551616 = 0 := by omega
  have e2 : 1 * k % 18446744073709551616 = k := by omega
  rw [e1, e2] at this
  exact this

theorem slices_Repeat_sp (b k : Nat) (s : List UInt8) (hk : 1 ≤ k) (hk2 : k ≤ 2000) : Sp Try.prog 33 [.slice (some ⟨b, 0, none⟩) 1 1, vI k] [Ce b 9 [vS s]] (X := Nat) (fun g => .slice (some ⟨g, 0, none⟩) k k) (fun _ => True) (fun g => [Row 9 1 (.slice (some ⟨g, 0, none⟩) k k) k ((List.replicate k s).map vS)]) := by
  refine Sp.body (n := 48) Try.call33 Try.func33 rfl rfl rfl ?_
  refine p_seq rfl ?_
  refine p_region rfl ?_
  refine wo_pv (pv_assign rfl) rfl ?_
  refine q_seq ?_
  refine p_seq rfl ?_
  refine p_seq rfl ?_
  refine p_region rfl ?_
  refine wo_pv (pv_move rfl) rfl ?_
  refine wo_pv (pv_lss rfl rfl) rfl ?_
  refine q_seq ?_
  first | refine p_ite rfl rfl (fun h10 => ?_) (fun h10 => ?_) | refine p_cond rfl rfl (fun h10 => ?_) (fun h10 => ?_)
  · -- t10 True
    exfalso; omega
    --done
  · -- t10 False
    refine p_skip rfl ?_
    refine t_seq ?_
    refine p_seq rfl ?_
    refine p_region rfl ?_
    refine wo_pv (pv_move rfl) rfl ?_
    refine wo_pv (pv_call_len_sl Try.underlying46 rfl) rfl ?_
    refine wo_pv (pv_conv_in rfl Try.underlying3 Try.underlying106 (u64_in (by omega))) rfl ?_
    refine wo_pv (pv_move rfl) rfl ?_
    refine wo_pv (pv_conv_in rfl Try.underlying3 Try.underlying106 (u64_in (by omega))) rfl ?_
    refine r_callF (bits_Mul_one k hk2) rfl rfl rfl ?_
    refine wo_pv (pv_move rfl) rfl ?_
    refine wo_pv (pv_extract rfl rfl) rfl ?_
    refine wo_pv (pv_extract rfl rfl) rfl ?_
    refine wo_pv (pv_assign rfl) rfl ?_
    refine wo_pv (pv_assign rfl) rfl ?_
    refine q_seq ?_
    refine p_seq rfl ?_
    refine p_seq rfl ?_
    refine p_region rfl ?_
    refine wo_pv (pv_move rfl) rfl ?_
    refine wo_pv (pv_gtr rfl rfl) rfl ?_
    refine wo_pv (pv_move rfl) rfl ?_
    first | refine wo_gite (j := 2) rfl rfl (fun h23 => ?_) (fun h23 => ?_) | refine wo_gsplit (j := 2) rfl rfl (fun h23 => ?_) (fun h23 => ?_)
    · -- t23 True
      exfalso; omega
      --done
    · -- t23 False
      refine wo_in (b := false) rfl ?_
      refine wo_pv (pv_move rfl) rfl ?_
      refine wo_in (b := false) rfl ?_
      refine wo_pv (pv_gtr rfl rfl) rfl ?_
      refine wo_pv (pv_pick_f rfl rfl) rfl ?_
      refine q_seq ?_
      first | refine p_ite rfl rfl (fun h26 => ?_) (fun h26 => ?_) | refine p_cond rfl rfl (fun h26 => ?_) (fun h26 => ?_)
      · -- t26 True
        exfalso; omega
        --done
      · -- t26 False
        refine p_skip rfl ?_
        refine t_seq ?_
        refine p_seq rfl ?_
        refine p_region rfl ?_
        refine wo_pv (pv_move rfl) rfl ?_
        refine wo_pv (pv_conv_in rfl Try.underlying106 Try.underlying3 (i64_in' (by omega))) rfl ?_
        refine r_makeSlice (z := vS []) Try.underlying46 ti9 rfl rfl rfl rfl rfl (by omega) (by rw [show Try.t9.bytes = 16 from rfl]; omega) rfl (fun b30 => ?_)
        refine wo_pv (pv_assign rfl) rfl ?_
        refine q_seq ?_
        refine p_seq rfl ?_
        refine p_region rfl ?_
        refine wo_pv (pv_move rfl) rfl ?_
        refine wo_pv (pv_move rfl) rfl ?_
        refine wo_ent' ent_true ?_
        refine wo_opT (by intro c; simp) (opt_copy Try.underlying46 rfl rfl rfl (.inr (shows_ce (b := b) (T := 9) (l := [vS s]))) (q := 1) (Nat.min_eq_left hk) rfl (by simp) (by simp; omega) rfl (cur := List.replicate k (vS [])) (T := 9)) rfl (fun _ _ => ?_)
        have e33 : (List.replicate k (vS [])).take 0 ++ (List.take 1 (List.drop 0 [vS s])) ++ (List.replicate k (vS [])).drop (0 + 1) = List.replicate 1 (vS s) ++ List.replicate (k - 1) (vS []) := by
          simp [List.drop_replicate]
        rw [e33]
        refine wo_pv (pv_assign rfl) rfl ?_
        refine q_seq ?_
        refine p_seq rfl ?_
        refine p_block 0 rfl ?_
        refine p_loop (fun (i : { j : Nat // 1 ≤ j ∧ j ≤ k }) => [(8, vI i.1), (7, .slice (some ⟨b30, 0, none⟩) k k)]) (fun (i : { j : Nat // 1 ≤ j ∧ j ≤ k }) => [Pu True, Ce b30 9 (List.replicate i.1 (vS s) ++ List.replicate (k - i.1) (vS []))]) (fun (i : { j : Nat // 1 ≤ j ∧ j ≤ k }) => k - i.1) rfl (⟨1, Nat.le_refl _, hk⟩) ?_ ?_ (fun i => ?_)
        · exact ⟨rfl, rfl, trivial⟩
        · -- H at start
          refine ent_cons ent_pick
        obtain ⟨j, hj1, hj2⟩ := i
        have hm1 : Nat.min j (k - j) ≤ j := Nat.min_le_left _ _
        have hm2 : Nat.min j (k - j) ≤ k - j := Nat.min_le_right _ _
        try dsimp only
        refine p_seq rfl ?_
        refine p_seq rfl ?_
        refine p_region rfl ?_
        refine wo_pv (pv_move rfl) rfl ?_
        refine wo_pv (pv_move rfl) rfl ?_
        refine wo_pv (pv_call_len_sl Try.underlying46 rfl) rfl ?_
        refine wo_pv (pv_lss rfl rfl) rfl ?_
        refine q_seq ?_
        first | refine p_ite rfl rfl (fun h37 => ?_) (fun h37 => ?_) | refine p_cond rfl rfl (fun h37 => ?_) (fun h37 => ?_)
        · -- t37 True
          refine p_skip rfl ?_
          refine t_seq ?_
          refine p_block 1 rfl ?_
          refine d_draw rfl rfl rfl [] ?_
          refine d_first 0 rfl rfl rfl (by kernel_rfl) (by kernel_rfl) (tl_pv (pv_move rfl)) ?_
          refine d_first 1 rfl rfl rfl (by kernel_rfl) (by kernel_rfl) (tl_pv (pv_move rfl)) ?_
          refine d_first 2 rfl rfl rfl (by kernel_rfl) (by kernel_rfl) (tl_pv (pv_move rfl)) ?_
          refine d_first 3 rfl rfl rfl (by kernel_rfl) (by kernel_rfl) (tl_pv (pv_slslice_fromm Try.underlying46 ti9 rfl rfl rfl rfl (Nat.mul_one _) (by omega) (by omega) (fun b e => by cases e; rfl))) ?_
          refine d_first 4 rfl rfl rfl (by kernel_rfl) (by kernel_rfl) (tl_pv (pv_move rfl)) ?_
          refine d_first 5 rfl rfl rfl (by kernel_rfl) (by kernel_rfl) (tl_pv (pv_move rfl)) ?_
          refine d_first 6 rfl rfl rfl (by kernel_rfl) (by kernel_rfl) (tl_pv (pv_slslice_tom Try.underlying46 ti9 rfl rfl rfl (by omega))) ?_
          refine d_next 7 (by kernel_rfl) rfl ?_
          refine an_opT (opt_copy Try.underlying46 rfl rfl rfl (.inl ⟨rfl, rfl, rfl⟩) rfl (take_rep _ _ _ _) (by simp; omega) (by simp; omega) (by simp [oneCell]) (cur := List.replicate j (vS s) ++ List.replicate (k - j) (vS [])) (T := 9)) rfl (fun _ _ => ?_)
          refine d_first 8 rfl rfl rfl (by kernel_rfl) (by kernel_rfl) (tl_pv (pv_add rfl rfl (by omega))) ?_
          refine d_first 9 rfl rfl rfl (by kernel_rfl) (by kernel_rfl) (tl_pv (pv_assign rfl)) ?_
          refine d_done (by kernel_rfl) ?_
          refine to_block ?_
          have hp : 1 ≤ Nat.min j (k - j) := by rw [show Nat.min j (k - j) = min j (k - j) from rfl]; omega
          refine to_inv ⟨j + Nat.min j (k - j), by omega, by omega⟩ ?_ ⟨vI_eq (by dsimp only; omega), rfl, trivial⟩ ?_
          · dsimp only; omega
          · have e := copy_step (vS s) (vS []) j k (by omega) (by omega)
            dsimp only at e
            rw [← e]
            exact ent_pick
        · -- t37 False
          refine p_exit 0 rfl ?_
          refine t_seq_exit ?_
          refine to_inv_exit ?_
          refine to_block_here ?_
          refine t_seq ?_
          refine p_seq rfl ?_
          refine p_region rfl ?_
          refine wo_pv (pv_move rfl) rfl ?_
          refine wo_pv (pv_assign rfl) rfl ?_
          refine q_seq ?_
          refine p_ret rfl ?_
          have hjk : j = k := by omega
          subst hjk
          refine fin_ret b30 (vs := [_]) (Cs := []) rfl (.tmp rfl .nil) rfl trivial ?_
          refine ent_step (ent_row (cur := List.replicate j (vS s) ++ List.replicate (j - j) (vS [])) (Nat.le_refl _) (by simp only [maxLen]; omega) (by simp) (by simp) (by simp)) ent_nil

theorem disk_whole_sp (s : List UInt8) (h : s.length ≤ 32) : SpF Try.prog 34 [vS s] (vS (wholeS s)) := by
  refine Sp.body (n := 9) Try.call34 Try.func34 rfl rfl rfl ?_
  refine p_seq rfl ?_
  refine p_region rfl ?_
  refine wo_pv (pv_assign rfl) rfl ?_
  refine q_seq ?_
  refine p_seq rfl ?_
  refine p_region rfl ?_
  refine wo_pv (pv_move rfl) rfl ?_
  refine wo_pv (pv_move rfl) rfl ?_
  refine wo_pv (pv_call_len_s Try.underlying9 rfl) rfl ?_
  refine wo_pv (pv_sub rfl rfl (by omega)) rfl ?_
  have e7 : (32 : Int) - (s.length : Int) = ((32 - s.length : Nat) : Int) := by omega
  have hr := Repeat_sp [0] (32 - s.length) (by simp; omega) (by omega)
  rw [repeat_one] at hr
  rw [← e7] at hr
  refine r_callF hr rfl rfl rfl ?_
  refine wo_pv (pv_cat rfl rfl (by first | (simp only [List.length_append, List.length_take, List.length_drop, List.length_cons, List.length_nil]; omega) | (simp; try omega))) rfl ?_
  refine wo_pv (pv_assign rfl) rfl ?_
  refine q_seq ?_
  refine p_ret rfl ?_
  exact fin_ret () (vs := [_]) rfl (.tmp rfl .nil) rfl trivial ent_nil

/-- A disk in memory. -/
def IsD (p : Nat) (D : Dk) : HP := Ex fun a : Option Addr => Ex fun c : Nat => Al [Pu D.Ok, Ce p 76 [.slice a D.secs.length c, vB D.armed, vI D.left, vI D.keep, vB D.down], Row 9 1 (.slice a D.secs.length c) D.secs.length (D.secs.map vS)]

theorem fold_isD {p : Nat} (D : Dk) {v0 v1 v2 v3 v4 : Value} {n e sz T : Nat} {xs : List Value} {Hs R1 Rs : List HP} [h1 : OwnC p T [v0, v1, v2, v3, v4] Hs R1] [h2 : RowC v0 e sz n xs R1 Rs] (ok : D.Ok) (hT : T = 76) (he : e = 9 ∧ sz = 1)
    (h0 : ∃ a c, v0 = .slice a D.secs.length c) (e1 : v1 = vB D.armed) (e2 : v2 = vI D.left) (e3 : v3 = vI D.keep) (e4 : v4 = vB D.down) (hn : n = D.secs.length) (hx : xs = D.secs.map vS) : Ent Hs (IsD p D :: Rs) := by
  obtain ⟨a, c, rfl⟩ := h0
  obtain ⟨rfl, rfl⟩ := he
  subst hT; subst e1; subst e2; subst e3; subst e4; subst hn; subst hx
  refine ent_ex a ?_
  refine ent_ex c (ent_al (ent_pu ok ?_))
  exact ent_step (ent_pick1 h1.get) (ent_pick1 h2.get)
theorem newD_ok (n : Int) : (newD n).Ok := by
  refine ⟨fun s hs => ?_, by simp [newD], by simp [newD]; omega⟩
  have : s = wholeS [] := List.eq_of_mem_replicate hs
  subst this; rfl
theorem disk_New_sp (n : Int) : Sp Try.prog 8 [vI n] [] (X := Nat) (fun p => .pointer (some ⟨p, 0, none⟩)) (fun _ => True) (fun p => [IsD p (newD n)]) := by
  refine Sp.body (n := 11) Try.call8 Try.func8 rfl rfl rfl ?_
  refine p_seq rfl ?_
  refine p_region rfl ?_
  refine wo_pv (pv_assign rfl) rfl ?_
  refine q_seq ?_
  refine p_seq rfl ?_
  refine p_region rfl ?_
  refine r_callF (disk_whole_sp [] (by simp)) rfl rfl rfl ?_
  refine r_buildSliceL [_] (cs := [_]) Try.underlying46 ti9 rfl rfl rfl rfl rfl rfl rfl rfl (fun b4 => ?_)
  refine wo_pv (pv_move rfl) rfl ?_
  refine wo_pv (pv_call_min rfl rfl) rfl ?_
  refine wo_pv (pv_call_max rfl rfl) rfl ?_
  have e8 : max 1 (min n 2000) = (((max 1 (min n 2000)).toNat : Nat) : Int) := by omega
  have hw8 : (newD n).secs.length = (max 1 (min n 2000)).toNat := by simp [newD]
  have hr := slices_Repeat_sp b4 (max 1 (min n 2000)).toNat (wholeS []) (by omega) (by omega)
  rw [← e8] at hr
  refine r_callX hr rfl rfl rfl (fun g8 _ => ?_)
  clear hr e8
  generalize hk : (max 1 (min n 2000)).toNat = k at *
  refine wo_pv (pv_buildS (vs := [_, .bool false, .int .i64 0, .int .i64 0, .bool false]) Try.underlying76 ti76 rfl rfl rfl rfl rfl) rfl ?_
  refine wo_box (vs := [_, _, _, _, _]) rfl rfl rfl (fun b10 => ?_)
  refine wo_pv (pv_assign rfl) rfl ?_
  refine q_seq ?_
  refine p_ret rfl ?_
  refine fin_ret b10 (vs := [_]) (Cs := []) rfl (.tmp rfl .nil) rfl trivial ?_
  exact fold_isD (newD n) (newD_ok n) rfl ⟨rfl, rfl⟩ ⟨_, _, by rw [hw8]⟩ rfl rfl rfl rfl hw8.symm (by simp [newD, hk])

theorem disk_Arm_sp (p : Nat) (D : Dk) (w k : Int) : Sp1 Try.prog 21 [.pointer (some ⟨p, 0, none⟩), vI w, vI k] [IsD p D] (.tuple #[]) [IsD p (D.arm w k)] := by
  refine Sp.body (n := 20) Try.call21 Try.func21 rfl rfl rfl ?_
  refine wc_exi fun a => wc_exi fun c => wc_al (wc_pu fun ok => ?_)
  refine p_region rfl ?_
  refine wo_pv (pv_move rfl) rfl ?_
  refine wo_pv (pv_move rfl) rfl ?_
  refine wo_pv (pv_move rfl) rfl ?_
  refine wo_pv (pv_move rfl) rfl ?_
  refine wo_pv (pv_call_max rfl rfl) rfl ?_
  refine wo_pv (pv_move rfl) rfl ?_
  refine wo_pv (pv_call_min rfl rfl) rfl ?_
  refine wo_pv (pv_call_max rfl rfl) rfl ?_
  refine wo_pv (by first | exact pv_nilCheck_p rfl | exact pv_nilCheck_f rfl) rfl ?_
  refine wo_pv (pv_fieldAddrk Try.underlying76 rfl ti4 rfl rfl (k := 1) rfl (by first | exact Nat.zero_add _ | exact Nat.add_zero _ | exact rfl)) rfl ?_
  refine r_store ti4 rfl rfl rfl rfl (by simp; try omega) ?_
  refine wo_pv (by first | exact pv_nilCheck_p rfl | exact pv_nilCheck_f rfl) rfl ?_
  refine wo_pv (pv_fieldAddrk Try.underlying76 rfl ti3 rfl rfl (k := 2) rfl (by first | exact Nat.zero_add _ | exact Nat.add_zero _ | exact rfl)) rfl ?_
  refine r_store ti3 rfl rfl rfl rfl (by simp; try omega) ?_
  refine wo_pv (by first | exact pv_nilCheck_p rfl | exact pv_nilCheck_f rfl) rfl ?_
  refine wo_pv (pv_fieldAddrk Try.underlying76 rfl ti3 rfl rfl (k := 3) rfl (by first | exact Nat.zero_add _ | exact Nat.add_zero _ | exact rfl)) rfl ?_
  refine r_store ti3 rfl rfl rfl rfl (by simp; try omega) ?_
  refine wo_nil ?_
  refine fin_end () (vs := []) (Cs := []) rfl .nil rfl trivial ?_
  exact fold_isD (D.arm w k) ⟨ok.secs, by simp [Dk.arm]; omega, ok.many⟩ (by rfl) (by exact ⟨rfl, rfl⟩) (by exact ⟨_, _, rfl⟩) (by rfl) (by rfl) (by simp only [Dk.arm]; congr 1; omega) (by rfl) (by rfl) (by rfl)
theorem disk_Revive_sp (p : Nat) (D : Dk) : Sp1 Try.prog 22 [.pointer (some ⟨p, 0, none⟩)] [IsD p D] (.tuple #[]) [IsD p D.revive] := by
  refine Sp.body (n := 5) Try.call22 Try.func22 rfl rfl rfl ?_
  refine wc_exi fun a => wc_exi fun c => wc_al (wc_pu fun ok => ?_)
  refine p_region rfl ?_
  refine wo_pv (pv_move rfl) rfl ?_
  refine wo_pv (by first | exact pv_nilCheck_p rfl | exact pv_nilCheck_f rfl) rfl ?_
  refine wo_pv (pv_fieldAddrk Try.underlying76 rfl ti4 rfl rfl (k := 4) rfl (by first | exact Nat.zero_add _ | exact Nat.add_zero _ | exact rfl)) rfl ?_
  refine r_store ti4 rfl rfl rfl rfl (by simp; try omega) ?_
  refine wo_nil ?_
  refine fin_end () (vs := []) (Cs := []) rfl .nil rfl trivial ?_
  exact fold_isD D.revive ⟨ok.secs, ok.keep, ok.many⟩ (by rfl) (by exact ⟨rfl, rfl⟩) (by exact ⟨_, _, rfl⟩) (by rfl) (by rfl) (by rfl) (by rfl) (by rfl) (by rfl)
theorem disk_Sectors_sp (p : Nat) (D : Dk) : Sp1 Try.prog 59 [.pointer (some ⟨p, 0, none⟩)] [IsD p D] (vI D.secs.length) [IsD p D] := by
  refine Sp.body (n := 8) Try.call59 Try.func59 rfl rfl rfl ?_
  refine wc_exi fun a => wc_exi fun c => wc_al (wc_pu fun ok => ?_)
  refine p_seq rfl ?_
  refine p_region rfl ?_
  refine wo_pv (pv_assign rfl) rfl ?_
  refine q_seq ?_
  refine p_seq rfl ?_
  refine p_region rfl ?_
  refine wo_pv (pv_move rfl) rfl ?_
  refine wo_pv (by first | exact pv_nilCheck_p rfl | exact pv_nilCheck_f rfl) rfl ?_
  refine wo_pv (pv_fieldAddrk Try.underlying76 rfl ti46 rfl rfl (k := 0) rfl (by first | exact Nat.zero_add _ | exact Nat.add_zero _ | exact rfl)) rfl ?_
  refine r_load Try.underlying46 rfl rfl rfl rfl ?_
  refine wo_pv (pv_call_len_sl Try.underlying46 rfl) rfl ?_
  refine wo_pv (pv_assign rfl) rfl ?_
  refine q_seq ?_
  refine p_ret rfl ?_
  refine fin_ret () (vs := [_]) (Cs := []) rfl (.tmp rfl .nil) rfl trivial ?_
  exact fold_isD D ok (by rfl) (by exact ⟨rfl, rfl⟩) (by exact ⟨_, _, rfl⟩) (by rfl) (by rfl) (by rfl) (by rfl) (by rfl) (by rfl)

theorem disk_Write_sp (p : Nat) (D : Dk) (i : Int) (s : List UInt8) (hs : s.length ≤ 140737488355328) (hl : -4611686018427387904 ≤ D.left ∧ D.left ≤ 9223372036854775807) : Sp1 Try.prog 60 [.pointer (some ⟨p, 0, none⟩), vI i, vS s] [IsD p D] (vB (D.write i s).2) [IsD p (D.write i s).1] := by
  refine Sp.body (n := 88) Try.call60 Try.func60 rfl rfl rfl ?_
  refine wc_exi fun a => wc_exi fun c => wc_al (wc_pu fun ok => ?_)
  have hk := ok.keep
  have hm := ok.many
  refine p_seq rfl ?_
  refine p_region rfl ?_
  refine wo_pv (pv_assign rfl) rfl ?_
  refine q_seq ?_
  refine p_seq rfl ?_
  refine p_seq rfl ?_
  refine p_region rfl ?_
  refine wo_pv (pv_move rfl) rfl ?_
  refine wo_pv (by first | exact pv_nilCheck_p rfl | exact pv_nilCheck_f rfl) rfl ?_
  refine wo_pv (pv_fieldAddrk Try.underlying76 rfl ti4 rfl rfl (k := 4) rfl (by first | exact Nat.zero_add _ | exact Nat.add_zero _ | exact rfl)) rfl ?_
  refine r_load Try.underlying4 rfl rfl rfl rfl ?_
  refine wo_pv (pv_move rfl) rfl ?_
  first | refine wo_gite (j := 4) rfl rfl (fun h12 => ?_) (fun h12 => ?_) | refine wo_gsplit (j := 4) rfl rfl (fun h12 => ?_) (fun h12 => ?_)
  · -- t12 True
    refine wo_out (b := true) rfl rfl rfl ?_
    refine wo_out (b := true) rfl rfl rfl ?_
    refine wo_pv (pv_pick_t rfl rfl) rfl ?_
    refine wo_pv (pv_move rfl) rfl ?_
    refine wo_out (b := true) rfl rfl rfl ?_
    refine wo_out (b := true) rfl rfl rfl ?_
    refine wo_out (b := true) rfl rfl rfl ?_
    refine wo_out (b := true) rfl rfl rfl ?_
    refine wo_out (b := true) rfl rfl rfl ?_
    refine wo_out (b := true) rfl rfl rfl ?_
    refine wo_out (b := true) rfl rfl rfl ?_
    refine wo_pv (pv_pick_t rfl rfl) rfl ?_
    refine wo_pv (pv_move rfl) rfl ?_
    refine wo_out (b := true) rfl rfl rfl ?_
    refine wo_out (b := true) rfl rfl rfl ?_
    refine wo_out (b := true) rfl rfl rfl ?_
    refine wo_pv (pv_pick_t rfl rfl) rfl ?_
    refine q_seq ?_
    refine p_true rfl rfl ?_
    refine p_seq rfl ?_
    refine p_region rfl ?_
    refine wo_pv (pv_assign rfl) rfl ?_
    refine q_seq ?_
    refine p_ret rfl ?_
    refine t_seq_ret ?_
    have hw : D.write i s = (D, false) := by
      rw [Dk.write, if_pos (by first | exact .inl ‹D.down = true› | exact .inr (.inl ‹i < 0›) | exact .inr (.inr (.inl ‹_›)) | exact .inr (.inr (.inr (by omega))))]
    rw [hw]
    refine fin_ret () (vs := [_]) (Cs := []) rfl (.tmp rfl .nil) rfl trivial ?_
    exact fold_isD D ok (by rfl) (by exact ⟨rfl, rfl⟩) (by exact ⟨_, _, rfl⟩) (by rfl) (by rfl) (by rfl) (by rfl) (by rfl) (by rfl)
  · -- t12 False
    refine wo_in (b := false) rfl ?_
    refine wo_pv (pv_move rfl) rfl ?_
    refine wo_in (b := false) rfl ?_
    refine wo_pv (pv_lss rfl rfl) rfl ?_
    refine wo_pv (pv_pick_f rfl rfl) rfl ?_
    refine wo_pv (pv_move rfl) rfl ?_
    first | refine wo_gite (j := 8) rfl rfl (fun h16 => ?_) (fun h16 => ?_) | refine wo_gsplit (j := 8) rfl rfl (fun h16 => ?_) (fun h16 => ?_)
    · -- t16 True
      refine wo_out (b := true) rfl rfl rfl ?_
      refine wo_out (b := true) rfl rfl rfl ?_
      refine wo_out (b := true) rfl rfl rfl ?_
      refine wo_out (b := true) rfl rfl rfl ?_
      refine wo_out (b := true) rfl rfl rfl ?_
      refine wo_out (b := true) rfl rfl rfl ?_
      refine wo_out (b := true) rfl rfl rfl ?_
      refine wo_pv (pv_pick_t rfl rfl) rfl ?_
      refine wo_pv (pv_move rfl) rfl ?_
      refine wo_out (b := true) rfl rfl rfl ?_
      refine wo_out (b := true) rfl rfl rfl ?_
      refine wo_out (b := true) rfl rfl rfl ?_
      refine wo_pv (pv_pick_t rfl rfl) rfl ?_
      refine q_seq ?_
      refine p_true rfl rfl ?_
      refine p_seq rfl ?_
      refine p_region rfl ?_
      refine wo_pv (pv_assign rfl) rfl ?_
      refine q_seq ?_
      refine p_ret rfl ?_
      refine t_seq_ret ?_
      have hw : D.write i s = (D, false) := by
        rw [Dk.write, if_pos (by first | exact .inl ‹D.down = true› | exact .inr (.inl ‹i < 0›) | exact .inr (.inr (.inl ‹_›)) | exact .inr (.inr (.inr (by omega))))]
      rw [hw]
      refine fin_ret () (vs := [_]) (Cs := []) rfl (.tmp rfl .nil) rfl trivial ?_
      exact fold_isD D ok (by rfl) (by exact ⟨rfl, rfl⟩) (by exact ⟨_, _, rfl⟩) (by rfl) (by rfl) (by rfl) (by rfl) (by rfl) (by rfl)
    · -- t16 False
      refine wo_in (b := false) rfl ?_
      refine wo_pv (pv_move rfl) rfl ?_
      refine wo_in (b := false) rfl ?_
      refine wo_pv (pv_move rfl) rfl ?_
      refine wo_in (b := false) rfl ?_
      refine wo_pv (by first | exact pv_nilCheck_p rfl | exact pv_nilCheck_f rfl) rfl ?_
      refine wo_in (b := false) rfl ?_
      refine wo_pv (pv_fieldAddrk Try.underlying76 rfl ti46 rfl rfl (k := 0) rfl (by first | exact Nat.zero_add _ | exact Nat.add_zero _ | exact rfl)) rfl ?_
      refine wo_in (b := false) rfl ?_
      refine r_load Try.underlying46 rfl rfl rfl rfl ?_
      refine wo_in (b := false) rfl ?_
      refine wo_pv (pv_call_len_sl Try.underlying46 rfl) rfl ?_
      refine wo_in (b := false) rfl ?_
      refine wo_pv (pv_geq rfl rfl) rfl ?_
      refine wo_pv (pv_pick_f rfl rfl) rfl ?_
      refine wo_pv (pv_move rfl) rfl ?_
      first | refine wo_gite (j := 17) rfl rfl (fun h25 => ?_) (fun h25 => ?_) | refine wo_gsplit (j := 17) rfl rfl (fun h25 => ?_) (fun h25 => ?_)
      · -- t25 True
        refine wo_out (b := true) rfl rfl rfl ?_
        refine wo_out (b := true) rfl rfl rfl ?_
        refine wo_out (b := true) rfl rfl rfl ?_
        refine wo_pv (pv_pick_t rfl rfl) rfl ?_
        refine q_seq ?_
        refine p_true rfl rfl ?_
        refine p_seq rfl ?_
        refine p_region rfl ?_
        refine wo_pv (pv_assign rfl) rfl ?_
        refine q_seq ?_
        refine p_ret rfl ?_
        refine t_seq_ret ?_
        have hw : D.write i s = (D, false) := by
          rw [Dk.write, if_pos (by first | exact .inl ‹D.down = true› | exact .inr (.inl ‹i < 0›) | exact .inr (.inr (.inl ‹_›)) | exact .inr (.inr (.inr (by omega))))]
        rw [hw]
        refine fin_ret () (vs := [_]) (Cs := []) rfl (.tmp rfl .nil) rfl trivial ?_
        exact fold_isD D ok (by rfl) (by exact ⟨rfl, rfl⟩) (by exact ⟨_, _, rfl⟩) (by rfl) (by rfl) (by rfl) (by rfl) (by rfl) (by rfl)
      · -- t25 False
        refine wo_in (b := false) rfl ?_
        refine wo_pv (pv_move rfl) rfl ?_
        refine wo_in (b := false) rfl ?_
        refine wo_pv (pv_call_len_s Try.underlying9 rfl) rfl ?_
        refine wo_in (b := false) rfl ?_
        refine wo_pv (pv_gtr rfl rfl) rfl ?_
        refine wo_pv (pv_pick_f rfl rfl) rfl ?_
        refine q_seq ?_
        first | refine p_ite rfl rfl (fun h29 => ?_) (fun h29 => ?_) | refine p_cond rfl rfl (fun h29 => ?_) (fun h29 => ?_)
        · -- t29 True
          refine p_seq rfl ?_
          refine p_region rfl ?_
          refine wo_pv (pv_assign rfl) rfl ?_
          refine q_seq ?_
          refine p_ret rfl ?_
          refine t_seq_ret ?_
          have hw : D.write i s = (D, false) := by
            rw [Dk.write, if_pos (by first | exact .inl ‹D.down = true› | exact .inr (.inl ‹i < 0›) | exact .inr (.inr (.inl ‹_›)) | exact .inr (.inr (.inr (by omega))))]
          rw [hw]
          refine fin_ret () (vs := [_]) (Cs := []) rfl (.tmp rfl .nil) rfl trivial ?_
          exact fold_isD D ok (by rfl) (by exact ⟨rfl, rfl⟩) (by exact ⟨_, _, rfl⟩) (by rfl) (by rfl) (by rfl) (by rfl) (by rfl) (by rfl)
        · -- t29 False
          refine p_skip rfl ?_
          refine t_seq ?_
          refine p_seq rfl ?_
          refine p_region rfl ?_
          refine wo_pv (pv_move rfl) rfl ?_
          refine r_callF (disk_whole_sp s (by omega)) rfl rfl rfl ?_
          refine wo_pv (pv_assign rfl) rfl ?_
          refine q_seq ?_
          refine p_seq rfl ?_
          refine p_seq rfl ?_
          refine p_region rfl ?_
          refine wo_pv (pv_move rfl) rfl ?_
          refine wo_pv (by first | exact pv_nilCheck_p rfl | exact pv_nilCheck_f rfl) rfl ?_
          refine wo_pv (pv_fieldAddrk Try.underlying76 rfl ti4 rfl rfl (k := 1) rfl (by first | exact Nat.zero_add _ | exact Nat.add_zero _ | exact rfl)) rfl ?_
          refine r_load Try.underlying4 rfl rfl rfl rfl ?_
          refine wo_pv (pv_move rfl) rfl ?_
          first | refine wo_gite (j := 4) rfl rfl (fun h36 => ?_) (fun h36 => ?_) | refine wo_gsplit (j := 4) rfl rfl (fun h36 => ?_) (fun h36 => ?_)
          · -- t36 True
            refine wo_in (b := true) rfl ?_
            refine wo_pv (pv_move rfl) rfl ?_
            refine wo_in (b := true) rfl ?_
            refine wo_pv (by first | exact pv_nilCheck_p rfl | exact pv_nilCheck_f rfl) rfl ?_
            refine wo_in (b := true) rfl ?_
            refine wo_pv (pv_fieldAddrk Try.underlying76 rfl ti3 rfl rfl (k := 2) rfl (by first | exact Nat.zero_add _ | exact Nat.add_zero _ | exact rfl)) rfl ?_
            refine wo_in (b := true) rfl ?_
            refine r_load Try.underlying3 rfl rfl rfl rfl ?_
            refine wo_in (b := true) rfl ?_
            refine wo_pv (pv_eql rfl rfl) rfl ?_
            refine wo_pv (pv_pick_t rfl rfl) rfl ?_
            refine q_seq ?_
            first | refine p_ite rfl rfl (fun h42 => ?_) (fun h42 => ?_) | refine p_cond rfl rfl (fun h42 => ?_) (fun h42 => ?_)
            · -- t42 True
              refine p_seq rfl ?_
              have em : i = ((i.toNat : Nat) : Int) := by omega
              have hlen : (D.secs[i.toNat]'(by omega)).length = 32 := ok.secs _ (List.getElem_mem _)
              have hwl : (wholeS s).length = 32 := wholeS_len (by omega)
              refine d_draw rfl rfl rfl [Ce p 76 [.slice a D.secs.length c, vB D.armed, vI D.left, vI D.keep, vB D.down]] ?_
              refine d_first 0 rfl rfl rfl (by kernel_rfl) (by kernel_rfl) (tl_pv (pv_move rfl)) ?_
              refine d_first 1 rfl rfl rfl (by kernel_rfl) (by kernel_rfl) (tl_pv (by first | exact pv_nilCheck_p rfl | exact pv_nilCheck_f rfl)) ?_
              refine d_first 2 rfl rfl rfl (by kernel_rfl) (by kernel_rfl) (tl_pv (pv_fieldAddrk Try.underlying76 rfl ti46 rfl rfl (k := 0) rfl (by first | exact Nat.zero_add _ | exact Nat.add_zero _ | exact rfl))) ?_
              refine d_first 3 rfl rfl rfl (by kernel_rfl) (by kernel_rfl) (tl_load Try.underlying46 rfl rfl rfl) ?_
              refine d_first 4 rfl rfl rfl (by kernel_rfl) (by kernel_rfl) (tl_pv (pv_move rfl)) ?_
              refine d_first 5 rfl rfl rfl (by kernel_rfl) (by kernel_rfl) (tl_pv (pv_move rfl)) ?_
              refine d_first 6 rfl rfl rfl (by kernel_rfl) (by kernel_rfl) (tl_pv (pv_move rfl)) ?_
              refine d_first 7 rfl rfl rfl (by kernel_rfl) (by kernel_rfl) (tl_pv (by first | exact pv_nilCheck_p rfl | exact pv_nilCheck_f rfl)) ?_
              refine d_first 8 rfl rfl rfl (by kernel_rfl) (by kernel_rfl) (tl_pv (pv_fieldAddrk Try.underlying76 rfl ti3 rfl rfl (k := 3) rfl (by first | exact Nat.zero_add _ | exact Nat.add_zero _ | exact rfl))) ?_
              refine d_first 9 rfl rfl rfl (by kernel_rfl) (by kernel_rfl) (tl_load Try.underlying3 rfl rfl rfl) ?_
              refine d_first 10 rfl rfl rfl (by kernel_rfl) (by kernel_rfl) (tl_pv (pv_slice_tom Try.underlying9 rfl rfl rfl (by omega))) ?_
              refine d_first 11 rfl rfl rfl (by kernel_rfl) (by kernel_rfl) (tl_pv (pv_move rfl)) ?_
              refine d_first 12 rfl rfl rfl (by kernel_rfl) (by kernel_rfl) (tl_pv (by first | exact pv_nilCheck_p rfl | exact pv_nilCheck_f rfl)) ?_
              refine d_first 13 rfl rfl rfl (by kernel_rfl) (by kernel_rfl) (tl_pv (pv_fieldAddrk Try.underlying76 rfl ti46 rfl rfl (k := 0) rfl (by first | exact Nat.zero_add _ | exact Nat.add_zero _ | exact rfl))) ?_
              refine d_first 14 rfl rfl rfl (by kernel_rfl) (by kernel_rfl) (tl_load Try.underlying46 rfl rfl rfl) ?_
              refine d_first 15 rfl rfl rfl (by kernel_rfl) (by kernel_rfl) (tl_pv (pv_move rfl)) ?_
              refine d_first 18 rfl rfl rfl (by kernel_rfl) (by kernel_rfl) (tl_pv (pv_move rfl)) ?_
              refine d_first 19 rfl rfl rfl (by kernel_rfl) (by kernel_rfl) (tl_pv (by first | exact pv_nilCheck_p rfl | exact pv_nilCheck_f rfl)) ?_
              refine d_first 20 rfl rfl rfl (by kernel_rfl) (by kernel_rfl) (tl_pv (pv_fieldAddrk Try.underlying76 rfl ti3 rfl rfl (k := 3) rfl (by first | exact Nat.zero_add _ | exact Nat.add_zero _ | exact rfl))) ?_
              refine d_first 21 rfl rfl rfl (by kernel_rfl) (by kernel_rfl) (tl_load Try.underlying3 rfl rfl rfl) ?_
              refine d_next 16 (by kernel_rfl) rfl ?_
              refine an_elemAddr Try.underlying46 ti9 rfl rfl rfl em (by omega) (by rw [List.length_map]; omega) (Nat.mul_one _) rfl ?_
              refine d_next 17 (by kernel_rfl) rfl ?_
              refine an_eload Try.underlying9 rfl rfl (get_map (by omega)) rfl ?_
              refine d_first 22 rfl rfl rfl (by kernel_rfl) (by kernel_rfl) (tl_pv (pv_slice_fromm Try.underlying9 rfl rfl rfl (by omega))) ?_
              refine d_first 23 rfl rfl rfl (by kernel_rfl) (by kernel_rfl) (tl_pv (pv_cat rfl rfl (by first | (simp only [List.length_append, List.length_take, List.length_drop, List.length_cons, List.length_nil]; omega) | (simp; try omega)))) ?_
              refine d_next 24 (by kernel_rfl) rfl ?_
              refine an_elemAddr Try.underlying46 ti9 rfl rfl rfl em (by omega) (by rw [List.length_map]; omega) (Nat.mul_one _) rfl ?_
              refine d_next 25 (by kernel_rfl) rfl ?_
              refine an_estore ti9 rfl rfl rfl rfl (by first | (rw [List.length_map]; omega) | (rw [flat_len (fun _ => rfl)]; omega) | (simp; omega)) ?_
              refine d_done (by kernel_rfl) ?_
              refine t_seq ?_
              refine p_seq rfl ?_
              refine p_region rfl ?_
              refine wo_pv (pv_move rfl) rfl ?_
              refine wo_pv (pv_move rfl) rfl ?_
              refine wo_pv (by first | exact pv_nilCheck_p rfl | exact pv_nilCheck_f rfl) rfl ?_
              refine wo_pv (pv_fieldAddrk Try.underlying76 rfl ti4 rfl rfl (k := 4) rfl (by first | exact Nat.zero_add _ | exact Nat.add_zero _ | exact rfl)) rfl ?_
              refine r_store ti4 rfl rfl rfl rfl (by simp; try omega) ?_
              refine wo_pv (by first | exact pv_nilCheck_p rfl | exact pv_nilCheck_f rfl) rfl ?_
              refine wo_pv (pv_fieldAddrk Try.underlying76 rfl ti4 rfl rfl (k := 1) rfl (by first | exact Nat.zero_add _ | exact Nat.add_zero _ | exact rfl)) rfl ?_
              refine r_store ti4 rfl rfl rfl rfl (by simp; try omega) ?_
              refine q_seq ?_
              refine p_seq rfl ?_
              refine p_region rfl ?_
              refine wo_pv (pv_assign rfl) rfl ?_
              refine q_seq ?_
              refine p_ret rfl ?_
              refine t_seq_ret ?_
              have hw : D.write i s = ({ D with secs := D.secs.set i.toNat ((wholeS s).take D.keep ++ (D.secs.getD i.toNat []).drop D.keep), down := true, armed := false }, false) := by
                rw [Dk.write, if_neg (by rintro (h | h | h | h) <;> first | exact h16 h | exact h25 h | omega | (rw [h12] at h; cases h)), if_pos ⟨h36, h42⟩]
              rw [hw]
              have hg : D.secs.getD i.toNat [] = D.secs[i.toNat]'(by omega) := by simp; rw [List.getElem?_eq_getElem (by omega)]; rfl
              refine fin_ret () (vs := [_]) (Cs := []) rfl (.tmp rfl .nil) rfl trivial ?_
              refine fold_isD { D with secs := D.secs.set i.toNat ((wholeS s).take D.keep ++ (D.secs.getD i.toNat []).drop D.keep), down := true, armed := false } ⟨fun u hu => ?_, ok.keep, by simpa using hm⟩ (by rfl) (by exact ⟨rfl, rfl⟩) (by exact ⟨a, c, by rw [List.length_set]⟩) (by rfl) (by rfl) (by rfl) (by rfl) (by simp) (by rw [List.map_set, hg])
              rcases List.mem_or_eq_of_mem_set hu with h | rfl
              · exact ok.secs u h
              · rw [hg]; simp only [List.length_append, List.length_take, List.length_drop, hlen, hwl]; omega
            · -- t42 False
              refine p_skip rfl ?_
              refine t_seq ?_
              refine p_seq rfl ?_
              refine p_region rfl ?_
              refine wo_pv (pv_move rfl) rfl ?_
              refine wo_pv (by first | exact pv_nilCheck_p rfl | exact pv_nilCheck_f rfl) rfl ?_
              refine wo_pv (pv_fieldAddrk Try.underlying76 rfl ti46 rfl rfl (k := 0) rfl (by first | exact Nat.zero_add _ | exact Nat.add_zero _ | exact rfl)) rfl ?_
              refine r_load Try.underlying46 rfl rfl rfl rfl ?_
              refine wo_pv (pv_move rfl) rfl ?_
              refine wo_pv (pv_move rfl) rfl ?_
              have em : i = ((i.toNat : Nat) : Int) := by omega
              refine r_elemAddr Try.underlying46 ti9 rfl rfl rfl em (by omega) (by rw [List.length_map]; omega) (Nat.mul_one _) rfl ?_
              refine r_estore ti9 rfl rfl rfl rfl (by first | (rw [List.length_map]; omega) | (rw [flat_len (fun _ => rfl)]; omega) | (simp; omega)) ?_
              refine q_seq ?_
              refine p_seq rfl ?_
              refine p_region rfl ?_
              refine wo_pv (pv_move rfl) rfl ?_
              refine wo_pv (by first | exact pv_nilCheck_p rfl | exact pv_nilCheck_f rfl) rfl ?_
              refine wo_pv (pv_fieldAddrk Try.underlying76 rfl ti3 rfl rfl (k := 2) rfl (by first | exact Nat.zero_add _ | exact Nat.add_zero _ | exact rfl)) rfl ?_
              refine r_load Try.underlying3 rfl rfl rfl rfl ?_
              refine wo_pv (pv_sub rfl rfl (by omega)) rfl ?_
              refine wo_pv (by first | exact pv_nilCheck_p rfl | exact pv_nilCheck_f rfl) rfl ?_
              refine wo_pv (pv_fieldAddrk Try.underlying76 rfl ti3 rfl rfl (k := 2) rfl (by first | exact Nat.zero_add _ | exact Nat.add_zero _ | exact rfl)) rfl ?_
              refine r_store ti3 rfl rfl rfl rfl (by simp; try omega) ?_
              refine q_seq ?_
              refine p_seq rfl ?_
              refine p_region rfl ?_
              refine wo_pv (pv_assign rfl) rfl ?_
              refine q_seq ?_
              refine p_ret rfl ?_
              have hw : D.write i s = ({ D with secs := D.secs.set i.toNat (wholeS s), left := D.left - 1 }, true) := by
                rw [Dk.write, if_neg (by rintro (h | h | h | h) <;> first | exact h16 h | exact h25 h | omega | (rw [h12] at h; cases h)), if_neg (by rintro ⟨h1, h2⟩; first | exact absurd h2 ‹_› | (rw [h36] at h1; cases h1))]
              rw [hw]
              refine fin_ret () (vs := [_]) (Cs := []) rfl (.tmp rfl .nil) rfl trivial ?_
              refine fold_isD { D with secs := D.secs.set i.toNat (wholeS s), left := D.left - 1 } ⟨fun u hu => ?_, ok.keep, by simpa using hm⟩ (by rfl) (by exact ⟨rfl, rfl⟩) (by exact ⟨a, c, by rw [List.length_set]⟩) (by rfl) (by rfl) (by rfl) (by rfl) (by simp) (by rw [List.map_set])
              rcases List.mem_or_eq_of_mem_set hu with h | rfl
              · exact ok.secs u h
              · exact wholeS_len (by omega)
          · -- t36 False
            refine wo_out (b := false) rfl rfl rfl ?_
            refine wo_out (b := false) rfl rfl rfl ?_
            refine wo_out (b := false) rfl rfl rfl ?_
            refine wo_out (b := false) rfl rfl rfl ?_
            refine wo_out (b := false) rfl rfl rfl ?_
            refine wo_pv (pv_pick_f rfl rfl) rfl ?_
            refine q_seq ?_
            refine p_false rfl rfl ?_
            refine p_skip rfl ?_
            refine t_seq ?_
            refine p_seq rfl ?_
            refine p_region rfl ?_
            refine wo_pv (pv_move rfl) rfl ?_
            refine wo_pv (by first | exact pv_nilCheck_p rfl | exact pv_nilCheck_f rfl) rfl ?_
            refine wo_pv (pv_fieldAddrk Try.underlying76 rfl ti46 rfl rfl (k := 0) rfl (by first | exact Nat.zero_add _ | exact Nat.add_zero _ | exact rfl)) rfl ?_
            refine r_load Try.underlying46 rfl rfl rfl rfl ?_
            refine wo_pv (pv_move rfl) rfl ?_
            refine wo_pv (pv_move rfl) rfl ?_
            have em : i = ((i.toNat : Nat) : Int) := by omega
            refine r_elemAddr Try.underlying46 ti9 rfl rfl rfl em (by omega) (by rw [List.length_map]; omega) (Nat.mul_one _) rfl ?_
            refine r_estore ti9 rfl rfl rfl rfl (by first | (rw [List.length_map]; omega) | (rw [flat_len (fun _ => rfl)]; omega) | (simp; omega)) ?_
            refine q_seq ?_
            refine p_seq rfl ?_
            refine p_region rfl ?_
            refine wo_pv (pv_move rfl) rfl ?_
            refine wo_pv (by first | exact pv_nilCheck_p rfl | exact pv_nilCheck_f rfl) rfl ?_
            refine wo_pv (pv_fieldAddrk Try.underlying76 rfl ti3 rfl rfl (k := 2) rfl (by first | exact Nat.zero_add _ | exact Nat.add_zero _ | exact rfl)) rfl ?_
            refine r_load Try.underlying3 rfl rfl rfl rfl ?_
            refine wo_pv (pv_sub rfl rfl (by omega)) rfl ?_
            refine wo_pv (by first | exact pv_nilCheck_p rfl | exact pv_nilCheck_f rfl) rfl ?_
            refine wo_pv (pv_fieldAddrk Try.underlying76 rfl ti3 rfl rfl (k := 2) rfl (by first | exact Nat.zero_add _ | exact Nat.add_zero _ | exact rfl)) rfl ?_
            refine r_store ti3 rfl rfl rfl rfl (by simp; try omega) ?_
            refine q_seq ?_
            refine p_seq rfl ?_
            refine p_region rfl ?_
            refine wo_pv (pv_assign rfl) rfl ?_
            refine q_seq ?_
            refine p_ret rfl ?_
            have hw : D.write i s = ({ D with secs := D.secs.set i.toNat (wholeS s), left := D.left - 1 }, true) := by
              rw [Dk.write, if_neg (by rintro (h | h | h | h) <;> first | exact h16 h | exact h25 h | omega | (rw [h12] at h; cases h)), if_neg (by rintro ⟨h1, h2⟩; first | exact absurd h2 ‹_› | (rw [h36] at h1; cases h1))]
            rw [hw]
            refine fin_ret () (vs := [_]) (Cs := []) rfl (.tmp rfl .nil) rfl trivial ?_
            refine fold_isD { D with secs := D.secs.set i.toNat (wholeS s), left := D.left - 1 } ⟨fun u hu => ?_, ok.keep, by simpa using hm⟩ (by rfl) (by exact ⟨rfl, rfl⟩) (by exact ⟨a, c, by rw [List.length_set]⟩) (by rfl) (by rfl) (by rfl) (by rfl) (by simp) (by rw [List.map_set])
            rcases List.mem_or_eq_of_mem_set hu with h | rfl
            · exact ok.secs u h
            · exact wholeS_len (by omega)
end Go.Proofs.Ytimafngkifakfaa

/- slices.Clone, slices.All, slices.Values. -/
set_option maxRecDepth 100000
namespace Go.Proofs.Ytimafngkifakfaa
section
variable {r : Option Nat} {P : Program} {n : Nat} {ops : Array Oper} {os : List Oper} {A : List HP} {L : Loc} {Hs : List HP} {Q : Out} {c : Code}
theorem row_none {e : TypeId} {sz k n' c' : Nat} {a : Option Addr} {xs : List Value} {M : Kn} {h : Res} (x : (Row e sz (.slice a n' c') k xs).at_ M h) : a = none → k = 0 := by
  intro ha
  rcases x with ⟨_, h1, _⟩ | ⟨g, cap, cur, h1, _⟩
  · exact h1
  · subst ha; cases h1
end

theorem slices_Clone_sp {B : HP} {a : Option Addr} (n c : Nat) (l : List (List UInt8)) (sh : SlA B a (l.map vS)) (hn : l.length = n) (ha : a = none → n = 0) (hb : n ≤ 8796093022208) :
    Sp Try.prog 53 [.slice a n c] [B] (X := Option Addr × Nat) (fun x => .slice x.1 n x.2) (fun _ => True) (fun x => [Row 9 1 (.slice x.1 n x.2) n (l.map vS), B]) := by
  subst hn
  refine Sp.body (n := 8) Try.call53 Try.func53 rfl rfl rfl ?_
  refine p_seq rfl ?_
  refine p_region rfl ?_
  refine wo_pv (pv_assign rfl) rfl ?_
  refine q_seq ?_
  refine p_seq rfl ?_
  refine p_seq rfl ?_
  refine p_region rfl ?_
  refine wo_pv (pv_move rfl) rfl ?_
  refine wo_pv (pv_sleql_nil Try.underlying46 rfl rfl) rfl ?_
  refine q_seq ?_
  first | refine p_ite rfl rfl (fun h4 => ?_) (fun h4 => ?_) | refine p_cond rfl rfl (fun h4 => ?_) (fun h4 => ?_)
  · -- t4 True
    refine p_seq rfl ?_
    refine p_region rfl ?_
    refine wo_pv (pv_assign rfl) rfl ?_
    refine q_seq ?_
    refine p_ret rfl ?_
    refine t_seq_ret ?_
    have ha' : a = none := by simpa using h4
    have hl : l = [] := List.eq_nil_of_length_eq_zero (ha ha')
    subst hl
    refine fin_ret (none, 0) (vs := [_]) (Cs := []) rfl (.tmp rfl .nil) rfl trivial ?_
    exact row_nil
  · -- t4 False
    refine p_skip rfl ?_
    refine t_seq ?_
    refine p_seq rfl ?_
    refine p_region rfl ?_
    refine r_buildSliceL [] (cs := []) Try.underlying46 ti9 rfl rfl rfl rfl rfl rfl rfl rfl (fun b5 => ?_)
    refine wo_pv (pv_move rfl) rfl ?_
    refine wo_ent' (ent_row (k := 0) (cap := 0) (sz := 1) (e := 9) (g := b5) (xs := []) (cur := []) (Nat.le_refl _) (by simp [maxLen]) rfl rfl rfl) ?_
    refine wo_opT (by intro c; simp) (opt_appendA Try.underlying46 ti9 rfl rfl rfl rfl rfl rfl rfl sh (by simp) (by simp [oneCell]) (by omega) (by simp only [maxLen]; omega) (k := 0) (xs := []) (sz := 1) (bytes := 16)) rfl (fun x7 ⟨a7, c7, h7⟩ => ?_)
    subst h7
    rw [Nat.zero_add, List.nil_append]
    refine wo_pv (pv_assign rfl) rfl ?_
    refine q_seq ?_
    refine p_ret rfl ?_
    refine fin_ret (a7, c7) (vs := [_]) (Cs := []) rfl (.tmp rfl .nil) rfl trivial ?_
    exact ent_pick

/-- The functions that walk a slice. -/
theorem slices_All_sp (a : Option Addr) (n c : Nat) : Sp Try.prog 75 [.slice a n c] [] (X := Nat) (fun b => .func (.func 86) #[] #[.pointer (some ⟨b, 0, none⟩)]) (fun _ => True) (fun b => [Ce b 46 [.slice a n c]]) := by
  refine Sp.body (n := 4) Try.call75 Try.func75 rfl rfl rfl ?_
  refine p_seq rfl ?_
  refine p_region rfl ?_
  refine wo_box (vs := [_]) rfl rfl rfl (fun b1 => ?_)
  refine wo_pv (pv_assign rfl) rfl ?_
  refine q_seq ?_
  refine p_seq rfl ?_
  refine p_region rfl ?_
  refine wo_pv (pv_makeFunc rfl rfl) rfl ?_
  refine wo_pv (pv_assign rfl) rfl ?_
  refine q_seq ?_
  refine p_ret rfl ?_
  refine fin_ret b1 (vs := [_]) (Cs := []) rfl (.tmp rfl .nil) rfl trivial ?_
  exact ent_pick
theorem slices_Values_sp (a : Option Addr) (n c : Nat) : Sp Try.prog 57 [.slice a n c] [] (X := Nat) (fun b => .func (.func 76) #[] #[.pointer (some ⟨b, 0, none⟩)]) (fun _ => True) (fun b => [Ce b 46 [.slice a n c]]) := by
  refine Sp.body (n := 4) Try.call57 Try.func57 rfl rfl rfl ?_
  refine p_seq rfl ?_
  refine p_region rfl ?_
  refine wo_box (vs := [_]) rfl rfl rfl (fun b1 => ?_)
  refine wo_pv (pv_assign rfl) rfl ?_
  refine q_seq ?_
  refine p_seq rfl ?_
  refine p_region rfl ?_
  refine wo_pv (pv_makeFunc rfl rfl) rfl ?_
  refine wo_pv (pv_assign rfl) rfl ?_
  refine q_seq ?_
  refine p_ret rfl ?_
  refine fin_ret b1 (vs := [_]) (Cs := []) rfl (.tmp rfl .nil) rfl trivial ?_
  exact ent_pick

theorem get_mapD {α : Type} {f : α → Value} {l : List α} {m : Nat} (d : α) (h : m < l.length) : (l.map f)[m]? = some (f (l.getD m d)) := by simp [h]
/-- How far a walk over a slice has come. -/
abbrev okR (n : Nat) : List Nat → Nat → Prop := fun pre i => i = pre.length ∧ i < n
abbrev stopR (n : Nat) : List Nat → Prop := fun pre => ∃ m, 0 < m ∧ m ≤ n ∧ pre = List.range m
theorem slices_All_it {B : HP} {a : Option Addr} (n c b : Nat) (l : List (List UInt8)) (sh : SlA B a (l.map vS)) (hn : l.length = n) (hb : n ≤ 140737488355328) :
    Iter Try.prog 86 [.pointer (some ⟨b, 0, none⟩)] (fun i : Nat => [vI i, vS (l.getD i [])]) (okR n) (stopR n) [Ce b 46 [.slice a n c], B] [Ce b 46 [.slice a n c], B] (List.range n) (fun _ => .tuple #[]) := by
  intro y J Jx ys
  subst hn
  haveI : RdSl a (l.map vS) [B] := ⟨⟨B, sh, .here⟩⟩
  refine Sp.body (n := 18) Try.call86 Try.func86 rfl rfl rfl ?_
  refine p_seq rfl ?_
  refine p_region rfl ?_
  refine r_load Try.underlying46 rfl rfl rfl rfl ?_
  refine wo_pv (pv_call_len_sl Try.underlying46 rfl) rfl ?_
  refine wo_pv (pv_move rfl) rfl ?_
  refine q_seq ?_
  refine p_block 0 rfl ?_
  refine p_loop (fun (i : { j : Nat // j ≤ l.length }) => [(0, y), (5, .slice a l.length c), (6, vI l.length), (7, vI i.1)]) (fun (i : { j : Nat // j ≤ l.length }) => [J (List.range i.1), Ce b 46 [.slice a l.length c], B]) (fun (i : { j : Nat // j ≤ l.length }) => l.length - i.1) rfl (⟨0, Nat.zero_le _⟩) ?_ ?_ (fun i => ?_)
  · exact ⟨rfl, rfl, rfl, rfl, trivial⟩
  · -- H at start
    exact Ent.refl _
  obtain ⟨j, hj⟩ := i
  try dsimp only
  refine p_seq rfl ?_
  refine p_region rfl ?_
  refine wo_pv (pv_lss rfl rfl) rfl ?_
  refine q_seq ?_
  refine p_seq rfl ?_
  first | refine p_ite rfl rfl (fun h8 => ?_) (fun h8 => ?_) | refine p_cond rfl rfl (fun h8 => ?_) (fun h8 => ?_)
  · -- t8 True
    refine p_skip rfl ?_
    refine t_seq ?_
    refine p_seq rfl ?_
    refine p_block 1 rfl ?_
    refine p_seq rfl ?_
    refine p_region rfl ?_
    refine wo_pv (pv_move rfl) rfl ?_
    refine r_elemAddr (sz := 1) Try.underlying46 ti9 rfl rfl rfl rfl (by omega) (by first | (rw [List.length_map]; omega) | (rw [flat_len (sz := 1) (fun _ => rfl)]; omega) | (simp; omega)) (Nat.mul_one _) rfl ?_
    refine r_eload Try.underlying9 rfl rfl (get_mapD [] (by omega)) rfl ?_
    refine wo_pv (pv_assign rfl) rfl ?_
    refine wo_pv (pv_assign rfl) rfl ?_
    refine q_seq ?_
    refine p_seq rfl ?_
    refine p_region rfl ?_
    refine wo_pv (pv_move rfl) rfl ?_
    refine wo_pv (pv_move rfl) rfl ?_
    refine wo_pv (pv_move rfl) rfl ?_
    refine r_yield ys (List.range j) j ⟨by simp, by omega⟩ rfl rfl rfl ?_ ?_
    · -- t15 True
      refine wo_pv (by first | exact pv_notd rfl | exact pv_not rfl) rfl ?_
      refine q_seq ?_
      refine p_false rfl rfl ?_
      refine p_skip rfl ?_
      refine to_block ?_
      refine t_seq ?_
      refine p_region rfl ?_
      refine wo_pv (pv_add rfl rfl (by omega)) rfl ?_
      refine wo_pv (pv_move rfl) rfl ?_
      refine wo_nil ?_
      refine to_inv ⟨j + 1, by omega⟩ ?_ ⟨rfl, rfl, rfl, rfl, trivial⟩ ?_
      · dsimp only; omega
      · rw [List.range_succ]; exact ent_pick
    · -- t15 False
      refine wo_pv (by first | exact pv_notd rfl | exact pv_not rfl) rfl ?_
      refine q_seq ?_
      refine p_true rfl rfl ?_
      refine p_ret rfl ?_
      refine to_block_ret ?_
      refine t_seq_ret ?_
      refine to_inv_ret ?_
      refine to_block_ret ?_
      refine fin_ret (some (List.range (j + 1))) (vs := []) (Cs := []) rfl .nil rfl (fun pre e => by cases e; exact ⟨j + 1, by omega, by omega, rfl⟩) ?_
      simp only [endsAt]
      rw [List.range_succ]
      exact ent_pick
  · -- t8 False
    refine p_exit 0 rfl ?_
    refine t_seq_exit ?_
    refine to_inv_exit ?_
    refine to_block_here ?_
    have hj2 : j = l.length := by omega
    subst hj2
    refine fin_end none (vs := []) (Cs := []) rfl .nil rfl (fun pre e => by cases e) ?_
    simp only [endsAt]
    exact ent_pick
theorem slices_Values_it {B : HP} {a : Option Addr} (n c b : Nat) (l : List (List UInt8)) (sh : SlA B a (l.map vS)) (hn : l.length = n) (hb : n ≤ 140737488355328) :
    Iter Try.prog 76 [.pointer (some ⟨b, 0, none⟩)] (fun i : Nat => [vS (l.getD i [])]) (okR n) (stopR n) [Ce b 46 [.slice a n c], B] [Ce b 46 [.slice a n c], B] (List.range n) (fun _ => .tuple #[]) := by
  intro y J Jx ys
  subst hn
  haveI : RdSl a (l.map vS) [B] := ⟨⟨B, sh, .here⟩⟩
  refine Sp.body (n := 16) Try.call76 Try.func76 rfl rfl rfl ?_
  refine p_seq rfl ?_
  refine p_region rfl ?_
  refine r_load Try.underlying46 rfl rfl rfl rfl ?_
  refine wo_pv (pv_call_len_sl Try.underlying46 rfl) rfl ?_
  refine wo_pv (pv_move rfl) rfl ?_
  refine q_seq ?_
  refine p_block 0 rfl ?_
  refine p_loop (fun (i : { j : Nat // j ≤ l.length }) => [(0, y), (5, .slice a l.length c), (6, vI l.length), (7, vI i.1)]) (fun (i : { j : Nat // j ≤ l.length }) => [J (List.range i.1), Ce b 46 [.slice a l.length c], B]) (fun (i : { j : Nat // j ≤ l.length }) => l.length - i.1) rfl (⟨0, Nat.zero_le _⟩) ?_ ?_ (fun i => ?_)
  · exact ⟨rfl, rfl, rfl, rfl, trivial⟩
  · -- H at start
    exact Ent.refl _
  obtain ⟨j, hj⟩ := i
  try dsimp only
  refine p_seq rfl ?_
  refine p_region rfl ?_
  refine wo_pv (pv_lss rfl rfl) rfl ?_
  refine q_seq ?_
  refine p_seq rfl ?_
  first | refine p_ite rfl rfl (fun h8 => ?_) (fun h8 => ?_) | refine p_cond rfl rfl (fun h8 => ?_) (fun h8 => ?_)
  · -- t8 True
    refine p_skip rfl ?_
    refine t_seq ?_
    refine p_seq rfl ?_
    refine p_block 1 rfl ?_
    refine p_seq rfl ?_
    refine p_region rfl ?_
    refine r_elemAddr (sz := 1) Try.underlying46 ti9 rfl rfl rfl rfl (by omega) (by first | (rw [List.length_map]; omega) | (rw [flat_len (sz := 1) (fun _ => rfl)]; omega) | (simp; omega)) (Nat.mul_one _) rfl ?_
    refine r_eload Try.underlying9 rfl rfl (get_mapD [] (by omega)) rfl ?_
    refine wo_pv (pv_assign rfl) rfl ?_
    refine q_seq ?_
    refine p_seq rfl ?_
    refine p_region rfl ?_
    refine wo_pv (pv_move rfl) rfl ?_
    refine wo_pv (pv_move rfl) rfl ?_
    refine r_yield ys (List.range j) j ⟨by simp, by omega⟩ rfl rfl rfl ?_ ?_
    · -- t13 True
      refine wo_pv (by first | exact pv_notd rfl | exact pv_not rfl) rfl ?_
      refine q_seq ?_
      refine p_false rfl rfl ?_
      refine p_skip rfl ?_
      refine to_block ?_
      refine t_seq ?_
      refine p_region rfl ?_
      refine wo_pv (pv_add rfl rfl (by omega)) rfl ?_
      refine wo_pv (pv_move rfl) rfl ?_
      refine wo_nil ?_
      refine to_inv ⟨j + 1, by omega⟩ ?_ ⟨rfl, rfl, rfl, rfl, trivial⟩ ?_
      · dsimp only; omega
      · rw [List.range_succ]; exact ent_pick
    · -- t13 False
      refine wo_pv (by first | exact pv_notd rfl | exact pv_not rfl) rfl ?_
      refine q_seq ?_
      refine p_true rfl rfl ?_
      refine p_ret rfl ?_
      refine to_block_ret ?_
      refine t_seq_ret ?_
      refine to_inv_ret ?_
      refine to_block_ret ?_
      refine fin_ret (some (List.range (j + 1))) (vs := []) (Cs := []) rfl .nil rfl (fun pre e => by cases e; exact ⟨j + 1, by omega, by omega, rfl⟩) ?_
      simp only [endsAt]
      rw [List.range_succ]
      exact ent_pick
  · -- t8 False
    refine p_exit 0 rfl ?_
    refine t_seq_exit ?_
    refine to_inv_exit ?_
    refine to_block_here ?_
    have hj2 : j = l.length := by omega
    subst hj2
    refine fin_end none (vs := []) (Cs := []) rfl .nil rfl (fun pre e => by cases e) ?_
    simp only [endsAt]
    exact ent_pick
end Go.Proofs.Ytimafngkifakfaa
