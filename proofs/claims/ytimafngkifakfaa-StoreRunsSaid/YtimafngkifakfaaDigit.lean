/- Package digit: decimals. -/
import Derived.Test.YtimafngkifakfaaBridge
import Derived.Test.YtimafngkifakfaaTypes
import Derived.Test.YtimafngkifakfaaMDec
set_option linter.unusedVariables false
set_option maxRecDepth 100000
set_option linter.unusedSimpArgs false
namespace Go.Proofs.Ytimafngkifakfaa

theorem digit_may_sp (n : Int) : SpF Try.prog 62 [vI n] (vB (decide (0 ≤ n ∧ n ≤ 1073741824))) := by
  refine Sp.body (n := 9) Try.call62 Try.func62 rfl rfl rfl ?_
  refine p_seq rfl ?_
  refine p_region rfl ?_
  refine wo_pv (pv_assign rfl) rfl ?_
  refine q_seq ?_
  refine p_seq rfl ?_
  refine p_region rfl ?_
  refine wo_pv (pv_move rfl) rfl ?_
  refine wo_pv (pv_geq rfl rfl) rfl ?_
  refine wo_pv (pv_move rfl) rfl ?_
  first | refine wo_gite (j := 2) rfl rfl (fun h5 => ?_) (fun h5 => ?_) | refine wo_gsplit (j := 2) rfl rfl (fun h5 => ?_) (fun h5 => ?_)
  · -- t5 True
    refine wo_in (b := true) rfl ?_
    refine wo_pv (pv_move rfl) rfl ?_
    refine wo_in (b := true) rfl ?_
    refine wo_pv (pv_leq rfl rfl) rfl ?_
    refine wo_pv (pv_pick_t rfl rfl) rfl ?_
    refine wo_pv (pv_assign rfl) rfl ?_
    refine q_seq ?_
    refine p_ret rfl ?_
    refine fin_ret () (vs := [_]) rfl (.tmp rfl .nil) ?_ trivial ent_nil
    simp [pack]; omega
  · -- t5 False
    refine wo_out (b := false) rfl rfl rfl ?_
    refine wo_out (b := false) rfl rfl rfl ?_
    refine wo_pv (pv_pick_f rfl rfl) rfl ?_
    refine wo_pv (pv_assign rfl) rfl ?_
    refine q_seq ?_
    refine p_ret rfl ?_
    refine fin_ret () (vs := [_]) rfl (.tmp rfl .nil) ?_ trivial ent_nil
    simp [pack]; omega

theorem wrap_dgt (m : Nat) : IntKind.u8.wrap (48 + (m : Int) % 10) = ((dgt m).toNat : Int) := by
  rw [dgt_toNat, IntWalk.u8_in _ (by omega)]; omega

theorem digit_Dec_sp (n : Nat) (h : n ≤ 1073741824) : SpF Try.prog 41 [vI n] (vS (decN n)) := by
  refine Sp.body (n := 28) Try.call41 Try.func41 rfl rfl rfl ?_
  refine p_seq rfl ?_
  refine p_region rfl ?_
  refine wo_pv (pv_assign rfl) rfl ?_
  refine q_seq ?_
  refine p_seq rfl ?_
  refine p_seq rfl ?_
  refine p_region rfl ?_
  refine wo_pv (pv_move rfl) rfl ?_
  refine r_callF (digit_may_sp n) rfl rfl rfl ?_
  refine wo_pv (by first | exact pv_notd rfl | exact pv_not rfl) rfl ?_
  refine q_seq ?_
  first | refine p_ite rfl rfl (fun h6 => ?_) (fun h6 => ?_) | refine p_cond rfl rfl (fun h6 => ?_) (fun h6 => ?_)
  · -- t6 True
    exfalso; exact h6 ⟨by omega, by omega⟩
    --done
  · -- t6 False
    refine p_skip rfl ?_
    refine t_seq ?_
    refine p_seq rfl ?_
    refine p_region rfl ?_
    refine wo_pv (pv_move rfl) rfl ?_
    refine wo_pv (pv_rem rfl rfl (by omega)) rfl ?_
    refine wo_pv (pv_add rfl rfl (by omega)) rfl ?_
    refine wo_pv (pv_conv rfl Try.underlying3 Try.underlying5) rfl ?_
    refine r_buildSliceL [_] (cs := [_]) Try.underlying44 ti5 rfl rfl rfl rfl rfl rfl rfl rfl (fun b11 => ?_)
    refine r_b2s (l := [dgt n]) Try.underlying44 Try.underlying9 Try.underlying5 rfl (by simp [vUs, wrap_dgt]) (by simp) rfl ?_
    refine wo_pv (pv_assign rfl) rfl ?_
    refine q_seq ?_
    refine p_seq rfl ?_
    refine p_seq rfl ?_
    refine p_region rfl ?_
    refine wo_pv (pv_move rfl) rfl ?_
    refine wo_pv (pv_quo rfl rfl (by omega)) rfl ?_
    refine wo_pv (pv_assign rfl) rfl ?_
    refine q_seq ?_
    refine p_block 0 rfl ?_
    refine p_loop (fun (i : { p : Nat × List UInt8 // preN p.1 ++ p.2 = decN n ∧ p.1 ≤ n }) => [(0, vI i.1.1), (3, vS i.1.2)]) (fun (i : { p : Nat × List UInt8 // preN p.1 ++ p.2 = decN n ∧ p.1 ≤ n }) => []) (fun (i : { p : Nat × List UInt8 // preN p.1 ++ p.2 = decN n ∧ p.1 ≤ n }) => i.1.1) rfl (⟨(n / 10, [dgt n]), (decN_split n).symm, by dsimp only; omega⟩) ?_ ?_ (fun i => ?_)
    · exact ⟨rfl, rfl, trivial⟩
    · -- H at start
      exact ent_pick
    obtain ⟨⟨m, out⟩, hi, hm⟩ := i
    have hlen := decN_len n
    rw [← hi, List.length_append] at hlen
    dsimp only at hi hm hlen
    try dsimp only
    refine p_seq rfl ?_
    refine p_seq rfl ?_
    refine p_region rfl ?_
    refine wo_pv (pv_move rfl) rfl ?_
    refine wo_pv (pv_gtr rfl rfl) rfl ?_
    refine q_seq ?_
    first | refine p_ite rfl rfl (fun h16 => ?_) (fun h16 => ?_) | refine p_cond rfl rfl (fun h16 => ?_) (fun h16 => ?_)
    · -- t16 True
      refine p_skip rfl ?_
      refine t_seq ?_
      refine p_seq rfl ?_
      refine p_block 1 rfl ?_
      refine p_region rfl ?_
      refine wo_pv (pv_move rfl) rfl ?_
      refine wo_pv (pv_rem rfl rfl (by omega)) rfl ?_
      refine wo_pv (pv_add rfl rfl (by omega)) rfl ?_
      refine wo_pv (pv_conv rfl Try.underlying3 Try.underlying5) rfl ?_
      refine r_buildSliceL [_] (cs := [_]) Try.underlying44 ti5 rfl rfl rfl rfl rfl rfl rfl rfl (fun b23 => ?_)
      refine r_b2s (l := [dgt m]) Try.underlying44 Try.underlying9 Try.underlying5 rfl (by simp [vUs, wrap_dgt]) (by simp) rfl ?_
      refine wo_pv (pv_move rfl) rfl ?_
      refine wo_pv (pv_cat rfl rfl (by first | (simp only [List.length_append, List.length_take, List.length_drop, List.length_cons, List.length_nil]; omega) | (simp; try omega))) rfl ?_
      refine wo_pv (pv_assign rfl) rfl ?_
      refine wo_nil ?_
      refine to_block ?_
      refine t_seq ?_
      refine p_region rfl ?_
      refine wo_pv (pv_move rfl) rfl ?_
      refine wo_pv (pv_quo rfl rfl (by omega)) rfl ?_
      refine wo_pv (pv_assign rfl) rfl ?_
      refine wo_nil ?_
      refine to_inv ⟨(m / 10, dgt m :: out), ?_, ?_⟩ ?_ ⟨rfl, rfl, trivial⟩ ent_nil
      · rw [← hi, preN_pos (n := m) (by omega)]; simp
      · dsimp only; omega
      · dsimp only; omega
    · -- t16 False
      refine p_exit 0 rfl ?_
      refine t_seq_exit ?_
      refine to_inv_exit ?_
      refine to_block_here ?_
      refine t_seq ?_
      refine p_seq rfl ?_
      refine p_region rfl ?_
      refine wo_pv (pv_move rfl) rfl ?_
      refine wo_pv (pv_assign rfl) rfl ?_
      refine q_seq ?_
      refine p_ret rfl ?_
      have hm0 : m = 0 := by omega
      subst hm0
      refine fin_ret () (vs := [_]) rfl (.tmp rfl .nil) ?_ trivial ent_nil
      rw [← hi]; simp [pack, preN]
end Go.Proofs.Ytimafngkifakfaa
