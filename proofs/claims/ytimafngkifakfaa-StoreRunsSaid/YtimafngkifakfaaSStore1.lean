/- Package store: rows that are read, and written as a text. -/
import Derived.Test.YtimafngkifakfaaSStore0
set_option linter.unusedVariables false
set_option maxRecDepth 100000
set_option linter.unusedSimpArgs false
namespace Go.Proofs.Ytimafngkifakfaa

def rowG (o : Option (Rw × Bs)) : Rw := (o.map (·.1)).getD ⟨[], [], false⟩
def rowT (o : Option (Rw × Bs)) : Bs := (o.map (·.2)).getD []
theorem rowV_eq (o : Option (Rw × Bs)) : rowV o = .tuple #[.agg #[vS (rowG o).key, vS (rowG o).val, vB (rowG o).gone], vS (rowT o), vB o.isSome] := by
  cases o with
  | none => rfl
  | some p => obtain ⟨r, t⟩ := p; rfl
theorem store_Read_sp (s : List UInt8) (h : s.length ≤ 1099511627776) : Sp Try.prog 15 [vS s] [] (X := Option Addr × Nat) (fun x => .tuple #[.slice x.1 ((readR s).getD []).length x.2, vB (readR s).isSome]) (fun _ => True)
    (fun x => [Row 29 3 (.slice x.1 ((readR s).getD []).length x.2) ((readR s).getD []).length (((readR s).getD []).flatMap rowC)]) := by
  refine Sp.body (n := 24) Try.call15 Try.func15 rfl rfl rfl ?_
  refine p_seq rfl ?_
  refine p_region rfl ?_
  refine wo_pv (pv_assign rfl) rfl ?_
  refine wo_pv (pv_assign rfl) rfl ?_
  refine q_seq ?_
  refine p_seq rfl ?_
  refine p_region rfl ?_
  refine wo_pv (pv_assign rfl) rfl ?_
  refine q_seq ?_
  refine p_seq rfl ?_
  refine p_block 0 rfl ?_
  refine p_loop (fun (i : { p : (Option Addr × Nat) × List Rw × Bs // readR s = (readR p.2.2).map (p.2.1 ++ ·) ∧ p.2.1.length + p.2.2.length ≤ s.length }) => [(0, vS i.1.2.2), (4, .slice i.1.1.1 i.1.2.1.length i.1.1.2)]) (fun (i : { p : (Option Addr × Nat) × List Rw × Bs // readR s = (readR p.2.2).map (p.2.1 ++ ·) ∧ p.2.1.length + p.2.2.length ≤ s.length }) => [Row 29 3 (.slice i.1.1.1 i.1.2.1.length i.1.1.2) i.1.2.1.length (i.1.2.1.flatMap rowC)]) (fun (i : { p : (Option Addr × Nat) × List Rw × Bs // readR s = (readR p.2.2).map (p.2.1 ++ ·) ∧ p.2.1.length + p.2.2.length ≤ s.length }) => i.1.2.2.length) rfl (⟨((none, 0), [], s), by cases readR s <;> simp, by simp⟩) ?_ ?_ (fun i => ?_)
  · exact ⟨rfl, rfl, trivial⟩
  · -- H at start
    exact row_nil
  obtain ⟨⟨⟨a, c⟩, out, rs⟩, hi, hl⟩ := i
  dsimp only at hi hl
  try dsimp only
  refine p_seq rfl ?_
  refine p_seq rfl ?_
  refine p_region rfl ?_
  refine wo_pv (pv_move rfl) rfl ?_
  refine wo_pv (pv_sneq rfl rfl) rfl ?_
  refine q_seq ?_
  first | refine p_ite rfl rfl (fun h9 => ?_) (fun h9 => ?_) | refine p_cond rfl rfl (fun h9 => ?_) (fun h9 => ?_)
  · -- t9 True
    refine p_skip rfl ?_
    refine t_seq ?_
    refine p_block 1 rfl ?_
    refine p_seq rfl ?_
    have hrow := store_row_sp rs (by omega)
    rw [rowV_eq] at hrow
    refine p_region rfl ?_
    refine wo_pv (pv_move rfl) rfl ?_
    refine r_callF hrow rfl rfl rfl ?_
    refine wo_pv (pv_move rfl) rfl ?_
    refine wo_pv (pv_extract rfl rfl) rfl ?_
    refine wo_pv (pv_extract rfl rfl) rfl ?_
    refine wo_pv (pv_extract rfl rfl) rfl ?_
    refine wo_alloc (zs := [vS [], vS [], .bool false]) ti29 rfl rfl rfl (fun b5 => ?_)
    refine r_storea ti29 rfl rfl rfl rfl (by simp; try omega) ?_
    refine wo_pv (pv_assign rfl) rfl ?_
    refine wo_pv (pv_assign rfl) rfl ?_
    refine q_seq ?_
    refine p_seq rfl ?_
    refine p_seq rfl ?_
    refine p_region rfl ?_
    refine wo_pv (pv_move rfl) rfl ?_
    refine wo_pv (by first | exact pv_notd rfl | exact pv_not rfl) rfl ?_
    refine q_seq ?_
    first | refine p_ite rfl rfl (fun h17 => ?_) (fun h17 => ?_) | refine p_cond rfl rfl (fun h17 => ?_) (fun h17 => ?_)
    · -- t17 True
      refine p_seq rfl ?_
      refine p_region rfl ?_
      refine wo_pv (pv_assign rfl) rfl ?_
      refine wo_pv (pv_assign rfl) rfl ?_
      refine q_seq ?_
      refine p_ret rfl ?_
      refine t_seq_ret ?_
      refine to_block_ret ?_
      refine to_inv_ret ?_
      refine to_block_ret ?_
      refine t_seq_ret ?_
      have hn : rowR rs = none := by cases e : rowR rs with
        | none => rfl
        | some q => rw [e] at h17; simp at h17
      have hi2 := readR_none h9 hn
      rw [hi2] at hi
      have hi3 : readR s = none := hi
      rw [hi3]
      refine fin_ret (none, 0) (vs := [_, _]) (Cs := []) rfl (.tmp rfl (.tmp rfl .nil)) rfl trivial ?_
      exact ent_step row_nil ent_nil
    · -- t17 False
      refine p_skip rfl ?_
      refine t_seq ?_
      refine p_region rfl ?_
      refine wo_pv (pv_move rfl) rfl ?_
      refine r_loada (vs := [_, _, _]) Try.underlying29 rfl ti29 rfl (by exact Nat.le_of_ble_eq_true rfl) (by rfl) rfl ?_
      refine r_buildSliceL [_] (cs := [_, _, _]) Try.underlying38 ti29 rfl rfl rfl rfl rfl rfl rfl rfl (fun b20 => ?_)
      refine r_append1 (sz := 3) (bytes := 40) Try.underlying38 ti29 rfl rfl rfl rfl rfl rfl rfl (by rfl) (by rfl) (by omega) (by simp only [maxLen]; omega) rfl (fun a21 c21 => ?_)
      refine wo_pv (pv_move rfl) rfl ?_
      refine wo_pv (pv_assign rfl) rfl ?_
      refine wo_pv (pv_assign rfl) rfl ?_
      refine wo_nil ?_
      refine to_block ?_
      obtain ⟨q, hq⟩ : ∃ q, rowR rs = some q := by cases e : rowR rs with
        | none => rw [e] at h17; simp at h17
        | some q => exact ⟨q, rfl⟩
      obtain ⟨r, t⟩ := q
      have hlt := rowR_lt hq
      have hi2 := readR_some h9 hq
      rw [hq]
      refine to_inv ⟨((a21, c21), out ++ [r], t), ?_, ?_⟩ ?_ ⟨rfl, sl_eq (by simp), trivial⟩ ?_
      · rw [hi, hi2]; cases readR t <;> simp
      · simp only [List.length_append, List.length_singleton]; omega
      · exact hlt
      · simp only [List.flatMap_append, List.length_append, List.length_singleton]
        exact row_norm1 (by rfl) (by rfl)
  · -- t9 False
    refine p_exit 0 rfl ?_
    refine t_seq_exit ?_
    refine to_inv_exit ?_
    refine to_block_here ?_
    refine t_seq ?_
    refine p_seq rfl ?_
    refine p_region rfl ?_
    refine wo_pv (pv_move rfl) rfl ?_
    refine wo_pv (pv_assign rfl) rfl ?_
    refine wo_pv (pv_assign rfl) rfl ?_
    refine q_seq ?_
    refine p_ret rfl ?_
    have hrs : rs = [] := by simpa using h9
    subst hrs
    rw [readR_nil] at hi
    have hi3 : readR s = some out := by rw [hi]; simp
    rw [hi3]
    refine fin_ret (a, c) (vs := [_, _]) (Cs := []) rfl (.tmp rfl (.tmp rfl .nil)) rfl trivial ?_
    simp only [Option.getD_some]
    exact ent_pick
end Go.Proofs.Ytimafngkifakfaa
