/- Package store: Commit. -/
import Derived.Test.YtimafngkifakfaaSStore5
set_option linter.unusedVariables false
set_option maxRecDepth 100000
set_option linter.unusedSimpArgs false
namespace Go.Proofs.Ytimafngkifakfaa
def mayB (r : Rw) : Bool := decide (r.key ≠ [] ∧ r.key.length ≤ 60)
def commitS (J : Jn) (ks : Ks) (D : Dk) (l : List Rw) : Jn × Ks × Dk × Nat :=
  if l.all mayB = false then (J, ks, D, 1) else
    ((commitJ J D (textOf l)).1, (if (commitJ J D (textOf l)).2.2 = 0 then doR ks l else ks), (commitJ J D (textOf l)).2.1, (commitJ J D (textOf l)).2.2)
theorem store_Commit_sp {B : HP} {a : Option Addr} (s p n c : Nat) (J : Jn) (ks : Ks) (D : Dk) (l : List Rw) (sh : SlA B a (l.flatMap rowC)) (hn : l.length = n) (hb : n ≤ 140737488355328)
    (hk : ∀ r ∈ l, r.key.length ≤ 1073741824 ∧ r.val.length ≤ 1073741824) (ht : (textOf l).length ≤ 4398046511104) (hl : -1152921504606846976 ≤ D.left ∧ D.left ≤ 9223372036854775807) (he : J.e ≤ 1099511627776) (hjl : J.l.length ≤ 1099511627776) :
    Sp1 Try.prog 10 [.pointer (some ⟨s, 0, none⟩), .slice a n c] [IsS s p J ks, IsD p D, B] (vI (commitS J ks D l).2.2.2) [IsS s p (commitS J ks D l).1 (commitS J ks D l).2.1, IsD p (commitS J ks D l).2.2.1, B] := by
  subst hn
  haveI : RdSl a (l.flatMap rowC) [B] := ⟨⟨B, sh, .here⟩⟩
  refine Sp.body (n := 32) Try.call10 Try.func10 rfl rfl rfl ?_
  refine wc_exi fun q => wc_exi fun b => wc_al ?_
  refine p_seq rfl ?_
  refine p_region rfl ?_
  refine wo_pv (pv_assign rfl) rfl ?_
  refine q_seq ?_
  refine p_seq rfl ?_
  refine p_seq rfl ?_
  refine p_region rfl ?_
  refine wo_pv (pv_move rfl) rfl ?_
  refine wo_pv (pv_call_len_sl Try.underlying38 rfl) rfl ?_
  refine wo_pv (pv_move rfl) rfl ?_
  refine q_seq ?_
  refine p_block 0 rfl ?_
  refine p_loop (fun (i : { j : Nat // j ≤ l.length ∧ (l.take j).all mayB = true }) => [(0, .pointer (some ⟨s, 0, none⟩)), (1, .slice a l.length c), (8, .slice a l.length c), (9, vI l.length), (10, vI i.1)]) (fun (i : { j : Nat // j ≤ l.length ∧ (l.take j).all mayB = true }) => [Ce s 79 [.pointer (some ⟨q, 0, none⟩), .map (some b)], IsJ q p J, MapS b ks, IsD p D, B]) (fun (i : { j : Nat // j ≤ l.length ∧ (l.take j).all mayB = true }) => l.length - i.1) rfl (⟨0, Nat.zero_le _, rfl⟩) ?_ ?_ (fun i => ?_)
  · exact ⟨rfl, rfl, rfl, rfl, rfl, trivial⟩
  · -- H at start
    exact ent_pick
  obtain ⟨j, hj, hw⟩ := i
  try dsimp only
  refine p_seq rfl ?_
  refine p_region rfl ?_
  refine wo_pv (pv_lss rfl rfl) rfl ?_
  refine q_seq ?_
  refine p_seq rfl ?_
  first | refine p_ite rfl rfl (fun h11 => ?_) (fun h11 => ?_) | refine p_cond rfl rfl (fun h11 => ?_) (fun h11 => ?_)
  · -- t11 True
    refine p_skip rfl ?_
    refine t_seq ?_
    refine p_seq rfl ?_
    refine p_block 1 rfl ?_
    refine p_seq rfl ?_
    have hjlt : j < l.length := by omega
    refine p_region rfl ?_
    refine r_elemAddr (sz := 3) Try.underlying38 ti29 rfl rfl rfl rfl (by omega) (by first | (rw [List.length_map]; omega) | (rw [flat_len (sz := 3) (fun _ => rfl)]; omega) | (simp; omega)) rfl rfl ?_
    refine r_eloada (vs := [_, _, _]) (sz := 3) Try.underlying29 rfl ti29 rfl rfl (by rw [flat_len (sz := 3) (fun _ => rfl)]; omega) rfl (by refine get_flat (fun x => ?_) ?_ <;> first | rfl | omega) rfl ?_
    refine wo_alloc (zs := [vS [], vS [], .bool false]) ti29 rfl rfl rfl (fun b6 => ?_)
    refine r_storea ti29 rfl rfl rfl rfl (by simp; try omega) ?_
    refine q_seq ?_
    refine p_seq rfl ?_
    refine p_region rfl ?_
    refine wo_pv (pv_fieldAddrk Try.underlying29 rfl ti9 rfl rfl (k := 0) rfl (by first | exact Nat.zero_add _ | exact Nat.add_zero _ | exact rfl)) rfl ?_
    refine r_load Try.underlying9 rfl rfl rfl rfl ?_
    refine r_callF (store_may_sp l[j].key) rfl rfl rfl ?_
    refine wo_pv (by first | exact pv_notd rfl | exact pv_not rfl) rfl ?_
    refine q_seq ?_
    first | refine p_ite rfl rfl (fun h17 => ?_) (fun h17 => ?_) | refine p_cond rfl rfl (fun h17 => ?_) (fun h17 => ?_)
    · -- t17 True
      refine p_seq rfl ?_
      refine p_region rfl ?_
      refine wo_pv (pv_assign rfl) rfl ?_
      refine q_seq ?_
      refine p_ret rfl ?_
      refine to_block_ret ?_
      refine t_seq_ret ?_
      refine to_inv_ret ?_
      refine to_block_ret ?_
      refine t_seq_ret ?_
      have hn : commitS J ks D l = (J, ks, D, 1) := by
        have hb2 : l.all mayB = false := by
          cases e : l.all mayB with
          | false => rfl
          | true =>
            have := List.all_eq_true.1 e l[j] (List.getElem_mem _)
            exact absurd (of_decide_eq_true this) h17
        rw [commitS, if_pos hb2]
      rw [hn]
      refine fin_ret () (vs := [_]) (Cs := []) rfl (.tmp rfl .nil) rfl trivial ?_
      exact ent_step (fold_isS q b rfl rfl rfl) ent_pick
    · -- t17 False
      refine p_skip rfl ?_
      refine to_block ?_
      refine t_seq ?_
      refine p_region rfl ?_
      refine wo_pv (pv_add rfl rfl (by omega)) rfl ?_
      refine wo_pv (pv_move rfl) rfl ?_
      refine wo_nil ?_
      refine to_inv ⟨j + 1, by omega, ?_⟩ (by dsimp only; omega) ⟨rfl, rfl, rfl, rfl, rfl, trivial⟩ ent_pick
      rw [List.take_succ_eq_append_getElem hjlt, List.all_append, hw]
      have hm : mayB l[j] = true := by
        have h17' := h17
        simp only [Classical.not_not] at h17'
        exact decide_eq_true h17'
      simp [hm]
  · -- t11 False
    refine p_exit 0 rfl ?_
    refine t_seq_exit ?_
    refine to_inv_exit ?_
    refine to_block_here ?_
    refine t_seq ?_
    refine p_seq rfl ?_
    have hjl2 : j = l.length := by omega
    subst hjl2
    rw [List.take_length] at hw
    have hcs : commitS J ks D l = ((commitJ J D (textOf l)).1, (if (commitJ J D (textOf l)).2.2 = 0 then doR ks l else ks), (commitJ J D (textOf l)).2.1, (commitJ J D (textOf l)).2.2) := by
      rw [commitS, if_neg (by rw [hw]; simp)]
    rw [hcs]
    refine d_draw rfl rfl rfl [Ce s 79 [.pointer (some ⟨q, 0, none⟩), .map (some b)]] ?_
    refine d_first 0 rfl rfl rfl (by kernel_rfl) (by kernel_rfl) (tl_pv (pv_move rfl)) ?_
    refine d_first 1 rfl rfl rfl (by kernel_rfl) (by kernel_rfl) (tl_pv (by first | exact pv_nilCheck_p rfl | exact pv_nilCheck_f rfl)) ?_
    refine d_first 2 rfl rfl rfl (by kernel_rfl) (by kernel_rfl) (tl_pv (pv_fieldAddrk Try.underlying79 rfl ti65 rfl rfl (k := 0) rfl (by first | exact Nat.zero_add _ | exact Nat.add_zero _ | exact rfl))) ?_
    refine d_first 3 rfl rfl rfl (by kernel_rfl) (by kernel_rfl) (tl_load Try.underlying65 rfl rfl rfl) ?_
    refine d_first 4 rfl rfl rfl (by kernel_rfl) (by kernel_rfl) (tl_pv (pv_move rfl)) ?_
    refine d_next 5 (by kernel_rfl) rfl ?_
    refine an_call1 (store_Text_sp l.length c l sh rfl hb hk ht) rfl rfl rfl ?_
    refine d_next 6 (by kernel_rfl) rfl ?_
    refine an_call1 (journal_Commit_sp q p J D (textOf l) ht hl he hjl) rfl rfl rfl ?_
    refine d_first 7 rfl rfl rfl (by kernel_rfl) (by kernel_rfl) (tl_pv (pv_assign rfl)) ?_
    refine d_done (by kernel_rfl) ?_
    refine t_seq ?_
    refine p_seq rfl ?_
    refine p_seq rfl ?_
    refine p_region rfl ?_
    refine wo_pv (pv_move rfl) rfl ?_
    refine wo_pv (pv_eql rfl rfl) rfl ?_
    refine q_seq ?_
    first | refine p_ite rfl rfl (fun h27 => ?_) (fun h27 => ?_) | refine p_cond rfl rfl (fun h27 => ?_) (fun h27 => ?_)
    · -- t27 True
      refine p_region rfl ?_
      refine wo_pv (pv_move rfl) rfl ?_
      refine wo_pv (pv_move rfl) rfl ?_
      refine r_call1 (store_do_sp (B := B) s b l.length c (.pointer (some ⟨q, 0, none⟩)) ks l sh rfl hb) rfl rfl rfl ?_
      refine q_seq ?_
      refine p_seq rfl ?_
      refine p_region rfl ?_
      refine wo_pv (pv_move rfl) rfl ?_
      refine wo_pv (pv_assign rfl) rfl ?_
      refine q_seq ?_
      refine p_ret rfl ?_
      refine fin_ret () (vs := [_]) (Cs := []) rfl (.tmp rfl .nil) rfl trivial ?_
      first
      | (rw [if_pos (by omega)]; exact ent_step (fold_isS q b rfl rfl rfl) ent_pick)
      | (rw [if_neg (by omega)]; exact ent_step (fold_isS q b rfl rfl rfl) ent_pick)
    · -- t27 False
      refine p_skip rfl ?_
      refine t_seq ?_
      refine p_seq rfl ?_
      refine p_region rfl ?_
      refine wo_pv (pv_move rfl) rfl ?_
      refine wo_pv (pv_assign rfl) rfl ?_
      refine q_seq ?_
      refine p_ret rfl ?_
      refine fin_ret () (vs := [_]) (Cs := []) rfl (.tmp rfl .nil) rfl trivial ?_
      first
      | (rw [if_pos (by omega)]; exact ent_step (fold_isS q b rfl rfl rfl) ent_pick)
      | (rw [if_neg (by omega)]; exact ent_step (fold_isS q b rfl rfl rfl) ent_pick)
end Go.Proofs.Ytimafngkifakfaa
