/- Package store: Open. -/
import Derived.Test.YtimafngkifakfaaSStore4
set_option linter.unusedVariables false
set_option maxRecDepth 100000
set_option linter.unusedSimpArgs false
namespace Go.Proofs.Ytimafngkifakfaa
theorem store_Open_sp (p : Nat) (D : Dk) : Sp Try.prog 9 [.pointer (some ⟨p, 0, none⟩)] [IsD p D] (X := Nat) (fun s => .pointer (some ⟨s, 0, none⟩)) (fun _ => True) (fun s => [IsS s p (openJ D) (openK (openJ D).l), IsD p D]) := by
  refine Sp.body (n := 28) Try.call9 Try.func9 rfl rfl rfl ?_
  refine wc_know (A := IsD p D) .here ok_len (fun ok => ?_)
  have hm := ok.many
  have hj := scanS_end D.secs 0 [] [] 0 (Nat.le_refl _) (Nat.le_refl _)
  have hjl : (openJ D).l.length ≤ 2000 := by show (scanS D.secs 0 [] [] 0).1.length ≤ 2000; omega
  have htl : ∀ t ∈ (openJ D).l, t.length ≤ 60000 := scanS_len D.secs 0 [] [] 0 60000 (by simp; omega) (by simp)
  generalize hJ : openJ D = J at *
  refine p_seq rfl ?_
  refine p_region rfl ?_
  refine wo_pv (pv_assign rfl) rfl ?_
  refine q_seq ?_
  refine p_seq rfl ?_
  refine p_region rfl ?_
  refine wo_pv (pv_move rfl) rfl ?_
  refine r_callX (journal_Open_sp p D) rfl rfl rfl (fun q _ => ?_)
  rw [hJ]
  refine r_mkmap rfl (fun b9 => ?_)
  refine wo_pv (pv_buildS (vs := [_, _]) Try.underlying79 ti79 rfl rfl rfl rfl rfl) rfl ?_
  refine wo_box (vs := [_, _]) rfl rfl rfl (fun b11 => ?_)
  refine wo_alloc (zs := [.pointer none]) ti24 rfl rfl rfl (fun b3 => ?_)
  refine r_store ti24 rfl rfl rfl rfl (by simp; try omega) ?_
  refine q_seq ?_
  refine p_seq rfl ?_
  refine p_seq rfl ?_
  refine p_region rfl ?_
  refine r_load Try.underlying24 rfl rfl rfl rfl ?_
  refine wo_pv (by first | exact pv_nilCheck_p rfl | exact pv_nilCheck_f rfl) rfl ?_
  refine wo_pv (pv_fieldAddrk Try.underlying79 rfl ti65 rfl rfl (k := 0) rfl (by first | exact Nat.zero_add _ | exact Nat.add_zero _ | exact rfl)) rfl ?_
  refine r_load Try.underlying65 rfl rfl rfl rfl ?_
  refine r_callX (journal_All_sp q p J (by omega)) rfl rfl rfl (fun x16 _ => ?_)
  refine q_seq ?_
  refine p_block 0 rfl ?_
  refine p_rangeFunc (fun pre => [Ce b3 24 [.pointer (some ⟨b11, 0, none⟩)], Ce b11 79 [.pointer (some ⟨q, 0, none⟩), .map (some b9)], MapS b9 (openK (J.l.take pre.length)), IsJ q p J, IsD p D]) (fun j pre => [Pu False]) rfl (slices_Values_it (B := SlI x16.2.1 (J.l.map vS)) J.l.length x16.2.2 x16.1 J.l sla_sli rfl (by omega)) rfl (fun _ => by rfl) rfl ?_ (fun l pre i hok => ?_) ?_ (fun j pre hs => ?_)
  · (refine ent_app ?_; simp only [List.length_nil, List.take_zero]; rw [show openK [] = [] from rfl]; exact ent_pick)
  · -- a round
    obtain ⟨hi, hlt⟩ := hok
    have hsu := openK_succ hlt
    have hil : (J.l.getD i []).length ≤ 60000 := by
      have e : J.l.getD i [] = J.l[i] := by simp [hlt]
      rw [e]; exact htl _ (List.getElem_mem _)
    rw [← hi]
    refine p_region rfl ?_
    refine wo_pv (pv_assign rfl) rfl ?_
    refine q_asg ?_
    refine p_block 1 rfl ?_
    refine p_seq rfl ?_
    refine p_region rfl ?_
    refine wo_pv (pv_move rfl) rfl ?_
    refine r_callX (store_Read_sp (J.l.getD i []) (by omega)) rfl rfl rfl (fun x20 _ => ?_)
    refine wo_frz x20.1 ?_
    refine wo_pv (pv_move rfl) rfl ?_
    refine wo_pv (pv_extract rfl rfl) rfl ?_
    refine wo_pv (pv_extract rfl rfl) rfl ?_
    refine wo_pv (pv_assign rfl) rfl ?_
    refine wo_pv (pv_assign rfl) rfl ?_
    refine q_seq ?_
    refine p_seq rfl ?_
    refine p_region rfl ?_
    refine wo_pv (pv_move rfl) rfl ?_
    refine q_seq ?_
    first | refine p_ite rfl rfl (fun h23 => ?_) (fun h23 => ?_) | refine p_cond rfl rfl (fun h23 => ?_) (fun h23 => ?_)
    · -- t23 True
      refine p_region rfl ?_
      refine r_load Try.underlying24 rfl rfl rfl rfl ?_
      refine wo_pv (pv_move rfl) rfl ?_
      refine r_call1 (store_do_sp (B := SlI x20.1 (((readR (J.l.getD i [])).getD []).flatMap rowC)) b11 b9 ((readR (J.l.getD i [])).getD []).length x20.2 (.pointer (some ⟨q, 0, none⟩)) (openK (J.l.take i)) ((readR (J.l.getD i [])).getD []) sla_sli rfl (by have := readR_len (J.l.getD i []); omega)) rfl rfl rfl ?_
      refine wo_nil ?_
      refine to_block ?_
      refine to_round ?_
      rw [List.length_append, List.length_singleton, ← hi, hsu]
      first
      | exact ent_pick
      | (have hn : readR (J.l.getD i []) = none := by cases e : readR (J.l.getD i []) with
           | none => rfl
           | some l => rw [e] at h23; simp at h23
         rw [hn]
         show Ent _ [Ce b3 24 [.pointer (some ⟨b11, 0, none⟩)], Ce b11 79 [.pointer (some ⟨q, 0, none⟩), .map (some b9)], MapS b9 (openK (J.l.take i)), IsJ q p J, IsD p D]
         exact ent_pick)
    · -- t23 False
      refine p_skip rfl ?_
      refine to_block ?_
      refine to_round ?_
      rw [List.length_append, List.length_singleton, ← hi, hsu]
      first
      | exact ent_pick
      | (have hn : readR (J.l.getD i []) = none := by cases e : readR (J.l.getD i []) with
           | none => rfl
           | some l => rw [e] at h23; simp at h23
         rw [hn]
         show Ent _ [Ce b3 24 [.pointer (some ⟨b11, 0, none⟩)], Ce b11 79 [.pointer (some ⟨q, 0, none⟩), .map (some b9)], MapS b9 (openK (J.l.take i)), IsJ q p J, IsD p D]
         exact ent_pick)
  · -- behind
    skip
    refine to_block ?_
    refine t_seq ?_
    refine p_seq rfl ?_
    refine p_region rfl ?_
    refine r_load Try.underlying24 rfl rfl rfl rfl ?_
    refine wo_pv (pv_assign rfl) rfl ?_
    refine q_seq ?_
    refine p_ret rfl ?_
    refine fin_ret b11 (vs := [_]) (Cs := []) rfl (.tmp rfl .nil) rfl trivial ?_
    rw [List.length_range, List.take_length]
    exact ent_step (fold_isS q b9 rfl rfl rfl) ent_pick
  · -- stopped
    exact wc_no (fun s => by obtain ⟨_, _, _, _, a, _⟩ := s; exact a)
end Go.Proofs.Ytimafngkifakfaa
