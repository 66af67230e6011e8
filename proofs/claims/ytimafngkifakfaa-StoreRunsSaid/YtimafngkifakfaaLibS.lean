/- strings.Builder: its functions. -/
import Derived.Test.YtimafngkifakfaaRow1
set_option linter.unusedVariables false
set_option linter.unusedSimpArgs false
set_option maxRecDepth 100000
namespace Go.Proofs.Ytimafngkifakfaa
/-- A Builder that one has, with what it holds. -/
def IsB (p : Nat) (l : List UInt8) : HP := Ex fun q1 : Value => Ex fun q2 : Value => Al [Pu ((q1 = .pointer none ∨ q1 = .pointer (some ⟨p, 0, none⟩)) ∧ (l.length = 0 → q2 = .slice none 0 0)), Ce p 88 [q1, q2], Row 5 1 q2 l.length (vUs l)]

theorem copyCheck_nil (p : Nat) (v : Value) : Sp1 Try.prog 61 [.pointer (some ⟨p, 0, none⟩)] [Ce p 88 [.pointer none, v]] (.tuple #[]) [Ce p 88 [.pointer (some ⟨p, 0, none⟩), v]] := by
  refine Sp.body (n := 20) Try.call61 Try.func61 rfl rfl rfl ?_
  refine p_seq rfl ?_
  refine p_region rfl ?_
  refine wo_pv (pv_move rfl) rfl ?_
  refine wo_pv (by first | exact pv_nilCheck_p rfl | exact pv_nilCheck_f rfl) rfl ?_
  refine wo_pv (pv_fieldAddrk Try.underlying88 rfl ti86 rfl rfl (k := 0) rfl (by first | exact Nat.zero_add _ | exact Nat.add_zero _ | exact rfl)) rfl ?_
  refine r_load Try.underlying86 rfl rfl rfl rfl ?_
  refine wo_pv (pv_peql_nil Try.underlying86 rfl rfl) rfl ?_
  refine q_seq ?_
  first | refine p_ite rfl rfl (fun h6 => ?_) (fun h6 => ?_) | refine p_cond rfl rfl (fun h6 => ?_) (fun h6 => ?_)
  · -- t6 True
    refine p_region rfl ?_
    refine wo_pv (pv_move rfl) rfl ?_
    refine wo_pv (pv_move rfl) rfl ?_
    refine r_toUnsafe Try.underlying86 Try.underlying133 ti88 rfl rfl .here rfl rfl ?_
    refine wo_pv (pv_extern Try.func78 (by kernel_rfl) (by kernel_rfl) (by kernel_rfl) (e := Extern.AbiNoEscape.same) (by kernel_rfl) rfl (fun w => rfl)) rfl ?_
    refine r_fromUnsafe Try.underlying133 Try.underlying86 ti88 rfl (by kernel_rfl) rfl .here rfl ?_
    refine wo_pv (by first | exact pv_nilCheck_p rfl | exact pv_nilCheck_f rfl) rfl ?_
    refine wo_pv (pv_fieldAddrk Try.underlying88 rfl ti86 rfl rfl (k := 0) rfl (by first | exact Nat.zero_add _ | exact Nat.add_zero _ | exact rfl)) rfl ?_
    refine r_store ti86 rfl rfl rfl rfl (by simp; try omega) ?_
    refine wo_nil ?_
    refine fin_end () (vs := []) (Cs := []) rfl .nil rfl trivial ?_
    exact ent_pick
  · -- t6 False
    simp at h6
    --done
theorem copyCheck_own (p : Nat) (v : Value) : Sp1 Try.prog 61 [.pointer (some ⟨p, 0, none⟩)] [Ce p 88 [.pointer (some ⟨p, 0, none⟩), v]] (.tuple #[]) [Ce p 88 [.pointer (some ⟨p, 0, none⟩), v]] := by
  refine Sp.body (n := 20) Try.call61 Try.func61 rfl rfl rfl ?_
  refine p_seq rfl ?_
  refine p_region rfl ?_
  refine wo_pv (pv_move rfl) rfl ?_
  refine wo_pv (by first | exact pv_nilCheck_p rfl | exact pv_nilCheck_f rfl) rfl ?_
  refine wo_pv (pv_fieldAddrk Try.underlying88 rfl ti86 rfl rfl (k := 0) rfl (by first | exact Nat.zero_add _ | exact Nat.add_zero _ | exact rfl)) rfl ?_
  refine r_load Try.underlying86 rfl rfl rfl rfl ?_
  refine wo_pv (pv_peql_nil Try.underlying86 rfl rfl) rfl ?_
  refine q_seq ?_
  first | refine p_ite rfl rfl (fun h6 => ?_) (fun h6 => ?_) | refine p_cond rfl rfl (fun h6 => ?_) (fun h6 => ?_)
  · -- t6 True
    simp at h6
    --done
  · -- t6 False
    refine p_seq rfl ?_
    refine p_region rfl ?_
    refine wo_pv (pv_move rfl) rfl ?_
    refine wo_pv (by first | exact pv_nilCheck_p rfl | exact pv_nilCheck_f rfl) rfl ?_
    refine wo_pv (pv_fieldAddrk Try.underlying88 rfl ti86 rfl rfl (k := 0) rfl (by first | exact Nat.zero_add _ | exact Nat.add_zero _ | exact rfl)) rfl ?_
    refine r_load Try.underlying86 rfl rfl rfl rfl ?_
    refine wo_pv (pv_move rfl) rfl ?_
    refine wo_pv (pv_pneq_same Try.underlying86 ti88 rfl rfl) rfl ?_
    refine q_seq ?_
    first | refine p_ite rfl rfl (fun h19 => ?_) (fun h19 => ?_) | refine p_cond rfl rfl (fun h19 => ?_) (fun h19 => ?_)
    · -- t19 True
      cases h19
      --done
    · -- t19 False
      refine p_skip rfl ?_
      refine fin_end () (vs := []) (Cs := []) rfl .nil rfl trivial ?_
      exact ent_pick
theorem copyCheck_sp (p : Nat) (q v : Value) (hq : q = .pointer none ∨ q = .pointer (some ⟨p, 0, none⟩)) : Sp1 Try.prog 61 [.pointer (some ⟨p, 0, none⟩)] [Ce p 88 [q, v]] (.tuple #[]) [Ce p 88 [.pointer (some ⟨p, 0, none⟩), v]] := by
  rcases hq with rfl | rfl
  · exact copyCheck_nil p v
  · exact copyCheck_own p v

theorem WriteString_sp (p : Nat) (l s : List UInt8) (h : l.length + s.length ≤ 140737488355328) : Sp1 Try.prog 40 [.pointer (some ⟨p, 0, none⟩), vS s] [IsB p l] (.tuple #[vI s.length, .nilIface]) [IsB p (l ++ s)] := by
  refine Sp.body (n := 19) Try.call40 Try.func40 rfl rfl rfl ?_
  refine wc_exi fun q1 => wc_exi fun q2 => wc_al (wc_pu fun hq => ?_)
  refine p_seq rfl ?_
  refine p_region rfl ?_
  refine wo_pv (pv_assign rfl) rfl ?_
  refine wo_pv (pv_assign rfl) rfl ?_
  refine q_seq ?_
  refine p_seq rfl ?_
  refine p_region rfl ?_
  refine wo_pv (pv_move rfl) rfl ?_
  refine r_call1 (copyCheck_sp p q1 q2 hq.1) rfl rfl rfl ?_
  refine q_seq ?_
  refine p_seq rfl ?_
  refine p_region rfl ?_
  refine wo_pv (pv_move rfl) rfl ?_
  refine wo_pv (pv_move rfl) rfl ?_
  refine wo_pv (by first | exact pv_nilCheck_p rfl | exact pv_nilCheck_f rfl) rfl ?_
  refine wo_pv (pv_fieldAddrk Try.underlying88 rfl ti44 rfl rfl (k := 1) rfl (by first | exact Nat.zero_add _ | exact Nat.add_zero _ | exact rfl)) rfl ?_
  refine r_load Try.underlying44 rfl rfl rfl rfl ?_
  refine wo_pv (pv_move rfl) rfl ?_
  refine wo_opT (by intro c; simp) (opt_appendS Try.underlying44 Try.underlying9 ti5 rfl rfl rfl rfl rfl h (xs := vUs l)) rfl (fun x14 hx14 => ?_)
  obtain ⟨⟨a14, c14, rfl⟩, hx14⟩ := hx14
  refine wo_pv (by first | exact pv_nilCheck_p rfl | exact pv_nilCheck_f rfl) rfl ?_
  refine wo_pv (pv_fieldAddrk Try.underlying88 rfl ti44 rfl rfl (k := 1) rfl (by first | exact Nat.zero_add _ | exact Nat.add_zero _ | exact rfl)) rfl ?_
  refine r_store ti44 rfl rfl rfl rfl (by simp) ?_
  refine q_seq ?_
  refine p_seq rfl ?_
  refine p_region rfl ?_
  refine wo_pv (pv_move rfl) rfl ?_
  refine wo_pv (pv_call_len_s Try.underlying9 rfl) rfl ?_
  refine wo_pv (pv_assign rfl) rfl ?_
  refine wo_pv (pv_assign rfl) rfl ?_
  refine q_seq ?_
  refine p_ret rfl ?_
  refine fin_ret () (vs := [_, _]) (Cs := []) rfl (.tmp rfl (.tmp rfl .nil)) rfl trivial ?_
  refine ent_ex (.pointer (some ⟨p, 0, none⟩)) ?_
  refine ent_ex (.slice a14 (l.length + s.length) c14) ?_
  refine ent_al ?_
  have e1 : (l ++ s).length = l.length + s.length := List.length_append
  have e2 : vUs (l ++ s) = vUs l ++ vUs s := by simp [vUs]
  rw [e1, e2]
  refine ent_pu ⟨.inr rfl, fun e => hx14 e (hq.2 (by omega))⟩ ent_pick

theorem String_nil (p : Nat) (q1 : Value) : wc none Try.prog 14 (bodyOf Try.f42) (locs 0 [.pointer (some ⟨p, 0, none⟩)]) [Ce p 88 [q1, .slice none 0 0]] (finO Try.prog Try.f42 (fun _ : Unit => vS []) (fun _ => True) (fun _ => [])) := by
  refine p_seq rfl ?_
  refine p_region rfl ?_
  refine wo_pv (pv_assign rfl) rfl ?_
  refine q_seq ?_
  refine p_seq rfl ?_
  refine d_draw rfl rfl rfl [Ce p 88 [q1, .slice none 0 0]] ?_
  refine d_first 0 rfl rfl rfl (by kernel_rfl) (by kernel_rfl) (tl_pv (pv_move rfl)) ?_
  refine d_first 1 rfl rfl rfl (by kernel_rfl) (by kernel_rfl) (tl_pv (by first | exact pv_nilCheck_p rfl | exact pv_nilCheck_f rfl)) ?_
  refine d_first 2 rfl rfl rfl (by kernel_rfl) (by kernel_rfl) (tl_pv (pv_fieldAddrk Try.underlying88 rfl ti44 rfl rfl (k := 1) rfl (by first | exact Nat.zero_add _ | exact Nat.add_zero _ | exact rfl))) ?_
  refine d_first 3 rfl rfl rfl (by kernel_rfl) (by kernel_rfl) (tl_load Try.underlying44 rfl rfl rfl) ?_
  refine d_first 4 rfl rfl rfl (by kernel_rfl) (by kernel_rfl) (tl_pv (pv_usd_nil rfl)) ?_
  refine d_first 5 rfl rfl rfl (by kernel_rfl) (by kernel_rfl) (tl_pv (pv_move rfl)) ?_
  refine d_first 6 rfl rfl rfl (by kernel_rfl) (by kernel_rfl) (tl_pv (by first | exact pv_nilCheck_p rfl | exact pv_nilCheck_f rfl)) ?_
  refine d_first 7 rfl rfl rfl (by kernel_rfl) (by kernel_rfl) (tl_pv (pv_fieldAddrk Try.underlying88 rfl ti44 rfl rfl (k := 1) rfl (by first | exact Nat.zero_add _ | exact Nat.add_zero _ | exact rfl))) ?_
  refine d_first 8 rfl rfl rfl (by kernel_rfl) (by kernel_rfl) (tl_load Try.underlying44 rfl rfl rfl) ?_
  refine d_first 9 rfl rfl rfl (by kernel_rfl) (by kernel_rfl) (tl_pv (pv_call_len_sl Try.underlying44 rfl)) ?_
  refine d_first 10 rfl rfl rfl (by kernel_rfl) (by kernel_rfl) (tl_pv (pv_us_none rfl rfl)) ?_
  refine d_first 11 rfl rfl rfl (by kernel_rfl) (by kernel_rfl) (tl_pv (pv_assign rfl)) ?_
  refine d_done (by kernel_rfl) ?_
  refine t_seq ?_
  refine p_ret rfl ?_
  exact fin_ret () (vs := [_]) (Cs := []) rfl (.tmp rfl .nil) rfl trivial ent_nil
theorem String_own (p : Nat) (q1 : Value) (g cap : Nat) (cur : List Value) (l : List UInt8) (h0 : l ≠ []) (hc : l.length ≤ cap) (hcur : cur.take l.length = vUs l) (h : l.length ≤ 140737488355328) :
    wc none Try.prog 14 (bodyOf Try.f42) (locs 0 [.pointer (some ⟨p, 0, none⟩)]) [Ce g 5 cur, Ce p 88 [q1, .slice (some ⟨g, 0, none⟩) l.length cap]] (finO Try.prog Try.f42 (fun _ : Unit => vS l) (fun _ => True) (fun _ => [])) := by
  have hl0 : l.length ≠ 0 := by simpa using h0
  refine p_seq rfl ?_
  refine p_region rfl ?_
  refine wo_pv (pv_assign rfl) rfl ?_
  refine q_seq ?_
  refine p_seq rfl ?_
  refine d_draw rfl rfl rfl [Ce p 88 [q1, .slice (some ⟨g, 0, none⟩) l.length cap]] ?_
  refine d_first 0 rfl rfl rfl (by kernel_rfl) (by kernel_rfl) (tl_pv (pv_move rfl)) ?_
  refine d_first 1 rfl rfl rfl (by kernel_rfl) (by kernel_rfl) (tl_pv (by first | exact pv_nilCheck_p rfl | exact pv_nilCheck_f rfl)) ?_
  refine d_first 2 rfl rfl rfl (by kernel_rfl) (by kernel_rfl) (tl_pv (pv_fieldAddrk Try.underlying88 rfl ti44 rfl rfl (k := 1) rfl (by first | exact Nat.zero_add _ | exact Nat.add_zero _ | exact rfl))) ?_
  refine d_first 3 rfl rfl rfl (by kernel_rfl) (by kernel_rfl) (tl_load Try.underlying44 rfl rfl rfl) ?_
  refine d_first 4 rfl rfl rfl (by kernel_rfl) (by kernel_rfl) (tl_pv (pv_usd_row rfl (by omega))) ?_
  refine d_first 5 rfl rfl rfl (by kernel_rfl) (by kernel_rfl) (tl_pv (pv_move rfl)) ?_
  refine d_first 6 rfl rfl rfl (by kernel_rfl) (by kernel_rfl) (tl_pv (by first | exact pv_nilCheck_p rfl | exact pv_nilCheck_f rfl)) ?_
  refine d_first 7 rfl rfl rfl (by kernel_rfl) (by kernel_rfl) (tl_pv (pv_fieldAddrk Try.underlying88 rfl ti44 rfl rfl (k := 1) rfl (by first | exact Nat.zero_add _ | exact Nat.add_zero _ | exact rfl))) ?_
  refine d_first 8 rfl rfl rfl (by kernel_rfl) (by kernel_rfl) (tl_load Try.underlying44 rfl rfl rfl) ?_
  refine d_first 9 rfl rfl rfl (by kernel_rfl) (by kernel_rfl) (tl_pv (pv_call_len_sl Try.underlying44 rfl)) ?_
  refine d_next 10 (by kernel_rfl) rfl ?_
  refine an_opT (opt_us_row Try.underlying117 (by kernel_rfl) rfl rfl h0 (by omega) hcur) rfl (fun _ _ => ?_)
  refine d_first 11 rfl rfl rfl (by kernel_rfl) (by kernel_rfl) (tl_pv (pv_assign rfl)) ?_
  refine d_done (by kernel_rfl) ?_
  refine t_seq ?_
  refine p_ret rfl ?_
  exact fin_ret () (vs := [_]) (Cs := []) rfl (.tmp rfl .nil) rfl trivial ent_nil

theorem String_sp (p : Nat) (l : List UInt8) (h : l.length ≤ 140737488355328) : Sp1 Try.prog 42 [.pointer (some ⟨p, 0, none⟩)] [IsB p l] (vS l) [] := by
  refine Sp.body (n := 14) Try.call42 Try.func42 rfl rfl rfl ?_
  refine wc_exi fun q1 => wc_exi fun q2 => wc_al (wc_pu fun hq => ?_)
  refine wc_front (Row 5 1 q2 l.length (vUs l)) (wc_row (fun e1 e2 e3 => ?_) (fun g cap cur e1 e2 e3 e4 e5 e6 => ?_))
  · subst e1
    have e4 : l = [] := List.eq_nil_of_length_eq_zero e2
    subst e4
    exact String_nil p q1
  · subst e1
    have h0 : l ≠ [] := fun x => by have := hq.2 (by rw [x]; rfl); cases this
    exact String_own p q1 g cap cur l h0 e2 (by simpa using e6) h
end Go.Proofs.Ytimafngkifakfaa
