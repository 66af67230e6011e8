/- Texts of this proof, put together: SJour0, SJour, SJour2, SJour3. -/
import Derived.Test.YtimafngkifakfaaQB2
set_option linter.unusedVariables false
set_option linter.unusedSimpArgs false
/- Package journal. -/
set_option maxRecDepth 100000
namespace Go.Proofs.Ytimafngkifakfaa

theorem vUs_one (x : UInt8) (h : Int) (e : h = (x.toNat : Int)) : ([vU h] : List Value).take 1 = vUs [x] := by subst e; rfl
theorem u8_len (s : List UInt8) (h : s.length ≤ 30) : IntKind.u8.wrap (s.length : Int) = ((UInt8.ofNat s.length).toNat : Int) := by
  rw [IntWalk.u8_in _ (by omega)]
  have : s.length < 256 := by omega
  simp [UInt8.toNat_ofNat, Nat.mod_eq_of_lt this]
theorem journal_piece_sp (s : List UInt8) (h : s.length ≤ 30) (mk : UInt8) : SpF Try.prog 77 [vS s, vU (mk.toNat : Int)] (vS (pieceS s mk)) := by
  refine Sp.body (n := 21) Try.call77 Try.func77 rfl rfl rfl ?_
  have e7 : (30 : Int) - (s.length : Int) = ((30 - s.length : Nat) : Int) := by omega
  have hr := Repeat_sp [0] (30 - s.length) (by simp; omega) (by omega)
  rw [repeat_one, ← e7] at hr
  refine p_seq rfl ?_
  refine p_region rfl ?_
  refine wo_pv (pv_assign rfl) rfl ?_
  refine q_seq ?_
  refine p_seq rfl ?_
  refine d_draw rfl rfl rfl [] ?_
  refine d_first 0 rfl rfl rfl (by kernel_rfl) (by kernel_rfl) (tl_pv (pv_move rfl)) ?_
  refine d_first 1 rfl rfl rfl (by kernel_rfl) (by kernel_rfl) (tl_pv (pv_call_len_s Try.underlying9 rfl)) ?_
  refine d_first 2 rfl rfl rfl (by kernel_rfl) (by kernel_rfl) (tl_pv (pv_conv rfl Try.underlying3 Try.underlying5)) ?_
  refine d_first 5 rfl rfl rfl (by kernel_rfl) (by kernel_rfl) (tl_pv (pv_move rfl)) ?_
  refine d_first 7 rfl rfl rfl (by kernel_rfl) (by kernel_rfl) (tl_pv (pv_move rfl)) ?_
  refine d_first 8 rfl rfl rfl (by kernel_rfl) (by kernel_rfl) (tl_pv (pv_call_len_s Try.underlying9 rfl)) ?_
  refine d_first 9 rfl rfl rfl (by kernel_rfl) (by kernel_rfl) (tl_pv (pv_sub rfl rfl (by omega))) ?_
  refine d_first 12 rfl rfl rfl (by kernel_rfl) (by kernel_rfl) (tl_pv (pv_move rfl)) ?_
  refine d_next3 3 10 13 (by kernel_rfl) rfl rfl rfl ?_ ?_ ?_
  · -- op 3
    refine an_buildSliceL [_] (cs := [_]) Try.underlying44 ti5 rfl rfl rfl rfl rfl rfl rfl rfl (fun b8 => ?_)
    refine d_next3 4 10 13 (by kernel_rfl) rfl rfl rfl ?_ ?_ ?_
    · -- op 4
      refine an_b2s (l := [UInt8.ofNat s.length]) Try.underlying44 Try.underlying9 Try.underlying5 rfl (vUs_one _ _ (u8_len s h)) (by simp) rfl ?_
      refine d_first 6 rfl rfl rfl (by kernel_rfl) (by kernel_rfl) (tl_pv (pv_cat rfl rfl (by first | (simp only [List.length_append, List.length_take, List.length_drop, List.length_cons, List.length_nil]; omega) | (simp; try omega)))) ?_
      refine d_next2 10 13 (by kernel_rfl) rfl rfl ?_ ?_
      · -- op 10
        refine an_callF hr rfl rfl rfl ?_
        refine d_first 11 rfl rfl rfl (by kernel_rfl) (by kernel_rfl) (tl_pv (pv_cat rfl rfl (by first | (simp only [List.length_append, List.length_take, List.length_drop, List.length_cons, List.length_nil]; omega) | (simp; try omega)))) ?_
        refine d_next 13 (by kernel_rfl) rfl ?_
        refine an_buildSliceL [_] (cs := [_]) Try.underlying44 ti5 rfl rfl rfl rfl rfl rfl rfl rfl (fun b18 => ?_)
        refine d_next 14 (by kernel_rfl) rfl ?_
        refine an_b2s (l := [mk]) Try.underlying44 Try.underlying9 Try.underlying5 rfl (vUs_one _ _ rfl) (by simp) rfl ?_
        refine d_first 15 rfl rfl rfl (by kernel_rfl) (by kernel_rfl) (tl_pv (pv_cat rfl rfl (by first | (simp only [List.length_append, List.length_take, List.length_drop, List.length_cons, List.length_nil]; omega) | (simp; try omega)))) ?_
        refine d_first 16 rfl rfl rfl (by kernel_rfl) (by kernel_rfl) (tl_pv (pv_assign rfl)) ?_
        refine d_done (by kernel_rfl) ?_
        refine t_seq ?_
        refine p_ret rfl ?_
        exact fin_ret () (vs := [_]) rfl (.tmp rfl .nil) rfl trivial ent_nil
      · -- op 13
        refine an_buildSliceL [_] (cs := [_]) Try.underlying44 ti5 rfl rfl rfl rfl rfl rfl rfl rfl (fun b18 => ?_)
        refine d_next2 10 14 (by kernel_rfl) rfl rfl ?_ ?_
        · -- op 10
          refine an_callF hr rfl rfl rfl ?_
          refine d_first 11 rfl rfl rfl (by kernel_rfl) (by kernel_rfl) (tl_pv (pv_cat rfl rfl (by first | (simp only [List.length_append, List.length_take, List.length_drop, List.length_cons, List.length_nil]; omega) | (simp; try omega)))) ?_
          refine d_next 14 (by kernel_rfl) rfl ?_
          refine an_b2s (l := [mk]) Try.underlying44 Try.underlying9 Try.underlying5 rfl (vUs_one _ _ rfl) (by simp) rfl ?_
          refine d_first 15 rfl rfl rfl (by kernel_rfl) (by kernel_rfl) (tl_pv (pv_cat rfl rfl (by first | (simp only [List.length_append, List.length_take, List.length_drop, List.length_cons, List.length_nil]; omega) | (simp; try omega)))) ?_
          refine d_first 16 rfl rfl rfl (by kernel_rfl) (by kernel_rfl) (tl_pv (pv_assign rfl)) ?_
          refine d_done (by kernel_rfl) ?_
          refine t_seq ?_
          refine p_ret rfl ?_
          exact fin_ret () (vs := [_]) rfl (.tmp rfl .nil) rfl trivial ent_nil
        · -- op 14
          refine an_b2s (l := [mk]) Try.underlying44 Try.underlying9 Try.underlying5 rfl (vUs_one _ _ rfl) (by simp) rfl ?_
          refine d_next 10 (by kernel_rfl) rfl ?_
          refine an_callF hr rfl rfl rfl ?_
          refine d_first 11 rfl rfl rfl (by kernel_rfl) (by kernel_rfl) (tl_pv (pv_cat rfl rfl (by first | (simp only [List.length_append, List.length_take, List.length_drop, List.length_cons, List.length_nil]; omega) | (simp; try omega)))) ?_
          refine d_first 15 rfl rfl rfl (by kernel_rfl) (by kernel_rfl) (tl_pv (pv_cat rfl rfl (by first | (simp only [List.length_append, List.length_take, List.length_drop, List.length_cons, List.length_nil]; omega) | (simp; try omega)))) ?_
          refine d_first 16 rfl rfl rfl (by kernel_rfl) (by kernel_rfl) (tl_pv (pv_assign rfl)) ?_
          refine d_done (by kernel_rfl) ?_
          refine t_seq ?_
          refine p_ret rfl ?_
          exact fin_ret () (vs := [_]) rfl (.tmp rfl .nil) rfl trivial ent_nil
    · -- op 10
      refine an_callF hr rfl rfl rfl ?_
      refine d_next2 4 13 (by kernel_rfl) rfl rfl ?_ ?_
      · -- op 4
        refine an_b2s (l := [UInt8.ofNat s.length]) Try.underlying44 Try.underlying9 Try.underlying5 rfl (vUs_one _ _ (u8_len s h)) (by simp) rfl ?_
        refine d_first 6 rfl rfl rfl (by kernel_rfl) (by kernel_rfl) (tl_pv (pv_cat rfl rfl (by first | (simp only [List.length_append, List.length_take, List.length_drop, List.length_cons, List.length_nil]; omega) | (simp; try omega)))) ?_
        refine d_first 11 rfl rfl rfl (by kernel_rfl) (by kernel_rfl) (tl_pv (pv_cat rfl rfl (by first | (simp only [List.length_append, List.length_take, List.length_drop, List.length_cons, List.length_nil]; omega) | (simp; try omega)))) ?_
        refine d_next 13 (by kernel_rfl) rfl ?_
        refine an_buildSliceL [_] (cs := [_]) Try.underlying44 ti5 rfl rfl rfl rfl rfl rfl rfl rfl (fun b18 => ?_)
        refine d_next 14 (by kernel_rfl) rfl ?_
        refine an_b2s (l := [mk]) Try.underlying44 Try.underlying9 Try.underlying5 rfl (vUs_one _ _ rfl) (by simp) rfl ?_
        refine d_first 15 rfl rfl rfl (by kernel_rfl) (by kernel_rfl) (tl_pv (pv_cat rfl rfl (by first | (simp only [List.length_append, List.length_take, List.length_drop, List.length_cons, List.length_nil]; omega) | (simp; try omega)))) ?_
        refine d_first 16 rfl rfl rfl (by kernel_rfl) (by kernel_rfl) (tl_pv (pv_assign rfl)) ?_
        refine d_done (by kernel_rfl) ?_
        refine t_seq ?_
        refine p_ret rfl ?_
        exact fin_ret () (vs := [_]) rfl (.tmp rfl .nil) rfl trivial ent_nil
      · -- op 13
        refine an_buildSliceL [_] (cs := [_]) Try.underlying44 ti5 rfl rfl rfl rfl rfl rfl rfl rfl (fun b18 => ?_)
        refine d_next2 4 14 (by kernel_rfl) rfl rfl ?_ ?_
        · -- op 4
          refine an_b2s (l := [UInt8.ofNat s.length]) Try.underlying44 Try.underlying9 Try.underlying5 rfl (vUs_one _ _ (u8_len s h)) (by simp) rfl ?_
          refine d_first 6 rfl rfl rfl (by kernel_rfl) (by kernel_rfl) (tl_pv (pv_cat rfl rfl (by first | (simp only [List.length_append, List.length_take, List.length_drop, List.length_cons, List.length_nil]; omega) | (simp; try omega)))) ?_
          refine d_first 11 rfl rfl rfl (by kernel_rfl) (by kernel_rfl) (tl_pv (pv_cat rfl rfl (by first | (simp only [List.length_append, List.length_take, List.length_drop, List.length_cons, List.length_nil]; omega) | (simp; try omega)))) ?_
          refine d_next 14 (by kernel_rfl) rfl ?_
          refine an_b2s (l := [mk]) Try.underlying44 Try.underlying9 Try.underlying5 rfl (vUs_one _ _ rfl) (by simp) rfl ?_
          refine d_first 15 rfl rfl rfl (by kernel_rfl) (by kernel_rfl) (tl_pv (pv_cat rfl rfl (by first | (simp only [List.length_append, List.length_take, List.length_drop, List.length_cons, List.length_nil]; omega) | (simp; try omega)))) ?_
          refine d_first 16 rfl rfl rfl (by kernel_rfl) (by kernel_rfl) (tl_pv (pv_assign rfl)) ?_
          refine d_done (by kernel_rfl) ?_
          refine t_seq ?_
          refine p_ret rfl ?_
          exact fin_ret () (vs := [_]) rfl (.tmp rfl .nil) rfl trivial ent_nil
        · -- op 14
          refine an_b2s (l := [mk]) Try.underlying44 Try.underlying9 Try.underlying5 rfl (vUs_one _ _ rfl) (by simp) rfl ?_
          refine d_next 4 (by kernel_rfl) rfl ?_
          refine an_b2s (l := [UInt8.ofNat s.length]) Try.underlying44 Try.underlying9 Try.underlying5 rfl (vUs_one _ _ (u8_len s h)) (by simp) rfl ?_
          refine d_first 6 rfl rfl rfl (by kernel_rfl) (by kernel_rfl) (tl_pv (pv_cat rfl rfl (by first | (simp only [List.length_append, List.length_take, List.length_drop, List.length_cons, List.length_nil]; omega) | (simp; try omega)))) ?_
          refine d_first 11 rfl rfl rfl (by kernel_rfl) (by kernel_rfl) (tl_pv (pv_cat rfl rfl (by first | (simp only [List.length_append, List.length_take, List.length_drop, List.length_cons, List.length_nil]; omega) | (simp; try omega)))) ?_
          refine d_first 15 rfl rfl rfl (by kernel_rfl) (by kernel_rfl) (tl_pv (pv_cat rfl rfl (by first | (simp only [List.length_append, List.length_take, List.length_drop, List.length_cons, List.length_nil]; omega) | (simp; try omega)))) ?_
          refine d_first 16 rfl rfl rfl (by kernel_rfl) (by kernel_rfl) (tl_pv (pv_assign rfl)) ?_
          refine d_done (by kernel_rfl) ?_
          refine t_seq ?_
          refine p_ret rfl ?_
          exact fin_ret () (vs := [_]) rfl (.tmp rfl .nil) rfl trivial ent_nil
    · -- op 13
      refine an_buildSliceL [_] (cs := [_]) Try.underlying44 ti5 rfl rfl rfl rfl rfl rfl rfl rfl (fun b18 => ?_)
      refine d_next3 4 10 14 (by kernel_rfl) rfl rfl rfl ?_ ?_ ?_
      · -- op 4
        refine an_b2s (l := [UInt8.ofNat s.length]) Try.underlying44 Try.underlying9 Try.underlying5 rfl (vUs_one _ _ (u8_len s h)) (by simp) rfl ?_
        refine d_first 6 rfl rfl rfl (by kernel_rfl) (by kernel_rfl) (tl_pv (pv_cat rfl rfl (by first | (simp only [List.length_append, List.length_take, List.length_drop, List.length_cons, List.length_nil]; omega) | (simp; try omega)))) ?_
        refine d_next2 10 14 (by kernel_rfl) rfl rfl ?_ ?_
        · -- op 10
          refine an_callF hr rfl rfl rfl ?_
          refine d_first 11 rfl rfl rfl (by kernel_rfl) (by kernel_rfl) (tl_pv (pv_cat rfl rfl (by first | (simp only [List.length_append, List.length_take, List.length_drop, List.length_cons, List.length_nil]; omega) | (simp; try omega)))) ?_
          refine d_next 14 (by kernel_rfl) rfl ?_
          refine an_b2s (l := [mk]) Try.underlying44 Try.underlying9 Try.underlying5 rfl (vUs_one _ _ rfl) (by simp) rfl ?_
          refine d_first 15 rfl rfl rfl (by kernel_rfl) (by kernel_rfl) (tl_pv (pv_cat rfl rfl (by first | (simp only [List.length_append, List.length_take, List.length_drop, List.length_cons, List.length_nil]; omega) | (simp; try omega)))) ?_
          refine d_first 16 rfl rfl rfl (by kernel_rfl) (by kernel_rfl) (tl_pv (pv_assign rfl)) ?_
          refine d_done (by kernel_rfl) ?_
          refine t_seq ?_
          refine p_ret rfl ?_
          exact fin_ret () (vs := [_]) rfl (.tmp rfl .nil) rfl trivial ent_nil
        · -- op 14
          refine an_b2s (l := [mk]) Try.underlying44 Try.underlying9 Try.underlying5 rfl (vUs_one _ _ rfl) (by simp) rfl ?_
          refine d_next 10 (by kernel_rfl) rfl ?_
          refine an_callF hr rfl rfl rfl ?_
          refine d_first 11 rfl rfl rfl (by kernel_rfl) (by kernel_rfl) (tl_pv (pv_cat rfl rfl (by first | (simp only [List.length_append, List.length_take, List.length_drop, List.length_cons, List.length_nil]; omega) | (simp; try omega)))) ?_
          refine d_first 15 rfl rfl rfl (by kernel_rfl) (by kernel_rfl) (tl_pv (pv_cat rfl rfl (by first | (simp only [List.length_append, List.length_take, List.length_drop, List.length_cons, List.length_nil]; omega) | (simp; try omega)))) ?_
          refine d_first 16 rfl rfl rfl (by kernel_rfl) (by kernel_rfl) (tl_pv (pv_assign rfl)) ?_
          refine d_done (by kernel_rfl) ?_
          refine t_seq ?_
          refine p_ret rfl ?_
          exact fin_ret () (vs := [_]) rfl (.tmp rfl .nil) rfl trivial ent_nil
      · -- op 10
        refine an_callF hr rfl rfl rfl ?_
        refine d_next2 4 14 (by kernel_rfl) rfl rfl ?_ ?_
        · -- op 4
          refine an_b2s (l := [UInt8.ofNat s.length]) Try.underlying44 Try.underlying9 Try.underlying5 rfl (vUs_one _ _ (u8_len s h)) (by simp) rfl ?_
          refine d_first 6 rfl rfl rfl (by kernel_rfl) (by kernel_rfl) (tl_pv (pv_cat rfl rfl (by first | (simp only [List.length_append, List.length_take, List.length_drop, List.length_cons, List.length_nil]; omega) | (simp; try omega)))) ?_
          refine d_first 11 rfl rfl rfl (by kernel_rfl) (by kernel_rfl) (tl_pv (pv_cat rfl rfl (by first | (simp only [List.length_append, List.length_take, List.length_drop, List.length_cons, List.length_nil]; omega) | (simp; try omega)))) ?_
          refine d_next 14 (by kernel_rfl) rfl ?_
          refine an_b2s (l := [mk]) Try.underlying44 Try.underlying9 Try.underlying5 rfl (vUs_one _ _ rfl) (by simp) rfl ?_
          refine d_first 15 rfl rfl rfl (by kernel_rfl) (by kernel_rfl) (tl_pv (pv_cat rfl rfl (by first | (simp only [List.length_append, List.length_take, List.length_drop, List.length_cons, List.length_nil]; omega) | (simp; try omega)))) ?_
          refine d_first 16 rfl rfl rfl (by kernel_rfl) (by kernel_rfl) (tl_pv (pv_assign rfl)) ?_
          refine d_done (by kernel_rfl) ?_
          refine t_seq ?_
          refine p_ret rfl ?_
          exact fin_ret () (vs := [_]) rfl (.tmp rfl .nil) rfl trivial ent_nil
        · -- op 14
          refine an_b2s (l := [mk]) Try.underlying44 Try.underlying9 Try.underlying5 rfl (vUs_one _ _ rfl) (by simp) rfl ?_
          refine d_next 4 (by kernel_rfl) rfl ?_
          refine an_b2s (l := [UInt8.ofNat s.length]) Try.underlying44 Try.underlying9 Try.underlying5 rfl (vUs_one _ _ (u8_len s h)) (by simp) rfl ?_
          refine d_first 6 rfl rfl rfl (by kernel_rfl) (by kernel_rfl) (tl_pv (pv_cat rfl rfl (by first | (simp only [List.length_append, List.length_take, List.length_drop, List.length_cons, List.length_nil]; omega) | (simp; try omega)))) ?_
          refine d_first 11 rfl rfl rfl (by kernel_rfl) (by kernel_rfl) (tl_pv (pv_cat rfl rfl (by first | (simp only [List.length_append, List.length_take, List.length_drop, List.length_cons, List.length_nil]; omega) | (simp; try omega)))) ?_
          refine d_first 15 rfl rfl rfl (by kernel_rfl) (by kernel_rfl) (tl_pv (pv_cat rfl rfl (by first | (simp only [List.length_append, List.length_take, List.length_drop, List.length_cons, List.length_nil]; omega) | (simp; try omega)))) ?_
          refine d_first 16 rfl rfl rfl (by kernel_rfl) (by kernel_rfl) (tl_pv (pv_assign rfl)) ?_
          refine d_done (by kernel_rfl) ?_
          refine t_seq ?_
          refine p_ret rfl ?_
          exact fin_ret () (vs := [_]) rfl (.tmp rfl .nil) rfl trivial ent_nil
      · -- op 14
        refine an_b2s (l := [mk]) Try.underlying44 Try.underlying9 Try.underlying5 rfl (vUs_one _ _ rfl) (by simp) rfl ?_
        refine d_next2 4 10 (by kernel_rfl) rfl rfl ?_ ?_
        · -- op 4
          refine an_b2s (l := [UInt8.ofNat s.length]) Try.underlying44 Try.underlying9 Try.underlying5 rfl (vUs_one _ _ (u8_len s h)) (by simp) rfl ?_
          refine d_first 6 rfl rfl rfl (by kernel_rfl) (by kernel_rfl) (tl_pv (pv_cat rfl rfl (by first | (simp only [List.length_append, List.length_take, List.length_drop, List.length_cons, List.length_nil]; omega) | (simp; try omega)))) ?_
          refine d_next 10 (by kernel_rfl) rfl ?_
          refine an_callF hr rfl rfl rfl ?_
          refine d_first 11 rfl rfl rfl (by kernel_rfl) (by kernel_rfl) (tl_pv (pv_cat rfl rfl (by first | (simp only [List.length_append, List.length_take, List.length_drop, List.length_cons, List.length_nil]; omega) | (simp; try omega)))) ?_
          refine d_first 15 rfl rfl rfl (by kernel_rfl) (by kernel_rfl) (tl_pv (pv_cat rfl rfl (by first | (simp only [List.length_append, List.length_take, List.length_drop, List.length_cons, List.length_nil]; omega) | (simp; try omega)))) ?_
          refine d_first 16 rfl rfl rfl (by kernel_rfl) (by kernel_rfl) (tl_pv (pv_assign rfl)) ?_
          refine d_done (by kernel_rfl) ?_
          refine t_seq ?_
          refine p_ret rfl ?_
          exact fin_ret () (vs := [_]) rfl (.tmp rfl .nil) rfl trivial ent_nil
        · -- op 10
          refine an_callF hr rfl rfl rfl ?_
          refine d_next 4 (by kernel_rfl) rfl ?_
          refine an_b2s (l := [UInt8.ofNat s.length]) Try.underlying44 Try.underlying9 Try.underlying5 rfl (vUs_one _ _ (u8_len s h)) (by simp) rfl ?_
          refine d_first 6 rfl rfl rfl (by kernel_rfl) (by kernel_rfl) (tl_pv (pv_cat rfl rfl (by first | (simp only [List.length_append, List.length_take, List.length_drop, List.length_cons, List.length_nil]; omega) | (simp; try omega)))) ?_
          refine d_first 11 rfl rfl rfl (by kernel_rfl) (by kernel_rfl) (tl_pv (pv_cat rfl rfl (by first | (simp only [List.length_append, List.length_take, List.length_drop, List.length_cons, List.length_nil]; omega) | (simp; try omega)))) ?_
          refine d_first 15 rfl rfl rfl (by kernel_rfl) (by kernel_rfl) (tl_pv (pv_cat rfl rfl (by first | (simp only [List.length_append, List.length_take, List.length_drop, List.length_cons, List.length_nil]; omega) | (simp; try omega)))) ?_
          refine d_first 16 rfl rfl rfl (by kernel_rfl) (by kernel_rfl) (tl_pv (pv_assign rfl)) ?_
          refine d_done (by kernel_rfl) ?_
          refine t_seq ?_
          refine p_ret rfl ?_
          exact fin_ret () (vs := [_]) rfl (.tmp rfl .nil) rfl trivial ent_nil
  · -- op 10
    refine an_callF hr rfl rfl rfl ?_
    refine d_next2 3 13 (by kernel_rfl) rfl rfl ?_ ?_
    · -- op 3
      refine an_buildSliceL [_] (cs := [_]) Try.underlying44 ti5 rfl rfl rfl rfl rfl rfl rfl rfl (fun b8 => ?_)
      refine d_next2 4 13 (by kernel_rfl) rfl rfl ?_ ?_
      · -- op 4
        refine an_b2s (l := [UInt8.ofNat s.length]) Try.underlying44 Try.underlying9 Try.underlying5 rfl (vUs_one _ _ (u8_len s h)) (by simp) rfl ?_
        refine d_first 6 rfl rfl rfl (by kernel_rfl) (by kernel_rfl) (tl_pv (pv_cat rfl rfl (by first | (simp only [List.length_append, List.length_take, List.length_drop, List.length_cons, List.length_nil]; omega) | (simp; try omega)))) ?_
        refine d_first 11 rfl rfl rfl (by kernel_rfl) (by kernel_rfl) (tl_pv (pv_cat rfl rfl (by first | (simp only [List.length_append, List.length_take, List.length_drop, List.length_cons, List.length_nil]; omega) | (simp; try omega)))) ?_
        refine d_next 13 (by kernel_rfl) rfl ?_
        refine an_buildSliceL [_] (cs := [_]) Try.underlying44 ti5 rfl rfl rfl rfl rfl rfl rfl rfl (fun b18 => ?_)
        refine d_next 14 (by kernel_rfl) rfl ?_
        refine an_b2s (l := [mk]) Try.underlying44 Try.underlying9 Try.underlying5 rfl (vUs_one _ _ rfl) (by simp) rfl ?_
        refine d_first 15 rfl rfl rfl (by kernel_rfl) (by kernel_rfl) (tl_pv (pv_cat rfl rfl (by first | (simp only [List.length_append, List.length_take, List.length_drop, List.length_cons, List.length_nil]; omega) | (simp; try omega)))) ?_
        refine d_first 16 rfl rfl rfl (by kernel_rfl) (by kernel_rfl) (tl_pv (pv_assign rfl)) ?_
        refine d_done (by kernel_rfl) ?_
        refine t_seq ?_
        refine p_ret rfl ?_
        exact fin_ret () (vs := [_]) rfl (.tmp rfl .nil) rfl trivial ent_nil
      · -- op 13
        refine an_buildSliceL [_] (cs := [_]) Try.underlying44 ti5 rfl rfl rfl rfl rfl rfl rfl rfl (fun b18 => ?_)
        refine d_next2 4 14 (by kernel_rfl) rfl rfl ?_ ?_
        · -- op 4
          refine an_b2s (l := [UInt8.ofNat s.length]) Try.underlying44 Try.underlying9 Try.underlying5 rfl (vUs_one _ _ (u8_len s h)) (by simp) rfl ?_
          refine d_first 6 rfl rfl rfl (by kernel_rfl) (by kernel_rfl) (tl_pv (pv_cat rfl rfl (by first | (simp only [List.length_append, List.length_take, List.length_drop, List.length_cons, List.length_nil]; omega) | (simp; try omega)))) ?_
          refine d_first 11 rfl rfl rfl (by kernel_rfl) (by kernel_rfl) (tl_pv (pv_cat rfl rfl (by first | (simp only [List.length_append, List.length_take, List.length_drop, List.length_cons, List.length_nil]; omega) | (simp; try omega)))) ?_
          refine d_next 14 (by kernel_rfl) rfl ?_
          refine an_b2s (l := [mk]) Try.underlying44 Try.underlying9 Try.underlying5 rfl (vUs_one _ _ rfl) (by simp) rfl ?_
          refine d_first 15 rfl rfl rfl (by kernel_rfl) (by kernel_rfl) (tl_pv (pv_cat rfl rfl (by first | (simp only [List.length_append, List.length_take, List.length_drop, List.length_cons, List.length_nil]; omega) | (simp; try omega)))) ?_
          refine d_first 16 rfl rfl rfl (by kernel_rfl) (by kernel_rfl) (tl_pv (pv_assign rfl)) ?_
          refine d_done (by kernel_rfl) ?_
          refine t_seq ?_
          refine p_ret rfl ?_
          exact fin_ret () (vs := [_]) rfl (.tmp rfl .nil) rfl trivial ent_nil
        · -- op 14
          refine an_b2s (l := [mk]) Try.underlying44 Try.underlying9 Try.underlying5 rfl (vUs_one _ _ rfl) (by simp) rfl ?_
          refine d_next 4 (by kernel_rfl) rfl ?_
          refine an_b2s (l := [UInt8.ofNat s.length]) Try.underlying44 Try.underlying9 Try.underlying5 rfl (vUs_one _ _ (u8_len s h)) (by simp) rfl ?_
          refine d_first 6 rfl rfl rfl (by kernel_rfl) (by kernel_rfl) (tl_pv (pv_cat rfl rfl (by first | (simp only [List.length_append, List.length_take, List.length_drop, List.length_cons, List.length_nil]; omega) | (simp; try omega)))) ?_
          refine d_first 11 rfl rfl rfl (by kernel_rfl) (by kernel_rfl) (tl_pv (pv_cat rfl rfl (by first | (simp only [List.length_append, List.length_take, List.length_drop, List.length_cons, List.length_nil]; omega) | (simp; try omega)))) ?_
          refine d_first 15 rfl rfl rfl (by kernel_rfl) (by kernel_rfl) (tl_pv (pv_cat rfl rfl (by first | (simp only [List.length_append, List.length_take, List.length_drop, List.length_cons, List.length_nil]; omega) | (simp; try omega)))) ?_
          refine d_first 16 rfl rfl rfl (by kernel_rfl) (by kernel_rfl) (tl_pv (pv_assign rfl)) ?_
          refine d_done (by kernel_rfl) ?_
          refine t_seq ?_
          refine p_ret rfl ?_
          exact fin_ret () (vs := [_]) rfl (.tmp rfl .nil) rfl trivial ent_nil
    · -- op 13
      refine an_buildSliceL [_] (cs := [_]) Try.underlying44 ti5 rfl rfl rfl rfl rfl rfl rfl rfl (fun b18 => ?_)
      refine d_next2 3 14 (by kernel_rfl) rfl rfl ?_ ?_
      · -- op 3
        refine an_buildSliceL [_] (cs := [_]) Try.underlying44 ti5 rfl rfl rfl rfl rfl rfl rfl rfl (fun b8 => ?_)
        refine d_next2 4 14 (by kernel_rfl) rfl rfl ?_ ?_
        · -- op 4
          refine an_b2s (l := [UInt8.ofNat s.length]) Try.underlying44 Try.underlying9 Try.underlying5 rfl (vUs_one _ _ (u8_len s h)) (by simp) rfl ?_
          refine d_first 6 rfl rfl rfl (by kernel_rfl) (by kernel_rfl) (tl_pv (pv_cat rfl rfl (by first | (simp only [List.length_append, List.length_take, List.length_drop, List.length_cons, List.length_nil]; omega) | (simp; try omega)))) ?_
          refine d_first 11 rfl rfl rfl (by kernel_rfl) (by kernel_rfl) (tl_pv (pv_cat rfl rfl (by first | (simp only [List.length_append, List.length_take, List.length_drop, List.length_cons, List.length_nil]; omega) | (simp; try omega)))) ?_
          refine d_next 14 (by kernel_rfl) rfl ?_
          refine an_b2s (l := [mk]) Try.underlying44 Try.underlying9 Try.underlying5 rfl (vUs_one _ _ rfl) (by simp) rfl ?_
          refine d_first 15 rfl rfl rfl (by kernel_rfl) (by kernel_rfl) (tl_pv (pv_cat rfl rfl (by first | (simp only [List.length_append, List.length_take, List.length_drop, List.length_cons, List.length_nil]; omega) | (simp; try omega)))) ?_
          refine d_first 16 rfl rfl rfl (by kernel_rfl) (by kernel_rfl) (tl_pv (pv_assign rfl)) ?_
          refine d_done (by kernel_rfl) ?_
          refine t_seq ?_
          refine p_ret rfl ?_
          exact fin_ret () (vs := [_]) rfl (.tmp rfl .nil) rfl trivial ent_nil
        · -- op 14
          refine an_b2s (l := [mk]) Try.underlying44 Try.underlying9 Try.underlying5 rfl (vUs_one _ _ rfl) (by simp) rfl ?_
          refine d_next 4 (by kernel_rfl) rfl ?_
          refine an_b2s (l := [UInt8.ofNat s.length]) Try.underlying44 Try.underlying9 Try.underlying5 rfl (vUs_one _ _ (u8_len s h)) (by simp) rfl ?_
          refine d_first 6 rfl rfl rfl (by kernel_rfl) (by kernel_rfl) (tl_pv (pv_cat rfl rfl (by first | (simp only [List.length_append, List.length_take, List.length_drop, List.length_cons, List.length_nil]; omega) | (simp; try omega)))) ?_
          refine d_first 11 rfl rfl rfl (by kernel_rfl) (by kernel_rfl) (tl_pv (pv_cat rfl rfl (by first | (simp only [List.length_append, List.length_take, List.length_drop, List.length_cons, List.length_nil]; omega) | (simp; try omega)))) ?_
          refine d_first 15 rfl rfl rfl (by kernel_rfl) (by kernel_rfl) (tl_pv (pv_cat rfl rfl (by first | (simp only [List.length_append, List.length_take, List.length_drop, List.length_cons, List.length_nil]; omega) | (simp; try omega)))) ?_
          refine d_first 16 rfl rfl rfl (by kernel_rfl) (by kernel_rfl) (tl_pv (pv_assign rfl)) ?_
          refine d_done (by kernel_rfl) ?_
          refine t_seq ?_
          refine p_ret rfl ?_
          exact fin_ret () (vs := [_]) rfl (.tmp rfl .nil) rfl trivial ent_nil
      · -- op 14
        refine an_b2s (l := [mk]) Try.underlying44 Try.underlying9 Try.underlying5 rfl (vUs_one _ _ rfl) (by simp) rfl ?_
        refine d_next 3 (by kernel_rfl) rfl ?_
        refine an_buildSliceL [_] (cs := [_]) Try.underlying44 ti5 rfl rfl rfl rfl rfl rfl rfl rfl (fun b8 => ?_)
        refine d_next 4 (by kernel_rfl) rfl ?_
        refine an_b2s (l := [UInt8.ofNat s.length]) Try.underlying44 Try.underlying9 Try.underlying5 rfl (vUs_one _ _ (u8_len s h)) (by simp) rfl ?_
        refine d_first 6 rfl rfl rfl (by kernel_rfl) (by kernel_rfl) (tl_pv (pv_cat rfl rfl (by first | (simp only [List.length_append, List.length_take, List.length_drop, List.length_cons, List.length_nil]; omega) | (simp; try omega)))) ?_
        refine d_first 11 rfl rfl rfl (by kernel_rfl) (by kernel_rfl) (tl_pv (pv_cat rfl rfl (by first | (simp only [List.length_append, List.length_take, List.length_drop, List.length_cons, List.length_nil]; omega) | (simp; try omega)))) ?_
        refine d_first 15 rfl rfl rfl (by kernel_rfl) (by kernel_rfl) (tl_pv (pv_cat rfl rfl (by first | (simp only [List.length_append, List.length_take, List.length_drop, List.length_cons, List.length_nil]; omega) | (simp; try omega)))) ?_
        refine d_first 16 rfl rfl rfl (by kernel_rfl) (by kernel_rfl) (tl_pv (pv_assign rfl)) ?_
        refine d_done (by kernel_rfl) ?_
        refine t_seq ?_
        refine p_ret rfl ?_
        exact fin_ret () (vs := [_]) rfl (.tmp rfl .nil) rfl trivial ent_nil
  · -- op 13
    refine an_buildSliceL [_] (cs := [_]) Try.underlying44 ti5 rfl rfl rfl rfl rfl rfl rfl rfl (fun b18 => ?_)
    refine d_next3 3 10 14 (by kernel_rfl) rfl rfl rfl ?_ ?_ ?_
    · -- op 3
      refine an_buildSliceL [_] (cs := [_]) Try.underlying44 ti5 rfl rfl rfl rfl rfl rfl rfl rfl (fun b8 => ?_)
      refine d_next3 4 10 14 (by kernel_rfl) rfl rfl rfl ?_ ?_ ?_
      · -- op 4
        refine an_b2s (l := [UInt8.ofNat s.length]) Try.underlying44 Try.underlying9 Try.underlying5 rfl (vUs_one _ _ (u8_len s h)) (by simp) rfl ?_
        refine d_first 6 rfl rfl rfl (by kernel_rfl) (by kernel_rfl) (tl_pv (pv_cat rfl rfl (by first | (simp only [List.length_append, List.length_take, List.length_drop, List.length_cons, List.length_nil]; omega) | (simp; try omega)))) ?_
        refine d_next2 10 14 (by kernel_rfl) rfl rfl ?_ ?_
        · -- op 10
          refine an_callF hr rfl rfl rfl ?_
          refine d_first 11 rfl rfl rfl (by kernel_rfl) (by kernel_rfl) (tl_pv (pv_cat rfl rfl (by first | (simp only [List.length_append, List.length_take, List.length_drop, List.length_cons, List.length_nil]; omega) | (simp; try omega)))) ?_
          refine d_next 14 (by kernel_rfl) rfl ?_
          refine an_b2s (l := [mk]) Try.underlying44 Try.underlying9 Try.underlying5 rfl (vUs_one _ _ rfl) (by simp) rfl ?_
          refine d_first 15 rfl rfl rfl (by kernel_rfl) (by kernel_rfl) (tl_pv (pv_cat rfl rfl (by first | (simp only [List.length_append, List.length_take, List.length_drop, List.length_cons, List.length_nil]; omega) | (simp; try omega)))) ?_
          refine d_first 16 rfl rfl rfl (by kernel_rfl) (by kernel_rfl) (tl_pv (pv_assign rfl)) ?_
          refine d_done (by kernel_rfl) ?_
          refine t_seq ?_
          refine p_ret rfl ?_
          exact fin_ret () (vs := [_]) rfl (.tmp rfl .nil) rfl trivial ent_nil
        · -- op 14
          refine an_b2s (l := [mk]) Try.underlying44 Try.underlying9 Try.underlying5 rfl (vUs_one _ _ rfl) (by simp) rfl ?_
          refine d_next 10 (by kernel_rfl) rfl ?_
          refine an_callF hr rfl rfl rfl ?_
          refine d_first 11 rfl rfl rfl (by kernel_rfl) (by kernel_rfl) (tl_pv (pv_cat rfl rfl (by first | (simp only [List.length_append, List.length_take, List.length_drop, List.length_cons, List.length_nil]; omega) | (simp; try omega)))) ?_
          refine d_first 15 rfl rfl rfl (by kernel_rfl) (by kernel_rfl) (tl_pv (pv_cat rfl rfl (by first | (simp only [List.length_append, List.length_take, List.length_drop, List.length_cons, List.length_nil]; omega) | (simp; try omega)))) ?_
          refine d_first 16 rfl rfl rfl (by kernel_rfl) (by kernel_rfl) (tl_pv (pv_assign rfl)) ?_
          refine d_done (by kernel_rfl) ?_
          refine t_seq ?_
          refine p_ret rfl ?_
          exact fin_ret () (vs := [_]) rfl (.tmp rfl .nil) rfl trivial ent_nil
      · -- op 10
        refine an_callF hr rfl rfl rfl ?_
        refine d_next2 4 14 (by kernel_rfl) rfl rfl ?_ ?_
        · -- op 4
          refine an_b2s (l := [UInt8.ofNat s.length]) Try.underlying44 Try.underlying9 Try.underlying5 rfl (vUs_one _ _ (u8_len s h)) (by simp) rfl ?_
          refine d_first 6 rfl rfl rfl (by kernel_rfl) (by kernel_rfl) (tl_pv (pv_cat rfl rfl (by first | (simp only [List.length_append, List.length_take, List.length_drop, List.length_cons, List.length_nil]; omega) | (simp; try omega)))) ?_
          refine d_first 11 rfl rfl rfl (by kernel_rfl) (by kernel_rfl) (tl_pv (pv_cat rfl rfl (by first | (simp only [List.length_append, List.length_take, List.length_drop, List.length_cons, List.length_nil]; omega) | (simp; try omega)))) ?_
          refine d_next 14 (by kernel_rfl) rfl ?_
          refine an_b2s (l := [mk]) Try.underlying44 Try.underlying9 Try.underlying5 rfl (vUs_one _ _ rfl) (by simp) rfl ?_
          refine d_first 15 rfl rfl rfl (by kernel_rfl) (by kernel_rfl) (tl_pv (pv_cat rfl rfl (by first | (simp only [List.length_append, List.length_take, List.length_drop, List.length_cons, List.length_nil]; omega) | (simp; try omega)))) ?_
          refine d_first 16 rfl rfl rfl (by kernel_rfl) (by kernel_rfl) (tl_pv (pv_assign rfl)) ?_
          refine d_done (by kernel_rfl) ?_
          refine t_seq ?_
          refine p_ret rfl ?_
          exact fin_ret () (vs := [_]) rfl (.tmp rfl .nil) rfl trivial ent_nil
        · -- op 14
          refine an_b2s (l := [mk]) Try.underlying44 Try.underlying9 Try.underlying5 rfl (vUs_one _ _ rfl) (by simp) rfl ?_
          refine d_next 4 (by kernel_rfl) rfl ?_
          refine an_b2s (l := [UInt8.ofNat s.length]) Try.underlying44 Try.underlying9 Try.underlying5 rfl (vUs_one _ _ (u8_len s h)) (by simp) rfl ?_
          refine d_first 6 rfl rfl rfl (by kernel_rfl) (by kernel_rfl) (tl_pv (pv_cat rfl rfl (by first | (simp only [List.length_append, List.length_take, List.length_drop, List.length_cons, List.length_nil]; omega) | (simp; try omega)))) ?_
          refine d_first 11 rfl rfl rfl (by kernel_rfl) (by kernel_rfl) (tl_pv (pv_cat rfl rfl (by first | (simp only [List.length_append, List.length_take, List.length_drop, List.length_cons, List.length_nil]; omega) | (simp; try omega)))) ?_
          refine d_first 15 rfl rfl rfl (by kernel_rfl) (by kernel_rfl) (tl_pv (pv_cat rfl rfl (by first | (simp only [List.length_append, List.length_take, List.length_drop, List.length_cons, List.length_nil]; omega) | (simp; try omega)))) ?_
          refine d_first 16 rfl rfl rfl (by kernel_rfl) (by kernel_rfl) (tl_pv (pv_assign rfl)) ?_
          refine d_done (by kernel_rfl) ?_
          refine t_seq ?_
          refine p_ret rfl ?_
          exact fin_ret () (vs := [_]) rfl (.tmp rfl .nil) rfl trivial ent_nil
      · -- op 14
        refine an_b2s (l := [mk]) Try.underlying44 Try.underlying9 Try.underlying5 rfl (vUs_one _ _ rfl) (by simp) rfl ?_
        refine d_next2 4 10 (by kernel_rfl) rfl rfl ?_ ?_
        · -- op 4
          refine an_b2s (l := [UInt8.ofNat s.length]) Try.underlying44 Try.underlying9 Try.underlying5 rfl (vUs_one _ _ (u8_len s h)) (by simp) rfl ?_
          refine d_first 6 rfl rfl rfl (by kernel_rfl) (by kernel_rfl) (tl_pv (pv_cat rfl rfl (by first | (simp only [List.length_append, List.length_take, List.length_drop, List.length_cons, List.length_nil]; omega) | (simp; try omega)))) ?_
          refine d_next 10 (by kernel_rfl) rfl ?_
          refine an_callF hr rfl rfl rfl ?_
          refine d_first 11 rfl rfl rfl (by kernel_rfl) (by kernel_rfl) (tl_pv (pv_cat rfl rfl (by first | (simp only [List.length_append, List.length_take, List.length_drop, List.length_cons, List.length_nil]; omega) | (simp; try omega)))) ?_
          refine d_first 15 rfl rfl rfl (by kernel_rfl) (by kernel_rfl) (tl_pv (pv_cat rfl rfl (by first | (simp only [List.length_append, List.length_take, List.length_drop, List.length_cons, List.length_nil]; omega) | (simp; try omega)))) ?_
          refine d_first 16 rfl rfl rfl (by kernel_rfl) (by kernel_rfl) (tl_pv (pv_assign rfl)) ?_
          refine d_done (by kernel_rfl) ?_
          refine t_seq ?_
          refine p_ret rfl ?_
          exact fin_ret () (vs := [_]) rfl (.tmp rfl .nil) rfl trivial ent_nil
        · -- op 10
          refine an_callF hr rfl rfl rfl ?_
          refine d_next 4 (by kernel_rfl) rfl ?_
          refine an_b2s (l := [UInt8.ofNat s.length]) Try.underlying44 Try.underlying9 Try.underlying5 rfl (vUs_one _ _ (u8_len s h)) (by simp) rfl ?_
          refine d_first 6 rfl rfl rfl (by kernel_rfl) (by kernel_rfl) (tl_pv (pv_cat rfl rfl (by first | (simp only [List.length_append, List.length_take, List.length_drop, List.length_cons, List.length_nil]; omega) | (simp; try omega)))) ?_
          refine d_first 11 rfl rfl rfl (by kernel_rfl) (by kernel_rfl) (tl_pv (pv_cat rfl rfl (by first | (simp only [List.length_append, List.length_take, List.length_drop, List.length_cons, List.length_nil]; omega) | (simp; try omega)))) ?_
          refine d_first 15 rfl rfl rfl (by kernel_rfl) (by kernel_rfl) (tl_pv (pv_cat rfl rfl (by first | (simp only [List.length_append, List.length_take, List.length_drop, List.length_cons, List.length_nil]; omega) | (simp; try omega)))) ?_
          refine d_first 16 rfl rfl rfl (by kernel_rfl) (by kernel_rfl) (tl_pv (pv_assign rfl)) ?_
          refine d_done (by kernel_rfl) ?_
          refine t_seq ?_
          refine p_ret rfl ?_
          exact fin_ret () (vs := [_]) rfl (.tmp rfl .nil) rfl trivial ent_nil
    · -- op 10
      refine an_callF hr rfl rfl rfl ?_
      refine d_next2 3 14 (by kernel_rfl) rfl rfl ?_ ?_
      · -- op 3
        refine an_buildSliceL [_] (cs := [_]) Try.underlying44 ti5 rfl rfl rfl rfl rfl rfl rfl rfl (fun b8 => ?_)
        refine d_next2 4 14 (by kernel_rfl) rfl rfl ?_ ?_
        · -- op 4
          refine an_b2s (l := [UInt8.ofNat s.length]) Try.underlying44 Try.underlying9 Try.underlying5 rfl (vUs_one _ _ (u8_len s h)) (by simp) rfl ?_
          refine d_first 6 rfl rfl rfl (by kernel_rfl) (by kernel_rfl) (tl_pv (pv_cat rfl rfl (by first | (simp only [List.length_append, List.length_take, List.length_drop, List.length_cons, List.length_nil]; omega) | (simp; try omega)))) ?_
          refine d_first 11 rfl rfl rfl (by kernel_rfl) (by kernel_rfl) (tl_pv (pv_cat rfl rfl (by first | (simp only [List.length_append, List.length_take, List.length_drop, List.length_cons, List.length_nil]; omega) | (simp; try omega)))) ?_
          refine d_next 14 (by kernel_rfl) rfl ?_
          refine an_b2s (l := [mk]) Try.underlying44 Try.underlying9 Try.underlying5 rfl (vUs_one _ _ rfl) (by simp) rfl ?_
          refine d_first 15 rfl rfl rfl (by kernel_rfl) (by kernel_rfl) (tl_pv (pv_cat rfl rfl (by first | (simp only [List.length_append, List.length_take, List.length_drop, List.length_cons, List.length_nil]; omega) | (simp; try omega)))) ?_
          refine d_first 16 rfl rfl rfl (by kernel_rfl) (by kernel_rfl) (tl_pv (pv_assign rfl)) ?_
          refine d_done (by kernel_rfl) ?_
          refine t_seq ?_
          refine p_ret rfl ?_
          exact fin_ret () (vs := [_]) rfl (.tmp rfl .nil) rfl trivial ent_nil
        · -- op 14
          refine an_b2s (l := [mk]) Try.underlying44 Try.underlying9 Try.underlying5 rfl (vUs_one _ _ rfl) (by simp) rfl ?_
          refine d_next 4 (by kernel_rfl) rfl ?_
          refine an_b2s (l := [UInt8.ofNat s.length]) Try.underlying44 Try.underlying9 Try.underlying5 rfl (vUs_one _ _ (u8_len s h)) (by simp) rfl ?_
          refine d_first 6 rfl rfl rfl (by kernel_rfl) (by kernel_rfl) (tl_pv (pv_cat rfl rfl (by first | (simp only [List.length_append, List.length_take, List.length_drop, List.length_cons, List.length_nil]; omega) | (simp; try omega)))) ?_
          refine d_first 11 rfl rfl rfl (by kernel_rfl) (by kernel_rfl) (tl_pv (pv_cat rfl rfl (by first | (simp only [List.length_append, List.length_take, List.length_drop, List.length_cons, List.length_nil]; omega) | (simp; try omega)))) ?_
          refine d_first 15 rfl rfl rfl (by kernel_rfl) (by kernel_rfl) (tl_pv (pv_cat rfl rfl (by first | (simp only [List.length_append, List.length_take, List.length_drop, List.length_cons, List.length_nil]; omega) | (simp; try omega)))) ?_
          refine d_first 16 rfl rfl rfl (by kernel_rfl) (by kernel_rfl) (tl_pv (pv_assign rfl)) ?_
          refine d_done (by kernel_rfl) ?_
          refine t_seq ?_
          refine p_ret rfl ?_
          exact fin_ret () (vs := [_]) rfl (.tmp rfl .nil) rfl trivial ent_nil
      · -- op 14
        refine an_b2s (l := [mk]) Try.underlying44 Try.underlying9 Try.underlying5 rfl (vUs_one _ _ rfl) (by simp) rfl ?_
        refine d_next 3 (by kernel_rfl) rfl ?_
        refine an_buildSliceL [_] (cs := [_]) Try.underlying44 ti5 rfl rfl rfl rfl rfl rfl rfl rfl (fun b8 => ?_)
        refine d_next 4 (by kernel_rfl) rfl ?_
        refine an_b2s (l := [UInt8.ofNat s.length]) Try.underlying44 Try.underlying9 Try.underlying5 rfl (vUs_one _ _ (u8_len s h)) (by simp) rfl ?_
        refine d_first 6 rfl rfl rfl (by kernel_rfl) (by kernel_rfl) (tl_pv (pv_cat rfl rfl (by first | (simp only [List.length_append, List.length_take, List.length_drop, List.length_cons, List.length_nil]; omega) | (simp; try omega)))) ?_
        refine d_first 11 rfl rfl rfl (by kernel_rfl) (by kernel_rfl) (tl_pv (pv_cat rfl rfl (by first | (simp only [List.length_append, List.length_take, List.length_drop, List.length_cons, List.length_nil]; omega) | (simp; try omega)))) ?_
        refine d_first 15 rfl rfl rfl (by kernel_rfl) (by kernel_rfl) (tl_pv (pv_cat rfl rfl (by first | (simp only [List.length_append, List.length_take, List.length_drop, List.length_cons, List.length_nil]; omega) | (simp; try omega)))) ?_
        refine d_first 16 rfl rfl rfl (by kernel_rfl) (by kernel_rfl) (tl_pv (pv_assign rfl)) ?_
        refine d_done (by kernel_rfl) ?_
        refine t_seq ?_
        refine p_ret rfl ?_
        exact fin_ret () (vs := [_]) rfl (.tmp rfl .nil) rfl trivial ent_nil
    · -- op 14
      refine an_b2s (l := [mk]) Try.underlying44 Try.underlying9 Try.underlying5 rfl (vUs_one _ _ rfl) (by simp) rfl ?_
      refine d_next2 3 10 (by kernel_rfl) rfl rfl ?_ ?_
      · -- op 3
        refine an_buildSliceL [_] (cs := [_]) Try.underlying44 ti5 rfl rfl rfl rfl rfl rfl rfl rfl (fun b8 => ?_)
        refine d_next2 4 10 (by kernel_rfl) rfl rfl ?_ ?_
        · -- op 4
          refine an_b2s (l := [UInt8.ofNat s.length]) Try.underlying44 Try.underlying9 Try.underlying5 rfl (vUs_one _ _ (u8_len s h)) (by simp) rfl ?_
          refine d_first 6 rfl rfl rfl (by kernel_rfl) (by kernel_rfl) (tl_pv (pv_cat rfl rfl (by first | (simp only [List.length_append, List.length_take, List.length_drop, List.length_cons, List.length_nil]; omega) | (simp; try omega)))) ?_
          refine d_next 10 (by kernel_rfl) rfl ?_
          refine an_callF hr rfl rfl rfl ?_
          refine d_first 11 rfl rfl rfl (by kernel_rfl) (by kernel_rfl) (tl_pv (pv_cat rfl rfl (by first | (simp only [List.length_append, List.length_take, List.length_drop, List.length_cons, List.length_nil]; omega) | (simp; try omega)))) ?_
          refine d_first 15 rfl rfl rfl (by kernel_rfl) (by kernel_rfl) (tl_pv (pv_cat rfl rfl (by first | (simp only [List.length_append, List.length_take, List.length_drop, List.length_cons, List.length_nil]; omega) | (simp; try omega)))) ?_
          refine d_first 16 rfl rfl rfl (by kernel_rfl) (by kernel_rfl) (tl_pv (pv_assign rfl)) ?_
          refine d_done (by kernel_rfl) ?_
          refine t_seq ?_
          refine p_ret rfl ?_
          exact fin_ret () (vs := [_]) rfl (.tmp rfl .nil) rfl trivial ent_nil
        · -- op 10
          refine an_callF hr rfl rfl rfl ?_
          refine d_next 4 (by kernel_rfl) rfl ?_
          refine an_b2s (l := [UInt8.ofNat s.length]) Try.underlying44 Try.underlying9 Try.underlying5 rfl (vUs_one _ _ (u8_len s h)) (by simp) rfl ?_
          refine d_first 6 rfl rfl rfl (by kernel_rfl) (by kernel_rfl) (tl_pv (pv_cat rfl rfl (by first | (simp only [List.length_append, List.length_take, List.length_drop, List.length_cons, List.length_nil]; omega) | (simp; try omega)))) ?_
          refine d_first 11 rfl rfl rfl (by kernel_rfl) (by kernel_rfl) (tl_pv (pv_cat rfl rfl (by first | (simp only [List.length_append, List.length_take, List.length_drop, List.length_cons, List.length_nil]; omega) | (simp; try omega)))) ?_
          refine d_first 15 rfl rfl rfl (by kernel_rfl) (by kernel_rfl) (tl_pv (pv_cat rfl rfl (by first | (simp only [List.length_append, List.length_take, List.length_drop, List.length_cons, List.length_nil]; omega) | (simp; try omega)))) ?_
          refine d_first 16 rfl rfl rfl (by kernel_rfl) (by kernel_rfl) (tl_pv (pv_assign rfl)) ?_
          refine d_done (by kernel_rfl) ?_
          refine t_seq ?_
          refine p_ret rfl ?_
          exact fin_ret () (vs := [_]) rfl (.tmp rfl .nil) rfl trivial ent_nil
      · -- op 10
        refine an_callF hr rfl rfl rfl ?_
        refine d_next 3 (by kernel_rfl) rfl ?_
        refine an_buildSliceL [_] (cs := [_]) Try.underlying44 ti5 rfl rfl rfl rfl rfl rfl rfl rfl (fun b8 => ?_)
        refine d_next 4 (by kernel_rfl) rfl ?_
        refine an_b2s (l := [UInt8.ofNat s.length]) Try.underlying44 Try.underlying9 Try.underlying5 rfl (vUs_one _ _ (u8_len s h)) (by simp) rfl ?_
        refine d_first 6 rfl rfl rfl (by kernel_rfl) (by kernel_rfl) (tl_pv (pv_cat rfl rfl (by first | (simp only [List.length_append, List.length_take, List.length_drop, List.length_cons, List.length_nil]; omega) | (simp; try omega)))) ?_
        refine d_first 11 rfl rfl rfl (by kernel_rfl) (by kernel_rfl) (tl_pv (pv_cat rfl rfl (by first | (simp only [List.length_append, List.length_take, List.length_drop, List.length_cons, List.length_nil]; omega) | (simp; try omega)))) ?_
        refine d_first 15 rfl rfl rfl (by kernel_rfl) (by kernel_rfl) (tl_pv (pv_cat rfl rfl (by first | (simp only [List.length_append, List.length_take, List.length_drop, List.length_cons, List.length_nil]; omega) | (simp; try omega)))) ?_
        refine d_first 16 rfl rfl rfl (by kernel_rfl) (by kernel_rfl) (tl_pv (pv_assign rfl)) ?_
        refine d_done (by kernel_rfl) ?_
        refine t_seq ?_
        refine p_ret rfl ?_
        exact fin_ret () (vs := [_]) rfl (.tmp rfl .nil) rfl trivial ent_nil

end Go.Proofs.Ytimafngkifakfaa

/- Package journal. -/
set_option maxRecDepth 100000
namespace Go.Proofs.Ytimafngkifakfaa


theorem journal_Pieces_sp (s : List UInt8) (h : s.length ≤ 4398046511104) : Sp Try.prog 58 [vS s] [] (X := Option Addr × Nat) (fun x => .slice x.1 (piecesS s).length x.2) (fun _ => True) (fun x => [Row 9 1 (.slice x.1 (piecesS s).length x.2) (piecesS s).length ((piecesS s).map vS)]) := by
  refine Sp.body (n := 20) Try.call58 Try.func58 rfl rfl rfl ?_
  refine p_seq rfl ?_
  refine p_region rfl ?_
  refine wo_pv (pv_assign rfl) rfl ?_
  refine q_seq ?_
  refine p_seq rfl ?_
  refine p_region rfl ?_
  refine wo_pv (pv_assign rfl) rfl ?_
  refine q_seq ?_
  refine p_seq rfl ?_
  refine p_block 0 rfl ?_
  refine p_loop (fun (i : { p : (Option Addr × Nat) × List (List UInt8) × List UInt8 // p.2.1 ++ piecesS p.2.2 = piecesS s ∧ p.2.1.length + p.2.2.length ≤ s.length }) => [(0, vS i.1.2.2), (3, .slice i.1.1.1 i.1.2.1.length i.1.1.2)]) (fun (i : { p : (Option Addr × Nat) × List (List UInt8) × List UInt8 // p.2.1 ++ piecesS p.2.2 = piecesS s ∧ p.2.1.length + p.2.2.length ≤ s.length }) => [Row 9 1 (.slice i.1.1.1 i.1.2.1.length i.1.1.2) i.1.2.1.length (i.1.2.1.map vS)]) (fun (i : { p : (Option Addr × Nat) × List (List UInt8) × List UInt8 // p.2.1 ++ piecesS p.2.2 = piecesS s ∧ p.2.1.length + p.2.2.length ≤ s.length }) => i.1.2.2.length) rfl (⟨((none, 0), [], s), rfl, by simp⟩) ?_ ?_ (fun i => ?_)
  · exact ⟨rfl, rfl, trivial⟩
  · -- H at start
    exact row_nil
  obtain ⟨⟨⟨a, c⟩, dn, rs⟩, hi, hl⟩ := i
  dsimp only at hi hl
  try dsimp only
  refine p_seq rfl ?_
  refine p_seq rfl ?_
  refine p_region rfl ?_
  refine wo_pv (pv_move rfl) rfl ?_
  refine wo_pv (pv_call_len_s Try.underlying9 rfl) rfl ?_
  refine wo_pv (pv_gtr rfl rfl) rfl ?_
  refine q_seq ?_
  first | refine p_ite rfl rfl (fun h6 => ?_) (fun h6 => ?_) | refine p_cond rfl rfl (fun h6 => ?_) (fun h6 => ?_)
  · -- t6 True
    refine p_skip rfl ?_
    refine t_seq ?_
    refine p_block 1 rfl ?_
    refine p_seq rfl ?_
    refine p_region rfl ?_
    refine wo_pv (pv_move rfl) rfl ?_
    refine wo_pv (pv_move rfl) rfl ?_
    refine wo_pv (pv_slice_tom (m := 30) Try.underlying9 rfl rfl rfl (by omega)) rfl ?_
    refine r_callF (journal_piece_sp (rs.take 30) (by simp; omega) 1) rfl rfl rfl ?_
    refine r_buildSliceL [_] (cs := [_]) Try.underlying46 ti9 rfl rfl rfl rfl rfl rfl rfl rfl (fun b11 => ?_)
    refine r_append1 (sz := 1) (bytes := 16) Try.underlying46 ti9 rfl rfl rfl rfl rfl rfl rfl (by rfl) (by rfl) (by omega) (by simp only [maxLen]; omega) rfl (fun a12 c12 => ?_)
    refine wo_pv (pv_assign rfl) rfl ?_
    refine q_seq ?_
    refine p_region rfl ?_
    refine wo_pv (pv_move rfl) rfl ?_
    refine wo_pv (pv_slice_fromm (m := 30) Try.underlying9 rfl rfl rfl (by omega)) rfl ?_
    refine wo_pv (pv_assign rfl) rfl ?_
    refine wo_nil ?_
    refine to_block ?_
    refine to_inv ⟨((a12, c12), dn ++ [pieceS (rs.take 30) 1], rs.drop 30), ?_, ?_⟩ ?_ ⟨rfl, sl_eq (by simp), trivial⟩ ?_
    · rw [← hi, piecesS_more (s := rs) (by omega)]; simp
    · simp; omega
    · simp; omega
    · simp only [List.map_append, List.length_append, List.length_singleton, List.map_cons, List.map_nil]
      exact ent_pick
  · -- t6 False
    refine p_exit 0 rfl ?_
    refine t_seq_exit ?_
    refine to_inv_exit ?_
    refine to_block_here ?_
    refine t_seq ?_
    refine p_seq rfl ?_
    refine p_region rfl ?_
    refine wo_pv (pv_move rfl) rfl ?_
    refine wo_pv (pv_move rfl) rfl ?_
    refine r_callF (journal_piece_sp rs (by omega) 2) rfl rfl rfl ?_
    refine r_buildSliceL [_] (cs := [_]) Try.underlying46 ti9 rfl rfl rfl rfl rfl rfl rfl rfl (fun b18 => ?_)
    refine r_append1 (sz := 1) (bytes := 16) Try.underlying46 ti9 rfl rfl rfl rfl rfl rfl rfl (by rfl) (by rfl) (by omega) (by simp only [maxLen]; omega) rfl (fun a19 c19 => ?_)
    refine wo_pv (pv_assign rfl) rfl ?_
    refine q_seq ?_
    refine p_ret rfl ?_
    have hp : piecesS s = dn ++ [pieceS rs 2] := by rw [← hi, piecesS_last (by omega)]
    refine fin_ret (a19, c19) (vs := [_]) (Cs := []) rfl (.tmp rfl .nil) ?_ trivial ?_
    · simp [pack, hp]
    · simp only [hp, List.map_append, List.length_append, List.length_singleton, List.map_cons, List.map_nil]
      exact ent_pick

theorem disk_All_sp (p : Nat) (D : Dk) : Sp Try.prog 56 [.pointer (some ⟨p, 0, none⟩)] [IsD p D] (X := Nat × Option Addr × Nat) (fun x => .func (.func 86) #[] #[.pointer (some ⟨x.1, 0, none⟩)]) (fun _ => True)
    (fun x => [IsD p D, Ce x.1 46 [.slice x.2.1 D.secs.length x.2.2], SlI x.2.1 (D.secs.map vS)]) := by
  refine Sp.body (n := 9) Try.call56 Try.func56 rfl rfl rfl ?_
  refine wc_exi fun a => wc_exi fun c => wc_al (wc_pu fun ok => ?_)
  have hm := ok.many
  refine wc_know (A := Row 9 1 (.slice a D.secs.length c) D.secs.length (D.secs.map vS)) (.there .here) row_none (fun hnone => ?_)
  refine p_seq rfl ?_
  refine p_region rfl ?_
  refine wo_pv (pv_assign rfl) rfl ?_
  refine q_seq ?_
  refine p_seq rfl ?_
  refine p_region rfl ?_
  refine wo_pv (pv_move rfl) rfl ?_
  refine wo_pv (by first | exact pv_nilCheck_p rfl | exact pv_nilCheck_f rfl) rfl ?_
  refine wo_pv (pv_fieldAddrk Try.underlying76 rfl ti46 rfl rfl (k := 0) rfl (by first | exact Nat.zero_add _ | exact Nat.add_zero _ | exact rfl)) rfl ?_
  refine r_load Try.underlying46 rfl rfl rfl rfl ?_
  refine r_callX (slices_Clone_sp D.secs.length c D.secs (sla_row (e := 9) (sz := 1) (k := D.secs.length) (n := D.secs.length) (c := c)) rfl hnone (by omega)) rfl rfl rfl (fun x7 _ => ?_)
  obtain ⟨a7, c7⟩ := x7
  dsimp only
  refine wo_frz a7 ?_
  refine r_callX (slices_All_sp a7 D.secs.length c7) rfl rfl rfl (fun b8 _ => ?_)
  refine wo_pv (pv_assign rfl) rfl ?_
  refine q_seq ?_
  refine p_ret rfl ?_
  refine fin_ret (b8, a7, c7) (vs := [_]) (Cs := []) rfl (.tmp rfl .nil) rfl trivial ?_
  refine ent_step (fold_isD D ok (by rfl) (by exact ⟨rfl, rfl⟩) (by exact ⟨_, _, rfl⟩) (by rfl) (by rfl) (by rfl) (by rfl) (by rfl) (by rfl)) ?_
  exact ent_pick

/-- A journal in memory. -/
def IsJ (q p : Nat) (J : Jn) : HP := Ex fun a : Option Addr => Ex fun c : Nat => Al [Ce q 111 [.pointer (some ⟨p, 0, none⟩), .slice a J.l.length c, vI J.e, vB J.down], Row 9 1 (.slice a J.l.length c) J.l.length (J.l.map vS)]
theorem fold_isJ {q p : Nat} (J : Jn) {v0 v1 v2 v3 : Value} {n e sz T : Nat} {xs : List Value} {Hs R1 Rs : List HP} [h1 : OwnC q T [v0, v1, v2, v3] Hs R1] [h2 : RowC v1 e sz n xs R1 Rs] (hT : T = 111) (he : e = 9 ∧ sz = 1)
    (h0 : v0 = .pointer (some ⟨p, 0, none⟩)) (hs : ∃ a c, v1 = .slice a J.l.length c) (e2 : v2 = vI J.e) (e3 : v3 = vB J.down) (hn : n = J.l.length) (hx : xs = J.l.map vS) : Ent Hs (IsJ q p J :: Rs) := by
  obtain ⟨a, c, rfl⟩ := hs
  obtain ⟨rfl, rfl⟩ := he
  subst hT; subst h0; subst e2; subst e3; subst hn; subst hx
  refine ent_ex a ?_
  refine ent_ex c (ent_al ?_)
  exact ent_step (ent_pick1 h1.get) (ent_pick1 h2.get)
end Go.Proofs.Ytimafngkifakfaa

/- Package journal: Open. -/
set_option maxRecDepth 100000
namespace Go.Proofs.Ytimafngkifakfaa

/-- On the way through a disk's sectors. -/
def OpenI (p j b3 b4 : Nat) (D : Dk) (fin : Bool) (k : Nat) : HP :=
  Ex fun a : Option Addr => Ex fun c : Nat => Ex fun t : Bs => Ex fun l : List Bs => Ex fun e : Nat => Al [Pu ((if fin = true then (l, e) = scanD D else scanS (D.secs.drop k) k t l e = scanD D) ∧ t.length ≤ 30 * k ∧ l.length ≤ e ∧ e ≤ k),
    Ce b3 65 [.pointer (some ⟨j, 0, none⟩)], Ce b4 9 [vS t], Ce j 111 [.pointer (some ⟨p, 0, none⟩), .slice a l.length c, vI e, vB false], Row 9 1 (.slice a l.length c) l.length (l.map vS)]
theorem fold_OpenI {p j b3 b4 : Nat} {D : Dk} {fin : Bool} {k : Nat} (t : Bs) (l : List Bs) (e : Nat) (h : (if fin = true then (l, e) = scanD D else scanS (D.secs.drop k) k t l e = scanD D) ∧ t.length ≤ 30 * k ∧ l.length ≤ e ∧ e ≤ k)
    {T3 T4 T er sz n : Nat} {u3 u4 w0 w1 w2 w3 : Value} {xs : List Value} {Hs R1 R2 R3 Rs : List HP} [q3 : OwnC b3 T3 [u3] Hs R1] [q4 : OwnC b4 T4 [u4] R1 R2] [qj : OwnC j T [w0, w1, w2, w3] R2 R3] [qr : RowC w1 er sz n xs R3 Rs]
    (hT : T3 = 65 ∧ T4 = 9 ∧ T = 111 ∧ er = 9 ∧ sz = 1) (e3 : u3 = .pointer (some ⟨j, 0, none⟩)) (e4 : u4 = vS t) (f0 : w0 = .pointer (some ⟨p, 0, none⟩)) (f1 : ∃ a c, w1 = .slice a l.length c) (f2 : w2 = vI e) (f3 : w3 = vB false) (hn : n = l.length) (hx : xs = l.map vS) :
    Ent Hs (OpenI p j b3 b4 D fin k :: Rs) := by
  obtain ⟨a, c, rfl⟩ := f1
  obtain ⟨rfl, rfl, rfl, rfl, rfl⟩ := hT
  subst e3; subst e4; subst f0; subst f2; subst f3; subst hn; subst hx
  refine ent_ex a ?_
  refine ent_ex c ?_
  refine ent_ex t ?_
  refine ent_ex l ?_
  refine ent_ex e ?_
  refine ent_al (ent_pu h ?_)
  exact ent_step (ent_pick1 q3.get) (ent_step (ent_pick1 q4.get) (ent_step (ent_pick1 qj.get) (ent_pick1 qr.get)))
theorem openI_more {p j b3 b4 : Nat} {D : Dk} {fin fin' : Bool} {k k' : Nat} {Hs : List HP} (h : ∀ t l e, (if fin = true then (l, e) = scanD D else scanS (D.secs.drop k) k t l e = scanD D) → (if fin' = true then (l, e) = scanD D else scanS (D.secs.drop k') k' t l e = scanD D)) (hk : k ≤ k') : Ent (OpenI p j b3 b4 D fin k :: Hs) (OpenI p j b3 b4 D fin' k' :: Hs) := by
  refine ent_left fun a => ent_left fun c => ent_left fun t => ent_left fun l => ent_left fun e => ent_leftAl (ent_leftPu fun hq => ?_)
  exact fold_OpenI t l e ⟨h t l e hq.1, by omega, hq.2.2.1, by omega⟩ (by exact ⟨rfl, rfl, rfl, rfl, rfl⟩) (by rfl) (by rfl) (by rfl) (by exact ⟨a, c, rfl⟩) (by rfl) (by rfl) (by rfl) (by rfl)
theorem ok_len {p : Nat} {D : Dk} {M : Kn} {h : Res} (x : (IsD p D).at_ M h) : D.Ok := by
  obtain ⟨a, c, h1, h2, d, e, x1, _⟩ := x
  exact x1
theorem byte_eq (x : UInt8) (n : Nat) (hn : n < 256) : ((x.toNat : Int) = (n : Int)) ↔ x = UInt8.ofNat n := by
  constructor
  · intro h
    have h2 : x.toNat = n := by omega
    rw [← h2]; simp
  · intro h
    subst h
    simp [Nat.mod_eq_of_lt hn]
theorem journal_Open_sp (p : Nat) (D : Dk) : Sp Try.prog 35 [.pointer (some ⟨p, 0, none⟩)] [IsD p D] (X := Nat) (fun q => .pointer (some ⟨q, 0, none⟩)) (fun _ => True) (fun q => [IsJ q p (openJ D), IsD p D]) := by
  refine Sp.body (n := 50) Try.call35 Try.func35 rfl rfl rfl ?_
  refine wc_know (A := IsD p D) .here ok_len (fun ok => ?_)
  have hm := ok.many
  refine p_seq rfl ?_
  refine p_region rfl ?_
  refine wo_pv (pv_assign rfl) rfl ?_
  refine q_seq ?_
  refine p_scope2 rfl ?_
  refine p_seq rfl ?_
  refine p_region rfl ?_
  refine wo_pv (pv_move rfl) rfl ?_
  refine wo_pv (pv_buildS (vs := [_, .slice none 0 0, .int .i64 0, .bool false]) Try.underlying111 ti111 rfl rfl rfl rfl rfl) rfl ?_
  refine wo_box (vs := [_, _, _, _]) rfl rfl rfl (fun b11 => ?_)
  refine wo_alloc (zs := [.pointer none]) ti65 rfl rfl rfl (fun b3 => ?_)
  refine r_store ti65 rfl rfl rfl rfl (by simp; try omega) ?_
  refine q_seq ?_
  refine p_seq rfl ?_
  refine p_region rfl ?_
  refine wo_alloc (zs := [vS []]) ti9 rfl rfl rfl (fun b4 => ?_)
  refine r_store ti9 rfl rfl rfl rfl (by simp; try omega) ?_
  refine q_seq ?_
  refine p_seq rfl ?_
  refine p_label rfl ?_
  refine t_seq ?_
  refine p_seq rfl ?_
  refine p_seq rfl ?_
  refine p_region rfl ?_
  refine wo_pv (pv_move rfl) rfl ?_
  refine r_callX (disk_All_sp p D) rfl rfl rfl (fun x13 hx13 => ?_)
  refine q_seq ?_
  refine p_block 0 rfl ?_
  refine p_rangeFunc (fun pre => [IsD p D, OpenI p b11 b3 b4 D false pre.length]) (fun j pre => match j with | some 0 => [IsD p D, OpenI p b11 b3 b4 D true pre.length] | _ => [Pu False]) rfl (slices_All_it (B := SlI x13.2.1 (D.secs.map vS)) D.secs.length x13.2.2 x13.1 D.secs sla_sli rfl (by omega)) rfl (fun _ => by rfl) rfl ?_ (fun l pre i hok => ?_) ?_ (fun j pre hs => ?_)
  · (refine ent_app ?_; refine ent_cons ?_; refine Ent.trans (row_nil (e := 9) (sz := 1)) ?_; refine ent_step (fold_OpenI [] [] 0 ⟨(by rfl), (by simp), (by simp), (by simp)⟩ (by exact ⟨rfl, rfl, rfl, rfl, rfl⟩) (by rfl) (by rfl) (by rfl) (by exact ⟨none, 0, rfl⟩) (by rfl) (by rfl) (by rfl) (by rfl)) ?_; exact ent_pick)
  · -- a round
    obtain ⟨hi, hlt⟩ := hok
    have hs32 : (D.secs.getD i []).length = 32 := by
      have e : D.secs.getD i [] = D.secs[i] := by simp [hlt]
      rw [e]; exact ok.secs _ (List.getElem_mem _)
    refine wc_front (OpenI p b11 b3 b4 D false pre.length) (wc_exi fun a => wc_exi fun c => wc_exi fun t => wc_exi fun l => wc_exi fun e => wc_al (wc_pu fun hq => ?_))
    rw [if_neg (by simp), ← hi] at hq
    obtain ⟨hsc, htl, hle, hei⟩ := hq
    have hst := scanS_step hlt t l e
    rw [hsc] at hst
    refine p_seq rfl ?_
    refine p_region rfl ?_
    refine wo_pv (pv_assign rfl) rfl ?_
    refine q_seq ?_
    refine p_region rfl ?_
    refine wo_pv (pv_assign rfl) rfl ?_
    refine q_asg ?_
    refine p_block 1 rfl ?_
    refine p_seq rfl ?_
    refine d_draw rfl rfl rfl [] ?_
    refine d_first 0 rfl rfl rfl (by kernel_rfl) (by kernel_rfl) (tl_pv (pv_move rfl)) ?_
    refine d_first 1 rfl rfl rfl (by kernel_rfl) (by kernel_rfl) (tl_pv (pv_indexm (m := 0) Try.underlying9 rfl rfl rfl (by omega))) ?_
    refine d_first 2 rfl rfl rfl (by kernel_rfl) (by kernel_rfl) (tl_pv (pv_conv_in rfl Try.underlying5 Try.underlying3 (by first | exact wrap_byte _ | exact wrap_u8 _ | exact i64_in' (by omega)))) ?_
    refine d_first 3 rfl rfl rfl (by kernel_rfl) (by kernel_rfl) (tl_pv (pv_move rfl)) ?_
    refine d_first 4 rfl rfl rfl (by kernel_rfl) (by kernel_rfl) (tl_pv (pv_indexm (m := 31) Try.underlying9 rfl rfl rfl (by omega))) ?_
    refine d_first 5 rfl rfl rfl (by kernel_rfl) (by kernel_rfl) (tl_pv (pv_assign rfl)) ?_
    refine d_first 6 rfl rfl rfl (by kernel_rfl) (by kernel_rfl) (tl_pv (pv_assign rfl)) ?_
    refine d_done (by kernel_rfl) ?_
    refine t_seq ?_
    refine p_seq rfl ?_
    refine p_seq rfl ?_
    refine p_region rfl ?_
    refine wo_pv (pv_move rfl) rfl ?_
    refine wo_pv (pv_gtr rfl rfl) rfl ?_
    refine q_seq ?_
    first | refine p_ite rfl rfl (fun h22 => ?_) (fun h22 => ?_) | refine p_cond rfl rfl (fun h22 => ?_) (fun h22 => ?_)
    · -- t22 True
      refine p_exit 0 rfl ?_
      refine t_seq_exit ?_
      refine to_block_other rfl ?_
      refine to_round_exit 0 ?_
      have hfin : (l, e) = scanD D := by
        rw [hst]
        by_cases hh : 30 < ((D.secs.getD i []).getD 0 0).toNat
        · rw [if_pos hh]
        · first
          | (exfalso; omega)
          | rw [if_neg hh, if_neg (show ¬ ((D.secs.getD i []).getD 31 0 = 1) from fun h => h30 ((byte_eq _ 1 (by omega)).2 h)), if_neg (show ¬ ((D.secs.getD i []).getD 31 0 = 2) from fun h => h32 ((byte_eq _ 2 (by omega)).2 h))]
      show Ent _ [IsD p D, OpenI p b11 b3 b4 D true (pre ++ [i]).length]
      rw [List.length_append, List.length_singleton, ← hi]
      first
      | exact ent_cons (ent_step (fold_OpenI t l e ⟨by rw [if_pos rfl]; exact hfin, by omega, hle, by omega⟩ (by exact ⟨rfl, rfl, rfl, rfl, rfl⟩) (by rfl) (by rfl) (by rfl) (by exact ⟨_, _, rfl⟩) (by rfl) (by rfl) (by rfl) (by rfl)) ent_nil)
      | exact ent_cons (ent_step (fold_OpenI (t ++ ((D.secs.getD i []).drop 1).take ((D.secs.getD i []).getD 0 0).toNat) l e ⟨by rw [if_pos rfl]; exact hfin, by simp only [List.length_append, List.length_take]; omega, hle, by omega⟩ (by exact ⟨rfl, rfl, rfl, rfl, rfl⟩) (by rfl) (by rfl) (by rfl) (by exact ⟨_, _, rfl⟩) (by rfl) (by rfl) (by rfl) (by rfl)) ent_nil)
    · -- t22 False
      refine p_skip rfl ?_
      refine t_seq ?_
      refine p_seq rfl ?_
      refine d_draw rfl rfl rfl [] ?_
      refine d_first 1 rfl rfl rfl (by kernel_rfl) (by kernel_rfl) (tl_pv (pv_move rfl)) ?_
      refine d_first 2 rfl rfl rfl (by kernel_rfl) (by kernel_rfl) (tl_pv (pv_move rfl)) ?_
      refine d_first 3 rfl rfl rfl (by kernel_rfl) (by kernel_rfl) (tl_pv (pv_add rfl rfl (by omega))) ?_
      refine d_first 4 rfl rfl rfl (by kernel_rfl) (by kernel_rfl) (tl_pv (pv_slice_inm (m := 1) (o := 1 + ((D.secs.getD i []).getD 0 0).toNat) Try.underlying9 rfl rfl rfl rfl (by omega) (by omega) (by omega))) ?_
      refine d_next 0 (by kernel_rfl) rfl ?_
      refine an_load Try.underlying9 rfl rfl rfl rfl ?_
      refine d_first 5 rfl rfl rfl (by kernel_rfl) (by kernel_rfl) (tl_pv (pv_cat rfl rfl (by first | (simp only [List.length_append, List.length_take, List.length_drop, List.length_cons, List.length_nil]; omega) | (simp; try omega)))) ?_
      refine d_next 6 (by kernel_rfl) rfl ?_
      refine an_store ti9 rfl rfl rfl rfl (by simp; try omega) ?_
      refine d_done (by kernel_rfl) ?_
      rw [Nat.add_sub_cancel_left]
      refine t_seq ?_
      refine p_seq rfl ?_
      refine p_region rfl ?_
      refine wo_pv (pv_move rfl) rfl ?_
      refine q_seq ?_
      refine p_block 2 rfl ?_
      refine p_seq rfl ?_
      refine p_region rfl ?_
      refine wo_pv (pv_eql rfl rfl) rfl ?_
      refine wo_pv (pv_assign rfl) rfl ?_
      refine q_seq ?_
      first | refine p_ite rfl rfl (fun h30 => ?_) (fun h30 => ?_) | refine p_cond rfl rfl (fun h30 => ?_) (fun h30 => ?_)
      · -- t30 True
        refine p_skip rfl ?_
        refine to_block ?_
        refine to_block ?_
        refine to_round ?_
        rw [List.length_append, List.length_singleton, ← hi]
        rw [if_neg (by omega)] at hst
        first
        | (rw [if_pos (show (D.secs.getD i []).getD 31 0 = 1 from (byte_eq _ 1 (by omega)).1 h30)] at hst
           exact ent_cons (ent_step (fold_OpenI (t ++ ((D.secs.getD i []).drop 1).take ((D.secs.getD i []).getD 0 0).toNat) l e ⟨by rw [if_neg (by simp)]; exact hst.symm, by simp only [List.length_append, List.length_take]; omega, hle, by omega⟩ (by exact ⟨rfl, rfl, rfl, rfl, rfl⟩) (by rfl) (by rfl) (by rfl) (by exact ⟨_, _, rfl⟩) (by rfl) (by rfl) (by rfl) (by rfl)) ent_nil))
        | (rw [if_neg (show ¬ ((D.secs.getD i []).getD 31 0 = 1) from fun h => h30 ((byte_eq _ 1 (by omega)).2 h)), if_pos (show (D.secs.getD i []).getD 31 0 = 2 from (byte_eq _ 2 (by omega)).1 h32)] at hst
           exact ent_cons (ent_step (fold_OpenI [] (l ++ [t ++ ((D.secs.getD i []).drop 1).take ((D.secs.getD i []).getD 0 0).toNat]) (i + 1) ⟨by rw [if_neg (by simp)]; exact hst.symm, by simp, by simp only [List.length_append, List.length_singleton]; omega, by omega⟩ (by exact ⟨rfl, rfl, rfl, rfl, rfl⟩) (by rfl) (by rfl) (by rfl) (by exact ⟨_, _, by rw [List.length_append, List.length_singleton]⟩) (by rw [show ((i + 1 : Nat) : Int) = (i : Int) + 1 from by omega]) (by rfl) (by rw [List.length_append, List.length_singleton]) (by rw [List.map_append]; rfl)) ent_nil))
      · -- t30 False
        refine p_seq rfl ?_
        refine p_region rfl ?_
        refine wo_pv (pv_eql rfl rfl) rfl ?_
        refine wo_pv (pv_assign rfl) rfl ?_
        refine q_seq ?_
        first | refine p_ite rfl rfl (fun h32 => ?_) (fun h32 => ?_) | refine p_cond rfl rfl (fun h32 => ?_) (fun h32 => ?_)
        · -- t32 True
          refine p_seq rfl ?_
          refine d_draw rfl rfl rfl [Ce b3 65 [.pointer (some ⟨b11, 0, none⟩)], Ce b4 9 [vS (t ++ ((D.secs.getD i []).drop 1).take ((D.secs.getD i []).getD 0 0).toNat)]] ?_
          refine d_first 0 rfl rfl rfl (by kernel_rfl) (by kernel_rfl) (tl_load Try.underlying65 rfl rfl rfl) ?_
          refine d_first 1 rfl rfl rfl (by kernel_rfl) (by kernel_rfl) (tl_load Try.underlying65 rfl rfl rfl) ?_
          refine d_first 2 rfl rfl rfl (by kernel_rfl) (by kernel_rfl) (tl_pv (by first | exact pv_nilCheck_p rfl | exact pv_nilCheck_f rfl)) ?_
          refine d_first 3 rfl rfl rfl (by kernel_rfl) (by kernel_rfl) (tl_pv (pv_fieldAddrk Try.underlying111 rfl ti46 rfl rfl (k := 1) rfl (by first | exact Nat.zero_add _ | exact Nat.add_zero _ | exact rfl))) ?_
          refine d_first 5 rfl rfl rfl (by kernel_rfl) (by kernel_rfl) (tl_load Try.underlying9 rfl rfl rfl) ?_
          refine d_next2 4 6 (by kernel_rfl) rfl rfl ?_ ?_
          · -- op 4
            refine an_load Try.underlying46 rfl rfl rfl rfl ?_
            refine d_next 6 (by kernel_rfl) rfl ?_
            refine an_buildSliceL [_] (cs := [_]) Try.underlying46 ti9 rfl rfl rfl rfl rfl rfl rfl rfl (fun b40 => ?_)
            refine d_next 7 (by kernel_rfl) rfl ?_
            refine an_append1 (sz := 1) (bytes := 16) Try.underlying46 ti9 rfl rfl rfl rfl rfl rfl rfl (by rfl) (by rfl) (by omega) (by simp only [maxLen]; omega) rfl (fun a41 c41 => ?_)
            refine d_first 8 rfl rfl rfl (by kernel_rfl) (by kernel_rfl) (tl_pv (by first | exact pv_nilCheck_p rfl | exact pv_nilCheck_f rfl)) ?_
            refine d_first 9 rfl rfl rfl (by kernel_rfl) (by kernel_rfl) (tl_pv (pv_fieldAddrk Try.underlying111 rfl ti46 rfl rfl (k := 1) rfl (by first | exact Nat.zero_add _ | exact Nat.add_zero _ | exact rfl))) ?_
            refine d_next 10 (by kernel_rfl) rfl ?_
            refine an_store ti46 rfl rfl rfl rfl (by simp; try omega) ?_
            refine d_done (by kernel_rfl) ?_
            refine t_seq ?_
            refine d_draw rfl rfl rfl [Ce b3 65 [.pointer (some ⟨b11, 0, none⟩)]] ?_
            refine d_first 0 rfl rfl rfl (by kernel_rfl) (by kernel_rfl) (tl_load Try.underlying65 rfl rfl rfl) ?_
            refine d_first 1 rfl rfl rfl (by kernel_rfl) (by kernel_rfl) (tl_pv (pv_move rfl)) ?_
            refine d_first 2 rfl rfl rfl (by kernel_rfl) (by kernel_rfl) (tl_pv (pv_add rfl rfl (by omega))) ?_
            refine d_next 3 (by kernel_rfl) rfl ?_
            refine an_store ti9 rfl rfl rfl rfl (by simp; try omega) ?_
            refine d_first 4 rfl rfl rfl (by kernel_rfl) (by kernel_rfl) (tl_pv (by first | exact pv_nilCheck_p rfl | exact pv_nilCheck_f rfl)) ?_
            refine d_first 5 rfl rfl rfl (by kernel_rfl) (by kernel_rfl) (tl_pv (pv_fieldAddrk Try.underlying111 rfl ti3 rfl rfl (k := 2) rfl (by first | exact Nat.zero_add _ | exact Nat.add_zero _ | exact rfl))) ?_
            refine d_next 6 (by kernel_rfl) rfl ?_
            refine an_store ti3 rfl rfl rfl rfl (by simp; try omega) ?_
            refine d_done (by kernel_rfl) ?_
            refine to_block ?_
            refine to_block ?_
            refine to_round ?_
            rw [List.length_append, List.length_singleton, ← hi]
            rw [if_neg (by omega)] at hst
            first
            | (rw [if_pos (show (D.secs.getD i []).getD 31 0 = 1 from (byte_eq _ 1 (by omega)).1 h30)] at hst
               exact ent_cons (ent_step (fold_OpenI (t ++ ((D.secs.getD i []).drop 1).take ((D.secs.getD i []).getD 0 0).toNat) l e ⟨by rw [if_neg (by simp)]; exact hst.symm, by simp only [List.length_append, List.length_take]; omega, hle, by omega⟩ (by exact ⟨rfl, rfl, rfl, rfl, rfl⟩) (by rfl) (by rfl) (by rfl) (by exact ⟨_, _, rfl⟩) (by rfl) (by rfl) (by rfl) (by rfl)) ent_nil))
            | (rw [if_neg (show ¬ ((D.secs.getD i []).getD 31 0 = 1) from fun h => h30 ((byte_eq _ 1 (by omega)).2 h)), if_pos (show (D.secs.getD i []).getD 31 0 = 2 from (byte_eq _ 2 (by omega)).1 h32)] at hst
               exact ent_cons (ent_step (fold_OpenI [] (l ++ [t ++ ((D.secs.getD i []).drop 1).take ((D.secs.getD i []).getD 0 0).toNat]) (i + 1) ⟨by rw [if_neg (by simp)]; exact hst.symm, by simp, by simp only [List.length_append, List.length_singleton]; omega, by omega⟩ (by exact ⟨rfl, rfl, rfl, rfl, rfl⟩) (by rfl) (by rfl) (by rfl) (by exact ⟨_, _, by rw [List.length_append, List.length_singleton]⟩) (by rw [show ((i + 1 : Nat) : Int) = (i : Int) + 1 from by omega]) (by rfl) (by rw [List.length_append, List.length_singleton]) (by rw [List.map_append]; rfl)) ent_nil))
          · -- op 6
            refine an_buildSliceL [_] (cs := [_]) Try.underlying46 ti9 rfl rfl rfl rfl rfl rfl rfl rfl (fun b40 => ?_)
            refine d_next 4 (by kernel_rfl) rfl ?_
            refine an_load Try.underlying46 rfl rfl rfl rfl ?_
            refine d_next 7 (by kernel_rfl) rfl ?_
            refine an_append1 (sz := 1) (bytes := 16) Try.underlying46 ti9 rfl rfl rfl rfl rfl rfl rfl (by rfl) (by rfl) (by omega) (by simp only [maxLen]; omega) rfl (fun a41 c41 => ?_)
            refine d_first 8 rfl rfl rfl (by kernel_rfl) (by kernel_rfl) (tl_pv (by first | exact pv_nilCheck_p rfl | exact pv_nilCheck_f rfl)) ?_
            refine d_first 9 rfl rfl rfl (by kernel_rfl) (by kernel_rfl) (tl_pv (pv_fieldAddrk Try.underlying111 rfl ti46 rfl rfl (k := 1) rfl (by first | exact Nat.zero_add _ | exact Nat.add_zero _ | exact rfl))) ?_
            refine d_next 10 (by kernel_rfl) rfl ?_
            refine an_store ti46 rfl rfl rfl rfl (by simp; try omega) ?_
            refine d_done (by kernel_rfl) ?_
            refine t_seq ?_
            refine d_draw rfl rfl rfl [Ce b3 65 [.pointer (some ⟨b11, 0, none⟩)]] ?_
            refine d_first 0 rfl rfl rfl (by kernel_rfl) (by kernel_rfl) (tl_load Try.underlying65 rfl rfl rfl) ?_
            refine d_first 1 rfl rfl rfl (by kernel_rfl) (by kernel_rfl) (tl_pv (pv_move rfl)) ?_
            refine d_first 2 rfl rfl rfl (by kernel_rfl) (by kernel_rfl) (tl_pv (pv_add rfl rfl (by omega))) ?_
            refine d_next 3 (by kernel_rfl) rfl ?_
            refine an_store ti9 rfl rfl rfl rfl (by simp; try omega) ?_
            refine d_first 4 rfl rfl rfl (by kernel_rfl) (by kernel_rfl) (tl_pv (by first | exact pv_nilCheck_p rfl | exact pv_nilCheck_f rfl)) ?_
            refine d_first 5 rfl rfl rfl (by kernel_rfl) (by kernel_rfl) (tl_pv (pv_fieldAddrk Try.underlying111 rfl ti3 rfl rfl (k := 2) rfl (by first | exact Nat.zero_add _ | exact Nat.add_zero _ | exact rfl))) ?_
            refine d_next 6 (by kernel_rfl) rfl ?_
            refine an_store ti3 rfl rfl rfl rfl (by simp; try omega) ?_
            refine d_done (by kernel_rfl) ?_
            refine to_block ?_
            refine to_block ?_
            refine to_round ?_
            rw [List.length_append, List.length_singleton, ← hi]
            rw [if_neg (by omega)] at hst
            first
            | (rw [if_pos (show (D.secs.getD i []).getD 31 0 = 1 from (byte_eq _ 1 (by omega)).1 h30)] at hst
               exact ent_cons (ent_step (fold_OpenI (t ++ ((D.secs.getD i []).drop 1).take ((D.secs.getD i []).getD 0 0).toNat) l e ⟨by rw [if_neg (by simp)]; exact hst.symm, by simp only [List.length_append, List.length_take]; omega, hle, by omega⟩ (by exact ⟨rfl, rfl, rfl, rfl, rfl⟩) (by rfl) (by rfl) (by rfl) (by exact ⟨_, _, rfl⟩) (by rfl) (by rfl) (by rfl) (by rfl)) ent_nil))
            | (rw [if_neg (show ¬ ((D.secs.getD i []).getD 31 0 = 1) from fun h => h30 ((byte_eq _ 1 (by omega)).2 h)), if_pos (show (D.secs.getD i []).getD 31 0 = 2 from (byte_eq _ 2 (by omega)).1 h32)] at hst
               exact ent_cons (ent_step (fold_OpenI [] (l ++ [t ++ ((D.secs.getD i []).drop 1).take ((D.secs.getD i []).getD 0 0).toNat]) (i + 1) ⟨by rw [if_neg (by simp)]; exact hst.symm, by simp, by simp only [List.length_append, List.length_singleton]; omega, by omega⟩ (by exact ⟨rfl, rfl, rfl, rfl, rfl⟩) (by rfl) (by rfl) (by rfl) (by exact ⟨_, _, by rw [List.length_append, List.length_singleton]⟩) (by rw [show ((i + 1 : Nat) : Int) = (i : Int) + 1 from by omega]) (by rfl) (by rw [List.length_append, List.length_singleton]) (by rw [List.map_append]; rfl)) ent_nil))
        · -- t32 False
          refine p_exit 0 rfl ?_
          refine to_block_other rfl ?_
          refine to_block_other rfl ?_
          refine to_round_exit 0 ?_
          have hfin : (l, e) = scanD D := by
            rw [hst]
            by_cases hh : 30 < ((D.secs.getD i []).getD 0 0).toNat
            · rw [if_pos hh]
            · first
              | (exfalso; omega)
              | rw [if_neg hh, if_neg (show ¬ ((D.secs.getD i []).getD 31 0 = 1) from fun h => h30 ((byte_eq _ 1 (by omega)).2 h)), if_neg (show ¬ ((D.secs.getD i []).getD 31 0 = 2) from fun h => h32 ((byte_eq _ 2 (by omega)).2 h))]
          show Ent _ [IsD p D, OpenI p b11 b3 b4 D true (pre ++ [i]).length]
          rw [List.length_append, List.length_singleton, ← hi]
          first
          | exact ent_cons (ent_step (fold_OpenI t l e ⟨by rw [if_pos rfl]; exact hfin, by omega, hle, by omega⟩ (by exact ⟨rfl, rfl, rfl, rfl, rfl⟩) (by rfl) (by rfl) (by rfl) (by exact ⟨_, _, rfl⟩) (by rfl) (by rfl) (by rfl) (by rfl)) ent_nil)
          | exact ent_cons (ent_step (fold_OpenI (t ++ ((D.secs.getD i []).drop 1).take ((D.secs.getD i []).getD 0 0).toNat) l e ⟨by rw [if_pos rfl]; exact hfin, by simp only [List.length_append, List.length_take]; omega, hle, by omega⟩ (by exact ⟨rfl, rfl, rfl, rfl, rfl⟩) (by rfl) (by rfl) (by rfl) (by exact ⟨_, _, rfl⟩) (by rfl) (by rfl) (by rfl) (by rfl)) ent_nil)
  · -- behind
    rw [List.length_range]
    refine tw_ent (Gs := [OpenI p b11 b3 b4 D false D.secs.length, IsD p D]) ent_pick ?_
    refine tw_ent (openI_more (fin' := true) (fun t l e h => by rw [if_neg (by simp), List.drop_length, scanS] at h; rw [if_pos rfl]; exact h) (Nat.le_refl _)) ?_
    refine to_block ?_
    refine t_seq ?_
    refine p_seq rfl ?_
    refine wc_front (OpenI p b11 b3 b4 D true D.secs.length) (wc_exi fun a => wc_exi fun c => wc_exi fun t => wc_exi fun l => wc_exi fun e => wc_al (wc_pu fun hq => ?_))
    rw [if_pos rfl] at hq
    refine p_region rfl ?_
    refine r_load Try.underlying65 rfl rfl rfl rfl ?_
    refine wo_pv (pv_assign rfl) rfl ?_
    refine q_seq ?_
    refine p_ret rfl ?_
    refine t_scope_ret ?_
    refine fin_ret b11 (vs := [_]) (Cs := []) rfl (.tmp rfl .nil) rfl trivial ?_
    have h1 : l = (openJ D).l := congrArg Prod.fst hq.1
    have h2 : e = (openJ D).e := congrArg Prod.snd hq.1
    exact ent_step (fold_isJ (openJ D) (by rfl) (by exact ⟨rfl, rfl⟩) (by rfl) (by exact ⟨a, c, by rw [h1]⟩) (by rw [h2]) (by rfl) (by rw [h1]) (by rw [h1])) ent_pick
  · -- stopped
    obtain ⟨m, _, hm2, rfl⟩ := hs
    rcases j with _ | _ | j
    · exact wc_no (fun s => by obtain ⟨_, _, _, _, a, _⟩ := s; exact a)
    · rw [List.length_range]
      refine wc_ent0 (Gs := [OpenI p b11 b3 b4 D true m, IsD p D]) (show Ent ([IsD p D, OpenI p b11 b3 b4 D true m] ++ _) _ from ent_pick) ?_
      refine wc_ent0 (openI_more (fin' := true) (k' := D.secs.length) (fun t l e h => h) hm2) ?_
      refine p_exit 0 rfl ?_
      refine to_block_here ?_
      refine t_seq ?_
      refine p_seq rfl ?_
      refine wc_front (OpenI p b11 b3 b4 D true D.secs.length) (wc_exi fun a => wc_exi fun c => wc_exi fun t => wc_exi fun l => wc_exi fun e => wc_al (wc_pu fun hq => ?_))
      rw [if_pos rfl] at hq
      refine p_region rfl ?_
      refine r_load Try.underlying65 rfl rfl rfl rfl ?_
      refine wo_pv (pv_assign rfl) rfl ?_
      refine q_seq ?_
      refine p_ret rfl ?_
      refine t_scope_ret ?_
      refine fin_ret b11 (vs := [_]) (Cs := []) rfl (.tmp rfl .nil) rfl trivial ?_
      have h1 : l = (openJ D).l := congrArg Prod.fst hq.1
      have h2 : e = (openJ D).e := congrArg Prod.snd hq.1
      exact ent_step (fold_isJ (openJ D) (by rfl) (by exact ⟨rfl, rfl⟩) (by rfl) (by exact ⟨a, c, by rw [h1]⟩) (by rw [h2]) (by rfl) (by rw [h1]) (by rw [h1])) ent_pick
    · exact wc_no (fun s => by obtain ⟨_, _, _, _, a, _⟩ := s; exact a)
end Go.Proofs.Ytimafngkifakfaa

/- Package journal: All, Commit. -/
set_option maxRecDepth 100000
namespace Go.Proofs.Ytimafngkifakfaa

theorem journal_All_sp (q p : Nat) (J : Jn) (hb : J.l.length ≤ 8796093022208) : Sp Try.prog 36 [.pointer (some ⟨q, 0, none⟩)] [IsJ q p J] (X := Nat × Option Addr × Nat) (fun x => .func (.func 76) #[] #[.pointer (some ⟨x.1, 0, none⟩)]) (fun _ => True)
    (fun x => [IsJ q p J, Ce x.1 46 [.slice x.2.1 J.l.length x.2.2], SlI x.2.1 (J.l.map vS)]) := by
  refine Sp.body (n := 9) Try.call36 Try.func36 rfl rfl rfl ?_
  refine wc_exi fun a => wc_exi fun c => wc_al ?_
  refine wc_know (A := Row 9 1 (.slice a J.l.length c) J.l.length (J.l.map vS)) (.there .here) row_none (fun hnone => ?_)
  refine p_seq rfl ?_
  refine p_region rfl ?_
  refine wo_pv (pv_assign rfl) rfl ?_
  refine q_seq ?_
  refine p_seq rfl ?_
  refine p_region rfl ?_
  refine wo_pv (pv_move rfl) rfl ?_
  refine wo_pv (by first | exact pv_nilCheck_p rfl | exact pv_nilCheck_f rfl) rfl ?_
  refine wo_pv (pv_fieldAddrk Try.underlying111 rfl ti46 rfl rfl (k := 1) rfl (by first | exact Nat.zero_add _ | exact Nat.add_zero _ | exact rfl)) rfl ?_
  refine r_load Try.underlying46 rfl rfl rfl rfl ?_
  refine r_callX (slices_Clone_sp J.l.length c J.l (sla_row (e := 9) (sz := 1) (k := J.l.length) (n := J.l.length) (c := c)) rfl hnone (by omega)) rfl rfl rfl (fun x7 _ => ?_)
  obtain ⟨a7, c7⟩ := x7
  dsimp only
  refine wo_frz a7 ?_
  refine r_callX (slices_Values_sp a7 J.l.length c7) rfl rfl rfl (fun b8 _ => ?_)
  refine wo_pv (pv_assign rfl) rfl ?_
  refine q_seq ?_
  refine p_ret rfl ?_
  refine fin_ret (b8, a7, c7) (vs := [_]) (Cs := []) rfl (.tmp rfl .nil) rfl trivial ?_
  refine ent_step (fold_isJ J (by rfl) (by exact ⟨rfl, rfl⟩) (by rfl) (by exact ⟨_, _, rfl⟩) (by rfl) (by rfl) (by rfl) (by rfl)) ?_
  exact ent_pick

theorem writes_snoc : ∀ (ps : List Bs) (D : Dk) (i : Nat) (p : Bs), (D.writes i ps).2 = true → D.writes i (ps ++ [p]) = (D.writes i ps).1.write (((i + ps.length : Nat)) : Int) p := by
  intro ps
  induction ps with
  | nil =>
    intro D i p _
    simp only [List.nil_append, Dk.writes, List.length_nil, Nat.add_zero]
    split <;> simp_all [Dk.writes]
  | cons x r ih =>
    intro D i p h
    simp only [List.cons_append, Dk.writes] at h ⊢
    split at h
    · rename_i D' e
      rw [ih D' (i + 1) p h, List.length_cons]
      congr 2; omega
    · cases h
theorem write_left (D : Dk) (i : Int) (s : Bs) : (D.write i s).1.secs.length = D.secs.length ∧ D.left - 1 ≤ (D.write i s).1.left ∧ (D.write i s).1.left ≤ D.left := by
  simp only [Dk.write]
  split
  · dsimp only; omega
  · split
    · simp only [List.length_set, true_and]; omega
    · simp only [List.length_set, true_and]; omega
theorem writes_left : ∀ (ps : List Bs) (D : Dk) (i : Nat), (D.writes i ps).1.secs.length = D.secs.length ∧ D.left - ps.length ≤ (D.writes i ps).1.left ∧ (D.writes i ps).1.left ≤ D.left := by
  intro ps
  induction ps with
  | nil => intro D i; simp [Dk.writes]
  | cons x r ih =>
    intro D i
    have h1 := write_left D i x
    simp only [Dk.writes, List.length_cons]
    split
    · rename_i D' e
      rw [e] at h1
      have h2 := ih D' (i + 1)
      dsimp only at h1
      omega
    · rename_i D' e
      rw [e] at h1
      dsimp only at h1 ⊢
      omega
theorem writes_more : ∀ (ps rs : List Bs) (D : Dk) (i : Nat), (D.writes i ps).2 = false → D.writes i (ps ++ rs) = D.writes i ps := by
  intro ps
  induction ps with
  | nil => intro rs D i h; simp [Dk.writes] at h
  | cons x r ih =>
    intro rs D i h
    simp only [List.cons_append, Dk.writes] at h ⊢
    split at h
    · rename_i D' e
      rw [ih rs D' (i + 1) h]
    · rfl

theorem writes_take {ps : List Bs} {D : Dk} {e j : Nat} (hj : j < ps.length) (h : (D.writes e (ps.take j)).2 = true) : D.writes e (ps.take (j + 1)) = (D.writes e (ps.take j)).1.write ((e : Int) + (j : Int)) ps[j] := by
  rw [List.take_succ_eq_append_getElem hj, writes_snoc _ _ _ _ h, List.length_take, Nat.min_eq_left (by omega)]
  congr 1
theorem writes_fail {ps : List Bs} {D : Dk} {e j : Nat} (h : (D.writes e (ps.take j)).2 = false) : D.writes e ps = D.writes e (ps.take j) := by
  have := writes_more (ps.take j) (ps.drop j) D e h
  rw [List.take_append_drop] at this
  exact this
theorem journal_Commit_sp (q p : Nat) (J : Jn) (D : Dk) (s : List UInt8) (hs : s.length ≤ 4398046511104) (hl : -1152921504606846976 ≤ D.left ∧ D.left ≤ 9223372036854775807) (he : J.e ≤ 1099511627776) (hjl : J.l.length ≤ 1099511627776) :
    Sp1 Try.prog 39 [.pointer (some ⟨q, 0, none⟩), vS s] [IsJ q p J, IsD p D] (vI (commitJ J D s).2.2) [IsJ q p (commitJ J D s).1, IsD p (commitJ J D s).2.1] := by
  refine Sp.body (n := 71) Try.call39 Try.func39 rfl rfl rfl ?_
  refine wc_know (A := IsD p D) (.there .here) ok_len (fun ok => ?_)
  have hm := ok.many
  have hpl := piecesS_len s
  refine wc_exi fun a => wc_exi fun c => wc_al ?_
  refine p_seq rfl ?_
  refine p_region rfl ?_
  refine wo_pv (pv_assign rfl) rfl ?_
  refine q_seq ?_
  refine p_seq rfl ?_
  refine p_seq rfl ?_
  refine p_region rfl ?_
  refine wo_pv (pv_move rfl) rfl ?_
  refine wo_pv (by first | exact pv_nilCheck_p rfl | exact pv_nilCheck_f rfl) rfl ?_
  refine wo_pv (pv_fieldAddrk Try.underlying111 rfl ti4 rfl rfl (k := 3) rfl (by first | exact Nat.zero_add _ | exact Nat.add_zero _ | exact rfl)) rfl ?_
  refine r_load Try.underlying4 rfl rfl rfl rfl ?_
  refine q_seq ?_
  first | refine p_ite rfl rfl (fun h11 => ?_) (fun h11 => ?_) | refine p_cond rfl rfl (fun h11 => ?_) (fun h11 => ?_)
  · -- t11 True
    refine p_seq rfl ?_
    refine p_region rfl ?_
    refine wo_pv (pv_assign rfl) rfl ?_
    refine q_seq ?_
    refine p_ret rfl ?_
    refine t_seq_ret ?_
    have hw : commitJ J D s = (J, D, 9) := by rw [commitJ, if_pos h11]
    rw [hw]
    refine fin_ret () (vs := [_]) (Cs := []) rfl (.tmp rfl .nil) rfl trivial ?_
    exact ent_step (fold_isJ J (by rfl) (by exact ⟨rfl, rfl⟩) (by rfl) (by exact ⟨_, _, rfl⟩) (by rfl) (by rfl) (by rfl) (by rfl)) ent_pick
  · -- t11 False
    refine p_skip rfl ?_
    refine t_seq ?_
    refine p_seq rfl ?_
    refine p_region rfl ?_
    refine wo_pv (pv_move rfl) rfl ?_
    refine r_callX (journal_Pieces_sp s hs) rfl rfl rfl (fun x13 _ => ?_)
    obtain ⟨a13, c13⟩ := x13
    dsimp only
    refine wo_frz a13 ?_
    generalize hps : piecesS s = ps at *
    refine wo_pv (pv_assign rfl) rfl ?_
    refine q_seq ?_
    refine p_seq rfl ?_
    refine p_seq rfl ?_
    refine d_draw rfl rfl rfl [Ce q 111 [.pointer (some ⟨p, 0, none⟩), .slice a J.l.length c, vI J.e, vB J.down]] ?_
    refine d_first 0 rfl rfl rfl (by kernel_rfl) (by kernel_rfl) (tl_pv (pv_move rfl)) ?_
    refine d_first 1 rfl rfl rfl (by kernel_rfl) (by kernel_rfl) (tl_pv (pv_call_len_sl Try.underlying46 rfl)) ?_
    refine d_first 2 rfl rfl rfl (by kernel_rfl) (by kernel_rfl) (tl_pv (pv_move rfl)) ?_
    refine d_first 3 rfl rfl rfl (by kernel_rfl) (by kernel_rfl) (tl_pv (by first | exact pv_nilCheck_p rfl | exact pv_nilCheck_f rfl)) ?_
    refine d_first 4 rfl rfl rfl (by kernel_rfl) (by kernel_rfl) (tl_pv (pv_fieldAddrk Try.underlying111 rfl ti22 rfl rfl (k := 0) rfl (by first | exact Nat.zero_add _ | exact Nat.add_zero _ | exact rfl))) ?_
    refine d_first 5 rfl rfl rfl (by kernel_rfl) (by kernel_rfl) (tl_load Try.underlying22 rfl rfl rfl) ?_
    refine d_first 7 rfl rfl rfl (by kernel_rfl) (by kernel_rfl) (tl_pv (pv_move rfl)) ?_
    refine d_first 8 rfl rfl rfl (by kernel_rfl) (by kernel_rfl) (tl_pv (by first | exact pv_nilCheck_p rfl | exact pv_nilCheck_f rfl)) ?_
    refine d_first 9 rfl rfl rfl (by kernel_rfl) (by kernel_rfl) (tl_pv (pv_fieldAddrk Try.underlying111 rfl ti3 rfl rfl (k := 2) rfl (by first | exact Nat.zero_add _ | exact Nat.add_zero _ | exact rfl))) ?_
    refine d_first 10 rfl rfl rfl (by kernel_rfl) (by kernel_rfl) (tl_load Try.underlying3 rfl rfl rfl) ?_
    refine d_next 6 (by kernel_rfl) rfl ?_
    refine an_call1 (disk_Sectors_sp p D) rfl rfl rfl ?_
    refine d_first 11 rfl rfl rfl (by kernel_rfl) (by kernel_rfl) (tl_pv (pv_sub rfl rfl (by omega))) ?_
    refine d_first 12 rfl rfl rfl (by kernel_rfl) (by kernel_rfl) (tl_pv (pv_gtr rfl rfl)) ?_
    refine d_done (by kernel_rfl) ?_
    refine t_seq ?_
    first | refine p_ite rfl rfl (fun h26 => ?_) (fun h26 => ?_) | refine p_cond rfl rfl (fun h26 => ?_) (fun h26 => ?_)
    · -- t26 True
      refine p_seq rfl ?_
      refine p_region rfl ?_
      refine wo_pv (pv_assign rfl) rfl ?_
      refine q_seq ?_
      refine p_ret rfl ?_
      refine t_seq_ret ?_
      have hw : commitJ J D s = (J, D, 6) := by rw [commitJ, if_neg (by rw [h11]; simp), if_pos (by rw [hps]; exact h26)]
      rw [hw]
      refine fin_ret () (vs := [_]) (Cs := []) rfl (.tmp rfl .nil) rfl trivial ?_
      exact ent_step (fold_isJ J (by rfl) (by exact ⟨rfl, rfl⟩) (by rfl) (by exact ⟨_, _, rfl⟩) (by rfl) (by rfl) (by rfl) (by rfl)) ent_pick
    · -- t26 False
      refine p_skip rfl ?_
      refine t_seq ?_
      refine p_seq rfl ?_
      refine p_seq rfl ?_
      refine p_region rfl ?_
      refine wo_pv (pv_move rfl) rfl ?_
      refine wo_pv (pv_call_len_sl Try.underlying46 rfl) rfl ?_
      refine wo_pv (pv_move rfl) rfl ?_
      refine q_seq ?_
      refine p_block 0 rfl ?_
      refine p_loop (fun (i : { j : Nat // j ≤ ps.length ∧ (D.writes J.e (ps.take j)).2 = true }) => [(0, .pointer (some ⟨q, 0, none⟩)), (1, vS s), (5, .slice a13 ps.length c13), (27, .slice a13 ps.length c13), (28, vI ps.length), (29, vI i.1)]) (fun (i : { j : Nat // j ≤ ps.length ∧ (D.writes J.e (ps.take j)).2 = true }) => [Ce q 111 [.pointer (some ⟨p, 0, none⟩), .slice a J.l.length c, vI J.e, vB J.down], Row 9 1 (.slice a J.l.length c) J.l.length (J.l.map vS), IsD p (D.writes J.e (ps.take i.1)).1, SlI a13 (ps.map vS)]) (fun (i : { j : Nat // j ≤ ps.length ∧ (D.writes J.e (ps.take j)).2 = true }) => ps.length - i.1) rfl (⟨0, Nat.zero_le _, rfl⟩) ?_ ?_ (fun i => ?_)
      · exact ⟨rfl, rfl, rfl, rfl, rfl, rfl, trivial⟩
      · -- H at start
        show Ent _ [Ce q 111 [.pointer (some ⟨p, 0, none⟩), .slice a J.l.length c, vI J.e, vB J.down], Row 9 1 (.slice a J.l.length c) J.l.length (J.l.map vS), IsD p D, SlI a13 (ps.map vS)]
        exact ent_pick
      obtain ⟨j, hj, hw⟩ := i
      have hwl := writes_left (ps.take j) D J.e
      rw [List.length_take] at hwl
      generalize hD : (D.writes J.e (ps.take j)).1 = D' at *
      try dsimp only
      refine p_seq rfl ?_
      refine p_region rfl ?_
      refine wo_pv (pv_lss rfl rfl) rfl ?_
      refine q_seq ?_
      refine p_seq rfl ?_
      first | refine p_ite rfl rfl (fun h30 => ?_) (fun h30 => ?_) | refine p_cond rfl rfl (fun h30 => ?_) (fun h30 => ?_)
      · -- t30 True
        refine p_skip rfl ?_
        refine t_seq ?_
        refine p_seq rfl ?_
        refine p_block 1 rfl ?_
        refine p_seq rfl ?_
        refine p_region rfl ?_
        refine wo_pv (pv_move rfl) rfl ?_
        refine r_elemAddr (sz := 1) Try.underlying46 ti9 rfl rfl rfl rfl (by omega) (by first | (rw [List.length_map]; omega) | (rw [flat_len (sz := 1) (fun _ => rfl)]; omega) | (simp; omega)) (Nat.mul_one _) rfl ?_
        refine r_eload Try.underlying9 rfl rfl (get_map (by omega)) rfl ?_
        refine wo_pv (pv_assign rfl) rfl ?_
        refine wo_pv (pv_assign rfl) rfl ?_
        refine q_seq ?_
        refine p_seq rfl ?_
        refine d_draw rfl rfl rfl [Ce q 111 [.pointer (some ⟨p, 0, none⟩), .slice a J.l.length c, vI J.e, vB J.down]] ?_
        refine d_first 0 rfl rfl rfl (by kernel_rfl) (by kernel_rfl) (tl_pv (pv_move rfl)) ?_
        refine d_first 1 rfl rfl rfl (by kernel_rfl) (by kernel_rfl) (tl_pv (by first | exact pv_nilCheck_p rfl | exact pv_nilCheck_f rfl)) ?_
        refine d_first 2 rfl rfl rfl (by kernel_rfl) (by kernel_rfl) (tl_pv (pv_fieldAddrk Try.underlying111 rfl ti22 rfl rfl (k := 0) rfl (by first | exact Nat.zero_add _ | exact Nat.add_zero _ | exact rfl))) ?_
        refine d_first 3 rfl rfl rfl (by kernel_rfl) (by kernel_rfl) (tl_load Try.underlying22 rfl rfl rfl) ?_
        refine d_first 4 rfl rfl rfl (by kernel_rfl) (by kernel_rfl) (tl_pv (pv_move rfl)) ?_
        refine d_first 5 rfl rfl rfl (by kernel_rfl) (by kernel_rfl) (tl_pv (by first | exact pv_nilCheck_p rfl | exact pv_nilCheck_f rfl)) ?_
        refine d_first 6 rfl rfl rfl (by kernel_rfl) (by kernel_rfl) (tl_pv (pv_fieldAddrk Try.underlying111 rfl ti3 rfl rfl (k := 2) rfl (by first | exact Nat.zero_add _ | exact Nat.add_zero _ | exact rfl))) ?_
        refine d_first 7 rfl rfl rfl (by kernel_rfl) (by kernel_rfl) (tl_load Try.underlying3 rfl rfl rfl) ?_
        refine d_first 8 rfl rfl rfl (by kernel_rfl) (by kernel_rfl) (tl_pv (pv_move rfl)) ?_
        refine d_first 9 rfl rfl rfl (by kernel_rfl) (by kernel_rfl) (tl_pv (pv_add rfl rfl (by omega))) ?_
        refine d_first 10 rfl rfl rfl (by kernel_rfl) (by kernel_rfl) (tl_pv (pv_move rfl)) ?_
        refine d_next 11 (by kernel_rfl) rfl ?_
        refine an_call1 (disk_Write_sp p D' ((J.e : Int) + (j : Int)) (ps[j]'(by omega)) (by rw [piecesS_mem (s := s) (p := ps[j]'(by omega)) (by rw [hps]; exact List.getElem_mem _)]; omega) (by omega)) rfl rfl rfl ?_
        refine d_first 12 rfl rfl rfl (by kernel_rfl) (by kernel_rfl) (tl_pv (by first | exact pv_notd rfl | exact pv_not rfl)) ?_
        refine d_done (by kernel_rfl) ?_
        have hwt := writes_take (ps := ps) (D := D) (e := J.e) (j := j) (by omega) hw
        rw [hD] at hwt
        refine t_seq ?_
        first | refine p_ite rfl rfl (fun h46 => ?_) (fun h46 => ?_) | refine p_cond rfl rfl (fun h46 => ?_) (fun h46 => ?_)
        · -- t46 True
          refine p_seq rfl ?_
          refine p_region rfl ?_
          refine wo_pv (pv_move rfl) rfl ?_
          refine wo_pv (by first | exact pv_nilCheck_p rfl | exact pv_nilCheck_f rfl) rfl ?_
          refine wo_pv (pv_fieldAddrk Try.underlying111 rfl ti4 rfl rfl (k := 3) rfl (by first | exact Nat.zero_add _ | exact Nat.add_zero _ | exact rfl)) rfl ?_
          refine r_store ti4 rfl rfl rfl rfl (by simp; try omega) ?_
          refine q_seq ?_
          refine p_seq rfl ?_
          refine p_region rfl ?_
          refine wo_pv (pv_assign rfl) rfl ?_
          refine q_seq ?_
          refine p_ret rfl ?_
          refine to_block_ret ?_
          refine t_seq_ret ?_
          refine to_inv_ret ?_
          refine to_block_ret ?_
          refine t_seq_ret ?_
          have hw1 : (D.writes J.e (ps.take (j + 1))).2 = false := by rw [hwt]; simpa using h46
          have hw2 := writes_fail hw1
          have hcm : commitJ J D s = (⟨J.l, J.e, true⟩, (D'.write ((J.e : Int) + (j : Int)) (ps[j]'(by omega))).1, 9) := by
            rw [commitJ, if_neg (by rw [h11]; simp), if_neg (by rw [hps]; exact h26), hps, hw2, hwt]
            rw [hwt] at hw1
            revert hw1
            cases D'.write ((J.e : Int) + (j : Int)) (ps[j]'(by omega)) with
            | mk x y => intro hy; dsimp only at hy; subst hy; rfl
          rw [hcm]
          refine fin_ret () (vs := [_]) (Cs := []) rfl (.tmp rfl .nil) rfl trivial ?_
          exact ent_step (fold_isJ ⟨J.l, J.e, true⟩ (by rfl) (by exact ⟨rfl, rfl⟩) (by rfl) (by exact ⟨_, _, rfl⟩) (by rfl) (by rfl) (by rfl) (by rfl)) ent_pick
        · -- t46 False
          refine p_skip rfl ?_
          refine to_block ?_
          refine t_seq ?_
          refine p_region rfl ?_
          refine wo_pv (pv_add rfl rfl (by omega)) rfl ?_
          refine wo_pv (pv_move rfl) rfl ?_
          refine wo_nil ?_
          have hw1 : (D.writes J.e (ps.take (j + 1))).2 = true := by rw [hwt]; simpa using h46
          refine to_inv ⟨j + 1, by omega, hw1⟩ ?_ ⟨rfl, rfl, rfl, rfl, rfl, rfl, trivial⟩ ?_
          · dsimp only; omega
          · dsimp only; rw [hwt]; exact ent_pick
      · -- t30 False
        refine p_exit 0 rfl ?_
        refine t_seq_exit ?_
        refine to_inv_exit ?_
        refine to_block_here ?_
        refine t_seq ?_
        refine p_seq rfl ?_
        refine d_draw rfl rfl rfl [] ?_
        refine d_first 0 rfl rfl rfl (by kernel_rfl) (by kernel_rfl) (tl_pv (pv_move rfl)) ?_
        refine d_first 1 rfl rfl rfl (by kernel_rfl) (by kernel_rfl) (tl_pv (pv_move rfl)) ?_
        refine d_first 2 rfl rfl rfl (by kernel_rfl) (by kernel_rfl) (tl_pv (pv_move rfl)) ?_
        refine d_first 3 rfl rfl rfl (by kernel_rfl) (by kernel_rfl) (tl_pv (by first | exact pv_nilCheck_p rfl | exact pv_nilCheck_f rfl)) ?_
        refine d_first 4 rfl rfl rfl (by kernel_rfl) (by kernel_rfl) (tl_pv (pv_fieldAddrk Try.underlying111 rfl ti46 rfl rfl (k := 1) rfl (by first | exact Nat.zero_add _ | exact Nat.add_zero _ | exact rfl))) ?_
        refine d_first 6 rfl rfl rfl (by kernel_rfl) (by kernel_rfl) (tl_pv (pv_move rfl)) ?_
        refine d_first 9 rfl rfl rfl (by kernel_rfl) (by kernel_rfl) (tl_pv (pv_move rfl)) ?_
        refine d_first 10 rfl rfl rfl (by kernel_rfl) (by kernel_rfl) (tl_pv (by first | exact pv_nilCheck_p rfl | exact pv_nilCheck_f rfl)) ?_
        refine d_first 11 rfl rfl rfl (by kernel_rfl) (by kernel_rfl) (tl_pv (pv_fieldAddrk Try.underlying111 rfl ti3 rfl rfl (k := 2) rfl (by first | exact Nat.zero_add _ | exact Nat.add_zero _ | exact rfl))) ?_
        refine d_first 13 rfl rfl rfl (by kernel_rfl) (by kernel_rfl) (tl_pv (pv_move rfl)) ?_
        refine d_first 14 rfl rfl rfl (by kernel_rfl) (by kernel_rfl) (tl_pv (pv_call_len_sl Try.underlying46 rfl)) ?_
        refine d_next3 5 7 12 (by kernel_rfl) rfl rfl rfl ?_ ?_ ?_
        · -- op 5
          refine an_load Try.underlying46 rfl rfl rfl rfl ?_
          refine d_next2 7 12 (by kernel_rfl) rfl rfl ?_ ?_
          · -- op 7
            refine an_buildSliceL [_] (cs := [_]) Try.underlying46 ti9 rfl rfl rfl rfl rfl rfl rfl rfl (fun b58 => ?_)
            refine d_next2 8 12 (by kernel_rfl) rfl rfl ?_ ?_
            · -- op 8
              refine an_append1 (sz := 1) (bytes := 16) Try.underlying46 ti9 rfl rfl rfl rfl rfl rfl rfl (by rfl) (by rfl) (by omega) (by simp only [maxLen]; omega) rfl (fun a59 c59 => ?_)
              refine d_next 12 (by kernel_rfl) rfl ?_
              refine an_load Try.underlying3 rfl rfl rfl rfl ?_
              refine d_first 15 rfl rfl rfl (by kernel_rfl) (by kernel_rfl) (tl_pv (pv_add rfl rfl (by omega))) ?_
              refine d_first 16 rfl rfl rfl (by kernel_rfl) (by kernel_rfl) (tl_pv (by first | exact pv_nilCheck_p rfl | exact pv_nilCheck_f rfl)) ?_
              refine d_first 17 rfl rfl rfl (by kernel_rfl) (by kernel_rfl) (tl_pv (pv_fieldAddrk Try.underlying111 rfl ti46 rfl rfl (k := 1) rfl (by first | exact Nat.zero_add _ | exact Nat.add_zero _ | exact rfl))) ?_
              refine d_next 18 (by kernel_rfl) rfl ?_
              refine an_store ti46 rfl rfl rfl rfl (by simp; try omega) ?_
              refine d_first 19 rfl rfl rfl (by kernel_rfl) (by kernel_rfl) (tl_pv (by first | exact pv_nilCheck_p rfl | exact pv_nilCheck_f rfl)) ?_
              refine d_first 20 rfl rfl rfl (by kernel_rfl) (by kernel_rfl) (tl_pv (pv_fieldAddrk Try.underlying111 rfl ti3 rfl rfl (k := 2) rfl (by first | exact Nat.zero_add _ | exact Nat.add_zero _ | exact rfl))) ?_
              refine d_next 21 (by kernel_rfl) rfl ?_
              refine an_store ti3 rfl rfl rfl rfl (by simp; try omega) ?_
              refine d_done (by kernel_rfl) ?_
              refine t_seq ?_
              refine p_seq rfl ?_
              refine p_region rfl ?_
              refine wo_pv (pv_assign rfl) rfl ?_
              refine q_seq ?_
              refine p_ret rfl ?_
              have hjl : j = ps.length := by omega
              subst hjl
              rw [List.take_length] at hw hD
              have hcm : commitJ J D s = (⟨J.l ++ [s], J.e + ps.length, false⟩, D', 0) := by
                rw [commitJ, if_neg (by rw [h11]; simp), if_neg (by rw [hps]; exact h26), hps, ← hD]
                revert hw
                cases D.writes J.e ps with
                | mk x y => intro hy; dsimp only at hy; subst hy; rfl
              rw [hcm]
              refine fin_ret () (vs := [_]) (Cs := []) rfl (.tmp rfl .nil) rfl trivial ?_
              exact ent_step (fold_isJ ⟨J.l ++ [s], J.e + ps.length, false⟩ (by rfl) (by exact ⟨rfl, rfl⟩) (by rfl) (by exact ⟨_, _, by rw [List.length_append, List.length_singleton]⟩) (by rw [show ((J.e + ps.length : Nat) : Int) = (J.e : Int) + (ps.length : Int) from by omega]) (by rw [h11]) (by rw [List.length_append, List.length_singleton]) (by rw [List.map_append]; rfl)) ent_pick
            · -- op 12
              refine an_load Try.underlying3 rfl rfl rfl rfl ?_
              refine d_first 15 rfl rfl rfl (by kernel_rfl) (by kernel_rfl) (tl_pv (pv_add rfl rfl (by omega))) ?_
              refine d_next 8 (by kernel_rfl) rfl ?_
              refine an_append1 (sz := 1) (bytes := 16) Try.underlying46 ti9 rfl rfl rfl rfl rfl rfl rfl (by rfl) (by rfl) (by omega) (by simp only [maxLen]; omega) rfl (fun a59 c59 => ?_)
              refine d_first 16 rfl rfl rfl (by kernel_rfl) (by kernel_rfl) (tl_pv (by first | exact pv_nilCheck_p rfl | exact pv_nilCheck_f rfl)) ?_
              refine d_first 17 rfl rfl rfl (by kernel_rfl) (by kernel_rfl) (tl_pv (pv_fieldAddrk Try.underlying111 rfl ti46 rfl rfl (k := 1) rfl (by first | exact Nat.zero_add _ | exact Nat.add_zero _ | exact rfl))) ?_
              refine d_next 18 (by kernel_rfl) rfl ?_
              refine an_store ti46 rfl rfl rfl rfl (by simp; try omega) ?_
              refine d_first 19 rfl rfl rfl (by kernel_rfl) (by kernel_rfl) (tl_pv (by first | exact pv_nilCheck_p rfl | exact pv_nilCheck_f rfl)) ?_
              refine d_first 20 rfl rfl rfl (by kernel_rfl) (by kernel_rfl) (tl_pv (pv_fieldAddrk Try.underlying111 rfl ti3 rfl rfl (k := 2) rfl (by first | exact Nat.zero_add _ | exact Nat.add_zero _ | exact rfl))) ?_
              refine d_next 21 (by kernel_rfl) rfl ?_
              refine an_store ti3 rfl rfl rfl rfl (by simp; try omega) ?_
              refine d_done (by kernel_rfl) ?_
              refine t_seq ?_
              refine p_seq rfl ?_
              refine p_region rfl ?_
              refine wo_pv (pv_assign rfl) rfl ?_
              refine q_seq ?_
              refine p_ret rfl ?_
              have hjl : j = ps.length := by omega
              subst hjl
              rw [List.take_length] at hw hD
              have hcm : commitJ J D s = (⟨J.l ++ [s], J.e + ps.length, false⟩, D', 0) := by
                rw [commitJ, if_neg (by rw [h11]; simp), if_neg (by rw [hps]; exact h26), hps, ← hD]
                revert hw
                cases D.writes J.e ps with
                | mk x y => intro hy; dsimp only at hy; subst hy; rfl
              rw [hcm]
              refine fin_ret () (vs := [_]) (Cs := []) rfl (.tmp rfl .nil) rfl trivial ?_
              exact ent_step (fold_isJ ⟨J.l ++ [s], J.e + ps.length, false⟩ (by rfl) (by exact ⟨rfl, rfl⟩) (by rfl) (by exact ⟨_, _, by rw [List.length_append, List.length_singleton]⟩) (by rw [show ((J.e + ps.length : Nat) : Int) = (J.e : Int) + (ps.length : Int) from by omega]) (by rw [h11]) (by rw [List.length_append, List.length_singleton]) (by rw [List.map_append]; rfl)) ent_pick
          · -- op 12
            refine an_load Try.underlying3 rfl rfl rfl rfl ?_
            refine d_first 15 rfl rfl rfl (by kernel_rfl) (by kernel_rfl) (tl_pv (pv_add rfl rfl (by omega))) ?_
            refine d_next 7 (by kernel_rfl) rfl ?_
            refine an_buildSliceL [_] (cs := [_]) Try.underlying46 ti9 rfl rfl rfl rfl rfl rfl rfl rfl (fun b58 => ?_)
            refine d_next 8 (by kernel_rfl) rfl ?_
            refine an_append1 (sz := 1) (bytes := 16) Try.underlying46 ti9 rfl rfl rfl rfl rfl rfl rfl (by rfl) (by rfl) (by omega) (by simp only [maxLen]; omega) rfl (fun a59 c59 => ?_)
            refine d_first 16 rfl rfl rfl (by kernel_rfl) (by kernel_rfl) (tl_pv (by first | exact pv_nilCheck_p rfl | exact pv_nilCheck_f rfl)) ?_
            refine d_first 17 rfl rfl rfl (by kernel_rfl) (by kernel_rfl) (tl_pv (pv_fieldAddrk Try.underlying111 rfl ti46 rfl rfl (k := 1) rfl (by first | exact Nat.zero_add _ | exact Nat.add_zero _ | exact rfl))) ?_
            refine d_next 18 (by kernel_rfl) rfl ?_
            refine an_store ti46 rfl rfl rfl rfl (by simp; try omega) ?_
            refine d_first 19 rfl rfl rfl (by kernel_rfl) (by kernel_rfl) (tl_pv (by first | exact pv_nilCheck_p rfl | exact pv_nilCheck_f rfl)) ?_
            refine d_first 20 rfl rfl rfl (by kernel_rfl) (by kernel_rfl) (tl_pv (pv_fieldAddrk Try.underlying111 rfl ti3 rfl rfl (k := 2) rfl (by first | exact Nat.zero_add _ | exact Nat.add_zero _ | exact rfl))) ?_
            refine d_next 21 (by kernel_rfl) rfl ?_
            refine an_store ti3 rfl rfl rfl rfl (by simp; try omega) ?_
            refine d_done (by kernel_rfl) ?_
            refine t_seq ?_
            refine p_seq rfl ?_
            refine p_region rfl ?_
            refine wo_pv (pv_assign rfl) rfl ?_
            refine q_seq ?_
            refine p_ret rfl ?_
            have hjl : j = ps.length := by omega
            subst hjl
            rw [List.take_length] at hw hD
            have hcm : commitJ J D s = (⟨J.l ++ [s], J.e + ps.length, false⟩, D', 0) := by
              rw [commitJ, if_neg (by rw [h11]; simp), if_neg (by rw [hps]; exact h26), hps, ← hD]
              revert hw
              cases D.writes J.e ps with
              | mk x y => intro hy; dsimp only at hy; subst hy; rfl
            rw [hcm]
            refine fin_ret () (vs := [_]) (Cs := []) rfl (.tmp rfl .nil) rfl trivial ?_
            exact ent_step (fold_isJ ⟨J.l ++ [s], J.e + ps.length, false⟩ (by rfl) (by exact ⟨rfl, rfl⟩) (by rfl) (by exact ⟨_, _, by rw [List.length_append, List.length_singleton]⟩) (by rw [show ((J.e + ps.length : Nat) : Int) = (J.e : Int) + (ps.length : Int) from by omega]) (by rw [h11]) (by rw [List.length_append, List.length_singleton]) (by rw [List.map_append]; rfl)) ent_pick
        · -- op 7
          refine an_buildSliceL [_] (cs := [_]) Try.underlying46 ti9 rfl rfl rfl rfl rfl rfl rfl rfl (fun b58 => ?_)
          refine d_next2 5 12 (by kernel_rfl) rfl rfl ?_ ?_
          · -- op 5
            refine an_load Try.underlying46 rfl rfl rfl rfl ?_
            refine d_next2 8 12 (by kernel_rfl) rfl rfl ?_ ?_
            · -- op 8
              refine an_append1 (sz := 1) (bytes := 16) Try.underlying46 ti9 rfl rfl rfl rfl rfl rfl rfl (by rfl) (by rfl) (by omega) (by simp only [maxLen]; omega) rfl (fun a59 c59 => ?_)
              refine d_next 12 (by kernel_rfl) rfl ?_
              refine an_load Try.underlying3 rfl rfl rfl rfl ?_
              refine d_first 15 rfl rfl rfl (by kernel_rfl) (by kernel_rfl) (tl_pv (pv_add rfl rfl (by omega))) ?_
              refine d_first 16 rfl rfl rfl (by kernel_rfl) (by kernel_rfl) (tl_pv (by first | exact pv_nilCheck_p rfl | exact pv_nilCheck_f rfl)) ?_
              refine d_first 17 rfl rfl rfl (by kernel_rfl) (by kernel_rfl) (tl_pv (pv_fieldAddrk Try.underlying111 rfl ti46 rfl rfl (k := 1) rfl (by first | exact Nat.zero_add _ | exact Nat.add_zero _ | exact rfl))) ?_
              refine d_next 18 (by kernel_rfl) rfl ?_
              refine an_store ti46 rfl rfl rfl rfl (by simp; try omega) ?_
              refine d_first 19 rfl rfl rfl (by kernel_rfl) (by kernel_rfl) (tl_pv (by first | exact pv_nilCheck_p rfl | exact pv_nilCheck_f rfl)) ?_
              refine d_first 20 rfl rfl rfl (by kernel_rfl) (by kernel_rfl) (tl_pv (pv_fieldAddrk Try.underlying111 rfl ti3 rfl rfl (k := 2) rfl (by first | exact Nat.zero_add _ | exact Nat.add_zero _ | exact rfl))) ?_
              refine d_next 21 (by kernel_rfl) rfl ?_
              refine an_store ti3 rfl rfl rfl rfl (by simp; try omega) ?_
              refine d_done (by kernel_rfl) ?_
              refine t_seq ?_
              refine p_seq rfl ?_
              refine p_region rfl ?_
              refine wo_pv (pv_assign rfl) rfl ?_
              refine q_seq ?_
              refine p_ret rfl ?_
              have hjl : j = ps.length := by omega
              subst hjl
              rw [List.take_length] at hw hD
              have hcm : commitJ J D s = (⟨J.l ++ [s], J.e + ps.length, false⟩, D', 0) := by
                rw [commitJ, if_neg (by rw [h11]; simp), if_neg (by rw [hps]; exact h26), hps, ← hD]
                revert hw
                cases D.writes J.e ps with
                | mk x y => intro hy; dsimp only at hy; subst hy; rfl
              rw [hcm]
              refine fin_ret () (vs := [_]) (Cs := []) rfl (.tmp rfl .nil) rfl trivial ?_
              exact ent_step (fold_isJ ⟨J.l ++ [s], J.e + ps.length, false⟩ (by rfl) (by exact ⟨rfl, rfl⟩) (by rfl) (by exact ⟨_, _, by rw [List.length_append, List.length_singleton]⟩) (by rw [show ((J.e + ps.length : Nat) : Int) = (J.e : Int) + (ps.length : Int) from by omega]) (by rw [h11]) (by rw [List.length_append, List.length_singleton]) (by rw [List.map_append]; rfl)) ent_pick
            · -- op 12
              refine an_load Try.underlying3 rfl rfl rfl rfl ?_
              refine d_first 15 rfl rfl rfl (by kernel_rfl) (by kernel_rfl) (tl_pv (pv_add rfl rfl (by omega))) ?_
              refine d_next 8 (by kernel_rfl) rfl ?_
              refine an_append1 (sz := 1) (bytes := 16) Try.underlying46 ti9 rfl rfl rfl rfl rfl rfl rfl (by rfl) (by rfl) (by omega) (by simp only [maxLen]; omega) rfl (fun a59 c59 => ?_)
              refine d_first 16 rfl rfl rfl (by kernel_rfl) (by kernel_rfl) (tl_pv (by first | exact pv_nilCheck_p rfl | exact pv_nilCheck_f rfl)) ?_
              refine d_first 17 rfl rfl rfl (by kernel_rfl) (by kernel_rfl) (tl_pv (pv_fieldAddrk Try.underlying111 rfl ti46 rfl rfl (k := 1) rfl (by first | exact Nat.zero_add _ | exact Nat.add_zero _ | exact rfl))) ?_
              refine d_next 18 (by kernel_rfl) rfl ?_
              refine an_store ti46 rfl rfl rfl rfl (by simp; try omega) ?_
              refine d_first 19 rfl rfl rfl (by kernel_rfl) (by kernel_rfl) (tl_pv (by first | exact pv_nilCheck_p rfl | exact pv_nilCheck_f rfl)) ?_
              refine d_first 20 rfl rfl rfl (by kernel_rfl) (by kernel_rfl) (tl_pv (pv_fieldAddrk Try.underlying111 rfl ti3 rfl rfl (k := 2) rfl (by first | exact Nat.zero_add _ | exact Nat.add_zero _ | exact rfl))) ?_
              refine d_next 21 (by kernel_rfl) rfl ?_
              refine an_store ti3 rfl rfl rfl rfl (by simp; try omega) ?_
              refine d_done (by kernel_rfl) ?_
              refine t_seq ?_
              refine p_seq rfl ?_
              refine p_region rfl ?_
              refine wo_pv (pv_assign rfl) rfl ?_
              refine q_seq ?_
              refine p_ret rfl ?_
              have hjl : j = ps.length := by omega
              subst hjl
              rw [List.take_length] at hw hD
              have hcm : commitJ J D s = (⟨J.l ++ [s], J.e + ps.length, false⟩, D', 0) := by
                rw [commitJ, if_neg (by rw [h11]; simp), if_neg (by rw [hps]; exact h26), hps, ← hD]
                revert hw
                cases D.writes J.e ps with
                | mk x y => intro hy; dsimp only at hy; subst hy; rfl
              rw [hcm]
              refine fin_ret () (vs := [_]) (Cs := []) rfl (.tmp rfl .nil) rfl trivial ?_
              exact ent_step (fold_isJ ⟨J.l ++ [s], J.e + ps.length, false⟩ (by rfl) (by exact ⟨rfl, rfl⟩) (by rfl) (by exact ⟨_, _, by rw [List.length_append, List.length_singleton]⟩) (by rw [show ((J.e + ps.length : Nat) : Int) = (J.e : Int) + (ps.length : Int) from by omega]) (by rw [h11]) (by rw [List.length_append, List.length_singleton]) (by rw [List.map_append]; rfl)) ent_pick
          · -- op 12
            refine an_load Try.underlying3 rfl rfl rfl rfl ?_
            refine d_first 15 rfl rfl rfl (by kernel_rfl) (by kernel_rfl) (tl_pv (pv_add rfl rfl (by omega))) ?_
            refine d_next 5 (by kernel_rfl) rfl ?_
            refine an_load Try.underlying46 rfl rfl rfl rfl ?_
            refine d_next 8 (by kernel_rfl) rfl ?_
            refine an_append1 (sz := 1) (bytes := 16) Try.underlying46 ti9 rfl rfl rfl rfl rfl rfl rfl (by rfl) (by rfl) (by omega) (by simp only [maxLen]; omega) rfl (fun a59 c59 => ?_)
            refine d_first 16 rfl rfl rfl (by kernel_rfl) (by kernel_rfl) (tl_pv (by first | exact pv_nilCheck_p rfl | exact pv_nilCheck_f rfl)) ?_
            refine d_first 17 rfl rfl rfl (by kernel_rfl) (by kernel_rfl) (tl_pv (pv_fieldAddrk Try.underlying111 rfl ti46 rfl rfl (k := 1) rfl (by first | exact Nat.zero_add _ | exact Nat.add_zero _ | exact rfl))) ?_
            refine d_next 18 (by kernel_rfl) rfl ?_
            refine an_store ti46 rfl rfl rfl rfl (by simp; try omega) ?_
            refine d_first 19 rfl rfl rfl (by kernel_rfl) (by kernel_rfl) (tl_pv (by first | exact pv_nilCheck_p rfl | exact pv_nilCheck_f rfl)) ?_
            refine d_first 20 rfl rfl rfl (by kernel_rfl) (by kernel_rfl) (tl_pv (pv_fieldAddrk Try.underlying111 rfl ti3 rfl rfl (k := 2) rfl (by first | exact Nat.zero_add _ | exact Nat.add_zero _ | exact rfl))) ?_
            refine d_next 21 (by kernel_rfl) rfl ?_
            refine an_store ti3 rfl rfl rfl rfl (by simp; try omega) ?_
            refine d_done (by kernel_rfl) ?_
            refine t_seq ?_
            refine p_seq rfl ?_
            refine p_region rfl ?_
            refine wo_pv (pv_assign rfl) rfl ?_
            refine q_seq ?_
            refine p_ret rfl ?_
            have hjl : j = ps.length := by omega
            subst hjl
            rw [List.take_length] at hw hD
            have hcm : commitJ J D s = (⟨J.l ++ [s], J.e + ps.length, false⟩, D', 0) := by
              rw [commitJ, if_neg (by rw [h11]; simp), if_neg (by rw [hps]; exact h26), hps, ← hD]
              revert hw
              cases D.writes J.e ps with
              | mk x y => intro hy; dsimp only at hy; subst hy; rfl
            rw [hcm]
            refine fin_ret () (vs := [_]) (Cs := []) rfl (.tmp rfl .nil) rfl trivial ?_
            exact ent_step (fold_isJ ⟨J.l ++ [s], J.e + ps.length, false⟩ (by rfl) (by exact ⟨rfl, rfl⟩) (by rfl) (by exact ⟨_, _, by rw [List.length_append, List.length_singleton]⟩) (by rw [show ((J.e + ps.length : Nat) : Int) = (J.e : Int) + (ps.length : Int) from by omega]) (by rw [h11]) (by rw [List.length_append, List.length_singleton]) (by rw [List.map_append]; rfl)) ent_pick
        · -- op 12
          refine an_load Try.underlying3 rfl rfl rfl rfl ?_
          refine d_first 15 rfl rfl rfl (by kernel_rfl) (by kernel_rfl) (tl_pv (pv_add rfl rfl (by omega))) ?_
          refine d_next2 5 7 (by kernel_rfl) rfl rfl ?_ ?_
          · -- op 5
            refine an_load Try.underlying46 rfl rfl rfl rfl ?_
            refine d_next 7 (by kernel_rfl) rfl ?_
            refine an_buildSliceL [_] (cs := [_]) Try.underlying46 ti9 rfl rfl rfl rfl rfl rfl rfl rfl (fun b58 => ?_)
            refine d_next 8 (by kernel_rfl) rfl ?_
            refine an_append1 (sz := 1) (bytes := 16) Try.underlying46 ti9 rfl rfl rfl rfl rfl rfl rfl (by rfl) (by rfl) (by omega) (by simp only [maxLen]; omega) rfl (fun a59 c59 => ?_)
            refine d_first 16 rfl rfl rfl (by kernel_rfl) (by kernel_rfl) (tl_pv (by first | exact pv_nilCheck_p rfl | exact pv_nilCheck_f rfl)) ?_
            refine d_first 17 rfl rfl rfl (by kernel_rfl) (by kernel_rfl) (tl_pv (pv_fieldAddrk Try.underlying111 rfl ti46 rfl rfl (k := 1) rfl (by first | exact Nat.zero_add _ | exact Nat.add_zero _ | exact rfl))) ?_
            refine d_next 18 (by kernel_rfl) rfl ?_
            refine an_store ti46 rfl rfl rfl rfl (by simp; try omega) ?_
            refine d_first 19 rfl rfl rfl (by kernel_rfl) (by kernel_rfl) (tl_pv (by first | exact pv_nilCheck_p rfl | exact pv_nilCheck_f rfl)) ?_
            refine d_first 20 rfl rfl rfl (by kernel_rfl) (by kernel_rfl) (tl_pv (pv_fieldAddrk Try.underlying111 rfl ti3 rfl rfl (k := 2) rfl (by first | exact Nat.zero_add _ | exact Nat.add_zero _ | exact rfl))) ?_
            refine d_next 21 (by kernel_rfl) rfl ?_
            refine an_store ti3 rfl rfl rfl rfl (by simp; try omega) ?_
            refine d_done (by kernel_rfl) ?_
            refine t_seq ?_
            refine p_seq rfl ?_
            refine p_region rfl ?_
            refine wo_pv (pv_assign rfl) rfl ?_
            refine q_seq ?_
            refine p_ret rfl ?_
            have hjl : j = ps.length := by omega
            subst hjl
            rw [List.take_length] at hw hD
            have hcm : commitJ J D s = (⟨J.l ++ [s], J.e + ps.length, false⟩, D', 0) := by
              rw [commitJ, if_neg (by rw [h11]; simp), if_neg (by rw [hps]; exact h26), hps, ← hD]
              revert hw
              cases D.writes J.e ps with
              | mk x y => intro hy; dsimp only at hy; subst hy; rfl
            rw [hcm]
            refine fin_ret () (vs := [_]) (Cs := []) rfl (.tmp rfl .nil) rfl trivial ?_
            exact ent_step (fold_isJ ⟨J.l ++ [s], J.e + ps.length, false⟩ (by rfl) (by exact ⟨rfl, rfl⟩) (by rfl) (by exact ⟨_, _, by rw [List.length_append, List.length_singleton]⟩) (by rw [show ((J.e + ps.length : Nat) : Int) = (J.e : Int) + (ps.length : Int) from by omega]) (by rw [h11]) (by rw [List.length_append, List.length_singleton]) (by rw [List.map_append]; rfl)) ent_pick
          · -- op 7
            refine an_buildSliceL [_] (cs := [_]) Try.underlying46 ti9 rfl rfl rfl rfl rfl rfl rfl rfl (fun b58 => ?_)
            refine d_next 5 (by kernel_rfl) rfl ?_
            refine an_load Try.underlying46 rfl rfl rfl rfl ?_
            refine d_next 8 (by kernel_rfl) rfl ?_
            refine an_append1 (sz := 1) (bytes := 16) Try.underlying46 ti9 rfl rfl rfl rfl rfl rfl rfl (by rfl) (by rfl) (by omega) (by simp only [maxLen]; omega) rfl (fun a59 c59 => ?_)
            refine d_first 16 rfl rfl rfl (by kernel_rfl) (by kernel_rfl) (tl_pv (by first | exact pv_nilCheck_p rfl | exact pv_nilCheck_f rfl)) ?_
            refine d_first 17 rfl rfl rfl (by kernel_rfl) (by kernel_rfl) (tl_pv (pv_fieldAddrk Try.underlying111 rfl ti46 rfl rfl (k := 1) rfl (by first | exact Nat.zero_add _ | exact Nat.add_zero _ | exact rfl))) ?_
            refine d_next 18 (by kernel_rfl) rfl ?_
            refine an_store ti46 rfl rfl rfl rfl (by simp; try omega) ?_
            refine d_first 19 rfl rfl rfl (by kernel_rfl) (by kernel_rfl) (tl_pv (by first | exact pv_nilCheck_p rfl | exact pv_nilCheck_f rfl)) ?_
            refine d_first 20 rfl rfl rfl (by kernel_rfl) (by kernel_rfl) (tl_pv (pv_fieldAddrk Try.underlying111 rfl ti3 rfl rfl (k := 2) rfl (by first | exact Nat.zero_add _ | exact Nat.add_zero _ | exact rfl))) ?_
            refine d_next 21 (by kernel_rfl) rfl ?_
            refine an_store ti3 rfl rfl rfl rfl (by simp; try omega) ?_
            refine d_done (by kernel_rfl) ?_
            refine t_seq ?_
            refine p_seq rfl ?_
            refine p_region rfl ?_
            refine wo_pv (pv_assign rfl) rfl ?_
            refine q_seq ?_
            refine p_ret rfl ?_
            have hjl : j = ps.length := by omega
            subst hjl
            rw [List.take_length] at hw hD
            have hcm : commitJ J D s = (⟨J.l ++ [s], J.e + ps.length, false⟩, D', 0) := by
              rw [commitJ, if_neg (by rw [h11]; simp), if_neg (by rw [hps]; exact h26), hps, ← hD]
              revert hw
              cases D.writes J.e ps with
              | mk x y => intro hy; dsimp only at hy; subst hy; rfl
            rw [hcm]
            refine fin_ret () (vs := [_]) (Cs := []) rfl (.tmp rfl .nil) rfl trivial ?_
            exact ent_step (fold_isJ ⟨J.l ++ [s], J.e + ps.length, false⟩ (by rfl) (by exact ⟨rfl, rfl⟩) (by rfl) (by exact ⟨_, _, by rw [List.length_append, List.length_singleton]⟩) (by rw [show ((J.e + ps.length : Nat) : Int) = (J.e : Int) + (ps.length : Int) from by omega]) (by rw [h11]) (by rw [List.length_append, List.length_singleton]) (by rw [List.map_append]; rfl)) ent_pick
end Go.Proofs.Ytimafngkifakfaa
