/- Package journal. -/
import Derived.Test.YtimafngkifakfaaSlFn
set_option linter.unusedVariables false
set_option maxRecDepth 100000
set_option linter.unusedSimpArgs false
namespace Go.Proofs.Ytimafngkifakfaa

theorem vUs_one (x : UInt8) (h : Int) (e : h = (x.toNat : Int)) : ([vU h] : List Value).take 1 = vUs [x] := by subst e; rfl
theorem u8_len (s : List UInt8) (h : s.length ≤ 30) : IntKind.u8.wrap (s.length : Int) = ((UInt8.ofNat s.length).toNat : Int) := by
  rw [IntWalk.u8_in _ (by omega)]
  have : s.length < 256 := by omega
  simp [UInt8.toNat_ofNat, Nat.mod_eq_of_lt this]
theorem journal_piece_sp (s : List UInt8) (h : s.length ≤ 30) (mk : UInt8) : SpF Try.prog 77 [vS s, vU (mk.toNat : Int)] (vS (pieceS s mk)) := by
  refine Sp.body (n := 21) Try.call77 Try.func77 rfl rfl rfl ?_
  have e7 : (30 : Int) - (s.length : Int) = ((30 - s.length : Nat) : Int) := by omega
  have hr := Repeat_sp [0] (30 - s.length) (by simp; omega) (by omega)
  rw [repeat_one, ← e7] at hr
  refine p_seq rfl ?_
  refine p_region rfl ?_
  refine wo_pv (pv_assign rfl) rfl ?_
  refine q_seq ?_
  refine p_seq rfl ?_
  refine d_draw rfl rfl rfl [] ?_
  refine d_first 0 rfl rfl rfl (by kernel_rfl) (by kernel_rfl) (tl_pv (pv_move rfl)) ?_
  refine d_first 1 rfl rfl rfl (by kernel_rfl) (by kernel_rfl) (tl_pv (pv_call_len_s Try.underlying9 rfl)) ?_
  refine d_first 2 rfl rfl rfl (by kernel_rfl) (by kernel_rfl) (tl_pv (pv_conv rfl Try.underlying3 Try.underlying5)) ?_
  refine d_first 5 rfl rfl rfl (by kernel_rfl) (by kernel_rfl) (tl_pv (pv_move rfl)) ?_
  refine d_first 7 rfl rfl rfl (by kernel_rfl) (by kernel_rfl) (tl_pv (pv_move rfl)) ?_
  refine d_first 8 rfl rfl rfl (by kernel_rfl) (by kernel_rfl) (tl_pv (pv_call_len_s Try.underlying9 rfl)) ?_
  refine d_first 9 rfl rfl rfl (by kernel_rfl) (by kernel_rfl) (tl_pv (pv_sub rfl rfl (by omega))) ?_
  refine d_first 12 rfl rfl rfl (by kernel_rfl) (by kernel_rfl) (tl_pv (pv_move rfl)) ?_
  refine d_next3 3 10 13 (by kernel_rfl) rfl rfl rfl ?_ ?_ ?_
  · -- op 3
    refine an_buildSliceL [_] (cs := [_]) Try.underlying44 ti5 rfl rfl rfl rfl rfl rfl rfl rfl (fun b8 => ?_)
    refine d_next3 4 10 13 (by kernel_rfl) rfl rfl rfl ?_ ?_ ?_
    · -- op 4
      refine an_b2s (l := [UInt8.ofNat s.length]) Try.underlying44 Try.underlying9 Try.underlying5 rfl (vUs_one _ _ (u8_len s h)) (by simp) rfl ?_
      refine d_first 6 rfl rfl rfl (by kernel_rfl) (by kernel_rfl) (tl_pv (pv_cat rfl rfl (by first | (simp only [List.length_append, List.length_take, List.length_drop, List.length_cons, List.length_nil]; omega) | (simp; try omega)))) ?_
      refine d_next2 10 13 (by kernel_rfl) rfl rfl ?_ ?_
      · -- op 10
        refine an_callF hr rfl rfl rfl ?_
        refine d_first 11 rfl rfl rfl (by kernel_rfl) (by kernel_rfl) (tl_pv (pv_cat rfl rfl (by first | (simp only [List.length_append, List.length_take, List.length_drop, List.length_cons, List.length_nil]; omega) | (simp; try omega)))) ?_
        refine d_next 13 (by kernel_rfl) rfl ?_
        refine an_buildSliceL [_] (cs := [_]) Try.underlying44 ti5 rfl rfl rfl rfl rfl rfl rfl rfl (fun b18 => ?_)
        refine d_next 14 (by kernel_rfl) rfl ?_
        refine an_b2s (l := [mk]) Try.underlying44 Try.underlying9 Try.underlying5 rfl (vUs_one _ _ rfl) (by simp) rfl ?_
        refine d_first 15 rfl rfl rfl (by kernel_rfl) (by kernel_rfl) (tl_pv (pv_cat rfl rfl (by first | (simp only [List.length_append, List.length_take, List.length_drop, List.length_cons, List.length_nil]; omega) | (simp; try omega)))) ?_
        refine d_first 16 rfl rfl rfl (by kernel_rfl) (by kernel_rfl) (tl_pv (pv_assign rfl)) ?_
        refine d_done (by kernel_rfl) ?_
        refine t_seq ?_
        refine p_ret rfl ?_
        exact fin_ret () (vs := [_]) rfl (.tmp rfl .nil) rfl trivial ent_nil
      · -- op 13
        refine an_buildSliceL [_] (cs := [_]) Try.underlying44 ti5 rfl rfl rfl rfl rfl rfl rfl rfl (fun b18 => ?_)
        refine d_next2 10 14 (by kernel_rfl) rfl rfl ?_ ?_
        · -- op 10
          refine an_callF hr rfl rfl rfl ?_
          refine d_first 11 rfl rfl rfl (by kernel_rfl) (by kernel_rfl) (tl_pv (pv_cat rfl rfl (by first | (simp only [List.length_append, List.length_take, List.length_drop, List.length_cons, List.length_nil]; omega) | (simp; try omega)))) ?_
          refine d_next 14 (by kernel_rfl) rfl ?_
          refine an_b2s (l := [mk]) Try.underlying44 Try.underlying9 Try.underlying5 rfl (vUs_one _ _ rfl) (by simp) rfl ?_
          refine d_first 15 rfl rfl rfl (by kernel_rfl) (by kernel_rfl) (tl_pv (pv_cat rfl rfl (by first | (simp only [List.length_append, List.length_take, List.length_drop, List.length_cons, List.length_nil]; omega) | (simp; try omega)))) ?_
          refine d_first 16 rfl rfl rfl (by kernel_rfl) (by kernel_rfl) (tl_pv (pv_assign rfl)) ?_
          refine d_done (by kernel_rfl) ?_
          refine t_seq ?_
          refine p_ret rfl ?_
          exact fin_ret () (vs := [_]) rfl (.tmp rfl .nil) rfl trivial ent_nil
        · -- op 14
          refine an_b2s (l := [mk]) Try.underlying44 Try.underlying9 Try.underlying5 rfl (vUs_one _ _ rfl) (by simp) rfl ?_
          refine d_next 10 (by kernel_rfl) rfl ?_
          refine an_callF hr rfl rfl rfl ?_
          refine d_first 11 rfl rfl rfl (by kernel_rfl) (by kernel_rfl) (tl_pv (pv_cat rfl rfl (by first | (simp only [List.length_append, List.length_take, List.length_drop, List.length_cons, List.length_nil]; omega) | (simp; try omega)))) ?_
          refine d_first 15 rfl rfl rfl (by kernel_rfl) (by kernel_rfl) (tl_pv (pv_cat rfl rfl (by first | (simp only [List.length_append, List.length_take, List.length_drop, List.length_cons, List.length_nil]; omega) | (simp; try omega)))) ?_
          refine d_first 16 rfl rfl rfl (by kernel_rfl) (by kernel_rfl) (tl_pv (pv_assign rfl)) ?_
          refine d_done (by kernel_rfl) ?_
          refine t_seq ?_
          refine p_ret rfl ?_
          exact fin_ret () (vs := [_]) rfl (.tmp rfl .nil) rfl trivial ent_nil
    · -- op 10
      refine an_callF hr rfl rfl rfl ?_
      refine d_next2 4 13 (by kernel_rfl) rfl rfl ?_ ?_
      · -- op 4
        refine an_b2s (l := [UInt8.ofNat s.length]) Try.underlying44 Try.underlying9 Try.underlying5 rfl (vUs_one _ _ (u8_len s h)) (by simp) rfl ?_
        refine d_first 6 rfl rfl rfl (by kernel_rfl) (by kernel_rfl) (tl_pv (pv_cat rfl rfl (by first | (simp only [List.length_append, List.length_take, List.length_drop, List.length_cons, List.length_nil]; omega) | (simp; try omega)))) ?_
        refine d_first 11 rfl rfl rfl (by kernel_rfl) (by kernel_rfl) (tl_pv (pv_cat rfl rfl (by first | (simp only [List.length_append, List.length_take, List.length_drop, List.length_cons, List.length_nil]; omega) | (simp; try omega)))) ?_
        refine d_next 13 (by kernel_rfl) rfl ?_
        refine an_buildSliceL [_] (cs := [_]) Try.underlying44 ti5 rfl rfl rfl rfl rfl rfl rfl rfl (fun b18 => ?_)
        refine d_next 14 (by kernel_rfl) rfl ?_
        refine an_b2s (l := [mk]) Try.underlying44 Try.underlying9 Try.underlying5 rfl (vUs_one _ _ rfl) (by simp) rfl ?_
        refine d_first 15 rfl rfl rfl (by kernel_rfl) (by kernel_rfl) (tl_pv (pv_cat rfl rfl (by first | (simp only [List.length_append, List.length_take, List.length_drop, List.length_cons, List.length_nil]; omega) | (simp; try omega)))) ?_
        refine d_first 16 rfl rfl rfl (by kernel_rfl) (by kernel_rfl) (tl_pv (pv_assign rfl)) ?_
        refine d_done (by kernel_rfl) ?_
        refine t_seq ?_
        refine p_ret rfl ?_
        exact fin_ret () (vs := [_]) rfl (.tmp rfl .nil) rfl trivial ent_nil
      · -- op 13
        refine an_buildSliceL [_] (cs := [_]) Try.underlying44 ti5 rfl rfl rfl rfl rfl rfl rfl rfl (fun b18 => ?_)
        refine d_next2 4 14 (by kernel_rfl) rfl rfl ?_ ?_
        · -- op 4
          refine an_b2s (l := [UInt8.ofNat s.length]) Try.underlying44 Try.underlying9 Try.underlying5 rfl (vUs_one _ _ (u8_len s h)) (by simp) rfl ?_
          refine d_first 6 rfl rfl rfl (by kernel_rfl) (by kernel_rfl) (tl_pv (pv_cat rfl rfl (by first | (simp only [List.length_append, List.length_take, List.length_drop, List.length_cons, List.length_nil]; omega) | (simp; try omega)))) ?_
          refine d_first 11 rfl rfl rfl (by kernel_rfl) (by kernel_rfl) (tl_pv (pv_cat rfl rfl (by first | (simp only [List.length_append, List.length_take, List.length_drop, List.length_cons, List.length_nil]; omega) | (simp; try omega)))) ?_
          refine d_next 14 (by kernel_rfl) rfl ?_
          refine an_b2s (l := [mk]) Try.underlying44 Try.underlying9 Try.underlying5 rfl (vUs_one _ _ rfl) (by simp) rfl ?_
          refine d_first 15 rfl rfl rfl (by kernel_rfl) (by kernel_rfl) (tl_pv (pv_cat rfl rfl (by first | (simp only [List.length_append, List.length_take, List.length_drop, List.length_cons, List.length_nil]; omega) | (simp; try omega)))) ?_
          refine d_first 16 rfl rfl rfl (by kernel_rfl) (by kernel_rfl) (tl_pv (pv_assign rfl)) ?_
          refine d_done (by kernel_rfl) ?_
          refine t_seq ?_
          refine p_ret rfl ?_
          exact fin_ret () (vs := [_]) rfl (.tmp rfl .nil) rfl trivial ent_nil
        · -- op 14
          refine an_b2s (l := [mk]) Try.underlying44 Try.underlying9 Try.underlying5 rfl (vUs_one _ _ rfl) (by simp) rfl ?_
          refine d_next 4 (by kernel_rfl) rfl ?_
          refine an_b2s (l := [UInt8.ofNat s.length]) Try.underlying44 Try.underlying9 Try.underlying5 rfl (vUs_one _ _ (u8_len s h)) (by simp) rfl ?_
          refine d_first 6 rfl rfl rfl (by kernel_rfl) (by kernel_rfl) (tl_pv (pv_cat rfl rfl (by first | (simp only [List.length_append, List.length_take, List.length_drop, List.length_cons, List.length_nil]; omega) | (simp; try omega)))) ?_
          refine d_first 11 rfl rfl rfl (by kernel_rfl) (by kernel_rfl) (tl_pv (pv_cat rfl rfl (by first | (simp only [List.length_append, List.length_take, List.length_drop, List.length_cons, List.length_nil]; omega) | (simp; try omega)))) ?_
          refine d_first 15 rfl rfl rfl (by kernel_rfl) (by kernel_rfl) (tl_pv (pv_cat rfl rfl (by first | (simp only [List.length_append, List.length_take, List.length_drop, List.length_cons, List.length_nil]; omega) | (simp; try omega)))) ?_
          refine d_first 16 rfl rfl rfl (by kernel_rfl) (by kernel_rfl) (tl_pv (pv_assign rfl)) ?_
          refine d_done (by kernel_rfl) ?_
          refine t_seq ?_
          refine p_ret rfl ?_
          exact fin_ret () (vs := [_]) rfl (.tmp rfl .nil) rfl trivial ent_nil
    · -- op 13
      refine an_buildSliceL [_] (cs := [_]) Try.underlying44 ti5 rfl rfl rfl rfl rfl rfl rfl rfl (fun b18 => ?_)
      refine d_next3 4 10 14 (by kernel_rfl) rfl rfl rfl ?_ ?_ ?_
      · -- op 4
        refine an_b2s (l := [UInt8.ofNat s.length]) Try.underlying44 Try.underlying9 Try.underlying5 rfl (vUs_one _ _ (u8_len s h)) (by simp) rfl ?_
        refine d_first 6 rfl rfl rfl (by kernel_rfl) (by kernel_rfl) (tl_pv (pv_cat rfl rfl (by first | (simp only [List.length_append, List.length_take, List.length_drop, List.length_cons, List.length_nil]; omega) | (simp; try omega)))) ?_
        refine d_next2 10 14 (by kernel_rfl) rfl rfl ?_ ?_
        · -- op 10
          refine an_callF hr rfl rfl rfl ?_
          refine d_first 11 rfl rfl rfl (by kernel_rfl) (by kernel_rfl) (tl_pv (pv_cat rfl rfl (by first | (simp only [List.length_append, List.length_take, List.length_drop, List.length_cons, List.length_nil]; omega) | (simp; try omega)))) ?_
          refine d_next 14 (by kernel_rfl) rfl ?_
          refine an_b2s (l := [mk]) Try.underlying44 Try.underlying9 Try.underlying5 rfl (vUs_one _ _ rfl) (by simp) rfl ?_
          refine d_first 15 rfl rfl rfl (by kernel_rfl) (by kernel_rfl) (tl_pv (pv_cat rfl rfl (by first | (simp only [List.length_append, List.length_take, List.length_drop, List.length_cons, List.length_nil]; omega) | (simp; try omega)))) ?_
          refine d_first 16 rfl rfl rfl (by kernel_rfl) (by kernel_rfl) (tl_pv (pv_assign rfl)) ?_
          refine d_done (by kernel_rfl) ?_
          refine t_seq ?_
          refine p_ret rfl ?_
          exact fin_ret () (vs := [_]) rfl (.tmp rfl .nil) rfl trivial ent_nil
        · -- op 14
          refine an_b2s (l := [mk]) Try.underlying44 Try.underlying9 Try.underlying5 rfl (vUs_one _ _ rfl) (by simp) rfl ?_
          refine d_next 10 (by kernel_rfl) rfl ?_
          refine an_callF hr rfl rfl rfl ?_
          refine d_first 11 rfl rfl rfl (by kernel_rfl) (by kernel_rfl) (tl_pv (pv_cat rfl rfl (by first | (simp only [List.length_append, List.length_take, List.length_drop, List.length_cons, List.length_nil]; omega) | (simp; try omega)))) ?_
          refine d_first 15 rfl rfl rfl (by kernel_rfl) (by kernel_rfl) (tl_pv (pv_cat rfl rfl (by first | (simp only [List.length_append, List.length_take, List.length_drop, List.length_cons, List.length_nil]; omega) | (simp; try omega)))) ?_
          refine d_first 16 rfl rfl rfl (by kernel_rfl) (by kernel_rfl) (tl_pv (pv_assign rfl)) ?_
          refine d_done (by kernel_rfl) ?_
          refine t_seq ?_
          refine p_ret rfl ?_
          exact fin_ret () (vs := [_]) rfl (.tmp rfl .nil) rfl trivial ent_nil
      · -- op 10
        refine an_callF hr rfl rfl rfl ?_
        refine d_next2 4 14 (by kernel_rfl) rfl rfl ?_ ?_
        · -- op 4
          refine an_b2s (l := [UInt8.ofNat s.length]) Try.underlying44 Try.underlying9 Try.underlying5 rfl (vUs_one _ _ (u8_len s h)) (by simp) rfl ?_
          refine d_first 6 rfl rfl rfl (by kernel_rfl) (by kernel_rfl) (tl_pv (pv_cat rfl rfl (by first | (simp only [List.length_append, List.length_take, List.length_drop, List.length_cons, List.length_nil]; omega) | (simp; try omega)))) ?_
          refine d_first 11 rfl rfl rfl (by kernel_rfl) (by kernel_rfl) (tl_pv (pv_cat rfl rfl (by first | (simp only [List.length_append, List.length_take, List.length_drop, List.length_cons, List.length_nil]; omega) | (simp; try omega)))) ?_
          refine d_next 14 (by kernel_rfl) rfl ?_
          refine an_b2s (l := [mk]) Try.underlying44 Try.underlying9 Try.underlying5 rfl (vUs_one _ _ rfl) (by simp) rfl ?_
          refine d_first 15 rfl rfl rfl (by kernel_rfl) (by kernel_rfl) (tl_pv (pv_cat rfl rfl (by first | (simp only [List.length_append, List.length_take, List.length_drop, List.length_cons, List.length_nil]; omega) | (simp; try omega)))) ?_
          refine d_first 16 rfl rfl rfl (by kernel_rfl) (by kernel_rfl) (tl_pv (pv_assign rfl)) ?_
          refine d_done (by kernel_rfl) ?_
          refine t_seq ?_
          refine p_ret rfl ?_
          exact fin_ret () (vs := [_]) rfl (.tmp rfl .nil) rfl trivial ent_nil
        · -- op 14
          refine an_b2s (l := [mk]) Try.underlying44 Try.underlying9 Try.underlying5 rfl (vUs_one _ _ rfl) (by simp) rfl ?_
          refine d_next 4 (by kernel_rfl) rfl ?_
          refine an_b2s (l := [UInt8.ofNat s.length]) Try.underlying44 Try.underlying9 Try.underlying5 rfl (vUs_one _ _ (u8_len s h)) (by simp) rfl ?_
          refine d_first 6 rfl rfl rfl (by kernel_rfl) (by kernel_rfl) (tl_pv (pv_cat rfl rfl (by first | (simp only [List.length_append, List.length_take, List.length_drop, List.length_cons, List.length_nil]; omega) | (simp; try omega)))) ?_
          refine d_first 11 rfl rfl rfl (by kernel_rfl) (by kernel_rfl) (tl_pv (pv_cat rfl rfl (by first | (simp only [List.length_append, List.length_take, List.length_drop, List.length_cons, List.length_nil]; omega) | (simp; try omega)))) ?_
          refine d_first 15 rfl rfl rfl (by kernel_rfl) (by kernel_rfl) (tl_pv (pv_cat rfl rfl (by first | (simp only [List.length_append, List.length_take, List.length_drop, List.length_cons, List.length_nil]; omega) | (simp; try omega)))) ?_
          refine d_first 16 rfl rfl rfl (by kernel_rfl) (by kernel_rfl) (tl_pv (pv_assign rfl)) ?_
          refine d_done (by kernel_rfl) ?_
          refine t_seq ?_
          refine p_ret rfl ?_
          exact fin_ret () (vs := [_]) rfl (.tmp rfl .nil) rfl trivial ent_nil
      · -- op 14
        refine an_b2s (l := [mk]) Try.underlying44 Try.underlying9 Try.underlying5 rfl (vUs_one _ _ rfl) (by simp) rfl ?_
        refine d_next2 4 10 (by kernel_rfl) rfl rfl ?_ ?_
        · -- op 4
          refine an_b2s (l := [UInt8.ofNat s.length]) Try.underlying44 Try.underlying9 Try.underlying5 rfl (vUs_one _ _ (u8_len s h)) (by simp) rfl ?_
          refine d_first 6 rfl rfl rfl (by kernel_rfl) (by kernel_rfl) (tl_pv (pv_cat rfl rfl (by first | (simp only [List.length_append, List.length_take, List.length_drop, List.length_cons, List.length_nil]; omega) | (simp; try omega)))) ?_
          refine d_next 10 (by kernel_rfl) rfl ?_
          refine an_callF hr rfl rfl rfl ?_
          refine d_first 11 rfl rfl rfl (by kernel_rfl) (by kernel_rfl) (tl_pv (pv_cat rfl rfl (by first | (simp only [List.length_append, List.length_take, List.length_drop, List.length_cons, List.length_nil]; omega) | (simp; try omega)))) ?_
          refine d_first 15 rfl rfl rfl (by kernel_rfl) (by kernel_rfl) (tl_pv (pv_cat rfl rfl (by first | (simp only [List.length_append, List.length_take, List.length_drop, List.length_cons, List.length_nil]; omega) | (simp; try omega)))) ?_
          refine d_first 16 rfl rfl rfl (by kernel_rfl) (by kernel_rfl) (tl_pv (pv_assign rfl)) ?_
          refine d_done (by kernel_rfl) ?_
          refine t_seq ?_
          refine p_ret rfl ?_
          exact fin_ret () (vs := [_]) rfl (.tmp rfl .nil) rfl trivial ent_nil
        · -- op 10
          refine an_callF hr rfl rfl rfl ?_
          refine d_next 4 (by kernel_rfl) rfl ?_
          refine an_b2s (l := [UInt8.ofNat s.length]) Try.underlying44 Try.underlying9 Try.underlying5 rfl (vUs_one _ _ (u8_len s h)) (by simp) rfl ?_
          refine d_first 6 rfl rfl rfl (by kernel_rfl) (by kernel_rfl) (tl_pv (pv_cat rfl rfl (by first | (simp only [List.length_append, List.length_take, List.length_drop, List.length_cons, List.length_nil]; omega) | (simp; try omega)))) ?_
          refine d_first 11 rfl rfl rfl (by kernel_rfl) (by kernel_rfl) (tl_pv (pv_cat rfl rfl (by first | (simp only [List.length_append, List.length_take, List.length_drop, List.length_cons, List.length_nil]; omega) | (simp; try omega)))) ?_
          refine d_first 15 rfl rfl rfl (by kernel_rfl) (by kernel_rfl) (tl_pv (pv_cat rfl rfl (by first | (simp only [List.length_append, List.length_take, List.length_drop, List.length_cons, List.length_nil]; omega) | (simp; try omega)))) ?_
          refine d_first 16 rfl rfl rfl (by kernel_rfl) (by kernel_rfl) (tl_pv (pv_assign rfl)) ?_
          refine d_done (by kernel_rfl) ?_
          refine t_seq ?_
          refine p_ret rfl ?_
          exact fin_ret () (vs := [_]) rfl (.tmp rfl .nil) rfl trivial ent_nil
  · -- op 10
    refine an_callF hr rfl rfl rfl ?_
    refine d_next2 3 13 (by kernel_rfl) rfl rfl ?_ ?_
    · -- op 3
      refine an_buildSliceL [_] (cs := [_]) Try.underlying44 ti5 rfl rfl rfl rfl rfl rfl rfl rfl (fun b8 => ?_)
      refine d_next2 4 13 (by kernel_rfl) rfl rfl ?_ ?_
      · -- op 4
        refine an_b2s (l := [UInt8.ofNat s.length]) Try.underlying44 Try.underlying9 Try.underlying5 rfl (vUs_one _ _ (u8_len s h)) (by simp) rfl ?_
        refine d_first 6 rfl rfl rfl (by kernel_rfl) (by kernel_rfl) (tl_pv (pv_cat rfl rfl (by first | (simp only [List.length_append, List.length_take, List.length_drop, List.length_cons, List.length_nil]; omega) | (simp; try omega)))) ?_
        refine d_first 11 rfl rfl rfl (by kernel_rfl) (by kernel_rfl) (tl_pv (pv_cat rfl rfl (by first | (simp only [List.length_append, List.length_take, List.length_drop, List.length_cons, List.length_nil]; omega) | (simp; try omega)))) ?_
        refine d_next 13 (by kernel_rfl) rfl ?_
        refine an_buildSliceL [_] (cs := [_]) Try.underlying44 ti5 rfl rfl rfl rfl rfl rfl rfl rfl (fun b18 => ?_)
        refine d_next 14 (by kernel_rfl) rfl ?_
        refine an_b2s (l := [mk]) Try.underlying44 Try.underlying9 Try.underlying5 rfl (vUs_one _ _ rfl) (by simp) rfl ?_
        refine d_first 15 rfl rfl rfl (by kernel_rfl) (by kernel_rfl) (tl_pv (pv_cat rfl rfl (by first | (simp only [List.length_append, List.length_take, List.length_drop, List.length_cons, List.length_nil]; omega) | (simp; try omega)))) ?_
        refine d_first 16 rfl rfl rfl (by kernel_rfl) (by kernel_rfl) (tl_pv (pv_assign rfl)) ?_
        refine d_done (by kernel_rfl) ?_
        refine t_seq ?_
        refine p_ret rfl ?_
        exact fin_ret () (vs := [_]) rfl (.tmp rfl .nil) rfl trivial ent_nil
      · -- op 13
        refine an_buildSliceL [_] (cs := [_]) Try.underlying44 ti5 rfl rfl rfl rfl rfl rfl rfl rfl (fun b18 => ?_)
        refine d_next2 4 14 (by kernel_rfl) rfl rfl ?_ ?_
        · -- op 4
          refine an_b2s (l := [UInt8.ofNat s.length]) Try.underlying44 Try.underlying9 Try.underlying5 rfl (vUs_one _ _ (u8_len s h)) (by simp) rfl ?_
          refine d_first 6 rfl rfl rfl (by kernel_rfl) (by kernel_rfl) (tl_pv (pv_cat rfl rfl (by first | (simp only [List.length_append, List.length_take, List.length_drop, List.length_cons, List.length_nil]; omega) | (simp; try omega)))) ?_
          refine d_first 11 rfl rfl rfl (by kernel_rfl) (by kernel_rfl) (tl_pv (pv_cat rfl rfl (by first | (simp only [List.length_append, List.length_take, List.length_drop, List.length_cons, List.length_nil]; omega) | (simp; try omega)))) ?_
          refine d_next 14 (by kernel_rfl) rfl ?_
          refine an_b2s (l := [mk]) Try.underlying44 Try.underlying9 Try.underlying5 rfl (vUs_one _ _ rfl) (by simp) rfl ?_
          refine d_first 15 rfl rfl rfl (by kernel_rfl) (by kernel_rfl) (tl_pv (pv_cat rfl rfl (by first | (simp only [List.length_append, List.length_take, List.length_drop, List.length_cons, List.length_nil]; omega) | (simp; try omega)))) ?_
          refine d_first 16 rfl rfl rfl (by kernel_rfl) (by kernel_rfl) (tl_pv (pv_assign rfl)) ?_
          refine d_done (by kernel_rfl) ?_
          refine t_seq ?_
          refine p_ret rfl ?_
          exact fin_ret () (vs := [_]) rfl (.tmp rfl .nil) rfl trivial ent_nil
        · -- op 14
          refine an_b2s (l := [mk]) Try.underlying44 Try.underlying9 Try.underlying5 rfl (vUs_one _ _ rfl) (by simp) rfl ?_
          refine d_next 4 (by kernel_rfl) rfl ?_
          refine an_b2s (l := [UInt8.ofNat s.length]) Try.underlying44 Try.underlying9 Try.underlying5 rfl (vUs_one _ _ (u8_len s h)) (by simp) rfl ?_
          refine d_first 6 rfl rfl rfl (by kernel_rfl) (by kernel_rfl) (tl_pv (pv_cat rfl rfl (by first | (simp only [List.length_append, List.length_take, List.length_drop, List.length_cons, List.length_nil]; omega) | (simp; try omega)))) ?_
          refine d_first 11 rfl rfl rfl (by kernel_rfl) (by kernel_rfl) (tl_pv (pv_cat rfl rfl (by first | (simp only [List.length_append, List.length_take, List.length_drop, List.length_cons, List.length_nil]; omega) | (simp; try omega)))) ?_
          refine d_first 15 rfl rfl rfl (by kernel_rfl) (by kernel_rfl) (tl_pv (pv_cat rfl rfl (by first | (simp only [List.length_append, List.length_take, List.length_drop, List.length_cons, List.length_nil]; omega) | (simp; try omega)))) ?_
          refine d_first 16 rfl rfl rfl (by kernel_rfl) (by kernel_rfl) (tl_pv (pv_assign rfl)) ?_
          refine d_done (by kernel_rfl) ?_
          refine t_seq ?_
          refine p_ret rfl ?_
          exact fin_ret () (vs := [_]) rfl (.tmp rfl .nil) rfl trivial ent_nil
    · -- op 13
      refine an_buildSliceL [_] (cs := [_]) Try.underlying44 ti5 rfl rfl rfl rfl rfl rfl rfl rfl (fun b18 => ?_)
      refine d_next2 3 14 (by kernel_rfl) rfl rfl ?_ ?_
      · -- op 3
        refine an_buildSliceL [_] (cs := [_]) Try.underlying44 ti5 rfl rfl rfl rfl rfl rfl rfl rfl (fun b8 => ?_)
        refine d_next2 4 14 (by kernel_rfl) rfl rfl ?_ ?_
        · -- op 4
          refine an_b2s (l := [UInt8.ofNat s.length]) Try.underlying44 Try.underlying9 Try.underlying5 rfl (vUs_one _ _ (u8_len s h)) (by simp) rfl ?_
          refine d_first 6 rfl rfl rfl (by kernel_rfl) (by kernel_rfl) (tl_pv (pv_cat rfl rfl (by first | (simp only [List.length_append, List.length_take, List.length_drop, List.length_cons, List.length_nil]; omega) | (simp; try omega)))) ?_
          refine d_first 11 rfl rfl rfl (by kernel_rfl) (by kernel_rfl) (tl_pv (pv_cat rfl rfl (by first | (simp only [List.length_append, List.length_take, List.length_drop, List.length_cons, List.length_nil]; omega) | (simp; try omega)))) ?_
          refine d_next 14 (by kernel_rfl) rfl ?_
          refine an_b2s (l := [mk]) Try.underlying44 Try.underlying9 Try.underlying5 rfl (vUs_one _ _ rfl) (by simp) rfl ?_
          refine d_first 15 rfl rfl rfl (by kernel_rfl) (by kernel_rfl) (tl_pv (pv_cat rfl rfl (by first | (simp only [List.length_append, List.length_take, List.length_drop, List.length_cons, List.length_nil]; omega) | (simp; try omega)))) ?_
          refine d_first 16 rfl rfl rfl (by kernel_rfl) (by kernel_rfl) (tl_pv (pv_assign rfl)) ?_
          refine d_done (by kernel_rfl) ?_
          refine t_seq ?_
          refine p_ret rfl ?_
          exact fin_ret () (vs := [_]) rfl (.tmp rfl .nil) rfl trivial ent_nil
        · -- op 14
          refine an_b2s (l := [mk]) Try.underlying44 Try.underlying9 Try.underlying5 rfl (vUs_one _ _ rfl) (by simp) rfl ?_
          refine d_next 4 (by kernel_rfl) rfl ?_
          refine an_b2s (l := [UInt8.ofNat s.length]) Try.underlying44 Try.underlying9 Try.underlying5 rfl (vUs_one _ _ (u8_len s h)) (by simp) rfl ?_
          refine d_first 6 rfl rfl rfl (by kernel_rfl) (by kernel_rfl) (tl_pv (pv_cat rfl rfl (by first | (simp only [List.length_append, List.length_take, List.length_drop, List.length_cons, List.length_nil]; omega) | (simp; try omega)))) ?_
          refine d_first 11 rfl rfl rfl (by kernel_rfl) (by kernel_rfl) (tl_pv (pv_cat rfl rfl (by first | (simp only [List.length_append, List.length_take, List.length_drop, List.length_cons, List.length_nil]; omega) | (simp; try omega)))) ?_
          refine d_first 15 rfl rfl rfl (by kernel_rfl) (by kernel_rfl) (tl_pv (pv_cat rfl rfl (by first | (simp only [List.length_append, List.length_take, List.length_drop, List.length_cons, List.length_nil]; omega) | (simp; try omega)))) ?_
          refine d_first 16 rfl rfl rfl (by kernel_rfl) (by kernel_rfl) (tl_pv (pv_assign rfl)) ?_
          refine d_done (by kernel_rfl) ?_
          refine t_seq ?_
          refine p_ret rfl ?_
          exact fin_ret () (vs := [_]) rfl (.tmp rfl .nil) rfl trivial ent_nil
      · -- op 14
        refine an_b2s (l := [mk]) Try.underlying44 Try.underlying9 Try.underlying5 rfl (vUs_one _ _ rfl) (by simp) rfl ?_
        refine d_next 3 (by kernel_rfl) rfl ?_
        refine an_buildSliceL [_] (cs := [_]) Try.underlying44 ti5 rfl rfl rfl rfl rfl rfl rfl rfl (fun b8 => ?_)
        refine d_next 4 (by kernel_rfl) rfl ?_
        refine an_b2s (l := [UInt8.ofNat s.length]) Try.underlying44 Try.underlying9 Try.underlying5 rfl (vUs_one _ _ (u8_len s h)) (by simp) rfl ?_
        refine d_first 6 rfl rfl rfl (by kernel_rfl) (by kernel_rfl) (tl_pv (pv_cat rfl rfl (by first | (simp only [List.length_append, List.length_take, List.length_drop, List.length_cons, List.length_nil]; omega) | (simp; try omega)))) ?_
        refine d_first 11 rfl rfl rfl (by kernel_rfl) (by kernel_rfl) (tl_pv (pv_cat rfl rfl (by first | (simp only [List.length_append, List.length_take, List.length_drop, List.length_cons, List.length_nil]; omega) | (simp; try omega)))) ?_
        refine d_first 15 rfl rfl rfl (by kernel_rfl) (by kernel_rfl) (tl_pv (pv_cat rfl rfl (by first | (simp only [List.length_append, List.length_take, List.length_drop, List.length_cons, List.length_nil]; omega) | (simp; try omega)))) ?_
        refine d_first 16 rfl rfl rfl (by kernel_rfl) (by kernel_rfl) (tl_pv (pv_assign rfl)) ?_
        refine d_done (by kernel_rfl) ?_
        refine t_seq ?_
        refine p_ret rfl ?_
        exact fin_ret () (vs := [_]) rfl (.tmp rfl .nil) rfl trivial ent_nil
  · -- op 13
    refine an_buildSliceL [_] (cs := [_]) Try.underlying44 ti5 rfl rfl rfl rfl rfl rfl rfl rfl (fun b18 => ?_)
    refine d_next3 3 10 14 (by kernel_rfl) rfl rfl rfl ?_ ?_ ?_
    · -- op 3
      refine an_buildSliceL [_] (cs := [_]) Try.underlying44 ti5 rfl rfl rfl rfl rfl rfl rfl rfl (fun b8 => ?_)
      refine d_next3 4 10 14 (by kernel_rfl) rfl rfl rfl ?_ ?_ ?_
      · -- op 4
        refine an_b2s (l := [UInt8.ofNat s.length]) Try.underlying44 Try.underlying9 Try.underlying5 rfl (vUs_one _ _ (u8_len s h)) (by simp) rfl ?_
        refine d_first 6 rfl rfl rfl (by kernel_rfl) (by kernel_rfl) (tl_pv (pv_cat rfl rfl (by first | (simp only [List.length_append, List.length_take, List.length_drop, List.length_cons, List.length_nil]; omega) | (simp; try omega)))) ?_
        refine d_next2 10 14 (by kernel_rfl) rfl rfl ?_ ?_
        · -- op 10
          refine an_callF hr rfl rfl rfl ?_
          refine d_first 11 rfl rfl rfl (by kernel_rfl) (by kernel_rfl) (tl_pv (pv_cat rfl rfl (by first | (simp only [List.length_append, List.length_take, List.length_drop, List.length_cons, List.length_nil]; omega) | (simp; try omega)))) ?_
          refine d_next 14 (by kernel_rfl) rfl ?_
          refine an_b2s (l := [mk]) Try.underlying44 Try.underlying9 Try.underlying5 rfl (vUs_one _ _ rfl) (by simp) rfl ?_
          refine d_first 15 rfl rfl rfl (by kernel_rfl) (by kernel_rfl) (tl_pv (pv_cat rfl rfl (by first | (simp only [List.length_append, List.length_take, List.length_drop, List.length_cons, List.length_nil]; omega) | (simp; try omega)))) ?_
          refine d_first 16 rfl rfl rfl (by kernel_rfl) (by kernel_rfl) (tl_pv (pv_assign rfl)) ?_
          refine d_done (by kernel_rfl) ?_
          refine t_seq ?_
          refine p_ret rfl ?_
          exact fin_ret () (vs := [_]) rfl (.tmp rfl .nil) rfl trivial ent_nil
        · -- op 14
          refine an_b2s (l := [mk]) Try.underlying44 Try.underlying9 Try.underlying5 rfl (vUs_one _ _ rfl) (by simp) rfl ?_
          refine d_next 10 (by kernel_rfl) rfl ?_
          refine an_callF hr rfl rfl rfl ?_
          refine d_first 11 rfl rfl rfl (by kernel_rfl) (by kernel_rfl) (tl_pv (pv_cat rfl rfl (by first | (simp only [List.length_append, List.length_take, List.length_drop, List.length_cons, List.length_nil]; omega) | (simp; try omega)))) ?_
          refine d_first 15 rfl rfl rfl (by kernel_rfl) (by kernel_rfl) (tl_pv (pv_cat rfl rfl (by first | (simp only [List.length_append, List.length_take, List.length_drop, List.length_cons, List.length_nil]; omega) | (simp; try omega)))) ?_
          refine d_first 16 rfl rfl rfl (by kernel_rfl) (by kernel_rfl) (tl_pv (pv_assign rfl)) ?_
          refine d_done (by kernel_rfl) ?_
          refine t_seq ?_
          refine p_ret rfl ?_
          exact fin_ret () (vs := [_]) rfl (.tmp rfl .nil) rfl trivial ent_nil
      · -- op 10
        refine an_callF hr rfl rfl rfl ?_
        refine d_next2 4 14 (by kernel_rfl) rfl rfl ?_ ?_
        · -- op 4
          refine an_b2s (l := [UInt8.ofNat s.length]) Try.underlying44 Try.underlying9 Try.underlying5 rfl (vUs_one _ _ (u8_len s h)) (by simp) rfl ?_
          refine d_first 6 rfl rfl rfl (by kernel_rfl) (by kernel_rfl) (tl_pv (pv_cat rfl rfl (by first | (simp only [List.length_append, List.length_take, List.length_drop, List.length_cons, List.length_nil]; omega) | (simp; try omega)))) ?_
          refine d_first 11 rfl rfl rfl (by kernel_rfl) (by kernel_rfl) (tl_pv (pv_cat rfl rfl (by first | (simp only [List.length_append, List.length_take, List.length_drop, List.length_cons, List.length_nil]; omega) | (simp; try omega)))) ?_
          refine d_next 14 (by kernel_rfl) rfl ?_
          refine an_b2s (l := [mk]) Try.underlying44 Try.underlying9 Try.underlying5 rfl (vUs_one _ _ rfl) (by simp) rfl ?_
          refine d_first 15 rfl rfl rfl (by kernel_rfl) (by kernel_rfl) (tl_pv (pv_cat rfl rfl (by first | (simp only [List.length_append, List.length_take, List.length_drop, List.length_cons, List.length_nil]; omega) | (simp; try omega)))) ?_
          refine d_first 16 rfl rfl rfl (by kernel_rfl) (by kernel_rfl) (tl_pv (pv_assign rfl)) ?_
          refine d_done (by kernel_rfl) ?_
          refine t_seq ?_
          refine p_ret rfl ?_
          exact fin_ret () (vs := [_]) rfl (.tmp rfl .nil) rfl trivial ent_nil
        · -- op 14
          refine an_b2s (l := [mk]) Try.underlying44 Try.underlying9 Try.underlying5 rfl (vUs_one _ _ rfl) (by simp) rfl ?_
          refine d_next 4 (by kernel_rfl) rfl ?_
          refine an_b2s (l := [UInt8.ofNat s.length]) Try.underlying44 Try.underlying9 Try.underlying5 rfl (vUs_one _ _ (u8_len s h)) (by simp) rfl ?_
          refine d_first 6 rfl rfl rfl (by kernel_rfl) (by kernel_rfl) (tl_pv (pv_cat rfl rfl (by first | (simp only [List.length_append, List.length_take, List.length_drop, List.length_cons, List.length_nil]; omega) | (simp; try omega)))) ?_
          refine d_first 11 rfl rfl rfl (by kernel_rfl) (by kernel_rfl) (tl_pv (pv_cat rfl rfl (by first | (simp only [List.length_append, List.length_take, List.length_drop, List.length_cons, List.length_nil]; omega) | (simp; try omega)))) ?_
          refine d_first 15 rfl rfl rfl (by kernel_rfl) (by kernel_rfl) (tl_pv (pv_cat rfl rfl (by first | (simp only [List.length_append, List.length_take, List.length_drop, List.length_cons, List.length_nil]; omega) | (simp; try omega)))) ?_
          refine d_first 16 rfl rfl rfl (by kernel_rfl) (by kernel_rfl) (tl_pv (pv_assign rfl)) ?_
          refine d_done (by kernel_rfl) ?_
          refine t_seq ?_
          refine p_ret rfl ?_
          exact fin_ret () (vs := [_]) rfl (.tmp rfl .nil) rfl trivial ent_nil
      · -- op 14
        refine an_b2s (l := [mk]) Try.underlying44 Try.underlying9 Try.underlying5 rfl (vUs_one _ _ rfl) (by simp) rfl ?_
        refine d_next2 4 10 (by kernel_rfl) rfl rfl ?_ ?_
        · -- op 4
          refine an_b2s (l := [UInt8.ofNat s.length]) Try.underlying44 Try.underlying9 Try.underlying5 rfl (vUs_one _ _ (u8_len s h)) (by simp) rfl ?_
          refine d_first 6 rfl rfl rfl (by kernel_rfl) (by kernel_rfl) (tl_pv (pv_cat rfl rfl (by first | (simp only [List.length_append, List.length_take, List.length_drop, List.length_cons, List.length_nil]; omega) | (simp; try omega)))) ?_
          refine d_next 10 (by kernel_rfl) rfl ?_
          refine an_callF hr rfl rfl rfl ?_
          refine d_first 11 rfl rfl rfl (by kernel_rfl) (by kernel_rfl) (tl_pv (pv_cat rfl rfl (by first | (simp only [List.length_append, List.length_take, List.length_drop, List.length_cons, List.length_nil]; omega) | (simp; try omega)))) ?_
          refine d_first 15 rfl rfl rfl (by kernel_rfl) (by kernel_rfl) (tl_pv (pv_cat rfl rfl (by first | (simp only [List.length_append, List.length_take, List.length_drop, List.length_cons, List.length_nil]; omega) | (simp; try omega)))) ?_
          refine d_first 16 rfl rfl rfl (by kernel_rfl) (by kernel_rfl) (tl_pv (pv_assign rfl)) ?_
          refine d_done (by kernel_rfl) ?_
          refine t_seq ?_
          refine p_ret rfl ?_
          exact fin_ret () (vs := [_]) rfl (.tmp rfl .nil) rfl trivial ent_nil
        · -- op 10
          refine an_callF hr rfl rfl rfl ?_
          refine d_next 4 (by kernel_rfl) rfl ?_
          refine an_b2s (l := [UInt8.ofNat s.length]) Try.underlying44 Try.underlying9 Try.underlying5 rfl (vUs_one _ _ (u8_len s h)) (by simp) rfl ?_
          refine d_first 6 rfl rfl rfl (by kernel_rfl) (by kernel_rfl) (tl_pv (pv_cat rfl rfl (by first | (simp only [List.length_append, List.length_take, List.length_drop, List.length_cons, List.length_nil]; omega) | (simp; try omega)))) ?_
          refine d_first 11 rfl rfl rfl (by kernel_rfl) (by kernel_rfl) (tl_pv (pv_cat rfl rfl (by first | (simp only [List.length_append, List.length_take, List.length_drop, List.length_cons, List.length_nil]; omega) | (simp; try omega)))) ?_
          refine d_first 15 rfl rfl rfl (by kernel_rfl) (by kernel_rfl) (tl_pv (pv_cat rfl rfl (by first | (simp only [List.length_append, List.length_take, List.length_drop, List.length_cons, List.length_nil]; omega) | (simp; try omega)))) ?_
          refine d_first 16 rfl rfl rfl (by kernel_rfl) (by kernel_rfl) (tl_pv (pv_assign rfl)) ?_
          refine d_done (by kernel_rfl) ?_
          refine t_seq ?_
          refine p_ret rfl ?_
          exact fin_ret () (vs := [_]) rfl (.tmp rfl .nil) rfl trivial ent_nil
    · -- op 10
      refine an_callF hr rfl rfl rfl ?_
      refine d_next2 3 14 (by kernel_rfl) rfl rfl ?_ ?_
      · -- op 3
        refine an_buildSliceL [_] (cs := [_]) Try.underlying44 ti5 rfl rfl rfl rfl rfl rfl rfl rfl (fun b8 => ?_)
        refine d_next2 4 14 (by kernel_rfl) rfl rfl ?_ ?_
        · -- op 4
          refine an_b2s (l := [UInt8.ofNat s.length]) Try.underlying44 Try.underlying9 Try.underlying5 rfl (vUs_one _ _ (u8_len s h)) (by simp) rfl ?_
          refine d_first 6 rfl rfl rfl (by kernel_rfl) (by kernel_rfl) (tl_pv (pv_cat rfl rfl (by first | (simp only [List.length_append, List.length_take, List.length_drop, List.length_cons, List.length_nil]; omega) | (simp; try omega)))) ?_
          refine d_first 11 rfl rfl rfl (by kernel_rfl) (by kernel_rfl) (tl_pv (pv_cat rfl rfl (by first | (simp only [List.length_append, List.length_take, List.length_drop, List.length_cons, List.length_nil]; omega) | (simp; try omega)))) ?_
          refine d_next 14 (by kernel_rfl) rfl ?_
          refine an_b2s (l := [mk]) Try.underlying44 Try.underlying9 Try.underlying5 rfl (vUs_one _ _ rfl) (by simp) rfl ?_
          refine d_first 15 rfl rfl rfl (by kernel_rfl) (by kernel_rfl) (tl_pv (pv_cat rfl rfl (by first | (simp only [List.length_append, List.length_take, List.length_drop, List.length_cons, List.length_nil]; omega) | (simp; try omega)))) ?_
          refine d_first 16 rfl rfl rfl (by kernel_rfl) (by kernel_rfl) (tl_pv (pv_assign rfl)) ?_
          refine d_done (by kernel_rfl) ?_
          refine t_seq ?_
          refine p_ret rfl ?_
          exact fin_ret () (vs := [_]) rfl (.tmp rfl .nil) rfl trivial ent_nil
        · -- op 14
          refine an_b2s (l := [mk]) Try.underlying44 Try.underlying9 Try.underlying5 rfl (vUs_one _ _ rfl) (by simp) rfl ?_
          refine d_next 4 (by kernel_rfl) rfl ?_
          refine an_b2s (l := [UInt8.ofNat s.length]) Try.underlying44 Try.underlying9 Try.underlying5 rfl (vUs_one _ _ (u8_len s h)) (by simp) rfl ?_
          refine d_first 6 rfl rfl rfl (by kernel_rfl) (by kernel_rfl) (tl_pv (pv_cat rfl rfl (by first | (simp only [List.length_append, List.length_take, List.length_drop, List.length_cons, List.length_nil]; omega) | (simp; try omega)))) ?_
          refine d_first 11 rfl rfl rfl (by kernel_rfl) (by kernel_rfl) (tl_pv (pv_cat rfl rfl (by first | (simp only [List.length_append, List.length_take, List.length_drop, List.length_cons, List.length_nil]; omega) | (simp; try omega)))) ?_
          refine d_first 15 rfl rfl rfl (by kernel_rfl) (by kernel_rfl) (tl_pv (pv_cat rfl rfl (by first | (simp only [List.length_append, List.length_take, List.length_drop, List.length_cons, List.length_nil]; omega) | (simp; try omega)))) ?_
          refine d_first 16 rfl rfl rfl (by kernel_rfl) (by kernel_rfl) (tl_pv (pv_assign rfl)) ?_
          refine d_done (by kernel_rfl) ?_
          refine t_seq ?_
          refine p_ret rfl ?_
          exact fin_ret () (vs := [_]) rfl (.tmp rfl .nil) rfl trivial ent_nil
      · -- op 14
        refine an_b2s (l := [mk]) Try.underlying44 Try.underlying9 Try.underlying5 rfl (vUs_one _ _ rfl) (by simp) rfl ?_
        refine d_next 3 (by kernel_rfl) rfl ?_
        refine an_buildSliceL [_] (cs := [_]) Try.underlying44 ti5 rfl rfl rfl rfl rfl rfl rfl rfl (fun b8 => ?_)
        refine d_next 4 (by kernel_rfl) rfl ?_
        refine an_b2s (l := [UInt8.ofNat s.length]) Try.underlying44 Try.underlying9 Try.underlying5 rfl (vUs_one _ _ (u8_len s h)) (by simp) rfl ?_
        refine d_first 6 rfl rfl rfl (by kernel_rfl) (by kernel_rfl) (tl_pv (pv_cat rfl rfl (by first | (simp only [List.length_append, List.length_take, List.length_drop, List.length_cons, List.length_nil]; omega) | (simp; try omega)))) ?_
        refine d_first 11 rfl rfl rfl (by kernel_rfl) (by kernel_rfl) (tl_pv (pv_cat rfl rfl (by first | (simp only [List.length_append, List.length_take, List.length_drop, List.length_cons, List.length_nil]; omega) | (simp; try omega)))) ?_
        refine d_first 15 rfl rfl rfl (by kernel_rfl) (by kernel_rfl) (tl_pv (pv_cat rfl rfl (by first | (simp only [List.length_append, List.length_take, List.length_drop, List.length_cons, List.length_nil]; omega) | (simp; try omega)))) ?_
        refine d_first 16 rfl rfl rfl (by kernel_rfl) (by kernel_rfl) (tl_pv (pv_assign rfl)) ?_
        refine d_done (by kernel_rfl) ?_
        refine t_seq ?_
        refine p_ret rfl ?_
        exact fin_ret () (vs := [_]) rfl (.tmp rfl .nil) rfl trivial ent_nil
    · -- op 14
      refine an_b2s (l := [mk]) Try.underlying44 Try.underlying9 Try.underlying5 rfl (vUs_one _ _ rfl) (by simp) rfl ?_
      refine d_next2 3 10 (by kernel_rfl) rfl rfl ?_ ?_
      · -- op 3
        refine an_buildSliceL [_] (cs := [_]) Try.underlying44 ti5 rfl rfl rfl rfl rfl rfl rfl rfl (fun b8 => ?_)
        refine d_next2 4 10 (by kernel_rfl) rfl rfl ?_ ?_
        · -- op 4
          refine an_b2s (l := [UInt8.ofNat s.length]) Try.underlying44 Try.underlying9 Try.underlying5 rfl (vUs_one _ _ (u8_len s h)) (by simp) rfl ?_
          refine d_first 6 rfl rfl rfl (by kernel_rfl) (by kernel_rfl) (tl_pv (pv_cat rfl rfl (by first | (simp only [List.length_append, List.length_take, List.length_drop, List.length_cons, List.length_nil]; omega) | (simp; try omega)))) ?_
          refine d_next 10 (by kernel_rfl) rfl ?_
          refine an_callF hr rfl rfl rfl ?_
          refine d_first 11 rfl rfl rfl (by kernel_rfl) (by kernel_rfl) (tl_pv (pv_cat rfl rfl (by first | (simp only [List.length_append, List.length_take, List.length_drop, List.length_cons, List.length_nil]; omega) | (simp; try omega)))) ?_
          refine d_first 15 rfl rfl rfl (by kernel_rfl) (by kernel_rfl) (tl_pv (pv_cat rfl rfl (by first | (simp only [List.length_append, List.length_take, List.length_drop, List.length_cons, List.length_nil]; omega) | (simp; try omega)))) ?_
          refine d_first 16 rfl rfl rfl (by kernel_rfl) (by kernel_rfl) (tl_pv (pv_assign rfl)) ?_
          refine d_done (by kernel_rfl) ?_
          refine t_seq ?_
          refine p_ret rfl ?_
          exact fin_ret () (vs := [_]) rfl (.tmp rfl .nil) rfl trivial ent_nil
        · -- op 10
          refine an_callF hr rfl rfl rfl ?_
          refine d_next 4 (by kernel_rfl) rfl ?_
          refine an_b2s (l := [UInt8.ofNat s.length]) Try.underlying44 Try.underlying9 Try.underlying5 rfl (vUs_one _ _ (u8_len s h)) (by simp) rfl ?_
          refine d_first 6 rfl rfl rfl (by kernel_rfl) (by kernel_rfl) (tl_pv (pv_cat rfl rfl (by first | (simp only [List.length_append, List.length_take, List.length_drop, List.length_cons, List.length_nil]; omega) | (simp; try omega)))) ?_
          refine d_first 11 rfl rfl rfl (by kernel_rfl) (by kernel_rfl) (tl_pv (pv_cat rfl rfl (by first | (simp only [List.length_append, List.length_take, List.length_drop, List.length_cons, List.length_nil]; omega) | (simp; try omega)))) ?_
          refine d_first 15 rfl rfl rfl (by kernel_rfl) (by kernel_rfl) (tl_pv (pv_cat rfl rfl (by first | (simp only [List.length_append, List.length_take, List.length_drop, List.length_cons, List.length_nil]; omega) | (simp; try omega)))) ?_
          refine d_first 16 rfl rfl rfl (by kernel_rfl) (by kernel_rfl) (tl_pv (pv_assign rfl)) ?_
          refine d_done (by kernel_rfl) ?_
          refine t_seq ?_
          refine p_ret rfl ?_
          exact fin_ret () (vs := [_]) rfl (.tmp rfl .nil) rfl trivial ent_nil
      · -- op 10
        refine an_callF hr rfl rfl rfl ?_
        refine d_next 3 (by kernel_rfl) rfl ?_
        refine an_buildSliceL [_] (cs := [_]) Try.underlying44 ti5 rfl rfl rfl rfl rfl rfl rfl rfl (fun b8 => ?_)
        refine d_next 4 (by kernel_rfl) rfl ?_
        refine an_b2s (l := [UInt8.ofNat s.length]) Try.underlying44 Try.underlying9 Try.underlying5 rfl (vUs_one _ _ (u8_len s h)) (by simp) rfl ?_
        refine d_first 6 rfl rfl rfl (by kernel_rfl) (by kernel_rfl) (tl_pv (pv_cat rfl rfl (by first | (simp only [List.length_append, List.length_take, List.length_drop, List.length_cons, List.length_nil]; omega) | (simp; try omega)))) ?_
        refine d_first 11 rfl rfl rfl (by kernel_rfl) (by kernel_rfl) (tl_pv (pv_cat rfl rfl (by first | (simp only [List.length_append, List.length_take, List.length_drop, List.length_cons, List.length_nil]; omega) | (simp; try omega)))) ?_
        refine d_first 15 rfl rfl rfl (by kernel_rfl) (by kernel_rfl) (tl_pv (pv_cat rfl rfl (by first | (simp only [List.length_append, List.length_take, List.length_drop, List.length_cons, List.length_nil]; omega) | (simp; try omega)))) ?_
        refine d_first 16 rfl rfl rfl (by kernel_rfl) (by kernel_rfl) (tl_pv (pv_assign rfl)) ?_
        refine d_done (by kernel_rfl) ?_
        refine t_seq ?_
        refine p_ret rfl ?_
        exact fin_ret () (vs := [_]) rfl (.tmp rfl .nil) rfl trivial ent_nil

end Go.Proofs.Ytimafngkifakfaa
