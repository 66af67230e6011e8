/- StoreTexts. -/
import Derived.Test.YtimafngkifakfaaQB5
import Derived.Test.YtimafngkifakfaaQB6
import Derived.Test.YtimafngkifakfaaQB1
set_option linter.unusedVariables false
set_option maxRecDepth 100000
set_option linter.unusedSimpArgs false
namespace Go.Proofs.Ytimafngkifakfaa
theorem keyTab_len : ∀ k ∈ keyTab, 1 ≤ k.length ∧ k.length ≤ 2 := by decide
theorem valTab_len : ∀ k ∈ valTab, k.length ≤ 54 := by decide
theorem rowM_ok (k v : Int) : (rowM k v).Ok ∧ (rowM k v).key.length ≤ 2 ∧ (rowM k v).val.length ≤ 54 := by
  obtain ⟨a, ha, ha5⟩ := within5 k
  obtain ⟨b, hb, hb5⟩ := within5 v
  have h1 := keyTab_len (keyTab.getD a []) (by rw [getD_lt (show a < keyTab.length by exact ha5)]; exact List.getElem_mem _)
  have h2 := valTab_len (valTab.getD b []) (by rw [getD_lt (show b < valTab.length by exact hb5)]; exact List.getElem_mem _)
  rw [rowM, ha, hb]
  simp only [Int.toNat_natCast]
  split
  · exact ⟨⟨h1.1, by dsimp only; omega, by simp, fun _ => rfl⟩, h1.2, by simp⟩
  · exact ⟨⟨h1.1, by dsimp only; omega, by dsimp only; omega, fun e => by cases e⟩, h1.2, h2⟩
theorem rowsM_ok (ks vs : List Int) : ∀ r ∈ rowsM ks vs, r.Ok ∧ r.key.length ≤ 2 ∧ r.val.length ≤ 54 := by
  intro r hr
  simp only [rowsM, List.mem_map] at hr
  obtain ⟨i, _, rfl⟩ := hr
  exact rowM_ok _ _
theorem decN_small {n : Nat} (h : n < 1000) : (decN n).length ≤ 3 := by
  rw [decN]
  split
  · simp
  · rw [decN]
    split
    · simp
    · rw [decN, if_pos (by omega)]; simp
theorem rowText_small {r : Rw} (h : r.key.length ≤ 2 ∧ r.val.length ≤ 54) : (rowText r).length ≤ 70 := by
  have h1 := decN_small (n := r.key.length) (by omega)
  have h2 := decN_small (n := r.val.length) (by omega)
  unfold rowText
  split <;> simp <;> omega
theorem textOf_small {l : List Rw} (h : ∀ r ∈ l, r.key.length ≤ 2 ∧ r.val.length ≤ 54) : (textOf l).length ≤ 70 * l.length := by
  induction l with
  | nil => simp [textOf]
  | cons q l ih =>
    have e : textOf (q :: l) = rowText q ++ textOf l := by simp [textOf]
    have h1 := rowText_small (h q (by simp))
    have h2 := ih fun r hr => h r (by simp [hr])
    rw [e, List.length_append, List.length_cons]; omega
theorem rowsM_len (ks vs : List Int) : (rowsM ks vs).length ≤ 4 := by simp [rowsM]; omega
theorem rowsM_text (ks vs : List Int) : (textOf (rowsM ks vs)).length ≤ 280 := by
  have h1 := textOf_small (l := rowsM ks vs) fun r hr => (rowsM_ok ks vs r hr).2
  have h2 := rowsM_len ks vs
  omega
theorem law_StoreTexts (qa qb : AskV) (raw : Bs) (at_ : Int) (c : UInt8) (how : Int) (ha1 : qa.keys.length ≤ 9223372036854775807) (ha2 : qa.vals.length ≤ 9223372036854775807) (hb1 : qb.keys.length ≤ 9223372036854775807) (hb2 : qb.vals.length ≤ 9223372036854775807) (hr : raw.length ≤ 9223372036854775807) :
    Sp1 Try.prog 4 [.agg qa.cells.toArray, .agg qb.cells.toArray, vS raw, vI at_, vU c.toNat, vI how] [SlI qa.ka (qa.keys.map vI), SlI qa.va (qa.vals.map vI), SlI qb.ka (qb.keys.map vI), SlI qb.va (qb.vals.map vI)] (vB true) [] := by
  have hxo := rowsM_ok qa.keys qa.vals
  have hyo := rowsM_ok qb.keys qb.vals
  have hxl := rowsM_len qa.keys qa.vals
  have hyl := rowsM_len qb.keys qb.vals
  have hxt := rowsM_text qa.keys qa.vals
  have hyt := rowsM_text qb.keys qb.vals
  have hrx := law7_rows_sp qa ha1 ha2
  have hry := law7_rows_sp qb hb1 hb2
  generalize rowsM qa.keys qa.vals = x at *
  generalize rowsM qb.keys qb.vals = y at *
  have hread := readR_textOf x (fun r h => (hxo r h).1)
  have hinj := textOf_inj (fun r h => (hxo r h).1) (fun r h => (hyo r h).1)
  have hRd := store_Read_sp (textOf x) (by omega)
  rw [hread] at hRd
  simp only [Option.getD_some, Option.isSome_some] at hRd
  generalize hs : textOf x = s at *
  generalize ht : textOf y = t at *
  refine Sp.body (n := 139) Try.call4 Try.func4 rfl rfl rfl ?_
  refine p_seq rfl ?_
  refine p_region rfl ?_
  refine wo_box (vs := [_, _, _, _, _]) rfl rfl rfl (fun b6 => ?_)
  refine wo_box (vs := [_, _, _, _, _]) rfl rfl rfl (fun b7 => ?_)
  refine wo_pv (pv_assign rfl) rfl ?_
  refine q_seq ?_
  refine p_seq rfl ?_
  refine d_draw rfl rfl rfl [Ce b6 37 qa.cells, Ce b7 37 qb.cells] ?_
  refine d_first 0 rfl rfl rfl (by kernel_rfl) (by kernel_rfl) (tl_loada (vs := [_, _, _, _, _]) Try.underlying37 rfl ti37 rfl (by exact Nat.le_of_ble_eq_true rfl) (by rfl)) ?_
  refine d_first 2 rfl rfl rfl (by kernel_rfl) (by kernel_rfl) (tl_loada (vs := [_, _, _, _, _]) Try.underlying37 rfl ti37 rfl (by exact Nat.le_of_ble_eq_true rfl) (by rfl)) ?_
  refine d_next 1 (by kernel_rfl) rfl ?_
  refine an_callX hrx rfl rfl rfl (fun ax _ => ?_)
  refine d_next 3 (by kernel_rfl) rfl ?_
  refine an_callX hry rfl rfl rfl (fun ay _ => ?_)
  refine d_first 4 rfl rfl rfl (by kernel_rfl) (by kernel_rfl) (tl_pv (pv_assign rfl)) ?_
  refine d_first 5 rfl rfl rfl (by kernel_rfl) (by kernel_rfl) (tl_pv (pv_assign rfl)) ?_
  refine d_done (by kernel_rfl) ?_
  refine t_seq ?_
  refine p_seq rfl ?_
  refine p_region rfl ?_
  refine wo_pv (pv_move rfl) rfl ?_
  refine r_call1 (store_Text_sp (B := Row 29 3 (.slice ax.1 x.length ax.2) x.length (x.flatMap rowC)) x.length ax.2 x sla_row rfl (by omega) (fun r h => by have := hxo r h; omega) (by rw [hs]; omega)) rfl rfl rfl ?_
  refine wo_pv (pv_move rfl) rfl ?_
  refine r_call1 (store_Text_sp (B := Row 29 3 (.slice ay.1 y.length ay.2) y.length (y.flatMap rowC)) y.length ay.2 y sla_row rfl (by omega) (fun r h => by have := hyo r h; omega) (by rw [ht]; omega)) rfl rfl rfl ?_
  rw [hs, ht]
  refine wo_pv (pv_assign rfl) rfl ?_
  refine wo_pv (pv_assign rfl) rfl ?_
  refine q_seq ?_
  refine p_seq rfl ?_
  refine p_region rfl ?_
  refine wo_pv (pv_move rfl) rfl ?_
  refine r_callX hRd rfl rfl rfl (fun am _ => ?_)
  refine wo_pv (pv_move rfl) rfl ?_
  refine wo_pv (pv_extract rfl rfl) rfl ?_
  refine wo_pv (pv_extract rfl rfl) rfl ?_
  refine wo_pv (pv_assign rfl) rfl ?_
  refine wo_pv (pv_assign rfl) rfl ?_
  refine q_seq ?_
  refine p_seq rfl ?_
  refine p_seq rfl ?_
  refine p_region rfl ?_
  refine wo_pv (pv_move rfl) rfl ?_
  refine wo_pv (by first | exact pv_notd rfl | exact pv_not rfl) rfl ?_
  refine wo_pv (pv_move rfl) rfl ?_
  first | refine wo_gite (j := 2) rfl rfl (fun h40 => ?_) (fun h40 => ?_) | refine wo_gsplit (j := 2) rfl rfl (fun h40 => ?_) (fun h40 => ?_)
  · -- t40 True
    simp at h40
    --done
  · -- t40 False
    refine wo_in (b := false) rfl ?_
    refine wo_pv (pv_move rfl) rfl ?_
    refine wo_in (b := false) rfl ?_
    refine wo_pv (pv_move rfl) rfl ?_
    refine wo_in (b := false) rfl ?_
    refine r_call1 (book_Same_Row_sp (As := [Row 29 3 (.slice am.1 x.length am.2) x.length (x.flatMap rowC), Row 29 3 (.slice ax.1 x.length ax.2) x.length (x.flatMap rowC)]) x.length x.length am.2 ax.2 x x rfl rfl (by omega)) rfl rfl rfl ?_
    refine wo_in (b := false) rfl ?_
    refine wo_pv (by first | exact pv_notd rfl | exact pv_not rfl) rfl ?_
    refine wo_pv (pv_pick_f rfl rfl) rfl ?_
    refine wo_pv (pv_move rfl) rfl ?_
    first | refine wo_gite (j := 8) rfl rfl (fun h46 => ?_) (fun h46 => ?_) | refine wo_gsplit (j := 8) rfl rfl (fun h46 => ?_) (fun h46 => ?_)
    · -- t46 True
      simp at h46
      --done
    · -- t46 False
      refine wo_in (b := false) rfl ?_
      refine wo_pv (pv_move rfl) rfl ?_
      refine wo_in (b := false) rfl ?_
      refine wo_pv (pv_move rfl) rfl ?_
      refine wo_in (b := false) rfl ?_
      refine wo_pv (pv_seql rfl rfl) rfl ?_
      refine wo_in (b := false) rfl ?_
      refine wo_pv (pv_move rfl) rfl ?_
      refine wo_in (b := false) rfl ?_
      refine wo_pv (pv_move rfl) rfl ?_
      refine wo_in (b := false) rfl ?_
      refine r_call1 (book_Same_Row_sp (As := [Row 29 3 (.slice ax.1 x.length ax.2) x.length (x.flatMap rowC), Row 29 3 (.slice ay.1 y.length ay.2) y.length (y.flatMap rowC)]) x.length y.length ax.2 ay.2 x y rfl rfl (by omega)) rfl rfl rfl ?_
      refine wo_in (b := false) rfl ?_
      refine wo_pv (pv_bneq Try.underlying4 rfl rfl) rfl ?_
      refine wo_pv (pv_pick_f rfl rfl) rfl ?_
      refine q_seq ?_
      first | refine p_ite rfl rfl (fun h54 => ?_) (fun h54 => ?_) | refine p_cond rfl rfl (fun h54 => ?_) (fun h54 => ?_)
      · -- t54 True
        exfalso; revert h54; simp [hinj]
        --done
      · -- t54 False
        refine p_skip rfl ?_
        refine t_seq ?_
        refine p_seq rfl ?_
        refine p_region rfl ?_
        refine wo_pv (pv_move rfl) rfl ?_
        refine wo_pv (pv_move rfl) rfl ?_
        refine wo_pv (pv_call_len_s Try.underlying9 rfl) rfl ?_
        refine wo_pv (pv_call_min rfl rfl) rfl ?_
        refine wo_pv (pv_slice_tom (m := min raw.length 30) Try.underlying9 rfl rfl (by omega) (by omega)) rfl ?_
        refine wo_pv (pv_assign rfl) rfl ?_
        refine q_seq ?_
        refine p_cut (fun (i : { u : Bs // u.length ≤ 400 }) => [(19, vS i.1)]) (fun (i : { u : Bs // u.length ≤ 400 }) => []) rfl (fun i => ?_) ?_
        · -- behind the place 14
          obtain ⟨u, hu⟩ := i
          have hcan : (readR u).isSome = true → textOf ((readR u).getD []) = u ∧ (∀ r ∈ (readR u).getD [], r.Ok) := by
            intro h
            cases e : readR u with
            | none => rw [e] at h; cases h
            | some l => exact readR_canon u.length u l (Nat.le_refl _) e
          have hno : (readR u).isSome = false → ((readR u).getD []).length = 0 := by
            intro h
            cases e : readR u with
            | none => rfl
            | some l => rw [e] at h; cases h
          have hR1 := store_Read_sp u (by omega)
          have hR2 := ref5_ReadRows_sp u (by omega)
          have hwl := readR_len u
          generalize (readR u).getD [] = w at *
          generalize (readR u).isSome = ok at *
          dsimp only
          try dsimp only
          refine p_seq rfl ?_
          refine p_region rfl ?_
          refine wo_pv (pv_move rfl) rfl ?_
          refine r_callX hR1 rfl rfl rfl (fun an _ => ?_)
          refine wo_pv (pv_move rfl) rfl ?_
          refine wo_pv (pv_extract rfl rfl) rfl ?_
          refine wo_pv (pv_extract rfl rfl) rfl ?_
          refine wo_pv (pv_assign rfl) rfl ?_
          refine wo_pv (pv_assign rfl) rfl ?_
          refine q_seq ?_
          refine p_seq rfl ?_
          refine p_region rfl ?_
          refine wo_pv (pv_move rfl) rfl ?_
          refine r_callX hR2 rfl rfl rfl (fun aw _ => ?_)
          refine wo_pv (pv_move rfl) rfl ?_
          refine wo_pv (pv_extract rfl rfl) rfl ?_
          refine wo_pv (pv_extract rfl rfl) rfl ?_
          refine wo_pv (pv_assign rfl) rfl ?_
          refine wo_pv (pv_assign rfl) rfl ?_
          refine q_seq ?_
          refine p_seq rfl ?_
          refine p_seq rfl ?_
          refine p_region rfl ?_
          refine wo_pv (pv_move rfl) rfl ?_
          refine wo_pv (pv_move rfl) rfl ?_
          refine wo_pv (pv_bneq Try.underlying4 rfl rfl) rfl ?_
          refine wo_pv (pv_move rfl) rfl ?_
          first | refine wo_gite (j := 3) rfl rfl (fun h114 => ?_) (fun h114 => ?_) | refine wo_gsplit (j := 3) rfl rfl (fun h114 => ?_) (fun h114 => ?_)
          · -- t114 True
            simp at h114
            --done
          · -- t114 False
            refine wo_in (b := false) rfl ?_
            refine wo_pv (pv_move rfl) rfl ?_
            refine wo_in (b := false) rfl ?_
            refine wo_pv (pv_move rfl) rfl ?_
            first | refine wo_gite (j := 5) rfl rfl (fun h116 => ?_) (fun h116 => ?_) | refine wo_gsplit (j := 5) rfl rfl (fun h116 => ?_) (fun h116 => ?_)
            · -- t116 True
              obtain ⟨hc1, hc2⟩ := hcan h116
              refine wo_in (b := true) rfl ?_
              refine wo_pv (pv_move rfl) rfl ?_
              refine wo_in (b := true) rfl ?_
              refine wo_pv (pv_move rfl) rfl ?_
              refine wo_in (b := true) rfl ?_
              refine r_call1 (book_Same_Row_sp (As := [Row 29 3 (.slice an.1 w.length an.2) w.length (w.flatMap rowC), Row 29 3 (.slice aw.1 w.length aw.2) w.length (w.flatMap rowC)]) w.length w.length an.2 aw.2 w w rfl rfl (by omega)) rfl rfl rfl ?_
              refine wo_in (b := true) rfl ?_
              refine wo_pv (by first | exact pv_notd rfl | exact pv_not rfl) rfl ?_
              refine wo_in (b := true) rfl ?_
              refine wo_pv (pv_move rfl) rfl ?_
              first | refine wo_gite (j := 10) rfl rfl (fun h121 => ?_) (fun h121 => ?_) | refine wo_gsplit (j := 10) rfl rfl (fun h121 => ?_) (fun h121 => ?_)
              · -- t121 True
                simp at h121
                --done
              · -- t121 False
                refine wo_in (b := false) rfl ?_
                refine wo_pv (pv_move rfl) rfl ?_
                refine wo_in (b := false) rfl ?_
                refine r_call1 (store_Text_sp (B := Row 29 3 (.slice an.1 w.length an.2) w.length (w.flatMap rowC)) w.length an.2 w sla_row rfl (by omega) (fun r h => by have := hc2 r h; exact ⟨by have := this.k2; omega, this.v⟩) (by rw [hc1]; omega)) rfl rfl rfl ?_
                rw [hc1]
                refine wo_in (b := false) rfl ?_
                refine wo_pv (pv_move rfl) rfl ?_
                refine wo_in (b := false) rfl ?_
                refine wo_pv (pv_sneq rfl rfl) rfl ?_
                refine wo_in (b := true) rfl ?_
                refine wo_pv (pv_pick_f rfl rfl) rfl ?_
                refine wo_in (b := false) rfl ?_
                refine wo_pv (pv_pick_t rfl rfl) rfl ?_
                refine wo_pv (pv_pick_f rfl rfl) rfl ?_
                refine wo_pv (pv_move rfl) rfl ?_
                first | refine wo_gite (j := 18) rfl rfl (fun h129 => ?_) (fun h129 => ?_) | refine wo_gsplit (j := 18) rfl rfl (fun h129 => ?_) (fun h129 => ?_)
                · -- t129 True
                  simp at h129
                  --done
                · -- t129 False
                  refine wo_in (b := false) rfl ?_
                  refine wo_pv (pv_move rfl) rfl ?_
                  refine wo_in (b := false) rfl ?_
                  refine wo_pv (by first | exact pv_notd rfl | exact pv_not rfl) rfl ?_
                  refine wo_in (b := false) rfl ?_
                  refine wo_pv (pv_move rfl) rfl ?_
                  first | refine wo_gite (j := 21) rfl rfl (fun h132 => ?_) (fun h132 => ?_) | refine wo_gsplit (j := 21) rfl rfl (fun h132 => ?_) (fun h132 => ?_)
                  · -- t132 True
                    refine wo_in (b := true) rfl ?_
                    refine wo_pv (pv_move rfl) rfl ?_
                    refine wo_in (b := true) rfl ?_
                    refine wo_pv (pv_call_len_sl Try.underlying38 rfl) rfl ?_
                    refine wo_in (b := true) rfl ?_
                    refine wo_pv (pv_neq rfl rfl) rfl ?_
                    refine wo_in (b := false) rfl ?_
                    refine wo_pv (pv_pick_t rfl rfl) rfl ?_
                    refine wo_pv (pv_pick_f rfl rfl) rfl ?_
                    refine q_seq ?_
                    first | refine p_ite rfl rfl (fun h137 => ?_) (fun h137 => ?_) | refine p_cond rfl rfl (fun h137 => ?_) (fun h137 => ?_)
                    · -- t137 True
                      exfalso; first | (have := hno h116; omega) | (rw [h116] at h132; simp at h132; done)
                      --done
                    · -- t137 False
                      refine p_skip rfl ?_
                      refine t_seq ?_
                      refine p_seq rfl ?_
                      refine p_region rfl ?_
                      refine r_call1 law_StoreRuns rfl rfl rfl ?_
                      refine wo_pv (pv_assign rfl) rfl ?_
                      refine q_seq ?_
                      refine p_ret rfl ?_
                      exact fin_ret () (vs := [_]) (Cs := []) rfl (.tmp rfl .nil) rfl trivial ent_nil
                  · -- t132 False
                    refine wo_out (b := false) rfl rfl rfl ?_
                    refine wo_out (b := false) rfl rfl rfl ?_
                    refine wo_out (b := false) rfl rfl rfl ?_
                    refine wo_in (b := false) rfl ?_
                    refine wo_pv (pv_pick_f rfl rfl) rfl ?_
                    refine wo_pv (pv_pick_f rfl rfl) rfl ?_
                    refine q_seq ?_
                    refine p_false rfl rfl ?_
                    refine p_skip rfl ?_
                    refine t_seq ?_
                    refine p_seq rfl ?_
                    refine p_region rfl ?_
                    refine r_call1 law_StoreRuns rfl rfl rfl ?_
                    refine wo_pv (pv_assign rfl) rfl ?_
                    refine q_seq ?_
                    refine p_ret rfl ?_
                    exact fin_ret () (vs := [_]) (Cs := []) rfl (.tmp rfl .nil) rfl trivial ent_nil
            · -- t116 False
              refine wo_out (b := false) rfl rfl rfl ?_
              refine wo_out (b := false) rfl rfl rfl ?_
              refine wo_out (b := false) rfl rfl rfl ?_
              refine wo_out (b := false) rfl rfl rfl ?_
              refine wo_out (b := false) rfl rfl rfl ?_
              refine wo_outU (u := undef) rfl rfl rfl ?_
              refine wo_outU (u := undef) rfl rfl rfl ?_
              refine wo_outU (u := undef) rfl rfl rfl ?_
              refine wo_outU (u := undef) rfl rfl rfl ?_
              refine wo_out (b := false) rfl rfl rfl ?_
              refine wo_in (b := false) rfl ?_
              refine wo_pv (pv_pick_f rfl rfl) rfl ?_
              refine wo_pv (pv_pick_f rfl rfl) rfl ?_
              refine wo_pv (pv_move rfl) rfl ?_
              refine wo_in (b := false) rfl ?_
              refine wo_pv (pv_move rfl) rfl ?_
              refine wo_in (b := false) rfl ?_
              refine wo_pv (by first | exact pv_notd rfl | exact pv_not rfl) rfl ?_
              refine wo_in (b := false) rfl ?_
              refine wo_pv (pv_move rfl) rfl ?_
              first | refine wo_gite (j := 21) rfl rfl (fun h132 => ?_) (fun h132 => ?_) | refine wo_gsplit (j := 21) rfl rfl (fun h132 => ?_) (fun h132 => ?_)
              · -- t132 True
                refine wo_in (b := true) rfl ?_
                refine wo_pv (pv_move rfl) rfl ?_
                refine wo_in (b := true) rfl ?_
                refine wo_pv (pv_call_len_sl Try.underlying38 rfl) rfl ?_
                refine wo_in (b := true) rfl ?_
                refine wo_pv (pv_neq rfl rfl) rfl ?_
                refine wo_in (b := false) rfl ?_
                refine wo_pv (pv_pick_t rfl rfl) rfl ?_
                refine wo_pv (pv_pick_f rfl rfl) rfl ?_
                refine q_seq ?_
                first | refine p_ite rfl rfl (fun h137 => ?_) (fun h137 => ?_) | refine p_cond rfl rfl (fun h137 => ?_) (fun h137 => ?_)
                · -- t137 True
                  exfalso; first | (have := hno h116; omega) | (rw [h116] at h132; simp at h132; done)
                  --done
                · -- t137 False
                  refine p_skip rfl ?_
                  refine t_seq ?_
                  refine p_seq rfl ?_
                  refine p_region rfl ?_
                  refine r_call1 law_StoreRuns rfl rfl rfl ?_
                  refine wo_pv (pv_assign rfl) rfl ?_
                  refine q_seq ?_
                  refine p_ret rfl ?_
                  exact fin_ret () (vs := [_]) (Cs := []) rfl (.tmp rfl .nil) rfl trivial ent_nil
              · -- t132 False
                refine wo_out (b := false) rfl rfl rfl ?_
                refine wo_out (b := false) rfl rfl rfl ?_
                refine wo_out (b := false) rfl rfl rfl ?_
                refine wo_in (b := false) rfl ?_
                refine wo_pv (pv_pick_f rfl rfl) rfl ?_
                refine wo_pv (pv_pick_f rfl rfl) rfl ?_
                refine q_seq ?_
                refine p_false rfl rfl ?_
                refine p_skip rfl ?_
                refine t_seq ?_
                refine p_seq rfl ?_
                refine p_region rfl ?_
                refine r_call1 law_StoreRuns rfl rfl rfl ?_
                refine wo_pv (pv_assign rfl) rfl ?_
                refine q_seq ?_
                refine p_ret rfl ?_
                exact fin_ret () (vs := [_]) (Cs := []) rfl (.tmp rfl .nil) rfl trivial ent_nil
        · -- to the place 14
          refine p_seq rfl ?_
          refine p_region rfl ?_
          refine wo_pv (pv_move rfl) rfl ?_
          refine wo_pv (pv_call_len_s Try.underlying9 rfl) rfl ?_
          refine wo_pv (pv_gtr rfl rfl) rfl ?_
          refine wo_pv (pv_move rfl) rfl ?_
          first | refine wo_gite (j := 3) rfl rfl (fun h63 => ?_) (fun h63 => ?_) | refine wo_gsplit (j := 3) rfl rfl (fun h63 => ?_) (fun h63 => ?_)
          · -- t63 True
            refine wo_in (b := true) rfl ?_
            refine wo_pv (pv_move rfl) rfl ?_
            refine wo_in (b := true) rfl ?_
            refine wo_pv (pv_and rfl rfl) rfl ?_
            refine wo_in (b := true) rfl ?_
            refine wo_pv (pv_neq rfl rfl) rfl ?_
            refine wo_pv (pv_pick_t rfl rfl) rfl ?_
            refine q_seq ?_
            first | refine p_ite rfl rfl (fun h67 => ?_) (fun h67 => ?_) | refine p_cond rfl rfl (fun h67 => ?_) (fun h67 => ?_)
            · -- t67 True
              refine p_seq rfl ?_
              obtain ⟨i, hi, hil⟩ : ∃ i : Nat, withinI at_ 0 ((s.length : Int) - 1) = i ∧ i < s.length := by
                have := withinI_in (n := at_) (lo := 0) (hi := (s.length : Int) - 1) (by omega)
                exact ⟨(withinI at_ 0 ((s.length : Int) - 1)).toNat, by omega, by omega⟩
              have hW := book_Within_sp at_ 0 ((s.length : Int) - 1) (by omega) (by omega) (by omega)
              rw [hi] at hW
              refine p_region rfl ?_
              refine wo_pv (pv_move rfl) rfl ?_
              refine wo_pv (pv_move rfl) rfl ?_
              refine wo_pv (pv_call_len_s Try.underlying9 rfl) rfl ?_
              refine wo_pv (pv_sub rfl rfl (by omega)) rfl ?_
              refine r_callF hW rfl rfl rfl ?_
              refine wo_pv (pv_assign rfl) rfl ?_
              refine q_seq ?_
              refine p_seq rfl ?_
              refine d_draw rfl rfl rfl [] ?_
              refine d_first 0 rfl rfl rfl (by kernel_rfl) (by kernel_rfl) (tl_pv (pv_move rfl)) ?_
              refine d_first 1 rfl rfl rfl (by kernel_rfl) (by kernel_rfl) (tl_pv (pv_move rfl)) ?_
              refine d_first 2 rfl rfl rfl (by kernel_rfl) (by kernel_rfl) (tl_pv (pv_slice_tom Try.underlying9 rfl rfl rfl (by omega))) ?_
              refine d_first 3 rfl rfl rfl (by kernel_rfl) (by kernel_rfl) (tl_pv (pv_move rfl)) ?_
              refine d_first 7 rfl rfl rfl (by kernel_rfl) (by kernel_rfl) (tl_pv (pv_move rfl)) ?_
              refine d_first 8 rfl rfl rfl (by kernel_rfl) (by kernel_rfl) (tl_pv (pv_move rfl)) ?_
              refine d_first 9 rfl rfl rfl (by kernel_rfl) (by kernel_rfl) (tl_pv (pv_add rfl rfl (by omega))) ?_
              refine d_first 10 rfl rfl rfl (by kernel_rfl) (by kernel_rfl) (tl_pv (pv_slice_fromm (m := i + 1) Try.underlying9 rfl rfl (by omega) (by omega))) ?_
              refine d_next 4 (by kernel_rfl) rfl ?_
              refine an_buildSliceL [_] (cs := [_]) Try.underlying44 ti5 rfl rfl rfl rfl rfl rfl rfl rfl (fun b77 => ?_)
              refine d_next 5 (by kernel_rfl) rfl ?_
              refine an_b2s (l := [c]) Try.underlying44 Try.underlying9 Try.underlying5 rfl (by rfl) (by simp) rfl ?_
              refine d_first 6 rfl rfl rfl (by kernel_rfl) (by kernel_rfl) (tl_pv (pv_cat rfl rfl (by first | (simp only [List.length_append, List.length_take, List.length_drop, List.length_cons, List.length_nil]; omega) | (simp; try omega)))) ?_
              refine d_first 11 rfl rfl rfl (by kernel_rfl) (by kernel_rfl) (tl_pv (pv_cat rfl rfl (by first | (simp only [List.length_append, List.length_take, List.length_drop, List.length_cons, List.length_nil]; omega) | (simp; try omega)))) ?_
              refine d_first 12 rfl rfl rfl (by kernel_rfl) (by kernel_rfl) (tl_pv (pv_assign rfl)) ?_
              refine d_done (by kernel_rfl) ?_
              refine t_seq ?_
              refine p_seq rfl ?_
              refine p_seq rfl ?_
              refine p_region rfl ?_
              refine wo_pv (pv_move rfl) rfl ?_
              refine wo_pv (pv_and rfl rfl) rfl ?_
              refine wo_pv (pv_eql rfl rfl) rfl ?_
              refine q_seq ?_
              first | refine p_ite rfl rfl (fun h87 => ?_) (fun h87 => ?_) | refine p_cond rfl rfl (fun h87 => ?_) (fun h87 => ?_)
              · -- t87 True
                refine p_region rfl ?_
                refine wo_pv (pv_move rfl) rfl ?_
                refine wo_pv (pv_move rfl) rfl ?_
                refine wo_pv (pv_slice_tom Try.underlying9 rfl rfl rfl (by omega)) rfl ?_
                refine wo_pv (pv_assign rfl) rfl ?_
                refine q_seq ?_
                refine p_seq rfl ?_
                refine p_region rfl ?_
                refine wo_pv (pv_move rfl) rfl ?_
                refine wo_pv (pv_and rfl rfl) rfl ?_
                refine wo_pv (pv_eql rfl rfl) rfl ?_
                refine q_seq ?_
                first | refine p_ite rfl rfl (fun h93 => ?_) (fun h93 => ?_) | refine p_cond rfl rfl (fun h93 => ?_) (fun h93 => ?_)
                · -- t93 True
                  refine p_region rfl ?_
                  refine wo_pv (pv_move rfl) rfl ?_
                  refine wo_pv (pv_move rfl) rfl ?_
                  refine wo_pv (pv_move rfl) rfl ?_
                  refine wo_pv (pv_call_len_s Try.underlying9 rfl) rfl ?_
                  refine wo_pv (pv_call_min rfl rfl) rfl ?_
                  refine wo_pv (pv_slice_tom (m := min raw.length 4) Try.underlying9 rfl rfl (by omega) (by omega)) rfl ?_
                  refine wo_pv (pv_cat rfl rfl (by first | (simp only [List.length_append, List.length_take, List.length_drop, List.length_cons, List.length_nil]; omega) | (simp; try omega))) rfl ?_
                  refine wo_pv (pv_assign rfl) rfl ?_
                  refine wo_nil ?_
                  refine to_inv ⟨_, ?_⟩ trivial ⟨rfl, trivial⟩ ent_nil
                  simp only [List.length_append, List.length_take, List.length_drop, List.length_cons, List.length_nil]; omega
                · -- t93 False
                  refine p_skip rfl ?_
                  refine to_inv ⟨_, ?_⟩ trivial ⟨rfl, trivial⟩ ent_nil
                  simp only [List.length_append, List.length_take, List.length_drop, List.length_cons, List.length_nil]; omega
              · -- t87 False
                refine p_skip rfl ?_
                refine t_seq ?_
                refine p_seq rfl ?_
                refine p_region rfl ?_
                refine wo_pv (pv_move rfl) rfl ?_
                refine wo_pv (pv_and rfl rfl) rfl ?_
                refine wo_pv (pv_eql rfl rfl) rfl ?_
                refine q_seq ?_
                first | refine p_ite rfl rfl (fun h93 => ?_) (fun h93 => ?_) | refine p_cond rfl rfl (fun h93 => ?_) (fun h93 => ?_)
                · -- t93 True
                  refine p_region rfl ?_
                  refine wo_pv (pv_move rfl) rfl ?_
                  refine wo_pv (pv_move rfl) rfl ?_
                  refine wo_pv (pv_move rfl) rfl ?_
                  refine wo_pv (pv_call_len_s Try.underlying9 rfl) rfl ?_
                  refine wo_pv (pv_call_min rfl rfl) rfl ?_
                  refine wo_pv (pv_slice_tom (m := min raw.length 4) Try.underlying9 rfl rfl (by omega) (by omega)) rfl ?_
                  refine wo_pv (pv_cat rfl rfl (by first | (simp only [List.length_append, List.length_take, List.length_drop, List.length_cons, List.length_nil]; omega) | (simp; try omega))) rfl ?_
                  refine wo_pv (pv_assign rfl) rfl ?_
                  refine wo_nil ?_
                  refine to_inv ⟨_, ?_⟩ trivial ⟨rfl, trivial⟩ ent_nil
                  simp only [List.length_append, List.length_take, List.length_drop, List.length_cons, List.length_nil]; omega
                · -- t93 False
                  refine p_skip rfl ?_
                  refine to_inv ⟨_, ?_⟩ trivial ⟨rfl, trivial⟩ ent_nil
                  simp only [List.length_append, List.length_take, List.length_drop, List.length_cons, List.length_nil]; omega
            · -- t67 False
              refine p_skip rfl ?_
              refine to_inv ⟨_, ?_⟩ trivial ⟨rfl, trivial⟩ ent_nil
              simp only [List.length_append, List.length_take, List.length_drop, List.length_cons, List.length_nil]; omega
          · -- t63 False
            refine wo_out (b := false) rfl rfl rfl ?_
            refine wo_out (b := false) rfl rfl rfl ?_
            refine wo_out (b := false) rfl rfl rfl ?_
            refine wo_pv (pv_pick_f rfl rfl) rfl ?_
            refine q_seq ?_
            refine p_false rfl rfl ?_
            refine p_skip rfl ?_
            refine to_inv ⟨_, ?_⟩ trivial ⟨rfl, trivial⟩ ent_nil
            simp only [List.length_append, List.length_take, List.length_drop, List.length_cons, List.length_nil]; omega
end Go.Proofs.Ytimafngkifakfaa
