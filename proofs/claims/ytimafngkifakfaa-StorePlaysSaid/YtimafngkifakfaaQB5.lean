/- Texts of this proof, put together: RunsM, LawRuns. -/
import Derived.Test.YtimafngkifakfaaQB4
import Derived.Test.YtimafngkifakfaaQB1
set_option linter.unusedVariables false
set_option linter.unusedSimpArgs false
/- Chapter 7's closed sentence, counted out. -/
set_option maxRecDepth 100000
namespace Go.Proofs.Ytimafngkifakfaa
abbrev R1 : List Rw := [⟨[97], [49], false⟩, ⟨[98], [50], false⟩]
abbrev R2 : List Rw := [⟨[97], [], true⟩]
abbrev R3 : List Rw := [⟨[97], [49], false⟩]
theorem decN_1 : decN 1 = [49] := decF_eq 2 1 (by decide)
theorem text1 : textOf R1 = [49, 32, 49, 32, 97, 49, 49, 32, 49, 32, 98, 50] := by
  simp [textOf, rowText, decN_1]
theorem text2 : textOf R2 = [49, 32, 45, 97] := by simp [textOf, rowText, decN_1]
theorem text3 : textOf R3 = [49, 32, 49, 32, 97, 49] := by simp [textOf, rowText, decN_1]
theorem pieces1 : piecesS (textOf R1) = [pieceS [49, 32, 49, 32, 97, 49, 49, 32, 49, 32, 98, 50] 2] := by
  rw [text1, piecesS_last (by decide)]
theorem pieces2 : piecesS (textOf R2) = [pieceS [49, 32, 45, 97] 2] := by
  rw [text2, piecesS_last (by decide)]
abbrev D1r : Dk := ((newD 20).write 0 (pieceS [49, 32, 49, 32, 97, 49, 49, 32, 49, 32, 98, 50] 2)).1
abbrev J1r : Jn := ⟨[[49, 32, 49, 32, 97, 49, 49, 32, 49, 32, 98, 50]], 1, false⟩
abbrev K1r : Ks := [([97], vS [49]), ([98], vS [50])]
theorem commit1 : commitS (openJ (newD 20)) (openK (openJ (newD 20)).l) (newD 20) R1 = (J1r, K1r, D1r, 0) := by
  rw [commitS, if_neg (by decide), commitJ, pieces1, text1]
  rfl
abbrev D2r : Dk := (D1r.write 1 (pieceS [49, 32, 45, 97] 2)).1
abbrev J2r : Jn := ⟨[[49, 32, 49, 32, 97, 49, 49, 32, 49, 32, 98, 50], [49, 32, 45, 97]], 2, false⟩
abbrev K2r : Ks := [([98], vS [50])]
theorem commit2 : commitS J1r K1r D1r R2 = (J2r, K2r, D2r, 0) := by
  rw [commitS, if_neg (by decide), commitJ, pieces2, text2]
  rfl
theorem open2 : openJ D2r = J2r := rfl
theorem numR_1 (t : Bs) : numR (49 :: 32 :: t) = (1, t, true) := by
  have e : readDec [49] = some 1 := by simp [readDec, dn, decP, decN_1]
  simp [numR, List.findIdx?_cons, e]
theorem read1 : readR [49, 32, 49, 32, 97, 49, 49, 32, 49, 32, 98, 50] = some R1 := by
  rw [readF_eq 13 _ (by decide)]
  simp [readF, rowR, numR_1]
theorem read2 : readR [49, 32, 45, 97] = some R2 := by
  rw [readF_eq 5 _ (by decide)]
  simp [readF, rowR, numR_1]
theorem open2k : openK J2r.l = K2r := by
  simp only [openK, J2r, List.foldl_cons, List.foldl_nil, read1, read2]
  rfl
end Go.Proofs.Ytimafngkifakfaa

/- StoreRuns. -/
set_option maxRecDepth 100000
namespace Go.Proofs.Ytimafngkifakfaa
theorem law_StoreRuns : Sp1 Try.prog 3 [] [] (vB true) [] := by
  refine Sp.body (n := 64) Try.call3 Try.func3 rfl rfl rfl ?_
  refine p_seq rfl ?_
  refine p_region rfl ?_
  refine wo_pv (pv_assign rfl) rfl ?_
  refine q_seq ?_
  refine p_seq rfl ?_
  refine p_region rfl ?_
  refine r_callX (disk_New_sp 20) rfl rfl rfl (fun x8 hx8 => ?_)
  refine wo_pv (pv_assign rfl) rfl ?_
  refine q_seq ?_
  refine p_seq rfl ?_
  refine p_region rfl ?_
  refine wo_pv (pv_move rfl) rfl ?_
  refine r_callX (store_Open_sp x8 (newD 20)) rfl rfl rfl (fun s0 _ => ?_)
  refine wo_pv (pv_assign rfl) rfl ?_
  refine q_seq ?_
  refine p_seq rfl ?_
  refine p_seq rfl ?_
  refine p_region rfl ?_
  refine wo_pv (pv_move rfl) rfl ?_
  refine wo_pv (pv_peql_nil Try.underlying22 rfl rfl) rfl ?_
  refine wo_pv (pv_move rfl) rfl ?_
  first | refine wo_gite (j := 2) rfl rfl (fun h13 => ?_) (fun h13 => ?_) | refine wo_gsplit (j := 2) rfl rfl (fun h13 => ?_) (fun h13 => ?_)
  · -- t13 True
    cases h13
    --done
  · -- t13 False
    refine wo_in (b := false) rfl ?_
    refine wo_pv (pv_move rfl) rfl ?_
    refine wo_in (b := false) rfl ?_
    refine wo_pv (pv_peql_nil Try.underlying24 rfl rfl) rfl ?_
    refine wo_pv (pv_pick_f rfl rfl) rfl ?_
    refine q_seq ?_
    first | refine p_ite rfl rfl (fun h16 => ?_) (fun h16 => ?_) | refine p_cond rfl rfl (fun h16 => ?_) (fun h16 => ?_)
    · -- t16 True
      cases h16
      --done
    · -- t16 False
      refine p_skip rfl ?_
      refine t_seq ?_
      refine p_seq rfl ?_
      refine p_region rfl ?_
      refine wo_pv (pv_move rfl) rfl ?_
      refine wo_pv (pv_buildS (vs := [_, _, .bool false]) Try.underlying29 ti29 rfl rfl rfl rfl rfl) rfl ?_
      refine wo_pv (pv_buildS (vs := [_, _, .bool false]) Try.underlying29 ti29 rfl rfl rfl rfl rfl) rfl ?_
      refine r_buildSliceL [_, _] (cs := [_, _, _, _, _, _]) Try.underlying38 ti29 rfl rfl rfl rfl rfl rfl rfl rfl (fun b20 => ?_)
      refine wo_ent' (ce_norm (b := b20) (T := 29) (l' := R1.flatMap rowC) (by rfl) (by rfl)) ?_
      refine r_call1 (store_Commit_sp (B := Ce b20 29 (R1.flatMap rowC)) s0 x8 2 2 (openJ (newD 20)) (openK (openJ (newD 20)).l) (newD 20) R1 sla_ce rfl (by decide) (by decide) (by rw [text1]; decide) (by decide) (by decide) (by decide)) rfl rfl rfl ?_
      rw [commit1]
      dsimp only
      refine wo_pv (pv_assign rfl) rfl ?_
      refine q_seq ?_
      refine p_seq rfl ?_
      refine p_region rfl ?_
      refine wo_pv (pv_move rfl) rfl ?_
      refine wo_pv (pv_buildS (vs := [_, vS [], _]) Try.underlying29 ti29 rfl rfl rfl rfl rfl) rfl ?_
      refine r_buildSliceL [_] (cs := [_, _, _]) Try.underlying38 ti29 rfl rfl rfl rfl rfl rfl rfl rfl (fun b24 => ?_)
      refine wo_ent' (ce_norm (b := b24) (T := 29) (l' := R2.flatMap rowC) (by rfl) (by rfl)) ?_
      refine r_call1 (store_Commit_sp (B := Ce b24 29 (R2.flatMap rowC)) s0 x8 1 1 J1r K1r D1r R2 sla_ce rfl (by decide) (by decide) (by rw [text2]; decide) (by decide) (by decide) (by decide)) rfl rfl rfl ?_
      rw [commit2]
      dsimp only
      refine wo_pv (pv_assign rfl) rfl ?_
      refine q_seq ?_
      refine p_seq rfl ?_
      refine p_region rfl ?_
      refine wo_pv (pv_move rfl) rfl ?_
      refine r_callX (store_Open_sp x8 D2r) rfl rfl rfl (fun s1 _ => ?_)
      rw [open2, open2k]
      refine wo_pv (pv_assign rfl) rfl ?_
      refine q_seq ?_
      refine p_seq rfl ?_
      refine p_seq rfl ?_
      refine p_region rfl ?_
      refine wo_pv (pv_move rfl) rfl ?_
      refine wo_pv (pv_peql_nil Try.underlying24 rfl rfl) rfl ?_
      refine q_seq ?_
      first | refine p_ite rfl rfl (fun h29 => ?_) (fun h29 => ?_) | refine p_cond rfl rfl (fun h29 => ?_) (fun h29 => ?_)
      · -- t29 True
        cases h29
        --done
      · -- t29 False
        refine p_skip rfl ?_
        refine t_seq ?_
        refine p_seq rfl ?_
        refine p_region rfl ?_
        refine wo_pv (pv_move rfl) rfl ?_
        have hget : Sp1 Try.prog 11 [.pointer (some ⟨s1, 0, none⟩), vS [98]] [IsS s1 x8 J2r K2r] (.tuple #[vS [50], vB true]) [IsS s1 x8 J2r K2r] := store_Get_sp s1 x8 J2r K2r [98]
        refine r_call1 hget rfl rfl rfl ?_
        refine wo_pv (pv_move rfl) rfl ?_
        refine wo_pv (pv_extract rfl rfl) rfl ?_
        refine wo_pv (pv_extract rfl rfl) rfl ?_
        refine wo_pv (pv_assign rfl) rfl ?_
        refine wo_pv (pv_assign rfl) rfl ?_
        refine q_seq ?_
        refine p_seq rfl ?_
        refine p_region rfl ?_
        refine wo_pv (pv_move rfl) rfl ?_
        refine wo_pv (pv_eql rfl rfl) rfl ?_
        refine wo_pv (pv_move rfl) rfl ?_
        first | refine wo_gite (j := 2) rfl rfl (fun h37 => ?_) (fun h37 => ?_) | refine wo_gsplit (j := 2) rfl rfl (fun h37 => ?_) (fun h37 => ?_)
        · -- t37 True
          refine wo_in (b := true) rfl ?_
          refine wo_pv (pv_move rfl) rfl ?_
          refine wo_in (b := true) rfl ?_
          refine wo_pv (pv_eql rfl rfl) rfl ?_
          refine wo_pv (pv_pick_t rfl rfl) rfl ?_
          refine wo_pv (pv_move rfl) rfl ?_
          first | refine wo_gite (j := 6) rfl rfl (fun h41 => ?_) (fun h41 => ?_) | refine wo_gsplit (j := 6) rfl rfl (fun h41 => ?_) (fun h41 => ?_)
          · -- t41 True
            refine wo_in (b := true) rfl ?_
            refine wo_pv (pv_move rfl) rfl ?_
            refine wo_in (b := true) rfl ?_
            refine r_call1 (store_Len_sp s0 x8 J2r K2r) rfl rfl rfl ?_
            refine wo_in (b := true) rfl ?_
            refine wo_pv (pv_eql rfl rfl) rfl ?_
            refine wo_pv (pv_pick_t rfl rfl) rfl ?_
            refine wo_pv (pv_move rfl) rfl ?_
            first | refine wo_gite (j := 11) rfl rfl (fun h46 => ?_) (fun h46 => ?_) | refine wo_gsplit (j := 11) rfl rfl (fun h46 => ?_) (fun h46 => ?_)
            · -- t46 True
              refine wo_in (b := true) rfl ?_
              refine wo_pv (pv_move rfl) rfl ?_
              refine wo_in (b := true) rfl ?_
              refine r_call1 (store_Len_sp s1 x8 J2r K2r) rfl rfl rfl ?_
              refine wo_in (b := true) rfl ?_
              refine wo_pv (pv_eql rfl rfl) rfl ?_
              refine wo_pv (pv_pick_t rfl rfl) rfl ?_
              refine wo_pv (pv_move rfl) rfl ?_
              first | refine wo_gite (j := 16) rfl rfl (fun h51 => ?_) (fun h51 => ?_) | refine wo_gsplit (j := 16) rfl rfl (fun h51 => ?_) (fun h51 => ?_)
              · -- t51 True
                refine wo_in (b := true) rfl ?_
                refine wo_pv (pv_move rfl) rfl ?_
                refine wo_in (b := true) rfl ?_
                refine wo_pv (pv_seql rfl rfl) rfl ?_
                refine wo_pv (pv_pick_t rfl rfl) rfl ?_
                refine wo_pv (pv_move rfl) rfl ?_
                first | refine wo_gite (j := 20) rfl rfl (fun h55 => ?_) (fun h55 => ?_) | refine wo_gsplit (j := 20) rfl rfl (fun h55 => ?_) (fun h55 => ?_)
                · -- t55 True
                  refine wo_in (b := true) rfl ?_
                  refine wo_pv (pv_move rfl) rfl ?_
                  refine wo_pv (pv_pick_t rfl rfl) rfl ?_
                  refine wo_pv (pv_move rfl) rfl ?_
                  first | refine wo_gite (j := 23) rfl rfl (fun h58 => ?_) (fun h58 => ?_) | refine wo_gsplit (j := 23) rfl rfl (fun h58 => ?_) (fun h58 => ?_)
                  · -- t58 True
                    refine wo_in (b := true) rfl ?_
                    refine wo_pv (pv_buildS (vs := [_, _, .bool false]) Try.underlying29 ti29 rfl rfl rfl rfl rfl) rfl ?_
                    refine wo_in (b := true) rfl ?_
                    refine r_buildSliceL [_] (cs := [_, _, _]) Try.underlying38 ti29 rfl rfl rfl rfl rfl rfl rfl rfl (fun b60 => ?_)
                    refine wo_in (b := true) rfl ?_
                    refine wo_ent' (ce_norm (b := b60) (T := 29) (l' := R3.flatMap rowC) (by rfl) (by rfl)) ?_
                    refine r_call1 (store_Text_sp (B := Ce b60 29 (R3.flatMap rowC)) 1 1 R3 sla_ce rfl (by decide) (by decide) (by rw [text3]; decide)) rfl rfl rfl ?_
                    rw [text3]
                    refine wo_in (b := true) rfl ?_
                    refine wo_pv (pv_seql rfl rfl) rfl ?_
                    refine wo_pv (pv_pick_t rfl rfl) rfl ?_
                    refine wo_pv (pv_assign rfl) rfl ?_
                    refine q_seq ?_
                    refine p_ret rfl ?_
                    exact fin_ret () (vs := [_]) (Cs := []) rfl (.tmp rfl .nil) rfl trivial ent_nil
                  · -- t58 False
                    cases h58
                    --done
                · -- t55 False
                  exact absurd rfl h55
                  --done
              · -- t51 False
                exact absurd rfl h51
                --done
            · -- t46 False
              exact absurd rfl h46
              --done
          · -- t41 False
            exact absurd rfl h41
            --done
        · -- t37 False
          exact absurd rfl h37
          --done
end Go.Proofs.Ytimafngkifakfaa
