/- StorePlays. -/
import Derived.Test.YtimafngkifakfaaQB9
import Derived.Test.YtimafngkifakfaaQB8
set_option linter.unusedVariables false
set_option maxRecDepth 100000
set_option linter.unusedSimpArgs false
namespace Go.Proofs.Ytimafngkifakfaa
/-- What some asks point at: it never turns. -/
def AskM (qs : List AskV) : HP := ⟨fun M _ => ∀ q ∈ qs, (SlI q.ka (q.keys.map vI)).at_ M Res.emp ∧ (SlI q.va (q.vals.map vI)).at_ M Res.emp, fun le h q hq => ⟨(SlI q.ka (q.keys.map vI)).mono le (h q hq).1, (SlI q.va (q.vals.map vI)).mono le (h q hq).2⟩⟩
theorem AskM.pers (qs : List AskV) : Pers (AskM qs) := fun e => e
instance {qs : List AskV} : PersC (AskM qs) := ⟨AskM.pers qs⟩
theorem ent_ask {qs : List AskV} {q : AskV} {Hs : List HP} (h : q ∈ qs) (hp : Has (AskM qs) Hs) : Ent Hs (SlI q.ka (q.keys.map vI) :: SlI q.va (q.vals.map vI) :: Hs) := ⟨fun {M g} s => by
  obtain ⟨h1, _, a⟩ := hp.sat s
  exact ⟨Res.emp, g, Res.emp_dj _, rfl, (a q h).1, Res.emp, g, Res.emp_dj _, rfl, (a q h).2, s⟩⟩
set_option maxHeartbeats 4000000 in
theorem law_StorePlays (a : Option Addr) (ac : Nat) (qs : List AskV) (hq : qs.length ≤ 9223372036854775807) (hqs : ∀ q ∈ qs, q.keys.length ≤ 9223372036854775807 ∧ q.vals.length ≤ 9223372036854775807) :
    Sp1 Try.prog 6 [.slice a qs.length ac] [SlI a (qs.flatMap AskV.cells), AskM qs] (vB true) [] := by
  have hN := pi_new
  have hNO : newO 60 = ⟨List.replicate 60 (wholeS []), -1, 0, false⟩ := rfl
  refine Sp.body (n := 223) Try.call6 Try.func6 rfl rfl rfl ?_
  refine p_seq rfl ?_
  refine p_region rfl ?_
  refine wo_alloc (zs := [.bool false]) ti4 rfl rfl rfl (fun b2 => ?_)
  refine q_seq ?_
  refine p_seq rfl ?_
  refine p_region rfl ?_
  refine r_callX (disk_New_sp 60) rfl rfl rfl (fun pd _ => ?_)
  refine r_callX (ref5_NewDisk_sp 60 (by omega) (by omega)) rfl rfl rfl (fun po _ => ?_)
  refine wo_pv (pv_assign rfl) rfl ?_
  refine wo_pv (pv_assign rfl) rfl ?_
  refine q_seq ?_
  refine p_seq rfl ?_
  refine p_region rfl ?_
  refine wo_pv (pv_move rfl) rfl ?_
  refine r_callX (store_Open_sp pd (newD 60)) rfl rfl rfl (fun s0 _ => ?_)
  rw [hN.openJ]
  refine wo_pv (pv_assign rfl) rfl ?_
  refine q_seq ?_
  refine p_seq rfl ?_
  refine p_seq rfl ?_
  refine p_region rfl ?_
  refine wo_pv (pv_move rfl) rfl ?_
  refine wo_pv (pv_peql_nil Try.underlying22 rfl rfl) rfl ?_
  refine wo_pv (pv_move rfl) rfl ?_
  first | refine wo_gite (j := 2) rfl rfl (fun h33 => ?_) (fun h33 => ?_) | refine wo_gsplit (j := 2) rfl rfl (fun h33 => ?_) (fun h33 => ?_)
  · -- t33 True
    simp at h33
    --done
  · -- t33 False
    refine wo_in (b := false) rfl ?_
    refine wo_pv (pv_move rfl) rfl ?_
    refine wo_in (b := false) rfl ?_
    refine wo_pv (pv_peql_nil Try.underlying24 rfl rfl) rfl ?_
    refine wo_pv (pv_pick_f rfl rfl) rfl ?_
    refine q_seq ?_
    first | refine p_ite rfl rfl (fun h36 => ?_) (fun h36 => ?_) | refine p_cond rfl rfl (fun h36 => ?_) (fun h36 => ?_)
    · -- t36 True
      simp at h36
      --done
    · -- t36 False
      refine p_skip rfl ?_
      refine t_seq ?_
      refine p_seq rfl ?_
      refine p_seq rfl ?_
      refine p_region rfl ?_
      refine wo_pv (pv_assign rfl) rfl ?_
      refine q_seq ?_
      refine p_block 0 rfl ?_
      refine p_loop (fun (i : { x : (Nat × Nat) × Jn × Ks × Dk × Od // x.1.1 ≤ qs.length ∧ x.1.1 ≤ 25 ∧ PI x.2.1 x.2.2.1 x.2.2.2.1 x.2.2.2.2 x.1.1 }) => [(0, .slice a qs.length ac), (2, .pointer (some ⟨b2, 0, none⟩)), (3, .pointer (some ⟨pd, 0, none⟩)), (4, .pointer (some ⟨po, 0, none⟩)), (5, .pointer (some ⟨i.1.1.2, 0, none⟩)), (6, vI i.1.1.1)]) (fun (i : { x : (Nat × Nat) × Jn × Ks × Dk × Od // x.1.1 ≤ qs.length ∧ x.1.1 ≤ 25 ∧ PI x.2.1 x.2.2.1 x.2.2.2.1 x.2.2.2.2 x.1.1 }) => [IsO po i.1.2.2.2.2, Ce b2 4 [.bool false], IsD pd i.1.2.2.2.1, IsS i.1.1.2 pd i.1.2.1 i.1.2.2.1, SlI a (qs.flatMap AskV.cells), AskM qs]) (fun (i : { x : (Nat × Nat) × Jn × Ks × Dk × Od // x.1.1 ≤ qs.length ∧ x.1.1 ≤ 25 ∧ PI x.2.1 x.2.2.1 x.2.2.2.1 x.2.2.2.2 x.1.1 }) => 25 - i.1.1.1) rfl (⟨((0, s0), ⟨[], 0, false⟩, openK [], newD 60, ⟨List.replicate 60 (wholeS []), -1, 0, false⟩), Nat.zero_le _, Nat.zero_le _, hN⟩) ?_ ?_ (fun i => ?_)
      · exact ⟨rfl, rfl, rfl, rfl, rfl, rfl, trivial⟩
      · -- H at start
        dsimp only
        rw [← hNO]
        exact ent_pick
      obtain ⟨⟨⟨j, s⟩, J, K, D, o⟩, hj, hj25, pi⟩ := i
      dsimp only at hj hj25 pi
      try dsimp only
      refine p_seq rfl ?_
      refine p_seq rfl ?_
      refine p_region rfl ?_
      refine wo_pv (pv_move rfl) rfl ?_
      refine wo_pv (pv_move rfl) rfl ?_
      refine wo_pv (pv_call_len_sl Try.underlying52 rfl) rfl ?_
      refine wo_pv (pv_lss rfl rfl) rfl ?_
      refine wo_pv (pv_move rfl) rfl ?_
      first | refine wo_gite (j := 4) rfl rfl (fun h41 => ?_) (fun h41 => ?_) | refine wo_gsplit (j := 4) rfl rfl (fun h41 => ?_) (fun h41 => ?_)
      · -- t41 True
        refine wo_in (b := true) rfl ?_
        refine wo_pv (pv_move rfl) rfl ?_
        refine wo_in (b := true) rfl ?_
        refine wo_pv (pv_lss rfl rfl) rfl ?_
        refine wo_pv (pv_pick_t rfl rfl) rfl ?_
        refine q_seq ?_
        first | refine p_ite rfl rfl (fun h44 => ?_) (fun h44 => ?_) | refine p_cond rfl rfl (fun h44 => ?_) (fun h44 => ?_)
        · -- t44 True
          refine p_skip rfl ?_
          refine t_seq ?_
          refine p_seq rfl ?_
          refine p_block 1 rfl ?_
          refine p_seq rfl ?_
          have hjl : j < qs.length := by omega
          have hqj := hqs _ (List.getElem_mem hjl)
          refine wc_know (A := IsD pd D) HasC.get ok_len (fun okd => ?_)
          refine wc_know (A := IsO po o) HasC.get ok_o (fun oko => ?_)
          have hmem : qs[j] ∈ qs := List.getElem_mem hjl
          obtain ⟨q, hqq⟩ : ∃ q, q = qs[j] := ⟨_, rfl⟩
          have hget := get_flat (f := AskV.cells) (sz := 5) (fun _ => rfl) hjl
          rw [← hqq] at hqj hmem hget
          obtain ⟨wn, hwn, hwn8⟩ : ∃ m : Nat, withinI q.n 0 8 = (m : Int) ∧ m ≤ 8 := by
            have := withinI_in (n := q.n) (lo := 0) (hi := 8) (by omega)
            exact ⟨(withinI q.n 0 8).toNat, by omega, by omega⟩
          obtain ⟨kp, hkp, hkp32⟩ : ∃ m : Nat, withinI q.keep 0 32 = (m : Int) ∧ m ≤ 32 := by
            have := withinI_in (n := q.keep) (lo := 0) (hi := 32) (by omega)
            exact ⟨(withinI q.keep 0 32).toNat, by omega, by omega⟩
          have hW1 := book_Within_sp q.n 0 8 (by omega) (by omega) (by omega)
          have hW2 := book_Within_sp q.keep 0 32 (by omega) (by omega) (by omega)
          rw [hwn] at hW1
          rw [hkp] at hW2
          refine p_region rfl ?_
          refine wo_pv (pv_move rfl) rfl ?_
          refine wo_pv (pv_move rfl) rfl ?_
          refine r_elemAddr (sz := 5) Try.underlying52 ti37 rfl rfl rfl rfl (by omega) (by first | (rw [List.length_map]; omega) | (rw [flat_len (sz := 5) (fun _ => rfl)]; omega) | (simp; omega)) rfl rfl ?_
          refine r_eloada (sz := 5) Try.underlying37 rfl ti37 rfl rfl (by rw [flat_len (f := AskV.cells) (sz := 5) (fun _ => rfl)]; omega) rfl hget rfl ?_
          refine wo_alloc (zs := [.int .i64 0, .int .i64 0, .int .i64 0, .slice none 0 0, .slice none 0 0]) ti37 rfl rfl rfl (fun b7 => ?_)
          refine r_storea ti37 rfl rfl rfl rfl (by simp; try omega) ?_
          refine q_seq ?_
          refine p_cut (fun (st : { x : Nat × Jn × Ks × Dk × Od // PI x.2.1 x.2.2.1 x.2.2.2.1 x.2.2.2.2 (j + 1) }) => [(0, .slice a qs.length ac), (2, .pointer (some ⟨b2, 0, none⟩)), (3, .pointer (some ⟨pd, 0, none⟩)), (4, .pointer (some ⟨po, 0, none⟩)), (5, .pointer (some ⟨st.1.1, 0, none⟩)), (6, vI j)]) (fun (st : { x : Nat × Jn × Ks × Dk × Od // PI x.2.1 x.2.2.1 x.2.2.2.1 x.2.2.2.2 (j + 1) }) => [IsO po st.1.2.2.2.2, Ce b2 4 [.bool false], IsD pd st.1.2.2.2.1, IsS st.1.1 pd st.1.2.1 st.1.2.2.1, SlI a (qs.flatMap AskV.cells), AskM qs]) rfl (fun st => ?_) ?_
          · -- behind the place 32
            obtain ⟨⟨s2, J2, K2, D2, o2⟩, pi2⟩ := st
            dsimp only at pi2 ⊢
            try dsimp only
            refine p_seq rfl ?_
            refine p_seq rfl ?_
            refine p_region rfl ?_
            refine wo_pv (pv_move rfl) rfl ?_
            refine wo_pv (pv_peql_nil Try.underlying24 rfl rfl) rfl ?_
            refine q_seq ?_
            first | refine p_ite rfl rfl (fun h122 => ?_) (fun h122 => ?_) | refine p_cond rfl rfl (fun h122 => ?_) (fun h122 => ?_)
            · -- t122 True
              simp at h122
              --done
            · -- t122 False
              refine p_skip rfl ?_
              refine t_seq ?_
              refine p_seq rfl ?_
              have hO2 : o2.secs.length = 60 := by rw [pi2.rel.secs, pi2.n60]
              have hrp := ref5_Replay_sp po o2 (by omega)
              rw [pi2.scan] at hrp
              dsimp only at hrp
              rw [replayS_eq, ← pi2.hK] at hrp
              have hKok := openK_ok J2.l
              rw [← pi2.hK] at hKok
              obtain ⟨hKa, hKn⟩ := hKok
              have hKl := pi2.len
              have hkeys := pi2.keys
              have hrl := rowsK_len K2
              have hfl := fromS_nil_len K2
              have hal := fromA_len K2
              have hac := cntA_le (rowsK K2) (rowsK K2).length
              rw [List.take_length] at hac
              have hat : cntA (rowsK K2) ≤ (rowsK K2).length := List.length_filter_le _ _
              refine p_region rfl ?_
              refine wo_pv (pv_move rfl) rfl ?_
              refine r_callX hrp rfl rfl rfl (fun x124 _ => ?_)
              refine wo_alloc (zs := [.slice none 0 0]) ti38 rfl rfl rfl (fun b15 => ?_)
              refine r_store ti38 rfl rfl rfl rfl (by simp; try omega) ?_
              refine q_seq ?_
              refine p_seq rfl ?_
              refine p_region rfl ?_
              refine wo_alloc (zs := [.int .i64 0]) ti3 rfl rfl rfl (fun b16 => ?_)
              refine r_store ti3 rfl rfl rfl rfl (by simp; try omega) ?_
              refine q_seq ?_
              refine p_seq rfl ?_
              refine p_seq rfl ?_
              refine p_region rfl ?_
              refine wo_pv (pv_move rfl) rfl ?_
              refine r_callX (store_All_sp s2) rfl rfl rfl (fun x126 _ => ?_)
              refine q_seq ?_
              refine p_block 3 rfl ?_
              refine p_rangeFunc (fun pre => [Ce b16 3 [vI pre.length], Ce b15 38 [.slice x124.1 (rowsK K2).length x124.2], Row 29 3 (.slice x124.1 (rowsK K2).length x124.2) (rowsK K2).length ((rowsK K2).flatMap rowC), Ce b2 4 [.bool false], IsD pd D2, IsO po o2, SlI a (qs.flatMap AskV.cells), AskM qs]) (fun j pre => [Pu False]) rfl (store_From_it x126.1 x126.2 s2 pd J2 K2 [] (by omega)) rfl (fun _ => by rfl) rfl ?_ (fun l pre x hok => ?_) ?_ (fun j pre hs => ?_)
              · (refine ent_app ?_; rw [show (([] : List (Bs × Value)).length : Int) = 0 from rfl]; exact ent_pick)
              · -- a round
                obtain ⟨r, hr⟩ := hok
                have hpl : pre.length < (fromS K2 []).length := by rw [hr, List.length_append, List.length_cons]; omega
                obtain ⟨hp2, e1, e2⟩ := rowsK_get hKa hpl
                have hgx : (fromS K2 [])[pre.length] = x := by simp [hr]
                rw [hgx] at e1 e2
                obtain ⟨k, v⟩ := x
                dsimp only at e1 e2
                subst e1; subst e2
                refine p_seq rfl ?_
                refine p_region rfl ?_
                refine wo_pv (pv_assign rfl) rfl ?_
                refine q_seq ?_
                refine p_region rfl ?_
                refine wo_pv (pv_assign rfl) rfl ?_
                refine q_asg ?_
                refine p_block 4 rfl ?_
                refine p_seq rfl ?_
                refine p_seq rfl ?_
                refine p_region rfl ?_
                refine r_load Try.underlying3 rfl rfl rfl rfl ?_
                refine r_load Try.underlying38 rfl rfl rfl rfl ?_
                refine wo_pv (pv_call_len_sl Try.underlying38 rfl) rfl ?_
                refine wo_pv (pv_geq rfl rfl) rfl ?_
                refine wo_pv (pv_move rfl) rfl ?_
                first | refine wo_gite (j := 4) rfl rfl (fun h133 => ?_) (fun h133 => ?_) | refine wo_gsplit (j := 4) rfl rfl (fun h133 => ?_) (fun h133 => ?_)
                · -- t133 True
                  exfalso; omega
                  --done
                · -- t133 False
                  refine wo_in (b := false) rfl ?_
                  refine wo_pv (pv_move rfl) rfl ?_
                  refine wo_in (b := false) rfl ?_
                  refine r_load Try.underlying38 rfl rfl rfl rfl ?_
                  refine wo_in (b := false) rfl ?_
                  refine r_load Try.underlying3 rfl rfl rfl rfl ?_
                  refine wo_in (b := false) rfl ?_
                  refine r_elemAddr (sz := 3) Try.underlying38 ti29 rfl rfl rfl rfl (by omega) (by first | (rw [List.length_map]; omega) | (rw [flat_len (sz := 3) (fun _ => rfl)]; omega) | (simp; omega)) rfl rfl ?_
                  refine wo_in (b := false) rfl ?_
                  refine r_efield Try.underlying29 rfl ti9 rfl rfl rfl rfl (by rw [rowC_len]; omega) rfl ?_
                  refine wo_in (b := false) rfl ?_
                  refine r_eload Try.underlying9 rfl rfl ((get_rowC (m := pre.length) (by omega) 0 (by decide) rfl).trans rfl) rfl ?_
                  refine wo_in (b := false) rfl ?_
                  refine wo_pv (pv_sneq rfl rfl) rfl ?_
                  refine wo_pv (pv_pick_f rfl rfl) rfl ?_
                  refine wo_pv (pv_move rfl) rfl ?_
                  first | refine wo_gite (j := 13) rfl rfl (fun h142 => ?_) (fun h142 => ?_) | refine wo_gsplit (j := 13) rfl rfl (fun h142 => ?_) (fun h142 => ?_)
                  · -- t142 True
                    exfalso; revert h142; simp
                    --done
                  · -- t142 False
                    refine wo_in (b := false) rfl ?_
                    refine wo_pv (pv_move rfl) rfl ?_
                    refine wo_in (b := false) rfl ?_
                    refine r_load Try.underlying38 rfl rfl rfl rfl ?_
                    refine wo_in (b := false) rfl ?_
                    refine r_load Try.underlying3 rfl rfl rfl rfl ?_
                    refine wo_in (b := false) rfl ?_
                    refine r_elemAddr (sz := 3) Try.underlying38 ti29 rfl rfl rfl rfl (by omega) (by first | (rw [List.length_map]; omega) | (rw [flat_len (sz := 3) (fun _ => rfl)]; omega) | (simp; omega)) rfl rfl ?_
                    refine wo_in (b := false) rfl ?_
                    refine r_efield Try.underlying29 rfl ti9 rfl rfl rfl rfl (by rw [rowC_len]; omega) rfl ?_
                    refine wo_in (b := false) rfl ?_
                    refine r_eload Try.underlying9 rfl rfl ((get_rowC (m := pre.length) (by omega) 1 (by decide) rfl).trans rfl) rfl ?_
                    refine wo_in (b := false) rfl ?_
                    refine wo_pv (pv_sneq rfl rfl) rfl ?_
                    refine wo_pv (pv_pick_f rfl rfl) rfl ?_
                    refine q_seq ?_
                    first | refine p_ite rfl rfl (fun h150 => ?_) (fun h150 => ?_) | refine p_cond rfl rfl (fun h150 => ?_) (fun h150 => ?_)
                    · -- t150 True
                      exfalso; revert h150; simp
                      --done
                    · -- t150 False
                      refine p_skip rfl ?_
                      refine t_seq ?_
                      refine p_region rfl ?_
                      refine r_load Try.underlying3 rfl rfl rfl rfl ?_
                      refine wo_pv (pv_add rfl rfl (by omega)) rfl ?_
                      refine r_store ti3 rfl rfl rfl rfl (by simp; try omega) ?_
                      refine wo_nil ?_
                      refine to_block ?_
                      refine to_round ?_
                      rw [List.length_append, List.length_singleton, show ((pre.length + 1 : Nat) : Int) = (pre.length : Int) + 1 from by omega]
                      exact ent_pick
              · -- behind
                skip
                refine to_block ?_
                refine t_seq ?_
                refine p_seq rfl ?_
                refine p_region rfl ?_
                refine wo_alloc (zs := [.int .i64 0]) ti3 rfl rfl rfl (fun b19 => ?_)
                refine r_store ti3 rfl rfl rfl rfl (by simp; try omega) ?_
                refine q_seq ?_
                refine p_seq rfl ?_
                refine p_seq rfl ?_
                refine p_region rfl ?_
                refine wo_pv (pv_move rfl) rfl ?_
                refine r_callX (store_From_sp s2 [97]) rfl rfl rfl (fun x154 _ => ?_)
                refine q_seq ?_
                refine p_block 5 rfl ?_
                refine p_rangeFunc (fun pre => [Ce b19 3 [vI pre.length], Ce b16 3 [vI (fromS K2 []).length], Ce b15 38 [.slice x124.1 (rowsK K2).length x124.2], Row 29 3 (.slice x124.1 (rowsK K2).length x124.2) (rowsK K2).length ((rowsK K2).flatMap rowC), Ce b2 4 [.bool false], IsD pd D2, IsO po o2, SlI a (qs.flatMap AskV.cells), AskM qs]) (fun j pre => [Pu False]) rfl (store_From_it x154.1 x154.2 s2 pd J2 K2 [97] (by omega)) rfl (fun _ => by rfl) rfl ?_ (fun l pre x hok => ?_) ?_ (fun j pre hs => ?_)
                · (refine ent_app ?_; rw [show (([] : List (Bs × Value)).length : Int) = 0 from rfl]; exact ent_pick)
                · -- a round
                  obtain ⟨r, hr⟩ := hok
                  have hxk := fromA_key (K := K2) (x := x) (by rw [hr]; simp)
                  have hpl : pre.length < (fromS K2 [97]).length := by rw [hr, List.length_append, List.length_cons]; omega
                  obtain ⟨k, v⟩ := x
                  dsimp only at hxk
                  have hk1 : 1 ≤ k.length := by
                    cases k with
                    | nil => exact absurd hxk (by decide)
                    | cons b k => simp
                  refine p_region rfl ?_
                  refine wo_pv (pv_assign rfl) rfl ?_
                  refine q_asg ?_
                  refine p_block 6 rfl ?_
                  refine p_seq rfl ?_
                  refine p_region rfl ?_
                  refine r_load Try.underlying3 rfl rfl rfl rfl ?_
                  refine wo_pv (pv_add rfl rfl (by omega)) rfl ?_
                  refine r_store ti3 rfl rfl rfl rfl (by simp; try omega) ?_
                  refine q_seq ?_
                  refine p_seq rfl ?_
                  refine p_region rfl ?_
                  refine wo_pv (pv_move rfl) rfl ?_
                  refine wo_pv (pv_call_len_s Try.underlying9 rfl) rfl ?_
                  refine wo_pv (pv_lss rfl rfl) rfl ?_
                  refine wo_pv (pv_move rfl) rfl ?_
                  first | refine wo_gite (j := 3) rfl rfl (fun h162 => ?_) (fun h162 => ?_) | refine wo_gsplit (j := 3) rfl rfl (fun h162 => ?_) (fun h162 => ?_)
                  · -- t162 True
                    exfalso; dsimp only at h162; omega
                    --done
                  · -- t162 False
                    refine wo_in (b := false) rfl ?_
                    refine wo_pv (pv_move rfl) rfl ?_
                    refine wo_in (b := false) rfl ?_
                    refine wo_pv (pv_indexm (m := 0) Try.underlying9 rfl rfl rfl (by omega)) rfl ?_
                    refine wo_in (b := false) rfl ?_
                    refine wo_pv (pv_neq rfl rfl) rfl ?_
                    refine wo_pv (pv_pick_f rfl rfl) rfl ?_
                    refine q_seq ?_
                    first | refine p_ite rfl rfl (fun h166 => ?_) (fun h166 => ?_) | refine p_cond rfl rfl (fun h166 => ?_) (fun h166 => ?_)
                    · -- t166 True
                      exfalso
                      rw [hxk] at h166
                      revert h166; simp
                      --done
                    · -- t166 False
                      refine p_skip rfl ?_
                      refine to_block ?_
                      refine to_round ?_
                      rw [List.length_append, List.length_singleton, show ((pre.length + 1 : Nat) : Int) = (pre.length : Int) + 1 from by omega]
                      exact ent_pick
                · -- behind
                  skip
                  refine to_block ?_
                  refine t_seq ?_
                  refine p_seq rfl ?_
                  refine p_seq rfl ?_
                  refine p_region rfl ?_
                  refine r_load Try.underlying38 rfl rfl rfl rfl ?_
                  refine wo_pv (pv_call_len_sl Try.underlying38 rfl) rfl ?_
                  refine wo_pv (pv_move rfl) rfl ?_
                  refine q_seq ?_
                  refine p_block 7 rfl ?_
                  refine p_loop (fun (i : { m : Nat // m ≤ (rowsK K2).length }) => [(0, .slice a qs.length ac), (2, .pointer (some ⟨b2, 0, none⟩)), (3, .pointer (some ⟨pd, 0, none⟩)), (4, .pointer (some ⟨po, 0, none⟩)), (5, .pointer (some ⟨s2, 0, none⟩)), (6, vI j), (15, .pointer (some ⟨b15, 0, none⟩)), (16, .pointer (some ⟨b16, 0, none⟩)), (19, .pointer (some ⟨b19, 0, none⟩)), (167, .slice x124.1 (rowsK K2).length x124.2), (168, vI (rowsK K2).length), (169, vI i.1)]) (fun (i : { m : Nat // m ≤ (rowsK K2).length }) => [Ce b19 3 [vI ((fromS K2 [97]).length - cntA ((rowsK K2).take i.1))], Ce b16 3 [vI (fromS K2 []).length], Ce b15 38 [.slice x124.1 (rowsK K2).length x124.2], Row 29 3 (.slice x124.1 (rowsK K2).length x124.2) (rowsK K2).length ((rowsK K2).flatMap rowC), IsS s2 pd J2 K2, Ce b2 4 [.bool false], IsD pd D2, IsO po o2, SlI a (qs.flatMap AskV.cells), AskM qs]) (fun (i : { m : Nat // m ≤ (rowsK K2).length }) => (rowsK K2).length - i.1) rfl (⟨0, Nat.zero_le _⟩) ?_ ?_ (fun i => ?_)
                  · exact ⟨rfl, rfl, rfl, rfl, rfl, rfl, rfl, rfl, rfl, rfl, rfl, rfl, trivial⟩
                  · -- H at start
                    dsimp only
                    rw [show (((fromS K2 [97]).length : Int) - (cntA ((rowsK K2).take 0) : Int)) = ((fromS K2 [97]).length : Int) from by simp [cntA]]
                    exact ent_pick
                  obtain ⟨m, hm⟩ := i
                  dsimp only
                  try dsimp only
                  refine p_seq rfl ?_
                  refine p_region rfl ?_
                  refine wo_pv (pv_lss rfl rfl) rfl ?_
                  refine q_seq ?_
                  refine p_seq rfl ?_
                  first | refine p_ite rfl rfl (fun h170 => ?_) (fun h170 => ?_) | refine p_cond rfl rfl (fun h170 => ?_) (fun h170 => ?_)
                  · -- t170 True
                    refine p_skip rfl ?_
                    refine t_seq ?_
                    refine p_seq rfl ?_
                    refine p_block 8 rfl ?_
                    refine p_seq rfl ?_
                    have hml : m < (rowsK K2).length := by omega
                    have hgt := store_Get_sp s2 pd J2 K2 (rowsK K2)[m].key
                    rw [rowsK_look hKn hKa hml] at hgt
                    simp only [Option.getD_some, Option.isSome_some] at hgt
                    have hkt := hkeys _ (rowsK_key_mem hml)
                    have hk1 := (keyTab_len _ hkt).1
                    have hsu := cntA_succ hml
                    have hcl := cntA_le (rowsK K2) (m + 1)
                    refine p_region rfl ?_
                    refine r_elemAddr (sz := 3) Try.underlying38 ti29 rfl rfl rfl rfl (by omega) (by first | (rw [List.length_map]; omega) | (rw [flat_len (sz := 3) (fun _ => rfl)]; omega) | (simp; omega)) rfl rfl ?_
                    refine r_eloada (vs := [_, _, _]) (sz := 3) Try.underlying29 rfl ti29 rfl rfl (by rw [flat_len (sz := 3) (fun _ => rfl)]; omega) rfl (by refine get_flat (fun x => ?_) ?_ <;> first | rfl | omega) rfl ?_
                    refine wo_alloc (zs := [vS [], vS [], .bool false]) ti29 rfl rfl rfl (fun b22 => ?_)
                    refine r_storea ti29 rfl rfl rfl rfl (by simp; try omega) ?_
                    refine q_seq ?_
                    refine p_seq rfl ?_
                    refine p_region rfl ?_
                    refine wo_pv (pv_move rfl) rfl ?_
                    refine wo_pv (pv_fieldAddrk Try.underlying29 rfl ti9 rfl rfl (k := 0) rfl (by first | exact Nat.zero_add _ | exact Nat.add_zero _ | exact rfl)) rfl ?_
                    refine r_load Try.underlying9 rfl rfl rfl rfl ?_
                    refine r_call1 hgt rfl rfl rfl ?_
                    refine wo_pv (pv_move rfl) rfl ?_
                    refine wo_pv (pv_extract rfl rfl) rfl ?_
                    refine wo_pv (pv_extract rfl rfl) rfl ?_
                    refine wo_pv (pv_assign rfl) rfl ?_
                    refine wo_pv (pv_assign rfl) rfl ?_
                    refine q_seq ?_
                    refine p_seq rfl ?_
                    refine p_seq rfl ?_
                    refine p_region rfl ?_
                    refine wo_pv (pv_move rfl) rfl ?_
                    refine wo_pv (by first | exact pv_notd rfl | exact pv_not rfl) rfl ?_
                    refine wo_pv (pv_move rfl) rfl ?_
                    first | refine wo_gite (j := 2) rfl rfl (fun h182 => ?_) (fun h182 => ?_) | refine wo_gsplit (j := 2) rfl rfl (fun h182 => ?_) (fun h182 => ?_)
                    · -- t182 True
                      simp at h182
                      --done
                    · -- t182 False
                      refine wo_in (b := false) rfl ?_
                      refine wo_pv (pv_move rfl) rfl ?_
                      refine wo_in (b := false) rfl ?_
                      refine wo_pv (pv_fieldAddrk Try.underlying29 rfl ti9 rfl rfl (k := 1) rfl (by first | exact Nat.zero_add _ | exact Nat.add_zero _ | exact rfl)) rfl ?_
                      refine wo_in (b := false) rfl ?_
                      refine r_load Try.underlying9 rfl rfl rfl rfl ?_
                      refine wo_in (b := false) rfl ?_
                      refine wo_pv (pv_sneq rfl rfl) rfl ?_
                      refine wo_pv (pv_pick_f rfl rfl) rfl ?_
                      refine q_seq ?_
                      first | refine p_ite rfl rfl (fun h187 => ?_) (fun h187 => ?_) | refine p_cond rfl rfl (fun h187 => ?_) (fun h187 => ?_)
                      · -- t187 True
                        exfalso; revert h187; simp
                        --done
                      · -- t187 False
                        refine p_skip rfl ?_
                        refine t_seq ?_
                        refine p_seq rfl ?_
                        refine p_region rfl ?_
                        refine wo_pv (pv_fieldAddrk Try.underlying29 rfl ti9 rfl rfl (k := 0) rfl (by first | exact Nat.zero_add _ | exact Nat.add_zero _ | exact rfl)) rfl ?_
                        refine r_load Try.underlying9 rfl rfl rfl rfl ?_
                        refine wo_pv (pv_indexm (m := 0) Try.underlying9 rfl rfl rfl (by omega)) rfl ?_
                        refine wo_pv (pv_eql rfl rfl) rfl ?_
                        refine q_seq ?_
                        first | refine p_ite rfl rfl (fun h191 => ?_) (fun h191 => ?_) | refine p_cond rfl rfl (fun h191 => ?_) (fun h191 => ?_)
                        · -- t191 True
                          refine p_region rfl ?_
                          refine r_load Try.underlying3 rfl rfl rfl rfl ?_
                          refine wo_pv (pv_sub rfl rfl (by omega)) rfl ?_
                          refine r_store ti3 rfl rfl rfl rfl (by simp; try omega) ?_
                          refine wo_nil ?_
                          refine to_block ?_
                          refine t_seq ?_
                          refine p_region rfl ?_
                          refine wo_pv (pv_add rfl rfl (by omega)) rfl ?_
                          refine wo_pv (pv_move rfl) rfl ?_
                          refine wo_nil ?_
                          first
                          | (have hc : (rowsK K2)[m].key.getD 0 0 = 97 := UInt8.toNat_inj.1 (by simp only [UInt8.reduceToNat]; omega)
                             rw [if_pos hc] at hsu
                             refine to_inv ⟨m + 1, by omega⟩ (by dsimp only; omega) ⟨rfl, rfl, rfl, rfl, rfl, rfl, rfl, rfl, rfl, rfl, rfl, rfl, trivial⟩ ?_
                             dsimp only
                             rw [show (((fromS K2 [97]).length : Int) - (cntA ((rowsK K2).take (m + 1)) : Int)) = ((fromS K2 [97]).length : Int) - (cntA ((rowsK K2).take m) : Int) - 1 from by omega]
                             exact ent_pick)
                          | (have hc : ¬ (rowsK K2)[m].key.getD 0 0 = 97 := fun e => by rw [e] at h191; exact h191 rfl
                             rw [if_neg hc, Nat.add_zero] at hsu
                             refine to_inv ⟨m + 1, by omega⟩ (by dsimp only; omega) ⟨rfl, rfl, rfl, rfl, rfl, rfl, rfl, rfl, rfl, rfl, rfl, rfl, trivial⟩ ?_
                             dsimp only
                             rw [hsu]
                             exact ent_pick)
                        · -- t191 False
                          refine p_skip rfl ?_
                          refine to_block ?_
                          refine t_seq ?_
                          refine p_region rfl ?_
                          refine wo_pv (pv_add rfl rfl (by omega)) rfl ?_
                          refine wo_pv (pv_move rfl) rfl ?_
                          refine wo_nil ?_
                          first
                          | (have hc : (rowsK K2)[m].key.getD 0 0 = 97 := UInt8.toNat_inj.1 (by simp only [UInt8.reduceToNat]; omega)
                             rw [if_pos hc] at hsu
                             refine to_inv ⟨m + 1, by omega⟩ (by dsimp only; omega) ⟨rfl, rfl, rfl, rfl, rfl, rfl, rfl, rfl, rfl, rfl, rfl, rfl, trivial⟩ ?_
                             dsimp only
                             rw [show (((fromS K2 [97]).length : Int) - (cntA ((rowsK K2).take (m + 1)) : Int)) = ((fromS K2 [97]).length : Int) - (cntA ((rowsK K2).take m) : Int) - 1 from by omega]
                             exact ent_pick)
                          | (have hc : ¬ (rowsK K2)[m].key.getD 0 0 = 97 := fun e => by rw [e] at h191; exact h191 rfl
                             rw [if_neg hc, Nat.add_zero] at hsu
                             refine to_inv ⟨m + 1, by omega⟩ (by dsimp only; omega) ⟨rfl, rfl, rfl, rfl, rfl, rfl, rfl, rfl, rfl, rfl, rfl, rfl, trivial⟩ ?_
                             dsimp only
                             rw [hsu]
                             exact ent_pick)
                  · -- t170 False
                    refine p_exit 7 rfl ?_
                    refine t_seq_exit ?_
                    refine to_inv_exit ?_
                    refine to_block_here ?_
                    refine t_seq ?_
                    refine p_seq rfl ?_
                    have hmn : m = (rowsK K2).length := by omega
                    subst hmn
                    rw [List.take_length]
                    have hgz := store_Get_sp s2 pd J2 K2 [122, 122]
                    rw [zz_none hkeys] at hgz
                    simp only [Option.getD_none, Option.isSome_none] at hgz
                    refine p_region rfl ?_
                    refine wo_pv (pv_move rfl) rfl ?_
                    refine r_call1 hgz rfl rfl rfl ?_
                    refine wo_pv (pv_move rfl) rfl ?_
                    refine wo_pv (pv_extract rfl rfl) rfl ?_
                    refine wo_pv (pv_extract rfl rfl) rfl ?_
                    refine wo_pv (pv_assign rfl) rfl ?_
                    refine wo_pv (pv_assign rfl) rfl ?_
                    refine q_seq ?_
                    refine p_seq rfl ?_
                    refine d_draw rfl rfl rfl [Ce b19 3 [vI ((fromS K2 [97]).length - cntA (rowsK K2))], Ce b16 3 [vI (fromS K2 []).length], Ce b15 38 [.slice x124.1 (rowsK K2).length x124.2]] ?_
                    refine d_first 0 rfl rfl rfl (by kernel_rfl) (by kernel_rfl) (tl_load Try.underlying3 rfl rfl rfl) ?_
                    refine d_first 1 rfl rfl rfl (by kernel_rfl) (by kernel_rfl) (tl_load Try.underlying38 rfl rfl rfl) ?_
                    refine d_first 2 rfl rfl rfl (by kernel_rfl) (by kernel_rfl) (tl_pv (pv_call_len_sl Try.underlying38 rfl)) ?_
                    refine d_first 3 rfl rfl rfl (by kernel_rfl) (by kernel_rfl) (tl_pv (pv_neq rfl rfl)) ?_
                    refine d_first 4 rfl rfl rfl (by kernel_rfl) (by kernel_rfl) (tl_pv (pv_move rfl)) ?_
                    first | refine d_gite (j := 4) rfl rfl (fun h204 => ?_) (fun h204 => ?_) | refine d_gsplit (j := 4) rfl rfl (fun h204 => ?_) (fun h204 => ?_)
                    · -- t204 True
                      exfalso; omega
                      --done
                    · -- t204 False
                      refine d_first 5 rfl rfl rfl (by kernel_rfl) (by kernel_rfl) (tl_in (b := false) rfl (tl_load Try.underlying3 rfl rfl rfl)) ?_
                      refine d_first 6 rfl rfl rfl (by kernel_rfl) (by kernel_rfl) (tl_in (b := false) rfl (tl_pv (pv_neq rfl rfl))) ?_
                      refine d_first 7 rfl rfl rfl (by kernel_rfl) (by kernel_rfl) (tl_pv (pv_pick_f rfl rfl)) ?_
                      refine d_first 8 rfl rfl rfl (by kernel_rfl) (by kernel_rfl) (tl_pv (pv_move rfl)) ?_
                      first | refine d_gite (j := 8) rfl rfl (fun h208 => ?_) (fun h208 => ?_) | refine d_gsplit (j := 8) rfl rfl (fun h208 => ?_) (fun h208 => ?_)
                      · -- t208 True
                        exfalso; omega
                        --done
                      · -- t208 False
                        refine d_first 9 rfl rfl rfl (by kernel_rfl) (by kernel_rfl) (tl_in (b := false) rfl (tl_pv (pv_move rfl))) ?_
                        refine d_first 10 rfl rfl rfl (by kernel_rfl) (by kernel_rfl) (tl_pv (pv_pick_f rfl rfl)) ?_
                        refine d_first 11 rfl rfl rfl (by kernel_rfl) (by kernel_rfl) (tl_pv (pv_move rfl)) ?_
                        first | refine d_gite (j := 11) rfl rfl (fun h211 => ?_) (fun h211 => ?_) | refine d_gsplit (j := 11) rfl rfl (fun h211 => ?_) (fun h211 => ?_)
                        · -- t211 True
                          simp at h211
                          --done
                        · -- t211 False
                          refine d_first 12 rfl rfl rfl (by kernel_rfl) (by kernel_rfl) (tl_in (b := false) rfl (tl_pv (pv_move rfl))) ?_
                          refine d_first 14 rfl rfl rfl (by kernel_rfl) (by kernel_rfl) (tl_in (b := false) rfl (tl_load Try.underlying3 rfl rfl rfl)) ?_
                          refine d_next 13 (by kernel_rfl) rfl ?_
                          refine an_in (b := false) rfl ?_
                          refine an_call1 (store_Len_sp s2 pd J2 K2) rfl rfl rfl ?_
                          refine d_first 15 rfl rfl rfl (by kernel_rfl) (by kernel_rfl) (tl_in (b := false) rfl (tl_pv (pv_neq rfl rfl))) ?_
                          refine d_first 16 rfl rfl rfl (by kernel_rfl) (by kernel_rfl) (tl_pv (pv_pick_f rfl rfl)) ?_
                          refine d_first 17 rfl rfl rfl (by kernel_rfl) (by kernel_rfl) (tl_pv (pv_move rfl)) ?_
                          first | refine d_gite (j := 17) rfl rfl (fun h217 => ?_) (fun h217 => ?_) | refine d_gsplit (j := 17) rfl rfl (fun h217 => ?_) (fun h217 => ?_)
                          · -- t217 True
                            exfalso; omega
                            --done
                          · -- t217 False
                            refine d_first 18 rfl rfl rfl (by kernel_rfl) (by kernel_rfl) (tl_in (b := false) rfl (tl_pv (pv_move rfl))) ?_
                            refine d_next 19 (by kernel_rfl) rfl ?_
                            refine an_in (b := false) rfl ?_
                            refine an_callX (store_Journal_sp s2 pd J2 K2) rfl rfl rfl (fun m219 _ => ?_)
                            refine d_first 20 rfl rfl rfl (by kernel_rfl) (by kernel_rfl) (tl_in (b := false) rfl (tl_pv (pv_peql_nil Try.underlying65 rfl rfl))) ?_
                            refine d_first 21 rfl rfl rfl (by kernel_rfl) (by kernel_rfl) (tl_pv (pv_pick_f rfl rfl)) ?_
                            refine d_done (by kernel_rfl) ?_
                            refine t_seq ?_
                            first | refine p_ite rfl rfl (fun h221 => ?_) (fun h221 => ?_) | refine p_cond rfl rfl (fun h221 => ?_) (fun h221 => ?_)
                            · -- t221 True
                              simp at h221
                              --done
                            · -- t221 False
                              refine p_skip rfl ?_
                              refine to_block ?_
                              refine t_seq ?_
                              refine p_region rfl ?_
                              refine wo_pv (pv_move rfl) rfl ?_
                              refine wo_pv (pv_add rfl rfl (by omega)) rfl ?_
                              refine wo_pv (pv_assign rfl) rfl ?_
                              refine wo_nil ?_
                              refine to_inv ⟨((j + 1, s2), J2, K2, D2, o2), by dsimp only; omega, by dsimp only; omega, pi2⟩ (by dsimp only; omega) ⟨rfl, rfl, rfl, rfl, rfl, rfl, trivial⟩ ent_pick
                · -- stopped
                  exact wc_no (fun s => by obtain ⟨_, _, _, _, a, _⟩ := s; exact a)
              · -- stopped
                exact wc_no (fun s => by obtain ⟨_, _, _, _, a, _⟩ := s; exact a)
          · -- to the place 32
            refine p_seq rfl ?_
            refine p_region rfl ?_
            refine wo_pv (pv_fieldAddrk Try.underlying37 rfl ti3 rfl rfl (k := 0) rfl (by first | exact Nat.zero_add _ | exact Nat.add_zero _ | exact rfl)) rfl ?_
            refine r_load Try.underlying3 rfl rfl rfl rfl ?_
            refine q_seq ?_
            refine p_block 2 rfl ?_
            refine p_seq rfl ?_
            refine p_region rfl ?_
            refine wo_pv (pv_eql rfl rfl) rfl ?_
            refine wo_pv (pv_assign rfl) rfl ?_
            refine q_seq ?_
            first | refine p_ite rfl rfl (fun h92 => ?_) (fun h92 => ?_) | refine p_cond rfl rfl (fun h92 => ?_) (fun h92 => ?_)
            · -- t92 True
              refine p_seq rfl ?_
              refine d_draw rfl rfl rfl [Ce b7 37 q.cells] ?_
              refine d_first 0 rfl rfl rfl (by kernel_rfl) (by kernel_rfl) (tl_pv (pv_fieldAddrk Try.underlying37 rfl ti3 rfl rfl (k := 1) rfl (by first | exact Nat.zero_add _ | exact Nat.add_zero _ | exact rfl))) ?_
              refine d_first 1 rfl rfl rfl (by kernel_rfl) (by kernel_rfl) (tl_load Try.underlying3 rfl rfl rfl) ?_
              refine d_first 3 rfl rfl rfl (by kernel_rfl) (by kernel_rfl) (tl_pv (pv_fieldAddrk Try.underlying37 rfl ti3 rfl rfl (k := 2) rfl (by first | exact Nat.zero_add _ | exact Nat.add_zero _ | exact rfl))) ?_
              refine d_first 4 rfl rfl rfl (by kernel_rfl) (by kernel_rfl) (tl_load Try.underlying3 rfl rfl rfl) ?_
              refine d_next 2 (by kernel_rfl) rfl ?_
              refine an_callF hW1 rfl rfl rfl ?_
              refine d_next 5 (by kernel_rfl) rfl ?_
              refine an_callF hW2 rfl rfl rfl ?_
              refine d_first 6 rfl rfl rfl (by kernel_rfl) (by kernel_rfl) (tl_pv (pv_assign rfl)) ?_
              refine d_first 7 rfl rfl rfl (by kernel_rfl) (by kernel_rfl) (tl_pv (pv_assign rfl)) ?_
              refine d_done (by kernel_rfl) ?_
              refine t_seq ?_
              refine p_seq rfl ?_
              refine p_region rfl ?_
              refine wo_pv (pv_move rfl) rfl ?_
              refine wo_pv (pv_move rfl) rfl ?_
              refine wo_pv (pv_move rfl) rfl ?_
              refine r_call1 (disk_Arm_sp pd D wn kp) rfl rfl rfl ?_
              refine q_seq ?_
              refine p_region rfl ?_
              refine wo_front (IsO po o) ?_
              refine wo_exi fun oa => wo_exi fun oc => wo_al (wo_pu fun _ => ?_)
              refine wo_pv (pv_move rfl) rfl ?_
              refine wo_pv (pv_move rfl) rfl ?_
              refine wo_pv (pv_move rfl) rfl ?_
              refine wo_pv (pv_move rfl) rfl ?_
              refine wo_pv (by first | exact pv_nilCheck_p rfl | exact pv_nilCheck_f rfl) rfl ?_
              refine wo_pv (pv_fieldAddrk Try.underlying57 rfl ti3 rfl rfl (k := 1) rfl (by first | exact Nat.zero_add _ | exact Nat.add_zero _ | exact rfl)) rfl ?_
              refine r_store ti3 rfl rfl rfl rfl (by simp; try omega) ?_
              refine wo_pv (by first | exact pv_nilCheck_p rfl | exact pv_nilCheck_f rfl) rfl ?_
              refine wo_pv (pv_fieldAddrk Try.underlying57 rfl ti3 rfl rfl (k := 2) rfl (by first | exact Nat.zero_add _ | exact Nat.add_zero _ | exact rfl)) rfl ?_
              refine r_store ti3 rfl rfl rfl rfl (by simp; try omega) ?_
              refine wo_nil ?_
              refine to_block ?_
              first
              | exact to_inv ⟨(s, J1, K1, D1, o1), hp3⟩ trivial ⟨rfl, rfl, rfl, rfl, rfl, rfl, trivial⟩ ent_pick
              | exact to_inv ⟨(s3, openJ D1.revive, openK (openJ D1.revive).l, D1.revive, ⟨o1.secs, o1.left, o1.keep, false⟩), hp3⟩ trivial ⟨rfl, rfl, rfl, rfl, rfl, rfl, trivial⟩ (ent_step (fold_isO ⟨o1.secs, o1.left, o1.keep, false⟩ ⟨oko1.secs, oko1.keep, oko1.many, oko1.left⟩ (by rfl) (by exact ⟨rfl, rfl⟩) (by exact ⟨_, _, rfl⟩) (by rfl) (by rfl) (by rfl) (by rfl) (by rfl)) ent_pick)
              | exact to_inv ⟨(s1, J, K, D, o), pi.up (by omega)⟩ trivial ⟨rfl, rfl, rfl, rfl, rfl, rfl, trivial⟩ (ent_step (fold_isO o oko (by rfl) (by exact ⟨rfl, rfl⟩) (by exact ⟨_, _, rfl⟩) (by rfl) (by rfl) (by rw [pi.reviveO]) (by rfl) (by rfl)) ent_pick)
              | exact to_inv ⟨(s, J, K, D.arm wn kp, ⟨o.secs, wn, kp, o.down⟩), pi.arm hwn8 hkp32⟩ trivial ⟨rfl, rfl, rfl, rfl, rfl, rfl, trivial⟩ (ent_step (fold_isO ⟨o.secs, wn, kp, o.down⟩ ⟨oko.secs, hkp32, oko.many, by dsimp only; omega⟩ (by rfl) (by exact ⟨rfl, rfl⟩) (by exact ⟨_, _, rfl⟩) (by rfl) (by rfl) (by rfl) (by rfl) (by rfl)) ent_pick)
            · -- t92 False
              refine p_seq rfl ?_
              refine p_region rfl ?_
              refine wo_pv (pv_eql rfl rfl) rfl ?_
              refine wo_pv (pv_assign rfl) rfl ?_
              refine q_seq ?_
              first | refine p_ite rfl rfl (fun h112 => ?_) (fun h112 => ?_) | refine p_cond rfl rfl (fun h112 => ?_) (fun h112 => ?_)
              · -- t112 True
                refine p_seq rfl ?_
                refine p_region rfl ?_
                refine wo_pv (pv_move rfl) rfl ?_
                refine r_call1 (disk_Revive_sp pd D) rfl rfl rfl ?_
                rw [pi.reviveD]
                refine q_seq ?_
                refine p_seq rfl ?_
                refine p_region rfl ?_
                refine wo_front (IsO po o) ?_
                refine wo_exi fun oa => wo_exi fun oc => wo_al (wo_pu fun _ => ?_)
                refine wo_pv (pv_move rfl) rfl ?_
                refine wo_pv (by first | exact pv_nilCheck_p rfl | exact pv_nilCheck_f rfl) rfl ?_
                refine wo_pv (pv_fieldAddrk Try.underlying57 rfl ti4 rfl rfl (k := 3) rfl (by first | exact Nat.zero_add _ | exact Nat.add_zero _ | exact rfl)) rfl ?_
                refine r_store ti4 rfl rfl rfl rfl (by simp; try omega) ?_
                refine q_seq ?_
                refine p_region rfl ?_
                refine wo_pv (pv_move rfl) rfl ?_
                refine r_callX (store_Open_sp pd D) rfl rfl rfl (fun s1 _ => ?_)
                rw [pi.openJ, ← pi.hK]
                refine wo_pv (pv_assign rfl) rfl ?_
                refine wo_nil ?_
                refine to_block ?_
                first
                | exact to_inv ⟨(s, J1, K1, D1, o1), hp3⟩ trivial ⟨rfl, rfl, rfl, rfl, rfl, rfl, trivial⟩ ent_pick
                | exact to_inv ⟨(s3, openJ D1.revive, openK (openJ D1.revive).l, D1.revive, ⟨o1.secs, o1.left, o1.keep, false⟩), hp3⟩ trivial ⟨rfl, rfl, rfl, rfl, rfl, rfl, trivial⟩ (ent_step (fold_isO ⟨o1.secs, o1.left, o1.keep, false⟩ ⟨oko1.secs, oko1.keep, oko1.many, oko1.left⟩ (by rfl) (by exact ⟨rfl, rfl⟩) (by exact ⟨_, _, rfl⟩) (by rfl) (by rfl) (by rfl) (by rfl) (by rfl)) ent_pick)
                | exact to_inv ⟨(s1, J, K, D, o), pi.up (by omega)⟩ trivial ⟨rfl, rfl, rfl, rfl, rfl, rfl, trivial⟩ (ent_step (fold_isO o oko (by rfl) (by exact ⟨rfl, rfl⟩) (by exact ⟨_, _, rfl⟩) (by rfl) (by rfl) (by rw [pi.reviveO]) (by rfl) (by rfl)) ent_pick)
                | exact to_inv ⟨(s, J, K, D.arm wn kp, ⟨o.secs, wn, kp, o.down⟩), pi.arm hwn8 hkp32⟩ trivial ⟨rfl, rfl, rfl, rfl, rfl, rfl, trivial⟩ (ent_step (fold_isO ⟨o.secs, wn, kp, o.down⟩ ⟨oko.secs, hkp32, oko.many, by dsimp only; omega⟩ (by rfl) (by exact ⟨rfl, rfl⟩) (by exact ⟨_, _, rfl⟩) (by rfl) (by rfl) (by rfl) (by rfl) (by rfl)) ent_pick)
              · -- t112 False
                refine p_seq rfl ?_
                refine wc_ent' (ent_ask hmem HasC.get) ?_
                have hxo := rowsM_ok q.keys q.vals
                have hxl := rowsM_len q.keys q.vals
                have hxt := rowsM_text q.keys q.vals
                have hxk := rowsM_keys q.keys q.vals
                have hrx := law7_rows_sp q hqj.1 hqj.2
                generalize rowsM q.keys q.vals = x at hxo hxl hxt hxk hrx
                have hc := pi_commit pi okd oko (fun r h => (hxo r h).1) hxk hxl hxt
                have hsc := ref5_Scan_sp po o
                rw [pi.scan] at hsc
                have hje := pi.scd.le
                rw [pi.n60] at hje
                have hpb := piecesS_bound (textOf x)
                have hrk : ∀ r ∈ x, r.key.length ≤ 1073741824 ∧ r.val.length ≤ 1073741824 := fun r h => by have := hxo r h; omega
                have hjle : J.l.length ≤ J.e := by have := (scanS_end o.secs 0 [] [] 0 (Nat.le_refl _) (Nat.le_refl _)).1; have h2 := pi.scan; unfold scanO at h2; rw [h2] at this; exact this
                have hlf := pi.left
                refine p_region rfl ?_
                refine r_loada (vs := [_, _, _, _, _]) Try.underlying37 rfl ti37 rfl (by exact Nat.le_of_ble_eq_true rfl) (by rfl) rfl ?_
                refine r_callX hrx rfl rfl rfl (fun xa _ => ?_)
                refine wo_pv (pv_assign rfl) rfl ?_
                refine q_seq ?_
                refine p_seq rfl ?_
                refine p_region rfl ?_
                refine wo_pv (pv_move rfl) rfl ?_
                refine r_call1 (ref5_Rows_sp (B := Row 29 3 (.slice xa.1 x.length xa.2) x.length (x.flatMap rowC)) x.length xa.2 x sla_row rfl (by omega) hrk (by omega)) rfl rfl rfl ?_
                refine wo_pv (pv_assign rfl) rfl ?_
                refine q_seq ?_
                refine p_seq rfl ?_
                refine p_region rfl ?_
                refine wo_pv (pv_move rfl) rfl ?_
                refine r_callX hsc rfl rfl rfl (fun x59 _ => ?_)
                refine wo_pv (pv_move rfl) rfl ?_
                refine wo_pv (pv_extract rfl rfl) rfl ?_
                refine wo_pv (pv_extract rfl rfl) rfl ?_
                refine wo_pv (pv_assign rfl) rfl ?_
                refine wo_pv (pv_assign rfl) rfl ?_
                refine q_seq ?_
                refine p_seq rfl ?_
                refine p_region rfl ?_
                refine wo_pv (pv_assign rfl) rfl ?_
                refine q_seq ?_
                refine p_cut (fun (st : { x' : (Nat × Od) × Jn × Ks × Dk // commitS J K D x = (x'.2.1, x'.2.2.1, x'.2.2.2, x'.1.1) ∧ ((x'.1.1 ≠ 9 ∧ PI x'.2.1 x'.2.2.1 x'.2.2.2 x'.1.2 (j + 1)) ∨ (x'.1.1 = 9 ∧ PI (openJ x'.2.2.2.revive) (openK (openJ x'.2.2.2.revive).l) x'.2.2.2.revive ⟨x'.1.2.secs, x'.1.2.left, x'.1.2.keep, false⟩ (j + 1))) }) => [(0, .slice a qs.length ac), (2, .pointer (some ⟨b2, 0, none⟩)), (3, .pointer (some ⟨pd, 0, none⟩)), (4, .pointer (some ⟨po, 0, none⟩)), (5, .pointer (some ⟨s, 0, none⟩)), (6, vI j), (10, .slice xa.1 x.length xa.2), (11, vS (textOf x)), (14, vI st.1.1.1)]) (fun (st : { x' : (Nat × Od) × Jn × Ks × Dk // commitS J K D x = (x'.2.1, x'.2.2.1, x'.2.2.2, x'.1.1) ∧ ((x'.1.1 ≠ 9 ∧ PI x'.2.1 x'.2.2.1 x'.2.2.2 x'.1.2 (j + 1)) ∨ (x'.1.1 = 9 ∧ PI (openJ x'.2.2.2.revive) (openK (openJ x'.2.2.2.revive).l) x'.2.2.2.revive ⟨x'.1.2.secs, x'.1.2.left, x'.1.2.keep, false⟩ (j + 1))) }) => [IsO po st.1.1.2, Ce b2 4 [.bool false], IsD pd D, IsS s pd J K, Row 29 3 (.slice xa.1 x.length xa.2) x.length (x.flatMap rowC), SlI a (qs.flatMap AskV.cells), AskM qs]) rfl (fun st => ?_) ?_
                · -- behind the place 18
                  obtain ⟨⟨⟨w, o1⟩, J1, K1, D1⟩, hcs, hcase⟩ := st
                  dsimp only at hcs hcase ⊢
                  have hSC := store_Commit_sp (B := Row 29 3 (.slice xa.1 x.length xa.2) x.length (x.flatMap rowC)) s pd x.length xa.2 J K D x sla_row rfl (by omega) hrk (by omega) (by omega) (by omega) (by omega)
                  rw [hcs] at hSC
                  dsimp only at hSC
                  try dsimp only
                  refine p_seq rfl ?_
                  refine p_seq rfl ?_
                  refine p_region rfl ?_
                  refine wo_pv (pv_move rfl) rfl ?_
                  refine wo_pv (pv_move rfl) rfl ?_
                  refine r_call1 hSC rfl rfl rfl ?_
                  refine wo_pv (pv_move rfl) rfl ?_
                  refine wo_pv (pv_neq rfl rfl) rfl ?_
                  refine wo_pv (pv_move rfl) rfl ?_
                  first | refine wo_gite (j := 5) rfl rfl (fun h77 => ?_) (fun h77 => ?_) | refine wo_gsplit (j := 5) rfl rfl (fun h77 => ?_) (fun h77 => ?_)
                  · -- t77 True
                    simp at h77
                    --done
                  · -- t77 False
                    refine wo_in (b := false) rfl ?_
                    refine wo_pv (pv_move rfl) rfl ?_
                    refine wo_in (b := false) rfl ?_
                    refine r_call1 (store_Text_sp (B := Row 29 3 (.slice xa.1 x.length xa.2) x.length (x.flatMap rowC)) x.length xa.2 x sla_row rfl (by omega) hrk (by omega)) rfl rfl rfl ?_
                    refine wo_in (b := false) rfl ?_
                    refine wo_pv (pv_move rfl) rfl ?_
                    refine wo_in (b := false) rfl ?_
                    refine wo_pv (pv_sneq rfl rfl) rfl ?_
                    refine wo_pv (pv_pick_f rfl rfl) rfl ?_
                    refine q_seq ?_
                    first | refine p_ite rfl rfl (fun h82 => ?_) (fun h82 => ?_) | refine p_cond rfl rfl (fun h82 => ?_) (fun h82 => ?_)
                    · -- t82 True
                      exfalso; revert h82; simp
                      --done
                    · -- t82 False
                      refine p_skip rfl ?_
                      refine t_seq ?_
                      refine p_seq rfl ?_
                      refine p_region rfl ?_
                      refine wo_pv (pv_move rfl) rfl ?_
                      refine wo_pv (pv_eql rfl rfl) rfl ?_
                      refine q_seq ?_
                      first | refine p_ite rfl rfl (fun h84 => ?_) (fun h84 => ?_) | refine p_cond rfl rfl (fun h84 => ?_) (fun h84 => ?_)
                      · -- t84 True
                        have hp3 : PI (openJ D1.revive) (openK (openJ D1.revive).l) D1.revive ⟨o1.secs, o1.left, o1.keep, false⟩ (j + 1) := by
                          rcases hcase with ⟨h, _⟩ | ⟨_, h⟩
                          · exfalso; omega
                          · exact h
                        refine p_seq rfl ?_
                        refine p_region rfl ?_
                        refine wo_pv (pv_move rfl) rfl ?_
                        refine r_call1 (disk_Revive_sp pd D1) rfl rfl rfl ?_
                        refine q_seq ?_
                        refine p_seq rfl ?_
                        refine p_region rfl ?_
                        refine wo_front (IsO po o1) ?_
                        refine wo_exi fun oa => wo_exi fun oc => wo_al (wo_pu fun oko1 => ?_)
                        refine wo_pv (pv_move rfl) rfl ?_
                        refine wo_pv (by first | exact pv_nilCheck_p rfl | exact pv_nilCheck_f rfl) rfl ?_
                        refine wo_pv (pv_fieldAddrk Try.underlying57 rfl ti4 rfl rfl (k := 3) rfl (by first | exact Nat.zero_add _ | exact Nat.add_zero _ | exact rfl)) rfl ?_
                        refine r_store ti4 rfl rfl rfl rfl (by simp; try omega) ?_
                        refine q_seq ?_
                        refine p_region rfl ?_
                        refine wo_pv (pv_move rfl) rfl ?_
                        refine r_callX (store_Open_sp pd D1.revive) rfl rfl rfl (fun s3 _ => ?_)
                        refine wo_pv (pv_assign rfl) rfl ?_
                        refine wo_nil ?_
                        refine to_block ?_
                        first
                        | exact to_inv ⟨(s, J1, K1, D1, o1), hp3⟩ trivial ⟨rfl, rfl, rfl, rfl, rfl, rfl, trivial⟩ ent_pick
                        | exact to_inv ⟨(s3, openJ D1.revive, openK (openJ D1.revive).l, D1.revive, ⟨o1.secs, o1.left, o1.keep, false⟩), hp3⟩ trivial ⟨rfl, rfl, rfl, rfl, rfl, rfl, trivial⟩ (ent_step (fold_isO ⟨o1.secs, o1.left, o1.keep, false⟩ ⟨oko1.secs, oko1.keep, oko1.many, oko1.left⟩ (by rfl) (by exact ⟨rfl, rfl⟩) (by exact ⟨_, _, rfl⟩) (by rfl) (by rfl) (by rfl) (by rfl) (by rfl)) ent_pick)
                        | exact to_inv ⟨(s1, J, K, D, o), pi.up (by omega)⟩ trivial ⟨rfl, rfl, rfl, rfl, rfl, rfl, trivial⟩ (ent_step (fold_isO o oko (by rfl) (by exact ⟨rfl, rfl⟩) (by exact ⟨_, _, rfl⟩) (by rfl) (by rfl) (by rw [pi.reviveO]) (by rfl) (by rfl)) ent_pick)
                        | exact to_inv ⟨(s, J, K, D.arm wn kp, ⟨o.secs, wn, kp, o.down⟩), pi.arm hwn8 hkp32⟩ trivial ⟨rfl, rfl, rfl, rfl, rfl, rfl, trivial⟩ (ent_step (fold_isO ⟨o.secs, wn, kp, o.down⟩ ⟨oko.secs, hkp32, oko.many, by dsimp only; omega⟩ (by rfl) (by exact ⟨rfl, rfl⟩) (by exact ⟨_, _, rfl⟩) (by rfl) (by rfl) (by rfl) (by rfl) (by rfl)) ent_pick)
                      · -- t84 False
                        have hp3 : PI J1 K1 D1 o1 (j + 1) := by
                          rcases hcase with ⟨_, h⟩ | ⟨h, _⟩
                          · exact h
                          · exfalso; omega
                        refine p_skip rfl ?_
                        refine to_block ?_
                        first
                        | exact to_inv ⟨(s, J1, K1, D1, o1), hp3⟩ trivial ⟨rfl, rfl, rfl, rfl, rfl, rfl, trivial⟩ ent_pick
                        | exact to_inv ⟨(s3, openJ D1.revive, openK (openJ D1.revive).l, D1.revive, ⟨o1.secs, o1.left, o1.keep, false⟩), hp3⟩ trivial ⟨rfl, rfl, rfl, rfl, rfl, rfl, trivial⟩ (ent_step (fold_isO ⟨o1.secs, o1.left, o1.keep, false⟩ ⟨oko1.secs, oko1.keep, oko1.many, oko1.left⟩ (by rfl) (by exact ⟨rfl, rfl⟩) (by exact ⟨_, _, rfl⟩) (by rfl) (by rfl) (by rfl) (by rfl) (by rfl)) ent_pick)
                        | exact to_inv ⟨(s1, J, K, D, o), pi.up (by omega)⟩ trivial ⟨rfl, rfl, rfl, rfl, rfl, rfl, trivial⟩ (ent_step (fold_isO o oko (by rfl) (by exact ⟨rfl, rfl⟩) (by exact ⟨_, _, rfl⟩) (by rfl) (by rfl) (by rw [pi.reviveO]) (by rfl) (by rfl)) ent_pick)
                        | exact to_inv ⟨(s, J, K, D.arm wn kp, ⟨o.secs, wn, kp, o.down⟩), pi.arm hwn8 hkp32⟩ trivial ⟨rfl, rfl, rfl, rfl, rfl, rfl, trivial⟩ (ent_step (fold_isO ⟨o.secs, wn, kp, o.down⟩ ⟨oko.secs, hkp32, oko.many, by dsimp only; omega⟩ (by rfl) (by exact ⟨rfl, rfl⟩) (by exact ⟨_, _, rfl⟩) (by rfl) (by rfl) (by rfl) (by rfl) (by rfl)) ent_pick)
                · -- to the place 18
                  refine p_seq rfl ?_
                  refine p_region rfl ?_
                  refine wo_pv (pv_move rfl) rfl ?_
                  refine r_callX (ref5_Pieces_sp (textOf x) (by omega)) rfl rfl rfl (fun x63 _ => ?_)
                  refine wo_pv (pv_call_len_sl Try.underlying46 rfl) rfl ?_
                  refine wo_pv (pv_move rfl) rfl ?_
                  refine wo_pv (pv_sub rfl rfl (by omega)) rfl ?_
                  refine wo_pv (pv_gtr rfl rfl) rfl ?_
                  refine q_seq ?_
                  first | refine p_ite rfl rfl (fun h67 => ?_) (fun h67 => ?_) | refine p_cond rfl rfl (fun h67 => ?_) (fun h67 => ?_)
                  · -- t67 True
                    have hc6 : commitS J K D x = (J, K, D, 6) := by
                      rcases hc with ⟨_, e⟩ | ⟨h, _⟩
                      · exact e
                      · exfalso; omega
                    refine p_region rfl ?_
                    refine wo_pv (pv_assign rfl) rfl ?_
                    refine wo_nil ?_
                    first
                    | exact to_inv ⟨((6, o), J, K, D), hc6, .inl ⟨show (6 : Nat) ≠ 9 by decide, pi.up (by omega)⟩⟩ trivial ⟨rfl, rfl, rfl, rfl, rfl, rfl, rfl, rfl, rfl, trivial⟩ ent_pick
                    | (rcases hc with ⟨e1, e2, p2⟩ | ⟨e1, e2, p2⟩
                       · first
                         | (exfalso; subst e1; simp at h71; done)
                         | exact to_inv ⟨((0, o'), J', K', D'), e2, .inl ⟨show (0 : Nat) ≠ 9 by decide, p2⟩⟩ trivial ⟨rfl, rfl, rfl, rfl, rfl, rfl, rfl, rfl, rfl, trivial⟩ ent_pick
                       · first
                         | (exfalso; subst e1; simp at h71; done)
                         | exact to_inv ⟨((9, o'), J', K', D'), e2, .inr ⟨rfl, p2⟩⟩ trivial ⟨rfl, rfl, rfl, rfl, rfl, rfl, rfl, rfl, rfl, trivial⟩ ent_pick)
                  · -- t67 False
                    rcases hc with ⟨h, _⟩ | ⟨_, J', K', D', o', ok', hco, hc⟩
                    · exfalso; omega
                    have hCM := ref5_Commit_sp po o (textOf x) (by omega)
                    rw [hco] at hCM
                    dsimp only at hCM
                    refine p_seq rfl ?_
                    refine p_region rfl ?_
                    refine wo_pv (pv_move rfl) rfl ?_
                    refine wo_pv (pv_move rfl) rfl ?_
                    refine r_call1 hCM rfl rfl rfl ?_
                    refine wo_pv (by first | exact pv_notd rfl | exact pv_not rfl) rfl ?_
                    refine q_seq ?_
                    first | refine p_ite rfl rfl (fun h71 => ?_) (fun h71 => ?_) | refine p_cond rfl rfl (fun h71 => ?_) (fun h71 => ?_)
                    · -- t71 True
                      refine p_region rfl ?_
                      refine wo_pv (pv_assign rfl) rfl ?_
                      refine wo_nil ?_
                      first
                      | exact to_inv ⟨((6, o), J, K, D), hc6, .inl ⟨show (6 : Nat) ≠ 9 by decide, pi.up (by omega)⟩⟩ trivial ⟨rfl, rfl, rfl, rfl, rfl, rfl, rfl, rfl, rfl, trivial⟩ ent_pick
                      | (rcases hc with ⟨e1, e2, p2⟩ | ⟨e1, e2, p2⟩
                         · first
                           | (exfalso; subst e1; simp at h71; done)
                           | exact to_inv ⟨((0, o'), J', K', D'), e2, .inl ⟨show (0 : Nat) ≠ 9 by decide, p2⟩⟩ trivial ⟨rfl, rfl, rfl, rfl, rfl, rfl, rfl, rfl, rfl, trivial⟩ ent_pick
                         · first
                           | (exfalso; subst e1; simp at h71; done)
                           | exact to_inv ⟨((9, o'), J', K', D'), e2, .inr ⟨rfl, p2⟩⟩ trivial ⟨rfl, rfl, rfl, rfl, rfl, rfl, rfl, rfl, rfl, trivial⟩ ent_pick)
                    · -- t71 False
                      refine p_skip rfl ?_
                      first
                      | exact to_inv ⟨((6, o), J, K, D), hc6, .inl ⟨show (6 : Nat) ≠ 9 by decide, pi.up (by omega)⟩⟩ trivial ⟨rfl, rfl, rfl, rfl, rfl, rfl, rfl, rfl, rfl, trivial⟩ ent_pick
                      | (rcases hc with ⟨e1, e2, p2⟩ | ⟨e1, e2, p2⟩
                         · first
                           | (exfalso; subst e1; simp at h71; done)
                           | exact to_inv ⟨((0, o'), J', K', D'), e2, .inl ⟨show (0 : Nat) ≠ 9 by decide, p2⟩⟩ trivial ⟨rfl, rfl, rfl, rfl, rfl, rfl, rfl, rfl, rfl, trivial⟩ ent_pick
                         · first
                           | (exfalso; subst e1; simp at h71; done)
                           | exact to_inv ⟨((9, o'), J', K', D'), e2, .inr ⟨rfl, p2⟩⟩ trivial ⟨rfl, rfl, rfl, rfl, rfl, rfl, rfl, rfl, rfl, trivial⟩ ent_pick)
        · -- t44 False
          refine p_exit 0 rfl ?_
          refine t_seq_exit ?_
          refine to_inv_exit ?_
          refine to_block_here ?_
          refine t_seq ?_
          refine p_seq rfl ?_
          refine p_region rfl ?_
          refine r_call1 law_StoreRuns rfl rfl rfl ?_
          refine r_store ti4 rfl rfl rfl rfl (by simp; try omega) ?_
          refine q_seq ?_
          refine p_ret rfl ?_
          refine fin_ret () (vs := [_]) (Cs := [Ce b2 4 [vB true]]) rfl (.cell1 (l := [vB true]) (v := vB true) rfl (shows_ce (T := 4)) Try.underlying4 rfl rfl .nil) rfl trivial ?_
          exact ce_norm1 (b := b2) (by rfl) (by first | rfl | (simp; done))
      · -- t41 False
        refine wo_out (b := false) rfl rfl rfl ?_
        refine wo_out (b := false) rfl rfl rfl ?_
        refine wo_pv (pv_pick_f rfl rfl) rfl ?_
        refine q_seq ?_
        refine p_false rfl rfl ?_
        refine p_exit 0 rfl ?_
        refine t_seq_exit ?_
        refine to_inv_exit ?_
        refine to_block_here ?_
        refine t_seq ?_
        refine p_seq rfl ?_
        refine p_region rfl ?_
        refine r_call1 law_StoreRuns rfl rfl rfl ?_
        refine r_store ti4 rfl rfl rfl rfl (by simp; try omega) ?_
        refine q_seq ?_
        refine p_ret rfl ?_
        refine fin_ret () (vs := [_]) (Cs := [Ce b2 4 [vB true]]) rfl (.cell1 (l := [vB true]) (v := vB true) rfl (shows_ce (T := 4)) Try.underlying4 rfl rfl .nil) rfl trivial ?_
        exact ce_norm1 (b := b2) (by rfl) (by first | rfl | (simp; done))
end Go.Proofs.Ytimafngkifakfaa
