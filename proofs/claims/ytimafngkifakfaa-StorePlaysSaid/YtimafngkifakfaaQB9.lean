/- Texts of this proof, put together: LawWhole, PPlays. -/
import Derived.Test.YtimafngkifakfaaQB5
import Derived.Test.YtimafngkifakfaaQB6
import Derived.Test.YtimafngkifakfaaQB7
import Derived.Test.YtimafngkifakfaaQB8
set_option linter.unusedVariables false
set_option linter.unusedSimpArgs false
/- StoreWhole. -/
set_option maxRecDepth 100000
namespace Go.Proofs.Ytimafngkifakfaa
abbrev newR : Rw := ⟨[110, 101, 119], [97, 32, 118, 97, 108, 117, 101, 32, 111, 102, 32, 116, 104, 101, 32, 108, 97, 115, 116, 32, 99, 111, 109, 109, 105, 116, 44, 32, 116, 104, 97, 116, 32, 109, 97, 107, 101, 115, 32, 105, 116, 32, 108, 111, 110, 103, 101, 114, 32, 116, 104, 97, 110, 32, 97, 32, 115, 101, 99, 116, 111, 114], false⟩
theorem newR_ok : newR.Ok := ⟨by decide, by decide, by decide, fun e => by cases e⟩
theorem newR_text : (rowText newR).length ≤ 80 := by
  have h1 := decN_small (n := newR.key.length) (by decide)
  have h2 := decN_small (n := newR.val.length) (by decide)
  simp [rowText] at h1 h2 ⊢
  omega
theorem mayB_ok {l : List Rw} (h : ∀ r ∈ l, r.Ok) : l.all mayB = true := by
  rw [List.all_eq_true]
  intro r hr
  have := h r hr
  exact decide_eq_true ⟨fun e => by have := this.k1; rw [e] at this; simp at this, this.k2⟩
theorem openJ_of {D : Dk} {l : List Bs} {e : Nat} (h : Scd D.secs l e) : openJ D = ⟨l, e, false⟩ := by
  rw [openJ, scanD, h.scan]
theorem commitS_eq {J : Jn} {K : Ks} {D : Dk} {l : List Rw} (h : ∀ r ∈ l, r.Ok) : commitS J K D l = ((commitJ J D (textOf l)).1, (if (commitJ J D (textOf l)).2.2 = 0 then doR K l else K), (commitJ J D (textOf l)).2.1, (commitJ J D (textOf l)).2.2) := by
  rw [commitS, if_neg (by rw [mayB_ok h]; simp)]
/-- A commit to a disk that is not armed, with room. -/
theorem commitS_calm {J : Jn} {K : Ks} {D : Dk} {l : List Rw} {n : Nat} {f : Int} (hr : ∀ r ∈ l, r.Ok) (c : Calm D n f) (hs : Scd D.secs J.l J.e) (hj : J.down = false) (hk : D.keep ≤ 32) (h32 : ∀ x ∈ D.secs, x.length = 32) (h : J.e + (piecesS (textOf l)).length ≤ n) :
    ∃ D', commitS J K D l = (⟨J.l ++ [textOf l], J.e + (piecesS (textOf l)).length, false⟩, doR K l, D', 0) ∧ Calm D' n (f - (piecesS (textOf l)).length) ∧ Scd D'.secs (J.l ++ [textOf l]) (J.e + (piecesS (textOf l)).length) := by
  obtain ⟨D', e, c'⟩ := commit_calm c hj h
  refine ⟨D', by rw [commitS_eq hr, e]; rfl, c', ?_⟩
  rcases commit_scan hs hj c.down hk h32 (textOf l) with ⟨_, _, h3, _⟩ | ⟨h1, _⟩ | ⟨h1, _⟩
  · rw [e] at h3; exact h3
  · rw [e] at h1; cases h1
  · rw [e] at h1; cases h1
/-- A commit to a disk, torn or not. -/
theorem commitS_torn {J : Jn} {K : Ks} {D : Dk} {l : List Rw} (hr : ∀ r ∈ l, r.Ok) (hd : D.down = false) (hs : Scd D.secs J.l J.e) (hj : J.down = false) (hk : D.keep ≤ 32) (h32 : ∀ x ∈ D.secs, x.length = 32) (hK : K = openK J.l) (h : J.e + (piecesS (textOf l)).length ≤ D.secs.length) :
    ∃ J' K' D' e, commitS J K D l = (J', K', D', e) ∧ ((e = 0 ∧ openK (openJ D'.revive).l = doR K l) ∨ (e = 9 ∧ K' = K ∧ (openK (openJ D'.revive).l = K ∨ openK (openJ D'.revive).l = doR K l))) := by
  have hrt := readR_textOf l hr
  refine ⟨_, _, _, _, commitS_eq hr, ?_⟩
  have hop : ∀ {D' : Dk} {e : Nat}, Scd D'.secs (J.l ++ [textOf l]) e → openK (openJ D'.revive).l = doR K l := by
    intro D' e h
    rw [openJ_of (D := D'.revive) h, openK_snoc, hrt, hK]; rfl
  rcases commit_scan hs hj hd hk h32 (textOf l) with ⟨h1, h2, h3, _⟩ | ⟨h1, h2, _, h4⟩ | ⟨h1, h2, h3, h4⟩
  · exact .inl ⟨h1, hop h3⟩
  · omega
  · refine .inr ⟨h1, by rw [if_neg (by omega)], ?_⟩
    rcases h4 with h4 | h4
    · left
      rw [openJ_of (D := (commitJ J D (textOf l)).2.1.revive) h4, hK]
    · right; exact hop h4
theorem open100 : openJ (newD 100) = ⟨[], 0, false⟩ := rfl
theorem law_StoreWhole (qa qb : AskV) (wr kp : Int) (ha1 : qa.keys.length ≤ 9223372036854775807) (ha2 : qa.vals.length ≤ 9223372036854775807) (hb1 : qb.keys.length ≤ 9223372036854775807) (hb2 : qb.vals.length ≤ 9223372036854775807) :
    Sp1 Try.prog 7 [.agg qa.cells.toArray, .agg qb.cells.toArray, vI wr, vI kp] [SlI qa.ka (qa.keys.map vI), SlI qa.va (qa.vals.map vI), SlI qb.ka (qb.keys.map vI), SlI qb.va (qb.vals.map vI)] (vB true) [] := by
  have hxo := rowsM_ok qa.keys qa.vals
  have hyo := rowsM_ok qb.keys qb.vals
  have hxl := rowsM_len qa.keys qa.vals
  have hyl := rowsM_len qb.keys qb.vals
  have hxt := rowsM_text qa.keys qa.vals
  have hyt := rowsM_text qb.keys qb.vals
  have hrx := law7_rows_sp qa ha1 ha2
  have hry := law7_rows_sp qb hb1 hb2
  generalize rowsM qa.keys qa.vals = x at *
  generalize rowsM qb.keys qb.vals = y at *
  have hxb := piecesS_bound (textOf x)
  have hmt : (textOf (y ++ [newR])).length ≤ 360 := by
    have e : textOf (y ++ [newR]) = textOf y ++ rowText newR := by simp [textOf]
    have := newR_text
    rw [e, List.length_append]; omega
  have hmb := piecesS_bound (textOf (y ++ [newR]))
  have hmo : ∀ r ∈ y ++ [newR], r.Ok := fun r hr => by
    rcases List.mem_append.1 hr with h | h
    · exact (hyo r h).1
    · simp only [List.mem_singleton] at h; subst h; exact newR_ok
  obtain ⟨D1, hc1, hcalm1, hscd1⟩ := commitS_calm (J := ⟨[], 0, false⟩) (K := openK []) (D := newD 100) (n := 100) (f := 0) (fun r h => (hxo r h).1) (calm_newD (n := 100) (by omega) (by omega)) (scd_new 100) rfl (by decide) (fun q hq => by
    have h1 : q = wholeS [] := (List.mem_replicate.1 hq).2
    rw [h1]; rfl) (by dsimp only; omega)
  dsimp only [List.nil_append] at hc1 hscd1
  have hK1 : doR (openK []) x = openK [textOf x] := by
    have := openK_snoc [] (textOf x)
    rw [List.nil_append, readR_textOf x (fun r h => (hxo r h).1)] at this
    exact this.symm
  rw [hK1] at hc1
  have hKok := openK_ok [textOf x]
  have hKl : (openK [textOf x]).length ≤ 8 := by
    rw [← hK1]
    have := doR_len x (openK [])
    have e : (openK []).length = 0 := rfl
    omega
  obtain ⟨J1, hJ1⟩ : ∃ J1 : Jn, J1 = ⟨[textOf x], 0 + (piecesS (textOf x)).length, false⟩ := ⟨_, rfl⟩
  rw [← hJ1] at hc1
  have hj1 : J1.l = [textOf x] ∧ J1.e = (piecesS (textOf x)).length ∧ J1.down = false := by rw [hJ1]; simp
  generalize hK : openK [textOf x] = K1 at *
  refine Sp.body (n := 130) Try.call7 Try.func7 rfl rfl rfl ?_
  refine p_seq rfl ?_
  refine p_region rfl ?_
  refine wo_box (vs := [_, _, _, _, _]) rfl rfl rfl (fun b4 => ?_)
  refine wo_box (vs := [_, _, _, _, _]) rfl rfl rfl (fun b5 => ?_)
  refine wo_pv (pv_assign rfl) rfl ?_
  refine q_seq ?_
  refine p_seq rfl ?_
  refine p_region rfl ?_
  refine r_callX (disk_New_sp 100) rfl rfl rfl (fun p _ => ?_)
  refine wo_pv (pv_assign rfl) rfl ?_
  refine q_seq ?_
  refine p_seq rfl ?_
  refine p_region rfl ?_
  refine wo_pv (pv_move rfl) rfl ?_
  refine r_callX (store_Open_sp p (newD 100)) rfl rfl rfl (fun s _ => ?_)
  rw [open100]
  refine wo_pv (pv_assign rfl) rfl ?_
  refine q_seq ?_
  refine p_seq rfl ?_
  refine p_seq rfl ?_
  refine p_region rfl ?_
  refine wo_pv (pv_move rfl) rfl ?_
  refine wo_pv (pv_peql_nil Try.underlying22 rfl rfl) rfl ?_
  refine wo_pv (pv_move rfl) rfl ?_
  first | refine wo_gite (j := 2) rfl rfl (fun h30 => ?_) (fun h30 => ?_) | refine wo_gsplit (j := 2) rfl rfl (fun h30 => ?_) (fun h30 => ?_)
  · -- t30 True
    simp at h30
    --done
  · -- t30 False
    refine wo_in (b := false) rfl ?_
    refine wo_pv (pv_move rfl) rfl ?_
    refine wo_in (b := false) rfl ?_
    refine wo_pv (pv_peql_nil Try.underlying24 rfl rfl) rfl ?_
    refine wo_pv (pv_pick_f rfl rfl) rfl ?_
    refine wo_pv (pv_move rfl) rfl ?_
    first | refine wo_gite (j := 6) rfl rfl (fun h34 => ?_) (fun h34 => ?_) | refine wo_gsplit (j := 6) rfl rfl (fun h34 => ?_) (fun h34 => ?_)
    · -- t34 True
      simp at h34
      --done
    · -- t34 False
      refine wo_in (b := false) rfl ?_
      refine wo_pv (pv_move rfl) rfl ?_
      refine wo_in (b := false) rfl ?_
      refine r_loada (vs := [_, _, _, _, _]) Try.underlying37 rfl ti37 rfl (by exact Nat.le_of_ble_eq_true rfl) (by rfl) rfl ?_
      refine wo_in (b := false) rfl ?_
      refine r_callX hrx rfl rfl rfl (fun xa _ => ?_)
      refine wo_in (b := false) rfl ?_
      refine r_call1 (store_Commit_sp (B := Row 29 3 (.slice xa.1 x.length xa.2) x.length (x.flatMap rowC)) s p x.length xa.2 ⟨[], 0, false⟩ (openK []) (newD 100) x sla_row rfl (by omega) (fun r h => by have := hxo r h; omega) (by omega) (by decide) (by decide) (by decide)) rfl rfl rfl ?_
      rw [hc1]
      dsimp only
      refine wo_in (b := false) rfl ?_
      refine wo_pv (pv_neq rfl rfl) rfl ?_
      refine wo_pv (pv_pick_f rfl rfl) rfl ?_
      refine q_seq ?_
      first | refine p_ite rfl rfl (fun h40 => ?_) (fun h40 => ?_) | refine p_cond rfl rfl (fun h40 => ?_) (fun h40 => ?_)
      · -- t40 True
        exact absurd rfl h40
        --done
      · -- t40 False
        refine p_skip rfl ?_
        refine t_seq ?_
        refine p_seq rfl ?_
        refine wc_know (A := IsD p D1) HasC.get ok_len (fun ok1 => ?_)
        have hleft1 := hcalm1.left
        have hs1 : Scd D1.secs J1.l J1.e := by rw [hj1.1, hj1.2.1]; rw [Nat.zero_add] at hscd1; exact hscd1
        have hO1 : openJ D1 = J1 := by rw [openJ_of hs1]; obtain ⟨l, e, d⟩ := J1; obtain ⟨_, _, rfl⟩ := hj1; rfl
        have hOK1 : openK J1.l = K1 := by rw [hj1.1, hK]
        obtain ⟨D2, hc2, _, _⟩ := commitS_calm (J := J1) (K := K1) (D := D1) hmo hcalm1 hs1 hj1.2.2 ok1.keep ok1.secs (by rw [hj1.2.1]; omega)
        obtain ⟨wn, hwn, hwn9⟩ : ∃ m : Nat, withinI wr 0 9 = (m : Int) ∧ m ≤ 9 := by
          have := withinI_in (n := wr) (lo := 0) (hi := 9) (by omega)
          exact ⟨(withinI wr 0 9).toNat, by omega, by omega⟩
        have hW1 := book_Within_sp wr 0 9 (by omega) (by omega) (by omega)
        have hW2 := book_Within_sp kp 0 32 (by omega) (by omega) (by omega)
        rw [hwn] at hW1
        obtain ⟨J3, K3, D3, r3, hc3, hcase⟩ := commitS_torn (J := J1) (K := K1) (D := D1.arm wn (withinI kp 0 32)) hmo hcalm1.down hs1 hj1.2.2 (by simp only [Dk.arm]; omega) ok1.secs hOK1.symm (by rw [hj1.2.1]; have := hcalm1.len; simp only [Dk.arm]; omega)
        have hml : (y ++ [newR]).length ≤ 5 := by rw [List.length_append, List.length_singleton]; omega
        have hK2l : (doR K1 (y ++ [newR])).length ≤ 20 := by have := doR_len (y ++ [newR]) K1; omega
        have hK2a := doR_allS (y ++ [newR]) hKok.1
        have hK2n := doR_nodup (y ++ [newR]) hKok.2
        generalize hK2 : doR K1 (y ++ [newR]) = K2 at *
        refine p_region rfl ?_
        refine r_mkmap rfl (fun b41 => ?_)
        refine wo_alloc (zs := [.map none]) ti68 rfl rfl rfl (fun b11 => ?_)
        refine r_store ti68 rfl rfl rfl rfl (by simp; try omega) ?_
        refine q_seq ?_
        refine p_seq rfl ?_
        refine p_seq rfl ?_
        refine p_region rfl ?_
        refine wo_pv (pv_move rfl) rfl ?_
        refine r_callX (store_All_sp s) rfl rfl rfl (fun x43 _ => ?_)
        refine q_seq ?_
        refine p_block 0 rfl ?_
        refine p_rangeFunc (fun pre => [Ce b11 68 [.map (some b41)], MapS b41 pre, IsD p D1, Ce b5 37 qb.cells, SlI qb.ka (qb.keys.map vI), SlI qb.va (qb.vals.map vI)]) (fun j pre => [Pu False]) rfl (store_From_it x43.1 x43.2 s p J1 K1 [] (by omega)) rfl (fun _ => by rfl) rfl ?_ (fun l pre x hok => ?_) ?_ (fun j pre hs => ?_)
        · (refine ent_app ?_; exact ent_pick)
        · -- a round
          obtain ⟨k, v⟩ := x
          obtain ⟨r, hr⟩ := hok
          have hfr := fromS_fresh hKok.2 hr
          refine p_seq rfl ?_
          refine p_region rfl ?_
          refine wo_pv (pv_assign rfl) rfl ?_
          refine q_seq ?_
          refine p_region rfl ?_
          refine wo_pv (pv_assign rfl) rfl ?_
          refine q_asg ?_
          refine p_block 1 rfl ?_
          refine p_region rfl ?_
          refine r_load Try.underlying68 rfl rfl rfl rfl ?_
          refine wo_pv (pv_move rfl) rfl ?_
          refine wo_pv (pv_move rfl) rfl ?_
          refine r_mapUpdate Try.underlying68 Try.underlying9 rfl rfl rfl ?_
          refine wo_nil ?_
          refine to_block ?_
          refine to_round ?_
          rw [← mput_snoc hfr]
          exact ent_pick
        · -- behind
          skip
          refine to_block ?_
          refine t_seq ?_
          refine p_seq rfl ?_
          refine p_region rfl ?_
          refine r_loada (vs := [_, _, _, _, _]) Try.underlying37 rfl ti37 rfl (by exact Nat.le_of_ble_eq_true rfl) (by rfl) rfl ?_
          refine r_callX hry rfl rfl rfl (fun xb _ => ?_)
          refine wo_pv (pv_buildS (vs := [_, _, .bool false]) Try.underlying29 ti29 rfl rfl rfl rfl rfl) rfl ?_
          refine r_buildSliceL [_] (cs := [_, _, _]) Try.underlying38 ti29 rfl rfl rfl rfl rfl rfl rfl rfl (fun b52 => ?_)
          refine r_append1 (sz := 3) (bytes := 40) Try.underlying38 ti29 rfl rfl rfl rfl rfl rfl rfl (by rfl) (by rfl) (by omega) (by simp only [maxLen]; omega) rfl (fun a53 c53 => ?_)
          refine wo_ent' (row_norm (v := .slice a53 (y.length + 1) c53) (xs' := (y ++ [newR]).flatMap rowC) (by rfl) (by rw [List.flatMap_append]; rfl)) ?_
          refine wo_pv (pv_assign rfl) rfl ?_
          refine q_seq ?_
          refine p_seq rfl ?_
          refine p_region rfl ?_
          refine wo_pv (pv_move rfl) rfl ?_
          refine r_callX (disk_Copy_sp p D1) rfl rfl rfl (fun q _ => ?_)
          refine wo_pv (pv_assign rfl) rfl ?_
          refine q_seq ?_
          refine p_seq rfl ?_
          refine p_region rfl ?_
          refine wo_pv (pv_move rfl) rfl ?_
          refine r_callX (store_Open_sp q D1) rfl rfl rfl (fun o _ => ?_)
          rw [hO1, hOK1]
          refine wo_pv (pv_assign rfl) rfl ?_
          refine q_seq ?_
          refine p_seq rfl ?_
          refine p_seq rfl ?_
          refine p_region rfl ?_
          refine wo_pv (pv_move rfl) rfl ?_
          refine wo_pv (pv_peql_nil Try.underlying22 rfl rfl) rfl ?_
          refine wo_pv (pv_move rfl) rfl ?_
          first | refine wo_gite (j := 2) rfl rfl (fun h60 => ?_) (fun h60 => ?_) | refine wo_gsplit (j := 2) rfl rfl (fun h60 => ?_) (fun h60 => ?_)
          · -- t60 True
            simp at h60
            --done
          · -- t60 False
            refine wo_in (b := false) rfl ?_
            refine wo_pv (pv_move rfl) rfl ?_
            refine wo_in (b := false) rfl ?_
            refine wo_pv (pv_peql_nil Try.underlying24 rfl rfl) rfl ?_
            refine wo_pv (pv_pick_f rfl rfl) rfl ?_
            refine wo_pv (pv_move rfl) rfl ?_
            first | refine wo_gite (j := 6) rfl rfl (fun h64 => ?_) (fun h64 => ?_) | refine wo_gsplit (j := 6) rfl rfl (fun h64 => ?_) (fun h64 => ?_)
            · -- t64 True
              simp at h64
              --done
            · -- t64 False
              refine wo_in (b := false) rfl ?_
              refine wo_pv (pv_move rfl) rfl ?_
              refine wo_in (b := false) rfl ?_
              refine wo_pv (pv_move rfl) rfl ?_
              refine wo_in (b := false) rfl ?_
              refine r_call1 (store_Commit_sp (B := Row 29 3 (.slice a53 (y.length + 1) c53) (y.length + 1) ((y ++ [newR]).flatMap rowC)) o q (y.length + 1) c53 J1 K1 D1 (y ++ [newR]) sla_row (by simp) (by omega) (fun r h => by have := hmo r h; exact ⟨by have := this.k2; omega, this.v⟩) (by omega) (by rw [hleft1]; omega) (by rw [hj1.2.1]; omega) (by rw [hj1.1]; simp)) rfl rfl rfl ?_
              rw [hc2]
              dsimp only
              refine wo_in (b := false) rfl ?_
              refine wo_pv (pv_neq rfl rfl) rfl ?_
              refine wo_pv (pv_pick_f rfl rfl) rfl ?_
              refine q_seq ?_
              first | refine p_ite rfl rfl (fun h69 => ?_) (fun h69 => ?_) | refine p_cond rfl rfl (fun h69 => ?_) (fun h69 => ?_)
              · -- t69 True
                exact absurd rfl h69
                --done
              · -- t69 False
                refine p_skip rfl ?_
                refine t_seq ?_
                refine p_seq rfl ?_
                refine p_region rfl ?_
                refine r_mkmap rfl (fun b70 => ?_)
                refine wo_alloc (zs := [.map none]) ti68 rfl rfl rfl (fun b17 => ?_)
                refine r_store ti68 rfl rfl rfl rfl (by simp; try omega) ?_
                refine q_seq ?_
                refine p_seq rfl ?_
                refine p_seq rfl ?_
                refine p_region rfl ?_
                refine wo_pv (pv_move rfl) rfl ?_
                refine r_callX (store_All_sp o) rfl rfl rfl (fun x72 _ => ?_)
                refine q_seq ?_
                refine p_block 2 rfl ?_
                refine p_rangeFunc (fun pre => [Ce b17 68 [.map (some b70)], MapS b70 pre, Ce b11 68 [.map (some b41)], MapS b41 (fromS K1 []), IsD p D1, IsS s p J1 K1, Row 29 3 (.slice a53 (y.length + 1) c53) (y.length + 1) ((y ++ [newR]).flatMap rowC)]) (fun j pre => [Pu False]) rfl (store_From_it x72.1 x72.2 o q ⟨J1.l ++ [textOf (y ++ [newR])], J1.e + (piecesS (textOf (y ++ [newR]))).length, false⟩ K2 [] (by omega)) rfl (fun _ => by rfl) rfl ?_ (fun l pre x hok => ?_) ?_ (fun j pre hs => ?_)
                · (refine ent_app ?_; exact ent_pick)
                · -- a round
                  obtain ⟨k, v⟩ := x
                  obtain ⟨r, hr⟩ := hok
                  have hfr := fromS_fresh hK2n hr
                  refine p_seq rfl ?_
                  refine p_region rfl ?_
                  refine wo_pv (pv_assign rfl) rfl ?_
                  refine q_seq ?_
                  refine p_region rfl ?_
                  refine wo_pv (pv_assign rfl) rfl ?_
                  refine q_asg ?_
                  refine p_block 3 rfl ?_
                  refine p_region rfl ?_
                  refine r_load Try.underlying68 rfl rfl rfl rfl ?_
                  refine wo_pv (pv_move rfl) rfl ?_
                  refine wo_pv (pv_move rfl) rfl ?_
                  refine r_mapUpdate Try.underlying68 Try.underlying9 rfl rfl rfl ?_
                  refine wo_nil ?_
                  refine to_block ?_
                  refine to_round ?_
                  rw [← mput_snoc hfr]
                  exact ent_pick
                · -- behind
                  skip
                  refine to_block ?_
                  refine t_seq ?_
                  refine p_seq rfl ?_
                  refine p_region rfl ?_
                  refine wo_pv (pv_move rfl) rfl ?_
                  refine wo_pv (pv_move rfl) rfl ?_
                  refine r_callF hW1 rfl rfl rfl ?_
                  refine wo_pv (pv_move rfl) rfl ?_
                  refine r_callF hW2 rfl rfl rfl ?_
                  refine r_call1 (disk_Arm_sp p D1 wn (withinI kp 0 32)) rfl rfl rfl ?_
                  refine q_seq ?_
                  refine p_seq rfl ?_
                  refine p_region rfl ?_
                  refine wo_pv (pv_move rfl) rfl ?_
                  refine wo_pv (pv_move rfl) rfl ?_
                  refine r_call1 (store_Commit_sp (B := Row 29 3 (.slice a53 (y.length + 1) c53) (y.length + 1) ((y ++ [newR]).flatMap rowC)) s p (y.length + 1) c53 J1 K1 (D1.arm wn (withinI kp 0 32)) (y ++ [newR]) sla_row (by simp) (by omega) (fun r h => by have := hmo r h; exact ⟨by have := this.k2; omega, this.v⟩) (by omega) (by simp only [Dk.arm]; omega) (by rw [hj1.2.1]; omega) (by rw [hj1.1]; simp)) rfl rfl rfl ?_
                  rw [hc3]
                  dsimp only
                  refine wo_pv (pv_assign rfl) rfl ?_
                  refine q_seq ?_
                  refine p_seq rfl ?_
                  refine p_region rfl ?_
                  refine wo_pv (pv_move rfl) rfl ?_
                  refine r_call1 (disk_Revive_sp p D3) rfl rfl rfl ?_
                  refine q_seq ?_
                  refine p_seq rfl ?_
                  refine p_region rfl ?_
                  refine wo_pv (pv_move rfl) rfl ?_
                  refine r_callX (store_Open_sp p D3.revive) rfl rfl rfl (fun u _ => ?_)
                  refine wo_pv (pv_assign rfl) rfl ?_
                  refine q_seq ?_
                  refine p_seq rfl ?_
                  refine p_seq rfl ?_
                  refine p_region rfl ?_
                  refine wo_pv (pv_move rfl) rfl ?_
                  refine wo_pv (pv_peql_nil Try.underlying24 rfl rfl) rfl ?_
                  refine q_seq ?_
                  first | refine p_ite rfl rfl (fun h92 => ?_) (fun h92 => ?_) | refine p_cond rfl rfl (fun h92 => ?_) (fun h92 => ?_)
                  · -- t92 True
                    simp at h92
                    --done
                  · -- t92 False
                    refine p_skip rfl ?_
                    refine t_seq ?_
                    refine p_seq rfl ?_
                    obtain ⟨J4, hJ4⟩ : ∃ J4, J4 = openJ D3.revive := ⟨_, rfl⟩
                    rw [← hJ4] at hcase ⊢
                    obtain ⟨K4, hK4⟩ : ∃ K4, K4 = openK J4.l := ⟨_, rfl⟩
                    rw [← hK4] at hcase ⊢
                    have hK4ok : AllS K4 ∧ (K4.map (·.1)).Nodup ∧ K4.length ≤ 20 := by
                      rcases hcase with ⟨_, h⟩ | ⟨_, _, h | h⟩
                      · rw [h]; exact ⟨hK2a, hK2n, hK2l⟩
                      · rw [h]; exact ⟨hKok.1, hKok.2, by omega⟩
                      · rw [h]; exact ⟨hK2a, hK2n, hK2l⟩
                    refine p_region rfl ?_
                    refine r_mkmap rfl (fun b93 => ?_)
                    refine wo_alloc (zs := [.map none]) ti68 rfl rfl rfl (fun b22 => ?_)
                    refine r_store ti68 rfl rfl rfl rfl (by simp; try omega) ?_
                    refine q_seq ?_
                    refine p_seq rfl ?_
                    refine p_seq rfl ?_
                    refine p_region rfl ?_
                    refine wo_pv (pv_move rfl) rfl ?_
                    refine r_callX (store_All_sp u) rfl rfl rfl (fun x95 _ => ?_)
                    refine q_seq ?_
                    refine p_block 4 rfl ?_
                    refine p_rangeFunc (fun pre => [Ce b22 68 [.map (some b93)], MapS b93 pre, Ce b17 68 [.map (some b70)], MapS b70 (fromS K2 []), Ce b11 68 [.map (some b41)], MapS b41 (fromS K1 []), IsS s p J3 K3]) (fun j pre => [Pu False]) rfl (store_From_it x95.1 x95.2 u p J4 K4 [] (by omega)) rfl (fun _ => by rfl) rfl ?_ (fun l pre x hok => ?_) ?_ (fun j pre hs => ?_)
                    · (refine ent_app ?_; exact ent_pick)
                    · -- a round
                      obtain ⟨k, v⟩ := x
                      obtain ⟨r, hr⟩ := hok
                      have hfr := fromS_fresh hK4ok.2.1 hr
                      refine p_seq rfl ?_
                      refine p_region rfl ?_
                      refine wo_pv (pv_assign rfl) rfl ?_
                      refine q_seq ?_
                      refine p_region rfl ?_
                      refine wo_pv (pv_assign rfl) rfl ?_
                      refine q_asg ?_
                      refine p_block 5 rfl ?_
                      refine p_region rfl ?_
                      refine r_load Try.underlying68 rfl rfl rfl rfl ?_
                      refine wo_pv (pv_move rfl) rfl ?_
                      refine wo_pv (pv_move rfl) rfl ?_
                      refine r_mapUpdate Try.underlying68 Try.underlying9 rfl rfl rfl ?_
                      refine wo_nil ?_
                      refine to_block ?_
                      refine to_round ?_
                      rw [← mput_snoc hfr]
                      exact ent_pick
                    · -- behind
                      skip
                      refine to_block ?_
                      refine t_seq ?_
                      refine p_seq rfl ?_
                      refine p_seq rfl ?_
                      refine p_region rfl ?_
                      refine wo_pv (pv_move rfl) rfl ?_
                      refine wo_pv (pv_eql rfl rfl) rfl ?_
                      refine wo_pv (pv_move rfl) rfl ?_
                      first | refine wo_gite (j := 2) rfl rfl (fun h103 => ?_) (fun h103 => ?_) | refine wo_gsplit (j := 2) rfl rfl (fun h103 => ?_) (fun h103 => ?_)
                      · -- t103 True
                        refine wo_out (b := true) rfl rfl rfl ?_
                        refine wo_out (b := true) rfl rfl rfl ?_
                        refine wo_out (b := true) rfl rfl rfl ?_
                        refine wo_pv (pv_pick_t rfl rfl) rfl ?_
                        refine q_seq ?_
                        refine p_true rfl rfl ?_
                        refine p_seq rfl ?_
                        have hS : sameP (fromS K4 []) (fromS K2 []) := by
                          first
                          | exact @of_decide_eq_true _ (Classical.propDecidable _) h107
                          | (rcases hcase with ⟨_, h⟩ | ⟨h, _⟩
                             · rw [h]; exact same_refl hK2n
                             · exfalso; omega)
                        have hS2 := law7_same_sp b93 b70 (fromS K4 []) (fromS K2 []) (fromS_allS hK4ok.1) (fromS_allS hK2a) (by rw [fromS_nil_len]; omega)
                        rw [@decide_eq_true _ (Classical.propDecidable _) hS] at hS2
                        refine p_region rfl ?_
                        refine r_load Try.underlying68 rfl rfl rfl rfl ?_
                        refine r_load Try.underlying68 rfl rfl rfl rfl ?_
                        refine r_call1 hS2 rfl rfl rfl ?_
                        refine wo_pv (pv_move rfl) rfl ?_
                        first | refine wo_gite (j := 3) rfl rfl (fun h111 => ?_) (fun h111 => ?_) | refine wo_gsplit (j := 3) rfl rfl (fun h111 => ?_) (fun h111 => ?_)
                        · -- t111 True
                          refine wo_in (b := true) rfl ?_
                          refine r_call1 law_StoreRuns rfl rfl rfl ?_
                          refine wo_pv (pv_pick_t rfl rfl) rfl ?_
                          refine wo_pv (pv_assign rfl) rfl ?_
                          refine q_seq ?_
                          refine p_ret rfl ?_
                          refine t_seq_ret ?_
                          exact fin_ret () (vs := [_]) (Cs := []) rfl (.tmp rfl .nil) rfl trivial ent_nil
                        · -- t111 False
                          simp at h111
                          --done
                      · -- t103 False
                        refine wo_in (b := false) rfl ?_
                        refine r_load Try.underlying68 rfl rfl rfl rfl ?_
                        refine wo_in (b := false) rfl ?_
                        refine r_load Try.underlying68 rfl rfl rfl rfl ?_
                        refine wo_in (b := false) rfl ?_
                        refine r_call1 (law7_same_sp b93 b70 (fromS K4 []) (fromS K2 []) (fromS_allS hK4ok.1) (fromS_allS hK2a) (by rw [fromS_nil_len]; omega)) rfl rfl rfl ?_
                        refine wo_pv (pv_pick_f rfl rfl) rfl ?_
                        refine q_seq ?_
                        first | refine p_ite rfl rfl (fun h107 => ?_) (fun h107 => ?_) | refine p_cond rfl rfl (fun h107 => ?_) (fun h107 => ?_)
                        · -- t107 True
                          refine p_seq rfl ?_
                          have hS : sameP (fromS K4 []) (fromS K2 []) := by
                            first
                            | exact @of_decide_eq_true _ (Classical.propDecidable _) h107
                            | (rcases hcase with ⟨_, h⟩ | ⟨h, _⟩
                               · rw [h]; exact same_refl hK2n
                               · exfalso; omega)
                          have hS2 := law7_same_sp b93 b70 (fromS K4 []) (fromS K2 []) (fromS_allS hK4ok.1) (fromS_allS hK2a) (by rw [fromS_nil_len]; omega)
                          rw [@decide_eq_true _ (Classical.propDecidable _) hS] at hS2
                          refine p_region rfl ?_
                          refine r_load Try.underlying68 rfl rfl rfl rfl ?_
                          refine r_load Try.underlying68 rfl rfl rfl rfl ?_
                          refine r_call1 hS2 rfl rfl rfl ?_
                          refine wo_pv (pv_move rfl) rfl ?_
                          first | refine wo_gite (j := 3) rfl rfl (fun h111 => ?_) (fun h111 => ?_) | refine wo_gsplit (j := 3) rfl rfl (fun h111 => ?_) (fun h111 => ?_)
                          · -- t111 True
                            refine wo_in (b := true) rfl ?_
                            refine r_call1 law_StoreRuns rfl rfl rfl ?_
                            refine wo_pv (pv_pick_t rfl rfl) rfl ?_
                            refine wo_pv (pv_assign rfl) rfl ?_
                            refine q_seq ?_
                            refine p_ret rfl ?_
                            refine t_seq_ret ?_
                            exact fin_ret () (vs := [_]) (Cs := []) rfl (.tmp rfl .nil) rfl trivial ent_nil
                          · -- t111 False
                            simp at h111
                            --done
                        · -- t107 False
                          refine p_skip rfl ?_
                          refine t_seq ?_
                          refine p_seq rfl ?_
                          have hne : K4 ≠ K2 := fun e => @of_decide_eq_false _ (Classical.propDecidable _) h107 (by rw [e]; exact same_refl hK2n)
                          have hc4 : r3 = 9 ∧ K3 = K1 ∧ K4 = K1 := by
                            rcases hcase with ⟨h, _⟩ | ⟨h1, h2, h | h⟩
                            · exfalso; omega
                            · exact ⟨h1, h2, h⟩
                            · exact absurd h hne
                          obtain ⟨rfl, rfl, rfl⟩ := hc4
                          have hS3 := law7_same_sp b93 b41 (fromS K4 []) (fromS K4 []) (fromS_allS hK4ok.1) (fromS_allS hK4ok.1) (by rw [fromS_nil_len]; omega)
                          rw [@decide_eq_true _ (Classical.propDecidable _) (same_refl hK4ok.2.1)] at hS3
                          have hS4 : ∀ m : Nat, Sp1 Try.prog 31 [.map (some b41), .map (some m)] [MapS b41 (fromS K4 []), MapS m (fromS K4 [])] (vB true) [MapS b41 (fromS K4 []), MapS m (fromS K4 [])] := fun m => by
                            have := law7_same_sp b41 m (fromS K4 []) (fromS K4 []) (fromS_allS hK4ok.1) (fromS_allS hK4ok.1) (by rw [fromS_nil_len]; omega)
                            rw [@decide_eq_true _ (Classical.propDecidable _) (same_refl hK4ok.2.1)] at this
                            exact this
                          refine d_draw rfl rfl rfl [Ce b22 68 [.map (some b93)], Ce b17 68 [.map (some b70)], Ce b11 68 [.map (some b41)]] ?_
                          refine d_first 0 rfl rfl rfl (by kernel_rfl) (by kernel_rfl) (tl_pv (pv_move rfl)) ?_
                          refine d_first 1 rfl rfl rfl (by kernel_rfl) (by kernel_rfl) (tl_pv (pv_eql rfl rfl)) ?_
                          refine d_first 2 rfl rfl rfl (by kernel_rfl) (by kernel_rfl) (tl_pv (pv_move rfl)) ?_
                          first | refine d_gite (j := 2) rfl rfl (fun h116 => ?_) (fun h116 => ?_) | refine d_gsplit (j := 2) rfl rfl (fun h116 => ?_) (fun h116 => ?_)
                          · -- t116 True
                            refine d_first 3 rfl rfl rfl (by kernel_rfl) (by kernel_rfl) (tl_in (b := true) rfl (tl_load Try.underlying68 rfl rfl rfl)) ?_
                            refine d_first 4 rfl rfl rfl (by kernel_rfl) (by kernel_rfl) (tl_in (b := true) rfl (tl_load Try.underlying68 rfl rfl rfl)) ?_
                            refine d_next 5 (by kernel_rfl) rfl ?_
                            refine an_in (b := true) rfl ?_
                            refine an_call1 hS3 rfl rfl rfl ?_
                            refine d_first 6 rfl rfl rfl (by kernel_rfl) (by kernel_rfl) (tl_pv (pv_pick_t rfl rfl)) ?_
                            refine d_first 7 rfl rfl rfl (by kernel_rfl) (by kernel_rfl) (tl_pv (pv_move rfl)) ?_
                            first | refine d_gite (j := 7) rfl rfl (fun h121 => ?_) (fun h121 => ?_) | refine d_gsplit (j := 7) rfl rfl (fun h121 => ?_) (fun h121 => ?_)
                            · -- t121 True
                              refine d_first 8 rfl rfl rfl (by kernel_rfl) (by kernel_rfl) (tl_in (b := true) rfl (tl_load Try.underlying68 rfl rfl rfl)) ?_
                              refine d_first 9 rfl rfl rfl (by kernel_rfl) (by kernel_rfl) (tl_in (b := true) rfl (tl_pv (pv_move rfl))) ?_
                              refine d_next 10 (by kernel_rfl) rfl ?_
                              refine an_in (b := true) rfl ?_
                              refine an_callX (law7_of_sp s p J3 K4 hK4ok.2.1 (by omega)) rfl rfl rfl (fun m _ => ?_)
                              refine d_next 11 (by kernel_rfl) rfl ?_
                              refine an_in (b := true) rfl ?_
                              refine an_call1 (hS4 m) rfl rfl rfl ?_
                              refine d_first 12 rfl rfl rfl (by kernel_rfl) (by kernel_rfl) (tl_pv (pv_pick_t rfl rfl)) ?_
                              refine d_first 13 rfl rfl rfl (by kernel_rfl) (by kernel_rfl) (tl_pv (pv_move rfl)) ?_
                              refine d_next 14 (by kernel_rfl) rfl ?_
                              refine an_in (b := true) rfl ?_
                              refine an_call1 law_StoreRuns rfl rfl rfl ?_
                              refine d_first 15 rfl rfl rfl (by kernel_rfl) (by kernel_rfl) (tl_pv (pv_pick_b rfl rfl rfl)) ?_
                              refine d_first 16 rfl rfl rfl (by kernel_rfl) (by kernel_rfl) (tl_pv (pv_assign rfl)) ?_
                              refine d_done (by kernel_rfl) ?_
                              refine t_seq ?_
                              refine p_ret rfl ?_
                              exact fin_ret () (vs := [_]) (Cs := []) rfl (.tmp rfl .nil) rfl trivial ent_nil
                            · -- t121 False
                              simp at h121
                              --done
                          · -- t116 False
                            exact absurd rfl h116
                            --done
                    · -- stopped
                      exact wc_no (fun s => by obtain ⟨_, _, _, _, a, _⟩ := s; exact a)
                · -- stopped
                  exact wc_no (fun s => by obtain ⟨_, _, _, _, a, _⟩ := s; exact a)
        · -- stopped
          exact wc_no (fun s => by obtain ⟨_, _, _, _, a, _⟩ := s; exact a)
end Go.Proofs.Ytimafngkifakfaa

/- StorePlays: plain laws. -/
namespace Go.Proofs.Ytimafngkifakfaa
theorem Dk.write_left (D : Dk) (i : Int) (s : Bs) : D.left - 1 ≤ (D.write i s).1.left ∧ (D.write i s).1.left ≤ D.left := by
  unfold Dk.write
  split
  · dsimp only; omega
  · split <;> dsimp only <;> omega
theorem Dk.writes_left : ∀ (ps : List Bs) (D : Dk) (i : Nat), D.left - ps.length ≤ (D.writes i ps).1.left ∧ (D.writes i ps).1.left ≤ D.left := by
  intro ps
  induction ps with
  | nil => intro D i; simp [Dk.writes]
  | cons p r ih =>
    intro D i
    have h1 := Dk.write_left D i p
    rw [Dk.writes]
    cases hw : D.write i p with
    | mk D' b =>
      rw [hw] at h1
      dsimp only at h1
      cases b
      · dsimp only; rw [List.length_cons]; omega
      · have h2 := ih D' (i + 1)
        rw [List.length_cons]; dsimp only; omega
structure PI (J : Jn) (K : Ks) (D : Dk) (o : Od) (j : Nat) : Prop where
  scd : Scd D.secs J.l J.e
  jd : J.down = false
  dd : D.down = false
  hK : K = openK J.l
  rel : Rel D o
  n60 : D.secs.length = 60
  left : -(61 * j : Int) ≤ D.left ∧ D.left ≤ 8
  len : K.length ≤ 4 * j
  keys : ∀ k ∈ K.map (·.1), k ∈ keyTab
theorem pi_new : PI ⟨[], 0, false⟩ (openK []) (newD 60) ⟨List.replicate 60 (wholeS []), -1, 0, false⟩ 0 :=
  ⟨scd_new 60, rfl, rfl, rfl, ⟨rfl, rfl, fun e => (by cases e), fun _ => rfl⟩, rfl, by decide, by simp [openK], by simp [openK]⟩
theorem PI.openJ {J : Jn} {K : Ks} {D : Dk} {o : Od} {j : Nat} (p : PI J K D o j) : Go.Proofs.Ytimafngkifakfaa.openJ D = J := by
  rw [openJ_of p.scd]
  have := p.jd
  cases J with
  | mk l e d => dsimp only at this; subst this; rfl
theorem PI.scan {J : Jn} {K : Ks} {D : Dk} {o : Od} {j : Nat} (p : PI J K D o j) : scanO o = (J.l, J.e) := by
  rw [scanO, p.rel.secs, p.scd.scan]
theorem PI.up {J : Jn} {K : Ks} {D : Dk} {o : Od} {j m : Nat} (p : PI J K D o j) (h : j ≤ m) : PI J K D o m :=
  ⟨p.scd, p.jd, p.dd, p.hK, p.rel, p.n60, by have := p.left; omega, by have := p.len; omega, p.keys⟩
theorem PI.reviveD {J : Jn} {K : Ks} {D : Dk} {o : Od} {j : Nat} (p : PI J K D o j) : D.revive = D := by
  have := p.dd
  cases D with
  | mk a b c d e => dsimp only at this; subst this; rfl
theorem PI.reviveO {J : Jn} {K : Ks} {D : Dk} {o : Od} {j : Nat} (p : PI J K D o j) : o.down = false := by rw [p.rel.down, p.dd]
theorem PI.arm {J : Jn} {K : Ks} {D : Dk} {o : Od} {j w k : Nat} (p : PI J K D o j) (hw : w ≤ 8) (hk : k ≤ 32) : PI J K (D.arm w k) ⟨o.secs, w, k, o.down⟩ (j + 1) := by
  refine ⟨p.scd, p.jd, p.dd, p.hK, ⟨p.rel.secs, p.rel.down, fun _ => ⟨?_, ?_, ?_⟩, fun e => (by cases e)⟩, p.n60, ?_, by have := p.len; omega, p.keys⟩
  · simp only [Dk.arm]; omega
  · simp only [Dk.arm]; omega
  · simp only [Dk.arm]; omega
  · simp only [Dk.arm]; omega
theorem rowM_key (k v : Int) : (rowM k v).key ∈ keyTab := by
  obtain ⟨m, hm, h5⟩ := within5 k
  have hl : keyTab.length = 5 := rfl
  have : keyTab.getD (withinI k 0 4).toNat [] ∈ keyTab := by
    rw [hm, Int.toNat_natCast, getD_lt (by omega)]; exact List.getElem_mem _
  unfold rowM
  split <;> exact this
theorem rowsM_keys (ks vs : List Int) : ∀ r ∈ rowsM ks vs, r.key ∈ keyTab := by
  intro r hr
  simp only [rowsM, List.mem_map] at hr
  obtain ⟨i, _, rfl⟩ := hr
  exact rowM_key _ _
theorem doR_keys (l : List Rw) : ∀ (K : Ks), (∀ k ∈ K.map (·.1), k ∈ keyTab) → (∀ r ∈ l, r.key ∈ keyTab) → ∀ k ∈ (doR K l).map (·.1), k ∈ keyTab := by
  induction l with
  | nil => intro K h _; exact h
  | cons r l ih =>
    intro K h1 h2
    refine ih (doOne K r) (fun k hk => ?_) (fun q hq => h2 q (by simp [hq]))
    unfold doOne at hk
    split at hk
    · exact h1 _ ((mdel_keys K r.key).subset hk)
    · rw [mput_keys] at hk
      split at hk
      · exact h1 _ hk
      · rcases List.mem_append.1 hk with hk | hk
        · exact h1 _ hk
        · simp only [List.mem_singleton] at hk; subst hk; exact h2 r (by simp)
/-- A commit on both sides. -/
theorem pi_commit {J : Jn} {K : Ks} {D : Dk} {o : Od} {j : Nat} (p : PI J K D o j) (ok : D.Ok) (oko : o.Ok) {l : List Rw} (hr : ∀ r ∈ l, r.Ok) (hk : ∀ r ∈ l, r.key ∈ keyTab) (hl : l.length ≤ 4) (ht : (textOf l).length ≤ 280) :
    ((60 : Int) - J.e < (piecesS (textOf l)).length ∧ commitS J K D l = (J, K, D, 6)) ∨
    (¬ ((60 : Int) - J.e < (piecesS (textOf l)).length) ∧ ∃ J' K' D' o' ok', commitO o (textOf l) = (o', ok') ∧
      ((ok' = true ∧ commitS J K D l = (J', K', D', 0) ∧ PI J' K' D' o' (j + 1)) ∨
       (ok' = false ∧ commitS J K D l = (J', K', D', 9) ∧ PI (openJ D'.revive) (openK (openJ D'.revive).l) D'.revive ⟨o'.secs, o'.left, o'.keep, false⟩ (j + 1)))) := by
  have hcs := commitS_eq (J := J) (K := K) (D := D) hr
  have hrt := readR_textOf l hr
  have hpb := piecesS_bound (textOf l)
  have hwl := Dk.writes_left (piecesS (textOf l)) D J.e
  have hlf := p.left
  have hsc := p.scan
  have hol : o.secs.length = 60 := by rw [p.rel.secs, p.n60]
  have hK2 : doR K l = openK (J.l ++ [textOf l]) := by rw [openK_snoc, hrt, ← p.hK]; rfl
  have hlen2 : (doR K l).length ≤ 4 * (j + 1) := by have := doR_len l K; have := p.len; omega
  have hkeys2 := doR_keys l K p.keys hk
  by_cases hf : (60 : Int) - J.e < (piecesS (textOf l)).length
  · left
    refine ⟨hf, ?_⟩
    have hcj : commitJ J D (textOf l) = (J, D, 6) := by
      rw [commitJ, if_neg (by rw [p.jd]; simp), if_pos (by rw [p.n60]; exact hf)]
    rw [hcs, hcj]; rfl
  · right
    refine ⟨hf, ?_⟩
    have hco : commitO o (textOf l) = o.writes J.e (piecesS (textOf l)) := by
      rw [commitO, hsc, if_neg (by rw [hol]; exact hf)]
    obtain ⟨hw1, hw2⟩ := writes_rel (piecesS (textOf l)) p.rel oko J.e
    have hwlen := Od.writes_len (piecesS (textOf l)) o J.e
    have hcj : ∀ (D' : Dk) (b : Bool), D.writes J.e (piecesS (textOf l)) = (D', b) → commitJ J D (textOf l) = if b = true then (⟨J.l ++ [textOf l], J.e + (piecesS (textOf l)).length, false⟩, D', 0) else (⟨J.l, J.e, true⟩, D', 9) := by
      intro D' b h
      rw [commitJ, if_neg (by rw [p.jd]; simp), if_neg (by rw [p.n60]; exact hf), h]
      cases b <;> rfl
    have hcase := commit_scan p.scd p.jd p.dd ok.keep ok.secs (textOf l)
    cases hwd : D.writes J.e (piecesS (textOf l)) with
    | mk D' b =>
    cases hwo : o.writes J.e (piecesS (textOf l)) with
    | mk o' b' =>
    have hcj := hcj D' b hwd
    rw [hwd] at hw1 hw2 hwl
    rw [hwo] at hw1 hw2 hwlen
    dsimp only at hw1 hw2 hwlen hwl
    subst hw1
    have h60 : D'.secs.length = 60 := by rw [← hw2.secs, hwlen, hol]
    cases b' with
    | true =>
      have hcj := hcj
      simp only [if_true, Bool.false_eq_true, if_false] at hcj
      rw [hcj] at hcase
      refine ⟨⟨J.l ++ [textOf l], J.e + (piecesS (textOf l)).length, false⟩, doR K l, D', o', true, by rw [hco, hwo], .inl ⟨rfl, by rw [hcs, hcj]; rfl, ?_⟩⟩
      rcases hcase with ⟨_, _, h3, h4⟩ | ⟨h1, _⟩ | ⟨h1, _⟩
      · exact ⟨h3, rfl, h4, hK2, hw2, h60, by omega, hlen2, hkeys2⟩
      · cases h1
      · cases h1
    | false =>
      have hcj := hcj
      simp only [if_true, Bool.false_eq_true, if_false] at hcj
      rw [hcj] at hcase
      refine ⟨⟨J.l, J.e, true⟩, K, D', o', false, by rw [hco, hwo], .inr ⟨rfl, by rw [hcs, hcj]; rfl, ?_⟩⟩
      rcases hcase with ⟨h1, _⟩ | ⟨h1, _⟩ | ⟨_, _, h3, h4⟩
      · cases h1
      · cases h1
      · dsimp only at h3 h4
        have hrel : Rel D'.revive ⟨o'.secs, o'.left, o'.keep, false⟩ := ⟨hw2.secs, rfl, hw2.armed, hw2.calm⟩
        rcases h4 with h4 | h4
        · have hO : openJ D'.revive = ⟨J.l, J.e, false⟩ := openJ_of (D := D'.revive) h4
          rw [hO]
          exact ⟨h4, rfl, rfl, rfl, hrel, h60, by simp only [Dk.revive]; omega, by dsimp only; rw [← p.hK]; have := p.len; omega, by dsimp only; rw [← p.hK]; exact p.keys⟩
        · have hO : openJ D'.revive = ⟨J.l ++ [textOf l], J.e + (piecesS (textOf l)).length, false⟩ := openJ_of (D := D'.revive) h4
          rw [hO]
          exact ⟨h4, rfl, rfl, rfl, hrel, h60, by simp only [Dk.revive]; omega, by dsimp only; rw [← hK2]; exact hlen2, by dsimp only; rw [← hK2]; exact hkeys2⟩
/-- How many keys begin with an a. -/
def cntA (l : List Rw) : Nat := (l.filter fun r => decide (r.key.getD 0 0 = 97)).length
theorem cntA_succ {l : List Rw} {j : Nat} (h : j < l.length) : cntA (l.take (j + 1)) = cntA (l.take j) + (if l[j].key.getD 0 0 = 97 then 1 else 0) := by
  unfold cntA
  rw [List.take_succ_eq_append_getElem h, List.filter_append, List.length_append]
  congr 1
  by_cases hc : l[j].key.getD 0 0 = 97
  · rw [if_pos hc, List.filter_cons_of_pos (p := fun r : Rw => decide (r.key.getD 0 0 = 97)) (decide_eq_true hc)]; rfl
  · rw [if_neg hc, List.filter_cons_of_neg (p := fun r : Rw => decide (r.key.getD 0 0 = 97)) (by rw [decide_eq_false hc]; simp)]; rfl
theorem cntA_le (l : List Rw) (j : Nat) : cntA (l.take j) ≤ cntA l := by
  unfold cntA
  exact ((List.take_sublist _ _).filter _).length_le
theorem hasA (k : Bs) : Lib.hasPrefix k [97] = decide (k.getD 0 0 = 97) := by
  cases k with
  | nil => rfl
  | cons b k =>
    simp only [Lib.hasPrefix, List.isPrefixOf, Bool.and_true, List.getD_cons_zero]
    by_cases h : b = 97
    · subst h; rfl
    · rw [decide_eq_false h]; exact beq_eq_false_iff_ne.2 (fun e => h e.symm)
theorem fromA_len (K : Ks) : (fromS K [97]).length = cntA (rowsK K) := by
  have h1 : (fromS K [97]).length = ((keysS K).filter fun k => decide (k.getD 0 0 = 97)).length := by
    rw [fromS, fromL, List.length_map]
    congr 1
    apply List.filter_congr
    intro k _
    exact hasA k
  rw [h1, ← rowsK_keys, List.filter_map, List.length_map]
  rfl
theorem fromA_key {K : Ks} {x : Bs × Value} (h : x ∈ fromS K [97]) : x.1.getD 0 0 = 97 := by
  have := (fromS_mem h).2.1
  rw [hasA] at this
  exact of_decide_eq_true this
theorem rowsK_get {K : Ks} (ha : AllS K) {i : Nat} (h : i < (fromS K []).length) : ∃ h' : i < (rowsK K).length, (fromS K [])[i].1 = (rowsK K)[i].key ∧ (fromS K [])[i].2 = vS (rowsK K)[i].val := by
  have h' : i < (rowsK K).length := by rw [rowsK_len]; rw [fromS_nil_len] at h; exact h
  refine ⟨h', ?_⟩
  have e : (rowsK K)[i] = ⟨(fromS K [])[i].1, vStr (fromS K [])[i].2, false⟩ := by simp [rowsK]
  rw [e]
  refine ⟨rfl, ?_⟩
  dsimp only
  obtain ⟨_, _, h3⟩ := fromS_mem (List.getElem_mem h)
  obtain ⟨s, hs⟩ := allS_look ha h3
  rw [hs]; rfl
theorem rowsK_look {K : Ks} (hn : (K.map (·.1)).Nodup) (ha : AllS K) {i : Nat} (h : i < (rowsK K).length) : mlook K (rowsK K)[i].key = some (vS (rowsK K)[i].val) := by
  rcases rowsK_val hn [] _ (List.getElem_mem h) with ⟨_, h2⟩ | h2
  · exact h2
  · exact absurd ha h2
theorem rowsK_key_mem {K : Ks} {i : Nat} (h : i < (rowsK K).length) : (rowsK K)[i].key ∈ K.map (·.1) := by
  have : (rowsK K)[i].key ∈ (rowsK K).map (·.key) := List.mem_map_of_mem (List.getElem_mem h)
  rw [rowsK_keys, keysS_mem] at this
  exact this
theorem zz_none {K : Ks} (h : ∀ k ∈ K.map (·.1), k ∈ keyTab) : mlook K [122, 122] = none := mlook_none fun hm => absurd (h _ hm) (by decide)
end Go.Proofs.Ytimafngkifakfaa
