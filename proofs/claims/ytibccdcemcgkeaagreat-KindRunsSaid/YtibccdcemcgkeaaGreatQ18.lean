/- Texts of this proof, put together: SCt. -/
import Derived.Test.YtibccdcemcgkeaaGreatQ17
set_option linter.unusedVariables false
set_option linter.unusedSimpArgs false
section
set_option maxRecDepth 100000
namespace Go.Proofs.YtibccdcemcgkeaaGreat
def ctVals (ta : Option Addr) (tc : Nat) (c : Ct) : List Value := [vI c.date, .slice ta c.tags.length tc, vS c.user]
def ct0 : Ct := ⟨0, [], []⟩
set_option maxHeartbeats 1000000 in
theorem control_Right_sp {Bt : HP} (ta : Option Addr) (tc : Nat) (c : Ct) (zu : c.user.length ≤ 1099511627) (zt : TgZ c.tags) (sht : SlA Bt ta (c.tags.flatMap tgCells)) :
    Sp1 Tryz.prog 82 [.agg (ctVals ta tc c).toArray] [Bt] (vB (decide (RightCt c))) [Bt] := by
 have hT := checkin_RightTags_sp false c.tags.length tc c.tags sht rfl zt.n (fun t ht => by have := zt.z t ht; omega)
 refine Sp.body (n := 27) Tryz.call82 Tryz.func82 rfl rfl rfl ?_
 refine p_seq rfl ?_
 refine p_region rfl ?_
 refine wo_box (vs := [_, _, _]) rfl rfl rfl (fun b1 => ?_)
 refine wo_pv (pv_assign rfl) rfl ?_
 refine q_seq ?_
 refine p_seq rfl ?_
 refine p_region rfl ?_
 refine wo_pv (pv_fieldAddrk Tryz.underlying54 rfl ti3 rfl rfl (k := 0) rfl (by first | exact Nat.zero_add _ | exact Nat.add_zero _ | exact rfl)) rfl ?_
 refine r_load Tryz.underlying3 rfl rfl rfl rfl ?_
 refine wo_pv (pv_geq rfl rfl) rfl ?_
 refine wo_pv (pv_move rfl) rfl ?_
 first | refine wo_gite (j := 3) rfl rfl (fun h6 => ?_) (fun h6 => ?_) | refine wo_gsplit (j := 3) rfl rfl (fun h6 => ?_) (fun h6 => ?_)
 ·
  refine wo_in (b := true) rfl ?_
  refine wo_pv (pv_fieldAddrk Tryz.underlying54 rfl ti3 rfl rfl (k := 0) rfl (by first | exact Nat.zero_add _ | exact Nat.add_zero _ | exact rfl)) rfl ?_
  refine wo_in (b := true) rfl ?_
  refine r_load Tryz.underlying3 rfl rfl rfl rfl ?_
  refine wo_in (b := true) rfl ?_
  refine wo_pv (pv_leq rfl rfl) rfl ?_
  refine wo_pv (pv_pick_t rfl rfl) rfl ?_
  refine wo_pv (pv_move rfl) rfl ?_
  first | refine wo_gite (j := 8) rfl rfl (fun h11 => ?_) (fun h11 => ?_) | refine wo_gsplit (j := 8) rfl rfl (fun h11 => ?_) (fun h11 => ?_)
  ·
   refine wo_in (b := true) rfl ?_
   refine wo_pv (pv_fieldAddrk Tryz.underlying54 rfl ti28 rfl rfl (k := 1) rfl (by first | exact Nat.zero_add _ | exact Nat.add_zero _ | exact rfl)) rfl ?_
   refine wo_in (b := true) rfl ?_
   refine r_load Tryz.underlying28 rfl rfl rfl rfl ?_
   refine wo_in (b := true) rfl ?_
   refine wo_pv (pv_call_len_sl Tryz.underlying28 rfl) rfl ?_
   refine wo_in (b := true) rfl ?_
   refine wo_pv (pv_gtr rfl rfl) rfl ?_
   refine wo_pv (pv_pick_t rfl rfl) rfl ?_
   refine wo_pv (pv_move rfl) rfl ?_
   first | refine wo_gite (j := 14) rfl rfl (fun h17 => ?_) (fun h17 => ?_) | refine wo_gsplit (j := 14) rfl rfl (fun h17 => ?_) (fun h17 => ?_)
   ·
    refine wo_in (b := true) rfl ?_
    refine wo_pv (pv_fieldAddrk Tryz.underlying54 rfl ti28 rfl rfl (k := 1) rfl (by first | exact Nat.zero_add _ | exact Nat.add_zero _ | exact rfl)) rfl ?_
    refine wo_in (b := true) rfl ?_
    refine r_load Tryz.underlying28 rfl rfl rfl rfl ?_
    refine wo_in (b := true) rfl ?_
    refine r_call1 hT rfl rfl rfl ?_
    refine wo_pv (pv_pick_t rfl rfl) rfl ?_
    refine wo_pv (pv_move rfl) rfl ?_
    first | refine wo_gite (j := 19) rfl rfl (fun h22 => ?_) (fun h22 => ?_) | refine wo_gsplit (j := 19) rfl rfl (fun h22 => ?_) (fun h22 => ?_)
    ·
     refine wo_in (b := true) rfl ?_
     refine wo_pv (pv_fieldAddrk Tryz.underlying54 rfl ti9 rfl rfl (k := 2) rfl (by first | exact Nat.zero_add _ | exact Nat.add_zero _ | exact rfl)) rfl ?_
     refine wo_in (b := true) rfl ?_
     refine r_load Tryz.underlying9 rfl rfl rfl rfl ?_
     refine wo_in (b := true) rfl ?_
     refine r_callF (escape_Word_sp c.user (by omega)) rfl rfl rfl ?_
     refine wo_pv (pv_pick_t rfl rfl) rfl ?_
     refine wo_pv (pv_assign rfl) rfl ?_
     refine q_seq ?_
     refine p_ret rfl ?_
     refine fin_ret () (vs := [_]) (Cs := []) rfl (.tmp rfl .nil) ?_ trivial ent_pick
     show vB _ = vB _
     congr 1
     first
     | exact (decide_eq_false (fun h => h22 h.tags)).symm
     | exact (decide_eq_false (fun h => by have := h.some; have := h.date; omega)).symm
     | exact decide_eq_decide.2 ⟨fun h => ⟨by omega, by omega, h22, h⟩, fun h => h.user⟩
    ·
     refine wo_out (b := false) rfl rfl rfl ?_
     refine wo_out (b := false) rfl rfl rfl ?_
     refine wo_out (b := false) rfl rfl rfl ?_
     refine wo_pv (pv_pick_f rfl rfl) rfl ?_
     refine wo_pv (pv_assign rfl) rfl ?_
     refine q_seq ?_
     refine p_ret rfl ?_
     refine fin_ret () (vs := [_]) (Cs := []) rfl (.tmp rfl .nil) ?_ trivial ent_pick
     show vB _ = vB _
     congr 1
     first
     | exact (decide_eq_false (fun h => h22 h.tags)).symm
     | exact (decide_eq_false (fun h => by have := h.some; have := h.date; omega)).symm
     | exact decide_eq_decide.2 ⟨fun h => ⟨by omega, by omega, h22, h⟩, fun h => h.user⟩
   ·
    refine wo_out (b := false) rfl rfl rfl ?_
    refine wo_out (b := false) rfl rfl rfl ?_
    refine wo_out (b := false) rfl rfl rfl ?_
    refine wo_pv (pv_pick_f rfl rfl) rfl ?_
    refine wo_pv (pv_move rfl) rfl ?_
    refine wo_out (b := false) rfl rfl rfl ?_
    refine wo_out (b := false) rfl rfl rfl ?_
    refine wo_out (b := false) rfl rfl rfl ?_
    refine wo_pv (pv_pick_f rfl rfl) rfl ?_
    refine wo_pv (pv_assign rfl) rfl ?_
    refine q_seq ?_
    refine p_ret rfl ?_
    refine fin_ret () (vs := [_]) (Cs := []) rfl (.tmp rfl .nil) ?_ trivial ent_pick
    show vB _ = vB _
    congr 1
    first
    | exact (decide_eq_false (fun h => h22 h.tags)).symm
    | exact (decide_eq_false (fun h => by have := h.some; have := h.date; omega)).symm
    | exact decide_eq_decide.2 ⟨fun h => ⟨by omega, by omega, h22, h⟩, fun h => h.user⟩
  ·
   refine wo_out (b := false) rfl rfl rfl ?_
   refine wo_out (b := false) rfl rfl rfl ?_
   refine wo_out (b := false) rfl rfl rfl ?_
   refine wo_out (b := false) rfl rfl rfl ?_
   refine wo_pv (pv_pick_f rfl rfl) rfl ?_
   refine wo_pv (pv_move rfl) rfl ?_
   refine wo_out (b := false) rfl rfl rfl ?_
   refine wo_out (b := false) rfl rfl rfl ?_
   refine wo_out (b := false) rfl rfl rfl ?_
   refine wo_pv (pv_pick_f rfl rfl) rfl ?_
   refine wo_pv (pv_move rfl) rfl ?_
   refine wo_out (b := false) rfl rfl rfl ?_
   refine wo_out (b := false) rfl rfl rfl ?_
   refine wo_out (b := false) rfl rfl rfl ?_
   refine wo_pv (pv_pick_f rfl rfl) rfl ?_
   refine wo_pv (pv_assign rfl) rfl ?_
   refine q_seq ?_
   refine p_ret rfl ?_
   refine fin_ret () (vs := [_]) (Cs := []) rfl (.tmp rfl .nil) ?_ trivial ent_pick
   show vB _ = vB _
   congr 1
   first
   | exact (decide_eq_false (fun h => h22 h.tags)).symm
   | exact (decide_eq_false (fun h => by have := h.some; have := h.date; omega)).symm
   | exact decide_eq_decide.2 ⟨fun h => ⟨by omega, by omega, h22, h⟩, fun h => h.user⟩
 ·
  refine wo_out (b := false) rfl rfl rfl ?_
  refine wo_out (b := false) rfl rfl rfl ?_
  refine wo_out (b := false) rfl rfl rfl ?_
  refine wo_pv (pv_pick_f rfl rfl) rfl ?_
  refine wo_pv (pv_move rfl) rfl ?_
  refine wo_out (b := false) rfl rfl rfl ?_
  refine wo_out (b := false) rfl rfl rfl ?_
  refine wo_out (b := false) rfl rfl rfl ?_
  refine wo_out (b := false) rfl rfl rfl ?_
  refine wo_pv (pv_pick_f rfl rfl) rfl ?_
  refine wo_pv (pv_move rfl) rfl ?_
  refine wo_out (b := false) rfl rfl rfl ?_
  refine wo_out (b := false) rfl rfl rfl ?_
  refine wo_out (b := false) rfl rfl rfl ?_
  refine wo_pv (pv_pick_f rfl rfl) rfl ?_
  refine wo_pv (pv_move rfl) rfl ?_
  refine wo_out (b := false) rfl rfl rfl ?_
  refine wo_out (b := false) rfl rfl rfl ?_
  refine wo_out (b := false) rfl rfl rfl ?_
  refine wo_pv (pv_pick_f rfl rfl) rfl ?_
  refine wo_pv (pv_assign rfl) rfl ?_
  refine q_seq ?_
  refine p_ret rfl ?_
  refine fin_ret () (vs := [_]) (Cs := []) rfl (.tmp rfl .nil) ?_ trivial ent_pick
  show vB _ = vB _
  congr 1
  first
  | exact (decide_eq_false (fun h => h22 h.tags)).symm
  | exact (decide_eq_false (fun h => by have := h.some; have := h.date; omega)).symm
  | exact decide_eq_decide.2 ⟨fun h => ⟨by omega, by omega, h22, h⟩, fun h => h.user⟩
def prCt (c : Ct) : Bs := if RightCt c then ctB c else []
set_option maxHeartbeats 2000000 in
theorem control_Print_sp {Bt : HP} (ta : Option Addr) (tc : Nat) (c : Ct) (zu : c.user.length ≤ 1099511627) (zt : TgZ c.tags) (sht : SlA Bt ta (c.tags.flatMap tgCells)) :
    Sp1 Tryz.prog 30 [.agg (ctVals ta tc c).toArray] [Bt] (vS (prCt c)) [Bt] := by
 have hRt := control_Right_sp ta tc c zu zt sht
 have hTC := checkin_TagCards_sp c.tags.length tc c.tags sht rfl zt
 refine Sp.body (n := 26) Tryz.call30 Tryz.func30 rfl rfl rfl ?_
 refine p_seq rfl ?_
 refine p_region rfl ?_
 refine wo_box (vs := [_, _, _]) rfl rfl rfl (fun b1 => ?_)
 refine wo_pv (pv_assign rfl) rfl ?_
 refine q_seq ?_
 refine p_seq rfl ?_
 refine p_seq rfl ?_
 refine p_region rfl ?_
 refine r_loada (vs := [_, _, _]) Tryz.underlying54 rfl ti54 rfl (by exact Nat.le_of_ble_eq_true rfl) (by rfl) rfl ?_
 refine r_call1 hRt rfl rfl rfl ?_
 refine wo_pv (by first | exact pv_notd rfl | exact pv_not rfl) rfl ?_
 refine q_seq ?_
 first | refine p_ite rfl rfl (fun h6 => ?_) (fun h6 => ?_) | refine p_cond rfl rfl (fun h6 => ?_) (fun h6 => ?_)
 ·
  refine p_seq rfl ?_
  refine p_region rfl ?_
  refine wo_pv (pv_assign rfl) rfl ?_
  refine q_seq ?_
  refine p_ret rfl ?_
  refine t_seq_ret ?_
  have hn : ¬ RightCt c := by simpa using h6
  refine fin_ret () (vs := [_]) (Cs := []) rfl (.tmp rfl .nil) ?_ trivial ent_pick
  rw [prCt, if_neg hn]; rfl
 ·
  have hR : RightCt c := by simpa using h6
  have hsz := ct_small hR
  have htl := hR.tags.len
  have hDec : SpF Tryz.prog 78 [vI c.date] (vS (decN c.date.toNat)) := by
   have h1 := hR.date
   have := digit_Dec_sp c.date.toNat (by omega)
   rwa [Int.toNat_of_nonneg h1.1] at this
  refine p_skip rfl ?_
  refine t_seq ?_
  refine p_seq rfl ?_
  refine p_region rfl ?_
  refine wo_pv (pv_fieldAddrk Tryz.underlying54 rfl ti3 rfl rfl (k := 0) rfl (by first | exact Nat.zero_add _ | exact Nat.add_zero _ | exact rfl)) rfl ?_
  refine r_load Tryz.underlying3 rfl rfl rfl rfl ?_
  refine r_callF hDec rfl rfl rfl ?_
  refine r_buildSliceL [_] (cs := [_]) Tryz.underlying27 ti9 rfl rfl rfl rfl rfl rfl rfl rfl (fun b10 => ?_)
  refine wo_pv (pv_buildS (vs := [_, _]) Tryz.underlying133 ti133 rfl rfl rfl rfl rfl) rfl ?_
  refine r_buildSliceL [_] (cs := [_, _]) Tryz.underlying119 ti133 rfl rfl rfl rfl rfl rfl rfl rfl (fun b12 => ?_)
  refine wo_frzC b10 ?_
  refine wo_ent' (ent_cdm_one (a := some ⟨b10, 0, none⟩) (c := 1) 68 [decN c.date.toNat] [vS (decN c.date.toNat)] HasC.get rfl (Nat.le_refl _)) ?_
  refine wo_ent' (ent_row (k := 1) (cap := 1) (sz := 2) (e := 133) (g := b12) (xs := ([⟨68, some ⟨b10, 0, none⟩, 1, [decN c.date.toNat]⟩] : List CdV).flatMap CdV.cells) (cur := [vU 68, .slice (some ⟨b10, 0, none⟩) 1 1]) (Nat.le_refl _) (by simp [maxLen]) rfl rfl rfl) ?_
  obtain ⟨ds, hds⟩ : ∃ ds : List CdV, ds = [⟨68, some ⟨b10, 0, none⟩, 1, [decN c.date.toNat]⟩] := ⟨_, rfl⟩
  rw [← hds]
  refine wo_pv (pv_assign rfl) rfl ?_
  refine q_seq ?_
  refine p_seq rfl ?_
  refine p_region rfl ?_
  refine wo_pv (pv_move rfl) rfl ?_
  refine wo_pv (pv_fieldAddrk Tryz.underlying54 rfl ti28 rfl rfl (k := 1) rfl (by first | exact Nat.zero_add _ | exact Nat.add_zero _ | exact rfl)) rfl ?_
  refine r_load Tryz.underlying28 rfl rfl rfl rfl ?_
  refine r_callX hTC rfl rfl rfl (fun x16 hx16 => ?_)
  obtain ⟨⟨ga, gc⟩, tqs⟩ := x16
  dsimp only [cardV, cardH] at hx16 ⊢
  have htq := cdsLen hx16
  rw [List.length_map] at htq
  refine r_appendA (sz := 2) (bytes := 32) Tryz.underlying119 ti133 rfl rfl rfl rfl rfl rfl rfl (cells_len tqs) (cells_one tqs) (by omega) (by simp only [maxLen]; omega) rfl (fun a17 c17 => ?_)
  refine wo_pv (pv_assign rfl) rfl ?_
  refine q_seq ?_
  refine p_seq rfl ?_
  refine p_region rfl ?_
  refine wo_pv (pv_move rfl) rfl ?_
  refine wo_pv (pv_fieldAddrk Tryz.underlying54 rfl ti9 rfl rfl (k := 2) rfl (by first | exact Nat.zero_add _ | exact Nat.add_zero _ | exact rfl)) rfl ?_
  refine r_load Tryz.underlying9 rfl rfl rfl rfl ?_
  refine r_buildSliceL [_] (cs := [_]) Tryz.underlying27 ti9 rfl rfl rfl rfl rfl rfl rfl rfl (fun b21 => ?_)
  refine wo_pv (pv_buildS (vs := [_, _]) Tryz.underlying133 ti133 rfl rfl rfl rfl rfl) rfl ?_
  refine r_buildSliceL [_] (cs := [_, _]) Tryz.underlying119 ti133 rfl rfl rfl rfl rfl rfl rfl rfl (fun b23 => ?_)
  refine r_append1 (sz := 2) (bytes := 32) Tryz.underlying119 ti133 rfl rfl rfl rfl rfl rfl rfl (by rfl) (by rfl) (by omega) (by simp only [maxLen]; omega) rfl (fun a24 c24 => ?_)
  refine wo_frzC b21 ?_
  obtain ⟨al, hal⟩ : ∃ al : List CdV, al = ds ++ tqs ++ [⟨85, some ⟨b21, 0, none⟩, 1, [c.user]⟩] := ⟨_, rfl⟩
  have halc : cdsOf al = ctCards c := by rw [hal, cdsOf_app, cdsOf_app, hx16, hds, ctCards]; simp [cdsOf, CdV.cd]
  have hall : al.length = 1 + tqs.length + 1 := by rw [hal, hds]; simp; omega
  have hxx : ds.flatMap CdV.cells ++ tqs.flatMap CdV.cells ++ [vU 85, .slice (some ⟨b21, 0, none⟩) 1 1] = al.flatMap CdV.cells := by rw [hal]; simp [CdV.cells]
  have hPr := card_Print_sp (B := Row 133 2 (.slice a24 (1 + tqs.length + 1) c24) (1 + tqs.length + 1) (ds.flatMap CdV.cells ++ tqs.flatMap CdV.cells ++ [vU 85, .slice (some ⟨b21, 0, none⟩) 1 1])) (a := a24) (1 + tqs.length + 1) c24 al (by rw [← hxx]; exact sla_row) hall (by rw [halc]; omega)
  rw [show (vS (prB (cdsOf al))) = vS (prCt c) from by rw [prCt, if_pos hR, prB, halc, if_pos (rightCt_cards hR)]; rfl] at hPr
  refine wo_ent' (ent_cdm_app (qs := ds) (rs := tqs) HasC.get HasC.get) ?_
  refine wo_ent' (ent_cdm_new (qs := ds ++ tqs) (a := some ⟨b21, 0, none⟩) (c := 1) 85 [c.user] [vS c.user] HasC.get HasC.get rfl (Nat.le_refl _)) ?_
  rw [← hal]
  refine r_call1 hPr rfl rfl rfl ?_
  refine wo_pv (pv_assign rfl) rfl ?_
  refine q_seq ?_
  refine p_ret rfl ?_
  exact fin_ret () (vs := [_]) (Cs := []) rfl (.tmp rfl .nil) rfl trivial ent_pick
theorem ctLoop_le {N : Nat} : ∀ (l : List Cd) (st : Int × Bs), st.2.length ≤ N → (∀ c ∈ l, ∀ a ∈ c.args, a.length ≤ N) → (ctLoop l st).2.length ≤ N := by
 intro l
 induction l with
 | nil => intro st h _; exact h
 | cons x r ih =>
   intro st h hz
   have hr := fun c hc => hz c (List.mem_cons_of_mem x hc)
   simp only [ctLoop]
   split
   · exact h
   · rename_i hx
     have h0 : (x.args.getD 0 []).length ≤ N := hz x (by simp) _ (by
      have hp : 0 < x.args.length := by omega
      simp [hp])
     split
     · split
       · exact ih _ h hr
       · exact h
     · split
       · exact ih _ h0 hr
       · exact ih _ h hr
theorem ctLoop_step {l : List Cd} {j : Nat} (h : j < l.length) (st : Int × Bs) : ctLoop (l.drop j) st = (if (l.getD j cd0).args.length = 0 then st
    else if (l.getD j cd0).l.toNat = 68 then (match readDec ((l.getD j cd0).args.getD 0 []) with | some n => ctLoop (l.drop (j + 1)) ((n : Int), st.2) | none => (0, st.2))
    else if (l.getD j cd0).l.toNat = 85 then ctLoop (l.drop (j + 1)) (st.1, (l.getD j cd0).args.getD 0 []) else ctLoop (l.drop (j + 1)) st) := by
 have e : l.drop j = l.getD j cd0 :: l.drop (j + 1) := by
  rw [List.drop_eq_getElem_cons h]; simp [h]
 rw [e, ctLoop]
 rfl
def prgCtC (l : List Cd) : Ct := ⟨(ctLoop l (0, [])).1, (readT (argsOf 84 l)).getD [], (ctLoop l (0, [])).2⟩
theorem reads_prgCt {s : Bs} {l : List Cd} (hl : ReadsC s l) {c : Ct} (h : ReadsCt s c) : (readT (argsOf 84 l)).isSome = true ∧ c = prgCtC l := by
 have e : prgCt l = some c := by rw [hl.uniq h.reads]; exact prgCt_cards h.1
 unfold prgCt at e
 cases e2 : readT (argsOf 84 l) with
 | none => rw [e2] at e; cases e
 | some t => rw [e2] at e; cases e; rw [prgCtC, e2]; exact ⟨rfl, rfl⟩
abbrev ctH (x : (Option Addr × Nat) × Ct) : List HP := [Row 66 4 (.slice x.1.1 x.2.tags.length x.1.2) x.2.tags.length (x.2.tags.flatMap tgCells)]
set_option maxHeartbeats 4000000 in
theorem control_Read_sp (s : Bs) (hs : s.length ≤ 1073741824) : Sp Tryz.prog 24 [vS s] [] (X := (Option Addr × Nat) × Ct) (fun x => .tuple #[.agg (ctVals x.1.1 x.1.2 x.2).toArray, vB (readCt s).isSome]) (fun x => x.2 = (readCt s).getD ct0) ctH := by
 refine Sp.body (n := 67) Tryz.call24 Tryz.func24 rfl rfl rfl ?_
 refine p_seq rfl ?_
 refine p_region rfl ?_
 refine wo_alloc (zs := [.int .i64 0, .slice none 0 0, vS []]) ti54 rfl rfl rfl (fun b2 => ?_)
 refine wo_pv (pv_assign rfl) rfl ?_
 refine q_seq ?_
 refine p_scope2 rfl ?_
 refine p_seq rfl ?_
 refine p_region rfl ?_
 refine wo_alloc (zs := [.int .i64 0, .slice none 0 0, vS []]) ti54 rfl rfl rfl (fun b4 => ?_)
 refine q_seq ?_
 refine p_seq rfl ?_
 refine p_region rfl ?_
 refine wo_pv (pv_move rfl) rfl ?_
 refine r_callX (card_Read_sp s hs) rfl rfl rfl (fun x12 hx12 => ?_)
 obtain ⟨⟨ca, cc⟩, qs⟩ := x12
 dsimp only [cardV, cardH] at hx12 ⊢
 refine wo_pv (pv_move rfl) rfl ?_
 refine wo_pv (pv_extract (v := .slice ca qs.length cc) rfl rfl) rfl ?_
 refine wo_pv (pv_extract (v := vB (readC s).isSome) rfl rfl) rfl ?_
 refine wo_pv (pv_assign rfl) rfl ?_
 refine wo_pv (pv_assign rfl) rfl ?_
 refine q_seq ?_
 refine p_seq rfl ?_
 refine p_seq rfl ?_
 refine p_region rfl ?_
 refine wo_pv (pv_move rfl) rfl ?_
 refine wo_pv (by first | exact pv_notd rfl | exact pv_not rfl) rfl ?_
 refine q_seq ?_
 first | refine p_ite rfl rfl (fun h16 => ?_) (fun h16 => ?_) | refine p_cond rfl rfl (fun h16 => ?_) (fun h16 => ?_)
 ·
  refine p_seq rfl ?_
  refine p_region rfl ?_
  refine r_loada (vs := [_, _, _]) Tryz.underlying54 rfl ti54 rfl (by exact Nat.le_of_ble_eq_true rfl) (by rfl) rfl ?_
  refine r_storea ti54 rfl rfl rfl rfl (by simp; try omega) ?_
  refine wo_pv (pv_assign rfl) rfl ?_
  refine q_seq ?_
  refine p_ret rfl ?_
  refine t_seq_ret ?_
  refine t_scope_ret ?_
  have hn : readCt s = none := the_none fun c h => by
   rw [readC_iff.2 h.reads] at h16; simp at h16
  rw [hn]
  refine fin_ret ((none, 0), ct0) (vs := [_, _]) (Cs := [Ce b2 54 (ctVals none 0 ct0)]) rfl (.cell (l := ctVals none 0 ct0) (us := ctVals none 0 ct0) rfl (shows_ce (T := 54)) Tryz.underlying54 rfl ti54 (by exact Nat.le_of_ble_eq_true rfl) rfl (.tmp rfl .nil)) rfl rfl ?_
  exact (row_nil (e := 66) (sz := 4)).trans (show Ent _ [Row 66 4 (.slice none 0 0) 0 [], Ce b2 54 [vI 0, .slice none 0 0, vS []]] from ent_pick)
 ·
  have hl : readC s = some (cdsOf qs) := by cases e : readC s with
   | none => rw [e] at h16; simp at h16
   | some l => rw [e] at hx12; rw [hx12]; rfl
  have hrd := readC_iff.1 hl
  have hbz : (bodyB (cdsOf qs)).length ≤ 1073741824 := by
   have h1 := congrArg List.length hrd.2
   rw [printB, sealB_len] at h1; omega
  obtain ⟨hqn, hqz⟩ := cds_sizes hbz
  have hz := fun x => argsOf_sizes hbz x
  have hza : ∀ c ∈ cdsOf qs, ∀ a ∈ c.args, a.length ≤ 1073741824 := fun c hc a ha => Nat.le_trans (mem_le_args ha) (Nat.le_trans ((bodyB_args (cdsOf qs)).2 c hc) hbz)
  have hnone : ∀ (h : ∀ c, ReadsCt s c → False), readCt s = none := fun h => the_none h
  have hll : (cdsOf qs).length = qs.length := by simp [cdsOf]
  refine p_skip rfl ?_
  refine t_seq ?_
  refine p_seq rfl ?_
  refine p_region rfl ?_
  refine wo_pv (pv_move rfl) rfl ?_
  refine r_callX (checkin_ReadTags_sp (B := Row 133 2 (.slice ca qs.length cc) qs.length (qs.flatMap CdV.cells)) (a := ca) qs.length cc qs sla_row rfl hbz) rfl rfl rfl (fun x20 hx20 => ?_)
  obtain ⟨⟨ta, tc⟩, ts⟩ := x20
  dsimp only [tagV, tagH] at hx20 ⊢
  refine wo_pv (pv_move rfl) rfl ?_
  refine wo_pv (pv_extract (v := .slice ta ts.length tc) rfl rfl) rfl ?_
  refine wo_pv (pv_extract (v := vB (readT (argsOf 84 (cdsOf qs))).isSome) rfl rfl) rfl ?_
  refine wo_pv (pv_assign rfl) rfl ?_
  refine wo_pv (pv_assign rfl) rfl ?_
  refine q_seq ?_
  refine p_seq rfl ?_
  refine p_seq rfl ?_
  refine p_region rfl ?_
  refine wo_pv (pv_move rfl) rfl ?_
  refine wo_pv (by first | exact pv_notd rfl | exact pv_not rfl) rfl ?_
  refine q_seq ?_
  first | refine p_ite rfl rfl (fun h24 => ?_) (fun h24 => ?_) | refine p_cond rfl rfl (fun h24 => ?_) (fun h24 => ?_)
  ·
   refine p_seq rfl ?_
   refine p_region rfl ?_
   refine r_loada (vs := [_, _, _]) Tryz.underlying54 rfl ti54 rfl (by exact Nat.le_of_ble_eq_true rfl) (by rfl) rfl ?_
   refine r_storea ti54 rfl rfl rfl rfl (by simp; try omega) ?_
   refine wo_pv (pv_assign rfl) rfl ?_
   refine q_seq ?_
   refine p_ret rfl ?_
   refine t_seq_ret ?_
   refine t_scope_ret ?_
   have hn : readCt s = none := hnone fun c h => by
    have o1 := (reads_prgCt hrd h).1
    rw [o1] at h24; exact absurd h24 (by decide)
   rw [hn]
   refine fin_ret ((none, 0), ct0) (vs := [_, _]) (Cs := [Ce b2 54 (ctVals none 0 ct0)]) rfl (.cell (l := ctVals none 0 ct0) (us := ctVals none 0 ct0) rfl (shows_ce (T := 54)) Tryz.underlying54 rfl ti54 (by exact Nat.le_of_ble_eq_true rfl) rfl (.tmp rfl .nil)) rfl rfl ?_
   exact (row_nil (e := 66) (sz := 4)).trans (show Ent _ [Row 66 4 (.slice none 0 0) 0 [], Ce b2 54 [vI 0, .slice none 0 0, vS []]] from ent_pick)
  ·
   refine p_skip rfl ?_
   refine t_seq ?_
   refine p_seq rfl ?_
   refine p_region rfl ?_
   refine wo_pv (pv_move rfl) rfl ?_
   refine wo_pv (pv_fieldAddrk Tryz.underlying54 rfl ti28 rfl rfl (k := 1) rfl (by first | exact Nat.zero_add _ | exact Nat.add_zero _ | exact rfl)) rfl ?_
   refine r_store ti28 rfl rfl rfl rfl (by simp; try omega) ?_
   refine q_seq ?_
   refine p_seq rfl ?_
   refine p_label rfl ?_
   refine t_seq ?_
   refine p_cut (fun (u : Unit) => [(0, vS s), (2, .pointer (some ⟨b2, 0, none⟩)), (4, .pointer (some ⟨b4, 0, none⟩))]) (fun (u : Unit) => [Ce b4 54 [vI (ctLoop (cdsOf qs) (0, [])).1, .slice ta ts.length tc, vS (ctLoop (cdsOf qs) (0, [])).2], Row 66 4 (.slice ta ts.length tc) ts.length (ts.flatMap tgCells), Ce b2 54 [vI 0, .slice none 0 0, vS []]]) rfl (fun u => ?_) ?_
   ·
    try dsimp only
    refine p_seq rfl ?_
    refine p_seq rfl ?_
    refine p_region rfl ?_
    have hTZ : TgZ ts := by
     rw [hx20]
     cases e : readT (argsOf 84 (cdsOf qs)) with
     | none => exact ⟨by simp, fun t ht => by simp at ht⟩
     | some us =>
       obtain ⟨r1, r2⟩ := readT_le (N := 1073741824) (fun xs hx a ha => ((hz 84).2 xs hx).2 a ha) e
       have := (hz 84).1
       exact ⟨by simp only [Option.getD_some]; omega, fun t ht => by have := r2 t ht; omega⟩
    have hul := ctLoop_le (N := 1073741824) (cdsOf qs) (0, []) (by simp) hza
    obtain ⟨pc, hpc⟩ : ∃ pc : Ct, pc = ⟨(ctLoop (cdsOf qs) (0, [])).1, ts, (ctLoop (cdsOf qs) (0, [])).2⟩ := ⟨_, rfl⟩
    have hpe : pc = prgCtC (cdsOf qs) := by rw [hpc, hx20]; rfl
    have hPr := control_Print_sp (Bt := Row 66 4 (.slice ta ts.length tc) ts.length (ts.flatMap tgCells)) ta tc pc (by rw [hpc]; dsimp only; omega) (by rw [hpc]; exact hTZ) (by rw [hpc]; exact sla_row)
    have hcv : (.agg (ctVals ta tc pc).toArray : Value) = .agg #[vI (ctLoop (cdsOf qs) (0, [])).1, .slice ta ts.length tc, vS (ctLoop (cdsOf qs) (0, [])).2] := by rw [hpc]; rfl
    rw [hcv] at hPr
    refine r_loada (vs := [_, _, _]) Tryz.underlying54 rfl ti54 rfl (by exact Nat.le_of_ble_eq_true rfl) (by rfl) rfl ?_
    refine r_call1 hPr rfl rfl rfl ?_
    refine wo_pv (pv_move rfl) rfl ?_
    refine wo_pv (pv_sneq rfl rfl) rfl ?_
    refine q_seq ?_
    first | refine p_ite rfl rfl (fun h64 => ?_) (fun h64 => ?_) | refine p_cond rfl rfl (fun h64 => ?_) (fun h64 => ?_)
    ·
     refine p_seq rfl ?_
     refine p_region rfl ?_
     refine wo_pv (pv_buildS (vs := [.int .i64 0, .slice none 0 0, vS []]) Tryz.underlying54 ti54 rfl rfl rfl rfl rfl) rfl ?_
     refine r_storea ti54 rfl rfl rfl rfl (by simp; try omega) ?_
     refine wo_pv (pv_assign rfl) rfl ?_
     refine q_seq ?_
     refine p_ret rfl ?_
     refine t_seq_ret ?_
     refine t_scope_ret ?_
     have hn : readCt s = none := hnone fun c h => by
      have e := (reads_prgCt hrd h).2
      have e2 : prCt pc = s := by rw [hpe, ← e, prCt, if_pos h.1]; exact h.2
      exact h64 e2
     rw [hn]
     refine fin_ret ((none, 0), ct0) (vs := [_, _]) (Cs := [Ce b2 54 (ctVals none 0 ct0)]) rfl (.cell (l := ctVals none 0 ct0) (us := ctVals none 0 ct0) rfl (shows_ce (T := 54)) Tryz.underlying54 rfl ti54 (by exact Nat.le_of_ble_eq_true rfl) rfl (.tmp rfl .nil)) rfl rfl ?_
     exact (row_nil (e := 66) (sz := 4)).trans (show Ent _ [Row 66 4 (.slice none 0 0) 0 [], Ce b2 54 [vI 0, .slice none 0 0, vS []]] from ent_pick)
    ·
     refine p_skip rfl ?_
     refine t_seq ?_
     refine p_seq rfl ?_
     refine p_region rfl ?_
     refine r_loada (vs := [_, _, _]) Tryz.underlying54 rfl ti54 rfl (by exact Nat.le_of_ble_eq_true rfl) (by rfl) rfl ?_
     refine r_storea ti54 rfl rfl rfl rfl (by simp; try omega) ?_
     refine wo_pv (pv_assign rfl) rfl ?_
     refine q_seq ?_
     refine p_ret rfl ?_
     refine t_scope_ret ?_
     have he : prCt pc = s := Classical.not_not.1 h64
     have hk : readCt s = some pc := readCt_iff.2 (by
      rw [prCt] at he
      split at he
      · rename_i hR; exact ⟨hR, he⟩
      · have := (reads_len hrd).1
        rw [← he] at this; simp at this)
     rw [hk]
     refine fin_ret ((ta, tc), pc) (vs := [_, _]) (Cs := [Ce b2 54 [vI (ctLoop (cdsOf qs) (0, [])).1, .slice ta ts.length tc, vS (ctLoop (cdsOf qs) (0, [])).2]]) rfl (.cell (l := [vI (ctLoop (cdsOf qs) (0, [])).1, .slice ta ts.length tc, vS (ctLoop (cdsOf qs) (0, [])).2]) rfl (shows_ce (T := 54)) Tryz.underlying54 rfl ti54 (by exact Nat.le_of_ble_eq_true rfl) rfl (.tmp rfl .nil)) ?_ rfl ?_
     · show Value.tuple #[_, _] = Value.tuple #[_, _]
       rw [hcv]; rfl
     · rw [hpc]
       exact ent_pick
   ·
    refine p_seq rfl ?_
    refine p_region rfl ?_
    refine wo_pv (pv_move rfl) rfl ?_
    refine wo_pv (pv_call_len_sl Tryz.underlying119 rfl) rfl ?_
    refine wo_pv (pv_move rfl) rfl ?_
    refine q_seq ?_
    refine p_block 0 rfl ?_
    refine p_loop (fun (i : { x : Nat × Int × Bs // x.1 ≤ qs.length ∧ ctLoop ((cdsOf qs).drop x.1) x.2 = ctLoop (cdsOf qs) (0, []) }) => [(0, vS s), (2, .pointer (some ⟨b2, 0, none⟩)), (4, .pointer (some ⟨b4, 0, none⟩)), (28, .slice ca qs.length cc), (29, vI qs.length), (30, vI i.1.1)]) (fun (i : { x : Nat × Int × Bs // x.1 ≤ qs.length ∧ ctLoop ((cdsOf qs).drop x.1) x.2 = ctLoop (cdsOf qs) (0, []) }) => [Ce b4 54 [vI i.1.2.1, .slice ta ts.length tc, vS i.1.2.2], Row 66 4 (.slice ta ts.length tc) ts.length (ts.flatMap tgCells), Ce b2 54 [vI 0, .slice none 0 0, vS []], Row 133 2 (.slice ca qs.length cc) qs.length (qs.flatMap CdV.cells), CdM qs]) (fun (i : { x : Nat × Int × Bs // x.1 ≤ qs.length ∧ ctLoop ((cdsOf qs).drop x.1) x.2 = ctLoop (cdsOf qs) (0, []) }) => qs.length - i.1.1) rfl (⟨(0, 0, []), Nat.zero_le _, rfl⟩) ?_ ?_ (fun i => ?_)
    · exact ⟨rfl, rfl, rfl, rfl, rfl, rfl, trivial⟩
    ·
     exact ent_pick
    obtain ⟨⟨j, day, user⟩, hj, hlp⟩ := i
    dsimp only at hj hlp ⊢
    try dsimp only
    refine p_seq rfl ?_
    refine p_region rfl ?_
    refine wo_pv (pv_lss rfl rfl) rfl ?_
    refine q_seq ?_
    refine p_seq rfl ?_
    first | refine p_ite rfl rfl (fun h31 => ?_) (fun h31 => ?_) | refine p_cond rfl rfl (fun h31 => ?_) (fun h31 => ?_)
    ·
     refine p_skip rfl ?_
     refine t_seq ?_
     refine p_seq rfl ?_
     refine p_block 1 rfl ?_
     refine p_seq rfl ?_
     have hjl : j < qs.length := by omega
     have hst := ctLoop_step (l := cdsOf qs) (j := j) (by omega) (day, user)
     rw [hlp, cds_getD hjl] at hst
     have hqm : qs[j] ∈ qs := List.getElem_mem hjl
     obtain ⟨q, hq⟩ : ∃ q, q = qs[j] := ⟨_, rfl⟩
     rw [← hq] at hst hqm
     have hqzz := hqz q hqm
     have hq0 : ∀ i, i < q.args.length → (q.args.getD i []).length ≤ 1073741824 := fun i hi => Nat.le_trans (mem_le_args (by simp [hi])) hqzz.1
     rw [show q.cd.args = q.args from rfl, show q.cd.l = q.l from rfl] at hst
     dsimp only at hst
     refine wc_ent' (ent_cd hqm HasC.get) ?_
     refine p_region rfl ?_
     refine r_elemAddr (sz := 2) Tryz.underlying119 ti133 rfl rfl rfl rfl (by omega) (by first | (rw [List.length_map]; omega) | (rw [flat_len (sz := 2) (fun _ => rfl)]; omega) | (simp; omega)) rfl rfl ?_
     refine r_eloada (vs := [_, _]) (sz := 2) Tryz.underlying133 rfl ti133 rfl rfl (by rw [flat_len (sz := 2) (fun _ => rfl)]; omega) rfl (by refine get_flat (fun x => ?_) ?_ <;> first | rfl | omega) rfl ?_
     rw [← hq]
     refine wo_alloc (zs := [.int .u8 0, .slice none 0 0]) ti133 rfl rfl rfl (fun b9 => ?_)
     refine r_storea ti133 rfl rfl rfl rfl (by simp; try omega) ?_
     refine q_seq ?_
     refine p_seq rfl ?_
     refine p_seq rfl ?_
     refine p_region rfl ?_
     refine wo_pv (pv_fieldAddrk Tryz.underlying133 rfl ti27 rfl rfl (k := 1) rfl (by first | exact Nat.zero_add _ | exact Nat.add_zero _ | exact rfl)) rfl ?_
     refine r_load Tryz.underlying27 rfl rfl rfl rfl ?_
     refine wo_pv (pv_call_len_sl Tryz.underlying27 rfl) rfl ?_
     refine wo_pv (pv_eql rfl rfl) rfl ?_
     refine q_seq ?_
     first | refine p_ite rfl rfl (fun h37 => ?_) (fun h37 => ?_) | refine p_cond rfl rfl (fun h37 => ?_) (fun h37 => ?_)
     ·
      refine p_exit 0 rfl ?_
      refine t_seq_exit ?_
      refine to_block_other rfl ?_
      refine t_seq_exit ?_
      refine to_inv_exit ?_
      refine to_block_here ?_
      first
      | (have hjl : j = qs.length := by omega
         rw [List.drop_of_length_le (by omega)] at hlp
         have e : ctLoop (cdsOf qs) (0, []) = (day, user) := hlp.symm
         rw [e]
         exact to_inv () trivial ⟨rfl, rfl, rfl, trivial⟩ (ent_step (ce_norm (by rfl) (by rfl)) ent_pick))
      | (rw [if_pos (by omega)] at hst
         rw [hst]
         exact to_inv () trivial ⟨rfl, rfl, rfl, trivial⟩ (ent_step (ce_norm (by rfl) (by rfl)) ent_pick))
      | (have hn : readDec (q.args.getD 0 []) = none := by cases e : readDec (q.args.getD 0 []) with
           | none => rfl
           | some v => rw [e] at h52; simp at h52
         rw [hn] at hst
         rw [hn]
         dsimp only at hst
         rw [hst]
         exact to_inv () trivial ⟨rfl, rfl, rfl, trivial⟩ (ent_step (ce_norm (by rfl) (by rfl)) ent_pick))
     ·
      refine p_skip rfl ?_
      refine t_seq ?_
      refine p_seq rfl ?_
      refine p_region rfl ?_
      refine wo_pv (pv_fieldAddrk Tryz.underlying133 rfl ti5 rfl rfl (k := 0) rfl (by first | exact Nat.zero_add _ | exact Nat.add_zero _ | exact rfl)) rfl ?_
      refine r_load Tryz.underlying5 rfl rfl rfl rfl ?_
      refine q_seq ?_
      refine p_block 2 rfl ?_
      refine p_seq rfl ?_
      refine p_region rfl ?_
      refine wo_pv (pv_eql rfl rfl) rfl ?_
      refine wo_pv (pv_assign rfl) rfl ?_
      refine q_seq ?_
      first | refine p_ite rfl rfl (fun h40 => ?_) (fun h40 => ?_) | refine p_cond rfl rfl (fun h40 => ?_) (fun h40 => ?_)
      ·
       refine p_seq rfl ?_
       refine p_region rfl ?_
       refine wo_pv (pv_fieldAddrk Tryz.underlying133 rfl ti27 rfl rfl (k := 1) rfl (by first | exact Nat.zero_add _ | exact Nat.add_zero _ | exact rfl)) rfl ?_
       refine r_load Tryz.underlying27 rfl rfl rfl rfl ?_
       refine r_elemAddr (m := 0) (sz := 1) Tryz.underlying27 ti9 rfl rfl rfl rfl (by omega) (by first | (rw [List.length_map]; omega) | (rw [flat_len (sz := 1) (fun _ => rfl)]; omega) | (simp; omega)) (Nat.mul_one _) rfl ?_
       refine r_eload Tryz.underlying9 rfl rfl (get_mapD [] (m := 0) (by omega)) rfl ?_
       have hq00 := hq0 0 (by omega)
       rw [if_neg (by omega), if_pos (by omega)] at hst
       refine r_callF (digit_ReadDec_sp _ (by omega)) rfl rfl rfl ?_
       refine wo_pv (pv_move rfl) rfl ?_
       refine wo_pv (pv_extract (v := vI (((readDec (q.args.getD 0 [])).getD 0 : Nat) : Int)) rfl rfl) rfl ?_
       refine wo_pv (pv_extract (v := vB (readDec (q.args.getD 0 [])).isSome) rfl rfl) rfl ?_
       refine wo_pv (pv_fieldAddrk Tryz.underlying54 rfl ti3 rfl rfl (k := 0) rfl (by first | exact Nat.zero_add _ | exact Nat.add_zero _ | exact rfl)) rfl ?_
       refine r_store ti3 rfl rfl rfl rfl (by simp; try omega) ?_
       refine wo_pv (pv_assign rfl) rfl ?_
       refine q_seq ?_
       refine p_seq rfl ?_
       refine p_region rfl ?_
       refine wo_pv (pv_move rfl) rfl ?_
       refine wo_pv (by first | exact pv_notd rfl | exact pv_not rfl) rfl ?_
       refine q_seq ?_
       first | refine p_ite rfl rfl (fun h52 => ?_) (fun h52 => ?_) | refine p_cond rfl rfl (fun h52 => ?_) (fun h52 => ?_)
       ·
        refine p_exit 0 rfl ?_
        refine to_block_other rfl ?_
        refine to_block_other rfl ?_
        refine t_seq_exit ?_
        refine to_inv_exit ?_
        refine to_block_here ?_
        first
        | (have hjl : j = qs.length := by omega
           rw [List.drop_of_length_le (by omega)] at hlp
           have e : ctLoop (cdsOf qs) (0, []) = (day, user) := hlp.symm
           rw [e]
           exact to_inv () trivial ⟨rfl, rfl, rfl, trivial⟩ (ent_step (ce_norm (by rfl) (by rfl)) ent_pick))
        | (rw [if_pos (by omega)] at hst
           rw [hst]
           exact to_inv () trivial ⟨rfl, rfl, rfl, trivial⟩ (ent_step (ce_norm (by rfl) (by rfl)) ent_pick))
        | (have hn : readDec (q.args.getD 0 []) = none := by cases e : readDec (q.args.getD 0 []) with
             | none => rfl
             | some v => rw [e] at h52; simp at h52
           rw [hn] at hst
           rw [hn]
           dsimp only at hst
           rw [hst]
           exact to_inv () trivial ⟨rfl, rfl, rfl, trivial⟩ (ent_step (ce_norm (by rfl) (by rfl)) ent_pick))
       ·
        refine p_skip rfl ?_
        refine to_block ?_
        refine to_block ?_
        refine t_seq ?_
        refine p_region rfl ?_
        refine wo_pv (pv_add rfl rfl (by omega)) rfl ?_
        refine wo_pv (pv_move rfl) rfl ?_
        refine wo_nil ?_
        first
        | (obtain ⟨v, hv⟩ : ∃ v, readDec (q.args.getD 0 []) = some v := by cases e : readDec (q.args.getD 0 []) with
             | none => rw [e] at h52; simp at h52
             | some v => exact ⟨v, rfl⟩
           rw [hv] at hst
           rw [hv]
           dsimp only at hst
           exact to_inv ⟨(j + 1, (v : Int), user), by dsimp only; omega, hst.symm⟩ (by dsimp only; omega) ⟨rfl, rfl, rfl, rfl, rfl, rfl, trivial⟩ (ent_step (ce_norm (by rfl) (by rfl)) ent_pick))
        | exact to_inv ⟨(j + 1, day, q.args.getD 0 []), by dsimp only; omega, hst.symm⟩ (by dsimp only; omega) ⟨rfl, rfl, rfl, rfl, rfl, rfl, trivial⟩ ent_pick
        | exact to_inv ⟨(j + 1, day, user), by dsimp only; omega, hst.symm⟩ (by dsimp only; omega) ⟨rfl, rfl, rfl, rfl, rfl, rfl, trivial⟩ ent_pick
      ·
       refine p_seq rfl ?_
       refine p_region rfl ?_
       refine wo_pv (pv_eql rfl rfl) rfl ?_
       refine wo_pv (pv_assign rfl) rfl ?_
       refine q_seq ?_
       first | refine p_ite rfl rfl (fun h53 => ?_) (fun h53 => ?_) | refine p_cond rfl rfl (fun h53 => ?_) (fun h53 => ?_)
       ·
        refine p_region rfl ?_
        refine wo_pv (pv_fieldAddrk Tryz.underlying133 rfl ti27 rfl rfl (k := 1) rfl (by first | exact Nat.zero_add _ | exact Nat.add_zero _ | exact rfl)) rfl ?_
        refine r_load Tryz.underlying27 rfl rfl rfl rfl ?_
        refine r_elemAddr (m := 0) (sz := 1) Tryz.underlying27 ti9 rfl rfl rfl rfl (by omega) (by first | (rw [List.length_map]; omega) | (rw [flat_len (sz := 1) (fun _ => rfl)]; omega) | (simp; omega)) (Nat.mul_one _) rfl ?_
        refine r_eload Tryz.underlying9 rfl rfl (get_mapD [] (m := 0) (by omega)) rfl ?_
        rw [if_neg (by omega), if_neg (by omega), if_pos (by omega)] at hst
        refine wo_pv (pv_fieldAddrk Tryz.underlying54 rfl ti9 rfl rfl (k := 2) rfl (by first | exact Nat.zero_add _ | exact Nat.add_zero _ | exact rfl)) rfl ?_
        refine r_store ti9 rfl rfl rfl rfl (by simp; try omega) ?_
        refine wo_nil ?_
        refine to_block ?_
        refine to_block ?_
        refine t_seq ?_
        refine p_region rfl ?_
        refine wo_pv (pv_add rfl rfl (by omega)) rfl ?_
        refine wo_pv (pv_move rfl) rfl ?_
        refine wo_nil ?_
        first
        | (obtain ⟨v, hv⟩ : ∃ v, readDec (q.args.getD 0 []) = some v := by cases e : readDec (q.args.getD 0 []) with
             | none => rw [e] at h52; simp at h52
             | some v => exact ⟨v, rfl⟩
           rw [hv] at hst
           rw [hv]
           dsimp only at hst
           exact to_inv ⟨(j + 1, (v : Int), user), by dsimp only; omega, hst.symm⟩ (by dsimp only; omega) ⟨rfl, rfl, rfl, rfl, rfl, rfl, trivial⟩ (ent_step (ce_norm (by rfl) (by rfl)) ent_pick))
        | exact to_inv ⟨(j + 1, day, q.args.getD 0 []), by dsimp only; omega, hst.symm⟩ (by dsimp only; omega) ⟨rfl, rfl, rfl, rfl, rfl, rfl, trivial⟩ ent_pick
        | exact to_inv ⟨(j + 1, day, user), by dsimp only; omega, hst.symm⟩ (by dsimp only; omega) ⟨rfl, rfl, rfl, rfl, rfl, rfl, trivial⟩ ent_pick
       ·
        rw [if_neg (by omega), if_neg (by omega), if_neg (by omega)] at hst
        refine p_skip rfl ?_
        refine to_block ?_
        refine to_block ?_
        refine t_seq ?_
        refine p_region rfl ?_
        refine wo_pv (pv_add rfl rfl (by omega)) rfl ?_
        refine wo_pv (pv_move rfl) rfl ?_
        refine wo_nil ?_
        first
        | (obtain ⟨v, hv⟩ : ∃ v, readDec (q.args.getD 0 []) = some v := by cases e : readDec (q.args.getD 0 []) with
             | none => rw [e] at h52; simp at h52
             | some v => exact ⟨v, rfl⟩
           rw [hv] at hst
           rw [hv]
           dsimp only at hst
           exact to_inv ⟨(j + 1, (v : Int), user), by dsimp only; omega, hst.symm⟩ (by dsimp only; omega) ⟨rfl, rfl, rfl, rfl, rfl, rfl, trivial⟩ (ent_step (ce_norm (by rfl) (by rfl)) ent_pick))
        | exact to_inv ⟨(j + 1, day, q.args.getD 0 []), by dsimp only; omega, hst.symm⟩ (by dsimp only; omega) ⟨rfl, rfl, rfl, rfl, rfl, rfl, trivial⟩ ent_pick
        | exact to_inv ⟨(j + 1, day, user), by dsimp only; omega, hst.symm⟩ (by dsimp only; omega) ⟨rfl, rfl, rfl, rfl, rfl, rfl, trivial⟩ ent_pick
    ·
     refine p_exit 0 rfl ?_
     refine t_seq_exit ?_
     refine to_inv_exit ?_
     refine to_block_here ?_
     first
     | (have hjl : j = qs.length := by omega
        rw [List.drop_of_length_le (by omega)] at hlp
        have e : ctLoop (cdsOf qs) (0, []) = (day, user) := hlp.symm
        rw [e]
        exact to_inv () trivial ⟨rfl, rfl, rfl, trivial⟩ (ent_step (ce_norm (by rfl) (by rfl)) ent_pick))
     | (rw [if_pos (by omega)] at hst
        rw [hst]
        exact to_inv () trivial ⟨rfl, rfl, rfl, trivial⟩ (ent_step (ce_norm (by rfl) (by rfl)) ent_pick))
     | (have hn : readDec (q.args.getD 0 []) = none := by cases e : readDec (q.args.getD 0 []) with
          | none => rfl
          | some v => rw [e] at h52; simp at h52
        rw [hn] at hst
        rw [hn]
        dsimp only at hst
        rw [hst]
        exact to_inv () trivial ⟨rfl, rfl, rfl, trivial⟩ (ent_step (ce_norm (by rfl) (by rfl)) ent_pick))
end Go.Proofs.YtibccdcemcgkeaaGreat
end
