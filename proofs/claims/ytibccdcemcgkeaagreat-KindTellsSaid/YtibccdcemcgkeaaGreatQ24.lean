/- Texts of this proof, put together: SR10i, SR10j. -/
import Derived.Test.YtibccdcemcgkeaaGreatQ23
set_option linter.unusedVariables false
set_option linter.unusedSimpArgs false
namespace Go.Proofs.YtibccdcemcgkeaaGreat
section
set_option maxRecDepth 100000
section
variable {r : Option Nat} {P : Program} {n : Nat} {ops : Array Oper} {A : List HP} {L : Loc} {Hs : List HP}
theorem an_ent {K : Loc → List HP → Prop} {o : Oper} {Gs : List HP} (hg : o.guard = none) (e : Ent Hs Gs) (k : AnOp r P n ops A o K L Gs) : AnOp r P n ops A o K L Hs := by
 obtain ⟨h, ⟨j, w, u, e1, _⟩ | ⟨g, X, val, φ, As, Rs, Bs, e2, t, k2⟩⟩ := k
 · rw [hg] at e1; cases e1
 · exact ⟨h, .inr ⟨g, X, val, φ, As, Rs, Bs, e.trans e2, t, k2⟩⟩
end
theorem zb111ret1 {G : Prop} (h : G := by
    refine fin_ret () (vs := [_]) (Cs := []) rfl (.tmp rfl .nil) ?_ trivial ent_pick
    show vB _ = vB _
    congr 1
    first
    | exact (decide_eq_false (fun h => by have := h.some; have := h.date; omega)).symm
    | exact (decide_eq_false (fun h => h16 h.user)).symm
    | exact decide_eq_decide.2 ⟨fun h => ⟨by omega, by omega, h, h16⟩, fun h => h.tags⟩) : G := h
set_option maxHeartbeats 1000000 in
theorem ref10_RightControl_sp {Bt : HP} (ta : Option Addr) (tc : Nat) (c : Ct) (zu : c.user.length ≤ 1099511627) (zt : TgZ c.tags) (sht : SlA Bt ta (c.tags.flatMap tgCells)) :
    Sp1 Tryz.prog 111 [.agg (ctVals ta tc c).toArray] [Bt] (vB (decide (RightCt c))) [Bt] := by
 have hT := ref10_rightOps_sp false c.tags.length tc c.tags sht rfl zt.n (fun t ht => by have := zt.z t ht; omega)
 refine Sp.body (n := 27) Tryz.call111 Tryz.func111 rfl rfl rfl ?_
 refine Qc (k:=Zx [_, _, _] (k:=fun b1 => Vv (k:=Wq (Qc (k:=Qx 0 3 (k:=Qv (k:=Gi 3 (t:=fun h6 => ?_) (f:=fun h6 => ?_))))))))
 ·
  refine I1 (k:=Vf 0 3 (k:=I1 (k:=Zd (k:=J1 (k:=P1 (k:=Vv (k:=Gi 8 (t:=fun h11 => ?_) (f:=fun h11 => ?_))))))))
  ·
   refine I1 (k:=Vf 2 9 (k:=I1 (k:=Zd (k:=I1 (k:=?_)))))
   refine r_callF (ref10_Word_sp c.user (by omega)) rfl rfl rfl ?_
   refine P1 (k:=Vv (k:=Gi 13 (t:=fun h16 => ?_) (f:=fun h16 => ?_)))
   ·
    refine I1 (k:=Vf 1 28 (k:=I1 (k:=Zd (k:=J1 (k:=J1 (k:=P1 (k:=Vv (k:=Gi 19 (t:=fun h22 => ?_) (f:=fun h22 => ?_)))))))))
    ·
     refine I1 (k:=Vf 1 28 (k:=I1 (k:=Zd (k:=I1 (k:=?_)))))
     refine r_call1 hT rfl rfl rfl ?_
     refine P1 (k:=Vv (k:=Wq (Zt (k:=?_))))
     exact zb111ret1
    ·
     refine O0 (k:=O0 (k:=O0 (k:=P0 (k:=Vv (k:=Wq (Zt (k:=?_)))))))
     exact zb111ret1
   ·
    refine O0 (k:=O0 (k:=O0 (k:=O0 (k:=P0 (k:=Vv (k:=O0 (k:=O0 (k:=O0 (k:=P0 (k:=Vv (k:=Wq ?_)))))))))))
    refine Zt (k:=?_)
    exact zb111ret1
  ·
   refine O0 (k:=O0 (k:=O0 (k:=P0 (k:=Vv (k:=O0 (k:=O0 (k:=O0 (k:=O0 (k:=P0 (k:=Vv (k:=O0 (k:=?_))))))))))))
   refine O0 (k:=O0 (k:=P0 (k:=Vv (k:=Wq (Zt (k:=?_))))))
   exact zb111ret1
 ·
  refine O0 (k:=O0 (k:=O0 (k:=P0 (k:=Vv (k:=O0 (k:=O0 (k:=O0 (k:=P0 (k:=Vv (k:=O0 (k:=O0 (k:=?_))))))))))))
  refine O0 (k:=O0 (k:=P0 (k:=Vv (k:=O0 (k:=O0 (k:=O0 (k:=P0 (k:=Vv (k:=Wq (Zt (k:=?_)))))))))))
  exact zb111ret1
theorem zb58ret2 {G : Prop} (h : G := by exact fin_ret () (vs := [_]) (Cs := []) rfl (.tmp rfl .nil) rfl trivial ent_pick) : G := h
set_option maxHeartbeats 2000000 in
theorem ref10_Control_sp {Bt : HP} (ta : Option Addr) (tc : Nat) (c : Ct) (zt : TgZ c.tags) (hd : 0 ≤ c.date ∧ c.date ≤ 1073741824) (hz : (bodyB (ctCards c)).length ≤ 1073741824) (sht : SlA Bt ta (c.tags.flatMap tgCells)) :
    Sp1 Tryz.prog 58 [.agg (ctVals ta tc c).toArray] [Bt] (vS (ctB c)) [Bt] := by
 have hTC := ref10_ops_sp c.tags.length tc c.tags sht rfl zt
 have hcl := (bodyB_ge (ctCards c)).1
 have hcn : (ctCards c).length = c.tags.length + 2 := by simp [ctCards]
 have hDec : SpF Tryz.prog 50 [vI c.date] (vS (decN c.date.toNat)) := by
  have := ref1_Dec_sp c.date.toNat (by omega)
  rwa [Int.toNat_of_nonneg hd.1] at this
 refine Sp.body (n := 22) Tryz.call58 Tryz.func58 rfl rfl rfl ?_
 refine Qc (k:=Zx [_, _, _] (k:=fun b1 => Vv (k:=Wq (Za (k:=Dw [Ce b1 54 [vI c.date, .slice ta c.tags.length tc, vS c.user]] (k:=?_))))))
 refine Di 0 (t:=Uf 0 3) (k:=Di 1 (t:=Ul) (k:=Di 6 (t:=Uf 1 28) (k:=Di 7 (t:=Ul) (k:=Dn 2 (k:=?_)))))
 refine an_callF hDec rfl rfl rfl ?_
 refine d_next2 3 8 (by kernel_rfl) rfl rfl ?_ ?_
 ·
  refine Nl [_] (cs := [_]) (k:=fun b7 => Di 4 (t:=Ux (Ps [_, _])) (k:=?_))
  refine d_next2 5 8 (by kernel_rfl) rfl rfl ?_ ?_
  ·
   refine Nl [_] (cs := [_, _]) (k:=fun b9 => Dn 8 (k:=?_))
   refine an_callX hTC rfl rfl rfl (fun x12 hx12 => ?_)
   refine Dn 9 (k:=?_)
   obtain ⟨⟨oa, oc⟩, tqs⟩ := x12
   dsimp only [cardV] at hx12 ⊢
   have htq := cdsLen hx12
   rw [List.length_map] at htq
   obtain ⟨ds, hds⟩ : ∃ ds : List CdV, ds = [⟨68, some ⟨b7, 0, none⟩, 1, [decN c.date.toNat]⟩] := ⟨_, rfl⟩
   have hdf : [vU 68, .slice (some ⟨b7, 0, none⟩) 1 1] = ds.flatMap CdV.cells := by rw [hds]; rfl
   refine an_ent rfl (ent_row (k := 1) (cap := 1) (sz := 2) (e := 109) (g := b9) (xs := ds.flatMap CdV.cells) (cur := [vU 68, .slice (some ⟨b7, 0, none⟩) 1 1]) (Nat.le_refl _) (by simp [maxLen]) rfl (by rw [← hdf]; rfl) (by rw [← hdf]; rfl)) ?_
   refine an_appendA (sz := 2) (bytes := 32) Tryz.underlying107 ti109 rfl rfl rfl rfl rfl rfl rfl (cells_len tqs) (cells_one tqs) (by omega) (by simp only [maxLen]; omega) rfl (fun a13 c13 => ?_)
   refine Dv 10 (k:=Dd (k:=Ya (Qc (k:=Vv (k:=Qx 2 9 (k:=Zv [_] (cs := [_]) (k:=fun b17 => Vx (Ps [_, _]) (k:=Zv [_] (cs := [_, _]) (k:=fun b19 => ?_)))))))))
   refine r_append1 (sz := 2) (bytes := 32) Tryz.underlying107 ti109 rfl rfl rfl rfl rfl rfl rfl (by rfl) (by rfl) (by omega) (by simp only [maxLen]; omega) rfl (fun a20 c20 => ?_)
   refine wo_frzC b7 ?_
   refine wo_frzC b17 ?_
   obtain ⟨al, hal⟩ : ∃ al : List CdV, al = ds ++ tqs ++ [⟨85, some ⟨b17, 0, none⟩, 1, [c.user]⟩] := ⟨_, rfl⟩
   have halc : cdsOf al = ctCards c := by rw [hal, cdsOf_app, cdsOf_app, hx12, hds, ctCards]; simp [cdsOf, CdV.cd]
   have hall : al.length = 1 + tqs.length + 1 := by rw [hal, hds]; simp; omega
   have hxx : ds.flatMap CdV.cells ++ tqs.flatMap CdV.cells ++ [vU 85, .slice (some ⟨b17, 0, none⟩) 1 1] = al.flatMap CdV.cells := by rw [hal]; simp [CdV.cells]
   have hPr := ref10_Print_sp (B := Row 109 2 (.slice a20 (1 + tqs.length + 1) c20) (1 + tqs.length + 1) (ds.flatMap CdV.cells ++ tqs.flatMap CdV.cells ++ [vU 85, .slice (some ⟨b17, 0, none⟩) 1 1])) (a := a20) (1 + tqs.length + 1) c20 al (by rw [← hxx]; exact sla_row) hall (by rw [halc]; omega)
   rw [halc] at hPr
   refine wo_ent' (ent_cdm_one (a := some ⟨b7, 0, none⟩) (c := 1) 68 [decN c.date.toNat] [vS (decN c.date.toNat)] HasC.get rfl (Nat.le_refl _)) ?_
   rw [← hds]
   refine wo_ent' (ent_cdm_app (qs := ds) (rs := tqs) HasC.get HasC.get) ?_
   refine wo_ent' (ent_cdm_new (qs := ds ++ tqs) (a := some ⟨b17, 0, none⟩) (c := 1) 85 [c.user] [vS c.user] HasC.get HasC.get rfl (Nat.le_refl _)) ?_
   rw [← hal]
   refine r_call1 hPr rfl rfl rfl ?_
   refine Vv (k:=Wq (Zt (k:=?_)))
   exact zb58ret2
  ·
   refine an_callX hTC rfl rfl rfl (fun x12 hx12 => ?_)
   refine Dn 5 (k:=Nl [_] (cs := [_, _]) (k:=fun b9 => Dn 9 (k:=?_)))
   obtain ⟨⟨oa, oc⟩, tqs⟩ := x12
   dsimp only [cardV] at hx12 ⊢
   have htq := cdsLen hx12
   rw [List.length_map] at htq
   obtain ⟨ds, hds⟩ : ∃ ds : List CdV, ds = [⟨68, some ⟨b7, 0, none⟩, 1, [decN c.date.toNat]⟩] := ⟨_, rfl⟩
   have hdf : [vU 68, .slice (some ⟨b7, 0, none⟩) 1 1] = ds.flatMap CdV.cells := by rw [hds]; rfl
   refine an_ent rfl (ent_row (k := 1) (cap := 1) (sz := 2) (e := 109) (g := b9) (xs := ds.flatMap CdV.cells) (cur := [vU 68, .slice (some ⟨b7, 0, none⟩) 1 1]) (Nat.le_refl _) (by simp [maxLen]) rfl (by rw [← hdf]; rfl) (by rw [← hdf]; rfl)) ?_
   refine an_appendA (sz := 2) (bytes := 32) Tryz.underlying107 ti109 rfl rfl rfl rfl rfl rfl rfl (cells_len tqs) (cells_one tqs) (by omega) (by simp only [maxLen]; omega) rfl (fun a13 c13 => ?_)
   refine Dv 10 (k:=Dd (k:=Ya (Qc (k:=Vv (k:=Qx 2 9 (k:=Zv [_] (cs := [_]) (k:=fun b17 => Vx (Ps [_, _]) (k:=Zv [_] (cs := [_, _]) (k:=fun b19 => ?_)))))))))
   refine r_append1 (sz := 2) (bytes := 32) Tryz.underlying107 ti109 rfl rfl rfl rfl rfl rfl rfl (by rfl) (by rfl) (by omega) (by simp only [maxLen]; omega) rfl (fun a20 c20 => ?_)
   refine wo_frzC b7 ?_
   refine wo_frzC b17 ?_
   obtain ⟨al, hal⟩ : ∃ al : List CdV, al = ds ++ tqs ++ [⟨85, some ⟨b17, 0, none⟩, 1, [c.user]⟩] := ⟨_, rfl⟩
   have halc : cdsOf al = ctCards c := by rw [hal, cdsOf_app, cdsOf_app, hx12, hds, ctCards]; simp [cdsOf, CdV.cd]
   have hall : al.length = 1 + tqs.length + 1 := by rw [hal, hds]; simp; omega
   have hxx : ds.flatMap CdV.cells ++ tqs.flatMap CdV.cells ++ [vU 85, .slice (some ⟨b17, 0, none⟩) 1 1] = al.flatMap CdV.cells := by rw [hal]; simp [CdV.cells]
   have hPr := ref10_Print_sp (B := Row 109 2 (.slice a20 (1 + tqs.length + 1) c20) (1 + tqs.length + 1) (ds.flatMap CdV.cells ++ tqs.flatMap CdV.cells ++ [vU 85, .slice (some ⟨b17, 0, none⟩) 1 1])) (a := a20) (1 + tqs.length + 1) c20 al (by rw [← hxx]; exact sla_row) hall (by rw [halc]; omega)
   rw [halc] at hPr
   refine wo_ent' (ent_cdm_one (a := some ⟨b7, 0, none⟩) (c := 1) 68 [decN c.date.toNat] [vS (decN c.date.toNat)] HasC.get rfl (Nat.le_refl _)) ?_
   rw [← hds]
   refine wo_ent' (ent_cdm_app (qs := ds) (rs := tqs) HasC.get HasC.get) ?_
   refine wo_ent' (ent_cdm_new (qs := ds ++ tqs) (a := some ⟨b17, 0, none⟩) (c := 1) 85 [c.user] [vS c.user] HasC.get HasC.get rfl (Nat.le_refl _)) ?_
   rw [← hal]
   refine r_call1 hPr rfl rfl rfl ?_
   refine Vv (k:=Wq (Zt (k:=?_)))
   exact zb58ret2
 ·
  refine an_callX hTC rfl rfl rfl (fun x12 hx12 => ?_)
  refine Dn 3 (k:=Nl [_] (cs := [_]) (k:=fun b7 => Di 4 (t:=Ux (Ps [_, _])) (k:=Dn 5 (k:=Nl [_] (cs := [_, _]) (k:=fun b9 => Dn 9 (k:=?_))))))
  obtain ⟨⟨oa, oc⟩, tqs⟩ := x12
  dsimp only [cardV] at hx12 ⊢
  have htq := cdsLen hx12
  rw [List.length_map] at htq
  obtain ⟨ds, hds⟩ : ∃ ds : List CdV, ds = [⟨68, some ⟨b7, 0, none⟩, 1, [decN c.date.toNat]⟩] := ⟨_, rfl⟩
  have hdf : [vU 68, .slice (some ⟨b7, 0, none⟩) 1 1] = ds.flatMap CdV.cells := by rw [hds]; rfl
  refine an_ent rfl (ent_row (k := 1) (cap := 1) (sz := 2) (e := 109) (g := b9) (xs := ds.flatMap CdV.cells) (cur := [vU 68, .slice (some ⟨b7, 0, none⟩) 1 1]) (Nat.le_refl _) (by simp [maxLen]) rfl (by rw [← hdf]; rfl) (by rw [← hdf]; rfl)) ?_
  refine an_appendA (sz := 2) (bytes := 32) Tryz.underlying107 ti109 rfl rfl rfl rfl rfl rfl rfl (cells_len tqs) (cells_one tqs) (by omega) (by simp only [maxLen]; omega) rfl (fun a13 c13 => ?_)
  refine Dv 10 (k:=Dd (k:=Ya (Qc (k:=Vv (k:=Qx 2 9 (k:=Zv [_] (cs := [_]) (k:=fun b17 => Vx (Ps [_, _]) (k:=Zv [_] (cs := [_, _]) (k:=fun b19 => ?_)))))))))
  refine r_append1 (sz := 2) (bytes := 32) Tryz.underlying107 ti109 rfl rfl rfl rfl rfl rfl rfl (by rfl) (by rfl) (by omega) (by simp only [maxLen]; omega) rfl (fun a20 c20 => ?_)
  refine wo_frzC b7 ?_
  refine wo_frzC b17 ?_
  obtain ⟨al, hal⟩ : ∃ al : List CdV, al = ds ++ tqs ++ [⟨85, some ⟨b17, 0, none⟩, 1, [c.user]⟩] := ⟨_, rfl⟩
  have halc : cdsOf al = ctCards c := by rw [hal, cdsOf_app, cdsOf_app, hx12, hds, ctCards]; simp [cdsOf, CdV.cd]
  have hall : al.length = 1 + tqs.length + 1 := by rw [hal, hds]; simp; omega
  have hxx : ds.flatMap CdV.cells ++ tqs.flatMap CdV.cells ++ [vU 85, .slice (some ⟨b17, 0, none⟩) 1 1] = al.flatMap CdV.cells := by rw [hal]; simp [CdV.cells]
  have hPr := ref10_Print_sp (B := Row 109 2 (.slice a20 (1 + tqs.length + 1) c20) (1 + tqs.length + 1) (ds.flatMap CdV.cells ++ tqs.flatMap CdV.cells ++ [vU 85, .slice (some ⟨b17, 0, none⟩) 1 1])) (a := a20) (1 + tqs.length + 1) c20 al (by rw [← hxx]; exact sla_row) hall (by rw [halc]; omega)
  rw [halc] at hPr
  refine wo_ent' (ent_cdm_one (a := some ⟨b7, 0, none⟩) (c := 1) 68 [decN c.date.toNat] [vS (decN c.date.toNat)] HasC.get rfl (Nat.le_refl _)) ?_
  rw [← hds]
  refine wo_ent' (ent_cdm_app (qs := ds) (rs := tqs) HasC.get HasC.get) ?_
  refine wo_ent' (ent_cdm_new (qs := ds ++ tqs) (a := some ⟨b17, 0, none⟩) (c := 1) 85 [c.user] [vS c.user] HasC.get HasC.get rfl (Nat.le_refl _)) ?_
  rw [← hal]
  refine r_call1 hPr rfl rfl rfl ?_
  refine Vv (k:=Wq (Zt (k:=?_)))
  exact zb58ret2
theorem refCt_no {s : Bs} {l : List Cd} (h : readC s = some l) (h2 : refCt l = none) : readCt s = none := the_none fun c hc => by
 have e := hc.reads.uniq (readC_iff.1 h)
 rw [← e, refCt_cards hc.1] at h2; cases h2
theorem refCt_no2 {s : Bs} {l : List Cd} {c : Ct} (h : readC s = some l) (h2 : refCt l = some c) (h3 : ¬ (RightCt c ∧ ctB c = s)) : readCt s = none := the_none fun k hc => by
 have e := hc.reads.uniq (readC_iff.1 h)
 rw [← e, refCt_cards hc.1] at h2; cases h2
 exact h3 hc
theorem zb63ret3 {G : Prop} (h : G := by
    first
    | (have h16' : (!(readC s).isSome) = true := h16
       have hn : readCt s = none := the_none fun c h => by rw [readC_iff.2 h.reads] at h16'; simp at h16'
       rw [hn]
       refine fin_ret ((none, 0), ct0) (vs := [_, _]) (Cs := [Ce b2 54 (ctVals none 0 ct0)]) rfl (.cell (l := ctVals none 0 ct0) (us := ctVals none 0 ct0) rfl (shows_ce (T := 54)) Tryz.underlying54 rfl ti54 (by exact Nat.le_of_ble_eq_true rfl) rfl (.tmp rfl .nil)) rfl rfl ?_
       exact (row_nil (e := 66) (sz := 4)).trans (show Ent _ [Row 66 4 (.slice none 0 0) 0 [], Ce b2 54 [vI 0, .slice none 0 0, vS []]] from ent_pick))
    | (have hn : readCt s = none := refCt_no hl (hrc.trans (if_pos (by omega)))
       rw [hn]
       refine fin_ret ((none, 0), ct0) (vs := [_, _]) (Cs := [Ce b2 54 (ctVals none 0 ct0)]) rfl (.cell (l := ctVals none 0 ct0) (us := ctVals none 0 ct0) rfl (shows_ce (T := 54)) Tryz.underlying54 rfl ti54 (by exact Nat.le_of_ble_eq_true rfl) rfl (.tmp rfl .nil)) rfl rfl ?_
       exact (row_nil (e := 66) (sz := 4)).trans (show Ent _ [Row 66 4 (.slice none 0 0) 0 [], Ce b2 54 [vI 0, .slice none 0 0, vS []]] from ent_pick))
    | (have hn : readCt s = none := refCt_no hl (by unfold refCt; rw [hll]; exact if_pos (.inl (by omega)))
       rw [hn]
       refine fin_ret ((none, 0), ct0) (vs := [_, _]) (Cs := [Ce b2 54 (ctVals none 0 ct0)]) rfl (.cell (l := ctVals none 0 ct0) (us := ctVals none 0 ct0) rfl (shows_ce (T := 54)) Tryz.underlying54 rfl ti54 (by exact Nat.le_of_ble_eq_true rfl) rfl (.tmp rfl .nil)) rfl rfl ?_
       exact (row_nil (e := 66) (sz := 4)).trans (show Ent _ [Row 66 4 (.slice none 0 0) 0 [], Ce b2 54 [vI 0, .slice none 0 0, vS []]] from ent_pick))) : G := h
theorem zb63ret7 {G : Prop} (h : G := by
    have hn : readCt s = none := by
     first
     | (have h83' : (!(readT (argsOf 84 (cdsOf qs))).isSome) = true := h83
        refine refCt_no hl ?_
        rw [hrc]
        cases e : readT (argsOf 84 (cdsOf qs)) with
        | none => rfl
        | some us => rw [e] at h83'; simp at h83')
     | exact refCt_no2 hl hrk (fun h => h88 h.1)
     | exact refCt_no2 hl hrk (fun h => h93 h.2)
    rw [hn]
    refine fin_ret ((none, 0), ct0) (vs := [_, _]) (Cs := [Ce b2 54 (ctVals none 0 ct0)]) rfl (.cell (l := ctVals none 0 ct0) (us := ctVals none 0 ct0) rfl (shows_ce (T := 54)) Tryz.underlying54 rfl ti54 (by exact Nat.le_of_ble_eq_true rfl) rfl (.tmp rfl .nil)) rfl rfl ?_
    exact (row_nil (e := 66) (sz := 4)).trans (show Ent _ [Row 66 4 (.slice none 0 0) 0 [], Ce b2 54 [vI 0, .slice none 0 0, vS []]] from ent_pick)) : G := h
theorem zb63ret8 {G : Prop} (h : G := by
    have hk : readCt s = some c := readCt_iff.2 ⟨hR, Classical.not_not.1 h93⟩
    rw [hk]
    refine fin_ret ((ta, tc), c) (vs := [_, _]) (Cs := [Ce b2 54 (ctVals ta tc c)]) rfl (.cell (l := ctVals ta tc c) (us := ctVals ta tc c) rfl (shows_ce (T := 54)) Tryz.underlying54 rfl ti54 (by exact Nat.le_of_ble_eq_true rfl) rfl (.tmp rfl .nil)) rfl rfl ?_
    exact (show Ent _ [Row 66 4 (.slice ta c.tags.length tc) c.tags.length (c.tags.flatMap tgCells), Ce b2 54 [vI c.date, .slice ta c.tags.length tc, vS c.user]] from ent_pick)) : G := h
set_option maxHeartbeats 4000000 in
theorem ref10_ReadControl_sp (s : Bs) (hs : s.length ≤ 1073741824) : Sp Tryz.prog 63 [vS s] [] (X := (Option Addr × Nat) × Ct) (fun x => .tuple #[.agg (ctVals x.1.1 x.1.2 x.2).toArray, vB (readCt s).isSome]) (fun x => x.2 = (readCt s).getD ct0) ctH := by
 refine Sp.body (n := 96) Tryz.call63 Tryz.func63 rfl rfl rfl ?_
 refine Qc (k:=Zc [.int .i64 0, .slice none 0 0, vS []] (k:=fun b2 => Vv (k:=Wq (Qc (k:=Vv (k:=?_))))))
 refine r_callX (ref10_Cards_sp s hs) rfl rfl rfl (fun x11 hx11 => ?_)
 obtain ⟨⟨ca, cc⟩, qs⟩ := x11
 dsimp only [cardV, rcardH] at hx11 ⊢
 refine Vv (k:=?_)
 refine wo_pv (pv_extract (v := .slice ca qs.length cc) rfl rfl) rfl ?_
 refine wo_pv (pv_extract (v := vB (readC s).isSome) rfl rfl) rfl ?_
 refine Qv (k:=Wq (Za (k:=Qc (k:=Qv (k:=Vv (k:=Gi 2 (t:=fun h16 => ?_) (f:=fun h16 => ?_)))))))
 ·
  refine O1 (k:=O1 (k:=O1 (k:=P1 (k:=Vv (k:=O1 (k:=O1 (k:=O1 (k:=O1 (k:=O1 (k:=P1 (k:=Vv (k:=?_))))))))))))
  refine O1 (k:=O1 (k:=O1 (k:=O1 (k:=O1 (k:=O1 (k:=P1 (k:=Vv (k:=O1 (k:=O1 (k:=O1 (k:=O1 (k:=?_))))))))))))
  refine O1 (k:=O1 (k:=O1 (k:=O1 (k:=P1 (k:=Vv (k:=O1 (k:=O1 (k:=O1 (k:=O1 (k:=O1 (k:=O1 (k:=?_))))))))))))
  refine O1 (k:=O1 (k:=O1 (k:=P1 (k:=Wq (Z1 (k:=Qc (k:=Vx (Ps [.int .i64 0, .slice none 0 0, vS []]) (k:=Zp (k:=Vv (k:=Wq ?_))))))))))
  refine Zt (k:=Va ?_)
  exact zb63ret3
 ·
  have hl : readC s = some (cdsOf qs) := by cases e : readC s with
   | none => rw [e] at h16; simp at h16
   | some l => rw [e] at hx11; rw [hx11]; rfl
  have hrd := readC_iff.1 hl
  have hne := readC_argOk hl
  have hbz : (bodyB (cdsOf qs)).length ≤ 1073741824 := by
   have h1 := congrArg List.length hrd.2
   rw [printB, sealB_len] at h1; omega
  obtain ⟨hqn, hqz⟩ := cds_sizes hbz
  have hz := fun x => argsOf_sizes hbz x
  have hll : (cdsOf qs).length = qs.length := by simp [cdsOf]
  have hrc : refCt (cdsOf qs) = if (cdsOf qs).length < 3 ∨ ((cdsOf qs).getD 0 cd0).l.toNat ≠ 68 ∨ ((cdsOf qs).getD 0 cd0).args.length ≠ 1 ∨ ((cdsOf qs).getD ((cdsOf qs).length - 1) cd0).l.toNat ≠ 85 ∨ ((cdsOf qs).getD ((cdsOf qs).length - 1) cd0).args.length ≠ 1 then none
   else (readT (argsOf 84 (cdsOf qs))).map fun t => ⟨rdI (((cdsOf qs).getD 0 cd0).args.getD 0 []), t, ((cdsOf qs).getD ((cdsOf qs).length - 1) cd0).args.getD 0 []⟩ := rfl
  rw [hll] at hrc
  refine J0 (k:=J0 (k:=J0 (k:=P0 (k:=Vv (k:=Gi 7 (t:=fun h21 => ?_) (f:=fun h21 => ?_))))))
  ·
   refine O1 (k:=O1 (k:=O1 (k:=O1 (k:=O1 (k:=P1 (k:=Vv (k:=O1 (k:=O1 (k:=O1 (k:=O1 (k:=O1 (k:=?_))))))))))))
   refine O1 (k:=P1 (k:=Vv (k:=O1 (k:=O1 (k:=O1 (k:=O1 (k:=O1 (k:=O1 (k:=O1 (k:=O1 (k:=P1 (k:=?_))))))))))))
   refine Vv (k:=O1 (k:=O1 (k:=O1 (k:=O1 (k:=O1 (k:=O1 (k:=O1 (k:=O1 (k:=O1 (k:=P1 (k:=Wq ?_)))))))))))
   refine Z1 (k:=Qc (k:=Vx (Ps [.int .i64 0, .slice none 0 0, vS []]) (k:=Zp (k:=Vv (k:=Wq (Zt (k:=Va ?_)))))))
   exact zb63ret3
  ·
   have hfl := cells_len qs
   have h0l : 0 < qs.length := by omega
   have hel : qs.length - 1 < qs.length := by omega
   rw [cds_getD h0l, cds_getD hel] at hrc
   dsimp only [CdV.cd] at hrc
   refine J0 (k:=I0 (k:=?_))
   refine r_elemAddr (sz := 2) (m := 0) (kk := 2 * (0)) Tryz.underlying107 ti109 rfl rfl rfl (by omega) (by omega) (by omega) (Nat.mul_comm _ _) rfl ?_
   refine I0 (k:=?_)
   refine r_efield (kk := 2 * (0)) Tryz.underlying109 rfl ti5 rfl rfl rfl rfl (by omega) rfl ?_
   refine I0 (k:=?_)
   refine r_eload Tryz.underlying5 rfl rfl (cdget h0l).1 rfl ?_
   refine J0 (k:=P0 (k:=Vv (k:=Gi 14 (t:=fun h28 => ?_) (f:=fun h28 => ?_))))
   ·
    refine O1 (k:=O1 (k:=O1 (k:=O1 (k:=O1 (k:=O1 (k:=P1 (k:=Vv (k:=O1 (k:=O1 (k:=O1 (k:=O1 (k:=?_))))))))))))
    refine O1 (k:=O1 (k:=O1 (k:=O1 (k:=P1 (k:=Vv (k:=O1 (k:=O1 (k:=O1 (k:=O1 (k:=O1 (k:=O1 (k:=?_))))))))))))
    refine O1 (k:=O1 (k:=O1 (k:=P1 (k:=Wq (Z1 (k:=Qc (k:=Vx (Ps [.int .i64 0, .slice none 0 0, vS []]) (k:=Zp (k:=Vv (k:=Wq ?_))))))))))
    refine Zt (k:=Va ?_)
    exact zb63ret3
   ·
    refine J0 (k:=I0 (k:=?_))
    refine r_elemAddr (sz := 2) (m := 0) (kk := 2 * (0)) Tryz.underlying107 ti109 rfl rfl rfl (by omega) (by omega) (by omega) (Nat.mul_comm _ _) rfl ?_
    refine I0 (k:=?_)
    refine r_efield (kk := 2 * (0) + 1) Tryz.underlying109 rfl ti27 rfl rfl rfl rfl (by omega) rfl ?_
    refine I0 (k:=?_)
    refine r_eload Tryz.underlying27 rfl rfl (cdget h0l).2 rfl ?_
    refine J0 (k:=J0 (k:=P0 (k:=Vv (k:=Gi 22 (t:=fun h36 => ?_) (f:=fun h36 => ?_)))))
    ·
     refine O1 (k:=O1 (k:=O1 (k:=O1 (k:=O1 (k:=O1 (k:=O1 (k:=O1 (k:=P1 (k:=Vv (k:=O1 (k:=O1 (k:=?_))))))))))))
     refine O1 (k:=O1 (k:=O1 (k:=O1 (k:=O1 (k:=O1 (k:=O1 (k:=P1 (k:=Wq (Z1 (k:=Qc (k:=?_)))))))))))
     refine Vx (Ps [.int .i64 0, .slice none 0 0, vS []]) (k:=Zp (k:=Vv (k:=Wq (Zt (k:=Va ?_)))))
     exact zb63ret3
    ·
     refine J0 (k:=J0 (k:=J0 (k:=J0 (k:=I0 (k:=?_)))))
     refine r_elemAddr (sz := 2) (m := qs.length - 1) (kk := 2 * (qs.length - 1)) Tryz.underlying107 ti109 rfl rfl rfl (by omega) (by omega) (by omega) (Nat.mul_comm _ _) rfl ?_
     refine I0 (k:=?_)
     refine r_efield (kk := 2 * (qs.length - 1)) Tryz.underlying109 rfl ti5 rfl rfl rfl rfl (by omega) rfl ?_
     refine I0 (k:=?_)
     refine r_eload Tryz.underlying5 rfl rfl (cdget hel).1 rfl ?_
     refine J0 (k:=P0 (k:=Vv (k:=Gi 32 (t:=fun h46 => ?_) (f:=fun h46 => ?_))))
     ·
      refine O1 (k:=O1 (k:=O1 (k:=O1 (k:=O1 (k:=O1 (k:=O1 (k:=O1 (k:=O1 (k:=P1 (k:=Wq (Z1 (k:=?_))))))))))))
      refine Qc (k:=Vx (Ps [.int .i64 0, .slice none 0 0, vS []]) (k:=Zp (k:=Vv (k:=Wq (Zt (k:=Va ?_))))))
      exact zb63ret3
     ·
      refine J0 (k:=J0 (k:=J0 (k:=J0 (k:=I0 (k:=?_)))))
      refine r_elemAddr (sz := 2) (m := qs.length - 1) (kk := 2 * (qs.length - 1)) Tryz.underlying107 ti109 rfl rfl rfl (by omega) (by omega) (by omega) (Nat.mul_comm _ _) rfl ?_
      refine I0 (k:=?_)
      refine r_efield (kk := 2 * (qs.length - 1) + 1) Tryz.underlying109 rfl ti27 rfl rfl rfl rfl (by omega) rfl ?_
      refine I0 (k:=?_)
      refine r_eload Tryz.underlying27 rfl rfl (cdget hel).2 rfl ?_
      refine J0 (k:=J0 (k:=P0 (k:=Wq (Zi (t:=fun h56 => ?_) (f:=fun h56 => ?_)))))
      ·
       refine Qc (k:=Vx (Ps [.int .i64 0, .slice none 0 0, vS []]) (k:=Zp (k:=Vv (k:=Wq (Zt (k:=Va ?_))))))
       exact zb63ret3
      ·
       refine Zk (k:=Ya (Za (k:=?_)))
       replace hrc := hrc.trans (if_neg (by omega))
       have hq0z := hqz qs[0] (List.getElem_mem h0l)
       have hqez := hqz qs[qs.length - 1] (List.getElem_mem hel)
       refine Zr (k:=Vv (k:=?_))
       refine r_callX (ref10_readOps_sp (B := Row 109 2 (.slice ca qs.length cc) qs.length (qs.flatMap CdV.cells)) (a := ca) qs.length cc qs sla_row rfl hbz) rfl rfl rfl (fun x60 hx60 => ?_)
       obtain ⟨⟨ta, tc⟩, ts⟩ := x60
       dsimp only [tagV, tagH] at hx60 ⊢
       refine Vv (k:=?_)
       refine wo_pv (pv_extract (v := .slice ta ts.length tc) rfl rfl) rfl ?_
       refine wo_pv (pv_extract (v := vB (readT (argsOf 84 (cdsOf qs))).isSome) rfl rfl) rfl ?_
       refine Qv (k:=Wq (Za (k:=?_)))
       refine wc_ent' (ent_cd (List.getElem_mem h0l) HasC.get) ?_
       refine wc_ent' (ent_cd (List.getElem_mem hel) HasC.get) ?_
       have hgz : ∀ q : CdV, (argsB q.args).length ≤ 1073741824 → (q.args.getD 0 []).length ≤ 1073741824 := by
        intro q hq
        by_cases hi : 0 < q.args.length
        · have h1 := argsB_len q.args
          have h2 := sumL_succ (l := q.args) hi
          have h3 := sumL_le (l := q.args) (j := 0 + 1)
          omega
        · simp [List.eq_nil_of_length_eq_zero (show q.args.length = 0 by omega)]
       have hg0 := hgz _ hq0z.1
       have hge := hgz _ hqez.1
       refine Dw [Row 109 2 (.slice ca qs.length cc) qs.length (qs.flatMap CdV.cells), SlI (qs[0]'h0l).a ((qs[0]'h0l).args.map vS), SlI (qs[qs.length - 1]'hel).a ((qs[qs.length - 1]'hel).args.map vS)] (k:=?_)
       refine Dv 0 (k:=?_)
       refine d_first 1 rfl rfl rfl (by kernel_rfl) (by kernel_rfl) (tl_elemAddr (sz := 2) (m := 0) (kk := 2 * (0)) Tryz.underlying107 ti109 rfl rfl rfl (by omega) (by omega) (by omega) (Nat.mul_comm _ _)) ?_
       refine d_first 2 rfl rfl rfl (by kernel_rfl) (by kernel_rfl) (tl_efield (kk := 2 * (0) + 1) Tryz.underlying109 rfl ti27 rfl rfl rfl rfl (by omega)) ?_
       refine d_first 3 rfl rfl rfl (by kernel_rfl) (by kernel_rfl) (tl_eload Tryz.underlying27 rfl rfl (cdget h0l).2) ?_
       refine d_first 4 rfl rfl rfl (by kernel_rfl) (by kernel_rfl) (tl_elemAddr (m := 0) (sz := 1) Tryz.underlying27 ti9 rfl rfl rfl rfl (by omega) (by first | (rw [List.length_map]; omega) | (rw [flat_len (sz := 1) (fun _ => rfl)]; omega) | (simp; omega)) (Nat.mul_one _)) ?_
       refine d_first 5 rfl rfl rfl (by kernel_rfl) (by kernel_rfl) (tl_eload Tryz.underlying9 rfl rfl (get_mapD [] (m := 0) (by omega))) ?_
       refine Dv 7 (k:=Dv 8 (k:=Dv 9 (k:=Dv 10 (k:=Dv 11 (k:=?_)))))
       refine d_first 12 rfl rfl rfl (by kernel_rfl) (by kernel_rfl) (tl_elemAddr (sz := 2) (m := qs.length - 1) (kk := 2 * (qs.length - 1)) Tryz.underlying107 ti109 rfl rfl rfl (by omega) (by omega) (by omega) (Nat.mul_comm _ _)) ?_
       refine d_first 13 rfl rfl rfl (by kernel_rfl) (by kernel_rfl) (tl_efield (kk := 2 * (qs.length - 1) + 1) Tryz.underlying109 rfl ti27 rfl rfl rfl rfl (by omega)) ?_
       refine d_first 14 rfl rfl rfl (by kernel_rfl) (by kernel_rfl) (tl_eload Tryz.underlying27 rfl rfl (cdget hel).2) ?_
       refine d_first 15 rfl rfl rfl (by kernel_rfl) (by kernel_rfl) (tl_elemAddr (m := 0) (sz := 1) Tryz.underlying27 ti9 rfl rfl rfl rfl (by omega) (by first | (rw [List.length_map]; omega) | (rw [flat_len (sz := 1) (fun _ => rfl)]; omega) | (simp; omega)) (Nat.mul_one _)) ?_
       refine d_first 16 rfl rfl rfl (by kernel_rfl) (by kernel_rfl) (tl_eload Tryz.underlying9 rfl rfl (get_mapD [] (m := 0) (by omega))) ?_
       refine d_next2 6 18 (by kernel_rfl) rfl rfl ?_ ?_
       ·
        refine an_callF (ref1_ReadDec_sp ((qs[0]'h0l).args.getD 0 []) (by omega)) rfl rfl rfl ?_
        refine Di 17 (t:=Ux (Ps [_, _, _])) (k:=Dn 18 (k:=Nc [.int .i64 0, .slice none 0 0, vS []] (k:=fun b8 => Dn 19 (k:=Na (k:=Dd (k:=Ya (Za (k:=Za (k:=?_)))))))))
        have hz84 := fun e => readT_le (N := 1073741824) (l := argsOf 84 (cdsOf qs)) (ts := ts) (fun xs hx a ha => ((hz 84).2 xs hx).2 a ha) e
        have htz : TgZ ts := by
         cases e : readT (argsOf 84 (cdsOf qs)) with
         | none => rw [e] at hx60; rw [hx60]; exact ⟨Nat.zero_le _, (fun _ h => by simp at h)⟩
         | some us =>
           rw [e] at hx60
           obtain ⟨h1, h2⟩ := hz84 (by rw [e, hx60]; rfl)
           have h3 := (hz 84).1
           exact ⟨by omega, fun t ht => by have := h2 t ht; omega⟩
        obtain ⟨c, hc⟩ : ∃ c : Ct, c = ⟨rdI ((qs[0]'h0l).args.getD 0 []), ts, (qs[qs.length - 1]'hel).args.getD 0 []⟩ := ⟨_, rfl⟩
        have hc1 : c.date = rdI ((qs[0]'h0l).args.getD 0 []) := by rw [hc]
        have hc2 : c.tags = ts := by rw [hc]
        have hc3 : c.user = (qs[qs.length - 1]'hel).args.getD 0 [] := by rw [hc]
        rw [← hc1, ← hc2, ← hc3]
        rw [← hc2] at htz hx60
        rw [← hc1, ← hc3] at hrc
        have hRt := ref10_RightControl_sp (Bt := Row 66 4 (.slice ta c.tags.length tc) c.tags.length (c.tags.flatMap tgCells)) ta tc c (by rw [hc3]; omega) htz sla_row
        refine Zr (k:=Qv (k:=Vv (k:=Gi 2 (t:=fun h83 => ?_) (f:=fun h83 => ?_))))
        ·
         refine O1 (k:=O1 (k:=O1 (k:=P1 (k:=Vv (k:=O1 (k:=O1 (k:=O1 (k:=O1 (k:=P1 (k:=Wq (Z1 (k:=?_))))))))))))
         refine Qc (k:=Vx (Ps [.int .i64 0, .slice none 0 0, vS []]) (k:=Zp (k:=Vv (k:=Wq (Zt (k:=Va ?_))))))
         exact zb63ret7
        ·
         have hrk : refCt (cdsOf qs) = some c := by
          rw [hrc]
          cases e : readT (argsOf 84 (cdsOf qs)) with
          | none => rw [e] at h83; simp at h83
          | some us => rw [e] at hx60; rw [Option.map_some, show us = c.tags from hx60.symm]
         refine I0 (k:=Zm [_, _, _] (k:=I0 (k:=?_)))
         refine r_call1 hRt rfl rfl rfl ?_
         refine J0 (k:=P0 (k:=Vv (k:=Gi 7 (t:=fun h88 => ?_) (f:=fun h88 => ?_))))
         ·
          refine O1 (k:=O1 (k:=O1 (k:=O1 (k:=P1 (k:=Wq (Z1 (k:=Qc (k:=Vx (Ps [.int .i64 0, .slice none 0 0, vS []]) (k:=Zp (k:=Vv (k:=?_)))))))))))
          refine Wq (Zt (k:=Va ?_))
          exact zb63ret7
         ·
          have hR : RightCt c := Classical.not_not.1 h88
          have hCk := ref10_Control_sp (Bt := Row 66 4 (.slice ta c.tags.length tc) c.tags.length (c.tags.flatMap tgCells)) ta tc c htz hR.date (Nat.le_trans (ct_small hR) (by omega)) sla_row
          refine I0 (k:=Zm [_, _, _] (k:=I0 (k:=?_)))
          refine r_call1 hCk rfl rfl rfl ?_
          refine J0 (k:=J0 (k:=P0 (k:=Wq (Zi (t:=fun h93 => ?_) (f:=fun h93 => ?_)))))
          ·
           refine Qc (k:=Vx (Ps [.int .i64 0, .slice none 0 0, vS []]) (k:=Zp (k:=Vv (k:=Wq (Zt (k:=Va ?_))))))
           exact zb63ret7
          ·
           refine Zk (k:=Ya (Qc (k:=Zm [_, _, _] (k:=Zp (k:=Vv (k:=Wq (Zt (k:=?_))))))))
           exact zb63ret8
       ·
        refine Nc [.int .i64 0, .slice none 0 0, vS []] (k:=fun b8 => Dn 6 (k:=?_))
        refine an_callF (ref1_ReadDec_sp ((qs[0]'h0l).args.getD 0 []) (by omega)) rfl rfl rfl ?_
        refine Di 17 (t:=Ux (Ps [_, _, _])) (k:=Dn 19 (k:=Na (k:=Dd (k:=Ya (Za (k:=Za (k:=?_)))))))
        have hz84 := fun e => readT_le (N := 1073741824) (l := argsOf 84 (cdsOf qs)) (ts := ts) (fun xs hx a ha => ((hz 84).2 xs hx).2 a ha) e
        have htz : TgZ ts := by
         cases e : readT (argsOf 84 (cdsOf qs)) with
         | none => rw [e] at hx60; rw [hx60]; exact ⟨Nat.zero_le _, (fun _ h => by simp at h)⟩
         | some us =>
           rw [e] at hx60
           obtain ⟨h1, h2⟩ := hz84 (by rw [e, hx60]; rfl)
           have h3 := (hz 84).1
           exact ⟨by omega, fun t ht => by have := h2 t ht; omega⟩
        obtain ⟨c, hc⟩ : ∃ c : Ct, c = ⟨rdI ((qs[0]'h0l).args.getD 0 []), ts, (qs[qs.length - 1]'hel).args.getD 0 []⟩ := ⟨_, rfl⟩
        have hc1 : c.date = rdI ((qs[0]'h0l).args.getD 0 []) := by rw [hc]
        have hc2 : c.tags = ts := by rw [hc]
        have hc3 : c.user = (qs[qs.length - 1]'hel).args.getD 0 [] := by rw [hc]
        rw [← hc1, ← hc2, ← hc3]
        rw [← hc2] at htz hx60
        rw [← hc1, ← hc3] at hrc
        have hRt := ref10_RightControl_sp (Bt := Row 66 4 (.slice ta c.tags.length tc) c.tags.length (c.tags.flatMap tgCells)) ta tc c (by rw [hc3]; omega) htz sla_row
        refine Zr (k:=Qv (k:=Vv (k:=Gi 2 (t:=fun h83 => ?_) (f:=fun h83 => ?_))))
        ·
         refine O1 (k:=O1 (k:=O1 (k:=P1 (k:=Vv (k:=O1 (k:=O1 (k:=O1 (k:=O1 (k:=P1 (k:=Wq (Z1 (k:=?_))))))))))))
         refine Qc (k:=Vx (Ps [.int .i64 0, .slice none 0 0, vS []]) (k:=Zp (k:=Vv (k:=Wq (Zt (k:=Va ?_))))))
         exact zb63ret7
        ·
         have hrk : refCt (cdsOf qs) = some c := by
          rw [hrc]
          cases e : readT (argsOf 84 (cdsOf qs)) with
          | none => rw [e] at h83; simp at h83
          | some us => rw [e] at hx60; rw [Option.map_some, show us = c.tags from hx60.symm]
         refine I0 (k:=Zm [_, _, _] (k:=I0 (k:=?_)))
         refine r_call1 hRt rfl rfl rfl ?_
         refine J0 (k:=P0 (k:=Vv (k:=Gi 7 (t:=fun h88 => ?_) (f:=fun h88 => ?_))))
         ·
          refine O1 (k:=O1 (k:=O1 (k:=O1 (k:=P1 (k:=Wq (Z1 (k:=Qc (k:=Vx (Ps [.int .i64 0, .slice none 0 0, vS []]) (k:=Zp (k:=Vv (k:=?_)))))))))))
          refine Wq (Zt (k:=Va ?_))
          exact zb63ret7
         ·
          have hR : RightCt c := Classical.not_not.1 h88
          have hCk := ref10_Control_sp (Bt := Row 66 4 (.slice ta c.tags.length tc) c.tags.length (c.tags.flatMap tgCells)) ta tc c htz hR.date (Nat.le_trans (ct_small hR) (by omega)) sla_row
          refine I0 (k:=Zm [_, _, _] (k:=I0 (k:=?_)))
          refine r_call1 hCk rfl rfl rfl ?_
          refine J0 (k:=J0 (k:=P0 (k:=Wq (Zi (t:=fun h93 => ?_) (f:=fun h93 => ?_)))))
          ·
           refine Qc (k:=Vx (Ps [.int .i64 0, .slice none 0 0, vS []]) (k:=Zp (k:=Vv (k:=Wq (Zt (k:=Va ?_))))))
           exact zb63ret7
          ·
           refine Zk (k:=Ya (Qc (k:=Zm [_, _, _] (k:=Zp (k:=Vv (k:=Wq (Zt (k:=?_))))))))
           exact zb63ret8
end
section
set_option maxRecDepth 100000
theorem zb112ret5 {G : Prop} (h : G := by
    have hn : ¬ (isN (l.getD j []) = true ∧ (0 < j → blt (l.getD (j - 1) []) (l.getD j []) = true)) := fun ⟨o1, o2⟩ => by
     rw [← ht] at o1 o2
     try simp only [isN_fold] at *
     first
     | exact h15 o1
     | (have o3 := o2 (by omega); rw [o3] at h27; exact absurd h27 (by decide))
    refine fin_ret () (vs := [_]) (Cs := []) rfl (.tmp rfl .nil) (by rw [hbad hn]; rfl) trivial ent_pick) : G := h
theorem zb112next0 {G : Prop} (h : G := by
    refine to_inv ⟨j + 1, by omega, fun i hi => ?_⟩ (by dsimp only; omega) ⟨rfl, rfl, rfl, rfl, trivial⟩ ent_pick
    by_cases he : i = j
    · subst he
      rw [← ht]
      try simp only [isN_fold] at *
      refine ⟨Classical.not_not.1 h15, fun h0 => ?_⟩
      first
      | (exfalso; omega)
      | (simpa using h27)
    · exact hok i (by omega)) : G := h
theorem zb112ret7 {G : Prop} (h : G := by
    refine fin_ret () (vs := [_]) (Cs := []) rfl (.tmp rfl .nil) ?_ trivial ent_pick
    show vB _ = vB _
    congr 1
    first
    | exact (decide_eq_false (fun h => by have := h.len; omega)).symm
    | exact decide_eq_decide.2 ⟨fun h => ⟨fun i hi => hok i (by omega), by omega⟩, fun h => by have := h.len; omega⟩) : G := h
set_option maxHeartbeats 1000000 in
theorem ref10_RightCluster_sp {B : HP} {a : Option Addr} (n cap : Nat) (l : List Bs) (sh : SlA B a (l.map vS)) (hn : l.length = n) (hb : n ≤ 1073741824) (hz : ∀ t ∈ l, t.length ≤ 1099511627776) :
    Sp1 Tryz.prog 112 [.slice a n cap] [B] (vB (decide (RightCl l))) [B] := by
 subst hn
 haveI : RdSl a (l.map vS) [B] := ⟨⟨B, sh, .here⟩⟩
 refine Sp.body (n := 37) Tryz.call112 Tryz.func112 rfl rfl rfl ?_
 refine Qc (k:=Vv (k:=Wq (Za (k:=Qc (k:=Qv (k:=Vv (k:=Wq (Zb (k:=?_)))))))))
 refine p_loop (fun (i : { j : Nat // j ≤ l.length ∧ ∀ i, i < j → isN (l.getD i []) = true ∧ (0 < i → blt (l.getD (i - 1) []) (l.getD i []) = true) }) => [(0, .slice a l.length cap), (5, .slice a l.length cap), (6, vI l.length), (7, vI i.1)]) (fun (i : { j : Nat // j ≤ l.length ∧ ∀ i, i < j → isN (l.getD i []) = true ∧ (0 < i → blt (l.getD (i - 1) []) (l.getD i []) = true) }) => [B]) (fun (i : { j : Nat // j ≤ l.length ∧ ∀ i, i < j → isN (l.getD i []) = true ∧ (0 < i → blt (l.getD (i - 1) []) (l.getD i []) = true) }) => l.length - i.1) rfl (⟨0, Nat.zero_le _, fun i h => by omega⟩) ?_ ?_ (fun i => ?_)
 · exact ⟨rfl, rfl, rfl, rfl, trivial⟩
 ·
  exact ent_pick
 obtain ⟨j, hj, hok⟩ := i
 dsimp only
 try dsimp only
 refine Qc (k:=Vv (k:=Wq (Za (k:=Zi (t:=fun h8 => ?_) (f:=fun h8 => ?_)))))
 ·
  refine Zk (k:=Ya (Za (k:=Zb (k:=Za (k:=?_)))))
  have hjl : j < l.length := by omega
  have hg : l.getD j [] = l[j] := by simp [hjl]
  have hzj := hz l[j] (List.getElem_mem hjl)
  obtain ⟨t, ht⟩ : ∃ t, t = l.getD j [] := ⟨_, rfl⟩
  rw [← hg, ← ht] at hzj
  have hbad : ∀ (h : ¬ (isN (l.getD j []) = true ∧ (0 < j → blt (l.getD (j - 1) []) (l.getD j []) = true))), decide (RightCl l) = false := fun h => decide_eq_false (fun r => h (r.ok j hjl))
  refine Zr (k:=Vv (k:=Ye 1 (k:=Yl (hv:=by exact get_mapD [] hjl) (k:=?_))))
  rw [← ht]
  refine Qv (k:=Wq (Qc (k:=Vv (k:=?_))))
  refine r_callF (ref1_Is_sp t (by omega)) rfl rfl rfl ?_
  refine Qv (k:=Gi 3 (t:=fun h15 => ?_) (f:=fun h15 => ?_))
  ·
   refine O1 (k:=O1 (k:=O1 (k:=Ou (k:=Ou (k:=Ou (k:=Ou (k:=Ou (k:=Ou (k:=Ou (k:=O1 (k:=P1 (k:=?_))))))))))))
   refine Wq (Z1 (k:=Qc (k:=Vv (k:=Wq (Zt (k:=Vb (Va (Vi (Vb (Va ?_))))))))))
   exact zb112ret5
  ·
   refine J0 (k:=J0 (k:=J0 (k:=Gi 6 (t:=fun h18 => ?_) (f:=fun h18 => ?_))))
   ·
    refine J1 (k:=J1 (k:=J1 (k:=I1 (k:=?_))))
    refine r_elemAddr (sz := 1) (m := j - 1) (kk := j - 1) Tryz.underlying27 ti9 rfl rfl rfl (by omega) (by omega) (by rw [List.length_map]; omega) (Nat.mul_one _) rfl ?_
    refine I1 (k:=Yl (hv:=by exact get_mapD [] (m := j - 1) (by omega)) (k:=J1 (k:=J1 (k:=I0 (k:=P1 (k:=P0 (k:=Wq (Zi (t:=fun h27 => ?_) (f:=fun h27 => ?_)))))))))
    ·
     refine Qc (k:=Vv (k:=Wq (Zt (k:=Vb (Va (Vi (Vb (Va ?_))))))))
     exact zb112ret5
    ·
     refine Zk (k:=Yb (Ya (Zr (k:=Qv (k:=Wn ?_)))))
     exact zb112next0
   ·
    refine O0 (k:=O0 (k:=O0 (k:=O0 (k:=O0 (k:=O0 (k:=O0 (k:=I0 (k:=P0 (k:=P0 (k:=Wq (Z0 (k:=?_))))))))))))
    refine Zk (k:=Yb (Ya (Zr (k:=Qv (k:=Wn ?_)))))
    exact zb112next0
 ·
  refine Ze (k:=Xa (Xi (Xb (Ya (Qc (k:=Qv (k:=Qv (k:=Gi 3 (t:=fun h32 => ?_) (f:=fun h32 => ?_)))))))))
  ·
   refine J1 (k:=J1 (k:=J1 (k:=P1 (k:=Vv (k:=Wq (Zt (k:=?_)))))))
   exact zb112ret7
  ·
   refine O0 (k:=O0 (k:=O0 (k:=P0 (k:=Vv (k:=Wq (Zt (k:=?_)))))))
   exact zb112ret7
set_option maxHeartbeats 1000000 in
theorem ref10_Cluster_sp {B : HP} {a : Option Addr} (n cap : Nat) (l : List Bs) (sh : SlA B a (l.map vS)) (hn : l.length = n) (hz : (bodyB (clCards l)).length ≤ 1073741824) :
    Sp1 Tryz.prog 59 [.slice a n cap] [B] (vS (clB l)) [B] := by
 subst hn
 haveI : RdSl a (l.map vS) [B] := ⟨⟨B, sh, .here⟩⟩
 have hcl := (bodyB_ge (clCards l)).1
 have hcn : (clCards l).length = l.length := by simp [clCards]
 refine Sp.body (n := 21) Tryz.call59 Tryz.func59 rfl rfl rfl ?_
 refine Qc (k:=Vv (k:=Wq (Qc (k:=Vv (k:=Wq (Za (k:=Qc (k:=Vv (k:=?_)))))))))
 refine Qv (k:=Wq (Zb (k:=?_)))
 refine p_loop (fun (i : { x : (Option Addr × Nat) × List CdV // x.2.length ≤ l.length ∧ cdsOf x.2 = clCards (l.take x.2.length) }) => [(3, .slice i.1.1.1 i.1.2.length i.1.1.2), (6, .slice a l.length cap), (7, vI l.length), (8, vI i.1.2.length)]) (fun (i : { x : (Option Addr × Nat) × List CdV // x.2.length ≤ l.length ∧ cdsOf x.2 = clCards (l.take x.2.length) }) => [Row 109 2 (.slice i.1.1.1 i.1.2.length i.1.1.2) i.1.2.length (i.1.2.flatMap CdV.cells), CdM i.1.2, B]) (fun (i : { x : (Option Addr × Nat) × List CdV // x.2.length ≤ l.length ∧ cdsOf x.2 = clCards (l.take x.2.length) }) => l.length - i.1.2.length) rfl (⟨((none, 0), []), Nat.zero_le _, rfl⟩) ?_ ?_ (fun i => ?_)
 · exact ⟨rfl, rfl, rfl, rfl, trivial⟩
 ·
  exact (row_nil (e := 109) (sz := 2)).trans (ent_cdm_nil.trans (show Ent _ [Row 109 2 (.slice none 0 0) 0 [], CdM [], B] from ent_pick))
 obtain ⟨⟨⟨oa, oc⟩, qs⟩, hj, hcd⟩ := i
 dsimp only at hj hcd ⊢
 try dsimp only
 refine Qc (k:=Vv (k:=Wq (Za (k:=Zi (t:=fun h9 => ?_) (f:=fun h9 => ?_)))))
 ·
  refine Zk (k:=Ya (Za (k:=Zb (k:=Za (k:=?_)))))
  have hjl : qs.length < l.length := by omega
  have htk : clCards (l.take (qs.length + 1)) = cdsOf qs ++ [clCard (l.getD qs.length [])] := by rw [List.take_succ_eq_append_getElem hjl, clCards, List.map_append, hcd]; simp [clCards, hjl]
  refine Zr (k:=Ye 1 (k:=Yl (hv:=by exact get_mapD [] hjl) (k:=?_)))
  obtain ⟨x, hx⟩ : ∃ x, x = l.getD qs.length [] := ⟨_, rfl⟩
  rw [← hx] at htk ⊢
  refine Vv (k:=Wq (Zr (k:=Qv (k:=Zv [_] (cs := [_]) (k:=fun b14 => Vx (Ps [_, _]) (k:=Zv [_] (cs := [_, _]) (k:=fun b16 => ?_)))))))
  refine r_append1 (sz := 2) (bytes := 32) Tryz.underlying107 ti109 rfl rfl rfl rfl rfl rfl rfl (by rfl) (by rfl) (by omega) (by simp only [maxLen]; omega) rfl (fun a17 c17 => ?_)
  refine wo_frzC b14 ?_
  refine Vv (k:=Wn (Yb (Ya (Zr (k:=Qv (k:=Wn ?_))))))
  obtain ⟨q, hqq⟩ : ∃ q : CdV, q = ⟨77, some ⟨b14, 0, none⟩, 1, [x]⟩ := ⟨_, rfl⟩
  have hqc : q.cd = clCard x := by rw [hqq]; rfl
  have hql : (qs ++ [q]).length = qs.length + 1 := by simp
  refine to_inv ⟨((a17, c17), qs ++ [q]), ?_, ?_⟩ ?_ ⟨sl_eq hql.symm, rfl, rfl, vI_eq (by dsimp only; omega), trivial⟩ ?_
  · dsimp only; omega
  · dsimp only; rw [hql, htk, cds_snoc, hqc]
  · dsimp only; omega
  · dsimp only
    rw [hql]
    refine (ent_cdm_new (qs := qs) (a := some ⟨b14, 0, none⟩) (c := 1) 77 [x] [vS x] HasC.get HasC.get rfl (Nat.le_refl _)).trans ?_
    rw [← hqq]
    exact ent_step (row_norm (by rfl) (by rw [fm_snoc, hqq]; rfl)) ent_pick
 ·
  refine Ze (k:=Xa (Xi (Xb (Ya (Za (k:=?_))))))
  have hjl : qs.length = l.length := by omega
  rw [hjl, List.take_length] at hcd
  have hPr := ref10_Print_sp (B := Row 109 2 (.slice oa qs.length oc) qs.length (qs.flatMap CdV.cells)) (a := oa) qs.length oc qs sla_row rfl (by rw [hcd]; omega)
  rw [hcd] at hPr
  refine Zr (k:=Vv (k:=?_))
  refine r_call1 hPr rfl rfl rfl ?_
  refine Vv (k:=Wq (Zt (k:=?_)))
  exact fin_ret () (vs := [_]) (Cs := []) rfl (.tmp rfl .nil) rfl trivial ent_pick
theorem cl_at {s : Bs} {qs : List CdV} (hx : cdsOf qs = (readC s).getD []) {l : List Bs} (h : ReadsCl s l) : cdsOf qs = clCards l := by
 rw [hx, readC_iff.2 h.reads]; rfl
theorem cl_card {qs : List CdV} {l : List Bs} (h : cdsOf qs = clCards l) {j : Nat} (hj : j < qs.length) : qs[j].l = 77 ∧ qs[j].args.length = 1 := by
 have h1 := cds_getD hj
 have hl : j < l.length := by
  have := congrArg List.length h
  simp [cdsOf, clCards] at this; omega
 rw [h] at h1
 have h2 : (clCards l).getD j cd0 = clCard l[j] := by simp [clCards, hl]
 rw [h2] at h1
 exact ⟨(congrArg Cd.l h1).symm, by have := congrArg (fun c => c.args.length) h1; simpa [clCard, CdV.cd] using this.symm⟩
theorem zb64ret7 {G : Prop} (h : G := by
    have hn : readCl s = none := the_none fun l h => by
     obtain ⟨e1, e2⟩ := hcc l h
     first
     | (have h23' : ¬ (q.l.toNat : Int) = 77 := h23
        exact h23' (by rw [e1]; rfl))
     | omega
    rw [hn]
    refine fin_ret ((none, 0), []) (vs := [_, _]) (Cs := []) rfl (.tmp rfl (.tmp rfl .nil)) rfl rfl ?_
    exact (row_nil (e := 9) (sz := 1)).trans (show Ent _ [Row 9 1 (.slice none 0 0) 0 []] from ent_pick)) : G := h
theorem zb64ret11 {G : Prop} (h : G := by
    have hn : readCl s = none := the_none fun l h => by
     have e := hrl l h
     first
     | (have h39' : (!(readC s).isSome) = true := h39
        rw [readC_iff.2 h.reads] at h39'; simp at h39')
     | (rw [e] at h; exact h44 h.1)
     | (rw [e] at h; exact h49 h.2)
    rw [hn]
    refine fin_ret ((none, 0), []) (vs := [_, _]) (Cs := []) rfl (.tmp rfl (.tmp rfl .nil)) rfl rfl ?_
    exact (row_nil (e := 9) (sz := 1)).trans (show Ent _ [Row 9 1 (.slice none 0 0) 0 []] from ent_pick)) : G := h
set_option maxHeartbeats 2000000 in
theorem ref10_ReadCluster_sp (s : Bs) (hs : s.length ≤ 1073741824) : Sp Tryz.prog 64 [vS s] [] (X := (Option Addr × Nat) × List Bs) (fun x => .tuple #[nmsV x, vB (readCl s).isSome]) (fun x => x.2 = (readCl s).getD []) nmsH := by
 refine Sp.body (n := 51) Tryz.call64 Tryz.func64 rfl rfl rfl ?_
 refine Qc (k:=Qv (k:=Wq (Qc (k:=Vv (k:=?_)))))
 refine r_callX (ref10_Cards_sp s hs) rfl rfl rfl (fun x11 hx11 => ?_)
 obtain ⟨⟨ca, cc⟩, qs⟩ := x11
 dsimp only [cardV, rcardH] at hx11 ⊢
 have hbz : (bodyB (cdsOf qs)).length ≤ 1073741824 := by
  rw [hx11]
  cases e : readC s with
  | none => simp [bodyB]
  | some l =>
    have h1 := congrArg List.length (readC_iff.1 e).2
    rw [printB, sealB_len] at h1
    simp only [Option.getD_some]; omega
 obtain ⟨hqn, hqz⟩ := cds_sizes hbz
 have hza : ∀ c ∈ cdsOf qs, ∀ a ∈ c.args, a.length ≤ 1073741824 := fun c hc a ha => Nat.le_trans (mem_le_args ha) (Nat.le_trans ((bodyB_args (cdsOf qs)).2 c hc) hbz)
 refine Vv (k:=?_)
 refine wo_pv (pv_extract (v := .slice ca qs.length cc) rfl rfl) rfl ?_
 refine wo_pv (pv_extract (v := vB (readC s).isSome) rfl rfl) rfl ?_
 refine Qv (k:=Wq (Qc (k:=Vv (k:=Wq (Za (k:=Qc (k:=Qv (k:=?_))))))))
 refine Vv (k:=Wq (Zb (k:=?_)))
 refine p_loop (fun (i : { x : ((Option Addr × Nat) × List Bs) × Nat // x.2 ≤ qs.length ∧ cdsOf (qs.take x.2) = clCards x.1.2 }) => [(0, vS s), (5, vB (readC s).isSome), (6, .slice i.1.1.1.1 i.1.1.2.length i.1.1.1.2), (14, .slice ca qs.length cc), (15, vI qs.length), (16, vI i.1.2)]) (fun (i : { x : ((Option Addr × Nat) × List Bs) × Nat // x.2 ≤ qs.length ∧ cdsOf (qs.take x.2) = clCards x.1.2 }) => [Row 9 1 (.slice i.1.1.1.1 i.1.1.2.length i.1.1.1.2) i.1.1.2.length (i.1.1.2.map vS), Row 109 2 (.slice ca qs.length cc) qs.length (qs.flatMap CdV.cells), CdM qs]) (fun (i : { x : ((Option Addr × Nat) × List Bs) × Nat // x.2 ≤ qs.length ∧ cdsOf (qs.take x.2) = clCards x.1.2 }) => qs.length - i.1.2) rfl (⟨(((none, 0), []), 0), Nat.zero_le _, rfl⟩) ?_ ?_ (fun i => ?_)
 · exact ⟨rfl, rfl, rfl, rfl, rfl, rfl, trivial⟩
 ·
  exact (row_nil (e := 9) (sz := 1)).trans (show Ent _ [Row 9 1 (.slice none 0 0) 0 [], Row 109 2 (.slice ca qs.length cc) qs.length (qs.flatMap CdV.cells), CdM qs] from ent_pick)
 obtain ⟨⟨⟨⟨oa, oc⟩, out⟩, j⟩, hj, hcd⟩ := i
 dsimp only at hj hcd ⊢
 have hol : out.length = j := by
  have := congrArg List.length hcd
  simp [cdsOf, clCards] at this; omega
 try dsimp only
 refine Qc (k:=Vv (k:=Wq (Za (k:=Zi (t:=fun h17 => ?_) (f:=fun h17 => ?_)))))
 ·
  refine Zk (k:=Ya (Za (k:=Zb (k:=Za (k:=?_)))))
  have hjl : j < qs.length := by omega
  have hcc : ∀ l, ReadsCl s l → qs[j].l = 77 ∧ qs[j].args.length = 1 := fun l h => cl_card (cl_at hx11 h) hjl
  have htk : cdsOf (qs.take (j + 1)) = clCards out ++ [qs[j].cd] := by rw [List.take_succ_eq_append_getElem hjl, cdsOf_app, hcd]; rfl
  obtain ⟨q, hq⟩ : ∃ q, q = qs[j] := ⟨_, rfl⟩
  have hqm : q ∈ qs := by rw [hq]; exact List.getElem_mem _
  rw [← hq] at htk hcc
  refine wc_ent' (ent_cd hqm HasC.get) ?_
  refine Zr (k:=Ye 2 (k:=?_))
  refine r_eloada (vs := [_, _]) (sz := 2) Tryz.underlying109 rfl ti109 rfl rfl (by rw [flat_len (sz := 2) (fun _ => rfl)]; omega) rfl (by refine get_flat (fun x => ?_) ?_ <;> first | rfl | omega) rfl ?_
  refine Zc [.int .u8 0, .slice none 0 0] (k:=fun b8 => Zp (k:=?_))
  rw [← hq]
  refine Wq (Za (k:=Qc (k:=Qx 0 5 (k:=Qv (k:=Gi 3 (t:=fun h23 => ?_) (f:=fun h23 => ?_))))))
  ·
   refine O1 (k:=O1 (k:=O1 (k:=O1 (k:=P1 (k:=Wq (Z1 (k:=Qc (k:=Qv (k:=Wq ?_)))))))))
   refine Zt (k:=Va (Vb (Va (Vi (Vb (Va ?_))))))
   exact zb64ret7
  ·
   refine I0 (k:=Vf 1 27 (k:=I0 (k:=Zd (k:=J0 (k:=J0 (k:=P0 (k:=Wq (Zi (t:=fun h28 => ?_) (f:=fun h28 => ?_)))))))))
   ·
    refine Qc (k:=Qv (k:=Wq (Zt (k:=Va (Vb (Va (Vi (Vb (Va ?_)))))))))
    exact zb64ret7
   ·
    refine Zk (k:=Ya (Zr (k:=Vv (k:=Qx 1 27 (k:=Ye 1 (m := 0) (k:=Yl (hv:=by exact get_mapD [] (m := 0) (by omega)) (k:=Zv [_] (cs := [_]) (k:=fun b34 => ?_))))))))
    refine r_append1 (sz := 1) (bytes := 16) Tryz.underlying27 ti9 rfl rfl rfl rfl rfl rfl rfl (by rfl) (by rfl) (by omega) (by simp only [maxLen]; omega) rfl (fun a35 c35 => ?_)
    refine Vv (k:=Wn (Yb (Ya (Zr (k:=Qv (k:=Wn ?_))))))
    have hcdq : q.cd = clCard (q.args.getD 0 []) := by
     obtain ⟨ql, qa, qc, xs⟩ := q
     dsimp only at *
     have e1 : ql = 77 := by rw [← UInt8.toNat_inj]; have h1 := Classical.not_not.1 h23; have h2 : (77 : UInt8).toNat = 77 := rfl; omega
     obtain ⟨y, rfl⟩ := List.length_eq_one_iff.1 (show xs.length = 1 by omega)
     rw [e1]; rfl
    have hql2 : (out ++ [q.args.getD 0 []]).length = out.length + 1 := by simp
    refine to_inv ⟨(((a35, c35), out ++ [q.args.getD 0 []]), j + 1), by dsimp only; omega, ?_⟩ (by dsimp only; omega) ⟨rfl, rfl, sl_eq hql2.symm, rfl, rfl, rfl, trivial⟩ ?_
    · dsimp only; rw [htk, hcdq]; simp [clCards]
    · dsimp only
      rw [hql2]
      exact ent_step (row_norm (by rfl) (by simp)) ent_pick
 ·
  refine Ze (k:=Xa (Xi (Xb (Ya (Za (k:=Za (k:=?_)))))))
  have hjl : j = qs.length := by omega
  rw [hjl, List.take_length] at hcd
  have hem : ∀ t ∈ out, t.length ≤ 1099511627776 := fun t ht => by
   have := hza (clCard t) (by rw [hcd]; exact List.mem_map_of_mem ht) t (by simp [clCard])
   omega
  have hRt := ref10_RightCluster_sp (B := Row 9 1 (.slice oa out.length oc) out.length (out.map vS)) (a := oa) out.length oc out sla_row rfl (by omega) hem
  have hCl := ref10_Cluster_sp (B := Row 9 1 (.slice oa out.length oc) out.length (out.map vS)) (a := oa) out.length oc out sla_row rfl (by rw [← hcd]; exact hbz)
  have hrl : ∀ l, ReadsCl s l → l = out := fun l h => by
   have e := cl_at hx11 h
   rw [hcd] at e
   rw [← flat_single l, ← flat_single out, ← argsOf_cl, ← argsOf_cl, e]
  refine Zr (k:=Qv (k:=Vv (k:=Gi 2 (t:=fun h39 => ?_) (f:=fun h39 => ?_))))
  ·
   refine O1 (k:=O1 (k:=O1 (k:=P1 (k:=Vv (k:=O1 (k:=O1 (k:=O1 (k:=O1 (k:=P1 (k:=Wq (Z1 (k:=?_))))))))))))
   refine Qc (k:=Qv (k:=Wq (Zt (k:=Va ?_))))
   exact zb64ret11
  ·
   refine J0 (k:=I0 (k:=?_))
   refine r_call1 hRt rfl rfl rfl ?_
   refine J0 (k:=P0 (k:=Vv (k:=Gi 7 (t:=fun h44 => ?_) (f:=fun h44 => ?_))))
   ·
    refine O1 (k:=O1 (k:=O1 (k:=O1 (k:=P1 (k:=Wq (Z1 (k:=Qc (k:=Qv (k:=Wq ?_)))))))))
    refine Zt (k:=Va ?_)
    exact zb64ret11
   ·
    refine J0 (k:=I0 (k:=?_))
    refine r_call1 hCl rfl rfl rfl ?_
    refine J0 (k:=J0 (k:=P0 (k:=Wq (Zi (t:=fun h49 => ?_) (f:=fun h49 => ?_)))))
    ·
     refine Qc (k:=Qv (k:=Wq (Zt (k:=Va ?_))))
     exact zb64ret11
    ·
     refine Zk (k:=Ya (Qc (k:=Qv (k:=Vv (k:=Wq (Zt (k:=?_)))))))
     have hk : readCl s = some out := readCl_iff.2 ⟨Classical.not_not.1 h44, Classical.not_not.1 h49⟩
     rw [hk]
     refine fin_ret ((oa, oc), out) (vs := [_, _]) (Cs := []) rfl (.tmp rfl (.tmp rfl .nil)) rfl rfl ?_
     exact ent_pick
end
end Go.Proofs.YtibccdcemcgkeaaGreat
