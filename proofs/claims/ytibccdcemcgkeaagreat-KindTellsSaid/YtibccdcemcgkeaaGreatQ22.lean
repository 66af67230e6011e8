/- Texts of this proof, put together: SR10f, SR10g, PCk4. -/
import Derived.Test.YtibccdcemcgkeaaGreatQ21
set_option linter.unusedVariables false
set_option linter.unusedSimpArgs false
namespace Go.Proofs.YtibccdcemcgkeaaGreat
section
set_option maxRecDepth 100000
theorem zb14next0 {G : Prop} (h : G := by
    obtain ⟨q, hqq⟩ : ∃ q : CdV, q = ⟨70, ga, gc, xs⟩ := ⟨_, rfl⟩
    have hqc : q.cd = flCard f := by rw [hqq]; show (⟨70, xs⟩ : Cd) = _; rw [hxs]; rfl
    have hql2 : (fs ++ [q]).length = fs.length + 1 := by simp
    refine to_inv ⟨(((a53, c53), fs ++ [q]), j + 1), ?_, ?_⟩ ?_ ⟨rfl, sl_eq hql2.symm, rfl, rfl, rfl, trivial⟩ ?_
    · dsimp only; omega
    · dsimp only; rw [htk, cds_snoc, hqc, hfs, List.append_assoc]
    · dsimp only; omega
    · dsimp only
      rw [hql2]
      refine (ent_cdm_snoc (qs := fs) (q := q) HasC.get (by rw [hqq]; exact HasC.get) (by rw [hqq]; exact hxc)).trans ?_
      exact ent_step (row_norm (by rfl) (by rw [hqq]; simp [CdV.cells])) ent_pick) : G := h
theorem zb14join11 {G : Prop} (h : G := by
    first
    | exact to_inv ⟨((a48, c48), [f.1, f.2]), by simp [flCard, h43], hk48.1⟩ trivial ⟨rfl, rfl, rfl, rfl, rfl, rfl, trivial⟩ ent_pick
    | exact to_inv ⟨((some ⟨b40, 0, none⟩, 1), [f.1]), by simp [flCard, Classical.not_not.1 h43], Nat.le_refl _⟩ trivial ⟨rfl, rfl, rfl, rfl, rfl, rfl, trivial⟩ ent_pick) : G := h
theorem zb14ret16 {G : Prop} (h : G := by exact fin_ret () (vs := [_]) (Cs := []) rfl (.tmp rfl .nil) rfl trivial ent_pick) : G := h
theorem zb14join15 {G : Prop} (h : G := by
    first
    | (have hp : c.parents ≠ [] := fun e => by rw [e] at h58; simp at h58
       have hql2 : (fs ++ [(⟨80, x.pa, x.pc, c.parents⟩ : CdV)]).length = fs.length + 1 := by simp
       refine to_inv ⟨((a64, c64), fs ++ [⟨80, x.pa, x.pc, c.parents⟩]), ?_⟩ trivial ⟨rfl, sl_eq hql2.symm, trivial⟩ ?_
       · dsimp only; rw [cds_snoc, hfs, ckHead, pCards, if_neg hp]; simp [CdV.cd]
       · dsimp only
         rw [hql2]
         refine (ent_cdm_snoc (qs := fs) (q := ⟨80, x.pa, x.pc, c.parents⟩) HasC.get HasC.get hpc).trans ?_
         exact ent_step (row_norm (by rfl) (by rw [fm_snoc]; rfl)) ent_pick)
    | (have hp : c.parents = [] := List.eq_nil_of_length_eq_zero (by omega)
       refine to_inv ⟨((fa, fc), fs), ?_⟩ trivial ⟨rfl, rfl, trivial⟩ ent_pick
       dsimp only; rw [hfs, ckHead, pCards, if_pos hp]; simp)) : G := h
theorem zb14join4 {G : Prop} (h : G := by
    first
    | (have hb : c.base ≠ [] := h9
       refine to_inv ⟨((a16, c16), [⟨66, some ⟨b13, 0, none⟩, 1, [c.base]⟩]), by simp [cdsOf, CdV.cd, bCards, hb]⟩ trivial ⟨rfl, rfl, trivial⟩ ?_
       refine Ent.trans (ent_cdm_one (a := some ⟨b13, 0, none⟩) (c := 1) 66 [c.base] [vS c.base] HasC.get rfl (Nat.le_refl _)) ?_
       dsimp only [List.length_cons, List.length_nil]
       exact ent_step (row_norm (by rfl) (by rfl)) ent_pick)
    | (have hb : c.base = [] := Classical.not_not.1 h9
       refine to_inv ⟨((none, 0), []), by simp [cdsOf, bCards, hb]⟩ trivial ⟨rfl, rfl, trivial⟩ ?_
       refine Ent.trans ent_cdm_nil ?_
       dsimp only [List.length_nil]
       rw [show ([] : List CdV).flatMap CdV.cells = [] from rfl]
       exact ent_pick)) : G := h
set_option maxHeartbeats 4000000 in
theorem ref10_Checkin_sp {Bf Bt : HP} (x : CkA) (c : Ck) (z : CkZ c) (hd : 0 ≤ c.date ∧ c.date ≤ 1073741824) (hz : (bodyB (ckCards c)).length ≤ 1073741824) (shf : SlA Bf x.fa (c.files.flatMap flCells)) (sht : SlA Bt x.ta (c.tags.flatMap tgCells)) (hpc : c.parents.length ≤ x.pc) :
    Sp1 Tryz.prog 14 [.agg (ckVals x c).toArray] [Bf, SlI x.pa (c.parents.map vS), Bt] (vS (ckB c)) [Bf, Bt] := by
 have hTC := ref10_ops_sp c.tags.length x.tc c.tags sht rfl z.tags
 haveI : RdSl x.fa (c.files.flatMap flCells) [Bf, SlI x.pa (c.parents.map vS), Bt] := ⟨⟨Bf, shf, .here⟩⟩
 obtain ⟨z1, z2, z3, z4, z5, z6, z7, z8, z9⟩ := z
 have hcl := (bodyB_ge (ckCards c)).1
 have hcn : (ckCards c).length = (bCards c.base).length + 2 + c.files.length + (pCards c.parents).length + (c.tags.length + 1) := by simp [ckCards]; omega
 have hDec : SpF Tryz.prog 50 [vI c.date] (vS (decN c.date.toNat)) := by
  have := ref1_Dec_sp c.date.toNat (by omega)
  rwa [Int.toNat_of_nonneg hd.1] at this
 refine Sp.body (n := 78) Tryz.call14 Tryz.func14 rfl rfl rfl ?_
 refine Qc (k:=Zx [_, _, _, _, _, _, _] (k:=fun b1 => Vv (k:=Wq (Qc (k:=Vv (k:=Wq ?_))))))
 refine p_cut (fun (i : { x : (Option Addr × Nat) × List CdV // cdsOf x.2 = bCards c.base }) => [(1, .pointer (some ⟨b1, 0, none⟩)), (3, .slice i.1.1.1 i.1.2.length i.1.1.2)]) (fun (i : { x : (Option Addr × Nat) × List CdV // cdsOf x.2 = bCards c.base }) => [Row 109 2 (.slice i.1.1.1 i.1.2.length i.1.1.2) i.1.2.length (i.1.2.flatMap CdV.cells), CdM i.1.2, Ce b1 30 [vS c.base, vS c.comment, vI c.date, .slice x.fa c.files.length x.fc, .slice x.pa c.parents.length x.pc, .slice x.ta c.tags.length x.tc, vS c.user], Bf, SlI x.pa (c.parents.map vS), Bt]) rfl (fun i => ?_) ?_
 ·
  obtain ⟨⟨⟨oa, oc⟩, qs⟩, hcd⟩ := i
  dsimp only at hcd ⊢
  have hql := cdsLen hcd
  try dsimp only
  refine Za (k:=Dw [Ce b1 30 [vS c.base, vS c.comment, vI c.date, .slice x.fa c.files.length x.fc, .slice x.pa c.parents.length x.pc, .slice x.ta c.tags.length x.tc, vS c.user]] (k:=?_))
  refine Dv 0 (k:=Di 1 (t:=Uf 1 9) (k:=Di 2 (t:=Ul) (k:=Di 7 (t:=Uf 2 3) (k:=Di 8 (t:=Ul) (k:=Dn 3 (k:=?_))))))
  refine an_callF (ref10_Escape_sp c.comment (by omega)) rfl rfl rfl ?_
  have hel := (escB_len c.comment).2
  refine Dv 4 (k:=?_)
  refine d_next2 5 9 (by kernel_rfl) rfl rfl ?_ ?_
  ·
   refine Nl [_] (cs := [_]) (k:=fun b22 => Di 6 (t:=Ux (Ps [_, _])) (k:=Dn 9 (k:=?_)))
   refine an_callF hDec rfl rfl rfl ?_
   refine Dn 10 (k:=Nl [_] (cs := [_]) (k:=fun b27 => Di 11 (t:=Ux (Ps [_, _])) (k:=Dn 12 (k:=Nl [_, _] (cs := [_, _, _, _]) (k:=fun b29 => Dn 13 (k:=?_))))))
   refine an_append1 (sz := 2) (bytes := 32) Tryz.underlying107 ti109 rfl rfl rfl rfl rfl rfl rfl (by rfl) (by rfl) (by omega) (by simp only [maxLen]; omega) rfl (fun a30 c30 => ?_)
   refine Dv 14 (k:=Dd (k:=Ya (Za (k:=Za (k:=?_)))))
   refine wc_frzC b22 ?_
   refine wc_frzC b27 ?_
   obtain ⟨ps, hps⟩ : ∃ ps : List CdV, ps = qs ++ [⟨67, some ⟨b22, 0, none⟩, 1, [46 :: escB c.comment]⟩] ++ [⟨68, some ⟨b27, 0, none⟩, 1, [decN c.date.toNat]⟩] := ⟨_, rfl⟩
   have hpcd : cdsOf ps = bCards c.base ++ [⟨67, [46 :: escB c.comment]⟩, ⟨68, [decN c.date.toNat]⟩] := by rw [hps, cdsOf_app, cdsOf_app, hcd, List.append_assoc]; rfl
   have hpl : ps.length = qs.length + 2 := by rw [hps]; simp
   have hpf : ps.flatMap CdV.cells = qs.flatMap CdV.cells ++ [vU ((67 : UInt8).toNat : Int), .slice (some ⟨b22, 0, none⟩) 1 1, vU ((68 : UInt8).toNat : Int), .slice (some ⟨b27, 0, none⟩) 1 1] := by rw [hps]; simp [CdV.cells]
   refine Zr (k:=Qx 3 26 (k:=Qv (k:=Wq (Zb (k:=?_)))))
   refine p_loop (fun (i : { y : ((Option Addr × Nat) × List CdV) × Nat // y.2 ≤ c.files.length ∧ cdsOf y.1.2 = cdsOf ps ++ (c.files.take y.2).map flCard }) => [(1, .pointer (some ⟨b1, 0, none⟩)), (3, .slice i.1.1.1.1 i.1.1.2.length i.1.1.1.2), (32, .slice x.fa c.files.length x.fc), (33, vI c.files.length), (34, vI i.1.2)]) (fun (i : { y : ((Option Addr × Nat) × List CdV) × Nat // y.2 ≤ c.files.length ∧ cdsOf y.1.2 = cdsOf ps ++ (c.files.take y.2).map flCard }) => [Row 109 2 (.slice i.1.1.1.1 i.1.1.2.length i.1.1.1.2) i.1.1.2.length (i.1.1.2.flatMap CdV.cells), CdM i.1.1.2, Ce b1 30 [vS c.base, vS c.comment, vI c.date, .slice x.fa c.files.length x.fc, .slice x.pa c.parents.length x.pc, .slice x.ta c.tags.length x.tc, vS c.user], Bf, SlI x.pa (c.parents.map vS), Bt]) (fun (i : { y : ((Option Addr × Nat) × List CdV) × Nat // y.2 ≤ c.files.length ∧ cdsOf y.1.2 = cdsOf ps ++ (c.files.take y.2).map flCard }) => c.files.length - i.1.2) rfl (⟨(((a30, c30), ps), 0), Nat.zero_le _, by simp⟩) ?_ ?_ (fun i => ?_)
   · exact ⟨rfl, sl_eq hpl.symm, rfl, rfl, rfl, trivial⟩
   ·
    dsimp only
    rw [hpl, hpf]
    refine Ent.trans (ent_cdm_new (qs := qs) (a := some ⟨b22, 0, none⟩) (c := 1) 67 [46 :: escB c.comment] [vS ([46] ++ escB c.comment)] HasC.get HasC.get rfl (Nat.le_refl _)) ?_
    refine Ent.trans (ent_cdm_new (qs := qs ++ [⟨67, some ⟨b22, 0, none⟩, 1, [46 :: escB c.comment]⟩]) (a := some ⟨b27, 0, none⟩) (c := 1) 68 [decN c.date.toNat] [vS (decN c.date.toNat)] HasC.get HasC.get rfl (Nat.le_refl _)) ?_
    rw [hps]
    exact ent_step (row_norm (by rfl) (by rfl)) ent_pick
   obtain ⟨⟨⟨⟨fa, fc⟩, fs⟩, j⟩, hj, hfs⟩ := i
   dsimp only at hj hfs ⊢
   have hfl := cdsLen hfs
   have hpl0 : (cdsOf ps).length = ps.length := by simp [cdsOf]
   rw [List.length_append, List.length_map, List.length_take, hpl0] at hfl
   try dsimp only
   refine Qc (k:=Vv (k:=Wq (Za (k:=Zi (t:=fun h35 => ?_) (f:=fun h35 => ?_)))))
   ·
    refine Zk (k:=Ya (Za (k:=Zb (k:=Za (k:=?_)))))
    have hjl : j < c.files.length := by omega
    obtain ⟨f, hf⟩ : ∃ f, f = c.files[j] := ⟨_, rfl⟩
    have hfz := z5 f (by rw [hf]; exact List.getElem_mem _)
    have htk : (c.files.take (j + 1)).map flCard = (c.files.take j).map flCard ++ [flCard f] := by rw [List.take_succ_eq_append_getElem hjl, List.map_append, hf]; rfl
    refine Zr (k:=Ye 2 (k:=?_))
    refine r_eloada (vs := [_, _]) (sz := 2) Tryz.underlying25 rfl ti25 rfl rfl (by rw [flat_len (sz := 2) (fun _ => rfl)]; omega) rfl (by refine get_flat (fun x => ?_) ?_ <;> first | rfl | omega) rfl ?_
    rw [← hf]
    refine Zc [vS [], vS []] (k:=fun b5 => Zp (k:=Wq (Qc (k:=Qx 0 9 (k:=Zv [_] (cs := [_]) (k:=fun b40 => Vv (k:=Wq ?_)))))))
    refine p_cut (fun (i : { y : (Option Addr × Nat) × List Bs // y.2 = (flCard f).args ∧ y.2.length ≤ y.1.2 }) => [(1, .pointer (some ⟨b1, 0, none⟩)), (3, .slice fa fs.length fc), (6, .slice i.1.1.1 i.1.2.length i.1.1.2), (32, .slice x.fa c.files.length x.fc), (33, vI c.files.length), (34, vI j)]) (fun (i : { y : (Option Addr × Nat) × List Bs // y.2 = (flCard f).args ∧ y.2.length ≤ y.1.2 }) => [SlI i.1.1.1 (i.1.2.map vS), Row 109 2 (.slice fa fs.length fc) fs.length (fs.flatMap CdV.cells), CdM fs, Ce b1 30 [vS c.base, vS c.comment, vI c.date, .slice x.fa c.files.length x.fc, .slice x.pa c.parents.length x.pc, .slice x.ta c.tags.length x.tc, vS c.user], Bf, SlI x.pa (c.parents.map vS), Bt]) rfl (fun i => ?_) ?_
    ·
     obtain ⟨⟨⟨ga, gc⟩, xs⟩, hxs, hxc⟩ := i
     dsimp only at hxs hxc ⊢
     try dsimp only
     refine Zr (k:=Qv (k:=Vx (Ps [_, _]) (k:=Zv [_] (cs := [_, _]) (k:=fun b52 => ?_))))
     refine r_append1 (sz := 2) (bytes := 32) Tryz.underlying107 ti109 rfl rfl rfl rfl rfl rfl rfl (by rfl) (by rfl) (by omega) (by simp only [maxLen]; omega) rfl (fun a53 c53 => ?_)
     refine Vv (k:=Wn (Yb (Ya (Zr (k:=Qv (k:=Wn ?_))))))
     exact zb14next0
    ·
     refine Qc (k:=Qx 1 9 (k:=Vv (k:=Wq (Zi (t:=fun h43 => ?_) (f:=fun h43 => ?_)))))
     ·
      refine Zr (k:=Vv (k:=Qx 1 9 (k:=Zv [_] (cs := [_]) (k:=fun b47 => ?_))))
      refine wo_ent' (ent_row (k := 1) (cap := 1) (sz := 1) (e := 9) (g := b40) (xs := [vS f.1]) (cur := [vS f.1]) (Nat.le_refl _) (by simp [maxLen]) rfl rfl rfl) ?_
      refine r_append1 (sz := 1) (bytes := 16) Tryz.underlying27 ti9 rfl rfl rfl rfl rfl rfl rfl (by rfl) (by rfl) (by omega) (by simp only [maxLen]; omega) rfl (fun a48 c48 => ?_)
      refine wo_know (A := Row 9 1 (.slice a48 (1 + 1) c48) (1 + 1) ([vS f.1] ++ [vS f.2])) HasC.get row_know (fun hk48 => ?_)
      refine wo_frzR a48 ?_
      rw [show ([vS f.1] ++ [vS f.2]) = ([f.1, f.2] : List Bs).map vS from rfl]
      refine Vv (k:=Wn ?_)
      exact zb14join11
     ·
      refine wc_frzC b40 ?_
      rw [show [vS f.1] = ([f.1] : List Bs).map vS from rfl]
      refine Zk (k:=?_)
      exact zb14join11
   ·
    refine Ze (k:=Xa (Xi (Xb (Ya ?_))))
    refine p_cut (fun (i : { y : (Option Addr × Nat) × List CdV // cdsOf y.2 = ckHead c }) => [(1, .pointer (some ⟨b1, 0, none⟩)), (3, .slice i.1.1.1 i.1.2.length i.1.1.2)]) (fun (i : { y : (Option Addr × Nat) × List CdV // cdsOf y.2 = ckHead c }) => [Row 109 2 (.slice i.1.1.1 i.1.2.length i.1.1.2) i.1.2.length (i.1.2.flatMap CdV.cells), CdM i.1.2, Ce b1 30 [vS c.base, vS c.comment, vI c.date, .slice x.fa c.files.length x.fc, .slice x.pa c.parents.length x.pc, .slice x.ta c.tags.length x.tc, vS c.user], Bf, SlI x.pa (c.parents.map vS), Bt]) rfl (fun i => ?_) ?_
    ·
     obtain ⟨⟨⟨ga, gc⟩, gs⟩, hgs⟩ := i
     dsimp only at hgs ⊢
     have hgl := cdsLen hgs
     have hhl : (ckHead c).length = (bCards c.base).length + 2 + c.files.length + (pCards c.parents).length := by simp [ckHead]; omega
     try dsimp only
     refine Qc (k:=Vv (k:=Qx 5 28 (k:=?_)))
     refine r_callX hTC rfl rfl rfl (fun x68 hx68 => ?_)
     obtain ⟨⟨ta, tc⟩, tqs⟩ := x68
     dsimp only [cardV, cardH] at hx68 ⊢
     have htq := cdsLen hx68
     rw [List.length_map] at htq
     refine r_appendA (sz := 2) (bytes := 32) Tryz.underlying107 ti109 rfl rfl rfl rfl rfl rfl rfl (cells_len tqs) (cells_one tqs) (by omega) (by simp only [maxLen]; omega) rfl (fun a69 c69 => ?_)
     refine Vv (k:=Wq (Qc (k:=Vv (k:=Qx 6 9 (k:=Zv [_] (cs := [_]) (k:=fun b73 => Vx (Ps [_, _]) (k:=Zv [_] (cs := [_, _]) (k:=fun b75 => ?_))))))))
     refine r_append1 (sz := 2) (bytes := 32) Tryz.underlying107 ti109 rfl rfl rfl rfl rfl rfl rfl (by rfl) (by rfl) (by omega) (by simp only [maxLen]; omega) rfl (fun a76 c76 => ?_)
     refine wo_frzC b73 ?_
     obtain ⟨al, hal⟩ : ∃ al : List CdV, al = gs ++ tqs ++ [⟨85, some ⟨b73, 0, none⟩, 1, [c.user]⟩] := ⟨_, rfl⟩
     have halc : cdsOf al = ckCards c := by rw [hal, cdsOf_app, cdsOf_app, hgs, hx68, ckHead, ckCards]; simp [cdsOf, CdV.cd]
     have hall : al.length = gs.length + tqs.length + 1 := by rw [hal]; simp; omega
     have hxx : gs.flatMap CdV.cells ++ tqs.flatMap CdV.cells ++ [vU 85, .slice (some ⟨b73, 0, none⟩) 1 1] = al.flatMap CdV.cells := by rw [hal]; simp [CdV.cells]
     have hPr := ref10_Print_sp (B := Row 109 2 (.slice a76 (gs.length + tqs.length + 1) c76) (gs.length + tqs.length + 1) (gs.flatMap CdV.cells ++ tqs.flatMap CdV.cells ++ [vU 85, .slice (some ⟨b73, 0, none⟩) 1 1])) (a := a76) (gs.length + tqs.length + 1) c76 al (by rw [← hxx]; exact sla_row) hall (by rw [halc]; omega)
     rw [halc] at hPr
     refine wo_ent' (ent_cdm_app (qs := gs) (rs := tqs) HasC.get HasC.get) ?_
     refine wo_ent' (ent_cdm_new (qs := gs ++ tqs) (a := some ⟨b73, 0, none⟩) (c := 1) 85 [c.user] [vS c.user] HasC.get HasC.get rfl (Nat.le_refl _)) ?_
     rw [← hal]
     refine r_call1 hPr rfl rfl rfl ?_
     refine Vv (k:=Wq (Zt (k:=?_)))
     exact zb14ret16
    ·
     refine Za (k:=?_)
     have hjl : j = c.files.length := by omega
     subst hjl
     rw [List.take_length, hpcd] at hfs
     refine Zr (k:=Qx 4 27 (k:=Qv (k:=Wq (Zi (t:=fun h58 => ?_) (f:=fun h58 => ?_)))))
     ·
      refine Zr (k:=Vv (k:=Qx 4 27 (k:=Vx (Ps [_, _]) (k:=Zv [_] (cs := [_, _]) (k:=fun b63 => ?_)))))
      refine r_append1 (sz := 2) (bytes := 32) Tryz.underlying107 ti109 rfl rfl rfl rfl rfl rfl rfl (by rfl) (by rfl) (by omega) (by simp only [maxLen]; omega) rfl (fun a64 c64 => ?_)
      refine Vv (k:=Wn ?_)
      exact zb14join15
     ·
      refine Zk (k:=?_)
      exact zb14join15
  ·
   refine an_callF hDec rfl rfl rfl ?_
   refine d_next2 5 10 (by kernel_rfl) rfl rfl ?_ ?_
   ·
    refine Nl [_] (cs := [_]) (k:=fun b22 => Di 6 (t:=Ux (Ps [_, _])) (k:=Dn 10 (k:=Nl [_] (cs := [_]) (k:=fun b27 => Di 11 (t:=Ux (Ps [_, _])) (k:=Dn 12 (k:=Nl [_, _] (cs := [_, _, _, _]) (k:=fun b29 => Dn 13 (k:=?_))))))))
    refine an_append1 (sz := 2) (bytes := 32) Tryz.underlying107 ti109 rfl rfl rfl rfl rfl rfl rfl (by rfl) (by rfl) (by omega) (by simp only [maxLen]; omega) rfl (fun a30 c30 => ?_)
    refine Dv 14 (k:=Dd (k:=Ya (Za (k:=Za (k:=?_)))))
    refine wc_frzC b22 ?_
    refine wc_frzC b27 ?_
    obtain ⟨ps, hps⟩ : ∃ ps : List CdV, ps = qs ++ [⟨67, some ⟨b22, 0, none⟩, 1, [46 :: escB c.comment]⟩] ++ [⟨68, some ⟨b27, 0, none⟩, 1, [decN c.date.toNat]⟩] := ⟨_, rfl⟩
    have hpcd : cdsOf ps = bCards c.base ++ [⟨67, [46 :: escB c.comment]⟩, ⟨68, [decN c.date.toNat]⟩] := by rw [hps, cdsOf_app, cdsOf_app, hcd, List.append_assoc]; rfl
    have hpl : ps.length = qs.length + 2 := by rw [hps]; simp
    have hpf : ps.flatMap CdV.cells = qs.flatMap CdV.cells ++ [vU ((67 : UInt8).toNat : Int), .slice (some ⟨b22, 0, none⟩) 1 1, vU ((68 : UInt8).toNat : Int), .slice (some ⟨b27, 0, none⟩) 1 1] := by rw [hps]; simp [CdV.cells]
    refine Zr (k:=Qx 3 26 (k:=Qv (k:=Wq (Zb (k:=?_)))))
    refine p_loop (fun (i : { y : ((Option Addr × Nat) × List CdV) × Nat // y.2 ≤ c.files.length ∧ cdsOf y.1.2 = cdsOf ps ++ (c.files.take y.2).map flCard }) => [(1, .pointer (some ⟨b1, 0, none⟩)), (3, .slice i.1.1.1.1 i.1.1.2.length i.1.1.1.2), (32, .slice x.fa c.files.length x.fc), (33, vI c.files.length), (34, vI i.1.2)]) (fun (i : { y : ((Option Addr × Nat) × List CdV) × Nat // y.2 ≤ c.files.length ∧ cdsOf y.1.2 = cdsOf ps ++ (c.files.take y.2).map flCard }) => [Row 109 2 (.slice i.1.1.1.1 i.1.1.2.length i.1.1.1.2) i.1.1.2.length (i.1.1.2.flatMap CdV.cells), CdM i.1.1.2, Ce b1 30 [vS c.base, vS c.comment, vI c.date, .slice x.fa c.files.length x.fc, .slice x.pa c.parents.length x.pc, .slice x.ta c.tags.length x.tc, vS c.user], Bf, SlI x.pa (c.parents.map vS), Bt]) (fun (i : { y : ((Option Addr × Nat) × List CdV) × Nat // y.2 ≤ c.files.length ∧ cdsOf y.1.2 = cdsOf ps ++ (c.files.take y.2).map flCard }) => c.files.length - i.1.2) rfl (⟨(((a30, c30), ps), 0), Nat.zero_le _, by simp⟩) ?_ ?_ (fun i => ?_)
    · exact ⟨rfl, sl_eq hpl.symm, rfl, rfl, rfl, trivial⟩
    ·
     dsimp only
     rw [hpl, hpf]
     refine Ent.trans (ent_cdm_new (qs := qs) (a := some ⟨b22, 0, none⟩) (c := 1) 67 [46 :: escB c.comment] [vS ([46] ++ escB c.comment)] HasC.get HasC.get rfl (Nat.le_refl _)) ?_
     refine Ent.trans (ent_cdm_new (qs := qs ++ [⟨67, some ⟨b22, 0, none⟩, 1, [46 :: escB c.comment]⟩]) (a := some ⟨b27, 0, none⟩) (c := 1) 68 [decN c.date.toNat] [vS (decN c.date.toNat)] HasC.get HasC.get rfl (Nat.le_refl _)) ?_
     rw [hps]
     exact ent_step (row_norm (by rfl) (by rfl)) ent_pick
    obtain ⟨⟨⟨⟨fa, fc⟩, fs⟩, j⟩, hj, hfs⟩ := i
    dsimp only at hj hfs ⊢
    have hfl := cdsLen hfs
    have hpl0 : (cdsOf ps).length = ps.length := by simp [cdsOf]
    rw [List.length_append, List.length_map, List.length_take, hpl0] at hfl
    try dsimp only
    refine Qc (k:=Vv (k:=Wq (Za (k:=Zi (t:=fun h35 => ?_) (f:=fun h35 => ?_)))))
    ·
     refine Zk (k:=Ya (Za (k:=Zb (k:=Za (k:=?_)))))
     have hjl : j < c.files.length := by omega
     obtain ⟨f, hf⟩ : ∃ f, f = c.files[j] := ⟨_, rfl⟩
     have hfz := z5 f (by rw [hf]; exact List.getElem_mem _)
     have htk : (c.files.take (j + 1)).map flCard = (c.files.take j).map flCard ++ [flCard f] := by rw [List.take_succ_eq_append_getElem hjl, List.map_append, hf]; rfl
     refine Zr (k:=Ye 2 (k:=?_))
     refine r_eloada (vs := [_, _]) (sz := 2) Tryz.underlying25 rfl ti25 rfl rfl (by rw [flat_len (sz := 2) (fun _ => rfl)]; omega) rfl (by refine get_flat (fun x => ?_) ?_ <;> first | rfl | omega) rfl ?_
     rw [← hf]
     refine Zc [vS [], vS []] (k:=fun b5 => Zp (k:=Wq (Qc (k:=Qx 0 9 (k:=Zv [_] (cs := [_]) (k:=fun b40 => Vv (k:=Wq ?_)))))))
     refine p_cut (fun (i : { y : (Option Addr × Nat) × List Bs // y.2 = (flCard f).args ∧ y.2.length ≤ y.1.2 }) => [(1, .pointer (some ⟨b1, 0, none⟩)), (3, .slice fa fs.length fc), (6, .slice i.1.1.1 i.1.2.length i.1.1.2), (32, .slice x.fa c.files.length x.fc), (33, vI c.files.length), (34, vI j)]) (fun (i : { y : (Option Addr × Nat) × List Bs // y.2 = (flCard f).args ∧ y.2.length ≤ y.1.2 }) => [SlI i.1.1.1 (i.1.2.map vS), Row 109 2 (.slice fa fs.length fc) fs.length (fs.flatMap CdV.cells), CdM fs, Ce b1 30 [vS c.base, vS c.comment, vI c.date, .slice x.fa c.files.length x.fc, .slice x.pa c.parents.length x.pc, .slice x.ta c.tags.length x.tc, vS c.user], Bf, SlI x.pa (c.parents.map vS), Bt]) rfl (fun i => ?_) ?_
     ·
      obtain ⟨⟨⟨ga, gc⟩, xs⟩, hxs, hxc⟩ := i
      dsimp only at hxs hxc ⊢
      try dsimp only
      refine Zr (k:=Qv (k:=Vx (Ps [_, _]) (k:=Zv [_] (cs := [_, _]) (k:=fun b52 => ?_))))
      refine r_append1 (sz := 2) (bytes := 32) Tryz.underlying107 ti109 rfl rfl rfl rfl rfl rfl rfl (by rfl) (by rfl) (by omega) (by simp only [maxLen]; omega) rfl (fun a53 c53 => ?_)
      refine Vv (k:=Wn (Yb (Ya (Zr (k:=Qv (k:=Wn ?_))))))
      exact zb14next0
     ·
      refine Qc (k:=Qx 1 9 (k:=Vv (k:=Wq (Zi (t:=fun h43 => ?_) (f:=fun h43 => ?_)))))
      ·
       refine Zr (k:=Vv (k:=Qx 1 9 (k:=Zv [_] (cs := [_]) (k:=fun b47 => ?_))))
       refine wo_ent' (ent_row (k := 1) (cap := 1) (sz := 1) (e := 9) (g := b40) (xs := [vS f.1]) (cur := [vS f.1]) (Nat.le_refl _) (by simp [maxLen]) rfl rfl rfl) ?_
       refine r_append1 (sz := 1) (bytes := 16) Tryz.underlying27 ti9 rfl rfl rfl rfl rfl rfl rfl (by rfl) (by rfl) (by omega) (by simp only [maxLen]; omega) rfl (fun a48 c48 => ?_)
       refine wo_know (A := Row 9 1 (.slice a48 (1 + 1) c48) (1 + 1) ([vS f.1] ++ [vS f.2])) HasC.get row_know (fun hk48 => ?_)
       refine wo_frzR a48 ?_
       rw [show ([vS f.1] ++ [vS f.2]) = ([f.1, f.2] : List Bs).map vS from rfl]
       refine Vv (k:=Wn ?_)
       exact zb14join11
      ·
       refine wc_frzC b40 ?_
       rw [show [vS f.1] = ([f.1] : List Bs).map vS from rfl]
       refine Zk (k:=?_)
       exact zb14join11
    ·
     refine Ze (k:=Xa (Xi (Xb (Ya ?_))))
     refine p_cut (fun (i : { y : (Option Addr × Nat) × List CdV // cdsOf y.2 = ckHead c }) => [(1, .pointer (some ⟨b1, 0, none⟩)), (3, .slice i.1.1.1 i.1.2.length i.1.1.2)]) (fun (i : { y : (Option Addr × Nat) × List CdV // cdsOf y.2 = ckHead c }) => [Row 109 2 (.slice i.1.1.1 i.1.2.length i.1.1.2) i.1.2.length (i.1.2.flatMap CdV.cells), CdM i.1.2, Ce b1 30 [vS c.base, vS c.comment, vI c.date, .slice x.fa c.files.length x.fc, .slice x.pa c.parents.length x.pc, .slice x.ta c.tags.length x.tc, vS c.user], Bf, SlI x.pa (c.parents.map vS), Bt]) rfl (fun i => ?_) ?_
     ·
      obtain ⟨⟨⟨ga, gc⟩, gs⟩, hgs⟩ := i
      dsimp only at hgs ⊢
      have hgl := cdsLen hgs
      have hhl : (ckHead c).length = (bCards c.base).length + 2 + c.files.length + (pCards c.parents).length := by simp [ckHead]; omega
      try dsimp only
      refine Qc (k:=Vv (k:=Qx 5 28 (k:=?_)))
      refine r_callX hTC rfl rfl rfl (fun x68 hx68 => ?_)
      obtain ⟨⟨ta, tc⟩, tqs⟩ := x68
      dsimp only [cardV, cardH] at hx68 ⊢
      have htq := cdsLen hx68
      rw [List.length_map] at htq
      refine r_appendA (sz := 2) (bytes := 32) Tryz.underlying107 ti109 rfl rfl rfl rfl rfl rfl rfl (cells_len tqs) (cells_one tqs) (by omega) (by simp only [maxLen]; omega) rfl (fun a69 c69 => ?_)
      refine Vv (k:=Wq (Qc (k:=Vv (k:=Qx 6 9 (k:=Zv [_] (cs := [_]) (k:=fun b73 => Vx (Ps [_, _]) (k:=Zv [_] (cs := [_, _]) (k:=fun b75 => ?_))))))))
      refine r_append1 (sz := 2) (bytes := 32) Tryz.underlying107 ti109 rfl rfl rfl rfl rfl rfl rfl (by rfl) (by rfl) (by omega) (by simp only [maxLen]; omega) rfl (fun a76 c76 => ?_)
      refine wo_frzC b73 ?_
      obtain ⟨al, hal⟩ : ∃ al : List CdV, al = gs ++ tqs ++ [⟨85, some ⟨b73, 0, none⟩, 1, [c.user]⟩] := ⟨_, rfl⟩
      have halc : cdsOf al = ckCards c := by rw [hal, cdsOf_app, cdsOf_app, hgs, hx68, ckHead, ckCards]; simp [cdsOf, CdV.cd]
      have hall : al.length = gs.length + tqs.length + 1 := by rw [hal]; simp; omega
      have hxx : gs.flatMap CdV.cells ++ tqs.flatMap CdV.cells ++ [vU 85, .slice (some ⟨b73, 0, none⟩) 1 1] = al.flatMap CdV.cells := by rw [hal]; simp [CdV.cells]
      have hPr := ref10_Print_sp (B := Row 109 2 (.slice a76 (gs.length + tqs.length + 1) c76) (gs.length + tqs.length + 1) (gs.flatMap CdV.cells ++ tqs.flatMap CdV.cells ++ [vU 85, .slice (some ⟨b73, 0, none⟩) 1 1])) (a := a76) (gs.length + tqs.length + 1) c76 al (by rw [← hxx]; exact sla_row) hall (by rw [halc]; omega)
      rw [halc] at hPr
      refine wo_ent' (ent_cdm_app (qs := gs) (rs := tqs) HasC.get HasC.get) ?_
      refine wo_ent' (ent_cdm_new (qs := gs ++ tqs) (a := some ⟨b73, 0, none⟩) (c := 1) 85 [c.user] [vS c.user] HasC.get HasC.get rfl (Nat.le_refl _)) ?_
      rw [← hal]
      refine r_call1 hPr rfl rfl rfl ?_
      refine Vv (k:=Wq (Zt (k:=?_)))
      exact zb14ret16
     ·
      refine Za (k:=?_)
      have hjl : j = c.files.length := by omega
      subst hjl
      rw [List.take_length, hpcd] at hfs
      refine Zr (k:=Qx 4 27 (k:=Qv (k:=Wq (Zi (t:=fun h58 => ?_) (f:=fun h58 => ?_)))))
      ·
       refine Zr (k:=Vv (k:=Qx 4 27 (k:=Vx (Ps [_, _]) (k:=Zv [_] (cs := [_, _]) (k:=fun b63 => ?_)))))
       refine r_append1 (sz := 2) (bytes := 32) Tryz.underlying107 ti109 rfl rfl rfl rfl rfl rfl rfl (by rfl) (by rfl) (by omega) (by simp only [maxLen]; omega) rfl (fun a64 c64 => ?_)
       refine Vv (k:=Wn ?_)
       exact zb14join15
      ·
       refine Zk (k:=?_)
       exact zb14join15
   ·
    refine Nl [_] (cs := [_]) (k:=fun b27 => Di 11 (t:=Ux (Ps [_, _])) (k:=Dn 5 (k:=Nl [_] (cs := [_]) (k:=fun b22 => Di 6 (t:=Ux (Ps [_, _])) (k:=Dn 12 (k:=Nl [_, _] (cs := [_, _, _, _]) (k:=fun b29 => Dn 13 (k:=?_))))))))
    refine an_append1 (sz := 2) (bytes := 32) Tryz.underlying107 ti109 rfl rfl rfl rfl rfl rfl rfl (by rfl) (by rfl) (by omega) (by simp only [maxLen]; omega) rfl (fun a30 c30 => ?_)
    refine Dv 14 (k:=Dd (k:=Ya (Za (k:=Za (k:=?_)))))
    refine wc_frzC b22 ?_
    refine wc_frzC b27 ?_
    obtain ⟨ps, hps⟩ : ∃ ps : List CdV, ps = qs ++ [⟨67, some ⟨b22, 0, none⟩, 1, [46 :: escB c.comment]⟩] ++ [⟨68, some ⟨b27, 0, none⟩, 1, [decN c.date.toNat]⟩] := ⟨_, rfl⟩
    have hpcd : cdsOf ps = bCards c.base ++ [⟨67, [46 :: escB c.comment]⟩, ⟨68, [decN c.date.toNat]⟩] := by rw [hps, cdsOf_app, cdsOf_app, hcd, List.append_assoc]; rfl
    have hpl : ps.length = qs.length + 2 := by rw [hps]; simp
    have hpf : ps.flatMap CdV.cells = qs.flatMap CdV.cells ++ [vU ((67 : UInt8).toNat : Int), .slice (some ⟨b22, 0, none⟩) 1 1, vU ((68 : UInt8).toNat : Int), .slice (some ⟨b27, 0, none⟩) 1 1] := by rw [hps]; simp [CdV.cells]
    refine Zr (k:=Qx 3 26 (k:=Qv (k:=Wq (Zb (k:=?_)))))
    refine p_loop (fun (i : { y : ((Option Addr × Nat) × List CdV) × Nat // y.2 ≤ c.files.length ∧ cdsOf y.1.2 = cdsOf ps ++ (c.files.take y.2).map flCard }) => [(1, .pointer (some ⟨b1, 0, none⟩)), (3, .slice i.1.1.1.1 i.1.1.2.length i.1.1.1.2), (32, .slice x.fa c.files.length x.fc), (33, vI c.files.length), (34, vI i.1.2)]) (fun (i : { y : ((Option Addr × Nat) × List CdV) × Nat // y.2 ≤ c.files.length ∧ cdsOf y.1.2 = cdsOf ps ++ (c.files.take y.2).map flCard }) => [Row 109 2 (.slice i.1.1.1.1 i.1.1.2.length i.1.1.1.2) i.1.1.2.length (i.1.1.2.flatMap CdV.cells), CdM i.1.1.2, Ce b1 30 [vS c.base, vS c.comment, vI c.date, .slice x.fa c.files.length x.fc, .slice x.pa c.parents.length x.pc, .slice x.ta c.tags.length x.tc, vS c.user], Bf, SlI x.pa (c.parents.map vS), Bt]) (fun (i : { y : ((Option Addr × Nat) × List CdV) × Nat // y.2 ≤ c.files.length ∧ cdsOf y.1.2 = cdsOf ps ++ (c.files.take y.2).map flCard }) => c.files.length - i.1.2) rfl (⟨(((a30, c30), ps), 0), Nat.zero_le _, by simp⟩) ?_ ?_ (fun i => ?_)
    · exact ⟨rfl, sl_eq hpl.symm, rfl, rfl, rfl, trivial⟩
    ·
     dsimp only
     rw [hpl, hpf]
     refine Ent.trans (ent_cdm_new (qs := qs) (a := some ⟨b22, 0, none⟩) (c := 1) 67 [46 :: escB c.comment] [vS ([46] ++ escB c.comment)] HasC.get HasC.get rfl (Nat.le_refl _)) ?_
     refine Ent.trans (ent_cdm_new (qs := qs ++ [⟨67, some ⟨b22, 0, none⟩, 1, [46 :: escB c.comment]⟩]) (a := some ⟨b27, 0, none⟩) (c := 1) 68 [decN c.date.toNat] [vS (decN c.date.toNat)] HasC.get HasC.get rfl (Nat.le_refl _)) ?_
     rw [hps]
     exact ent_step (row_norm (by rfl) (by rfl)) ent_pick
    obtain ⟨⟨⟨⟨fa, fc⟩, fs⟩, j⟩, hj, hfs⟩ := i
    dsimp only at hj hfs ⊢
    have hfl := cdsLen hfs
    have hpl0 : (cdsOf ps).length = ps.length := by simp [cdsOf]
    rw [List.length_append, List.length_map, List.length_take, hpl0] at hfl
    try dsimp only
    refine Qc (k:=Vv (k:=Wq (Za (k:=Zi (t:=fun h35 => ?_) (f:=fun h35 => ?_)))))
    ·
     refine Zk (k:=Ya (Za (k:=Zb (k:=Za (k:=?_)))))
     have hjl : j < c.files.length := by omega
     obtain ⟨f, hf⟩ : ∃ f, f = c.files[j] := ⟨_, rfl⟩
     have hfz := z5 f (by rw [hf]; exact List.getElem_mem _)
     have htk : (c.files.take (j + 1)).map flCard = (c.files.take j).map flCard ++ [flCard f] := by rw [List.take_succ_eq_append_getElem hjl, List.map_append, hf]; rfl
     refine Zr (k:=Ye 2 (k:=?_))
     refine r_eloada (vs := [_, _]) (sz := 2) Tryz.underlying25 rfl ti25 rfl rfl (by rw [flat_len (sz := 2) (fun _ => rfl)]; omega) rfl (by refine get_flat (fun x => ?_) ?_ <;> first | rfl | omega) rfl ?_
     rw [← hf]
     refine Zc [vS [], vS []] (k:=fun b5 => Zp (k:=Wq (Qc (k:=Qx 0 9 (k:=Zv [_] (cs := [_]) (k:=fun b40 => Vv (k:=Wq ?_)))))))
     refine p_cut (fun (i : { y : (Option Addr × Nat) × List Bs // y.2 = (flCard f).args ∧ y.2.length ≤ y.1.2 }) => [(1, .pointer (some ⟨b1, 0, none⟩)), (3, .slice fa fs.length fc), (6, .slice i.1.1.1 i.1.2.length i.1.1.2), (32, .slice x.fa c.files.length x.fc), (33, vI c.files.length), (34, vI j)]) (fun (i : { y : (Option Addr × Nat) × List Bs // y.2 = (flCard f).args ∧ y.2.length ≤ y.1.2 }) => [SlI i.1.1.1 (i.1.2.map vS), Row 109 2 (.slice fa fs.length fc) fs.length (fs.flatMap CdV.cells), CdM fs, Ce b1 30 [vS c.base, vS c.comment, vI c.date, .slice x.fa c.files.length x.fc, .slice x.pa c.parents.length x.pc, .slice x.ta c.tags.length x.tc, vS c.user], Bf, SlI x.pa (c.parents.map vS), Bt]) rfl (fun i => ?_) ?_
     ·
      obtain ⟨⟨⟨ga, gc⟩, xs⟩, hxs, hxc⟩ := i
      dsimp only at hxs hxc ⊢
      try dsimp only
      refine Zr (k:=Qv (k:=Vx (Ps [_, _]) (k:=Zv [_] (cs := [_, _]) (k:=fun b52 => ?_))))
      refine r_append1 (sz := 2) (bytes := 32) Tryz.underlying107 ti109 rfl rfl rfl rfl rfl rfl rfl (by rfl) (by rfl) (by omega) (by simp only [maxLen]; omega) rfl (fun a53 c53 => ?_)
      refine Vv (k:=Wn (Yb (Ya (Zr (k:=Qv (k:=Wn ?_))))))
      exact zb14next0
     ·
      refine Qc (k:=Qx 1 9 (k:=Vv (k:=Wq (Zi (t:=fun h43 => ?_) (f:=fun h43 => ?_)))))
      ·
       refine Zr (k:=Vv (k:=Qx 1 9 (k:=Zv [_] (cs := [_]) (k:=fun b47 => ?_))))
       refine wo_ent' (ent_row (k := 1) (cap := 1) (sz := 1) (e := 9) (g := b40) (xs := [vS f.1]) (cur := [vS f.1]) (Nat.le_refl _) (by simp [maxLen]) rfl rfl rfl) ?_
       refine r_append1 (sz := 1) (bytes := 16) Tryz.underlying27 ti9 rfl rfl rfl rfl rfl rfl rfl (by rfl) (by rfl) (by omega) (by simp only [maxLen]; omega) rfl (fun a48 c48 => ?_)
       refine wo_know (A := Row 9 1 (.slice a48 (1 + 1) c48) (1 + 1) ([vS f.1] ++ [vS f.2])) HasC.get row_know (fun hk48 => ?_)
       refine wo_frzR a48 ?_
       rw [show ([vS f.1] ++ [vS f.2]) = ([f.1, f.2] : List Bs).map vS from rfl]
       refine Vv (k:=Wn ?_)
       exact zb14join11
      ·
       refine wc_frzC b40 ?_
       rw [show [vS f.1] = ([f.1] : List Bs).map vS from rfl]
       refine Zk (k:=?_)
       exact zb14join11
    ·
     refine Ze (k:=Xa (Xi (Xb (Ya ?_))))
     refine p_cut (fun (i : { y : (Option Addr × Nat) × List CdV // cdsOf y.2 = ckHead c }) => [(1, .pointer (some ⟨b1, 0, none⟩)), (3, .slice i.1.1.1 i.1.2.length i.1.1.2)]) (fun (i : { y : (Option Addr × Nat) × List CdV // cdsOf y.2 = ckHead c }) => [Row 109 2 (.slice i.1.1.1 i.1.2.length i.1.1.2) i.1.2.length (i.1.2.flatMap CdV.cells), CdM i.1.2, Ce b1 30 [vS c.base, vS c.comment, vI c.date, .slice x.fa c.files.length x.fc, .slice x.pa c.parents.length x.pc, .slice x.ta c.tags.length x.tc, vS c.user], Bf, SlI x.pa (c.parents.map vS), Bt]) rfl (fun i => ?_) ?_
     ·
      obtain ⟨⟨⟨ga, gc⟩, gs⟩, hgs⟩ := i
      dsimp only at hgs ⊢
      have hgl := cdsLen hgs
      have hhl : (ckHead c).length = (bCards c.base).length + 2 + c.files.length + (pCards c.parents).length := by simp [ckHead]; omega
      try dsimp only
      refine Qc (k:=Vv (k:=Qx 5 28 (k:=?_)))
      refine r_callX hTC rfl rfl rfl (fun x68 hx68 => ?_)
      obtain ⟨⟨ta, tc⟩, tqs⟩ := x68
      dsimp only [cardV, cardH] at hx68 ⊢
      have htq := cdsLen hx68
      rw [List.length_map] at htq
      refine r_appendA (sz := 2) (bytes := 32) Tryz.underlying107 ti109 rfl rfl rfl rfl rfl rfl rfl (cells_len tqs) (cells_one tqs) (by omega) (by simp only [maxLen]; omega) rfl (fun a69 c69 => ?_)
      refine Vv (k:=Wq (Qc (k:=Vv (k:=Qx 6 9 (k:=Zv [_] (cs := [_]) (k:=fun b73 => Vx (Ps [_, _]) (k:=Zv [_] (cs := [_, _]) (k:=fun b75 => ?_))))))))
      refine r_append1 (sz := 2) (bytes := 32) Tryz.underlying107 ti109 rfl rfl rfl rfl rfl rfl rfl (by rfl) (by rfl) (by omega) (by simp only [maxLen]; omega) rfl (fun a76 c76 => ?_)
      refine wo_frzC b73 ?_
      obtain ⟨al, hal⟩ : ∃ al : List CdV, al = gs ++ tqs ++ [⟨85, some ⟨b73, 0, none⟩, 1, [c.user]⟩] := ⟨_, rfl⟩
      have halc : cdsOf al = ckCards c := by rw [hal, cdsOf_app, cdsOf_app, hgs, hx68, ckHead, ckCards]; simp [cdsOf, CdV.cd]
      have hall : al.length = gs.length + tqs.length + 1 := by rw [hal]; simp; omega
      have hxx : gs.flatMap CdV.cells ++ tqs.flatMap CdV.cells ++ [vU 85, .slice (some ⟨b73, 0, none⟩) 1 1] = al.flatMap CdV.cells := by rw [hal]; simp [CdV.cells]
      have hPr := ref10_Print_sp (B := Row 109 2 (.slice a76 (gs.length + tqs.length + 1) c76) (gs.length + tqs.length + 1) (gs.flatMap CdV.cells ++ tqs.flatMap CdV.cells ++ [vU 85, .slice (some ⟨b73, 0, none⟩) 1 1])) (a := a76) (gs.length + tqs.length + 1) c76 al (by rw [← hxx]; exact sla_row) hall (by rw [halc]; omega)
      rw [halc] at hPr
      refine wo_ent' (ent_cdm_app (qs := gs) (rs := tqs) HasC.get HasC.get) ?_
      refine wo_ent' (ent_cdm_new (qs := gs ++ tqs) (a := some ⟨b73, 0, none⟩) (c := 1) 85 [c.user] [vS c.user] HasC.get HasC.get rfl (Nat.le_refl _)) ?_
      rw [← hal]
      refine r_call1 hPr rfl rfl rfl ?_
      refine Vv (k:=Wq (Zt (k:=?_)))
      exact zb14ret16
     ·
      refine Za (k:=?_)
      have hjl : j = c.files.length := by omega
      subst hjl
      rw [List.take_length, hpcd] at hfs
      refine Zr (k:=Qx 4 27 (k:=Qv (k:=Wq (Zi (t:=fun h58 => ?_) (f:=fun h58 => ?_)))))
      ·
       refine Zr (k:=Vv (k:=Qx 4 27 (k:=Vx (Ps [_, _]) (k:=Zv [_] (cs := [_, _]) (k:=fun b63 => ?_)))))
       refine r_append1 (sz := 2) (bytes := 32) Tryz.underlying107 ti109 rfl rfl rfl rfl rfl rfl rfl (by rfl) (by rfl) (by omega) (by simp only [maxLen]; omega) rfl (fun a64 c64 => ?_)
       refine Vv (k:=Wn ?_)
       exact zb14join15
      ·
       refine Zk (k:=?_)
       exact zb14join15
 ·
  refine Za (k:=?_)
  refine wc_ent' (row_nil (e := 109) (sz := 2)) ?_
  refine Zr (k:=Qx 0 9 (k:=Vv (k:=Wq (Zi (t:=fun h9 => ?_) (f:=fun h9 => ?_)))))
  ·
   refine Zr (k:=Vv (k:=Qx 0 9 (k:=Zv [_] (cs := [_]) (k:=fun b13 => Vx (Ps [_, _]) (k:=Zv [_] (cs := [_, _]) (k:=fun b15 => ?_))))))
   refine r_append1 (sz := 2) (bytes := 32) Tryz.underlying107 ti109 rfl rfl rfl rfl rfl rfl rfl (by rfl) (by rfl) (by omega) (by simp only [maxLen]; omega) rfl (fun a16 c16 => ?_)
   refine wo_frzC b13 ?_
   refine Vv (k:=Wn ?_)
   exact zb14join4
  ·
   refine Zk (k:=?_)
   exact zb14join4
end
section
set_option maxRecDepth 100000
theorem argsOf_take (x : UInt8) (qs : List CdV) {j : Nat} (h : j < qs.length) : argsOf x (cdsOf (qs.take (j + 1))) = argsOf x (cdsOf (qs.take j)) ++ if qs[j].l = x then [qs[j].args] else [] := by
 rw [List.take_succ_eq_append_getElem h, cdsOf_app]
 simp only [argsOf, cdsOf, List.filter_append, List.map_append, List.map_cons, List.map_nil]
 congr 1
 by_cases e : qs[j].l = x
 · simp [CdV.cd, e]
 · simp [CdV.cd, e]
theorem readT_len {l : List (List Bs)} {ts : List Tg} (h : readT l = some ts) : ts.length = l.length := by
 induction l generalizing ts with
 | nil => cases h; rfl
 | cons x l ih =>
   simp only [readT] at h
   split at h
   · cases h
   · cases e : readT l with
     | none => rw [e] at h; cases h
     | some us => rw [e] at h; cases h; simp [ih e]
theorem argsOf_len_le (x : UInt8) (l : List Cd) : (argsOf x l).length ≤ l.length := by
 simp only [argsOf, List.length_map]; exact List.length_filter_le _ _
/-- A tag that does not read spoils all. -/
theorem readT_bad_at {qs : List CdV} {j : Nat} (h : j < qs.length) (hl : qs[j].l = 84) (hb : tgOf qs[j].args = none) : readT (argsOf 84 (cdsOf qs)) = none := by
 have e : qs = qs.take (j + 1) ++ qs.drop (j + 1) := (List.take_append_drop _ _).symm
 rw [e, cdsOf_app]
 have : argsOf 84 (cdsOf (qs.take (j + 1)) ++ cdsOf (qs.drop (j + 1))) = argsOf 84 (cdsOf (qs.take j)) ++ qs[j].args :: argsOf 84 (cdsOf (qs.drop (j + 1))) := by
  rw [show argsOf 84 (cdsOf (qs.take (j + 1)) ++ cdsOf (qs.drop (j + 1))) = argsOf 84 (cdsOf (qs.take (j + 1))) ++ argsOf 84 (cdsOf (qs.drop (j + 1))) from by simp [argsOf], argsOf_take 84 qs h, if_pos hl]
  simp
 rw [this]
 exact readT_bad hb
theorem zb107next0 {G : Prop} (h : G := by
    first
    | (have hn84 : ql ≠ 84 := fun e => h18 (by rw [e]; rfl)
       rw [if_neg hn84, List.append_nil] at hat
       exact to_inv ⟨(((ta, tc), ts), j + 1), by dsimp only; omega, by dsimp only; rw [hat]; exact hts⟩ (by dsimp only; omega) ⟨rfl, rfl, rfl, rfl, trivial⟩ ent_pick)
    | (have hg := readT_good hts htg
       rw [← hat] at hg
       have hql2 : ∀ t : Tg, (ts ++ [t]).length = ts.length + 1 := fun t => by simp
       refine to_inv ⟨(((a71, c71), _), j + 1), by dsimp only; omega, hg⟩ (by dsimp only; omega) ⟨sl_eq (hql2 _).symm, rfl, rfl, rfl, trivial⟩ ?_
       dsimp only
       rw [hql2]
       exact ent_step (row_norm (by rfl) (by simp [tgCells])) ent_pick)) : G := h
theorem zb107ret7 {G : Prop} (h : G := by
    have hb : readT (argsOf 84 (cdsOf qs)) = none := hbadat hl84 (by rw [htg, if_pos (by omega)])
    rw [hb]
    refine fin_ret ((none, 0), []) (vs := [_, _]) (Cs := []) rfl (.tmp rfl (.tmp rfl .nil)) rfl rfl ?_
    exact (row_nil (e := 66) (sz := 4)).trans (show Ent _ [Row 66 4 (.slice none 0 0) 0 [], B] from ent_pick)) : G := h
set_option maxHeartbeats 2000000 in
theorem ref10_readOps_sp {B : HP} {a : Option Addr} (n cap : Nat) (qs : List CdV) (sh : SlA B a (qs.flatMap CdV.cells)) (hn : qs.length = n) (hz : (bodyB (cdsOf qs)).length ≤ 1073741824) :
    Sp Tryz.prog 107 [.slice a n cap] [B, CdM qs] (X := (Option Addr × Nat) × List Tg) (fun x => .tuple #[tagV x, vB (readT (argsOf 84 (cdsOf qs))).isSome]) (fun x => x.2 = (readT (argsOf 84 (cdsOf qs))).getD []) (fun x => [tagH x, B]) := by
 subst hn
 obtain ⟨hqn, hqz⟩ := cds_sizes hz
 haveI : RdSl a (qs.flatMap CdV.cells) [B, CdM qs] := ⟨⟨B, sh, .here⟩⟩
 refine Sp.body (n := 74) Tryz.call107 Tryz.func107 rfl rfl rfl ?_
 refine Qc (k:=Qv (k:=Wq (Qc (k:=Vv (k:=Wq (Za (k:=Qc (k:=?_))))))))
 refine Qv (k:=Vv (k:=Wq (Zb (k:=?_))))
 refine p_loop (fun (i : { x : ((Option Addr × Nat) × List Tg) × Nat // x.2 ≤ qs.length ∧ readT (argsOf 84 (cdsOf (qs.take x.2))) = some x.1.2 }) => [(4, .slice i.1.1.1.1 i.1.1.2.length i.1.1.1.2), (10, .slice a qs.length cap), (11, vI qs.length), (12, vI i.1.2)]) (fun (i : { x : ((Option Addr × Nat) × List Tg) × Nat // x.2 ≤ qs.length ∧ readT (argsOf 84 (cdsOf (qs.take x.2))) = some x.1.2 }) => [Row 66 4 (.slice i.1.1.1.1 i.1.1.2.length i.1.1.1.2) i.1.1.2.length (i.1.1.2.flatMap tgCells), B, CdM qs]) (fun (i : { x : ((Option Addr × Nat) × List Tg) × Nat // x.2 ≤ qs.length ∧ readT (argsOf 84 (cdsOf (qs.take x.2))) = some x.1.2 }) => qs.length - i.1.2) rfl (⟨(((none, 0), []), 0), Nat.zero_le _, rfl⟩) ?_ ?_ (fun i => ?_)
 · exact ⟨rfl, rfl, rfl, rfl, trivial⟩
 ·
  exact (row_nil (e := 66) (sz := 4)).trans (show Ent _ [Row 66 4 (.slice none 0 0) 0 [], B, CdM qs] from ent_pick)
 obtain ⟨⟨⟨⟨ta, tc⟩, ts⟩, j⟩, hj, hts⟩ := i
 dsimp only at hj hts ⊢
 have htl := readT_len hts
 have htl2 := argsOf_len_le 84 (cdsOf (qs.take j))
 have htl3 : (cdsOf (qs.take j)).length ≤ qs.length := by simp [cdsOf]; omega
 try dsimp only
 refine Qc (k:=Vv (k:=Wq (Za (k:=Zi (t:=fun h13 => ?_) (f:=fun h13 => ?_)))))
 ·
  refine Zk (k:=Ya (Za (k:=Zb (k:=Za (k:=?_)))))
  have hjl : j < qs.length := by omega
  have hat := argsOf_take 84 qs hjl
  obtain ⟨q, hq⟩ : ∃ q, q = qs[j] := ⟨_, rfl⟩
  have hqm : q ∈ qs := by rw [hq]; exact List.getElem_mem _
  have hqzz := hqz q hqm
  have hbadat := fun h1 h2 => readT_bad_at (qs := qs) (j := j) hjl h1 h2
  rw [← hq] at hat hbadat
  refine wc_ent' (ent_cd hqm HasC.get) ?_
  refine Zr (k:=Ye 2 (k:=?_))
  refine r_eloada (vs := [_, _]) (sz := 2) Tryz.underlying109 rfl ti109 rfl rfl (by rw [flat_len (sz := 2) (fun _ => rfl)]; omega) rfl (by refine get_flat (fun x => ?_) ?_ <;> first | rfl | omega) rfl ?_
  refine Zc [.int .u8 0, .slice none 0 0] (k:=fun b6 => Zp (k:=?_))
  rw [← hq]
  obtain ⟨ql, qa, qc, xs⟩ := q
  dsimp only at hqzz hqm hat hbadat ⊢
  have htg : tgOf xs = if xs.length < 2 ∨ 3 < xs.length ∨ (xs.getD 0 []).length < 2 then none else if xs.length = 3 then (unescB (xs.getD 2 [])).map (fun v => ⟨(xs.getD 0 []).getD 0 0, (xs.getD 0 []).drop 1, xs.getD 1 [], v⟩) else some ⟨(xs.getD 0 []).getD 0 0, (xs.getD 0 []).drop 1, xs.getD 1 [], []⟩ := rfl
  have hx0 : ∀ i, i < xs.length → (xs.getD i []).length ≤ 1073741824 := by
   intro i hi
   have h1 := argsB_len xs
   have h2 := sumL_succ (l := xs) hi
   have h3 := sumL_le (l := xs) (j := i + 1)
   omega
  refine Wq (Za (k:=Qc (k:=Qx 0 5 (k:=Vv (k:=Wq (Zi (t:=fun h18 => ?_) (f:=fun h18 => ?_)))))))
  ·
   refine Ze (k:=Xa (Xb (Ya (Zr (k:=Qv (k:=Wn ?_))))))
   exact zb107next0
  ·
   have hl84 : ql = 84 := by rw [← UInt8.toNat_inj]; have h1 := Classical.not_not.1 h18; have h2 : (84 : UInt8).toNat = 84 := rfl; omega
   rw [if_pos hl84] at hat
   refine Zk (k:=Ya (Za (k:=Qc (k:=Qx 1 27 (k:=Qv (k:=Vv (k:=Gi 4 (t:=fun h23 => ?_) (f:=fun h23 => ?_))))))))
   ·
    refine O1 (k:=O1 (k:=O1 (k:=O1 (k:=P1 (k:=Vv (k:=O1 (k:=O1 (k:=O1 (k:=O1 (k:=O1 (k:=O1 (k:=?_))))))))))))
    refine P1 (k:=Wq (Z1 (k:=Qc (k:=Qv (k:=Wq (Zt (k:=Va (Vb (Va ?_)))))))))
    refine Vi (Vb (Va ?_))
    exact zb107ret7
   ·
    refine I0 (k:=Vf 1 27 (k:=I0 (k:=Zd (k:=J0 (k:=J0 (k:=P0 (k:=Vv (k:=Gi 10 (t:=fun h29 => ?_) (f:=fun h29 => ?_)))))))))
    ·
     refine O1 (k:=O1 (k:=O1 (k:=O1 (k:=O1 (k:=O1 (k:=P1 (k:=Wq (Z1 (k:=Qc (k:=Vv (k:=?_)))))))))))
     refine Vv (k:=Wq (Zt (k:=Va (Vb (Va (Vi (Vb (Va ?_))))))))
     exact zb107ret7
    ·
     refine I0 (k:=Vf 1 27 (k:=I0 (k:=Zd (k:=I0 (k:=Ye 1 (m := 0) (k:=I0 (k:=Yl (hv:=by exact get_mapD [] (m := 0) (by omega)) (k:=J0 (k:=J0 (k:=?_))))))))))
     refine P0 (k:=Wq (Zi (t:=fun h36 => ?_) (f:=fun h36 => ?_)))
     ·
      refine Qc (k:=Qv (k:=Wq (Zt (k:=Va (Vb (Va (Vi (Vb (Va ?_)))))))))
      exact zb107ret7
     ·
      refine Zk (k:=Ya (Za (k:=?_)))
      have hx00 := hx0 0 (by omega)
      rw [if_neg (by omega)] at htg
      refine Dw [Ce b6 109 [vU (ql.toNat : Int), .slice qa xs.length qc], SlI qa (xs.map vS)] (k:=?_)
      refine Di 0 (t:=Uf 1 27) (k:=Di 1 (t:=Ul) (k:=?_))
      refine d_first 2 rfl rfl rfl (by kernel_rfl) (by kernel_rfl) (tl_elemAddr (m := 0) (sz := 1) Tryz.underlying27 ti9 rfl rfl rfl rfl (by omega) (by first | (rw [List.length_map]; omega) | (rw [flat_len (sz := 1) (fun _ => rfl)]; omega) | (simp; omega)) (Nat.mul_one _)) ?_
      refine d_first 3 rfl rfl rfl (by kernel_rfl) (by kernel_rfl) (tl_eload Tryz.underlying9 rfl rfl (get_mapD [] (m := 0) (by omega))) ?_
      refine d_first 4 rfl rfl rfl (by kernel_rfl) (by kernel_rfl) (tl_pv (pv_indexm (m := 0) Tryz.underlying9 rfl rfl rfl (by omega))) ?_
      refine Di 5 (t:=Uf 1 27) (k:=Di 6 (t:=Ul) (k:=?_))
      refine d_first 7 rfl rfl rfl (by kernel_rfl) (by kernel_rfl) (tl_elemAddr (m := 0) (sz := 1) Tryz.underlying27 ti9 rfl rfl rfl rfl (by omega) (by first | (rw [List.length_map]; omega) | (rw [flat_len (sz := 1) (fun _ => rfl)]; omega) | (simp; omega)) (Nat.mul_one _)) ?_
      refine d_first 8 rfl rfl rfl (by kernel_rfl) (by kernel_rfl) (tl_eload Tryz.underlying9 rfl rfl (get_mapD [] (m := 0) (by omega))) ?_
      refine d_first 9 rfl rfl rfl (by kernel_rfl) (by kernel_rfl) (tl_pv (pv_slice_fromm (m := 1) Tryz.underlying9 rfl rfl rfl (by omega))) ?_
      refine Di 10 (t:=Uf 1 27) (k:=Di 11 (t:=Ul) (k:=?_))
      refine d_first 12 rfl rfl rfl (by kernel_rfl) (by kernel_rfl) (tl_elemAddr (m := 1) (sz := 1) Tryz.underlying27 ti9 rfl rfl rfl rfl (by omega) (by first | (rw [List.length_map]; omega) | (rw [flat_len (sz := 1) (fun _ => rfl)]; omega) | (simp; omega)) (Nat.mul_one _)) ?_
      refine d_first 13 rfl rfl rfl (by kernel_rfl) (by kernel_rfl) (tl_eload Tryz.underlying9 rfl rfl (get_mapD [] (m := 1) (by omega))) ?_
      refine Di 14 (t:=Ux (Ps [_, _, _, vS []])) (k:=Dn 15 (k:=Nc [.int .u8 0, vS [], vS [], vS []] (k:=fun b7 => Dn 16 (k:=Na (k:=Dd (k:=Ya (Za (k:=Qc (k:=Qx 1 27 (k:=?_))))))))))
      refine Qv (k:=Wq (Zi (t:=fun h55 => ?_) (f:=fun h55 => ?_)))
      ·
       refine Za (k:=?_)
       have hx02 := hx0 2 (by omega)
       rw [if_pos (by omega)] at htg
       refine Zr (k:=Qx 1 27 (k:=Ye 1 (m := 2) (k:=Yl (hv:=by exact get_mapD [] (m := 2) (by omega)) (k:=?_))))
       refine r_callF (ref10_Unescape_sp (xs.getD 2 []) (by omega)) rfl rfl rfl ?_
       refine Vv (k:=?_)
       refine wo_pv (pv_extract (v := vS ((unescB (xs.getD 2 [])).getD [])) rfl rfl) rfl ?_
       refine wo_pv (pv_extract (v := vB (unescB (xs.getD 2 [])).isSome) rfl rfl) rfl ?_
       refine Qv (k:=Wq (Za (k:=Qc (k:=Qv (k:=Wq (Zi (t:=fun h65 => ?_) (f:=fun h65 => ?_)))))))
       ·
        refine Qc (k:=Qv (k:=Wq (Zt (k:=Va (Va (Vb (Va (Vi (Vb ?_)))))))))
        refine Va ?_
        have hn : unescB (xs.getD 2 []) = none := by cases e : unescB (xs.getD 2 []) with
         | none => rfl
         | some v => rw [e] at h65; simp at h65
        have hb : readT (argsOf 84 (cdsOf qs)) = none := hbadat hl84 (by rw [htg, hn]; rfl)
        rw [hb]
        refine fin_ret ((none, 0), []) (vs := [_, _]) (Cs := []) rfl (.tmp rfl (.tmp rfl .nil)) rfl rfl ?_
        exact (row_nil (e := 66) (sz := 4)).trans (show Ent _ [Row 66 4 (.slice none 0 0) 0 [], B] from ent_pick)
       ·
        refine Zk (k:=Ya ?_)
        obtain ⟨v, hv⟩ : ∃ v, unescB (xs.getD 2 []) = some v := by cases e : unescB (xs.getD 2 []) with
         | none => rw [e] at h65; simp at h65
         | some v => exact ⟨v, rfl⟩
        rw [hv, Option.map_some] at htg
        rw [hv]
        refine Zr (k:=Vv (k:=Vf 3 9 (k:=Zo (k:=Wq (Zr (k:=Vv (k:=Zm [_, _, _, _] (k:=Zv [_] (cs := [_, _, _, _]) (k:=fun b70 => ?_)))))))))
        refine r_append1 (sz := 4) (bytes := 56) Tryz.underlying28 ti66 rfl rfl rfl rfl rfl rfl rfl (by rfl) (by rfl) (by omega) (by simp only [maxLen]; omega) rfl (fun a71 c71 => ?_)
        refine Vv (k:=Wn (Yb (Ya (Zr (k:=Qv (k:=Wn ?_))))))
        exact zb107next0
      ·
       rw [if_neg (by omega)] at htg
       refine Zk (k:=Ya (Zr (k:=Vv (k:=Zm [_, _, _, _] (k:=Zv [_] (cs := [_, _, _, _]) (k:=fun b70 => ?_))))))
       refine r_append1 (sz := 4) (bytes := 56) Tryz.underlying28 ti66 rfl rfl rfl rfl rfl rfl rfl (by rfl) (by rfl) (by omega) (by simp only [maxLen]; omega) rfl (fun a71 c71 => ?_)
       refine Vv (k:=Wn (Yb (Ya (Zr (k:=Qv (k:=Wn ?_))))))
       exact zb107next0
 ·
  refine Ze (k:=Xa (Xi (Xb (Ya (Qc (k:=Qv (k:=Vv (k:=Wq (Zt (k:=?_))))))))))
  have hjl : j = qs.length := by omega
  subst hjl
  rw [List.take_length] at hts
  rw [hts]
  refine fin_ret ((ta, tc), ts) (vs := [_, _]) (Cs := []) rfl (.tmp rfl (.tmp rfl .nil)) rfl rfl ?_
  exact ent_pick
end
theorem refFold_take (qs : List CdV) {j : Nat} (h : j < qs.length) (c : Ck) : refFold (cdsOf (qs.take (j + 1))) c = (refFold (cdsOf (qs.take j)) c).bind (fun k => stepR k qs[j].cd) := by
 rw [List.take_succ_eq_append_getElem h, cdsOf_app, refFold_app]
 cases refFold (cdsOf (qs.take j)) c with
 | none => rfl
 | some k =>
   simp only [Option.bind_some, cdsOf, List.map_cons, List.map_nil, refFold]
   cases stepR k qs[j].cd <;> rfl
theorem refFold_bad (qs : List CdV) {j : Nat} (h : j < qs.length) {c k : Ck} (h1 : refFold (cdsOf (qs.take j)) c = some k) (h2 : stepR k qs[j].cd = none) : refFold (cdsOf qs) c = none := by
 have e : cdsOf qs = cdsOf (qs.take (j + 1)) ++ cdsOf (qs.drop (j + 1)) := by rw [← cdsOf_app, List.take_append_drop]
 rw [e, refFold_app, refFold_take qs h, h1, Option.bind_some, h2]; rfl
theorem ref_no {s : Bs} {l : List Cd} (h : readC s = some l) (h2 : refCk l = none) : readK s = none := the_none fun c hc => by
 have e := hc.reads.uniq (readC_iff.1 h)
 rw [← e, refCk_cards hc.1] at h2; cases h2
theorem ref_no2 {s : Bs} {l : List Cd} {c : Ck} (h : readC s = some l) (h2 : refCk l = some c) (h3 : ¬ (RightK c ∧ ckB c = s)) : readK s = none := the_none fun k hc => by
 have e := hc.reads.uniq (readC_iff.1 h)
 rw [← e, refCk_cards hc.1] at h2; cases h2
 exact h3 hc
theorem readC_argOk {s : Bs} {qs : List CdV} (h : readC s = some (cdsOf qs)) : ∀ q ∈ qs, ∀ a ∈ q.args, a ≠ [] := by
 intro q hq a ha e
 obtain ⟨hr, _⟩ := readC_iff.1 h
 obtain ⟨j, hj, rfl⟩ := List.getElem_of_mem hq
 have := (hr.ok j (by simpa [cdsOf] using hj)).args a (by rw [cds_getD hj]; exact ha)
 exact this.1 e
structure CkY (N : Nat) (c : Ck) : Prop where
 base : c.base.length ≤ 1073741824
 comment : c.comment.length ≤ 1073741824
 user : c.user.length ≤ 1073741824
 fn : c.files.length ≤ N
 fz : ∀ f ∈ c.files, f.1.length ≤ 1073741824 ∧ f.2.length ≤ 1073741824
 pn : c.parents.length ≤ 1073741824
 pz : ∀ p ∈ c.parents, p.length ≤ 1073741824
 tags : TgZ c.tags
theorem CkY.ckZ {N : Nat} {c : Ck} (h : CkY N c) (hN : N ≤ 1073741824) : CkZ c := by
 obtain ⟨a1, a2, a3, a4, a5, a6, a7, a8⟩ := h
 exact ⟨by omega, by omega, by omega, by omega, fun f hf => by have := a5 f hf; omega, a6, fun p hp => by have := a7 p hp; omega, a8⟩
theorem CkY.step {N : Nat} {c c' : Ck} {x : Cd} (h : CkY N c) (hx : x.args.length ≤ 1073741824) (hz : ∀ a ∈ x.args, a.length ≤ 1073741824) (e : stepR c x = some c') : CkY (N + 1) c' := by
 obtain ⟨a1, a2, a3, a4, a5, a6, a7, a8⟩ := h
 have hd : ∀ i, (x.args.getD i []).length ≤ 1073741824 := fun i => by
  by_cases hi : i < x.args.length
  · exact hz _ (by simp [hi])
  · simp [hi]
 unfold stepR at e
 split at e
 · cases e; exact ⟨hd 0, a2, a3, by dsimp only; omega, a5, a6, a7, a8⟩
 split at e
 · cases u : unescB ((x.args.getD 0 []).drop 1) with
   | none => rw [u] at e; cases e
   | some t =>
     rw [u] at e; cases e
     have h1 := unescB_len u
     have h2 := hd 0
     rw [List.length_drop] at h1
     exact ⟨a1, by dsimp only; omega, a3, by dsimp only; omega, a5, a6, a7, a8⟩
 split at e
 · cases e; exact ⟨a1, a2, a3, by dsimp only; omega, a5, a6, a7, a8⟩
 split at e
 · cases e
   refine ⟨a1, a2, a3, by dsimp only; rw [List.length_append]; simp only [List.length_cons, List.length_nil]; omega, ?_, a6, a7, a8⟩
   intro f hf
   rcases List.mem_append.1 hf with hf | hf
   · exact a5 f hf
   · rw [List.mem_singleton.1 hf]; exact ⟨hd 0, Nat.zero_le _⟩
 split at e
 · cases e
   refine ⟨a1, a2, a3, by dsimp only; rw [List.length_append]; simp only [List.length_cons, List.length_nil]; omega, ?_, a6, a7, a8⟩
   intro f hf
   rcases List.mem_append.1 hf with hf | hf
   · exact a5 f hf
   · rw [List.mem_singleton.1 hf]; exact ⟨hd 0, hd 1⟩
 split at e
 · cases e; exact ⟨a1, a2, a3, by dsimp only; omega, a5, hx, hz, a8⟩
 split at e
 · cases e; exact ⟨a1, a2, a3, by omega, a5, a6, a7, a8⟩
 split at e
 · cases e; exact ⟨a1, a2, hd 0, by dsimp only; omega, a5, a6, a7, a8⟩
 · cases e
end Go.Proofs.YtibccdcemcgkeaaGreat
