/- Texts of this proof, put together: SR10f, PCk4, PLinks, RangeB. -/
import Derived.Test.YtdnoacgopfcpbaaGreatQ16
set_option linter.unusedVariables false
set_option linter.unusedSimpArgs false
namespace Go.Proofs.YtdnoacgopfcpbaaGreat
section
set_option maxRecDepth 100000
theorem zb16next0 {G : Prop} (h : G := by
    obtain ⟨q, hqq⟩ : ∃ q : CdV, q = ⟨70, ga, gc, xs⟩ := ⟨_, rfl⟩
    have hqc : q.cd = flCard f := by rw [hqq]; show (⟨70, xs⟩ : Cd) = _; rw [hxs]; rfl
    have hql2 : (fs ++ [q]).length = fs.length + 1 := by simp
    refine to_inv ⟨(((a53, c53), fs ++ [q]), j + 1), ?_, ?_⟩ ?_ ⟨rfl, sl_eq hql2.symm, rfl, rfl, rfl, trivial⟩ ?_
    · dsimp only; omega
    · dsimp only; rw [htk, cds_snoc, hqc, hfs, List.append_assoc]
    · dsimp only; omega
    · dsimp only
      rw [hql2]
      refine (ent_cdm_snoc (qs := fs) (q := q) HasC.get (by rw [hqq]; exact HasC.get) (by rw [hqq]; exact hxc)).trans ?_
      exact ent_step (row_norm (by rfl) (by rw [hqq]; simp [CdV.cells])) ent_pick) : G := h
theorem zb16join11 {G : Prop} (h : G := by
    first
    | exact to_inv ⟨((a48, c48), [f.1, f.2]), by simp [flCard, h43], hk48.1⟩ trivial ⟨rfl, rfl, rfl, rfl, rfl, rfl, trivial⟩ ent_pick
    | exact to_inv ⟨((some ⟨b40, 0, none⟩, 1), [f.1]), by simp [flCard, Classical.not_not.1 h43], Nat.le_refl _⟩ trivial ⟨rfl, rfl, rfl, rfl, rfl, rfl, trivial⟩ ent_pick) : G := h
theorem zb16ret16 {G : Prop} (h : G := by exact fin_ret () (vs := [_]) (Cs := []) rfl (.tmp rfl .nil) rfl trivial ent_pick) : G := h
theorem zb16join15 {G : Prop} (h : G := by
    first
    | (have hp : c.parents ≠ [] := fun e => by rw [e] at h58; simp at h58
       have hql2 : (fs ++ [(⟨80, x.pa, x.pc, c.parents⟩ : CdV)]).length = fs.length + 1 := by simp
       refine to_inv ⟨((a64, c64), fs ++ [⟨80, x.pa, x.pc, c.parents⟩]), ?_⟩ trivial ⟨rfl, sl_eq hql2.symm, trivial⟩ ?_
       · dsimp only; rw [cds_snoc, hfs, ckHead, pCards, if_neg hp]; simp [CdV.cd]
       · dsimp only
         rw [hql2]
         refine (ent_cdm_snoc (qs := fs) (q := ⟨80, x.pa, x.pc, c.parents⟩) HasC.get HasC.get hpc).trans ?_
         exact ent_step (row_norm (by rfl) (by rw [fm_snoc]; rfl)) ent_pick)
    | (have hp : c.parents = [] := List.eq_nil_of_length_eq_zero (by omega)
       refine to_inv ⟨((fa, fc), fs), ?_⟩ trivial ⟨rfl, rfl, trivial⟩ ent_pick
       dsimp only; rw [hfs, ckHead, pCards, if_pos hp]; simp)) : G := h
theorem zb16join4 {G : Prop} (h : G := by
    first
    | (have hb : c.base ≠ [] := h9
       refine to_inv ⟨((a16, c16), [⟨66, some ⟨b13, 0, none⟩, 1, [c.base]⟩]), by simp [cdsOf, CdV.cd, bCards, hb]⟩ trivial ⟨rfl, rfl, trivial⟩ ?_
       refine Ent.trans (ent_cdm_one (a := some ⟨b13, 0, none⟩) (c := 1) 66 [c.base] [vS c.base] HasC.get rfl (Nat.le_refl _)) ?_
       dsimp only [List.length_cons, List.length_nil]
       exact ent_step (row_norm (by rfl) (by rfl)) ent_pick)
    | (have hb : c.base = [] := Classical.not_not.1 h9
       refine to_inv ⟨((none, 0), []), by simp [cdsOf, bCards, hb]⟩ trivial ⟨rfl, rfl, trivial⟩ ?_
       refine Ent.trans ent_cdm_nil ?_
       dsimp only [List.length_nil]
       rw [show ([] : List CdV).flatMap CdV.cells = [] from rfl]
       exact ent_pick)) : G := h
set_option maxHeartbeats 4000000 in
theorem ref10_Checkin_sp {Bf Bt : HP} (x : CkA) (c : Ck) (z : CkZ c) (hd : 0 ≤ c.date ∧ c.date ≤ 1073741824) (hz : (bodyB (ckCards c)).length ≤ 1073741824) (shf : SlA Bf x.fa (c.files.flatMap flCells)) (sht : SlA Bt x.ta (c.tags.flatMap tgCells)) (hpc : c.parents.length ≤ x.pc) :
    Sp1 Tryz.prog 16 [.agg (ckVals x c).toArray] [Bf, SlI x.pa (c.parents.map vS), Bt] (vS (ckB c)) [Bf, Bt] := by
 have hTC := ref10_ops_sp c.tags.length x.tc c.tags sht rfl z.tags
 haveI : RdSl x.fa (c.files.flatMap flCells) [Bf, SlI x.pa (c.parents.map vS), Bt] := ⟨⟨Bf, shf, .here⟩⟩
 obtain ⟨z1, z2, z3, z4, z5, z6, z7, z8, z9⟩ := z
 have hcl := (bodyB_ge (ckCards c)).1
 have hcn : (ckCards c).length = (bCards c.base).length + 2 + c.files.length + (pCards c.parents).length + (c.tags.length + 1) := by simp [ckCards]; omega
 have hDec : SpF Tryz.prog 51 [vI c.date] (vS (decN c.date.toNat)) := by
  have := ref1_Dec_sp c.date.toNat (by omega)
  rwa [Int.toNat_of_nonneg hd.1] at this
 refine Sp.body (n := 78) Tryz.call16 Tryz.func16 rfl rfl rfl ?_
 refine Qc (k:=Zx [_, _, _, _, _, _, _] (k:=fun b1 => Vv (k:=Wq (Qc (k:=Vv (k:=Wq ?_))))))
 refine p_cut (fun (i : { x : (Option Addr × Nat) × List CdV // cdsOf x.2 = bCards c.base }) => [(1, .pointer (some ⟨b1, 0, none⟩)), (3, .slice i.1.1.1 i.1.2.length i.1.1.2)]) (fun (i : { x : (Option Addr × Nat) × List CdV // cdsOf x.2 = bCards c.base }) => [Row 101 2 (.slice i.1.1.1 i.1.2.length i.1.1.2) i.1.2.length (i.1.2.flatMap CdV.cells), CdM i.1.2, Ce b1 30 [vS c.base, vS c.comment, vI c.date, .slice x.fa c.files.length x.fc, .slice x.pa c.parents.length x.pc, .slice x.ta c.tags.length x.tc, vS c.user], Bf, SlI x.pa (c.parents.map vS), Bt]) rfl (fun i => ?_) ?_
 ·
  obtain ⟨⟨⟨oa, oc⟩, qs⟩, hcd⟩ := i
  dsimp only at hcd ⊢
  have hql := cdsLen hcd
  try dsimp only
  refine Za (k:=Dw [Ce b1 30 [vS c.base, vS c.comment, vI c.date, .slice x.fa c.files.length x.fc, .slice x.pa c.parents.length x.pc, .slice x.ta c.tags.length x.tc, vS c.user]] (k:=?_))
  refine Dv 0 (k:=Di 1 (t:=Uf 1 9) (k:=Di 2 (t:=Ul) (k:=Di 7 (t:=Uf 2 3) (k:=Di 8 (t:=Ul) (k:=Dn 3 (k:=?_))))))
  refine an_callF (ref10_Escape_sp c.comment (by omega)) rfl rfl rfl ?_
  have hel := (escB_len c.comment).2
  refine Dv 4 (k:=?_)
  refine d_next2 5 9 (by kernel_rfl) rfl rfl ?_ ?_
  ·
   refine Nl [_] (cs := [_]) (k:=fun b22 => Di 6 (t:=Ux (Ps [_, _])) (k:=Dn 9 (k:=?_)))
   refine an_callF hDec rfl rfl rfl ?_
   refine Dn 10 (k:=Nl [_] (cs := [_]) (k:=fun b27 => Di 11 (t:=Ux (Ps [_, _])) (k:=Dn 12 (k:=Nl [_, _] (cs := [_, _, _, _]) (k:=fun b29 => Dn 13 (k:=?_))))))
   refine an_append1 (sz := 2) (bytes := 32) Tryz.underlying99 ti101 rfl rfl rfl rfl rfl rfl rfl (by rfl) (by rfl) (by omega) (by simp only [maxLen]; omega) rfl (fun a30 c30 => ?_)
   refine Dv 14 (k:=Dd (k:=Ya (Za (k:=Za (k:=?_)))))
   refine wc_frzC b22 ?_
   refine wc_frzC b27 ?_
   obtain ⟨ps, hps⟩ : ∃ ps : List CdV, ps = qs ++ [⟨67, some ⟨b22, 0, none⟩, 1, [46 :: escB c.comment]⟩] ++ [⟨68, some ⟨b27, 0, none⟩, 1, [decN c.date.toNat]⟩] := ⟨_, rfl⟩
   have hpcd : cdsOf ps = bCards c.base ++ [⟨67, [46 :: escB c.comment]⟩, ⟨68, [decN c.date.toNat]⟩] := by rw [hps, cdsOf_app, cdsOf_app, hcd, List.append_assoc]; rfl
   have hpl : ps.length = qs.length + 2 := by rw [hps]; simp
   have hpf : ps.flatMap CdV.cells = qs.flatMap CdV.cells ++ [vU ((67 : UInt8).toNat : Int), .slice (some ⟨b22, 0, none⟩) 1 1, vU ((68 : UInt8).toNat : Int), .slice (some ⟨b27, 0, none⟩) 1 1] := by rw [hps]; simp [CdV.cells]
   refine Zr (k:=Qx 3 26 (k:=Qv (k:=Wq (Zb (k:=?_)))))
   refine p_loop (fun (i : { y : ((Option Addr × Nat) × List CdV) × Nat // y.2 ≤ c.files.length ∧ cdsOf y.1.2 = cdsOf ps ++ (c.files.take y.2).map flCard }) => [(1, .pointer (some ⟨b1, 0, none⟩)), (3, .slice i.1.1.1.1 i.1.1.2.length i.1.1.1.2), (32, .slice x.fa c.files.length x.fc), (33, vI c.files.length), (34, vI i.1.2)]) (fun (i : { y : ((Option Addr × Nat) × List CdV) × Nat // y.2 ≤ c.files.length ∧ cdsOf y.1.2 = cdsOf ps ++ (c.files.take y.2).map flCard }) => [Row 101 2 (.slice i.1.1.1.1 i.1.1.2.length i.1.1.1.2) i.1.1.2.length (i.1.1.2.flatMap CdV.cells), CdM i.1.1.2, Ce b1 30 [vS c.base, vS c.comment, vI c.date, .slice x.fa c.files.length x.fc, .slice x.pa c.parents.length x.pc, .slice x.ta c.tags.length x.tc, vS c.user], Bf, SlI x.pa (c.parents.map vS), Bt]) (fun (i : { y : ((Option Addr × Nat) × List CdV) × Nat // y.2 ≤ c.files.length ∧ cdsOf y.1.2 = cdsOf ps ++ (c.files.take y.2).map flCard }) => c.files.length - i.1.2) rfl (⟨(((a30, c30), ps), 0), Nat.zero_le _, by simp⟩) ?_ ?_ (fun i => ?_)
   · exact ⟨rfl, sl_eq hpl.symm, rfl, rfl, rfl, trivial⟩
   ·
    dsimp only
    rw [hpl, hpf]
    refine Ent.trans (ent_cdm_new (qs := qs) (a := some ⟨b22, 0, none⟩) (c := 1) 67 [46 :: escB c.comment] [vS ([46] ++ escB c.comment)] HasC.get HasC.get rfl (Nat.le_refl _)) ?_
    refine Ent.trans (ent_cdm_new (qs := qs ++ [⟨67, some ⟨b22, 0, none⟩, 1, [46 :: escB c.comment]⟩]) (a := some ⟨b27, 0, none⟩) (c := 1) 68 [decN c.date.toNat] [vS (decN c.date.toNat)] HasC.get HasC.get rfl (Nat.le_refl _)) ?_
    rw [hps]
    exact ent_step (row_norm (by rfl) (by rfl)) ent_pick
   obtain ⟨⟨⟨⟨fa, fc⟩, fs⟩, j⟩, hj, hfs⟩ := i
   dsimp only at hj hfs ⊢
   have hfl := cdsLen hfs
   have hpl0 : (cdsOf ps).length = ps.length := by simp [cdsOf]
   rw [List.length_append, List.length_map, List.length_take, hpl0] at hfl
   try dsimp only
   refine Qc (k:=Vv (k:=Wq (Za (k:=Zi (t:=fun h35 => ?_) (f:=fun h35 => ?_)))))
   ·
    refine Zk (k:=Ya (Za (k:=Zb (k:=Za (k:=?_)))))
    have hjl : j < c.files.length := by omega
    obtain ⟨f, hf⟩ : ∃ f, f = c.files[j] := ⟨_, rfl⟩
    have hfz := z5 f (by rw [hf]; exact List.getElem_mem _)
    have htk : (c.files.take (j + 1)).map flCard = (c.files.take j).map flCard ++ [flCard f] := by rw [List.take_succ_eq_append_getElem hjl, List.map_append, hf]; rfl
    refine Zr (k:=Ye 2 (k:=?_))
    refine r_eloada (vs := [_, _]) (sz := 2) Tryz.underlying25 rfl ti25 rfl rfl (by rw [flat_len (sz := 2) (fun _ => rfl)]; omega) rfl (by refine get_flat (fun x => ?_) ?_ <;> first | rfl | omega) rfl ?_
    rw [← hf]
    refine Zc [vS [], vS []] (k:=fun b5 => Zp (k:=Wq (Qc (k:=Qx 0 9 (k:=Zv [_] (cs := [_]) (k:=fun b40 => Vv (k:=Wq ?_)))))))
    refine p_cut (fun (i : { y : (Option Addr × Nat) × List Bs // y.2 = (flCard f).args ∧ y.2.length ≤ y.1.2 }) => [(1, .pointer (some ⟨b1, 0, none⟩)), (3, .slice fa fs.length fc), (6, .slice i.1.1.1 i.1.2.length i.1.1.2), (32, .slice x.fa c.files.length x.fc), (33, vI c.files.length), (34, vI j)]) (fun (i : { y : (Option Addr × Nat) × List Bs // y.2 = (flCard f).args ∧ y.2.length ≤ y.1.2 }) => [SlI i.1.1.1 (i.1.2.map vS), Row 101 2 (.slice fa fs.length fc) fs.length (fs.flatMap CdV.cells), CdM fs, Ce b1 30 [vS c.base, vS c.comment, vI c.date, .slice x.fa c.files.length x.fc, .slice x.pa c.parents.length x.pc, .slice x.ta c.tags.length x.tc, vS c.user], Bf, SlI x.pa (c.parents.map vS), Bt]) rfl (fun i => ?_) ?_
    ·
     obtain ⟨⟨⟨ga, gc⟩, xs⟩, hxs, hxc⟩ := i
     dsimp only at hxs hxc ⊢
     try dsimp only
     refine Zr (k:=Qv (k:=Vx (Ps [_, _]) (k:=Zv [_] (cs := [_, _]) (k:=fun b52 => ?_))))
     refine r_append1 (sz := 2) (bytes := 32) Tryz.underlying99 ti101 rfl rfl rfl rfl rfl rfl rfl (by rfl) (by rfl) (by omega) (by simp only [maxLen]; omega) rfl (fun a53 c53 => ?_)
     refine Vv (k:=Wn (Yb (Ya (Zr (k:=Qv (k:=Wn ?_))))))
     exact zb16next0
    ·
     refine Qc (k:=Qx 1 9 (k:=Vv (k:=Wq (Zi (t:=fun h43 => ?_) (f:=fun h43 => ?_)))))
     ·
      refine Zr (k:=Vv (k:=Qx 1 9 (k:=Zv [_] (cs := [_]) (k:=fun b47 => ?_))))
      refine wo_ent' (ent_row (k := 1) (cap := 1) (sz := 1) (e := 9) (g := b40) (xs := [vS f.1]) (cur := [vS f.1]) (Nat.le_refl _) (by simp [maxLen]) rfl rfl rfl) ?_
      refine r_append1 (sz := 1) (bytes := 16) Tryz.underlying27 ti9 rfl rfl rfl rfl rfl rfl rfl (by rfl) (by rfl) (by omega) (by simp only [maxLen]; omega) rfl (fun a48 c48 => ?_)
      refine wo_know (A := Row 9 1 (.slice a48 (1 + 1) c48) (1 + 1) ([vS f.1] ++ [vS f.2])) HasC.get row_know (fun hk48 => ?_)
      refine wo_frzR a48 ?_
      rw [show ([vS f.1] ++ [vS f.2]) = ([f.1, f.2] : List Bs).map vS from rfl]
      refine Vv (k:=Wn ?_)
      exact zb16join11
     ·
      refine wc_frzC b40 ?_
      rw [show [vS f.1] = ([f.1] : List Bs).map vS from rfl]
      refine Zk (k:=?_)
      exact zb16join11
   ·
    refine Ze (k:=Xa (Xi (Xb (Ya ?_))))
    refine p_cut (fun (i : { y : (Option Addr × Nat) × List CdV // cdsOf y.2 = ckHead c }) => [(1, .pointer (some ⟨b1, 0, none⟩)), (3, .slice i.1.1.1 i.1.2.length i.1.1.2)]) (fun (i : { y : (Option Addr × Nat) × List CdV // cdsOf y.2 = ckHead c }) => [Row 101 2 (.slice i.1.1.1 i.1.2.length i.1.1.2) i.1.2.length (i.1.2.flatMap CdV.cells), CdM i.1.2, Ce b1 30 [vS c.base, vS c.comment, vI c.date, .slice x.fa c.files.length x.fc, .slice x.pa c.parents.length x.pc, .slice x.ta c.tags.length x.tc, vS c.user], Bf, SlI x.pa (c.parents.map vS), Bt]) rfl (fun i => ?_) ?_
    ·
     obtain ⟨⟨⟨ga, gc⟩, gs⟩, hgs⟩ := i
     dsimp only at hgs ⊢
     have hgl := cdsLen hgs
     have hhl : (ckHead c).length = (bCards c.base).length + 2 + c.files.length + (pCards c.parents).length := by simp [ckHead]; omega
     try dsimp only
     refine Qc (k:=Vv (k:=Qx 5 28 (k:=?_)))
     refine r_callX hTC rfl rfl rfl (fun x68 hx68 => ?_)
     obtain ⟨⟨ta, tc⟩, tqs⟩ := x68
     dsimp only [cardV, cardH] at hx68 ⊢
     have htq := cdsLen hx68
     rw [List.length_map] at htq
     refine r_appendA (sz := 2) (bytes := 32) Tryz.underlying99 ti101 rfl rfl rfl rfl rfl rfl rfl (cells_len tqs) (cells_one tqs) (by omega) (by simp only [maxLen]; omega) rfl (fun a69 c69 => ?_)
     refine Vv (k:=Wq (Qc (k:=Vv (k:=Qx 6 9 (k:=Zv [_] (cs := [_]) (k:=fun b73 => Vx (Ps [_, _]) (k:=Zv [_] (cs := [_, _]) (k:=fun b75 => ?_))))))))
     refine r_append1 (sz := 2) (bytes := 32) Tryz.underlying99 ti101 rfl rfl rfl rfl rfl rfl rfl (by rfl) (by rfl) (by omega) (by simp only [maxLen]; omega) rfl (fun a76 c76 => ?_)
     refine wo_frzC b73 ?_
     obtain ⟨al, hal⟩ : ∃ al : List CdV, al = gs ++ tqs ++ [⟨85, some ⟨b73, 0, none⟩, 1, [c.user]⟩] := ⟨_, rfl⟩
     have halc : cdsOf al = ckCards c := by rw [hal, cdsOf_app, cdsOf_app, hgs, hx68, ckHead, ckCards]; simp [cdsOf, CdV.cd]
     have hall : al.length = gs.length + tqs.length + 1 := by rw [hal]; simp; omega
     have hxx : gs.flatMap CdV.cells ++ tqs.flatMap CdV.cells ++ [vU 85, .slice (some ⟨b73, 0, none⟩) 1 1] = al.flatMap CdV.cells := by rw [hal]; simp [CdV.cells]
     have hPr := ref10_Print_sp (B := Row 101 2 (.slice a76 (gs.length + tqs.length + 1) c76) (gs.length + tqs.length + 1) (gs.flatMap CdV.cells ++ tqs.flatMap CdV.cells ++ [vU 85, .slice (some ⟨b73, 0, none⟩) 1 1])) (a := a76) (gs.length + tqs.length + 1) c76 al (by rw [← hxx]; exact sla_row) hall (by rw [halc]; omega)
     rw [halc] at hPr
     refine wo_ent' (ent_cdm_app (qs := gs) (rs := tqs) HasC.get HasC.get) ?_
     refine wo_ent' (ent_cdm_new (qs := gs ++ tqs) (a := some ⟨b73, 0, none⟩) (c := 1) 85 [c.user] [vS c.user] HasC.get HasC.get rfl (Nat.le_refl _)) ?_
     rw [← hal]
     refine r_call1 hPr rfl rfl rfl ?_
     refine Vv (k:=Wq (Zt (k:=?_)))
     exact zb16ret16
    ·
     refine Za (k:=?_)
     have hjl : j = c.files.length := by omega
     subst hjl
     rw [List.take_length, hpcd] at hfs
     refine Zr (k:=Qx 4 27 (k:=Qv (k:=Wq (Zi (t:=fun h58 => ?_) (f:=fun h58 => ?_)))))
     ·
      refine Zr (k:=Vv (k:=Qx 4 27 (k:=Vx (Ps [_, _]) (k:=Zv [_] (cs := [_, _]) (k:=fun b63 => ?_)))))
      refine r_append1 (sz := 2) (bytes := 32) Tryz.underlying99 ti101 rfl rfl rfl rfl rfl rfl rfl (by rfl) (by rfl) (by omega) (by simp only [maxLen]; omega) rfl (fun a64 c64 => ?_)
      refine Vv (k:=Wn ?_)
      exact zb16join15
     ·
      refine Zk (k:=?_)
      exact zb16join15
  ·
   refine an_callF hDec rfl rfl rfl ?_
   refine d_next2 5 10 (by kernel_rfl) rfl rfl ?_ ?_
   ·
    refine Nl [_] (cs := [_]) (k:=fun b22 => Di 6 (t:=Ux (Ps [_, _])) (k:=Dn 10 (k:=Nl [_] (cs := [_]) (k:=fun b27 => Di 11 (t:=Ux (Ps [_, _])) (k:=Dn 12 (k:=Nl [_, _] (cs := [_, _, _, _]) (k:=fun b29 => Dn 13 (k:=?_))))))))
    refine an_append1 (sz := 2) (bytes := 32) Tryz.underlying99 ti101 rfl rfl rfl rfl rfl rfl rfl (by rfl) (by rfl) (by omega) (by simp only [maxLen]; omega) rfl (fun a30 c30 => ?_)
    refine Dv 14 (k:=Dd (k:=Ya (Za (k:=Za (k:=?_)))))
    refine wc_frzC b22 ?_
    refine wc_frzC b27 ?_
    obtain ⟨ps, hps⟩ : ∃ ps : List CdV, ps = qs ++ [⟨67, some ⟨b22, 0, none⟩, 1, [46 :: escB c.comment]⟩] ++ [⟨68, some ⟨b27, 0, none⟩, 1, [decN c.date.toNat]⟩] := ⟨_, rfl⟩
    have hpcd : cdsOf ps = bCards c.base ++ [⟨67, [46 :: escB c.comment]⟩, ⟨68, [decN c.date.toNat]⟩] := by rw [hps, cdsOf_app, cdsOf_app, hcd, List.append_assoc]; rfl
    have hpl : ps.length = qs.length + 2 := by rw [hps]; simp
    have hpf : ps.flatMap CdV.cells = qs.flatMap CdV.cells ++ [vU ((67 : UInt8).toNat : Int), .slice (some ⟨b22, 0, none⟩) 1 1, vU ((68 : UInt8).toNat : Int), .slice (some ⟨b27, 0, none⟩) 1 1] := by rw [hps]; simp [CdV.cells]
    refine Zr (k:=Qx 3 26 (k:=Qv (k:=Wq (Zb (k:=?_)))))
    refine p_loop (fun (i : { y : ((Option Addr × Nat) × List CdV) × Nat // y.2 ≤ c.files.length ∧ cdsOf y.1.2 = cdsOf ps ++ (c.files.take y.2).map flCard }) => [(1, .pointer (some ⟨b1, 0, none⟩)), (3, .slice i.1.1.1.1 i.1.1.2.length i.1.1.1.2), (32, .slice x.fa c.files.length x.fc), (33, vI c.files.length), (34, vI i.1.2)]) (fun (i : { y : ((Option Addr × Nat) × List CdV) × Nat // y.2 ≤ c.files.length ∧ cdsOf y.1.2 = cdsOf ps ++ (c.files.take y.2).map flCard }) => [Row 101 2 (.slice i.1.1.1.1 i.1.1.2.length i.1.1.1.2) i.1.1.2.length (i.1.1.2.flatMap CdV.cells), CdM i.1.1.2, Ce b1 30 [vS c.base, vS c.comment, vI c.date, .slice x.fa c.files.length x.fc, .slice x.pa c.parents.length x.pc, .slice x.ta c.tags.length x.tc, vS c.user], Bf, SlI x.pa (c.parents.map vS), Bt]) (fun (i : { y : ((Option Addr × Nat) × List CdV) × Nat // y.2 ≤ c.files.length ∧ cdsOf y.1.2 = cdsOf ps ++ (c.files.take y.2).map flCard }) => c.files.length - i.1.2) rfl (⟨(((a30, c30), ps), 0), Nat.zero_le _, by simp⟩) ?_ ?_ (fun i => ?_)
    · exact ⟨rfl, sl_eq hpl.symm, rfl, rfl, rfl, trivial⟩
    ·
     dsimp only
     rw [hpl, hpf]
     refine Ent.trans (ent_cdm_new (qs := qs) (a := some ⟨b22, 0, none⟩) (c := 1) 67 [46 :: escB c.comment] [vS ([46] ++ escB c.comment)] HasC.get HasC.get rfl (Nat.le_refl _)) ?_
     refine Ent.trans (ent_cdm_new (qs := qs ++ [⟨67, some ⟨b22, 0, none⟩, 1, [46 :: escB c.comment]⟩]) (a := some ⟨b27, 0, none⟩) (c := 1) 68 [decN c.date.toNat] [vS (decN c.date.toNat)] HasC.get HasC.get rfl (Nat.le_refl _)) ?_
     rw [hps]
     exact ent_step (row_norm (by rfl) (by rfl)) ent_pick
    obtain ⟨⟨⟨⟨fa, fc⟩, fs⟩, j⟩, hj, hfs⟩ := i
    dsimp only at hj hfs ⊢
    have hfl := cdsLen hfs
    have hpl0 : (cdsOf ps).length = ps.length := by simp [cdsOf]
    rw [List.length_append, List.length_map, List.length_take, hpl0] at hfl
    try dsimp only
    refine Qc (k:=Vv (k:=Wq (Za (k:=Zi (t:=fun h35 => ?_) (f:=fun h35 => ?_)))))
    ·
     refine Zk (k:=Ya (Za (k:=Zb (k:=Za (k:=?_)))))
     have hjl : j < c.files.length := by omega
     obtain ⟨f, hf⟩ : ∃ f, f = c.files[j] := ⟨_, rfl⟩
     have hfz := z5 f (by rw [hf]; exact List.getElem_mem _)
     have htk : (c.files.take (j + 1)).map flCard = (c.files.take j).map flCard ++ [flCard f] := by rw [List.take_succ_eq_append_getElem hjl, List.map_append, hf]; rfl
     refine Zr (k:=Ye 2 (k:=?_))
     refine r_eloada (vs := [_, _]) (sz := 2) Tryz.underlying25 rfl ti25 rfl rfl (by rw [flat_len (sz := 2) (fun _ => rfl)]; omega) rfl (by refine get_flat (fun x => ?_) ?_ <;> first | rfl | omega) rfl ?_
     rw [← hf]
     refine Zc [vS [], vS []] (k:=fun b5 => Zp (k:=Wq (Qc (k:=Qx 0 9 (k:=Zv [_] (cs := [_]) (k:=fun b40 => Vv (k:=Wq ?_)))))))
     refine p_cut (fun (i : { y : (Option Addr × Nat) × List Bs // y.2 = (flCard f).args ∧ y.2.length ≤ y.1.2 }) => [(1, .pointer (some ⟨b1, 0, none⟩)), (3, .slice fa fs.length fc), (6, .slice i.1.1.1 i.1.2.length i.1.1.2), (32, .slice x.fa c.files.length x.fc), (33, vI c.files.length), (34, vI j)]) (fun (i : { y : (Option Addr × Nat) × List Bs // y.2 = (flCard f).args ∧ y.2.length ≤ y.1.2 }) => [SlI i.1.1.1 (i.1.2.map vS), Row 101 2 (.slice fa fs.length fc) fs.length (fs.flatMap CdV.cells), CdM fs, Ce b1 30 [vS c.base, vS c.comment, vI c.date, .slice x.fa c.files.length x.fc, .slice x.pa c.parents.length x.pc, .slice x.ta c.tags.length x.tc, vS c.user], Bf, SlI x.pa (c.parents.map vS), Bt]) rfl (fun i => ?_) ?_
     ·
      obtain ⟨⟨⟨ga, gc⟩, xs⟩, hxs, hxc⟩ := i
      dsimp only at hxs hxc ⊢
      try dsimp only
      refine Zr (k:=Qv (k:=Vx (Ps [_, _]) (k:=Zv [_] (cs := [_, _]) (k:=fun b52 => ?_))))
      refine r_append1 (sz := 2) (bytes := 32) Tryz.underlying99 ti101 rfl rfl rfl rfl rfl rfl rfl (by rfl) (by rfl) (by omega) (by simp only [maxLen]; omega) rfl (fun a53 c53 => ?_)
      refine Vv (k:=Wn (Yb (Ya (Zr (k:=Qv (k:=Wn ?_))))))
      exact zb16next0
     ·
      refine Qc (k:=Qx 1 9 (k:=Vv (k:=Wq (Zi (t:=fun h43 => ?_) (f:=fun h43 => ?_)))))
      ·
       refine Zr (k:=Vv (k:=Qx 1 9 (k:=Zv [_] (cs := [_]) (k:=fun b47 => ?_))))
       refine wo_ent' (ent_row (k := 1) (cap := 1) (sz := 1) (e := 9) (g := b40) (xs := [vS f.1]) (cur := [vS f.1]) (Nat.le_refl _) (by simp [maxLen]) rfl rfl rfl) ?_
       refine r_append1 (sz := 1) (bytes := 16) Tryz.underlying27 ti9 rfl rfl rfl rfl rfl rfl rfl (by rfl) (by rfl) (by omega) (by simp only [maxLen]; omega) rfl (fun a48 c48 => ?_)
       refine wo_know (A := Row 9 1 (.slice a48 (1 + 1) c48) (1 + 1) ([vS f.1] ++ [vS f.2])) HasC.get row_know (fun hk48 => ?_)
       refine wo_frzR a48 ?_
       rw [show ([vS f.1] ++ [vS f.2]) = ([f.1, f.2] : List Bs).map vS from rfl]
       refine Vv (k:=Wn ?_)
       exact zb16join11
      ·
       refine wc_frzC b40 ?_
       rw [show [vS f.1] = ([f.1] : List Bs).map vS from rfl]
       refine Zk (k:=?_)
       exact zb16join11
    ·
     refine Ze (k:=Xa (Xi (Xb (Ya ?_))))
     refine p_cut (fun (i : { y : (Option Addr × Nat) × List CdV // cdsOf y.2 = ckHead c }) => [(1, .pointer (some ⟨b1, 0, none⟩)), (3, .slice i.1.1.1 i.1.2.length i.1.1.2)]) (fun (i : { y : (Option Addr × Nat) × List CdV // cdsOf y.2 = ckHead c }) => [Row 101 2 (.slice i.1.1.1 i.1.2.length i.1.1.2) i.1.2.length (i.1.2.flatMap CdV.cells), CdM i.1.2, Ce b1 30 [vS c.base, vS c.comment, vI c.date, .slice x.fa c.files.length x.fc, .slice x.pa c.parents.length x.pc, .slice x.ta c.tags.length x.tc, vS c.user], Bf, SlI x.pa (c.parents.map vS), Bt]) rfl (fun i => ?_) ?_
     ·
      obtain ⟨⟨⟨ga, gc⟩, gs⟩, hgs⟩ := i
      dsimp only at hgs ⊢
      have hgl := cdsLen hgs
      have hhl : (ckHead c).length = (bCards c.base).length + 2 + c.files.length + (pCards c.parents).length := by simp [ckHead]; omega
      try dsimp only
      refine Qc (k:=Vv (k:=Qx 5 28 (k:=?_)))
      refine r_callX hTC rfl rfl rfl (fun x68 hx68 => ?_)
      obtain ⟨⟨ta, tc⟩, tqs⟩ := x68
      dsimp only [cardV, cardH] at hx68 ⊢
      have htq := cdsLen hx68
      rw [List.length_map] at htq
      refine r_appendA (sz := 2) (bytes := 32) Tryz.underlying99 ti101 rfl rfl rfl rfl rfl rfl rfl (cells_len tqs) (cells_one tqs) (by omega) (by simp only [maxLen]; omega) rfl (fun a69 c69 => ?_)
      refine Vv (k:=Wq (Qc (k:=Vv (k:=Qx 6 9 (k:=Zv [_] (cs := [_]) (k:=fun b73 => Vx (Ps [_, _]) (k:=Zv [_] (cs := [_, _]) (k:=fun b75 => ?_))))))))
      refine r_append1 (sz := 2) (bytes := 32) Tryz.underlying99 ti101 rfl rfl rfl rfl rfl rfl rfl (by rfl) (by rfl) (by omega) (by simp only [maxLen]; omega) rfl (fun a76 c76 => ?_)
      refine wo_frzC b73 ?_
      obtain ⟨al, hal⟩ : ∃ al : List CdV, al = gs ++ tqs ++ [⟨85, some ⟨b73, 0, none⟩, 1, [c.user]⟩] := ⟨_, rfl⟩
      have halc : cdsOf al = ckCards c := by rw [hal, cdsOf_app, cdsOf_app, hgs, hx68, ckHead, ckCards]; simp [cdsOf, CdV.cd]
      have hall : al.length = gs.length + tqs.length + 1 := by rw [hal]; simp; omega
      have hxx : gs.flatMap CdV.cells ++ tqs.flatMap CdV.cells ++ [vU 85, .slice (some ⟨b73, 0, none⟩) 1 1] = al.flatMap CdV.cells := by rw [hal]; simp [CdV.cells]
      have hPr := ref10_Print_sp (B := Row 101 2 (.slice a76 (gs.length + tqs.length + 1) c76) (gs.length + tqs.length + 1) (gs.flatMap CdV.cells ++ tqs.flatMap CdV.cells ++ [vU 85, .slice (some ⟨b73, 0, none⟩) 1 1])) (a := a76) (gs.length + tqs.length + 1) c76 al (by rw [← hxx]; exact sla_row) hall (by rw [halc]; omega)
      rw [halc] at hPr
      refine wo_ent' (ent_cdm_app (qs := gs) (rs := tqs) HasC.get HasC.get) ?_
      refine wo_ent' (ent_cdm_new (qs := gs ++ tqs) (a := some ⟨b73, 0, none⟩) (c := 1) 85 [c.user] [vS c.user] HasC.get HasC.get rfl (Nat.le_refl _)) ?_
      rw [← hal]
      refine r_call1 hPr rfl rfl rfl ?_
      refine Vv (k:=Wq (Zt (k:=?_)))
      exact zb16ret16
     ·
      refine Za (k:=?_)
      have hjl : j = c.files.length := by omega
      subst hjl
      rw [List.take_length, hpcd] at hfs
      refine Zr (k:=Qx 4 27 (k:=Qv (k:=Wq (Zi (t:=fun h58 => ?_) (f:=fun h58 => ?_)))))
      ·
       refine Zr (k:=Vv (k:=Qx 4 27 (k:=Vx (Ps [_, _]) (k:=Zv [_] (cs := [_, _]) (k:=fun b63 => ?_)))))
       refine r_append1 (sz := 2) (bytes := 32) Tryz.underlying99 ti101 rfl rfl rfl rfl rfl rfl rfl (by rfl) (by rfl) (by omega) (by simp only [maxLen]; omega) rfl (fun a64 c64 => ?_)
       refine Vv (k:=Wn ?_)
       exact zb16join15
      ·
       refine Zk (k:=?_)
       exact zb16join15
   ·
    refine Nl [_] (cs := [_]) (k:=fun b27 => Di 11 (t:=Ux (Ps [_, _])) (k:=Dn 5 (k:=Nl [_] (cs := [_]) (k:=fun b22 => Di 6 (t:=Ux (Ps [_, _])) (k:=Dn 12 (k:=Nl [_, _] (cs := [_, _, _, _]) (k:=fun b29 => Dn 13 (k:=?_))))))))
    refine an_append1 (sz := 2) (bytes := 32) Tryz.underlying99 ti101 rfl rfl rfl rfl rfl rfl rfl (by rfl) (by rfl) (by omega) (by simp only [maxLen]; omega) rfl (fun a30 c30 => ?_)
    refine Dv 14 (k:=Dd (k:=Ya (Za (k:=Za (k:=?_)))))
    refine wc_frzC b22 ?_
    refine wc_frzC b27 ?_
    obtain ⟨ps, hps⟩ : ∃ ps : List CdV, ps = qs ++ [⟨67, some ⟨b22, 0, none⟩, 1, [46 :: escB c.comment]⟩] ++ [⟨68, some ⟨b27, 0, none⟩, 1, [decN c.date.toNat]⟩] := ⟨_, rfl⟩
    have hpcd : cdsOf ps = bCards c.base ++ [⟨67, [46 :: escB c.comment]⟩, ⟨68, [decN c.date.toNat]⟩] := by rw [hps, cdsOf_app, cdsOf_app, hcd, List.append_assoc]; rfl
    have hpl : ps.length = qs.length + 2 := by rw [hps]; simp
    have hpf : ps.flatMap CdV.cells = qs.flatMap CdV.cells ++ [vU ((67 : UInt8).toNat : Int), .slice (some ⟨b22, 0, none⟩) 1 1, vU ((68 : UInt8).toNat : Int), .slice (some ⟨b27, 0, none⟩) 1 1] := by rw [hps]; simp [CdV.cells]
    refine Zr (k:=Qx 3 26 (k:=Qv (k:=Wq (Zb (k:=?_)))))
    refine p_loop (fun (i : { y : ((Option Addr × Nat) × List CdV) × Nat // y.2 ≤ c.files.length ∧ cdsOf y.1.2 = cdsOf ps ++ (c.files.take y.2).map flCard }) => [(1, .pointer (some ⟨b1, 0, none⟩)), (3, .slice i.1.1.1.1 i.1.1.2.length i.1.1.1.2), (32, .slice x.fa c.files.length x.fc), (33, vI c.files.length), (34, vI i.1.2)]) (fun (i : { y : ((Option Addr × Nat) × List CdV) × Nat // y.2 ≤ c.files.length ∧ cdsOf y.1.2 = cdsOf ps ++ (c.files.take y.2).map flCard }) => [Row 101 2 (.slice i.1.1.1.1 i.1.1.2.length i.1.1.1.2) i.1.1.2.length (i.1.1.2.flatMap CdV.cells), CdM i.1.1.2, Ce b1 30 [vS c.base, vS c.comment, vI c.date, .slice x.fa c.files.length x.fc, .slice x.pa c.parents.length x.pc, .slice x.ta c.tags.length x.tc, vS c.user], Bf, SlI x.pa (c.parents.map vS), Bt]) (fun (i : { y : ((Option Addr × Nat) × List CdV) × Nat // y.2 ≤ c.files.length ∧ cdsOf y.1.2 = cdsOf ps ++ (c.files.take y.2).map flCard }) => c.files.length - i.1.2) rfl (⟨(((a30, c30), ps), 0), Nat.zero_le _, by simp⟩) ?_ ?_ (fun i => ?_)
    · exact ⟨rfl, sl_eq hpl.symm, rfl, rfl, rfl, trivial⟩
    ·
     dsimp only
     rw [hpl, hpf]
     refine Ent.trans (ent_cdm_new (qs := qs) (a := some ⟨b22, 0, none⟩) (c := 1) 67 [46 :: escB c.comment] [vS ([46] ++ escB c.comment)] HasC.get HasC.get rfl (Nat.le_refl _)) ?_
     refine Ent.trans (ent_cdm_new (qs := qs ++ [⟨67, some ⟨b22, 0, none⟩, 1, [46 :: escB c.comment]⟩]) (a := some ⟨b27, 0, none⟩) (c := 1) 68 [decN c.date.toNat] [vS (decN c.date.toNat)] HasC.get HasC.get rfl (Nat.le_refl _)) ?_
     rw [hps]
     exact ent_step (row_norm (by rfl) (by rfl)) ent_pick
    obtain ⟨⟨⟨⟨fa, fc⟩, fs⟩, j⟩, hj, hfs⟩ := i
    dsimp only at hj hfs ⊢
    have hfl := cdsLen hfs
    have hpl0 : (cdsOf ps).length = ps.length := by simp [cdsOf]
    rw [List.length_append, List.length_map, List.length_take, hpl0] at hfl
    try dsimp only
    refine Qc (k:=Vv (k:=Wq (Za (k:=Zi (t:=fun h35 => ?_) (f:=fun h35 => ?_)))))
    ·
     refine Zk (k:=Ya (Za (k:=Zb (k:=Za (k:=?_)))))
     have hjl : j < c.files.length := by omega
     obtain ⟨f, hf⟩ : ∃ f, f = c.files[j] := ⟨_, rfl⟩
     have hfz := z5 f (by rw [hf]; exact List.getElem_mem _)
     have htk : (c.files.take (j + 1)).map flCard = (c.files.take j).map flCard ++ [flCard f] := by rw [List.take_succ_eq_append_getElem hjl, List.map_append, hf]; rfl
     refine Zr (k:=Ye 2 (k:=?_))
     refine r_eloada (vs := [_, _]) (sz := 2) Tryz.underlying25 rfl ti25 rfl rfl (by rw [flat_len (sz := 2) (fun _ => rfl)]; omega) rfl (by refine get_flat (fun x => ?_) ?_ <;> first | rfl | omega) rfl ?_
     rw [← hf]
     refine Zc [vS [], vS []] (k:=fun b5 => Zp (k:=Wq (Qc (k:=Qx 0 9 (k:=Zv [_] (cs := [_]) (k:=fun b40 => Vv (k:=Wq ?_)))))))
     refine p_cut (fun (i : { y : (Option Addr × Nat) × List Bs // y.2 = (flCard f).args ∧ y.2.length ≤ y.1.2 }) => [(1, .pointer (some ⟨b1, 0, none⟩)), (3, .slice fa fs.length fc), (6, .slice i.1.1.1 i.1.2.length i.1.1.2), (32, .slice x.fa c.files.length x.fc), (33, vI c.files.length), (34, vI j)]) (fun (i : { y : (Option Addr × Nat) × List Bs // y.2 = (flCard f).args ∧ y.2.length ≤ y.1.2 }) => [SlI i.1.1.1 (i.1.2.map vS), Row 101 2 (.slice fa fs.length fc) fs.length (fs.flatMap CdV.cells), CdM fs, Ce b1 30 [vS c.base, vS c.comment, vI c.date, .slice x.fa c.files.length x.fc, .slice x.pa c.parents.length x.pc, .slice x.ta c.tags.length x.tc, vS c.user], Bf, SlI x.pa (c.parents.map vS), Bt]) rfl (fun i => ?_) ?_
     ·
      obtain ⟨⟨⟨ga, gc⟩, xs⟩, hxs, hxc⟩ := i
      dsimp only at hxs hxc ⊢
      try dsimp only
      refine Zr (k:=Qv (k:=Vx (Ps [_, _]) (k:=Zv [_] (cs := [_, _]) (k:=fun b52 => ?_))))
      refine r_append1 (sz := 2) (bytes := 32) Tryz.underlying99 ti101 rfl rfl rfl rfl rfl rfl rfl (by rfl) (by rfl) (by omega) (by simp only [maxLen]; omega) rfl (fun a53 c53 => ?_)
      refine Vv (k:=Wn (Yb (Ya (Zr (k:=Qv (k:=Wn ?_))))))
      exact zb16next0
     ·
      refine Qc (k:=Qx 1 9 (k:=Vv (k:=Wq (Zi (t:=fun h43 => ?_) (f:=fun h43 => ?_)))))
      ·
       refine Zr (k:=Vv (k:=Qx 1 9 (k:=Zv [_] (cs := [_]) (k:=fun b47 => ?_))))
       refine wo_ent' (ent_row (k := 1) (cap := 1) (sz := 1) (e := 9) (g := b40) (xs := [vS f.1]) (cur := [vS f.1]) (Nat.le_refl _) (by simp [maxLen]) rfl rfl rfl) ?_
       refine r_append1 (sz := 1) (bytes := 16) Tryz.underlying27 ti9 rfl rfl rfl rfl rfl rfl rfl (by rfl) (by rfl) (by omega) (by simp only [maxLen]; omega) rfl (fun a48 c48 => ?_)
       refine wo_know (A := Row 9 1 (.slice a48 (1 + 1) c48) (1 + 1) ([vS f.1] ++ [vS f.2])) HasC.get row_know (fun hk48 => ?_)
       refine wo_frzR a48 ?_
       rw [show ([vS f.1] ++ [vS f.2]) = ([f.1, f.2] : List Bs).map vS from rfl]
       refine Vv (k:=Wn ?_)
       exact zb16join11
      ·
       refine wc_frzC b40 ?_
       rw [show [vS f.1] = ([f.1] : List Bs).map vS from rfl]
       refine Zk (k:=?_)
       exact zb16join11
    ·
     refine Ze (k:=Xa (Xi (Xb (Ya ?_))))
     refine p_cut (fun (i : { y : (Option Addr × Nat) × List CdV // cdsOf y.2 = ckHead c }) => [(1, .pointer (some ⟨b1, 0, none⟩)), (3, .slice i.1.1.1 i.1.2.length i.1.1.2)]) (fun (i : { y : (Option Addr × Nat) × List CdV // cdsOf y.2 = ckHead c }) => [Row 101 2 (.slice i.1.1.1 i.1.2.length i.1.1.2) i.1.2.length (i.1.2.flatMap CdV.cells), CdM i.1.2, Ce b1 30 [vS c.base, vS c.comment, vI c.date, .slice x.fa c.files.length x.fc, .slice x.pa c.parents.length x.pc, .slice x.ta c.tags.length x.tc, vS c.user], Bf, SlI x.pa (c.parents.map vS), Bt]) rfl (fun i => ?_) ?_
     ·
      obtain ⟨⟨⟨ga, gc⟩, gs⟩, hgs⟩ := i
      dsimp only at hgs ⊢
      have hgl := cdsLen hgs
      have hhl : (ckHead c).length = (bCards c.base).length + 2 + c.files.length + (pCards c.parents).length := by simp [ckHead]; omega
      try dsimp only
      refine Qc (k:=Vv (k:=Qx 5 28 (k:=?_)))
      refine r_callX hTC rfl rfl rfl (fun x68 hx68 => ?_)
      obtain ⟨⟨ta, tc⟩, tqs⟩ := x68
      dsimp only [cardV, cardH] at hx68 ⊢
      have htq := cdsLen hx68
      rw [List.length_map] at htq
      refine r_appendA (sz := 2) (bytes := 32) Tryz.underlying99 ti101 rfl rfl rfl rfl rfl rfl rfl (cells_len tqs) (cells_one tqs) (by omega) (by simp only [maxLen]; omega) rfl (fun a69 c69 => ?_)
      refine Vv (k:=Wq (Qc (k:=Vv (k:=Qx 6 9 (k:=Zv [_] (cs := [_]) (k:=fun b73 => Vx (Ps [_, _]) (k:=Zv [_] (cs := [_, _]) (k:=fun b75 => ?_))))))))
      refine r_append1 (sz := 2) (bytes := 32) Tryz.underlying99 ti101 rfl rfl rfl rfl rfl rfl rfl (by rfl) (by rfl) (by omega) (by simp only [maxLen]; omega) rfl (fun a76 c76 => ?_)
      refine wo_frzC b73 ?_
      obtain ⟨al, hal⟩ : ∃ al : List CdV, al = gs ++ tqs ++ [⟨85, some ⟨b73, 0, none⟩, 1, [c.user]⟩] := ⟨_, rfl⟩
      have halc : cdsOf al = ckCards c := by rw [hal, cdsOf_app, cdsOf_app, hgs, hx68, ckHead, ckCards]; simp [cdsOf, CdV.cd]
      have hall : al.length = gs.length + tqs.length + 1 := by rw [hal]; simp; omega
      have hxx : gs.flatMap CdV.cells ++ tqs.flatMap CdV.cells ++ [vU 85, .slice (some ⟨b73, 0, none⟩) 1 1] = al.flatMap CdV.cells := by rw [hal]; simp [CdV.cells]
      have hPr := ref10_Print_sp (B := Row 101 2 (.slice a76 (gs.length + tqs.length + 1) c76) (gs.length + tqs.length + 1) (gs.flatMap CdV.cells ++ tqs.flatMap CdV.cells ++ [vU 85, .slice (some ⟨b73, 0, none⟩) 1 1])) (a := a76) (gs.length + tqs.length + 1) c76 al (by rw [← hxx]; exact sla_row) hall (by rw [halc]; omega)
      rw [halc] at hPr
      refine wo_ent' (ent_cdm_app (qs := gs) (rs := tqs) HasC.get HasC.get) ?_
      refine wo_ent' (ent_cdm_new (qs := gs ++ tqs) (a := some ⟨b73, 0, none⟩) (c := 1) 85 [c.user] [vS c.user] HasC.get HasC.get rfl (Nat.le_refl _)) ?_
      rw [← hal]
      refine r_call1 hPr rfl rfl rfl ?_
      refine Vv (k:=Wq (Zt (k:=?_)))
      exact zb16ret16
     ·
      refine Za (k:=?_)
      have hjl : j = c.files.length := by omega
      subst hjl
      rw [List.take_length, hpcd] at hfs
      refine Zr (k:=Qx 4 27 (k:=Qv (k:=Wq (Zi (t:=fun h58 => ?_) (f:=fun h58 => ?_)))))
      ·
       refine Zr (k:=Vv (k:=Qx 4 27 (k:=Vx (Ps [_, _]) (k:=Zv [_] (cs := [_, _]) (k:=fun b63 => ?_)))))
       refine r_append1 (sz := 2) (bytes := 32) Tryz.underlying99 ti101 rfl rfl rfl rfl rfl rfl rfl (by rfl) (by rfl) (by omega) (by simp only [maxLen]; omega) rfl (fun a64 c64 => ?_)
       refine Vv (k:=Wn ?_)
       exact zb16join15
      ·
       refine Zk (k:=?_)
       exact zb16join15
 ·
  refine Za (k:=?_)
  refine wc_ent' (row_nil (e := 101) (sz := 2)) ?_
  refine Zr (k:=Qx 0 9 (k:=Vv (k:=Wq (Zi (t:=fun h9 => ?_) (f:=fun h9 => ?_)))))
  ·
   refine Zr (k:=Vv (k:=Qx 0 9 (k:=Zv [_] (cs := [_]) (k:=fun b13 => Vx (Ps [_, _]) (k:=Zv [_] (cs := [_, _]) (k:=fun b15 => ?_))))))
   refine r_append1 (sz := 2) (bytes := 32) Tryz.underlying99 ti101 rfl rfl rfl rfl rfl rfl rfl (by rfl) (by rfl) (by omega) (by simp only [maxLen]; omega) rfl (fun a16 c16 => ?_)
   refine wo_frzC b13 ?_
   refine Vv (k:=Wn ?_)
   exact zb16join4
  ·
   refine Zk (k:=?_)
   exact zb16join4
end
structure CkY (N : Nat) (c : Ck) : Prop where
 base : c.base.length ≤ 1073741824
 comment : c.comment.length ≤ 1073741824
 user : c.user.length ≤ 1073741824
 fn : c.files.length ≤ N
 fz : ∀ f ∈ c.files, f.1.length ≤ 1073741824 ∧ f.2.length ≤ 1073741824
 pn : c.parents.length ≤ 1073741824
 pz : ∀ p ∈ c.parents, p.length ≤ 1073741824
 tags : TgZ c.tags
theorem CkY.step {N : Nat} {c c' : Ck} {x : Cd} (h : CkY N c) (hx : x.args.length ≤ 1073741824) (hz : ∀ a ∈ x.args, a.length ≤ 1073741824) (e : stepR c x = some c') : CkY (N + 1) c' := by
 obtain ⟨a1, a2, a3, a4, a5, a6, a7, a8⟩ := h
 have hd : ∀ i, (x.args.getD i []).length ≤ 1073741824 := fun i => by
  by_cases hi : i < x.args.length
  · exact hz _ (by simp [hi])
  · simp [hi]
 unfold stepR at e
 split at e
 · cases e; exact ⟨hd 0, a2, a3, by dsimp only; omega, a5, a6, a7, a8⟩
 split at e
 · cases u : unescB ((x.args.getD 0 []).drop 1) with
   | none => rw [u] at e; cases e
   | some t =>
     rw [u] at e; cases e
     have h1 := unescB_len u
     have h2 := hd 0
     rw [List.length_drop] at h1
     exact ⟨a1, by dsimp only; omega, a3, by dsimp only; omega, a5, a6, a7, a8⟩
 split at e
 · cases e; exact ⟨a1, a2, a3, by dsimp only; omega, a5, a6, a7, a8⟩
 split at e
 · cases e
   refine ⟨a1, a2, a3, by dsimp only; rw [List.length_append]; simp only [List.length_cons, List.length_nil]; omega, ?_, a6, a7, a8⟩
   intro f hf
   rcases List.mem_append.1 hf with hf | hf
   · exact a5 f hf
   · rw [List.mem_singleton.1 hf]; exact ⟨hd 0, Nat.zero_le _⟩
 split at e
 · cases e
   refine ⟨a1, a2, a3, by dsimp only; rw [List.length_append]; simp only [List.length_cons, List.length_nil]; omega, ?_, a6, a7, a8⟩
   intro f hf
   rcases List.mem_append.1 hf with hf | hf
   · exact a5 f hf
   · rw [List.mem_singleton.1 hf]; exact ⟨hd 0, hd 1⟩
 split at e
 · cases e; exact ⟨a1, a2, a3, by dsimp only; omega, a5, hx, hz, a8⟩
 split at e
 · cases e; exact ⟨a1, a2, a3, by omega, a5, a6, a7, a8⟩
 split at e
 · cases e; exact ⟨a1, a2, hd 0, by dsimp only; omega, a5, a6, a7, a8⟩
 · cases e
/-- The check-ins that are held, by their names, rising. -/
noncomputable def ckOf (H : Ks) (n : Bs) : List (Bs × Ck) := match readK (getB H n) with
 | none => []
 | some c => [(n, c)]
noncomputable def cksF (H : Ks) (l : List Bs) : List (Bs × Ck) := l.flatMap (ckOf H)
noncomputable def cksL (H : Ks) : List (Bs × Ck) := cksF H (keysS H)
def firstB (c : Ck) : Bs := c.parents.headD []
/-- What an artifact says of tags, when. -/
noncomputable def opsB (n s : Bs) : List Tg × Int := match readK s with
 | some c => (c.tags.map fun t => { t with target := n }, c.date)
 | none => (((readCt s).getD ct0).tags, ((readCt s).getD ct0).date)
structure Sd where
 op : Tg
 date : Int
 src : Bs
noncomputable def sdOf (H : Ks) (n : Bs) : List Sd := (opsB n (getB H n)).1.map fun t => ⟨t, (opsB n (getB H n)).2, n⟩
noncomputable def sdF (H : Ks) (l : List Bs) : List Sd := l.flatMap (sdOf H)
noncomputable def sdL (H : Ks) : List Sd := sdF H (keysS H)
def clook : List (Bs × Ck) → Bs → Option Ck
 | [], _ => none
 | p :: r, k => if p.1 = k then some p.2 else clook r k
section
theorem ent_fold2 {R J J0 : HP} {Hs Rs : List HP} (h : Ent [R, J0] [J]) (e : Ent Hs (R :: J0 :: Rs)) : Ent Hs (J :: Rs) := e.trans (h.frame Rs)
theorem ent_open2 {R J J0 : HP} {Hs Rs Gs : List HP} [hp : PickC J Hs Rs] (h : Ent [J] [R, J0]) (e : Ent (R :: J0 :: Rs) Gs) : Ent Hs Gs :=
 ((ent_cons (Ent.refl _)).trans (h.frame Rs)).trans e
theorem ent_al_last {R : HP} {Xs : List HP} : Ent [R, Al Xs] (R :: Xs) := ⟨fun ⟨h1, h2, d, e, a, t⟩ => ⟨h1, h2, d, e, a, by have := sl_al t; rwa [List.append_nil] at this⟩⟩
theorem ent_al_one {Xs : List HP} : Ent [Al Xs] Xs := ⟨fun t => by have := sl_al t; rwa [List.append_nil] at this⟩
theorem ent_one_al {Xs : List HP} : Ent Xs [Al Xs] := ⟨fun {M h} s => ⟨h, Res.emp, Res.dj_emp _, (Res.add_emp _).symm, s, trivial⟩⟩
section
variable {r : Option Nat} {P : Program} {n : Nat} {ops : Array Oper} {os : List Oper} {A : List HP} {L : Loc} {Hs : List HP} {Q : Out} {ty : TypeId} {d : Nat} {pos : String} {after : Array Edge} {c : Code}
end
end
end Go.Proofs.YtdnoacgopfcpbaaGreat
