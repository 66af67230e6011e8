/- Texts of this proof, put together: SR10f, PCk4, PLinks, RangeB. -/
import Derived.Test.YtdnoacgopfcpbaaGreatQ17
set_option linter.unusedVariables false
set_option linter.unusedSimpArgs false
namespace Go.Proofs.YtdnoacgopfcpbaaGreat
section
set_option maxRecDepth 100000
theorem zb16next0 {G : Prop} (h : G := by
    obtain ⟨q, hqq⟩ : ∃ q : CdV, q = ⟨70, ga, gc, xs⟩ := ⟨_, rfl⟩
    have hqc : q.cd = flCard f := by rw [hqq]; show (⟨70, xs⟩ : Cd) = _; rw [hxs]; rfl
    have hql2 : (fs ++ [q]).length = fs.length + 1 := by simp
    refine to_inv ⟨(((a53, c53), fs ++ [q]), j + 1), ?_, ?_⟩ ?_ ⟨rfl, sl_eq hql2.symm, rfl, rfl, rfl, trivial⟩ ?_
    · dsimp only; omega
    · dsimp only; rw [htk, cds_snoc, hqc, hfs, List.append_assoc]
    · dsimp only; omega
    · dsimp only
      rw [hql2]
      refine (ent_cdm_snoc (qs := fs) (q := q) HasC.get (by rw [hqq]; exact HasC.get) (by rw [hqq]; exact hxc)).trans ?_
      exact ent_step (row_norm (by rfl) (by rw [hqq]; simp [CdV.cells])) ent_pick) : G := h
theorem zb16join11 {G : Prop} (h : G := by
    first
    | exact to_inv ⟨((a48, c48), [f.1, f.2]), by simp [flCard, h43], hk48.1⟩ trivial ⟨rfl, rfl, rfl, rfl, rfl, rfl, trivial⟩ ent_pick
    | exact to_inv ⟨((some ⟨b40, 0, none⟩, 1), [f.1]), by simp [flCard, Classical.not_not.1 h43], Nat.le_refl _⟩ trivial ⟨rfl, rfl, rfl, rfl, rfl, rfl, trivial⟩ ent_pick) : G := h
theorem zb16ret16 {G : Prop} (h : G := by exact fin_ret () (vs := [_]) (Cs := []) rfl (.tmp rfl .nil) rfl trivial ent_pick) : G := h
theorem zb16join15 {G : Prop} (h : G := by
    first
    | (have hp : c.parents ≠ [] := fun e => by rw [e] at h58; simp at h58
       have hql2 : (fs ++ [(⟨80, x.pa, x.pc, c.parents⟩ : CdV)]).length = fs.length + 1 := by simp
       refine to_inv ⟨((a64, c64), fs ++ [⟨80, x.pa, x.pc, c.parents⟩]), ?_⟩ trivial ⟨rfl, sl_eq hql2.symm, trivial⟩ ?_
       · dsimp only; rw [cds_snoc, hfs, ckHead, pCards, if_neg hp]; simp [CdV.cd]
       · dsimp only
         rw [hql2]
         refine (ent_cdm_snoc (qs := fs) (q := ⟨80, x.pa, x.pc, c.parents⟩) HasC.get HasC.get hpc).trans ?_
         exact ent_step (row_norm (by rfl) (by rw [fm_snoc]; rfl)) ent_pick)
    | (have hp : c.parents = [] := List.eq_nil_of_length_eq_zero (by omega)
       refine to_inv ⟨((fa, fc), fs), ?_⟩ trivial ⟨rfl, rfl, trivial⟩ ent_pick
       dsimp only; rw [hfs, ckHead, pCards, if_pos hp]; simp)) : G := h
theorem zb16join4 {G : Prop} (h : G := by
    first
    | (have hb : c.base ≠ [] := h9
       refine to_inv ⟨((a16, c16), [⟨66, some ⟨b13, 0, none⟩, 1, [c.base]⟩]), by simp [cdsOf, CdV.cd, bCards, hb]⟩ trivial ⟨rfl, rfl, trivial⟩ ?_
       refine Ent.trans (ent_cdm_one (a := some ⟨b13, 0, none⟩) (c := 1) 66 [c.base] [vS c.base] HasC.get rfl (Nat.le_refl _)) ?_
       dsimp only [List.length_cons, List.length_nil]
       exact ent_step (row_norm (by rfl) (by rfl)) ent_pick)
    | (have hb : c.base = [] := Classical.not_not.1 h9
       refine to_inv ⟨((none, 0), []), by simp [cdsOf, bCards, hb]⟩ trivial ⟨rfl, rfl, trivial⟩ ?_
       refine Ent.trans ent_cdm_nil ?_
       dsimp only [List.length_nil]
       rw [show ([] : List CdV).flatMap CdV.cells = [] from rfl]
       exact ent_pick)) : G := h
set_option maxHeartbeats 4000000 in
theorem ref10_Checkin_sp {Bf Bt : HP} (x : CkA) (c : Ck) (z : CkZ c) (hd : 0 ≤ c.date ∧ c.date ≤ 1073741824) (hz : (bodyB (ckCards c)).length ≤ 1073741824) (shf : SlA Bf x.fa (c.files.flatMap flCells)) (sht : SlA Bt x.ta (c.tags.flatMap tgCells)) (hpc : c.parents.length ≤ x.pc) :
    Sp1 Tryz.prog 16 [.agg (ckVals x c).toArray] [Bf, SlI x.pa (c.parents.map vS), Bt] (vS (ckB c)) [Bf, Bt] := by
 have hTC := ref10_ops_sp c.tags.length x.tc c.tags sht rfl z.tags
 haveI : RdSl x.fa (c.files.flatMap flCells) [Bf, SlI x.pa (c.parents.map vS), Bt] := ⟨⟨Bf, shf, .here⟩⟩
 obtain ⟨z1, z2, z3, z4, z5, z6, z7, z8, z9⟩ := z
 have hcl := (bodyB_ge (ckCards c)).1
 have hcn : (ckCards c).length = (bCards c.base).length + 2 + c.files.length + (pCards c.parents).length + (c.tags.length + 1) := by simp [ckCards]; omega
 have hDec : SpF Tryz.prog 51 [vI c.date] (vS (decN c.date.toNat)) := by
  have := ref1_Dec_sp c.date.toNat (by omega)
  rwa [Int.toNat_of_nonneg hd.1] at this
 refine Sp.body (n := 78) Tryz.call16 Tryz.func16 rfl rfl rfl ?_
 refine Qc (k:=Zx [_, _, _, _, _, _, _] (k:=fun b1 => Vv (k:=Wq (Qc (k:=Vv (k:=Wq ?_))))))
 refine p_cut (fun (i : { x : (Option Addr × Nat) × List CdV // cdsOf x.2 = bCards c.base }) => [(1, .pointer (some ⟨b1, 0, none⟩)), (3, .slice i.1.1.1 i.1.2.length i.1.1.2)]) (fun (i : { x : (Option Addr × Nat) × List CdV // cdsOf x.2 = bCards c.base }) => [Row 101 2 (.slice i.1.1.1 i.1.2.length i.1.1.2) i.1.2.length (i.1.2.flatMap CdV.cells), CdM i.1.2, Ce b1 30 [vS c.base, vS c.comment, vI c.date, .slice x.fa c.files.length x.fc, .slice x.pa c.parents.length x.pc, .slice x.ta c.tags.length x.tc, vS c.user], Bf, SlI x.pa (c.parents.map vS), Bt]) rfl (fun i => ?_) ?_
 ·
  obtain ⟨⟨⟨oa, oc⟩, qs⟩, hcd⟩ := i
  dsimp only at hcd ⊢
  have hql := cdsLen hcd
  try dsimp only
  refine Za (k:=Dw [Ce b1 30 [vS c.base, vS c.comment, vI c.date, .slice x.fa c.files.length x.fc, .slice x.pa c.parents.length x.pc, .slice x.ta c.tags.length x.tc, vS c.user]] (k:=?_))
  refine Dv 0 (k:=Di 1 (t:=Uf 1 9) (k:=Di 2 (t:=Ul) (k:=Di 7 (t:=Uf 2 3) (k:=Di 8 (t:=Ul) (k:=Dn 3 (k:=?_))))))
  refine an_callF (ref10_Escape_sp c.comment (by omega)) rfl rfl rfl ?_
  have hel := (escB_len c.comment).2
  refine Dv 4 (k:=?_)
  refine d_next2 5 9 (by kernel_rfl) rfl rfl ?_ ?_
  ·
   refine Nl [_] (cs := [_]) (k:=fun b22 => Di 6 (t:=Ux (Ps [_, _])) (k:=Dn 9 (k:=?_)))
   refine an_callF hDec rfl rfl rfl ?_
   refine Dn 10 (k:=Nl [_] (cs := [_]) (k:=fun b27 => Di 11 (t:=Ux (Ps [_, _])) (k:=Dn 12 (k:=Nl [_, _] (cs := [_, _, _, _]) (k:=fun b29 => Dn 13 (k:=?_))))))
   refine an_append1 (sz := 2) (bytes := 32) Tryz.underlying99 ti101 rfl rfl rfl rfl rfl rfl rfl (by rfl) (by rfl) (by omega) (by simp only [maxLen]; omega) rfl (fun a30 c30 => ?_)
   refine Dv 14 (k:=Dd (k:=Ya (Za (k:=Za (k:=?_)))))
   refine wc_frzC b22 ?_
   refine wc_frzC b27 ?_
   obtain ⟨ps, hps⟩ : ∃ ps : List CdV, ps = qs ++ [⟨67, some ⟨b22, 0, none⟩, 1, [46 :: escB c.comment]⟩] ++ [⟨68, some ⟨b27, 0, none⟩, 1, [decN c.date.toNat]⟩] := ⟨_, rfl⟩
   have hpcd : cdsOf ps = bCards c.base ++ [⟨67, [46 :: escB c.comment]⟩, ⟨68, [decN c.date.toNat]⟩] := by rw [hps, cdsOf_app, cdsOf_app, hcd, List.append_assoc]; rfl
   have hpl : ps.length = qs.length + 2 := by rw [hps]; simp
   have hpf : ps.flatMap CdV.cells = qs.flatMap CdV.cells ++ [vU ((67 : UInt8).toNat : Int), .slice (some ⟨b22, 0, none⟩) 1 1, vU ((68 : UInt8).toNat : Int), .slice (some ⟨b27, 0, none⟩) 1 1] := by rw [hps]; simp [CdV.cells]
   refine Zr (k:=Qx 3 26 (k:=Qv (k:=Wq (Zb (k:=?_)))))
   refine p_loop (fun (i : { y : ((Option Addr × Nat) × List CdV) × Nat // y.2 ≤ c.files.length ∧ cdsOf y.1.2 = cdsOf ps ++ (c.files.take y.2).map flCard }) => [(1, .pointer (some ⟨b1, 0, none⟩)), (3, .slice i.1.1.1.1 i.1.1.2.length i.1.1.1.2), (32, .slice x.fa c.files.length x.fc), (33, vI c.files.length), (34, vI i.1.2)]) (fun (i : { y : ((Option Addr × Nat) × List CdV) × Nat // y.2 ≤ c.files.length ∧ cdsOf y.1.2 = cdsOf ps ++ (c.files.take y.2).map flCard }) => [Row 101 2 (.slice i.1.1.1.1 i.1.1.2.length i.1.1.1.2) i.1.1.2.length (i.1.1.2.flatMap CdV.cells), CdM i.1.1.2, Ce b1 30 [vS c.base, vS c.comment, vI c.date, .slice x.fa c.files.length x.fc, .slice x.pa c.parents.length x.pc, .slice x.ta c.tags.length x.tc, vS c.user], Bf, SlI x.pa (c.parents.map vS), Bt]) (fun (i : { y : ((Option Addr × Nat) × List CdV) × Nat // y.2 ≤ c.files.length ∧ cdsOf y.1.2 = cdsOf ps ++ (c.files.take y.2).map flCard }) => c.files.length - i.1.2) rfl (⟨(((a30, c30), ps), 0), Nat.zero_le _, by simp⟩) ?_ ?_ (fun i => ?_)
   · exact ⟨rfl, sl_eq hpl.symm, rfl, rfl, rfl, trivial⟩
   ·
    dsimp only
    rw [hpl, hpf]
    refine Ent.trans (ent_cdm_new (qs := qs) (a := some ⟨b22, 0, none⟩) (c := 1) 67 [46 :: escB c.comment] [vS ([46] ++ escB c.comment)] HasC.get HasC.get rfl (Nat.le_refl _)) ?_
    refine Ent.trans (ent_cdm_new (qs := qs ++ [⟨67, some ⟨b22, 0, none⟩, 1, [46 :: escB c.comment]⟩]) (a := some ⟨b27, 0, none⟩) (c := 1) 68 [decN c.date.toNat] [vS (decN c.date.toNat)] HasC.get HasC.get rfl (Nat.le_refl _)) ?_
    rw [hps]
    exact ent_step (row_norm (by rfl) (by rfl)) ent_pick
   obtain ⟨⟨⟨⟨fa, fc⟩, fs⟩, j⟩, hj, hfs⟩ := i
   dsimp only at hj hfs ⊢
   have hfl := cdsLen hfs
   have hpl0 : (cdsOf ps).length = ps.length := by simp [cdsOf]
   rw [List.length_append, List.length_map, List.length_take, hpl0] at hfl
   try dsimp only
   refine Qc (k:=Vv (k:=Wq (Za (k:=Zi (t:=fun h35 => ?_) (f:=fun h35 => ?_)))))
   ·
    refine Zk (k:=Ya (Za (k:=Zb (k:=Za (k:=?_)))))
    have hjl : j < c.files.length := by omega
    obtain ⟨f, hf⟩ : ∃ f, f = c.files[j] := ⟨_, rfl⟩
    have hfz := z5 f (by rw [hf]; exact List.getElem_mem _)
    have htk : (c.files.take (j + 1)).map flCard = (c.files.take j).map flCard ++ [flCard f] := by rw [List.take_succ_eq_append_getElem hjl, List.map_append, hf]; rfl
    refine Zr (k:=Ye 2 (k:=?_))
    refine r_eloada (vs := [_, _]) (sz := 2) Tryz.underlying25 rfl ti25 rfl rfl (by rw [flat_len (sz := 2) (fun _ => rfl)]; omega) rfl (by refine get_flat (fun x => ?_) ?_ <;> first | rfl | omega) rfl ?_
    rw [← hf]
    refine Zc [vS [], vS []] (k:=fun b5 => Zp (k:=Wq (Qc (k:=Qx 0 9 (k:=Zv [_] (cs := [_]) (k:=fun b40 => Vv (k:=Wq ?_)))))))
    refine p_cut (fun (i : { y : (Option Addr × Nat) × List Bs // y.2 = (flCard f).args ∧ y.2.length ≤ y.1.2 }) => [(1, .pointer (some ⟨b1, 0, none⟩)), (3, .slice fa fs.length fc), (6, .slice i.1.1.1 i.1.2.length i.1.1.2), (32, .slice x.fa c.files.length x.fc), (33, vI c.files.length), (34, vI j)]) (fun (i : { y : (Option Addr × Nat) × List Bs // y.2 = (flCard f).args ∧ y.2.length ≤ y.1.2 }) => [SlI i.1.1.1 (i.1.2.map vS), Row 101 2 (.slice fa fs.length fc) fs.length (fs.flatMap CdV.cells), CdM fs, Ce b1 30 [vS c.base, vS c.comment, vI c.date, .slice x.fa c.files.length x.fc, .slice x.pa c.parents.length x.pc, .slice x.ta c.tags.length x.tc, vS c.user], Bf, SlI x.pa (c.parents.map vS), Bt]) rfl (fun i => ?_) ?_
    ·
     obtain ⟨⟨⟨ga, gc⟩, xs⟩, hxs, hxc⟩ := i
     dsimp only at hxs hxc ⊢
     try dsimp only
     refine Zr (k:=Qv (k:=Vx (Ps [_, _]) (k:=Zv [_] (cs := [_, _]) (k:=fun b52 => ?_))))
     refine r_append1 (sz := 2) (bytes := 32) Tryz.underlying99 ti101 rfl rfl rfl rfl rfl rfl rfl (by rfl) (by rfl) (by omega) (by simp only [maxLen]; omega) rfl (fun a53 c53 => ?_)
     refine Vv (k:=Wn (Yb (Ya (Zr (k:=Qv (k:=Wn ?_))))))
     exact zb16next0
    ·
     refine Qc (k:=Qx 1 9 (k:=Vv (k:=Wq (Zi (t:=fun h43 => ?_) (f:=fun h43 => ?_)))))
     ·
      refine Zr (k:=Vv (k:=Qx 1 9 (k:=Zv [_] (cs := [_]) (k:=fun b47 => ?_))))
      refine wo_ent' (ent_row (k := 1) (cap := 1) (sz := 1) (e := 9) (g := b40) (xs := [vS f.1]) (cur := [vS f.1]) (Nat.le_refl _) (by simp [maxLen]) rfl rfl rfl) ?_
      refine r_append1 (sz := 1) (bytes := 16) Tryz.underlying27 ti9 rfl rfl rfl rfl rfl rfl rfl (by rfl) (by rfl) (by omega) (by simp only [maxLen]; omega) rfl (fun a48 c48 => ?_)
      refine wo_know (A := Row 9 1 (.slice a48 (1 + 1) c48) (1 + 1) ([vS f.1] ++ [vS f.2])) HasC.get row_know (fun hk48 => ?_)
      refine wo_frzR a48 ?_
      rw [show ([vS f.1] ++ [vS f.2]) = ([f.1, f.2] : List Bs).map vS from rfl]
      refine Vv (k:=Wn ?_)
      exact zb16join11
     ·
      refine wc_frzC b40 ?_
      rw [show [vS f.1] = ([f.1] : List Bs).map vS from rfl]
      refine Zk (k:=?_)
      exact zb16join11
   ·
    refine Ze (k:=Xa (Xi (Xb (Ya ?_))))
    refine p_cut (fun (i : { y : (Option Addr × Nat) × List CdV // cdsOf y.2 = ckHead c }) => [(1, .pointer (some ⟨b1, 0, none⟩)), (3, .slice i.1.1.1 i.1.2.length i.1.1.2)]) (fun (i : { y : (Option Addr × Nat) × List CdV // cdsOf y.2 = ckHead c }) => [Row 101 2 (.slice i.1.1.1 i.1.2.length i.1.1.2) i.1.2.length (i.1.2.flatMap CdV.cells), CdM i.1.2, Ce b1 30 [vS c.base, vS c.comment, vI c.date, .slice x.fa c.files.length x.fc, .slice x.pa c.parents.length x.pc, .slice x.ta c.tags.length x.tc, vS c.user], Bf, SlI x.pa (c.parents.map vS), Bt]) rfl (fun i => ?_) ?_
    ·
     obtain ⟨⟨⟨ga, gc⟩, gs⟩, hgs⟩ := i
     dsimp only at hgs ⊢
     have hgl := cdsLen hgs
     have hhl : (ckHead c).length = (bCards c.base).length + 2 + c.files.length + (pCards c.parents).length := by simp [ckHead]; omega
     try dsimp only
     refine Qc (k:=Vv (k:=Qx 5 28 (k:=?_)))
     refine r_callX hTC rfl rfl rfl (fun x68 hx68 => ?_)
     obtain ⟨⟨ta, tc⟩, tqs⟩ := x68
     dsimp only [cardV, cardH] at hx68 ⊢
     have htq := cdsLen hx68
     rw [List.length_map] at htq
     refine r_appendA (sz := 2) (bytes := 32) Tryz.underlying99 ti101 rfl rfl rfl rfl rfl rfl rfl (cells_len tqs) (cells_one tqs) (by omega) (by simp only [maxLen]; omega) rfl (fun a69 c69 => ?_)
     refine Vv (k:=Wq (Qc (k:=Vv (k:=Qx 6 9 (k:=Zv [_] (cs := [_]) (k:=fun b73 => Vx (Ps [_, _]) (k:=Zv [_] (cs := [_, _]) (k:=fun b75 => ?_))))))))
     refine r_append1 (sz := 2) (bytes := 32) Tryz.underlying99 ti101 rfl rfl rfl rfl rfl rfl rfl (by rfl) (by rfl) (by omega) (by simp only [maxLen]; omega) rfl (fun a76 c76 => ?_)
     refine wo_frzC b73 ?_
     obtain ⟨al, hal⟩ : ∃ al : List CdV, al = gs ++ tqs ++ [⟨85, some ⟨b73, 0, none⟩, 1, [c.user]⟩] := ⟨_, rfl⟩
     have halc : cdsOf al = ckCards c := by rw [hal, cdsOf_app, cdsOf_app, hgs, hx68, ckHead, ckCards]; simp [cdsOf, CdV.cd]
     have hall : al.length = gs.length + tqs.length + 1 := by rw [hal]; simp; omega
     have hxx : gs.flatMap CdV.cells ++ tqs.flatMap CdV.cells ++ [vU 85, .slice (some ⟨b73, 0, none⟩) 1 1] = al.flatMap CdV.cells := by rw [hal]; simp [CdV.cells]
     have hPr := ref10_Print_sp (B := Row 101 2 (.slice a76 (gs.length + tqs.length + 1) c76) (gs.length + tqs.length + 1) (gs.flatMap CdV.cells ++ tqs.flatMap CdV.cells ++ [vU 85, .slice (some ⟨b73, 0, none⟩) 1 1])) (a := a76) (gs.length + tqs.length + 1) c76 al (by rw [← hxx]; exact sla_row) hall (by rw [halc]; omega)
     rw [halc] at hPr
     refine wo_ent' (ent_cdm_app (qs := gs) (rs := tqs) HasC.get HasC.get) ?_
     refine wo_ent' (ent_cdm_new (qs := gs ++ tqs) (a := some ⟨b73, 0, none⟩) (c := 1) 85 [c.user] [vS c.user] HasC.get HasC.get rfl (Nat.le_refl _)) ?_
     rw [← hal]
     refine r_call1 hPr rfl rfl rfl ?_
     refine Vv (k:=Wq (Zt (k:=?_)))
     exact zb16ret16
    ·
     refine Za (k:=?_)
     have hjl : j = c.files.length := by omega
     subst hjl
     rw [List.take_length, hpcd] at hfs
     refine Zr (k:=Qx 4 27 (k:=Qv (k:=Wq (Zi (t:=fun h58 => ?_) (f:=fun h58 => ?_)))))
     ·
      refine Zr (k:=Vv (k:=Qx 4 27 (k:=Vx (Ps [_, _]) (k:=Zv [_] (cs := [_, _]) (k:=fun b63 => ?_)))))
      refine r_append1 (sz := 2) (bytes := 32) Tryz.underlying99 ti101 rfl rfl rfl rfl rfl rfl rfl (by rfl) (by rfl) (by omega) (by simp only [maxLen]; omega) rfl (fun a64 c64 => ?_)
      refine Vv (k:=Wn ?_)
      exact zb16join15
     ·
      refine Zk (k:=?_)
      exact zb16join15
  ·
   refine an_callF hDec rfl rfl rfl ?_
   refine d_next2 5 10 (by kernel_rfl) rfl rfl ?_ ?_
   ·
    refine Nl [_] (cs := [_]) (k:=fun b22 => Di 6 (t:=Ux (Ps [_, _])) (k:=Dn 10 (k:=Nl [_] (cs := [_]) (k:=fun b27 => Di 11 (t:=Ux (Ps [_, _])) (k:=Dn 12 (k:=Nl [_, _] (cs := [_, _, _, _]) (k:=fun b29 => Dn 13 (k:=?_))))))))
    refine an_append1 (sz := 2) (bytes := 32) Tryz.underlying99 ti101 rfl rfl rfl rfl rfl rfl rfl (by rfl) (by rfl) (by omega) (by simp only [maxLen]; omega) rfl (fun a30 c30 => ?_)
    refine Dv 14 (k:=Dd (k:=Ya (Za (k:=Za (k:=?_)))))
    refine wc_frzC b22 ?_
    refine wc_frzC b27 ?_
    obtain ⟨ps, hps⟩ : ∃ ps : List CdV, ps = qs ++ [⟨67, some ⟨b22, 0, none⟩, 1, [46 :: escB c.comment]⟩] ++ [⟨68, some ⟨b27, 0, none⟩, 1, [decN c.date.toNat]⟩] := ⟨_, rfl⟩
    have hpcd : cdsOf ps = bCards c.base ++ [⟨67, [46 :: escB c.comment]⟩, ⟨68, [decN c.date.toNat]⟩] := by rw [hps, cdsOf_app, cdsOf_app, hcd, List.append_assoc]; rfl
    have hpl : ps.length = qs.length + 2 := by rw [hps]; simp
    have hpf : ps.flatMap CdV.cells = qs.flatMap CdV.cells ++ [vU ((67 : UInt8).toNat : Int), .slice (some ⟨b22, 0, none⟩) 1 1, vU ((68 : UInt8).toNat : Int), .slice (some ⟨b27, 0, none⟩) 1 1] := by rw [hps]; simp [CdV.cells]
    refine Zr (k:=Qx 3 26 (k:=Qv (k:=Wq (Zb (k:=?_)))))
    refine p_loop (fun (i : { y : ((Option Addr × Nat) × List CdV) × Nat // y.2 ≤ c.files.length ∧ cdsOf y.1.2 = cdsOf ps ++ (c.files.take y.2).map flCard }) => [(1, .pointer (some ⟨b1, 0, none⟩)), (3, .slice i.1.1.1.1 i.1.1.2.length i.1.1.1.2), (32, .slice x.fa c.files.length x.fc), (33, vI c.files.length), (34, vI i.1.2)]) (fun (i : { y : ((Option Addr × Nat) × List CdV) × Nat // y.2 ≤ c.files.length ∧ cdsOf y.1.2 = cdsOf ps ++ (c.files.take y.2).map flCard }) => [Row 101 2 (.slice i.1.1.1.1 i.1.1.2.length i.1.1.1.2) i.1.1.2.length (i.1.1.2.flatMap CdV.cells), CdM i.1.1.2, Ce b1 30 [vS c.base, vS c.comment, vI c.date, .slice x.fa c.files.length x.fc, .slice x.pa c.parents.length x.pc, .slice x.ta c.tags.length x.tc, vS c.user], Bf, SlI x.pa (c.parents.map vS), Bt]) (fun (i : { y : ((Option Addr × Nat) × List CdV) × Nat // y.2 ≤ c.files.length ∧ cdsOf y.1.2 = cdsOf ps ++ (c.files.take y.2).map flCard }) => c.files.length - i.1.2) rfl (⟨(((a30, c30), ps), 0), Nat.zero_le _, by simp⟩) ?_ ?_ (fun i => ?_)
    · exact ⟨rfl, sl_eq hpl.symm, rfl, rfl, rfl, trivial⟩
    ·
     dsimp only
     rw [hpl, hpf]
     refine Ent.trans (ent_cdm_new (qs := qs) (a := some ⟨b22, 0, none⟩) (c := 1) 67 [46 :: escB c.comment] [vS ([46] ++ escB c.comment)] HasC.get HasC.get rfl (Nat.le_refl _)) ?_
     refine Ent.trans (ent_cdm_new (qs := qs ++ [⟨67, some ⟨b22, 0, none⟩, 1, [46 :: escB c.comment]⟩]) (a := some ⟨b27, 0, none⟩) (c := 1) 68 [decN c.date.toNat] [vS (decN c.date.toNat)] HasC.get HasC.get rfl (Nat.le_refl _)) ?_
     rw [hps]
     exact ent_step (row_norm (by rfl) (by rfl)) ent_pick
    obtain ⟨⟨⟨⟨fa, fc⟩, fs⟩, j⟩, hj, hfs⟩ := i
    dsimp only at hj hfs ⊢
    have hfl := cdsLen hfs
    have hpl0 : (cdsOf ps).length = ps.length := by simp [cdsOf]
    rw [List.length_append, List.length_map, List.length_take, hpl0] at hfl
    try dsimp only
    refine Qc (k:=Vv (k:=Wq (Za (k:=Zi (t:=fun h35 => ?_) (f:=fun h35 => ?_)))))
    ·
     refine Zk (k:=Ya (Za (k:=Zb (k:=Za (k:=?_)))))
     have hjl : j < c.files.length := by omega
     obtain ⟨f, hf⟩ : ∃ f, f = c.files[j] := ⟨_, rfl⟩
     have hfz := z5 f (by rw [hf]; exact List.getElem_mem _)
     have htk : (c.files.take (j + 1)).map flCard = (c.files.take j).map flCard ++ [flCard f] := by rw [List.take_succ_eq_append_getElem hjl, List.map_append, hf]; rfl
     refine Zr (k:=Ye 2 (k:=?_))
     refine r_eloada (vs := [_, _]) (sz := 2) Tryz.underlying25 rfl ti25 rfl rfl (by rw [flat_len (sz := 2) (fun _ => rfl)]; omega) rfl (by refine get_flat (fun x => ?_) ?_ <;> first | rfl | omega) rfl ?_
     rw [← hf]
     refine Zc [vS [], vS []] (k:=fun b5 => Zp (k:=Wq (Qc (k:=Qx 0 9 (k:=Zv [_] (cs := [_]) (k:=fun b40 => Vv (k:=Wq ?_)))))))
     refine p_cut (fun (i : { y : (Option Addr × Nat) × List Bs // y.2 = (flCard f).args ∧ y.2.length ≤ y.1.2 }) => [(1, .pointer (some ⟨b1, 0, none⟩)), (3, .slice fa fs.length fc), (6, .slice i.1.1.1 i.1.2.length i.1.1.2), (32, .slice x.fa c.files.length x.fc), (33, vI c.files.length), (34, vI j)]) (fun (i : { y : (Option Addr × Nat) × List Bs // y.2 = (flCard f).args ∧ y.2.length ≤ y.1.2 }) => [SlI i.1.1.1 (i.1.2.map vS), Row 101 2 (.slice fa fs.length fc) fs.length (fs.flatMap CdV.cells), CdM fs, Ce b1 30 [vS c.base, vS c.comment, vI c.date, .slice x.fa c.files.length x.fc, .slice x.pa c.parents.length x.pc, .slice x.ta c.tags.length x.tc, vS c.user], Bf, SlI x.pa (c.parents.map vS), Bt]) rfl (fun i => ?_) ?_
     ·
      obtain ⟨⟨⟨ga, gc⟩, xs⟩, hxs, hxc⟩ := i
      dsimp only at hxs hxc ⊢
      try dsimp only
      refine Zr (k:=Qv (k:=Vx (Ps [_, _]) (k:=Zv [_] (cs := [_, _]) (k:=fun b52 => ?_))))
      refine r_append1 (sz := 2) (bytes := 32) Tryz.underlying99 ti101 rfl rfl rfl rfl rfl rfl rfl (by rfl) (by rfl) (by omega) (by simp only [maxLen]; omega) rfl (fun a53 c53 => ?_)
      refine Vv (k:=Wn (Yb (Ya (Zr (k:=Qv (k:=Wn ?_))))))
      exact zb16next0
     ·
      refine Qc (k:=Qx 1 9 (k:=Vv (k:=Wq (Zi (t:=fun h43 => ?_) (f:=fun h43 => ?_)))))
      ·
       refine Zr (k:=Vv (k:=Qx 1 9 (k:=Zv [_] (cs := [_]) (k:=fun b47 => ?_))))
       refine wo_ent' (ent_row (k := 1) (cap := 1) (sz := 1) (e := 9) (g := b40) (xs := [vS f.1]) (cur := [vS f.1]) (Nat.le_refl _) (by simp [maxLen]) rfl rfl rfl) ?_
       refine r_append1 (sz := 1) (bytes := 16) Tryz.underlying27 ti9 rfl rfl rfl rfl rfl rfl rfl (by rfl) (by rfl) (by omega) (by simp only [maxLen]; omega) rfl (fun a48 c48 => ?_)
       refine wo_know (A := Row 9 1 (.slice a48 (1 + 1) c48) (1 + 1) ([vS f.1] ++ [vS f.2])) HasC.get row_know (fun hk48 => ?_)
       refine wo_frzR a48 ?_
       rw [show ([vS f.1] ++ [vS f.2]) = ([f.1, f.2] : List Bs).map vS from rfl]
       refine Vv (k:=Wn ?_)
       exact zb16join11
      ·
       refine wc_frzC b40 ?_
       rw [show [vS f.1] = ([f.1] : List Bs).map vS from rfl]
       refine Zk (k:=?_)
       exact zb16join11
    ·
     refine Ze (k:=Xa (Xi (Xb (Ya ?_))))
     refine p_cut (fun (i : { y : (Option Addr × Nat) × List CdV // cdsOf y.2 = ckHead c }) => [(1, .pointer (some ⟨b1, 0, none⟩)), (3, .slice i.1.1.1 i.1.2.length i.1.1.2)]) (fun (i : { y : (Option Addr × Nat) × List CdV // cdsOf y.2 = ckHead c }) => [Row 101 2 (.slice i.1.1.1 i.1.2.length i.1.1.2) i.1.2.length (i.1.2.flatMap CdV.cells), CdM i.1.2, Ce b1 30 [vS c.base, vS c.comment, vI c.date, .slice x.fa c.files.length x.fc, .slice x.pa c.parents.length x.pc, .slice x.ta c.tags.length x.tc, vS c.user], Bf, SlI x.pa (c.parents.map vS), Bt]) rfl (fun i => ?_) ?_
     ·
      obtain ⟨⟨⟨ga, gc⟩, gs⟩, hgs⟩ := i
      dsimp only at hgs ⊢
      have hgl := cdsLen hgs
      have hhl : (ckHead c).length = (bCards c.base).length + 2 + c.files.length + (pCards c.parents).length := by simp [ckHead]; omega
      try dsimp only
      refine Qc (k:=Vv (k:=Qx 5 28 (k:=?_)))
      refine r_callX hTC rfl rfl rfl (fun x68 hx68 => ?_)
      obtain ⟨⟨ta, tc⟩, tqs⟩ := x68
      dsimp only [cardV, cardH] at hx68 ⊢
      have htq := cdsLen hx68
      rw [List.length_map] at htq
      refine r_appendA (sz := 2) (bytes := 32) Tryz.underlying99 ti101 rfl rfl rfl rfl rfl rfl rfl (cells_len tqs) (cells_one tqs) (by omega) (by simp only [maxLen]; omega) rfl (fun a69 c69 => ?_)
      refine Vv (k:=Wq (Qc (k:=Vv (k:=Qx 6 9 (k:=Zv [_] (cs := [_]) (k:=fun b73 => Vx (Ps [_, _]) (k:=Zv [_] (cs := [_, _]) (k:=fun b75 => ?_))))))))
      refine r_append1 (sz := 2) (bytes := 32) Tryz.underlying99 ti101 rfl rfl rfl rfl rfl rfl rfl (by rfl) (by rfl) (by omega) (by simp only [maxLen]; omega) rfl (fun a76 c76 => ?_)
      refine wo_frzC b73 ?_
      obtain ⟨al, hal⟩ : ∃ al : List CdV, al = gs ++ tqs ++ [⟨85, some ⟨b73, 0, none⟩, 1, [c.user]⟩] := ⟨_, rfl⟩
      have halc : cdsOf al = ckCards c := by rw [hal, cdsOf_app, cdsOf_app, hgs, hx68, ckHead, ckCards]; simp [cdsOf, CdV.cd]
      have hall : al.length = gs.length + tqs.length + 1 := by rw [hal]; simp; omega
      have hxx : gs.flatMap CdV.cells ++ tqs.flatMap CdV.cells ++ [vU 85, .slice (some ⟨b73, 0, none⟩) 1 1] = al.flatMap CdV.cells := by rw [hal]; simp [CdV.cells]
      have hPr := ref10_Print_sp (B := Row 101 2 (.slice a76 (gs.length + tqs.length + 1) c76) (gs.length + tqs.length + 1) (gs.flatMap CdV.cells ++ tqs.flatMap CdV.cells ++ [vU 85, .slice (some ⟨b73, 0, none⟩) 1 1])) (a := a76) (gs.length + tqs.length + 1) c76 al (by rw [← hxx]; exact sla_row) hall (by rw [halc]; omega)
      rw [halc] at hPr
      refine wo_ent' (ent_cdm_app (qs := gs) (rs := tqs) HasC.get HasC.get) ?_
      refine wo_ent' (ent_cdm_new (qs := gs ++ tqs) (a := some ⟨b73, 0, none⟩) (c := 1) 85 [c.user] [vS c.user] HasC.get HasC.get rfl (Nat.le_refl _)) ?_
      rw [← hal]
      refine r_call1 hPr rfl rfl rfl ?_
      refine Vv (k:=Wq (Zt (k:=?_)))
      exact zb16ret16
     ·
      refine Za (k:=?_)
      have hjl : j = c.files.length := by omega
      subst hjl
      rw [List.take_length, hpcd] at hfs
      refine Zr (k:=Qx 4 27 (k:=Qv (k:=Wq (Zi (t:=fun h58 => ?_) (f:=fun h58 => ?_)))))
      ·
       refine Zr (k:=Vv (k:=Qx 4 27 (k:=Vx (Ps [_, _]) (k:=Zv [_] (cs := [_, _]) (k:=fun b63 => ?_)))))
       refine r_append1 (sz := 2) (bytes := 32) Tryz.underlying99 ti101 rfl rfl rfl rfl rfl rfl rfl (by rfl) (by rfl) (by omega) (by simp only [maxLen]; omega) rfl (fun a64 c64 => ?_)
       refine Vv (k:=Wn ?_)
       exact zb16join15
      ·
       refine Zk (k:=?_)
       exact zb16join15
   ·
    refine Nl [_] (cs := [_]) (k:=fun b27 => Di 11 (t:=Ux (Ps [_, _])) (k:=Dn 5 (k:=Nl [_] (cs := [_]) (k:=fun b22 => Di 6 (t:=Ux (Ps [_, _])) (k:=Dn 12 (k:=Nl [_, _] (cs := [_, _, _, _]) (k:=fun b29 => Dn 13 (k:=?_))))))))
    refine an_append1 (sz := 2) (bytes := 32) Tryz.underlying99 ti101 rfl rfl rfl rfl rfl rfl rfl (by rfl) (by rfl) (by omega) (by simp only [maxLen]; omega) rfl (fun a30 c30 => ?_)
    refine Dv 14 (k:=Dd (k:=Ya (Za (k:=Za (k:=?_)))))
    refine wc_frzC b22 ?_
    refine wc_frzC b27 ?_
    obtain ⟨ps, hps⟩ : ∃ ps : List CdV, ps = qs ++ [⟨67, some ⟨b22, 0, none⟩, 1, [46 :: escB c.comment]⟩] ++ [⟨68, some ⟨b27, 0, none⟩, 1, [decN c.date.toNat]⟩] := ⟨_, rfl⟩
    have hpcd : cdsOf ps = bCards c.base ++ [⟨67, [46 :: escB c.comment]⟩, ⟨68, [decN c.date.toNat]⟩] := by rw [hps, cdsOf_app, cdsOf_app, hcd, List.append_assoc]; rfl
    have hpl : ps.length = qs.length + 2 := by rw [hps]; simp
    have hpf : ps.flatMap CdV.cells = qs.flatMap CdV.cells ++ [vU ((67 : UInt8).toNat : Int), .slice (some ⟨b22, 0, none⟩) 1 1, vU ((68 : UInt8).toNat : Int), .slice (some ⟨b27, 0, none⟩) 1 1] := by rw [hps]; simp [CdV.cells]
    refine Zr (k:=Qx 3 26 (k:=Qv (k:=Wq (Zb (k:=?_)))))
    refine p_loop (fun (i : { y : ((Option Addr × Nat) × List CdV) × Nat // y.2 ≤ c.files.length ∧ cdsOf y.1.2 = cdsOf ps ++ (c.files.take y.2).map flCard }) => [(1, .pointer (some ⟨b1, 0, none⟩)), (3, .slice i.1.1.1.1 i.1.1.2.length i.1.1.1.2), (32, .slice x.fa c.files.length x.fc), (33, vI c.files.length), (34, vI i.1.2)]) (fun (i : { y : ((Option Addr × Nat) × List CdV) × Nat // y.2 ≤ c.files.length ∧ cdsOf y.1.2 = cdsOf ps ++ (c.files.take y.2).map flCard }) => [Row 101 2 (.slice i.1.1.1.1 i.1.1.2.length i.1.1.1.2) i.1.1.2.length (i.1.1.2.flatMap CdV.cells), CdM i.1.1.2, Ce b1 30 [vS c.base, vS c.comment, vI c.date, .slice x.fa c.files.length x.fc, .slice x.pa c.parents.length x.pc, .slice x.ta c.tags.length x.tc, vS c.user], Bf, SlI x.pa (c.parents.map vS), Bt]) (fun (i : { y : ((Option Addr × Nat) × List CdV) × Nat // y.2 ≤ c.files.length ∧ cdsOf y.1.2 = cdsOf ps ++ (c.files.take y.2).map flCard }) => c.files.length - i.1.2) rfl (⟨(((a30, c30), ps), 0), Nat.zero_le _, by simp⟩) ?_ ?_ (fun i => ?_)
    · exact ⟨rfl, sl_eq hpl.symm, rfl, rfl, rfl, trivial⟩
    ·
     dsimp only
     rw [hpl, hpf]
     refine Ent.trans (ent_cdm_new (qs := qs) (a := some ⟨b22, 0, none⟩) (c := 1) 67 [46 :: escB c.comment] [vS ([46] ++ escB c.comment)] HasC.get HasC.get rfl (Nat.le_refl _)) ?_
     refine Ent.trans (ent_cdm_new (qs := qs ++ [⟨67, some ⟨b22, 0, none⟩, 1, [46 :: escB c.comment]⟩]) (a := some ⟨b27, 0, none⟩) (c := 1) 68 [decN c.date.toNat] [vS (decN c.date.toNat)] HasC.get HasC.get rfl (Nat.le_refl _)) ?_
     rw [hps]
     exact ent_step (row_norm (by rfl) (by rfl)) ent_pick
    obtain ⟨⟨⟨⟨fa, fc⟩, fs⟩, j⟩, hj, hfs⟩ := i
    dsimp only at hj hfs ⊢
    have hfl := cdsLen hfs
    have hpl0 : (cdsOf ps).length = ps.length := by simp [cdsOf]
    rw [List.length_append, List.length_map, List.length_take, hpl0] at hfl
    try dsimp only
    refine Qc (k:=Vv (k:=Wq (Za (k:=Zi (t:=fun h35 => ?_) (f:=fun h35 => ?_)))))
    ·
     refine Zk (k:=Ya (Za (k:=Zb (k:=Za (k:=?_)))))
     have hjl : j < c.files.length := by omega
     obtain ⟨f, hf⟩ : ∃ f, f = c.files[j] := ⟨_, rfl⟩
     have hfz := z5 f (by rw [hf]; exact List.getElem_mem _)
     have htk : (c.files.take (j + 1)).map flCard = (c.files.take j).map flCard ++ [flCard f] := by rw [List.take_succ_eq_append_getElem hjl, List.map_append, hf]; rfl
     refine Zr (k:=Ye 2 (k:=?_))
     refine r_eloada (vs := [_, _]) (sz := 2) Tryz.underlying25 rfl ti25 rfl rfl (by rw [flat_len (sz := 2) (fun _ => rfl)]; omega) rfl (by refine get_flat (fun x => ?_) ?_ <;> first | rfl | omega) rfl ?_
     rw [← hf]
     refine Zc [vS [], vS []] (k:=fun b5 => Zp (k:=Wq (Qc (k:=Qx 0 9 (k:=Zv [_] (cs := [_]) (k:=fun b40 => Vv (k:=Wq ?_)))))))
     refine p_cut (fun (i : { y : (Option Addr × Nat) × List Bs // y.2 = (flCard f).args ∧ y.2.length ≤ y.1.2 }) => [(1, .pointer (some ⟨b1, 0, none⟩)), (3, .slice fa fs.length fc), (6, .slice i.1.1.1 i.1.2.length i.1.1.2), (32, .slice x.fa c.files.length x.fc), (33, vI c.files.length), (34, vI j)]) (fun (i : { y : (Option Addr × Nat) × List Bs // y.2 = (flCard f).args ∧ y.2.length ≤ y.1.2 }) => [SlI i.1.1.1 (i.1.2.map vS), Row 101 2 (.slice fa fs.length fc) fs.length (fs.flatMap CdV.cells), CdM fs, Ce b1 30 [vS c.base, vS c.comment, vI c.date, .slice x.fa c.files.length x.fc, .slice x.pa c.parents.length x.pc, .slice x.ta c.tags.length x.tc, vS c.user], Bf, SlI x.pa (c.parents.map vS), Bt]) rfl (fun i => ?_) ?_
     ·
      obtain ⟨⟨⟨ga, gc⟩, xs⟩, hxs, hxc⟩ := i
      dsimp only at hxs hxc ⊢
      try dsimp only
      refine Zr (k:=Qv (k:=Vx (Ps [_, _]) (k:=Zv [_] (cs := [_, _]) (k:=fun b52 => ?_))))
      refine r_append1 (sz := 2) (bytes := 32) Tryz.underlying99 ti101 rfl rfl rfl rfl rfl rfl rfl (by rfl) (by rfl) (by omega) (by simp only [maxLen]; omega) rfl (fun a53 c53 => ?_)
      refine Vv (k:=Wn (Yb (Ya (Zr (k:=Qv (k:=Wn ?_))))))
      exact zb16next0
     ·
      refine Qc (k:=Qx 1 9 (k:=Vv (k:=Wq (Zi (t:=fun h43 => ?_) (f:=fun h43 => ?_)))))
      ·
       refine Zr (k:=Vv (k:=Qx 1 9 (k:=Zv [_] (cs := [_]) (k:=fun b47 => ?_))))
       refine wo_ent' (ent_row (k := 1) (cap := 1) (sz := 1) (e := 9) (g := b40) (xs := [vS f.1]) (cur := [vS f.1]) (Nat.le_refl _) (by simp [maxLen]) rfl rfl rfl) ?_
       refine r_append1 (sz := 1) (bytes := 16) Tryz.underlying27 ti9 rfl rfl rfl rfl rfl rfl rfl (by rfl) (by rfl) (by omega) (by simp only [maxLen]; omega) rfl (fun a48 c48 => ?_)
       refine wo_know (A := Row 9 1 (.slice a48 (1 + 1) c48) (1 + 1) ([vS f.1] ++ [vS f.2])) HasC.get row_know (fun hk48 => ?_)
       refine wo_frzR a48 ?_
       rw [show ([vS f.1] ++ [vS f.2]) = ([f.1, f.2] : List Bs).map vS from rfl]
       refine Vv (k:=Wn ?_)
       exact zb16join11
      ·
       refine wc_frzC b40 ?_
       rw [show [vS f.1] = ([f.1] : List Bs).map vS from rfl]
       refine Zk (k:=?_)
       exact zb16join11
    ·
     refine Ze (k:=Xa (Xi (Xb (Ya ?_))))
     refine p_cut (fun (i : { y : (Option Addr × Nat) × List CdV // cdsOf y.2 = ckHead c }) => [(1, .pointer (some ⟨b1, 0, none⟩)), (3, .slice i.1.1.1 i.1.2.length i.1.1.2)]) (fun (i : { y : (Option Addr × Nat) × List CdV // cdsOf y.2 = ckHead c }) => [Row 101 2 (.slice i.1.1.1 i.1.2.length i.1.1.2) i.1.2.length (i.1.2.flatMap CdV.cells), CdM i.1.2, Ce b1 30 [vS c.base, vS c.comment, vI c.date, .slice x.fa c.files.length x.fc, .slice x.pa c.parents.length x.pc, .slice x.ta c.tags.length x.tc, vS c.user], Bf, SlI x.pa (c.parents.map vS), Bt]) rfl (fun i => ?_) ?_
     ·
      obtain ⟨⟨⟨ga, gc⟩, gs⟩, hgs⟩ := i
      dsimp only at hgs ⊢
      have hgl := cdsLen hgs
      have hhl : (ckHead c).length = (bCards c.base).length + 2 + c.files.length + (pCards c.parents).length := by simp [ckHead]; omega
      try dsimp only
      refine Qc (k:=Vv (k:=Qx 5 28 (k:=?_)))
      refine r_callX hTC rfl rfl rfl (fun x68 hx68 => ?_)
      obtain ⟨⟨ta, tc⟩, tqs⟩ := x68
      dsimp only [cardV, cardH] at hx68 ⊢
      have htq := cdsLen hx68
      rw [List.length_map] at htq
      refine r_appendA (sz := 2) (bytes := 32) Tryz.underlying99 ti101 rfl rfl rfl rfl rfl rfl rfl (cells_len tqs) (cells_one tqs) (by omega) (by simp only [maxLen]; omega) rfl (fun a69 c69 => ?_)
      refine Vv (k:=Wq (Qc (k:=Vv (k:=Qx 6 9 (k:=Zv [_] (cs := [_]) (k:=fun b73 => Vx (Ps [_, _]) (k:=Zv [_] (cs := [_, _]) (k:=fun b75 => ?_))))))))
      refine r_append1 (sz := 2) (bytes := 32) Tryz.underlying99 ti101 rfl rfl rfl rfl rfl rfl rfl (by rfl) (by rfl) (by omega) (by simp only [maxLen]; omega) rfl (fun a76 c76 => ?_)
      refine wo_frzC b73 ?_
      obtain ⟨al, hal⟩ : ∃ al : List CdV, al = gs ++ tqs ++ [⟨85, some ⟨b73, 0, none⟩, 1, [c.user]⟩] := ⟨_, rfl⟩
      have halc : cdsOf al = ckCards c := by rw [hal, cdsOf_app, cdsOf_app, hgs, hx68, ckHead, ckCards]; simp [cdsOf, CdV.cd]
      have hall : al.length = gs.length + tqs.length + 1 := by rw [hal]; simp; omega
      have hxx : gs.flatMap CdV.cells ++ tqs.flatMap CdV.cells ++ [vU 85, .slice (some ⟨b73, 0, none⟩) 1 1] = al.flatMap CdV.cells := by rw [hal]; simp [CdV.cells]
      have hPr := ref10_Print_sp (B := Row 101 2 (.slice a76 (gs.length + tqs.length + 1) c76) (gs.length + tqs.length + 1) (gs.flatMap CdV.cells ++ tqs.flatMap CdV.cells ++ [vU 85, .slice (some ⟨b73, 0, none⟩) 1 1])) (a := a76) (gs.length + tqs.length + 1) c76 al (by rw [← hxx]; exact sla_row) hall (by rw [halc]; omega)
      rw [halc] at hPr
      refine wo_ent' (ent_cdm_app (qs := gs) (rs := tqs) HasC.get HasC.get) ?_
      refine wo_ent' (ent_cdm_new (qs := gs ++ tqs) (a := some ⟨b73, 0, none⟩) (c := 1) 85 [c.user] [vS c.user] HasC.get HasC.get rfl (Nat.le_refl _)) ?_
      rw [← hal]
      refine r_call1 hPr rfl rfl rfl ?_
      refine Vv (k:=Wq (Zt (k:=?_)))
      exact zb16ret16
     ·
      refine Za (k:=?_)
      have hjl : j = c.files.length := by omega
      subst hjl
      rw [List.take_length, hpcd] at hfs
      refine Zr (k:=Qx 4 27 (k:=Qv (k:=Wq (Zi (t:=fun h58 => ?_) (f:=fun h58 => ?_)))))
      ·
       refine Zr (k:=Vv (k:=Qx 4 27 (k:=Vx (Ps [_, _]) (k:=Zv [_] (cs := [_, _]) (k:=fun b63 => ?_)))))
       refine r_append1 (sz := 2) (bytes := 32) Tryz.underlying99 ti101 rfl rfl rfl rfl rfl rfl rfl (by rfl) (by rfl) (by omega) (by simp only [maxLen]; omega) rfl (fun a64 c64 => ?_)
       refine Vv (k:=Wn ?_)
       exact zb16join15
      ·
       refine Zk (k:=?_)
       exact zb16join15
 ·
  refine Za (k:=?_)
  refine wc_ent' (row_nil (e := 101) (sz := 2)) ?_
  refine Zr (k:=Qx 0 9 (k:=Vv (k:=Wq (Zi (t:=fun h9 => ?_) (f:=fun h9 => ?_)))))
  ·
   refine Zr (k:=Vv (k:=Qx 0 9 (k:=Zv [_] (cs := [_]) (k:=fun b13 => Vx (Ps [_, _]) (k:=Zv [_] (cs := [_, _]) (k:=fun b15 => ?_))))))
   refine r_append1 (sz := 2) (bytes := 32) Tryz.underlying99 ti101 rfl rfl rfl rfl rfl rfl rfl (by rfl) (by rfl) (by omega) (by simp only [maxLen]; omega) rfl (fun a16 c16 => ?_)
   refine wo_frzC b13 ?_
   refine Vv (k:=Wn ?_)
   exact zb16join4
  ·
   refine Zk (k:=?_)
   exact zb16join4
end
structure CkY (N : Nat) (c : Ck) : Prop where
 base : c.base.length ≤ 1073741824
 comment : c.comment.length ≤ 1073741824
 user : c.user.length ≤ 1073741824
 fn : c.files.length ≤ N
 fz : ∀ f ∈ c.files, f.1.length ≤ 1073741824 ∧ f.2.length ≤ 1073741824
 pn : c.parents.length ≤ 1073741824
 pz : ∀ p ∈ c.parents, p.length ≤ 1073741824
 tags : TgZ c.tags
theorem CkY.step {N : Nat} {c c' : Ck} {x : Cd} (h : CkY N c) (hx : x.args.length ≤ 1073741824) (hz : ∀ a ∈ x.args, a.length ≤ 1073741824) (e : stepR c x = some c') : CkY (N + 1) c' := by
 obtain ⟨a1, a2, a3, a4, a5, a6, a7, a8⟩ := h
 have hd : ∀ i, (x.args.getD i []).length ≤ 1073741824 := fun i => by
  by_cases hi : i < x.args.length
  · exact hz _ (by simp [hi])
  · simp [hi]
 unfold stepR at e
 split at e
 · cases e; exact ⟨hd 0, a2, a3, by dsimp only; omega, a5, a6, a7, a8⟩
 split at e
 · cases u : unescB ((x.args.getD 0 []).drop 1) with
   | none => rw [u] at e; cases e
   | some t =>
     rw [u] at e; cases e
     have h1 := unescB_len u
     have h2 := hd 0
     rw [List.length_drop] at h1
     exact ⟨a1, by dsimp only; omega, a3, by dsimp only; omega, a5, a6, a7, a8⟩
 split at e
 · cases e; exact ⟨a1, a2, a3, by dsimp only; omega, a5, a6, a7, a8⟩
 split at e
 · cases e
   refine ⟨a1, a2, a3, by dsimp only; rw [List.length_append]; simp only [List.length_cons, List.length_nil]; omega, ?_, a6, a7, a8⟩
   intro f hf
   rcases List.mem_append.1 hf with hf | hf
   · exact a5 f hf
   · rw [List.mem_singleton.1 hf]; exact ⟨hd 0, Nat.zero_le _⟩
 split at e
 · cases e
   refine ⟨a1, a2, a3, by dsimp only; rw [List.length_append]; simp only [List.length_cons, List.length_nil]; omega, ?_, a6, a7, a8⟩
   intro f hf
   rcases List.mem_append.1 hf with hf | hf
   · exact a5 f hf
   · rw [List.mem_singleton.1 hf]; exact ⟨hd 0, hd 1⟩
 split at e
 · cases e; exact ⟨a1, a2, a3, by dsimp only; omega, a5, hx, hz, a8⟩
 split at e
 · cases e; exact ⟨a1, a2, a3, by omega, a5, a6, a7, a8⟩
 split at e
 · cases e; exact ⟨a1, a2, hd 0, by dsimp only; omega, a5, a6, a7, a8⟩
 · cases e
/-- The check-ins that are held, by their names, rising. -/
noncomputable def ckOf (H : Ks) (n : Bs) : List (Bs × Ck) := match readK (getB H n) with
 | none => []
 | some c => [(n, c)]
noncomputable def cksF (H : Ks) (l : List Bs) : List (Bs × Ck) := l.flatMap (ckOf H)
noncomputable def cksL (H : Ks) : List (Bs × Ck) := cksF H (keysS H)
def firstB (c : Ck) : Bs := c.parents.headD []
/-- What an artifact says of tags, when. -/
noncomputable def opsB (n s : Bs) : List Tg × Int := match readK s with
 | some c => (c.tags.map fun t => { t with target := n }, c.date)
 | none => (((readCt s).getD ct0).tags, ((readCt s).getD ct0).date)
structure Sd where
 op : Tg
 date : Int
 src : Bs
def sdVals (s : Sd) : List Value := [vU s.op.kind.toNat, vS s.op.name, vS s.op.target, vS s.op.value, vI s.date, vS s.src]
noncomputable def sdOf (H : Ks) (n : Bs) : List Sd := (opsB n (getB H n)).1.map fun t => ⟨t, (opsB n (getB H n)).2, n⟩
noncomputable def sdF (H : Ks) (l : List Bs) : List Sd := l.flatMap (sdOf H)
noncomputable def sdL (H : Ks) : List Sd := sdF H (keysS H)
/-- What is said last of a tag and a target. -/
abbrev Ls := List ((Bs × Bs) × Sd)
def llook : Ls → Bs × Bs → Option Sd
 | [], _ => none
 | p :: r, k => if p.1 = k then some p.2 else llook r k
def lput : Ls → Bs × Bs → Sd → Ls
 | [], k, v => [(k, v)]
 | p :: r, k, v => if p.1 = k then (k, v) :: r else p :: lput r k v
def lstep (l : Ls) (s : Sd) : Ls := match llook l (s.op.name, s.op.target) with
 | none => lput l (s.op.name, s.op.target) s
 | some old => if old.date ≤ s.date then lput l (s.op.name, s.op.target) s else l
def lastF (l : List Sd) : Ls := l.foldl lstep []
noncomputable def lastL (H : Ks) : Ls := lastF (sdL H)
/-- Has a check-in a tag? -/
structure Tgd where
 tag : Bs
 target : Bs
 value : Bs
 source : Bs
 spread : Bool
 own : Bool
 deriving DecidableEq
def tgdVals (t : Tgd) : List Value := [vS t.tag, vS t.target, vS t.value, vS t.source, .bool t.spread, .bool t.own]
def tgd0 : Tgd := ⟨[], [], [], [], false, false⟩
def clook : List (Bs × Ck) → Bs → Option Ck
 | [], _ => none
 | p :: r, k => if p.1 = k then some p.2 else clook r k
def wayF (C : List (Bs × Ck)) (l : Ls) (tag name : Bs) : Nat → Bs → Option Tgd
 | 0, _ => none
 | k + 1, n => match clook C n with
   | none => none
   | some c => match llook l (tag, n) with
     | none => wayF C l tag name k (firstB c)
     | some s => if s.op.kind = 45 ∨ (s.op.kind = 43 ∧ n ≠ name) then none
       else some ⟨tag, name, s.op.value, s.src, decide (s.op.kind = 42), decide (n = name)⟩
def ofT (C : List (Bs × Ck)) (l : Ls) (tag name : Bs) : Option Tgd := wayF C l tag name C.length name
/-- Names, rising, each once. -/
def namesL (l : Ls) : List Bs := dedS (sortB (l.map fun p => p.1.1))
def tblT (C : List (Bs × Ck)) (l : Ls) : List Tgd := (namesL l).flatMap fun t => (sortB (C.map (·.1))).flatMap fun n => (ofT C l t n).toList
section
/-- What a function value does when it is ranged over, while the caller keeps R. -/
def IterB (P : Program) {α : Type} (g : Nat) (lb : List Value) (enc : α → List Value) (ok : List α → α → Prop) (stopped : List α → Prop) (R : HP) (As Bs : List HP) (all : List α) (val : Option (List α) → Value) : Prop :=
 ∀ (y : Value) (J J0 Jx : List α → HP), YSpec P y enc ok J Jx → (∀ pre, Ent [J pre] [R, J0 pre]) → (∀ pre, Ent [R, J0 pre] [J pre]) →
  Sp P g (y :: lb) (J [] :: As) (X := Option (List α)) val (fun x => ∀ pre, x = some pre → stopped pre) (fun x => endsAt J Jx all x :: Bs)
theorem ent_fold2 {R J J0 : HP} {Hs Rs : List HP} (h : Ent [R, J0] [J]) (e : Ent Hs (R :: J0 :: Rs)) : Ent Hs (J :: Rs) := e.trans (h.frame Rs)
theorem ent_open2 {R J J0 : HP} {Hs Rs Gs : List HP} [hp : PickC J Hs Rs] (h : Ent [J] [R, J0]) (e : Ent (R :: J0 :: Rs) Gs) : Ent Hs Gs :=
 ((ent_cons (Ent.refl _)).trans (h.frame Rs)).trans e
theorem ent_al_last {R : HP} {Xs : List HP} : Ent [R, Al Xs] (R :: Xs) := ⟨fun ⟨h1, h2, d, e, a, t⟩ => ⟨h1, h2, d, e, a, by have := sl_al t; rwa [List.append_nil] at this⟩⟩
theorem ent_al_one {Xs : List HP} : Ent [Al Xs] Xs := ⟨fun t => by have := sl_al t; rwa [List.append_nil] at this⟩
theorem ent_one_al {Xs : List HP} : Ent Xs [Al Xs] := ⟨fun {M h} s => ⟨h, Res.emp, Res.dj_emp _, (Res.add_emp _).symm, s, trivial⟩⟩
section
variable {r : Option Nat} {P : Program} {n : Nat} {ops : Array Oper} {os : List Oper} {A : List HP} {L : Loc} {Hs : List HP} {Q : Out} {ty : TypeId} {d : Nat} {pos : String} {after : Array Edge} {c : Code}
/-- for .. := range f { .. } -/
theorem wc_rangeFuncG {α : Type} {f : Operand} {ps : Array Tmp} {assign body : Code} {g : Nat} {lb : List Value} {enc : α → List Value} {ok : List α → α → Prop} {stopped : List α → Prop} {As Bs : List HP} {fin : List α → Prop} {val : Option (List α) → Value}
    (I : List α → List HP) (Ix : Option Nat → List α → List HP)
    (hf : ev L f = some (.func (.func g) #[] lb.toArray))
    (en : ∀ l : Nat, ∃ (X : Type) (As' : List HP) (v : X → Value) (o : X → Prop) (Bs' : X → List HP), Sp P g (.func (.yield l) #[] #[] :: lb) As' v o Bs')
    (it : ∀ (b : Nat) (o : Obj) (y : Value) (Jx : List α → HP), YSpec P y enc ok (fun pre => Al (Blk b o :: I pre)) Jx → Sp P g (y :: lb) (Al (Blk b o :: I []) :: As) (X := Option (List α) × List α) (fun x => val x.1) (fun x => (∀ pre, x.1 = some pre → stopped pre) ∧ (x.1 = none → fin x.2)) (fun x => endsAt (fun pre => Al (Blk b o :: I pre)) Jx x.2 x.1 :: Bs))
    (hps : ∀ x, (enc x).length = ps.size) (hpn : ps.toList.all (fun p => Nat.blt p n) = true)
    (ha : Ent Hs (I [] ++ As))
    (round : ∀ (l : Nat) (pre : List α) (x : α), ok pre x → wc (some l) P n assign (bindL ps.toList (enc x) L) (I pre) (asgO (some l) P body (roundO I Ix (pre ++ [x]))))
    (done : ∀ all, fin all → tw n Q .normal L (I all ++ Bs))
    (stop : ∀ (j : Option Nat) (pre : List α), stopped pre → wc none P n (jc j) L (Ix j pre ++ Bs) Q) :
    wc none P n (.rangeFunc f ps assign body) L Hs Q := by
 intro a M h st w hfr dj t
 obtain ⟨fr, g1, g2, dg, e, sd, s2⟩ := st
 subst e
 obtain ⟨kI, kA, dIA, e, sI, sA⟩ := SL.split (ha s2)
 subst e
 refine wpIn_rangeFunc ?_
 intro fn hfn
 obtain ⟨rec, hrec⟩ : ∃ rec : LoopState → Option Code → Loop, rec = fun st pe => { state := st, pending := pe, fn, tmps := a.tmps, params := ps, assign, body, defers := w.heap.size } := ⟨_, rfl⟩
 obtain ⟨W1, hW1⟩ : ∃ W1, (w.alloc (.deferred (some []))).alloc (.loop (rec .ready none)) = W1 := ⟨_, rfl⟩
 have hsz : (w.alloc (.deferred (some []))).heap.size = w.heap.size + 1 := by simp
 have tD := t.alloc (.deferred (some []))
 have tL := tD.alloc (.loop (rec .ready none))
 obtain ⟨_, f1⟩ := fresh_none t
 obtain ⟨_, f2⟩ := fresh_none tD
 rw [hsz] at tL f2
 rw [hW1] at tL
 refine ⟨w.heap.size + 1, [{ target := .collected w.heap.size, args := #[] }], W1, { target := .fn (.func g) lb.toArray, args := #[.func (.yield (w.heap.size + 1)) #[] #[]] }, W1, g,
  #[.func (.yield (w.heap.size + 1)) #[] #[]] ++ lb.toArray, W1, ?_, ?_, fun _ _ => trivial, ?_, (fun e => by cases e), ?_⟩
 · rw [← hW1, hrec]; exact run_enterLoop_outer _ _ _ _ _
 · simp only [resolve, rangeCall]
   rw [fr.ev hf]
   simp [go_sem]
 · obtain ⟨X', A', v', o', B', hen⟩ := en (w.heap.size + 1)
   have := hen.enters
   simp [invoke, go_sem]
   exact this _ _
 ·
  have ys : YSpec P (.func (.yield (w.heap.size + 1)) #[] #[]) enc ok (fun pre => Al (Blk (w.heap.size + 1) (.loop (rec .ready none)) :: I pre))
      (fun pre => Ex fun j : Option Nat => Al (Blk (w.heap.size + 1) (.loop (rec .done (some (jc j)))) :: Ix j pre)) := by
   refine ⟨_, rfl, fun pre x hok w' M' h' hf' dj' t' hj => ?_⟩
   obtain ⟨p1, p2, dp, e, hp1, sp2⟩ := hj
   have hp1' : p1 = Res.one _ _ := hp1
   subst hp1'
   subst e
   have hl : w'.heap[w.heap.size + 1]? = some (.loop (rec .ready none)) := t'.ow _ _ (by simp [Res.add, Res.one])
   have hy := run_yield (P := P) (args := (enc x).toArray) hl (by rw [hrec]; simpa using hps x)
   refine ⟨_, _, _, _, hy, roundIn_of_wpIn (F := WF none) trivial ?_⟩
   have e1 : (rec .ready none).assign = assign := by rw [hrec]
   have e2 : (rec .ready none).body = body := by rw [hrec]
   have e3 : (rec .ready none).tmps = a.tmps := by rw [hrec]
   have e4 : (rec .ready none).params = ps := by rw [hrec]
   rw [e1, e2, e3, e4]
   obtain ⟨dj1, dj2⟩ := Res.dj_add_left.1 dj'
   have hfold : (ps.zip (enc x).toArray).foldl (fun t (p, v) => t.setIfInBounds p v) a.tmps = (ps.toList.zip (enc x)).foldl (fun t (p, v) => t.setIfInBounds p v) a.tmps := by
    rw [← Array.foldl_toList]; simp
   rw [hfold]
   have hfr : Fr n (bindL ps.toList (enc x) L) { tmps := (ps.toList.zip (enc x)).foldl (fun t (p, v) => t.setIfInBounds p v) a.tmps, defers := [] } :=
    fr_bind ps.toList (enc x) (fun p hp => by have := List.all_eq_true.1 hpn p hp; simpa using this) fr
   have d2 : p2.dj ((Res.one (w.heap.size + 1) (.loop (rec .ready none))).add hf') := Res.dj_add_right.2 ⟨Res.dj_comm dp, dj2⟩
   have t2 : Sat w' M' (p2.add ((Res.one (w.heap.size + 1) (.loop (rec .ready none))).add hf')) := by
    rw [← Res.add_assoc, ← Res.add_comm dp]; exact t'
   have hw := round (w.heap.size + 1) pre x hok _ M' p2 ⟨hfr, Res.emp, p2, Res.emp_dj _, rfl, trivial, sp2⟩ w' _ d2 t2
   refine wpIn_mono (F := WF (some (w.heap.size + 1))) hw ?_
   rintro ex a1 w1 ⟨M1, h1, le1, dj3, t3, q1⟩
   cases ex with
   | normal =>
     have q1' : wout (some (w.heap.size + 1)) P body (roundO I Ix (pre ++ [x])) a1 M1 h1 := q1
     obtain ⟨y1, y2⟩ := Res.dj_add_right.1 dj3
     have hb : w1.heap[w.heap.size + 1]? = some (.loop (rec .ready none)) := t3.ow _ _ (Res.le_add_right dj3 _ _ (by simp [Res.add, Res.one]))
     refine ⟨_, run_beginRound hb (by rw [hrec]), ?_⟩
     have dA : (Res.one (w.heap.size + 1) (.loop (rec .ready none))).dj (h1.add hf') := Res.dj_add_right.2 ⟨Res.dj_comm y1, dj1⟩
     have hcomm : ∀ o : Obj, h1.dj (Res.one (w.heap.size + 1) o) → h1.add ((Res.one (w.heap.size + 1) o).add hf') = (Res.one (w.heap.size + 1) o).add (h1.add hf') := fun o dd => by
      rw [← Res.add_assoc, Res.add_comm dd, Res.add_assoc]
     rw [hcomm _ y1] at t3
     have t4 := Sat.putObj (o' := .loop { rec .ready none with state := .busy }) dA t3
     have dB : (Res.one (w.heap.size + 1) (.loop { rec .ready none with state := .busy })).dj (h1.add hf') := dj_one_any dA
     have dB1 := (Res.dj_add_right.1 dB).1
     rw [← hcomm _ (Res.dj_comm dB1)] at t4
     refine wpIn_mono (F := WF (some (w.heap.size + 1))) (q1' _ _ (Res.dj_add_right.2 ⟨Res.dj_comm dB1, y2⟩) t4) ?_
     have fin : ∀ (jump : Option Code) (M2 : Kn) (h2 : Res) (w2 : World), M1.le M2 → h2.dj ((Res.one (w.heap.size + 1) (.loop { rec .ready none with state := .busy })).add hf') → Sat w2 M2 (h2.add ((Res.one (w.heap.size + 1) (.loop { rec .ready none with state := .busy })).add hf')) →
         ∃ w3, (Instr.endRound (w.heap.size + 1) jump).run P w2 = .ok (.bool jump.isNone) w3 ∧ (Res.one (w.heap.size + 1) (.loop (rec (if jump.isNone then .ready else .done) jump))).dj h2 ∧
          ((Res.one (w.heap.size + 1) (.loop (rec (if jump.isNone then .ready else .done) jump))).add h2).dj hf' ∧ Sat w3 M2 (((Res.one (w.heap.size + 1) (.loop (rec (if jump.isNone then .ready else .done) jump))).add h2).add hf') := by
      intro jump M2 h2 w2 le2 dj5 t5
      have hb2 : w2.heap[w.heap.size + 1]? = some (.loop { rec .ready none with state := .busy }) := t5.ow _ _ (Res.le_add_right dj5 _ _ (by simp [Res.add, Res.one]))
      have hr := run_endRound (P := P) jump hb2
      obtain ⟨z1, z2⟩ := Res.dj_add_right.1 dj5
      have eqq : h2.add ((Res.one (w.heap.size + 1) (.loop { rec .ready none with state := .busy })).add hf') = (Res.one (w.heap.size + 1) (.loop { rec .ready none with state := .busy })).add (h2.add hf') := by
       rw [← Res.add_assoc, Res.add_comm z1, Res.add_assoc]
      rw [eqq] at t5
      have dC : (Res.one (w.heap.size + 1) (.loop { rec .ready none with state := .busy })).dj (h2.add hf') := Res.dj_add_right.2 ⟨Res.dj_comm z1, dj_one_any dj1⟩
      have t6 := Sat.putObj (o' := .loop (rec (if jump.isNone then .ready else .done) jump)) dC t5
      have dD : (Res.one (w.heap.size + 1) (.loop (rec (if jump.isNone then .ready else .done) jump))).dj (h2.add hf') := dj_one_any dC
      obtain ⟨v1, v2⟩ := Res.dj_add_right.1 dD
      refine ⟨_, ?_, v1, Res.dj_add_left.2 ⟨v2, z2⟩, by rw [Res.add_assoc]; exact t6⟩
      rw [hr, hrec]
     rintro e2 a2 w2 ⟨M2, h2, le2, dj5, t5, q2⟩
     cases e2 with
     | normal =>
       obtain ⟨w3, r1, r2, r3, r4⟩ := fin none M2 h2 w2 le2 dj5 t5
       exact ⟨_, w3, r1, true, M2, _, rfl, Kn.le_trans le1 le2, r3, r4, _, _, r2, rfl, rfl, q2⟩
     | ret =>
       obtain ⟨w3, r1, r2, r3, r4⟩ := fin (some .ret) M2 h2 w2 le2 dj5 t5
       exact ⟨_, w3, r1, false, M2, _, rfl, Kn.le_trans le1 le2, r3, r4, none, _, _, r2, rfl, rfl, q2⟩
     | exit id =>
       obtain ⟨w3, r1, r2, r3, r4⟩ := fin (some (.exit id)) M2 h2 w2 le2 dj5 t5
       exact ⟨_, w3, r1, false, M2, _, rfl, Kn.le_trans le1 le2, r3, r4, some id, _, _, r2, rfl, rfl, q2⟩
     | goto _ => exact q2.elim
     | panic _ => exact q2.elim
     | outgrown => exact q2.elim
   | ret => exact q1.elim
   | exit _ => exact q1.elim
   | goto _ => exact q1.elim
   | panic _ => exact q1.elim
   | outgrown => exact q1.elim
  have sp := it _ _ _ _ ys
  -- resources
  obtain ⟨dg1, dg2⟩ := Res.dj_add_right.1 dg
  obtain ⟨q1, q2⟩ := Res.dj_add_left.1 dj
  obtain ⟨q3, q4⟩ := Res.dj_add_left.1 q2
  let D : Res := Res.one w.heap.size (.deferred (some []))
  let Lp : Res := Res.one (w.heap.size + 1) (.loop (rec .ready none))
  have dLp : Lp.dj (D.add ((g1.add (kI.add kA)).add hfr)) := one_dj f2
  have dD : D.dj ((g1.add (kI.add kA)).add hfr) := one_dj f1
  obtain ⟨a1, a2⟩ := Res.dj_add_right.1 dLp
  obtain ⟨a3, a4⟩ := Res.dj_add_right.1 a2
  obtain ⟨a5, a6⟩ := Res.dj_add_right.1 a3
  obtain ⟨a7, a8⟩ := Res.dj_add_right.1 a6
  obtain ⟨b3, b4⟩ := Res.dj_add_right.1 dD
  obtain ⟨b5, b6⟩ := Res.dj_add_right.1 b3
  obtain ⟨b7, b8⟩ := Res.dj_add_right.1 b6
  have eqr : Lp.add (D.add ((g1.add (kI.add kA)).add hfr)) = ((Lp.add kI).add kA).add ((D.add g1).add hfr) := by
   funext i
   simp only [Res.add]
   have c1 := b7 i; have c2 := b8 i; have c3 := b5 i; have c4 := dg1 i; have c5 := dg2 i
   revert c1 c2 c3 c4 c5
   cases Lp i <;> cases D i <;> cases g1 i <;> cases kI i <;> cases kA i <;> simp
  have tL' : Sat W1 M (((Lp.add kI).add kA).add ((D.add g1).add hfr)) := by rw [← eqr]; exact tL
  have djr : ((Lp.add kI).add kA).dj ((D.add g1).add hfr) := by
   refine Res.dj_add_left.2 ⟨Res.dj_add_left.2 ⟨?_, ?_⟩, ?_⟩
   · exact Res.dj_add_right.2 ⟨Res.dj_add_right.2 ⟨a1, a5⟩, a4⟩
   · exact Res.dj_add_right.2 ⟨Res.dj_add_right.2 ⟨Res.dj_comm b7, Res.dj_comm dg1⟩, q3⟩
   · exact Res.dj_add_right.2 ⟨Res.dj_add_right.2 ⟨Res.dj_comm b8, Res.dj_comm dg2⟩, q4⟩
  have cc := sp.calls W1 M ((Lp.add kI).add kA) ((D.add g1).add hfr) djr tL' ⟨Lp.add kI, kA, Res.dj_add_left.2 ⟨a8, dIA⟩, rfl, ⟨Lp, kI, a7, rfl, rfl, sI⟩, sA⟩
  have hargs : (Value.func (.yield (w.heap.size + 1)) #[] #[] :: lb).toArray = #[.func (.yield (w.heap.size + 1)) #[] #[]] ++ lb.toArray := by simp
  rw [hargs] at cc
  refine CallsIn.mono (F := WF none) cc ?_
  rintro ee w3 ⟨x, M3, h3, rfl, hx, le3, dj3, t3, s3⟩
  have stN : ∀ (o : Obj) (Gs : List HP) (m : Res), (Res.one (w.heap.size + 1) o).dj m → ((Res.one (w.heap.size + 1) o).add m).dj ((D.add g1).add hfr) → Sat w3 M3 (((Res.one (w.heap.size + 1) o).add m).add ((D.add g1).add hfr)) → SL Gs M3 m → ∀ o' : Obj,
      St n L Gs { a with defers := [{ target := .collected w.heap.size, args := #[] }] ++ a.defers } M3 ((D.add g1).add m) ∧ ((D.add g1).add m).dj hfr ∧ Sat (w3.putObj (w.heap.size + 1) o') M3 (((D.add g1).add m).add hfr) := by
   intro o Gs m dom djm tm sm o'
   obtain ⟨u1, u2⟩ := Res.dj_add_left.1 djm
   obtain ⟨u3, u4⟩ := Res.dj_add_right.1 u2
   obtain ⟨u5, u6⟩ := Res.dj_add_right.1 u3
   obtain ⟨u7, u8⟩ := Res.dj_add_right.1 u1
   refine ⟨⟨fr, D.add g1, m, Res.dj_comm u3, rfl, ?_, sm⟩, Res.dj_add_left.2 ⟨Res.dj_add_left.2 ⟨b4, q1⟩, u4⟩, ?_⟩
   · refine ⟨D, g1, b5, rfl, ⟨w.heap.size, Res.emp, D, Res.emp_dj _, rfl, rfl, D, Res.emp, Res.dj_emp _, (Res.add_emp _).symm, rfl, trivial⟩, SL.mono le3 sd⟩
   · rw [Res.add_assoc] at tm
     have dX : (Res.one (w.heap.size + 1) o).dj (m.add ((D.add g1).add hfr)) := Res.dj_add_right.2 ⟨dom, u1⟩
     have t7 := Sat.putObj (o' := o') dX tm
     have eq7 : m.add ((D.add g1).add hfr) = ((D.add g1).add m).add hfr := by rw [← Res.add_assoc, Res.add_comm u3]
     rw [eq7] at t7
     exact t7.le (Res.le_add_right (by rw [← eq7]; exact dj_one_any dX))
  obtain ⟨x, all⟩ := x
  obtain ⟨hx, hfin⟩ := hx
  dsimp only at hx hfin s3 ⊢
  obtain ⟨m1, m2, dm, e, sm1, sm2⟩ := s3
  subst e
  cases x with
  | none =>
    obtain ⟨o1, o2, do12, e, ho1, so2⟩ := sm1
    have ho1' : o1 = Res.one _ _ := ho1
    subst ho1'
    subst e
    have hb : w3.heap[w.heap.size + 1]? = some (.loop (rec .ready none)) := t3.ow _ _ (by simp [Res.add, Res.one])
    refine ⟨none, _, by have := run_endLoop (P := P) hb (by rw [hrec]; simp); rw [hrec] at this; exact this, ?_⟩
    obtain ⟨v1, v2⟩ := Res.dj_add_left.1 dm
    rw [Res.add_assoc (Res.one _ _) o2 m2] at t3 dj3
    obtain ⟨w1, w2, w4⟩ := stN _ (I all ++ Bs) (o2.add m2) (Res.dj_add_right.2 ⟨do12, v1⟩) dj3 t3 (SL.append v2 so2 sm2) (.loop { rec .ready none with state := .exhausted })
    have := done all (hfin rfl) _ M3 _ w1
    rw [hrec] at w4
    exact ⟨M3, _, le3, w2, w4, this⟩
  | some pre =>
    obtain ⟨j, o1, o2, do12, e, ho1, so2⟩ := sm1
    have ho1' : o1 = Res.one _ _ := ho1
    subst ho1'
    subst e
    have hb : w3.heap[w.heap.size + 1]? = some (.loop (rec .done (some (jc j)))) := t3.ow _ _ (by simp [Res.add, Res.one])
    refine ⟨some (jc j), _, by have := run_endLoop (P := P) hb (by rw [hrec]; simp); rw [hrec] at this; exact this, ?_⟩
    obtain ⟨v1, v2⟩ := Res.dj_add_left.1 dm
    rw [Res.add_assoc (Res.one _ _) o2 m2] at t3 dj3
    obtain ⟨w1, w2, w4⟩ := stN _ (Ix j pre ++ Bs) (o2.add m2) (Res.dj_add_right.2 ⟨do12, v1⟩) dj3 t3 (SL.append v2 so2 sm2) (.loop { rec .done (some (jc j)) with state := .exhausted })
    rw [hrec] at w4
    exact wpIn_mono (stop j pre (hx pre rfl) _ M3 _ w1 _ _ w2 w4) (fun _ _ _ q => lift_le le3 q)
theorem p_rangeFuncB {α : Type} {g : Nat} {lb : List Value} {enc : α → List Value} {ok : List α → α → Prop} {stopped : List α → Prop} {R : HP} {As Bs : List HP} {all : List α} {val : Option (List α) → Value}
    (I : List α → List HP) (Ix : Option Nat → List α → List HP) (I0 : List α → List HP) (hc : c = .rangeFunc (rF c) (rP c) (rA c) (rB c))
    (it : IterB P g lb enc ok stopped R As Bs all val)
    (hf : ev L (rF c) = some (.func (.func g) #[] lb.toArray))
    (hps : ∀ x, (enc x).length = (rP c).size) (hpn : (rP c).toList.all (fun p => Nat.blt p n) = true)
    (h1 : ∀ pre, Ent (I pre) (R :: I0 pre)) (h2 : ∀ pre, Ent (R :: I0 pre) (I pre))
    (ha : Ent Hs (I [] ++ As))
    (round : ∀ (l : Nat) (pre : List α) (x : α), ok pre x → wc (some l) P n (rA c) (bindL (rP c).toList (enc x) L) (I pre) (asgO (some l) P (rB c) (roundO I Ix (pre ++ [x]))))
    (done : tw n Q .normal L (I all ++ Bs))
    (stop : ∀ (j : Option Nat) (pre : List α), stopped pre → wc none P n (jc j) L (Ix j pre ++ Bs) Q) : wc none P n c L Hs Q := by
 rw [hc]
 refine wc_rangeFuncG (fin := fun l => l = all) I Ix hf (fun l => ⟨_, _, _, _, _, it (.func (.yield l) #[] #[]) (fun _ => ⟨fun _ _ => False, fun _ e => e⟩) (fun _ => ⟨fun _ _ => False, fun _ e => e⟩) (fun _ => ⟨fun _ _ => False, fun _ e => e⟩) ⟨_, rfl, fun _ _ _ _ _ _ _ _ _ e => e.elim⟩ (fun _ => ⟨fun ⟨_, _, _, _, e, _⟩ => e.elim⟩) (fun _ => ⟨fun ⟨_, _, _, _, _, _, _, _, _, e, _⟩ => e.elim⟩)⟩) (fun b o y Jx ys => (it y _ (fun pre => Al (Blk b o :: I0 pre)) Jx ys (fun pre => ?_) (fun pre => ?_)).mono (Ent.refl _) fun x hx => ⟨(x, all), rfl, ⟨hx, fun _ => rfl⟩, Ent.refl _⟩) hps hpn ha round (fun l e => by subst e; exact done) stop
 · exact ent_al_one.trans ((ent_cons (A := Blk b o) (h1 pre)).trans ((ent_cons (A := R) (Ent.refl _)).trans (ent_cons ent_one_al)))
 · exact ent_al_last.trans (((ent_cons (A := Blk b o) (Ent.refl _)).trans (ent_cons (h2 pre))).trans ent_one_al)
end
end
end Go.Proofs.YtdnoacgopfcpbaaGreat
