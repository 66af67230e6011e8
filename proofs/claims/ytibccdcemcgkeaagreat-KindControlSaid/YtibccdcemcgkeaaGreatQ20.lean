/- Texts of this proof, put together: SR10f, PCk4, SR10i, SR10k, PNames, SR10l. -/
import Derived.Test.YtibccdcemcgkeaaGreatQ08
import Derived.Test.YtibccdcemcgkeaaGreatQ19
import Derived.Test.YtibccdcemcgkeaaGreatQ15
import Derived.Test.YtibccdcemcgkeaaGreatQ16
import Derived.Test.YtibccdcemcgkeaaGreatQ17
import Derived.Test.YtibccdcemcgkeaaGreatQ18
import Derived.Test.YtibccdcemcgkeaaGreatQ12
import Derived.Test.YtibccdcemcgkeaaGreatQ07
set_option linter.unusedVariables false
set_option linter.unusedSimpArgs false
section
set_option maxRecDepth 100000
namespace Go.Proofs.YtibccdcemcgkeaaGreat
set_option maxHeartbeats 4000000 in
theorem ref10_Checkin_sp {Bf Bt : HP} (x : CkA) (c : Ck) (z : CkZ c) (hd : 0 ≤ c.date ∧ c.date ≤ 1073741824) (hz : (bodyB (ckCards c)).length ≤ 1073741824) (shf : SlA Bf x.fa (c.files.flatMap flCells)) (sht : SlA Bt x.ta (c.tags.flatMap tgCells)) (hpc : c.parents.length ≤ x.pc) :
    Sp1 Tryz.prog 14 [.agg (ckVals x c).toArray] [Bf, SlI x.pa (c.parents.map vS), Bt] (vS (ckB c)) [Bf, Bt] := by
 have hTC := ref10_ops_sp c.tags.length x.tc c.tags sht rfl z.tags
 haveI : RdSl x.fa (c.files.flatMap flCells) [Bf, SlI x.pa (c.parents.map vS), Bt] := ⟨⟨Bf, shf, .here⟩⟩
 obtain ⟨z1, z2, z3, z4, z5, z6, z7, z8, z9⟩ := z
 have hcl := (bodyB_ge (ckCards c)).1
 have hcn : (ckCards c).length = (bCards c.base).length + 2 + c.files.length + (pCards c.parents).length + (c.tags.length + 1) := by simp [ckCards]; omega
 have hDec : SpF Tryz.prog 50 [vI c.date] (vS (decN c.date.toNat)) := by
  have := ref1_Dec_sp c.date.toNat (by omega)
  rwa [Int.toNat_of_nonneg hd.1] at this
 refine Sp.body (n := 78) Tryz.call14 Tryz.func14 rfl rfl rfl ?_
 refine Za (k:=Zr (k:=Zx [_, _, _, _, _, _, _] (k:=fun b1 => Vv (k:=Wq (Za (k:=Zr (k:=Vv (k:=Wq ?_))))))))
 refine p_cut (fun (i : { x : (Option Addr × Nat) × List CdV // cdsOf x.2 = bCards c.base }) => [(1, .pointer (some ⟨b1, 0, none⟩)), (3, .slice i.1.1.1 i.1.2.length i.1.1.2)]) (fun (i : { x : (Option Addr × Nat) × List CdV // cdsOf x.2 = bCards c.base }) => [Row 109 2 (.slice i.1.1.1 i.1.2.length i.1.1.2) i.1.2.length (i.1.2.flatMap CdV.cells), CdM i.1.2, Ce b1 30 [vS c.base, vS c.comment, vI c.date, .slice x.fa c.files.length x.fc, .slice x.pa c.parents.length x.pc, .slice x.ta c.tags.length x.tc, vS c.user], Bf, SlI x.pa (c.parents.map vS), Bt]) rfl (fun i => ?_) ?_
 ·
  obtain ⟨⟨⟨oa, oc⟩, qs⟩, hcd⟩ := i
  dsimp only at hcd ⊢
  have hql := cdsLen hcd
  try dsimp only
  refine Za (k:=Dw [Ce b1 30 [vS c.base, vS c.comment, vI c.date, .slice x.fa c.files.length x.fc, .slice x.pa c.parents.length x.pc, .slice x.ta c.tags.length x.tc, vS c.user]] (k:=?_))
  refine Di 0 (t:=Uv) (k:=Di 1 (t:=Uf 1 9) (k:=Di 2 (t:=Ul) (k:=Di 7 (t:=Uf 2 3) (k:=Di 8 (t:=Ul) (k:=Dn 3 (k:=?_))))))
  refine an_callF (ref10_Escape_sp c.comment (by omega)) rfl rfl rfl ?_
  have hel := (escB_len c.comment).2
  refine Di 4 (t:=Uv) (k:=?_)
  refine d_next2 5 9 (by kernel_rfl) rfl rfl ?_ ?_
  ·
   refine Nl [_] (cs := [_]) (k:=fun b22 => Di 6 (t:=Ux (Ps [_, _])) (k:=Dn 9 (k:=?_)))
   refine an_callF hDec rfl rfl rfl ?_
   refine Dn 10 (k:=Nl [_] (cs := [_]) (k:=fun b27 => Di 11 (t:=Ux (Ps [_, _])) (k:=Dn 12 (k:=Nl [_, _] (cs := [_, _, _, _]) (k:=fun b29 => Dn 13 (k:=?_))))))
   refine an_append1 (sz := 2) (bytes := 32) Tryz.underlying107 ti109 rfl rfl rfl rfl rfl rfl rfl (by rfl) (by rfl) (by omega) (by simp only [maxLen]; omega) rfl (fun a30 c30 => ?_)
   refine Di 14 (t:=Uv) (k:=Dd (k:=Ya (Za (k:=Za (k:=?_)))))
   refine wc_frzC b22 ?_
   refine wc_frzC b27 ?_
   obtain ⟨ps, hps⟩ : ∃ ps : List CdV, ps = qs ++ [⟨67, some ⟨b22, 0, none⟩, 1, [46 :: escB c.comment]⟩] ++ [⟨68, some ⟨b27, 0, none⟩, 1, [decN c.date.toNat]⟩] := ⟨_, rfl⟩
   have hpcd : cdsOf ps = bCards c.base ++ [⟨67, [46 :: escB c.comment]⟩, ⟨68, [decN c.date.toNat]⟩] := by rw [hps, cdsOf_app, cdsOf_app, hcd, List.append_assoc]; rfl
   have hpl : ps.length = qs.length + 2 := by rw [hps]; simp
   have hpf : ps.flatMap CdV.cells = qs.flatMap CdV.cells ++ [vU ((67 : UInt8).toNat : Int), .slice (some ⟨b22, 0, none⟩) 1 1, vU ((68 : UInt8).toNat : Int), .slice (some ⟨b27, 0, none⟩) 1 1] := by rw [hps]; simp [CdV.cells]
   refine Zr (k:=Vf 3 26 (k:=Zd (k:=Vv (k:=Vv (k:=Wq (Zb (k:=?_)))))))
   refine p_loop (fun (i : { y : ((Option Addr × Nat) × List CdV) × Nat // y.2 ≤ c.files.length ∧ cdsOf y.1.2 = cdsOf ps ++ (c.files.take y.2).map flCard }) => [(1, .pointer (some ⟨b1, 0, none⟩)), (3, .slice i.1.1.1.1 i.1.1.2.length i.1.1.1.2), (32, .slice x.fa c.files.length x.fc), (33, vI c.files.length), (34, vI i.1.2)]) (fun (i : { y : ((Option Addr × Nat) × List CdV) × Nat // y.2 ≤ c.files.length ∧ cdsOf y.1.2 = cdsOf ps ++ (c.files.take y.2).map flCard }) => [Row 109 2 (.slice i.1.1.1.1 i.1.1.2.length i.1.1.1.2) i.1.1.2.length (i.1.1.2.flatMap CdV.cells), CdM i.1.1.2, Ce b1 30 [vS c.base, vS c.comment, vI c.date, .slice x.fa c.files.length x.fc, .slice x.pa c.parents.length x.pc, .slice x.ta c.tags.length x.tc, vS c.user], Bf, SlI x.pa (c.parents.map vS), Bt]) (fun (i : { y : ((Option Addr × Nat) × List CdV) × Nat // y.2 ≤ c.files.length ∧ cdsOf y.1.2 = cdsOf ps ++ (c.files.take y.2).map flCard }) => c.files.length - i.1.2) rfl (⟨(((a30, c30), ps), 0), Nat.zero_le _, by simp⟩) ?_ ?_ (fun i => ?_)
   · exact ⟨rfl, sl_eq hpl.symm, rfl, rfl, rfl, trivial⟩
   ·
    dsimp only
    rw [hpl, hpf]
    refine Ent.trans (ent_cdm_new (qs := qs) (a := some ⟨b22, 0, none⟩) (c := 1) 67 [46 :: escB c.comment] [vS ([46] ++ escB c.comment)] HasC.get HasC.get rfl (Nat.le_refl _)) ?_
    refine Ent.trans (ent_cdm_new (qs := qs ++ [⟨67, some ⟨b22, 0, none⟩, 1, [46 :: escB c.comment]⟩]) (a := some ⟨b27, 0, none⟩) (c := 1) 68 [decN c.date.toNat] [vS (decN c.date.toNat)] HasC.get HasC.get rfl (Nat.le_refl _)) ?_
    rw [hps]
    exact ent_step (row_norm (by rfl) (by rfl)) ent_pick
   obtain ⟨⟨⟨⟨fa, fc⟩, fs⟩, j⟩, hj, hfs⟩ := i
   dsimp only at hj hfs ⊢
   have hfl := cdsLen hfs
   have hpl0 : (cdsOf ps).length = ps.length := by simp [cdsOf]
   rw [List.length_append, List.length_map, List.length_take, hpl0] at hfl
   try dsimp only
   refine Za (k:=Zr (k:=Vv (k:=Wq (Za (k:=Zi (t:=fun h35 => ?_) (f:=fun h35 => ?_))))))
   ·
    refine Zk (k:=Ya (Za (k:=Zb (k:=Za (k:=?_)))))
    have hjl : j < c.files.length := by omega
    obtain ⟨f, hf⟩ : ∃ f, f = c.files[j] := ⟨_, rfl⟩
    have hfz := z5 f (by rw [hf]; exact List.getElem_mem _)
    have htk : (c.files.take (j + 1)).map flCard = (c.files.take j).map flCard ++ [flCard f] := by rw [List.take_succ_eq_append_getElem hjl, List.map_append, hf]; rfl
    refine Zr (k:=Ye 2 (k:=?_))
    refine r_eloada (vs := [_, _]) (sz := 2) Tryz.underlying25 rfl ti25 rfl rfl (by rw [flat_len (sz := 2) (fun _ => rfl)]; omega) rfl (by refine get_flat (fun x => ?_) ?_ <;> first | rfl | omega) rfl ?_
    rw [← hf]
    refine Zc [vS [], vS []] (k:=fun b5 => Zp (k:=Wq (Za (k:=Zr (k:=Vf 0 9 (k:=Zd (k:=Zv [_] (cs := [_]) (k:=fun b40 => Vv (k:=Wq ?_)))))))))
    refine p_cut (fun (i : { y : (Option Addr × Nat) × List Bs // y.2 = (flCard f).args ∧ y.2.length ≤ y.1.2 }) => [(1, .pointer (some ⟨b1, 0, none⟩)), (3, .slice fa fs.length fc), (6, .slice i.1.1.1 i.1.2.length i.1.1.2), (32, .slice x.fa c.files.length x.fc), (33, vI c.files.length), (34, vI j)]) (fun (i : { y : (Option Addr × Nat) × List Bs // y.2 = (flCard f).args ∧ y.2.length ≤ y.1.2 }) => [SlI i.1.1.1 (i.1.2.map vS), Row 109 2 (.slice fa fs.length fc) fs.length (fs.flatMap CdV.cells), CdM fs, Ce b1 30 [vS c.base, vS c.comment, vI c.date, .slice x.fa c.files.length x.fc, .slice x.pa c.parents.length x.pc, .slice x.ta c.tags.length x.tc, vS c.user], Bf, SlI x.pa (c.parents.map vS), Bt]) rfl (fun i => ?_) ?_
    ·
     obtain ⟨⟨⟨ga, gc⟩, xs⟩, hxs, hxc⟩ := i
     dsimp only at hxs hxc ⊢
     try dsimp only
     refine Zr (k:=Vv (k:=Vv (k:=Vx (Ps [_, _]) (k:=Zv [_] (cs := [_, _]) (k:=fun b52 => ?_)))))
     refine r_append1 (sz := 2) (bytes := 32) Tryz.underlying107 ti109 rfl rfl rfl rfl rfl rfl rfl (by rfl) (by rfl) (by omega) (by simp only [maxLen]; omega) rfl (fun a53 c53 => ?_)
     refine Vv (k:=Wn (Yb (Ya (Zr (k:=Vv (k:=Vv (k:=Wn ?_)))))))
     obtain ⟨q, hqq⟩ : ∃ q : CdV, q = ⟨70, ga, gc, xs⟩ := ⟨_, rfl⟩
     have hqc : q.cd = flCard f := by rw [hqq]; show (⟨70, xs⟩ : Cd) = _; rw [hxs]; rfl
     have hql2 : (fs ++ [q]).length = fs.length + 1 := by simp
     refine to_inv ⟨(((a53, c53), fs ++ [q]), j + 1), ?_, ?_⟩ ?_ ⟨rfl, sl_eq hql2.symm, rfl, rfl, rfl, trivial⟩ ?_
     · dsimp only; omega
     · dsimp only; rw [htk, cds_snoc, hqc, hfs, List.append_assoc]
     · dsimp only; omega
     · dsimp only
       rw [hql2]
       refine (ent_cdm_snoc (qs := fs) (q := q) HasC.get (by rw [hqq]; exact HasC.get) (by rw [hqq]; exact hxc)).trans ?_
       exact ent_step (row_norm (by rfl) (by rw [hqq]; simp [CdV.cells])) ent_pick
    ·
     refine Za (k:=Zr (k:=Vf 1 9 (k:=Zd (k:=Vv (k:=Wq (Zi (t:=fun h43 => ?_) (f:=fun h43 => ?_)))))))
     ·
      refine Zr (k:=Vv (k:=Vf 1 9 (k:=Zd (k:=Zv [_] (cs := [_]) (k:=fun b47 => ?_)))))
      refine wo_ent' (ent_row (k := 1) (cap := 1) (sz := 1) (e := 9) (g := b40) (xs := [vS f.1]) (cur := [vS f.1]) (Nat.le_refl _) (by simp [maxLen]) rfl rfl rfl) ?_
      refine r_append1 (sz := 1) (bytes := 16) Tryz.underlying27 ti9 rfl rfl rfl rfl rfl rfl rfl (by rfl) (by rfl) (by omega) (by simp only [maxLen]; omega) rfl (fun a48 c48 => ?_)
      refine wo_know (A := Row 9 1 (.slice a48 (1 + 1) c48) (1 + 1) ([vS f.1] ++ [vS f.2])) HasC.get row_know (fun hk48 => ?_)
      refine wo_frzR a48 ?_
      rw [show ([vS f.1] ++ [vS f.2]) = ([f.1, f.2] : List Bs).map vS from rfl]
      refine Vv (k:=Wn ?_)
      first
      | exact to_inv ⟨((a48, c48), [f.1, f.2]), by simp [flCard, h43], hk48.1⟩ trivial ⟨rfl, rfl, rfl, rfl, rfl, rfl, trivial⟩ ent_pick
      | exact to_inv ⟨((some ⟨b40, 0, none⟩, 1), [f.1]), by simp [flCard, Classical.not_not.1 h43], Nat.le_refl _⟩ trivial ⟨rfl, rfl, rfl, rfl, rfl, rfl, trivial⟩ ent_pick
     ·
      refine wc_frzC b40 ?_
      rw [show [vS f.1] = ([f.1] : List Bs).map vS from rfl]
      refine Zk (k:=?_)
      first
      | exact to_inv ⟨((a48, c48), [f.1, f.2]), by simp [flCard, h43], hk48.1⟩ trivial ⟨rfl, rfl, rfl, rfl, rfl, rfl, trivial⟩ ent_pick
      | exact to_inv ⟨((some ⟨b40, 0, none⟩, 1), [f.1]), by simp [flCard, Classical.not_not.1 h43], Nat.le_refl _⟩ trivial ⟨rfl, rfl, rfl, rfl, rfl, rfl, trivial⟩ ent_pick
   ·
    refine Ze (k:=Xa (Xi (Xb (Ya ?_))))
    refine p_cut (fun (i : { y : (Option Addr × Nat) × List CdV // cdsOf y.2 = ckHead c }) => [(1, .pointer (some ⟨b1, 0, none⟩)), (3, .slice i.1.1.1 i.1.2.length i.1.1.2)]) (fun (i : { y : (Option Addr × Nat) × List CdV // cdsOf y.2 = ckHead c }) => [Row 109 2 (.slice i.1.1.1 i.1.2.length i.1.1.2) i.1.2.length (i.1.2.flatMap CdV.cells), CdM i.1.2, Ce b1 30 [vS c.base, vS c.comment, vI c.date, .slice x.fa c.files.length x.fc, .slice x.pa c.parents.length x.pc, .slice x.ta c.tags.length x.tc, vS c.user], Bf, SlI x.pa (c.parents.map vS), Bt]) rfl (fun i => ?_) ?_
    ·
     obtain ⟨⟨⟨ga, gc⟩, gs⟩, hgs⟩ := i
     dsimp only at hgs ⊢
     have hgl := cdsLen hgs
     have hhl : (ckHead c).length = (bCards c.base).length + 2 + c.files.length + (pCards c.parents).length := by simp [ckHead]; omega
     try dsimp only
     refine Za (k:=Zr (k:=Vv (k:=Vf 5 28 (k:=Zd (k:=?_)))))
     refine r_callX hTC rfl rfl rfl (fun x68 hx68 => ?_)
     obtain ⟨⟨ta, tc⟩, tqs⟩ := x68
     dsimp only [cardV, cardH] at hx68 ⊢
     have htq := cdsLen hx68
     rw [List.length_map] at htq
     refine r_appendA (sz := 2) (bytes := 32) Tryz.underlying107 ti109 rfl rfl rfl rfl rfl rfl rfl (cells_len tqs) (cells_one tqs) (by omega) (by simp only [maxLen]; omega) rfl (fun a69 c69 => ?_)
     refine Vv (k:=Wq (Za (k:=Zr (k:=Vv (k:=Vf 6 9 (k:=Zd (k:=Zv [_] (cs := [_]) (k:=fun b73 => Vx (Ps [_, _]) (k:=Zv [_] (cs := [_, _]) (k:=fun b75 => ?_))))))))))
     refine r_append1 (sz := 2) (bytes := 32) Tryz.underlying107 ti109 rfl rfl rfl rfl rfl rfl rfl (by rfl) (by rfl) (by omega) (by simp only [maxLen]; omega) rfl (fun a76 c76 => ?_)
     refine wo_frzC b73 ?_
     obtain ⟨al, hal⟩ : ∃ al : List CdV, al = gs ++ tqs ++ [⟨85, some ⟨b73, 0, none⟩, 1, [c.user]⟩] := ⟨_, rfl⟩
     have halc : cdsOf al = ckCards c := by rw [hal, cdsOf_app, cdsOf_app, hgs, hx68, ckHead, ckCards]; simp [cdsOf, CdV.cd]
     have hall : al.length = gs.length + tqs.length + 1 := by rw [hal]; simp; omega
     have hxx : gs.flatMap CdV.cells ++ tqs.flatMap CdV.cells ++ [vU 85, .slice (some ⟨b73, 0, none⟩) 1 1] = al.flatMap CdV.cells := by rw [hal]; simp [CdV.cells]
     have hPr := ref10_Print_sp (B := Row 109 2 (.slice a76 (gs.length + tqs.length + 1) c76) (gs.length + tqs.length + 1) (gs.flatMap CdV.cells ++ tqs.flatMap CdV.cells ++ [vU 85, .slice (some ⟨b73, 0, none⟩) 1 1])) (a := a76) (gs.length + tqs.length + 1) c76 al (by rw [← hxx]; exact sla_row) hall (by rw [halc]; omega)
     rw [halc] at hPr
     refine wo_ent' (ent_cdm_app (qs := gs) (rs := tqs) HasC.get HasC.get) ?_
     refine wo_ent' (ent_cdm_new (qs := gs ++ tqs) (a := some ⟨b73, 0, none⟩) (c := 1) 85 [c.user] [vS c.user] HasC.get HasC.get rfl (Nat.le_refl _)) ?_
     rw [← hal]
     refine r_call1 hPr rfl rfl rfl ?_
     refine Vv (k:=Wq (Zt (k:=?_)))
     exact fin_ret () (vs := [_]) (Cs := []) rfl (.tmp rfl .nil) rfl trivial ent_pick
    ·
     refine Za (k:=?_)
     have hjl : j = c.files.length := by omega
     subst hjl
     rw [List.take_length, hpcd] at hfs
     refine Zr (k:=Vf 4 27 (k:=Zd (k:=Vv (k:=Vv (k:=Wq (Zi (t:=fun h58 => ?_) (f:=fun h58 => ?_)))))))
     ·
      refine Zr (k:=Vv (k:=Vf 4 27 (k:=Zd (k:=Vx (Ps [_, _]) (k:=Zv [_] (cs := [_, _]) (k:=fun b63 => ?_))))))
      refine r_append1 (sz := 2) (bytes := 32) Tryz.underlying107 ti109 rfl rfl rfl rfl rfl rfl rfl (by rfl) (by rfl) (by omega) (by simp only [maxLen]; omega) rfl (fun a64 c64 => ?_)
      refine Vv (k:=Wn ?_)
      first
      | (have hp : c.parents ≠ [] := fun e => by rw [e] at h58; simp at h58
         have hql2 : (fs ++ [(⟨80, x.pa, x.pc, c.parents⟩ : CdV)]).length = fs.length + 1 := by simp
         refine to_inv ⟨((a64, c64), fs ++ [⟨80, x.pa, x.pc, c.parents⟩]), ?_⟩ trivial ⟨rfl, sl_eq hql2.symm, trivial⟩ ?_
         · dsimp only; rw [cds_snoc, hfs, ckHead, pCards, if_neg hp]; simp [CdV.cd]
         · dsimp only
           rw [hql2]
           refine (ent_cdm_snoc (qs := fs) (q := ⟨80, x.pa, x.pc, c.parents⟩) HasC.get HasC.get hpc).trans ?_
           exact ent_step (row_norm (by rfl) (by rw [fm_snoc]; rfl)) ent_pick)
      | (have hp : c.parents = [] := List.eq_nil_of_length_eq_zero (by omega)
         refine to_inv ⟨((fa, fc), fs), ?_⟩ trivial ⟨rfl, rfl, trivial⟩ ent_pick
         dsimp only; rw [hfs, ckHead, pCards, if_pos hp]; simp)
     ·
      refine Zk (k:=?_)
      first
      | (have hp : c.parents ≠ [] := fun e => by rw [e] at h58; simp at h58
         have hql2 : (fs ++ [(⟨80, x.pa, x.pc, c.parents⟩ : CdV)]).length = fs.length + 1 := by simp
         refine to_inv ⟨((a64, c64), fs ++ [⟨80, x.pa, x.pc, c.parents⟩]), ?_⟩ trivial ⟨rfl, sl_eq hql2.symm, trivial⟩ ?_
         · dsimp only; rw [cds_snoc, hfs, ckHead, pCards, if_neg hp]; simp [CdV.cd]
         · dsimp only
           rw [hql2]
           refine (ent_cdm_snoc (qs := fs) (q := ⟨80, x.pa, x.pc, c.parents⟩) HasC.get HasC.get hpc).trans ?_
           exact ent_step (row_norm (by rfl) (by rw [fm_snoc]; rfl)) ent_pick)
      | (have hp : c.parents = [] := List.eq_nil_of_length_eq_zero (by omega)
         refine to_inv ⟨((fa, fc), fs), ?_⟩ trivial ⟨rfl, rfl, trivial⟩ ent_pick
         dsimp only; rw [hfs, ckHead, pCards, if_pos hp]; simp)
  ·
   refine an_callF hDec rfl rfl rfl ?_
   refine d_next2 5 10 (by kernel_rfl) rfl rfl ?_ ?_
   ·
    refine Nl [_] (cs := [_]) (k:=fun b22 => Di 6 (t:=Ux (Ps [_, _])) (k:=Dn 10 (k:=Nl [_] (cs := [_]) (k:=fun b27 => Di 11 (t:=Ux (Ps [_, _])) (k:=Dn 12 (k:=Nl [_, _] (cs := [_, _, _, _]) (k:=fun b29 => Dn 13 (k:=?_))))))))
    refine an_append1 (sz := 2) (bytes := 32) Tryz.underlying107 ti109 rfl rfl rfl rfl rfl rfl rfl (by rfl) (by rfl) (by omega) (by simp only [maxLen]; omega) rfl (fun a30 c30 => ?_)
    refine Di 14 (t:=Uv) (k:=Dd (k:=Ya (Za (k:=Za (k:=?_)))))
    refine wc_frzC b22 ?_
    refine wc_frzC b27 ?_
    obtain ⟨ps, hps⟩ : ∃ ps : List CdV, ps = qs ++ [⟨67, some ⟨b22, 0, none⟩, 1, [46 :: escB c.comment]⟩] ++ [⟨68, some ⟨b27, 0, none⟩, 1, [decN c.date.toNat]⟩] := ⟨_, rfl⟩
    have hpcd : cdsOf ps = bCards c.base ++ [⟨67, [46 :: escB c.comment]⟩, ⟨68, [decN c.date.toNat]⟩] := by rw [hps, cdsOf_app, cdsOf_app, hcd, List.append_assoc]; rfl
    have hpl : ps.length = qs.length + 2 := by rw [hps]; simp
    have hpf : ps.flatMap CdV.cells = qs.flatMap CdV.cells ++ [vU ((67 : UInt8).toNat : Int), .slice (some ⟨b22, 0, none⟩) 1 1, vU ((68 : UInt8).toNat : Int), .slice (some ⟨b27, 0, none⟩) 1 1] := by rw [hps]; simp [CdV.cells]
    refine Zr (k:=Vf 3 26 (k:=Zd (k:=Vv (k:=Vv (k:=Wq (Zb (k:=?_)))))))
    refine p_loop (fun (i : { y : ((Option Addr × Nat) × List CdV) × Nat // y.2 ≤ c.files.length ∧ cdsOf y.1.2 = cdsOf ps ++ (c.files.take y.2).map flCard }) => [(1, .pointer (some ⟨b1, 0, none⟩)), (3, .slice i.1.1.1.1 i.1.1.2.length i.1.1.1.2), (32, .slice x.fa c.files.length x.fc), (33, vI c.files.length), (34, vI i.1.2)]) (fun (i : { y : ((Option Addr × Nat) × List CdV) × Nat // y.2 ≤ c.files.length ∧ cdsOf y.1.2 = cdsOf ps ++ (c.files.take y.2).map flCard }) => [Row 109 2 (.slice i.1.1.1.1 i.1.1.2.length i.1.1.1.2) i.1.1.2.length (i.1.1.2.flatMap CdV.cells), CdM i.1.1.2, Ce b1 30 [vS c.base, vS c.comment, vI c.date, .slice x.fa c.files.length x.fc, .slice x.pa c.parents.length x.pc, .slice x.ta c.tags.length x.tc, vS c.user], Bf, SlI x.pa (c.parents.map vS), Bt]) (fun (i : { y : ((Option Addr × Nat) × List CdV) × Nat // y.2 ≤ c.files.length ∧ cdsOf y.1.2 = cdsOf ps ++ (c.files.take y.2).map flCard }) => c.files.length - i.1.2) rfl (⟨(((a30, c30), ps), 0), Nat.zero_le _, by simp⟩) ?_ ?_ (fun i => ?_)
    · exact ⟨rfl, sl_eq hpl.symm, rfl, rfl, rfl, trivial⟩
    ·
     dsimp only
     rw [hpl, hpf]
     refine Ent.trans (ent_cdm_new (qs := qs) (a := some ⟨b22, 0, none⟩) (c := 1) 67 [46 :: escB c.comment] [vS ([46] ++ escB c.comment)] HasC.get HasC.get rfl (Nat.le_refl _)) ?_
     refine Ent.trans (ent_cdm_new (qs := qs ++ [⟨67, some ⟨b22, 0, none⟩, 1, [46 :: escB c.comment]⟩]) (a := some ⟨b27, 0, none⟩) (c := 1) 68 [decN c.date.toNat] [vS (decN c.date.toNat)] HasC.get HasC.get rfl (Nat.le_refl _)) ?_
     rw [hps]
     exact ent_step (row_norm (by rfl) (by rfl)) ent_pick
    obtain ⟨⟨⟨⟨fa, fc⟩, fs⟩, j⟩, hj, hfs⟩ := i
    dsimp only at hj hfs ⊢
    have hfl := cdsLen hfs
    have hpl0 : (cdsOf ps).length = ps.length := by simp [cdsOf]
    rw [List.length_append, List.length_map, List.length_take, hpl0] at hfl
    try dsimp only
    refine Za (k:=Zr (k:=Vv (k:=Wq (Za (k:=Zi (t:=fun h35 => ?_) (f:=fun h35 => ?_))))))
    ·
     refine Zk (k:=Ya (Za (k:=Zb (k:=Za (k:=?_)))))
     have hjl : j < c.files.length := by omega
     obtain ⟨f, hf⟩ : ∃ f, f = c.files[j] := ⟨_, rfl⟩
     have hfz := z5 f (by rw [hf]; exact List.getElem_mem _)
     have htk : (c.files.take (j + 1)).map flCard = (c.files.take j).map flCard ++ [flCard f] := by rw [List.take_succ_eq_append_getElem hjl, List.map_append, hf]; rfl
     refine Zr (k:=Ye 2 (k:=?_))
     refine r_eloada (vs := [_, _]) (sz := 2) Tryz.underlying25 rfl ti25 rfl rfl (by rw [flat_len (sz := 2) (fun _ => rfl)]; omega) rfl (by refine get_flat (fun x => ?_) ?_ <;> first | rfl | omega) rfl ?_
     rw [← hf]
     refine Zc [vS [], vS []] (k:=fun b5 => Zp (k:=Wq (Za (k:=Zr (k:=Vf 0 9 (k:=Zd (k:=Zv [_] (cs := [_]) (k:=fun b40 => Vv (k:=Wq ?_)))))))))
     refine p_cut (fun (i : { y : (Option Addr × Nat) × List Bs // y.2 = (flCard f).args ∧ y.2.length ≤ y.1.2 }) => [(1, .pointer (some ⟨b1, 0, none⟩)), (3, .slice fa fs.length fc), (6, .slice i.1.1.1 i.1.2.length i.1.1.2), (32, .slice x.fa c.files.length x.fc), (33, vI c.files.length), (34, vI j)]) (fun (i : { y : (Option Addr × Nat) × List Bs // y.2 = (flCard f).args ∧ y.2.length ≤ y.1.2 }) => [SlI i.1.1.1 (i.1.2.map vS), Row 109 2 (.slice fa fs.length fc) fs.length (fs.flatMap CdV.cells), CdM fs, Ce b1 30 [vS c.base, vS c.comment, vI c.date, .slice x.fa c.files.length x.fc, .slice x.pa c.parents.length x.pc, .slice x.ta c.tags.length x.tc, vS c.user], Bf, SlI x.pa (c.parents.map vS), Bt]) rfl (fun i => ?_) ?_
     ·
      obtain ⟨⟨⟨ga, gc⟩, xs⟩, hxs, hxc⟩ := i
      dsimp only at hxs hxc ⊢
      try dsimp only
      refine Zr (k:=Vv (k:=Vv (k:=Vx (Ps [_, _]) (k:=Zv [_] (cs := [_, _]) (k:=fun b52 => ?_)))))
      refine r_append1 (sz := 2) (bytes := 32) Tryz.underlying107 ti109 rfl rfl rfl rfl rfl rfl rfl (by rfl) (by rfl) (by omega) (by simp only [maxLen]; omega) rfl (fun a53 c53 => ?_)
      refine Vv (k:=Wn (Yb (Ya (Zr (k:=Vv (k:=Vv (k:=Wn ?_)))))))
      obtain ⟨q, hqq⟩ : ∃ q : CdV, q = ⟨70, ga, gc, xs⟩ := ⟨_, rfl⟩
      have hqc : q.cd = flCard f := by rw [hqq]; show (⟨70, xs⟩ : Cd) = _; rw [hxs]; rfl
      have hql2 : (fs ++ [q]).length = fs.length + 1 := by simp
      refine to_inv ⟨(((a53, c53), fs ++ [q]), j + 1), ?_, ?_⟩ ?_ ⟨rfl, sl_eq hql2.symm, rfl, rfl, rfl, trivial⟩ ?_
      · dsimp only; omega
      · dsimp only; rw [htk, cds_snoc, hqc, hfs, List.append_assoc]
      · dsimp only; omega
      · dsimp only
        rw [hql2]
        refine (ent_cdm_snoc (qs := fs) (q := q) HasC.get (by rw [hqq]; exact HasC.get) (by rw [hqq]; exact hxc)).trans ?_
        exact ent_step (row_norm (by rfl) (by rw [hqq]; simp [CdV.cells])) ent_pick
     ·
      refine Za (k:=Zr (k:=Vf 1 9 (k:=Zd (k:=Vv (k:=Wq (Zi (t:=fun h43 => ?_) (f:=fun h43 => ?_)))))))
      ·
       refine Zr (k:=Vv (k:=Vf 1 9 (k:=Zd (k:=Zv [_] (cs := [_]) (k:=fun b47 => ?_)))))
       refine wo_ent' (ent_row (k := 1) (cap := 1) (sz := 1) (e := 9) (g := b40) (xs := [vS f.1]) (cur := [vS f.1]) (Nat.le_refl _) (by simp [maxLen]) rfl rfl rfl) ?_
       refine r_append1 (sz := 1) (bytes := 16) Tryz.underlying27 ti9 rfl rfl rfl rfl rfl rfl rfl (by rfl) (by rfl) (by omega) (by simp only [maxLen]; omega) rfl (fun a48 c48 => ?_)
       refine wo_know (A := Row 9 1 (.slice a48 (1 + 1) c48) (1 + 1) ([vS f.1] ++ [vS f.2])) HasC.get row_know (fun hk48 => ?_)
       refine wo_frzR a48 ?_
       rw [show ([vS f.1] ++ [vS f.2]) = ([f.1, f.2] : List Bs).map vS from rfl]
       refine Vv (k:=Wn ?_)
       first
       | exact to_inv ⟨((a48, c48), [f.1, f.2]), by simp [flCard, h43], hk48.1⟩ trivial ⟨rfl, rfl, rfl, rfl, rfl, rfl, trivial⟩ ent_pick
       | exact to_inv ⟨((some ⟨b40, 0, none⟩, 1), [f.1]), by simp [flCard, Classical.not_not.1 h43], Nat.le_refl _⟩ trivial ⟨rfl, rfl, rfl, rfl, rfl, rfl, trivial⟩ ent_pick
      ·
       refine wc_frzC b40 ?_
       rw [show [vS f.1] = ([f.1] : List Bs).map vS from rfl]
       refine Zk (k:=?_)
       first
       | exact to_inv ⟨((a48, c48), [f.1, f.2]), by simp [flCard, h43], hk48.1⟩ trivial ⟨rfl, rfl, rfl, rfl, rfl, rfl, trivial⟩ ent_pick
       | exact to_inv ⟨((some ⟨b40, 0, none⟩, 1), [f.1]), by simp [flCard, Classical.not_not.1 h43], Nat.le_refl _⟩ trivial ⟨rfl, rfl, rfl, rfl, rfl, rfl, trivial⟩ ent_pick
    ·
     refine Ze (k:=Xa (Xi (Xb (Ya ?_))))
     refine p_cut (fun (i : { y : (Option Addr × Nat) × List CdV // cdsOf y.2 = ckHead c }) => [(1, .pointer (some ⟨b1, 0, none⟩)), (3, .slice i.1.1.1 i.1.2.length i.1.1.2)]) (fun (i : { y : (Option Addr × Nat) × List CdV // cdsOf y.2 = ckHead c }) => [Row 109 2 (.slice i.1.1.1 i.1.2.length i.1.1.2) i.1.2.length (i.1.2.flatMap CdV.cells), CdM i.1.2, Ce b1 30 [vS c.base, vS c.comment, vI c.date, .slice x.fa c.files.length x.fc, .slice x.pa c.parents.length x.pc, .slice x.ta c.tags.length x.tc, vS c.user], Bf, SlI x.pa (c.parents.map vS), Bt]) rfl (fun i => ?_) ?_
     ·
      obtain ⟨⟨⟨ga, gc⟩, gs⟩, hgs⟩ := i
      dsimp only at hgs ⊢
      have hgl := cdsLen hgs
      have hhl : (ckHead c).length = (bCards c.base).length + 2 + c.files.length + (pCards c.parents).length := by simp [ckHead]; omega
      try dsimp only
      refine Za (k:=Zr (k:=Vv (k:=Vf 5 28 (k:=Zd (k:=?_)))))
      refine r_callX hTC rfl rfl rfl (fun x68 hx68 => ?_)
      obtain ⟨⟨ta, tc⟩, tqs⟩ := x68
      dsimp only [cardV, cardH] at hx68 ⊢
      have htq := cdsLen hx68
      rw [List.length_map] at htq
      refine r_appendA (sz := 2) (bytes := 32) Tryz.underlying107 ti109 rfl rfl rfl rfl rfl rfl rfl (cells_len tqs) (cells_one tqs) (by omega) (by simp only [maxLen]; omega) rfl (fun a69 c69 => ?_)
      refine Vv (k:=Wq (Za (k:=Zr (k:=Vv (k:=Vf 6 9 (k:=Zd (k:=Zv [_] (cs := [_]) (k:=fun b73 => Vx (Ps [_, _]) (k:=Zv [_] (cs := [_, _]) (k:=fun b75 => ?_))))))))))
      refine r_append1 (sz := 2) (bytes := 32) Tryz.underlying107 ti109 rfl rfl rfl rfl rfl rfl rfl (by rfl) (by rfl) (by omega) (by simp only [maxLen]; omega) rfl (fun a76 c76 => ?_)
      refine wo_frzC b73 ?_
      obtain ⟨al, hal⟩ : ∃ al : List CdV, al = gs ++ tqs ++ [⟨85, some ⟨b73, 0, none⟩, 1, [c.user]⟩] := ⟨_, rfl⟩
      have halc : cdsOf al = ckCards c := by rw [hal, cdsOf_app, cdsOf_app, hgs, hx68, ckHead, ckCards]; simp [cdsOf, CdV.cd]
      have hall : al.length = gs.length + tqs.length + 1 := by rw [hal]; simp; omega
      have hxx : gs.flatMap CdV.cells ++ tqs.flatMap CdV.cells ++ [vU 85, .slice (some ⟨b73, 0, none⟩) 1 1] = al.flatMap CdV.cells := by rw [hal]; simp [CdV.cells]
      have hPr := ref10_Print_sp (B := Row 109 2 (.slice a76 (gs.length + tqs.length + 1) c76) (gs.length + tqs.length + 1) (gs.flatMap CdV.cells ++ tqs.flatMap CdV.cells ++ [vU 85, .slice (some ⟨b73, 0, none⟩) 1 1])) (a := a76) (gs.length + tqs.length + 1) c76 al (by rw [← hxx]; exact sla_row) hall (by rw [halc]; omega)
      rw [halc] at hPr
      refine wo_ent' (ent_cdm_app (qs := gs) (rs := tqs) HasC.get HasC.get) ?_
      refine wo_ent' (ent_cdm_new (qs := gs ++ tqs) (a := some ⟨b73, 0, none⟩) (c := 1) 85 [c.user] [vS c.user] HasC.get HasC.get rfl (Nat.le_refl _)) ?_
      rw [← hal]
      refine r_call1 hPr rfl rfl rfl ?_
      refine Vv (k:=Wq (Zt (k:=?_)))
      exact fin_ret () (vs := [_]) (Cs := []) rfl (.tmp rfl .nil) rfl trivial ent_pick
     ·
      refine Za (k:=?_)
      have hjl : j = c.files.length := by omega
      subst hjl
      rw [List.take_length, hpcd] at hfs
      refine Zr (k:=Vf 4 27 (k:=Zd (k:=Vv (k:=Vv (k:=Wq (Zi (t:=fun h58 => ?_) (f:=fun h58 => ?_)))))))
      ·
       refine Zr (k:=Vv (k:=Vf 4 27 (k:=Zd (k:=Vx (Ps [_, _]) (k:=Zv [_] (cs := [_, _]) (k:=fun b63 => ?_))))))
       refine r_append1 (sz := 2) (bytes := 32) Tryz.underlying107 ti109 rfl rfl rfl rfl rfl rfl rfl (by rfl) (by rfl) (by omega) (by simp only [maxLen]; omega) rfl (fun a64 c64 => ?_)
       refine Vv (k:=Wn ?_)
       first
       | (have hp : c.parents ≠ [] := fun e => by rw [e] at h58; simp at h58
          have hql2 : (fs ++ [(⟨80, x.pa, x.pc, c.parents⟩ : CdV)]).length = fs.length + 1 := by simp
          refine to_inv ⟨((a64, c64), fs ++ [⟨80, x.pa, x.pc, c.parents⟩]), ?_⟩ trivial ⟨rfl, sl_eq hql2.symm, trivial⟩ ?_
          · dsimp only; rw [cds_snoc, hfs, ckHead, pCards, if_neg hp]; simp [CdV.cd]
          · dsimp only
            rw [hql2]
            refine (ent_cdm_snoc (qs := fs) (q := ⟨80, x.pa, x.pc, c.parents⟩) HasC.get HasC.get hpc).trans ?_
            exact ent_step (row_norm (by rfl) (by rw [fm_snoc]; rfl)) ent_pick)
       | (have hp : c.parents = [] := List.eq_nil_of_length_eq_zero (by omega)
          refine to_inv ⟨((fa, fc), fs), ?_⟩ trivial ⟨rfl, rfl, trivial⟩ ent_pick
          dsimp only; rw [hfs, ckHead, pCards, if_pos hp]; simp)
      ·
       refine Zk (k:=?_)
       first
       | (have hp : c.parents ≠ [] := fun e => by rw [e] at h58; simp at h58
          have hql2 : (fs ++ [(⟨80, x.pa, x.pc, c.parents⟩ : CdV)]).length = fs.length + 1 := by simp
          refine to_inv ⟨((a64, c64), fs ++ [⟨80, x.pa, x.pc, c.parents⟩]), ?_⟩ trivial ⟨rfl, sl_eq hql2.symm, trivial⟩ ?_
          · dsimp only; rw [cds_snoc, hfs, ckHead, pCards, if_neg hp]; simp [CdV.cd]
          · dsimp only
            rw [hql2]
            refine (ent_cdm_snoc (qs := fs) (q := ⟨80, x.pa, x.pc, c.parents⟩) HasC.get HasC.get hpc).trans ?_
            exact ent_step (row_norm (by rfl) (by rw [fm_snoc]; rfl)) ent_pick)
       | (have hp : c.parents = [] := List.eq_nil_of_length_eq_zero (by omega)
          refine to_inv ⟨((fa, fc), fs), ?_⟩ trivial ⟨rfl, rfl, trivial⟩ ent_pick
          dsimp only; rw [hfs, ckHead, pCards, if_pos hp]; simp)
   ·
    refine Nl [_] (cs := [_]) (k:=fun b27 => Di 11 (t:=Ux (Ps [_, _])) (k:=Dn 5 (k:=Nl [_] (cs := [_]) (k:=fun b22 => Di 6 (t:=Ux (Ps [_, _])) (k:=Dn 12 (k:=Nl [_, _] (cs := [_, _, _, _]) (k:=fun b29 => Dn 13 (k:=?_))))))))
    refine an_append1 (sz := 2) (bytes := 32) Tryz.underlying107 ti109 rfl rfl rfl rfl rfl rfl rfl (by rfl) (by rfl) (by omega) (by simp only [maxLen]; omega) rfl (fun a30 c30 => ?_)
    refine Di 14 (t:=Uv) (k:=Dd (k:=Ya (Za (k:=Za (k:=?_)))))
    refine wc_frzC b22 ?_
    refine wc_frzC b27 ?_
    obtain ⟨ps, hps⟩ : ∃ ps : List CdV, ps = qs ++ [⟨67, some ⟨b22, 0, none⟩, 1, [46 :: escB c.comment]⟩] ++ [⟨68, some ⟨b27, 0, none⟩, 1, [decN c.date.toNat]⟩] := ⟨_, rfl⟩
    have hpcd : cdsOf ps = bCards c.base ++ [⟨67, [46 :: escB c.comment]⟩, ⟨68, [decN c.date.toNat]⟩] := by rw [hps, cdsOf_app, cdsOf_app, hcd, List.append_assoc]; rfl
    have hpl : ps.length = qs.length + 2 := by rw [hps]; simp
    have hpf : ps.flatMap CdV.cells = qs.flatMap CdV.cells ++ [vU ((67 : UInt8).toNat : Int), .slice (some ⟨b22, 0, none⟩) 1 1, vU ((68 : UInt8).toNat : Int), .slice (some ⟨b27, 0, none⟩) 1 1] := by rw [hps]; simp [CdV.cells]
    refine Zr (k:=Vf 3 26 (k:=Zd (k:=Vv (k:=Vv (k:=Wq (Zb (k:=?_)))))))
    refine p_loop (fun (i : { y : ((Option Addr × Nat) × List CdV) × Nat // y.2 ≤ c.files.length ∧ cdsOf y.1.2 = cdsOf ps ++ (c.files.take y.2).map flCard }) => [(1, .pointer (some ⟨b1, 0, none⟩)), (3, .slice i.1.1.1.1 i.1.1.2.length i.1.1.1.2), (32, .slice x.fa c.files.length x.fc), (33, vI c.files.length), (34, vI i.1.2)]) (fun (i : { y : ((Option Addr × Nat) × List CdV) × Nat // y.2 ≤ c.files.length ∧ cdsOf y.1.2 = cdsOf ps ++ (c.files.take y.2).map flCard }) => [Row 109 2 (.slice i.1.1.1.1 i.1.1.2.length i.1.1.1.2) i.1.1.2.length (i.1.1.2.flatMap CdV.cells), CdM i.1.1.2, Ce b1 30 [vS c.base, vS c.comment, vI c.date, .slice x.fa c.files.length x.fc, .slice x.pa c.parents.length x.pc, .slice x.ta c.tags.length x.tc, vS c.user], Bf, SlI x.pa (c.parents.map vS), Bt]) (fun (i : { y : ((Option Addr × Nat) × List CdV) × Nat // y.2 ≤ c.files.length ∧ cdsOf y.1.2 = cdsOf ps ++ (c.files.take y.2).map flCard }) => c.files.length - i.1.2) rfl (⟨(((a30, c30), ps), 0), Nat.zero_le _, by simp⟩) ?_ ?_ (fun i => ?_)
    · exact ⟨rfl, sl_eq hpl.symm, rfl, rfl, rfl, trivial⟩
    ·
     dsimp only
     rw [hpl, hpf]
     refine Ent.trans (ent_cdm_new (qs := qs) (a := some ⟨b22, 0, none⟩) (c := 1) 67 [46 :: escB c.comment] [vS ([46] ++ escB c.comment)] HasC.get HasC.get rfl (Nat.le_refl _)) ?_
     refine Ent.trans (ent_cdm_new (qs := qs ++ [⟨67, some ⟨b22, 0, none⟩, 1, [46 :: escB c.comment]⟩]) (a := some ⟨b27, 0, none⟩) (c := 1) 68 [decN c.date.toNat] [vS (decN c.date.toNat)] HasC.get HasC.get rfl (Nat.le_refl _)) ?_
     rw [hps]
     exact ent_step (row_norm (by rfl) (by rfl)) ent_pick
    obtain ⟨⟨⟨⟨fa, fc⟩, fs⟩, j⟩, hj, hfs⟩ := i
    dsimp only at hj hfs ⊢
    have hfl := cdsLen hfs
    have hpl0 : (cdsOf ps).length = ps.length := by simp [cdsOf]
    rw [List.length_append, List.length_map, List.length_take, hpl0] at hfl
    try dsimp only
    refine Za (k:=Zr (k:=Vv (k:=Wq (Za (k:=Zi (t:=fun h35 => ?_) (f:=fun h35 => ?_))))))
    ·
     refine Zk (k:=Ya (Za (k:=Zb (k:=Za (k:=?_)))))
     have hjl : j < c.files.length := by omega
     obtain ⟨f, hf⟩ : ∃ f, f = c.files[j] := ⟨_, rfl⟩
     have hfz := z5 f (by rw [hf]; exact List.getElem_mem _)
     have htk : (c.files.take (j + 1)).map flCard = (c.files.take j).map flCard ++ [flCard f] := by rw [List.take_succ_eq_append_getElem hjl, List.map_append, hf]; rfl
     refine Zr (k:=Ye 2 (k:=?_))
     refine r_eloada (vs := [_, _]) (sz := 2) Tryz.underlying25 rfl ti25 rfl rfl (by rw [flat_len (sz := 2) (fun _ => rfl)]; omega) rfl (by refine get_flat (fun x => ?_) ?_ <;> first | rfl | omega) rfl ?_
     rw [← hf]
     refine Zc [vS [], vS []] (k:=fun b5 => Zp (k:=Wq (Za (k:=Zr (k:=Vf 0 9 (k:=Zd (k:=Zv [_] (cs := [_]) (k:=fun b40 => Vv (k:=Wq ?_)))))))))
     refine p_cut (fun (i : { y : (Option Addr × Nat) × List Bs // y.2 = (flCard f).args ∧ y.2.length ≤ y.1.2 }) => [(1, .pointer (some ⟨b1, 0, none⟩)), (3, .slice fa fs.length fc), (6, .slice i.1.1.1 i.1.2.length i.1.1.2), (32, .slice x.fa c.files.length x.fc), (33, vI c.files.length), (34, vI j)]) (fun (i : { y : (Option Addr × Nat) × List Bs // y.2 = (flCard f).args ∧ y.2.length ≤ y.1.2 }) => [SlI i.1.1.1 (i.1.2.map vS), Row 109 2 (.slice fa fs.length fc) fs.length (fs.flatMap CdV.cells), CdM fs, Ce b1 30 [vS c.base, vS c.comment, vI c.date, .slice x.fa c.files.length x.fc, .slice x.pa c.parents.length x.pc, .slice x.ta c.tags.length x.tc, vS c.user], Bf, SlI x.pa (c.parents.map vS), Bt]) rfl (fun i => ?_) ?_
     ·
      obtain ⟨⟨⟨ga, gc⟩, xs⟩, hxs, hxc⟩ := i
      dsimp only at hxs hxc ⊢
      try dsimp only
      refine Zr (k:=Vv (k:=Vv (k:=Vx (Ps [_, _]) (k:=Zv [_] (cs := [_, _]) (k:=fun b52 => ?_)))))
      refine r_append1 (sz := 2) (bytes := 32) Tryz.underlying107 ti109 rfl rfl rfl rfl rfl rfl rfl (by rfl) (by rfl) (by omega) (by simp only [maxLen]; omega) rfl (fun a53 c53 => ?_)
      refine Vv (k:=Wn (Yb (Ya (Zr (k:=Vv (k:=Vv (k:=Wn ?_)))))))
      obtain ⟨q, hqq⟩ : ∃ q : CdV, q = ⟨70, ga, gc, xs⟩ := ⟨_, rfl⟩
      have hqc : q.cd = flCard f := by rw [hqq]; show (⟨70, xs⟩ : Cd) = _; rw [hxs]; rfl
      have hql2 : (fs ++ [q]).length = fs.length + 1 := by simp
      refine to_inv ⟨(((a53, c53), fs ++ [q]), j + 1), ?_, ?_⟩ ?_ ⟨rfl, sl_eq hql2.symm, rfl, rfl, rfl, trivial⟩ ?_
      · dsimp only; omega
      · dsimp only; rw [htk, cds_snoc, hqc, hfs, List.append_assoc]
      · dsimp only; omega
      · dsimp only
        rw [hql2]
        refine (ent_cdm_snoc (qs := fs) (q := q) HasC.get (by rw [hqq]; exact HasC.get) (by rw [hqq]; exact hxc)).trans ?_
        exact ent_step (row_norm (by rfl) (by rw [hqq]; simp [CdV.cells])) ent_pick
     ·
      refine Za (k:=Zr (k:=Vf 1 9 (k:=Zd (k:=Vv (k:=Wq (Zi (t:=fun h43 => ?_) (f:=fun h43 => ?_)))))))
      ·
       refine Zr (k:=Vv (k:=Vf 1 9 (k:=Zd (k:=Zv [_] (cs := [_]) (k:=fun b47 => ?_)))))
       refine wo_ent' (ent_row (k := 1) (cap := 1) (sz := 1) (e := 9) (g := b40) (xs := [vS f.1]) (cur := [vS f.1]) (Nat.le_refl _) (by simp [maxLen]) rfl rfl rfl) ?_
       refine r_append1 (sz := 1) (bytes := 16) Tryz.underlying27 ti9 rfl rfl rfl rfl rfl rfl rfl (by rfl) (by rfl) (by omega) (by simp only [maxLen]; omega) rfl (fun a48 c48 => ?_)
       refine wo_know (A := Row 9 1 (.slice a48 (1 + 1) c48) (1 + 1) ([vS f.1] ++ [vS f.2])) HasC.get row_know (fun hk48 => ?_)
       refine wo_frzR a48 ?_
       rw [show ([vS f.1] ++ [vS f.2]) = ([f.1, f.2] : List Bs).map vS from rfl]
       refine Vv (k:=Wn ?_)
       first
       | exact to_inv ⟨((a48, c48), [f.1, f.2]), by simp [flCard, h43], hk48.1⟩ trivial ⟨rfl, rfl, rfl, rfl, rfl, rfl, trivial⟩ ent_pick
       | exact to_inv ⟨((some ⟨b40, 0, none⟩, 1), [f.1]), by simp [flCard, Classical.not_not.1 h43], Nat.le_refl _⟩ trivial ⟨rfl, rfl, rfl, rfl, rfl, rfl, trivial⟩ ent_pick
      ·
       refine wc_frzC b40 ?_
       rw [show [vS f.1] = ([f.1] : List Bs).map vS from rfl]
       refine Zk (k:=?_)
       first
       | exact to_inv ⟨((a48, c48), [f.1, f.2]), by simp [flCard, h43], hk48.1⟩ trivial ⟨rfl, rfl, rfl, rfl, rfl, rfl, trivial⟩ ent_pick
       | exact to_inv ⟨((some ⟨b40, 0, none⟩, 1), [f.1]), by simp [flCard, Classical.not_not.1 h43], Nat.le_refl _⟩ trivial ⟨rfl, rfl, rfl, rfl, rfl, rfl, trivial⟩ ent_pick
    ·
     refine Ze (k:=Xa (Xi (Xb (Ya ?_))))
     refine p_cut (fun (i : { y : (Option Addr × Nat) × List CdV // cdsOf y.2 = ckHead c }) => [(1, .pointer (some ⟨b1, 0, none⟩)), (3, .slice i.1.1.1 i.1.2.length i.1.1.2)]) (fun (i : { y : (Option Addr × Nat) × List CdV // cdsOf y.2 = ckHead c }) => [Row 109 2 (.slice i.1.1.1 i.1.2.length i.1.1.2) i.1.2.length (i.1.2.flatMap CdV.cells), CdM i.1.2, Ce b1 30 [vS c.base, vS c.comment, vI c.date, .slice x.fa c.files.length x.fc, .slice x.pa c.parents.length x.pc, .slice x.ta c.tags.length x.tc, vS c.user], Bf, SlI x.pa (c.parents.map vS), Bt]) rfl (fun i => ?_) ?_
     ·
      obtain ⟨⟨⟨ga, gc⟩, gs⟩, hgs⟩ := i
      dsimp only at hgs ⊢
      have hgl := cdsLen hgs
      have hhl : (ckHead c).length = (bCards c.base).length + 2 + c.files.length + (pCards c.parents).length := by simp [ckHead]; omega
      try dsimp only
      refine Za (k:=Zr (k:=Vv (k:=Vf 5 28 (k:=Zd (k:=?_)))))
      refine r_callX hTC rfl rfl rfl (fun x68 hx68 => ?_)
      obtain ⟨⟨ta, tc⟩, tqs⟩ := x68
      dsimp only [cardV, cardH] at hx68 ⊢
      have htq := cdsLen hx68
      rw [List.length_map] at htq
      refine r_appendA (sz := 2) (bytes := 32) Tryz.underlying107 ti109 rfl rfl rfl rfl rfl rfl rfl (cells_len tqs) (cells_one tqs) (by omega) (by simp only [maxLen]; omega) rfl (fun a69 c69 => ?_)
      refine Vv (k:=Wq (Za (k:=Zr (k:=Vv (k:=Vf 6 9 (k:=Zd (k:=Zv [_] (cs := [_]) (k:=fun b73 => Vx (Ps [_, _]) (k:=Zv [_] (cs := [_, _]) (k:=fun b75 => ?_))))))))))
      refine r_append1 (sz := 2) (bytes := 32) Tryz.underlying107 ti109 rfl rfl rfl rfl rfl rfl rfl (by rfl) (by rfl) (by omega) (by simp only [maxLen]; omega) rfl (fun a76 c76 => ?_)
      refine wo_frzC b73 ?_
      obtain ⟨al, hal⟩ : ∃ al : List CdV, al = gs ++ tqs ++ [⟨85, some ⟨b73, 0, none⟩, 1, [c.user]⟩] := ⟨_, rfl⟩
      have halc : cdsOf al = ckCards c := by rw [hal, cdsOf_app, cdsOf_app, hgs, hx68, ckHead, ckCards]; simp [cdsOf, CdV.cd]
      have hall : al.length = gs.length + tqs.length + 1 := by rw [hal]; simp; omega
      have hxx : gs.flatMap CdV.cells ++ tqs.flatMap CdV.cells ++ [vU 85, .slice (some ⟨b73, 0, none⟩) 1 1] = al.flatMap CdV.cells := by rw [hal]; simp [CdV.cells]
      have hPr := ref10_Print_sp (B := Row 109 2 (.slice a76 (gs.length + tqs.length + 1) c76) (gs.length + tqs.length + 1) (gs.flatMap CdV.cells ++ tqs.flatMap CdV.cells ++ [vU 85, .slice (some ⟨b73, 0, none⟩) 1 1])) (a := a76) (gs.length + tqs.length + 1) c76 al (by rw [← hxx]; exact sla_row) hall (by rw [halc]; omega)
      rw [halc] at hPr
      refine wo_ent' (ent_cdm_app (qs := gs) (rs := tqs) HasC.get HasC.get) ?_
      refine wo_ent' (ent_cdm_new (qs := gs ++ tqs) (a := some ⟨b73, 0, none⟩) (c := 1) 85 [c.user] [vS c.user] HasC.get HasC.get rfl (Nat.le_refl _)) ?_
      rw [← hal]
      refine r_call1 hPr rfl rfl rfl ?_
      refine Vv (k:=Wq (Zt (k:=?_)))
      exact fin_ret () (vs := [_]) (Cs := []) rfl (.tmp rfl .nil) rfl trivial ent_pick
     ·
      refine Za (k:=?_)
      have hjl : j = c.files.length := by omega
      subst hjl
      rw [List.take_length, hpcd] at hfs
      refine Zr (k:=Vf 4 27 (k:=Zd (k:=Vv (k:=Vv (k:=Wq (Zi (t:=fun h58 => ?_) (f:=fun h58 => ?_)))))))
      ·
       refine Zr (k:=Vv (k:=Vf 4 27 (k:=Zd (k:=Vx (Ps [_, _]) (k:=Zv [_] (cs := [_, _]) (k:=fun b63 => ?_))))))
       refine r_append1 (sz := 2) (bytes := 32) Tryz.underlying107 ti109 rfl rfl rfl rfl rfl rfl rfl (by rfl) (by rfl) (by omega) (by simp only [maxLen]; omega) rfl (fun a64 c64 => ?_)
       refine Vv (k:=Wn ?_)
       first
       | (have hp : c.parents ≠ [] := fun e => by rw [e] at h58; simp at h58
          have hql2 : (fs ++ [(⟨80, x.pa, x.pc, c.parents⟩ : CdV)]).length = fs.length + 1 := by simp
          refine to_inv ⟨((a64, c64), fs ++ [⟨80, x.pa, x.pc, c.parents⟩]), ?_⟩ trivial ⟨rfl, sl_eq hql2.symm, trivial⟩ ?_
          · dsimp only; rw [cds_snoc, hfs, ckHead, pCards, if_neg hp]; simp [CdV.cd]
          · dsimp only
            rw [hql2]
            refine (ent_cdm_snoc (qs := fs) (q := ⟨80, x.pa, x.pc, c.parents⟩) HasC.get HasC.get hpc).trans ?_
            exact ent_step (row_norm (by rfl) (by rw [fm_snoc]; rfl)) ent_pick)
       | (have hp : c.parents = [] := List.eq_nil_of_length_eq_zero (by omega)
          refine to_inv ⟨((fa, fc), fs), ?_⟩ trivial ⟨rfl, rfl, trivial⟩ ent_pick
          dsimp only; rw [hfs, ckHead, pCards, if_pos hp]; simp)
      ·
       refine Zk (k:=?_)
       first
       | (have hp : c.parents ≠ [] := fun e => by rw [e] at h58; simp at h58
          have hql2 : (fs ++ [(⟨80, x.pa, x.pc, c.parents⟩ : CdV)]).length = fs.length + 1 := by simp
          refine to_inv ⟨((a64, c64), fs ++ [⟨80, x.pa, x.pc, c.parents⟩]), ?_⟩ trivial ⟨rfl, sl_eq hql2.symm, trivial⟩ ?_
          · dsimp only; rw [cds_snoc, hfs, ckHead, pCards, if_neg hp]; simp [CdV.cd]
          · dsimp only
            rw [hql2]
            refine (ent_cdm_snoc (qs := fs) (q := ⟨80, x.pa, x.pc, c.parents⟩) HasC.get HasC.get hpc).trans ?_
            exact ent_step (row_norm (by rfl) (by rw [fm_snoc]; rfl)) ent_pick)
       | (have hp : c.parents = [] := List.eq_nil_of_length_eq_zero (by omega)
          refine to_inv ⟨((fa, fc), fs), ?_⟩ trivial ⟨rfl, rfl, trivial⟩ ent_pick
          dsimp only; rw [hfs, ckHead, pCards, if_pos hp]; simp)
 ·
  refine Za (k:=?_)
  refine wc_ent' (row_nil (e := 109) (sz := 2)) ?_
  refine Zr (k:=Vf 0 9 (k:=Zd (k:=Vv (k:=Wq (Zi (t:=fun h9 => ?_) (f:=fun h9 => ?_))))))
  ·
   refine Zr (k:=Vv (k:=Vf 0 9 (k:=Zd (k:=Zv [_] (cs := [_]) (k:=fun b13 => Vx (Ps [_, _]) (k:=Zv [_] (cs := [_, _]) (k:=fun b15 => ?_)))))))
   refine r_append1 (sz := 2) (bytes := 32) Tryz.underlying107 ti109 rfl rfl rfl rfl rfl rfl rfl (by rfl) (by rfl) (by omega) (by simp only [maxLen]; omega) rfl (fun a16 c16 => ?_)
   refine wo_frzC b13 ?_
   refine Vv (k:=Wn ?_)
   first
   | (have hb : c.base ≠ [] := h9
      refine to_inv ⟨((a16, c16), [⟨66, some ⟨b13, 0, none⟩, 1, [c.base]⟩]), by simp [cdsOf, CdV.cd, bCards, hb]⟩ trivial ⟨rfl, rfl, trivial⟩ ?_
      refine Ent.trans (ent_cdm_one (a := some ⟨b13, 0, none⟩) (c := 1) 66 [c.base] [vS c.base] HasC.get rfl (Nat.le_refl _)) ?_
      dsimp only [List.length_cons, List.length_nil]
      exact ent_step (row_norm (by rfl) (by rfl)) ent_pick)
   | (have hb : c.base = [] := Classical.not_not.1 h9
      refine to_inv ⟨((none, 0), []), by simp [cdsOf, bCards, hb]⟩ trivial ⟨rfl, rfl, trivial⟩ ?_
      refine Ent.trans ent_cdm_nil ?_
      dsimp only [List.length_nil]
      rw [show ([] : List CdV).flatMap CdV.cells = [] from rfl]
      exact ent_pick)
  ·
   refine Zk (k:=?_)
   first
   | (have hb : c.base ≠ [] := h9
      refine to_inv ⟨((a16, c16), [⟨66, some ⟨b13, 0, none⟩, 1, [c.base]⟩]), by simp [cdsOf, CdV.cd, bCards, hb]⟩ trivial ⟨rfl, rfl, trivial⟩ ?_
      refine Ent.trans (ent_cdm_one (a := some ⟨b13, 0, none⟩) (c := 1) 66 [c.base] [vS c.base] HasC.get rfl (Nat.le_refl _)) ?_
      dsimp only [List.length_cons, List.length_nil]
      exact ent_step (row_norm (by rfl) (by rfl)) ent_pick)
   | (have hb : c.base = [] := Classical.not_not.1 h9
      refine to_inv ⟨((none, 0), []), by simp [cdsOf, bCards, hb]⟩ trivial ⟨rfl, rfl, trivial⟩ ?_
      refine Ent.trans ent_cdm_nil ?_
      dsimp only [List.length_nil]
      rw [show ([] : List CdV).flatMap CdV.cells = [] from rfl]
      exact ent_pick)
end Go.Proofs.YtibccdcemcgkeaaGreat
end
section
namespace Go.Proofs.YtibccdcemcgkeaaGreat
structure CkY (N : Nat) (c : Ck) : Prop where
 base : c.base.length ≤ 1073741824
 comment : c.comment.length ≤ 1073741824
 user : c.user.length ≤ 1073741824
 fn : c.files.length ≤ N
 fz : ∀ f ∈ c.files, f.1.length ≤ 1073741824 ∧ f.2.length ≤ 1073741824
 pn : c.parents.length ≤ 1073741824
 pz : ∀ p ∈ c.parents, p.length ≤ 1073741824
 tags : TgZ c.tags
theorem CkY.step {N : Nat} {c c' : Ck} {x : Cd} (h : CkY N c) (hx : x.args.length ≤ 1073741824) (hz : ∀ a ∈ x.args, a.length ≤ 1073741824) (e : stepR c x = some c') : CkY (N + 1) c' := by
 obtain ⟨a1, a2, a3, a4, a5, a6, a7, a8⟩ := h
 have hd : ∀ i, (x.args.getD i []).length ≤ 1073741824 := fun i => by
  by_cases hi : i < x.args.length
  · exact hz _ (by simp [hi])
  · simp [hi]
 unfold stepR at e
 split at e
 · cases e; exact ⟨hd 0, a2, a3, by dsimp only; omega, a5, a6, a7, a8⟩
 split at e
 · cases u : unescB ((x.args.getD 0 []).drop 1) with
   | none => rw [u] at e; cases e
   | some t =>
     rw [u] at e; cases e
     have h1 := unescB_len u
     have h2 := hd 0
     rw [List.length_drop] at h1
     exact ⟨a1, by dsimp only; omega, a3, by dsimp only; omega, a5, a6, a7, a8⟩
 split at e
 · cases e; exact ⟨a1, a2, a3, by dsimp only; omega, a5, a6, a7, a8⟩
 split at e
 · cases e
   refine ⟨a1, a2, a3, by dsimp only; rw [List.length_append]; simp only [List.length_cons, List.length_nil]; omega, ?_, a6, a7, a8⟩
   intro f hf
   rcases List.mem_append.1 hf with hf | hf
   · exact a5 f hf
   · rw [List.mem_singleton.1 hf]; exact ⟨hd 0, Nat.zero_le _⟩
 split at e
 · cases e
   refine ⟨a1, a2, a3, by dsimp only; rw [List.length_append]; simp only [List.length_cons, List.length_nil]; omega, ?_, a6, a7, a8⟩
   intro f hf
   rcases List.mem_append.1 hf with hf | hf
   · exact a5 f hf
   · rw [List.mem_singleton.1 hf]; exact ⟨hd 0, hd 1⟩
 split at e
 · cases e; exact ⟨a1, a2, a3, by dsimp only; omega, a5, hx, hz, a8⟩
 split at e
 · cases e; exact ⟨a1, a2, a3, by omega, a5, a6, a7, a8⟩
 split at e
 · cases e; exact ⟨a1, a2, hd 0, by dsimp only; omega, a5, a6, a7, a8⟩
 · cases e
end Go.Proofs.YtibccdcemcgkeaaGreat
end
section
set_option maxRecDepth 100000
namespace Go.Proofs.YtibccdcemcgkeaaGreat
section
variable {r : Option Nat} {P : Program} {n : Nat} {ops : Array Oper} {A : List HP} {L : Loc} {Hs : List HP}
theorem an_ent {K : Loc → List HP → Prop} {o : Oper} {Gs : List HP} (hg : o.guard = none) (e : Ent Hs Gs) (k : AnOp r P n ops A o K L Gs) : AnOp r P n ops A o K L Hs := by
 obtain ⟨h, ⟨j, w, u, e1, _⟩ | ⟨g, X, val, φ, As, Rs, Bs, e2, t, k2⟩⟩ := k
 · rw [hg] at e1; cases e1
 · exact ⟨h, .inr ⟨g, X, val, φ, As, Rs, Bs, e.trans e2, t, k2⟩⟩
end
end Go.Proofs.YtibccdcemcgkeaaGreat
end
section
set_option maxRecDepth 100000
namespace Go.Proofs.YtibccdcemcgkeaaGreat
def putB (n : Bs) : List Bs → List Bs
 | [] => [n]
 | x :: r => if blt x n = true then x :: putB n r else if x = n then x :: r else n :: x :: r
theorem putB_at (n : Bs) : ∀ (l : List Bs) (j : Nat), j ≤ l.length → (∀ i, i < j → blt (l.getD i []) n = true) → (j < l.length → blt (l.getD j []) n = false) → putB n l = if j < l.length ∧ l.getD j [] = n then l else l.take j ++ [n] ++ l.drop j := by
 intro l
 induction l with
 | nil => intro j hj _ _; simp [putB]
 | cons x r ih =>
   intro j hj h1 h2
   cases j with
   | zero =>
     have h3 := h2 (by simp)
     simp only [List.getD_cons_zero] at h3
     simp only [putB, h3]
     by_cases e : x = n
     · simp [e]
     · simp [e]
   | succ j =>
     have h3 := h1 0 (by omega)
     simp only [List.getD_cons_zero] at h3
     have h4 := ih j (by simpa using hj) (fun i hi => by have := h1 (i + 1) (by omega); simpa using this) (fun h => by have := h2 (by simp; omega); simpa using this)
     simp only [putB, h3, if_true, h4, List.getD_cons_succ, List.length_cons, Nat.add_lt_add_iff_right]
     split <;> simp
theorem putB_mem (n : Bs) (l : List Bs) (x : Bs) : x ∈ putB n l ↔ x = n ∨ x ∈ l := by
 induction l with
 | nil => simp [putB]
 | cons y r ih =>
   simp only [putB]
   split
   · simp only [List.mem_cons, ih]
     constructor
     · rintro (h | h | h) <;> simp [h]
     · rintro (h | h | h) <;> simp [h]
   · split
     · rename_i _ e; subst e; simp
     · simp
theorem putB_sorted (n : Bs) {l : List Bs} (h : l.Pairwise (· < ·)) : (putB n l).Pairwise (· < ·) := by
 induction l with
 | nil => simp [putB]
 | cons y r ih =>
   rw [List.pairwise_cons] at h
   simp only [putB]
   split
   · rename_i hb
     rw [List.pairwise_cons]
     refine ⟨fun x hx => ?_, ih h.2⟩
     rcases (putB_mem n r x).1 hx with e | e
     · rw [e]; exact (blt_iff y n).1 hb
     · exact h.1 x e
   · split
     · exact List.pairwise_cons.2 h
     · rename_i hb hne
       have hlt : n < y := by
        have h1 : ¬ y < n := fun e => hb ((blt_iff y n).2 e)
        rcases Std.lt_trichotomy n y with e | e | e
        · exact e
        · exact absurd e.symm hne
        · exact absurd e h1
       rw [List.pairwise_cons, List.pairwise_cons]
       refine ⟨fun x hx => ?_, h.1, h.2⟩
       rcases List.mem_cons.1 hx with e | e
       · rw [e]; exact hlt
       · exact List.lt_trans hlt (h.1 x e)
theorem putB_len (n : Bs) (l : List Bs) : (putB n l).length ≤ l.length + 1 := by
 induction l with
 | nil => simp [putB]
 | cons y r ih =>
   simp only [putB]
   split
   · simp; omega
   · split <;> simp
theorem all_vS (l : List Bs) : (l.map vS).all oneCell = true := by simp [oneCell]
end Go.Proofs.YtibccdcemcgkeaaGreat
end
section
namespace Go.Proofs.YtibccdcemcgkeaaGreat
def putA (l ns : List Bs) : List Bs := ns.foldl (fun l n => putB n l) l
theorem putA_snoc (l ns : List Bs) (n : Bs) : putA l (ns ++ [n]) = putB n (putA l ns) := by simp [putA]
theorem putA_mem (ns : List Bs) : ∀ (l : List Bs) (x : Bs), x ∈ putA l ns ↔ x ∈ l ∨ x ∈ ns := by
 induction ns with
 | nil => intro l x; simp [putA]
 | cons n ns ih =>
   intro l x
   have h := ih (putB n l) x
   have e : putA l (n :: ns) = putA (putB n l) ns := rfl
   rw [e, h, putB_mem, List.mem_cons]
   constructor
   · rintro ((h | h) | h) <;> simp [h]
   · rintro (h | h | h) <;> simp [h]
theorem putA_sorted (ns : List Bs) : ∀ (l : List Bs), l.Pairwise (· < ·) → (putA l ns).Pairwise (· < ·) := by
 induction ns with
 | nil => intro l h; exact h
 | cons n ns ih => intro l h; exact ih _ (putB_sorted n h)
theorem putA_len (ns : List Bs) : ∀ (l : List Bs), (putA l ns).length ≤ l.length + ns.length := by
 induction ns with
 | nil => intro l; exact Nat.le_refl _
 | cons n ns ih =>
   intro l
   have h := ih (putB n l)
   have h2 := putB_len n l
   have e : putA l (n :: ns) = putA (putB n l) ns := rfl
   rw [e, List.length_cons]; omega
theorem dedS_mem (l : List Bs) (x : Bs) : x ∈ dedS l ↔ x ∈ l := by
 induction l using list_snoc_ind with
 | h0 => exact Iff.rfl
 | h1 l y ih =>
   rw [dedS_snoc]
   split
   · rename_i h
     rw [ih, List.mem_append, List.mem_singleton]
     refine ⟨.inl, fun h2 => h2.elim id fun e => ?_⟩
     exact ih.1 (by rw [e]; exact List.mem_of_getLast? h)
   · rw [List.mem_append, List.mem_append, ih]
theorem dedS_sorted (l : List Bs) (h : l.Pairwise (fun x y => x ≤ y)) : (dedS l).Pairwise (· < ·) := by
 induction l using list_snoc_ind with
 | h0 => exact List.Pairwise.nil
 | h1 l y ih =>
   rw [List.pairwise_append] at h
   obtain ⟨h1, _, h3⟩ := h
   have hl := ih h1
   rw [dedS_snoc]
   split
   · exact hl
   · rename_i hne
     rw [List.pairwise_append]
     refine ⟨hl, by simp, fun a ha b hb => ?_⟩
     rw [List.mem_singleton.1 hb]
     have hab : a ≤ y := h3 a ((dedS_mem l a).1 ha) y (by simp)
     rcases Std.lt_trichotomy a y with e | e | e
     · exact e
     · exfalso
       subst e
       -- a is the last: all before the last are less than it, and it is no greater than a
       rcases hg : (dedS l).getLast? with _ | z
       · rw [List.getLast?_eq_none_iff.1 hg] at ha; cases ha
       · have hz : z ∈ dedS l := List.mem_of_getLast? hg
         have hza : z ≤ a := h3 z ((dedS_mem l z).1 hz) a (by simp)
         by_cases ez : z = a
         · rw [ez] at hg; exact hne hg
         · obtain ⟨ys, hys⟩ : ∃ ys, dedS l = ys ++ [z] := List.getLast?_eq_some_iff.1 hg
           rw [hys] at ha hl
           rw [List.pairwise_append] at hl
           rcases List.mem_append.1 ha with h4 | h4
           · have := hl.2.2 a h4 z (by simp)
             exact absurd this (List.not_lt.2 hza)
           · exact ez (List.mem_singleton.1 h4).symm
     · exact absurd e (List.not_lt.2 hab)
theorem namesR_sorted (s : Bs) : (namesR s).Pairwise (· < ·) := (dedS_sorted _ (sortB_sorted _)).filter _
theorem namesR_mem (s x : Bs) : x ∈ namesR s ↔ x ∈ namesP s ∧ x ≠ [] := by
 rw [namesR, List.mem_filter, dedS_mem, (sortB_perm _).mem_iff]; simp
/-- Names of a check-in, in the document's order. -/
def nsK (c : Ck) : List Bs := (if c.base = [] then [] else [c.base]) ++ (c.files.map (·.2)).filter (· ≠ []) ++ c.parents
noncomputable def outK (s : Bs) : List Bs := match readK s with
 | some c => putA [] (nsK c)
 | none => []
noncomputable def outT (s : Bs) : List Bs := match readCt s with
 | some c => putA (outK s) (c.tags.map (·.target))
 | none => outK s
noncomputable def outC (s : Bs) : List Bs := match readCl s with
 | some l => l
 | none => outT s
theorem isN_ne {s : Bs} (h : isN s = true) : s ≠ [] := fun e => by have := isN_len h; rw [e] at this; cases this
theorem rise_pw {l : List Bs} (h : ∀ i, 0 < i → i < l.length → blt (l.getD (i - 1) []) (l.getD i []) = true) : l.Pairwise (· < ·) := by
 induction l using list_snoc_ind with
 | h0 => exact List.Pairwise.nil
 | h1 l y ih =>
   have ih' := ih (fun i h0 h1 => by
    have := h i h0 (by simp; omega)
    have e1 : ∀ k, k < l.length → (l ++ [y]).getD k [] = l.getD k [] := fun k hk => by simp [hk, List.getElem?_append]
    rw [e1 _ (by omega), e1 _ h1] at this
    exact this)
   rw [List.pairwise_append]
   refine ⟨ih', by simp, fun a ha b hb => ?_⟩
   rw [List.mem_singleton.1 hb]
   rcases hg : l.getLast? with _ | z
   · rw [List.getLast?_eq_none_iff.1 hg] at ha; cases ha
   · obtain ⟨ys, rfl⟩ := List.getLast?_eq_some_iff.1 hg
     have h2 := h (ys.length + 1) (by omega) (by simp)
     have e1 : (ys ++ [z] ++ [y]).getD (ys.length + 1 - 1) [] = z := by simp
     have e2 : (ys ++ [z] ++ [y]).getD (ys.length + 1) [] = y := by simp
     rw [e1, e2] at h2
     have hzy := (blt_iff z y).1 h2
     rcases List.mem_append.1 ha with h4 | h4
     · exact List.lt_trans ((List.pairwise_append.1 ih').2.2 a h4 z (by simp)) hzy
     · rw [List.mem_singleton.1 h4]; exact hzy
theorem only_ct {s : Bs} {c : Ct} (h : readCt s = some c) : readK s = none := the_none fun k hk => by
 have e := hk.reads.uniq (readCt_iff.1 h).reads
 have h1 : (⟨67, [46 :: escB k.comment]⟩ : Cd) ∈ ckCards k := by simp [ckCards]
 rw [e] at h1
 simp only [ctCards, List.mem_cons, List.mem_append, List.mem_map, List.mem_singleton] at h1
 rcases h1 with h1 | ⟨t, _, h1⟩ | h1 | h1
 · have := congrArg Cd.l h1; simp at this
 · have := congrArg Cd.l h1; simp [tgCard] at this
 · have := congrArg Cd.l h1; simp at this
 · cases h1
theorem only_cl {s : Bs} {l : List Bs} (h : readCl s = some l) : readK s = none ∧ readCt s = none := by
 constructor
 · refine the_none fun k hk => ?_
   have e := hk.reads.uniq (readCl_iff.1 h).reads
   have h1 : (⟨67, [46 :: escB k.comment]⟩ : Cd) ∈ ckCards k := by simp [ckCards]
   rw [e] at h1
   have := clCards_let l _ h1
   simp at this
 · refine the_none fun k hk => ?_
   have e := hk.reads.uniq (readCl_iff.1 h).reads
   have h1 : (⟨68, [decN k.date.toNat]⟩ : Cd) ∈ ctCards k := by simp [ctCards]
   rw [e] at h1
   have := clCards_let l _ h1
   simp at this
theorem right_parents {c : Ck} (h : RightK c) : ∀ p ∈ c.parents, isN p = true := fun p hp => by
 obtain ⟨i, hi, rfl⟩ := List.getElem_of_mem hp
 have := (h.parents.ok i hi).1
 simpa [hi] using this
theorem right_files {c : Ck} (h : RightK c) : ∀ f ∈ c.files, f.2 = [] ∨ isN f.2 = true := fun f hf => by
 obtain ⟨i, hi, rfl⟩ := List.getElem_of_mem hf
 have := (h.files.ok i hi).hash
 have e : c.files.getD i ([], []) = c.files[i] := by simp [hi]
 rw [e] at this
 rcases this with h | ⟨_, h⟩
 · exact .inr h
 · exact .inl h
theorem right_targets {c : Ct} (h : RightCt c) : ∀ t ∈ c.tags, isN t.target = true := fun t ht => by
 obtain ⟨i, hi, rfl⟩ := List.getElem_of_mem ht
 have := (h.tags.ok i hi).tgt.2 rfl
 have e : c.tags.getD i tg0 = c.tags[i] := by simp [hi]
 rwa [e] at this
theorem right_names {l : List Bs} (h : RightCl l) : ∀ n ∈ l, isN n = true := fun n hn => by
 obtain ⟨i, hi, rfl⟩ := List.getElem_of_mem hn
 have := (h.ok i hi).1
 simpa [hi] using this
theorem outC_names (s : Bs) : outC s = namesR s := by
 refine sorted_eq ?_ (namesR_sorted s) fun k => ?_
 · unfold outC
   split
   · rename_i l h
     exact rise_pw fun i h0 hi => ((readCl_iff.1 h).1.ok i hi).2 h0
   · unfold outT
     have hk : (outK s).Pairwise (· < ·) := by
      unfold outK
      split
      · exact putA_sorted _ _ .nil
      · exact .nil
     split
     · exact putA_sorted _ _ hk
     · exact hk
 · rw [namesR_mem]
   unfold outC
   cases hl : readCl s with
   | some l =>
     obtain ⟨h1, h2⟩ := only_cl hl
     simp only [namesP, h1, h2, hl, Option.getD_some]
     exact ⟨fun h => ⟨h, isN_ne (right_names (readCl_iff.1 hl).1 k h)⟩, fun h => h.1⟩
   | none =>
     dsimp only
     unfold outT
     cases ht : readCt s with
     | some c =>
       have h1 := only_ct ht
       simp only [namesP, h1, ht, outK]
       rw [putA_mem]
       constructor
       · rintro (h | h)
         · cases h
         · obtain ⟨t, h2, rfl⟩ := List.mem_map.1 h
           exact ⟨h, isN_ne (right_targets (readCt_iff.1 ht).1 t h2)⟩
       · exact fun h => .inr h.1
     | none =>
       dsimp only
       unfold outK
       cases hk : readK s with
       | none => simp [namesP, hk, ht, hl]
       | some c =>
         have hR := (readK_iff.1 hk).1
         simp only [namesP, hk]
         rw [putA_mem]
         simp only [nsK, List.mem_append, List.mem_cons, List.mem_filter, List.mem_map]
         constructor
         · rintro (h | (h | h) | h)
           · cases h
           · by_cases e : c.base = []
             · rw [if_pos e] at h; cases h
             · rw [if_neg e, List.mem_singleton] at h
               exact ⟨.inl (.inl h), by rw [h]; exact e⟩
           · exact ⟨.inr h.1, by simpa using h.2⟩
           · exact ⟨.inl (.inr h), isN_ne (right_parents hR k h)⟩
         · rintro ⟨(h | h) | h, hne⟩
           · refine .inr (.inl (.inl ?_))
             rw [if_neg (by rw [← h]; exact hne), h]; simp
           · exact .inr (.inr h)
           · exact .inr (.inl (.inr ⟨h, by simpa using hne⟩))
end Go.Proofs.YtibccdcemcgkeaaGreat
end
section
set_option maxRecDepth 100000
namespace Go.Proofs.YtibccdcemcgkeaaGreat
theorem isN_40 {s : Bs} (h : isN s = true) : s.length ≤ 40 := by rw [isN_len h]; omega
end Go.Proofs.YtibccdcemcgkeaaGreat
end
