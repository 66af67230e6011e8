/- Texts of this proof, put together: SArt, PLin. -/
import Derived.Test.YtibccdcemcgkeaaGreatQ27
set_option linter.unusedVariables false
set_option linter.unusedSimpArgs false
namespace Go.Proofs.YtibccdcemcgkeaaGreat
section
set_option maxRecDepth 100000
theorem zb18join21 {G : Prop} (h : G := by
    first
    | exact to_inv ⟨ckB c, .ck c hK⟩ trivial ⟨rfl, rfl, trivial⟩ ent_pick
    | exact to_inv ⟨ctB c, .ct c hK⟩ trivial ⟨rfl, rfl, trivial⟩ ent_pick
    | exact to_inv ⟨clB nl, .cl nl hlso hlnm (by omega) (by omega)⟩ trivial ⟨rfl, rfl, trivial⟩ ent_pick
    | exact to_inv ⟨contB n, .text n⟩ trivial ⟨rfl, rfl, trivial⟩ ent_pick) : G := h
theorem zb18next0 {G : Prop} (h : G := by
    first
    | (rw [if_neg h71] at hpb
       have hpl2 : (putB w2 nl).length = j + 1 + (nl.length - j) := by rw [hpb]; simp; omega
       refine to_inv ⟨((a83, c83), k + 1), by dsimp only; omega, by dsimp only; omega⟩ (by dsimp only; omega) ⟨rfl, rfl, (by dsimp only; rw [hns1, hpl2]; rfl), rfl, trivial⟩ ?_
       dsimp only
       rw [hns1, hpl2, hpb]
       exact ent_step (row_norm (by rfl) (by simp)) ent_pick)
    | (rw [if_pos (Classical.not_not.1 h71)] at hpb
       refine to_inv ⟨((la, lc), k + 1), by dsimp only; omega, by dsimp only; omega⟩ (by dsimp only; omega) ⟨rfl, rfl, (by dsimp only; rw [hns1, hpb]; rfl), rfl, trivial⟩ ?_
       dsimp only
       rw [hns1, hpb]
       exact ent_pick)) : G := h
theorem zb18joinif71 {G : Prop} (h : G := by
    exact to_inv () trivial ⟨rfl, rfl, rfl, rfl, rfl, rfl, (by
     show some (Value.bool _) = some (Value.bool _)
     congr 2
     rcases Nat.lt_or_ge j nl.length with e | e
     · first | (simp [e]; done) | (exfalso; omega)
     · first | (simp [Nat.not_lt.2 e]; done) | (exfalso; omega)), trivial⟩ ent_pick) : G := h
theorem zb18join17 {G : Prop} (h : G := by exact to_inv ⟨j, hj, hok, fun h => by first | exact h57 | omega⟩ trivial ⟨rfl, rfl, rfl, rfl, rfl, rfl, trivial⟩ ent_pick) : G := h
theorem zb18join19 {G : Prop} (h : G := by
    refine to_inv ⟨((la, lc), k), by dsimp only; omega⟩ trivial ⟨rfl, rfl, (by dsimp only; rw [hl]; rfl), trivial⟩ ?_
    dsimp only
    rw [hl]
    exact ent_pick) : G := h
theorem zb18joinif140 {G : Prop} (h : G := by exact to_inv () trivial ⟨rfl, rfl, rfl, (by first | (show some (Value.bool _) = some (Value.bool _); simp [h14]) | rfl), trivial⟩ ent_pick) : G := h
set_option maxHeartbeats 4000000 in
theorem keep_Art_sp (q : KaV) (z : q.Z) : Sp Tryz.prog 18 [.agg q.cells.toArray] q.hs (X := Bs) (fun s => vS s) (fun s => ArtK s ∧ s.length ≤ 300) (fun _ => q.hs) := by
 obtain ⟨kd, n, base, d, u, tb, ⟨xa, xc, xs⟩, ⟨fa, fc, fs⟩, ⟨pa, pc, ps⟩, ⟨ta, tc, ts⟩, ⟨va, vc, vs⟩, d2, u2, ⟨t2a, t2c, t2s⟩, ⟨v2a, v2c, v2s⟩, ⟨na, nc, ns⟩⟩ := q
 obtain ⟨z1, z2, z3, z4, z5, z6, z7, z8⟩ := z
 dsimp only [KaV.cells, KaV.hs] at z1 z2 z3 z4 z5 z6 z7 z8 ⊢
 have hCk := keep_Checkin_sp base d u tb xc fc pc tc vc xs fs ps ts vs z1 z2 z3 z4 z5 (Bx := SlI xa (xs.map vI)) (Bf := SlI fa (fs.map vI)) (Bp := SlI pa (ps.map vI)) (Bt := SlI ta (ts.map vI)) (Bv := SlI va (vs.map vI)) sla_sli sla_sli sla_sli sla_sli sla_sli
 have hCt := keep_Control_sp d2 u2 t2c v2c t2s v2s z6 z7 (Bt := SlI t2a (t2s.map vI)) (Bv := SlI v2a (v2s.map vI)) sla_sli sla_sli
 have hw := withinI_in (n := kd) (show (0 : Int) ≤ 4 by omega)
 refine Sp.body (n := 96) Tryz.call18 Tryz.func18 rfl rfl rfl ?_
 refine Qc (k:=Zx [_, _, _, _, _, _, _, _, _, _, _, _, _, _, _, _] (k:=fun b1 => Vv (k:=Wq (Qc (k:=Qx 1 3 (k:=?_))))))
 refine r_callF (keep_Content_sp n) rfl rfl rfl ?_
 refine Vv (k:=Wq ?_)
 refine p_cut (fun (i : { s : Bs // ArtK s }) => [(1, .pointer (some ⟨b1, 0, none⟩)), (3, vS i.1)]) (fun (i : { s : Bs // ArtK s }) => [Ce b1 45 [vI kd, vI n, vI base, vI d, vI u, vI tb, .slice xa xs.length xc, .slice fa fs.length fc, .slice pa ps.length pc, .slice ta ts.length tc, .slice va vs.length vc, vI d2, vI u2, .slice t2a t2s.length t2c, .slice v2a v2s.length v2c, .slice na ns.length nc], SlI xa (xs.map vI), SlI fa (fs.map vI), SlI pa (ps.map vI), SlI ta (ts.map vI), SlI va (vs.map vI), SlI t2a (t2s.map vI), SlI v2a (v2s.map vI), SlI na (ns.map vI)]) rfl (fun i => ?_) ?_
 ·
  obtain ⟨s, hs⟩ := i
  have hsm := hs.small
  dsimp only
  try dsimp only
  refine Za (k:=Qc (k:=Qv (k:=Vv (k:=Wq (Zi (t:=fun h91 => ?_) (f:=fun h91 => ?_))))))
  ·
   refine Qc (k:=Qx 1 3 (k:=?_))
   refine r_callF (keep_Content_sp n) rfl rfl rfl ?_
   refine Vv (k:=Wq (Zt (k:=Va ?_)))
   exact fin_ret (contB n) (vs := [_]) (Cs := []) rfl (.tmp rfl .nil) rfl ⟨.text n, contB_len n⟩ ent_pick
  ·
   refine Zk (k:=Ya (Qc (k:=Qv (k:=Wq (Zt (k:=?_))))))
   exact fin_ret s (vs := [_]) (Cs := []) rfl (.tmp rfl .nil) rfl ⟨hs, by omega⟩ ent_pick
 ·
  refine Qc (k:=Qx 0 3 (k:=?_))
  refine r_callF (book_Within_sp kd 0 4 (by omega) (by omega) (by omega)) rfl rfl rfl ?_
  generalize withinI kd 0 4 = w at hw ⊢
  refine Wq (Zb (k:=?_))
  refine p_cut (fun (i : Unit) => [(1, .pointer (some ⟨b1, 0, none⟩)), (3, vS (contB n)), (13, vI w), (14, .bool (decide (w = 0 ∨ w = 1)))]) (fun (i : Unit) => [Ce b1 45 [vI kd, vI n, vI base, vI d, vI u, vI tb, .slice xa xs.length xc, .slice fa fs.length fc, .slice pa ps.length pc, .slice ta ts.length tc, .slice va vs.length vc, vI d2, vI u2, .slice t2a t2s.length t2c, .slice v2a v2s.length v2c, .slice na ns.length nc], SlI xa (xs.map vI), SlI fa (fs.map vI), SlI pa (ps.map vI), SlI ta (ts.map vI), SlI va (vs.map vI), SlI t2a (t2s.map vI), SlI v2a (v2s.map vI), SlI na (ns.map vI)]) rfl (fun i => ?_) ?_
  ·
   try dsimp only
   refine Zi (t:=fun h14 => ?_) (f:=fun h14 => ?_)
   ·
    refine Zr (k:=Vf 2 41 (k:=Zm [_, _, _, _, _, _, _, _, _] (k:=?_)))
    refine r_callX hCk rfl rfl rfl (fun x19 hx19 => ?_)
    obtain ⟨ka, c⟩ := x19
    obtain ⟨hK, hpc⟩ := hx19
    dsimp only [ckH] at hK hpc ⊢
    change wo _ _ _ _ _ ((19, .agg #[vS c.base, vS c.comment, vI c.date, .slice ka.fa c.files.length ka.fc, .slice ka.pa c.parents.length ka.pc, .slice ka.ta c.tags.length ka.tc, vS c.user]) :: _) _ _
    have hsm := ck_small hK.right
    have hdt := hK.right.date
    refine r_call1 (ref10_Checkin_sp (Bf := Row 25 2 (.slice ka.fa c.files.length ka.fc) c.files.length (c.files.flatMap flCells)) (Bt := Row 66 4 (.slice ka.ta c.tags.length ka.tc) c.tags.length (c.tags.flatMap tgCells)) ka c hK.z hdt (by omega) sla_row sla_row hpc) rfl rfl rfl ?_
    refine Vv (k:=Wn (Yb ?_))
    exact zb18join21
   ·
    refine Qc (k:=Qv (k:=Wq (Zi (t:=fun h21 => ?_) (f:=fun h21 => ?_))))
    ·
     refine Zr (k:=Vf 11 43 (k:=Zm [_, _, _, _] (k:=?_)))
     refine r_callX hCt rfl rfl rfl (fun x25 hx25 => ?_)
     obtain ⟨⟨ka, kc⟩, c⟩ := x25
     have hK : KCt c := hx25
     clear hx25
     dsimp only [ctH] at ⊢
     change wo _ _ _ _ _ ((25, .agg #[vI c.date, .slice ka c.tags.length kc, vS c.user]) :: _) _ _
     have hsm := ct_small hK.right
     have hdt := hK.right.date
     refine r_call1 (ref10_Control_sp (Bt := Row 66 4 (.slice ka c.tags.length kc) c.tags.length (c.tags.flatMap tgCells)) ka kc c hK.z hdt (by omega) sla_row) rfl rfl rfl ?_
     refine Vv (k:=Wn (Yb ?_))
     exact zb18join21
    ·
     refine Qc (k:=Qv (k:=Wq (Zi (t:=fun h27 => ?_) (f:=fun h27 => ?_))))
     ·
      refine Qc (k:=Vv (k:=Wq ?_))
      refine p_cut (fun (i : { x : (Option Addr × Nat) × Nat // x.2 ≤ 4 }) => [(1, .pointer (some ⟨b1, 0, none⟩)), (3, vS (contB n)), (4, .slice i.1.1.1 (nmsOf ns i.1.2).length i.1.1.2)]) (fun (i : { x : (Option Addr × Nat) × Nat // x.2 ≤ 4 }) => [Row 9 1 (.slice i.1.1.1 (nmsOf ns i.1.2).length i.1.1.2) (nmsOf ns i.1.2).length ((nmsOf ns i.1.2).map vS), Ce b1 45 [vI kd, vI n, vI base, vI d, vI u, vI tb, .slice xa xs.length xc, .slice fa fs.length fc, .slice pa ps.length pc, .slice ta ts.length tc, .slice va vs.length vc, vI d2, vI u2, .slice t2a t2s.length t2c, .slice v2a v2s.length v2c, .slice na ns.length nc], SlI xa (xs.map vI), SlI fa (fs.map vI), SlI pa (ps.map vI), SlI ta (ts.map vI), SlI va (vs.map vI), SlI t2a (t2s.map vI), SlI v2a (v2s.map vI), SlI na (ns.map vI)]) rfl (fun i => ?_) ?_
      ·
       obtain ⟨⟨⟨la, lc⟩, k⟩, hk5⟩ := i
       have hll := nmsOf_len ns k
       have hlso := nmsOf_sorted ns k
       have hlnm := nmsOf_name ns k
       dsimp only at hk5 ⊢
       generalize hl : nmsOf ns k = nl at hll hlso hlnm ⊢
       try dsimp only
       refine Qc (k:=Qv (k:=Vv (k:=Wq (Zi (t:=fun h86 => ?_) (f:=fun h86 => ?_)))))
       ·
        have hR2 : RightCl nl := sorted_right hlso (fun x hx => by obtain ⟨n, rfl⟩ := hlnm x hx; exact isN_name n) (by omega) (by omega)
        have hsm2 := cl_small hR2
        refine Zr (k:=Vv (k:=?_))
        refine r_call1 (ref10_Cluster_sp (B := Row 9 1 (.slice la nl.length lc) nl.length (nl.map vS)) nl.length lc nl sla_row rfl (by omega)) rfl rfl rfl ?_
        refine Vv (k:=Wn (Yb ?_))
        exact zb18join21
       ·
        refine Zk (k:=Yb ?_)
        exact zb18join21
      ·
       refine Qc (k:=Vv (k:=Wq (Zb (k:=?_))))
       refine p_loop (fun (i : { x : (Option Addr × Nat) × Nat // x.2 ≤ ns.length ∧ x.2 ≤ 4 }) => [(1, .pointer (some ⟨b1, 0, none⟩)), (3, vS (contB n)), (4, .slice i.1.1.1 (nmsOf ns i.1.2).length i.1.1.2), (5, vI i.1.2)]) (fun (i : { x : (Option Addr × Nat) × Nat // x.2 ≤ ns.length ∧ x.2 ≤ 4 }) => [Row 9 1 (.slice i.1.1.1 (nmsOf ns i.1.2).length i.1.1.2) (nmsOf ns i.1.2).length ((nmsOf ns i.1.2).map vS), Ce b1 45 [vI kd, vI n, vI base, vI d, vI u, vI tb, .slice xa xs.length xc, .slice fa fs.length fc, .slice pa ps.length pc, .slice ta ts.length tc, .slice va vs.length vc, vI d2, vI u2, .slice t2a t2s.length t2c, .slice v2a v2s.length v2c, .slice na ns.length nc], SlI xa (xs.map vI), SlI fa (fs.map vI), SlI pa (ps.map vI), SlI ta (ts.map vI), SlI va (vs.map vI), SlI t2a (t2s.map vI), SlI v2a (v2s.map vI), SlI na (ns.map vI)]) (fun (i : { x : (Option Addr × Nat) × Nat // x.2 ≤ ns.length ∧ x.2 ≤ 4 }) => 4 - i.1.2) rfl (⟨((none, 0), 0), Nat.zero_le _, Nat.zero_le _⟩) ?_ ?_ (fun i => ?_)
       · exact ⟨rfl, rfl, rfl, rfl, trivial⟩
       ·
        simp only [nmsOf_zero, List.length_nil, List.map_nil]
        exact (row_nil (e := 9) (sz := 1)).trans ent_pick
       obtain ⟨⟨⟨la, lc⟩, k⟩, hk, hk5⟩ := i
       have hll := nmsOf_len ns k
       have hlso := nmsOf_sorted ns k
       have hlnm := nmsOf_name ns k
       dsimp only at hk hk5 ⊢
       generalize hl : nmsOf ns k = nl at hll hlso hlnm ⊢
       try dsimp only
       refine Za (k:=Qc (k:=Vv (k:=Qx 15 37 (k:=Qv (k:=Vv (k:=Gi 5 (t:=fun h34 => ?_) (f:=fun h34 => ?_)))))))
       ·
        refine J1 (k:=J1 (k:=P1 (k:=Wq (Zi (t:=fun h37 => ?_) (f:=fun h37 => ?_)))))
        ·
         refine Zk (k:=Ya (Za (k:=Zb (k:=Za (k:=?_)))))
         have hkl2 : k < ns.length := by omega
         have hns1 := nmsOf_succ ns hkl2
         rw [hl] at hns1
         refine Zr (k:=Qx 15 37 (k:=Vv (k:=?_)))
         refine r_elemAddr (m := k) (sz := 1) Tryz.underlying37 ti3 rfl rfl rfl rfl (by omega) (by rw [List.length_map]; omega) (Nat.mul_one _) rfl ?_
         refine Ym (k:=?_)
         refine r_callF (keep_Name_sp _) rfl rfl rfl ?_
         generalize nameB ns[k] = w2 at hns1 ⊢
         refine Vv (k:=Wq (Qc (k:=Vv (k:=Wq ?_))))
         refine p_cut (fun (i : { j : Nat // j ≤ nl.length ∧ (∀ i, i < j → blt (nl.getD i []) w2 = true) ∧ (j < nl.length → blt (nl.getD j []) w2 = false) }) => [(1, .pointer (some ⟨b1, 0, none⟩)), (3, vS (contB n)), (4, .slice la nl.length lc), (5, vI k), (6, vS w2), (7, vI i.1)]) (fun (i : { j : Nat // j ≤ nl.length ∧ (∀ i, i < j → blt (nl.getD i []) w2 = true) ∧ (j < nl.length → blt (nl.getD j []) w2 = false) }) => [Row 9 1 (.slice la nl.length lc) nl.length (nl.map vS), Ce b1 45 [vI kd, vI n, vI base, vI d, vI u, vI tb, .slice xa xs.length xc, .slice fa fs.length fc, .slice pa ps.length pc, .slice ta ts.length tc, .slice va vs.length vc, vI d2, vI u2, .slice t2a t2s.length t2c, .slice v2a v2s.length v2c, .slice na ns.length nc], SlI xa (xs.map vI), SlI fa (fs.map vI), SlI pa (ps.map vI), SlI ta (ts.map vI), SlI va (vs.map vI), SlI t2a (t2s.map vI), SlI v2a (v2s.map vI), SlI na (ns.map vI)]) rfl (fun i => ?_) ?_
         ·
          obtain ⟨j, hj, hok, hno⟩ := i
          have hpb := putB_at w2 nl j hj hok hno
          have htl : (nl.take j).length = j := by rw [List.length_take]; omega
          have hdl : (nl.drop j).length = nl.length - j := List.length_drop
          dsimp only
          refine wc_know (A := Row 9 1 (.slice la nl.length lc) nl.length (nl.map vS)) HasC.get row_know (fun hkn => ?_)
          try dsimp only
          refine p_cut (fun (i : Unit) => [(1, .pointer (some ⟨b1, 0, none⟩)), (3, vS (contB n)), (4, .slice la nl.length lc), (5, vI k), (6, vS w2), (7, vI j), (71, .bool (decide (¬ (j < nl.length ∧ nl.getD j [] = w2))))]) (fun (i : Unit) => [Row 9 1 (.slice la nl.length lc) nl.length (nl.map vS), Ce b1 45 [vI kd, vI n, vI base, vI d, vI u, vI tb, .slice xa xs.length xc, .slice fa fs.length fc, .slice pa ps.length pc, .slice ta ts.length tc, .slice va vs.length vc, vI d2, vI u2, .slice t2a t2s.length t2c, .slice v2a v2s.length v2c, .slice na ns.length nc], SlI xa (xs.map vI), SlI fa (fs.map vI), SlI pa (ps.map vI), SlI ta (ts.map vI), SlI va (vs.map vI), SlI t2a (t2s.map vI), SlI v2a (v2s.map vI), SlI na (ns.map vI)]) rfl (fun i => ?_) ?_
          ·
           try dsimp only
           refine Zi (t:=fun h71 => ?_) (f:=fun h71 => ?_)
           ·
            refine Dw [] (k:=?_)
            refine Dv 1 (k:=Dv 2 (k:=?_))
            refine d_first 3 rfl rfl rfl (by kernel_rfl) (by kernel_rfl) (tl_pv (pv_slslice_tom (m := j) Tryz.underlying27 ti9 rfl rfl rfl (by omega))) ?_
            refine Dv 5 (k:=Dv 8 (k:=Dv 9 (k:=?_)))
            refine d_first 10 rfl rfl rfl (by kernel_rfl) (by kernel_rfl) (tl_pv (pv_slslice_froma (m := j) (kk := j) Tryz.underlying27 ti9 rfl rfl rfl rfl (Nat.mul_one _) (by omega) hkn.1 hkn.2.2)) ?_
            refine d_next2 0 6 (by kernel_rfl) rfl rfl ?_ ?_
            ·
             refine Nl [] (cs := []) (k:=fun b72 => ?_)
             refine d_next2 4 6 (by kernel_rfl) rfl rfl ?_ ?_
             ·
              refine an_ent rfl (ent_row (k := 0) (cap := 0) (sz := 1) (e := 9) (g := b72) (xs := []) (cur := []) (Nat.le_refl _) (by simp [maxLen]) rfl rfl rfl) ?_
              refine an_opT (opt_appendA (sz := 1) (bytes := 16) Tryz.underlying27 ti9 rfl rfl rfl rfl rfl rfl rfl (sla_take (sla_row (e := 9) (sz := 1) (k := nl.length) (n := nl.length) (c := lc) (a := la) (xs := nl.map vS)) j) (by rw [← List.map_take, List.length_map, htl, Nat.mul_one]) (by rw [← List.map_take]; exact all_vS _) (by omega) (by simp only [maxLen]; omega) (k := 0) (xs := [])) rfl (fun x76 ⟨a76, c76, h76⟩ => ?_)
              subst h76
              rw [Nat.zero_add, List.nil_append, ← List.map_take]
              refine Dn 6 (k:=Nl [_] (cs := [_]) (k:=fun b78 => Dn 7 (k:=?_)))
              refine an_append1 (sz := 1) (bytes := 16) Tryz.underlying27 ti9 rfl rfl rfl rfl rfl rfl rfl (by rfl) (by rfl) (by omega) (by simp only [maxLen]; omega) rfl (fun a79 c79 => ?_)
              refine Dn 11 (k:=?_)
              refine an_opT (opt_appendA (sz := 1) (bytes := 16) Tryz.underlying27 ti9 rfl rfl rfl rfl rfl rfl rfl (sla_from (e := 9) (sz := 1) (a := la) (n' := nl.length) (c' := lc) (m := j) (kk := j) (k := nl.length) (xs := nl.map vS) (Nat.mul_one _) hj) (by rw [← List.map_drop, List.length_map, hdl, Nat.mul_one]) (by rw [← List.map_drop]; exact all_vS _) (by omega) (by simp only [maxLen]; omega) (k := j + 1) (xs := (nl.take j).map vS ++ [vS w2])) rfl (fun x83 ⟨a83, c83, h83⟩ => ?_)
              subst h83
              rw [← List.map_drop]
              refine Dv 12 (k:=Dd (k:=Yb (Ya (Zr (k:=Qv (k:=Vv (k:=Wn ?_)))))))
              exact zb18next0
             ·
              refine Nl [_] (cs := [_]) (k:=fun b78 => Dn 4 (k:=?_))
              refine an_ent rfl (ent_row (k := 0) (cap := 0) (sz := 1) (e := 9) (g := b72) (xs := []) (cur := []) (Nat.le_refl _) (by simp [maxLen]) rfl rfl rfl) ?_
              refine an_opT (opt_appendA (sz := 1) (bytes := 16) Tryz.underlying27 ti9 rfl rfl rfl rfl rfl rfl rfl (sla_take (sla_row (e := 9) (sz := 1) (k := nl.length) (n := nl.length) (c := lc) (a := la) (xs := nl.map vS)) j) (by rw [← List.map_take, List.length_map, htl, Nat.mul_one]) (by rw [← List.map_take]; exact all_vS _) (by omega) (by simp only [maxLen]; omega) (k := 0) (xs := [])) rfl (fun x76 ⟨a76, c76, h76⟩ => ?_)
              subst h76
              rw [Nat.zero_add, List.nil_append, ← List.map_take]
              refine Dn 7 (k:=?_)
              refine an_append1 (sz := 1) (bytes := 16) Tryz.underlying27 ti9 rfl rfl rfl rfl rfl rfl rfl (by rfl) (by rfl) (by omega) (by simp only [maxLen]; omega) rfl (fun a79 c79 => ?_)
              refine Dn 11 (k:=?_)
              refine an_opT (opt_appendA (sz := 1) (bytes := 16) Tryz.underlying27 ti9 rfl rfl rfl rfl rfl rfl rfl (sla_from (e := 9) (sz := 1) (a := la) (n' := nl.length) (c' := lc) (m := j) (kk := j) (k := nl.length) (xs := nl.map vS) (Nat.mul_one _) hj) (by rw [← List.map_drop, List.length_map, hdl, Nat.mul_one]) (by rw [← List.map_drop]; exact all_vS _) (by omega) (by simp only [maxLen]; omega) (k := j + 1) (xs := (nl.take j).map vS ++ [vS w2])) rfl (fun x83 ⟨a83, c83, h83⟩ => ?_)
              subst h83
              rw [← List.map_drop]
              refine Dv 12 (k:=Dd (k:=Yb (Ya (Zr (k:=Qv (k:=Vv (k:=Wn ?_)))))))
              exact zb18next0
            ·
             refine Nl [_] (cs := [_]) (k:=fun b78 => Dn 0 (k:=Nl [] (cs := []) (k:=fun b72 => Dn 4 (k:=?_))))
             refine an_ent rfl (ent_row (k := 0) (cap := 0) (sz := 1) (e := 9) (g := b72) (xs := []) (cur := []) (Nat.le_refl _) (by simp [maxLen]) rfl rfl rfl) ?_
             refine an_opT (opt_appendA (sz := 1) (bytes := 16) Tryz.underlying27 ti9 rfl rfl rfl rfl rfl rfl rfl (sla_take (sla_row (e := 9) (sz := 1) (k := nl.length) (n := nl.length) (c := lc) (a := la) (xs := nl.map vS)) j) (by rw [← List.map_take, List.length_map, htl, Nat.mul_one]) (by rw [← List.map_take]; exact all_vS _) (by omega) (by simp only [maxLen]; omega) (k := 0) (xs := [])) rfl (fun x76 ⟨a76, c76, h76⟩ => ?_)
             subst h76
             rw [Nat.zero_add, List.nil_append, ← List.map_take]
             refine Dn 7 (k:=?_)
             refine an_append1 (sz := 1) (bytes := 16) Tryz.underlying27 ti9 rfl rfl rfl rfl rfl rfl rfl (by rfl) (by rfl) (by omega) (by simp only [maxLen]; omega) rfl (fun a79 c79 => ?_)
             refine Dn 11 (k:=?_)
             refine an_opT (opt_appendA (sz := 1) (bytes := 16) Tryz.underlying27 ti9 rfl rfl rfl rfl rfl rfl rfl (sla_from (e := 9) (sz := 1) (a := la) (n' := nl.length) (c' := lc) (m := j) (kk := j) (k := nl.length) (xs := nl.map vS) (Nat.mul_one _) hj) (by rw [← List.map_drop, List.length_map, hdl, Nat.mul_one]) (by rw [← List.map_drop]; exact all_vS _) (by omega) (by simp only [maxLen]; omega) (k := j + 1) (xs := (nl.take j).map vS ++ [vS w2])) rfl (fun x83 ⟨a83, c83, h83⟩ => ?_)
             subst h83
             rw [← List.map_drop]
             refine Dv 12 (k:=Dd (k:=Yb (Ya (Zr (k:=Qv (k:=Vv (k:=Wn ?_)))))))
             exact zb18next0
           ·
            refine Zk (k:=Yb (Ya (Zr (k:=Qv (k:=Vv (k:=Wn ?_))))))
            exact zb18next0
          ·
           refine Zr (k:=Qv (k:=Qv (k:=Vv (k:=Gi 4 (t:=fun h64 => ?_) (f:=fun h64 => ?_)))))
           ·
            refine O1 (k:=O1 (k:=O1 (k:=O1 (k:=O1 (k:=O1 (k:=P1 (k:=Wn ?_)))))))
            exact zb18joinif71
           ·
            refine J0 (k:=J0 (k:=I0 (k:=Ye 1 (k:=I0 (k:=Yl (hv:=by exact get_mapD [] (m := j) (by omega)) (k:=J0 (k:=J0 (k:=?_))))))))
            refine P0 (k:=Wn ?_)
            exact zb18joinif71
         ·
          refine Zb (k:=?_)
          refine p_loop (fun (i : { j : Nat // j ≤ nl.length ∧ ∀ i, i < j → blt (nl.getD i []) w2 = true }) => [(1, .pointer (some ⟨b1, 0, none⟩)), (3, vS (contB n)), (4, .slice la nl.length lc), (5, vI k), (6, vS w2), (7, vI i.1)]) (fun (i : { j : Nat // j ≤ nl.length ∧ ∀ i, i < j → blt (nl.getD i []) w2 = true }) => [Row 9 1 (.slice la nl.length lc) nl.length (nl.map vS), Ce b1 45 [vI kd, vI n, vI base, vI d, vI u, vI tb, .slice xa xs.length xc, .slice fa fs.length fc, .slice pa ps.length pc, .slice ta ts.length tc, .slice va vs.length vc, vI d2, vI u2, .slice t2a t2s.length t2c, .slice v2a v2s.length v2c, .slice na ns.length nc], SlI xa (xs.map vI), SlI fa (fs.map vI), SlI pa (ps.map vI), SlI ta (ts.map vI), SlI va (vs.map vI), SlI t2a (t2s.map vI), SlI v2a (v2s.map vI), SlI na (ns.map vI)]) (fun (i : { j : Nat // j ≤ nl.length ∧ ∀ i, i < j → blt (nl.getD i []) w2 = true }) => nl.length - i.1) rfl (⟨0, Nat.zero_le _, fun i h => by omega⟩) ?_ ?_ (fun i => ?_)
          · exact ⟨rfl, rfl, rfl, rfl, rfl, rfl, trivial⟩
          ·
           exact ent_pick
          obtain ⟨j, hj, hok⟩ := i
          dsimp only
          try dsimp only
          refine Za (k:=Qc (k:=Qv (k:=Qv (k:=Vv (k:=Gi 4 (t:=fun h50 => ?_) (f:=fun h50 => ?_))))))
          ·
           refine J1 (k:=J1 (k:=I1 (k:=Ye 1 (k:=I1 (k:=Yl (hv:=by exact get_mapD [] (m := j) (by omega)) (k:=J1 (k:=J1 (k:=?_))))))))
           refine P1 (k:=Wq (Zi (t:=fun h57 => ?_) (f:=fun h57 => ?_)))
           ·
            refine Zk (k:=Ya (Zb (k:=Zr (k:=Qv (k:=Vv (k:=Wn (Yb ?_)))))))
            refine to_inv ⟨j + 1, by omega, fun i hi => ?_⟩ (by dsimp only; omega) ⟨rfl, rfl, rfl, rfl, rfl, rfl, trivial⟩ ent_pick
            by_cases e : i = j
            · rw [e]; exact h57
            · exact hok i (by omega)
           ·
            refine Ze (k:=Xa (Xi (Xb ?_)))
            exact zb18join17
          ·
           refine O0 (k:=O0 (k:=O0 (k:=O0 (k:=O0 (k:=O0 (k:=P0 (k:=Wq (Z0 (k:=Ze (k:=Xa (Xi ?_)))))))))))
           refine Xb ?_
           exact zb18join17
        ·
         refine Ze (k:=Xa (Xi (Xb ?_)))
         exact zb18join19
       ·
        refine O0 (k:=O0 (k:=P0 (k:=Wq (Z0 (k:=Ze (k:=Xa (Xi (Xb ?_))))))))
        exact zb18join19
     ·
      refine Zk (k:=Yb ?_)
      exact zb18join21
  ·
   refine Qc (k:=Qv (k:=Wq (Zi (t:=fun h14 => ?_) (f:=fun h14 => ?_))))
   ·
    refine Zk (k:=?_)
    exact zb18joinif140
   ·
    refine Zr (k:=Qv (k:=Wn ?_))
    exact zb18joinif140
end
theorem fl_take {α : Type} {f : α → List Value} {sz : Nat} (hf : ∀ x, (f x).length = sz) : ∀ (l : List α) (m : Nat), (l.flatMap f).take (m * sz) = (l.take m).flatMap f := by
 intro l
 induction l with
 | nil => intro m; simp
 | cons q l ih =>
   intro m
   cases m with
   | zero => simp
   | succ m =>
     have e : (m + 1) * sz = (f q).length + m * sz := by rw [hf, Nat.add_mul]; omega
     rw [List.flatMap_cons, List.take_succ_cons, List.flatMap_cons, e, List.take_length_add_append, ih]
theorem fl_drop {α : Type} {f : α → List Value} {sz : Nat} (hf : ∀ x, (f x).length = sz) : ∀ (l : List α) (m : Nat), (l.flatMap f).drop (m * sz) = (l.drop m).flatMap f := by
 intro l
 induction l with
 | nil => intro m; simp
 | cons q l ih =>
   intro m
   cases m with
   | zero => simp
   | succ m =>
     have e : (m + 1) * sz = (f q).length + m * sz := by rw [hf, Nat.add_mul]; omega
     rw [List.flatMap_cons, List.drop_succ_cons, e, List.drop_length_add_append, ih]
theorem fl_set {α : Type} {f : α → List Value} {sz o : Nat} (hf : ∀ x, (f x).length = sz) (ho : o < sz) {v : Value} {x' : α} : ∀ (l : List α) (m : Nat) (h : m < l.length), f x' = (f l[m]).set o v → (l.flatMap f).set (m * sz + o) v = (l.set m x').flatMap f := by
 intro l
 induction l with
 | nil => intro m h; simp at h
 | cons q l ih =>
   intro m h hx
   cases m with
   | zero =>
     simp only [List.getElem_cons_zero] at hx
     rw [Nat.zero_mul, Nat.zero_add, List.flatMap_cons, List.set_cons_zero, List.flatMap_cons, hx, List.set_append_left _ _ (by rw [hf]; exact ho)]
   | succ m =>
     simp only [List.getElem_cons_succ] at hx
     have e : (m + 1) * sz + o = (f q).length + (m * sz + o) := by rw [hf, Nat.add_mul]; omega
     rw [List.flatMap_cons, List.set_cons_succ, List.flatMap_cons, e, List.set_append_right _ _ (by omega), Nat.add_sub_cancel_left, ih m (by simpa using h) hx]
theorem fl_setAt {α : Type} {f : α → List Value} {sz : Nat} (hf : ∀ x, (f x).length = sz) {x' : α} (l : List α) (m : Nat) (h : m < l.length) : setAt (l.flatMap f) (m * sz) (f x') = (l.set m x').flatMap f := by
 have e1 : l = l.take m ++ l[m] :: l.drop (m + 1) := by simp
 have e2 : l.set m x' = l.take m ++ x' :: l.drop (m + 1) := by rw [List.set_eq_take_append_cons_drop, if_pos h]
 have hl : ((l.take m).flatMap f).length = m * sz := by rw [flat_len hf, List.length_take]; congr 1; omega
 have := setAt_mid (f x') ((l.take m).flatMap f) (f l[m]) ((l.drop (m + 1)).flatMap f) (by rw [hf, hf])
 rw [hl] at this
 rw [e2, List.flatMap_append, List.flatMap_cons]
 conv => lhs; rw [e1]
 rw [List.flatMap_append, List.flatMap_cons]
 exact this
/-- What comes of turning lines. -/
structure LinP (l l' : List Cd) : Prop where
 ok : ∀ c ∈ l', 65 ≤ c.l.toNat ∧ (∀ a ∈ c.args, argOk a ∧ ((∃ b ∈ l, a ∈ b.args) ∨ isN a = false)) ∧ (cardB c).length ≤ 400
 n : l'.length ≤ 400
theorem LinP.small {l l' : List Cd} (h : LinP l l') : (bodyB l').length ≤ 160000 := by
 have h1 := body_bound (k := 400) (fun c hc => (h.ok c hc).2.2)
 have h2 := h.n
 have := Nat.mul_le_mul_left 400 h2
 omega
theorem LinP.sub {l l1 l2 : List Cd} (h : LinP l l1) (hs : ∀ c ∈ l2, c ∈ l1) (hn : l2.length ≤ 400) : LinP l l2 := ⟨fun c hc => h.ok c (hs c hc), hn⟩
theorem card_le {l : List Cd} {c : Cd} (h : c ∈ l) : (cardB c).length ≤ (bodyB l).length := by
 induction l with
 | nil => cases h
 | cons x l ih =>
   have e : bodyB (x :: l) = cardB x ++ bodyB l := by simp [bodyB]
   rw [e, List.length_append]
   rcases List.mem_cons.1 h with e | e
   · rw [e]; omega
   · have := ih e; omega
theorem LinP.start {s : Bs} {l : List Cd} (h : readC s = some l) (hs : s.length ≤ 300) : LinP l l ∧ l.length ≤ 300 ∧ (∀ c ∈ l, (cardB c).length ≤ 300) := by
 have hr := readC_iff.1 h
 have hb := congrArg List.length hr.2
 rw [printB, sealB_len] at hb
 have h1 := (bodyB_args l).1
 have h2 : ∀ c ∈ l, (cardB c).length ≤ 300 := fun c hc => by have := card_le hc; omega
 refine ⟨⟨fun c hc => ⟨(hr.1.both c hc).1, fun a ha => ⟨(hr.1.both c hc).2 a ha, .inl ⟨c, hc, ha⟩⟩, by have := h2 c hc; omega⟩, by omega⟩, by omega, h2⟩
theorem wB_no {raw : Bs} : (∀ d ∈ (119 :: escB raw), d.toNat ≠ 32 ∧ d.toNat ≠ 10) ∧ (∀ d ∈ escB raw ++ [119], d.toNat ≠ 32 ∧ d.toNat ≠ 10) := by
 have h := escB_ok raw
 constructor
 · intro d hd
   rcases List.mem_cons.1 hd with e | e
   · rw [e]; decide
   · exact h d e
 · intro d hd
   rcases List.mem_append.1 hd with e | e
   · exact h d e
   · rw [List.mem_singleton.1 e]; decide
theorem w_not {a : Bs} (h : (119 : UInt8) ∈ a) : isN a = false := by
 rw [isN, decide_eq_false_iff_not]
 intro ⟨_, h2⟩
 exact absurd (h2 _ h) (by decide)
theorem argB_snoc (xs : List Bs) (a : Bs) (x : UInt8) : (cardB ⟨x, xs ++ [a]⟩).length = (cardB ⟨x, xs⟩).length + a.length + 1 := by
 simp [cardB, lineB, argsB]; omega
theorem LinP.set {l l1 : List Cd} (h : LinP l l1) {i : Nat} {c : Cd} (hc : 65 ≤ c.l.toNat ∧ (∀ a ∈ c.args, argOk a ∧ ((∃ b ∈ l, a ∈ b.args) ∨ isN a = false)) ∧ (cardB c).length ≤ 400) : LinP l (l1.set i c) := by
 refine ⟨fun x hx => ?_, by rw [List.length_set]; exact h.n⟩
 rcases List.mem_or_eq_of_mem_set hx with e | e
 · exact h.ok x e
 · rw [e]; exact hc
theorem LinP.more {l l1 : List Cd} (h : LinP l l1) {i : Nat} (hi : i < l1.length) (hz : ∀ c ∈ l1, (cardB c).length ≤ 300) {raw : Bs} (hr : raw.length ≤ 5) : LinP l (l1.set i ⟨l1[i].l, l1[i].args ++ [119 :: escB raw]⟩) := by
 have hm := h.ok _ (List.getElem_mem hi)
 have he := (escB_len raw).2
 refine h.set ⟨hm.1, fun a ha => ?_, ?_⟩
 · rcases List.mem_append.1 ha with e | e
   · exact hm.2.1 a e
   · rw [List.mem_singleton.1 e]
     exact ⟨argOk_iff.2 ⟨by simp, wB_no.1⟩, .inr (w_not (by simp))⟩
 · have h3 := hz _ (List.getElem_mem hi)
   rw [argB_snoc, List.length_cons]
   have : (cardB ⟨l1[i].l, l1[i].args⟩) = cardB l1[i] := rfl
   rw [this]; omega
theorem LinP.one {l l1 : List Cd} (h : LinP l l1) {i : Nat} (hi : i < l1.length) {raw : Bs} (hr : raw.length ≤ 5) : LinP l (l1.set i ⟨l1[i].l, [escB raw ++ [119]]⟩) := by
 have hm := h.ok _ (List.getElem_mem hi)
 have he := (escB_len raw).2
 refine h.set ⟨hm.1, fun a ha => ?_, ?_⟩
 · rw [List.mem_singleton.1 ha]
   exact ⟨argOk_iff.2 ⟨by simp, wB_no.2⟩, .inr (w_not (by simp))⟩
 · rw [card1_len, List.length_append, List.length_singleton]; omega
theorem LinP.lett {l l1 : List Cd} (h : LinP l l1) {i : Nat} (hi : i < l1.length) {x : UInt8} (hx : 65 ≤ x.toNat) : LinP l (l1.set i ⟨x, l1[i].args⟩) := by
 have hm := h.ok _ (List.getElem_mem hi)
 refine h.set ⟨hx, hm.2.1, ?_⟩
 have h3 := hm.2.2
 simp only [cardB, lineB, List.length_append, List.length_cons, List.length_nil] at h3 ⊢
 exact h3
/-- What `Lines` answers. -/
inductive LinR (s raw : Bs) : Bs → Prop
 | same : LinR s raw s
 | lines (l l' : List Cd) : readC s = some l → LinP l l' → LinR s raw (printB l')
 | cut (l : List Cd) : readC s = some l → LinR s raw (s.take (s.length - 2) ++ raw)
end Go.Proofs.YtibccdcemcgkeaaGreat
