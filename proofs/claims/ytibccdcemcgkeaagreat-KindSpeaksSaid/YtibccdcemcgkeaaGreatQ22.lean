/- Texts of this proof, put together: SKeep4, PKind, PKs, LawKindRuns. -/
import Derived.Test.YtibccdcemcgkeaaGreatQ08
import Derived.Test.YtibccdcemcgkeaaGreatQ21
set_option linter.unusedVariables false
set_option linter.unusedSimpArgs false
section
set_option maxRecDepth 100000
namespace Go.Proofs.YtibccdcemcgkeaaGreat
set_option maxHeartbeats 4000000 in
theorem keep_Checkin_sp {Bx Bf Bp Bt Bv : HP} {xa fa0 pa0 ta va : Option Addr} (base d u tb : Int) (xc fc0 pc0 tc vc : Nat) (text files pars tags vals : List Int) (hx : text.length ≤ 9223372036854775807) (hf : files.length ≤ 9223372036854775807) (hp : pars.length ≤ 9223372036854775807) (ht : tags.length ≤ 9223372036854775807) (hv : vals.length ≤ 9223372036854775807)
    (shx : SlA Bx xa (text.map vI)) (shf : SlA Bf fa0 (files.map vI)) (shp : SlA Bp pa0 (pars.map vI)) (sht : SlA Bt ta (tags.map vI)) (shv : SlA Bv va (vals.map vI)) :
    Sp Tryz.prog 26 [.agg #[vI base, vI d, vI u, vI tb, .slice xa text.length xc, .slice fa0 files.length fc0, .slice pa0 pars.length pc0, .slice ta tags.length tc, .slice va vals.length vc]] [Bx, Bf, Bp, Bt, Bv] (X := CkA × Ck) (fun x => .agg (ckVals x.1 x.2).toArray) (fun x => KCk x.2 ∧ x.2.parents.length ≤ x.1.pc) (fun x => ckH x ++ [Bx, Bf, Bp, Bt, Bv]) := by
 have hTO := keep_tagOps_sp tc vc tags vals true ht hv sht shv
 have hTx := keep_Text_sp xc tb text hx shx
 have htl := textB_len tb text
 haveI : ∀ r, RdSl fa0 (files.map vI) (Bf :: r) := fun r => ⟨⟨Bf, shf, .here⟩⟩
 haveI : ∀ r, RdSl pa0 (pars.map vI) (Bp :: r) := fun r => ⟨⟨Bp, shp, .here⟩⟩
 have hw1 := withinI_in (n := d) (show (0 : Int) ≤ 9 by omega)
 have hw2 := withinI_in (n := u) (show (0 : Int) ≤ 1 by omega)
 obtain ⟨ui, hui⟩ : ∃ k : Nat, withinI u 0 1 = (k : Int) := ⟨(withinI u 0 1).toNat, by omega⟩
 have hu2 : ui < 2 := by omega
 have hul : usersL.length = 2 := rfl
 have huo := users_ok ui hu2
 have hcom : ((textB tb text).take 12).length ≤ 12 := by rw [List.length_take]; omega
 refine Sp.body (n := 136) Tryz.call26 Tryz.func26 rfl rfl rfl ?_
 refine Za (k:=Zr (k:=Zx [_, _, _, _, _, _, _, _, _] (k:=fun b1 => Zc [vS [], vS [], .int .i64 0, .slice none 0 0, .slice none 0 0, .slice none 0 0, vS []] (k:=fun b2 => Wq ?_))))
 refine p_cut (fun (b3 : Nat) => [(1, .pointer (some ⟨b1, 0, none⟩)), (2, .pointer (some ⟨b2, 0, none⟩)), (3, .pointer (some ⟨b3, 0, none⟩))]) (fun (b3 : Nat) => [Ce b3 30 [vS [], vS [], vI (withinI d 0 9), .slice none 0 0, .slice none 0 0, .slice none 0 0, vS (usersL.getD ui [])], Ce b2 30 [vS [], vS [], vI 0, .slice none 0 0, .slice none 0 0, .slice none 0 0, vS []], Ce b1 41 [vI base, vI d, vI u, vI tb, .slice xa text.length xc, .slice fa0 files.length fc0, .slice pa0 pars.length pc0, .slice ta tags.length tc, .slice va vals.length vc], Bx, Bf, Bp, Bt, Bv]) rfl (fun b3 => ?_) ?_
 ·
  try dsimp only
  refine Za (k:=Zr (k:=Vf 3 39 (k:=Zm [_, _] (k:=?_))))
  refine r_call1 hTx rfl rfl rfl ?_
  refine Vv (k:=Wq (Za (k:=Zr (k:=Vv (k:=Vv (k:=Vv (k:=Vv (k:=?_))))))))
  refine wo_pv (pv_slice_tom (m := min (textB tb text).length 12) Tryz.underlying9 rfl rfl (by omega) (by omega)) rfl ?_
  rw [take_minl]
  refine Vf 1 9 (k:=Zo (k:=Wq ?_))
  refine p_cut (fun (bs : { bs : Bs // bs = [] ∨ ∃ n, bs = nameB n }) => [(1, .pointer (some ⟨b1, 0, none⟩)), (2, .pointer (some ⟨b2, 0, none⟩)), (3, .pointer (some ⟨b3, 0, none⟩))]) (fun (bs : { bs : Bs // bs = [] ∨ ∃ n, bs = nameB n }) => [Ce b3 30 [vS bs.1, vS ((textB tb text).take 12), vI (withinI d 0 9), .slice none 0 0, .slice none 0 0, .slice none 0 0, vS (usersL.getD ui [])], Ce b2 30 [vS [], vS [], vI 0, .slice none 0 0, .slice none 0 0, .slice none 0 0, vS []], Ce b1 41 [vI base, vI d, vI u, vI tb, .slice xa text.length xc, .slice fa0 files.length fc0, .slice pa0 pars.length pc0, .slice ta tags.length tc, .slice va vals.length vc], Bx, Bf, Bp, Bt, Bv]) rfl (fun bs => ?_) ?_
  ·
   obtain ⟨bs, hbs⟩ := bs
   dsimp only
   try dsimp only
   refine Za (k:=Za (k:=Zr (k:=?_)))
   refine r_callX keep_words_sp rfl rfl rfl (fun x38 _ => ?_)
   refine Vv (k:=Vv (k:=Wq (Zb (k:=?_))))
   refine p_loop (fun (i : { x : ((Option Addr × Nat) × List (Bs × Bs)) × Nat // x.2 ≤ 6 ∧ KFiles (decide (bs = [])) x.2 x.1.2 }) => [(1, .pointer (some ⟨b1, 0, none⟩)), (2, .pointer (some ⟨b2, 0, none⟩)), (3, .pointer (some ⟨b3, 0, none⟩)), (38, .slice (some ⟨x38, 0, none⟩) 6 6), (39, vI 6), (40, vI i.1.2)]) (fun (i : { x : ((Option Addr × Nat) × List (Bs × Bs)) × Nat // x.2 ≤ 6 ∧ KFiles (decide (bs = [])) x.2 x.1.2 }) => [Row 25 2 (.slice i.1.1.1.1 (i.1.1.2).length i.1.1.1.2) (i.1.1.2).length ((i.1.1.2).flatMap flCells), Ce b3 30 [vS bs, vS ((textB tb text).take 12), vI (withinI d 0 9), .slice i.1.1.1.1 (i.1.1.2).length i.1.1.1.2, .slice none 0 0, .slice none 0 0, vS (usersL.getD ui [])], Ce x38 9 (wordsL.map vS), Ce b2 30 [vS [], vS [], vI 0, .slice none 0 0, .slice none 0 0, .slice none 0 0, vS []], Ce b1 41 [vI base, vI d, vI u, vI tb, .slice xa text.length xc, .slice fa0 files.length fc0, .slice pa0 pars.length pc0, .slice ta tags.length tc, .slice va vals.length vc], Bx, Bf, Bp, Bt, Bv]) (fun (i : { x : ((Option Addr × Nat) × List (Bs × Bs)) × Nat // x.2 ≤ 6 ∧ KFiles (decide (bs = [])) x.2 x.1.2 }) => 6 - i.1.2) rfl (⟨(((none, 0), []), 0), Nat.zero_le _, ⟨Nat.zero_le _, (fun _ h => by cases h), (fun _ h => by cases h), .nil⟩⟩) ?_ ?_ (fun i => ?_)
   · exact ⟨rfl, rfl, rfl, rfl, rfl, rfl, trivial⟩
   ·
    exact (row_nil (e := 25) (sz := 2)).trans (show Ent _ [Row 25 2 (.slice none 0 0) 0 [], Ce b3 30 [vS bs, vS ((textB tb text).take 12), vI (withinI d 0 9), .slice none 0 0, .slice none 0 0, .slice none 0 0, vS (usersL.getD ui [])], Ce x38 9 (wordsL.map vS), Ce b2 30 [vS [], vS [], vI 0, .slice none 0 0, .slice none 0 0, .slice none 0 0, vS []], Ce b1 41 [vI base, vI d, vI u, vI tb, .slice xa text.length xc, .slice fa0 files.length fc0, .slice pa0 pars.length pc0, .slice ta tags.length tc, .slice va vals.length vc], Bx, Bf, Bp, Bt, Bv] from ent_pick)
   obtain ⟨⟨⟨⟨oa, oc⟩, fs⟩, j⟩, hj, hK⟩ := i
   dsimp only at hj hK ⊢
   have hfl := hK.len
   try dsimp only
   refine Za (k:=Zr (k:=Vv (k:=Wq (Za (k:=Zi (t:=fun h41 => ?_) (f:=fun h41 => ?_))))))
   ·
    refine Zk (k:=Ya (Za (k:=Zb (k:=Za (k:=?_)))))
    have hj6 : j < 6 := by omega
    have hwl : wordsL.length = 6 := rfl
    obtain ⟨w, hw⟩ : ∃ w, w = wordsL.getD j [] := ⟨_, rfl⟩
    refine Zr (k:=Vv (k:=Ye 1 (k:=?_)))
    refine r_eload Tryz.underlying9 rfl rfl (get_mapD [] (m := j) (by omega)) rfl ?_
    rw [← hw]
    refine Vv (k:=Vv (k:=Wq (Za (k:=Za (k:=Zr (k:=Vv (k:=Vf 5 37 (k:=Zd (k:=Vv (k:=Vv (k:=Vv (k:=?_))))))))))))
    refine Gi 5 (t:=fun h50 => ?_) (f:=fun h50 => ?_)
    ·
     refine O1 (k:=O1 (k:=O1 (k:=O1 (k:=O1 (k:=O1 (k:=O1 (k:=P1 (k:=Vv (k:=O1 (k:=O1 (k:=O1 (k:=?_))))))))))))
     refine O1 (k:=P1 (k:=Wq (Z1 (k:=Ze (k:=Xa (Xb (Ya (Zr (k:=Vv (k:=Vv (k:=Wn ?_)))))))))))
     first
     | exact to_inv ⟨(((oa, oc), fs), j + 1), by dsimp only; omega, hK.more⟩ (by dsimp only; omega) ⟨rfl, rfl, rfl, rfl, rfl, rfl, trivial⟩ ent_pick
     | (have hsn := hK.snoc (t := (w, h)) hj6 (by omega) hh hw
        have hql2 : (fs ++ [((w, h) : Bs × Bs)]).length = fs.length + 1 := by simp
        refine to_inv ⟨(((a91, c91), fs ++ [(w, h)]), j + 1), by dsimp only; omega, hsn⟩ (by dsimp only; omega) ⟨rfl, rfl, rfl, rfl, rfl, rfl, trivial⟩ ?_
        dsimp only
        rw [hql2]
        exact ent_step (row_norm (by rfl) (by rw [fm_snoc]; rfl)) ent_pick)
    ·
     refine I0 (k:=Vf 5 37 (k:=I0 (k:=Zd (k:=I0 (k:=Vv (k:=I0 (k:=Ye 1 (k:=I0 (k:=?_)))))))))
     refine r_eload Tryz.underlying3 rfl rfl (get_mapD 0 (m := j) (by omega)) rfl ?_
     refine I0 (k:=?_)
     refine wo_pv (pv_and rfl rfl) rfl ?_
     refine I0 (k:=Vv (k:=P0 (k:=Vv (k:=Gi 14 (t:=fun h59 => ?_) (f:=fun h59 => ?_)))))
     ·
      refine O1 (k:=O1 (k:=O1 (k:=O1 (k:=P1 (k:=Wq (Z1 (k:=Ze (k:=Xa (Xb (Ya (Zr (k:=?_))))))))))))
      refine Vv (k:=Vv (k:=Wn ?_))
      first
      | exact to_inv ⟨(((oa, oc), fs), j + 1), by dsimp only; omega, hK.more⟩ (by dsimp only; omega) ⟨rfl, rfl, rfl, rfl, rfl, rfl, trivial⟩ ent_pick
      | (have hsn := hK.snoc (t := (w, h)) hj6 (by omega) hh hw
         have hql2 : (fs ++ [((w, h) : Bs × Bs)]).length = fs.length + 1 := by simp
         refine to_inv ⟨(((a91, c91), fs ++ [(w, h)]), j + 1), by dsimp only; omega, hsn⟩ (by dsimp only; omega) ⟨rfl, rfl, rfl, rfl, rfl, rfl, trivial⟩ ?_
         dsimp only
         rw [hql2]
         exact ent_step (row_norm (by rfl) (by rw [fm_snoc]; rfl)) ent_pick)
     ·
      refine I0 (k:=Vf 3 26 (k:=I0 (k:=Zd (k:=I0 (k:=Vv (k:=I0 (k:=Vv (k:=P0 (k:=Wq (Zi (t:=fun h64 => ?_) (f:=fun h64 => ?_)))))))))))
      ·
       refine Ze (k:=Xa (Xb (Ya (Zr (k:=Vv (k:=Vv (k:=Wn ?_)))))))
       first
       | exact to_inv ⟨(((oa, oc), fs), j + 1), by dsimp only; omega, hK.more⟩ (by dsimp only; omega) ⟨rfl, rfl, rfl, rfl, rfl, rfl, trivial⟩ ent_pick
       | (have hsn := hK.snoc (t := (w, h)) hj6 (by omega) hh hw
          have hql2 : (fs ++ [((w, h) : Bs × Bs)]).length = fs.length + 1 := by simp
          refine to_inv ⟨(((a91, c91), fs ++ [(w, h)]), j + 1), by dsimp only; omega, hsn⟩ (by dsimp only; omega) ⟨rfl, rfl, rfl, rfl, rfl, rfl, trivial⟩ ?_
          dsimp only
          rw [hql2]
          exact ent_step (row_norm (by rfl) (by rw [fm_snoc]; rfl)) ent_pick)
      ·
       refine Zk (k:=Ya (Za (k:=Zr (k:=Vv (k:=Vf 5 37 (k:=Zd (k:=Vv (k:=Ye 1 (k:=?_)))))))))
       refine r_eload Tryz.underlying3 rfl rfl (get_mapD 0 (m := j) (by omega)) rfl ?_
       refine wo_pv (pv_quow rfl rfl (by omega)) rfl ?_
       refine r_callF (keep_Name_sp _) rfl rfl rfl ?_
       refine Vx (Ps [_, _]) (k:=Zc [vS [], vS []] (k:=fun b7 => Zp (k:=Wq ?_)))
       refine p_cut (fun (h : { h : Bs // (∃ n, h = nameB n) ∨ (decide (bs = []) = false ∧ h = []) }) => [(1, .pointer (some ⟨b1, 0, none⟩)), (2, .pointer (some ⟨b2, 0, none⟩)), (3, .pointer (some ⟨b3, 0, none⟩)), (7, .pointer (some ⟨b7, 0, none⟩)), (38, .slice (some ⟨x38, 0, none⟩) 6 6), (39, vI 6), (40, vI j)]) (fun (h : { h : Bs // (∃ n, h = nameB n) ∨ (decide (bs = []) = false ∧ h = []) }) => [Ce b7 25 [vS w, vS h.1], Row 25 2 (.slice oa (fs).length oc) (fs).length ((fs).flatMap flCells), Ce b3 30 [vS bs, vS ((textB tb text).take 12), vI (withinI d 0 9), .slice oa (fs).length oc, .slice none 0 0, .slice none 0 0, vS (usersL.getD ui [])], Ce x38 9 (wordsL.map vS), Ce b2 30 [vS [], vS [], vI 0, .slice none 0 0, .slice none 0 0, .slice none 0 0, vS []], Ce b1 41 [vI base, vI d, vI u, vI tb, .slice xa text.length xc, .slice fa0 files.length fc0, .slice pa0 pars.length pc0, .slice ta tags.length tc, .slice va vals.length vc], Bx, Bf, Bp, Bt, Bv]) rfl (fun h => ?_) ?_
       ·
        obtain ⟨h, hh⟩ := h
        dsimp only
        try dsimp only
        refine Zr (k:=Vf 3 26 (k:=Zd (k:=Zm [_, _] (k:=Zv [_] (cs := [_, _]) (k:=fun b90 => ?_)))))
        refine r_append1 (sz := 2) (bytes := 32) Tryz.underlying26 ti25 rfl rfl rfl rfl rfl rfl rfl (by rfl) (by rfl) (by omega) (by simp only [maxLen]; omega) rfl (fun a91 c91 => ?_)
        refine Vf 3 26 (k:=Zo (k:=Wn (Yb (Ya (Zr (k:=Vv (k:=Vv (k:=Wn ?_))))))))
        first
        | exact to_inv ⟨(((oa, oc), fs), j + 1), by dsimp only; omega, hK.more⟩ (by dsimp only; omega) ⟨rfl, rfl, rfl, rfl, rfl, rfl, trivial⟩ ent_pick
        | (have hsn := hK.snoc (t := (w, h)) hj6 (by omega) hh hw
           have hql2 : (fs ++ [((w, h) : Bs × Bs)]).length = fs.length + 1 := by simp
           refine to_inv ⟨(((a91, c91), fs ++ [(w, h)]), j + 1), by dsimp only; omega, hsn⟩ (by dsimp only; omega) ⟨rfl, rfl, rfl, rfl, rfl, rfl, trivial⟩ ?_
           dsimp only
           rw [hql2]
           exact ent_step (row_norm (by rfl) (by rw [fm_snoc]; rfl)) ent_pick)
       ·
        refine Za (k:=Zr (k:=Vf 0 9 (k:=Zd (k:=Vv (k:=Vv (k:=Gi 3 (t:=fun h77 => ?_) (f:=fun h77 => ?_)))))))
        ·
         refine I1 (k:=Vf 5 37 (k:=I1 (k:=Zd (k:=I1 (k:=Vv (k:=I1 (k:=Ye 1 (k:=I1 (k:=?_)))))))))
         refine r_eload Tryz.underlying3 rfl rfl (get_mapD 0 (m := j) (by omega)) rfl ?_
         refine I1 (k:=?_)
         refine wo_pv (pv_remt rfl rfl (by omega)) rfl ?_
         refine I1 (k:=Vv (k:=P1 (k:=Wq (Zi (t:=fun h85 => ?_) (f:=fun h85 => ?_)))))
         ·
          refine Zr (k:=Vf 1 9 (k:=Zo (k:=Wn ?_)))
          first
          | exact to_inv ⟨nameB (IntKind.i64.wrap ((files.getD j 0).tdiv 2)), .inl ⟨_, rfl⟩⟩ trivial ⟨rfl, rfl, rfl, rfl, rfl, rfl, rfl, trivial⟩ ent_pick
          | exact to_inv ⟨[], .inr ⟨decide_eq_false h77, rfl⟩⟩ trivial ⟨rfl, rfl, rfl, rfl, rfl, rfl, rfl, trivial⟩ ent_pick
         ·
          refine Zk (k:=?_)
          first
          | exact to_inv ⟨nameB (IntKind.i64.wrap ((files.getD j 0).tdiv 2)), .inl ⟨_, rfl⟩⟩ trivial ⟨rfl, rfl, rfl, rfl, rfl, rfl, rfl, trivial⟩ ent_pick
          | exact to_inv ⟨[], .inr ⟨decide_eq_false h77, rfl⟩⟩ trivial ⟨rfl, rfl, rfl, rfl, rfl, rfl, rfl, trivial⟩ ent_pick
        ·
         refine O0 (k:=O0 (k:=O0 (k:=O0 (k:=O0 (k:=O0 (k:=O0 (k:=P0 (k:=Wq (Z0 (k:=Zk (k:=?_)))))))))))
         first
         | exact to_inv ⟨nameB (IntKind.i64.wrap ((files.getD j 0).tdiv 2)), .inl ⟨_, rfl⟩⟩ trivial ⟨rfl, rfl, rfl, rfl, rfl, rfl, rfl, trivial⟩ ent_pick
         | exact to_inv ⟨[], .inr ⟨decide_eq_false h77, rfl⟩⟩ trivial ⟨rfl, rfl, rfl, rfl, rfl, rfl, rfl, trivial⟩ ent_pick
   ·
    refine Ze (k:=Xa (Xi (Xb (Ya (Za (k:=Za (k:=?_)))))))
    have hj6 : j = 6 := by omega
    subst hj6
    refine Zr (k:=Vv (k:=Wq (Zb (k:=?_))))
    refine p_loop (fun (i : { x : ((Option Addr × Nat) × List Bs) × Nat // x.2 ≤ 2 ∧ x.2 ≤ pars.length ∧ x.1.2.length ≤ x.1.1.2 ∧ KPars x.2 x.1.2 }) => [(1, .pointer (some ⟨b1, 0, none⟩)), (2, .pointer (some ⟨b2, 0, none⟩)), (3, .pointer (some ⟨b3, 0, none⟩)), (8, vI i.1.2)]) (fun (i : { x : ((Option Addr × Nat) × List Bs) × Nat // x.2 ≤ 2 ∧ x.2 ≤ pars.length ∧ x.1.2.length ≤ x.1.1.2 ∧ KPars x.2 x.1.2 }) => [Row 9 1 (.slice i.1.1.1.1 (i.1.1.2).length i.1.1.1.2) (i.1.1.2).length ((i.1.1.2).map vS), Row 25 2 (.slice oa (fs).length oc) (fs).length ((fs).flatMap flCells), Ce b3 30 [vS bs, vS ((textB tb text).take 12), vI (withinI d 0 9), .slice oa (fs).length oc, .slice i.1.1.1.1 (i.1.1.2).length i.1.1.1.2, .slice none 0 0, vS (usersL.getD ui [])], Ce b2 30 [vS [], vS [], vI 0, .slice none 0 0, .slice none 0 0, .slice none 0 0, vS []], Ce b1 41 [vI base, vI d, vI u, vI tb, .slice xa text.length xc, .slice fa0 files.length fc0, .slice pa0 pars.length pc0, .slice ta tags.length tc, .slice va vals.length vc], Bx, Bf, Bp, Bt, Bv]) (fun (i : { x : ((Option Addr × Nat) × List Bs) × Nat // x.2 ≤ 2 ∧ x.2 ≤ pars.length ∧ x.1.2.length ≤ x.1.1.2 ∧ KPars x.2 x.1.2 }) => 2 - i.1.2) rfl (⟨(((none, 0), []), 0), Nat.zero_le _, Nat.zero_le _, Nat.zero_le _, ⟨Nat.zero_le _, (fun _ h => by cases h), .nil⟩⟩) ?_ ?_ (fun i => ?_)
    · exact ⟨rfl, rfl, rfl, rfl, trivial⟩
    ·
     exact (row_nil (e := 9) (sz := 1)).trans (show Ent _ [Row 9 1 (.slice none 0 0) 0 [], Row 25 2 (.slice oa (fs).length oc) (fs).length ((fs).flatMap flCells), Ce b3 30 [vS bs, vS ((textB tb text).take 12), vI (withinI d 0 9), .slice oa (fs).length oc, .slice none 0 0, .slice none 0 0, vS (usersL.getD ui [])], Ce b2 30 [vS [], vS [], vI 0, .slice none 0 0, .slice none 0 0, .slice none 0 0, vS []], Ce b1 41 [vI base, vI d, vI u, vI tb, .slice xa text.length xc, .slice fa0 files.length fc0, .slice pa0 pars.length pc0, .slice ta tags.length tc, .slice va vals.length vc], Bx, Bf, Bp, Bt, Bv] from ent_pick)
    obtain ⟨⟨⟨⟨qa, qc⟩, ps⟩, m⟩, hm, hmp, hpc, hP⟩ := i
    dsimp only at hm hmp hpc hP ⊢
    have hpl := hP.len
    try dsimp only
    refine Za (k:=Za (k:=Zr (k:=Vv (k:=Vf 6 37 (k:=Zd (k:=Vv (k:=Vv (k:=Vv (k:=Gi 5 (t:=fun h99 => ?_) (f:=fun h99 => ?_))))))))))
    ·
     refine I1 (k:=Vv (k:=I1 (k:=Vv (k:=P1 (k:=Wq (Zi (t:=fun h102 => ?_) (f:=fun h102 => ?_)))))))
     ·
      refine Zk (k:=Ya (Za (k:=Zb (k:=Za (k:=Zr (k:=Vf 6 37 (k:=Zd (k:=Vv (k:=Ye 1 (k:=?_))))))))))
      refine r_eload Tryz.underlying3 rfl rfl (get_mapD 0 (m := m) (by omega)) rfl ?_
      refine r_callF (keep_Name_sp _) rfl rfl rfl ?_
      refine Vv (k:=Wq (Za (k:=Zr (k:=Vf 4 27 (k:=Zd (k:=Vv (k:=Vv (k:=Vv (k:=Gi 4 (t:=fun h115 => ?_) (f:=fun h115 => ?_))))))))))
      ·
       refine O1 (k:=O1 (k:=O1 (k:=O1 (k:=O1 (k:=O1 (k:=P1 (k:=Wq (Z1 (k:=Zr (k:=Vf 4 27 (k:=Zd (k:=?_))))))))))))
       refine Vv (k:=Zv [_] (cs := [_]) (k:=fun b126 => ?_))
       refine r_append1 (sz := 1) (bytes := 16) Tryz.underlying27 ti9 rfl rfl rfl rfl rfl rfl rfl (by rfl) (by rfl) (by omega) (by simp only [maxLen]; omega) rfl (fun a127 c127 => ?_)
       refine wo_know (A := Row 9 1 (.slice a127 (ps.length + 1) c127) (ps.length + 1) (ps.map vS ++ [vS (nameB (pars.getD m 0))])) HasC.get row_know (fun hk127 => ?_)
       have hcap127 := hk127.1
       refine Vf 4 27 (k:=Zo (k:=Wn (Yb (Ya (Zr (k:=Vv (k:=Vv (k:=Vv (k:=Wn ?_)))))))))
       first
       | exact to_inv ⟨(((qa, qc), ps), m + 1), by dsimp only; omega, by dsimp only; omega, hpc, ⟨by have := hP.len; dsimp only; omega, hP.all, hP.two⟩⟩ (by dsimp only; omega) ⟨rfl, rfl, rfl, rfl, trivial⟩ ent_pick
       | (have hsn := hP.snoc (p := nameB (pars.getD m 0)) (by omega) ⟨_, rfl⟩ (by first | exact .inl (List.eq_nil_of_length_eq_zero (by omega)) | exact .inr (by assumption))
          have hql2 : (ps ++ [nameB (pars.getD m 0)]).length = ps.length + 1 := by simp
          refine to_inv ⟨(((a127, c127), ps ++ [nameB (pars.getD m 0)]), m + 1), by dsimp only; omega, by dsimp only; omega, by dsimp only; rw [hql2]; exact hcap127, hsn⟩ (by dsimp only; omega) ⟨rfl, rfl, rfl, rfl, trivial⟩ ?_
          dsimp only
          rw [hql2]
          exact ent_step (row_norm (by rfl) (by simp)) ent_pick)
      ·
       refine I0 (k:=Vf 4 27 (k:=I0 (k:=Zd (k:=I0 (k:=Ye 1 (m := 0) (k:=I0 (k:=?_)))))))
       refine r_eload Tryz.underlying9 rfl rfl (get_mapD [] (m := 0) (by omega)) rfl ?_
       refine I0 (k:=Vv (k:=I0 (k:=Vv (k:=P0 (k:=Wq (Zi (t:=fun h122 => ?_) (f:=fun h122 => ?_)))))))
       ·
        refine Zr (k:=Vf 4 27 (k:=Zd (k:=Vv (k:=Zv [_] (cs := [_]) (k:=fun b126 => ?_)))))
        refine r_append1 (sz := 1) (bytes := 16) Tryz.underlying27 ti9 rfl rfl rfl rfl rfl rfl rfl (by rfl) (by rfl) (by omega) (by simp only [maxLen]; omega) rfl (fun a127 c127 => ?_)
        refine wo_know (A := Row 9 1 (.slice a127 (ps.length + 1) c127) (ps.length + 1) (ps.map vS ++ [vS (nameB (pars.getD m 0))])) HasC.get row_know (fun hk127 => ?_)
        have hcap127 := hk127.1
        refine Vf 4 27 (k:=Zo (k:=Wn (Yb (Ya (Zr (k:=Vv (k:=Vv (k:=Vv (k:=Wn ?_)))))))))
        first
        | exact to_inv ⟨(((qa, qc), ps), m + 1), by dsimp only; omega, by dsimp only; omega, hpc, ⟨by have := hP.len; dsimp only; omega, hP.all, hP.two⟩⟩ (by dsimp only; omega) ⟨rfl, rfl, rfl, rfl, trivial⟩ ent_pick
        | (have hsn := hP.snoc (p := nameB (pars.getD m 0)) (by omega) ⟨_, rfl⟩ (by first | exact .inl (List.eq_nil_of_length_eq_zero (by omega)) | exact .inr (by assumption))
           have hql2 : (ps ++ [nameB (pars.getD m 0)]).length = ps.length + 1 := by simp
           refine to_inv ⟨(((a127, c127), ps ++ [nameB (pars.getD m 0)]), m + 1), by dsimp only; omega, by dsimp only; omega, by dsimp only; rw [hql2]; exact hcap127, hsn⟩ (by dsimp only; omega) ⟨rfl, rfl, rfl, rfl, trivial⟩ ?_
           dsimp only
           rw [hql2]
           exact ent_step (row_norm (by rfl) (by simp)) ent_pick)
       ·
        refine Zk (k:=Yb (Ya (Zr (k:=Vv (k:=Vv (k:=Vv (k:=Wn ?_)))))))
        first
        | exact to_inv ⟨(((qa, qc), ps), m + 1), by dsimp only; omega, by dsimp only; omega, hpc, ⟨by have := hP.len; dsimp only; omega, hP.all, hP.two⟩⟩ (by dsimp only; omega) ⟨rfl, rfl, rfl, rfl, trivial⟩ ent_pick
        | (have hsn := hP.snoc (p := nameB (pars.getD m 0)) (by omega) ⟨_, rfl⟩ (by first | exact .inl (List.eq_nil_of_length_eq_zero (by omega)) | exact .inr (by assumption))
           have hql2 : (ps ++ [nameB (pars.getD m 0)]).length = ps.length + 1 := by simp
           refine to_inv ⟨(((a127, c127), ps ++ [nameB (pars.getD m 0)]), m + 1), by dsimp only; omega, by dsimp only; omega, by dsimp only; rw [hql2]; exact hcap127, hsn⟩ (by dsimp only; omega) ⟨rfl, rfl, rfl, rfl, trivial⟩ ?_
           dsimp only
           rw [hql2]
           exact ent_step (row_norm (by rfl) (by simp)) ent_pick)
     ·
      refine Ze (k:=Xa (Xi (Xb (Ya (Za (k:=?_))))))
      refine wc_know (A := Row 9 1 (.slice qa (ps).length qc) (ps).length ((ps).map vS)) HasC.get row_know (fun hkp => ?_)
      refine wc_frzR qa ?_
      refine Zr (k:=Vf 7 37 (k:=Zd (k:=Vf 8 37 (k:=Zd (k:=?_)))))
      refine r_callX hTO rfl rfl rfl (fun x133 hx133 => ?_)
      obtain ⟨⟨oa2, oc2⟩, ts⟩ := x133
      dsimp only [tagV, tagH] at hx133 ⊢
      have hKc : KCk ⟨bs, (textB tb text).take 12, withinI d 0 9, fs, ps, ts, usersL.getD ui []⟩ := KCk.mk' hbs hcom hw1 huo hK ⟨by omega, hP.all, hP.two⟩ hx133
      refine Vf 5 28 (k:=Zo (k:=Wq (Za (k:=Zr (k:=Zm [_, _, _, _, _, _, _] (k:=Zp (k:=Wq (Zt (k:=?_)))))))))
      exact fin_ret (⟨oa, oc, qa, qc, oa2, oc2⟩, ⟨bs, (textB tb text).take 12, withinI d 0 9, fs, ps, ts, usersL.getD ui []⟩) (vs := [_]) (Cs := [Ce b2 30 [vS bs, vS ((textB tb text).take 12), vI (withinI d 0 9), .slice oa fs.length oc, .slice qa ps.length qc, .slice oa2 ts.length oc2, vS (usersL.getD ui [])]]) rfl (.cell (l := [vS bs, vS ((textB tb text).take 12), vI (withinI d 0 9), .slice oa fs.length oc, .slice qa ps.length qc, .slice oa2 ts.length oc2, vS (usersL.getD ui [])]) (us := [vS bs, vS ((textB tb text).take 12), vI (withinI d 0 9), .slice oa fs.length oc, .slice qa ps.length qc, .slice oa2 ts.length oc2, vS (usersL.getD ui [])]) rfl (shows_ce (T := 30)) Tryz.underlying30 rfl ti30 (by exact Nat.le_of_ble_eq_true rfl) rfl .nil) rfl ⟨hKc, hpc⟩ ent_pick
    ·
     refine O0 (k:=O0 (k:=P0 (k:=Wq (Z0 (k:=Ze (k:=Xa (Xi (Xb (Ya (Za (k:=?_)))))))))))
     refine wc_know (A := Row 9 1 (.slice qa (ps).length qc) (ps).length ((ps).map vS)) HasC.get row_know (fun hkp => ?_)
     refine wc_frzR qa ?_
     refine Zr (k:=Vf 7 37 (k:=Zd (k:=Vf 8 37 (k:=Zd (k:=?_)))))
     refine r_callX hTO rfl rfl rfl (fun x133 hx133 => ?_)
     obtain ⟨⟨oa2, oc2⟩, ts⟩ := x133
     dsimp only [tagV, tagH] at hx133 ⊢
     have hKc : KCk ⟨bs, (textB tb text).take 12, withinI d 0 9, fs, ps, ts, usersL.getD ui []⟩ := KCk.mk' hbs hcom hw1 huo hK ⟨by omega, hP.all, hP.two⟩ hx133
     refine Vf 5 28 (k:=Zo (k:=Wq (Za (k:=Zr (k:=Zm [_, _, _, _, _, _, _] (k:=Zp (k:=Wq (Zt (k:=?_)))))))))
     exact fin_ret (⟨oa, oc, qa, qc, oa2, oc2⟩, ⟨bs, (textB tb text).take 12, withinI d 0 9, fs, ps, ts, usersL.getD ui []⟩) (vs := [_]) (Cs := [Ce b2 30 [vS bs, vS ((textB tb text).take 12), vI (withinI d 0 9), .slice oa fs.length oc, .slice qa ps.length qc, .slice oa2 ts.length oc2, vS (usersL.getD ui [])]]) rfl (.cell (l := [vS bs, vS ((textB tb text).take 12), vI (withinI d 0 9), .slice oa fs.length oc, .slice qa ps.length qc, .slice oa2 ts.length oc2, vS (usersL.getD ui [])]) (us := [vS bs, vS ((textB tb text).take 12), vI (withinI d 0 9), .slice oa fs.length oc, .slice qa ps.length qc, .slice oa2 ts.length oc2, vS (usersL.getD ui [])]) rfl (shows_ce (T := 30)) Tryz.underlying30 rfl ti30 (by exact Nat.le_of_ble_eq_true rfl) rfl .nil) rfl ⟨hKc, hpc⟩ ent_pick
  ·
   refine Za (k:=Zr (k:=Vf 0 3 (k:=Zd (k:=?_))))
   refine wo_pv (pv_remt rfl rfl (by omega)) rfl ?_
   refine Vv (k:=Wq (Zi (t:=fun h32 => ?_) (f:=fun h32 => ?_)))
   ·
    refine Zr (k:=Vf 0 3 (k:=Zd (k:=?_)))
    refine wo_pv (pv_quow rfl rfl (by omega)) rfl ?_
    refine r_callF (keep_Name_sp _) rfl rfl rfl ?_
    refine Vf 0 9 (k:=Zo (k:=Wn ?_))
    first
    | exact to_inv ⟨nameB (IntKind.i64.wrap (base.tdiv 4)), .inr ⟨_, rfl⟩⟩ trivial ⟨rfl, rfl, rfl, trivial⟩ ent_pick
    | exact to_inv ⟨[], .inl rfl⟩ trivial ⟨rfl, rfl, rfl, trivial⟩ ent_pick
   ·
    refine Zk (k:=?_)
    first
    | exact to_inv ⟨nameB (IntKind.i64.wrap (base.tdiv 4)), .inr ⟨_, rfl⟩⟩ trivial ⟨rfl, rfl, rfl, trivial⟩ ent_pick
    | exact to_inv ⟨[], .inl rfl⟩ trivial ⟨rfl, rfl, rfl, trivial⟩ ent_pick
 ·
  refine Dw [Ce b1 41 [vI base, vI d, vI u, vI tb, .slice xa text.length xc, .slice fa0 files.length fc0, .slice pa0 pars.length pc0, .slice ta tags.length tc, .slice va vals.length vc]] (k:=?_)
  refine Di 0 (t:=Uf 1 3) (k:=Di 1 (t:=Ul) (k:=Di 4 (t:=Uf 2 3) (k:=Di 5 (t:=Ul) (k:=?_))))
  refine d_next3 2 3 10 (by kernel_rfl) rfl rfl rfl ?_ ?_ ?_
  ·
   refine an_callF (book_Within_sp d 0 9 (by omega) (by omega) (by omega)) rfl rfl rfl ?_
   refine d_next3 3 6 10 (by kernel_rfl) rfl rfl rfl ?_ ?_ ?_
   ·
    refine Nl [_, _] (cs := [_, _]) (k:=fun b13 => ?_)
    refine d_next2 6 10 (by kernel_rfl) rfl rfl ?_ ?_
    ·
     refine an_callF (book_Within_sp u 0 1 (by omega) (by omega) (by omega)) rfl rfl rfl ?_
     rw [hui]
     refine d_next2 7 10 (by kernel_rfl) rfl rfl ?_ ?_
     ·
      refine an_elemAddr (m := ui) (sz := 1) Tryz.underlying27 ti9 rfl rfl rfl rfl (by omega) (by simp) (Nat.mul_one _) rfl ?_
      refine d_next2 8 10 (by kernel_rfl) rfl rfl ?_ ?_
      ·
       refine an_eload Tryz.underlying9 rfl rfl (get_mapD (f := vS) [] (l := usersL) (m := ui) hu2) rfl ?_
       refine Di 9 (t:=Ux (Ps [vS [], vS [], _, .slice none 0 0, .slice none 0 0, .slice none 0 0, _])) (k:=Dn 10 (k:=Nc [vS [], vS [], .int .i64 0, .slice none 0 0, .slice none 0 0, .slice none 0 0, vS []] (k:=fun b3 => Dn 11 (k:=Na (k:=Dd (k:=?_))))))
       exact to_inv b3 trivial ⟨rfl, rfl, rfl, trivial⟩ ent_pick
      ·
       refine Nc [vS [], vS [], .int .i64 0, .slice none 0 0, .slice none 0 0, .slice none 0 0, vS []] (k:=fun b3 => Dn 8 (k:=?_))
       refine an_eload Tryz.underlying9 rfl rfl (get_mapD (f := vS) [] (l := usersL) (m := ui) hu2) rfl ?_
       refine Di 9 (t:=Ux (Ps [vS [], vS [], _, .slice none 0 0, .slice none 0 0, .slice none 0 0, _])) (k:=Dn 11 (k:=Na (k:=Dd (k:=?_))))
       exact to_inv b3 trivial ⟨rfl, rfl, rfl, trivial⟩ ent_pick
     ·
      refine Nc [vS [], vS [], .int .i64 0, .slice none 0 0, .slice none 0 0, .slice none 0 0, vS []] (k:=fun b3 => Dn 7 (k:=?_))
      refine an_elemAddr (m := ui) (sz := 1) Tryz.underlying27 ti9 rfl rfl rfl rfl (by omega) (by simp) (Nat.mul_one _) rfl ?_
      refine Dn 8 (k:=?_)
      refine an_eload Tryz.underlying9 rfl rfl (get_mapD (f := vS) [] (l := usersL) (m := ui) hu2) rfl ?_
      refine Di 9 (t:=Ux (Ps [vS [], vS [], _, .slice none 0 0, .slice none 0 0, .slice none 0 0, _])) (k:=Dn 11 (k:=Na (k:=Dd (k:=?_))))
      exact to_inv b3 trivial ⟨rfl, rfl, rfl, trivial⟩ ent_pick
    ·
     refine Nc [vS [], vS [], .int .i64 0, .slice none 0 0, .slice none 0 0, .slice none 0 0, vS []] (k:=fun b3 => Dn 6 (k:=?_))
     refine an_callF (book_Within_sp u 0 1 (by omega) (by omega) (by omega)) rfl rfl rfl ?_
     rw [hui]
     refine Dn 7 (k:=?_)
     refine an_elemAddr (m := ui) (sz := 1) Tryz.underlying27 ti9 rfl rfl rfl rfl (by omega) (by simp) (Nat.mul_one _) rfl ?_
     refine Dn 8 (k:=?_)
     refine an_eload Tryz.underlying9 rfl rfl (get_mapD (f := vS) [] (l := usersL) (m := ui) hu2) rfl ?_
     refine Di 9 (t:=Ux (Ps [vS [], vS [], _, .slice none 0 0, .slice none 0 0, .slice none 0 0, _])) (k:=Dn 11 (k:=Na (k:=Dd (k:=?_))))
     exact to_inv b3 trivial ⟨rfl, rfl, rfl, trivial⟩ ent_pick
   ·
    refine an_callF (book_Within_sp u 0 1 (by omega) (by omega) (by omega)) rfl rfl rfl ?_
    rw [hui]
    refine d_next2 3 10 (by kernel_rfl) rfl rfl ?_ ?_
    ·
     refine Nl [_, _] (cs := [_, _]) (k:=fun b13 => ?_)
     refine d_next2 7 10 (by kernel_rfl) rfl rfl ?_ ?_
     ·
      refine an_elemAddr (m := ui) (sz := 1) Tryz.underlying27 ti9 rfl rfl rfl rfl (by omega) (by simp) (Nat.mul_one _) rfl ?_
      refine d_next2 8 10 (by kernel_rfl) rfl rfl ?_ ?_
      ·
       refine an_eload Tryz.underlying9 rfl rfl (get_mapD (f := vS) [] (l := usersL) (m := ui) hu2) rfl ?_
       refine Di 9 (t:=Ux (Ps [vS [], vS [], _, .slice none 0 0, .slice none 0 0, .slice none 0 0, _])) (k:=Dn 10 (k:=Nc [vS [], vS [], .int .i64 0, .slice none 0 0, .slice none 0 0, .slice none 0 0, vS []] (k:=fun b3 => Dn 11 (k:=Na (k:=Dd (k:=?_))))))
       exact to_inv b3 trivial ⟨rfl, rfl, rfl, trivial⟩ ent_pick
      ·
       refine Nc [vS [], vS [], .int .i64 0, .slice none 0 0, .slice none 0 0, .slice none 0 0, vS []] (k:=fun b3 => Dn 8 (k:=?_))
       refine an_eload Tryz.underlying9 rfl rfl (get_mapD (f := vS) [] (l := usersL) (m := ui) hu2) rfl ?_
       refine Di 9 (t:=Ux (Ps [vS [], vS [], _, .slice none 0 0, .slice none 0 0, .slice none 0 0, _])) (k:=Dn 11 (k:=Na (k:=Dd (k:=?_))))
       exact to_inv b3 trivial ⟨rfl, rfl, rfl, trivial⟩ ent_pick
     ·
      refine Nc [vS [], vS [], .int .i64 0, .slice none 0 0, .slice none 0 0, .slice none 0 0, vS []] (k:=fun b3 => Dn 7 (k:=?_))
      refine an_elemAddr (m := ui) (sz := 1) Tryz.underlying27 ti9 rfl rfl rfl rfl (by omega) (by simp) (Nat.mul_one _) rfl ?_
      refine Dn 8 (k:=?_)
      refine an_eload Tryz.underlying9 rfl rfl (get_mapD (f := vS) [] (l := usersL) (m := ui) hu2) rfl ?_
      refine Di 9 (t:=Ux (Ps [vS [], vS [], _, .slice none 0 0, .slice none 0 0, .slice none 0 0, _])) (k:=Dn 11 (k:=Na (k:=Dd (k:=?_))))
      exact to_inv b3 trivial ⟨rfl, rfl, rfl, trivial⟩ ent_pick
    ·
     refine Nc [vS [], vS [], .int .i64 0, .slice none 0 0, .slice none 0 0, .slice none 0 0, vS []] (k:=fun b3 => Dn 3 (k:=Nl [_, _] (cs := [_, _]) (k:=fun b13 => Dn 7 (k:=?_))))
     refine an_elemAddr (m := ui) (sz := 1) Tryz.underlying27 ti9 rfl rfl rfl rfl (by omega) (by simp) (Nat.mul_one _) rfl ?_
     refine Dn 8 (k:=?_)
     refine an_eload Tryz.underlying9 rfl rfl (get_mapD (f := vS) [] (l := usersL) (m := ui) hu2) rfl ?_
     refine Di 9 (t:=Ux (Ps [vS [], vS [], _, .slice none 0 0, .slice none 0 0, .slice none 0 0, _])) (k:=Dn 11 (k:=Na (k:=Dd (k:=?_))))
     exact to_inv b3 trivial ⟨rfl, rfl, rfl, trivial⟩ ent_pick
   ·
    refine Nc [vS [], vS [], .int .i64 0, .slice none 0 0, .slice none 0 0, .slice none 0 0, vS []] (k:=fun b3 => ?_)
    refine d_next2 3 6 (by kernel_rfl) rfl rfl ?_ ?_
    ·
     refine Nl [_, _] (cs := [_, _]) (k:=fun b13 => Dn 6 (k:=?_))
     refine an_callF (book_Within_sp u 0 1 (by omega) (by omega) (by omega)) rfl rfl rfl ?_
     rw [hui]
     refine Dn 7 (k:=?_)
     refine an_elemAddr (m := ui) (sz := 1) Tryz.underlying27 ti9 rfl rfl rfl rfl (by omega) (by simp) (Nat.mul_one _) rfl ?_
     refine Dn 8 (k:=?_)
     refine an_eload Tryz.underlying9 rfl rfl (get_mapD (f := vS) [] (l := usersL) (m := ui) hu2) rfl ?_
     refine Di 9 (t:=Ux (Ps [vS [], vS [], _, .slice none 0 0, .slice none 0 0, .slice none 0 0, _])) (k:=Dn 11 (k:=Na (k:=Dd (k:=?_))))
     exact to_inv b3 trivial ⟨rfl, rfl, rfl, trivial⟩ ent_pick
    ·
     refine an_callF (book_Within_sp u 0 1 (by omega) (by omega) (by omega)) rfl rfl rfl ?_
     rw [hui]
     refine Dn 3 (k:=Nl [_, _] (cs := [_, _]) (k:=fun b13 => Dn 7 (k:=?_)))
     refine an_elemAddr (m := ui) (sz := 1) Tryz.underlying27 ti9 rfl rfl rfl rfl (by omega) (by simp) (Nat.mul_one _) rfl ?_
     refine Dn 8 (k:=?_)
     refine an_eload Tryz.underlying9 rfl rfl (get_mapD (f := vS) [] (l := usersL) (m := ui) hu2) rfl ?_
     refine Di 9 (t:=Ux (Ps [vS [], vS [], _, .slice none 0 0, .slice none 0 0, .slice none 0 0, _])) (k:=Dn 11 (k:=Na (k:=Dd (k:=?_))))
     exact to_inv b3 trivial ⟨rfl, rfl, rfl, trivial⟩ ent_pick
  ·
   refine Nl [_, _] (cs := [_, _]) (k:=fun b13 => ?_)
   refine d_next2 2 10 (by kernel_rfl) rfl rfl ?_ ?_
   ·
    refine an_callF (book_Within_sp d 0 9 (by omega) (by omega) (by omega)) rfl rfl rfl ?_
    refine d_next2 6 10 (by kernel_rfl) rfl rfl ?_ ?_
    ·
     refine an_callF (book_Within_sp u 0 1 (by omega) (by omega) (by omega)) rfl rfl rfl ?_
     rw [hui]
     refine d_next2 7 10 (by kernel_rfl) rfl rfl ?_ ?_
     ·
      refine an_elemAddr (m := ui) (sz := 1) Tryz.underlying27 ti9 rfl rfl rfl rfl (by omega) (by simp) (Nat.mul_one _) rfl ?_
      refine d_next2 8 10 (by kernel_rfl) rfl rfl ?_ ?_
      ·
       refine an_eload Tryz.underlying9 rfl rfl (get_mapD (f := vS) [] (l := usersL) (m := ui) hu2) rfl ?_
       refine Di 9 (t:=Ux (Ps [vS [], vS [], _, .slice none 0 0, .slice none 0 0, .slice none 0 0, _])) (k:=Dn 10 (k:=Nc [vS [], vS [], .int .i64 0, .slice none 0 0, .slice none 0 0, .slice none 0 0, vS []] (k:=fun b3 => Dn 11 (k:=Na (k:=Dd (k:=?_))))))
       exact to_inv b3 trivial ⟨rfl, rfl, rfl, trivial⟩ ent_pick
      ·
       refine Nc [vS [], vS [], .int .i64 0, .slice none 0 0, .slice none 0 0, .slice none 0 0, vS []] (k:=fun b3 => Dn 8 (k:=?_))
       refine an_eload Tryz.underlying9 rfl rfl (get_mapD (f := vS) [] (l := usersL) (m := ui) hu2) rfl ?_
       refine Di 9 (t:=Ux (Ps [vS [], vS [], _, .slice none 0 0, .slice none 0 0, .slice none 0 0, _])) (k:=Dn 11 (k:=Na (k:=Dd (k:=?_))))
       exact to_inv b3 trivial ⟨rfl, rfl, rfl, trivial⟩ ent_pick
     ·
      refine Nc [vS [], vS [], .int .i64 0, .slice none 0 0, .slice none 0 0, .slice none 0 0, vS []] (k:=fun b3 => Dn 7 (k:=?_))
      refine an_elemAddr (m := ui) (sz := 1) Tryz.underlying27 ti9 rfl rfl rfl rfl (by omega) (by simp) (Nat.mul_one _) rfl ?_
      refine Dn 8 (k:=?_)
      refine an_eload Tryz.underlying9 rfl rfl (get_mapD (f := vS) [] (l := usersL) (m := ui) hu2) rfl ?_
      refine Di 9 (t:=Ux (Ps [vS [], vS [], _, .slice none 0 0, .slice none 0 0, .slice none 0 0, _])) (k:=Dn 11 (k:=Na (k:=Dd (k:=?_))))
      exact to_inv b3 trivial ⟨rfl, rfl, rfl, trivial⟩ ent_pick
    ·
     refine Nc [vS [], vS [], .int .i64 0, .slice none 0 0, .slice none 0 0, .slice none 0 0, vS []] (k:=fun b3 => Dn 6 (k:=?_))
     refine an_callF (book_Within_sp u 0 1 (by omega) (by omega) (by omega)) rfl rfl rfl ?_
     rw [hui]
     refine Dn 7 (k:=?_)
     refine an_elemAddr (m := ui) (sz := 1) Tryz.underlying27 ti9 rfl rfl rfl rfl (by omega) (by simp) (Nat.mul_one _) rfl ?_
     refine Dn 8 (k:=?_)
     refine an_eload Tryz.underlying9 rfl rfl (get_mapD (f := vS) [] (l := usersL) (m := ui) hu2) rfl ?_
     refine Di 9 (t:=Ux (Ps [vS [], vS [], _, .slice none 0 0, .slice none 0 0, .slice none 0 0, _])) (k:=Dn 11 (k:=Na (k:=Dd (k:=?_))))
     exact to_inv b3 trivial ⟨rfl, rfl, rfl, trivial⟩ ent_pick
   ·
    refine Nc [vS [], vS [], .int .i64 0, .slice none 0 0, .slice none 0 0, .slice none 0 0, vS []] (k:=fun b3 => Dn 2 (k:=?_))
    refine an_callF (book_Within_sp d 0 9 (by omega) (by omega) (by omega)) rfl rfl rfl ?_
    refine Dn 6 (k:=?_)
    refine an_callF (book_Within_sp u 0 1 (by omega) (by omega) (by omega)) rfl rfl rfl ?_
    rw [hui]
    refine Dn 7 (k:=?_)
    refine an_elemAddr (m := ui) (sz := 1) Tryz.underlying27 ti9 rfl rfl rfl rfl (by omega) (by simp) (Nat.mul_one _) rfl ?_
    refine Dn 8 (k:=?_)
    refine an_eload Tryz.underlying9 rfl rfl (get_mapD (f := vS) [] (l := usersL) (m := ui) hu2) rfl ?_
    refine Di 9 (t:=Ux (Ps [vS [], vS [], _, .slice none 0 0, .slice none 0 0, .slice none 0 0, _])) (k:=Dn 11 (k:=Na (k:=Dd (k:=?_))))
    exact to_inv b3 trivial ⟨rfl, rfl, rfl, trivial⟩ ent_pick
  ·
   refine Nc [vS [], vS [], .int .i64 0, .slice none 0 0, .slice none 0 0, .slice none 0 0, vS []] (k:=fun b3 => ?_)
   refine d_next2 2 3 (by kernel_rfl) rfl rfl ?_ ?_
   ·
    refine an_callF (book_Within_sp d 0 9 (by omega) (by omega) (by omega)) rfl rfl rfl ?_
    refine d_next2 3 6 (by kernel_rfl) rfl rfl ?_ ?_
    ·
     refine Nl [_, _] (cs := [_, _]) (k:=fun b13 => Dn 6 (k:=?_))
     refine an_callF (book_Within_sp u 0 1 (by omega) (by omega) (by omega)) rfl rfl rfl ?_
     rw [hui]
     refine Dn 7 (k:=?_)
     refine an_elemAddr (m := ui) (sz := 1) Tryz.underlying27 ti9 rfl rfl rfl rfl (by omega) (by simp) (Nat.mul_one _) rfl ?_
     refine Dn 8 (k:=?_)
     refine an_eload Tryz.underlying9 rfl rfl (get_mapD (f := vS) [] (l := usersL) (m := ui) hu2) rfl ?_
     refine Di 9 (t:=Ux (Ps [vS [], vS [], _, .slice none 0 0, .slice none 0 0, .slice none 0 0, _])) (k:=Dn 11 (k:=Na (k:=Dd (k:=?_))))
     exact to_inv b3 trivial ⟨rfl, rfl, rfl, trivial⟩ ent_pick
    ·
     refine an_callF (book_Within_sp u 0 1 (by omega) (by omega) (by omega)) rfl rfl rfl ?_
     rw [hui]
     refine Dn 3 (k:=Nl [_, _] (cs := [_, _]) (k:=fun b13 => Dn 7 (k:=?_)))
     refine an_elemAddr (m := ui) (sz := 1) Tryz.underlying27 ti9 rfl rfl rfl rfl (by omega) (by simp) (Nat.mul_one _) rfl ?_
     refine Dn 8 (k:=?_)
     refine an_eload Tryz.underlying9 rfl rfl (get_mapD (f := vS) [] (l := usersL) (m := ui) hu2) rfl ?_
     refine Di 9 (t:=Ux (Ps [vS [], vS [], _, .slice none 0 0, .slice none 0 0, .slice none 0 0, _])) (k:=Dn 11 (k:=Na (k:=Dd (k:=?_))))
     exact to_inv b3 trivial ⟨rfl, rfl, rfl, trivial⟩ ent_pick
   ·
    refine Nl [_, _] (cs := [_, _]) (k:=fun b13 => Dn 2 (k:=?_))
    refine an_callF (book_Within_sp d 0 9 (by omega) (by omega) (by omega)) rfl rfl rfl ?_
    refine Dn 6 (k:=?_)
    refine an_callF (book_Within_sp u 0 1 (by omega) (by omega) (by omega)) rfl rfl rfl ?_
    rw [hui]
    refine Dn 7 (k:=?_)
    refine an_elemAddr (m := ui) (sz := 1) Tryz.underlying27 ti9 rfl rfl rfl rfl (by omega) (by simp) (Nat.mul_one _) rfl ?_
    refine Dn 8 (k:=?_)
    refine an_eload Tryz.underlying9 rfl rfl (get_mapD (f := vS) [] (l := usersL) (m := ui) hu2) rfl ?_
    refine Di 9 (t:=Ux (Ps [vS [], vS [], _, .slice none 0 0, .slice none 0 0, .slice none 0 0, _])) (k:=Dn 11 (k:=Na (k:=Dd (k:=?_))))
    exact to_inv b3 trivial ⟨rfl, rfl, rfl, trivial⟩ ent_pick
end Go.Proofs.YtibccdcemcgkeaaGreat
end
section
set_option maxRecDepth 1000000
namespace Go.Proofs.YtibccdcemcgkeaaGreat
theorem noZ_readC {s : Bs} (h : (90 : UInt8) ∉ s) : readC s = none := readC_none.2 fun l hl => h (by rw [← hl.2, printB, sealB]; simp)
theorem readC_nk {s : Bs} (h : readC s = none) : readK s = none ∧ readCt s = none ∧ readCl s = none := by
 refine ⟨the_none fun c hc => ?_, the_none fun c hc => ?_, the_none fun c hc => ?_⟩ <;> (rw [readC_iff.2 hc.reads] at h; cases h)
theorem kind_none {s : Bs} (h : readC s = none) : kindN s = 1 ∧ namesR s = [] := by
 obtain ⟨h1, h2, h3⟩ := readC_nk h
 refine ⟨by simp [kindN, h1, h2, h3], ?_⟩
 rw [← outC_names]
 simp [outC, outT, outK, h1, h2, h3]
theorem kindN_K {s : Bs} {c : Ck} (h : readK s = some c) : kindN s = 2 := by simp [kindN, h]
theorem text_one : kindN "text".toUTF8.data.toList = 1 := (kind_none (noZ_readC (by decide))).1
theorem names_isN {s x : Bs} (h : x ∈ namesR s) : isN x = true := by
 rw [← outC_names] at h
 unfold outC at h
 cases hl : readCl s with
 | some l => rw [hl] at h; exact right_names (readCl_iff.1 hl).1 x h
 | none =>
   rw [hl] at h
   dsimp only at h
   have hk : x ∈ outK s → isN x = true := fun h => by
    unfold outK at h
    cases hk : readK s with
    | none => rw [hk] at h; cases h
    | some c =>
      rw [hk] at h
      dsimp only at h
      have hR := (readK_iff.1 hk).1
      rcases (putA_mem _ _ x).1 h with e | e
      · cases e
      · simp only [nsK, List.mem_append, List.mem_filter, List.mem_map] at e
        rcases e with (e | ⟨⟨f, hf, rfl⟩, hne⟩) | e
        · by_cases e2 : c.base = []
          · rw [if_pos e2] at e; cases e
          · rw [if_neg e2, List.mem_singleton] at e
            rw [e]; exact hR.base.resolve_left e2
        · exact (right_files hR f hf).resolve_left (by simpa using hne)
        · exact right_parents hR x e
   unfold outT at h
   cases ht : readCt s with
   | none => rw [ht] at h; exact hk h
   | some c =>
     rw [ht] at h
     dsimp only at h
     rcases (putA_mem _ _ x).1 h with e | e
     · exact hk e
     · obtain ⟨t, h2, rfl⟩ := List.mem_map.1 e
       exact right_targets (readCt_iff.1 ht).1 t h2
abbrev shA : Bs := shaB [97]
abbrev shB : Bs := shaB [98]
theorem sha_ab : shA ≠ shB := by decide +kernel
/-- The check-in that every law looks at. -/
def ckR : Ck := ⟨[], [], 0, [([102], shA)], [shB], [], [109, 101]⟩
theorem ckR_right : RightK ckR := by
 refine ⟨.inl rfl, Nat.zero_le _, by decide, ⟨fun i hi => ?_, by decide⟩, ⟨fun i hi => ?_, by decide⟩, ⟨fun i hi => by simp [ckR] at hi, by decide⟩, by decide⟩
 · have h0 : i = 0 := by simp [ckR] at hi; omega
   subst h0
   exact ⟨by decide, fun h => by omega, .inl (isN_sha _)⟩
 · have h0 : i = 0 := by simp [ckR] at hi; omega
   subst h0
   exact ⟨isN_sha _, by simp⟩
theorem ckR_z : CkZ ckR := by
 have h1 : shA.length = 40 := shaB_len _
 have h2 : shB.length = 40 := shaB_len _
 refine ⟨Nat.zero_le _, Nat.zero_le _, by decide, by decide, fun f hf => ?_, by decide, fun p hp => ?_, ⟨by decide, fun t ht => by cases ht⟩⟩
 · rw [show f = ([102], shA) from List.mem_singleton.1 hf]; dsimp only [List.length_cons, List.length_nil]; omega
 · rw [show p = shB from List.mem_singleton.1 hp]; omega
theorem ckR_read : readK (ckB ckR) = some ckR := readK_iff.2 ⟨ckR_right, rfl⟩
theorem ckR_names (x : Bs) : x ∈ namesR (ckB ckR) ↔ x = shA ∨ x = shB := by
 have h1 : shA.length = 40 := shaB_len _
 have h2 : shB.length = 40 := shaB_len _
 rw [namesR_mem, namesP, ckR_read]
 simp only [ckR, List.map_cons, List.map_nil, List.mem_append, List.mem_cons, List.not_mem_nil, or_false]
 constructor
 · rintro ⟨(h | h) | h, hn⟩
   · exact absurd h hn
   · exact .inr h
   · exact .inl h
 · rintro (h | h)
   · exact ⟨.inr h, by rw [h]; intro e; rw [e] at h1; cases h1⟩
   · exact ⟨.inl (.inr h), by rw [h]; intro e; rw [e] at h2; cases h2⟩
theorem ckR_two : (namesR (ckB ckR)).length = 2 := by
 have hs := namesR_sorted (ckB ckR)
 have hn : (namesR (ckB ckR)).Nodup := hs.imp fun h e => by subst e; exact absurd h (List.lt_irrefl _)
 have h2 : ([shA, shB] : List Bs).Nodup := by simp [sha_ab]
 have := (List.perm_ext_iff_of_nodup hn h2).2 (fun x => by rw [ckR_names]; simp)
 exact this.length_eq
theorem ckR_self : ckB ckR ∉ namesR (ckB ckR) := fun h => by
 have := isN_len (names_isN h)
 rw [ckB, printB, sealB_len] at this; omega
end Go.Proofs.YtibccdcemcgkeaaGreat
end
section
namespace Go.Proofs.YtibccdcemcgkeaaGreat
def ksOf (l : List Bs) : Ks := l.foldl (fun ks x => mput ks x (vB true)) []
theorem ksOf_snoc (l : List Bs) (x : Bs) : ksOf (l ++ [x]) = mput (ksOf l) x (vB true) := by simp [ksOf]
theorem ksOf_nodup (l : List Bs) : ((ksOf l).map (·.1)).Nodup := by
 induction l using list_snoc_ind with
 | h0 => exact .nil
 | h1 l x ih => rw [ksOf_snoc]; exact mput_nodup ih x _
theorem ksOf_look (l : List Bs) (x : Bs) : mlook (ksOf l) x = if x ∈ l then some (vB true) else none := by
 induction l using list_snoc_ind with
 | h0 => rfl
 | h1 l y ih =>
   rw [ksOf_snoc, mlook_mput, ih]
   by_cases h : y = x
   · simp [h]
   · simp [h, Ne.symm h]
theorem ksOf_keys (l : List Bs) (x : Bs) : x ∈ (ksOf l).map (·.1) ↔ x ∈ l := by
 rw [← mlook_isSome, ksOf_look]
 by_cases h : x ∈ l <;> simp [h]
/-- As many keys as names, where both have the same members. -/
theorem ksOf_len {l m : List Bs} (hm : m.Pairwise (· < ·)) (h : ∀ x, x ∈ l ↔ x ∈ m) : (ksOf l).length = m.length := by
 have hn : m.Nodup := hm.imp fun h e => by subst e; exact absurd h (List.lt_irrefl _)
 have := (List.perm_ext_iff_of_nodup (ksOf_nodup l) hn).2 (fun x => by rw [ksOf_keys, h])
 have := this.length_eq
 rwa [List.length_map] at this
theorem namesK_mem {s : Bs} {c : Ck} (h : readK s = some c) (x : Bs) : x ∈ nsK c ↔ x ∈ namesR s := by
 have ht : readCt s = none := by
  cases e : readCt s with
  | none => rfl
  | some k => rw [only_ct e] at h; cases h
 have hl : readCl s = none := by
  cases e : readCl s with
  | none => rfl
  | some k => rw [(only_cl e).1] at h; cases h
 rw [← outC_names]
 simp only [outC, hl, outT, ht, outK, h]
 rw [putA_mem]; simp
end Go.Proofs.YtibccdcemcgkeaaGreat
end
section
set_option maxRecDepth 100000
namespace Go.Proofs.YtibccdcemcgkeaaGreat
theorem sla_nil {B : HP} {a : Option Addr} : SlA B a [] := fun _ => .inl rfl
set_option maxHeartbeats 1000000 in
theorem KindRuns_sp : Sp1 Tryz.prog 3 [] [] (vB true) [] := by
 have hbz := ck_small ckR_right
 have hsl : (ckB ckR).length ≤ 1073741824 := by rw [ckB, printB, sealB_len]; omega
 have hself := ckR_self
 have htwo := ckR_two
 have hmem := ckR_names
 have hkind := kindN_K ckR_read
 refine Sp.body (n := 52) Tryz.call3 Tryz.func3 rfl rfl rfl ?_
 refine Za (k:=Zr (k:=Zc [.bool false] (k:=fun b0 => Wq (Za (k:=Zr (k:=?_))))))
 refine r_callF (ref1_Sum_sp [97] (by decide)) rfl rfl rfl ?_
 refine r_callF (ref1_Sum_sp [98] (by decide)) rfl rfl rfl ?_
 refine Zc [vS []] (k:=fun b1 => Zc [vS []] (k:=fun b2 => Zo (k:=Zo (k:=Wq (Za (k:=Zr (k:=Zd (k:=Vx (Ps [_, _]) (k:=Zv [_] (cs := [_, _]) (k:=fun b10 => Zd (k:=Zv [_] (cs := [_]) (k:=fun b12 => ?_))))))))))))
 refine Vx (Ps [vS [], vS [], .int .i64 0, _, _, .slice none 0 0, _]) (k:=?_)
 refine wo_frzC b12 ?_
 refine wo_ent' sli_nil ?_
 refine wo_ent' (Gs := [Ce b10 25 [vS [102], vS shA], SlI (some ⟨b12, 0, none⟩) [vS shB], SlI none [], Ce b2 9 [vS shB], Ce b1 9 [vS shA], Ce b0 4 [vB false]]) (ent_step (ce_norm (by rfl) (by rfl)) ent_pick) ?_
 have hCk : Sp1 Tryz.prog 14 [.agg #[vS [], vS [], vI 0, .slice (some ⟨b10, 0, none⟩) 1 1, .slice (some ⟨b12, 0, none⟩) 1 1, .slice none 0 0, vS [109, 101]]] [Ce b10 25 [vS [102], vS shA], SlI (some ⟨b12, 0, none⟩) [vS shB], SlI none []] (vS (ckB ckR)) [Ce b10 25 [vS [102], vS shA], SlI none []] :=
  ref10_Checkin_sp ⟨some ⟨b10, 0, none⟩, 1, some ⟨b12, 0, none⟩, 1, none, 0⟩ ckR ckR_z (by decide) (by omega) sla_ce sla_nil (Nat.le_refl _)
 refine r_call1 hCk rfl rfl rfl ?_
 generalize ckB ckR = s at hsl hself htwo hmem hkind ⊢
 have hk1 := text_one
 refine Vv (k:=Wq (Za (k:=Za (k:=Zr (k:=?_)))))
 refine r_callF (kind_Of_sp "text".toUTF8.data.toList (by decide)) rfl rfl rfl ?_
 refine Vv (k:=Wq (Zi (t:=fun h16 => ?_) (f:=fun h16 => ?_)))
 ·
  exact absurd hk1 h16
  --done
 ·
  refine Zk (k:=Ya (Za (k:=Zr (k:=Zc [.int .i64 0] (k:=fun b4 => Zo (k:=Wq (Za (k:=Za (k:=Zr (k:=Vv (k:=?_)))))))))))
  refine r_callX (kind_Names_sp s) rfl rfl rfl (fun x18 _ => ?_)
  refine Wq (Zb (k:=?_))
  refine p_rangeFunc (fun pre => [Ce b4 3 [vI pre.length], Ce b2 9 [vS shB], Ce b1 9 [vS shA], Ce b0 4 [vB false]]) (fun j pre => [Pu False]) rfl (kind_Names_it s hsl x18) rfl (fun _ => by rfl) rfl ?_ (fun l pre w hok => ?_) ?_ (fun j pre hs => ?_)
  · (refine ent_app ?_; exact ent_pick)
  ·
   obtain ⟨rr, hrr⟩ := hok
   have hin : w = shA ∨ w = shB := (hmem w).1 (by rw [hrr]; simp)
   have hpl : pre.length < 2 := by
    have := congrArg List.length hrr
    rw [htwo] at this; simp at this; omega
   refine Zr (k:=Vv (k:=Wg (Zb (k:=Za (k:=Za (k:=Zr (k:=Vv (k:=Zd (k:=Vv (k:=Vv (k:=Gi 3 (t:=fun h23 => ?_) (f:=fun h23 => ?_))))))))))))
   ·
    refine I1 (k:=Vv (k:=I1 (k:=Zd (k:=I1 (k:=Vv (k:=P1 (k:=Wq (Zi (t:=fun h27 => ?_) (f:=fun h27 => ?_)))))))))
    ·
     refine Za (k:=Zr (k:=Zo (k:=Wq (Zt (k:=Va (Vb ?_))))))
     exfalso
     rcases hin with h | h
     · first | exact h23 h | exact h27 h
     · first | exact h27 h | exact h26 h
    ·
     refine Zk (k:=Ya (Zr (k:=Zd (k:=Vv (k:=Zo (k:=Wn (Yb ?_)))))))
     refine to_round ?_
     exact ent_step (ce_norm (by rfl) (by simp)) ent_pick
   ·
    refine O0 (k:=O0 (k:=O0 (k:=P0 (k:=Wq (Z0 (k:=Zk (k:=Ya (Zr (k:=Zd (k:=Vv (k:=Zo (k:=?_))))))))))))
    refine Wn (Yb ?_)
    refine to_round ?_
    exact ent_step (ce_norm (by rfl) (by simp)) ent_pick
  ·
   skip
   refine Yb (Ya (Za (k:=Zr (k:=Zd (k:=Vv (k:=Vv (k:=Gi 2 (t:=fun h32 => ?_) (f:=fun h32 => ?_))))))))
   ·
    refine I1 (k:=Vv (k:=I1 (k:=?_)))
    refine r_callF (kind_Of_sp s hsl) rfl rfl rfl ?_
    refine I1 (k:=Vv (k:=P1 (k:=Vv (k:=Gi 7 (t:=fun h37 => ?_) (f:=fun h37 => ?_)))))
    ·
     refine I1 (k:=?_)
     refine r_callF (kind_Of_sp "text".toUTF8.data.toList (by decide)) rfl rfl rfl ?_
     refine I1 (k:=Vv (k:=P1 (k:=Vv (k:=Gi 11 (t:=fun h41 => ?_) (f:=fun h41 => ?_)))))
     ·
      refine I1 (k:=Vv (k:=I1 (k:=Zd (k:=I1 (k:=?_)))))
      refine r_callF (kind_Speaks_sp s shB hsl) rfl rfl rfl ?_
      refine P1 (k:=Vv (k:=Gi 16 (t:=fun h46 => ?_) (f:=fun h46 => ?_)))
      ·
       refine I1 (k:=Vv (k:=I1 (k:=Vv (k:=I1 (k:=?_)))))
       refine r_callF (kind_Speaks_sp s s hsl) rfl rfl rfl ?_
       rw [decide_eq_false hself]
       refine I1 (k:=Vv (k:=P1 (k:=Zo (k:=Wq (Zt (k:=?_))))))
       exact fin_ret () (vs := [_]) (Cs := [Ce b0 4 [vB true]]) rfl (.cell1 (l := [vB true]) rfl (shows_ce (T := 4)) Tryz.underlying4 rfl rfl .nil) rfl trivial (ent_step (ce_norm (by rfl) (by rfl)) ent_nil)
      ·
       exact absurd ((hmem shB).2 (.inr rfl)) h46
       --done
     ·
      exact absurd hk1 h41
      --done
    ·
     exact absurd hkind h37
     --done
   ·
    exact absurd (show ((namesR s).length : Int) = 2 by omega) h32
    --done
  ·
   exact wc_no (fun s => by obtain ⟨_, _, _, _, a, _⟩ := s; exact a)
end Go.Proofs.YtibccdcemcgkeaaGreat
end
