/- Texts of this proof, put together: SKeep2, SKeep3. -/
import Derived.Test.YtibccdcemcgkeaaGreatQ08
import Derived.Test.YtibccdcemcgkeaaGreatQ22
set_option linter.unusedVariables false
set_option linter.unusedSimpArgs false
section
set_option maxRecDepth 100000
namespace Go.Proofs.YtibccdcemcgkeaaGreat
set_option maxHeartbeats 2000000 in
theorem keep_tagOps_sp {Bt Bv : HP} {ta va : Option Addr} (tc vc : Nat) (tags vals : List Int) (own : Bool) (ht : tags.length ≤ 9223372036854775807) (hv : vals.length ≤ 9223372036854775807) (sht : SlA Bt ta (tags.map vI)) (shv : SlA Bv va (vals.map vI)) :
    Sp Tryz.prog 74 [.slice ta tags.length tc, .slice va vals.length vc, vB own] [Bt, Bv] (X := (Option Addr × Nat) × List Tg) tagV (fun x => KTags own 6 x.2) (fun x => [tagH x, Bt, Bv]) := by
 haveI : RdSl ta (tags.map vI) [Bt, Bv] := ⟨⟨Bt, sht, .here⟩⟩
 refine Sp.body (n := 64) Tryz.call74 Tryz.func74 rfl rfl rfl ?_
 refine Za (k:=Zr (k:=Vv (k:=Wq (Za (k:=Zr (k:=Vv (k:=Wq (Za (k:=Za (k:=Zr (k:=?_)))))))))))
 refine r_callX keep_words_sp rfl rfl rfl (fun x12 _ => ?_)
 refine Vv (k:=Vv (k:=Wq (Zb (k:=?_))))
 refine p_loop (fun (i : { x : ((Option Addr × Nat) × List Tg) × Nat // x.2 ≤ 6 ∧ KTags own x.2 x.1.2 }) => [(0, .slice ta tags.length tc), (1, .slice va vals.length vc), (2, vB own), (7, .slice i.1.1.1.1 (i.1.1.2).length i.1.1.1.2), (12, .slice (some ⟨x12, 0, none⟩) 6 6), (13, vI 6), (14, vI i.1.2)]) (fun (i : { x : ((Option Addr × Nat) × List Tg) × Nat // x.2 ≤ 6 ∧ KTags own x.2 x.1.2 }) => [Row 66 4 (.slice i.1.1.1.1 (i.1.1.2).length i.1.1.1.2) (i.1.1.2).length ((i.1.1.2).flatMap tgCells), Ce x12 9 (wordsL.map vS), Bt, Bv]) (fun (i : { x : ((Option Addr × Nat) × List Tg) × Nat // x.2 ≤ 6 ∧ KTags own x.2 x.1.2 }) => 6 - i.1.2) rfl (⟨(((none, 0), []), 0), Nat.zero_le _, ⟨Nat.zero_le _, (fun _ h => by cases h), (fun _ h => by cases h), .nil⟩⟩) ?_ ?_ (fun i => ?_)
 · exact ⟨rfl, rfl, rfl, rfl, rfl, rfl, rfl, trivial⟩
 ·
  exact (row_nil (e := 66) (sz := 4)).trans (show Ent _ [Row 66 4 (.slice none 0 0) 0 [], Ce x12 9 (wordsL.map vS), Bt, Bv] from ent_pick)
 obtain ⟨⟨⟨⟨oa, oc⟩, out⟩, j⟩, hj, hK⟩ := i
 dsimp only at hj hK ⊢
 have hol := hK.len
 try dsimp only
 refine Za (k:=Zr (k:=Vv (k:=Wq (Za (k:=Zi (t:=fun h15 => ?_) (f:=fun h15 => ?_))))))
 ·
  refine Zk (k:=Ya (Za (k:=Zb (k:=Za (k:=?_)))))
  have hj6 : j < 6 := by omega
  have hwl : wordsL.length = 6 := rfl
  obtain ⟨w, hw⟩ : ∃ w, w = wordsL.getD j [] := ⟨_, rfl⟩
  have hwz := (words_ok j hj6).2
  rw [← hw] at hwz
  refine Zr (k:=Vv (k:=Ye 1 (k:=?_)))
  refine r_eload Tryz.underlying9 rfl rfl (get_mapD [] (m := j) (by omega)) rfl ?_
  rw [← hw]
  refine Vv (k:=Vv (k:=Wq (Za (k:=Zr (k:=Vv (k:=Wq ?_))))))
  refine p_cut (fun (i : { n : Int // 0 ≤ n ∧ n ≤ 7 }) => [(0, .slice ta tags.length tc), (1, .slice va vals.length vc), (2, vB own), (7, .slice oa (out).length oc), (8, vI j), (9, vS w), (10, vI i.1), (12, .slice (some ⟨x12, 0, none⟩) 6 6), (13, vI 6), (14, vI j)]) (fun (i : { n : Int // 0 ≤ n ∧ n ≤ 7 }) => [Row 66 4 (.slice oa (out).length oc) (out).length ((out).flatMap tgCells), Ce x12 9 (wordsL.map vS), Bt, Bv]) rfl (fun i => ?_) ?_
  ·
   obtain ⟨n, hn0, hn7⟩ := i
   dsimp only
   try dsimp only
   refine Za (k:=Za (k:=Zr (k:=Vv (k:=Vv (k:=Vv (k:=Gi 2 (t:=fun h30 => ?_) (f:=fun h30 => ?_)))))))
   ·
    refine O1 (k:=O1 (k:=O1 (k:=P1 (k:=Wq (Z1 (k:=Ze (k:=Xa (Xb (Ya (Zr (k:=Vv (k:=?_))))))))))))
    refine Vv (k:=Wn ?_)
    first
    | exact to_inv ⟨(((oa, oc), out), j + 1), by dsimp only; omega, hK.more⟩ (by dsimp only; omega) ⟨rfl, rfl, rfl, rfl, rfl, rfl, rfl, trivial⟩ ent_pick
    | (have hsn := hK.snoc (t := ⟨kd, w, tg, tv⟩) hj6 (by omega) ⟨by dsimp only; rcases hkd with h | h | h; exact .inl h; exact .inr (.inl h); exact .inr (.inr ⟨h, htv2 h⟩), htv1, htg⟩ hw
       have hql2 : (out ++ [(⟨kd, w, tg, tv⟩ : Tg)]).length = out.length + 1 := by simp
       refine to_inv ⟨(((a61, c61), out ++ [⟨kd, w, tg, tv⟩]), j + 1), by dsimp only; omega, hsn⟩ (by dsimp only; omega) ⟨rfl, rfl, rfl, sl_eq hql2.symm, rfl, rfl, rfl, trivial⟩ ?_
       dsimp only
       rw [hql2]
       exact ent_step (row_norm (by rfl) (by rw [fm_snoc]; rfl)) ent_pick)
   ·
    refine I0 (k:=Vv (k:=I0 (k:=Vv (k:=I0 (k:=Vv (k:=P0 (k:=Wq (Zi (t:=fun h34 => ?_) (f:=fun h34 => ?_)))))))))
    ·
     refine Ze (k:=Xa (Xb (Ya (Zr (k:=Vv (k:=Vv (k:=Wn ?_)))))))
     first
     | exact to_inv ⟨(((oa, oc), out), j + 1), by dsimp only; omega, hK.more⟩ (by dsimp only; omega) ⟨rfl, rfl, rfl, rfl, rfl, rfl, rfl, trivial⟩ ent_pick
     | (have hsn := hK.snoc (t := ⟨kd, w, tg, tv⟩) hj6 (by omega) ⟨by dsimp only; rcases hkd with h | h | h; exact .inl h; exact .inr (.inl h); exact .inr (.inr ⟨h, htv2 h⟩), htv1, htg⟩ hw
        have hql2 : (out ++ [(⟨kd, w, tg, tv⟩ : Tg)]).length = out.length + 1 := by simp
        refine to_inv ⟨(((a61, c61), out ++ [⟨kd, w, tg, tv⟩]), j + 1), by dsimp only; omega, hsn⟩ (by dsimp only; omega) ⟨rfl, rfl, rfl, sl_eq hql2.symm, rfl, rfl, rfl, trivial⟩ ?_
        dsimp only
        rw [hql2]
        exact ent_step (row_norm (by rfl) (by rw [fm_snoc]; rfl)) ent_pick)
    ·
     refine Zk (k:=Ya (Za (k:=?_)))
     obtain ⟨m, hm⟩ : ∃ m : Nat, n = 4 + (m : Int) := ⟨(n - 4).toNat, by omega⟩
     have hm4 : m < 4 := by omega
     have hkd := kindC_ok m hm4
     refine Zr (k:=Vv (k:=Vv (k:=?_)))
     refine wo_pv (pv_indexm (m := m) Tryz.underlying9 rfl rfl (by omega) (show m < 4 from hm4)) rfl ?_
     change wo _ _ _ _ _ ((37, vU ((kindC.getD m 0).toNat : Int)) :: _) _ _
     generalize kindC.getD m 0 = kd at hkd ⊢
     refine Vv (k:=Vx (Ps [_, _, _, vS []]) (k:=Zc [.int .u8 0, vS [], vS [], vS []] (k:=fun b11 => Zp (k:=Wq ?_))))
     refine p_cut (fun (tg : { tg : Bs // TgtOk own tg }) => [(0, .slice ta tags.length tc), (1, .slice va vals.length vc), (2, vB own), (7, .slice oa (out).length oc), (8, vI j), (9, vS w), (11, .pointer (some ⟨b11, 0, none⟩)), (12, .slice (some ⟨x12, 0, none⟩) 6 6), (13, vI 6), (14, vI j)]) (fun (tg : { tg : Bs // TgtOk own tg }) => [Ce b11 66 [vU (kd.toNat : Int), vS w, vS tg.1, vS []], Row 66 4 (.slice oa (out).length oc) (out).length ((out).flatMap tgCells), Ce x12 9 (wordsL.map vS), Bt, Bv]) rfl (fun tg => ?_) ?_
     ·
      obtain ⟨tg, htg⟩ := tg
      dsimp only
      try dsimp only
      refine p_cut (fun (tv : { tv : Bs // tv.length ≤ 12 ∧ (kd.toNat = 45 → tv = []) }) => [(0, .slice ta tags.length tc), (1, .slice va vals.length vc), (2, vB own), (7, .slice oa (out).length oc), (8, vI j), (9, vS w), (11, .pointer (some ⟨b11, 0, none⟩)), (12, .slice (some ⟨x12, 0, none⟩) 6 6), (13, vI 6), (14, vI j)]) (fun (tv : { tv : Bs // tv.length ≤ 12 ∧ (kd.toNat = 45 → tv = []) }) => [Ce b11 66 [vU (kd.toNat : Int), vS w, vS tg, vS tv.1], Row 66 4 (.slice oa (out).length oc) (out).length ((out).flatMap tgCells), Ce x12 9 (wordsL.map vS), Bt, Bv]) rfl (fun tv => ?_) ?_
      ·
       obtain ⟨tv, htv1, htv2⟩ := tv
       dsimp only
       try dsimp only
       refine Zr (k:=Vv (k:=Zm [_, _, _, _] (k:=Zv [_] (cs := [_, _, _, _]) (k:=fun b60 => ?_))))
       refine r_append1 (sz := 4) (bytes := 56) Tryz.underlying28 ti66 rfl rfl rfl rfl rfl rfl rfl (by rfl) (by rfl) (by omega) (by simp only [maxLen]; omega) rfl (fun a61 c61 => ?_)
       refine Vv (k:=Wn (Yb (Ya (Zr (k:=Vv (k:=Vv (k:=Wn ?_)))))))
       first
       | exact to_inv ⟨(((oa, oc), out), j + 1), by dsimp only; omega, hK.more⟩ (by dsimp only; omega) ⟨rfl, rfl, rfl, rfl, rfl, rfl, rfl, trivial⟩ ent_pick
       | (have hsn := hK.snoc (t := ⟨kd, w, tg, tv⟩) hj6 (by omega) ⟨by dsimp only; rcases hkd with h | h | h; exact .inl h; exact .inr (.inl h); exact .inr (.inr ⟨h, htv2 h⟩), htv1, htg⟩ hw
          have hql2 : (out ++ [(⟨kd, w, tg, tv⟩ : Tg)]).length = out.length + 1 := by simp
          refine to_inv ⟨(((a61, c61), out ++ [⟨kd, w, tg, tv⟩]), j + 1), by dsimp only; omega, hsn⟩ (by dsimp only; omega) ⟨rfl, rfl, rfl, sl_eq hql2.symm, rfl, rfl, rfl, trivial⟩ ?_
          dsimp only
          rw [hql2]
          exact ent_step (row_norm (by rfl) (by rw [fm_snoc]; rfl)) ent_pick)
      ·
       refine Za (k:=Zr (k:=Vf 0 5 (k:=Zd (k:=Vv (k:=Wq (Zi (t:=fun h49 => ?_) (f:=fun h49 => ?_)))))))
       ·
        refine Zr (k:=Zv [_, _, _, _] (cs := [_, _, _, _]) (k:=fun b50 => ?_))
        refine wo_ent' (Gs := [Ce b50 9 (tvalL.map vS), Ce b11 66 [vU (kd.toNat : Int), vS w, vS tg, vS []], Row 66 4 (.slice oa (out).length oc) (out).length ((out).flatMap tgCells), Ce x12 9 (wordsL.map vS), Bt, Bv]) (ent_step (ce_norm (by rfl) (by rfl)) ent_pick) ?_
        refine Vv (k:=Vv (k:=?_))
        refine r_call1 (keep_pick_sp vc vals j (by omega) hv shv) rfl rfl rfl ?_
        refine r_callF (book_Within_sp (pickI vals j) 0 3 (by omega) (by omega) (by omega)) rfl rfl rfl ?_
        have hwi := withinI_in (n := pickI vals j) (show (0 : Int) ≤ 3 by omega)
        obtain ⟨v, hv4⟩ : ∃ v : Nat, withinI (pickI vals j) 0 3 = (v : Int) := ⟨(withinI (pickI vals j) 0 3).toNat, by omega⟩
        have hvl : tvalL.length = 4 := rfl
        rw [hv4]
        refine Ye 1 (k:=?_)
        refine r_eload Tryz.underlying9 rfl rfl (get_mapD [] (m := v) (by omega)) rfl ?_
        refine Vf 3 9 (k:=Zo (k:=Wn ?_))
        first
        | exact to_inv ⟨tvalL.getD v [], tvalL_len v, fun h => by omega⟩ trivial ⟨rfl, rfl, rfl, rfl, rfl, rfl, rfl, rfl, rfl, rfl, trivial⟩ ent_pick
        | exact to_inv ⟨[], Nat.zero_le _, fun h => rfl⟩ trivial ⟨rfl, rfl, rfl, rfl, rfl, rfl, rfl, rfl, rfl, rfl, trivial⟩ ent_pick
       ·
        refine Zk (k:=?_)
        first
        | exact to_inv ⟨tvalL.getD v [], tvalL_len v, fun h => by omega⟩ trivial ⟨rfl, rfl, rfl, rfl, rfl, rfl, rfl, rfl, rfl, rfl, trivial⟩ ent_pick
        | exact to_inv ⟨[], Nat.zero_le _, fun h => rfl⟩ trivial ⟨rfl, rfl, rfl, rfl, rfl, rfl, rfl, rfl, rfl, rfl, trivial⟩ ent_pick
     ·
      refine Za (k:=Zr (k:=Vv (k:=Vv (k:=Wq (Zi (t:=fun h41 => ?_) (f:=fun h41 => ?_))))))
      ·
       refine Zr (k:=Vv (k:=Vv (k:=?_)))
       refine r_call1 (keep_pick_sp vc vals j (by omega) hv shv) rfl rfl rfl ?_
       refine r_callF (keep_Name_sp _) rfl rfl rfl ?_
       refine Vf 2 9 (k:=Zo (k:=Wn ?_))
       first
       | (have ho : own = false := by simpa using h41
          have htg : TgtOk own (nameB (pickI vals j)) := ⟨(fun h => by rw [ho] at h; cases h), fun _ => ⟨_, rfl⟩⟩
          exact to_inv ⟨nameB (pickI vals j), htg⟩ trivial ⟨rfl, rfl, rfl, rfl, rfl, rfl, rfl, rfl, rfl, rfl, trivial⟩ ent_pick)
       | (have ho : own = true := by simpa using h41
          have htg : TgtOk own [42] := ⟨fun _ => rfl, (fun h => by rw [ho] at h; cases h)⟩
          exact to_inv ⟨[42], htg⟩ trivial ⟨rfl, rfl, rfl, rfl, rfl, rfl, rfl, rfl, rfl, rfl, trivial⟩ ent_pick)
      ·
       refine Zk (k:=?_)
       first
       | (have ho : own = false := by simpa using h41
          have htg : TgtOk own (nameB (pickI vals j)) := ⟨(fun h => by rw [ho] at h; cases h), fun _ => ⟨_, rfl⟩⟩
          exact to_inv ⟨nameB (pickI vals j), htg⟩ trivial ⟨rfl, rfl, rfl, rfl, rfl, rfl, rfl, rfl, rfl, rfl, trivial⟩ ent_pick)
       | (have ho : own = true := by simpa using h41
          have htg : TgtOk own [42] := ⟨fun _ => rfl, (fun h => by rw [ho] at h; cases h)⟩
          exact to_inv ⟨[42], htg⟩ trivial ⟨rfl, rfl, rfl, rfl, rfl, rfl, rfl, rfl, rfl, rfl, trivial⟩ ent_pick)
  ·
   refine Za (k:=Zr (k:=Vv (k:=Vv (k:=Vv (k:=Vv (k:=Wq (Zi (t:=fun h22 => ?_) (f:=fun h22 => ?_))))))))
   ·
    refine Zr (k:=Vv (k:=Vv (k:=Ye 1 (k:=?_))))
    refine r_eload Tryz.underlying3 rfl rfl (get_mapD 0 (m := j) (by omega)) rfl ?_
    refine r_callF (book_Within_sp (tags.getD j 0) 0 7 (by omega) (by omega) (by omega)) rfl rfl rfl ?_
    have hwi := withinI_in (n := tags.getD j 0) (show (0 : Int) ≤ 7 by omega)
    refine Vv (k:=Wn ?_)
    first
    | exact to_inv ⟨withinI (tags.getD j 0) 0 7, hwi⟩ trivial ⟨rfl, rfl, rfl, rfl, rfl, rfl, rfl, rfl, rfl, rfl, trivial⟩ ent_pick
    | exact to_inv ⟨0, by omega, by omega⟩ trivial ⟨rfl, rfl, rfl, rfl, rfl, rfl, rfl, rfl, rfl, rfl, trivial⟩ ent_pick
   ·
    refine Zk (k:=?_)
    first
    | exact to_inv ⟨withinI (tags.getD j 0) 0 7, hwi⟩ trivial ⟨rfl, rfl, rfl, rfl, rfl, rfl, rfl, rfl, rfl, rfl, trivial⟩ ent_pick
    | exact to_inv ⟨0, by omega, by omega⟩ trivial ⟨rfl, rfl, rfl, rfl, rfl, rfl, rfl, rfl, rfl, rfl, trivial⟩ ent_pick
 ·
  refine Ze (k:=Xa (Xi (Xb (Ya (Za (k:=Zr (k:=Vv (k:=Vv (k:=Wq (Zt (k:=?_)))))))))))
  have hj6 : j = 6 := by omega
  subst hj6
  exact fin_ret ((oa, oc), out) (vs := [_]) (Cs := []) rfl (.tmp rfl .nil) rfl hK ent_pick
end Go.Proofs.YtibccdcemcgkeaaGreat
end
section
set_option maxRecDepth 100000
namespace Go.Proofs.YtibccdcemcgkeaaGreat
abbrev usersL : List Bs := ["me".toUTF8.data.toList, "you".toUTF8.data.toList]
theorem users_ok : ∀ k, k < 2 → wordP (usersL.getD k []) ∧ (usersL.getD k []).length ≤ 3 := by
 have : ∀ i : Fin 2, wordP (usersL.getD i.1 []) ∧ (usersL.getD i.1 []).length ≤ 3 := by decide
 exact fun i h => this ⟨i, h⟩
/-- A control of the keeper. -/
structure KCt (c : Ct) : Prop where
 right : RightCt c
 tgt : ∀ t ∈ c.tags, ∃ n, t.target = nameB n
 z : TgZ c.tags
theorem KTags.ct {d : Int} {w : Bs} {ts : List Tg} (h : KTags false 6 ts) (hd : 0 ≤ d ∧ d ≤ 9) (hw : wordP w) (h0 : 0 < ts.length) : KCt ⟨d, ts, w⟩ :=
 ⟨⟨by dsimp only; omega, h0, h.right, hw⟩, fun t ht => (h.tag t ht).tgt.2 rfl, h.z (Nat.le_refl _)⟩
theorem KTags.one (n : Int) : KTags false 6 [⟨43, "a".toUTF8.data.toList, nameB n, []⟩] := by
 refine ⟨by simp, ?_, ?_, List.pairwise_singleton _ _⟩
 · intro t ht
   rw [List.mem_singleton.1 ht]
   exact ⟨.inl rfl, Nat.zero_le _, ⟨(fun h => by cases h), fun _ => ⟨n, rfl⟩⟩⟩
 · intro t ht
   rw [List.mem_singleton.1 ht]
   exact ⟨0, by omega, rfl⟩
set_option maxHeartbeats 4000000 in
theorem keep_Control_sp {Bt Bv : HP} {ta va : Option Addr} (d u : Int) (tc vc : Nat) (tags vals : List Int) (ht : tags.length ≤ 9223372036854775807) (hv : vals.length ≤ 9223372036854775807) (sht : SlA Bt ta (tags.map vI)) (shv : SlA Bv va (vals.map vI)) :
    Sp Tryz.prog 29 [.agg #[vI d, vI u, .slice ta tags.length tc, .slice va vals.length vc]] [Bt, Bv] (X := (Option Addr × Nat) × Ct) (fun x => .agg (ctVals x.1.1 x.1.2 x.2).toArray) (fun x => KCt x.2) (fun x => ctH x ++ [Bt, Bv]) := by
 have hTO := keep_tagOps_sp tc vc tags vals false ht hv sht shv
 have hw1 := withinI_in (n := d) (show (0 : Int) ≤ 9 by omega)
 have hw2 := withinI_in (n := u) (show (0 : Int) ≤ 1 by omega)
 obtain ⟨ui, hui⟩ : ∃ k : Nat, withinI u 0 1 = (k : Int) := ⟨(withinI u 0 1).toNat, by omega⟩
 have hu2 : ui < 2 := by omega
 have hul : usersL.length = 2 := rfl
 have huo := users_ok ui hu2
 refine Sp.body (n := 31) Tryz.call29 Tryz.func29 rfl rfl rfl ?_
 refine Za (k:=Zr (k:=Zx [_, _, _, _] (k:=fun b1 => Zc [.int .i64 0, .slice none 0 0, vS []] (k:=fun b2 => Wq ?_))))
 refine p_cut (fun (i : { x : Nat × (Option Addr × Nat) × List Tg // KTags false 6 x.2.2 }) => [(1, .pointer (some ⟨b1, 0, none⟩)), (2, .pointer (some ⟨b2, 0, none⟩)), (3, .pointer (some ⟨i.1.1, 0, none⟩))]) (fun (i : { x : Nat × (Option Addr × Nat) × List Tg // KTags false 6 x.2.2 }) => [Ce i.1.1 54 [vI (withinI d 0 9), .slice i.1.2.1.1 i.1.2.2.length i.1.2.1.2, vS (usersL.getD ui [])], Row 66 4 (.slice i.1.2.1.1 i.1.2.2.length i.1.2.1.2) i.1.2.2.length (i.1.2.2.flatMap tgCells), Ce b2 54 [vI 0, .slice none 0 0, vS []], Ce b1 43 [vI d, vI u, .slice ta tags.length tc, .slice va vals.length vc], Bt, Bv]) rfl (fun i => ?_) ?_
 ·
  obtain ⟨⟨b3, ⟨oa, oc⟩, ts⟩, hts⟩ := i
  dsimp only at hts ⊢
  try dsimp only
  refine Za (k:=Za (k:=Zr (k:=Vf 1 28 (k:=Zd (k:=Vv (k:=Vv (k:=Wq (Zi (t:=fun h22 => ?_) (f:=fun h22 => ?_)))))))))
  ·
   have hKc : KCt ⟨withinI d 0 9, [⟨43, "a".toUTF8.data.toList, nameB (pickI vals 0), []⟩], usersL.getD ui []⟩ := (KTags.one _).ct hw1 huo.1 (by simp)
   refine Zr (k:=Vf 3 37 (k:=Zd (k:=?_)))
   refine r_call1 (keep_pick_sp vc vals 0 (by omega) hv shv) rfl rfl rfl ?_
   refine r_callF (keep_Name_sp _) rfl rfl rfl ?_
   refine Vx (Ps [_, _, _, vS []]) (k:=Zv [_] (cs := [_, _, _, _]) (k:=fun b28 => Vf 1 28 (k:=Zo (k:=?_))))
   refine wo_ent' (ent_row (k := 1) (cap := 1) (sz := 4) (e := 66) (g := b28) (xs := ([⟨43, "a".toUTF8.data.toList, nameB (pickI vals 0), []⟩] : List Tg).flatMap tgCells) (cur := [vU 43, vS [97], vS (nameB (pickI vals 0)), vS []]) (Nat.le_refl _) (by simp [maxLen]) rfl rfl rfl) ?_
   refine Wq (Za (k:=Zr (k:=Zm [_, _, _] (k:=Zp (k:=Wq (Zt (k:=?_)))))))
   first
   | exact fin_ret ((oa, oc), ⟨withinI d 0 9, ts, usersL.getD ui []⟩) (vs := [_]) (Cs := [Ce b2 54 [vI (withinI d 0 9), .slice oa ts.length oc, vS (usersL.getD ui [])]]) rfl (.cell (l := [vI (withinI d 0 9), .slice oa ts.length oc, vS (usersL.getD ui [])]) (us := [vI (withinI d 0 9), .slice oa ts.length oc, vS (usersL.getD ui [])]) rfl (shows_ce (T := 54)) Tryz.underlying54 rfl ti54 (by exact Nat.le_of_ble_eq_true rfl) rfl .nil) rfl hKc ent_pick
   | exact fin_ret ((some ⟨b28, 0, none⟩, 1), ⟨withinI d 0 9, [⟨43, "a".toUTF8.data.toList, nameB (pickI vals 0), []⟩], usersL.getD ui []⟩) (vs := [_]) (Cs := [Ce b2 54 [vI (withinI d 0 9), .slice (some ⟨b28, 0, none⟩) 1 1, vS (usersL.getD ui [])]]) rfl (.cell (l := [vI (withinI d 0 9), .slice (some ⟨b28, 0, none⟩) 1 1, vS (usersL.getD ui [])]) (us := [vI (withinI d 0 9), .slice (some ⟨b28, 0, none⟩) 1 1, vS (usersL.getD ui [])]) rfl (shows_ce (T := 54)) Tryz.underlying54 rfl ti54 (by exact Nat.le_of_ble_eq_true rfl) rfl .nil) rfl hKc ent_pick
  ·
   have hKc : KCt ⟨withinI d 0 9, ts, usersL.getD ui []⟩ := hts.ct hw1 huo.1 (by omega)
   refine Zk (k:=Ya (Za (k:=Zr (k:=Zm [_, _, _] (k:=Zp (k:=Wq (Zt (k:=?_))))))))
   first
   | exact fin_ret ((oa, oc), ⟨withinI d 0 9, ts, usersL.getD ui []⟩) (vs := [_]) (Cs := [Ce b2 54 [vI (withinI d 0 9), .slice oa ts.length oc, vS (usersL.getD ui [])]]) rfl (.cell (l := [vI (withinI d 0 9), .slice oa ts.length oc, vS (usersL.getD ui [])]) (us := [vI (withinI d 0 9), .slice oa ts.length oc, vS (usersL.getD ui [])]) rfl (shows_ce (T := 54)) Tryz.underlying54 rfl ti54 (by exact Nat.le_of_ble_eq_true rfl) rfl .nil) rfl hKc ent_pick
   | exact fin_ret ((some ⟨b28, 0, none⟩, 1), ⟨withinI d 0 9, [⟨43, "a".toUTF8.data.toList, nameB (pickI vals 0), []⟩], usersL.getD ui []⟩) (vs := [_]) (Cs := [Ce b2 54 [vI (withinI d 0 9), .slice (some ⟨b28, 0, none⟩) 1 1, vS (usersL.getD ui [])]]) rfl (.cell (l := [vI (withinI d 0 9), .slice (some ⟨b28, 0, none⟩) 1 1, vS (usersL.getD ui [])]) (us := [vI (withinI d 0 9), .slice (some ⟨b28, 0, none⟩) 1 1, vS (usersL.getD ui [])]) rfl (shows_ce (T := 54)) Tryz.underlying54 rfl ti54 (by exact Nat.le_of_ble_eq_true rfl) rfl .nil) rfl hKc ent_pick
 ·
  refine Dw [Ce b1 43 [vI d, vI u, .slice ta tags.length tc, .slice va vals.length vc]] (k:=?_)
  refine Di 0 (t:=Uf 0 3) (k:=Di 1 (t:=Ul) (k:=Di 4 (t:=Uf 1 3) (k:=Di 5 (t:=Ul) (k:=Di 9 (t:=Uf 2 37) (k:=Di 10 (t:=Ul) (k:=Di 11 (t:=Uf 3 37) (k:=Di 12 (t:=Ul) (k:=?_))))))))
  refine d_next3 2 3 15 (by kernel_rfl) rfl rfl rfl ?_ ?_ ?_
  ·
   refine an_callF (book_Within_sp d 0 9 (by omega) (by omega) (by omega)) rfl rfl rfl ?_
   refine d_next3 3 6 15 (by kernel_rfl) rfl rfl rfl ?_ ?_ ?_
   ·
    refine Nl [_, _] (cs := [_, _]) (k:=fun b7 => ?_)
    refine d_next2 6 15 (by kernel_rfl) rfl rfl ?_ ?_
    ·
     refine an_callF (book_Within_sp u 0 1 (by omega) (by omega) (by omega)) rfl rfl rfl ?_
     rw [hui]
     refine d_next3 7 13 15 (by kernel_rfl) rfl rfl rfl ?_ ?_ ?_
     ·
      refine an_elemAddr (m := ui) (sz := 1) Tryz.underlying27 ti9 rfl rfl rfl rfl (by omega) (by simp) (Nat.mul_one _) rfl ?_
      refine d_next3 8 13 15 (by kernel_rfl) rfl rfl rfl ?_ ?_ ?_
      ·
       refine an_eload Tryz.underlying9 rfl rfl (get_mapD (f := vS) [] (l := usersL) (m := ui) hu2) rfl ?_
       refine d_next2 13 15 (by kernel_rfl) rfl rfl ?_ ?_
       ·
        refine an_callX hTO rfl rfl rfl (fun x17 hx17 => ?_)
        refine Di 14 (t:=Ux (Ps [_, _, _])) (k:=Dn 15 (k:=Nc [.int .i64 0, .slice none 0 0, vS []] (k:=fun b3 => Dn 16 (k:=Na (k:=Dd (k:=?_))))))
        exact to_inv ⟨(b3, x17), hx17⟩ trivial ⟨rfl, rfl, rfl, trivial⟩ ent_pick
       ·
        refine Nc [.int .i64 0, .slice none 0 0, vS []] (k:=fun b3 => Dn 13 (k:=?_))
        refine an_callX hTO rfl rfl rfl (fun x17 hx17 => ?_)
        refine Di 14 (t:=Ux (Ps [_, _, _])) (k:=Dn 16 (k:=Na (k:=Dd (k:=?_))))
        exact to_inv ⟨(b3, x17), hx17⟩ trivial ⟨rfl, rfl, rfl, trivial⟩ ent_pick
      ·
       refine an_callX hTO rfl rfl rfl (fun x17 hx17 => ?_)
       refine d_next2 8 15 (by kernel_rfl) rfl rfl ?_ ?_
       ·
        refine an_eload Tryz.underlying9 rfl rfl (get_mapD (f := vS) [] (l := usersL) (m := ui) hu2) rfl ?_
        refine Di 14 (t:=Ux (Ps [_, _, _])) (k:=Dn 15 (k:=Nc [.int .i64 0, .slice none 0 0, vS []] (k:=fun b3 => Dn 16 (k:=Na (k:=Dd (k:=?_))))))
        exact to_inv ⟨(b3, x17), hx17⟩ trivial ⟨rfl, rfl, rfl, trivial⟩ ent_pick
       ·
        refine Nc [.int .i64 0, .slice none 0 0, vS []] (k:=fun b3 => Dn 8 (k:=?_))
        refine an_eload Tryz.underlying9 rfl rfl (get_mapD (f := vS) [] (l := usersL) (m := ui) hu2) rfl ?_
        refine Di 14 (t:=Ux (Ps [_, _, _])) (k:=Dn 16 (k:=Na (k:=Dd (k:=?_))))
        exact to_inv ⟨(b3, x17), hx17⟩ trivial ⟨rfl, rfl, rfl, trivial⟩ ent_pick
      ·
       refine Nc [.int .i64 0, .slice none 0 0, vS []] (k:=fun b3 => ?_)
       refine d_next2 8 13 (by kernel_rfl) rfl rfl ?_ ?_
       ·
        refine an_eload Tryz.underlying9 rfl rfl (get_mapD (f := vS) [] (l := usersL) (m := ui) hu2) rfl ?_
        refine Dn 13 (k:=?_)
        refine an_callX hTO rfl rfl rfl (fun x17 hx17 => ?_)
        refine Di 14 (t:=Ux (Ps [_, _, _])) (k:=Dn 16 (k:=Na (k:=Dd (k:=?_))))
        exact to_inv ⟨(b3, x17), hx17⟩ trivial ⟨rfl, rfl, rfl, trivial⟩ ent_pick
       ·
        refine an_callX hTO rfl rfl rfl (fun x17 hx17 => ?_)
        refine Dn 8 (k:=?_)
        refine an_eload Tryz.underlying9 rfl rfl (get_mapD (f := vS) [] (l := usersL) (m := ui) hu2) rfl ?_
        refine Di 14 (t:=Ux (Ps [_, _, _])) (k:=Dn 16 (k:=Na (k:=Dd (k:=?_))))
        exact to_inv ⟨(b3, x17), hx17⟩ trivial ⟨rfl, rfl, rfl, trivial⟩ ent_pick
     ·
      refine an_callX hTO rfl rfl rfl (fun x17 hx17 => ?_)
      refine d_next2 7 15 (by kernel_rfl) rfl rfl ?_ ?_
      ·
       refine an_elemAddr (m := ui) (sz := 1) Tryz.underlying27 ti9 rfl rfl rfl rfl (by omega) (by simp) (Nat.mul_one _) rfl ?_
       refine d_next2 8 15 (by kernel_rfl) rfl rfl ?_ ?_
       ·
        refine an_eload Tryz.underlying9 rfl rfl (get_mapD (f := vS) [] (l := usersL) (m := ui) hu2) rfl ?_
        refine Di 14 (t:=Ux (Ps [_, _, _])) (k:=Dn 15 (k:=Nc [.int .i64 0, .slice none 0 0, vS []] (k:=fun b3 => Dn 16 (k:=Na (k:=Dd (k:=?_))))))
        exact to_inv ⟨(b3, x17), hx17⟩ trivial ⟨rfl, rfl, rfl, trivial⟩ ent_pick
       ·
        refine Nc [.int .i64 0, .slice none 0 0, vS []] (k:=fun b3 => Dn 8 (k:=?_))
        refine an_eload Tryz.underlying9 rfl rfl (get_mapD (f := vS) [] (l := usersL) (m := ui) hu2) rfl ?_
        refine Di 14 (t:=Ux (Ps [_, _, _])) (k:=Dn 16 (k:=Na (k:=Dd (k:=?_))))
        exact to_inv ⟨(b3, x17), hx17⟩ trivial ⟨rfl, rfl, rfl, trivial⟩ ent_pick
      ·
       refine Nc [.int .i64 0, .slice none 0 0, vS []] (k:=fun b3 => Dn 7 (k:=?_))
       refine an_elemAddr (m := ui) (sz := 1) Tryz.underlying27 ti9 rfl rfl rfl rfl (by omega) (by simp) (Nat.mul_one _) rfl ?_
       refine Dn 8 (k:=?_)
       refine an_eload Tryz.underlying9 rfl rfl (get_mapD (f := vS) [] (l := usersL) (m := ui) hu2) rfl ?_
       refine Di 14 (t:=Ux (Ps [_, _, _])) (k:=Dn 16 (k:=Na (k:=Dd (k:=?_))))
       exact to_inv ⟨(b3, x17), hx17⟩ trivial ⟨rfl, rfl, rfl, trivial⟩ ent_pick
     ·
      refine Nc [.int .i64 0, .slice none 0 0, vS []] (k:=fun b3 => ?_)
      refine d_next2 7 13 (by kernel_rfl) rfl rfl ?_ ?_
      ·
       refine an_elemAddr (m := ui) (sz := 1) Tryz.underlying27 ti9 rfl rfl rfl rfl (by omega) (by simp) (Nat.mul_one _) rfl ?_
       refine d_next2 8 13 (by kernel_rfl) rfl rfl ?_ ?_
       ·
        refine an_eload Tryz.underlying9 rfl rfl (get_mapD (f := vS) [] (l := usersL) (m := ui) hu2) rfl ?_
        refine Dn 13 (k:=?_)
        refine an_callX hTO rfl rfl rfl (fun x17 hx17 => ?_)
        refine Di 14 (t:=Ux (Ps [_, _, _])) (k:=Dn 16 (k:=Na (k:=Dd (k:=?_))))
        exact to_inv ⟨(b3, x17), hx17⟩ trivial ⟨rfl, rfl, rfl, trivial⟩ ent_pick
       ·
        refine an_callX hTO rfl rfl rfl (fun x17 hx17 => ?_)
        refine Dn 8 (k:=?_)
        refine an_eload Tryz.underlying9 rfl rfl (get_mapD (f := vS) [] (l := usersL) (m := ui) hu2) rfl ?_
        refine Di 14 (t:=Ux (Ps [_, _, _])) (k:=Dn 16 (k:=Na (k:=Dd (k:=?_))))
        exact to_inv ⟨(b3, x17), hx17⟩ trivial ⟨rfl, rfl, rfl, trivial⟩ ent_pick
      ·
       refine an_callX hTO rfl rfl rfl (fun x17 hx17 => ?_)
       refine Dn 7 (k:=?_)
       refine an_elemAddr (m := ui) (sz := 1) Tryz.underlying27 ti9 rfl rfl rfl rfl (by omega) (by simp) (Nat.mul_one _) rfl ?_
       refine Dn 8 (k:=?_)
       refine an_eload Tryz.underlying9 rfl rfl (get_mapD (f := vS) [] (l := usersL) (m := ui) hu2) rfl ?_
       refine Di 14 (t:=Ux (Ps [_, _, _])) (k:=Dn 16 (k:=Na (k:=Dd (k:=?_))))
       exact to_inv ⟨(b3, x17), hx17⟩ trivial ⟨rfl, rfl, rfl, trivial⟩ ent_pick
    ·
     refine Nc [.int .i64 0, .slice none 0 0, vS []] (k:=fun b3 => Dn 6 (k:=?_))
     refine an_callF (book_Within_sp u 0 1 (by omega) (by omega) (by omega)) rfl rfl rfl ?_
     rw [hui]
     refine d_next2 7 13 (by kernel_rfl) rfl rfl ?_ ?_
     ·
      refine an_elemAddr (m := ui) (sz := 1) Tryz.underlying27 ti9 rfl rfl rfl rfl (by omega) (by simp) (Nat.mul_one _) rfl ?_
      refine d_next2 8 13 (by kernel_rfl) rfl rfl ?_ ?_
      ·
       refine an_eload Tryz.underlying9 rfl rfl (get_mapD (f := vS) [] (l := usersL) (m := ui) hu2) rfl ?_
       refine Dn 13 (k:=?_)
       refine an_callX hTO rfl rfl rfl (fun x17 hx17 => ?_)
       refine Di 14 (t:=Ux (Ps [_, _, _])) (k:=Dn 16 (k:=Na (k:=Dd (k:=?_))))
       exact to_inv ⟨(b3, x17), hx17⟩ trivial ⟨rfl, rfl, rfl, trivial⟩ ent_pick
      ·
       refine an_callX hTO rfl rfl rfl (fun x17 hx17 => ?_)
       refine Dn 8 (k:=?_)
       refine an_eload Tryz.underlying9 rfl rfl (get_mapD (f := vS) [] (l := usersL) (m := ui) hu2) rfl ?_
       refine Di 14 (t:=Ux (Ps [_, _, _])) (k:=Dn 16 (k:=Na (k:=Dd (k:=?_))))
       exact to_inv ⟨(b3, x17), hx17⟩ trivial ⟨rfl, rfl, rfl, trivial⟩ ent_pick
     ·
      refine an_callX hTO rfl rfl rfl (fun x17 hx17 => ?_)
      refine Dn 7 (k:=?_)
      refine an_elemAddr (m := ui) (sz := 1) Tryz.underlying27 ti9 rfl rfl rfl rfl (by omega) (by simp) (Nat.mul_one _) rfl ?_
      refine Dn 8 (k:=?_)
      refine an_eload Tryz.underlying9 rfl rfl (get_mapD (f := vS) [] (l := usersL) (m := ui) hu2) rfl ?_
      refine Di 14 (t:=Ux (Ps [_, _, _])) (k:=Dn 16 (k:=Na (k:=Dd (k:=?_))))
      exact to_inv ⟨(b3, x17), hx17⟩ trivial ⟨rfl, rfl, rfl, trivial⟩ ent_pick
   ·
    refine an_callF (book_Within_sp u 0 1 (by omega) (by omega) (by omega)) rfl rfl rfl ?_
    rw [hui]
    refine d_next3 3 13 15 (by kernel_rfl) rfl rfl rfl ?_ ?_ ?_
    ·
     refine Nl [_, _] (cs := [_, _]) (k:=fun b7 => ?_)
     refine d_next3 7 13 15 (by kernel_rfl) rfl rfl rfl ?_ ?_ ?_
     ·
      refine an_elemAddr (m := ui) (sz := 1) Tryz.underlying27 ti9 rfl rfl rfl rfl (by omega) (by simp) (Nat.mul_one _) rfl ?_
      refine d_next3 8 13 15 (by kernel_rfl) rfl rfl rfl ?_ ?_ ?_
      ·
       refine an_eload Tryz.underlying9 rfl rfl (get_mapD (f := vS) [] (l := usersL) (m := ui) hu2) rfl ?_
       refine d_next2 13 15 (by kernel_rfl) rfl rfl ?_ ?_
       ·
        refine an_callX hTO rfl rfl rfl (fun x17 hx17 => ?_)
        refine Di 14 (t:=Ux (Ps [_, _, _])) (k:=Dn 15 (k:=Nc [.int .i64 0, .slice none 0 0, vS []] (k:=fun b3 => Dn 16 (k:=Na (k:=Dd (k:=?_))))))
        exact to_inv ⟨(b3, x17), hx17⟩ trivial ⟨rfl, rfl, rfl, trivial⟩ ent_pick
       ·
        refine Nc [.int .i64 0, .slice none 0 0, vS []] (k:=fun b3 => Dn 13 (k:=?_))
        refine an_callX hTO rfl rfl rfl (fun x17 hx17 => ?_)
        refine Di 14 (t:=Ux (Ps [_, _, _])) (k:=Dn 16 (k:=Na (k:=Dd (k:=?_))))
        exact to_inv ⟨(b3, x17), hx17⟩ trivial ⟨rfl, rfl, rfl, trivial⟩ ent_pick
      ·
       refine an_callX hTO rfl rfl rfl (fun x17 hx17 => ?_)
       refine d_next2 8 15 (by kernel_rfl) rfl rfl ?_ ?_
       ·
        refine an_eload Tryz.underlying9 rfl rfl (get_mapD (f := vS) [] (l := usersL) (m := ui) hu2) rfl ?_
        refine Di 14 (t:=Ux (Ps [_, _, _])) (k:=Dn 15 (k:=Nc [.int .i64 0, .slice none 0 0, vS []] (k:=fun b3 => Dn 16 (k:=Na (k:=Dd (k:=?_))))))
        exact to_inv ⟨(b3, x17), hx17⟩ trivial ⟨rfl, rfl, rfl, trivial⟩ ent_pick
       ·
        refine Nc [.int .i64 0, .slice none 0 0, vS []] (k:=fun b3 => Dn 8 (k:=?_))
        refine an_eload Tryz.underlying9 rfl rfl (get_mapD (f := vS) [] (l := usersL) (m := ui) hu2) rfl ?_
        refine Di 14 (t:=Ux (Ps [_, _, _])) (k:=Dn 16 (k:=Na (k:=Dd (k:=?_))))
        exact to_inv ⟨(b3, x17), hx17⟩ trivial ⟨rfl, rfl, rfl, trivial⟩ ent_pick
      ·
       refine Nc [.int .i64 0, .slice none 0 0, vS []] (k:=fun b3 => ?_)
       refine d_next2 8 13 (by kernel_rfl) rfl rfl ?_ ?_
       ·
        refine an_eload Tryz.underlying9 rfl rfl (get_mapD (f := vS) [] (l := usersL) (m := ui) hu2) rfl ?_
        refine Dn 13 (k:=?_)
        refine an_callX hTO rfl rfl rfl (fun x17 hx17 => ?_)
        refine Di 14 (t:=Ux (Ps [_, _, _])) (k:=Dn 16 (k:=Na (k:=Dd (k:=?_))))
        exact to_inv ⟨(b3, x17), hx17⟩ trivial ⟨rfl, rfl, rfl, trivial⟩ ent_pick
       ·
        refine an_callX hTO rfl rfl rfl (fun x17 hx17 => ?_)
        refine Dn 8 (k:=?_)
        refine an_eload Tryz.underlying9 rfl rfl (get_mapD (f := vS) [] (l := usersL) (m := ui) hu2) rfl ?_
        refine Di 14 (t:=Ux (Ps [_, _, _])) (k:=Dn 16 (k:=Na (k:=Dd (k:=?_))))
        exact to_inv ⟨(b3, x17), hx17⟩ trivial ⟨rfl, rfl, rfl, trivial⟩ ent_pick
     ·
      refine an_callX hTO rfl rfl rfl (fun x17 hx17 => ?_)
      refine d_next2 7 15 (by kernel_rfl) rfl rfl ?_ ?_
      ·
       refine an_elemAddr (m := ui) (sz := 1) Tryz.underlying27 ti9 rfl rfl rfl rfl (by omega) (by simp) (Nat.mul_one _) rfl ?_
       refine d_next2 8 15 (by kernel_rfl) rfl rfl ?_ ?_
       ·
        refine an_eload Tryz.underlying9 rfl rfl (get_mapD (f := vS) [] (l := usersL) (m := ui) hu2) rfl ?_
        refine Di 14 (t:=Ux (Ps [_, _, _])) (k:=Dn 15 (k:=Nc [.int .i64 0, .slice none 0 0, vS []] (k:=fun b3 => Dn 16 (k:=Na (k:=Dd (k:=?_))))))
        exact to_inv ⟨(b3, x17), hx17⟩ trivial ⟨rfl, rfl, rfl, trivial⟩ ent_pick
       ·
        refine Nc [.int .i64 0, .slice none 0 0, vS []] (k:=fun b3 => Dn 8 (k:=?_))
        refine an_eload Tryz.underlying9 rfl rfl (get_mapD (f := vS) [] (l := usersL) (m := ui) hu2) rfl ?_
        refine Di 14 (t:=Ux (Ps [_, _, _])) (k:=Dn 16 (k:=Na (k:=Dd (k:=?_))))
        exact to_inv ⟨(b3, x17), hx17⟩ trivial ⟨rfl, rfl, rfl, trivial⟩ ent_pick
      ·
       refine Nc [.int .i64 0, .slice none 0 0, vS []] (k:=fun b3 => Dn 7 (k:=?_))
       refine an_elemAddr (m := ui) (sz := 1) Tryz.underlying27 ti9 rfl rfl rfl rfl (by omega) (by simp) (Nat.mul_one _) rfl ?_
       refine Dn 8 (k:=?_)
       refine an_eload Tryz.underlying9 rfl rfl (get_mapD (f := vS) [] (l := usersL) (m := ui) hu2) rfl ?_
       refine Di 14 (t:=Ux (Ps [_, _, _])) (k:=Dn 16 (k:=Na (k:=Dd (k:=?_))))
       exact to_inv ⟨(b3, x17), hx17⟩ trivial ⟨rfl, rfl, rfl, trivial⟩ ent_pick
     ·
      refine Nc [.int .i64 0, .slice none 0 0, vS []] (k:=fun b3 => ?_)
      refine d_next2 7 13 (by kernel_rfl) rfl rfl ?_ ?_
      ·
       refine an_elemAddr (m := ui) (sz := 1) Tryz.underlying27 ti9 rfl rfl rfl rfl (by omega) (by simp) (Nat.mul_one _) rfl ?_
       refine d_next2 8 13 (by kernel_rfl) rfl rfl ?_ ?_
       ·
        refine an_eload Tryz.underlying9 rfl rfl (get_mapD (f := vS) [] (l := usersL) (m := ui) hu2) rfl ?_
        refine Dn 13 (k:=?_)
        refine an_callX hTO rfl rfl rfl (fun x17 hx17 => ?_)
        refine Di 14 (t:=Ux (Ps [_, _, _])) (k:=Dn 16 (k:=Na (k:=Dd (k:=?_))))
        exact to_inv ⟨(b3, x17), hx17⟩ trivial ⟨rfl, rfl, rfl, trivial⟩ ent_pick
       ·
        refine an_callX hTO rfl rfl rfl (fun x17 hx17 => ?_)
        refine Dn 8 (k:=?_)
        refine an_eload Tryz.underlying9 rfl rfl (get_mapD (f := vS) [] (l := usersL) (m := ui) hu2) rfl ?_
        refine Di 14 (t:=Ux (Ps [_, _, _])) (k:=Dn 16 (k:=Na (k:=Dd (k:=?_))))
        exact to_inv ⟨(b3, x17), hx17⟩ trivial ⟨rfl, rfl, rfl, trivial⟩ ent_pick
      ·
       refine an_callX hTO rfl rfl rfl (fun x17 hx17 => ?_)
       refine Dn 7 (k:=?_)
       refine an_elemAddr (m := ui) (sz := 1) Tryz.underlying27 ti9 rfl rfl rfl rfl (by omega) (by simp) (Nat.mul_one _) rfl ?_
       refine Dn 8 (k:=?_)
       refine an_eload Tryz.underlying9 rfl rfl (get_mapD (f := vS) [] (l := usersL) (m := ui) hu2) rfl ?_
       refine Di 14 (t:=Ux (Ps [_, _, _])) (k:=Dn 16 (k:=Na (k:=Dd (k:=?_))))
       exact to_inv ⟨(b3, x17), hx17⟩ trivial ⟨rfl, rfl, rfl, trivial⟩ ent_pick
    ·
     refine an_callX hTO rfl rfl rfl (fun x17 hx17 => ?_)
     refine d_next2 3 15 (by kernel_rfl) rfl rfl ?_ ?_
     ·
      refine Nl [_, _] (cs := [_, _]) (k:=fun b7 => ?_)
      refine d_next2 7 15 (by kernel_rfl) rfl rfl ?_ ?_
      ·
       refine an_elemAddr (m := ui) (sz := 1) Tryz.underlying27 ti9 rfl rfl rfl rfl (by omega) (by simp) (Nat.mul_one _) rfl ?_
       refine d_next2 8 15 (by kernel_rfl) rfl rfl ?_ ?_
       ·
        refine an_eload Tryz.underlying9 rfl rfl (get_mapD (f := vS) [] (l := usersL) (m := ui) hu2) rfl ?_
        refine Di 14 (t:=Ux (Ps [_, _, _])) (k:=Dn 15 (k:=Nc [.int .i64 0, .slice none 0 0, vS []] (k:=fun b3 => Dn 16 (k:=Na (k:=Dd (k:=?_))))))
        exact to_inv ⟨(b3, x17), hx17⟩ trivial ⟨rfl, rfl, rfl, trivial⟩ ent_pick
       ·
        refine Nc [.int .i64 0, .slice none 0 0, vS []] (k:=fun b3 => Dn 8 (k:=?_))
        refine an_eload Tryz.underlying9 rfl rfl (get_mapD (f := vS) [] (l := usersL) (m := ui) hu2) rfl ?_
        refine Di 14 (t:=Ux (Ps [_, _, _])) (k:=Dn 16 (k:=Na (k:=Dd (k:=?_))))
        exact to_inv ⟨(b3, x17), hx17⟩ trivial ⟨rfl, rfl, rfl, trivial⟩ ent_pick
      ·
       refine Nc [.int .i64 0, .slice none 0 0, vS []] (k:=fun b3 => Dn 7 (k:=?_))
       refine an_elemAddr (m := ui) (sz := 1) Tryz.underlying27 ti9 rfl rfl rfl rfl (by omega) (by simp) (Nat.mul_one _) rfl ?_
       refine Dn 8 (k:=?_)
       refine an_eload Tryz.underlying9 rfl rfl (get_mapD (f := vS) [] (l := usersL) (m := ui) hu2) rfl ?_
       refine Di 14 (t:=Ux (Ps [_, _, _])) (k:=Dn 16 (k:=Na (k:=Dd (k:=?_))))
       exact to_inv ⟨(b3, x17), hx17⟩ trivial ⟨rfl, rfl, rfl, trivial⟩ ent_pick
     ·
      refine Nc [.int .i64 0, .slice none 0 0, vS []] (k:=fun b3 => Dn 3 (k:=Nl [_, _] (cs := [_, _]) (k:=fun b7 => Dn 7 (k:=?_))))
      refine an_elemAddr (m := ui) (sz := 1) Tryz.underlying27 ti9 rfl rfl rfl rfl (by omega) (by simp) (Nat.mul_one _) rfl ?_
      refine Dn 8 (k:=?_)
      refine an_eload Tryz.underlying9 rfl rfl (get_mapD (f := vS) [] (l := usersL) (m := ui) hu2) rfl ?_
      refine Di 14 (t:=Ux (Ps [_, _, _])) (k:=Dn 16 (k:=Na (k:=Dd (k:=?_))))
      exact to_inv ⟨(b3, x17), hx17⟩ trivial ⟨rfl, rfl, rfl, trivial⟩ ent_pick
    ·
     refine Nc [.int .i64 0, .slice none 0 0, vS []] (k:=fun b3 => ?_)
     refine d_next2 3 13 (by kernel_rfl) rfl rfl ?_ ?_
     ·
      refine Nl [_, _] (cs := [_, _]) (k:=fun b7 => ?_)
      refine d_next2 7 13 (by kernel_rfl) rfl rfl ?_ ?_
      ·
       refine an_elemAddr (m := ui) (sz := 1) Tryz.underlying27 ti9 rfl rfl rfl rfl (by omega) (by simp) (Nat.mul_one _) rfl ?_
       refine d_next2 8 13 (by kernel_rfl) rfl rfl ?_ ?_
       ·
        refine an_eload Tryz.underlying9 rfl rfl (get_mapD (f := vS) [] (l := usersL) (m := ui) hu2) rfl ?_
        refine Dn 13 (k:=?_)
        refine an_callX hTO rfl rfl rfl (fun x17 hx17 => ?_)
        refine Di 14 (t:=Ux (Ps [_, _, _])) (k:=Dn 16 (k:=Na (k:=Dd (k:=?_))))
        exact to_inv ⟨(b3, x17), hx17⟩ trivial ⟨rfl, rfl, rfl, trivial⟩ ent_pick
       ·
        refine an_callX hTO rfl rfl rfl (fun x17 hx17 => ?_)
        refine Dn 8 (k:=?_)
        refine an_eload Tryz.underlying9 rfl rfl (get_mapD (f := vS) [] (l := usersL) (m := ui) hu2) rfl ?_
        refine Di 14 (t:=Ux (Ps [_, _, _])) (k:=Dn 16 (k:=Na (k:=Dd (k:=?_))))
        exact to_inv ⟨(b3, x17), hx17⟩ trivial ⟨rfl, rfl, rfl, trivial⟩ ent_pick
      ·
       refine an_callX hTO rfl rfl rfl (fun x17 hx17 => ?_)
       refine Dn 7 (k:=?_)
       refine an_elemAddr (m := ui) (sz := 1) Tryz.underlying27 ti9 rfl rfl rfl rfl (by omega) (by simp) (Nat.mul_one _) rfl ?_
       refine Dn 8 (k:=?_)
       refine an_eload Tryz.underlying9 rfl rfl (get_mapD (f := vS) [] (l := usersL) (m := ui) hu2) rfl ?_
       refine Di 14 (t:=Ux (Ps [_, _, _])) (k:=Dn 16 (k:=Na (k:=Dd (k:=?_))))
       exact to_inv ⟨(b3, x17), hx17⟩ trivial ⟨rfl, rfl, rfl, trivial⟩ ent_pick
     ·
      refine an_callX hTO rfl rfl rfl (fun x17 hx17 => ?_)
      refine Dn 3 (k:=Nl [_, _] (cs := [_, _]) (k:=fun b7 => Dn 7 (k:=?_)))
      refine an_elemAddr (m := ui) (sz := 1) Tryz.underlying27 ti9 rfl rfl rfl rfl (by omega) (by simp) (Nat.mul_one _) rfl ?_
      refine Dn 8 (k:=?_)
      refine an_eload Tryz.underlying9 rfl rfl (get_mapD (f := vS) [] (l := usersL) (m := ui) hu2) rfl ?_
      refine Di 14 (t:=Ux (Ps [_, _, _])) (k:=Dn 16 (k:=Na (k:=Dd (k:=?_))))
      exact to_inv ⟨(b3, x17), hx17⟩ trivial ⟨rfl, rfl, rfl, trivial⟩ ent_pick
   ·
    refine Nc [.int .i64 0, .slice none 0 0, vS []] (k:=fun b3 => ?_)
    refine d_next2 3 6 (by kernel_rfl) rfl rfl ?_ ?_
    ·
     refine Nl [_, _] (cs := [_, _]) (k:=fun b7 => Dn 6 (k:=?_))
     refine an_callF (book_Within_sp u 0 1 (by omega) (by omega) (by omega)) rfl rfl rfl ?_
     rw [hui]
     refine d_next2 7 13 (by kernel_rfl) rfl rfl ?_ ?_
     ·
      refine an_elemAddr (m := ui) (sz := 1) Tryz.underlying27 ti9 rfl rfl rfl rfl (by omega) (by simp) (Nat.mul_one _) rfl ?_
      refine d_next2 8 13 (by kernel_rfl) rfl rfl ?_ ?_
      ·
       refine an_eload Tryz.underlying9 rfl rfl (get_mapD (f := vS) [] (l := usersL) (m := ui) hu2) rfl ?_
       refine Dn 13 (k:=?_)
       refine an_callX hTO rfl rfl rfl (fun x17 hx17 => ?_)
       refine Di 14 (t:=Ux (Ps [_, _, _])) (k:=Dn 16 (k:=Na (k:=Dd (k:=?_))))
       exact to_inv ⟨(b3, x17), hx17⟩ trivial ⟨rfl, rfl, rfl, trivial⟩ ent_pick
      ·
       refine an_callX hTO rfl rfl rfl (fun x17 hx17 => ?_)
       refine Dn 8 (k:=?_)
       refine an_eload Tryz.underlying9 rfl rfl (get_mapD (f := vS) [] (l := usersL) (m := ui) hu2) rfl ?_
       refine Di 14 (t:=Ux (Ps [_, _, _])) (k:=Dn 16 (k:=Na (k:=Dd (k:=?_))))
       exact to_inv ⟨(b3, x17), hx17⟩ trivial ⟨rfl, rfl, rfl, trivial⟩ ent_pick
     ·
      refine an_callX hTO rfl rfl rfl (fun x17 hx17 => ?_)
      refine Dn 7 (k:=?_)
      refine an_elemAddr (m := ui) (sz := 1) Tryz.underlying27 ti9 rfl rfl rfl rfl (by omega) (by simp) (Nat.mul_one _) rfl ?_
      refine Dn 8 (k:=?_)
      refine an_eload Tryz.underlying9 rfl rfl (get_mapD (f := vS) [] (l := usersL) (m := ui) hu2) rfl ?_
      refine Di 14 (t:=Ux (Ps [_, _, _])) (k:=Dn 16 (k:=Na (k:=Dd (k:=?_))))
      exact to_inv ⟨(b3, x17), hx17⟩ trivial ⟨rfl, rfl, rfl, trivial⟩ ent_pick
    ·
     refine an_callF (book_Within_sp u 0 1 (by omega) (by omega) (by omega)) rfl rfl rfl ?_
     rw [hui]
     refine d_next2 3 13 (by kernel_rfl) rfl rfl ?_ ?_
     ·
      refine Nl [_, _] (cs := [_, _]) (k:=fun b7 => ?_)
      refine d_next2 7 13 (by kernel_rfl) rfl rfl ?_ ?_
      ·
       refine an_elemAddr (m := ui) (sz := 1) Tryz.underlying27 ti9 rfl rfl rfl rfl (by omega) (by simp) (Nat.mul_one _) rfl ?_
       refine d_next2 8 13 (by kernel_rfl) rfl rfl ?_ ?_
       ·
        refine an_eload Tryz.underlying9 rfl rfl (get_mapD (f := vS) [] (l := usersL) (m := ui) hu2) rfl ?_
        refine Dn 13 (k:=?_)
        refine an_callX hTO rfl rfl rfl (fun x17 hx17 => ?_)
        refine Di 14 (t:=Ux (Ps [_, _, _])) (k:=Dn 16 (k:=Na (k:=Dd (k:=?_))))
        exact to_inv ⟨(b3, x17), hx17⟩ trivial ⟨rfl, rfl, rfl, trivial⟩ ent_pick
       ·
        refine an_callX hTO rfl rfl rfl (fun x17 hx17 => ?_)
        refine Dn 8 (k:=?_)
        refine an_eload Tryz.underlying9 rfl rfl (get_mapD (f := vS) [] (l := usersL) (m := ui) hu2) rfl ?_
        refine Di 14 (t:=Ux (Ps [_, _, _])) (k:=Dn 16 (k:=Na (k:=Dd (k:=?_))))
        exact to_inv ⟨(b3, x17), hx17⟩ trivial ⟨rfl, rfl, rfl, trivial⟩ ent_pick
      ·
       refine an_callX hTO rfl rfl rfl (fun x17 hx17 => ?_)
       refine Dn 7 (k:=?_)
       refine an_elemAddr (m := ui) (sz := 1) Tryz.underlying27 ti9 rfl rfl rfl rfl (by omega) (by simp) (Nat.mul_one _) rfl ?_
       refine Dn 8 (k:=?_)
       refine an_eload Tryz.underlying9 rfl rfl (get_mapD (f := vS) [] (l := usersL) (m := ui) hu2) rfl ?_
       refine Di 14 (t:=Ux (Ps [_, _, _])) (k:=Dn 16 (k:=Na (k:=Dd (k:=?_))))
       exact to_inv ⟨(b3, x17), hx17⟩ trivial ⟨rfl, rfl, rfl, trivial⟩ ent_pick
     ·
      refine an_callX hTO rfl rfl rfl (fun x17 hx17 => ?_)
      refine Dn 3 (k:=Nl [_, _] (cs := [_, _]) (k:=fun b7 => Dn 7 (k:=?_)))
      refine an_elemAddr (m := ui) (sz := 1) Tryz.underlying27 ti9 rfl rfl rfl rfl (by omega) (by simp) (Nat.mul_one _) rfl ?_
      refine Dn 8 (k:=?_)
      refine an_eload Tryz.underlying9 rfl rfl (get_mapD (f := vS) [] (l := usersL) (m := ui) hu2) rfl ?_
      refine Di 14 (t:=Ux (Ps [_, _, _])) (k:=Dn 16 (k:=Na (k:=Dd (k:=?_))))
      exact to_inv ⟨(b3, x17), hx17⟩ trivial ⟨rfl, rfl, rfl, trivial⟩ ent_pick
  ·
   refine Nl [_, _] (cs := [_, _]) (k:=fun b7 => ?_)
   refine d_next2 2 15 (by kernel_rfl) rfl rfl ?_ ?_
   ·
    refine an_callF (book_Within_sp d 0 9 (by omega) (by omega) (by omega)) rfl rfl rfl ?_
    refine d_next2 6 15 (by kernel_rfl) rfl rfl ?_ ?_
    ·
     refine an_callF (book_Within_sp u 0 1 (by omega) (by omega) (by omega)) rfl rfl rfl ?_
     rw [hui]
     refine d_next3 7 13 15 (by kernel_rfl) rfl rfl rfl ?_ ?_ ?_
     ·
      refine an_elemAddr (m := ui) (sz := 1) Tryz.underlying27 ti9 rfl rfl rfl rfl (by omega) (by simp) (Nat.mul_one _) rfl ?_
      refine d_next3 8 13 15 (by kernel_rfl) rfl rfl rfl ?_ ?_ ?_
      ·
       refine an_eload Tryz.underlying9 rfl rfl (get_mapD (f := vS) [] (l := usersL) (m := ui) hu2) rfl ?_
       refine d_next2 13 15 (by kernel_rfl) rfl rfl ?_ ?_
       ·
        refine an_callX hTO rfl rfl rfl (fun x17 hx17 => ?_)
        refine Di 14 (t:=Ux (Ps [_, _, _])) (k:=Dn 15 (k:=Nc [.int .i64 0, .slice none 0 0, vS []] (k:=fun b3 => Dn 16 (k:=Na (k:=Dd (k:=?_))))))
        exact to_inv ⟨(b3, x17), hx17⟩ trivial ⟨rfl, rfl, rfl, trivial⟩ ent_pick
       ·
        refine Nc [.int .i64 0, .slice none 0 0, vS []] (k:=fun b3 => Dn 13 (k:=?_))
        refine an_callX hTO rfl rfl rfl (fun x17 hx17 => ?_)
        refine Di 14 (t:=Ux (Ps [_, _, _])) (k:=Dn 16 (k:=Na (k:=Dd (k:=?_))))
        exact to_inv ⟨(b3, x17), hx17⟩ trivial ⟨rfl, rfl, rfl, trivial⟩ ent_pick
      ·
       refine an_callX hTO rfl rfl rfl (fun x17 hx17 => ?_)
       refine d_next2 8 15 (by kernel_rfl) rfl rfl ?_ ?_
       ·
        refine an_eload Tryz.underlying9 rfl rfl (get_mapD (f := vS) [] (l := usersL) (m := ui) hu2) rfl ?_
        refine Di 14 (t:=Ux (Ps [_, _, _])) (k:=Dn 15 (k:=Nc [.int .i64 0, .slice none 0 0, vS []] (k:=fun b3 => Dn 16 (k:=Na (k:=Dd (k:=?_))))))
        exact to_inv ⟨(b3, x17), hx17⟩ trivial ⟨rfl, rfl, rfl, trivial⟩ ent_pick
       ·
        refine Nc [.int .i64 0, .slice none 0 0, vS []] (k:=fun b3 => Dn 8 (k:=?_))
        refine an_eload Tryz.underlying9 rfl rfl (get_mapD (f := vS) [] (l := usersL) (m := ui) hu2) rfl ?_
        refine Di 14 (t:=Ux (Ps [_, _, _])) (k:=Dn 16 (k:=Na (k:=Dd (k:=?_))))
        exact to_inv ⟨(b3, x17), hx17⟩ trivial ⟨rfl, rfl, rfl, trivial⟩ ent_pick
      ·
       refine Nc [.int .i64 0, .slice none 0 0, vS []] (k:=fun b3 => ?_)
       refine d_next2 8 13 (by kernel_rfl) rfl rfl ?_ ?_
       ·
        refine an_eload Tryz.underlying9 rfl rfl (get_mapD (f := vS) [] (l := usersL) (m := ui) hu2) rfl ?_
        refine Dn 13 (k:=?_)
        refine an_callX hTO rfl rfl rfl (fun x17 hx17 => ?_)
        refine Di 14 (t:=Ux (Ps [_, _, _])) (k:=Dn 16 (k:=Na (k:=Dd (k:=?_))))
        exact to_inv ⟨(b3, x17), hx17⟩ trivial ⟨rfl, rfl, rfl, trivial⟩ ent_pick
       ·
        refine an_callX hTO rfl rfl rfl (fun x17 hx17 => ?_)
        refine Dn 8 (k:=?_)
        refine an_eload Tryz.underlying9 rfl rfl (get_mapD (f := vS) [] (l := usersL) (m := ui) hu2) rfl ?_
        refine Di 14 (t:=Ux (Ps [_, _, _])) (k:=Dn 16 (k:=Na (k:=Dd (k:=?_))))
        exact to_inv ⟨(b3, x17), hx17⟩ trivial ⟨rfl, rfl, rfl, trivial⟩ ent_pick
     ·
      refine an_callX hTO rfl rfl rfl (fun x17 hx17 => ?_)
      refine d_next2 7 15 (by kernel_rfl) rfl rfl ?_ ?_
      ·
       refine an_elemAddr (m := ui) (sz := 1) Tryz.underlying27 ti9 rfl rfl rfl rfl (by omega) (by simp) (Nat.mul_one _) rfl ?_
       refine d_next2 8 15 (by kernel_rfl) rfl rfl ?_ ?_
       ·
        refine an_eload Tryz.underlying9 rfl rfl (get_mapD (f := vS) [] (l := usersL) (m := ui) hu2) rfl ?_
        refine Di 14 (t:=Ux (Ps [_, _, _])) (k:=Dn 15 (k:=Nc [.int .i64 0, .slice none 0 0, vS []] (k:=fun b3 => Dn 16 (k:=Na (k:=Dd (k:=?_))))))
        exact to_inv ⟨(b3, x17), hx17⟩ trivial ⟨rfl, rfl, rfl, trivial⟩ ent_pick
       ·
        refine Nc [.int .i64 0, .slice none 0 0, vS []] (k:=fun b3 => Dn 8 (k:=?_))
        refine an_eload Tryz.underlying9 rfl rfl (get_mapD (f := vS) [] (l := usersL) (m := ui) hu2) rfl ?_
        refine Di 14 (t:=Ux (Ps [_, _, _])) (k:=Dn 16 (k:=Na (k:=Dd (k:=?_))))
        exact to_inv ⟨(b3, x17), hx17⟩ trivial ⟨rfl, rfl, rfl, trivial⟩ ent_pick
      ·
       refine Nc [.int .i64 0, .slice none 0 0, vS []] (k:=fun b3 => Dn 7 (k:=?_))
       refine an_elemAddr (m := ui) (sz := 1) Tryz.underlying27 ti9 rfl rfl rfl rfl (by omega) (by simp) (Nat.mul_one _) rfl ?_
       refine Dn 8 (k:=?_)
       refine an_eload Tryz.underlying9 rfl rfl (get_mapD (f := vS) [] (l := usersL) (m := ui) hu2) rfl ?_
       refine Di 14 (t:=Ux (Ps [_, _, _])) (k:=Dn 16 (k:=Na (k:=Dd (k:=?_))))
       exact to_inv ⟨(b3, x17), hx17⟩ trivial ⟨rfl, rfl, rfl, trivial⟩ ent_pick
     ·
      refine Nc [.int .i64 0, .slice none 0 0, vS []] (k:=fun b3 => ?_)
      refine d_next2 7 13 (by kernel_rfl) rfl rfl ?_ ?_
      ·
       refine an_elemAddr (m := ui) (sz := 1) Tryz.underlying27 ti9 rfl rfl rfl rfl (by omega) (by simp) (Nat.mul_one _) rfl ?_
       refine d_next2 8 13 (by kernel_rfl) rfl rfl ?_ ?_
       ·
        refine an_eload Tryz.underlying9 rfl rfl (get_mapD (f := vS) [] (l := usersL) (m := ui) hu2) rfl ?_
        refine Dn 13 (k:=?_)
        refine an_callX hTO rfl rfl rfl (fun x17 hx17 => ?_)
        refine Di 14 (t:=Ux (Ps [_, _, _])) (k:=Dn 16 (k:=Na (k:=Dd (k:=?_))))
        exact to_inv ⟨(b3, x17), hx17⟩ trivial ⟨rfl, rfl, rfl, trivial⟩ ent_pick
       ·
        refine an_callX hTO rfl rfl rfl (fun x17 hx17 => ?_)
        refine Dn 8 (k:=?_)
        refine an_eload Tryz.underlying9 rfl rfl (get_mapD (f := vS) [] (l := usersL) (m := ui) hu2) rfl ?_
        refine Di 14 (t:=Ux (Ps [_, _, _])) (k:=Dn 16 (k:=Na (k:=Dd (k:=?_))))
        exact to_inv ⟨(b3, x17), hx17⟩ trivial ⟨rfl, rfl, rfl, trivial⟩ ent_pick
      ·
       refine an_callX hTO rfl rfl rfl (fun x17 hx17 => ?_)
       refine Dn 7 (k:=?_)
       refine an_elemAddr (m := ui) (sz := 1) Tryz.underlying27 ti9 rfl rfl rfl rfl (by omega) (by simp) (Nat.mul_one _) rfl ?_
       refine Dn 8 (k:=?_)
       refine an_eload Tryz.underlying9 rfl rfl (get_mapD (f := vS) [] (l := usersL) (m := ui) hu2) rfl ?_
       refine Di 14 (t:=Ux (Ps [_, _, _])) (k:=Dn 16 (k:=Na (k:=Dd (k:=?_))))
       exact to_inv ⟨(b3, x17), hx17⟩ trivial ⟨rfl, rfl, rfl, trivial⟩ ent_pick
    ·
     refine Nc [.int .i64 0, .slice none 0 0, vS []] (k:=fun b3 => Dn 6 (k:=?_))
     refine an_callF (book_Within_sp u 0 1 (by omega) (by omega) (by omega)) rfl rfl rfl ?_
     rw [hui]
     refine d_next2 7 13 (by kernel_rfl) rfl rfl ?_ ?_
     ·
      refine an_elemAddr (m := ui) (sz := 1) Tryz.underlying27 ti9 rfl rfl rfl rfl (by omega) (by simp) (Nat.mul_one _) rfl ?_
      refine d_next2 8 13 (by kernel_rfl) rfl rfl ?_ ?_
      ·
       refine an_eload Tryz.underlying9 rfl rfl (get_mapD (f := vS) [] (l := usersL) (m := ui) hu2) rfl ?_
       refine Dn 13 (k:=?_)
       refine an_callX hTO rfl rfl rfl (fun x17 hx17 => ?_)
       refine Di 14 (t:=Ux (Ps [_, _, _])) (k:=Dn 16 (k:=Na (k:=Dd (k:=?_))))
       exact to_inv ⟨(b3, x17), hx17⟩ trivial ⟨rfl, rfl, rfl, trivial⟩ ent_pick
      ·
       refine an_callX hTO rfl rfl rfl (fun x17 hx17 => ?_)
       refine Dn 8 (k:=?_)
       refine an_eload Tryz.underlying9 rfl rfl (get_mapD (f := vS) [] (l := usersL) (m := ui) hu2) rfl ?_
       refine Di 14 (t:=Ux (Ps [_, _, _])) (k:=Dn 16 (k:=Na (k:=Dd (k:=?_))))
       exact to_inv ⟨(b3, x17), hx17⟩ trivial ⟨rfl, rfl, rfl, trivial⟩ ent_pick
     ·
      refine an_callX hTO rfl rfl rfl (fun x17 hx17 => ?_)
      refine Dn 7 (k:=?_)
      refine an_elemAddr (m := ui) (sz := 1) Tryz.underlying27 ti9 rfl rfl rfl rfl (by omega) (by simp) (Nat.mul_one _) rfl ?_
      refine Dn 8 (k:=?_)
      refine an_eload Tryz.underlying9 rfl rfl (get_mapD (f := vS) [] (l := usersL) (m := ui) hu2) rfl ?_
      refine Di 14 (t:=Ux (Ps [_, _, _])) (k:=Dn 16 (k:=Na (k:=Dd (k:=?_))))
      exact to_inv ⟨(b3, x17), hx17⟩ trivial ⟨rfl, rfl, rfl, trivial⟩ ent_pick
   ·
    refine Nc [.int .i64 0, .slice none 0 0, vS []] (k:=fun b3 => Dn 2 (k:=?_))
    refine an_callF (book_Within_sp d 0 9 (by omega) (by omega) (by omega)) rfl rfl rfl ?_
    refine Dn 6 (k:=?_)
    refine an_callF (book_Within_sp u 0 1 (by omega) (by omega) (by omega)) rfl rfl rfl ?_
    rw [hui]
    refine d_next2 7 13 (by kernel_rfl) rfl rfl ?_ ?_
    ·
     refine an_elemAddr (m := ui) (sz := 1) Tryz.underlying27 ti9 rfl rfl rfl rfl (by omega) (by simp) (Nat.mul_one _) rfl ?_
     refine d_next2 8 13 (by kernel_rfl) rfl rfl ?_ ?_
     ·
      refine an_eload Tryz.underlying9 rfl rfl (get_mapD (f := vS) [] (l := usersL) (m := ui) hu2) rfl ?_
      refine Dn 13 (k:=?_)
      refine an_callX hTO rfl rfl rfl (fun x17 hx17 => ?_)
      refine Di 14 (t:=Ux (Ps [_, _, _])) (k:=Dn 16 (k:=Na (k:=Dd (k:=?_))))
      exact to_inv ⟨(b3, x17), hx17⟩ trivial ⟨rfl, rfl, rfl, trivial⟩ ent_pick
     ·
      refine an_callX hTO rfl rfl rfl (fun x17 hx17 => ?_)
      refine Dn 8 (k:=?_)
      refine an_eload Tryz.underlying9 rfl rfl (get_mapD (f := vS) [] (l := usersL) (m := ui) hu2) rfl ?_
      refine Di 14 (t:=Ux (Ps [_, _, _])) (k:=Dn 16 (k:=Na (k:=Dd (k:=?_))))
      exact to_inv ⟨(b3, x17), hx17⟩ trivial ⟨rfl, rfl, rfl, trivial⟩ ent_pick
    ·
     refine an_callX hTO rfl rfl rfl (fun x17 hx17 => ?_)
     refine Dn 7 (k:=?_)
     refine an_elemAddr (m := ui) (sz := 1) Tryz.underlying27 ti9 rfl rfl rfl rfl (by omega) (by simp) (Nat.mul_one _) rfl ?_
     refine Dn 8 (k:=?_)
     refine an_eload Tryz.underlying9 rfl rfl (get_mapD (f := vS) [] (l := usersL) (m := ui) hu2) rfl ?_
     refine Di 14 (t:=Ux (Ps [_, _, _])) (k:=Dn 16 (k:=Na (k:=Dd (k:=?_))))
     exact to_inv ⟨(b3, x17), hx17⟩ trivial ⟨rfl, rfl, rfl, trivial⟩ ent_pick
  ·
   refine Nc [.int .i64 0, .slice none 0 0, vS []] (k:=fun b3 => ?_)
   refine d_next2 2 3 (by kernel_rfl) rfl rfl ?_ ?_
   ·
    refine an_callF (book_Within_sp d 0 9 (by omega) (by omega) (by omega)) rfl rfl rfl ?_
    refine d_next2 3 6 (by kernel_rfl) rfl rfl ?_ ?_
    ·
     refine Nl [_, _] (cs := [_, _]) (k:=fun b7 => Dn 6 (k:=?_))
     refine an_callF (book_Within_sp u 0 1 (by omega) (by omega) (by omega)) rfl rfl rfl ?_
     rw [hui]
     refine d_next2 7 13 (by kernel_rfl) rfl rfl ?_ ?_
     ·
      refine an_elemAddr (m := ui) (sz := 1) Tryz.underlying27 ti9 rfl rfl rfl rfl (by omega) (by simp) (Nat.mul_one _) rfl ?_
      refine d_next2 8 13 (by kernel_rfl) rfl rfl ?_ ?_
      ·
       refine an_eload Tryz.underlying9 rfl rfl (get_mapD (f := vS) [] (l := usersL) (m := ui) hu2) rfl ?_
       refine Dn 13 (k:=?_)
       refine an_callX hTO rfl rfl rfl (fun x17 hx17 => ?_)
       refine Di 14 (t:=Ux (Ps [_, _, _])) (k:=Dn 16 (k:=Na (k:=Dd (k:=?_))))
       exact to_inv ⟨(b3, x17), hx17⟩ trivial ⟨rfl, rfl, rfl, trivial⟩ ent_pick
      ·
       refine an_callX hTO rfl rfl rfl (fun x17 hx17 => ?_)
       refine Dn 8 (k:=?_)
       refine an_eload Tryz.underlying9 rfl rfl (get_mapD (f := vS) [] (l := usersL) (m := ui) hu2) rfl ?_
       refine Di 14 (t:=Ux (Ps [_, _, _])) (k:=Dn 16 (k:=Na (k:=Dd (k:=?_))))
       exact to_inv ⟨(b3, x17), hx17⟩ trivial ⟨rfl, rfl, rfl, trivial⟩ ent_pick
     ·
      refine an_callX hTO rfl rfl rfl (fun x17 hx17 => ?_)
      refine Dn 7 (k:=?_)
      refine an_elemAddr (m := ui) (sz := 1) Tryz.underlying27 ti9 rfl rfl rfl rfl (by omega) (by simp) (Nat.mul_one _) rfl ?_
      refine Dn 8 (k:=?_)
      refine an_eload Tryz.underlying9 rfl rfl (get_mapD (f := vS) [] (l := usersL) (m := ui) hu2) rfl ?_
      refine Di 14 (t:=Ux (Ps [_, _, _])) (k:=Dn 16 (k:=Na (k:=Dd (k:=?_))))
      exact to_inv ⟨(b3, x17), hx17⟩ trivial ⟨rfl, rfl, rfl, trivial⟩ ent_pick
    ·
     refine an_callF (book_Within_sp u 0 1 (by omega) (by omega) (by omega)) rfl rfl rfl ?_
     rw [hui]
     refine d_next2 3 13 (by kernel_rfl) rfl rfl ?_ ?_
     ·
      refine Nl [_, _] (cs := [_, _]) (k:=fun b7 => ?_)
      refine d_next2 7 13 (by kernel_rfl) rfl rfl ?_ ?_
      ·
       refine an_elemAddr (m := ui) (sz := 1) Tryz.underlying27 ti9 rfl rfl rfl rfl (by omega) (by simp) (Nat.mul_one _) rfl ?_
       refine d_next2 8 13 (by kernel_rfl) rfl rfl ?_ ?_
       ·
        refine an_eload Tryz.underlying9 rfl rfl (get_mapD (f := vS) [] (l := usersL) (m := ui) hu2) rfl ?_
        refine Dn 13 (k:=?_)
        refine an_callX hTO rfl rfl rfl (fun x17 hx17 => ?_)
        refine Di 14 (t:=Ux (Ps [_, _, _])) (k:=Dn 16 (k:=Na (k:=Dd (k:=?_))))
        exact to_inv ⟨(b3, x17), hx17⟩ trivial ⟨rfl, rfl, rfl, trivial⟩ ent_pick
       ·
        refine an_callX hTO rfl rfl rfl (fun x17 hx17 => ?_)
        refine Dn 8 (k:=?_)
        refine an_eload Tryz.underlying9 rfl rfl (get_mapD (f := vS) [] (l := usersL) (m := ui) hu2) rfl ?_
        refine Di 14 (t:=Ux (Ps [_, _, _])) (k:=Dn 16 (k:=Na (k:=Dd (k:=?_))))
        exact to_inv ⟨(b3, x17), hx17⟩ trivial ⟨rfl, rfl, rfl, trivial⟩ ent_pick
      ·
       refine an_callX hTO rfl rfl rfl (fun x17 hx17 => ?_)
       refine Dn 7 (k:=?_)
       refine an_elemAddr (m := ui) (sz := 1) Tryz.underlying27 ti9 rfl rfl rfl rfl (by omega) (by simp) (Nat.mul_one _) rfl ?_
       refine Dn 8 (k:=?_)
       refine an_eload Tryz.underlying9 rfl rfl (get_mapD (f := vS) [] (l := usersL) (m := ui) hu2) rfl ?_
       refine Di 14 (t:=Ux (Ps [_, _, _])) (k:=Dn 16 (k:=Na (k:=Dd (k:=?_))))
       exact to_inv ⟨(b3, x17), hx17⟩ trivial ⟨rfl, rfl, rfl, trivial⟩ ent_pick
     ·
      refine an_callX hTO rfl rfl rfl (fun x17 hx17 => ?_)
      refine Dn 3 (k:=Nl [_, _] (cs := [_, _]) (k:=fun b7 => Dn 7 (k:=?_)))
      refine an_elemAddr (m := ui) (sz := 1) Tryz.underlying27 ti9 rfl rfl rfl rfl (by omega) (by simp) (Nat.mul_one _) rfl ?_
      refine Dn 8 (k:=?_)
      refine an_eload Tryz.underlying9 rfl rfl (get_mapD (f := vS) [] (l := usersL) (m := ui) hu2) rfl ?_
      refine Di 14 (t:=Ux (Ps [_, _, _])) (k:=Dn 16 (k:=Na (k:=Dd (k:=?_))))
      exact to_inv ⟨(b3, x17), hx17⟩ trivial ⟨rfl, rfl, rfl, trivial⟩ ent_pick
   ·
    refine Nl [_, _] (cs := [_, _]) (k:=fun b7 => Dn 2 (k:=?_))
    refine an_callF (book_Within_sp d 0 9 (by omega) (by omega) (by omega)) rfl rfl rfl ?_
    refine Dn 6 (k:=?_)
    refine an_callF (book_Within_sp u 0 1 (by omega) (by omega) (by omega)) rfl rfl rfl ?_
    rw [hui]
    refine d_next2 7 13 (by kernel_rfl) rfl rfl ?_ ?_
    ·
     refine an_elemAddr (m := ui) (sz := 1) Tryz.underlying27 ti9 rfl rfl rfl rfl (by omega) (by simp) (Nat.mul_one _) rfl ?_
     refine d_next2 8 13 (by kernel_rfl) rfl rfl ?_ ?_
     ·
      refine an_eload Tryz.underlying9 rfl rfl (get_mapD (f := vS) [] (l := usersL) (m := ui) hu2) rfl ?_
      refine Dn 13 (k:=?_)
      refine an_callX hTO rfl rfl rfl (fun x17 hx17 => ?_)
      refine Di 14 (t:=Ux (Ps [_, _, _])) (k:=Dn 16 (k:=Na (k:=Dd (k:=?_))))
      exact to_inv ⟨(b3, x17), hx17⟩ trivial ⟨rfl, rfl, rfl, trivial⟩ ent_pick
     ·
      refine an_callX hTO rfl rfl rfl (fun x17 hx17 => ?_)
      refine Dn 8 (k:=?_)
      refine an_eload Tryz.underlying9 rfl rfl (get_mapD (f := vS) [] (l := usersL) (m := ui) hu2) rfl ?_
      refine Di 14 (t:=Ux (Ps [_, _, _])) (k:=Dn 16 (k:=Na (k:=Dd (k:=?_))))
      exact to_inv ⟨(b3, x17), hx17⟩ trivial ⟨rfl, rfl, rfl, trivial⟩ ent_pick
    ·
     refine an_callX hTO rfl rfl rfl (fun x17 hx17 => ?_)
     refine Dn 7 (k:=?_)
     refine an_elemAddr (m := ui) (sz := 1) Tryz.underlying27 ti9 rfl rfl rfl rfl (by omega) (by simp) (Nat.mul_one _) rfl ?_
     refine Dn 8 (k:=?_)
     refine an_eload Tryz.underlying9 rfl rfl (get_mapD (f := vS) [] (l := usersL) (m := ui) hu2) rfl ?_
     refine Di 14 (t:=Ux (Ps [_, _, _])) (k:=Dn 16 (k:=Na (k:=Dd (k:=?_))))
     exact to_inv ⟨(b3, x17), hx17⟩ trivial ⟨rfl, rfl, rfl, trivial⟩ ent_pick
end Go.Proofs.YtibccdcemcgkeaaGreat
end
