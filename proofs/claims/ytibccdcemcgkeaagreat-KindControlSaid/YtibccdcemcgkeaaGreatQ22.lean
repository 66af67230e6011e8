/- Texts of this proof, put together: SKeep3, PKeep3, PKind, PKs, PCtl. -/
import Derived.Test.YtibccdcemcgkeaaGreatQ08
import Derived.Test.YtibccdcemcgkeaaGreatQ21
set_option linter.unusedVariables false
set_option linter.unusedSimpArgs false
section
set_option maxRecDepth 100000
namespace Go.Proofs.YtibccdcemcgkeaaGreat
abbrev usersL : List Bs := ["me".toUTF8.data.toList, "you".toUTF8.data.toList]
theorem users_ok : ∀ k, k < 2 → wordP (usersL.getD k []) ∧ (usersL.getD k []).length ≤ 3 := by
 have : ∀ i : Fin 2, wordP (usersL.getD i.1 []) ∧ (usersL.getD i.1 []).length ≤ 3 := by decide
 exact fun i h => this ⟨i, h⟩
/-- A control of the keeper. -/
structure KCt (c : Ct) : Prop where
 right : RightCt c
 tgt : ∀ t ∈ c.tags, ∃ n, t.target = nameB n
 z : TgZ c.tags
theorem KTags.ct {d : Int} {w : Bs} {ts : List Tg} (h : KTags false 6 ts) (hd : 0 ≤ d ∧ d ≤ 9) (hw : wordP w) (h0 : 0 < ts.length) : KCt ⟨d, ts, w⟩ :=
 ⟨⟨by dsimp only; omega, h0, h.right, hw⟩, fun t ht => (h.tag t ht).tgt.2 rfl, h.z (Nat.le_refl _)⟩
theorem KTags.one (n : Int) : KTags false 6 [⟨43, "a".toUTF8.data.toList, nameB n, []⟩] := by
 refine ⟨by simp, ?_, ?_, List.pairwise_singleton _ _⟩
 · intro t ht
   rw [List.mem_singleton.1 ht]
   exact ⟨.inl rfl, Nat.zero_le _, ⟨(fun h => by cases h), fun _ => ⟨n, rfl⟩⟩⟩
 · intro t ht
   rw [List.mem_singleton.1 ht]
   exact ⟨0, by omega, rfl⟩
set_option maxHeartbeats 4000000 in
theorem keep_Control_sp {Bt Bv : HP} {ta va : Option Addr} (d u : Int) (tc vc : Nat) (tags vals : List Int) (ht : tags.length ≤ 9223372036854775807) (hv : vals.length ≤ 9223372036854775807) (sht : SlA Bt ta (tags.map vI)) (shv : SlA Bv va (vals.map vI)) :
    Sp Tryz.prog 29 [.agg #[vI d, vI u, .slice ta tags.length tc, .slice va vals.length vc]] [Bt, Bv] (X := (Option Addr × Nat) × Ct) (fun x => .agg (ctVals x.1.1 x.1.2 x.2).toArray) (fun x => KCt x.2) (fun x => ctH x ++ [Bt, Bv]) := by
 have hTO := keep_tagOps_sp tc vc tags vals false ht hv sht shv
 have hw1 := withinI_in (n := d) (show (0 : Int) ≤ 9 by omega)
 have hw2 := withinI_in (n := u) (show (0 : Int) ≤ 1 by omega)
 obtain ⟨ui, hui⟩ : ∃ k : Nat, withinI u 0 1 = (k : Int) := ⟨(withinI u 0 1).toNat, by omega⟩
 have hu2 : ui < 2 := by omega
 have hul : usersL.length = 2 := rfl
 have huo := users_ok ui hu2
 refine Sp.body (n := 31) Tryz.call29 Tryz.func29 rfl rfl rfl ?_
 refine Za (k:=Zr (k:=Zx [_, _, _, _] (k:=fun b1 => Zc [.int .i64 0, .slice none 0 0, vS []] (k:=fun b2 => Wq ?_))))
 refine p_cut (fun (i : { x : Nat × (Option Addr × Nat) × List Tg // KTags false 6 x.2.2 }) => [(1, .pointer (some ⟨b1, 0, none⟩)), (2, .pointer (some ⟨b2, 0, none⟩)), (3, .pointer (some ⟨i.1.1, 0, none⟩))]) (fun (i : { x : Nat × (Option Addr × Nat) × List Tg // KTags false 6 x.2.2 }) => [Ce i.1.1 54 [vI (withinI d 0 9), .slice i.1.2.1.1 i.1.2.2.length i.1.2.1.2, vS (usersL.getD ui [])], Row 66 4 (.slice i.1.2.1.1 i.1.2.2.length i.1.2.1.2) i.1.2.2.length (i.1.2.2.flatMap tgCells), Ce b2 54 [vI 0, .slice none 0 0, vS []], Ce b1 43 [vI d, vI u, .slice ta tags.length tc, .slice va vals.length vc], Bt, Bv]) rfl (fun i => ?_) ?_
 ·
  obtain ⟨⟨b3, ⟨oa, oc⟩, ts⟩, hts⟩ := i
  dsimp only at hts ⊢
  try dsimp only
  refine Za (k:=Za (k:=Zr (k:=Vf 1 28 (k:=Zd (k:=Vv (k:=Vv (k:=Wq (Zi (t:=fun h22 => ?_) (f:=fun h22 => ?_)))))))))
  ·
   have hKc : KCt ⟨withinI d 0 9, [⟨43, "a".toUTF8.data.toList, nameB (pickI vals 0), []⟩], usersL.getD ui []⟩ := (KTags.one _).ct hw1 huo.1 (by simp)
   refine Zr (k:=Vf 3 37 (k:=Zd (k:=?_)))
   refine r_call1 (keep_pick_sp vc vals 0 (by omega) hv shv) rfl rfl rfl ?_
   refine r_callF (keep_Name_sp _) rfl rfl rfl ?_
   refine Vx (Ps [_, _, _, vS []]) (k:=Zv [_] (cs := [_, _, _, _]) (k:=fun b28 => Vf 1 28 (k:=Zo (k:=?_))))
   refine wo_ent' (ent_row (k := 1) (cap := 1) (sz := 4) (e := 66) (g := b28) (xs := ([⟨43, "a".toUTF8.data.toList, nameB (pickI vals 0), []⟩] : List Tg).flatMap tgCells) (cur := [vU 43, vS [97], vS (nameB (pickI vals 0)), vS []]) (Nat.le_refl _) (by simp [maxLen]) rfl rfl rfl) ?_
   refine Wq (Za (k:=Zr (k:=Zm [_, _, _] (k:=Zp (k:=Wq (Zt (k:=?_)))))))
   first
   | exact fin_ret ((oa, oc), ⟨withinI d 0 9, ts, usersL.getD ui []⟩) (vs := [_]) (Cs := [Ce b2 54 [vI (withinI d 0 9), .slice oa ts.length oc, vS (usersL.getD ui [])]]) rfl (.cell (l := [vI (withinI d 0 9), .slice oa ts.length oc, vS (usersL.getD ui [])]) (us := [vI (withinI d 0 9), .slice oa ts.length oc, vS (usersL.getD ui [])]) rfl (shows_ce (T := 54)) Tryz.underlying54 rfl ti54 (by exact Nat.le_of_ble_eq_true rfl) rfl .nil) rfl hKc ent_pick
   | exact fin_ret ((some ⟨b28, 0, none⟩, 1), ⟨withinI d 0 9, [⟨43, "a".toUTF8.data.toList, nameB (pickI vals 0), []⟩], usersL.getD ui []⟩) (vs := [_]) (Cs := [Ce b2 54 [vI (withinI d 0 9), .slice (some ⟨b28, 0, none⟩) 1 1, vS (usersL.getD ui [])]]) rfl (.cell (l := [vI (withinI d 0 9), .slice (some ⟨b28, 0, none⟩) 1 1, vS (usersL.getD ui [])]) (us := [vI (withinI d 0 9), .slice (some ⟨b28, 0, none⟩) 1 1, vS (usersL.getD ui [])]) rfl (shows_ce (T := 54)) Tryz.underlying54 rfl ti54 (by exact Nat.le_of_ble_eq_true rfl) rfl .nil) rfl hKc ent_pick
  ·
   have hKc : KCt ⟨withinI d 0 9, ts, usersL.getD ui []⟩ := hts.ct hw1 huo.1 (by omega)
   refine Zk (k:=Ya (Za (k:=Zr (k:=Zm [_, _, _] (k:=Zp (k:=Wq (Zt (k:=?_))))))))
   first
   | exact fin_ret ((oa, oc), ⟨withinI d 0 9, ts, usersL.getD ui []⟩) (vs := [_]) (Cs := [Ce b2 54 [vI (withinI d 0 9), .slice oa ts.length oc, vS (usersL.getD ui [])]]) rfl (.cell (l := [vI (withinI d 0 9), .slice oa ts.length oc, vS (usersL.getD ui [])]) (us := [vI (withinI d 0 9), .slice oa ts.length oc, vS (usersL.getD ui [])]) rfl (shows_ce (T := 54)) Tryz.underlying54 rfl ti54 (by exact Nat.le_of_ble_eq_true rfl) rfl .nil) rfl hKc ent_pick
   | exact fin_ret ((some ⟨b28, 0, none⟩, 1), ⟨withinI d 0 9, [⟨43, "a".toUTF8.data.toList, nameB (pickI vals 0), []⟩], usersL.getD ui []⟩) (vs := [_]) (Cs := [Ce b2 54 [vI (withinI d 0 9), .slice (some ⟨b28, 0, none⟩) 1 1, vS (usersL.getD ui [])]]) rfl (.cell (l := [vI (withinI d 0 9), .slice (some ⟨b28, 0, none⟩) 1 1, vS (usersL.getD ui [])]) (us := [vI (withinI d 0 9), .slice (some ⟨b28, 0, none⟩) 1 1, vS (usersL.getD ui [])]) rfl (shows_ce (T := 54)) Tryz.underlying54 rfl ti54 (by exact Nat.le_of_ble_eq_true rfl) rfl .nil) rfl hKc ent_pick
 ·
  refine Dw [Ce b1 43 [vI d, vI u, .slice ta tags.length tc, .slice va vals.length vc]] (k:=?_)
  refine Di 0 (t:=Uf 0 3) (k:=Di 1 (t:=Ul) (k:=Di 4 (t:=Uf 1 3) (k:=Di 5 (t:=Ul) (k:=Di 9 (t:=Uf 2 37) (k:=Di 10 (t:=Ul) (k:=Di 11 (t:=Uf 3 37) (k:=Di 12 (t:=Ul) (k:=?_))))))))
  refine d_next3 2 3 15 (by kernel_rfl) rfl rfl rfl ?_ ?_ ?_
  ·
   refine an_callF (book_Within_sp d 0 9 (by omega) (by omega) (by omega)) rfl rfl rfl ?_
   refine d_next3 3 6 15 (by kernel_rfl) rfl rfl rfl ?_ ?_ ?_
   ·
    refine Nl [_, _] (cs := [_, _]) (k:=fun b7 => ?_)
    refine d_next2 6 15 (by kernel_rfl) rfl rfl ?_ ?_
    ·
     refine an_callF (book_Within_sp u 0 1 (by omega) (by omega) (by omega)) rfl rfl rfl ?_
     rw [hui]
     refine d_next3 7 13 15 (by kernel_rfl) rfl rfl rfl ?_ ?_ ?_
     ·
      refine an_elemAddr (m := ui) (sz := 1) Tryz.underlying27 ti9 rfl rfl rfl rfl (by omega) (by simp) (Nat.mul_one _) rfl ?_
      refine d_next3 8 13 15 (by kernel_rfl) rfl rfl rfl ?_ ?_ ?_
      ·
       refine an_eload Tryz.underlying9 rfl rfl (get_mapD (f := vS) [] (l := usersL) (m := ui) hu2) rfl ?_
       refine d_next2 13 15 (by kernel_rfl) rfl rfl ?_ ?_
       ·
        refine an_callX hTO rfl rfl rfl (fun x17 hx17 => ?_)
        refine Di 14 (t:=Ux (Ps [_, _, _])) (k:=Dn 15 (k:=Nc [.int .i64 0, .slice none 0 0, vS []] (k:=fun b3 => Dn 16 (k:=Na (k:=Dd (k:=?_))))))
        exact to_inv ⟨(b3, x17), hx17⟩ trivial ⟨rfl, rfl, rfl, trivial⟩ ent_pick
       ·
        refine Nc [.int .i64 0, .slice none 0 0, vS []] (k:=fun b3 => Dn 13 (k:=?_))
        refine an_callX hTO rfl rfl rfl (fun x17 hx17 => ?_)
        refine Di 14 (t:=Ux (Ps [_, _, _])) (k:=Dn 16 (k:=Na (k:=Dd (k:=?_))))
        exact to_inv ⟨(b3, x17), hx17⟩ trivial ⟨rfl, rfl, rfl, trivial⟩ ent_pick
      ·
       refine an_callX hTO rfl rfl rfl (fun x17 hx17 => ?_)
       refine d_next2 8 15 (by kernel_rfl) rfl rfl ?_ ?_
       ·
        refine an_eload Tryz.underlying9 rfl rfl (get_mapD (f := vS) [] (l := usersL) (m := ui) hu2) rfl ?_
        refine Di 14 (t:=Ux (Ps [_, _, _])) (k:=Dn 15 (k:=Nc [.int .i64 0, .slice none 0 0, vS []] (k:=fun b3 => Dn 16 (k:=Na (k:=Dd (k:=?_))))))
        exact to_inv ⟨(b3, x17), hx17⟩ trivial ⟨rfl, rfl, rfl, trivial⟩ ent_pick
       ·
        refine Nc [.int .i64 0, .slice none 0 0, vS []] (k:=fun b3 => Dn 8 (k:=?_))
        refine an_eload Tryz.underlying9 rfl rfl (get_mapD (f := vS) [] (l := usersL) (m := ui) hu2) rfl ?_
        refine Di 14 (t:=Ux (Ps [_, _, _])) (k:=Dn 16 (k:=Na (k:=Dd (k:=?_))))
        exact to_inv ⟨(b3, x17), hx17⟩ trivial ⟨rfl, rfl, rfl, trivial⟩ ent_pick
      ·
       refine Nc [.int .i64 0, .slice none 0 0, vS []] (k:=fun b3 => ?_)
       refine d_next2 8 13 (by kernel_rfl) rfl rfl ?_ ?_
       ·
        refine an_eload Tryz.underlying9 rfl rfl (get_mapD (f := vS) [] (l := usersL) (m := ui) hu2) rfl ?_
        refine Dn 13 (k:=?_)
        refine an_callX hTO rfl rfl rfl (fun x17 hx17 => ?_)
        refine Di 14 (t:=Ux (Ps [_, _, _])) (k:=Dn 16 (k:=Na (k:=Dd (k:=?_))))
        exact to_inv ⟨(b3, x17), hx17⟩ trivial ⟨rfl, rfl, rfl, trivial⟩ ent_pick
       ·
        refine an_callX hTO rfl rfl rfl (fun x17 hx17 => ?_)
        refine Dn 8 (k:=?_)
        refine an_eload Tryz.underlying9 rfl rfl (get_mapD (f := vS) [] (l := usersL) (m := ui) hu2) rfl ?_
        refine Di 14 (t:=Ux (Ps [_, _, _])) (k:=Dn 16 (k:=Na (k:=Dd (k:=?_))))
        exact to_inv ⟨(b3, x17), hx17⟩ trivial ⟨rfl, rfl, rfl, trivial⟩ ent_pick
     ·
      refine an_callX hTO rfl rfl rfl (fun x17 hx17 => ?_)
      refine d_next2 7 15 (by kernel_rfl) rfl rfl ?_ ?_
      ·
       refine an_elemAddr (m := ui) (sz := 1) Tryz.underlying27 ti9 rfl rfl rfl rfl (by omega) (by simp) (Nat.mul_one _) rfl ?_
       refine d_next2 8 15 (by kernel_rfl) rfl rfl ?_ ?_
       ·
        refine an_eload Tryz.underlying9 rfl rfl (get_mapD (f := vS) [] (l := usersL) (m := ui) hu2) rfl ?_
        refine Di 14 (t:=Ux (Ps [_, _, _])) (k:=Dn 15 (k:=Nc [.int .i64 0, .slice none 0 0, vS []] (k:=fun b3 => Dn 16 (k:=Na (k:=Dd (k:=?_))))))
        exact to_inv ⟨(b3, x17), hx17⟩ trivial ⟨rfl, rfl, rfl, trivial⟩ ent_pick
       ·
        refine Nc [.int .i64 0, .slice none 0 0, vS []] (k:=fun b3 => Dn 8 (k:=?_))
        refine an_eload Tryz.underlying9 rfl rfl (get_mapD (f := vS) [] (l := usersL) (m := ui) hu2) rfl ?_
        refine Di 14 (t:=Ux (Ps [_, _, _])) (k:=Dn 16 (k:=Na (k:=Dd (k:=?_))))
        exact to_inv ⟨(b3, x17), hx17⟩ trivial ⟨rfl, rfl, rfl, trivial⟩ ent_pick
      ·
       refine Nc [.int .i64 0, .slice none 0 0, vS []] (k:=fun b3 => Dn 7 (k:=?_))
       refine an_elemAddr (m := ui) (sz := 1) Tryz.underlying27 ti9 rfl rfl rfl rfl (by omega) (by simp) (Nat.mul_one _) rfl ?_
       refine Dn 8 (k:=?_)
       refine an_eload Tryz.underlying9 rfl rfl (get_mapD (f := vS) [] (l := usersL) (m := ui) hu2) rfl ?_
       refine Di 14 (t:=Ux (Ps [_, _, _])) (k:=Dn 16 (k:=Na (k:=Dd (k:=?_))))
       exact to_inv ⟨(b3, x17), hx17⟩ trivial ⟨rfl, rfl, rfl, trivial⟩ ent_pick
     ·
      refine Nc [.int .i64 0, .slice none 0 0, vS []] (k:=fun b3 => ?_)
      refine d_next2 7 13 (by kernel_rfl) rfl rfl ?_ ?_
      ·
       refine an_elemAddr (m := ui) (sz := 1) Tryz.underlying27 ti9 rfl rfl rfl rfl (by omega) (by simp) (Nat.mul_one _) rfl ?_
       refine d_next2 8 13 (by kernel_rfl) rfl rfl ?_ ?_
       ·
        refine an_eload Tryz.underlying9 rfl rfl (get_mapD (f := vS) [] (l := usersL) (m := ui) hu2) rfl ?_
        refine Dn 13 (k:=?_)
        refine an_callX hTO rfl rfl rfl (fun x17 hx17 => ?_)
        refine Di 14 (t:=Ux (Ps [_, _, _])) (k:=Dn 16 (k:=Na (k:=Dd (k:=?_))))
        exact to_inv ⟨(b3, x17), hx17⟩ trivial ⟨rfl, rfl, rfl, trivial⟩ ent_pick
       ·
        refine an_callX hTO rfl rfl rfl (fun x17 hx17 => ?_)
        refine Dn 8 (k:=?_)
        refine an_eload Tryz.underlying9 rfl rfl (get_mapD (f := vS) [] (l := usersL) (m := ui) hu2) rfl ?_
        refine Di 14 (t:=Ux (Ps [_, _, _])) (k:=Dn 16 (k:=Na (k:=Dd (k:=?_))))
        exact to_inv ⟨(b3, x17), hx17⟩ trivial ⟨rfl, rfl, rfl, trivial⟩ ent_pick
      ·
       refine an_callX hTO rfl rfl rfl (fun x17 hx17 => ?_)
       refine Dn 7 (k:=?_)
       refine an_elemAddr (m := ui) (sz := 1) Tryz.underlying27 ti9 rfl rfl rfl rfl (by omega) (by simp) (Nat.mul_one _) rfl ?_
       refine Dn 8 (k:=?_)
       refine an_eload Tryz.underlying9 rfl rfl (get_mapD (f := vS) [] (l := usersL) (m := ui) hu2) rfl ?_
       refine Di 14 (t:=Ux (Ps [_, _, _])) (k:=Dn 16 (k:=Na (k:=Dd (k:=?_))))
       exact to_inv ⟨(b3, x17), hx17⟩ trivial ⟨rfl, rfl, rfl, trivial⟩ ent_pick
    ·
     refine Nc [.int .i64 0, .slice none 0 0, vS []] (k:=fun b3 => Dn 6 (k:=?_))
     refine an_callF (book_Within_sp u 0 1 (by omega) (by omega) (by omega)) rfl rfl rfl ?_
     rw [hui]
     refine d_next2 7 13 (by kernel_rfl) rfl rfl ?_ ?_
     ·
      refine an_elemAddr (m := ui) (sz := 1) Tryz.underlying27 ti9 rfl rfl rfl rfl (by omega) (by simp) (Nat.mul_one _) rfl ?_
      refine d_next2 8 13 (by kernel_rfl) rfl rfl ?_ ?_
      ·
       refine an_eload Tryz.underlying9 rfl rfl (get_mapD (f := vS) [] (l := usersL) (m := ui) hu2) rfl ?_
       refine Dn 13 (k:=?_)
       refine an_callX hTO rfl rfl rfl (fun x17 hx17 => ?_)
       refine Di 14 (t:=Ux (Ps [_, _, _])) (k:=Dn 16 (k:=Na (k:=Dd (k:=?_))))
       exact to_inv ⟨(b3, x17), hx17⟩ trivial ⟨rfl, rfl, rfl, trivial⟩ ent_pick
      ·
       refine an_callX hTO rfl rfl rfl (fun x17 hx17 => ?_)
       refine Dn 8 (k:=?_)
       refine an_eload Tryz.underlying9 rfl rfl (get_mapD (f := vS) [] (l := usersL) (m := ui) hu2) rfl ?_
       refine Di 14 (t:=Ux (Ps [_, _, _])) (k:=Dn 16 (k:=Na (k:=Dd (k:=?_))))
       exact to_inv ⟨(b3, x17), hx17⟩ trivial ⟨rfl, rfl, rfl, trivial⟩ ent_pick
     ·
      refine an_callX hTO rfl rfl rfl (fun x17 hx17 => ?_)
      refine Dn 7 (k:=?_)
      refine an_elemAddr (m := ui) (sz := 1) Tryz.underlying27 ti9 rfl rfl rfl rfl (by omega) (by simp) (Nat.mul_one _) rfl ?_
      refine Dn 8 (k:=?_)
      refine an_eload Tryz.underlying9 rfl rfl (get_mapD (f := vS) [] (l := usersL) (m := ui) hu2) rfl ?_
      refine Di 14 (t:=Ux (Ps [_, _, _])) (k:=Dn 16 (k:=Na (k:=Dd (k:=?_))))
      exact to_inv ⟨(b3, x17), hx17⟩ trivial ⟨rfl, rfl, rfl, trivial⟩ ent_pick
   ·
    refine an_callF (book_Within_sp u 0 1 (by omega) (by omega) (by omega)) rfl rfl rfl ?_
    rw [hui]
    refine d_next3 3 13 15 (by kernel_rfl) rfl rfl rfl ?_ ?_ ?_
    ·
     refine Nl [_, _] (cs := [_, _]) (k:=fun b7 => ?_)
     refine d_next3 7 13 15 (by kernel_rfl) rfl rfl rfl ?_ ?_ ?_
     ·
      refine an_elemAddr (m := ui) (sz := 1) Tryz.underlying27 ti9 rfl rfl rfl rfl (by omega) (by simp) (Nat.mul_one _) rfl ?_
      refine d_next3 8 13 15 (by kernel_rfl) rfl rfl rfl ?_ ?_ ?_
      ·
       refine an_eload Tryz.underlying9 rfl rfl (get_mapD (f := vS) [] (l := usersL) (m := ui) hu2) rfl ?_
       refine d_next2 13 15 (by kernel_rfl) rfl rfl ?_ ?_
       ·
        refine an_callX hTO rfl rfl rfl (fun x17 hx17 => ?_)
        refine Di 14 (t:=Ux (Ps [_, _, _])) (k:=Dn 15 (k:=Nc [.int .i64 0, .slice none 0 0, vS []] (k:=fun b3 => Dn 16 (k:=Na (k:=Dd (k:=?_))))))
        exact to_inv ⟨(b3, x17), hx17⟩ trivial ⟨rfl, rfl, rfl, trivial⟩ ent_pick
       ·
        refine Nc [.int .i64 0, .slice none 0 0, vS []] (k:=fun b3 => Dn 13 (k:=?_))
        refine an_callX hTO rfl rfl rfl (fun x17 hx17 => ?_)
        refine Di 14 (t:=Ux (Ps [_, _, _])) (k:=Dn 16 (k:=Na (k:=Dd (k:=?_))))
        exact to_inv ⟨(b3, x17), hx17⟩ trivial ⟨rfl, rfl, rfl, trivial⟩ ent_pick
      ·
       refine an_callX hTO rfl rfl rfl (fun x17 hx17 => ?_)
       refine d_next2 8 15 (by kernel_rfl) rfl rfl ?_ ?_
       ·
        refine an_eload Tryz.underlying9 rfl rfl (get_mapD (f := vS) [] (l := usersL) (m := ui) hu2) rfl ?_
        refine Di 14 (t:=Ux (Ps [_, _, _])) (k:=Dn 15 (k:=Nc [.int .i64 0, .slice none 0 0, vS []] (k:=fun b3 => Dn 16 (k:=Na (k:=Dd (k:=?_))))))
        exact to_inv ⟨(b3, x17), hx17⟩ trivial ⟨rfl, rfl, rfl, trivial⟩ ent_pick
       ·
        refine Nc [.int .i64 0, .slice none 0 0, vS []] (k:=fun b3 => Dn 8 (k:=?_))
        refine an_eload Tryz.underlying9 rfl rfl (get_mapD (f := vS) [] (l := usersL) (m := ui) hu2) rfl ?_
        refine Di 14 (t:=Ux (Ps [_, _, _])) (k:=Dn 16 (k:=Na (k:=Dd (k:=?_))))
        exact to_inv ⟨(b3, x17), hx17⟩ trivial ⟨rfl, rfl, rfl, trivial⟩ ent_pick
      ·
       refine Nc [.int .i64 0, .slice none 0 0, vS []] (k:=fun b3 => ?_)
       refine d_next2 8 13 (by kernel_rfl) rfl rfl ?_ ?_
       ·
        refine an_eload Tryz.underlying9 rfl rfl (get_mapD (f := vS) [] (l := usersL) (m := ui) hu2) rfl ?_
        refine Dn 13 (k:=?_)
        refine an_callX hTO rfl rfl rfl (fun x17 hx17 => ?_)
        refine Di 14 (t:=Ux (Ps [_, _, _])) (k:=Dn 16 (k:=Na (k:=Dd (k:=?_))))
        exact to_inv ⟨(b3, x17), hx17⟩ trivial ⟨rfl, rfl, rfl, trivial⟩ ent_pick
       ·
        refine an_callX hTO rfl rfl rfl (fun x17 hx17 => ?_)
        refine Dn 8 (k:=?_)
        refine an_eload Tryz.underlying9 rfl rfl (get_mapD (f := vS) [] (l := usersL) (m := ui) hu2) rfl ?_
        refine Di 14 (t:=Ux (Ps [_, _, _])) (k:=Dn 16 (k:=Na (k:=Dd (k:=?_))))
        exact to_inv ⟨(b3, x17), hx17⟩ trivial ⟨rfl, rfl, rfl, trivial⟩ ent_pick
     ·
      refine an_callX hTO rfl rfl rfl (fun x17 hx17 => ?_)
      refine d_next2 7 15 (by kernel_rfl) rfl rfl ?_ ?_
      ·
       refine an_elemAddr (m := ui) (sz := 1) Tryz.underlying27 ti9 rfl rfl rfl rfl (by omega) (by simp) (Nat.mul_one _) rfl ?_
       refine d_next2 8 15 (by kernel_rfl) rfl rfl ?_ ?_
       ·
        refine an_eload Tryz.underlying9 rfl rfl (get_mapD (f := vS) [] (l := usersL) (m := ui) hu2) rfl ?_
        refine Di 14 (t:=Ux (Ps [_, _, _])) (k:=Dn 15 (k:=Nc [.int .i64 0, .slice none 0 0, vS []] (k:=fun b3 => Dn 16 (k:=Na (k:=Dd (k:=?_))))))
        exact to_inv ⟨(b3, x17), hx17⟩ trivial ⟨rfl, rfl, rfl, trivial⟩ ent_pick
       ·
        refine Nc [.int .i64 0, .slice none 0 0, vS []] (k:=fun b3 => Dn 8 (k:=?_))
        refine an_eload Tryz.underlying9 rfl rfl (get_mapD (f := vS) [] (l := usersL) (m := ui) hu2) rfl ?_
        refine Di 14 (t:=Ux (Ps [_, _, _])) (k:=Dn 16 (k:=Na (k:=Dd (k:=?_))))
        exact to_inv ⟨(b3, x17), hx17⟩ trivial ⟨rfl, rfl, rfl, trivial⟩ ent_pick
      ·
       refine Nc [.int .i64 0, .slice none 0 0, vS []] (k:=fun b3 => Dn 7 (k:=?_))
       refine an_elemAddr (m := ui) (sz := 1) Tryz.underlying27 ti9 rfl rfl rfl rfl (by omega) (by simp) (Nat.mul_one _) rfl ?_
       refine Dn 8 (k:=?_)
       refine an_eload Tryz.underlying9 rfl rfl (get_mapD (f := vS) [] (l := usersL) (m := ui) hu2) rfl ?_
       refine Di 14 (t:=Ux (Ps [_, _, _])) (k:=Dn 16 (k:=Na (k:=Dd (k:=?_))))
       exact to_inv ⟨(b3, x17), hx17⟩ trivial ⟨rfl, rfl, rfl, trivial⟩ ent_pick
     ·
      refine Nc [.int .i64 0, .slice none 0 0, vS []] (k:=fun b3 => ?_)
      refine d_next2 7 13 (by kernel_rfl) rfl rfl ?_ ?_
      ·
       refine an_elemAddr (m := ui) (sz := 1) Tryz.underlying27 ti9 rfl rfl rfl rfl (by omega) (by simp) (Nat.mul_one _) rfl ?_
       refine d_next2 8 13 (by kernel_rfl) rfl rfl ?_ ?_
       ·
        refine an_eload Tryz.underlying9 rfl rfl (get_mapD (f := vS) [] (l := usersL) (m := ui) hu2) rfl ?_
        refine Dn 13 (k:=?_)
        refine an_callX hTO rfl rfl rfl (fun x17 hx17 => ?_)
        refine Di 14 (t:=Ux (Ps [_, _, _])) (k:=Dn 16 (k:=Na (k:=Dd (k:=?_))))
        exact to_inv ⟨(b3, x17), hx17⟩ trivial ⟨rfl, rfl, rfl, trivial⟩ ent_pick
       ·
        refine an_callX hTO rfl rfl rfl (fun x17 hx17 => ?_)
        refine Dn 8 (k:=?_)
        refine an_eload Tryz.underlying9 rfl rfl (get_mapD (f := vS) [] (l := usersL) (m := ui) hu2) rfl ?_
        refine Di 14 (t:=Ux (Ps [_, _, _])) (k:=Dn 16 (k:=Na (k:=Dd (k:=?_))))
        exact to_inv ⟨(b3, x17), hx17⟩ trivial ⟨rfl, rfl, rfl, trivial⟩ ent_pick
      ·
       refine an_callX hTO rfl rfl rfl (fun x17 hx17 => ?_)
       refine Dn 7 (k:=?_)
       refine an_elemAddr (m := ui) (sz := 1) Tryz.underlying27 ti9 rfl rfl rfl rfl (by omega) (by simp) (Nat.mul_one _) rfl ?_
       refine Dn 8 (k:=?_)
       refine an_eload Tryz.underlying9 rfl rfl (get_mapD (f := vS) [] (l := usersL) (m := ui) hu2) rfl ?_
       refine Di 14 (t:=Ux (Ps [_, _, _])) (k:=Dn 16 (k:=Na (k:=Dd (k:=?_))))
       exact to_inv ⟨(b3, x17), hx17⟩ trivial ⟨rfl, rfl, rfl, trivial⟩ ent_pick
    ·
     refine an_callX hTO rfl rfl rfl (fun x17 hx17 => ?_)
     refine d_next2 3 15 (by kernel_rfl) rfl rfl ?_ ?_
     ·
      refine Nl [_, _] (cs := [_, _]) (k:=fun b7 => ?_)
      refine d_next2 7 15 (by kernel_rfl) rfl rfl ?_ ?_
      ·
       refine an_elemAddr (m := ui) (sz := 1) Tryz.underlying27 ti9 rfl rfl rfl rfl (by omega) (by simp) (Nat.mul_one _) rfl ?_
       refine d_next2 8 15 (by kernel_rfl) rfl rfl ?_ ?_
       ·
        refine an_eload Tryz.underlying9 rfl rfl (get_mapD (f := vS) [] (l := usersL) (m := ui) hu2) rfl ?_
        refine Di 14 (t:=Ux (Ps [_, _, _])) (k:=Dn 15 (k:=Nc [.int .i64 0, .slice none 0 0, vS []] (k:=fun b3 => Dn 16 (k:=Na (k:=Dd (k:=?_))))))
        exact to_inv ⟨(b3, x17), hx17⟩ trivial ⟨rfl, rfl, rfl, trivial⟩ ent_pick
       ·
        refine Nc [.int .i64 0, .slice none 0 0, vS []] (k:=fun b3 => Dn 8 (k:=?_))
        refine an_eload Tryz.underlying9 rfl rfl (get_mapD (f := vS) [] (l := usersL) (m := ui) hu2) rfl ?_
        refine Di 14 (t:=Ux (Ps [_, _, _])) (k:=Dn 16 (k:=Na (k:=Dd (k:=?_))))
        exact to_inv ⟨(b3, x17), hx17⟩ trivial ⟨rfl, rfl, rfl, trivial⟩ ent_pick
      ·
       refine Nc [.int .i64 0, .slice none 0 0, vS []] (k:=fun b3 => Dn 7 (k:=?_))
       refine an_elemAddr (m := ui) (sz := 1) Tryz.underlying27 ti9 rfl rfl rfl rfl (by omega) (by simp) (Nat.mul_one _) rfl ?_
       refine Dn 8 (k:=?_)
       refine an_eload Tryz.underlying9 rfl rfl (get_mapD (f := vS) [] (l := usersL) (m := ui) hu2) rfl ?_
       refine Di 14 (t:=Ux (Ps [_, _, _])) (k:=Dn 16 (k:=Na (k:=Dd (k:=?_))))
       exact to_inv ⟨(b3, x17), hx17⟩ trivial ⟨rfl, rfl, rfl, trivial⟩ ent_pick
     ·
      refine Nc [.int .i64 0, .slice none 0 0, vS []] (k:=fun b3 => Dn 3 (k:=Nl [_, _] (cs := [_, _]) (k:=fun b7 => Dn 7 (k:=?_))))
      refine an_elemAddr (m := ui) (sz := 1) Tryz.underlying27 ti9 rfl rfl rfl rfl (by omega) (by simp) (Nat.mul_one _) rfl ?_
      refine Dn 8 (k:=?_)
      refine an_eload Tryz.underlying9 rfl rfl (get_mapD (f := vS) [] (l := usersL) (m := ui) hu2) rfl ?_
      refine Di 14 (t:=Ux (Ps [_, _, _])) (k:=Dn 16 (k:=Na (k:=Dd (k:=?_))))
      exact to_inv ⟨(b3, x17), hx17⟩ trivial ⟨rfl, rfl, rfl, trivial⟩ ent_pick
    ·
     refine Nc [.int .i64 0, .slice none 0 0, vS []] (k:=fun b3 => ?_)
     refine d_next2 3 13 (by kernel_rfl) rfl rfl ?_ ?_
     ·
      refine Nl [_, _] (cs := [_, _]) (k:=fun b7 => ?_)
      refine d_next2 7 13 (by kernel_rfl) rfl rfl ?_ ?_
      ·
       refine an_elemAddr (m := ui) (sz := 1) Tryz.underlying27 ti9 rfl rfl rfl rfl (by omega) (by simp) (Nat.mul_one _) rfl ?_
       refine d_next2 8 13 (by kernel_rfl) rfl rfl ?_ ?_
       ·
        refine an_eload Tryz.underlying9 rfl rfl (get_mapD (f := vS) [] (l := usersL) (m := ui) hu2) rfl ?_
        refine Dn 13 (k:=?_)
        refine an_callX hTO rfl rfl rfl (fun x17 hx17 => ?_)
        refine Di 14 (t:=Ux (Ps [_, _, _])) (k:=Dn 16 (k:=Na (k:=Dd (k:=?_))))
        exact to_inv ⟨(b3, x17), hx17⟩ trivial ⟨rfl, rfl, rfl, trivial⟩ ent_pick
       ·
        refine an_callX hTO rfl rfl rfl (fun x17 hx17 => ?_)
        refine Dn 8 (k:=?_)
        refine an_eload Tryz.underlying9 rfl rfl (get_mapD (f := vS) [] (l := usersL) (m := ui) hu2) rfl ?_
        refine Di 14 (t:=Ux (Ps [_, _, _])) (k:=Dn 16 (k:=Na (k:=Dd (k:=?_))))
        exact to_inv ⟨(b3, x17), hx17⟩ trivial ⟨rfl, rfl, rfl, trivial⟩ ent_pick
      ·
       refine an_callX hTO rfl rfl rfl (fun x17 hx17 => ?_)
       refine Dn 7 (k:=?_)
       refine an_elemAddr (m := ui) (sz := 1) Tryz.underlying27 ti9 rfl rfl rfl rfl (by omega) (by simp) (Nat.mul_one _) rfl ?_
       refine Dn 8 (k:=?_)
       refine an_eload Tryz.underlying9 rfl rfl (get_mapD (f := vS) [] (l := usersL) (m := ui) hu2) rfl ?_
       refine Di 14 (t:=Ux (Ps [_, _, _])) (k:=Dn 16 (k:=Na (k:=Dd (k:=?_))))
       exact to_inv ⟨(b3, x17), hx17⟩ trivial ⟨rfl, rfl, rfl, trivial⟩ ent_pick
     ·
      refine an_callX hTO rfl rfl rfl (fun x17 hx17 => ?_)
      refine Dn 3 (k:=Nl [_, _] (cs := [_, _]) (k:=fun b7 => Dn 7 (k:=?_)))
      refine an_elemAddr (m := ui) (sz := 1) Tryz.underlying27 ti9 rfl rfl rfl rfl (by omega) (by simp) (Nat.mul_one _) rfl ?_
      refine Dn 8 (k:=?_)
      refine an_eload Tryz.underlying9 rfl rfl (get_mapD (f := vS) [] (l := usersL) (m := ui) hu2) rfl ?_
      refine Di 14 (t:=Ux (Ps [_, _, _])) (k:=Dn 16 (k:=Na (k:=Dd (k:=?_))))
      exact to_inv ⟨(b3, x17), hx17⟩ trivial ⟨rfl, rfl, rfl, trivial⟩ ent_pick
   ·
    refine Nc [.int .i64 0, .slice none 0 0, vS []] (k:=fun b3 => ?_)
    refine d_next2 3 6 (by kernel_rfl) rfl rfl ?_ ?_
    ·
     refine Nl [_, _] (cs := [_, _]) (k:=fun b7 => Dn 6 (k:=?_))
     refine an_callF (book_Within_sp u 0 1 (by omega) (by omega) (by omega)) rfl rfl rfl ?_
     rw [hui]
     refine d_next2 7 13 (by kernel_rfl) rfl rfl ?_ ?_
     ·
      refine an_elemAddr (m := ui) (sz := 1) Tryz.underlying27 ti9 rfl rfl rfl rfl (by omega) (by simp) (Nat.mul_one _) rfl ?_
      refine d_next2 8 13 (by kernel_rfl) rfl rfl ?_ ?_
      ·
       refine an_eload Tryz.underlying9 rfl rfl (get_mapD (f := vS) [] (l := usersL) (m := ui) hu2) rfl ?_
       refine Dn 13 (k:=?_)
       refine an_callX hTO rfl rfl rfl (fun x17 hx17 => ?_)
       refine Di 14 (t:=Ux (Ps [_, _, _])) (k:=Dn 16 (k:=Na (k:=Dd (k:=?_))))
       exact to_inv ⟨(b3, x17), hx17⟩ trivial ⟨rfl, rfl, rfl, trivial⟩ ent_pick
      ·
       refine an_callX hTO rfl rfl rfl (fun x17 hx17 => ?_)
       refine Dn 8 (k:=?_)
       refine an_eload Tryz.underlying9 rfl rfl (get_mapD (f := vS) [] (l := usersL) (m := ui) hu2) rfl ?_
       refine Di 14 (t:=Ux (Ps [_, _, _])) (k:=Dn 16 (k:=Na (k:=Dd (k:=?_))))
       exact to_inv ⟨(b3, x17), hx17⟩ trivial ⟨rfl, rfl, rfl, trivial⟩ ent_pick
     ·
      refine an_callX hTO rfl rfl rfl (fun x17 hx17 => ?_)
      refine Dn 7 (k:=?_)
      refine an_elemAddr (m := ui) (sz := 1) Tryz.underlying27 ti9 rfl rfl rfl rfl (by omega) (by simp) (Nat.mul_one _) rfl ?_
      refine Dn 8 (k:=?_)
      refine an_eload Tryz.underlying9 rfl rfl (get_mapD (f := vS) [] (l := usersL) (m := ui) hu2) rfl ?_
      refine Di 14 (t:=Ux (Ps [_, _, _])) (k:=Dn 16 (k:=Na (k:=Dd (k:=?_))))
      exact to_inv ⟨(b3, x17), hx17⟩ trivial ⟨rfl, rfl, rfl, trivial⟩ ent_pick
    ·
     refine an_callF (book_Within_sp u 0 1 (by omega) (by omega) (by omega)) rfl rfl rfl ?_
     rw [hui]
     refine d_next2 3 13 (by kernel_rfl) rfl rfl ?_ ?_
     ·
      refine Nl [_, _] (cs := [_, _]) (k:=fun b7 => ?_)
      refine d_next2 7 13 (by kernel_rfl) rfl rfl ?_ ?_
      ·
       refine an_elemAddr (m := ui) (sz := 1) Tryz.underlying27 ti9 rfl rfl rfl rfl (by omega) (by simp) (Nat.mul_one _) rfl ?_
       refine d_next2 8 13 (by kernel_rfl) rfl rfl ?_ ?_
       ·
        refine an_eload Tryz.underlying9 rfl rfl (get_mapD (f := vS) [] (l := usersL) (m := ui) hu2) rfl ?_
        refine Dn 13 (k:=?_)
        refine an_callX hTO rfl rfl rfl (fun x17 hx17 => ?_)
        refine Di 14 (t:=Ux (Ps [_, _, _])) (k:=Dn 16 (k:=Na (k:=Dd (k:=?_))))
        exact to_inv ⟨(b3, x17), hx17⟩ trivial ⟨rfl, rfl, rfl, trivial⟩ ent_pick
       ·
        refine an_callX hTO rfl rfl rfl (fun x17 hx17 => ?_)
        refine Dn 8 (k:=?_)
        refine an_eload Tryz.underlying9 rfl rfl (get_mapD (f := vS) [] (l := usersL) (m := ui) hu2) rfl ?_
        refine Di 14 (t:=Ux (Ps [_, _, _])) (k:=Dn 16 (k:=Na (k:=Dd (k:=?_))))
        exact to_inv ⟨(b3, x17), hx17⟩ trivial ⟨rfl, rfl, rfl, trivial⟩ ent_pick
      ·
       refine an_callX hTO rfl rfl rfl (fun x17 hx17 => ?_)
       refine Dn 7 (k:=?_)
       refine an_elemAddr (m := ui) (sz := 1) Tryz.underlying27 ti9 rfl rfl rfl rfl (by omega) (by simp) (Nat.mul_one _) rfl ?_
       refine Dn 8 (k:=?_)
       refine an_eload Tryz.underlying9 rfl rfl (get_mapD (f := vS) [] (l := usersL) (m := ui) hu2) rfl ?_
       refine Di 14 (t:=Ux (Ps [_, _, _])) (k:=Dn 16 (k:=Na (k:=Dd (k:=?_))))
       exact to_inv ⟨(b3, x17), hx17⟩ trivial ⟨rfl, rfl, rfl, trivial⟩ ent_pick
     ·
      refine an_callX hTO rfl rfl rfl (fun x17 hx17 => ?_)
      refine Dn 3 (k:=Nl [_, _] (cs := [_, _]) (k:=fun b7 => Dn 7 (k:=?_)))
      refine an_elemAddr (m := ui) (sz := 1) Tryz.underlying27 ti9 rfl rfl rfl rfl (by omega) (by simp) (Nat.mul_one _) rfl ?_
      refine Dn 8 (k:=?_)
      refine an_eload Tryz.underlying9 rfl rfl (get_mapD (f := vS) [] (l := usersL) (m := ui) hu2) rfl ?_
      refine Di 14 (t:=Ux (Ps [_, _, _])) (k:=Dn 16 (k:=Na (k:=Dd (k:=?_))))
      exact to_inv ⟨(b3, x17), hx17⟩ trivial ⟨rfl, rfl, rfl, trivial⟩ ent_pick
  ·
   refine Nl [_, _] (cs := [_, _]) (k:=fun b7 => ?_)
   refine d_next2 2 15 (by kernel_rfl) rfl rfl ?_ ?_
   ·
    refine an_callF (book_Within_sp d 0 9 (by omega) (by omega) (by omega)) rfl rfl rfl ?_
    refine d_next2 6 15 (by kernel_rfl) rfl rfl ?_ ?_
    ·
     refine an_callF (book_Within_sp u 0 1 (by omega) (by omega) (by omega)) rfl rfl rfl ?_
     rw [hui]
     refine d_next3 7 13 15 (by kernel_rfl) rfl rfl rfl ?_ ?_ ?_
     ·
      refine an_elemAddr (m := ui) (sz := 1) Tryz.underlying27 ti9 rfl rfl rfl rfl (by omega) (by simp) (Nat.mul_one _) rfl ?_
      refine d_next3 8 13 15 (by kernel_rfl) rfl rfl rfl ?_ ?_ ?_
      ·
       refine an_eload Tryz.underlying9 rfl rfl (get_mapD (f := vS) [] (l := usersL) (m := ui) hu2) rfl ?_
       refine d_next2 13 15 (by kernel_rfl) rfl rfl ?_ ?_
       ·
        refine an_callX hTO rfl rfl rfl (fun x17 hx17 => ?_)
        refine Di 14 (t:=Ux (Ps [_, _, _])) (k:=Dn 15 (k:=Nc [.int .i64 0, .slice none 0 0, vS []] (k:=fun b3 => Dn 16 (k:=Na (k:=Dd (k:=?_))))))
        exact to_inv ⟨(b3, x17), hx17⟩ trivial ⟨rfl, rfl, rfl, trivial⟩ ent_pick
       ·
        refine Nc [.int .i64 0, .slice none 0 0, vS []] (k:=fun b3 => Dn 13 (k:=?_))
        refine an_callX hTO rfl rfl rfl (fun x17 hx17 => ?_)
        refine Di 14 (t:=Ux (Ps [_, _, _])) (k:=Dn 16 (k:=Na (k:=Dd (k:=?_))))
        exact to_inv ⟨(b3, x17), hx17⟩ trivial ⟨rfl, rfl, rfl, trivial⟩ ent_pick
      ·
       refine an_callX hTO rfl rfl rfl (fun x17 hx17 => ?_)
       refine d_next2 8 15 (by kernel_rfl) rfl rfl ?_ ?_
       ·
        refine an_eload Tryz.underlying9 rfl rfl (get_mapD (f := vS) [] (l := usersL) (m := ui) hu2) rfl ?_
        refine Di 14 (t:=Ux (Ps [_, _, _])) (k:=Dn 15 (k:=Nc [.int .i64 0, .slice none 0 0, vS []] (k:=fun b3 => Dn 16 (k:=Na (k:=Dd (k:=?_))))))
        exact to_inv ⟨(b3, x17), hx17⟩ trivial ⟨rfl, rfl, rfl, trivial⟩ ent_pick
       ·
        refine Nc [.int .i64 0, .slice none 0 0, vS []] (k:=fun b3 => Dn 8 (k:=?_))
        refine an_eload Tryz.underlying9 rfl rfl (get_mapD (f := vS) [] (l := usersL) (m := ui) hu2) rfl ?_
        refine Di 14 (t:=Ux (Ps [_, _, _])) (k:=Dn 16 (k:=Na (k:=Dd (k:=?_))))
        exact to_inv ⟨(b3, x17), hx17⟩ trivial ⟨rfl, rfl, rfl, trivial⟩ ent_pick
      ·
       refine Nc [.int .i64 0, .slice none 0 0, vS []] (k:=fun b3 => ?_)
       refine d_next2 8 13 (by kernel_rfl) rfl rfl ?_ ?_
       ·
        refine an_eload Tryz.underlying9 rfl rfl (get_mapD (f := vS) [] (l := usersL) (m := ui) hu2) rfl ?_
        refine Dn 13 (k:=?_)
        refine an_callX hTO rfl rfl rfl (fun x17 hx17 => ?_)
        refine Di 14 (t:=Ux (Ps [_, _, _])) (k:=Dn 16 (k:=Na (k:=Dd (k:=?_))))
        exact to_inv ⟨(b3, x17), hx17⟩ trivial ⟨rfl, rfl, rfl, trivial⟩ ent_pick
       ·
        refine an_callX hTO rfl rfl rfl (fun x17 hx17 => ?_)
        refine Dn 8 (k:=?_)
        refine an_eload Tryz.underlying9 rfl rfl (get_mapD (f := vS) [] (l := usersL) (m := ui) hu2) rfl ?_
        refine Di 14 (t:=Ux (Ps [_, _, _])) (k:=Dn 16 (k:=Na (k:=Dd (k:=?_))))
        exact to_inv ⟨(b3, x17), hx17⟩ trivial ⟨rfl, rfl, rfl, trivial⟩ ent_pick
     ·
      refine an_callX hTO rfl rfl rfl (fun x17 hx17 => ?_)
      refine d_next2 7 15 (by kernel_rfl) rfl rfl ?_ ?_
      ·
       refine an_elemAddr (m := ui) (sz := 1) Tryz.underlying27 ti9 rfl rfl rfl rfl (by omega) (by simp) (Nat.mul_one _) rfl ?_
       refine d_next2 8 15 (by kernel_rfl) rfl rfl ?_ ?_
       ·
        refine an_eload Tryz.underlying9 rfl rfl (get_mapD (f := vS) [] (l := usersL) (m := ui) hu2) rfl ?_
        refine Di 14 (t:=Ux (Ps [_, _, _])) (k:=Dn 15 (k:=Nc [.int .i64 0, .slice none 0 0, vS []] (k:=fun b3 => Dn 16 (k:=Na (k:=Dd (k:=?_))))))
        exact to_inv ⟨(b3, x17), hx17⟩ trivial ⟨rfl, rfl, rfl, trivial⟩ ent_pick
       ·
        refine Nc [.int .i64 0, .slice none 0 0, vS []] (k:=fun b3 => Dn 8 (k:=?_))
        refine an_eload Tryz.underlying9 rfl rfl (get_mapD (f := vS) [] (l := usersL) (m := ui) hu2) rfl ?_
        refine Di 14 (t:=Ux (Ps [_, _, _])) (k:=Dn 16 (k:=Na (k:=Dd (k:=?_))))
        exact to_inv ⟨(b3, x17), hx17⟩ trivial ⟨rfl, rfl, rfl, trivial⟩ ent_pick
      ·
       refine Nc [.int .i64 0, .slice none 0 0, vS []] (k:=fun b3 => Dn 7 (k:=?_))
       refine an_elemAddr (m := ui) (sz := 1) Tryz.underlying27 ti9 rfl rfl rfl rfl (by omega) (by simp) (Nat.mul_one _) rfl ?_
       refine Dn 8 (k:=?_)
       refine an_eload Tryz.underlying9 rfl rfl (get_mapD (f := vS) [] (l := usersL) (m := ui) hu2) rfl ?_
       refine Di 14 (t:=Ux (Ps [_, _, _])) (k:=Dn 16 (k:=Na (k:=Dd (k:=?_))))
       exact to_inv ⟨(b3, x17), hx17⟩ trivial ⟨rfl, rfl, rfl, trivial⟩ ent_pick
     ·
      refine Nc [.int .i64 0, .slice none 0 0, vS []] (k:=fun b3 => ?_)
      refine d_next2 7 13 (by kernel_rfl) rfl rfl ?_ ?_
      ·
       refine an_elemAddr (m := ui) (sz := 1) Tryz.underlying27 ti9 rfl rfl rfl rfl (by omega) (by simp) (Nat.mul_one _) rfl ?_
       refine d_next2 8 13 (by kernel_rfl) rfl rfl ?_ ?_
       ·
        refine an_eload Tryz.underlying9 rfl rfl (get_mapD (f := vS) [] (l := usersL) (m := ui) hu2) rfl ?_
        refine Dn 13 (k:=?_)
        refine an_callX hTO rfl rfl rfl (fun x17 hx17 => ?_)
        refine Di 14 (t:=Ux (Ps [_, _, _])) (k:=Dn 16 (k:=Na (k:=Dd (k:=?_))))
        exact to_inv ⟨(b3, x17), hx17⟩ trivial ⟨rfl, rfl, rfl, trivial⟩ ent_pick
       ·
        refine an_callX hTO rfl rfl rfl (fun x17 hx17 => ?_)
        refine Dn 8 (k:=?_)
        refine an_eload Tryz.underlying9 rfl rfl (get_mapD (f := vS) [] (l := usersL) (m := ui) hu2) rfl ?_
        refine Di 14 (t:=Ux (Ps [_, _, _])) (k:=Dn 16 (k:=Na (k:=Dd (k:=?_))))
        exact to_inv ⟨(b3, x17), hx17⟩ trivial ⟨rfl, rfl, rfl, trivial⟩ ent_pick
      ·
       refine an_callX hTO rfl rfl rfl (fun x17 hx17 => ?_)
       refine Dn 7 (k:=?_)
       refine an_elemAddr (m := ui) (sz := 1) Tryz.underlying27 ti9 rfl rfl rfl rfl (by omega) (by simp) (Nat.mul_one _) rfl ?_
       refine Dn 8 (k:=?_)
       refine an_eload Tryz.underlying9 rfl rfl (get_mapD (f := vS) [] (l := usersL) (m := ui) hu2) rfl ?_
       refine Di 14 (t:=Ux (Ps [_, _, _])) (k:=Dn 16 (k:=Na (k:=Dd (k:=?_))))
       exact to_inv ⟨(b3, x17), hx17⟩ trivial ⟨rfl, rfl, rfl, trivial⟩ ent_pick
    ·
     refine Nc [.int .i64 0, .slice none 0 0, vS []] (k:=fun b3 => Dn 6 (k:=?_))
     refine an_callF (book_Within_sp u 0 1 (by omega) (by omega) (by omega)) rfl rfl rfl ?_
     rw [hui]
     refine d_next2 7 13 (by kernel_rfl) rfl rfl ?_ ?_
     ·
      refine an_elemAddr (m := ui) (sz := 1) Tryz.underlying27 ti9 rfl rfl rfl rfl (by omega) (by simp) (Nat.mul_one _) rfl ?_
      refine d_next2 8 13 (by kernel_rfl) rfl rfl ?_ ?_
      ·
       refine an_eload Tryz.underlying9 rfl rfl (get_mapD (f := vS) [] (l := usersL) (m := ui) hu2) rfl ?_
       refine Dn 13 (k:=?_)
       refine an_callX hTO rfl rfl rfl (fun x17 hx17 => ?_)
       refine Di 14 (t:=Ux (Ps [_, _, _])) (k:=Dn 16 (k:=Na (k:=Dd (k:=?_))))
       exact to_inv ⟨(b3, x17), hx17⟩ trivial ⟨rfl, rfl, rfl, trivial⟩ ent_pick
      ·
       refine an_callX hTO rfl rfl rfl (fun x17 hx17 => ?_)
       refine Dn 8 (k:=?_)
       refine an_eload Tryz.underlying9 rfl rfl (get_mapD (f := vS) [] (l := usersL) (m := ui) hu2) rfl ?_
       refine Di 14 (t:=Ux (Ps [_, _, _])) (k:=Dn 16 (k:=Na (k:=Dd (k:=?_))))
       exact to_inv ⟨(b3, x17), hx17⟩ trivial ⟨rfl, rfl, rfl, trivial⟩ ent_pick
     ·
      refine an_callX hTO rfl rfl rfl (fun x17 hx17 => ?_)
      refine Dn 7 (k:=?_)
      refine an_elemAddr (m := ui) (sz := 1) Tryz.underlying27 ti9 rfl rfl rfl rfl (by omega) (by simp) (Nat.mul_one _) rfl ?_
      refine Dn 8 (k:=?_)
      refine an_eload Tryz.underlying9 rfl rfl (get_mapD (f := vS) [] (l := usersL) (m := ui) hu2) rfl ?_
      refine Di 14 (t:=Ux (Ps [_, _, _])) (k:=Dn 16 (k:=Na (k:=Dd (k:=?_))))
      exact to_inv ⟨(b3, x17), hx17⟩ trivial ⟨rfl, rfl, rfl, trivial⟩ ent_pick
   ·
    refine Nc [.int .i64 0, .slice none 0 0, vS []] (k:=fun b3 => Dn 2 (k:=?_))
    refine an_callF (book_Within_sp d 0 9 (by omega) (by omega) (by omega)) rfl rfl rfl ?_
    refine Dn 6 (k:=?_)
    refine an_callF (book_Within_sp u 0 1 (by omega) (by omega) (by omega)) rfl rfl rfl ?_
    rw [hui]
    refine d_next2 7 13 (by kernel_rfl) rfl rfl ?_ ?_
    ·
     refine an_elemAddr (m := ui) (sz := 1) Tryz.underlying27 ti9 rfl rfl rfl rfl (by omega) (by simp) (Nat.mul_one _) rfl ?_
     refine d_next2 8 13 (by kernel_rfl) rfl rfl ?_ ?_
     ·
      refine an_eload Tryz.underlying9 rfl rfl (get_mapD (f := vS) [] (l := usersL) (m := ui) hu2) rfl ?_
      refine Dn 13 (k:=?_)
      refine an_callX hTO rfl rfl rfl (fun x17 hx17 => ?_)
      refine Di 14 (t:=Ux (Ps [_, _, _])) (k:=Dn 16 (k:=Na (k:=Dd (k:=?_))))
      exact to_inv ⟨(b3, x17), hx17⟩ trivial ⟨rfl, rfl, rfl, trivial⟩ ent_pick
     ·
      refine an_callX hTO rfl rfl rfl (fun x17 hx17 => ?_)
      refine Dn 8 (k:=?_)
      refine an_eload Tryz.underlying9 rfl rfl (get_mapD (f := vS) [] (l := usersL) (m := ui) hu2) rfl ?_
      refine Di 14 (t:=Ux (Ps [_, _, _])) (k:=Dn 16 (k:=Na (k:=Dd (k:=?_))))
      exact to_inv ⟨(b3, x17), hx17⟩ trivial ⟨rfl, rfl, rfl, trivial⟩ ent_pick
    ·
     refine an_callX hTO rfl rfl rfl (fun x17 hx17 => ?_)
     refine Dn 7 (k:=?_)
     refine an_elemAddr (m := ui) (sz := 1) Tryz.underlying27 ti9 rfl rfl rfl rfl (by omega) (by simp) (Nat.mul_one _) rfl ?_
     refine Dn 8 (k:=?_)
     refine an_eload Tryz.underlying9 rfl rfl (get_mapD (f := vS) [] (l := usersL) (m := ui) hu2) rfl ?_
     refine Di 14 (t:=Ux (Ps [_, _, _])) (k:=Dn 16 (k:=Na (k:=Dd (k:=?_))))
     exact to_inv ⟨(b3, x17), hx17⟩ trivial ⟨rfl, rfl, rfl, trivial⟩ ent_pick
  ·
   refine Nc [.int .i64 0, .slice none 0 0, vS []] (k:=fun b3 => ?_)
   refine d_next2 2 3 (by kernel_rfl) rfl rfl ?_ ?_
   ·
    refine an_callF (book_Within_sp d 0 9 (by omega) (by omega) (by omega)) rfl rfl rfl ?_
    refine d_next2 3 6 (by kernel_rfl) rfl rfl ?_ ?_
    ·
     refine Nl [_, _] (cs := [_, _]) (k:=fun b7 => Dn 6 (k:=?_))
     refine an_callF (book_Within_sp u 0 1 (by omega) (by omega) (by omega)) rfl rfl rfl ?_
     rw [hui]
     refine d_next2 7 13 (by kernel_rfl) rfl rfl ?_ ?_
     ·
      refine an_elemAddr (m := ui) (sz := 1) Tryz.underlying27 ti9 rfl rfl rfl rfl (by omega) (by simp) (Nat.mul_one _) rfl ?_
      refine d_next2 8 13 (by kernel_rfl) rfl rfl ?_ ?_
      ·
       refine an_eload Tryz.underlying9 rfl rfl (get_mapD (f := vS) [] (l := usersL) (m := ui) hu2) rfl ?_
       refine Dn 13 (k:=?_)
       refine an_callX hTO rfl rfl rfl (fun x17 hx17 => ?_)
       refine Di 14 (t:=Ux (Ps [_, _, _])) (k:=Dn 16 (k:=Na (k:=Dd (k:=?_))))
       exact to_inv ⟨(b3, x17), hx17⟩ trivial ⟨rfl, rfl, rfl, trivial⟩ ent_pick
      ·
       refine an_callX hTO rfl rfl rfl (fun x17 hx17 => ?_)
       refine Dn 8 (k:=?_)
       refine an_eload Tryz.underlying9 rfl rfl (get_mapD (f := vS) [] (l := usersL) (m := ui) hu2) rfl ?_
       refine Di 14 (t:=Ux (Ps [_, _, _])) (k:=Dn 16 (k:=Na (k:=Dd (k:=?_))))
       exact to_inv ⟨(b3, x17), hx17⟩ trivial ⟨rfl, rfl, rfl, trivial⟩ ent_pick
     ·
      refine an_callX hTO rfl rfl rfl (fun x17 hx17 => ?_)
      refine Dn 7 (k:=?_)
      refine an_elemAddr (m := ui) (sz := 1) Tryz.underlying27 ti9 rfl rfl rfl rfl (by omega) (by simp) (Nat.mul_one _) rfl ?_
      refine Dn 8 (k:=?_)
      refine an_eload Tryz.underlying9 rfl rfl (get_mapD (f := vS) [] (l := usersL) (m := ui) hu2) rfl ?_
      refine Di 14 (t:=Ux (Ps [_, _, _])) (k:=Dn 16 (k:=Na (k:=Dd (k:=?_))))
      exact to_inv ⟨(b3, x17), hx17⟩ trivial ⟨rfl, rfl, rfl, trivial⟩ ent_pick
    ·
     refine an_callF (book_Within_sp u 0 1 (by omega) (by omega) (by omega)) rfl rfl rfl ?_
     rw [hui]
     refine d_next2 3 13 (by kernel_rfl) rfl rfl ?_ ?_
     ·
      refine Nl [_, _] (cs := [_, _]) (k:=fun b7 => ?_)
      refine d_next2 7 13 (by kernel_rfl) rfl rfl ?_ ?_
      ·
       refine an_elemAddr (m := ui) (sz := 1) Tryz.underlying27 ti9 rfl rfl rfl rfl (by omega) (by simp) (Nat.mul_one _) rfl ?_
       refine d_next2 8 13 (by kernel_rfl) rfl rfl ?_ ?_
       ·
        refine an_eload Tryz.underlying9 rfl rfl (get_mapD (f := vS) [] (l := usersL) (m := ui) hu2) rfl ?_
        refine Dn 13 (k:=?_)
        refine an_callX hTO rfl rfl rfl (fun x17 hx17 => ?_)
        refine Di 14 (t:=Ux (Ps [_, _, _])) (k:=Dn 16 (k:=Na (k:=Dd (k:=?_))))
        exact to_inv ⟨(b3, x17), hx17⟩ trivial ⟨rfl, rfl, rfl, trivial⟩ ent_pick
       ·
        refine an_callX hTO rfl rfl rfl (fun x17 hx17 => ?_)
        refine Dn 8 (k:=?_)
        refine an_eload Tryz.underlying9 rfl rfl (get_mapD (f := vS) [] (l := usersL) (m := ui) hu2) rfl ?_
        refine Di 14 (t:=Ux (Ps [_, _, _])) (k:=Dn 16 (k:=Na (k:=Dd (k:=?_))))
        exact to_inv ⟨(b3, x17), hx17⟩ trivial ⟨rfl, rfl, rfl, trivial⟩ ent_pick
      ·
       refine an_callX hTO rfl rfl rfl (fun x17 hx17 => ?_)
       refine Dn 7 (k:=?_)
       refine an_elemAddr (m := ui) (sz := 1) Tryz.underlying27 ti9 rfl rfl rfl rfl (by omega) (by simp) (Nat.mul_one _) rfl ?_
       refine Dn 8 (k:=?_)
       refine an_eload Tryz.underlying9 rfl rfl (get_mapD (f := vS) [] (l := usersL) (m := ui) hu2) rfl ?_
       refine Di 14 (t:=Ux (Ps [_, _, _])) (k:=Dn 16 (k:=Na (k:=Dd (k:=?_))))
       exact to_inv ⟨(b3, x17), hx17⟩ trivial ⟨rfl, rfl, rfl, trivial⟩ ent_pick
     ·
      refine an_callX hTO rfl rfl rfl (fun x17 hx17 => ?_)
      refine Dn 3 (k:=Nl [_, _] (cs := [_, _]) (k:=fun b7 => Dn 7 (k:=?_)))
      refine an_elemAddr (m := ui) (sz := 1) Tryz.underlying27 ti9 rfl rfl rfl rfl (by omega) (by simp) (Nat.mul_one _) rfl ?_
      refine Dn 8 (k:=?_)
      refine an_eload Tryz.underlying9 rfl rfl (get_mapD (f := vS) [] (l := usersL) (m := ui) hu2) rfl ?_
      refine Di 14 (t:=Ux (Ps [_, _, _])) (k:=Dn 16 (k:=Na (k:=Dd (k:=?_))))
      exact to_inv ⟨(b3, x17), hx17⟩ trivial ⟨rfl, rfl, rfl, trivial⟩ ent_pick
   ·
    refine Nl [_, _] (cs := [_, _]) (k:=fun b7 => Dn 2 (k:=?_))
    refine an_callF (book_Within_sp d 0 9 (by omega) (by omega) (by omega)) rfl rfl rfl ?_
    refine Dn 6 (k:=?_)
    refine an_callF (book_Within_sp u 0 1 (by omega) (by omega) (by omega)) rfl rfl rfl ?_
    rw [hui]
    refine d_next2 7 13 (by kernel_rfl) rfl rfl ?_ ?_
    ·
     refine an_elemAddr (m := ui) (sz := 1) Tryz.underlying27 ti9 rfl rfl rfl rfl (by omega) (by simp) (Nat.mul_one _) rfl ?_
     refine d_next2 8 13 (by kernel_rfl) rfl rfl ?_ ?_
     ·
      refine an_eload Tryz.underlying9 rfl rfl (get_mapD (f := vS) [] (l := usersL) (m := ui) hu2) rfl ?_
      refine Dn 13 (k:=?_)
      refine an_callX hTO rfl rfl rfl (fun x17 hx17 => ?_)
      refine Di 14 (t:=Ux (Ps [_, _, _])) (k:=Dn 16 (k:=Na (k:=Dd (k:=?_))))
      exact to_inv ⟨(b3, x17), hx17⟩ trivial ⟨rfl, rfl, rfl, trivial⟩ ent_pick
     ·
      refine an_callX hTO rfl rfl rfl (fun x17 hx17 => ?_)
      refine Dn 8 (k:=?_)
      refine an_eload Tryz.underlying9 rfl rfl (get_mapD (f := vS) [] (l := usersL) (m := ui) hu2) rfl ?_
      refine Di 14 (t:=Ux (Ps [_, _, _])) (k:=Dn 16 (k:=Na (k:=Dd (k:=?_))))
      exact to_inv ⟨(b3, x17), hx17⟩ trivial ⟨rfl, rfl, rfl, trivial⟩ ent_pick
    ·
     refine an_callX hTO rfl rfl rfl (fun x17 hx17 => ?_)
     refine Dn 7 (k:=?_)
     refine an_elemAddr (m := ui) (sz := 1) Tryz.underlying27 ti9 rfl rfl rfl rfl (by omega) (by simp) (Nat.mul_one _) rfl ?_
     refine Dn 8 (k:=?_)
     refine an_eload Tryz.underlying9 rfl rfl (get_mapD (f := vS) [] (l := usersL) (m := ui) hu2) rfl ?_
     refine Di 14 (t:=Ux (Ps [_, _, _])) (k:=Dn 16 (k:=Na (k:=Dd (k:=?_))))
     exact to_inv ⟨(b3, x17), hx17⟩ trivial ⟨rfl, rfl, rfl, trivial⟩ ent_pick
end Go.Proofs.YtibccdcemcgkeaaGreat
end
section
namespace Go.Proofs.YtibccdcemcgkeaaGreat
section
variable {P : Program} {n : Nat} {L : Loc} {ty : TypeId}
end
structure KFiles (whole : Bool) (j : Nat) (l : List (Bs × Bs)) : Prop where
 len : l.length ≤ 2
 hash : ∀ f ∈ l, (∃ n, f.2 = nameB n) ∨ (whole = false ∧ f.2 = [])
 name : ∀ f ∈ l, ∃ i, i < j ∧ f.1 = wordsL.getD i []
 rise : l.Pairwise (fun x y => blt x.1 y.1 = true)
theorem KFiles.snoc {whole : Bool} {j : Nat} {l : List (Bs × Bs)} {t : Bs × Bs} (h : KFiles whole j l) (hj : j < 6) (hl : l.length ≤ 1) (hk : (∃ n, t.2 = nameB n) ∨ (whole = false ∧ t.2 = [])) (hn : t.1 = wordsL.getD j []) : KFiles whole (j + 1) (l ++ [t]) := by
 obtain ⟨h1, h2, h3, h4⟩ := h
 refine ⟨by simp; omega, ?_, ?_, ?_⟩
 · intro x hx
   rcases List.mem_append.1 hx with e | e
   · exact h2 x e
   · rw [List.mem_singleton.1 e]; exact hk
 · intro x hx
   rcases List.mem_append.1 hx with e | e
   · obtain ⟨i, hi, e2⟩ := h3 x e
     exact ⟨i, by omega, e2⟩
   · rw [List.mem_singleton.1 e]; exact ⟨j, by omega, hn⟩
 · rw [List.pairwise_append]
   refine ⟨h4, by simp, fun a ha b hb => ?_⟩
   rw [List.mem_singleton.1 hb, hn]
   obtain ⟨i, hi, e2⟩ := h3 a ha
   rw [e2]
   exact words_rise i j hi hj
theorem KFiles.more {own : Bool} {j : Nat} {l : List (Bs × Bs)} (h : KFiles own j l) : KFiles own (j + 1) l := ⟨h.len, h.hash, fun t ht => by obtain ⟨i, hi, e⟩ := h.name t ht; exact ⟨i, by omega, e⟩, h.rise⟩
theorem KFiles.right {w : Bool} {l : List (Bs × Bs)} (h : KFiles w 6 l) : RightF w l := by
 refine ⟨fun i hi => ?_, by have := h.len; omega⟩
 have e : l.getD i ([], []) = l[i] := by simp [hi]
 have hm : l[i] ∈ l := List.getElem_mem hi
 obtain ⟨k, hk, hn⟩ := h.name _ hm
 refine ⟨by rw [e, hn]; exact (words_ok k hk).1, fun h0 => ?_, ?_⟩
 · have e2 : l.getD (i - 1) ([], []) = l[i - 1] := by simp [show i - 1 < l.length by omega]
   rw [e, e2]
   exact List.pairwise_iff_getElem.1 h.rise (i - 1) i (by omega) hi (by omega)
 · rw [e]
   rcases h.hash _ hm with ⟨n, e2⟩ | ⟨h1, h2⟩
   · left; rw [e2]; exact isN_name n
   · right; exact ⟨h1, h2⟩
structure KPars (j : Nat) (l : List Bs) : Prop where
 len : l.length ≤ j
 all : ∀ p ∈ l, ∃ n, p = nameB n
 two : l.Nodup
theorem KPars.snoc {j : Nat} {l : List Bs} {p : Bs} (h : KPars j l) (hl : l.length ≤ 1) (hp : ∃ n, p = nameB n) (hn : l = [] ∨ l.getD 0 [] ≠ p) : KPars (j + 1) (l ++ [p]) := by
 refine ⟨by have := h.len; simp; omega, ?_, ?_⟩
 · intro x hx
   rcases List.mem_append.1 hx with e | e
   · exact h.all x e
   · rw [List.mem_singleton.1 e]; exact hp
 · rw [List.nodup_append]
   refine ⟨h.two, by simp, fun a ha b hb => ?_⟩
   rw [List.mem_singleton.1 hb]
   cases l with
   | nil => cases ha
   | cons x r =>
     cases r with
     | nil =>
       rw [List.mem_singleton.1 ha]
       rcases hn with e | e
       · cases e
       · exact e
     | cons y r => simp at hl
theorem KPars.right {j : Nat} {l : List Bs} (h : KPars j l) (hj : j ≤ 2) : RightP l 3 := by
 refine ⟨fun i hi => ?_, by have := h.len; omega⟩
 have e : l.getD i [] = l[i] := by simp [hi]
 rw [e]
 obtain ⟨n, hn⟩ := h.all _ (List.getElem_mem hi)
 refine ⟨by rw [hn]; exact isN_name n, fun hm => ?_⟩
 obtain ⟨k, hk, ek⟩ := List.getElem_of_mem hm
 rw [List.getElem_take] at ek
 have hki : k < i := by rw [List.length_take] at hk; omega
 exact absurd ek ((List.pairwise_iff_getElem.1 h.two) k i (by omega) hi hki)
/-- A check-in of the keeper. -/
structure KCk (c : Ck) : Prop where
 right : RightK c
 base : c.base = [] ∨ ∃ n, c.base = nameB n
 files : ∀ f ∈ c.files, f.2 = [] ∨ ∃ n, f.2 = nameB n
 pars : ∀ p ∈ c.parents, ∃ n, p = nameB n
 z : CkZ c
theorem KCk.mk' {base com user : Bs} {date : Int} {fs : List (Bs × Bs)} {ps : List Bs} {ts : List Tg} (hb : base = [] ∨ ∃ n, base = nameB n) (hc : com.length ≤ 12) (hd : 0 ≤ date ∧ date ≤ 9) (hu : wordP user ∧ user.length ≤ 3)
    (hf : KFiles (decide (base = [])) 6 fs) (hp : KPars 2 ps) (ht : KTags true 6 ts) : KCk ⟨base, com, date, fs, ps, ts, user⟩ := by
 refine ⟨⟨?_, by dsimp only; omega, by dsimp only; omega, hf.right, hp.right (Nat.le_refl _), ht.right, hu.1⟩, hb, fun f h => ?_, hp.all, ?_⟩
 · rcases hb with h | ⟨n, h⟩
   · exact .inl h
   · right; dsimp only; rw [h]; exact isN_name n
 · rcases hf.hash f h with h | h
   · exact .inr h
   · exact .inl h.2
 · have h40 : ∀ n, (nameB n).length = 40 := fun n => shaB_len _
   refine ⟨?_, by dsimp only; omega, by dsimp only; omega, by have := hf.len; dsimp only; omega, fun f h => ?_, by have := hp.len; dsimp only; omega, fun p h => ?_, ht.z (Nat.le_refl _)⟩
   · rcases hb with h | ⟨n, h⟩
     · dsimp only; rw [h]; exact Nat.zero_le _
     · dsimp only; rw [h, h40]; omega
   · obtain ⟨k, hk, hn⟩ := hf.name f h
     have h1 := (words_ok k hk).2
     rw [← hn] at h1
     refine ⟨by omega, ?_⟩
     rcases hf.hash f h with ⟨n, h⟩ | h
     · rw [h, h40]; omega
     · rw [h.2]; exact Nat.zero_le _
   · obtain ⟨n, h⟩ := hp.all p h
     rw [h, h40]; omega
end Go.Proofs.YtibccdcemcgkeaaGreat
end
section
set_option maxRecDepth 1000000
namespace Go.Proofs.YtibccdcemcgkeaaGreat
theorem noZ_readC {s : Bs} (h : (90 : UInt8) ∉ s) : readC s = none := readC_none.2 fun l hl => h (by rw [← hl.2, printB, sealB]; simp)
theorem readC_nk {s : Bs} (h : readC s = none) : readK s = none ∧ readCt s = none ∧ readCl s = none := by
 refine ⟨the_none fun c hc => ?_, the_none fun c hc => ?_, the_none fun c hc => ?_⟩ <;> (rw [readC_iff.2 hc.reads] at h; cases h)
theorem kind_none {s : Bs} (h : readC s = none) : kindN s = 1 ∧ namesR s = [] := by
 obtain ⟨h1, h2, h3⟩ := readC_nk h
 refine ⟨by simp [kindN, h1, h2, h3], ?_⟩
 rw [← outC_names]
 simp [outC, outT, outK, h1, h2, h3]
theorem kindN_K {s : Bs} {c : Ck} (h : readK s = some c) : kindN s = 2 := by simp [kindN, h]
theorem kindN_Ct {s : Bs} {c : Ct} (h : readCt s = some c) : kindN s = 3 := by simp [kindN, h, only_ct h]
theorem kindN_Cl {s : Bs} {l : List Bs} (h : readCl s = some l) : kindN s = 4 := by simp [kindN, h, only_cl h]
theorem text_one : kindN "text".toUTF8.data.toList = 1 := (kind_none (noZ_readC (by decide))).1
theorem names_isN {s x : Bs} (h : x ∈ namesR s) : isN x = true := by
 rw [← outC_names] at h
 unfold outC at h
 cases hl : readCl s with
 | some l => rw [hl] at h; exact right_names (readCl_iff.1 hl).1 x h
 | none =>
   rw [hl] at h
   dsimp only at h
   have hk : x ∈ outK s → isN x = true := fun h => by
    unfold outK at h
    cases hk : readK s with
    | none => rw [hk] at h; cases h
    | some c =>
      rw [hk] at h
      dsimp only at h
      have hR := (readK_iff.1 hk).1
      rcases (putA_mem _ _ x).1 h with e | e
      · cases e
      · simp only [nsK, List.mem_append, List.mem_filter, List.mem_map] at e
        rcases e with (e | ⟨⟨f, hf, rfl⟩, hne⟩) | e
        · by_cases e2 : c.base = []
          · rw [if_pos e2] at e; cases e
          · rw [if_neg e2, List.mem_singleton] at e
            rw [e]; exact hR.base.resolve_left e2
        · exact (right_files hR f hf).resolve_left (by simpa using hne)
        · exact right_parents hR x e
   unfold outT at h
   cases ht : readCt s with
   | none => rw [ht] at h; exact hk h
   | some c =>
     rw [ht] at h
     dsimp only at h
     rcases (putA_mem _ _ x).1 h with e | e
     · exact hk e
     · obtain ⟨t, h2, rfl⟩ := List.mem_map.1 e
       exact right_targets (readCt_iff.1 ht).1 t h2
abbrev shA : Bs := shaB [97]
abbrev shB : Bs := shaB [98]
theorem sha_ab : shA ≠ shB := by decide +kernel
/-- The check-in that every law looks at. -/
def ckR : Ck := ⟨[], [], 0, [([102], shA)], [shB], [], [109, 101]⟩
theorem ckR_right : RightK ckR := by
 refine ⟨.inl rfl, Nat.zero_le _, by decide, ⟨fun i hi => ?_, by decide⟩, ⟨fun i hi => ?_, by decide⟩, ⟨fun i hi => by simp [ckR] at hi, by decide⟩, by decide⟩
 · have h0 : i = 0 := by simp [ckR] at hi; omega
   subst h0
   exact ⟨by decide, fun h => by omega, .inl (isN_sha _)⟩
 · have h0 : i = 0 := by simp [ckR] at hi; omega
   subst h0
   exact ⟨isN_sha _, by simp⟩
theorem ckR_z : CkZ ckR := by
 have h1 : shA.length = 40 := shaB_len _
 have h2 : shB.length = 40 := shaB_len _
 refine ⟨Nat.zero_le _, Nat.zero_le _, by decide, by decide, fun f hf => ?_, by decide, fun p hp => ?_, ⟨by decide, fun t ht => by cases ht⟩⟩
 · rw [show f = ([102], shA) from List.mem_singleton.1 hf]; dsimp only [List.length_cons, List.length_nil]; omega
 · rw [show p = shB from List.mem_singleton.1 hp]; omega
theorem ckR_read : readK (ckB ckR) = some ckR := readK_iff.2 ⟨ckR_right, rfl⟩
theorem ckR_names (x : Bs) : x ∈ namesR (ckB ckR) ↔ x = shA ∨ x = shB := by
 have h1 : shA.length = 40 := shaB_len _
 have h2 : shB.length = 40 := shaB_len _
 rw [namesR_mem, namesP, ckR_read]
 simp only [ckR, List.map_cons, List.map_nil, List.mem_append, List.mem_cons, List.not_mem_nil, or_false]
 constructor
 · rintro ⟨(h | h) | h, hn⟩
   · exact absurd h hn
   · exact .inr h
   · exact .inl h
 · rintro (h | h)
   · exact ⟨.inr h, by rw [h]; intro e; rw [e] at h1; cases h1⟩
   · exact ⟨.inl (.inr h), by rw [h]; intro e; rw [e] at h2; cases h2⟩
theorem ckR_two : (namesR (ckB ckR)).length = 2 := by
 have hs := namesR_sorted (ckB ckR)
 have hn : (namesR (ckB ckR)).Nodup := hs.imp fun h e => by subst e; exact absurd h (List.lt_irrefl _)
 have h2 : ([shA, shB] : List Bs).Nodup := by simp [sha_ab]
 have := (List.perm_ext_iff_of_nodup hn h2).2 (fun x => by rw [ckR_names]; simp)
 exact this.length_eq
theorem ckR_self : ckB ckR ∉ namesR (ckB ckR) := fun h => by
 have := isN_len (names_isN h)
 rw [ckB, printB, sealB_len] at this; omega
end Go.Proofs.YtibccdcemcgkeaaGreat
end
section
namespace Go.Proofs.YtibccdcemcgkeaaGreat
def ksOf (l : List Bs) : Ks := l.foldl (fun ks x => mput ks x (vB true)) []
theorem ksOf_snoc (l : List Bs) (x : Bs) : ksOf (l ++ [x]) = mput (ksOf l) x (vB true) := by simp [ksOf]
theorem ksOf_nodup (l : List Bs) : ((ksOf l).map (·.1)).Nodup := by
 induction l using list_snoc_ind with
 | h0 => exact .nil
 | h1 l x ih => rw [ksOf_snoc]; exact mput_nodup ih x _
theorem ksOf_look (l : List Bs) (x : Bs) : mlook (ksOf l) x = if x ∈ l then some (vB true) else none := by
 induction l using list_snoc_ind with
 | h0 => rfl
 | h1 l y ih =>
   rw [ksOf_snoc, mlook_mput, ih]
   by_cases h : y = x
   · simp [h]
   · simp [h, Ne.symm h]
theorem ksOf_keys (l : List Bs) (x : Bs) : x ∈ (ksOf l).map (·.1) ↔ x ∈ l := by
 rw [← mlook_isSome, ksOf_look]
 by_cases h : x ∈ l <;> simp [h]
/-- As many keys as names, where both have the same members. -/
theorem ksOf_len {l m : List Bs} (hm : m.Pairwise (· < ·)) (h : ∀ x, x ∈ l ↔ x ∈ m) : (ksOf l).length = m.length := by
 have hn : m.Nodup := hm.imp fun h e => by subst e; exact absurd h (List.lt_irrefl _)
 have := (List.perm_ext_iff_of_nodup (ksOf_nodup l) hn).2 (fun x => by rw [ksOf_keys, h])
 have := this.length_eq
 rwa [List.length_map] at this
theorem namesCt_mem {s : Bs} {c : Ct} (h : readCt s = some c) (x : Bs) : x ∈ c.tags.map (·.target) ↔ x ∈ namesR s := by
 have hl : readCl s = none := by
  cases e : readCl s with
  | none => rfl
  | some k => rw [(only_cl e).2] at h; cases h
 rw [← outC_names]
 simp only [outC, hl, outT, h, outK, only_ct h]
 rw [putA_mem]; simp
theorem namesCl_eq {s : Bs} {l : List Bs} (h : readCl s = some l) : namesR s = l := by
 rw [← outC_names]; simp only [outC, h]
end Go.Proofs.YtibccdcemcgkeaaGreat
end
section
namespace Go.Proofs.YtibccdcemcgkeaaGreat
theorem putB_in {n : Bs} {l : List Bs} (hs : l.Pairwise (· < ·)) (h : n ∈ l) : putB n l = l := by
 induction l with
 | nil => cases h
 | cons x r ih =>
   rw [List.pairwise_cons] at hs
   simp only [putB]
   by_cases hb : blt x n = true
   · rw [if_pos hb]
     rcases List.mem_cons.1 h with e | e
     · subst e; exact absurd ((blt_iff n n).1 hb) (List.lt_irrefl _)
     · rw [ih hs.2 e]
   · rw [if_neg hb]
     rcases List.mem_cons.1 h with e | e
     · rw [if_pos e.symm]
     · exact absurd ((blt_iff x n).2 (hs.1 n e)) hb
/-- The names of some numbers, in order, each once. -/
def nmsOf (ns : List Int) (k : Nat) : List Bs := putA [] ((ns.take k).map nameB)
theorem nmsOf_succ (ns : List Int) {k : Nat} (h : k < ns.length) : nmsOf ns (k + 1) = putB (nameB ns[k]) (nmsOf ns k) := by
 rw [nmsOf, List.take_succ_eq_append_getElem h, List.map_append, List.map_cons, List.map_nil, putA_snoc]; rfl
theorem nmsOf_sorted (ns : List Int) (k : Nat) : (nmsOf ns k).Pairwise (· < ·) := putA_sorted _ _ .nil
theorem nmsOf_len (ns : List Int) (k : Nat) : (nmsOf ns k).length ≤ k := by
 have := putA_len ((ns.take k).map nameB) []
 rw [List.length_map, List.length_take] at this
 simp only [nmsOf, List.length_nil] at this ⊢; omega
theorem nmsOf_name (ns : List Int) (k : Nat) : ∀ x ∈ nmsOf ns k, ∃ n, x = nameB n := fun x hx => by
 rcases (putA_mem _ _ _).1 hx with h | h
 · cases h
 · obtain ⟨n, _, rfl⟩ := List.mem_map.1 h; exact ⟨n, rfl⟩
theorem nmsOf_zero (ns : List Int) : nmsOf ns 0 = [] := rfl
theorem sorted_right {l : List Bs} (hs : l.Pairwise (· < ·)) (hn : ∀ x ∈ l, isN x = true) (h1 : 1 ≤ l.length) (h2 : l.length ≤ 12) : RightCl l := by
 refine ⟨fun i hi => ?_, h1, h2⟩
 have e : l.getD i [] = l[i] := by simp [hi]
 refine ⟨by rw [e]; exact hn _ (List.getElem_mem hi), fun h0 => ?_⟩
 have e2 : l.getD (i - 1) [] = l[i - 1] := by simp [show i - 1 < l.length by omega]
 rw [e, e2]
 exact (blt_iff _ _).2 (List.pairwise_iff_getElem.1 hs (i - 1) i (by omega) hi (by omega))
end Go.Proofs.YtibccdcemcgkeaaGreat
end
