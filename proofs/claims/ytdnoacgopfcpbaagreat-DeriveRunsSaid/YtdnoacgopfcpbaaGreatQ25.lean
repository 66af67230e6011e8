/- Texts of this proof, put together: LawDeriveRuns. -/
import Derived.Test.YtdnoacgopfcpbaaGreatQ24
set_option linter.unusedVariables false
set_option linter.unusedSimpArgs false
namespace Go.Proofs.YtdnoacgopfcpbaaGreat
section
set_option maxRecDepth 100000
theorem dr_sm1 {f : Bs} (hf : isN f = true) : ∀ t, TabP (drK1 f) t → t.Sm := fun t h => by
 obtain ⟨h1, h2, h3, h4⟩ := dr1_tab hf h
 exact ⟨by simp [h1], by simp [h2], by simp [h3], by omega⟩
theorem dr_sm2 {f : Bs} (hf : isN f = true) : ∀ t, TabP (drK2 f) t → t.Sm := fun t h => by
 obtain ⟨h1, h2, h3, h4⟩ := dr2_tab hf h
 exact ⟨by simp [h1], by simp [h2], by simp [h3], by simp [h4]⟩
set_option maxHeartbeats 16000000 in
theorem DeriveRuns_x {f : Bs} (hf : isN f = true) (hS : SpF Tryz.prog 15 [vS [102]] (vS f)) : Sp1 Tryz.prog 11 [] [] (vB true) [] := by
 have hCa : Sp1 Tryz.prog 16 [.agg #[vS [], vS [], vI 0, .slice none 0 0, .slice none 0 0, .slice none 0 0, vS me]] [SlI none [], SlI none [], SlI none []] (vS (ckB hA)) [SlI none [], SlI none []] :=
  ref10_r_sp (Bf := SlI none []) (Bt := SlI none []) ⟨none, 0, none, 0, none, 0⟩ hA_right (Nat.le_refl _) sla_sli sla_sli
 have hSa := ref1_Sum_sp (ckB hA) (Nat.le_trans (ckB_len hA_right) (by decide))
 rw [show shaB (ckB hA) = hX from rfl] at hSa
 have hCb : ∀ b c, Sp1 Tryz.prog 16 [.agg #[vS [], vS [], vI 0, .slice (some ⟨b, 0, none⟩) 1 1, .slice (some ⟨c, 0, none⟩) 1 1, .slice none 0 0, vS me]] [Ce b 25 [vS [102], vS f], SlI (some ⟨c, 0, none⟩) [vS hX], SlI none []] (vS (ckB (drB f))) [Ce b 25 [vS [102], vS f], SlI none []] := fun b c =>
  ref10_r_sp (Bf := Ce b 25 [vS [102], vS f]) (Bt := SlI none []) ⟨some ⟨b, 0, none⟩, 1, some ⟨c, 0, none⟩, 1, none, 0⟩ (drB_right hf) (Nat.le_refl _) sla_ce sla_sli
 have hh1 := dr1_held hf
 have hh2 := dr2_held hf
 have nb1 := (dr_nob hf hh1 (fun p hp => .inl (by rw [List.mem_singleton.1 hp]))).1
 have nb2 := (dr_nob hf hh2 (fun p hp => by
  simp only [List.mem_cons, List.not_mem_nil, or_false] at hp
  rcases hp with rfl | rfl
  · exact .inl rfl
  · exact .inr rfl)).1
 have hA1 : ∀ p m, Sp1 Tryz.prog 40 [.pointer (some ⟨p, 0, none⟩), vS [98], vS (ckB (drB f))] [Ce p 153 [.map (some m), .slice none 0 0, .slice none 0 0, .slice none 0 0, .slice none 0 0, .bool false], MapS m []] (.tuple #[]) [Ce p 153 [.map (some m), .slice none 0 0, .slice none 0 0, .slice none 0 0, .slice none 0 0, .bool true], MapS m (drK1 f)] := fun p m => derive_Add_sp p m dv0 false [] [98] (ckB (drB f)) (by simp)
 have hA2 : ∀ p m t, Sp1 Tryz.prog 40 [.pointer (some ⟨p, 0, none⟩), vS hX, vS (ckB hA)] [DvC p m t false, MapS m (drK1 f)] (.tuple #[]) [DvC p m t true, MapS m (drK2 f)] := fun p m t => by
  have := derive_Add_sp p m t false (drK1 f) hX (ckB hA) (by simp [drK1, hX_b])
  rw [show mput (drK1 f) hX (vS (ckB hA)) = drK2 f by simp [drK1, drK2, mput, Ne.symm hX_b]] at this
  exact this
 have hT1 : ∀ p m, Sp Tryz.prog 41 [.pointer (some ⟨p, 0, none⟩)] [Ce p 153 [.map (some m), .slice none 0 0, .slice none 0 0, .slice none 0 0, .slice none 0 0, .bool true], MapS m (drK1 f), Row 37 3 (.slice none 0 0) 0 [], Row 39 4 (.slice none 0 0) 0 [], Row 90 6 (.slice none 0 0) 0 [], Row 63 2 (.slice none 0 0) 0 []] (X := DvS × (Option Addr × Nat) × (Option Addr × Nat) × (Option Addr × Nat) × (Option Addr × Nat)) (fun x => .agg (x.1.at_ x.2).v.toArray) (fun x => TabP (drK1 f) x.1) (fun x => (x.1.at_ x.2).hs ++ ([DvC p m x.1 false, MapS m (drK1 f)] ++ x.1.hs)) := fun p m => derive_Tables_sp p m dv0 (drK1 f) hh1.txt hh1.knd (by show (1 : Nat) ≤ 1000; decide) (fun n => files_Of0_sp m (drK1 f) hh1.txt nb1 n) (dr_sm1 hf)
 have hT2 := fun p m t => derive_Tables_sp p m t (drK2 f) hh2.txt hh2.knd (by show (2 : Nat) ≤ 1000; decide) (fun n => files_Of0_sp m (drK2 f) hh2.txt nb2 n) (dr_sm2 hf)
 have hR := fun m => derive_Rebuild_sp m (drK2 f) hh2.txt hh2.knd (by show (2 : Nat) ≤ 1000; decide) (fun n => files_Of0_sp m (drK2 f) hh2.txt nb2 n)
 have tb1 := fun x => dr1_tab hf (x := x)
 have tb2 := fun x => dr2_tab hf (x := x)
 generalize drK2 f = K2 at *
 generalize drK1 f = K1 at *
 generalize ckB (drB f) = cB at *
 refine Sp.body (n := 69) Tryz.call11 Tryz.func11 rfl rfl rfl ?_
 refine Qc (k:=Vv (k:=Wq (Qc (k:=?_))))
 refine r_callF hS rfl rfl rfl ?_
 refine Vv (k:=Wq (Qc (k:=Vx (Ps [vS [], vS [], .int .i64 0, .slice none 0 0, .slice none 0 0, .slice none 0 0, _]) (k:=?_))))
 refine wo_ent' sli_nil ?_
 refine wo_ent' sli_nil ?_
 refine wo_ent' sli_nil ?_
 refine r_call1 hCa rfl rfl rfl ?_
 refine Vv (k:=Wq (Qc (k:=Vv (k:=?_))))
 refine r_callF hSa rfl rfl rfl ?_
 refine Vv (k:=Wq (Qc (k:=Vv (k:=Vx (Ps [_, _]) (k:=Zv [_] (cs := [_, _]) (k:=fun b15 => Vv (k:=Zv [_] (cs := [_]) (k:=fun b17 => Vx (Ps [vS [], vS [], .int .i64 0, _, _, .slice none 0 0, _]) (k:=?_)))))))))
 refine wo_frzC b17 ?_
 refine wo_ent' sli_nil ?_
 refine r_call1 (hCb b15 b17) rfl rfl rfl ?_
 refine Vv (k:=Wq (Qc (k:=?_)))
 refine r_callX derive_New_sp rfl rfl rfl (fun x20 _ => ?_)
 obtain ⟨p, m⟩ := x20
 dsimp only
 refine Vv (k:=Wq (Za (k:=Qc (k:=Vv (k:=?_)))))
 refine wo_pv (pv_peql_nil Tryz.underlying77 rfl rfl) rfl ?_
 refine Wq (Zi (t:=fun h22 => ?_) (f:=fun h22 => ?_))
 ·
  cases h22
  --done
 ·
  refine Zk (k:=Ya (Qc (k:=Qv (k:=?_))))
  refine r_call1 (hA1 p m) rfl rfl rfl ?_
  refine Wq (Qc (k:=Vv (k:=?_)))
  refine wo_ent' (row_nil (e := 37) (sz := 3)) ?_
  refine wo_ent' (row_nil (e := 39) (sz := 4)) ?_
  refine wo_ent' (row_nil (e := 90) (sz := 6)) ?_
  refine wo_ent' (row_nil (e := 63) (sz := 2)) ?_
  refine r_callX (hT1 p m) rfl rfl rfl (fun x27 hx27 => ?_)
  obtain ⟨⟨pa, pc, pl, ma, mc, ml, ta, tc, tl, la, lc, ll⟩, ⟨qa, qc⟩, ⟨ra, rc⟩, ⟨sa, sc⟩, ⟨ua, uc⟩⟩ := x27
  obtain ⟨z1, z2, z3, z4⟩ := tb1 _ hx27
  dsimp only at z1 z2 z3 z4
  subst z1 z2 z3
  dsimp only [DvS.at_, DvS.v, DvS.hs, DvC, List.length_cons, List.length_nil, List.flatMap_cons, List.flatMap_nil]
  refine Zc [.slice none 0 0, .slice none 0 0, .slice none 0 0, .slice none 0 0] (k:=fun b6 => Zp (k:=Wq (Qc (k:=Qv (k:=Vv (k:=?_))))))
  refine r_call1 (hA2 p m ⟨pa, pc, [⟨[98], hX, true⟩], ma, mc, [], ta, tc, [], la, lc, ll⟩) rfl rfl rfl ?_
  refine Wq (Qc (k:=Vv (k:=?_)))
  have hT2' := hT2 p m ⟨pa, pc, [⟨[98], hX, true⟩], ma, mc, [], ta, tc, [], la, lc, ll⟩
  dsimp only [DvS.at_, DvS.v, DvS.hs, DvC, List.length_cons, List.length_nil, List.flatMap_cons, List.flatMap_nil, List.cons_append, List.nil_append] at hT2'
  refine r_callX hT2' rfl rfl rfl (fun x33 hx33 => ?_)
  obtain ⟨⟨pa2, pc2, pl2, ma2, mc2, ml2, ta2, tc2, tl2, la2, lc2, ll2⟩, ⟨qa2, qc2⟩, ⟨ra2, rc2⟩, ⟨sa2, sc2⟩, ⟨ua2, uc2⟩⟩ := x33
  obtain ⟨y1, y2, y3, y4⟩ := tb2 _ hx33
  dsimp only at y1 y2 y3 y4
  subst y1 y2 y3 y4
  dsimp only [DvS.at_, DvS.v, DvS.hs, DvC, List.length_cons, List.length_nil, List.flatMap_cons, List.flatMap_nil, List.cons_append, List.nil_append]
  refine Zc [.slice none 0 0, .slice none 0 0, .slice none 0 0, .slice none 0 0] (k:=fun b7 => Zp (k:=Wq (Za (k:=?_))))
  refine wc_ent' (ce_norm (b := b6) (T := 82) (l' := [.slice qa 1 qc, .slice ra 0 rc, .slice sa 0 sc, .slice ua ll.length uc]) (by rfl) (by rfl)) ?_
  refine wc_ent' (ce_norm (b := b7) (T := 82) (l' := [.slice qa2 1 qc2, .slice ra2 1 rc2, .slice sa2 0 sc2, .slice ua2 1 uc2]) (by rfl) (by rfl)) ?_
  have hHl := derive_Held_sp p m ⟨pa2, pc2, [⟨[98], hX, true⟩], ma2, mc2, [⟨[98], [102], [], f⟩], ta2, tc2, [], la2, lc2, [⟨trB, [98]⟩]⟩ false K2
  dsimp only [DvS.at_, DvS.v, DvS.hs, DvC, List.length_cons, List.length_nil, List.flatMap_cons, List.flatMap_nil, List.cons_append, List.nil_append] at hHl
  have hS2 := derive_Same_sp ⟨qa, qc, [⟨[98], hX, true⟩], ra, rc, [], sa, sc, [], ua, uc, ll⟩ ⟨qa2, qc2, [⟨[98], hX, true⟩], ra2, rc2, [⟨[98], [102], [], f⟩], sa2, sc2, [], ua2, uc2, [⟨trB, [98]⟩]⟩ ⟨by simp, by simp, by simp, by show ll.length ≤ 1000000; omega⟩
  dsimp only [DvS.at_, DvS.v, DvS.hs, DvC, List.length_cons, List.length_nil, List.flatMap_cons, List.flatMap_nil, List.cons_append, List.nil_append] at hS2
  rw [show decide (([] : List Ml) = [⟨[98], [102], [], f⟩]) = false from by simp, Bool.false_and, Bool.and_false] at hS2
  refine Dw [Ce b6 82 [.slice qa 1 qc, .slice ra 0 rc, .slice sa 0 sc, .slice ua ll.length uc], Ce b7 82 [.slice qa2 1 qc2, .slice ra2 1 rc2, .slice sa2 0 sc2, .slice ua2 1 uc2]] (k:=?_)
  refine Di 0 (t:=Uf 1 34) (k:=Di 1 (t:=Ul) (k:=Dv 2 (k:=Dv 3 (k:=Dv 4 (k:=Gd 4 (t:=fun h38 => ?_) (f:=fun h38 => ?_))))))
  ·
   refine Di 5 (t:=U1 (h:=Uf 0 32)) (k:=Di 6 (t:=U1 (h:=Ul)) (k:=Di 7 (t:=U1 (h:=Uv)) (k:=Di 8 (t:=U1 (h:=Uv)) (k:=DP1 9 (k:=Dv 10 (k:=Gd 10 (t:=fun h44 => ?_) (f:=fun h44 => ?_)))))))
   ·
    refine Di 11 (t:=U1 (h:=Uf 1 34)) (k:=Di 12 (t:=U1 (h:=Ul)) (k:=Di 13 (t:=U1 (h:=Uv)) (k:=Di 14 (t:=U1 (h:=Uv)) (k:=DP1 15 (k:=Dv 16 (k:=Gd 16 (t:=fun h50 => ?_) (f:=fun h50 => ?_)))))))
    ·
     refine Di 17 (t:=U1 (h:=Uf 3 64)) (k:=Di 18 (t:=U1 (h:=Ul)) (k:=Di 19 (t:=U1 (h:=Uv)) (k:=Di 20 (t:=U1 (h:=Uv)) (k:=DP1 21 (k:=Dv 22 (k:=Gd 22 (t:=fun h56 => ?_) (f:=fun h56 => ?_)))))))
     ·
      refine d_first 23 rfl rfl rfl (by kernel_rfl) (by kernel_rfl) (tl_in (b := true) rfl (tl_loada (vs := [_, _, _, _]) Tryz.underlying82 rfl ti82 rfl (by exact Nat.le_of_ble_eq_true rfl) (by rfl))) ?_
      refine Di 24 (t:=U1 (h:=Uv)) (k:=Dn 25 (k:=?_))
      refine an_in (b := true) rfl ?_
      refine an_callX hHl rfl rfl rfl (fun mh _ => ?_)
      refine Dn 26 (k:=?_)
      refine an_in (b := true) rfl ?_
      refine an_callX (hR mh) rfl rfl rfl (fun x60 hx60 => ?_)
      obtain ⟨pa3, pc3, pl3, ma3, mc3, ml3, ta3, tc3, tl3, la3, lc3, ll3⟩ := x60
      obtain ⟨w1, w2, w3, w4⟩ := tb2 _ hx60
      dsimp only at w1 w2 w3 w4
      subst w1 w2 w3 w4
      dsimp only [DvS.at_, DvS.v, DvS.hs, DvC, List.length_cons, List.length_nil, List.flatMap_cons, List.flatMap_nil, List.cons_append, List.nil_append]
      have hS1 := derive_Same_sp ⟨qa2, qc2, [⟨[98], hX, true⟩], ra2, rc2, [⟨[98], [102], [], f⟩], sa2, sc2, [], ua2, uc2, [⟨trB, [98]⟩]⟩ ⟨pa3, pc3, [⟨[98], hX, true⟩], ma3, mc3, [⟨[98], [102], [], f⟩], ta3, tc3, [], la3, lc3, [⟨trB, [98]⟩]⟩ ⟨by simp, by simp, by simp, by simp⟩
      dsimp only [DvS.at_, DvS.v, DvS.hs, DvC, List.length_cons, List.length_nil, List.flatMap_cons, List.flatMap_nil, List.cons_append, List.nil_append] at hS1
      rw [decide_eq_true (show ([⟨[98], hX, true⟩] : List Pl) = [⟨[98], hX, true⟩] from rfl), decide_eq_true (show ([⟨[98], [102], [], f⟩] : List Ml) = [⟨[98], [102], [], f⟩] from rfl), decide_eq_true (show ([] : List Tgd) = [] from rfl), decide_eq_true (show ([⟨trB, [98]⟩] : List Lf) = [⟨trB, [98]⟩] from rfl)] at hS1
      refine Dn 27 (k:=?_)
      refine an_in (b := true) rfl ?_
      refine an_call1 hS1 rfl rfl rfl ?_
      refine DP1 28 (k:=Dv 29 (k:=Gd 29 (t:=fun h63 => ?_) (f:=fun h63 => ?_)))
      ·
       refine d_first 30 rfl rfl rfl (by kernel_rfl) (by kernel_rfl) (tl_in (b := true) rfl (tl_loada (vs := [_, _, _, _]) Tryz.underlying82 rfl ti82 rfl (by exact Nat.le_of_ble_eq_true rfl) (by rfl))) ?_
       refine d_first 31 rfl rfl rfl (by kernel_rfl) (by kernel_rfl) (tl_in (b := true) rfl (tl_loada (vs := [_, _, _, _]) Tryz.underlying82 rfl ti82 rfl (by exact Nat.le_of_ble_eq_true rfl) (by rfl))) ?_
       refine Dn 32 (k:=?_)
       refine an_in (b := true) rfl ?_
       refine an_call1 hS2 rfl rfl rfl ?_
       refine Di 33 (t:=U1 (h:=Uv)) (k:=DP1 34 (k:=Dv 35 (k:=Dd (k:=Ya (Zt (k:=?_))))))
       exact fin_ret () (vs := [_]) (Cs := []) rfl (.tmp rfl .nil) rfl trivial ent_nil
      ·
       simp at h63
       --done
     ·
      exact absurd rfl h56
      --done
    ·
     exact absurd rfl h50
     --done
   ·
    exact absurd rfl h44
    --done
  ·
   exact absurd rfl h38
   --done
theorem DeriveRuns_sp : Sp1 Tryz.prog 11 [] [] (vB true) [] := DeriveRuns_x (isN_sha [102]) (ref1_Sum_sp [102] (by decide))
end
end Go.Proofs.YtdnoacgopfcpbaaGreat
