/- Texts of this proof, put together: LawKindRuns, LawKindControl, KeepOf. -/
import Derived.Test.YtibccdcemcgkeaaGreatQ08
import Derived.Test.YtibccdcemcgkeaaGreatQ22
import Derived.Test.YtibccdcemcgkeaaGreatQ11
set_option linter.unusedVariables false
set_option linter.unusedSimpArgs false
section
set_option maxRecDepth 100000
namespace Go.Proofs.YtibccdcemcgkeaaGreat
theorem sla_nil {B : HP} {a : Option Addr} : SlA B a [] := fun _ => .inl rfl
set_option maxHeartbeats 1000000 in
theorem KindRuns_sp : Sp1 Tryz.prog 3 [] [] (vB true) [] := by
 have hbz := ck_small ckR_right
 have hsl : (ckB ckR).length ≤ 1073741824 := by rw [ckB, printB, sealB_len]; omega
 have hself := ckR_self
 have htwo := ckR_two
 have hmem := ckR_names
 have hkind := kindN_K ckR_read
 refine Sp.body (n := 52) Tryz.call3 Tryz.func3 rfl rfl rfl ?_
 refine Za (k:=Zr (k:=Zc [.bool false] (k:=fun b0 => Wq (Za (k:=Zr (k:=?_))))))
 refine r_callF (ref1_Sum_sp [97] (by decide)) rfl rfl rfl ?_
 refine r_callF (ref1_Sum_sp [98] (by decide)) rfl rfl rfl ?_
 refine Zc [vS []] (k:=fun b1 => Zc [vS []] (k:=fun b2 => Zo (k:=Zo (k:=Wq (Za (k:=Zr (k:=Zd (k:=Vx (Ps [_, _]) (k:=Zv [_] (cs := [_, _]) (k:=fun b10 => Zd (k:=Zv [_] (cs := [_]) (k:=fun b12 => ?_))))))))))))
 refine Vx (Ps [vS [], vS [], .int .i64 0, _, _, .slice none 0 0, _]) (k:=?_)
 refine wo_frzC b12 ?_
 refine wo_ent' sli_nil ?_
 refine wo_ent' (Gs := [Ce b10 25 [vS [102], vS shA], SlI (some ⟨b12, 0, none⟩) [vS shB], SlI none [], Ce b2 9 [vS shB], Ce b1 9 [vS shA], Ce b0 4 [vB false]]) (ent_step (ce_norm (by rfl) (by rfl)) ent_pick) ?_
 have hCk : Sp1 Tryz.prog 14 [.agg #[vS [], vS [], vI 0, .slice (some ⟨b10, 0, none⟩) 1 1, .slice (some ⟨b12, 0, none⟩) 1 1, .slice none 0 0, vS [109, 101]]] [Ce b10 25 [vS [102], vS shA], SlI (some ⟨b12, 0, none⟩) [vS shB], SlI none []] (vS (ckB ckR)) [Ce b10 25 [vS [102], vS shA], SlI none []] :=
  ref10_Checkin_sp ⟨some ⟨b10, 0, none⟩, 1, some ⟨b12, 0, none⟩, 1, none, 0⟩ ckR ckR_z (by decide) (by omega) sla_ce sla_nil (Nat.le_refl _)
 refine r_call1 hCk rfl rfl rfl ?_
 generalize ckB ckR = s at hsl hself htwo hmem hkind ⊢
 have hk1 := text_one
 refine Vv (k:=Wq (Za (k:=Za (k:=Zr (k:=?_)))))
 refine r_callF (kind_Of_sp "text".toUTF8.data.toList (by decide)) rfl rfl rfl ?_
 refine Vv (k:=Wq (Zi (t:=fun h16 => ?_) (f:=fun h16 => ?_)))
 ·
  exact absurd hk1 h16
  --done
 ·
  refine Zk (k:=Ya (Za (k:=Zr (k:=Zc [.int .i64 0] (k:=fun b4 => Zo (k:=Wq (Za (k:=Za (k:=Zr (k:=Vv (k:=?_)))))))))))
  refine r_callX (kind_Names_sp s) rfl rfl rfl (fun x18 _ => ?_)
  refine Wq (Zb (k:=?_))
  refine p_rangeFunc (fun pre => [Ce b4 3 [vI pre.length], Ce b2 9 [vS shB], Ce b1 9 [vS shA], Ce b0 4 [vB false]]) (fun j pre => [Pu False]) rfl (kind_Names_it s hsl x18) rfl (fun _ => by rfl) rfl ?_ (fun l pre w hok => ?_) ?_ (fun j pre hs => ?_)
  · (refine ent_app ?_; exact ent_pick)
  ·
   obtain ⟨rr, hrr⟩ := hok
   have hin : w = shA ∨ w = shB := (hmem w).1 (by rw [hrr]; simp)
   have hpl : pre.length < 2 := by
    have := congrArg List.length hrr
    rw [htwo] at this; simp at this; omega
   refine Zr (k:=Vv (k:=Wg (Zb (k:=Za (k:=Za (k:=Zr (k:=Vv (k:=Zd (k:=Vv (k:=Vv (k:=Gi 3 (t:=fun h23 => ?_) (f:=fun h23 => ?_))))))))))))
   ·
    refine I1 (k:=Vv (k:=I1 (k:=Zd (k:=I1 (k:=Vv (k:=P1 (k:=Wq (Zi (t:=fun h27 => ?_) (f:=fun h27 => ?_)))))))))
    ·
     refine Za (k:=Zr (k:=Zo (k:=Wq (Zt (k:=Va (Vb ?_))))))
     exfalso
     rcases hin with h | h
     · first | exact h23 h | exact h27 h
     · first | exact h27 h | exact h26 h
    ·
     refine Zk (k:=Ya (Zr (k:=Zd (k:=Vv (k:=Zo (k:=Wn (Yb ?_)))))))
     refine to_round ?_
     exact ent_step (ce_norm (by rfl) (by simp)) ent_pick
   ·
    refine O0 (k:=O0 (k:=O0 (k:=P0 (k:=Wq (Z0 (k:=Zk (k:=Ya (Zr (k:=Zd (k:=Vv (k:=Zo (k:=?_))))))))))))
    refine Wn (Yb ?_)
    refine to_round ?_
    exact ent_step (ce_norm (by rfl) (by simp)) ent_pick
  ·
   skip
   refine Yb (Ya (Za (k:=Zr (k:=Zd (k:=Vv (k:=Vv (k:=Gi 2 (t:=fun h32 => ?_) (f:=fun h32 => ?_))))))))
   ·
    refine I1 (k:=Vv (k:=I1 (k:=?_)))
    refine r_callF (kind_Of_sp s hsl) rfl rfl rfl ?_
    refine I1 (k:=Vv (k:=P1 (k:=Vv (k:=Gi 7 (t:=fun h37 => ?_) (f:=fun h37 => ?_)))))
    ·
     refine I1 (k:=?_)
     refine r_callF (kind_Of_sp "text".toUTF8.data.toList (by decide)) rfl rfl rfl ?_
     refine I1 (k:=Vv (k:=P1 (k:=Vv (k:=Gi 11 (t:=fun h41 => ?_) (f:=fun h41 => ?_)))))
     ·
      refine I1 (k:=Vv (k:=I1 (k:=Zd (k:=I1 (k:=?_)))))
      refine r_callF (kind_Speaks_sp s shB hsl) rfl rfl rfl ?_
      refine P1 (k:=Vv (k:=Gi 16 (t:=fun h46 => ?_) (f:=fun h46 => ?_)))
      ·
       refine I1 (k:=Vv (k:=I1 (k:=Vv (k:=I1 (k:=?_)))))
       refine r_callF (kind_Speaks_sp s s hsl) rfl rfl rfl ?_
       rw [decide_eq_false hself]
       refine I1 (k:=Vv (k:=P1 (k:=Zo (k:=Wq (Zt (k:=?_))))))
       exact fin_ret () (vs := [_]) (Cs := [Ce b0 4 [vB true]]) rfl (.cell1 (l := [vB true]) rfl (shows_ce (T := 4)) Tryz.underlying4 rfl rfl .nil) rfl trivial (ent_step (ce_norm (by rfl) (by rfl)) ent_nil)
      ·
       exact absurd ((hmem shB).2 (.inr rfl)) h46
       --done
     ·
      exact absurd hk1 h41
      --done
    ·
     exact absurd hkind h37
     --done
   ·
    exact absurd (show ((namesR s).length : Int) = 2 by omega) h32
    --done
  ·
   exact wc_no (fun s => by obtain ⟨_, _, _, _, a, _⟩ := s; exact a)
end Go.Proofs.YtibccdcemcgkeaaGreat
end
section
set_option maxRecDepth 100000
namespace Go.Proofs.YtibccdcemcgkeaaGreat
set_option maxHeartbeats 4000000 in
theorem KindControl_sp {Bt Bv Bn : HP} {ta va na : Option Addr} (d u : Int) (tc vc nc : Nat) (tags vals ns : List Int) (ht : tags.length ≤ 9223372036854775807) (hv : vals.length ≤ 9223372036854775807) (hns : ns.length ≤ 9223372036854775807)
    (sht : SlA Bt ta (tags.map vI)) (shv : SlA Bv va (vals.map vI)) (shn : SlA Bn na (ns.map vI)) :
    Sp1 Tryz.prog 7 [.agg #[vI d, vI u, .slice ta tags.length tc, .slice va vals.length vc], .slice na ns.length nc] [Bt, Bv, Bn] (vB true) [Bt, Bv, Bn] := by
 have hCt := keep_Control_sp d u tc vc tags vals ht hv sht shv
 have hk1 := text_one
 haveI : RdSl na (ns.map vI) [Bn] := ⟨⟨Bn, shn, .here⟩⟩
 refine Sp.body (n := 157) Tryz.call7 Tryz.func7 rfl rfl rfl ?_
 refine Za (k:=Zr (k:=Zx [_, _, _, _] (k:=fun b2 => Zc [.bool false] (k:=fun b4 => Wq (Za (k:=Zr (k:=Zm [_, _, _, _] (k:=?_))))))))
 refine r_callX hCt rfl rfl rfl (fun x21 hx21 => ?_)
 obtain ⟨⟨ka, kc⟩, c⟩ := x21
 have hK : KCt c := hx21
 clear hx21
 dsimp only [ctH] at ⊢
 change wo _ _ _ _ _ ((21, .agg #[vI c.date, .slice ka c.tags.length kc, vS c.user]) :: _) _ _
 have hR := hK.right
 have hread : readCt (ctB c) = some c := readCt_iff.2 ⟨hR, rfl⟩
 have hsm := ct_small hR
 have htn := hR.tags.len
 have hsl : (ctB c).length ≤ 1073741824 := by rw [ctB, printB, sealB_len]; omega
 have hzu : c.user.length ≤ 1099511627 := by have := hR.user.2.2; omega
 refine Zc [.int .i64 0, .slice none 0 0, vS []] (k:=fun b5 => Zp (k:=Wq (Za (k:=Zr (k:=Zm [_, _, _] (k:=?_))))))
 refine r_call1 (control_Print_sp (Bt := Row 66 4 (.slice ka c.tags.length kc) c.tags.length (c.tags.flatMap tgCells)) ka kc c hzu hK.z sla_row) rfl rfl rfl ?_
 rw [show prCt c = ctB c from by rw [prCt, if_pos hR]]
 generalize hs : ctB c = s at hread hsl ⊢
 have hkm := namesCt_mem hread
 have hkl := ksOf_len (namesR_sorted s) hkm
 have hkind := kindN_Ct hread
 refine Zc [vS []] (k:=fun b6 => Zo (k:=Wq (Za (k:=Zr (k:=?_)))))
 refine r_mkmap rfl (fun b24 => ?_)
 refine Zc [.map none] (k:=fun b7 => Zo (k:=Wq (Za (k:=Za (k:=Zr (k:=Vf 1 28 (k:=Zd (k:=Vv (k:=Vv (k:=Wq (Zb (k:=?_))))))))))))
 refine p_loop (fun (i : { x : List Bs × Nat // x.2 ≤ c.tags.length ∧ x.1 = (c.tags.take x.2).map (·.target) }) => [(1, .slice na ns.length nc), (4, .pointer (some ⟨b4, 0, none⟩)), (5, .pointer (some ⟨b5, 0, none⟩)), (6, .pointer (some ⟨b6, 0, none⟩)), (7, .pointer (some ⟨b7, 0, none⟩)), (26, .slice ka c.tags.length kc), (27, vI c.tags.length), (28, vI i.1.2)]) (fun (i : { x : List Bs × Nat // x.2 ≤ c.tags.length ∧ x.1 = (c.tags.take x.2).map (·.target) }) => [MapS b24 (ksOf i.1.1), Ce b7 61 [.map (some b24)], Ce b6 9 [vS s], Row 66 4 (.slice ka c.tags.length kc) c.tags.length (c.tags.flatMap tgCells), Ce b4 4 [vB false], Bt, Bv, Bn]) (fun (i : { x : List Bs × Nat // x.2 ≤ c.tags.length ∧ x.1 = (c.tags.take x.2).map (·.target) }) => c.tags.length - i.1.2) rfl (⟨([], 0), Nat.zero_le _, by simp⟩) ?_ ?_ (fun i => ?_)
 · exact ⟨rfl, rfl, rfl, rfl, rfl, rfl, rfl, rfl, trivial⟩
 ·
  dsimp only [ksOf, List.foldl_nil]
  exact ent_pick
 obtain ⟨⟨ks, j⟩, hj, hks⟩ := i
 dsimp only at hj hks ⊢
 try dsimp only
 refine Za (k:=Zr (k:=Vv (k:=Wq (Za (k:=Zi (t:=fun h29 => ?_) (f:=fun h29 => ?_))))))
 ·
  refine Zk (k:=Ya (Za (k:=Zb (k:=Za (k:=?_)))))
  have hjl : j < c.tags.length := by omega
  obtain ⟨g, hg2⟩ : ∃ g, g = c.tags[j] := ⟨_, rfl⟩
  have htk2 : (c.tags.take (j + 1)).map (·.target) = (c.tags.take j).map (·.target) ++ [g.target] := by
   rw [List.take_succ_eq_append_getElem hjl, List.map_append, ← hg2]; rfl
  refine Zr (k:=Ye 4 (k:=?_))
  refine r_eloada (vs := [_, _, _, _]) (sz := 4) Tryz.underlying66 rfl ti66 rfl rfl (by rw [flat_len (sz := 4) (fun _ => rfl)]; omega) rfl (by refine get_flat (fun x => ?_) ?_ <;> first | rfl | omega) rfl ?_
  rw [← hg2]
  refine Zc [.int .u8 0, vS [], vS [], vS []] (k:=fun b9 => Zp (k:=Wq (Zr (k:=Zd (k:=Vf 2 9 (k:=Zd (k:=?_)))))))
  refine r_mapUpdate Tryz.underlying61 Tryz.underlying9 rfl rfl rfl ?_
  refine Wn (Yb (Ya (Zr (k:=Vv (k:=Vv (k:=Wn ?_))))))
  refine to_inv ⟨(ks ++ [g.target], j + 1), by dsimp only; omega, by dsimp only; rw [htk2, hks]⟩ (by dsimp only; omega) ⟨rfl, rfl, rfl, rfl, rfl, rfl, rfl, rfl, trivial⟩ ?_
  dsimp only
  rw [ksOf_snoc]
  exact ent_pick
 ·
  refine Ze (k:=Xa (Xi (Xb (Ya (Za (k:=Za (k:=?_)))))))
  have hjl : j = c.tags.length := by omega
  rw [hjl, List.take_length] at hks
  refine Zr (k:=?_)
  refine r_callF (kind_Of_sp "text".toUTF8.data.toList (by decide)) rfl rfl rfl ?_
  refine Vv (k:=Wq (Zi (t:=fun h37 => ?_) (f:=fun h37 => ?_)))
  ·
   exact absurd hk1 h37
   --done
  ·
   refine Zk (k:=Ya (Za (k:=Zr (k:=Zc [.int .i64 0] (k:=fun b10 => Zo (k:=Wq (Za (k:=Za (k:=Zr (k:=Zd (k:=?_)))))))))))
   refine r_callX (kind_Names_sp s) rfl rfl rfl (fun x39 _ => ?_)
   refine Wq (Zb (k:=?_))
   refine p_rangeFunc (fun pre => [Ce b10 3 [vI pre.length], MapS b24 (ksOf ks), Ce b7 61 [.map (some b24)], Ce b6 9 [vS s], Ce b4 4 [vB false], Bt, Bv, Bn]) (fun j pre => [Pu False]) rfl (kind_Names_it s hsl x39) rfl (fun _ => by rfl) rfl ?_ (fun l pre w hok => ?_) ?_ (fun j pre hs => ?_)
   · (refine ent_app ?_; exact ent_pick)
   ·
    obtain ⟨rr, hrr⟩ := hok
    have hw : w ∈ namesR s := by rw [hrr]; simp
    have hin : w ∈ ks := by rw [hks]; exact (hkm w).2 hw
    have hpl : pre.length ≤ 100 := by
     have h1 := congrArg List.length hrr
     have h2 := namesP_len s
     have h3 := dedS_len (sortB (namesP s))
     have h4 : (namesR s).length ≤ (dedS (sortB (namesP s))).length := List.length_filter_le _ _
     rw [sortB_len] at h3
     simp at h1; omega
    refine Zr (k:=Vv (k:=Wg (Zb (k:=Za (k:=Za (k:=Zr (k:=Zd (k:=Vv (k:=?_)))))))))
    refine r_lookup (v := vB true) Tryz.underlying61 Tryz.underlying9 ti4 rfl rfl rfl (by rw [ksOf_look, if_pos hin]; rfl) rfl ?_
    refine Vv (k:=Vv (k:=Gi 4 (t:=fun h45 => ?_) (f:=fun h45 => ?_)))
    ·
     refine O1 (k:=O1 (k:=O1 (k:=O1 (k:=P1 (k:=Wq (Z1 (k:=Za (k:=Zr (k:=Zo (k:=Wq (Zt (k:=?_))))))))))))
     refine Va (Vb ?_)
     exfalso
     first
     | (simp at h45; done)
     | (simp at h50; done)
     | (simp at h124; omega)
     | (simp at h131; done)
    ·
     refine I0 (k:=Zd (k:=I0 (k:=Vv (k:=I0 (k:=?_)))))
     refine r_callF (kind_Speaks_sp s w hsl) rfl rfl rfl ?_
     rw [show decide (w ∈ namesR s) = true from decide_eq_true hw]
     refine I0 (k:=Vv (k:=P0 (k:=Wq (Zi (t:=fun h50 => ?_) (f:=fun h50 => ?_)))))
     ·
      refine Za (k:=Zr (k:=Zo (k:=Wq (Zt (k:=Va (Vb ?_))))))
      exfalso
      first
      | (simp at h45; done)
      | (simp at h50; done)
      | (simp at h124; omega)
      | (simp at h131; done)
     ·
      refine Zk (k:=Ya (Zr (k:=Zd (k:=Vv (k:=Zo (k:=Wn (Yb ?_)))))))
      refine to_round ?_
      exact ent_step (ce_norm (by rfl) (by simp)) ent_pick
   ·
    skip
    refine Yb (Ya (Za (k:=Zr (k:=?_))))
    refine r_mkmap rfl (fun b53 => ?_)
    refine Vv (k:=Wq (Za (k:=Zr (k:=Zc [.slice none 0 0] (k:=fun b13 => Wq ?_)))))
    refine p_cut (fun (i : { x : (Option Addr × Nat) × Nat // x.2 ≤ 5 }) => [(4, .pointer (some ⟨b4, 0, none⟩)), (6, .pointer (some ⟨b6, 0, none⟩)), (7, .pointer (some ⟨b7, 0, none⟩)), (10, .pointer (some ⟨b10, 0, none⟩)), (13, .pointer (some ⟨b13, 0, none⟩))]) (fun (i : { x : (Option Addr × Nat) × Nat // x.2 ≤ 5 }) => [Ce b13 27 [.slice i.1.1.1 (nmsOf ns i.1.2).length i.1.1.2], Row 9 1 (.slice i.1.1.1 (nmsOf ns i.1.2).length i.1.1.2) (nmsOf ns i.1.2).length ((nmsOf ns i.1.2).map vS), Ce b10 3 [vI (namesR s).length], MapS b24 (ksOf ks), Ce b7 61 [.map (some b24)], Ce b6 9 [vS s], Ce b4 4 [vB false], Bt, Bv, Bn]) rfl (fun i => ?_) ?_
    ·
     obtain ⟨⟨⟨la, lc⟩, k⟩, hk5⟩ := i
     have hll := nmsOf_len ns k
     have hlso := nmsOf_sorted ns k
     have hlnm := nmsOf_name ns k
     dsimp only at hk5 ⊢
     generalize hl : nmsOf ns k = nl at hll hlso hlnm ⊢
     have hl40 : ∀ t ∈ nl, t.length ≤ 1099511627776 := fun t ht => by obtain ⟨n, rfl⟩ := hlnm t ht; rw [nameB, shaB_len]; omega
     try dsimp only
     refine Za (k:=Za (k:=Zr (k:=Zd (k:=Vv (k:=Vv (k:=Wq (Zi (t:=fun h102 => ?_) (f:=fun h102 => ?_))))))))
     ·
      refine Za (k:=Zr (k:=Zd (k:=Zd (k:=?_))))
      refine r_mlen Tryz.underlying61 rfl rfl ?_
      refine Vv (k:=Vv (k:=Gi 4 (t:=fun h107 => ?_) (f:=fun h107 => ?_)))
      ·
       refine I1 (k:=Zd (k:=I1 (k:=?_)))
       refine r_callF (kind_Of_sp s hsl) rfl rfl rfl ?_
       refine I1 (k:=Vv (k:=P1 (k:=Vv (k:=Gi 9 (t:=fun h112 => ?_) (f:=fun h112 => ?_)))))
       ·
        refine I1 (k:=?_)
        refine r_call1 KindRuns_sp rfl rfl rfl ?_
        refine P1 (k:=Zo (k:=Wq (Zt (k:=Va ?_))))
        exact fin_ret () (vs := [_]) (Cs := [Ce b4 4 [vB true]]) rfl (.cell1 (l := [vB true]) rfl (shows_ce (T := 4)) Tryz.underlying4 rfl rfl .nil) rfl trivial ent_pick
       ·
        exact absurd hkind h112
        --done
      ·
       exact absurd (show ((namesR s).length : Int) = (((ksOf ks).length : Nat) : Int) by rw [hks, hkl]) h107
       --done
     ·
      have hR2 : RightCl nl := sorted_right hlso (fun x hx => by obtain ⟨n, rfl⟩ := hlnm x hx; exact isN_name n) (by omega) (by omega)
      have hread2 : readCl (clB nl) = some nl := readCl_iff.2 ⟨hR2, rfl⟩
      have hsm2 := cl_small hR2
      have hsl2 : (clB nl).length ≤ 1073741824 := by rw [clB, printB, sealB_len]; omega
      have hnm2 := namesCl_eq hread2
      have hkind2 := kindN_Cl hread2
      refine Zk (k:=Ya (Za (k:=Zr (k:=Zd (k:=?_)))))
      refine r_call1 (cluster_Print_sp (B := Row 9 1 (.slice la nl.length lc) nl.length (nl.map vS)) nl.length lc nl sla_row rfl (by omega) hl40) rfl rfl rfl ?_
      rw [show prCl nl = clB nl from by rw [prCl, if_pos hR2]]
      generalize hs2 : clB nl = s2 at hread2 hsl2 hnm2 hkind2 ⊢
      refine Vv (k:=Wq (Za (k:=Zr (k:=Zc [.int .i64 0] (k:=fun b18 => Zo (k:=Wq (Za (k:=Za (k:=Zr (k:=Vv (k:=?_)))))))))))
      refine r_callX (kind_Names_sp s2) rfl rfl rfl (fun x118 _ => ?_)
      refine Wq (Zb (k:=?_))
      refine p_rangeFunc (fun pre => [Ce b18 3 [vI pre.length], Ce b13 27 [.slice la nl.length lc], Row 9 1 (.slice la nl.length lc) nl.length (nl.map vS), Ce b10 3 [vI (namesR s).length], MapS b24 (ksOf ks), Ce b7 61 [.map (some b24)], Ce b6 9 [vS s], Ce b4 4 [vB false], Bt, Bv, Bn]) (fun j pre => [Pu False]) rfl (kind_Names_it s2 hsl2 x118) rfl (fun _ => by rfl) rfl ?_ (fun l pre w2 hok => ?_) ?_ (fun j pre hs => ?_)
      · (refine ent_app ?_; exact ent_pick)
      ·
       obtain ⟨rr, hrr⟩ := hok
       rw [hnm2] at hrr
       have hpl : pre.length < nl.length := by rw [hrr]; simp
       have hget : nl.getD pre.length [] = w2 := by rw [hrr]; simp
       refine Zr (k:=Vv (k:=Wg (Zb (k:=Za (k:=Za (k:=Zr (k:=Zd (k:=Zd (k:=Vv (k:=Vv (k:=Vv (k:=?_))))))))))))
       refine Gi 4 (t:=fun h124 => ?_) (f:=fun h124 => ?_)
       ·
        refine O1 (k:=O1 (k:=O1 (k:=O1 (k:=O1 (k:=O1 (k:=P1 (k:=Wq (Z1 (k:=Za (k:=Zr (k:=Zo (k:=?_))))))))))))
        refine Wq (Zt (k:=Va (Vb ?_)))
        exfalso
        first
        | (simp at h45; done)
        | (simp at h50; done)
        | (simp at h124; omega)
        | (simp at h131; done)
       ·
        refine I0 (k:=Vv (k:=I0 (k:=Zd (k:=I0 (k:=Zd (k:=I0 (k:=Ye 1 (k:=I0 (k:=?_)))))))))
        refine r_eload Tryz.underlying9 rfl rfl (get_mapD [] (m := pre.length) (by omega)) rfl ?_
        rw [hget]
        refine I0 (k:=Vv (k:=P0 (k:=Wq (Zi (t:=fun h131 => ?_) (f:=fun h131 => ?_)))))
        ·
         refine Za (k:=Zr (k:=Zo (k:=Wq (Zt (k:=Va (Vb ?_))))))
         exfalso
         first
         | (simp at h45; done)
         | (simp at h50; done)
         | (simp at h124; omega)
         | (simp at h131; done)
        ·
         refine Zk (k:=Ya (Zr (k:=Zd (k:=Vv (k:=Zo (k:=Wn (Yb ?_)))))))
         refine to_round ?_
         exact ent_step (ce_norm (by rfl) (by simp)) ent_pick
      ·
       rw [hnm2]
       refine Yb (Ya (Za (k:=Zr (k:=Zd (k:=Zd (k:=?_))))))
       refine r_mlen Tryz.underlying61 rfl rfl ?_
       refine Vv (k:=Vv (k:=Gi 4 (t:=fun h138 => ?_) (f:=fun h138 => ?_)))
       ·
        refine I1 (k:=Zd (k:=I1 (k:=Zd (k:=I1 (k:=Vv (k:=I1 (k:=Vv (k:=P1 (k:=Vv (k:=Gi 10 (t:=fun h144 => ?_) (f:=fun h144 => ?_)))))))))))
        ·
         refine I1 (k:=Zd (k:=I1 (k:=?_)))
         refine r_callF (kind_Of_sp s hsl) rfl rfl rfl ?_
         refine I1 (k:=Vv (k:=P1 (k:=Vv (k:=Gi 15 (t:=fun h149 => ?_) (f:=fun h149 => ?_)))))
         ·
          refine I1 (k:=Vv (k:=I1 (k:=?_)))
          refine r_callF (kind_Of_sp s2 hsl2) rfl rfl rfl ?_
          refine I1 (k:=Vv (k:=P1 (k:=Vv (k:=Gi 20 (t:=fun h154 => ?_) (f:=fun h154 => ?_)))))
          ·
           refine I1 (k:=?_)
           refine r_call1 KindRuns_sp rfl rfl rfl ?_
           refine P1 (k:=Zo (k:=Wq (Zt (k:=?_))))
           exact fin_ret () (vs := [_]) (Cs := [Ce b4 4 [vB true]]) rfl (.cell1 (l := [vB true]) rfl (shows_ce (T := 4)) Tryz.underlying4 rfl rfl .nil) rfl trivial ent_pick
          ·
           exact absurd hkind2 h154
           --done
         ·
          exact absurd hkind h149
          --done
        ·
         exact absurd rfl h144
         --done
       ·
        exact absurd (show ((namesR s).length : Int) = (((ksOf ks).length : Nat) : Int) by rw [hks, hkl]) h138
        --done
      ·
       exact wc_no (fun s => by obtain ⟨_, _, _, _, a, _⟩ := s; exact a)
    ·
     refine Za (k:=Zr (k:=Vv (k:=Wq (Zb (k:=?_)))))
     refine p_loop (fun (i : { x : (Option Addr × Nat) × Ks × Nat // x.2.2 ≤ ns.length ∧ x.2.2 ≤ 5 ∧ ∀ n, mlook x.2.1 n = if n ∈ nmsOf ns x.2.2 then some (vB true) else none }) => [(1, .slice na ns.length nc), (4, .pointer (some ⟨b4, 0, none⟩)), (6, .pointer (some ⟨b6, 0, none⟩)), (7, .pointer (some ⟨b7, 0, none⟩)), (10, .pointer (some ⟨b10, 0, none⟩)), (12, .map (some b53)), (13, .pointer (some ⟨b13, 0, none⟩)), (14, vI i.1.2.2)]) (fun (i : { x : (Option Addr × Nat) × Ks × Nat // x.2.2 ≤ ns.length ∧ x.2.2 ≤ 5 ∧ ∀ n, mlook x.2.1 n = if n ∈ nmsOf ns x.2.2 then some (vB true) else none }) => [Ce b13 27 [.slice i.1.1.1 (nmsOf ns i.1.2.2).length i.1.1.2], Row 9 1 (.slice i.1.1.1 (nmsOf ns i.1.2.2).length i.1.1.2) (nmsOf ns i.1.2.2).length ((nmsOf ns i.1.2.2).map vS), MapS b53 i.1.2.1, Ce b10 3 [vI (namesR s).length], MapS b24 (ksOf ks), Ce b7 61 [.map (some b24)], Ce b6 9 [vS s], Ce b4 4 [vB false], Bt, Bv, Bn]) (fun (i : { x : (Option Addr × Nat) × Ks × Nat // x.2.2 ≤ ns.length ∧ x.2.2 ≤ 5 ∧ ∀ n, mlook x.2.1 n = if n ∈ nmsOf ns x.2.2 then some (vB true) else none }) => 5 - i.1.2.2) rfl (⟨((none, 0), [], 0), Nat.zero_le _, Nat.zero_le _, fun n => by simp [nmsOf_zero, mlook]⟩) ?_ ?_ (fun i => ?_)
     · exact ⟨rfl, rfl, rfl, rfl, rfl, rfl, rfl, rfl, trivial⟩
     ·
      simp only [nmsOf_zero, List.length_nil, List.map_nil]
      exact (row_nil (e := 9) (sz := 1)).trans ent_pick
     obtain ⟨⟨⟨la, lc⟩, met, k⟩, hk, hk5, hmet⟩ := i
     have hll := nmsOf_len ns k
     have hlso := nmsOf_sorted ns k
     have hlnm := nmsOf_name ns k
     dsimp only at hk hk5 hmet ⊢
     generalize hl : nmsOf ns k = nl at hll hlso hlnm hmet ⊢
     try dsimp only
     refine Za (k:=Za (k:=Zr (k:=Vv (k:=Vv (k:=Vv (k:=Vv (k:=Vv (k:=Gi 4 (t:=fun h58 => ?_) (f:=fun h58 => ?_)))))))))
     ·
      refine I1 (k:=Vv (k:=I1 (k:=Vv (k:=P1 (k:=Wq (Zi (t:=fun h61 => ?_) (f:=fun h61 => ?_)))))))
      ·
       refine Zk (k:=Ya (Za (k:=Zb (k:=Za (k:=?_)))))
       have hkl2 : k < ns.length := by omega
       have hns1 := nmsOf_succ ns hkl2
       rw [hl] at hns1
       refine Zr (k:=Vv (k:=Vv (k:=?_)))
       refine r_elemAddr (m := k) (sz := 1) Tryz.underlying37 ti3 rfl rfl rfl rfl (by omega) (by rw [List.length_map]; omega) (Nat.mul_one _) rfl ?_
       refine Ym (k:=?_)
       refine r_callF (keep_Name_sp _) rfl rfl rfl ?_
       generalize nameB ns[k] = w at hns1 ⊢
       refine Vv (k:=Wq (Za (k:=Za (k:=Zr (k:=Vv (k:=Vv (k:=?_)))))))
       refine r_lookup (v := vB (decide (w ∈ nl))) Tryz.underlying61 Tryz.underlying9 ti4 rfl rfl rfl (by rw [hmet]; by_cases h : w ∈ nl <;> simp [h] <;> rfl) rfl ?_
       refine Wq (Zi (t:=fun h71 => ?_) (f:=fun h71 => ?_))
       ·
        refine Ze (k:=Xa (Xb (Ya (Zr (k:=Vv (k:=Vv (k:=Vv (k:=Wn ?_))))))))
        first
        | (refine to_inv ⟨((la, lc), met, k + 1), by dsimp only; omega, by dsimp only; omega, by dsimp only; rw [hns1, putB_in hlso h71]; exact hmet⟩ (by dsimp only; omega) ⟨rfl, rfl, rfl, rfl, rfl, rfl, rfl, rfl, trivial⟩ ?_
           dsimp only
           rw [hns1, putB_in hlso h71]
           exact ent_pick)
        | (have hpl2 : (putB w nl).length = j + 1 + (nl.length - j) := by rw [hpb]; simp; omega
           refine to_inv ⟨((a99, c99), mput met w (vB true), k + 1), by dsimp only; omega, by dsimp only; omega, by
            dsimp only
            intro n
            rw [hns1, mlook_mput, hmet]
            by_cases e : w = n
            · rw [if_pos e, if_pos ((putB_mem w nl n).2 (.inl e.symm))]
            · rw [if_neg e]
              by_cases e2 : n ∈ nl
              · rw [if_pos e2, if_pos ((putB_mem w nl n).2 (.inr e2))]
              · rw [if_neg e2, if_neg (fun h => ((putB_mem w nl n).1 h).elim (fun h => e h.symm) e2)]⟩ (by dsimp only; omega) ⟨rfl, rfl, rfl, rfl, rfl, rfl, rfl, rfl, trivial⟩ ?_
           dsimp only
           rw [hns1, hpl2, hpb]
           exact ent_step (ce_norm (by rfl) (by rfl)) (ent_step (row_norm (by rfl) (by simp)) ent_pick))
       ·
        refine Zk (k:=Ya (Za (k:=Zr (k:=Vv (k:=Vv (k:=?_))))))
        refine r_mapUpdate Tryz.underlying61 Tryz.underlying9 rfl rfl rfl ?_
        refine Wq (Za (k:=Zr (k:=Vv (k:=Wq ?_))))
        refine p_cut (fun (i : { j : Nat // j ≤ nl.length ∧ (∀ i, i < j → blt (nl.getD i []) w = true) ∧ (j < nl.length → blt (nl.getD j []) w = false) }) => [(1, .slice na ns.length nc), (4, .pointer (some ⟨b4, 0, none⟩)), (6, .pointer (some ⟨b6, 0, none⟩)), (7, .pointer (some ⟨b7, 0, none⟩)), (10, .pointer (some ⟨b10, 0, none⟩)), (12, .map (some b53)), (13, .pointer (some ⟨b13, 0, none⟩)), (14, vI k), (15, vS w), (16, vI i.1)]) (fun (i : { j : Nat // j ≤ nl.length ∧ (∀ i, i < j → blt (nl.getD i []) w = true) ∧ (j < nl.length → blt (nl.getD j []) w = false) }) => [Ce b13 27 [.slice la nl.length lc], Row 9 1 (.slice la nl.length lc) nl.length (nl.map vS), MapS b53 (mput met w (vB true)), Ce b10 3 [vI (namesR s).length], MapS b24 (ksOf ks), Ce b7 61 [.map (some b24)], Ce b6 9 [vS s], Ce b4 4 [vB false], Bt, Bv, Bn]) rfl (fun i => ?_) ?_
        ·
         obtain ⟨j, hj, hok, hno⟩ := i
         have hpb := putB_at w nl j hj hok hno
         rw [if_neg (fun h => h71 (by rw [← h.2]; simp [h.1]))] at hpb
         have htl : (nl.take j).length = j := by rw [List.length_take]; omega
         have hdl : (nl.drop j).length = nl.length - j := List.length_drop
         dsimp only
         refine wc_know (A := Row 9 1 (.slice la nl.length lc) nl.length (nl.map vS)) HasC.get row_know (fun hkn => ?_)
         try dsimp only
         refine Dw [Ce b13 27 [.slice la nl.length lc]] (k:=?_)
         refine Di 1 (t:=Ul) (k:=Di 2 (t:=Uv) (k:=?_))
         refine d_first 3 rfl rfl rfl (by kernel_rfl) (by kernel_rfl) (tl_pv (pv_slslice_tom (m := j) Tryz.underlying27 ti9 rfl rfl rfl (by omega))) ?_
         refine Di 5 (t:=Uv) (k:=Di 8 (t:=Ul) (k:=Di 9 (t:=Uv) (k:=?_)))
         refine d_first 10 rfl rfl rfl (by kernel_rfl) (by kernel_rfl) (tl_pv (pv_slslice_froma (m := j) (kk := j) Tryz.underlying27 ti9 rfl rfl rfl rfl (Nat.mul_one _) (by omega) hkn.1 hkn.2.2)) ?_
         refine d_next2 0 6 (by kernel_rfl) rfl rfl ?_ ?_
         ·
          refine Nl [] (cs := []) (k:=fun b88 => ?_)
          refine d_next2 4 6 (by kernel_rfl) rfl rfl ?_ ?_
          ·
           refine an_ent rfl (ent_row (k := 0) (cap := 0) (sz := 1) (e := 9) (g := b88) (xs := []) (cur := []) (Nat.le_refl _) (by simp [maxLen]) rfl rfl rfl) ?_
           refine an_opT (opt_appendA (sz := 1) (bytes := 16) Tryz.underlying27 ti9 rfl rfl rfl rfl rfl rfl rfl (sla_take (sla_row (e := 9) (sz := 1) (k := nl.length) (n := nl.length) (c := lc) (a := la) (xs := nl.map vS)) j) (by rw [← List.map_take, List.length_map, htl, Nat.mul_one]) (by rw [← List.map_take]; exact all_vS _) (by omega) (by simp only [maxLen]; omega) (k := 0) (xs := [])) rfl (fun x92 ⟨a92, c92, h92⟩ => ?_)
           subst h92
           rw [Nat.zero_add, List.nil_append, ← List.map_take]
           refine Dn 6 (k:=Nl [_] (cs := [_]) (k:=fun b94 => Dn 7 (k:=?_)))
           refine an_append1 (sz := 1) (bytes := 16) Tryz.underlying27 ti9 rfl rfl rfl rfl rfl rfl rfl (by rfl) (by rfl) (by omega) (by simp only [maxLen]; omega) rfl (fun a95 c95 => ?_)
           refine Dn 11 (k:=?_)
           refine an_opT (opt_appendA (sz := 1) (bytes := 16) Tryz.underlying27 ti9 rfl rfl rfl rfl rfl rfl rfl (sla_from (e := 9) (sz := 1) (a := la) (n' := nl.length) (c' := lc) (m := j) (kk := j) (k := nl.length) (xs := nl.map vS) (Nat.mul_one _) hj) (by rw [← List.map_drop, List.length_map, hdl, Nat.mul_one]) (by rw [← List.map_drop]; exact all_vS _) (by omega) (by simp only [maxLen]; omega) (k := j + 1) (xs := (nl.take j).map vS ++ [vS w])) rfl (fun x99 ⟨a99, c99, h99⟩ => ?_)
           subst h99
           rw [← List.map_drop]
           refine d_last 12 (by kernel_rfl) rfl (by kernel_rfl) (by kernel_rfl) ?_
           refine No (k:=Yb (Ya (Zr (k:=Vv (k:=Vv (k:=Vv (k:=Wn ?_)))))))
           first
           | (refine to_inv ⟨((la, lc), met, k + 1), by dsimp only; omega, by dsimp only; omega, by dsimp only; rw [hns1, putB_in hlso h71]; exact hmet⟩ (by dsimp only; omega) ⟨rfl, rfl, rfl, rfl, rfl, rfl, rfl, rfl, trivial⟩ ?_
              dsimp only
              rw [hns1, putB_in hlso h71]
              exact ent_pick)
           | (have hpl2 : (putB w nl).length = j + 1 + (nl.length - j) := by rw [hpb]; simp; omega
              refine to_inv ⟨((a99, c99), mput met w (vB true), k + 1), by dsimp only; omega, by dsimp only; omega, by
               dsimp only
               intro n
               rw [hns1, mlook_mput, hmet]
               by_cases e : w = n
               · rw [if_pos e, if_pos ((putB_mem w nl n).2 (.inl e.symm))]
               · rw [if_neg e]
                 by_cases e2 : n ∈ nl
                 · rw [if_pos e2, if_pos ((putB_mem w nl n).2 (.inr e2))]
                 · rw [if_neg e2, if_neg (fun h => ((putB_mem w nl n).1 h).elim (fun h => e h.symm) e2)]⟩ (by dsimp only; omega) ⟨rfl, rfl, rfl, rfl, rfl, rfl, rfl, rfl, trivial⟩ ?_
              dsimp only
              rw [hns1, hpl2, hpb]
              exact ent_step (ce_norm (by rfl) (by rfl)) (ent_step (row_norm (by rfl) (by simp)) ent_pick))
          ·
           refine Nl [_] (cs := [_]) (k:=fun b94 => Dn 4 (k:=?_))
           refine an_ent rfl (ent_row (k := 0) (cap := 0) (sz := 1) (e := 9) (g := b88) (xs := []) (cur := []) (Nat.le_refl _) (by simp [maxLen]) rfl rfl rfl) ?_
           refine an_opT (opt_appendA (sz := 1) (bytes := 16) Tryz.underlying27 ti9 rfl rfl rfl rfl rfl rfl rfl (sla_take (sla_row (e := 9) (sz := 1) (k := nl.length) (n := nl.length) (c := lc) (a := la) (xs := nl.map vS)) j) (by rw [← List.map_take, List.length_map, htl, Nat.mul_one]) (by rw [← List.map_take]; exact all_vS _) (by omega) (by simp only [maxLen]; omega) (k := 0) (xs := [])) rfl (fun x92 ⟨a92, c92, h92⟩ => ?_)
           subst h92
           rw [Nat.zero_add, List.nil_append, ← List.map_take]
           refine Dn 7 (k:=?_)
           refine an_append1 (sz := 1) (bytes := 16) Tryz.underlying27 ti9 rfl rfl rfl rfl rfl rfl rfl (by rfl) (by rfl) (by omega) (by simp only [maxLen]; omega) rfl (fun a95 c95 => ?_)
           refine Dn 11 (k:=?_)
           refine an_opT (opt_appendA (sz := 1) (bytes := 16) Tryz.underlying27 ti9 rfl rfl rfl rfl rfl rfl rfl (sla_from (e := 9) (sz := 1) (a := la) (n' := nl.length) (c' := lc) (m := j) (kk := j) (k := nl.length) (xs := nl.map vS) (Nat.mul_one _) hj) (by rw [← List.map_drop, List.length_map, hdl, Nat.mul_one]) (by rw [← List.map_drop]; exact all_vS _) (by omega) (by simp only [maxLen]; omega) (k := j + 1) (xs := (nl.take j).map vS ++ [vS w])) rfl (fun x99 ⟨a99, c99, h99⟩ => ?_)
           subst h99
           rw [← List.map_drop]
           refine d_last 12 (by kernel_rfl) rfl (by kernel_rfl) (by kernel_rfl) ?_
           refine No (k:=Yb (Ya (Zr (k:=Vv (k:=Vv (k:=Vv (k:=Wn ?_)))))))
           first
           | (refine to_inv ⟨((la, lc), met, k + 1), by dsimp only; omega, by dsimp only; omega, by dsimp only; rw [hns1, putB_in hlso h71]; exact hmet⟩ (by dsimp only; omega) ⟨rfl, rfl, rfl, rfl, rfl, rfl, rfl, rfl, trivial⟩ ?_
              dsimp only
              rw [hns1, putB_in hlso h71]
              exact ent_pick)
           | (have hpl2 : (putB w nl).length = j + 1 + (nl.length - j) := by rw [hpb]; simp; omega
              refine to_inv ⟨((a99, c99), mput met w (vB true), k + 1), by dsimp only; omega, by dsimp only; omega, by
               dsimp only
               intro n
               rw [hns1, mlook_mput, hmet]
               by_cases e : w = n
               · rw [if_pos e, if_pos ((putB_mem w nl n).2 (.inl e.symm))]
               · rw [if_neg e]
                 by_cases e2 : n ∈ nl
                 · rw [if_pos e2, if_pos ((putB_mem w nl n).2 (.inr e2))]
                 · rw [if_neg e2, if_neg (fun h => ((putB_mem w nl n).1 h).elim (fun h => e h.symm) e2)]⟩ (by dsimp only; omega) ⟨rfl, rfl, rfl, rfl, rfl, rfl, rfl, rfl, trivial⟩ ?_
              dsimp only
              rw [hns1, hpl2, hpb]
              exact ent_step (ce_norm (by rfl) (by rfl)) (ent_step (row_norm (by rfl) (by simp)) ent_pick))
         ·
          refine Nl [_] (cs := [_]) (k:=fun b94 => Dn 0 (k:=Nl [] (cs := []) (k:=fun b88 => Dn 4 (k:=?_))))
          refine an_ent rfl (ent_row (k := 0) (cap := 0) (sz := 1) (e := 9) (g := b88) (xs := []) (cur := []) (Nat.le_refl _) (by simp [maxLen]) rfl rfl rfl) ?_
          refine an_opT (opt_appendA (sz := 1) (bytes := 16) Tryz.underlying27 ti9 rfl rfl rfl rfl rfl rfl rfl (sla_take (sla_row (e := 9) (sz := 1) (k := nl.length) (n := nl.length) (c := lc) (a := la) (xs := nl.map vS)) j) (by rw [← List.map_take, List.length_map, htl, Nat.mul_one]) (by rw [← List.map_take]; exact all_vS _) (by omega) (by simp only [maxLen]; omega) (k := 0) (xs := [])) rfl (fun x92 ⟨a92, c92, h92⟩ => ?_)
          subst h92
          rw [Nat.zero_add, List.nil_append, ← List.map_take]
          refine Dn 7 (k:=?_)
          refine an_append1 (sz := 1) (bytes := 16) Tryz.underlying27 ti9 rfl rfl rfl rfl rfl rfl rfl (by rfl) (by rfl) (by omega) (by simp only [maxLen]; omega) rfl (fun a95 c95 => ?_)
          refine Dn 11 (k:=?_)
          refine an_opT (opt_appendA (sz := 1) (bytes := 16) Tryz.underlying27 ti9 rfl rfl rfl rfl rfl rfl rfl (sla_from (e := 9) (sz := 1) (a := la) (n' := nl.length) (c' := lc) (m := j) (kk := j) (k := nl.length) (xs := nl.map vS) (Nat.mul_one _) hj) (by rw [← List.map_drop, List.length_map, hdl, Nat.mul_one]) (by rw [← List.map_drop]; exact all_vS _) (by omega) (by simp only [maxLen]; omega) (k := j + 1) (xs := (nl.take j).map vS ++ [vS w])) rfl (fun x99 ⟨a99, c99, h99⟩ => ?_)
          subst h99
          rw [← List.map_drop]
          refine d_last 12 (by kernel_rfl) rfl (by kernel_rfl) (by kernel_rfl) ?_
          refine No (k:=Yb (Ya (Zr (k:=Vv (k:=Vv (k:=Vv (k:=Wn ?_)))))))
          first
          | (refine to_inv ⟨((la, lc), met, k + 1), by dsimp only; omega, by dsimp only; omega, by dsimp only; rw [hns1, putB_in hlso h71]; exact hmet⟩ (by dsimp only; omega) ⟨rfl, rfl, rfl, rfl, rfl, rfl, rfl, rfl, trivial⟩ ?_
             dsimp only
             rw [hns1, putB_in hlso h71]
             exact ent_pick)
          | (have hpl2 : (putB w nl).length = j + 1 + (nl.length - j) := by rw [hpb]; simp; omega
             refine to_inv ⟨((a99, c99), mput met w (vB true), k + 1), by dsimp only; omega, by dsimp only; omega, by
              dsimp only
              intro n
              rw [hns1, mlook_mput, hmet]
              by_cases e : w = n
              · rw [if_pos e, if_pos ((putB_mem w nl n).2 (.inl e.symm))]
              · rw [if_neg e]
                by_cases e2 : n ∈ nl
                · rw [if_pos e2, if_pos ((putB_mem w nl n).2 (.inr e2))]
                · rw [if_neg e2, if_neg (fun h => ((putB_mem w nl n).1 h).elim (fun h => e h.symm) e2)]⟩ (by dsimp only; omega) ⟨rfl, rfl, rfl, rfl, rfl, rfl, rfl, rfl, trivial⟩ ?_
             dsimp only
             rw [hns1, hpl2, hpb]
             exact ent_step (ce_norm (by rfl) (by rfl)) (ent_step (row_norm (by rfl) (by simp)) ent_pick))
        ·
         refine Zb (k:=?_)
         refine p_loop (fun (i : { j : Nat // j ≤ nl.length ∧ ∀ i, i < j → blt (nl.getD i []) w = true }) => [(1, .slice na ns.length nc), (4, .pointer (some ⟨b4, 0, none⟩)), (6, .pointer (some ⟨b6, 0, none⟩)), (7, .pointer (some ⟨b7, 0, none⟩)), (10, .pointer (some ⟨b10, 0, none⟩)), (12, .map (some b53)), (13, .pointer (some ⟨b13, 0, none⟩)), (14, vI k), (15, vS w), (16, vI i.1)]) (fun (i : { j : Nat // j ≤ nl.length ∧ ∀ i, i < j → blt (nl.getD i []) w = true }) => [Ce b13 27 [.slice la nl.length lc], Row 9 1 (.slice la nl.length lc) nl.length (nl.map vS), MapS b53 (mput met w (vB true)), Ce b10 3 [vI (namesR s).length], MapS b24 (ksOf ks), Ce b7 61 [.map (some b24)], Ce b6 9 [vS s], Ce b4 4 [vB false], Bt, Bv, Bn]) (fun (i : { j : Nat // j ≤ nl.length ∧ ∀ i, i < j → blt (nl.getD i []) w = true }) => nl.length - i.1) rfl (⟨0, Nat.zero_le _, fun i h => by omega⟩) ?_ ?_ (fun i => ?_)
         · exact ⟨rfl, rfl, rfl, rfl, rfl, rfl, rfl, rfl, rfl, rfl, trivial⟩
         ·
          exact ent_pick
         obtain ⟨j, hj, hok⟩ := i
         dsimp only
         try dsimp only
         refine Za (k:=Za (k:=Zr (k:=Vv (k:=Zd (k:=Vv (k:=Vv (k:=Vv (k:=Gi 4 (t:=fun h78 => ?_) (f:=fun h78 => ?_)))))))))
         ·
          refine I1 (k:=Zd (k:=I1 (k:=Vv (k:=I1 (k:=Ye 1 (k:=I1 (k:=?_)))))))
          refine r_eload Tryz.underlying9 rfl rfl (get_mapD [] (m := j) (by omega)) rfl ?_
          refine I1 (k:=Vv (k:=I1 (k:=Vv (k:=P1 (k:=Wq (Zi (t:=fun h85 => ?_) (f:=fun h85 => ?_)))))))
          ·
           refine Zk (k:=Ya (Zb (k:=Zr (k:=Vv (k:=Vv (k:=Vv (k:=Wn (Yb ?_))))))))
           refine to_inv ⟨j + 1, by omega, fun i hi => ?_⟩ (by dsimp only; omega) ⟨rfl, rfl, rfl, rfl, rfl, rfl, rfl, rfl, rfl, rfl, trivial⟩ ent_pick
           by_cases e : i = j
           · rw [e]; exact h85
           · exact hok i (by omega)
          ·
           refine Ze (k:=Xa (Xi (Xb ?_)))
           exact to_inv ⟨j, hj, hok, fun h => by first | exact h85 | omega⟩ trivial ⟨rfl, rfl, rfl, rfl, rfl, rfl, rfl, rfl, rfl, rfl, trivial⟩ ent_pick
         ·
          refine O0 (k:=O0 (k:=O0 (k:=O0 (k:=O0 (k:=O0 (k:=P0 (k:=Wq (Z0 (k:=Ze (k:=Xa (Xi ?_)))))))))))
          refine Xb ?_
          exact to_inv ⟨j, hj, hok, fun h => by first | exact h85 | omega⟩ trivial ⟨rfl, rfl, rfl, rfl, rfl, rfl, rfl, rfl, rfl, rfl, trivial⟩ ent_pick
      ·
       refine Ze (k:=Xa (Xi (Xb ?_)))
       refine to_inv ⟨((la, lc), k), by dsimp only; omega⟩ trivial ⟨rfl, rfl, rfl, rfl, rfl, trivial⟩ ?_
       dsimp only
       rw [hl]
       exact ent_pick
     ·
      refine O0 (k:=O0 (k:=P0 (k:=Wq (Z0 (k:=Ze (k:=Xa (Xi (Xb ?_))))))))
      refine to_inv ⟨((la, lc), k), by dsimp only; omega⟩ trivial ⟨rfl, rfl, rfl, rfl, rfl, trivial⟩ ?_
      dsimp only
      rw [hl]
      exact ent_pick
   ·
    exact wc_no (fun s => by obtain ⟨_, _, _, _, a, _⟩ := s; exact a)
end Go.Proofs.YtibccdcemcgkeaaGreat
end
section
namespace Go.Proofs.YtibccdcemcgkeaaGreat
/-- A list of whole numbers in memory. -/
structure IntsV where
 a : Option Addr
 c : Nat
 l : List Int
def IntsV.cell (x : IntsV) : Value := .slice x.a x.l.length x.c
def IntsV.ok (w : World) (x : IntsV) : Prop := x.l.length ≤ 9223372036854775807 ∧ At w (SlI x.a (x.l.map vI))
theorem ints_of {H : Type} {enc : TypeId × Value → H} {w : World} {spare : Nat → Bool} {held : Bool} {fuel : Nat} {cs : List Value} {x : DataW H × List MemPlace}
    (h : DataW.trod enc Tryz.prog w 0 spare held fuel 37 cs = some x) : ∃ q : IntsV, cs = [q.cell] ∧ q.ok w := by
 have ei : Tryz.prog.cellsOf 3 = 1 := by kernel_rfl
 obtain ⟨a, k, l, g, b, s, _⟩ := od_ints Tryz.underlying37 Tryz.underlying3 (by rw [ei]; decide) h
 exact ⟨⟨a, k, l⟩, g, b, s⟩
theorem keepControl_of {H : Type} {enc : TypeId × Value → H} {w : World} {spare : Nat → Bool} {held : Bool} {fuel : Nat} {cs : List Value} {x : DataW H × List MemPlace}
    (h : DataW.trod enc Tryz.prog w 0 spare held fuel 43 cs = some x) : ∃ (d u : Int) (q1 q2 : IntsV), cs = [vI d, vI u, q1.cell, q2.cell] ∧ q1.ok w ∧ q2.ok w := by
 have hl := od_len Tryz.underlying43 h
 have e4 : Tryz.prog.cellsOf 43 = 4 := by kernel_rfl
 have ei : Tryz.prog.cellsOf 3 = 1 := by kernel_rfl
 have es : Tryz.prog.cellsOf 37 = 1 := by kernel_rfl
 rw [e4] at hl
 obtain ⟨m0, y0, f0⟩ := od_field Tryz.underlying43 h 0 3 0 1 rfl ei
 obtain ⟨m1, y1, f1⟩ := od_field Tryz.underlying43 h 1 3 1 1 rfl ei
 obtain ⟨m2, y2, f2⟩ := od_field Tryz.underlying43 h 2 37 2 1 rfl es
 obtain ⟨m3, y3, f3⟩ := od_field Tryz.underlying43 h 3 37 3 1 rfl es
 match cs, hl with
 | [c0, c1, c2, c3], _ =>
   simp only [List.drop_zero, List.drop_succ_cons, List.take_succ_cons, List.take_zero] at f0 f1 f2 f3
   obtain ⟨n0, g0, _, _⟩ := DataW.trod_int Tryz.underlying3 f0
   obtain ⟨n1, g1, _, _⟩ := DataW.trod_int Tryz.underlying3 f1
   obtain ⟨q2, g2, h2⟩ := ints_of f2
   obtain ⟨q3, g3, h3⟩ := ints_of f3
   cases g0; cases g1; cases g2; cases g3
   exact ⟨n0, n1, q2, q3, rfl, h2, h3⟩
end Go.Proofs.YtibccdcemcgkeaaGreat
end
