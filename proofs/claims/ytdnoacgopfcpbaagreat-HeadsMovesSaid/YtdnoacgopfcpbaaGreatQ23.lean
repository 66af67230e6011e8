/- Texts of this proof, put together: LawHeadsMoves. -/
import Derived.Test.YtdnoacgopfcpbaaGreatQ22
set_option linter.unusedVariables false
set_option linter.unusedSimpArgs false
namespace Go.Proofs.YtdnoacgopfcpbaaGreat
section
set_option maxRecDepth 100000
theorem zb8join10 {G : Prop} (h : G := by
    first
    | (have hp : (gwC j).parents = [gwX (j - 1)] := by rw [gwC, if_neg (by omega)]; rfl
       rw [hp]
       refine to_inv ⟨(some ⟨b34, 0, none⟩, 1), Nat.le_refl _⟩ trivial ⟨rfl, rfl, rfl, rfl, rfl, rfl, rfl, rfl, rfl, trivial⟩ ?_
       simp only [List.length_cons, List.length_nil, Nat.zero_add, List.map_cons, List.map_nil]
       exact ent_pick)
    | (have hp : (gwC j).parents = [] := by rw [gwC, if_pos (by omega)]; rfl
       rw [hp]
       refine to_inv ⟨(none, 0), Nat.le_refl _⟩ trivial ⟨rfl, rfl, rfl, rfl, rfl, rfl, rfl, rfl, rfl, trivial⟩ ?_
       simp only [List.length_nil, List.map_nil]
       exact sli_nil.trans ent_pick)) : G := h
theorem zb8join24 {G : Prop} (h : G := by
    first
    | (have hb : hmB back a i = [98] := if_pos ⟨by omega, by simpa using h86⟩
       exact to_inv () trivial ⟨rfl, rfl, rfl, rfl, rfl, rfl, by rw [hb]; rfl, rfl, rfl, rfl, trivial⟩ ent_pick)
    | (have hb : hmB back a i = trB := if_neg (fun e => h86 (by simpa using e.2))
       exact to_inv () trivial ⟨rfl, rfl, rfl, rfl, rfl, rfl, by rw [hb]; rfl, rfl, rfl, rfl, trivial⟩ ent_pick)
    | (have hb : hmB back a i = trB := if_neg (fun e => by rw [e.2] at h86; simp at h86)
       exact to_inv () trivial ⟨rfl, rfl, rfl, rfl, rfl, rfl, by rw [hb]; rfl, rfl, rfl, rfl, trivial⟩ ent_pick)
    | (have hb : hmB back a i = trB := if_neg (fun e => by omega)
       exact to_inv () trivial ⟨rfl, rfl, rfl, rfl, rfl, rfl, by rw [hb]; rfl, rfl, rfl, rfl, trivial⟩ ent_pick)) : G := h
theorem zb8join30 {G : Prop} (h : G := by
    first
    | (have he : hmE back a j = [⟨trB, gwX (j - 1)⟩] := by rw [hmE, if_pos h106]
       rw [he]
       refine to_inv b113 trivial ⟨rfl, rfl, trivial⟩ ?_
       exact ent_cons (ce_norm1 (by rfl) (by rfl)))
    | (have he : hmE back a j = [⟨[98], gwX (j - 1)⟩, ⟨trB, gwX (a - 1)⟩] := by rw [hmE, if_neg (by rw [h106]; simp)]
       rw [he]
       refine to_inv b105 trivial ⟨rfl, rfl, trivial⟩ ?_
       exact ent_cons (ce_norm1 (by rfl) (by rfl)))) : G := h
theorem zb8join18 {G : Prop} (h : G := by
    first
    | (subst h63
       exact to_inv ⟨_, h2p⟩ trivial ⟨rfl, rfl, rfl, rfl, rfl, trivial⟩ ent_pick)
    | (subst h63
       exact to_inv ⟨_, h1p⟩ trivial ⟨rfl, rfl, rfl, rfl, rfl, trivial⟩ ent_pick)) : G := h
set_option maxHeartbeats 16000000 in
theorem HeadsMoves_sp (n_ at_ : Int) (back : Bool) : Sp1 Tryz.prog 8 [vI n_, vI at_, vB back] [] (vB true) [] := by
 have hW1 := book_Within_sp n_ 2 6 (by omega) (by omega) (by omega)
 have hw1 := withinI_in (n := n_) (show (2 : Int) ≤ 6 by omega)
 obtain ⟨k, hk⟩ : ∃ k : Nat, withinI n_ 2 6 = (k : Int) := ⟨(withinI n_ 2 6).toNat, by omega⟩
 rw [hk] at hW1 hw1
 clear hk
 have hW2 := book_Within_sp at_ 1 ((k : Int) - 1) (by omega) (by omega) (by omega)
 have hw2 := withinI_in (n := at_) (show (1 : Int) ≤ (k : Int) - 1 by omega)
 obtain ⟨a, ha⟩ : ∃ a : Nat, withinI at_ 1 ((k : Int) - 1) = (a : Int) := ⟨(withinI at_ 1 ((k : Int) - 1)).toNat, by omega⟩
 rw [ha] at hW2 hw2
 clear ha
 have hk6 : k ≤ 6 := by omega
 have hk1 : 1 ≤ k := by omega
 have ha1 : 1 ≤ a := by omega
 have hak : a < k := by omega
 refine Sp.body (n := 121) Tryz.call8 Tryz.func8 rfl rfl rfl ?_
 refine Qc (k:=Vv (k:=Wq (Qc (k:=Vv (k:=?_)))))
 refine r_callF hW1 rfl rfl rfl ?_
 refine Vv (k:=Wq (Qc (k:=?_)))
 refine r_mkmap rfl (fun b20 => ?_)
 refine Vv (k:=Wq (Qc (k:=Vv (k:=Wq (Za (k:=Qc (k:=Qv (k:=Wq ?_))))))))
 refine Zb (k:=?_)
 refine p_loop (fun (i : { x : (Option Addr × Nat) × Nat × Ks // x.2.1 ≤ k ∧ HeldP x.2.2 (gL x.2.1) }) => [(1, vI at_), (2, vB back), (7, vI k), (8, .map (some b20)), (9, .slice i.1.1.1 i.1.2.1 i.1.1.2), (21, vI k), (22, vI i.1.2.1)]) (fun (i : { x : (Option Addr × Nat) × Nat × Ks // x.2.1 ≤ k ∧ HeldP x.2.2 (gL x.2.1) }) => [MapS b20 i.1.2.2, Row 9 1 (.slice i.1.1.1 i.1.2.1 i.1.1.2) i.1.2.1 ((gwN i.1.2.1).map vS)]) (fun (i : { x : (Option Addr × Nat) × Nat × Ks // x.2.1 ≤ k ∧ HeldP x.2.2 (gL x.2.1) }) => k - i.1.2.1) rfl (⟨((none, 0), 0, []), Nat.zero_le _, HeldP.nil⟩) ?_ ?_ (fun i => ?_)
 · exact ⟨rfl, rfl, rfl, rfl, rfl, rfl, rfl, trivial⟩
 ·
  dsimp only
  rw [show (gwN 0).map vS = [] from rfl]
  exact (row_nil (e := 9) (sz := 1)).trans ent_pick
 obtain ⟨⟨⟨sa, sc⟩, j, K⟩, hj, hh⟩ := i
 dsimp only at hj hh ⊢
 have hgl := gwN_len j
 try dsimp only
 refine Qc (k:=Vv (k:=Wq (Za (k:=Zi (t:=fun h23 => ?_) (f:=fun h23 => ?_)))))
 ·
  refine Zk (k:=Ya (Za (k:=Zb (k:=Qc (k:=Qv (k:=Wq (Qc (k:=Vv (k:=?_)))))))))
  refine Vx (Ps [vS [], vS [], _, .slice none 0 0, .slice none 0 0, .slice none 0 0, _]) (k:=Zc [vS [], vS [], .int .i64 0, .slice none 0 0, .slice none 0 0, .slice none 0 0, vS []] (k:=fun b11 => Zp (k:=Wq ?_)))
  refine p_cut (fun (i : { x : Option Addr × Nat // (gwC j).parents.length ≤ x.2 }) => [(1, vI at_), (2, vB back), (7, vI k), (8, .map (some b20)), (9, .slice sa j sc), (10, vI j), (11, .pointer (some ⟨b11, 0, none⟩)), (21, vI k), (22, vI j)]) (fun (i : { x : Option Addr × Nat // (gwC j).parents.length ≤ x.2 }) => [MapS b20 K, Row 9 1 (.slice sa j sc) j ((gwN j).map vS), Ce b11 30 [vS [], vS [], vI j, .slice none 0 0, .slice i.1.1 (gwC j).parents.length i.1.2, .slice none 0 0, vS [109, 101]], SlI i.1.1 ((gwC j).parents.map vS)]) rfl (fun i => ?_) ?_
  ·
   obtain ⟨⟨pa, pc⟩, hpc⟩ := i
   dsimp only at hpc ⊢
   have hjk : j < k := by omega
   have hCk : Sp1 Tryz.prog 16 [.agg #[vS [], vS [], vI j, .slice none 0 0, .slice pa (gwC j).parents.length pc, .slice none 0 0, vS me]] [SlI none [], SlI pa ((gwC j).parents.map vS), SlI none []] (vS (ckB (gwC j))) [SlI none [], SlI none []] :=
    ref10_me_sp (Bt := SlI none []) (ps := (gwC j).parents) (ts := []) (d := (j : Int)) (u := me) pa pc none 0 (gwC_right (i := j) (by omega)) hpc sla_sli
   have hSm := ref1_Sum_sp (ckB (gwC j)) (Nat.le_trans (ckB_len (gwC_right (by omega))) (by decide))
   rw [← gwX_eq] at hSm
   try dsimp only
   refine Qc (k:=Zm [_, _, _, _, _, _, _] (k:=?_))
   refine wo_ent' sli_nil ?_
   refine r_call1 hCk rfl rfl rfl ?_
   refine Vv (k:=Wq (Qc (k:=Qv (k:=?_))))
   refine r_callF hSm rfl rfl rfl ?_
   refine Zv [_] (cs := [_]) (k:=fun b41 => ?_)
   refine r_append1 (sz := 1) (bytes := 16) Tryz.underlying27 ti9 rfl rfl rfl rfl rfl rfl rfl (by rfl) (by rfl) (by omega) (by simp only [maxLen]; omega) rfl (fun a42 c42 => ?_)
   refine Vv (k:=Wq (Zr (k:=Qv (k:=Vv (k:=?_)))))
   refine r_elemAddr (m := j) (sz := 1) Tryz.underlying27 ti9 rfl rfl rfl rfl (by omega) (by simp) (Nat.mul_one _) rfl ?_
   refine r_eload Tryz.underlying9 rfl rfl gwN_get1 rfl ?_
   refine Vv (k:=?_)
   refine r_mapUpdate Tryz.underlying31 Tryz.underlying9 rfl rfl rfl ?_
   refine Wn (Yb (Ya (Zr (k:=Qv (k:=Wn ?_)))))
   refine to_inv ⟨((a42, c42), j + 1, mput K (gwX j) (vS (ckB (gwC j)))), by dsimp only; omega, gL_put hh (by omega)⟩ (by dsimp only; omega) ⟨rfl, rfl, rfl, rfl, rfl, rfl, rfl, trivial⟩ ?_
   dsimp only
   rw [gwN_succ, List.map_append, List.map_cons, List.map_nil]
   exact ent_pick
  ·
   refine Qc (k:=Qv (k:=Wq (Zi (t:=fun h28 => ?_) (f:=fun h28 => ?_))))
   ·
    refine Zr (k:=Qv (k:=Vv (k:=?_)))
    refine r_elemAddr (m := j - 1) (sz := 1) Tryz.underlying27 ti9 rfl rfl rfl (by omega) (by omega) (by rw [List.length_map]; omega) (Nat.mul_one _) rfl ?_
    refine r_eload Tryz.underlying9 rfl rfl (gwN_get (by omega)) rfl ?_
    refine Zv [_] (cs := [_]) (k:=fun b34 => Vf 4 27 (k:=Zo (k:=?_)))
    refine wo_frzC b34 ?_
    refine Wn ?_
    exact zb8join10
   ·
    refine Zk (k:=?_)
    exact zb8join10
 ·
  have hjk : j = k := by omega
  subst hjk
  have hC1 := fun b => ref10_ct_sp (Bt := Ce b 60 ((hm1 a).tags.flatMap tgCells)) (some ⟨b, 0, none⟩) 1 (hm1_right a) sla_ce (tgZ_one (k := 42) (nm := brB) (tgt := gwX a) (v := [98]) (by decide) (Nat.le_of_eq (gwX_len a)) (by decide))
  have hC2 := fun b => ref10_ct_sp (Bt := Ce b 60 ((hm2 a).tags.flatMap tgCells)) (some ⟨b, 0, none⟩) 1 (hm2_right a) sla_ce (tgZ_one (k := 45) (nm := brB) (tgt := gwX a) (v := []) (by decide) (Nat.le_of_eq (gwX_len a)) (by decide))
  have h1p := hm_put1 a hh
  have h2p := hm_put2 a h1p
  refine Ze (k:=Xa (Xi (Xb (Ya (Qc (k:=Qv (k:=Vv (k:=?_))))))))
  refine r_callF hW2 rfl rfl rfl ?_
  refine Vv (k:=Wq (Qc (k:=Qv (k:=Vv (k:=?_)))))
  refine r_elemAddr (m := a) (sz := 1) Tryz.underlying27 ti9 rfl rfl rfl rfl (by omega) (by rw [List.length_map]; omega) (Nat.mul_one _) rfl ?_
  refine r_eload Tryz.underlying9 rfl rfl (gwN_get (by omega)) rfl ?_
  refine Vx (Ps [_, _, _, _]) (k:=Zv [_] (cs := [_, _, _, _]) (k:=fun b60 => Vx (Ps [_, _, _]) (k:=?_)))
  refine wo_ent' (ce_norm (b := b60) (T := 60) (l' := (hm1 a).tags.flatMap tgCells) (by rfl) (by rfl)) ?_
  refine r_call1 (hC1 b60) rfl rfl rfl ?_
  refine r_mapUpdate Tryz.underlying31 Tryz.underlying9 rfl rfl rfl ?_
  refine Wq ?_
  refine p_cut (fun (i : { x : Ks // HeldP x (gL j ++ hmR back a) }) => [(2, vB back), (7, vI j), (8, .map (some b20)), (9, .slice sa j sc), (13, vI a)]) (fun (i : { x : Ks // HeldP x (gL j ++ hmR back a) }) => [MapS b20 i.1, Row 9 1 (.slice sa j sc) j ((gwN j).map vS)]) rfl (fun i => ?_) ?_
  ·
   obtain ⟨K2, hz⟩ := i
   dsimp only
   have hzl : K2.length ≤ 1000000 := by
    rw [hz.len]
    have : (gL j).length = j := by simp [gL]
    have h2 : (hmR back a).length ≤ 2 := by cases back <;> simp [hmR]
    rw [List.length_append]
    omega
   have hBr := fun n => heads_Branch_sp b20 K2 hz.txt hz.knd hzl n
   have hL2 := heads_Leaves_sp b20 K2 hz.txt hz.knd hzl
   have hbr := fun i (hi : i < j) => hm_br hk6 ha1 hak hz hi
   have hlv := fun q => hm_leaves hk6 ha1 hak hz (q := q)
   try dsimp only
   refine Za (k:=Qc (k:=Qv (k:=Vv (k:=Wq (Zb (k:=?_))))))
   refine p_loop (fun (i : { i : Nat // i ≤ j }) => [(2, vB back), (7, vI j), (8, .map (some b20)), (9, .slice sa j sc), (13, vI a), (73, .slice sa j sc), (74, vI j), (75, vI i.1)]) (fun (i : { i : Nat // i ≤ j }) => [MapS b20 K2, Row 9 1 (.slice sa j sc) j ((gwN j).map vS)]) (fun (i : { i : Nat // i ≤ j }) => j - i.1) rfl (⟨0, Nat.zero_le _⟩) ?_ ?_ (fun i => ?_)
   · exact ⟨rfl, rfl, rfl, rfl, rfl, rfl, rfl, rfl, trivial⟩
   ·
    exact ent_pick
   obtain ⟨i, hi⟩ := i
   try dsimp only
   refine Qc (k:=Vv (k:=Wq (Za (k:=Zi (t:=fun h76 => ?_) (f:=fun h76 => ?_)))))
   ·
    refine Zk (k:=Ya (Za (k:=Zb (k:=Qc (k:=Vv (k:=?_))))))
    refine r_elemAddr (m := i) (sz := 1) Tryz.underlying27 ti9 rfl rfl rfl rfl (by omega) (by rw [List.length_map]; omega) (Nat.mul_one _) rfl ?_
    refine r_eload Tryz.underlying9 rfl rfl (gwN_get (by omega)) rfl ?_
    refine Qv (k:=Wq (Qc (k:=Vv (k:=Wq ?_))))
    refine p_cut (fun (u : Unit) => [(2, vB back), (7, vI j), (8, .map (some b20)), (9, .slice sa j sc), (13, vI a), (15, vS (gwX i)), (16, vS (hmB back a i)), (73, .slice sa j sc), (74, vI j), (75, vI i)]) (fun (u : Unit) => [MapS b20 K2, Row 9 1 (.slice sa j sc) j ((gwN j).map vS)]) rfl (fun u => ?_) ?_
    ·
     try dsimp only
     refine Qc (k:=Qv (k:=?_))
     refine r_call1 (hBr (gwX i)) rfl rfl rfl ?_
     rw [hbr i (by omega)]
     refine Qv (k:=Wq (Zi (t:=fun h91 => ?_) (f:=fun h91 => ?_)))
     ·
      exact absurd rfl h91
      --done
     ·
      refine Zk (k:=Yb (Ya (Zr (k:=Qv (k:=Wn ?_)))))
      exact to_inv ⟨i + 1, by omega⟩ (by dsimp only; omega) ⟨rfl, rfl, rfl, rfl, rfl, rfl, rfl, rfl, trivial⟩ ent_pick
    ·
     refine Qc (k:=Qv (k:=Qv (k:=Gi 3 (t:=fun h83 => ?_) (f:=fun h83 => ?_))))
     ·
      refine J1 (k:=J1 (k:=P1 (k:=Wq (Zi (t:=fun h86 => ?_) (f:=fun h86 => ?_)))))
      ·
       refine Zr (k:=Vv (k:=Wn ?_))
       exact zb8join24
      ·
       refine Zk (k:=?_)
       exact zb8join24
     ·
      refine O0 (k:=O0 (k:=P0 (k:=Wq (Z0 (k:=Zk (k:=?_))))))
      exact zb8join24
   ·
    refine Ze (k:=Xa (Xi (Xb (Ya (Za (k:=Dw [Row 9 1 (.slice sa j sc) j ((gwN j).map vS)] (k:=?_)))))))
    refine Dv 0 (k:=Dv 1 (k:=Dv 2 (k:=?_)))
    refine d_first 3 rfl rfl rfl (by kernel_rfl) (by kernel_rfl) (tl_elemAddr (m := j - 1) (sz := 1) Tryz.underlying27 ti9 rfl rfl rfl (by omega) (by omega) (by rw [List.length_map]; omega) (Nat.mul_one _)) ?_
    refine d_first 4 rfl rfl rfl (by kernel_rfl) (by kernel_rfl) (tl_eload Tryz.underlying9 rfl rfl (gwN_get (by omega))) ?_
    refine Di 5 (t:=Ux (Ps [_, _])) (k:=Dv 6 (k:=Dv 7 (k:=Dv 8 (k:=?_))))
    refine d_first 9 rfl rfl rfl (by kernel_rfl) (by kernel_rfl) (tl_elemAddr (m := a - 1) (sz := 1) Tryz.underlying27 ti9 rfl rfl rfl (by omega) (by omega) (by rw [List.length_map]; omega) (Nat.mul_one _)) ?_
    refine d_first 10 rfl rfl rfl (by kernel_rfl) (by kernel_rfl) (tl_eload Tryz.underlying9 rfl rfl (gwN_get (by omega))) ?_
    refine Di 11 (t:=Ux (Ps [_, _])) (k:=Dn 12 (k:=Nl [_, _] (cs := [_, _, _, _]) (k:=fun b105 => Dv 13 (k:=Dd (k:=Ya ?_)))))
    refine p_cut (fun (b : Nat) => [(8, .map (some b20)), (17, .slice (some ⟨b, 0, none⟩) (hmE back a j).length (hmE back a j).length)]) (fun (b : Nat) => [MapS b20 K2, Ce b 63 ((hmE back a j).flatMap lfCells)]) rfl (fun b => ?_) ?_
    ·
     try dsimp only
     refine Qc (k:=Vv (k:=?_))
     refine r_callX hL2 rfl rfl rfl (fun xq hxq => ?_)
     obtain ⟨⟨ra, rc⟩, q2⟩ := xq
     dsimp only at hxq ⊢
     obtain rfl := hlv q2 hxq
     refine Vv (k:=?_)
     refine r_call1 (book_SameLf_same (As := [Row 63 2 (.slice ra (hmE back a j).length rc) (hmE back a j).length ((hmE back a j).flatMap lfCells), Ce b 63 ((hmE back a j).flatMap lfCells)]) (hmE back a j).length (hmE back a j).length rc (hmE back a j).length (hmE back a j) rfl rfl (by unfold hmE; split <;> simp)) rfl rfl rfl ?_
     refine Vv (k:=Gi 4 (t:=fun h118 => ?_) (f:=fun h118 => ?_))
     ·
      refine I1 (k:=?_)
      refine r_call1 HeadsRuns_sp rfl rfl rfl ?_
      refine P1 (k:=Vv (k:=Wq (Zt (k:=?_))))
      exact fin_ret () (vs := [_]) (Cs := []) rfl (.tmp rfl .nil) rfl trivial ent_nil
     ·
      cases h118
      --done
    ·
     refine Qc (k:=Vv (k:=Wq (Zi (t:=fun h106 => ?_) (f:=fun h106 => ?_))))
     ·
      refine Zr (k:=Qv (k:=Vv (k:=?_)))
      refine r_elemAddr (m := j - 1) (sz := 1) Tryz.underlying27 ti9 rfl rfl rfl (by omega) (by omega) (by rw [List.length_map]; omega) (Nat.mul_one _) rfl ?_
      refine r_eload Tryz.underlying9 rfl rfl (gwN_get (by omega)) rfl ?_
      refine Vx (Ps [_, _]) (k:=Zv [_] (cs := [_, _]) (k:=fun b113 => Vv (k:=Wn ?_)))
      exact zb8join30
     ·
      refine Zk (k:=?_)
      exact zb8join30
  ·
   refine Qc (k:=Vv (k:=Wq (Zi (t:=fun h63 => ?_) (f:=fun h63 => ?_))))
   ·
    refine Zr (k:=Qv (k:=Vv (k:=?_)))
    refine r_elemAddr (m := a) (sz := 1) Tryz.underlying27 ti9 rfl rfl rfl rfl (by omega) (by rw [List.length_map]; omega) (Nat.mul_one _) rfl ?_
    refine r_eload Tryz.underlying9 rfl rfl (gwN_get (by omega)) rfl ?_
    refine Vx (Ps [_, _, _, vS []]) (k:=Zv [_] (cs := [_, _, _, _]) (k:=fun b70 => Vx (Ps [_, _, _]) (k:=?_)))
    refine wo_ent' (ce_norm (b := b70) (T := 60) (l' := (hm2 a).tags.flatMap tgCells) (by rfl) (by rfl)) ?_
    refine r_call1 (hC2 b70) rfl rfl rfl ?_
    refine r_mapUpdate Tryz.underlying31 Tryz.underlying9 rfl rfl rfl ?_
    refine Wn ?_
    exact zb8join18
   ·
    refine Zk (k:=?_)
    exact zb8join18
end
end Go.Proofs.YtdnoacgopfcpbaaGreat
