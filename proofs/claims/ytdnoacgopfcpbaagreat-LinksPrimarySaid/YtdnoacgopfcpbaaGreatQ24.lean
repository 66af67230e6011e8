/- Texts of this proof, put together: LawLinksPrimary. -/
import Derived.Test.YtdnoacgopfcpbaaGreatQ23
set_option linter.unusedVariables false
set_option linter.unusedSimpArgs false
namespace Go.Proofs.YtdnoacgopfcpbaaGreat
section
set_option maxRecDepth 100000
theorem vUs_lp {a i : Nat} (ha : a ≤ 200) (hi : i ≤ 3) : ([.int .u8 112, vU (IntKind.u8.wrap (a : Int)), vU (IntKind.u8.wrap (i : Int))] : List Value).take 3 = vUs (lpT a i) := by
 have e1 : IntKind.u8.wrap (a : Int) = ((a : Nat) : Int) := (u8_in' (by omega)).trans (by omega)
 have e2 : IntKind.u8.wrap (i : Int) = ((i : Nat) : Int) := (u8_in' (by omega)).trans (by omega)
 rw [e1, e2]
 simp [vUs, lpT]
 omega
theorem map_head {l : List Bs} (h : 0 < l.length) : (l.map vS)[0]? = some (vS (l.headD [])) := by
 cases l with
 | nil => simp at h
 | cons a r => rfl
theorem yn1 (i : Nat) : (if false = true then Value.tuple #[(MX.mlook (MX.yn (vI 1) (vI 0)) (decide ((i : Int) = 0))).getD (vI 0), .bool (MX.mlook (MX.yn (vI 1) (vI 0)) (decide ((i : Int) = 0))).isSome] else (MX.mlook (MX.yn (vI 1) (vI 0)) (decide ((i : Int) = 0))).getD (vI 0)) = vI (if i = 0 then 1 else 0) := by
 rw [if_neg (by simp), MX.yn_look]
 by_cases h : i = 0
 · subst h; rfl
 · rw [if_neg (by simp; omega), if_neg h]
theorem ny1 (i : Nat) : (if false = true then Value.tuple #[(MX.mlook (MX.ny (vI 1) (vI 0)) (decide ((i : Int) = 0))).getD (vI 0), .bool (MX.mlook (MX.ny (vI 1) (vI 0)) (decide ((i : Int) = 0))).isSome] else (MX.mlook (MX.ny (vI 1) (vI 0)) (decide ((i : Int) = 0))).getD (vI 0)) = vI (if i = 0 then 1 else 0) := by
 rw [if_neg (by simp), MX.ny_look]
 by_cases h : i = 0
 · subst h; rfl
 · rw [if_neg (by simp; omega), if_neg h]
theorem zb5next1 {G : Prop} (h : G := by
    first
    | (refine to_inv ⟨j + 1, by omega⟩ (by dsimp only; omega) ⟨rfl, rfl, by rw [hct, if_pos h67]; rfl, rfl, rfl, rfl, trivial⟩ ent_pick)
    | (refine to_inv ⟨j + 1, by omega⟩ (by dsimp only; omega) ⟨rfl, rfl, by rw [hct, if_neg (by rw [h67]; simp)]; rfl, rfl, rfl, rfl, trivial⟩ ent_pick)) : G := h
theorem zb5next2 {G : Prop} (h : G := by exact to_inv ⟨j + 1, by omega⟩ (by dsimp only; omega) ⟨rfl, rfl, rfl, rfl, rfl, rfl, trivial⟩ ent_pick) : G := h
set_option maxHeartbeats 8000000 in
theorem LinksPrimary_sp (n_ at_ : Int) : Sp1 Tryz.prog 5 [vI n_, vI at_] [] (vB true) [] := by
 have hW1 := book_Within_sp n_ 1 3 (by omega) (by omega) (by omega)
 have hW2 := book_Within_sp at_ 0 200 (by omega) (by omega) (by omega)
 have hw1 := withinI_in (n := n_) (show (1 : Int) ≤ 3 by omega)
 have hw2 := withinI_in (n := at_) (show (0 : Int) ≤ 200 by omega)
 obtain ⟨k, hk⟩ : ∃ k : Nat, withinI n_ 1 3 = (k : Int) := ⟨(withinI n_ 1 3).toNat, by omega⟩
 obtain ⟨a, ha⟩ : ∃ k : Nat, withinI at_ 0 200 = (k : Int) := ⟨(withinI at_ 0 200).toNat, by omega⟩
 rw [hk] at hW1 hw1
 rw [ha] at hW2 hw2
 clear hk ha
 have hk3 : k ≤ 3 := by omega
 have ha3 : a ≤ 200 := by omega
 refine Sp.body (n := 113) Tryz.call5 Tryz.func5 rfl rfl rfl ?_
 refine Qc (k:=Vv (k:=Wq (Qc (k:=Vv (k:=?_)))))
 refine r_callF hW1 rfl rfl rfl ?_
 refine Vv (k:=Wq (Qc (k:=Vv (k:=Wq (Za (k:=Qc (k:=Qv (k:=Wq ?_))))))))
 refine Zb (k:=?_)
 refine p_loop (fun (i : { x : (Option Addr × Nat) × Nat // x.2 ≤ k }) => [(1, vI at_), (5, vI k), (6, .slice i.1.1.1 i.1.2 i.1.1.2), (18, vI k), (19, vI i.1.2)]) (fun (i : { x : (Option Addr × Nat) × Nat // x.2 ≤ k }) => [Row 9 1 (.slice i.1.1.1 i.1.2 i.1.1.2) i.1.2 ((lpP a i.1.2).map vS)]) (fun (i : { x : (Option Addr × Nat) × Nat // x.2 ≤ k }) => k - i.1.2) rfl (⟨((none, 0), 0), Nat.zero_le _⟩) ?_ ?_ (fun i => ?_)
 · exact ⟨rfl, rfl, rfl, rfl, rfl, trivial⟩
 ·
  dsimp only
  rw [show (lpP a 0).map vS = [] from rfl]
  exact (row_nil (e := 9) (sz := 1)).trans ent_pick
 obtain ⟨⟨⟨sa, sc⟩, j⟩, hj⟩ := i
 dsimp only at hj ⊢
 try dsimp only
 refine Qc (k:=Vv (k:=Wq (Za (k:=Zi (t:=fun h20 => ?_) (f:=fun h20 => ?_)))))
 ·
  refine Zk (k:=Ya (Za (k:=Zb (k:=Qc (k:=Qv (k:=Wq (Zr (k:=Qv (k:=?_)))))))))
  refine r_callF hW2 rfl rfl rfl ?_
  refine wo_pv (pv_conv rfl Tryz.underlying3 Tryz.underlying5) rfl ?_
  refine Vv (k:=?_)
  refine wo_pv (pv_conv rfl Tryz.underlying3 Tryz.underlying5) rfl ?_
  refine Zv [_, _, _] (cs := [_, _, _]) (k:=fun b28 => ?_)
  refine r_b2s (l := lpT a j) Tryz.underlying56 Tryz.underlying9 Tryz.underlying5 rfl (vUs_lp (by omega) (by omega)) (by simp) rfl ?_
  refine r_callF (ref1_Sum_sp (lpT a j) (by simp [lpT])) rfl rfl rfl ?_
  rw [show shaB (lpT a j) = lpX a j from rfl]
  refine Zv [_] (cs := [_]) (k:=fun b31 => ?_)
  refine r_append1 (sz := 1) (bytes := 16) Tryz.underlying27 ti9 rfl rfl rfl rfl rfl rfl rfl (by rfl) (by rfl) (by omega) (by simp only [maxLen]; omega) rfl (fun a32 c32 => ?_)
  refine Vv (k:=Wn (Yb (Ya (Zr (k:=Qv (k:=Wn ?_))))))
  refine to_inv ⟨((a32, c32), j + 1), by dsimp only; omega⟩ (by dsimp only; omega) ⟨rfl, rfl, rfl, rfl, rfl, trivial⟩ ?_
  dsimp only
  rw [lpP_succ, List.map_append, List.map_cons, List.map_nil]
  exact ent_pick
 ·
  refine Ze (k:=Xa (Xi (Xb (Ya (Za (k:=?_))))))
  have hjk : j = k := by omega
  subst hjk
  have hq : LpQ (lpP a j) := ⟨lpP_isN, lpP_nodup ha3 hk3, by rw [lpP_len]; omega, by rw [lpP_len]; omega⟩
  have hpl := lpP_len a j
  generalize lpP a j = ps at *
  subst hpl
  have hh := lp_held hq
  have hlen : (lpH ps).length = 2 := rfl
  have hP := fun b => links_Parents_sp b (lpH ps) hh.txt (by rw [hlen]; omega)
  have hPr := fun b => links_Primary_sp b (lpH ps) hh.txt [99]
  have hPr2 := fun b => links_Primary_sp b (lpH ps) hh.txt [116]
  have hCh := fun b name => links_Children_sp b (lpH ps) hh.txt (by rw [hlen]; omega) name
  rw [lp_pri hq] at hPr
  rw [lp_pri2 hq] at hPr2
  rw [lp_pl hq] at hP
  have hcl := fun pre name => lp_chl hq (pre := pre) name
  have hmp : mput (mput [] [99] (vS (ckB (lpC ps)))) [116] (vS aText) = lpH ps := by simp [mput, lpH]
  refine wc_know (A := Row 9 1 (.slice sa ps.length sc) ps.length (ps.map vS)) HasC.get row_know (fun hkn => ?_)
  have hC := ref10_me_sp (Bt := SlI none []) sa sc none 0 (lpC_right hq) hkn.1 sla_sli
  rw [show ckB (ckMe ps [] me 0) = ckB (lpC ps) from rfl] at hC
  generalize lpH ps = H at *
  generalize ckB (lpC ps) = cC at *
  refine wc_frzR sa ?_
  refine wc_ent' sli_nil ?_
  refine Zr (k:=Vv (k:=Vx (Ps [vS [], vS [], .int .i64 0, .slice none 0 0, _, .slice none 0 0, _]) (k:=?_)))
  refine r_call1 hC rfl rfl rfl ?_
  refine Vv (k:=Wq (Qc (k:=?_)))
  refine r_mkmap rfl (fun b37 => ?_)
  refine Vv (k:=?_)
  refine r_insert Tryz.underlying31 Tryz.underlying9 rfl rfl rfl ?_
  refine r_insert Tryz.underlying31 Tryz.underlying9 rfl rfl rfl ?_
  rw [show ([97, 32, 116, 101, 120, 116] : Bs) = aText from rfl, hmp]
  refine Qv (k:=Wq (Qc (k:=Vv (k:=?_))))
  refine r_callX (hP b37) rfl rfl rfl (fun xp hxp => ?_)
  obtain ⟨⟨pa, pc⟩, q⟩ := xp
  dsimp only at hxp
  have hql := hxp.1.length_eq
  rw [List.length_map] at hql
  have hqm := fun x (hx : x ∈ q) => pl_mem hxp.1 hx
  have hqc := cntP_one hq hxp.1
  have hq3 := hq.hi
  have hq1 := hq.lo
  dsimp only
  refine Vv (k:=Wq (Za (k:=Qc (k:=Qv (k:=Qv (k:=Wq (Zi (t:=fun h45 => ?_) (f:=fun h45 => ?_))))))))
  ·
   exact absurd (by omega) h45
   --done
  ·
   refine Zk (k:=Ya (Qc (k:=Vv (k:=Wq (Za (k:=Qc (k:=Qv (k:=Vv (k:=?_)))))))))
   refine Wq (Zb (k:=?_))
   refine p_loop (fun (i : { j : Nat // j ≤ q.length }) => [(6, .slice sa ps.length sc), (9, .map (some b37)), (11, vI (cntP (q.take i.1) : Nat)), (46, .slice pa q.length pc), (47, vI q.length), (48, vI i.1)]) (fun (i : { j : Nat // j ≤ q.length }) => [Row 37 3 (.slice pa q.length pc) q.length (q.flatMap plCells), SlI sa (ps.map vS), MapS b37 H]) (fun (i : { j : Nat // j ≤ q.length }) => q.length - i.1) rfl (⟨0, Nat.zero_le _⟩) ?_ ?_ (fun i => ?_)
   · exact ⟨rfl, rfl, rfl, rfl, rfl, rfl, trivial⟩
   ·
    exact ent_pick
   obtain ⟨j, hj⟩ := i
   try dsimp only
   refine Qc (k:=Vv (k:=Wq (Za (k:=Zi (t:=fun h49 => ?_) (f:=fun h49 => ?_)))))
   ·
    refine Zk (k:=Ya (Za (k:=Zb (k:=Qc (k:=Ye 3 (k:=?_))))))
    refine r_eloada (vs := [vS (q[j]'(by omega)).child, vS (q[j]'(by omega)).parent, vB (q[j]'(by omega)).prim]) (sz := 3) Tryz.underlying37 rfl ti37 rfl rfl (by rw [flat_len (sz := 3) (fun _ => rfl)]; omega) rfl (get_flat (f := plCells) (fun _ => rfl) (by omega)) rfl ?_
    have hjl : j < q.length := by omega
    have hmx := hqm q[j] (List.getElem_mem hjl)
    have hct := cntP_take hjl
    have hctl : cntP (q.take j) ≤ q.length := Nat.le_trans List.countP_le_length (by rw [List.length_take]; omega)
    generalize q[j] = x at *
    refine Zc [vS [], vS [], .bool false] (k:=fun b13 => Zp (k:=Wq (Za (k:=Za (k:=Dw [Ce b13 37 [vS x.child, vS x.parent, vB x.prim], SlI sa (ps.map vS)] (k:=?_))))))
    refine Di 0 (t:=Uf 0 9) (k:=Di 1 (t:=Ul) (k:=Dv 2 (k:=Dv 3 (k:=Gd 3 (t:=fun h55 => ?_) (f:=fun h55 => ?_)))))
    ·
     exact absurd hmx.1 h55
     --done
    ·
     refine Di 4 (t:=U0 (h:=Uf 2 4)) (k:=Di 5 (t:=U0 (h:=Ul)) (k:=Di 6 (t:=U0 (h:=Uf 1 9)) (k:=Di 7 (t:=U0 (h:=Ul)) (k:=Di 8 (t:=U0 (h:=Uv)) (k:=?_)))))
     refine d_first 9 rfl rfl rfl (by kernel_rfl) (by kernel_rfl) (tl_in (b := false) rfl (tl_elemAddr (m := 0) (sz := 1) Tryz.underlying27 ti9 rfl rfl rfl rfl (by omega) (by rw [List.length_map]; omega) (Nat.mul_one _))) ?_
     refine d_first 10 rfl rfl rfl (by kernel_rfl) (by kernel_rfl) (tl_in (b := false) rfl (tl_eload Tryz.underlying9 rfl rfl (map_head (by omega)))) ?_
     refine Di 11 (t:=U0 (h:=Uv)) (k:=?_)
     refine d_first 12 rfl rfl rfl (by kernel_rfl) (by kernel_rfl) (tl_in (b := false) rfl (tl_pv (pv_bneq Tryz.underlying4 rfl rfl))) ?_
     refine DP0 13 (k:=Dd (k:=Ya (Zi (t:=fun h65 => ?_) (f:=fun h65 => ?_))))
     ·
      exfalso
      rw [hmx.2] at h65
      simp at h65
      --done
     ·
      refine Zk (k:=Ya (Qc (k:=Qx 2 4 (k:=Wq (Zi (t:=fun h67 => ?_) (f:=fun h67 => ?_))))))
      ·
       refine Zr (k:=Qv (k:=Vv (k:=Wn (Yb (Ya (Zr (k:=Qv (k:=Wn ?_))))))))
       exact zb5next1
      ·
       refine Zk (k:=Yb (Ya (Zr (k:=Qv (k:=Wn ?_)))))
       exact zb5next1
   ·
    refine Ze (k:=Xa (Xi (Xb (Ya (Za (k:=Za (k:=?_)))))))
    have hjq : j = q.length := by omega
    subst hjq
    rw [List.take_length, hqc]
    refine Zr (k:=Qv (k:=Vv (k:=Wq (Zb (k:=?_)))))
    refine p_loop (fun (i : { j : Nat // j ≤ ps.length }) => [(6, .slice sa ps.length sc), (9, .map (some b37)), (11, vI 1), (71, .slice sa ps.length sc), (72, vI ps.length), (73, vI i.1)]) (fun (i : { j : Nat // j ≤ ps.length }) => [SlI sa (ps.map vS), MapS b37 H]) (fun (i : { j : Nat // j ≤ ps.length }) => ps.length - i.1) rfl (⟨0, Nat.zero_le _⟩) ?_ ?_ (fun i => ?_)
    · exact ⟨rfl, rfl, rfl, rfl, rfl, rfl, trivial⟩
    ·
     exact ent_pick
    obtain ⟨j, hj⟩ := i
    try dsimp only
    refine Qc (k:=Vv (k:=Wq (Za (k:=Zi (t:=fun h74 => ?_) (f:=fun h74 => ?_)))))
    ·
     refine Zk (k:=Ya (Za (k:=Zb (k:=Qc (k:=Vv (k:=Ye 1 (k:=Ym (k:=Qv (k:=Wq ?_)))))))))
     refine Za (k:=?_)
     have hjl : j < ps.length := by omega
     have hat := lp_at hq hjl
     refine Dw [] (k:=?_)
     refine Dv 0 (k:=Dv 1 (k:=Dv 8 (k:=Dv 9 (k:=?_))))
     refine d_next2 2 4 (by kernel_rfl) rfl rfl ?_ ?_
     ·
      refine an_callX (hCh b37 ps[j]) rfl rfl rfl (fun xc hxc => ?_)
      have hcn := hcl xc.2 ps[j] hxc
      refine Dv 3 (k:=Dn 4 (k:=?_))
      refine MX.an_mkmap (E := MX.boolE) rfl (fun b82 => ?_)
      refine d_next2 5 6 (by kernel_rfl) rfl rfl ?_ ?_
      ·
       refine MX.an_insert (E := MX.boolE) (k := true) Tryz.underlying57 (MX.boolP Tryz.underlying4) rfl rfl rfl ?_
       refine Dn 6 (k:=?_)
       refine MX.an_insert (E := MX.boolE) (k := false) Tryz.underlying57 (MX.boolP Tryz.underlying4) rfl rfl rfl ?_
       refine Dv 7 (k:=Dn 10 (k:=?_))
       first
       | refine MX.an_lookup (E := MX.boolE) Tryz.underlying57 (MX.boolP Tryz.underlying4) ti3 rfl rfl rfl (yn1 j) rfl ?_
       | refine MX.an_lookup (E := MX.boolE) Tryz.underlying57 (MX.boolP Tryz.underlying4) ti3 rfl rfl rfl (ny1 j) rfl ?_
       refine Dv 11 (k:=Dd (k:=Ya (Zi (t:=fun h87 => ?_) (f:=fun h87 => ?_))))
       ·
        refine absurd ?_ h87
        rw [hcn]
        by_cases h0 : j = 0
        · rw [if_pos (hat.2 h0), if_pos h0]; rfl
        · rw [if_neg (fun e => h0 (hat.1 e)), if_neg h0]; rfl
        --done
       ·
        refine Zk (k:=Yb (Ya (Zr (k:=Qv (k:=Wn ?_)))))
        exact zb5next2
      ·
       refine MX.an_insert (E := MX.boolE) (k := false) Tryz.underlying57 (MX.boolP Tryz.underlying4) rfl rfl rfl ?_
       refine Dn 5 (k:=?_)
       refine MX.an_insert (E := MX.boolE) (k := true) Tryz.underlying57 (MX.boolP Tryz.underlying4) rfl rfl rfl ?_
       refine Dv 7 (k:=Dn 10 (k:=?_))
       first
       | refine MX.an_lookup (E := MX.boolE) Tryz.underlying57 (MX.boolP Tryz.underlying4) ti3 rfl rfl rfl (yn1 j) rfl ?_
       | refine MX.an_lookup (E := MX.boolE) Tryz.underlying57 (MX.boolP Tryz.underlying4) ti3 rfl rfl rfl (ny1 j) rfl ?_
       refine Dv 11 (k:=Dd (k:=Ya (Zi (t:=fun h87 => ?_) (f:=fun h87 => ?_))))
       ·
        refine absurd ?_ h87
        rw [hcn]
        by_cases h0 : j = 0
        · rw [if_pos (hat.2 h0), if_pos h0]; rfl
        · rw [if_neg (fun e => h0 (hat.1 e)), if_neg h0]; rfl
        --done
       ·
        refine Zk (k:=Yb (Ya (Zr (k:=Qv (k:=Wn ?_)))))
        exact zb5next2
     ·
      refine MX.an_mkmap (E := MX.boolE) rfl (fun b82 => ?_)
      refine d_next3 2 5 6 (by kernel_rfl) rfl rfl rfl ?_ ?_ ?_
      ·
       refine an_callX (hCh b37 ps[j]) rfl rfl rfl (fun xc hxc => ?_)
       have hcn := hcl xc.2 ps[j] hxc
       refine Dv 3 (k:=?_)
       refine d_next2 5 6 (by kernel_rfl) rfl rfl ?_ ?_
       ·
        refine MX.an_insert (E := MX.boolE) (k := true) Tryz.underlying57 (MX.boolP Tryz.underlying4) rfl rfl rfl ?_
        refine Dn 6 (k:=?_)
        refine MX.an_insert (E := MX.boolE) (k := false) Tryz.underlying57 (MX.boolP Tryz.underlying4) rfl rfl rfl ?_
        refine Dv 7 (k:=Dn 10 (k:=?_))
        first
        | refine MX.an_lookup (E := MX.boolE) Tryz.underlying57 (MX.boolP Tryz.underlying4) ti3 rfl rfl rfl (yn1 j) rfl ?_
        | refine MX.an_lookup (E := MX.boolE) Tryz.underlying57 (MX.boolP Tryz.underlying4) ti3 rfl rfl rfl (ny1 j) rfl ?_
        refine Dv 11 (k:=Dd (k:=Ya (Zi (t:=fun h87 => ?_) (f:=fun h87 => ?_))))
        ·
         refine absurd ?_ h87
         rw [hcn]
         by_cases h0 : j = 0
         · rw [if_pos (hat.2 h0), if_pos h0]; rfl
         · rw [if_neg (fun e => h0 (hat.1 e)), if_neg h0]; rfl
         --done
        ·
         refine Zk (k:=Yb (Ya (Zr (k:=Qv (k:=Wn ?_)))))
         exact zb5next2
       ·
        refine MX.an_insert (E := MX.boolE) (k := false) Tryz.underlying57 (MX.boolP Tryz.underlying4) rfl rfl rfl ?_
        refine Dn 5 (k:=?_)
        refine MX.an_insert (E := MX.boolE) (k := true) Tryz.underlying57 (MX.boolP Tryz.underlying4) rfl rfl rfl ?_
        refine Dv 7 (k:=Dn 10 (k:=?_))
        first
        | refine MX.an_lookup (E := MX.boolE) Tryz.underlying57 (MX.boolP Tryz.underlying4) ti3 rfl rfl rfl (yn1 j) rfl ?_
        | refine MX.an_lookup (E := MX.boolE) Tryz.underlying57 (MX.boolP Tryz.underlying4) ti3 rfl rfl rfl (ny1 j) rfl ?_
        refine Dv 11 (k:=Dd (k:=Ya (Zi (t:=fun h87 => ?_) (f:=fun h87 => ?_))))
        ·
         refine absurd ?_ h87
         rw [hcn]
         by_cases h0 : j = 0
         · rw [if_pos (hat.2 h0), if_pos h0]; rfl
         · rw [if_neg (fun e => h0 (hat.1 e)), if_neg h0]; rfl
         --done
        ·
         refine Zk (k:=Yb (Ya (Zr (k:=Qv (k:=Wn ?_)))))
         exact zb5next2
      ·
       refine MX.an_insert (E := MX.boolE) (k := true) Tryz.underlying57 (MX.boolP Tryz.underlying4) rfl rfl rfl ?_
       refine d_next2 2 6 (by kernel_rfl) rfl rfl ?_ ?_
       ·
        refine an_callX (hCh b37 ps[j]) rfl rfl rfl (fun xc hxc => ?_)
        have hcn := hcl xc.2 ps[j] hxc
        refine Dv 3 (k:=Dn 6 (k:=?_))
        refine MX.an_insert (E := MX.boolE) (k := false) Tryz.underlying57 (MX.boolP Tryz.underlying4) rfl rfl rfl ?_
        refine Dv 7 (k:=Dn 10 (k:=?_))
        first
        | refine MX.an_lookup (E := MX.boolE) Tryz.underlying57 (MX.boolP Tryz.underlying4) ti3 rfl rfl rfl (yn1 j) rfl ?_
        | refine MX.an_lookup (E := MX.boolE) Tryz.underlying57 (MX.boolP Tryz.underlying4) ti3 rfl rfl rfl (ny1 j) rfl ?_
        refine Dv 11 (k:=Dd (k:=Ya (Zi (t:=fun h87 => ?_) (f:=fun h87 => ?_))))
        ·
         refine absurd ?_ h87
         rw [hcn]
         by_cases h0 : j = 0
         · rw [if_pos (hat.2 h0), if_pos h0]; rfl
         · rw [if_neg (fun e => h0 (hat.1 e)), if_neg h0]; rfl
         --done
        ·
         refine Zk (k:=Yb (Ya (Zr (k:=Qv (k:=Wn ?_)))))
         exact zb5next2
       ·
        refine MX.an_insert (E := MX.boolE) (k := false) Tryz.underlying57 (MX.boolP Tryz.underlying4) rfl rfl rfl ?_
        refine Dv 7 (k:=?_)
        refine d_next2 2 10 (by kernel_rfl) rfl rfl ?_ ?_
        ·
         refine an_callX (hCh b37 ps[j]) rfl rfl rfl (fun xc hxc => ?_)
         have hcn := hcl xc.2 ps[j] hxc
         refine Dv 3 (k:=Dn 10 (k:=?_))
         first
         | refine MX.an_lookup (E := MX.boolE) Tryz.underlying57 (MX.boolP Tryz.underlying4) ti3 rfl rfl rfl (yn1 j) rfl ?_
         | refine MX.an_lookup (E := MX.boolE) Tryz.underlying57 (MX.boolP Tryz.underlying4) ti3 rfl rfl rfl (ny1 j) rfl ?_
         refine Dv 11 (k:=Dd (k:=Ya (Zi (t:=fun h87 => ?_) (f:=fun h87 => ?_))))
         ·
          refine absurd ?_ h87
          rw [hcn]
          by_cases h0 : j = 0
          · rw [if_pos (hat.2 h0), if_pos h0]; rfl
          · rw [if_neg (fun e => h0 (hat.1 e)), if_neg h0]; rfl
          --done
         ·
          refine Zk (k:=Yb (Ya (Zr (k:=Qv (k:=Wn ?_)))))
          exact zb5next2
        ·
         first
         | refine MX.an_lookup (E := MX.boolE) Tryz.underlying57 (MX.boolP Tryz.underlying4) ti3 rfl rfl rfl (yn1 j) rfl ?_
         | refine MX.an_lookup (E := MX.boolE) Tryz.underlying57 (MX.boolP Tryz.underlying4) ti3 rfl rfl rfl (ny1 j) rfl ?_
         refine Dn 2 (k:=?_)
         refine an_callX (hCh b37 ps[j]) rfl rfl rfl (fun xc hxc => ?_)
         have hcn := hcl xc.2 ps[j] hxc
         refine Dv 3 (k:=Dv 11 (k:=Dd (k:=Ya (Zi (t:=fun h87 => ?_) (f:=fun h87 => ?_)))))
         ·
          refine absurd ?_ h87
          rw [hcn]
          by_cases h0 : j = 0
          · rw [if_pos (hat.2 h0), if_pos h0]; rfl
          · rw [if_neg (fun e => h0 (hat.1 e)), if_neg h0]; rfl
          --done
         ·
          refine Zk (k:=Yb (Ya (Zr (k:=Qv (k:=Wn ?_)))))
          exact zb5next2
      ·
       refine MX.an_insert (E := MX.boolE) (k := false) Tryz.underlying57 (MX.boolP Tryz.underlying4) rfl rfl rfl ?_
       refine d_next2 2 5 (by kernel_rfl) rfl rfl ?_ ?_
       ·
        refine an_callX (hCh b37 ps[j]) rfl rfl rfl (fun xc hxc => ?_)
        have hcn := hcl xc.2 ps[j] hxc
        refine Dv 3 (k:=Dn 5 (k:=?_))
        refine MX.an_insert (E := MX.boolE) (k := true) Tryz.underlying57 (MX.boolP Tryz.underlying4) rfl rfl rfl ?_
        refine Dv 7 (k:=Dn 10 (k:=?_))
        first
        | refine MX.an_lookup (E := MX.boolE) Tryz.underlying57 (MX.boolP Tryz.underlying4) ti3 rfl rfl rfl (yn1 j) rfl ?_
        | refine MX.an_lookup (E := MX.boolE) Tryz.underlying57 (MX.boolP Tryz.underlying4) ti3 rfl rfl rfl (ny1 j) rfl ?_
        refine Dv 11 (k:=Dd (k:=Ya (Zi (t:=fun h87 => ?_) (f:=fun h87 => ?_))))
        ·
         refine absurd ?_ h87
         rw [hcn]
         by_cases h0 : j = 0
         · rw [if_pos (hat.2 h0), if_pos h0]; rfl
         · rw [if_neg (fun e => h0 (hat.1 e)), if_neg h0]; rfl
         --done
        ·
         refine Zk (k:=Yb (Ya (Zr (k:=Qv (k:=Wn ?_)))))
         exact zb5next2
       ·
        refine MX.an_insert (E := MX.boolE) (k := true) Tryz.underlying57 (MX.boolP Tryz.underlying4) rfl rfl rfl ?_
        refine Dv 7 (k:=?_)
        refine d_next2 2 10 (by kernel_rfl) rfl rfl ?_ ?_
        ·
         refine an_callX (hCh b37 ps[j]) rfl rfl rfl (fun xc hxc => ?_)
         have hcn := hcl xc.2 ps[j] hxc
         refine Dv 3 (k:=Dn 10 (k:=?_))
         first
         | refine MX.an_lookup (E := MX.boolE) Tryz.underlying57 (MX.boolP Tryz.underlying4) ti3 rfl rfl rfl (yn1 j) rfl ?_
         | refine MX.an_lookup (E := MX.boolE) Tryz.underlying57 (MX.boolP Tryz.underlying4) ti3 rfl rfl rfl (ny1 j) rfl ?_
         refine Dv 11 (k:=Dd (k:=Ya (Zi (t:=fun h87 => ?_) (f:=fun h87 => ?_))))
         ·
          refine absurd ?_ h87
          rw [hcn]
          by_cases h0 : j = 0
          · rw [if_pos (hat.2 h0), if_pos h0]; rfl
          · rw [if_neg (fun e => h0 (hat.1 e)), if_neg h0]; rfl
          --done
         ·
          refine Zk (k:=Yb (Ya (Zr (k:=Qv (k:=Wn ?_)))))
          exact zb5next2
        ·
         first
         | refine MX.an_lookup (E := MX.boolE) Tryz.underlying57 (MX.boolP Tryz.underlying4) ti3 rfl rfl rfl (yn1 j) rfl ?_
         | refine MX.an_lookup (E := MX.boolE) Tryz.underlying57 (MX.boolP Tryz.underlying4) ti3 rfl rfl rfl (ny1 j) rfl ?_
         refine Dn 2 (k:=?_)
         refine an_callX (hCh b37 ps[j]) rfl rfl rfl (fun xc hxc => ?_)
         have hcn := hcl xc.2 ps[j] hxc
         refine Dv 3 (k:=Dv 11 (k:=Dd (k:=Ya (Zi (t:=fun h87 => ?_) (f:=fun h87 => ?_)))))
         ·
          refine absurd ?_ h87
          rw [hcn]
          by_cases h0 : j = 0
          · rw [if_pos (hat.2 h0), if_pos h0]; rfl
          · rw [if_neg (fun e => h0 (hat.1 e)), if_neg h0]; rfl
          --done
         ·
          refine Zk (k:=Yb (Ya (Zr (k:=Qv (k:=Wn ?_)))))
          exact zb5next2
    ·
     refine Ze (k:=Xa (Xi (Xb (Ya (Za (k:=Dw [SlI sa (ps.map vS)] (k:=?_)))))))
     refine Dv 0 (k:=Dv 1 (k:=Dv 2 (k:=Gd 2 (t:=fun h91 => ?_) (f:=fun h91 => ?_))))
     ·
      refine Di 3 (t:=U1 (h:=Uv)) (k:=Di 5 (t:=U1 (h:=Uv)) (k:=?_))
      refine d_first 6 rfl rfl rfl (by kernel_rfl) (by kernel_rfl) (tl_in (b := true) rfl (tl_elemAddr (m := 0) (sz := 1) Tryz.underlying27 ti9 rfl rfl rfl rfl (by omega) (by rw [List.length_map]; omega) (Nat.mul_one _))) ?_
      refine d_first 7 rfl rfl rfl (by kernel_rfl) (by kernel_rfl) (tl_in (b := true) rfl (tl_eload Tryz.underlying9 rfl rfl (map_head (by omega)))) ?_
      refine Dn 4 (k:=?_)
      refine an_in (b := true) rfl ?_
      refine an_call1 (hPr b37) rfl rfl rfl ?_
      refine Di 8 (t:=U1 (h:=Uv)) (k:=DP1 9 (k:=Dv 10 (k:=Gd 10 (t:=fun h99 => ?_) (f:=fun h99 => ?_))))
      ·
       refine Di 11 (t:=U1 (h:=Uv)) (k:=Dn 12 (k:=?_))
       refine an_in (b := true) rfl ?_
       refine an_call1 (hPr2 b37) rfl rfl rfl ?_
       refine Di 13 (t:=U1 (h:=Uv)) (k:=DP1 14 (k:=Dv 15 (k:=Gd 15 (t:=fun h104 => ?_) (f:=fun h104 => ?_))))
       ·
        refine Di 16 (t:=U1 (h:=Uv)) (k:=Dn 17 (k:=?_))
        refine an_in (b := true) rfl ?_
        refine an_callX (hCh b37 []) rfl rfl rfl (fun xd hxd => ?_)
        have hdn := hcl xd.2 [] hxd
        rw [if_neg (by simp)] at hdn
        rw [hdn]
        refine Di 18 (t:=U1 (h:=Uv)) (k:=Di 19 (t:=U1 (h:=Uv)) (k:=DP1 20 (k:=Dv 21 (k:=Dn 22 (k:=?_)))))
        refine an_in (b := true) rfl ?_
        refine an_call1 LinksRuns_sp rfl rfl rfl ?_
        refine d_first 23 rfl rfl rfl (by kernel_rfl) (by kernel_rfl) (tl_pv (pv_pick_b rfl rfl rfl)) ?_
        refine Dv 24 (k:=Dd (k:=Ya (Zt (k:=?_))))
        exact fin_ret () (vs := [_]) (Cs := []) rfl (.tmp rfl .nil) rfl trivial ent_nil
       ·
        exact absurd rfl h104
        --done
      ·
       exact absurd rfl h99
       --done
     ·
      exact absurd rfl h91
      --done
end
end Go.Proofs.YtdnoacgopfcpbaaGreat
