/- Texts of this proof, put together: LawBlobBases, KeepOf. -/
import Derived.Test.YtibccdcemcgkeaaGreatQ16
set_option linter.unusedVariables false
set_option linter.unusedSimpArgs false
namespace Go.Proofs.YtibccdcemcgkeaaGreat
section
set_option maxRecDepth 100000
theorem pv_eql_same {P : Program} {n : Nat} {L : Loc} {ty : TypeId} {x y : Operand} {k : IntKind} {i : Int} {t yt : TypeId} (hx : ev L x = some (.int k i)) (hy : ev L y = some (.int k i)) : PV P n L (.binOp .eql t x y yt) ty (.bool true) := by
 have h := pv_eql (P := P) (n := n) (ty := ty) (t := t) (yt := yt) hx hy
 rwa [decide_eq_true rfl] at h
theorem zb11ret9 {G : Prop} (h : G := by exact fin_ret () (vs := [_]) (Cs := []) rfl (.tmp rfl .nil) rfl trivial ent_pick) : G := h
theorem zb11ret27 {G : Prop} (h : G := by exact fin_ret () (vs := [_]) (Cs := []) rfl (.tmp rfl .nil) rfl trivial ent_pick) : G := h
theorem zb11join23 {G : Prop} (h : G := by
    have w102 : vU 102 = vU ((102 : Nat) : Int) := rfl
    have w100 : vU 100 = vU ((100 : Nat) : Int) := rfl
    first
    | exact to_inv ⟨((nt, y, t ++ [33]), (102 : Nat), 102 :: (t ++ [33])), bas_full (k81_none h47) (Nat.le_of_eq hntl) hy.symm h42 htx⟩ trivial ⟨rfl, rfl, rfl, rfl, rfl, trivial⟩ ent_pick
    | exact to_inv ⟨((y, y, t ++ [33]), 102, 102 :: (t ++ [33])), bas_full (k81_none h42) (Nat.le_of_eq hyl) hy.symm h42 htx⟩ trivial ⟨rfl, rfl, rfl, rfl, rfl, trivial⟩ ent_pick
    | exact to_inv ⟨((x, sh, [115, 104, 111, 114, 116]), 102, 102 :: [115, 104, 111, 114, 116]), bas_short hxl hsh.symm h51 hsl⟩ trivial ⟨rfl, rfl, rfl, rfl, rfl, trivial⟩ ent_pick
    | exact to_inv ⟨(([], y, t ++ [33]), 102, 102 :: (t ++ [33])), bas_full (k81_none (fun e => by rw [e] at hxl; cases hxl)) (Nat.zero_le _) hy.symm h42 htx⟩ trivial ⟨rfl, rfl, rfl, rfl, rfl, trivial⟩ ent_pick
    | exact to_inv ⟨((x, y, t ++ [33]), 100, 100 :: (x ++ makeB t (t ++ [33]))), bas_del hxl htl1 htl2 hy.symm h42⟩ trivial ⟨rfl, rfl, rfl, rfl, rfl, trivial⟩ ent_pick) : G := h
set_option maxHeartbeats 8000000 in
theorem BlobBases_sp (kb : Int) (ka : Option Addr) (kc : Nat) (kl : List Int) (hkl : kl.length ≤ 9223372036854775807) (what : Int) : Sp1 Tryz.prog 11 [.agg #[vI kb, .slice ka kl.length kc], vI what] [SlI ka (kl.map vI)] (vB true) [] := by
 have i0 : BI 400 0 ⟨[], 0, false⟩ [] (newD 400) := bi_new (by decide) (by decide)
 have hT := keep_Text_sp (B := SlI ka (kl.map vI)) kc kb kl hkl sla_sli
 have htl := textB_len kb kl
 generalize textB kb kl = tx at hT htl
 have hS2 := hash_Sum_sp [110, 111, 116, 32, 116, 104, 101, 114, 101] (by decide)
 have hS3 := hash_Sum_sp [115, 104, 111, 114, 116] (by decide)
 have hntl : (shaB [110, 111, 116, 32, 116, 104, 101, 114, 101]).length = 40 := shaB_len _
 obtain ⟨sh, hsh⟩ : ∃ sh, sh = shaB [115, 104, 111, 114, 116] := ⟨_, rfl⟩
 rw [← hsh] at hS3
 generalize shaB [110, 111, 116, 32, 116, 104, 101, 114, 101] = nt at hS2 hntl
 have hshl : sh.length = 40 := by rw [hsh]; exact shaB_len _
 have hW := book_Within_sp what 0 4 (by omega) (by omega) (by omega)
 generalize withinI what 0 4 = ww at hW
 refine Sp.body (n := 137) Tryz.call11 Tryz.func11 rfl rfl rfl ?_
 refine Qc (k:=Zx [_, _] (k:=fun b2 => Vv (k:=Wq (Qc (k:=?_)))))
 refine r_callX (disk_New_sp 400) rfl rfl rfl (fun d _ => ?_)
 refine Vv (k:=Wq (Qc (k:=Vv (k:=?_))))
 refine r_callX (store_Open_sp d (newD 400)) rfl rfl rfl (fun s _ => ?_)
 refine Vv (k:=Wq (Za (k:=Qc (k:=Vv (k:=?_)))))
 refine wo_pv (pv_peql_nil Tryz.underlying70 rfl rfl) rfl ?_
 refine Vv (k:=Gi 2 (t:=fun h22 => ?_) (f:=fun h22 => ?_))
 ·
  cases h22
  --done
 ·
  refine J0 (k:=I0 (k:=?_))
  refine wo_pv (pv_peql_nil Tryz.underlying72 rfl rfl) rfl ?_
  refine P0 (k:=Wq (Zi (t:=fun h25 => ?_) (f:=fun h25 => ?_)))
  ·
   cases h25
   --done
  ·
   refine Zk (k:=Ya (Qc (k:=Zm [_, _] (k:=?_))))
   refine r_call1 hT rfl rfl rfl ?_
   refine wo_pv (pv_cat rfl rfl (by simp; omega)) rfl ?_
   generalize hu : (_ : Bs) ++ tx = u
   have hul : 74 ≤ u.length := by rw [← hu]; simp
   have hul2 : u.length ≤ 300 := by rw [← hu]; simp; omega
   refine Vv (k:=Wq (Qc (k:=Qv (k:=Qv (k:=?_)))))
   refine wo_pv (pv_slice_tom (m := min u.length 250) Tryz.underlying9 rfl rfl (by omega) (by omega)) rfl ?_
   obtain ⟨t, ht⟩ : ∃ t, t = u.take (min u.length 250) := ⟨_, rfl⟩
   rw [← ht]
   have htl1 : 60 ≤ t.length := by rw [ht, List.length_take]; omega
   have htl2 : t.length ≤ 250 := by rw [ht, List.length_take]; omega
   obtain ⟨x, hx⟩ : ∃ x, x = shaB t := ⟨_, rfl⟩
   obtain ⟨y, hy⟩ : ∃ y, y = shaB (t ++ [33]) := ⟨_, rfl⟩
   have hxl : x.length = 40 := by rw [hx]; exact shaB_len _
   have hyl : y.length = 40 := by rw [hy]; exact shaB_len _
   refine Vv (k:=Wq (Qc (k:=Vv (k:=?_))))
   refine r_callF (hash_Sum_sp t (by omega)) rfl rfl rfl ?_
   refine Vv (k:=?_)
   refine wo_pv (pv_cat rfl rfl (by simp only [List.length_singleton]; omega)) rfl ?_
   refine r_callF (hash_Sum_sp (t ++ [33]) (by simp; omega)) rfl rfl rfl ?_
   rw [← hx, ← hy]
   refine Qv (k:=Wq (Za (k:=Qc (k:=Qv (k:=Qv (k:=Gi 3 (t:=fun h42 => ?_) (f:=fun h42 => ?_)))))))
   ·
    refine O1 (k:=O1 (k:=O1 (k:=P1 (k:=Vv (k:=O1 (k:=O1 (k:=O1 (k:=P1 (k:=Wq (Z1 (k:=Za (k:=?_))))))))))))
    refine Zr (k:=?_)
    refine r_call1 BlobRuns_sp rfl rfl rfl ?_
    refine Vv (k:=Wq (Zt (k:=Va ?_)))
    exact zb11ret9
   ·
    refine J0 (k:=I0 (k:=?_))
    refine r_callF hS2 rfl rfl rfl ?_
    refine J0 (k:=P0 (k:=Vv (k:=Gi 8 (t:=fun h47 => ?_) (f:=fun h47 => ?_))))
    ·
     refine O1 (k:=O1 (k:=O1 (k:=P1 (k:=Wq (Z1 (k:=Qc (k:=?_)))))))
     refine r_call1 BlobRuns_sp rfl rfl rfl ?_
     refine Vv (k:=Wq (Zt (k:=Va ?_)))
     exact zb11ret9
    ·
     refine J0 (k:=I0 (k:=?_))
     refine r_callF hS3 rfl rfl rfl ?_
     refine J0 (k:=P0 (k:=Wq (Zi (t:=fun h51 => ?_) (f:=fun h51 => ?_))))
     ·
      refine Qc (k:=?_)
      refine r_call1 BlobRuns_sp rfl rfl rfl ?_
      refine Vv (k:=Wq (Zt (k:=Va ?_)))
      exact zb11ret9
     ·
      refine Zk (k:=Ya (Za (k:=Za (k:=?_))))
      rw [show openJ (newD 400) = ⟨[], 0, false⟩ from rfl, show openK (⟨[], 0, false⟩ : Jn).l = [] from rfl]
      have htx : (t ++ [33]).length ≤ 251 := by simp; omega
      have hsl : ([115, 104, 111, 114, 116] : Bs).length ≤ 41 := by decide
      have e1 : rowB [] x t [] = ⟨98 :: x, 102 :: t, false⟩ := r8_row1
      have hR1 := blob_Row_sp s d ⟨[], 0, false⟩ [] i0.txt x t [] (by omega) (by omega) (by simp)
      rw [e1] at hR1
      obtain ⟨ja, da, i1, hC1⟩ := i0.sp (l := [⟨98 :: x, 102 :: t, false⟩]) 10 (fun q hq => by rw [List.mem_singleton.1 hq]; exact ⟨by simp, by simp; omega, by simp; omega, fun e => by cases e⟩) (Nat.le_trans (textOf_one (by simp <;> omega) (by simp <;> omega)) (by simp <;> omega)) (by decide) (by decide)
      rw [show doR [] [(⟨98 :: x, 102 :: t, false⟩ : Rw)] = k81 x t from rfl] at i1 hC1
      refine Zr (k:=Qv (k:=Qv (k:=?_)))
      refine r_call1 hR1 rfl rfl rfl ?_
      refine Zv [_] (cs := [_, _, _]) (k:=fun b58 => ?_)
      refine wo_ent' (ce_norm (b := b58) (T := 77) (l' := [(⟨98 :: x, 102 :: t, false⟩ : Rw)].flatMap rowC) (by rfl) (by rfl)) ?_
      refine r_call1 (hC1 (Ce b58 77 ([(⟨98 :: x, 102 :: t, false⟩ : Rw)].flatMap rowC)) _ s d 1 1 sla_ce rfl) rfl rfl rfl ?_
      refine Vv (k:=Wq (Zi (t:=fun h60 => ?_) (f:=fun h60 => ?_)))
      ·
       exact absurd rfl h60
       --done
      ·
       refine Zk (k:=Ya (Qc (k:=Qv (k:=Vv (k:=Wq (Qc (k:=Qv (k:=?_))))))))
       refine wo_pv (pv_cat rfl rfl (by simp only [List.length_singleton]; omega)) rfl ?_
       refine Qv (k:=Wq ?_)
       refine p_cut (fun (q : { q : (Bs × Bs × Bs) × Nat × Bs // BasP x t q.1.1 q.1.2.1 q.1.2.2 q.2.1 q.2.2 }) => [(6, .pointer (some ⟨s, 0, none⟩)), (10, vS q.1.1.1), (11, vU (q.1.2.1 : Nat)), (12, vS q.1.1.2.1), (13, vS q.1.1.2.2)]) (fun (q : { q : (Bs × Bs × Bs) × Nat × Bs // BasP x t q.1.1 q.1.2.1 q.1.2.2 q.2.1 q.2.2 }) => [IsS s d ja (k81 x t), IsD d da]) rfl (fun q => ?_) ?_
       ·
        obtain ⟨⟨⟨base, own, txt⟩, w, rv⟩, hp⟩ := q
        dsimp only at hp ⊢
        have hol : own.length = 40 := by rw [← hp.sha]; exact shaB_len _
        have htxl := hp.tl
        have hbl := hp.bl
        have hrl := hp.rl
        have hR2 := blob_Row_sp s d ja (k81 x t) i1.txt own txt base (by omega) (by omega) (by omega)
        rw [hp.row] at hR2
        change Sp1 _ _ _ _ (.agg #[vS (98 :: own), vS rv, .bool false]) _ at hR2
        obtain ⟨jb, db, i2, hC2⟩ := i1.sp (l := [⟨98 :: own, rv, false⟩]) 16 (fun q hq => by rw [List.mem_singleton.1 hq]; exact ⟨by simp, by simp; omega, by simp; omega, fun e => by cases e⟩) (Nat.le_trans (textOf_one (by simp <;> omega) (by simp <;> omega)) (by simp <;> omega)) (by decide) (by decide)
        rw [show doR (k81 x t) [(⟨98 :: own, rv, false⟩ : Rw)] = kbs x t own rv from rfl] at i2 hC2
        have hCt := blob_Content_sp s d jb (kbs x t own rv) i2.txt own (by omega)
        rw [hp.ctn hxl htl2] at hCt
        have hCk := blob_Check_sp s d jb (kbs x t own rv) i2.txt i2.NamK (by have := i2.len; omega)
        rw [hp.check hxl htl2 hx.symm] at hCk
        have hDp := blob_Depth_sp s d jb (kbs x t own rv) i2.txt own (by omega)
        rw [hp.dep hxl] at hDp
        obtain ⟨hh1, hh2⟩ := hp.head
        have hrv0 : 0 < rv.length := List.length_pos_iff.2 hh1
        have hlk1 : (ulook ([] ++ [(100, .int .i64 1)] ++ [(102, .int .i64 0)]) (w : Int)).getD (.int .i64 0) = vI (if w = 100 then 1 else 0) := by rcases hp.kind with ⟨h1, _⟩ | ⟨h1, _⟩ <;> rw [h1] <;> rfl
        have hlk2 : (ulook ([] ++ [(102, .int .i64 0)] ++ [(100, .int .i64 1)]) (w : Int)).getD (.int .i64 0) = vI (if w = 100 then 1 else 0) := by rcases hp.kind with ⟨h1, _⟩ | ⟨h1, _⟩ <;> rw [h1] <;> rfl
        try dsimp only
        refine Qc (k:=Qv (k:=Qv (k:=?_)))
        refine r_call1 hR2 rfl rfl rfl ?_
        refine Zc [vS [], vS [], .bool false] (k:=fun b14 => Zp (k:=Wq (Za (k:=Qc (k:=Qx 1 9 (k:=Qv (k:=Vv (k:=Gi 4 (t:=fun h87 => ?_) (f:=fun h87 => ?_)))))))))
        ·
         exfalso; omega
         --done
        ·
         refine I0 (k:=Vf 1 9 (k:=I0 (k:=Zd (k:=I0 (k:=?_)))))
         refine wo_pv (pv_indexm (m := 0) Tryz.underlying9 rfl rfl rfl (by omega)) rfl ?_
         refine J0 (k:=J0 (k:=P0 (k:=Vv (k:=Gi 11 (t:=fun h94 => ?_) (f:=fun h94 => ?_)))))
         ·
          exact absurd (by rw [hh2]) h94
          --done
         ·
          refine I0 (k:=Vf 0 9 (k:=I0 (k:=Zd (k:=J0 (k:=I0 (k:=?_))))))
          refine wo_pv (pv_cat rfl rfl (by simp only [List.length_singleton]; omega)) rfl ?_
          rw [List.singleton_append]
          refine J0 (k:=P0 (k:=Vv (k:=Gi 18 (t:=fun h101 => ?_) (f:=fun h101 => ?_))))
          ·
           exact absurd rfl h101
           --done
          ·
           refine J0 (k:=I0 (k:=Zm [_, _, _] (k:=I0 (k:=Zv [_] (cs := [_, _, _]) (k:=fun b104 => I0 (k:=?_))))))
           refine wo_ent' (ce_norm (b := b104) (T := 77) (l' := [(⟨98 :: own, rv, false⟩ : Rw)].flatMap rowC) (by rfl) (by rfl)) ?_
           refine r_call1 (hC2 (Ce b104 77 ([(⟨98 :: own, rv, false⟩ : Rw)].flatMap rowC)) _ s d 1 1 sla_ce rfl) rfl rfl rfl ?_
           refine J0 (k:=P0 (k:=Wq (Zi (t:=fun h107 => ?_) (f:=fun h107 => ?_))))
           ·
            exact absurd rfl h107
            --done
           ·
            refine Zk (k:=Ya (Qc (k:=Qv (k:=?_))))
            refine r_call1 hCt rfl rfl rfl ?_
            refine Vv (k:=?_)
            refine wo_pv (pv_extract (v := vS txt) rfl rfl) rfl ?_
            refine wo_pv (pv_extract (v := vB true) rfl rfl) rfl ?_
            refine Qv (k:=Wq (Za (k:=Dw [] (k:=?_))))
            refine Dv 0 (k:=Dv 1 (k:=Gd 1 (t:=fun h115 => ?_) (f:=fun h115 => ?_)))
            ·
             refine Di 2 (t:=U1 (h:=Uv)) (k:=Di 3 (t:=U1 (h:=Uv)) (k:=Di 4 (t:=U1 (h:=Uv)) (k:=DP1 5 (k:=Dv 6 (k:=Gd 6 (t:=fun h120 => ?_) (f:=fun h120 => ?_))))))
             ·
              refine Di 7 (t:=U1 (h:=Uv)) (k:=Dn 8 (k:=?_))
              refine an_in (b := true) rfl ?_
              refine an_call1 hCk rfl rfl rfl ?_
              refine DP1 9 (k:=Dv 10 (k:=Gd 10 (t:=fun h124 => ?_) (f:=fun h124 => ?_)))
              ·
               refine Di 11 (t:=U1 (h:=Uv)) (k:=Di 12 (t:=U1 (h:=Uv)) (k:=Di 18 (t:=U1 (h:=Uv)) (k:=?_)))
               refine d_next2 13 14 (by kernel_rfl) rfl rfl ?_ ?_
               ·
                refine an_in (b := true) rfl ?_
                refine an_call1 hDp rfl rfl rfl ?_
                refine Dn 14 (k:=?_)
                refine an_in (b := true) rfl ?_
                refine an_mkmapU rfl (fun b128 => ?_)
                refine d_next2 15 16 (by kernel_rfl) rfl rfl ?_ ?_
                ·
                 refine an_in (b := true) rfl ?_
                 first
                 | refine an_insU (es := []) (k := 100) Tryz.underlying91 Tryz.underlying5 rfl rfl rfl rfl ?_
                 | refine an_insU (es := [] ++ [(102, .int .i64 0)]) (k := 100) Tryz.underlying91 Tryz.underlying5 rfl rfl rfl rfl ?_
                 refine Dn 16 (k:=?_)
                 refine an_in (b := true) rfl ?_
                 first
                 | refine an_insU (es := []) (k := 102) Tryz.underlying91 Tryz.underlying5 rfl rfl rfl rfl ?_
                 | refine an_insU (es := [] ++ [(100, .int .i64 1)]) (k := 102) Tryz.underlying91 Tryz.underlying5 rfl rfl rfl rfl ?_
                 refine Di 17 (t:=U1 (h:=Uv)) (k:=Dn 19 (k:=?_))
                 refine an_in (b := true) rfl ?_
                 first
                 | refine an_lookupU Tryz.underlying91 Tryz.underlying5 ti3 rfl rfl rfl hlk1 rfl ?_
                 | refine an_lookupU Tryz.underlying91 Tryz.underlying5 ti3 rfl rfl rfl hlk2 rfl ?_
                 refine d_first 20 rfl rfl rfl (by kernel_rfl) (by kernel_rfl) (tl_in (b := true) rfl (tl_pv (pv_eql_same rfl rfl))) ?_
                 refine DP1 21 (k:=Dv 22 (k:=Dn 23 (k:=?_)))
                 refine an_in (b := true) rfl ?_
                 refine an_call1 BlobRuns_sp rfl rfl rfl ?_
                 refine d_first 24 rfl rfl rfl (by kernel_rfl) (by kernel_rfl) (tl_pv (pv_pick_b rfl rfl rfl)) ?_
                 refine Dv 25 (k:=Dd (k:=Ya (Zt (k:=?_))))
                 exact zb11ret27
                ·
                 refine an_in (b := true) rfl ?_
                 first
                 | refine an_insU (es := []) (k := 102) Tryz.underlying91 Tryz.underlying5 rfl rfl rfl rfl ?_
                 | refine an_insU (es := [] ++ [(100, .int .i64 1)]) (k := 102) Tryz.underlying91 Tryz.underlying5 rfl rfl rfl rfl ?_
                 refine Dn 15 (k:=?_)
                 refine an_in (b := true) rfl ?_
                 first
                 | refine an_insU (es := []) (k := 100) Tryz.underlying91 Tryz.underlying5 rfl rfl rfl rfl ?_
                 | refine an_insU (es := [] ++ [(102, .int .i64 0)]) (k := 100) Tryz.underlying91 Tryz.underlying5 rfl rfl rfl rfl ?_
                 refine Di 17 (t:=U1 (h:=Uv)) (k:=Dn 19 (k:=?_))
                 refine an_in (b := true) rfl ?_
                 first
                 | refine an_lookupU Tryz.underlying91 Tryz.underlying5 ti3 rfl rfl rfl hlk1 rfl ?_
                 | refine an_lookupU Tryz.underlying91 Tryz.underlying5 ti3 rfl rfl rfl hlk2 rfl ?_
                 refine d_first 20 rfl rfl rfl (by kernel_rfl) (by kernel_rfl) (tl_in (b := true) rfl (tl_pv (pv_eql_same rfl rfl))) ?_
                 refine DP1 21 (k:=Dv 22 (k:=Dn 23 (k:=?_)))
                 refine an_in (b := true) rfl ?_
                 refine an_call1 BlobRuns_sp rfl rfl rfl ?_
                 refine d_first 24 rfl rfl rfl (by kernel_rfl) (by kernel_rfl) (tl_pv (pv_pick_b rfl rfl rfl)) ?_
                 refine Dv 25 (k:=Dd (k:=Ya (Zt (k:=?_))))
                 exact zb11ret27
               ·
                refine an_in (b := true) rfl ?_
                refine an_mkmapU rfl (fun b128 => ?_)
                refine d_next3 13 15 16 (by kernel_rfl) rfl rfl rfl ?_ ?_ ?_
                ·
                 refine an_in (b := true) rfl ?_
                 refine an_call1 hDp rfl rfl rfl ?_
                 refine d_next2 15 16 (by kernel_rfl) rfl rfl ?_ ?_
                 ·
                  refine an_in (b := true) rfl ?_
                  first
                  | refine an_insU (es := []) (k := 100) Tryz.underlying91 Tryz.underlying5 rfl rfl rfl rfl ?_
                  | refine an_insU (es := [] ++ [(102, .int .i64 0)]) (k := 100) Tryz.underlying91 Tryz.underlying5 rfl rfl rfl rfl ?_
                  refine Dn 16 (k:=?_)
                  refine an_in (b := true) rfl ?_
                  first
                  | refine an_insU (es := []) (k := 102) Tryz.underlying91 Tryz.underlying5 rfl rfl rfl rfl ?_
                  | refine an_insU (es := [] ++ [(100, .int .i64 1)]) (k := 102) Tryz.underlying91 Tryz.underlying5 rfl rfl rfl rfl ?_
                  refine Di 17 (t:=U1 (h:=Uv)) (k:=Dn 19 (k:=?_))
                  refine an_in (b := true) rfl ?_
                  first
                  | refine an_lookupU Tryz.underlying91 Tryz.underlying5 ti3 rfl rfl rfl hlk1 rfl ?_
                  | refine an_lookupU Tryz.underlying91 Tryz.underlying5 ti3 rfl rfl rfl hlk2 rfl ?_
                  refine d_first 20 rfl rfl rfl (by kernel_rfl) (by kernel_rfl) (tl_in (b := true) rfl (tl_pv (pv_eql_same rfl rfl))) ?_
                  refine DP1 21 (k:=Dv 22 (k:=Dn 23 (k:=?_)))
                  refine an_in (b := true) rfl ?_
                  refine an_call1 BlobRuns_sp rfl rfl rfl ?_
                  refine d_first 24 rfl rfl rfl (by kernel_rfl) (by kernel_rfl) (tl_pv (pv_pick_b rfl rfl rfl)) ?_
                  refine Dv 25 (k:=Dd (k:=Ya (Zt (k:=?_))))
                  exact zb11ret27
                 ·
                  refine an_in (b := true) rfl ?_
                  first
                  | refine an_insU (es := []) (k := 102) Tryz.underlying91 Tryz.underlying5 rfl rfl rfl rfl ?_
                  | refine an_insU (es := [] ++ [(100, .int .i64 1)]) (k := 102) Tryz.underlying91 Tryz.underlying5 rfl rfl rfl rfl ?_
                  refine Dn 15 (k:=?_)
                  refine an_in (b := true) rfl ?_
                  first
                  | refine an_insU (es := []) (k := 100) Tryz.underlying91 Tryz.underlying5 rfl rfl rfl rfl ?_
                  | refine an_insU (es := [] ++ [(102, .int .i64 0)]) (k := 100) Tryz.underlying91 Tryz.underlying5 rfl rfl rfl rfl ?_
                  refine Di 17 (t:=U1 (h:=Uv)) (k:=Dn 19 (k:=?_))
                  refine an_in (b := true) rfl ?_
                  first
                  | refine an_lookupU Tryz.underlying91 Tryz.underlying5 ti3 rfl rfl rfl hlk1 rfl ?_
                  | refine an_lookupU Tryz.underlying91 Tryz.underlying5 ti3 rfl rfl rfl hlk2 rfl ?_
                  refine d_first 20 rfl rfl rfl (by kernel_rfl) (by kernel_rfl) (tl_in (b := true) rfl (tl_pv (pv_eql_same rfl rfl))) ?_
                  refine DP1 21 (k:=Dv 22 (k:=Dn 23 (k:=?_)))
                  refine an_in (b := true) rfl ?_
                  refine an_call1 BlobRuns_sp rfl rfl rfl ?_
                  refine d_first 24 rfl rfl rfl (by kernel_rfl) (by kernel_rfl) (tl_pv (pv_pick_b rfl rfl rfl)) ?_
                  refine Dv 25 (k:=Dd (k:=Ya (Zt (k:=?_))))
                  exact zb11ret27
                ·
                 refine an_in (b := true) rfl ?_
                 first
                 | refine an_insU (es := []) (k := 100) Tryz.underlying91 Tryz.underlying5 rfl rfl rfl rfl ?_
                 | refine an_insU (es := [] ++ [(102, .int .i64 0)]) (k := 100) Tryz.underlying91 Tryz.underlying5 rfl rfl rfl rfl ?_
                 refine d_next2 13 16 (by kernel_rfl) rfl rfl ?_ ?_
                 ·
                  refine an_in (b := true) rfl ?_
                  refine an_call1 hDp rfl rfl rfl ?_
                  refine Dn 16 (k:=?_)
                  refine an_in (b := true) rfl ?_
                  first
                  | refine an_insU (es := []) (k := 102) Tryz.underlying91 Tryz.underlying5 rfl rfl rfl rfl ?_
                  | refine an_insU (es := [] ++ [(100, .int .i64 1)]) (k := 102) Tryz.underlying91 Tryz.underlying5 rfl rfl rfl rfl ?_
                  refine Di 17 (t:=U1 (h:=Uv)) (k:=Dn 19 (k:=?_))
                  refine an_in (b := true) rfl ?_
                  first
                  | refine an_lookupU Tryz.underlying91 Tryz.underlying5 ti3 rfl rfl rfl hlk1 rfl ?_
                  | refine an_lookupU Tryz.underlying91 Tryz.underlying5 ti3 rfl rfl rfl hlk2 rfl ?_
                  refine d_first 20 rfl rfl rfl (by kernel_rfl) (by kernel_rfl) (tl_in (b := true) rfl (tl_pv (pv_eql_same rfl rfl))) ?_
                  refine DP1 21 (k:=Dv 22 (k:=Dn 23 (k:=?_)))
                  refine an_in (b := true) rfl ?_
                  refine an_call1 BlobRuns_sp rfl rfl rfl ?_
                  refine d_first 24 rfl rfl rfl (by kernel_rfl) (by kernel_rfl) (tl_pv (pv_pick_b rfl rfl rfl)) ?_
                  refine Dv 25 (k:=Dd (k:=Ya (Zt (k:=?_))))
                  exact zb11ret27
                 ·
                  refine an_in (b := true) rfl ?_
                  first
                  | refine an_insU (es := []) (k := 102) Tryz.underlying91 Tryz.underlying5 rfl rfl rfl rfl ?_
                  | refine an_insU (es := [] ++ [(100, .int .i64 1)]) (k := 102) Tryz.underlying91 Tryz.underlying5 rfl rfl rfl rfl ?_
                  refine Di 17 (t:=U1 (h:=Uv)) (k:=?_)
                  refine d_next2 13 19 (by kernel_rfl) rfl rfl ?_ ?_
                  ·
                   refine an_in (b := true) rfl ?_
                   refine an_call1 hDp rfl rfl rfl ?_
                   refine Dn 19 (k:=?_)
                   refine an_in (b := true) rfl ?_
                   first
                   | refine an_lookupU Tryz.underlying91 Tryz.underlying5 ti3 rfl rfl rfl hlk1 rfl ?_
                   | refine an_lookupU Tryz.underlying91 Tryz.underlying5 ti3 rfl rfl rfl hlk2 rfl ?_
                   refine d_first 20 rfl rfl rfl (by kernel_rfl) (by kernel_rfl) (tl_in (b := true) rfl (tl_pv (pv_eql_same rfl rfl))) ?_
                   refine DP1 21 (k:=Dv 22 (k:=Dn 23 (k:=?_)))
                   refine an_in (b := true) rfl ?_
                   refine an_call1 BlobRuns_sp rfl rfl rfl ?_
                   refine d_first 24 rfl rfl rfl (by kernel_rfl) (by kernel_rfl) (tl_pv (pv_pick_b rfl rfl rfl)) ?_
                   refine Dv 25 (k:=Dd (k:=Ya (Zt (k:=?_))))
                   exact zb11ret27
                  ·
                   refine an_in (b := true) rfl ?_
                   first
                   | refine an_lookupU Tryz.underlying91 Tryz.underlying5 ti3 rfl rfl rfl hlk1 rfl ?_
                   | refine an_lookupU Tryz.underlying91 Tryz.underlying5 ti3 rfl rfl rfl hlk2 rfl ?_
                   refine Dn 13 (k:=?_)
                   refine an_in (b := true) rfl ?_
                   refine an_call1 hDp rfl rfl rfl ?_
                   refine d_first 20 rfl rfl rfl (by kernel_rfl) (by kernel_rfl) (tl_in (b := true) rfl (tl_pv (pv_eql_same rfl rfl))) ?_
                   refine DP1 21 (k:=Dv 22 (k:=Dn 23 (k:=?_)))
                   refine an_in (b := true) rfl ?_
                   refine an_call1 BlobRuns_sp rfl rfl rfl ?_
                   refine d_first 24 rfl rfl rfl (by kernel_rfl) (by kernel_rfl) (tl_pv (pv_pick_b rfl rfl rfl)) ?_
                   refine Dv 25 (k:=Dd (k:=Ya (Zt (k:=?_))))
                   exact zb11ret27
                ·
                 refine an_in (b := true) rfl ?_
                 first
                 | refine an_insU (es := []) (k := 102) Tryz.underlying91 Tryz.underlying5 rfl rfl rfl rfl ?_
                 | refine an_insU (es := [] ++ [(100, .int .i64 1)]) (k := 102) Tryz.underlying91 Tryz.underlying5 rfl rfl rfl rfl ?_
                 refine d_next2 13 15 (by kernel_rfl) rfl rfl ?_ ?_
                 ·
                  refine an_in (b := true) rfl ?_
                  refine an_call1 hDp rfl rfl rfl ?_
                  refine Dn 15 (k:=?_)
                  refine an_in (b := true) rfl ?_
                  first
                  | refine an_insU (es := []) (k := 100) Tryz.underlying91 Tryz.underlying5 rfl rfl rfl rfl ?_
                  | refine an_insU (es := [] ++ [(102, .int .i64 0)]) (k := 100) Tryz.underlying91 Tryz.underlying5 rfl rfl rfl rfl ?_
                  refine Di 17 (t:=U1 (h:=Uv)) (k:=Dn 19 (k:=?_))
                  refine an_in (b := true) rfl ?_
                  first
                  | refine an_lookupU Tryz.underlying91 Tryz.underlying5 ti3 rfl rfl rfl hlk1 rfl ?_
                  | refine an_lookupU Tryz.underlying91 Tryz.underlying5 ti3 rfl rfl rfl hlk2 rfl ?_
                  refine d_first 20 rfl rfl rfl (by kernel_rfl) (by kernel_rfl) (tl_in (b := true) rfl (tl_pv (pv_eql_same rfl rfl))) ?_
                  refine DP1 21 (k:=Dv 22 (k:=Dn 23 (k:=?_)))
                  refine an_in (b := true) rfl ?_
                  refine an_call1 BlobRuns_sp rfl rfl rfl ?_
                  refine d_first 24 rfl rfl rfl (by kernel_rfl) (by kernel_rfl) (tl_pv (pv_pick_b rfl rfl rfl)) ?_
                  refine Dv 25 (k:=Dd (k:=Ya (Zt (k:=?_))))
                  exact zb11ret27
                 ·
                  refine an_in (b := true) rfl ?_
                  first
                  | refine an_insU (es := []) (k := 100) Tryz.underlying91 Tryz.underlying5 rfl rfl rfl rfl ?_
                  | refine an_insU (es := [] ++ [(102, .int .i64 0)]) (k := 100) Tryz.underlying91 Tryz.underlying5 rfl rfl rfl rfl ?_
                  refine Di 17 (t:=U1 (h:=Uv)) (k:=?_)
                  refine d_next2 13 19 (by kernel_rfl) rfl rfl ?_ ?_
                  ·
                   refine an_in (b := true) rfl ?_
                   refine an_call1 hDp rfl rfl rfl ?_
                   refine Dn 19 (k:=?_)
                   refine an_in (b := true) rfl ?_
                   first
                   | refine an_lookupU Tryz.underlying91 Tryz.underlying5 ti3 rfl rfl rfl hlk1 rfl ?_
                   | refine an_lookupU Tryz.underlying91 Tryz.underlying5 ti3 rfl rfl rfl hlk2 rfl ?_
                   refine d_first 20 rfl rfl rfl (by kernel_rfl) (by kernel_rfl) (tl_in (b := true) rfl (tl_pv (pv_eql_same rfl rfl))) ?_
                   refine DP1 21 (k:=Dv 22 (k:=Dn 23 (k:=?_)))
                   refine an_in (b := true) rfl ?_
                   refine an_call1 BlobRuns_sp rfl rfl rfl ?_
                   refine d_first 24 rfl rfl rfl (by kernel_rfl) (by kernel_rfl) (tl_pv (pv_pick_b rfl rfl rfl)) ?_
                   refine Dv 25 (k:=Dd (k:=Ya (Zt (k:=?_))))
                   exact zb11ret27
                  ·
                   refine an_in (b := true) rfl ?_
                   first
                   | refine an_lookupU Tryz.underlying91 Tryz.underlying5 ti3 rfl rfl rfl hlk1 rfl ?_
                   | refine an_lookupU Tryz.underlying91 Tryz.underlying5 ti3 rfl rfl rfl hlk2 rfl ?_
                   refine Dn 13 (k:=?_)
                   refine an_in (b := true) rfl ?_
                   refine an_call1 hDp rfl rfl rfl ?_
                   refine d_first 20 rfl rfl rfl (by kernel_rfl) (by kernel_rfl) (tl_in (b := true) rfl (tl_pv (pv_eql_same rfl rfl))) ?_
                   refine DP1 21 (k:=Dv 22 (k:=Dn 23 (k:=?_)))
                   refine an_in (b := true) rfl ?_
                   refine an_call1 BlobRuns_sp rfl rfl rfl ?_
                   refine d_first 24 rfl rfl rfl (by kernel_rfl) (by kernel_rfl) (tl_pv (pv_pick_b rfl rfl rfl)) ?_
                   refine Dv 25 (k:=Dd (k:=Ya (Zt (k:=?_))))
                   exact zb11ret27
              ·
               first | cases h124 | exact absurd rfl h124
               --done
             ·
              first | cases h120 | exact absurd rfl h120
              --done
            ·
             first | cases h115 | exact absurd rfl h115
             --done
       ·
        refine Qc (k:=Vv (k:=?_))
        refine r_callF hW rfl rfl rfl ?_
        refine Wq (Zb (k:=Qc (k:=Qv (k:=Wq (Zi (t:=fun h67 => ?_) (f:=fun h67 => ?_))))))
        ·
         refine Zr (k:=?_)
         refine r_callF hS2 rfl rfl rfl ?_
         refine Qv (k:=Wn (Yb ?_))
         exact zb11join23
        ·
         refine Qc (k:=Qv (k:=Wq (Zi (t:=fun h70 => ?_) (f:=fun h70 => ?_))))
         ·
          refine Zr (k:=Qv (k:=Vv (k:=Wn (Yb ?_))))
          exact zb11join23
         ·
          refine Qc (k:=Qv (k:=Wq (Zi (t:=fun h73 => ?_) (f:=fun h73 => ?_))))
          ·
           refine Zr (k:=?_)
           refine r_callF hS3 rfl rfl rfl ?_
           refine Qv (k:=Vv (k:=Wn (Yb ?_)))
           exact zb11join23
          ·
           refine Qc (k:=Qv (k:=Wq (Zi (t:=fun h76 => ?_) (f:=fun h76 => ?_))))
           ·
            refine Zr (k:=Qv (k:=Wn (Yb ?_)))
            exact zb11join23
           ·
            refine Zk (k:=Yb ?_)
            exact zb11join23
end
/-- A list of whole numbers in memory. -/
structure IntsV where
 a : Option Addr
 c : Nat
 l : List Int
def IntsV.cell (x : IntsV) : Value := .slice x.a x.l.length x.c
def IntsV.ok (w : World) (x : IntsV) : Prop := x.l.length ≤ 9223372036854775807 ∧ At w (SlI x.a (x.l.map vI))
theorem ints_of {H : Type} {enc : TypeId × Value → H} {w : World} {spare : Nat → Bool} {held : Bool} {fuel : Nat} {cs : List Value} {x : DataW H × List MemPlace}
    (h : DataW.trod enc Tryz.prog w 0 spare held fuel 37 cs = some x) : ∃ q : IntsV, cs = [q.cell] ∧ q.ok w := by
 have ei : Tryz.prog.cellsOf 3 = 1 := by kernel_rfl
 obtain ⟨a, k, l, g, b, s, _⟩ := od_ints Tryz.underlying37 Tryz.underlying3 (by rw [ei]; decide) h
 exact ⟨⟨a, k, l⟩, g, b, s⟩
theorem keepText_of {H : Type} {enc : TypeId × Value → H} {w : World} {spare : Nat → Bool} {held : Bool} {fuel : Nat} {cs : List Value} {x : DataW H × List MemPlace}
    (h : DataW.trod enc Tryz.prog w 0 spare held fuel 39 cs = some x) : ∃ (b : Int) (q : IntsV), cs = [vI b, q.cell] ∧ q.ok w := by
 have hl := od_len Tryz.underlying39 h
 have e2 : Tryz.prog.cellsOf 39 = 2 := by kernel_rfl
 have ei : Tryz.prog.cellsOf 3 = 1 := by kernel_rfl
 have es : Tryz.prog.cellsOf 37 = 1 := by kernel_rfl
 rw [e2] at hl
 obtain ⟨m0, y0, f0⟩ := od_field Tryz.underlying39 h 0 3 0 1 rfl ei
 obtain ⟨m1, y1, f1⟩ := od_field Tryz.underlying39 h 1 37 1 1 rfl es
 match cs, hl with
 | [c0, c1], _ =>
   simp only [List.drop_zero, List.drop_succ_cons, List.take_succ_cons, List.take_zero] at f0 f1
   obtain ⟨n0, g0, _, _⟩ := DataW.trod_int Tryz.underlying3 f0
   obtain ⟨q, g1, hq⟩ := ints_of f1
   cases g0; cases g1
   exact ⟨n0, q, rfl, hq⟩
end Go.Proofs.YtibccdcemcgkeaaGreat
