/- Texts of this proof, put together: LawTagsMore. -/
import Derived.Test.YtomgdbanbpjedaaGreatQ22
set_option linter.unusedVariables false
set_option linter.unusedSimpArgs false
namespace Go.Proofs.YtomgdbanbpjedaaGreat
section
set_option maxRecDepth 100000
def lastM (d e : Int) : Bs := if e < d then [107] else [108]
theorem more_ok {d e : Int} {k : UInt8} {drop : Bool} (hk : k = 43 ∨ k = 45) (hkd : drop = decide (k = 45)) {y : Option Tgd} (hy : y = if e < d then some ⟨[116], moX, [107], [107], false, true⟩ else if k = 45 then none else some ⟨[116], moX, [], [108], false, true⟩) :
    (y.isSome = (decide (lastM d e = [107]) || !drop)) ∧ (y.isSome = true → (y.getD tgd0).source = lastM d e ∧ (y.getD tgd0).own = true ∧ (y.getD tgd0).spread = false) := by
 subst hy
 unfold lastM
 by_cases c : e < d
 · simp [c]
 · rcases hk with rfl | rfl <;> simp [c, hkd]
theorem zb7ret {G : Prop} (h : G := by exact fin_ret () (vs := [_]) (Cs := []) rfl (.tmp rfl .nil) rfl trivial ent_nil) : G := h
theorem zb7join16 {G : Prop} (h : G := by
    first
    | exact to_inv () trivial ⟨rfl, rfl, rfl, rfl, rfl, rfl, rfl, rfl, vS_eq (by rw [lastM, if_pos (by omega)]), trivial⟩ ent_pick
    | exact to_inv () trivial ⟨rfl, rfl, rfl, rfl, rfl, rfl, rfl, rfl, vS_eq (by rw [lastM, if_neg (by omega)]), trivial⟩ ent_pick) : G := h
theorem zb7join8 {G : Prop} (h : G := by
    first
    | exact to_inv ⟨(b30, [([107], vS (ctB (moK d))), ([108], vS (ctB (moM e k)))]), pm12 _ _⟩ trivial ⟨rfl, rfl, rfl, rfl, rfl, rfl, trivial⟩ (by rw [mput2 (by decide)]; exact ent_pick)
    | exact to_inv ⟨(b30, [([108], vS (ctB (moM e k))), ([107], vS (ctB (moK d)))]), pm21 _ _⟩ trivial ⟨rfl, rfl, rfl, rfl, rfl, rfl, trivial⟩ (by rw [mput2 (by decide)]; exact ent_pick)) : G := h
theorem zb7join7 {G : Prop} (h : G := by
    first
    | (have hdt : drop = true := by assumption
       subst hdt
       exact to_inv ⟨45, .inr rfl, rfl⟩ trivial ⟨rfl, rfl, rfl, rfl, rfl, rfl, trivial⟩ ent_nil)
    | (have hdf : drop = false := by assumption
       subst hdf
       exact to_inv ⟨43, .inl rfl, rfl⟩ trivial ⟨rfl, rfl, rfl, rfl, rfl, rfl, trivial⟩ ent_nil)) : G := h
set_option maxHeartbeats 8000000 in
theorem TagsMore_sp (date other : Int) (drop : Bool) : Sp1 Tryz.prog 7 [vI date, vI other, vB drop] [] (vB true) [] := by
 have hD := withinI_in (n := date) (lo := 0) (hi := 9) (by omega)
 have hE := withinI_in (n := other) (lo := 0) (hi := 9) (by omega)
 have hWd := book_Within_sp date 0 9 (by omega) (by omega) (by omega)
 have hWe := book_Within_sp other 0 9 (by omega) (by omega) (by omega)
 generalize withinI date 0 9 = d at hD hWd
 generalize withinI other 0 9 = e at hE hWe
 have hA := ref10_me_sp (Bt := SlI none []) none 0 none 0 moC_right (Nat.le_refl _) sla_sli
 rw [show ckB (ckMe [] [] me 0) = moC from rfl] at hA
 simp only [List.map_nil, List.length_nil] at hA
 have lA := ckB_len moC_right
 have hX := ref1_Sum_sp moC (by show (ckB (ckMe [] [] me 0)).length ≤ _; omega)
 rw [show shaB moC = moX from rfl] at hX
 refine Sp.body (n := 126) Tryz.call7 Tryz.func7 rfl rfl rfl ?_
 refine Qc (k:=Vv (k:=Wq (Qc (k:=Vx (Ps [vS [], vS [], .int .i64 0, .slice none 0 0, .slice none 0 0, .slice none 0 0, _]) (k:=?_)))))
 refine wo_ent' sli_nil ?_
 refine r_call1 hA rfl rfl rfl ?_
 refine Vv (k:=Wq (Qc (k:=Vv (k:=?_))))
 refine r_callF hX rfl rfl rfl ?_
 refine Vv (k:=Wq (Qc (k:=Vv (k:=?_))))
 refine r_callF hWd rfl rfl rfl ?_
 refine Vv (k:=?_)
 refine r_callF hWe rfl rfl rfl ?_
 refine Qv (k:=Wq (Qc (k:=Vv (k:=Wq ?_))))
 refine p_cut (fun (k : { k : UInt8 // (k = 43 ∨ k = 45) ∧ drop = decide (k = 45) }) => [(2, vB drop), (7, vS moC), (8, vS moX), (9, vI d), (10, vI e), (11, vS [k.1])]) (fun (k : { k : UInt8 // (k = 43 ∨ k = 45) ∧ drop = decide (k = 45) }) => []) rfl (fun k => ?_) ?_
 ·
  obtain ⟨k, hk, hkd⟩ := k
  dsimp only
  have hC1 := fun b => ref10_ct_sp (Bt := Ce b 27 [.int .u8 43, vS [116], vS moX, vS [107]]) (some ⟨b, 0, none⟩) 1 (moK_right hD) sla_ce (tgZ_one (k := 43) (nm := [116]) (tgt := moX) (v := [107]) (by decide) (Nat.le_of_eq moX_len) (by decide))
  have hC2 := fun b => ref10_ct_sp (Bt := Ce b 27 [vU k.toNat, vS [116], vS moX, vS []]) (some ⟨b, 0, none⟩) 1 (moM_right hE hk) sla_ce (tgZ_one (k := k) (nm := [116]) (tgt := moX) (v := []) (by decide) (Nat.le_of_eq moX_len) (by decide))
  try dsimp only
  refine p_cut (fun (x : { x : Nat × Ks // x.2.Perm ((moL d e k).map fun p => (p.1, vS p.2)) }) => [(2, vB drop), (7, vS moC), (8, vS moX), (9, vI d), (10, vI e), (12, .map (some x.1.1))]) (fun (x : { x : Nat × Ks // x.2.Perm ((moL d e k).map fun p => (p.1, vS p.2)) }) => [MapS x.1.1 x.1.2]) rfl (fun x => ?_) ?_
  ·
   obtain ⟨⟨m, K⟩, hp⟩ := x
   dsimp only at hp ⊢
   have hh := mo_held hD hE hk hp
   have h2 := mo_held2 hh
   have ok1 := mo_ok hD hE hk hh
   have ok2 := mo_ok2 hD hE hk h2
   have hl1 : K.length = 2 := hh.len
   have hl2 : (mput K moX (vS moC)).length = 3 := h2.len
   have hDr := tags_Direct_sp m K hh.txt (by omega) [116] moX _ ok1.said.symm
   have hOe := tags_Of_sp m K hh.txt hh.knd (by omega) [116] moX _ ok1.early.symm
   have hTb := tags_Table_sp m K hh.txt hh.knd (by omega)
   rw [ok1.none] at hTb
   obtain ⟨y, hy⟩ : ∃ y, y = ofT (cksL (mput K moX (vS moC))) (lastL (mput K moX (vS moC))) [116] moX := ⟨_, rfl⟩
   have hOf := tags_Of_sp m _ h2.txt h2.knd (by omega) [116] moX y hy
   have hNm := tags_Names_sp m _ h2.txt (by omega)
   rw [ok2.n] at hNm
   rw [ok2.of] at hy
   obtain ⟨hm1, hm2⟩ := more_ok hk hkd hy
   clear hy
   obtain ⟨H, hH⟩ : ∃ H, H = mput K moX (vS moC) := ⟨_, rfl⟩
   rw [← hH] at hOf hNm
   have hsrc : (if d ≤ e then moSl e k else moSk d).src = lastM d e := by
    unfold lastM
    by_cases c : e < d
    · rw [if_neg (by omega), if_pos c]; rfl
    · rw [if_pos (by omega), if_neg c]; rfl
   generalize (if d ≤ e then moSl e k else moSk d) = z1 at hDr hsrc
   obtain ⟨⟨zk, zn, zt, zv⟩, zd, zs⟩ := z1
   dsimp only [Option.getD_some, Option.isSome_some] at hDr hsrc
   subst hsrc
   generalize y.getD tgd0 = z2 at hOf hm2
   generalize y.isSome = ok at hOf hm1 hm2
   obtain ⟨g1, g2, g3, g4, g5, g6⟩ := z2
   dsimp only at hm2
   have hwd : (moC).length ≤ 10043 := lA
   try dsimp only
   refine Qc (k:=Qv (k:=?_))
   refine r_call1 hDr rfl rfl rfl ?_
   refine Vv (k:=?_)
   refine wo_pv (pv_extract (v := .agg #[vU zk.toNat, vS zn, vS zt, vS zv, vI zd, vS (lastM d e)]) rfl rfl) rfl ?_
   refine wo_pv (pv_extract (v := vB true) rfl rfl) rfl ?_
   refine Zc [.int .u8 0, vS [], vS [], vS [], .int .i64 0, vS []] (k:=fun b13 => Zp (k:=Vv (k:=Wq (Qc (k:=Qv (k:=?_))))))
   refine r_call1 hOe rfl rfl rfl ?_
   refine Vv (k:=?_)
   refine wo_pv (pv_extract (v := .agg #[vS [], vS [], vS [], vS [], .bool false, .bool false]) rfl rfl) rfl ?_
   refine wo_pv (pv_extract (v := vB false) rfl rfl) rfl ?_
   refine Zc [vS [], vS [], vS [], vS [], .bool false, .bool false] (k:=fun b15 => Zp (k:=Vv (k:=Wq (Qc (k:=Vv (k:=?_))))))
   refine r_callX hTb rfl rfl rfl (fun x59 _ => ?_)
   refine Qv (k:=Wq (Qc (k:=Qv (k:=Vv (k:=?_)))))
   refine r_mapUpdate Tryz.underlying22 Tryz.underlying9 rfl rfl rfl ?_
   rw [← hH]
   refine Wq (Qc (k:=Qv (k:=?_)))
   refine r_call1 hOf rfl rfl rfl ?_
   refine Vv (k:=?_)
   refine wo_pv (pv_extract (v := .agg #[vS g1, vS g2, vS g3, vS g4, .bool g5, .bool g6]) rfl rfl) rfl ?_
   refine wo_pv (pv_extract (v := vB ok) rfl rfl) rfl ?_
   refine Zc [vS [], vS [], vS [], vS [], .bool false, .bool false] (k:=fun b18 => Zp (k:=Vv (k:=Wq (Qc (k:=Vv (k:=Wq ?_))))))
   refine p_cut (fun (_ : Unit) => [(2, vB drop), (12, .map (some m)), (13, .pointer (some ⟨b13, 0, none⟩)), (14, vB true), (16, vB false), (17, vI (0 : Nat)), (18, .pointer (some ⟨b18, 0, none⟩)), (19, vB ok), (20, vS (lastM d e))]) (fun (_ : Unit) => [Ce b13 56 [vU zk.toNat, vS zn, vS zt, vS zv, vI zd, vS (lastM d e)], Ce b18 33 [vS g1, vS g2, vS g3, vS g4, .bool g5, .bool g6], MapS m H]) rfl (fun _ => ?_) ?_
   ·
    try dsimp only
    refine Qc (k:=Qv (k:=Gi 1 (t:=fun h74 => ?_) (f:=fun h74 => ?_)))
    ·
     refine I1 (k:=Vf 5 9 (k:=I1 (k:=Zd (k:=J1 (k:=J1 (k:=P1 (k:=Vv (k:=Gi 7 (t:=fun h80 => ?_) (f:=fun h80 => ?_)))))))))
     ·
      refine J1 (k:=J1 (k:=P1 (k:=Vv (k:=Gi 11 (t:=fun h84 => ?_) (f:=fun h84 => ?_)))))
      ·
       refine J1 (k:=J1 (k:=P1 (k:=Vv (k:=Gi 15 (t:=fun h88 => ?_) (f:=fun h88 => ?_)))))
       ·
        refine J1 (k:=J1 (k:=J1 (k:=J1 (k:=Gi 19 (t:=fun h92 => ?_) (f:=fun h92 => ?_)))))
        ·
         refine O1 (k:=O1 (k:=I1 (k:=P1 (k:=I1 (k:=?_)))))
         refine wo_pv (pv_beql Tryz.underlying4 rfl rfl) rfl ?_
         refine P1 (k:=Vv (k:=Gi 25 (t:=fun h98 => ?_) (f:=fun h98 => ?_)))
         ·
          refine J1 (k:=J1 (k:=J1 (k:=Gi 28 (t:=fun h101 => ?_) (f:=fun h101 => ?_))))
          ·
           refine O1 (k:=O1 (k:=O1 (k:=O1 (k:=O1 (k:=Ou (k:=Ou (k:=O1 (k:=O1 (k:=Ou (k:=Ou (k:=Ou (k:=?_))))))))))))
           refine O1 (k:=I1 (k:=P1 (k:=P1 (k:=Vv (k:=J1 (k:=I1 (k:=?_)))))))
           refine r_callX hNm rfl rfl rfl (fun x119 _ => ?_)
           refine J1 (k:=J1 (k:=P1 (k:=Vv (k:=Gi 50 (t:=fun h123 => ?_) (f:=fun h123 => ?_)))))
           ·
            refine I1 (k:=?_)
            refine r_call1 TagsRuns_sp rfl rfl rfl ?_
            refine P1 (k:=Vv (k:=Wq (Zt (k:=?_))))
            exact zb7ret
           ·
            exact absurd rfl h123
            --done
          ·
           refine I0 (k:=Vf 3 9 (k:=I0 (k:=Zd (k:=J0 (k:=J0 (k:=J0 (k:=Gi 33 (t:=fun h106 => ?_) (f:=fun h106 => ?_))))))))
           ·
            refine I1 (k:=Vf 5 4 (k:=I1 (k:=Zd (k:=I0 (k:=P1 (k:=J0 (k:=Gi 37 (t:=fun h110 => ?_) (f:=fun h110 => ?_))))))))
            ·
             refine I1 (k:=Vf 4 4 (k:=I1 (k:=Zd (k:=J1 (k:=I0 (k:=P1 (k:=I1 (k:=P0 (k:=P1 (k:=Vv (k:=?_)))))))))))
             refine Gi 44 (t:=fun h117 => ?_) (f:=fun h117 => ?_)
             ·
              refine J1 (k:=I1 (k:=?_))
              refine r_callX hNm rfl rfl rfl (fun x119 _ => ?_)
              refine J1 (k:=J1 (k:=P1 (k:=Vv (k:=Gi 50 (t:=fun h123 => ?_) (f:=fun h123 => ?_)))))
              ·
               refine I1 (k:=?_)
               refine r_call1 TagsRuns_sp rfl rfl rfl ?_
               refine P1 (k:=Vv (k:=Wq (Zt (k:=?_))))
               exact zb7ret
              ·
               exact absurd rfl h123
               --done
             ·
              exfalso
              have := (hm2 (by simpa using h101)).2.2
              rw [this] at h117; cases h117
              --done
            ·
             exfalso
             have := (hm2 (by simpa using h101)).2.1
             rw [this] at h110; cases h110
             --done
           ·
            exact absurd (hm2 (by simpa using h101)).1 h106
            --done
         ·
          exfalso
          rw [hm1] at h98
          simp_all
          --done
        ·
         refine J0 (k:=J0 (k:=I1 (k:=P0 (k:=I1 (k:=?_)))))
         refine wo_pv (pv_beql Tryz.underlying4 rfl rfl) rfl ?_
         refine P1 (k:=Vv (k:=Gi 25 (t:=fun h98 => ?_) (f:=fun h98 => ?_)))
         ·
          refine J1 (k:=J1 (k:=J1 (k:=Gi 28 (t:=fun h101 => ?_) (f:=fun h101 => ?_))))
          ·
           refine O1 (k:=O1 (k:=O1 (k:=O1 (k:=O1 (k:=Ou (k:=Ou (k:=O1 (k:=O1 (k:=Ou (k:=Ou (k:=Ou (k:=?_))))))))))))
           refine O1 (k:=I1 (k:=P1 (k:=P1 (k:=Vv (k:=J1 (k:=I1 (k:=?_)))))))
           refine r_callX hNm rfl rfl rfl (fun x119 _ => ?_)
           refine J1 (k:=J1 (k:=P1 (k:=Vv (k:=Gi 50 (t:=fun h123 => ?_) (f:=fun h123 => ?_)))))
           ·
            refine I1 (k:=?_)
            refine r_call1 TagsRuns_sp rfl rfl rfl ?_
            refine P1 (k:=Vv (k:=Wq (Zt (k:=?_))))
            exact zb7ret
           ·
            exact absurd rfl h123
            --done
          ·
           refine I0 (k:=Vf 3 9 (k:=I0 (k:=Zd (k:=J0 (k:=J0 (k:=J0 (k:=Gi 33 (t:=fun h106 => ?_) (f:=fun h106 => ?_))))))))
           ·
            refine I1 (k:=Vf 5 4 (k:=I1 (k:=Zd (k:=I0 (k:=P1 (k:=J0 (k:=Gi 37 (t:=fun h110 => ?_) (f:=fun h110 => ?_))))))))
            ·
             refine I1 (k:=Vf 4 4 (k:=I1 (k:=Zd (k:=J1 (k:=I0 (k:=P1 (k:=I1 (k:=P0 (k:=P1 (k:=Vv (k:=?_)))))))))))
             refine Gi 44 (t:=fun h117 => ?_) (f:=fun h117 => ?_)
             ·
              refine J1 (k:=I1 (k:=?_))
              refine r_callX hNm rfl rfl rfl (fun x119 _ => ?_)
              refine J1 (k:=J1 (k:=P1 (k:=Vv (k:=Gi 50 (t:=fun h123 => ?_) (f:=fun h123 => ?_)))))
              ·
               refine I1 (k:=?_)
               refine r_call1 TagsRuns_sp rfl rfl rfl ?_
               refine P1 (k:=Vv (k:=Wq (Zt (k:=?_))))
               exact zb7ret
              ·
               exact absurd rfl h123
               --done
             ·
              exfalso
              have := (hm2 (by simpa using h101)).2.2
              rw [this] at h117; cases h117
              --done
            ·
             exfalso
             have := (hm2 (by simpa using h101)).2.1
             rw [this] at h110; cases h110
             --done
           ·
            exact absurd (hm2 (by simpa using h101)).1 h106
            --done
         ·
          exfalso
          rw [hm1] at h98
          simp_all
          --done
       ·
        first | cases h88 | exact absurd rfl h88
        --done
      ·
       first | cases h84 | exact absurd rfl h84
       --done
     ·
      exact absurd rfl h80
      --done
    ·
     first | cases h74 | exact absurd rfl h74
     --done
   ·
    refine Qc (k:=Qv (k:=Vv (k:=Wq (Zi (t:=fun h72 => ?_) (f:=fun h72 => ?_)))))
    ·
     refine Zr (k:=Vv (k:=Wn ?_))
     exact zb7join16
    ·
     refine Zk (k:=?_)
     exact zb7join16
  ·
   refine Dw [] (k:=?_)
   refine Dv 1 (k:=Dv 2 (k:=Di 3 (t:=Ux (Ps [_, _, _, _])) (k:=Dv 8 (k:=Dv 9 (k:=?_)))))
   refine d_first 10 rfl rfl rfl (by kernel_rfl) (by kernel_rfl) (tl_pv (show PV _ _ _ _ _ (vU (k.toNat : Int)) from pv_indexm (l := [k]) (m := 0) Tryz.underlying9 rfl rfl rfl (by simp))) ?_
   refine Dv 11 (k:=Di 12 (t:=Ux (Ps [_, _, _, vS []])) (k:=?_))
   refine d_next3 0 4 13 (by kernel_rfl) rfl rfl rfl ?_ ?_ ?_
   ·
    refine an_mkmap rfl (fun b30 => ?_)
    refine d_next2 4 13 (by kernel_rfl) rfl rfl ?_ ?_
    ·
     refine Nl [_] (cs := [_, _, _, _]) (k:=fun b34 => Di 5 (t:=Ux (Ps [_, _, _])) (k:=?_))
     refine d_next2 6 13 (by kernel_rfl) rfl rfl ?_ ?_
     ·
      refine an_call1 (hC1 b34) rfl rfl rfl ?_
      refine d_next2 7 13 (by kernel_rfl) rfl rfl ?_ ?_
      ·
       refine an_insert Tryz.underlying22 Tryz.underlying9 rfl rfl rfl ?_
       refine Dn 13 (k:=Nl [_] (cs := [_, _, _, _]) (k:=fun b42 => Di 14 (t:=Ux (Ps [_, _, _])) (k:=Dn 15 (k:=?_))))
       refine an_call1 (hC2 b42) rfl rfl rfl ?_
       refine Dn 16 (k:=?_)
       refine an_insert Tryz.underlying22 Tryz.underlying9 rfl rfl rfl ?_
       refine Dv 17 (k:=Dv 18 (k:=Dd (k:=?_)))
       exact zb7join8
      ·
       refine Nl [_] (cs := [_, _, _, _]) (k:=fun b42 => Di 14 (t:=Ux (Ps [_, _, _])) (k:=?_))
       refine d_next2 7 15 (by kernel_rfl) rfl rfl ?_ ?_
       ·
        refine an_insert Tryz.underlying22 Tryz.underlying9 rfl rfl rfl ?_
        refine Dn 15 (k:=?_)
        refine an_call1 (hC2 b42) rfl rfl rfl ?_
        refine Dn 16 (k:=?_)
        refine an_insert Tryz.underlying22 Tryz.underlying9 rfl rfl rfl ?_
        refine Dv 17 (k:=Dv 18 (k:=Dd (k:=?_)))
        exact zb7join8
       ·
        refine an_call1 (hC2 b42) rfl rfl rfl ?_
        refine d_next2 7 16 (by kernel_rfl) rfl rfl ?_ ?_
        ·
         refine an_insert Tryz.underlying22 Tryz.underlying9 rfl rfl rfl ?_
         refine Dn 16 (k:=?_)
         refine an_insert Tryz.underlying22 Tryz.underlying9 rfl rfl rfl ?_
         refine Dv 17 (k:=Dv 18 (k:=Dd (k:=?_)))
         exact zb7join8
        ·
         refine an_insert Tryz.underlying22 Tryz.underlying9 rfl rfl rfl ?_
         refine Dn 7 (k:=?_)
         refine an_insert Tryz.underlying22 Tryz.underlying9 rfl rfl rfl ?_
         refine Dv 17 (k:=Dv 18 (k:=Dd (k:=?_)))
         exact zb7join8
     ·
      refine Nl [_] (cs := [_, _, _, _]) (k:=fun b42 => Di 14 (t:=Ux (Ps [_, _, _])) (k:=Dn 6 (k:=?_)))
      refine an_call1 (hC1 b34) rfl rfl rfl ?_
      refine d_next2 7 15 (by kernel_rfl) rfl rfl ?_ ?_
      ·
       refine an_insert Tryz.underlying22 Tryz.underlying9 rfl rfl rfl ?_
       refine Dn 15 (k:=?_)
       refine an_call1 (hC2 b42) rfl rfl rfl ?_
       refine Dn 16 (k:=?_)
       refine an_insert Tryz.underlying22 Tryz.underlying9 rfl rfl rfl ?_
       refine Dv 17 (k:=Dv 18 (k:=Dd (k:=?_)))
       exact zb7join8
      ·
       refine an_call1 (hC2 b42) rfl rfl rfl ?_
       refine d_next2 7 16 (by kernel_rfl) rfl rfl ?_ ?_
       ·
        refine an_insert Tryz.underlying22 Tryz.underlying9 rfl rfl rfl ?_
        refine Dn 16 (k:=?_)
        refine an_insert Tryz.underlying22 Tryz.underlying9 rfl rfl rfl ?_
        refine Dv 17 (k:=Dv 18 (k:=Dd (k:=?_)))
        exact zb7join8
       ·
        refine an_insert Tryz.underlying22 Tryz.underlying9 rfl rfl rfl ?_
        refine Dn 7 (k:=?_)
        refine an_insert Tryz.underlying22 Tryz.underlying9 rfl rfl rfl ?_
        refine Dv 17 (k:=Dv 18 (k:=Dd (k:=?_)))
        exact zb7join8
    ·
     refine Nl [_] (cs := [_, _, _, _]) (k:=fun b42 => Di 14 (t:=Ux (Ps [_, _, _])) (k:=Dn 4 (k:=Nl [_] (cs := [_, _, _, _]) (k:=fun b34 => Di 5 (t:=Ux (Ps [_, _, _])) (k:=Dn 6 (k:=?_))))))
     refine an_call1 (hC1 b34) rfl rfl rfl ?_
     refine d_next2 7 15 (by kernel_rfl) rfl rfl ?_ ?_
     ·
      refine an_insert Tryz.underlying22 Tryz.underlying9 rfl rfl rfl ?_
      refine Dn 15 (k:=?_)
      refine an_call1 (hC2 b42) rfl rfl rfl ?_
      refine Dn 16 (k:=?_)
      refine an_insert Tryz.underlying22 Tryz.underlying9 rfl rfl rfl ?_
      refine Dv 17 (k:=Dv 18 (k:=Dd (k:=?_)))
      exact zb7join8
     ·
      refine an_call1 (hC2 b42) rfl rfl rfl ?_
      refine d_next2 7 16 (by kernel_rfl) rfl rfl ?_ ?_
      ·
       refine an_insert Tryz.underlying22 Tryz.underlying9 rfl rfl rfl ?_
       refine Dn 16 (k:=?_)
       refine an_insert Tryz.underlying22 Tryz.underlying9 rfl rfl rfl ?_
       refine Dv 17 (k:=Dv 18 (k:=Dd (k:=?_)))
       exact zb7join8
      ·
       refine an_insert Tryz.underlying22 Tryz.underlying9 rfl rfl rfl ?_
       refine Dn 7 (k:=?_)
       refine an_insert Tryz.underlying22 Tryz.underlying9 rfl rfl rfl ?_
       refine Dv 17 (k:=Dv 18 (k:=Dd (k:=?_)))
       exact zb7join8
   ·
    refine Nl [_] (cs := [_, _, _, _]) (k:=fun b34 => Di 5 (t:=Ux (Ps [_, _, _])) (k:=?_))
    refine d_next3 0 6 13 (by kernel_rfl) rfl rfl rfl ?_ ?_ ?_
    ·
     refine an_mkmap rfl (fun b30 => ?_)
     refine d_next2 6 13 (by kernel_rfl) rfl rfl ?_ ?_
     ·
      refine an_call1 (hC1 b34) rfl rfl rfl ?_
      refine d_next2 7 13 (by kernel_rfl) rfl rfl ?_ ?_
      ·
       refine an_insert Tryz.underlying22 Tryz.underlying9 rfl rfl rfl ?_
       refine Dn 13 (k:=Nl [_] (cs := [_, _, _, _]) (k:=fun b42 => Di 14 (t:=Ux (Ps [_, _, _])) (k:=Dn 15 (k:=?_))))
       refine an_call1 (hC2 b42) rfl rfl rfl ?_
       refine Dn 16 (k:=?_)
       refine an_insert Tryz.underlying22 Tryz.underlying9 rfl rfl rfl ?_
       refine Dv 17 (k:=Dv 18 (k:=Dd (k:=?_)))
       exact zb7join8
      ·
       refine Nl [_] (cs := [_, _, _, _]) (k:=fun b42 => Di 14 (t:=Ux (Ps [_, _, _])) (k:=?_))
       refine d_next2 7 15 (by kernel_rfl) rfl rfl ?_ ?_
       ·
        refine an_insert Tryz.underlying22 Tryz.underlying9 rfl rfl rfl ?_
        refine Dn 15 (k:=?_)
        refine an_call1 (hC2 b42) rfl rfl rfl ?_
        refine Dn 16 (k:=?_)
        refine an_insert Tryz.underlying22 Tryz.underlying9 rfl rfl rfl ?_
        refine Dv 17 (k:=Dv 18 (k:=Dd (k:=?_)))
        exact zb7join8
       ·
        refine an_call1 (hC2 b42) rfl rfl rfl ?_
        refine d_next2 7 16 (by kernel_rfl) rfl rfl ?_ ?_
        ·
         refine an_insert Tryz.underlying22 Tryz.underlying9 rfl rfl rfl ?_
         refine Dn 16 (k:=?_)
         refine an_insert Tryz.underlying22 Tryz.underlying9 rfl rfl rfl ?_
         refine Dv 17 (k:=Dv 18 (k:=Dd (k:=?_)))
         exact zb7join8
        ·
         refine an_insert Tryz.underlying22 Tryz.underlying9 rfl rfl rfl ?_
         refine Dn 7 (k:=?_)
         refine an_insert Tryz.underlying22 Tryz.underlying9 rfl rfl rfl ?_
         refine Dv 17 (k:=Dv 18 (k:=Dd (k:=?_)))
         exact zb7join8
     ·
      refine Nl [_] (cs := [_, _, _, _]) (k:=fun b42 => Di 14 (t:=Ux (Ps [_, _, _])) (k:=Dn 6 (k:=?_)))
      refine an_call1 (hC1 b34) rfl rfl rfl ?_
      refine d_next2 7 15 (by kernel_rfl) rfl rfl ?_ ?_
      ·
       refine an_insert Tryz.underlying22 Tryz.underlying9 rfl rfl rfl ?_
       refine Dn 15 (k:=?_)
       refine an_call1 (hC2 b42) rfl rfl rfl ?_
       refine Dn 16 (k:=?_)
       refine an_insert Tryz.underlying22 Tryz.underlying9 rfl rfl rfl ?_
       refine Dv 17 (k:=Dv 18 (k:=Dd (k:=?_)))
       exact zb7join8
      ·
       refine an_call1 (hC2 b42) rfl rfl rfl ?_
       refine d_next2 7 16 (by kernel_rfl) rfl rfl ?_ ?_
       ·
        refine an_insert Tryz.underlying22 Tryz.underlying9 rfl rfl rfl ?_
        refine Dn 16 (k:=?_)
        refine an_insert Tryz.underlying22 Tryz.underlying9 rfl rfl rfl ?_
        refine Dv 17 (k:=Dv 18 (k:=Dd (k:=?_)))
        exact zb7join8
       ·
        refine an_insert Tryz.underlying22 Tryz.underlying9 rfl rfl rfl ?_
        refine Dn 7 (k:=?_)
        refine an_insert Tryz.underlying22 Tryz.underlying9 rfl rfl rfl ?_
        refine Dv 17 (k:=Dv 18 (k:=Dd (k:=?_)))
        exact zb7join8
    ·
     refine an_call1 (hC1 b34) rfl rfl rfl ?_
     refine d_next2 0 13 (by kernel_rfl) rfl rfl ?_ ?_
     ·
      refine an_mkmap rfl (fun b30 => ?_)
      refine d_next2 7 13 (by kernel_rfl) rfl rfl ?_ ?_
      ·
       refine an_insert Tryz.underlying22 Tryz.underlying9 rfl rfl rfl ?_
       refine Dn 13 (k:=Nl [_] (cs := [_, _, _, _]) (k:=fun b42 => Di 14 (t:=Ux (Ps [_, _, _])) (k:=Dn 15 (k:=?_))))
       refine an_call1 (hC2 b42) rfl rfl rfl ?_
       refine Dn 16 (k:=?_)
       refine an_insert Tryz.underlying22 Tryz.underlying9 rfl rfl rfl ?_
       refine Dv 17 (k:=Dv 18 (k:=Dd (k:=?_)))
       exact zb7join8
      ·
       refine Nl [_] (cs := [_, _, _, _]) (k:=fun b42 => Di 14 (t:=Ux (Ps [_, _, _])) (k:=?_))
       refine d_next2 7 15 (by kernel_rfl) rfl rfl ?_ ?_
       ·
        refine an_insert Tryz.underlying22 Tryz.underlying9 rfl rfl rfl ?_
        refine Dn 15 (k:=?_)
        refine an_call1 (hC2 b42) rfl rfl rfl ?_
        refine Dn 16 (k:=?_)
        refine an_insert Tryz.underlying22 Tryz.underlying9 rfl rfl rfl ?_
        refine Dv 17 (k:=Dv 18 (k:=Dd (k:=?_)))
        exact zb7join8
       ·
        refine an_call1 (hC2 b42) rfl rfl rfl ?_
        refine d_next2 7 16 (by kernel_rfl) rfl rfl ?_ ?_
        ·
         refine an_insert Tryz.underlying22 Tryz.underlying9 rfl rfl rfl ?_
         refine Dn 16 (k:=?_)
         refine an_insert Tryz.underlying22 Tryz.underlying9 rfl rfl rfl ?_
         refine Dv 17 (k:=Dv 18 (k:=Dd (k:=?_)))
         exact zb7join8
        ·
         refine an_insert Tryz.underlying22 Tryz.underlying9 rfl rfl rfl ?_
         refine Dn 7 (k:=?_)
         refine an_insert Tryz.underlying22 Tryz.underlying9 rfl rfl rfl ?_
         refine Dv 17 (k:=Dv 18 (k:=Dd (k:=?_)))
         exact zb7join8
     ·
      refine Nl [_] (cs := [_, _, _, _]) (k:=fun b42 => Di 14 (t:=Ux (Ps [_, _, _])) (k:=?_))
      refine d_next2 0 15 (by kernel_rfl) rfl rfl ?_ ?_
      ·
       refine an_mkmap rfl (fun b30 => ?_)
       refine d_next2 7 15 (by kernel_rfl) rfl rfl ?_ ?_
       ·
        refine an_insert Tryz.underlying22 Tryz.underlying9 rfl rfl rfl ?_
        refine Dn 15 (k:=?_)
        refine an_call1 (hC2 b42) rfl rfl rfl ?_
        refine Dn 16 (k:=?_)
        refine an_insert Tryz.underlying22 Tryz.underlying9 rfl rfl rfl ?_
        refine Dv 17 (k:=Dv 18 (k:=Dd (k:=?_)))
        exact zb7join8
       ·
        refine an_call1 (hC2 b42) rfl rfl rfl ?_
        refine d_next2 7 16 (by kernel_rfl) rfl rfl ?_ ?_
        ·
         refine an_insert Tryz.underlying22 Tryz.underlying9 rfl rfl rfl ?_
         refine Dn 16 (k:=?_)
         refine an_insert Tryz.underlying22 Tryz.underlying9 rfl rfl rfl ?_
         refine Dv 17 (k:=Dv 18 (k:=Dd (k:=?_)))
         exact zb7join8
        ·
         refine an_insert Tryz.underlying22 Tryz.underlying9 rfl rfl rfl ?_
         refine Dn 7 (k:=?_)
         refine an_insert Tryz.underlying22 Tryz.underlying9 rfl rfl rfl ?_
         refine Dv 17 (k:=Dv 18 (k:=Dd (k:=?_)))
         exact zb7join8
      ·
       refine an_call1 (hC2 b42) rfl rfl rfl ?_
       refine Dn 0 (k:=?_)
       refine an_mkmap rfl (fun b30 => ?_)
       refine d_next2 7 16 (by kernel_rfl) rfl rfl ?_ ?_
       ·
        refine an_insert Tryz.underlying22 Tryz.underlying9 rfl rfl rfl ?_
        refine Dn 16 (k:=?_)
        refine an_insert Tryz.underlying22 Tryz.underlying9 rfl rfl rfl ?_
        refine Dv 17 (k:=Dv 18 (k:=Dd (k:=?_)))
        exact zb7join8
       ·
        refine an_insert Tryz.underlying22 Tryz.underlying9 rfl rfl rfl ?_
        refine Dn 7 (k:=?_)
        refine an_insert Tryz.underlying22 Tryz.underlying9 rfl rfl rfl ?_
        refine Dv 17 (k:=Dv 18 (k:=Dd (k:=?_)))
        exact zb7join8
    ·
     refine Nl [_] (cs := [_, _, _, _]) (k:=fun b42 => Di 14 (t:=Ux (Ps [_, _, _])) (k:=?_))
     refine d_next2 0 6 (by kernel_rfl) rfl rfl ?_ ?_
     ·
      refine an_mkmap rfl (fun b30 => ?_)
      refine Dn 6 (k:=?_)
      refine an_call1 (hC1 b34) rfl rfl rfl ?_
      refine d_next2 7 15 (by kernel_rfl) rfl rfl ?_ ?_
      ·
       refine an_insert Tryz.underlying22 Tryz.underlying9 rfl rfl rfl ?_
       refine Dn 15 (k:=?_)
       refine an_call1 (hC2 b42) rfl rfl rfl ?_
       refine Dn 16 (k:=?_)
       refine an_insert Tryz.underlying22 Tryz.underlying9 rfl rfl rfl ?_
       refine Dv 17 (k:=Dv 18 (k:=Dd (k:=?_)))
       exact zb7join8
      ·
       refine an_call1 (hC2 b42) rfl rfl rfl ?_
       refine d_next2 7 16 (by kernel_rfl) rfl rfl ?_ ?_
       ·
        refine an_insert Tryz.underlying22 Tryz.underlying9 rfl rfl rfl ?_
        refine Dn 16 (k:=?_)
        refine an_insert Tryz.underlying22 Tryz.underlying9 rfl rfl rfl ?_
        refine Dv 17 (k:=Dv 18 (k:=Dd (k:=?_)))
        exact zb7join8
       ·
        refine an_insert Tryz.underlying22 Tryz.underlying9 rfl rfl rfl ?_
        refine Dn 7 (k:=?_)
        refine an_insert Tryz.underlying22 Tryz.underlying9 rfl rfl rfl ?_
        refine Dv 17 (k:=Dv 18 (k:=Dd (k:=?_)))
        exact zb7join8
     ·
      refine an_call1 (hC1 b34) rfl rfl rfl ?_
      refine d_next2 0 15 (by kernel_rfl) rfl rfl ?_ ?_
      ·
       refine an_mkmap rfl (fun b30 => ?_)
       refine d_next2 7 15 (by kernel_rfl) rfl rfl ?_ ?_
       ·
        refine an_insert Tryz.underlying22 Tryz.underlying9 rfl rfl rfl ?_
        refine Dn 15 (k:=?_)
        refine an_call1 (hC2 b42) rfl rfl rfl ?_
        refine Dn 16 (k:=?_)
        refine an_insert Tryz.underlying22 Tryz.underlying9 rfl rfl rfl ?_
        refine Dv 17 (k:=Dv 18 (k:=Dd (k:=?_)))
        exact zb7join8
       ·
        refine an_call1 (hC2 b42) rfl rfl rfl ?_
        refine d_next2 7 16 (by kernel_rfl) rfl rfl ?_ ?_
        ·
         refine an_insert Tryz.underlying22 Tryz.underlying9 rfl rfl rfl ?_
         refine Dn 16 (k:=?_)
         refine an_insert Tryz.underlying22 Tryz.underlying9 rfl rfl rfl ?_
         refine Dv 17 (k:=Dv 18 (k:=Dd (k:=?_)))
         exact zb7join8
        ·
         refine an_insert Tryz.underlying22 Tryz.underlying9 rfl rfl rfl ?_
         refine Dn 7 (k:=?_)
         refine an_insert Tryz.underlying22 Tryz.underlying9 rfl rfl rfl ?_
         refine Dv 17 (k:=Dv 18 (k:=Dd (k:=?_)))
         exact zb7join8
      ·
       refine an_call1 (hC2 b42) rfl rfl rfl ?_
       refine Dn 0 (k:=?_)
       refine an_mkmap rfl (fun b30 => ?_)
       refine d_next2 7 16 (by kernel_rfl) rfl rfl ?_ ?_
       ·
        refine an_insert Tryz.underlying22 Tryz.underlying9 rfl rfl rfl ?_
        refine Dn 16 (k:=?_)
        refine an_insert Tryz.underlying22 Tryz.underlying9 rfl rfl rfl ?_
        refine Dv 17 (k:=Dv 18 (k:=Dd (k:=?_)))
        exact zb7join8
       ·
        refine an_insert Tryz.underlying22 Tryz.underlying9 rfl rfl rfl ?_
        refine Dn 7 (k:=?_)
        refine an_insert Tryz.underlying22 Tryz.underlying9 rfl rfl rfl ?_
        refine Dv 17 (k:=Dv 18 (k:=Dd (k:=?_)))
        exact zb7join8
   ·
    refine Nl [_] (cs := [_, _, _, _]) (k:=fun b42 => Di 14 (t:=Ux (Ps [_, _, _])) (k:=?_))
    refine d_next2 0 4 (by kernel_rfl) rfl rfl ?_ ?_
    ·
     refine an_mkmap rfl (fun b30 => ?_)
     refine Dn 4 (k:=Nl [_] (cs := [_, _, _, _]) (k:=fun b34 => Di 5 (t:=Ux (Ps [_, _, _])) (k:=Dn 6 (k:=?_))))
     refine an_call1 (hC1 b34) rfl rfl rfl ?_
     refine d_next2 7 15 (by kernel_rfl) rfl rfl ?_ ?_
     ·
      refine an_insert Tryz.underlying22 Tryz.underlying9 rfl rfl rfl ?_
      refine Dn 15 (k:=?_)
      refine an_call1 (hC2 b42) rfl rfl rfl ?_
      refine Dn 16 (k:=?_)
      refine an_insert Tryz.underlying22 Tryz.underlying9 rfl rfl rfl ?_
      refine Dv 17 (k:=Dv 18 (k:=Dd (k:=?_)))
      exact zb7join8
     ·
      refine an_call1 (hC2 b42) rfl rfl rfl ?_
      refine d_next2 7 16 (by kernel_rfl) rfl rfl ?_ ?_
      ·
       refine an_insert Tryz.underlying22 Tryz.underlying9 rfl rfl rfl ?_
       refine Dn 16 (k:=?_)
       refine an_insert Tryz.underlying22 Tryz.underlying9 rfl rfl rfl ?_
       refine Dv 17 (k:=Dv 18 (k:=Dd (k:=?_)))
       exact zb7join8
      ·
       refine an_insert Tryz.underlying22 Tryz.underlying9 rfl rfl rfl ?_
       refine Dn 7 (k:=?_)
       refine an_insert Tryz.underlying22 Tryz.underlying9 rfl rfl rfl ?_
       refine Dv 17 (k:=Dv 18 (k:=Dd (k:=?_)))
       exact zb7join8
    ·
     refine Nl [_] (cs := [_, _, _, _]) (k:=fun b34 => Di 5 (t:=Ux (Ps [_, _, _])) (k:=?_))
     refine d_next2 0 6 (by kernel_rfl) rfl rfl ?_ ?_
     ·
      refine an_mkmap rfl (fun b30 => ?_)
      refine Dn 6 (k:=?_)
      refine an_call1 (hC1 b34) rfl rfl rfl ?_
      refine d_next2 7 15 (by kernel_rfl) rfl rfl ?_ ?_
      ·
       refine an_insert Tryz.underlying22 Tryz.underlying9 rfl rfl rfl ?_
       refine Dn 15 (k:=?_)
       refine an_call1 (hC2 b42) rfl rfl rfl ?_
       refine Dn 16 (k:=?_)
       refine an_insert Tryz.underlying22 Tryz.underlying9 rfl rfl rfl ?_
       refine Dv 17 (k:=Dv 18 (k:=Dd (k:=?_)))
       exact zb7join8
      ·
       refine an_call1 (hC2 b42) rfl rfl rfl ?_
       refine d_next2 7 16 (by kernel_rfl) rfl rfl ?_ ?_
       ·
        refine an_insert Tryz.underlying22 Tryz.underlying9 rfl rfl rfl ?_
        refine Dn 16 (k:=?_)
        refine an_insert Tryz.underlying22 Tryz.underlying9 rfl rfl rfl ?_
        refine Dv 17 (k:=Dv 18 (k:=Dd (k:=?_)))
        exact zb7join8
       ·
        refine an_insert Tryz.underlying22 Tryz.underlying9 rfl rfl rfl ?_
        refine Dn 7 (k:=?_)
        refine an_insert Tryz.underlying22 Tryz.underlying9 rfl rfl rfl ?_
        refine Dv 17 (k:=Dv 18 (k:=Dd (k:=?_)))
        exact zb7join8
     ·
      refine an_call1 (hC1 b34) rfl rfl rfl ?_
      refine d_next2 0 15 (by kernel_rfl) rfl rfl ?_ ?_
      ·
       refine an_mkmap rfl (fun b30 => ?_)
       refine d_next2 7 15 (by kernel_rfl) rfl rfl ?_ ?_
       ·
        refine an_insert Tryz.underlying22 Tryz.underlying9 rfl rfl rfl ?_
        refine Dn 15 (k:=?_)
        refine an_call1 (hC2 b42) rfl rfl rfl ?_
        refine Dn 16 (k:=?_)
        refine an_insert Tryz.underlying22 Tryz.underlying9 rfl rfl rfl ?_
        refine Dv 17 (k:=Dv 18 (k:=Dd (k:=?_)))
        exact zb7join8
       ·
        refine an_call1 (hC2 b42) rfl rfl rfl ?_
        refine d_next2 7 16 (by kernel_rfl) rfl rfl ?_ ?_
        ·
         refine an_insert Tryz.underlying22 Tryz.underlying9 rfl rfl rfl ?_
         refine Dn 16 (k:=?_)
         refine an_insert Tryz.underlying22 Tryz.underlying9 rfl rfl rfl ?_
         refine Dv 17 (k:=Dv 18 (k:=Dd (k:=?_)))
         exact zb7join8
        ·
         refine an_insert Tryz.underlying22 Tryz.underlying9 rfl rfl rfl ?_
         refine Dn 7 (k:=?_)
         refine an_insert Tryz.underlying22 Tryz.underlying9 rfl rfl rfl ?_
         refine Dv 17 (k:=Dv 18 (k:=Dd (k:=?_)))
         exact zb7join8
      ·
       refine an_call1 (hC2 b42) rfl rfl rfl ?_
       refine Dn 0 (k:=?_)
       refine an_mkmap rfl (fun b30 => ?_)
       refine d_next2 7 16 (by kernel_rfl) rfl rfl ?_ ?_
       ·
        refine an_insert Tryz.underlying22 Tryz.underlying9 rfl rfl rfl ?_
        refine Dn 16 (k:=?_)
        refine an_insert Tryz.underlying22 Tryz.underlying9 rfl rfl rfl ?_
        refine Dv 17 (k:=Dv 18 (k:=Dd (k:=?_)))
        exact zb7join8
       ·
        refine an_insert Tryz.underlying22 Tryz.underlying9 rfl rfl rfl ?_
        refine Dn 7 (k:=?_)
        refine an_insert Tryz.underlying22 Tryz.underlying9 rfl rfl rfl ?_
        refine Dv 17 (k:=Dv 18 (k:=Dd (k:=?_)))
        exact zb7join8
 ·
  refine Qc (k:=Vv (k:=Wq (Zi (t:=fun h29 => ?_) (f:=fun h29 => ?_))))
  ·
   refine Zr (k:=Vv (k:=Wn ?_))
   exact zb7join7
  ·
   refine Zk (k:=?_)
   exact zb7join7
end
end Go.Proofs.YtomgdbanbpjedaaGreat
