/- Texts of this proof, put together: LawTagsRuns. -/
import Derived.Test.YtomgdbanbpjedaaGreatQ21
set_option linter.unusedVariables false
set_option linter.unusedSimpArgs false
namespace Go.Proofs.YtomgdbanbpjedaaGreat
section
set_option maxRecDepth 100000
set_option maxHeartbeats 8000000 in
theorem TagsRuns_sp : Sp1 Tryz.prog 3 [] [] (vB true) [] := by
 refine Sp.body (n := 93) Tryz.call3 Tryz.func3 rfl rfl rfl ?_
 refine Qc (k:=Vv (k:=Wq (Qc (k:=Vx (Ps [_, _, _, _]) (k:=Zv [_] (cs := [_, _, _, _]) (k:=fun b11 => ?_))))))
 refine wo_ent' (ce_norm (b := b11) (T := 27) (l' := opsR.flatMap tgCells) (by rfl) (by rfl)) ?_
 refine r_callX (law18_chain_sp (Bt := Ce b11 27 (opsR.flatMap tgCells)) (some ⟨b11, 0, none⟩) 1 opsR opsR_right tgD_opsR sla_ce) rfl rfl rfl (fun x12 hx12 => ?_)
 obtain ⟨⟨m, K⟩, bl⟩ := x12
 dsimp only at hx12 ⊢
 have hh := rn_held tgD_opsR hx12
 have hrun := run_ok tgD_opsR hh
 have hl : (mput K [107] (vS (ctB ctR))).length ≤ 4 := by rw [hh.len]; decide
 have hOx := tags_Of_sp m _ hh.txt hh.knd (by omega) [116] (tgX opsR) _ hrun.x.symm
 have hOy := tags_Of_sp m _ hh.txt hh.knd (by omega) [116] (tgY opsR) _ hrun.y.symm
 have hOz := tags_Of_sp m _ hh.txt hh.knd (by omega) [116] (tgZ opsR) _ hrun.z.symm
 have hTb := tags_Table_sp m _ hh.txt hh.knd (by omega)
 have hNm := tags_Names_sp m _ hh.txt (by omega)
 have hCt := fun b => ref10_ct_sp (Bt := Ce b 27 (ctR.tags.flatMap tgCells)) (some ⟨b, 0, none⟩) 1 ctR_right sla_ce (tgZ_one (k := 45) (nm := [116]) (tgt := tgZ opsR) (v := []) (by decide) (Nat.le_of_eq (shaB_len _)) (by decide))
 rw [hrun.t] at hTb
 rw [hrun.n] at hNm
 rw [show ctR = ctOne 3 45 (tgZ opsR) [] me from rfl] at *
 obtain ⟨H, hH⟩ : ∃ H, H = mput K [107] (vS (ctB (ctOne 3 45 (tgZ opsR) [] me))) := ⟨_, rfl⟩
 rw [← hH] at hOx hOy hOz hTb hNm
 refine Vv (k:=?_)
 refine wo_pv (pv_extract (v := .map (some m)) rfl rfl) rfl ?_
 refine wo_pv (pv_extract (v := .slice (some ⟨bl, 0, none⟩) 3 3) rfl rfl) rfl ?_
 refine Qv (k:=Wq (Qc (k:=Qv (k:=?_))))
 refine r_elemAddr (m := 2) (sz := 1) Tryz.underlying23 ti9 rfl rfl rfl rfl (by omega) (by simp) (Nat.mul_one _) rfl ?_
 refine r_eload Tryz.underlying9 rfl rfl rfl rfl ?_
 refine Vx (Ps [_, _, _, vS []]) (k:=Zv [_] (cs := [_, _, _, _]) (k:=fun b20 => Vx (Ps [_, _, _]) (k:=?_)))
 refine wo_ent' (ce_norm (b := b20) (T := 27) (l' := (ctOne 3 45 (tgZ opsR) [] me).tags.flatMap tgCells) (by rfl) (by rfl)) ?_
 refine r_call1 (hCt b20) rfl rfl rfl ?_
 refine r_mapUpdate Tryz.underlying22 Tryz.underlying9 rfl rfl rfl ?_
 rw [← hH]
 refine Wq (Qc (k:=Qv (k:=?_)))
 refine r_elemAddr (m := 0) (sz := 1) Tryz.underlying23 ti9 rfl rfl rfl rfl (by omega) (by simp) (Nat.mul_one _) rfl ?_
 refine r_eload Tryz.underlying9 rfl rfl rfl rfl ?_
 refine r_call1 hOx rfl rfl rfl ?_
 refine Vv (k:=?_)
 refine wo_pv (pv_extract (v := .agg #[vS [116], vS (tgX opsR), vS [118], vS (tgX opsR), .bool true, .bool true]) rfl rfl) rfl ?_
 refine wo_pv (pv_extract (v := vB true) rfl rfl) rfl ?_
 refine Zc [vS [], vS [], vS [], vS [], .bool false, .bool false] (k:=fun b3 => Zp (k:=Vv (k:=Wq (Qc (k:=Qv (k:=?_))))))
 refine r_elemAddr (m := 1) (sz := 1) Tryz.underlying23 ti9 rfl rfl rfl rfl (by omega) (by simp) (Nat.mul_one _) rfl ?_
 refine r_eload Tryz.underlying9 rfl rfl rfl rfl ?_
 refine r_call1 hOy rfl rfl rfl ?_
 refine Vv (k:=?_)
 refine wo_pv (pv_extract (v := .agg #[vS [116], vS (tgY opsR), vS [118], vS (tgX opsR), .bool true, .bool false]) rfl rfl) rfl ?_
 refine wo_pv (pv_extract (v := vB true) rfl rfl) rfl ?_
 refine Zc [vS [], vS [], vS [], vS [], .bool false, .bool false] (k:=fun b5 => Zp (k:=Vv (k:=Wq (Qc (k:=Qv (k:=?_))))))
 refine r_elemAddr (m := 2) (sz := 1) Tryz.underlying23 ti9 rfl rfl rfl rfl (by omega) (by simp) (Nat.mul_one _) rfl ?_
 refine r_eload Tryz.underlying9 rfl rfl rfl rfl ?_
 refine r_call1 hOz rfl rfl rfl ?_
 refine Vv (k:=?_)
 refine wo_pv (pv_extract (v := .agg #[vS [], vS [], vS [], vS [], .bool false, .bool false]) rfl rfl) rfl ?_
 refine wo_pv (pv_extract (v := vB false) rfl rfl) rfl ?_
 refine Zc [vS [], vS [], vS [], vS [], .bool false, .bool false] (k:=fun b7 => Zp (k:=Vv (k:=Wq (Za (k:=Dw [Ce b3 33 [vS [116], vS (tgX opsR), vS [118], vS (tgX opsR), .bool true, .bool true], Ce b5 33 [vS [116], vS (tgY opsR), vS [118], vS (tgX opsR), .bool true, .bool false], Ce bl 9 [vS (tgX opsR), vS (tgY opsR), vS (tgZ opsR)]] (k:=?_))))))
 refine Dv 0 (k:=Dv 1 (k:=Gd 1 (t:=fun h48 => ?_) (f:=fun h48 => ?_)))
 ·
  refine Di 2 (t:=U1 (h:=Uv)) (k:=DP1 3 (k:=Dv 4 (k:=Gd 4 (t:=fun h51 => ?_) (f:=fun h51 => ?_))))
  ·
   refine Di 5 (t:=U1 (h:=Uv)) (k:=Di 6 (t:=U1 (h:=Uv)) (k:=DP1 7 (k:=Dv 8 (k:=Gd 8 (t:=fun h55 => ?_) (f:=fun h55 => ?_)))))
   ·
    refine Di 9 (t:=U1 (h:=Uf 5 4)) (k:=Di 10 (t:=U1 (h:=Ul)) (k:=DP1 11 (k:=Dv 12 (k:=Gd 12 (t:=fun h59 => ?_) (f:=fun h59 => ?_)))))
    ·
     refine Di 13 (t:=U1 (h:=Uf 5 4)) (k:=Di 14 (t:=U1 (h:=Ul)) (k:=Di 15 (t:=U1 (h:=Uv)) (k:=DP1 16 (k:=Dv 17 (k:=Gd 17 (t:=fun h64 => ?_) (f:=fun h64 => ?_))))))
     ·
      refine Di 18 (t:=U1 (h:=Uf 4 4)) (k:=Di 19 (t:=U1 (h:=Ul)) (k:=DP1 20 (k:=Dv 21 (k:=Gd 21 (t:=fun h68 => ?_) (f:=fun h68 => ?_)))))
      ·
       refine Di 22 (t:=U1 (h:=Uf 2 9)) (k:=Di 23 (t:=U1 (h:=Ul)) (k:=Di 24 (t:=U1 (h:=Uv)) (k:=DP1 25 (k:=Dv 26 (k:=Gd 26 (t:=fun h73 => ?_) (f:=fun h73 => ?_))))))
       ·
        refine Di 27 (t:=U1 (h:=Uf 3 9)) (k:=Di 28 (t:=U1 (h:=Ul)) (k:=Di 29 (t:=U1 (h:=Uv)) (k:=?_)))
        refine d_first 30 rfl rfl rfl (by kernel_rfl) (by kernel_rfl) (tl_in (b := true) rfl (tl_elemAddr (m := 0) (sz := 1) Tryz.underlying23 ti9 rfl rfl rfl rfl (by omega) (by simp) (Nat.mul_one _))) ?_
        refine d_first 31 rfl rfl rfl (by kernel_rfl) (by kernel_rfl) (tl_in (b := true) rfl (tl_eload Tryz.underlying9 rfl rfl rfl)) ?_
        refine Di 32 (t:=U1 (h:=Uv)) (k:=DP1 33 (k:=Dv 34 (k:=Gd 34 (t:=fun h81 => ?_) (f:=fun h81 => ?_))))
        ·
         refine Di 35 (t:=U1 (h:=Uv)) (k:=Dn 36 (k:=?_))
         refine an_in (b := true) rfl ?_
         refine an_callX hTb rfl rfl rfl (fun x83 _ => ?_)
         refine Di 37 (t:=U1 (h:=Uv)) (k:=Di 38 (t:=U1 (h:=Uv)) (k:=DP1 39 (k:=Dv 40 (k:=Gd 40 (t:=fun h87 => ?_) (f:=fun h87 => ?_)))))
         ·
          refine Di 41 (t:=U1 (h:=Uv)) (k:=?_)
          refine d_next2 42 43 (by kernel_rfl) rfl rfl ?_ ?_
          ·
           refine an_in (b := true) rfl ?_
           refine an_callX hNm rfl rfl rfl (fun x89 _ => ?_)
           refine Dn 43 (k:=?_)
           refine an_in (b := true) rfl ?_
           refine Nl [_] (cs := [_]) (k:=fun b90 => Dn 44 (k:=?_))
           skip
           refine an_in (b := true) rfl ?_
           refine an_call1 (book_SameS_sp (As := [Row 9 1 (.slice x89.1 1 x89.2) 1 (([[116]] : List Bs).map vS), Ce b90 9 [vS [116]]]) 1 1 x89.2 1 [[116]] [[116]] rfl rfl (by decide)) rfl rfl rfl ?_
           refine DP1 45 (k:=Dv 46 (k:=Dd (k:=Ya (Zt (k:=?_)))))
           exact fin_ret () (vs := [_]) (Cs := []) rfl (.tmp rfl .nil) rfl trivial ent_pick
          ·
           refine an_in (b := true) rfl ?_
           refine Nl [_] (cs := [_]) (k:=fun b90 => Dn 42 (k:=?_))
           refine an_in (b := true) rfl ?_
           refine an_callX hNm rfl rfl rfl (fun x89 _ => ?_)
           refine Dn 44 (k:=?_)
           skip
           refine an_in (b := true) rfl ?_
           refine an_call1 (book_SameS_sp (As := [Row 9 1 (.slice x89.1 1 x89.2) 1 (([[116]] : List Bs).map vS), Ce b90 9 [vS [116]]]) 1 1 x89.2 1 [[116]] [[116]] rfl rfl (by decide)) rfl rfl rfl ?_
           refine DP1 45 (k:=Dv 46 (k:=Dd (k:=Ya (Zt (k:=?_)))))
           exact fin_ret () (vs := [_]) (Cs := []) rfl (.tmp rfl .nil) rfl trivial ent_pick
         ·
          first | cases h87 | exact absurd rfl h87
          --done
        ·
         first | cases h81 | exact absurd rfl h81
         --done
       ·
        first | cases h73 | exact absurd rfl h73
        --done
      ·
       first | cases h68 | exact absurd rfl h68
       --done
     ·
      first | cases h64 | exact absurd rfl h64
      --done
    ·
     first | cases h59 | exact absurd rfl h59
     --done
   ·
    first | cases h55 | exact absurd rfl h55
    --done
  ·
   first | cases h51 | exact absurd rfl h51
   --done
 ·
  first | cases h48 | exact absurd rfl h48
  --done
end
end Go.Proofs.YtomgdbanbpjedaaGreat
