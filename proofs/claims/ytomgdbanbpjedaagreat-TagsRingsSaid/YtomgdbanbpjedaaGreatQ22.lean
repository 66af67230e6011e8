/- Texts of this proof, put together: LawTagsRuns, P18Q, SBook, LawTagsRings. -/
import Derived.Test.YtomgdbanbpjedaaGreatQ21
set_option linter.unusedVariables false
set_option linter.unusedSimpArgs false
namespace Go.Proofs.YtomgdbanbpjedaaGreat
section
set_option maxRecDepth 100000
set_option maxHeartbeats 8000000 in
theorem TagsRuns_sp : Sp1 Tryz.prog 3 [] [] (vB true) [] := by
 refine Sp.body (n := 93) Tryz.call3 Tryz.func3 rfl rfl rfl ?_
 refine Qc (k:=Vv (k:=Wq (Qc (k:=Vx (Ps [_, _, _, _]) (k:=Zv [_] (cs := [_, _, _, _]) (k:=fun b11 => ?_))))))
 refine wo_ent' (ce_norm (b := b11) (T := 27) (l' := opsR.flatMap tgCells) (by rfl) (by rfl)) ?_
 refine r_callX (law18_chain_sp (Bt := Ce b11 27 (opsR.flatMap tgCells)) (some ⟨b11, 0, none⟩) 1 opsR opsR_right tgD_opsR sla_ce) rfl rfl rfl (fun x12 hx12 => ?_)
 obtain ⟨⟨m, K⟩, bl⟩ := x12
 dsimp only at hx12 ⊢
 have hh := rn_held tgD_opsR hx12
 have hrun := run_ok tgD_opsR hh
 have hl : (mput K [107] (vS (ctB ctR))).length ≤ 4 := by rw [hh.len]; decide
 have hOx := tags_Of_sp m _ hh.txt hh.knd (by omega) [116] (tgX opsR) _ hrun.x.symm
 have hOy := tags_Of_sp m _ hh.txt hh.knd (by omega) [116] (tgY opsR) _ hrun.y.symm
 have hOz := tags_Of_sp m _ hh.txt hh.knd (by omega) [116] (tgZ opsR) _ hrun.z.symm
 have hTb := tags_Table_sp m _ hh.txt hh.knd (by omega)
 have hNm := tags_Names_sp m _ hh.txt (by omega)
 have hCt := fun b => ref10_ct_sp (Bt := Ce b 27 (ctR.tags.flatMap tgCells)) (some ⟨b, 0, none⟩) 1 ctR_right sla_ce (tgZ_one (k := 45) (nm := [116]) (tgt := tgZ opsR) (v := []) (by decide) (Nat.le_of_eq (shaB_len _)) (by decide))
 rw [hrun.t] at hTb
 rw [hrun.n] at hNm
 rw [show ctR = ctOne 3 45 (tgZ opsR) [] me from rfl] at *
 obtain ⟨H, hH⟩ : ∃ H, H = mput K [107] (vS (ctB (ctOne 3 45 (tgZ opsR) [] me))) := ⟨_, rfl⟩
 rw [← hH] at hOx hOy hOz hTb hNm
 refine Vv (k:=?_)
 refine wo_pv (pv_extract (v := .map (some m)) rfl rfl) rfl ?_
 refine wo_pv (pv_extract (v := .slice (some ⟨bl, 0, none⟩) 3 3) rfl rfl) rfl ?_
 refine Qv (k:=Wq (Qc (k:=Qv (k:=?_))))
 refine r_elemAddr (m := 2) (sz := 1) Tryz.underlying23 ti9 rfl rfl rfl rfl (by omega) (by simp) (Nat.mul_one _) rfl ?_
 refine r_eload Tryz.underlying9 rfl rfl rfl rfl ?_
 refine Vx (Ps [_, _, _, vS []]) (k:=Zv [_] (cs := [_, _, _, _]) (k:=fun b20 => Vx (Ps [_, _, _]) (k:=?_)))
 refine wo_ent' (ce_norm (b := b20) (T := 27) (l' := (ctOne 3 45 (tgZ opsR) [] me).tags.flatMap tgCells) (by rfl) (by rfl)) ?_
 refine r_call1 (hCt b20) rfl rfl rfl ?_
 refine r_mapUpdate Tryz.underlying22 Tryz.underlying9 rfl rfl rfl ?_
 rw [← hH]
 refine Wq (Qc (k:=Qv (k:=?_)))
 refine r_elemAddr (m := 0) (sz := 1) Tryz.underlying23 ti9 rfl rfl rfl rfl (by omega) (by simp) (Nat.mul_one _) rfl ?_
 refine r_eload Tryz.underlying9 rfl rfl rfl rfl ?_
 refine r_call1 hOx rfl rfl rfl ?_
 refine Vv (k:=?_)
 refine wo_pv (pv_extract (v := .agg #[vS [116], vS (tgX opsR), vS [118], vS (tgX opsR), .bool true, .bool true]) rfl rfl) rfl ?_
 refine wo_pv (pv_extract (v := vB true) rfl rfl) rfl ?_
 refine Zc [vS [], vS [], vS [], vS [], .bool false, .bool false] (k:=fun b3 => Zp (k:=Vv (k:=Wq (Qc (k:=Qv (k:=?_))))))
 refine r_elemAddr (m := 1) (sz := 1) Tryz.underlying23 ti9 rfl rfl rfl rfl (by omega) (by simp) (Nat.mul_one _) rfl ?_
 refine r_eload Tryz.underlying9 rfl rfl rfl rfl ?_
 refine r_call1 hOy rfl rfl rfl ?_
 refine Vv (k:=?_)
 refine wo_pv (pv_extract (v := .agg #[vS [116], vS (tgY opsR), vS [118], vS (tgX opsR), .bool true, .bool false]) rfl rfl) rfl ?_
 refine wo_pv (pv_extract (v := vB true) rfl rfl) rfl ?_
 refine Zc [vS [], vS [], vS [], vS [], .bool false, .bool false] (k:=fun b5 => Zp (k:=Vv (k:=Wq (Qc (k:=Qv (k:=?_))))))
 refine r_elemAddr (m := 2) (sz := 1) Tryz.underlying23 ti9 rfl rfl rfl rfl (by omega) (by simp) (Nat.mul_one _) rfl ?_
 refine r_eload Tryz.underlying9 rfl rfl rfl rfl ?_
 refine r_call1 hOz rfl rfl rfl ?_
 refine Vv (k:=?_)
 refine wo_pv (pv_extract (v := .agg #[vS [], vS [], vS [], vS [], .bool false, .bool false]) rfl rfl) rfl ?_
 refine wo_pv (pv_extract (v := vB false) rfl rfl) rfl ?_
 refine Zc [vS [], vS [], vS [], vS [], .bool false, .bool false] (k:=fun b7 => Zp (k:=Vv (k:=Wq (Za (k:=Dw [Ce b3 33 [vS [116], vS (tgX opsR), vS [118], vS (tgX opsR), .bool true, .bool true], Ce b5 33 [vS [116], vS (tgY opsR), vS [118], vS (tgX opsR), .bool true, .bool false], Ce bl 9 [vS (tgX opsR), vS (tgY opsR), vS (tgZ opsR)]] (k:=?_))))))
 refine Dv 0 (k:=Dv 1 (k:=Gd 1 (t:=fun h48 => ?_) (f:=fun h48 => ?_)))
 ·
  refine Di 2 (t:=U1 (h:=Uv)) (k:=DP1 3 (k:=Dv 4 (k:=Gd 4 (t:=fun h51 => ?_) (f:=fun h51 => ?_))))
  ·
   refine Di 5 (t:=U1 (h:=Uv)) (k:=Di 6 (t:=U1 (h:=Uv)) (k:=DP1 7 (k:=Dv 8 (k:=Gd 8 (t:=fun h55 => ?_) (f:=fun h55 => ?_)))))
   ·
    refine Di 9 (t:=U1 (h:=Uf 5 4)) (k:=Di 10 (t:=U1 (h:=Ul)) (k:=DP1 11 (k:=Dv 12 (k:=Gd 12 (t:=fun h59 => ?_) (f:=fun h59 => ?_)))))
    ·
     refine Di 13 (t:=U1 (h:=Uf 5 4)) (k:=Di 14 (t:=U1 (h:=Ul)) (k:=Di 15 (t:=U1 (h:=Uv)) (k:=DP1 16 (k:=Dv 17 (k:=Gd 17 (t:=fun h64 => ?_) (f:=fun h64 => ?_))))))
     ·
      refine Di 18 (t:=U1 (h:=Uf 4 4)) (k:=Di 19 (t:=U1 (h:=Ul)) (k:=DP1 20 (k:=Dv 21 (k:=Gd 21 (t:=fun h68 => ?_) (f:=fun h68 => ?_)))))
      ·
       refine Di 22 (t:=U1 (h:=Uf 2 9)) (k:=Di 23 (t:=U1 (h:=Ul)) (k:=Di 24 (t:=U1 (h:=Uv)) (k:=DP1 25 (k:=Dv 26 (k:=Gd 26 (t:=fun h73 => ?_) (f:=fun h73 => ?_))))))
       ·
        refine Di 27 (t:=U1 (h:=Uf 3 9)) (k:=Di 28 (t:=U1 (h:=Ul)) (k:=Di 29 (t:=U1 (h:=Uv)) (k:=?_)))
        refine d_first 30 rfl rfl rfl (by kernel_rfl) (by kernel_rfl) (tl_in (b := true) rfl (tl_elemAddr (m := 0) (sz := 1) Tryz.underlying23 ti9 rfl rfl rfl rfl (by omega) (by simp) (Nat.mul_one _))) ?_
        refine d_first 31 rfl rfl rfl (by kernel_rfl) (by kernel_rfl) (tl_in (b := true) rfl (tl_eload Tryz.underlying9 rfl rfl rfl)) ?_
        refine Di 32 (t:=U1 (h:=Uv)) (k:=DP1 33 (k:=Dv 34 (k:=Gd 34 (t:=fun h81 => ?_) (f:=fun h81 => ?_))))
        ·
         refine Di 35 (t:=U1 (h:=Uv)) (k:=Dn 36 (k:=?_))
         refine an_in (b := true) rfl ?_
         refine an_callX hTb rfl rfl rfl (fun x83 _ => ?_)
         refine Di 37 (t:=U1 (h:=Uv)) (k:=Di 38 (t:=U1 (h:=Uv)) (k:=DP1 39 (k:=Dv 40 (k:=Gd 40 (t:=fun h87 => ?_) (f:=fun h87 => ?_)))))
         ·
          refine Di 41 (t:=U1 (h:=Uv)) (k:=?_)
          refine d_next2 42 43 (by kernel_rfl) rfl rfl ?_ ?_
          ·
           refine an_in (b := true) rfl ?_
           refine an_callX hNm rfl rfl rfl (fun x89 _ => ?_)
           refine Dn 43 (k:=?_)
           refine an_in (b := true) rfl ?_
           refine Nl [_] (cs := [_]) (k:=fun b90 => Dn 44 (k:=?_))
           skip
           refine an_in (b := true) rfl ?_
           refine an_call1 (book_SameS_sp (As := [Row 9 1 (.slice x89.1 1 x89.2) 1 (([[116]] : List Bs).map vS), Ce b90 9 [vS [116]]]) 1 1 x89.2 1 [[116]] [[116]] rfl rfl (by decide)) rfl rfl rfl ?_
           refine DP1 45 (k:=Dv 46 (k:=Dd (k:=Ya (Zt (k:=?_)))))
           exact fin_ret () (vs := [_]) (Cs := []) rfl (.tmp rfl .nil) rfl trivial ent_pick
          ·
           refine an_in (b := true) rfl ?_
           refine Nl [_] (cs := [_]) (k:=fun b90 => Dn 42 (k:=?_))
           refine an_in (b := true) rfl ?_
           refine an_callX hNm rfl rfl rfl (fun x89 _ => ?_)
           refine Dn 44 (k:=?_)
           skip
           refine an_in (b := true) rfl ?_
           refine an_call1 (book_SameS_sp (As := [Row 9 1 (.slice x89.1 1 x89.2) 1 (([[116]] : List Bs).map vS), Ce b90 9 [vS [116]]]) 1 1 x89.2 1 [[116]] [[116]] rfl rfl (by decide)) rfl rfl rfl ?_
           refine DP1 45 (k:=Dv 46 (k:=Dd (k:=Ya (Zt (k:=?_)))))
           exact fin_ret () (vs := [_]) (Cs := []) rfl (.tmp rfl .nil) rfl trivial ent_pick
         ·
          first | cases h87 | exact absurd rfl h87
          --done
        ·
         first | cases h81 | exact absurd rfl h81
         --done
       ·
        first | cases h73 | exact absurd rfl h73
        --done
      ·
       first | cases h68 | exact absurd rfl h68
       --done
     ·
      first | cases h64 | exact absurd rfl h64
      --done
    ·
     first | cases h59 | exact absurd rfl h59
     --done
   ·
    first | cases h55 | exact absurd rfl h55
    --done
  ·
   first | cases h51 | exact absurd rfl h51
   --done
 ·
  first | cases h48 | exact absurd rfl h48
  --done
end
section
def rgX (i : Nat) : Bs := shaB [114, UInt8.ofNat i]
theorem rgX_0 : rgX 0 = [97, 51, 51, 97, 53, 99, 97, 101, 48, 50, 98, 55, 56, 54, 99, 50, 48, 54, 48, 52, 54, 49, 100, 102, 56, 99, 54, 55, 54, 52, 98, 52, 99, 48, 53, 101, 57, 52, 50, 51] := by rw [rgX, ← shaN_eq]; decide +kernel
theorem rgX_1 : rgX 1 = [99, 99, 53, 56, 53, 54, 52, 57, 99, 56, 54, 55, 55, 56, 57, 56, 52, 101, 51, 54, 99, 97, 54, 54, 50, 102, 56, 102, 97, 101, 97, 51, 52, 97, 101, 54, 55, 56, 57, 50] := by rw [rgX, ← shaN_eq]; decide +kernel
theorem rgX_2 : rgX 2 = [48, 52, 99, 97, 48, 54, 49, 97, 56, 52, 100, 50, 99, 50, 52, 54, 50, 55, 53, 102, 51, 102, 50, 52, 49, 56, 57, 53, 51, 52, 51, 48, 55, 100, 52, 53, 54, 50, 55, 48] := by rw [rgX, ← shaN_eq]; decide +kernel
theorem rgX_3 : rgX 3 = [48, 97, 100, 100, 55, 55, 55, 48, 98, 55, 99, 49, 49, 57, 101, 97, 52, 50, 52, 54, 101, 56, 51, 53, 53, 97, 100, 51, 53, 97, 102, 52, 101, 53, 49, 50, 102, 49, 99, 52] := by rw [rgX, ← shaN_eq]; decide +kernel
theorem rgX_4 : rgX 4 = [52, 50, 98, 52, 55, 53, 51, 54, 100, 101, 102, 98, 53, 56, 52, 57, 99, 99, 54, 52, 51, 49, 54, 49, 52, 98, 50, 50, 48, 102, 49, 98, 51, 57, 51, 50, 50, 57, 57, 57] := by rw [rgX, ← shaN_eq]; decide +kernel
theorem rg_ne {i j : Nat} (hi : i < 5) (hj : j < 5) (h : i ≠ j) : rgX i ≠ rgX j := by
 have a0 := rgX_0; have a1 := rgX_1; have a2 := rgX_2; have a3 := rgX_3; have a4 := rgX_4
 match i, j, hi, hj, h with
 | 0, 0, _, _, h => exact absurd rfl h
 | 1, 1, _, _, h => exact absurd rfl h
 | 2, 2, _, _, h => exact absurd rfl h
 | 3, 3, _, _, h => exact absurd rfl h
 | 4, 4, _, _, h => exact absurd rfl h
 | 0, 1, _, _, _ => rw [a0, a1]; decide
 | 0, 2, _, _, _ => rw [a0, a2]; decide
 | 0, 3, _, _, _ => rw [a0, a3]; decide
 | 0, 4, _, _, _ => rw [a0, a4]; decide
 | 1, 0, _, _, _ => rw [a1, a0]; decide
 | 1, 2, _, _, _ => rw [a1, a2]; decide
 | 1, 3, _, _, _ => rw [a1, a3]; decide
 | 1, 4, _, _, _ => rw [a1, a4]; decide
 | 2, 0, _, _, _ => rw [a2, a0]; decide
 | 2, 1, _, _, _ => rw [a2, a1]; decide
 | 2, 3, _, _, _ => rw [a2, a3]; decide
 | 2, 4, _, _, _ => rw [a2, a4]; decide
 | 3, 0, _, _, _ => rw [a3, a0]; decide
 | 3, 1, _, _, _ => rw [a3, a1]; decide
 | 3, 2, _, _, _ => rw [a3, a2]; decide
 | 3, 4, _, _, _ => rw [a3, a4]; decide
 | 4, 0, _, _, _ => rw [a4, a0]; decide
 | 4, 1, _, _, _ => rw [a4, a1]; decide
 | 4, 2, _, _, _ => rw [a4, a2]; decide
 | 4, 3, _, _, _ => rw [a4, a3]; decide
def rgC (k i : Nat) : Ck := ckMe [rgX ((i + 1) % k)] [] me 0
theorem rgC_right (k i : Nat) : RightK (rgC k i) := right_P (isN_sha _) me_word (by decide)
def rgB (k i : Nat) : Bs := ckB (rgC k i)
def rgL (k : Nat) : List (Bs × Bs) := (List.range k).map fun i => (rgX i, rgB k i)
def rgN (k : Nat) : List Bs := (List.range k).map rgX
theorem rgN_nd {k : Nat} (hk : k ≤ 5) : (rgN k).Nodup := by
 unfold rgN
 rw [List.nodup_iff_pairwise_ne, List.pairwise_map]
 refine List.Pairwise.imp_of_mem ?_ (List.nodup_range (n := k))
 intro a b ha hb hab
 have := List.mem_range.1 ha
 have := List.mem_range.1 hb
 exact rg_ne (by omega) (by omega) hab
theorem rgL_mem {k : Nat} {p : Bs × Bs} : p ∈ rgL k ↔ ∃ i, i < k ∧ p = (rgX i, rgB k i) := by
 unfold rgL
 rw [List.mem_map]
 constructor
 · rintro ⟨i, hi, e⟩; exact ⟨i, List.mem_range.1 hi, e.symm⟩
 · rintro ⟨i, hi, e⟩; exact ⟨i, List.mem_range.2 hi, e.symm⟩
def rgK (k j : Nat) : Ks := (List.range j).map fun i => (rgX i, vS (rgB k i))
theorem rgK_succ {k j : Nat} (hj : j < 5) : mput (rgK k j) (rgX j) (vS (rgB k j)) = rgK k (j + 1) := by
 have hn : rgX j ∉ (rgK k j).map (·.1) := fun hm => by
  unfold rgK at hm
  rw [List.map_map] at hm
  obtain ⟨i, hi, e⟩ := List.mem_map.1 hm
  have := List.mem_range.1 hi
  exact rg_ne (by omega) hj (by omega) e
 have hp : ∀ (ks : Ks), rgX j ∉ ks.map (·.1) → mput ks (rgX j) (vS (rgB k j)) = ks ++ [(rgX j, vS (rgB k j))] := by
  intro ks
  induction ks with
  | nil => intro _; rfl
  | cons p r ih =>
    intro hn
    simp only [List.map_cons, List.mem_cons, not_or] at hn
    rw [mput, if_neg (fun e => hn.1 e.symm), ih hn.2]; rfl
 rw [hp _ hn]
 simp [rgK, List.range_succ]
theorem rg_held {k : Nat} (hk : k ≤ 5) : HeldP (rgK k k) (rgL k) := by
 refine ⟨?_, ?_, fun p hp => ?_⟩
 · unfold rgK rgL
   rw [List.map_map]; exact .refl _
 · have := rgN_nd hk
   unfold rgL
   rw [List.map_map]; exact this
 · obtain ⟨i, hi, rfl⟩ := rgL_mem.1 hp
   have := ckB_len (rgC_right k i)
   show (ckB (rgC k i)).length ≤ _
   omega
theorem wayF_nil (C : List (Bs × Ck)) (tag name : Bs) : ∀ (f : Nat) (n : Bs), wayF C [] tag name f n = none := by
 intro f
 induction f with
 | zero => intro n; rfl
 | succ f ih =>
   intro n
   rw [wayF]
   split
   · rfl
   · rw [llook]; exact ih _
theorem rg_nosd {k : Nat} (hk : k ≤ 5) (s : Sd) : s ∉ sdL (rgK k k) := fun hs => by
 obtain ⟨p, hp, t, ht, _⟩ := (rg_held hk).sd.1 hs
 obtain ⟨i, hi, rfl⟩ := rgL_mem.1 hp
 rw [show (rgX i, rgB k i).2 = ckB (rgC k i) from rfl, opsB_ck (rgC_right k i)] at ht
 cases ht
/-- Ahead of the word. -/
theorem rg_one {k : Nat} (hk : k ≤ 5) (n : Bs) : ofT (cksL (rgK k k)) (lastL (rgK k k)) [116] n = none := by
 rw [(names_none (rg_nosd hk)).1]; exact wayF_nil _ _ _ _ _
/-! With the word. -/
def rgV (sp : Bool) : UInt8 := if sp then 42 else 43
def rgT (sp : Bool) : Ct := ctOne 0 (rgV sp) (rgX 0) [] me
theorem rgT_right (sp : Bool) : RightCt (rgT sp) := ctOne_right (by decide) (by cases sp; exact .inl (by decide); exact .inr (.inl (by decide))) (by decide) (isN_sha _) me_word
def rgL2 (k : Nat) (sp : Bool) : List (Bs × Bs) := rgL k ++ [([107], ctB (rgT sp))]
def rgK2 (k : Nat) (sp : Bool) : Ks := mput (rgK k k) [107] (vS (ctB (rgT sp)))
theorem rg_held2 {k : Nat} (hk : k ≤ 5) (sp : Bool) : HeldP (rgK2 k sp) (rgL2 k sp) := by
 refine (rg_held hk).put (fun hm => ?_) (Nat.le_trans (ctB_len (rgT_right sp)) (by decide))
 obtain ⟨p, hp, e⟩ := List.mem_map.1 hm
 obtain ⟨i, hi, rfl⟩ := rgL_mem.1 hp
 exact sha_ne (by decide) e
def rgS (sp : Bool) : Sd := ⟨⟨rgV sp, [116], rgX 0, []⟩, 0, [107]⟩
theorem rg_sd2 {k : Nat} (hk : k ≤ 5) (sp : Bool) (s : Sd) : s ∈ sdL (rgK2 k sp) ↔ s = rgS sp := by
 rw [(rg_held2 hk sp).sd]
 have e2 := opsB_ct (rgT_right sp) [107]
 constructor
 · rintro ⟨p, hp, t, ht, e⟩
   rcases List.mem_append.1 hp with hp | hp
   · obtain ⟨i, hi, rfl⟩ := rgL_mem.1 hp
     rw [show (rgX i, rgB k i).2 = ckB (rgC k i) from rfl, opsB_ck (rgC_right k i)] at ht
     cases ht
   · rw [List.mem_singleton.1 hp] at ht e
     dsimp only at ht e
     rw [e2] at ht e
     rw [show t = ⟨rgV sp, [116], rgX 0, []⟩ from List.mem_singleton.1 ht] at e
     exact e
 · rintro rfl
   refine ⟨([107], ctB (rgT sp)), by simp [rgL2], ⟨rgV sp, [116], rgX 0, []⟩, ?_, ?_⟩
   · dsimp only; rw [e2]; exact List.mem_singleton.2 rfl
   · dsimp only; rw [e2]; rfl
section
variable {C : List (Bs × Ck)} {l : Ls} {k : Nat} {name : Bs}
theorem ring_step (hC : ∀ i, 1 ≤ i → i < k → clook C (rgX i) = some (rgC k i)) (hl : ∀ i, 1 ≤ i → i < k → llook l ([116], rgX i) = none) : ∀ (n f i : Nat), i + n + 1 = k → 1 ≤ i → wayF C l [116] name (f + (n + 1)) (rgX i) = wayF C l [116] name f (rgX 0) := by
 intro n
 induction n with
 | zero =>
   intro f i hi h1
   rw [show f + (0 + 1) = f + 1 by omega, wayF, hC i h1 (by omega)]
   dsimp only
   rw [hl i h1 (by omega)]
   dsimp only
   rw [show firstB (rgC k i) = rgX ((i + 1) % k) from rfl, show i + 1 = k by omega, Nat.mod_self]
 | succ n ih =>
   intro f i hi h1
   rw [show f + (n + 1 + 1) = f + (n + 1) + 1 by omega, wayF, hC i h1 (by omega)]
   dsimp only
   rw [hl i h1 (by omega)]
   dsimp only
   rw [show firstB (rgC k i) = rgX ((i + 1) % k) from rfl, Nat.mod_eq_of_lt (by omega)]
   exact ih f (i + 1) (by omega) (by omega)
theorem ring_none (hk : 1 ≤ k) (hC : ∀ i, 1 ≤ i → i < k → clook C (rgX i) = some (rgC k i)) (h0 : clook C (rgX 0) = none) (hl : ∀ i, 1 ≤ i → i < k → llook l ([116], rgX i) = none) : ∀ (f i : Nat), i < k → wayF C l [116] name f (rgX i) = none := by
 intro f
 induction f with
 | zero => intro i _; rfl
 | succ f ih =>
   intro i hi
   by_cases e : i = 0
   · subst e; rw [wayF, h0]
   · rw [wayF, hC i (by omega) hi]
     dsimp only
     rw [hl i (by omega) hi]
     dsimp only
     exact ih _ (Nat.mod_lt _ (by omega))
end
theorem rg_last {k : Nat} (hk : k ≤ 5) {K : Ks} {sp : Bool} (hs : ∀ s, s ∈ sdL K ↔ s = rgS sp) : llook (lastL K) ([116], rgX 0) = some (rgS sp) ∧ ∀ i, 1 ≤ i → i < k → llook (lastL K) ([116], rgX i) = none := by
 refine ⟨lastF_one ((hs _).2 rfl) rfl fun o ho _ => (hs o).1 ho, fun i h1 hi => lastF_none fun o ho hk2 => ?_⟩
 rw [(hs o).1 ho] at hk2
 exact rg_ne (i := 0) (j := i) (by omega) (by omega) (by omega) (congrArg Prod.snd hk2)
theorem rg_two {k : Nat} (h1 : 1 ≤ k) (hk : k ≤ 5) (sp : Bool) {i : Nat} (hi : i < k) : (ofT (cksL (rgK2 k sp)) (lastL (rgK2 k sp)) [116] (rgX i)).isSome = (decide (i = 0) || sp) := by
 have h := rg_held2 hk sp
 have hC : ∀ i, i < k → clook (cksL (rgK2 k sp)) (rgX i) = some (rgC k i) := fun i hi => h.ck (s := rgB k i) (List.mem_append_left _ (rgL_mem.2 ⟨i, hi, rfl⟩)) (right_read (rgC_right k i))
 have hnm : ((cksL (rgK2 k sp)).map (·.1)).Perm (rgN k) := h.cnames (rgN_nd hk) fun n => by
  constructor
  · intro hn
    obtain ⟨j, hj, e⟩ := List.mem_map.1 hn
    have hj := List.mem_range.1 hj
    exact ⟨(rgX j, rgB k j), List.mem_append_left _ (rgL_mem.2 ⟨j, hj, rfl⟩), e, by rw [show (rgX j, rgB k j).2 = ckB (rgC k j) from rfl, right_read (rgC_right k j)]; rfl⟩
  · rintro ⟨p, hp, e, hr⟩
    rcases List.mem_append.1 hp with hp | hp
    · obtain ⟨j, hj, rfl⟩ := rgL_mem.1 hp
      exact List.mem_map.2 ⟨j, List.mem_range.2 hj, e⟩
    · rw [List.mem_singleton.1 hp] at hr
      dsimp only at hr
      rw [(ct_read (rgT_right sp)).2] at hr
      cases hr
 have hlen : (cksL (rgK2 k sp)).length = k := by have := hnm.length_eq; simpa [rgN] using this
 obtain ⟨l0, l1⟩ := rg_last hk (rg_sd2 hk sp)
 rw [ofT, hlen]
 by_cases e : i = 0
 · subst e
   have hw : wayF (cksL (rgK2 k sp)) (lastL (rgK2 k sp)) [116] (rgX 0) k (rgX 0) = wayF (cksL (rgK2 k sp)) (lastL (rgK2 k sp)) [116] (rgX 0) ((k - 1) + 1) (rgX 0) := by congr 1; omega
   rw [hw, wayF, hC 0 (by omega)]
   dsimp only
   rw [l0]
   cases sp <;> simp [rgS, rgV]
 · have hst := ring_step (name := rgX i) (fun j _ hj => hC j hj) l1 (k - i - 1) i i (by omega) (by omega)
   rw [show i + (k - i - 1 + 1) = k by omega] at hst
   have hw : wayF (cksL (rgK2 k sp)) (lastL (rgK2 k sp)) [116] (rgX i) i (rgX 0) = wayF (cksL (rgK2 k sp)) (lastL (rgK2 k sp)) [116] (rgX i) ((i - 1) + 1) (rgX 0) := by congr 1; omega
   rw [hst, hw, wayF, hC 0 (by omega)]
   dsimp only
   rw [l0]
   have hne : rgX 0 ≠ rgX i := rg_ne (by omega) (by omega) (by omega)
   cases sp <;> simp [rgS, rgV, hne, e]
/-! The first one no check-in any more. -/
def rgTxt : Bs := [110, 111, 32, 99, 104, 101, 99, 107, 45, 105, 110, 32, 97, 110, 121, 32, 109, 111, 114, 101]
theorem rgTxt_none : readK rgTxt = none ∧ readCt rgTxt = none := by
 have hz : (90 : UInt8) ∉ rgTxt := by decide
 have hc : readC rgTxt = none := readC_none.2 fun l hl => hz (by rw [← hl.2, printB, sealB]; simp)
 refine ⟨the_none fun c hc2 => ?_, the_none fun c hc2 => ?_⟩ <;> (rw [readC_iff.2 hc2.reads] at hc; cases hc)
theorem mput_perm {K R : Ks} {n : Bs} {a v : Value} (hp : K.Perm ((n, a) :: R)) (hn : (K.map (·.1)).Nodup) : (mput K n v).Perm ((n, v) :: R) := by
 have hn2 : (((n, a) :: R).map (·.1)).Nodup := (hp.map (·.1)).nodup_iff.1 hn
 have nd : ∀ {l : Ks}, (l.map (·.1)).Nodup → l.Nodup := fun h => (List.pairwise_map.1 h).imp fun hab e => hab (by rw [e])
 refine (List.perm_ext_iff_of_nodup (nd (mput_nodup hn n v)) (nd (l := (n, v) :: R) hn2)).2 fun p => ?_
 have key : p ∈ mput K n v ↔ mlook (mput K n v) p.1 = some p.2 := ⟨fun h => mlook_of_mem (mput_nodup hn n v) h, fun h => mem_of_mlook h⟩
 rw [key, mlook_mput]
 by_cases e : n = p.1
 · rw [if_pos e]
   constructor
   · intro h
     rw [show p = (n, v) from Prod.ext e.symm (Option.some.inj h).symm]; exact List.mem_cons_self
   · intro h
     rcases List.mem_cons.1 h with h | h
     · rw [h]
     · simp only [List.map_cons, List.nodup_cons] at hn2
       exact absurd (e ▸ List.mem_map_of_mem (f := fun p : Bs × Value => p.1) h) hn2.1
 · rw [if_neg e]
   constructor
   · intro h
     have := hp.mem_iff.1 (mem_of_mlook h)
     rcases List.mem_cons.1 this with h2 | h2
     · exact absurd (congrArg Prod.fst h2).symm e
     · exact List.mem_cons_of_mem _ h2
   · intro h
     rcases List.mem_cons.1 h with h2 | h2
     · exact absurd (congrArg Prod.fst h2).symm e
     · exact mlook_of_mem hn (hp.mem_iff.2 (List.mem_cons_of_mem _ h2))
def rgR (k : Nat) (sp : Bool) : List (Bs × Bs) := (List.range (k - 1)).map (fun i => (rgX (i + 1), rgB k (i + 1))) ++ [([107], ctB (rgT sp))]
theorem rgL2_cons {k : Nat} (h1 : 1 ≤ k) (sp : Bool) : rgL2 k sp = (rgX 0, rgB k 0) :: rgR k sp := by
 obtain ⟨m, rfl⟩ : ∃ m, k = m + 1 := ⟨k - 1, by omega⟩
 unfold rgL2 rgL rgR
 rw [List.range_succ_eq_map]
 simp [List.map_map, Function.comp_def]
def rgK3 (k : Nat) (sp : Bool) : Ks := mput (rgK2 k sp) (rgX 0) (vS rgTxt)
def rgL3 (k : Nat) (sp : Bool) : List (Bs × Bs) := (rgX 0, rgTxt) :: rgR k sp
theorem rg_held3 {k : Nat} (h1 : 1 ≤ k) (hk : k ≤ 5) (sp : Bool) : HeldP (rgK3 k sp) (rgL3 k sp) := by
 have h := rg_held2 hk sp
 have hp := h.perm
 have hnd := h.nd
 have htx := h.tx
 rw [rgL2_cons h1] at hp hnd htx
 refine ⟨mput_perm hp h.knd, hnd, fun p hm => ?_⟩
 rcases List.mem_cons.1 hm with rfl | hm
 · decide
 · exact htx p (List.mem_cons_of_mem _ hm)
theorem rgR_mem {k : Nat} {sp : Bool} {p : Bs × Bs} : p ∈ rgR k sp ↔ (∃ i, 1 ≤ i ∧ i < k ∧ p = (rgX i, rgB k i)) ∨ p = ([107], ctB (rgT sp)) := by
 unfold rgR
 rw [List.mem_append, List.mem_map, List.mem_singleton]
 constructor
 · rintro (⟨i, hi, e⟩ | h)
   · have := List.mem_range.1 hi
     exact .inl ⟨i + 1, by omega, by omega, e.symm⟩
   · exact .inr h
 · rintro (⟨i, h1, hi, e⟩ | h)
   · exact .inl ⟨i - 1, List.mem_range.2 (by omega), by rw [show i - 1 + 1 = i by omega]; exact e.symm⟩
   · exact .inr h
structure RgQ (k : Nat) (sp : Bool) : Prop where
 of : ∀ i, i < k → ofT (cksL (rgK3 k sp)) (lastL (rgK3 k sp)) [116] (rgX i) = none
 t : (tblT (cksL (rgK3 k sp)) (lastL (rgK3 k sp))).length = 0
theorem rg_three {k : Nat} (h1 : 1 ≤ k) (hk : k ≤ 5) (sp : Bool) : RgQ k sp := by
 have h := rg_held3 h1 hk sp
 have hs : ∀ s, s ∈ sdL (rgK3 k sp) ↔ s = rgS sp := fun s => by
  rw [h.sd]
  have e2 := opsB_ct (rgT_right sp) [107]
  constructor
  · rintro ⟨p, hp, t, ht, e⟩
    rcases List.mem_cons.1 hp with rfl | hp
    · exfalso
      rw [opsB, rgTxt_none.1, rgTxt_none.2] at ht
      cases ht
    · rcases rgR_mem.1 hp with ⟨i, _, hi, rfl⟩ | rfl
      · rw [show (rgX i, rgB k i).2 = ckB (rgC k i) from rfl, opsB_ck (rgC_right k i)] at ht
        cases ht
      · dsimp only at ht e
        rw [e2] at ht e
        rw [show t = ⟨rgV sp, [116], rgX 0, []⟩ from List.mem_singleton.1 ht] at e
        exact e
  · rintro rfl
    refine ⟨([107], ctB (rgT sp)), List.mem_cons_of_mem _ (rgR_mem.2 (.inr rfl)), ⟨rgV sp, [116], rgX 0, []⟩, ?_, ?_⟩
    · dsimp only; rw [e2]; exact List.mem_singleton.2 rfl
    · dsimp only; rw [e2]; rfl
 have hC : ∀ i, 1 ≤ i → i < k → clook (cksL (rgK3 k sp)) (rgX i) = some (rgC k i) := fun i hi1 hi => h.ck (s := rgB k i) (List.mem_cons_of_mem _ (rgR_mem.2 (.inl ⟨i, hi1, hi, rfl⟩))) (right_read (rgC_right k i))
 have h0 : clook (cksL (rgK3 k sp)) (rgX 0) = none := h.nock fun p hp e => by
  rcases List.mem_cons.1 hp with rfl | hp
  · exact rgTxt_none.1
  · rcases rgR_mem.1 hp with ⟨i, hi1, hi, rfl⟩ | rfl
    · exact absurd e (rg_ne (by omega) (by omega) (by omega))
    · exact absurd e.symm (sha_ne (t := [107]) (by decide))
 obtain ⟨l0, l1⟩ := rg_last hk hs
 have hof : ∀ i, i < k → ofT (cksL (rgK3 k sp)) (lastL (rgK3 k sp)) [116] (rgX i) = none := fun i hi => ring_none h1 hC h0 l1 _ i hi
 refine ⟨hof, ?_⟩
 have en : namesL (lastL (rgK3 k sp)) = [[116]] := names_one (fun s hm => by rw [(hs s).1 hm]; rfl) ⟨rgS sp, (hs _).2 rfl⟩
 have hnone : ∀ n ∈ (cksL (rgK3 k sp)).map (·.1), ofT (cksL (rgK3 k sp)) (lastL (rgK3 k sp)) [116] n = none := fun n hn => by
  obtain ⟨x, hx, rfl⟩ := List.mem_map.1 hn
  obtain ⟨p, hp, e, hr⟩ := h.cks.1 hx
  rcases List.mem_cons.1 hp with rfl | hp
  · rw [rgTxt_none.1] at hr; cases hr
  · rcases rgR_mem.1 hp with ⟨i, hi1, hi, rfl⟩ | rfl
    · rw [← e]; exact hof i hi
    · dsimp only at hr; rw [(ct_read (rgT_right sp)).2] at hr; cases hr
 rw [tbl_one en (.refl _)]
 generalize (cksL (rgK3 k sp)).map (·.1) = nl at hnone
 induction nl with
 | nil => rfl
 | cons n nl ih =>
   rw [List.map_cons, List.sum_cons, hnone n (by simp), ih fun m hm => hnone m (by simp [hm])]
   rfl
end
section
set_option maxRecDepth 100000
def withinI (n lo hi : Int) : Int := lo + n % (hi - lo + 1)
theorem withinI_in {n lo hi : Int} (h : lo ≤ hi) : lo ≤ withinI n lo hi ∧ withinI n lo hi ≤ hi := by
 have h1 := Int.emod_nonneg n (show hi - lo + 1 ≠ 0 by omega)
 have h2 := Int.emod_lt_of_pos n (show 0 < hi - lo + 1 by omega)
 unfold withinI; omega
theorem tmod_cases (n m : Int) (hm : 1 ≤ m) : (0 ≤ n.tmod m ∧ n.tmod m = n % m ∨ n.tmod m < 0 ∧ n.tmod m + m = n % m) ∧ -m < n.tmod m ∧ n.tmod m < m := by
 have e1 := Int.emod_nonneg n (show m ≠ 0 by omega)
 have e2 := Int.emod_lt_of_pos n (show 0 < m by omega)
 have hd := Int.emod_emod_of_dvd n (Int.dvd_refl m)
 rcases Int.lt_or_le n 0 with h | h
 · have h2 : n.tmod m = -((-n) % m) := by
     have : n = -(-n) := by omega
     conv => lhs; rw [this]
     rw [Int.neg_tmod, Int.tmod_eq_emod_of_nonneg (by omega)]
   have e3 := Int.emod_nonneg (-n) (show m ≠ 0 by omega)
   have e4 := Int.emod_lt_of_pos (-n) (show 0 < m by omega)
   have hs : (n % m + (-n) % m) % m = 0 := by
    rw [← Int.add_emod, Int.add_right_neg, Int.zero_emod]
   by_cases hz : (-n) % m = 0
   · have : n % m = 0 := by
       rw [hz, Int.add_zero, Int.emod_emod_of_dvd n (Int.dvd_refl m)] at hs; exact hs
     rw [h2, hz, this]; omega
   · have hsum : n % m + (-n) % m = m := by
       have hpos : 0 < n % m + (-n) % m := by omega
       have hlt : n % m + (-n) % m < m + m := by omega
       have hge : m ≤ n % m + (-n) % m := by
        apply Classical.byContradiction; intro hc
        rw [Int.emod_eq_of_lt (by omega) (by omega)] at hs
        omega
       have : (n % m + (-n) % m - m) % m = 0 := by rw [Int.sub_emod, hs]; simp
       rw [Int.emod_eq_of_lt (by omega) (by omega)] at this
       omega
     rw [h2]; omega
 · rw [Int.tmod_eq_emod_of_nonneg h]; omega
theorem zb18ret {G : Prop} (h : G := by exact fin_ret () (vs := [_]) rfl (.tmp rfl .nil) (by rw [hw]; exact congrArg vI (by omega)) trivial ent_nil) : G := h
theorem book_Within_sp (n lo hi : Int) (h1 : -1099511627776 ≤ lo) (h2 : lo ≤ hi) (h3 : hi ≤ 1099511627776) : SpF Tryz.prog 18 [vI n, vI lo, vI hi] (vI (withinI n lo hi)) := by
 have hc := tmod_cases n (hi - lo + 1) (by omega)
 have hw : withinI n lo hi = lo + n % (hi - lo + 1) := rfl
 refine Sp.body (n := 24) Tryz.call18 Tryz.func18 rfl rfl rfl ?_
 refine Qc (k:=Vv (k:=Wq (Qc (k:=Qv (k:=Qv (k:=Vv (k:=?_)))))))
 refine wo_pv (pv_remt rfl rfl (by omega)) rfl ?_
 refine Vv (k:=Wq (Za (k:=Qc (k:=Qv (k:=Wq (Zi (t:=fun h14 => ?_) (f:=fun h14 => ?_)))))))
 ·
  refine Zr (k:=Qv (k:=Qv (k:=Qv (k:=Vv (k:=Wq (Qc (k:=Vv (k:=?_))))))))
  refine Qv (k:=Vv (k:=Wq (Zt (k:=?_))))
  exact zb18ret
 ·
  refine Zk (k:=Ya (Qc (k:=Qv (k:=Qv (k:=Wq (Zt (k:=?_)))))))
  exact zb18ret
end
section
set_option maxRecDepth 100000
theorem vUs_rg {i : Nat} (h : i < 5) : ([.int .u8 114, vU (IntKind.u8.wrap (i : Int))] : List Value).take 2 = vUs [114, UInt8.ofNat i] := by
 have e : IntKind.u8.wrap (i : Int) = ((i : Nat) : Int) := (u8_in' (by omega)).trans (by omega)
 rw [e]
 simp [vUs]
 omega
theorem rgN_succ (i : Nat) : rgN (i + 1) = rgN i ++ [rgX i] := by simp [rgN, List.range_succ]
theorem rgN_len (i : Nat) : (rgN i).length = i := by simp [rgN]
theorem rgN_get {k j : Nat} (h : j < k) : (rgN k)[j]'(by rw [rgN_len]; exact h) = rgX j := by simp [rgN]
theorem zb5next3 {G : Prop} (h : G := by exact to_inv ⟨e + 1, by omega⟩ (by dsimp only; omega) ⟨rfl, rfl, rfl, rfl, rfl, rfl, trivial⟩ ent_pick) : G := h
theorem zb5join24 {G : Prop} (h : G := by
    first
    | (have hc : spread = true := by assumption
       subst hc
       exact to_inv () trivial ⟨rfl, rfl, rfl, rfl, trivial⟩ (ent_step (ce_norm (b := b15) (by rfl) (by rfl)) ent_pick))
    | (have hc : spread = false := by assumption
       subst hc
       exact to_inv () trivial ⟨rfl, rfl, rfl, rfl, trivial⟩ (ent_step (ce_norm (b := b15) (by rfl) (by rfl)) ent_pick))) : G := h
set_option maxHeartbeats 8000000 in
theorem TagsRings_sp (nn : Int) (spread : Bool) : Sp1 Tryz.prog 5 [vI nn, vB spread] [] (vB true) [] := by
 obtain ⟨k, hk, hk1, hk5⟩ : ∃ m : Nat, withinI nn 1 5 = (m : Int) ∧ 1 ≤ m ∧ m ≤ 5 := by
  have := withinI_in (n := nn) (lo := 1) (hi := 5) (by omega)
  exact ⟨(withinI nn 1 5).toNat, by omega, by omega, by omega⟩
 have hW := book_Within_sp nn 1 5 (by omega) (by omega) (by omega)
 rw [hk] at hW
 have hnl := rgN_len k
 have h1 := rg_held hk5
 have h2 := rg_held2 hk5 spread
 have h3 := rg_held3 hk1 hk5 spread
 have hl1 : (rgK k k).length ≤ 5 := by rw [h1.len]; simp [rgL]; omega
 have hl2 : (rgK2 k spread).length ≤ 6 := by rw [h2.len]; simp [rgL2, rgL]; omega
 have hl3 : (rgK3 k spread).length ≤ 6 := by rw [h3.len]; simp [rgL3, rgR]; omega
 have q := rg_three hk1 hk5 spread
 refine Sp.body (n := 132) Tryz.call5 Tryz.func5 rfl rfl rfl ?_
 refine Qc (k:=Vv (k:=Wq (Qc (k:=Vv (k:=?_)))))
 refine r_callF hW rfl rfl rfl ?_
 refine Vv (k:=Wq (Qc (k:=Zv [] (cs := []) (k:=fun b26 => Vv (k:=Wq (Za (k:=Qc (k:=Qv (k:=?_)))))))))
 refine Wq (Zb (k:=?_))
 refine p_loop (fun (i : { x : Nat × Option Addr × Nat // x.1 ≤ k }) => [(1, vB spread), (5, vI k), (6, .slice i.1.2.1 i.1.1 i.1.2.2), (27, vI k), (28, vI i.1.1)]) (fun (i : { x : Nat × Option Addr × Nat // x.1 ≤ k }) => [Row 9 1 (.slice i.1.2.1 i.1.1 i.1.2.2) i.1.1 ((rgN i.1.1).map vS)]) (fun (i : { x : Nat × Option Addr × Nat // x.1 ≤ k }) => k - i.1.1) rfl (⟨(0, some ⟨b26, 0, none⟩, 0), Nat.zero_le _⟩) ?_ ?_ (fun i => ?_)
 · exact ⟨rfl, rfl, rfl, rfl, rfl, trivial⟩
 ·
  dsimp only
  simp only [List.length_nil, List.map_nil, show rgN 0 = [] from rfl]
  exact (ent_row (g := b26) (e := 9) (sz := 1) (cur := []) (xs := []) (k := 0) (cap := 0) (Nat.le_refl _) (Nat.zero_le _) rfl rfl rfl).trans ent_pick
 obtain ⟨⟨i, na, nc⟩, hi⟩ := i
 dsimp only at hi ⊢
 have hil := rgN_len i
 try dsimp only
 refine Qc (k:=Vv (k:=Wq (Za (k:=Zi (t:=fun h29 => ?_) (f:=fun h29 => ?_)))))
 ·
  refine Zk (k:=Ya (Za (k:=Zb (k:=Qc (k:=Qv (k:=Wq ?_))))))
  have hik : i < k := by omega
  have hS := ref1_Sum_sp [114, UInt8.ofNat i] (by simp)
  rw [show shaB [114, UInt8.ofNat i] = rgX i from rfl] at hS
  refine Zr (k:=Qv (k:=?_))
  refine wo_pv (pv_conv rfl Tryz.underlying3 Tryz.underlying5) rfl ?_
  refine Zv [_, _] (cs := [_, _]) (k:=fun b34 => ?_)
  refine r_b2s (l := [114, UInt8.ofNat i]) Tryz.underlying48 Tryz.underlying9 Tryz.underlying5 rfl (vUs_rg (by omega)) (by simp) rfl ?_
  refine r_callF hS rfl rfl rfl ?_
  refine Zv [_] (cs := [_]) (k:=fun b37 => ?_)
  refine r_append1 (sz := 1) (bytes := 16) Tryz.underlying23 ti9 rfl rfl rfl rfl rfl rfl rfl (by rfl) (by rfl) (by omega) (by simp only [maxLen]; omega) rfl (fun a38 c38 => ?_)
  refine Vv (k:=Wn (Yb (Ya (Zr (k:=Qv (k:=Wn ?_))))))
  refine to_inv ⟨(i + 1, a38, c38), by dsimp only; omega⟩ (by dsimp only; omega) ⟨rfl, rfl, sl_eq (by simp), rfl, rfl, trivial⟩ ?_
  dsimp only
  rw [rgN_succ]
  simp only [List.length_append, List.length_cons, List.length_nil, Nat.zero_add, List.map_append, List.map_cons, List.map_nil]
  exact ent_pick
 ·
  refine Ze (k:=Xa (Xi (Xb (Ya (Za (k:=?_))))))
  have hik2 : i = k := by omega
  subst hik2
  refine Zr (k:=?_)
  refine r_mkmap rfl (fun b40 => ?_)
  refine Vv (k:=Wq (Za (k:=Qc (k:=Qv (k:=Vv (k:=Wq (Zb (k:=?_))))))))
  refine p_loop (fun (j : { j : Nat // j ≤ i }) => [(1, vB spread), (5, vI i), (6, .slice na i nc), (8, .map (some b40)), (41, .slice na i nc), (42, vI i), (43, vI j.1)]) (fun (j : { j : Nat // j ≤ i }) => [Row 9 1 (.slice na i nc) i ((rgN i).map vS), MapS b40 (rgK i j.1)]) (fun (j : { j : Nat // j ≤ i }) => i - j.1) rfl (⟨0, Nat.zero_le _⟩) ?_ ?_ (fun j => ?_)
  · exact ⟨rfl, rfl, rfl, rfl, rfl, rfl, rfl, trivial⟩
  ·
   dsimp only
   rw [show rgK i 0 = [] from rfl]
   exact ent_pick
  obtain ⟨j, hj⟩ := j
  dsimp only
  try dsimp only
  refine Qc (k:=Vv (k:=Wq (Za (k:=Zi (t:=fun h44 => ?_) (f:=fun h44 => ?_)))))
  ·
   refine Zk (k:=Ya (Za (k:=Zb (k:=Za (k:=?_)))))
   have hji : j < i := by omega
   have hxj := rgN_get hji
   have hm : (j + 1) % i < i := Nat.mod_lt _ (by omega)
   have hxm := rgN_get hm
   have hcl := ckB_len (rgC_right i j)
   have hC := fun b => ref10_me_sp (Bt := SlI none []) (some ⟨b, 0, none⟩) 1 none 0 (rgC_right i j) (Nat.le_refl _) sla_sli
   simp only [show ckB (ckMe [rgX ((j + 1) % i)] [] me 0) = rgB i j from rfl, List.map_cons, List.map_nil, List.length_cons, List.length_nil] at hC
   have hs := rgK_succ (k := i) (j := j) (by omega)
   have hmi : ((j : Int) + 1) % (i : Int) = (((j + 1) % i : Nat) : Int) := rfl
   refine Zr (k:=Vv (k:=Ye 1 (k:=?_)))
   refine r_eload Tryz.underlying9 rfl rfl ((get_map (m := j) (by omega)).trans (by rw [hxj])) rfl ?_
   refine Qv (k:=Wq (Zr (k:=Qv (k:=Qv (k:=Qv (k:=Vv (k:=?_)))))))
   rw [hmi]
   refine r_elemAddr (m := (j + 1) % i) (sz := 1) Tryz.underlying23 ti9 rfl rfl rfl rfl (by omega) (by simp; omega) (Nat.mul_one _) rfl ?_
   refine r_eload Tryz.underlying9 rfl rfl ((get_map (m := (j + 1) % i) (by omega)).trans (by rw [hxm])) rfl ?_
   refine Zv [_] (cs := [_]) (k:=fun b57 => Vx (Ps [vS [], vS [], .int .i64 0, .slice none 0 0, _, .slice none 0 0, _]) (k:=?_))
   refine wo_frzC b57 ?_
   refine wo_ent' sli_nil ?_
   refine r_call1 (hC b57) rfl rfl rfl ?_
   refine r_mapUpdate Tryz.underlying22 Tryz.underlying9 rfl rfl rfl ?_
   refine Wn (Yb (Ya (Zr (k:=Qv (k:=Wn ?_)))))
   refine to_inv ⟨j + 1, by omega⟩ (by dsimp only; omega) ⟨rfl, rfl, rfl, rfl, rfl, rfl, rfl, trivial⟩ ?_
   dsimp only
   rw [← hs]
   exact ent_pick
  ·
   refine Ze (k:=Xa (Xi (Xb (Ya (Za (k:=Za (k:=?_)))))))
   have hji2 : j = i := by omega
   subst hji2
   refine Zr (k:=Qv (k:=Vv (k:=Wq (Zb (k:=?_)))))
   refine p_loop (fun (e : { e : Nat // e ≤ j }) => [(1, vB spread), (6, .slice na j nc), (8, .map (some b40)), (61, .slice na j nc), (62, vI j), (63, vI e.1)]) (fun (e : { e : Nat // e ≤ j }) => [Row 9 1 (.slice na j nc) j ((rgN j).map vS), MapS b40 (rgK j j)]) (fun (e : { e : Nat // e ≤ j }) => j - e.1) rfl (⟨0, Nat.zero_le _⟩) ?_ ?_ (fun e => ?_)
   · exact ⟨rfl, rfl, rfl, rfl, rfl, rfl, trivial⟩
   ·
    exact ent_pick
   obtain ⟨e, he⟩ := e
   dsimp only
   try dsimp only
   refine Qc (k:=Vv (k:=Wq (Za (k:=Zi (t:=fun h64 => ?_) (f:=fun h64 => ?_)))))
   ·
    refine Zk (k:=Ya (Za (k:=Zb (k:=Za (k:=?_)))))
    have hej : e < j := by omega
    have hxe := rgN_get hej
    have hOf := tags_Of_sp b40 (rgK j j) h1.txt h1.knd (by omega) [116] (rgX e) none (rg_one hk5 (rgX e)).symm
    refine Zr (k:=Ye 1 (k:=?_))
    refine r_eload Tryz.underlying9 rfl rfl ((get_map (m := e) (by omega)).trans (by rw [hxe])) rfl ?_
    refine Vv (k:=Wq (Qc (k:=Qv (k:=?_))))
    refine r_call1 hOf rfl rfl rfl ?_
    refine Vv (k:=?_)
    refine wo_pv (pv_extract (v := .agg #[vS [], vS [], vS [], vS [], .bool false, .bool false]) rfl rfl) rfl ?_
    refine wo_pv (pv_extract (v := vB false) rfl rfl) rfl ?_
    refine Zc [vS [], vS [], vS [], vS [], .bool false, .bool false] (k:=fun b13 => Zp (k:=Vv (k:=Wq (Qc (k:=Vv (k:=Wq (Zi (t:=fun h73 => ?_) (f:=fun h73 => ?_))))))))
    ·
     cases h73
     --done
    ·
     refine Zk (k:=Yb (Ya (Zr (k:=Qv (k:=Wn ?_)))))
     exact to_inv ⟨e + 1, by omega⟩ (by dsimp only; omega) ⟨rfl, rfl, rfl, rfl, rfl, rfl, trivial⟩ ent_pick
   ·
    refine Ze (k:=Xa (Xi (Xb (Ya (Za (k:=?_))))))
    have hx0 := rgN_get (k := j) (j := 0) (by omega)
    have hCt := fun b => ref10_ct_sp (Bt := Ce b 27 [vU (rgV spread).toNat, vS [116], vS (rgX 0), vS []]) (some ⟨b, 0, none⟩) 1 (rgT_right spread) sla_ce (tgZ_one (k := rgV spread) (nm := [116]) (tgt := rgX 0) (v := []) (by decide) (Nat.le_of_eq (shaB_len _)) (by decide))
    refine Zr (k:=Vv (k:=?_))
    refine r_elemAddr (m := 0) (sz := 1) Tryz.underlying23 ti9 rfl rfl rfl rfl (by omega) (by simp; omega) (Nat.mul_one _) rfl ?_
    refine r_eload Tryz.underlying9 rfl rfl ((get_map (m := 0) (by omega)).trans (by rw [hx0])) rfl ?_
    refine Vx (Ps [_, _, _, vS []]) (k:=Zc [.int .u8 0, vS [], vS [], vS []] (k:=fun b15 => Zp (k:=Wq ?_)))
    refine p_cut (fun (_ : Unit) => [(1, vB spread), (6, .slice na j nc), (8, .map (some b40)), (15, .pointer (some ⟨b15, 0, none⟩))]) (fun (_ : Unit) => [Ce b15 27 [vU (rgV spread).toNat, vS [116], vS (rgX 0), vS []], Row 9 1 (.slice na j nc) j ((rgN j).map vS), MapS b40 (rgK j j)]) rfl (fun _ => ?_) ?_
    ·
     try dsimp only
     refine Qc (k:=Vv (k:=Zm [_, _, _, _] (k:=Zv [_] (cs := [_, _, _, _]) (k:=fun b83 => Vx (Ps [.int .i64 0, _, _]) (k:=?_)))))
     refine r_call1 (hCt b83) rfl rfl rfl ?_
     refine r_mapUpdate Tryz.underlying22 Tryz.underlying9 rfl rfl rfl ?_
     refine Wq (Za (k:=Qc (k:=Qv (k:=Vv (k:=Wq (Zb (k:=?_)))))))
     refine p_loop (fun (e : { e : Nat // e ≤ j }) => [(1, vB spread), (6, .slice na j nc), (8, .map (some b40)), (86, .slice na j nc), (87, vI j), (88, vI e.1)]) (fun (e : { e : Nat // e ≤ j }) => [Row 9 1 (.slice na j nc) j ((rgN j).map vS), MapS b40 (rgK2 j spread)]) (fun (e : { e : Nat // e ≤ j }) => j - e.1) rfl (⟨0, Nat.zero_le _⟩) ?_ ?_ (fun e => ?_)
     · exact ⟨rfl, rfl, rfl, rfl, rfl, rfl, trivial⟩
     ·
      change Ent (MapS b40 (rgK2 j spread) :: _) _
      exact ent_pick
     obtain ⟨e, he⟩ := e
     dsimp only
     try dsimp only
     refine Qc (k:=Vv (k:=Wq (Za (k:=Zi (t:=fun h89 => ?_) (f:=fun h89 => ?_)))))
     ·
      refine Zk (k:=Ya (Za (k:=Zb (k:=Za (k:=?_)))))
      have hej : e < j := by omega
      have hxe := rgN_get hej
      obtain ⟨y, hy⟩ : ∃ y, y = ofT (cksL (rgK2 j spread)) (lastL (rgK2 j spread)) [116] (rgX e) := ⟨_, rfl⟩
      have hOf := tags_Of_sp b40 (rgK2 j spread) h2.txt h2.knd (by omega) [116] (rgX e) y hy
      have hys : y.isSome = (decide (e = 0) || spread) := by rw [hy]; exact rg_two hk1 hk5 spread hej
      clear hy
      generalize y.getD tgd0 = z2 at hOf
      generalize y.isSome = ok at hOf hys
      obtain ⟨g1, g2, g3, g4, g5, g6⟩ := z2
      refine Zr (k:=Vv (k:=Ye 1 (k:=?_)))
      refine r_eload Tryz.underlying9 rfl rfl ((get_map (m := e) (by omega)).trans (by rw [hxe])) rfl ?_
      refine Qv (k:=Wq (Qc (k:=Qv (k:=?_))))
      refine r_call1 hOf rfl rfl rfl ?_
      refine Vv (k:=?_)
      refine wo_pv (pv_extract (v := .agg #[vS g1, vS g2, vS g3, vS g4, .bool g5, .bool g6]) rfl rfl) rfl ?_
      refine wo_pv (pv_extract (v := vB ok) rfl rfl) rfl ?_
      refine Zc [vS [], vS [], vS [], vS [], .bool false, .bool false] (k:=fun b18 => Zp (k:=Vv (k:=Wq (Qc (k:=Qv (k:=Qv (k:=Gi 3 (t:=fun h102 => ?_) (f:=fun h102 => ?_))))))))
      ·
       refine O1 (k:=P1 (k:=?_))
       refine wo_pv (pv_bneq Tryz.underlying4 rfl rfl) rfl ?_
       refine Wq (Zi (t:=fun h105 => ?_) (f:=fun h105 => ?_))
       ·
        exfalso
        simp_all
        --done
       ·
        refine Zk (k:=Yb (Ya (Zr (k:=Qv (k:=Wn ?_)))))
        exact zb5next3
      ·
       refine J0 (k:=P0 (k:=?_))
       refine wo_pv (pv_bneq Tryz.underlying4 rfl rfl) rfl ?_
       refine Wq (Zi (t:=fun h105 => ?_) (f:=fun h105 => ?_))
       ·
        exfalso
        simp_all
        --done
       ·
        refine Zk (k:=Yb (Ya (Zr (k:=Qv (k:=Wn ?_)))))
        exact zb5next3
     ·
      refine Ze (k:=Xa (Xi (Xb (Ya (Za (k:=?_))))))
      have hx02 := rgN_get (k := j) (j := 0) (by omega)
      refine Zr (k:=Qv (k:=?_))
      refine r_elemAddr (m := 0) (sz := 1) Tryz.underlying23 ti9 rfl rfl rfl rfl (by omega) (by simp; omega) (Nat.mul_one _) rfl ?_
      refine r_eload Tryz.underlying9 rfl rfl ((get_map (m := 0) (by omega)).trans (by rw [hx02])) rfl ?_
      refine r_mapUpdate Tryz.underlying22 Tryz.underlying9 rfl rfl rfl ?_
      refine Wq (Za (k:=Qc (k:=Qv (k:=Vv (k:=Wq (Zb (k:=?_)))))))
      refine p_loop (fun (e : { e : Nat // e ≤ j }) => [(1, vB spread), (8, .map (some b40)), (111, .slice na j nc), (112, vI j), (113, vI e.1)]) (fun (e : { e : Nat // e ≤ j }) => [Row 9 1 (.slice na j nc) j ((rgN j).map vS), MapS b40 (rgK3 j spread)]) (fun (e : { e : Nat // e ≤ j }) => j - e.1) rfl (⟨0, Nat.zero_le _⟩) ?_ ?_ (fun e => ?_)
      · exact ⟨rfl, rfl, rfl, rfl, rfl, trivial⟩
      ·
       change Ent (MapS b40 (rgK3 j spread) :: _) _
       exact ent_pick
      obtain ⟨e, he⟩ := e
      dsimp only
      try dsimp only
      refine Qc (k:=Vv (k:=Wq (Za (k:=Zi (t:=fun h114 => ?_) (f:=fun h114 => ?_)))))
      ·
       refine Zk (k:=Ya (Za (k:=Zb (k:=Za (k:=?_)))))
       have hej : e < j := by omega
       have hxe := rgN_get hej
       have hOf := tags_Of_sp b40 (rgK3 j spread) h3.txt h3.knd (by omega) [116] (rgX e) none (q.of e hej).symm
       refine Zr (k:=Ye 1 (k:=?_))
       refine r_eload Tryz.underlying9 rfl rfl ((get_map (m := e) (by omega)).trans (by rw [hxe])) rfl ?_
       refine Vv (k:=Wq (Qc (k:=Qv (k:=?_))))
       refine r_call1 hOf rfl rfl rfl ?_
       refine Vv (k:=?_)
       refine wo_pv (pv_extract (v := .agg #[vS [], vS [], vS [], vS [], .bool false, .bool false]) rfl rfl) rfl ?_
       refine wo_pv (pv_extract (v := vB false) rfl rfl) rfl ?_
       refine Zc [vS [], vS [], vS [], vS [], .bool false, .bool false] (k:=fun b22 => Zp (k:=Vv (k:=Wq (Qc (k:=Vv (k:=Wq (Zi (t:=fun h123 => ?_) (f:=fun h123 => ?_))))))))
       ·
        cases h123
        --done
       ·
        refine Zk (k:=Yb (Ya (Zr (k:=Qv (k:=Wn ?_)))))
        exact to_inv ⟨e + 1, by omega⟩ (by dsimp only; omega) ⟨rfl, rfl, rfl, rfl, rfl, trivial⟩ ent_pick
      ·
       refine Ze (k:=Xa (Xi (Xb (Ya (Za (k:=?_))))))
       have hTb := tags_Table_sp b40 (rgK3 j spread) h3.txt h3.knd (by omega)
       rw [q.t] at hTb
       refine Zr (k:=Vv (k:=?_))
       refine r_callX hTb rfl rfl rfl (fun x126 _ => ?_)
       refine Qv (k:=Vv (k:=Gi 4 (t:=fun h129 => ?_) (f:=fun h129 => ?_)))
       ·
        refine I1 (k:=?_)
        refine r_call1 TagsRuns_sp rfl rfl rfl ?_
        refine P1 (k:=Vv (k:=Wq (Zt (k:=?_))))
        exact fin_ret () (vs := [_]) (Cs := []) rfl (.tmp rfl .nil) rfl trivial ent_nil
       ·
        exact absurd rfl h129
        --done
    ·
     refine Qc (k:=Vv (k:=Wq (Zi (t:=fun h79 => ?_) (f:=fun h79 => ?_))))
     ·
      refine Zr (k:=Vf 0 5 (k:=Zo (k:=Wn ?_)))
      exact zb5join24
     ·
      refine Zk (k:=?_)
      exact zb5join24
end
end Go.Proofs.YtomgdbanbpjedaaGreat
