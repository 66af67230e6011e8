/- Texts of this proof, put together: SSameS, LawTagsRuns, P18G, P18GL, LawTagsMerge. -/
import Derived.Test.YtomgdbanbpjedaaGreatQ21
set_option linter.unusedVariables false
set_option linter.unusedSimpArgs false
namespace Go.Proofs.YtomgdbanbpjedaaGreat
section
set_option maxRecDepth 100000
theorem picksSelf : ∀ As : List HP, Picks As As []
 | [] => .nil
 | A :: r => .cons .here (picksSelf r)
theorem takeStep {α : Type} {l l' : List α} {j : Nat} (h : j < l.length) (h' : j < l'.length) (e : l.take j = l'.take j) (x : l[j] = l'[j]) : l.take (j + 1) = l'.take (j + 1) := by
 rw [List.take_succ_eq_append_getElem h, List.take_succ_eq_append_getElem h', e, x]
theorem book_SameS_sp {As : List HP} {a a' : Option Addr} (n n' c c' : Nat) (l l' : List Bs) [h1 : RdSl a (l.map vS) As] [h2 : RdSl a' (l'.map vS) As] (hn : l.length = n) (hn' : l'.length = n') (hb : n ≤ 140737488355328) :
    Sp1 Tryz.prog 16 [.slice a n c, .slice a' n' c'] As (vB (decide (l = l'))) As := by
 subst hn; subst hn'
 haveI : PicksC As As [] := ⟨picksSelf As⟩
 refine Sp.body (n := 26) Tryz.call16 Tryz.func16 rfl rfl rfl ?_
 refine Qc (k:=Vv (k:=Wq (Za (k:=Qc (k:=Qv (k:=Qv (k:=Vv (k:=?_))))))))
 refine Wq (Zi (t:=fun h10 => ?_) (f:=fun h10 => ?_))
 ·
  refine Qc (k:=Vv (k:=Wq (Zt (k:=Va ?_))))
  have hn : ¬ l = l' := fun e => h10 (by rw [e])
  exact fin_ret () (vs := [_]) (Cs := []) rfl (.tmp rfl .nil) (by rw [decide_eq_false hn]; rfl) trivial (by rw [List.append_nil]; exact Ent.refl _)
 ·
  refine Zk (k:=Ya (Za (k:=Qc (k:=Vv (k:=Wq (Zb (k:=?_)))))))
  refine p_loop (fun (i : { j : Nat // j ≤ l.length ∧ l.take j = l'.take j }) => [(0, .slice a l.length c), (1, .slice a' l'.length c'), (5, vI i.1)]) (fun (i : { j : Nat // j ≤ l.length ∧ l.take j = l'.take j }) => As) (fun (i : { j : Nat // j ≤ l.length ∧ l.take j = l'.take j }) => l.length - i.1) rfl (⟨0, Nat.zero_le _, rfl⟩) ?_ ?_ (fun i => ?_)
  · exact ⟨rfl, rfl, rfl, trivial⟩
  ·
   exact Ent.refl _
  obtain ⟨j, hj, hw⟩ := i
  try dsimp only
  refine Za (k:=Qc (k:=Qv (k:=Qv (k:=Wq (Zi (t:=fun h14 => ?_) (f:=fun h14 => ?_))))))
  ·
   refine Zk (k:=Ya (Za (k:=Zb (k:=Za (k:=?_)))))
   have hjl : j < l.length := by omega
   have hjl' : j < l'.length := by omega
   refine d_draw rfl rfl rfl As ?_
   refine Dv 0 (k:=Dv 1 (k:=?_))
   refine d_first 2 rfl rfl rfl (by kernel_rfl) (by kernel_rfl) (tl_elemAddr (sz := 1) Tryz.underlying23 ti9 rfl rfl rfl rfl (by omega) (by first | (rw [List.length_map]; omega) | (rw [flat_len (sz := 1) (fun _ => rfl)]; omega) | (simp; omega)) (Nat.mul_one _)) ?_
   refine d_first 3 rfl rfl rfl (by kernel_rfl) (by kernel_rfl) (tl_eload Tryz.underlying9 rfl rfl (get_map (m := j) (by omega))) ?_
   refine Dv 4 (k:=Dv 5 (k:=?_))
   refine d_first 6 rfl rfl rfl (by kernel_rfl) (by kernel_rfl) (tl_elemAddr (sz := 1) Tryz.underlying23 ti9 rfl rfl rfl rfl (by omega) (by first | (rw [List.length_map]; omega) | (rw [flat_len (sz := 1) (fun _ => rfl)]; omega) | (simp; omega)) (Nat.mul_one _)) ?_
   refine d_first 7 rfl rfl rfl (by kernel_rfl) (by kernel_rfl) (tl_eload Tryz.underlying9 rfl rfl (get_map (m := j) (by omega))) ?_
   refine Dv 8 (k:=Dd (k:=Ya (Zi (t:=fun h25 => ?_) (f:=fun h25 => ?_))))
   ·
    refine Qc (k:=Vv (k:=Wq (Zt (k:=Vb (Va (Vi (Vb (Va ?_))))))))
    have hn : ¬ l = l' := fun e => by subst e; exact h25 rfl
    exact fin_ret () (vs := [_]) (Cs := []) rfl (.tmp rfl .nil) (by rw [decide_eq_false hn]; rfl) trivial (by rw [List.append_nil]; exact Ent.refl _)
   ·
    refine Zk (k:=Yb (Ya (Zr (k:=Qv (k:=Vv (k:=Wn ?_))))))
    have hx : l[j] = l'[j] := Decidable.byContradiction h25
    exact to_inv ⟨j + 1, by omega, takeStep hjl hjl' hw hx⟩ (by dsimp only; omega) ⟨rfl, rfl, rfl, trivial⟩ (by rw [List.append_nil]; exact Ent.refl _)
  ·
   refine Ze (k:=Xa (Xi (Xb (Ya (Qc (k:=Vv (k:=Wq (Zt (k:=?_)))))))))
   have hjl : j = l.length := by omega
   subst hjl
   have he : l = l' := by
    have e1 : l'.length = l.length := by omega
    rw [List.take_length, ← e1, List.take_length] at hw
    exact hw
   exact fin_ret () (vs := [_]) (Cs := []) rfl (.tmp rfl .nil) (by rw [decide_eq_true he]; rfl) trivial (by rw [List.append_nil]; exact Ent.refl _)
end
section
set_option maxRecDepth 100000
set_option maxHeartbeats 8000000 in
theorem TagsRuns_sp : Sp1 Tryz.prog 3 [] [] (vB true) [] := by
 refine Sp.body (n := 93) Tryz.call3 Tryz.func3 rfl rfl rfl ?_
 refine Qc (k:=Vv (k:=Wq (Qc (k:=Vx (Ps [_, _, _, _]) (k:=Zv [_] (cs := [_, _, _, _]) (k:=fun b11 => ?_))))))
 refine wo_ent' (ce_norm (b := b11) (T := 27) (l' := opsR.flatMap tgCells) (by rfl) (by rfl)) ?_
 refine r_callX (law18_chain_sp (Bt := Ce b11 27 (opsR.flatMap tgCells)) (some ⟨b11, 0, none⟩) 1 opsR opsR_right tgD_opsR sla_ce) rfl rfl rfl (fun x12 hx12 => ?_)
 obtain ⟨⟨m, K⟩, bl⟩ := x12
 dsimp only at hx12 ⊢
 have hh := rn_held tgD_opsR hx12
 have hrun := run_ok tgD_opsR hh
 have hl : (mput K [107] (vS (ctB ctR))).length ≤ 4 := by rw [hh.len]; decide
 have hOx := tags_Of_sp m _ hh.txt hh.knd (by omega) [116] (tgX opsR) _ hrun.x.symm
 have hOy := tags_Of_sp m _ hh.txt hh.knd (by omega) [116] (tgY opsR) _ hrun.y.symm
 have hOz := tags_Of_sp m _ hh.txt hh.knd (by omega) [116] (tgZ opsR) _ hrun.z.symm
 have hTb := tags_Table_sp m _ hh.txt hh.knd (by omega)
 have hNm := tags_Names_sp m _ hh.txt (by omega)
 have hCt := fun b => ref10_ct_sp (Bt := Ce b 27 (ctR.tags.flatMap tgCells)) (some ⟨b, 0, none⟩) 1 ctR_right sla_ce (tgZ_one (k := 45) (nm := [116]) (tgt := tgZ opsR) (v := []) (by decide) (Nat.le_of_eq (shaB_len _)) (by decide))
 rw [hrun.t] at hTb
 rw [hrun.n] at hNm
 rw [show ctR = ctOne 3 45 (tgZ opsR) [] me from rfl] at *
 obtain ⟨H, hH⟩ : ∃ H, H = mput K [107] (vS (ctB (ctOne 3 45 (tgZ opsR) [] me))) := ⟨_, rfl⟩
 rw [← hH] at hOx hOy hOz hTb hNm
 refine Vv (k:=?_)
 refine wo_pv (pv_extract (v := .map (some m)) rfl rfl) rfl ?_
 refine wo_pv (pv_extract (v := .slice (some ⟨bl, 0, none⟩) 3 3) rfl rfl) rfl ?_
 refine Qv (k:=Wq (Qc (k:=Qv (k:=?_))))
 refine r_elemAddr (m := 2) (sz := 1) Tryz.underlying23 ti9 rfl rfl rfl rfl (by omega) (by simp) (Nat.mul_one _) rfl ?_
 refine r_eload Tryz.underlying9 rfl rfl rfl rfl ?_
 refine Vx (Ps [_, _, _, vS []]) (k:=Zv [_] (cs := [_, _, _, _]) (k:=fun b20 => Vx (Ps [_, _, _]) (k:=?_)))
 refine wo_ent' (ce_norm (b := b20) (T := 27) (l' := (ctOne 3 45 (tgZ opsR) [] me).tags.flatMap tgCells) (by rfl) (by rfl)) ?_
 refine r_call1 (hCt b20) rfl rfl rfl ?_
 refine r_mapUpdate Tryz.underlying22 Tryz.underlying9 rfl rfl rfl ?_
 rw [← hH]
 refine Wq (Qc (k:=Qv (k:=?_)))
 refine r_elemAddr (m := 0) (sz := 1) Tryz.underlying23 ti9 rfl rfl rfl rfl (by omega) (by simp) (Nat.mul_one _) rfl ?_
 refine r_eload Tryz.underlying9 rfl rfl rfl rfl ?_
 refine r_call1 hOx rfl rfl rfl ?_
 refine Vv (k:=?_)
 refine wo_pv (pv_extract (v := .agg #[vS [116], vS (tgX opsR), vS [118], vS (tgX opsR), .bool true, .bool true]) rfl rfl) rfl ?_
 refine wo_pv (pv_extract (v := vB true) rfl rfl) rfl ?_
 refine Zc [vS [], vS [], vS [], vS [], .bool false, .bool false] (k:=fun b3 => Zp (k:=Vv (k:=Wq (Qc (k:=Qv (k:=?_))))))
 refine r_elemAddr (m := 1) (sz := 1) Tryz.underlying23 ti9 rfl rfl rfl rfl (by omega) (by simp) (Nat.mul_one _) rfl ?_
 refine r_eload Tryz.underlying9 rfl rfl rfl rfl ?_
 refine r_call1 hOy rfl rfl rfl ?_
 refine Vv (k:=?_)
 refine wo_pv (pv_extract (v := .agg #[vS [116], vS (tgY opsR), vS [118], vS (tgX opsR), .bool true, .bool false]) rfl rfl) rfl ?_
 refine wo_pv (pv_extract (v := vB true) rfl rfl) rfl ?_
 refine Zc [vS [], vS [], vS [], vS [], .bool false, .bool false] (k:=fun b5 => Zp (k:=Vv (k:=Wq (Qc (k:=Qv (k:=?_))))))
 refine r_elemAddr (m := 2) (sz := 1) Tryz.underlying23 ti9 rfl rfl rfl rfl (by omega) (by simp) (Nat.mul_one _) rfl ?_
 refine r_eload Tryz.underlying9 rfl rfl rfl rfl ?_
 refine r_call1 hOz rfl rfl rfl ?_
 refine Vv (k:=?_)
 refine wo_pv (pv_extract (v := .agg #[vS [], vS [], vS [], vS [], .bool false, .bool false]) rfl rfl) rfl ?_
 refine wo_pv (pv_extract (v := vB false) rfl rfl) rfl ?_
 refine Zc [vS [], vS [], vS [], vS [], .bool false, .bool false] (k:=fun b7 => Zp (k:=Vv (k:=Wq (Za (k:=Dw [Ce b3 33 [vS [116], vS (tgX opsR), vS [118], vS (tgX opsR), .bool true, .bool true], Ce b5 33 [vS [116], vS (tgY opsR), vS [118], vS (tgX opsR), .bool true, .bool false], Ce bl 9 [vS (tgX opsR), vS (tgY opsR), vS (tgZ opsR)]] (k:=?_))))))
 refine Dv 0 (k:=Dv 1 (k:=Gd 1 (t:=fun h48 => ?_) (f:=fun h48 => ?_)))
 ·
  refine Di 2 (t:=U1 (h:=Uv)) (k:=DP1 3 (k:=Dv 4 (k:=Gd 4 (t:=fun h51 => ?_) (f:=fun h51 => ?_))))
  ·
   refine Di 5 (t:=U1 (h:=Uv)) (k:=Di 6 (t:=U1 (h:=Uv)) (k:=DP1 7 (k:=Dv 8 (k:=Gd 8 (t:=fun h55 => ?_) (f:=fun h55 => ?_)))))
   ·
    refine Di 9 (t:=U1 (h:=Uf 5 4)) (k:=Di 10 (t:=U1 (h:=Ul)) (k:=DP1 11 (k:=Dv 12 (k:=Gd 12 (t:=fun h59 => ?_) (f:=fun h59 => ?_)))))
    ·
     refine Di 13 (t:=U1 (h:=Uf 5 4)) (k:=Di 14 (t:=U1 (h:=Ul)) (k:=Di 15 (t:=U1 (h:=Uv)) (k:=DP1 16 (k:=Dv 17 (k:=Gd 17 (t:=fun h64 => ?_) (f:=fun h64 => ?_))))))
     ·
      refine Di 18 (t:=U1 (h:=Uf 4 4)) (k:=Di 19 (t:=U1 (h:=Ul)) (k:=DP1 20 (k:=Dv 21 (k:=Gd 21 (t:=fun h68 => ?_) (f:=fun h68 => ?_)))))
      ·
       refine Di 22 (t:=U1 (h:=Uf 2 9)) (k:=Di 23 (t:=U1 (h:=Ul)) (k:=Di 24 (t:=U1 (h:=Uv)) (k:=DP1 25 (k:=Dv 26 (k:=Gd 26 (t:=fun h73 => ?_) (f:=fun h73 => ?_))))))
       ·
        refine Di 27 (t:=U1 (h:=Uf 3 9)) (k:=Di 28 (t:=U1 (h:=Ul)) (k:=Di 29 (t:=U1 (h:=Uv)) (k:=?_)))
        refine d_first 30 rfl rfl rfl (by kernel_rfl) (by kernel_rfl) (tl_in (b := true) rfl (tl_elemAddr (m := 0) (sz := 1) Tryz.underlying23 ti9 rfl rfl rfl rfl (by omega) (by simp) (Nat.mul_one _))) ?_
        refine d_first 31 rfl rfl rfl (by kernel_rfl) (by kernel_rfl) (tl_in (b := true) rfl (tl_eload Tryz.underlying9 rfl rfl rfl)) ?_
        refine Di 32 (t:=U1 (h:=Uv)) (k:=DP1 33 (k:=Dv 34 (k:=Gd 34 (t:=fun h81 => ?_) (f:=fun h81 => ?_))))
        ·
         refine Di 35 (t:=U1 (h:=Uv)) (k:=Dn 36 (k:=?_))
         refine an_in (b := true) rfl ?_
         refine an_callX hTb rfl rfl rfl (fun x83 _ => ?_)
         refine Di 37 (t:=U1 (h:=Uv)) (k:=Di 38 (t:=U1 (h:=Uv)) (k:=DP1 39 (k:=Dv 40 (k:=Gd 40 (t:=fun h87 => ?_) (f:=fun h87 => ?_)))))
         ·
          refine Di 41 (t:=U1 (h:=Uv)) (k:=?_)
          refine d_next2 42 43 (by kernel_rfl) rfl rfl ?_ ?_
          ·
           refine an_in (b := true) rfl ?_
           refine an_callX hNm rfl rfl rfl (fun x89 _ => ?_)
           refine Dn 43 (k:=?_)
           refine an_in (b := true) rfl ?_
           refine Nl [_] (cs := [_]) (k:=fun b90 => Dn 44 (k:=?_))
           skip
           refine an_in (b := true) rfl ?_
           refine an_call1 (book_SameS_sp (As := [Row 9 1 (.slice x89.1 1 x89.2) 1 (([[116]] : List Bs).map vS), Ce b90 9 [vS [116]]]) 1 1 x89.2 1 [[116]] [[116]] rfl rfl (by decide)) rfl rfl rfl ?_
           refine DP1 45 (k:=Dv 46 (k:=Dd (k:=Ya (Zt (k:=?_)))))
           exact fin_ret () (vs := [_]) (Cs := []) rfl (.tmp rfl .nil) rfl trivial ent_pick
          ·
           refine an_in (b := true) rfl ?_
           refine Nl [_] (cs := [_]) (k:=fun b90 => Dn 42 (k:=?_))
           refine an_in (b := true) rfl ?_
           refine an_callX hNm rfl rfl rfl (fun x89 _ => ?_)
           refine Dn 44 (k:=?_)
           skip
           refine an_in (b := true) rfl ?_
           refine an_call1 (book_SameS_sp (As := [Row 9 1 (.slice x89.1 1 x89.2) 1 (([[116]] : List Bs).map vS), Ce b90 9 [vS [116]]]) 1 1 x89.2 1 [[116]] [[116]] rfl rfl (by decide)) rfl rfl rfl ?_
           refine DP1 45 (k:=Dv 46 (k:=Dd (k:=Ya (Zt (k:=?_)))))
           exact fin_ret () (vs := [_]) (Cs := []) rfl (.tmp rfl .nil) rfl trivial ent_pick
         ·
          first | cases h87 | exact absurd rfl h87
          --done
        ·
         first | cases h81 | exact absurd rfl h81
         --done
       ·
        first | cases h73 | exact absurd rfl h73
        --done
      ·
       first | cases h68 | exact absurd rfl h68
       --done
     ·
      first | cases h64 | exact absurd rfl h64
      --done
    ·
     first | cases h59 | exact absurd rfl h59
     --done
   ·
    first | cases h55 | exact absurd rfl h55
    --done
  ·
   first | cases h51 | exact absurd rfl h51
   --done
 ·
  first | cases h48 | exact absurd rfl h48
  --done
end
section
def you : Bs := [121, 111, 117]
def tsO (f : Bool) : List Tg := if f then opsR else []
theorem tsO_right (f : Bool) : RightT true (tsO f) := by cases f; exact right_t0; exact opsR_right
def mgA (f : Bool) : Bs := ckB (ckMe [] (tsO f) me 0)
def mgX (f : Bool) : Bs := shaB (mgA f)
def mgB (s : Bool) : Bs := ckB (ckMe [] (tsO s) you 0)
def mgY (s : Bool) : Bs := shaB (mgB s)
def mgC (f s : Bool) : Bs := ckB (ckMe [mgX f, mgY s] [] me 4)
def mgZ (f s : Bool) : Bs := shaB (mgC f s)
structure MgD (f s : Bool) : Prop where
 xy : mgX f ≠ mgY s
 xz : mgX f ≠ mgZ f s
 yz : mgY s ≠ mgZ f s
theorem mgA_right (f : Bool) : RightK (ckMe [] (tsO f) me 0) := right_me (by simp) List.nodup_nil (by decide) (tsO_right f) me_word (by decide)
theorem mgB_right (s : Bool) : RightK (ckMe [] (tsO s) you 0) := right_me (by simp) List.nodup_nil (by decide) (tsO_right s) (by decide) (by decide)
theorem mgC_right {f s : Bool} (d : MgD f s) : RightK (ckMe [mgX f, mgY s] [] me 4) := right_me (by
 intro p hp
 simp only [List.mem_cons, List.not_mem_nil, or_false] at hp
 rcases hp with rfl | rfl <;> exact isN_sha _) (by simp [d.xy]) (by simp) right_t0 me_word (by decide)
def mgL (f s : Bool) : List (Bs × Bs) := [(mgX f, mgA f), (mgY s, mgB s), (mgZ f s, mgC f s)]
def mgS (x : Bs) : Sd := ⟨⟨42, [116], x, [118]⟩, 0, x⟩
section
variable {f s : Bool} (d : MgD f s)
include d
theorem mg_held {K : Ks} (hp : K.Perm ((mgL f s).map fun p => (p.1, vS p.2))) : HeldP K (mgL f s) := by
 refine ⟨hp, by simp [mgL, d.xy, d.xz, d.yz], fun p hp => ?_⟩
 have h1 := ckB_len (mgA_right f)
 have h2 := ckB_len (mgB_right s)
 have h3 := ckB_len (mgC_right d)
 simp only [mgL, List.mem_cons, List.not_mem_nil, or_false] at hp
 rcases hp with rfl | rfl | rfl
 · show (ckB (ckMe [] (tsO f) me 0)).length ≤ _; omega
 · show (ckB (ckMe [] (tsO s) you 0)).length ≤ _; omega
 · show (ckB (ckMe [mgX f, mgY s] [] me 4)).length ≤ _; omega
theorem mg_sd {K : Ks} (h : HeldP K (mgL f s)) (o : Sd) : o ∈ sdL K ↔ (f = true ∧ o = mgS (mgX f)) ∨ (s = true ∧ o = mgS (mgY s)) := by
 rw [h.sd]
 have e1 := opsB_ck (mgA_right f) (mgX f)
 have e2 := opsB_ck (mgB_right s) (mgY s)
 have e3 := opsB_ck (mgC_right d) (mgZ f s)
 simp only [mgL, List.mem_cons, List.not_mem_nil, or_false, exists_eq_or_imp, exists_eq_left]
 rw [show mgA f = ckB (ckMe [] (tsO f) me 0) from rfl, show mgB s = ckB (ckMe [] (tsO s) you 0) from rfl, show mgC f s = ckB (ckMe [mgX f, mgY s] [] me 4) from rfl, e1, e2, e3]
 simp only [ckMe, List.map_nil, List.not_mem_nil, false_and, exists_false, or_false]
 have key : ∀ (g : Bool) (x : Bs), (∃ t, t ∈ (tsO g).map (fun t : Tg => { t with target := x }) ∧ o = ⟨t, 0, x⟩) ↔ (g = true ∧ o = mgS x) := by
  intro g x
  cases g
  · simp [tsO]
  · simp [tsO, opsR, mgS]
 rw [key f (mgX f), key s (mgY s)]
structure MgP (f s : Bool) (K : Ks) : Prop where
 of : ofT (cksL K) (lastL K) [116] (mgZ f s) = if f then some ⟨[116], mgZ f s, [118], mgX f, true, false⟩ else none
 n : (tblT (cksL K) (lastL K)).length = (if f then 2 else 0) + (if s then 1 else 0)
theorem mg_ok {K : Ks} (h : HeldP K (mgL f s)) : MgP f s K := by
 have hx : clook (cksL K) (mgX f) = some (ckMe [] (tsO f) me 0) := h.ck (s := mgA f) (by simp [mgL]) (right_read (mgA_right f))
 have hy : clook (cksL K) (mgY s) = some (ckMe [] (tsO s) you 0) := h.ck (s := mgB s) (by simp [mgL]) (right_read (mgB_right s))
 have hz : clook (cksL K) (mgZ f s) = some (ckMe [mgX f, mgY s] [] me 4) := h.ck (s := mgC f s) (by simp [mgL]) (right_read (mgC_right d))
 have h0 : clook (cksL K) [] = none := h.nock fun p hp e => by
  simp only [mgL, List.mem_cons, List.not_mem_nil, or_false] at hp
  rcases hp with rfl | rfl | rfl <;> exact absurd e (sha_ne (by decide))
 have hnm : ((cksL K).map (·.1)).Perm [mgX f, mgY s, mgZ f s] := h.cnames (by simp [d.xy, d.xz, d.yz]) fun n => by
  have r1 := right_read (mgA_right f)
  have r2 := right_read (mgB_right s)
  have r3 := right_read (mgC_right d)
  simp only [mgL, List.mem_cons, List.not_mem_nil, or_false, exists_eq_or_imp, exists_eq_left]
  rw [show mgA f = ckB (ckMe [] (tsO f) me 0) from rfl, show mgB s = ckB (ckMe [] (tsO s) you 0) from rfl, show mgC f s = ckB (ckMe [mgX f, mgY s] [] me 4) from rfl, r1, r2, r3]
  simp [eq_comm]
 have hlen : (cksL K).length = 3 := by have := hnm.length_eq; rwa [List.length_map] at this
 have hsd := mg_sd d h
 have lx : llook (lastL K) ([116], mgX f) = if f then some (mgS (mgX f)) else none := by
  cases hf : f with
  | true =>
    subst hf
    exact lastF_one ((hsd _).2 (.inl ⟨rfl, rfl⟩)) rfl fun o ho hk => by
     rcases (hsd o).1 ho with ⟨_, rfl⟩ | ⟨_, rfl⟩
     · rfl
     · exact absurd (congrArg Prod.snd hk) (fun e => d.xy (by exact e.symm))
  | false =>
    subst hf
    exact lastF_none fun o ho hk => by
     rcases (hsd o).1 ho with ⟨hc, _⟩ | ⟨_, rfl⟩
     · cases hc
     · exact absurd (congrArg Prod.snd hk) (fun e => d.xy (by exact e.symm))
 have ly : llook (lastL K) ([116], mgY s) = if s then some (mgS (mgY s)) else none := by
  cases hs : s with
  | true =>
    subst hs
    exact lastF_one ((hsd _).2 (.inr ⟨rfl, rfl⟩)) rfl fun o ho hk => by
     rcases (hsd o).1 ho with ⟨_, rfl⟩ | ⟨_, rfl⟩
     · exact absurd (congrArg Prod.snd hk) (fun e => d.xy (by exact e))
     · rfl
  | false =>
    subst hs
    exact lastF_none fun o ho hk => by
     rcases (hsd o).1 ho with ⟨_, rfl⟩ | ⟨hc, _⟩
     · exact absurd (congrArg Prod.snd hk) (fun e => d.xy (by exact e))
     · cases hc
 have lz : llook (lastL K) ([116], mgZ f s) = none := lastF_none fun o ho hk => by
  rcases (hsd o).1 ho with ⟨_, rfl⟩ | ⟨_, rfl⟩
  · exact absurd (congrArg Prod.snd hk) (fun e => d.xz (by exact e))
  · exact absurd (congrArg Prod.snd hk) (fun e => d.yz (by exact e))
 have ez : ofT (cksL K) (lastL K) [116] (mgZ f s) = if f then some ⟨[116], mgZ f s, [118], mgX f, true, false⟩ else none := by
  rw [ofT, hlen, wayF, hz]
  dsimp only
  rw [lz]
  dsimp only
  rw [show firstB (ckMe [mgX f, mgY s] [] me 4) = mgX f from rfl, wayF, hx]
  dsimp only
  rw [lx]
  cases f with
  | true => simp [mgS, d.xz]
  | false =>
    simp only [Bool.false_eq_true, if_false]
    rw [show firstB (ckMe [] (tsO false) me 0) = [] from rfl, wayF, h0]
 have ex : ofT (cksL K) (lastL K) [116] (mgX f) = if f then some ⟨[116], mgX f, [118], mgX f, true, true⟩ else none := by
  rw [ofT, hlen, wayF, hx]
  dsimp only
  rw [lx]
  cases f with
  | true => simp [mgS]
  | false =>
    simp only [Bool.false_eq_true, if_false]
    rw [show firstB (ckMe [] (tsO false) me 0) = [] from rfl, wayF, h0]
 have ey : ofT (cksL K) (lastL K) [116] (mgY s) = if s then some ⟨[116], mgY s, [118], mgY s, true, true⟩ else none := by
  rw [ofT, hlen, wayF, hy]
  dsimp only
  rw [ly]
  cases s with
  | true => simp [mgS]
  | false =>
    simp only [Bool.false_eq_true, if_false]
    rw [show firstB (ckMe [] (tsO false) you 0) = [] from rfl, wayF, h0]
 refine ⟨ez, ?_⟩
 by_cases hfs : f = true ∨ s = true
 · have en : namesL (lastL K) = [[116]] := names_one (fun o ho => by rcases (hsd o).1 ho with ⟨_, rfl⟩ | ⟨_, rfl⟩ <;> rfl) (by
     rcases hfs with h | h
     · exact ⟨mgS (mgX f), (hsd _).2 (.inl ⟨h, rfl⟩)⟩
     · exact ⟨mgS (mgY s), (hsd _).2 (.inr ⟨h, rfl⟩)⟩)
   rw [tbl_one en hnm]
   simp only [List.map_cons, List.map_nil, ex, ey, ez]
   cases f <;> cases s <;> rfl
 · have hff : f = false := by cases f with | true => exact absurd (.inl rfl) hfs | false => rfl
   have hss : s = false := by cases s with | true => exact absurd (.inr rfl) hfs | false => rfl
   have en := (names_none (K := K) fun o ho => by
    rcases (hsd o).1 ho with ⟨hc, _⟩ | ⟨hc, _⟩
    · rw [hff] at hc; cases hc
    · rw [hss] at hc; cases hc).2
   rw [tbl_none en, hff, hss]; rfl
end
end
section
set_option maxRecDepth 100000
theorem mA1_b : bodyB (ckCards (ckMe [] (tsO true) me 0)) = [67, 32, 46, 10, 68, 32, 48, 10, 84, 32, 42, 116, 32, 42, 32, 118, 10, 85, 32, 109, 101, 10] := by decide +kernel
theorem mA1_s : shaN [67, 32, 46, 10, 68, 32, 48, 10, 84, 32, 42, 116, 32, 42, 32, 118, 10, 85, 32, 109, 101, 10] = [97, 52, 50, 54, 48, 102, 53, 57, 51, 57, 48, 57, 100, 101, 100, 56, 49, 101, 52, 100, 51, 102, 99, 50, 48, 101, 52, 48, 51, 97, 57, 102, 54, 57, 97, 48, 99, 49, 49, 100] := by decide +kernel
theorem mA1_t : ckB (ckMe [] (tsO true) me 0) = [67, 32, 46, 10, 68, 32, 48, 10, 84, 32, 42, 116, 32, 42, 32, 118, 10, 85, 32, 109, 101, 10, 90, 32, 97, 52, 50, 54, 48, 102, 53, 57, 51, 57, 48, 57, 100, 101, 100, 56, 49, 101, 52, 100, 51, 102, 99, 50, 48, 101, 52, 48, 51, 97, 57, 102, 54, 57, 97, 48, 99, 49, 49, 100, 10] := by rw [ckB, printB, mA1_b, sealB, ← shaN_eq, mA1_s]; rfl
theorem mA1_x : shaB (ckB (ckMe [] (tsO true) me 0)) = [102, 50, 52, 50, 52, 53, 56, 48, 54, 54, 51, 52, 56, 48, 99, 55, 99, 49, 54, 57, 101, 51, 101, 49, 55, 99, 53, 48, 55, 57, 100, 57, 50, 100, 55, 53, 98, 54, 98, 53] := by rw [mA1_t, ← shaN_eq]; decide +kernel
theorem mgX_1 : mgX true = [102, 50, 52, 50, 52, 53, 56, 48, 54, 54, 51, 52, 56, 48, 99, 55, 99, 49, 54, 57, 101, 51, 101, 49, 55, 99, 53, 48, 55, 57, 100, 57, 50, 100, 55, 53, 98, 54, 98, 53] := mA1_x
theorem mB1_b : bodyB (ckCards (ckMe [] (tsO true) you 0)) = [67, 32, 46, 10, 68, 32, 48, 10, 84, 32, 42, 116, 32, 42, 32, 118, 10, 85, 32, 121, 111, 117, 10] := by decide +kernel
theorem mB1_s : shaN [67, 32, 46, 10, 68, 32, 48, 10, 84, 32, 42, 116, 32, 42, 32, 118, 10, 85, 32, 121, 111, 117, 10] = [98, 54, 50, 97, 101, 50, 56, 99, 102, 97, 49, 56, 52, 102, 99, 54, 101, 101, 54, 56, 51, 54, 99, 50, 101, 102, 51, 98, 49, 56, 57, 55, 98, 98, 48, 50, 100, 56, 100, 51] := by decide +kernel
theorem mB1_t : ckB (ckMe [] (tsO true) you 0) = [67, 32, 46, 10, 68, 32, 48, 10, 84, 32, 42, 116, 32, 42, 32, 118, 10, 85, 32, 121, 111, 117, 10, 90, 32, 98, 54, 50, 97, 101, 50, 56, 99, 102, 97, 49, 56, 52, 102, 99, 54, 101, 101, 54, 56, 51, 54, 99, 50, 101, 102, 51, 98, 49, 56, 57, 55, 98, 98, 48, 50, 100, 56, 100, 51, 10] := by rw [ckB, printB, mB1_b, sealB, ← shaN_eq, mB1_s]; rfl
theorem mB1_x : shaB (ckB (ckMe [] (tsO true) you 0)) = [51, 52, 52, 102, 55, 55, 52, 55, 54, 52, 51, 97, 48, 56, 56, 98, 102, 98, 48, 56, 98, 101, 49, 98, 49, 98, 55, 99, 101, 99, 97, 54, 98, 100, 50, 56, 51, 49, 100, 102] := by rw [mB1_t, ← shaN_eq]; decide +kernel
theorem mgY_1 : mgY true = [51, 52, 52, 102, 55, 55, 52, 55, 54, 52, 51, 97, 48, 56, 56, 98, 102, 98, 48, 56, 98, 101, 49, 98, 49, 98, 55, 99, 101, 99, 97, 54, 98, 100, 50, 56, 51, 49, 100, 102] := mB1_x
theorem mA0_b : bodyB (ckCards (ckMe [] (tsO false) me 0)) = [67, 32, 46, 10, 68, 32, 48, 10, 85, 32, 109, 101, 10] := by decide +kernel
theorem mA0_s : shaN [67, 32, 46, 10, 68, 32, 48, 10, 85, 32, 109, 101, 10] = [49, 51, 48, 53, 97, 52, 97, 102, 101, 100, 51, 53, 49, 99, 54, 55, 52, 54, 52, 101, 56, 49, 52, 50, 49, 55, 56, 51, 101, 97, 98, 50, 55, 52, 97, 48, 97, 56, 57, 56] := by decide +kernel
theorem mA0_t : ckB (ckMe [] (tsO false) me 0) = [67, 32, 46, 10, 68, 32, 48, 10, 85, 32, 109, 101, 10, 90, 32, 49, 51, 48, 53, 97, 52, 97, 102, 101, 100, 51, 53, 49, 99, 54, 55, 52, 54, 52, 101, 56, 49, 52, 50, 49, 55, 56, 51, 101, 97, 98, 50, 55, 52, 97, 48, 97, 56, 57, 56, 10] := by rw [ckB, printB, mA0_b, sealB, ← shaN_eq, mA0_s]; rfl
theorem mA0_x : shaB (ckB (ckMe [] (tsO false) me 0)) = [99, 52, 97, 54, 54, 52, 54, 99, 49, 57, 48, 48, 98, 101, 100, 51, 101, 54, 48, 50, 52, 53, 100, 56, 51, 52, 50, 56, 100, 97, 100, 50, 97, 52, 50, 53, 55, 51, 48, 53] := by rw [mA0_t, ← shaN_eq]; decide +kernel
theorem mgX_0 : mgX false = [99, 52, 97, 54, 54, 52, 54, 99, 49, 57, 48, 48, 98, 101, 100, 51, 101, 54, 48, 50, 52, 53, 100, 56, 51, 52, 50, 56, 100, 97, 100, 50, 97, 52, 50, 53, 55, 51, 48, 53] := mA0_x
theorem mB0_b : bodyB (ckCards (ckMe [] (tsO false) you 0)) = [67, 32, 46, 10, 68, 32, 48, 10, 85, 32, 121, 111, 117, 10] := by decide +kernel
theorem mB0_s : shaN [67, 32, 46, 10, 68, 32, 48, 10, 85, 32, 121, 111, 117, 10] = [49, 101, 49, 51, 100, 98, 101, 55, 53, 48, 55, 100, 100, 50, 55, 57, 55, 48, 101, 50, 52, 57, 99, 100, 102, 54, 55, 97, 102, 53, 100, 101, 98, 48, 99, 102, 57, 51, 56, 50] := by decide +kernel
theorem mB0_t : ckB (ckMe [] (tsO false) you 0) = [67, 32, 46, 10, 68, 32, 48, 10, 85, 32, 121, 111, 117, 10, 90, 32, 49, 101, 49, 51, 100, 98, 101, 55, 53, 48, 55, 100, 100, 50, 55, 57, 55, 48, 101, 50, 52, 57, 99, 100, 102, 54, 55, 97, 102, 53, 100, 101, 98, 48, 99, 102, 57, 51, 56, 50, 10] := by rw [ckB, printB, mB0_b, sealB, ← shaN_eq, mB0_s]; rfl
theorem mB0_x : shaB (ckB (ckMe [] (tsO false) you 0)) = [97, 51, 98, 99, 99, 102, 101, 98, 97, 99, 101, 97, 50, 98, 102, 55, 99, 48, 101, 57, 101, 97, 48, 49, 48, 97, 55, 57, 57, 54, 48, 102, 99, 53, 55, 99, 100, 48, 98, 102] := by rw [mB0_t, ← shaN_eq]; decide +kernel
theorem mgY_0 : mgY false = [97, 51, 98, 99, 99, 102, 101, 98, 97, 99, 101, 97, 50, 98, 102, 55, 99, 48, 101, 57, 101, 97, 48, 49, 48, 97, 55, 57, 57, 54, 48, 102, 99, 53, 55, 99, 100, 48, 98, 102] := mB0_x
theorem mC11_b : bodyB (ckCards (ckMe [[102, 50, 52, 50, 52, 53, 56, 48, 54, 54, 51, 52, 56, 48, 99, 55, 99, 49, 54, 57, 101, 51, 101, 49, 55, 99, 53, 48, 55, 57, 100, 57, 50, 100, 55, 53, 98, 54, 98, 53], [51, 52, 52, 102, 55, 55, 52, 55, 54, 52, 51, 97, 48, 56, 56, 98, 102, 98, 48, 56, 98, 101, 49, 98, 49, 98, 55, 99, 101, 99, 97, 54, 98, 100, 50, 56, 51, 49, 100, 102]] [] me 4)) = [67, 32, 46, 10, 68, 32, 52, 10, 80, 32, 102, 50, 52, 50, 52, 53, 56, 48, 54, 54, 51, 52, 56, 48, 99, 55, 99, 49, 54, 57, 101, 51, 101, 49, 55, 99, 53, 48, 55, 57, 100, 57, 50, 100, 55, 53, 98, 54, 98, 53, 32, 51, 52, 52, 102, 55, 55, 52, 55, 54, 52, 51, 97, 48, 56, 56, 98, 102, 98, 48, 56, 98, 101, 49, 98, 49, 98, 55, 99, 101, 99, 97, 54, 98, 100, 50, 56, 51, 49, 100, 102, 10, 85, 32, 109, 101, 10] := by decide +kernel
theorem mC11_s : shaN [67, 32, 46, 10, 68, 32, 52, 10, 80, 32, 102, 50, 52, 50, 52, 53, 56, 48, 54, 54, 51, 52, 56, 48, 99, 55, 99, 49, 54, 57, 101, 51, 101, 49, 55, 99, 53, 48, 55, 57, 100, 57, 50, 100, 55, 53, 98, 54, 98, 53, 32, 51, 52, 52, 102, 55, 55, 52, 55, 54, 52, 51, 97, 48, 56, 56, 98, 102, 98, 48, 56, 98, 101, 49, 98, 49, 98, 55, 99, 101, 99, 97, 54, 98, 100, 50, 56, 51, 49, 100, 102, 10, 85, 32, 109, 101, 10] = [55, 49, 97, 98, 99, 57, 99, 55, 54, 49, 56, 54, 53, 56, 57, 52, 99, 51, 102, 98, 52, 48, 55, 100, 51, 53, 98, 51, 53, 99, 101, 50, 48, 48, 102, 101, 97, 48, 98, 99] := by decide +kernel
theorem mC11_t : ckB (ckMe [[102, 50, 52, 50, 52, 53, 56, 48, 54, 54, 51, 52, 56, 48, 99, 55, 99, 49, 54, 57, 101, 51, 101, 49, 55, 99, 53, 48, 55, 57, 100, 57, 50, 100, 55, 53, 98, 54, 98, 53], [51, 52, 52, 102, 55, 55, 52, 55, 54, 52, 51, 97, 48, 56, 56, 98, 102, 98, 48, 56, 98, 101, 49, 98, 49, 98, 55, 99, 101, 99, 97, 54, 98, 100, 50, 56, 51, 49, 100, 102]] [] me 4) = [67, 32, 46, 10, 68, 32, 52, 10, 80, 32, 102, 50, 52, 50, 52, 53, 56, 48, 54, 54, 51, 52, 56, 48, 99, 55, 99, 49, 54, 57, 101, 51, 101, 49, 55, 99, 53, 48, 55, 57, 100, 57, 50, 100, 55, 53, 98, 54, 98, 53, 32, 51, 52, 52, 102, 55, 55, 52, 55, 54, 52, 51, 97, 48, 56, 56, 98, 102, 98, 48, 56, 98, 101, 49, 98, 49, 98, 55, 99, 101, 99, 97, 54, 98, 100, 50, 56, 51, 49, 100, 102, 10, 85, 32, 109, 101, 10, 90, 32, 55, 49, 97, 98, 99, 57, 99, 55, 54, 49, 56, 54, 53, 56, 57, 52, 99, 51, 102, 98, 52, 48, 55, 100, 51, 53, 98, 51, 53, 99, 101, 50, 48, 48, 102, 101, 97, 48, 98, 99, 10] := by rw [ckB, printB, mC11_b, sealB, ← shaN_eq, mC11_s]; rfl
theorem mC11_x : shaB (ckB (ckMe [[102, 50, 52, 50, 52, 53, 56, 48, 54, 54, 51, 52, 56, 48, 99, 55, 99, 49, 54, 57, 101, 51, 101, 49, 55, 99, 53, 48, 55, 57, 100, 57, 50, 100, 55, 53, 98, 54, 98, 53], [51, 52, 52, 102, 55, 55, 52, 55, 54, 52, 51, 97, 48, 56, 56, 98, 102, 98, 48, 56, 98, 101, 49, 98, 49, 98, 55, 99, 101, 99, 97, 54, 98, 100, 50, 56, 51, 49, 100, 102]] [] me 4)) = [100, 101, 99, 57, 97, 100, 52, 99, 100, 57, 49, 53, 100, 100, 102, 99, 98, 50, 51, 101, 49, 57, 53, 51, 48, 98, 53, 102, 56, 51, 56, 53, 50, 50, 52, 102, 53, 99, 49, 57] := by rw [mC11_t, ← shaN_eq]; decide +kernel
theorem mgZ_11 : mgZ true true = [100, 101, 99, 57, 97, 100, 52, 99, 100, 57, 49, 53, 100, 100, 102, 99, 98, 50, 51, 101, 49, 57, 53, 51, 48, 98, 53, 102, 56, 51, 56, 53, 50, 50, 52, 102, 53, 99, 49, 57] := by rw [mgZ, mgC, mgX_1, mgY_1]; exact mC11_x
theorem mgD_11 : MgD true true := ⟨by rw [mgX_1, mgY_1]; decide, by rw [mgX_1, mgZ_11]; decide, by rw [mgY_1, mgZ_11]; decide⟩
theorem mC10_b : bodyB (ckCards (ckMe [[102, 50, 52, 50, 52, 53, 56, 48, 54, 54, 51, 52, 56, 48, 99, 55, 99, 49, 54, 57, 101, 51, 101, 49, 55, 99, 53, 48, 55, 57, 100, 57, 50, 100, 55, 53, 98, 54, 98, 53], [97, 51, 98, 99, 99, 102, 101, 98, 97, 99, 101, 97, 50, 98, 102, 55, 99, 48, 101, 57, 101, 97, 48, 49, 48, 97, 55, 57, 57, 54, 48, 102, 99, 53, 55, 99, 100, 48, 98, 102]] [] me 4)) = [67, 32, 46, 10, 68, 32, 52, 10, 80, 32, 102, 50, 52, 50, 52, 53, 56, 48, 54, 54, 51, 52, 56, 48, 99, 55, 99, 49, 54, 57, 101, 51, 101, 49, 55, 99, 53, 48, 55, 57, 100, 57, 50, 100, 55, 53, 98, 54, 98, 53, 32, 97, 51, 98, 99, 99, 102, 101, 98, 97, 99, 101, 97, 50, 98, 102, 55, 99, 48, 101, 57, 101, 97, 48, 49, 48, 97, 55, 57, 57, 54, 48, 102, 99, 53, 55, 99, 100, 48, 98, 102, 10, 85, 32, 109, 101, 10] := by decide +kernel
theorem mC10_s : shaN [67, 32, 46, 10, 68, 32, 52, 10, 80, 32, 102, 50, 52, 50, 52, 53, 56, 48, 54, 54, 51, 52, 56, 48, 99, 55, 99, 49, 54, 57, 101, 51, 101, 49, 55, 99, 53, 48, 55, 57, 100, 57, 50, 100, 55, 53, 98, 54, 98, 53, 32, 97, 51, 98, 99, 99, 102, 101, 98, 97, 99, 101, 97, 50, 98, 102, 55, 99, 48, 101, 57, 101, 97, 48, 49, 48, 97, 55, 57, 57, 54, 48, 102, 99, 53, 55, 99, 100, 48, 98, 102, 10, 85, 32, 109, 101, 10] = [98, 98, 52, 52, 102, 48, 54, 54, 57, 57, 98, 57, 57, 56, 102, 51, 97, 100, 101, 50, 57, 97, 54, 50, 48, 54, 50, 56, 97, 56, 57, 99, 55, 99, 52, 50, 51, 55, 55, 51] := by decide +kernel
theorem mC10_t : ckB (ckMe [[102, 50, 52, 50, 52, 53, 56, 48, 54, 54, 51, 52, 56, 48, 99, 55, 99, 49, 54, 57, 101, 51, 101, 49, 55, 99, 53, 48, 55, 57, 100, 57, 50, 100, 55, 53, 98, 54, 98, 53], [97, 51, 98, 99, 99, 102, 101, 98, 97, 99, 101, 97, 50, 98, 102, 55, 99, 48, 101, 57, 101, 97, 48, 49, 48, 97, 55, 57, 57, 54, 48, 102, 99, 53, 55, 99, 100, 48, 98, 102]] [] me 4) = [67, 32, 46, 10, 68, 32, 52, 10, 80, 32, 102, 50, 52, 50, 52, 53, 56, 48, 54, 54, 51, 52, 56, 48, 99, 55, 99, 49, 54, 57, 101, 51, 101, 49, 55, 99, 53, 48, 55, 57, 100, 57, 50, 100, 55, 53, 98, 54, 98, 53, 32, 97, 51, 98, 99, 99, 102, 101, 98, 97, 99, 101, 97, 50, 98, 102, 55, 99, 48, 101, 57, 101, 97, 48, 49, 48, 97, 55, 57, 57, 54, 48, 102, 99, 53, 55, 99, 100, 48, 98, 102, 10, 85, 32, 109, 101, 10, 90, 32, 98, 98, 52, 52, 102, 48, 54, 54, 57, 57, 98, 57, 57, 56, 102, 51, 97, 100, 101, 50, 57, 97, 54, 50, 48, 54, 50, 56, 97, 56, 57, 99, 55, 99, 52, 50, 51, 55, 55, 51, 10] := by rw [ckB, printB, mC10_b, sealB, ← shaN_eq, mC10_s]; rfl
theorem mC10_x : shaB (ckB (ckMe [[102, 50, 52, 50, 52, 53, 56, 48, 54, 54, 51, 52, 56, 48, 99, 55, 99, 49, 54, 57, 101, 51, 101, 49, 55, 99, 53, 48, 55, 57, 100, 57, 50, 100, 55, 53, 98, 54, 98, 53], [97, 51, 98, 99, 99, 102, 101, 98, 97, 99, 101, 97, 50, 98, 102, 55, 99, 48, 101, 57, 101, 97, 48, 49, 48, 97, 55, 57, 57, 54, 48, 102, 99, 53, 55, 99, 100, 48, 98, 102]] [] me 4)) = [53, 52, 100, 99, 56, 50, 102, 54, 52, 56, 97, 57, 56, 51, 99, 99, 54, 57, 56, 52, 98, 97, 56, 52, 48, 56, 101, 54, 99, 54, 102, 55, 100, 53, 57, 97, 101, 55, 51, 97] := by rw [mC10_t, ← shaN_eq]; decide +kernel
theorem mgZ_10 : mgZ true false = [53, 52, 100, 99, 56, 50, 102, 54, 52, 56, 97, 57, 56, 51, 99, 99, 54, 57, 56, 52, 98, 97, 56, 52, 48, 56, 101, 54, 99, 54, 102, 55, 100, 53, 57, 97, 101, 55, 51, 97] := by rw [mgZ, mgC, mgX_1, mgY_0]; exact mC10_x
theorem mgD_10 : MgD true false := ⟨by rw [mgX_1, mgY_0]; decide, by rw [mgX_1, mgZ_10]; decide, by rw [mgY_0, mgZ_10]; decide⟩
theorem mC01_b : bodyB (ckCards (ckMe [[99, 52, 97, 54, 54, 52, 54, 99, 49, 57, 48, 48, 98, 101, 100, 51, 101, 54, 48, 50, 52, 53, 100, 56, 51, 52, 50, 56, 100, 97, 100, 50, 97, 52, 50, 53, 55, 51, 48, 53], [51, 52, 52, 102, 55, 55, 52, 55, 54, 52, 51, 97, 48, 56, 56, 98, 102, 98, 48, 56, 98, 101, 49, 98, 49, 98, 55, 99, 101, 99, 97, 54, 98, 100, 50, 56, 51, 49, 100, 102]] [] me 4)) = [67, 32, 46, 10, 68, 32, 52, 10, 80, 32, 99, 52, 97, 54, 54, 52, 54, 99, 49, 57, 48, 48, 98, 101, 100, 51, 101, 54, 48, 50, 52, 53, 100, 56, 51, 52, 50, 56, 100, 97, 100, 50, 97, 52, 50, 53, 55, 51, 48, 53, 32, 51, 52, 52, 102, 55, 55, 52, 55, 54, 52, 51, 97, 48, 56, 56, 98, 102, 98, 48, 56, 98, 101, 49, 98, 49, 98, 55, 99, 101, 99, 97, 54, 98, 100, 50, 56, 51, 49, 100, 102, 10, 85, 32, 109, 101, 10] := by decide +kernel
theorem mC01_s : shaN [67, 32, 46, 10, 68, 32, 52, 10, 80, 32, 99, 52, 97, 54, 54, 52, 54, 99, 49, 57, 48, 48, 98, 101, 100, 51, 101, 54, 48, 50, 52, 53, 100, 56, 51, 52, 50, 56, 100, 97, 100, 50, 97, 52, 50, 53, 55, 51, 48, 53, 32, 51, 52, 52, 102, 55, 55, 52, 55, 54, 52, 51, 97, 48, 56, 56, 98, 102, 98, 48, 56, 98, 101, 49, 98, 49, 98, 55, 99, 101, 99, 97, 54, 98, 100, 50, 56, 51, 49, 100, 102, 10, 85, 32, 109, 101, 10] = [57, 48, 99, 101, 102, 52, 51, 54, 48, 56, 48, 99, 100, 52, 102, 101, 57, 97, 50, 49, 100, 48, 98, 98, 55, 55, 55, 57, 50, 101, 55, 101, 101, 51, 57, 99, 55, 57, 101, 49] := by decide +kernel
theorem mC01_t : ckB (ckMe [[99, 52, 97, 54, 54, 52, 54, 99, 49, 57, 48, 48, 98, 101, 100, 51, 101, 54, 48, 50, 52, 53, 100, 56, 51, 52, 50, 56, 100, 97, 100, 50, 97, 52, 50, 53, 55, 51, 48, 53], [51, 52, 52, 102, 55, 55, 52, 55, 54, 52, 51, 97, 48, 56, 56, 98, 102, 98, 48, 56, 98, 101, 49, 98, 49, 98, 55, 99, 101, 99, 97, 54, 98, 100, 50, 56, 51, 49, 100, 102]] [] me 4) = [67, 32, 46, 10, 68, 32, 52, 10, 80, 32, 99, 52, 97, 54, 54, 52, 54, 99, 49, 57, 48, 48, 98, 101, 100, 51, 101, 54, 48, 50, 52, 53, 100, 56, 51, 52, 50, 56, 100, 97, 100, 50, 97, 52, 50, 53, 55, 51, 48, 53, 32, 51, 52, 52, 102, 55, 55, 52, 55, 54, 52, 51, 97, 48, 56, 56, 98, 102, 98, 48, 56, 98, 101, 49, 98, 49, 98, 55, 99, 101, 99, 97, 54, 98, 100, 50, 56, 51, 49, 100, 102, 10, 85, 32, 109, 101, 10, 90, 32, 57, 48, 99, 101, 102, 52, 51, 54, 48, 56, 48, 99, 100, 52, 102, 101, 57, 97, 50, 49, 100, 48, 98, 98, 55, 55, 55, 57, 50, 101, 55, 101, 101, 51, 57, 99, 55, 57, 101, 49, 10] := by rw [ckB, printB, mC01_b, sealB, ← shaN_eq, mC01_s]; rfl
theorem mC01_x : shaB (ckB (ckMe [[99, 52, 97, 54, 54, 52, 54, 99, 49, 57, 48, 48, 98, 101, 100, 51, 101, 54, 48, 50, 52, 53, 100, 56, 51, 52, 50, 56, 100, 97, 100, 50, 97, 52, 50, 53, 55, 51, 48, 53], [51, 52, 52, 102, 55, 55, 52, 55, 54, 52, 51, 97, 48, 56, 56, 98, 102, 98, 48, 56, 98, 101, 49, 98, 49, 98, 55, 99, 101, 99, 97, 54, 98, 100, 50, 56, 51, 49, 100, 102]] [] me 4)) = [55, 101, 48, 97, 53, 51, 97, 48, 56, 98, 50, 57, 48, 55, 55, 56, 97, 101, 102, 51, 51, 55, 99, 52, 100, 101, 53, 53, 48, 102, 48, 55, 99, 57, 50, 55, 49, 97, 50, 101] := by rw [mC01_t, ← shaN_eq]; decide +kernel
theorem mgZ_01 : mgZ false true = [55, 101, 48, 97, 53, 51, 97, 48, 56, 98, 50, 57, 48, 55, 55, 56, 97, 101, 102, 51, 51, 55, 99, 52, 100, 101, 53, 53, 48, 102, 48, 55, 99, 57, 50, 55, 49, 97, 50, 101] := by rw [mgZ, mgC, mgX_0, mgY_1]; exact mC01_x
theorem mgD_01 : MgD false true := ⟨by rw [mgX_0, mgY_1]; decide, by rw [mgX_0, mgZ_01]; decide, by rw [mgY_1, mgZ_01]; decide⟩
theorem mC00_b : bodyB (ckCards (ckMe [[99, 52, 97, 54, 54, 52, 54, 99, 49, 57, 48, 48, 98, 101, 100, 51, 101, 54, 48, 50, 52, 53, 100, 56, 51, 52, 50, 56, 100, 97, 100, 50, 97, 52, 50, 53, 55, 51, 48, 53], [97, 51, 98, 99, 99, 102, 101, 98, 97, 99, 101, 97, 50, 98, 102, 55, 99, 48, 101, 57, 101, 97, 48, 49, 48, 97, 55, 57, 57, 54, 48, 102, 99, 53, 55, 99, 100, 48, 98, 102]] [] me 4)) = [67, 32, 46, 10, 68, 32, 52, 10, 80, 32, 99, 52, 97, 54, 54, 52, 54, 99, 49, 57, 48, 48, 98, 101, 100, 51, 101, 54, 48, 50, 52, 53, 100, 56, 51, 52, 50, 56, 100, 97, 100, 50, 97, 52, 50, 53, 55, 51, 48, 53, 32, 97, 51, 98, 99, 99, 102, 101, 98, 97, 99, 101, 97, 50, 98, 102, 55, 99, 48, 101, 57, 101, 97, 48, 49, 48, 97, 55, 57, 57, 54, 48, 102, 99, 53, 55, 99, 100, 48, 98, 102, 10, 85, 32, 109, 101, 10] := by decide +kernel
theorem mC00_s : shaN [67, 32, 46, 10, 68, 32, 52, 10, 80, 32, 99, 52, 97, 54, 54, 52, 54, 99, 49, 57, 48, 48, 98, 101, 100, 51, 101, 54, 48, 50, 52, 53, 100, 56, 51, 52, 50, 56, 100, 97, 100, 50, 97, 52, 50, 53, 55, 51, 48, 53, 32, 97, 51, 98, 99, 99, 102, 101, 98, 97, 99, 101, 97, 50, 98, 102, 55, 99, 48, 101, 57, 101, 97, 48, 49, 48, 97, 55, 57, 57, 54, 48, 102, 99, 53, 55, 99, 100, 48, 98, 102, 10, 85, 32, 109, 101, 10] = [50, 102, 52, 54, 52, 49, 56, 56, 49, 100, 48, 53, 50, 50, 57, 49, 101, 49, 101, 55, 51, 54, 49, 97, 57, 97, 55, 99, 50, 98, 50, 97, 55, 55, 102, 55, 98, 50, 101, 51] := by decide +kernel
theorem mC00_t : ckB (ckMe [[99, 52, 97, 54, 54, 52, 54, 99, 49, 57, 48, 48, 98, 101, 100, 51, 101, 54, 48, 50, 52, 53, 100, 56, 51, 52, 50, 56, 100, 97, 100, 50, 97, 52, 50, 53, 55, 51, 48, 53], [97, 51, 98, 99, 99, 102, 101, 98, 97, 99, 101, 97, 50, 98, 102, 55, 99, 48, 101, 57, 101, 97, 48, 49, 48, 97, 55, 57, 57, 54, 48, 102, 99, 53, 55, 99, 100, 48, 98, 102]] [] me 4) = [67, 32, 46, 10, 68, 32, 52, 10, 80, 32, 99, 52, 97, 54, 54, 52, 54, 99, 49, 57, 48, 48, 98, 101, 100, 51, 101, 54, 48, 50, 52, 53, 100, 56, 51, 52, 50, 56, 100, 97, 100, 50, 97, 52, 50, 53, 55, 51, 48, 53, 32, 97, 51, 98, 99, 99, 102, 101, 98, 97, 99, 101, 97, 50, 98, 102, 55, 99, 48, 101, 57, 101, 97, 48, 49, 48, 97, 55, 57, 57, 54, 48, 102, 99, 53, 55, 99, 100, 48, 98, 102, 10, 85, 32, 109, 101, 10, 90, 32, 50, 102, 52, 54, 52, 49, 56, 56, 49, 100, 48, 53, 50, 50, 57, 49, 101, 49, 101, 55, 51, 54, 49, 97, 57, 97, 55, 99, 50, 98, 50, 97, 55, 55, 102, 55, 98, 50, 101, 51, 10] := by rw [ckB, printB, mC00_b, sealB, ← shaN_eq, mC00_s]; rfl
theorem mC00_x : shaB (ckB (ckMe [[99, 52, 97, 54, 54, 52, 54, 99, 49, 57, 48, 48, 98, 101, 100, 51, 101, 54, 48, 50, 52, 53, 100, 56, 51, 52, 50, 56, 100, 97, 100, 50, 97, 52, 50, 53, 55, 51, 48, 53], [97, 51, 98, 99, 99, 102, 101, 98, 97, 99, 101, 97, 50, 98, 102, 55, 99, 48, 101, 57, 101, 97, 48, 49, 48, 97, 55, 57, 57, 54, 48, 102, 99, 53, 55, 99, 100, 48, 98, 102]] [] me 4)) = [53, 56, 50, 56, 56, 50, 57, 100, 98, 98, 101, 97, 56, 54, 102, 50, 55, 100, 51, 100, 101, 52, 102, 49, 98, 52, 49, 53, 57, 100, 51, 48, 52, 55, 52, 54, 51, 97, 97, 55] := by rw [mC00_t, ← shaN_eq]; decide +kernel
theorem mgZ_00 : mgZ false false = [53, 56, 50, 56, 56, 50, 57, 100, 98, 98, 101, 97, 56, 54, 102, 50, 55, 100, 51, 100, 101, 52, 102, 49, 98, 52, 49, 53, 57, 100, 51, 48, 52, 55, 52, 54, 51, 97, 97, 55] := by rw [mgZ, mgC, mgX_0, mgY_0]; exact mC00_x
theorem mgD_00 : MgD false false := ⟨by rw [mgX_0, mgY_0]; decide, by rw [mgX_0, mgZ_00]; decide, by rw [mgY_0, mgZ_00]; decide⟩
theorem mgD (f s : Bool) : MgD f s := by cases f <;> cases s <;> first | exact mgD_00 | exact mgD_01 | exact mgD_10 | exact mgD_11
end
section
set_option maxRecDepth 100000
def tsA (b : Nat) (f : Bool) : Option Addr := if f then some ⟨b, 0, none⟩ else none
def tsC (f : Bool) : Nat := if f then 1 else 0
theorem ent_ts {b : Nat} {Hs : List HP} (f : Bool) (h : Has (SlI (some ⟨b, 0, none⟩) (opsR.flatMap tgCells)) Hs) : Ent Hs (SlI (tsA b f) ((tsO f).flatMap tgCells) :: Hs) := by
 cases f with
 | false => exact sli_nil
 | true => exact ⟨fun {M g} s => by
     obtain ⟨h1, _, a⟩ := h.sat s
     exact ⟨Res.emp, g, Res.emp_dj _, rfl, (PersC.get : Pers (SlI (some ⟨b, 0, none⟩) (opsR.flatMap tgCells))) a, s⟩⟩
theorem pnum (f s : Bool) : ((if f then (2 : Nat) else 0) + (if s then 1 else 0) : Nat) ≤ 3 := by cases f <;> cases s <;> decide
theorem zb6join18 {G : Prop} (h : G := by
    first
    | (have hc : second = true := by assumption
       exact to_inv () trivial ⟨rfl, rfl, rfl, rfl, rfl, by rw [hc]; rfl, trivial⟩ ent_pick)
    | (have hc : second = false := by assumption
       exact to_inv () trivial ⟨rfl, rfl, rfl, rfl, rfl, by rw [hc]; rfl, trivial⟩ ent_pick)) : G := h
theorem zb6join16 {G : Prop} (h : G := by
    first
    | (have hc : first = true := by assumption
       exact to_inv () trivial ⟨rfl, rfl, rfl, rfl, rfl, rfl, by rw [hc]; rfl, trivial⟩ ent_pick)
    | (have hc : first = false := by assumption
       exact to_inv () trivial ⟨rfl, rfl, rfl, rfl, rfl, rfl, by rw [hc]; rfl, trivial⟩ ent_pick)) : G := h
theorem zb6join12 {G : Prop} (h : G := by
    first
    | exact to_inv ⟨(b43, [(mgX first, vS (mgA first)), (mgY second, vS (mgB second)), (mgZ first second, vS (mgC first second))]), pm123 _ _ _⟩ trivial ⟨rfl, rfl, rfl, rfl, rfl, trivial⟩ (by rw [mput3 hxy hxz hyz]; exact ent_pick)
    | exact to_inv ⟨(b43, [(mgX first, vS (mgA first)), (mgZ first second, vS (mgC first second)), (mgY second, vS (mgB second))]), pm132 _ _ _⟩ trivial ⟨rfl, rfl, rfl, rfl, rfl, trivial⟩ (by rw [mput3 hxz hxy hyz.symm]; exact ent_pick)
    | exact to_inv ⟨(b43, [(mgY second, vS (mgB second)), (mgX first, vS (mgA first)), (mgZ first second, vS (mgC first second))]), pm213 _ _ _⟩ trivial ⟨rfl, rfl, rfl, rfl, rfl, trivial⟩ (by rw [mput3 hxy.symm hyz hxz]; exact ent_pick)
    | exact to_inv ⟨(b43, [(mgY second, vS (mgB second)), (mgZ first second, vS (mgC first second)), (mgX first, vS (mgA first))]), pm231 _ _ _⟩ trivial ⟨rfl, rfl, rfl, rfl, rfl, trivial⟩ (by rw [mput3 hyz hxy.symm hxz.symm]; exact ent_pick)
    | exact to_inv ⟨(b43, [(mgZ first second, vS (mgC first second)), (mgX first, vS (mgA first)), (mgY second, vS (mgB second))]), pm312 _ _ _⟩ trivial ⟨rfl, rfl, rfl, rfl, rfl, trivial⟩ (by rw [mput3 hxz.symm hyz.symm hxy]; exact ent_pick)
    | exact to_inv ⟨(b43, [(mgZ first second, vS (mgC first second)), (mgY second, vS (mgB second)), (mgX first, vS (mgA first))]), pm321 _ _ _⟩ trivial ⟨rfl, rfl, rfl, rfl, rfl, trivial⟩ (by rw [mput3 hyz.symm hxz.symm hxy.symm]; exact ent_pick)) : G := h
theorem zb6join7 {G : Prop} (h : G := by
    first
    | (have hc : second = true := by assumption
       subst hc
       exact to_inv () trivial ⟨rfl, rfl, rfl, rfl, trivial⟩ (ent_step (ce_norm (b := b7) (by rfl) (by rfl)) ent_pick))
    | (have hc : second = false := by assumption
       subst hc
       exact to_inv () trivial ⟨rfl, rfl, rfl, rfl, trivial⟩ (ent_step (ce_norm (b := b7) (by rfl) (by rfl)) ent_pick))) : G := h
theorem zb6join5 {G : Prop} (h : G := by
    first
    | (have hc : first = true := by assumption
       subst hc
       exact to_inv () trivial ⟨rfl, rfl, rfl, rfl, rfl, trivial⟩ (ent_step (ce_norm (b := b6) (by rfl) (by rfl)) ent_pick))
    | (have hc : first = false := by assumption
       subst hc
       exact to_inv () trivial ⟨rfl, rfl, rfl, rfl, rfl, trivial⟩ (ent_step (ce_norm (b := b6) (by rfl) (by rfl)) ent_pick))) : G := h
set_option maxHeartbeats 8000000 in
theorem TagsMerge_sp (first second : Bool) : Sp1 Tryz.prog 6 [vB first, vB second] [] (vB true) [] := by
 have d := mgD first second
 have hA := fun b => ref10_me_sp (Bt := SlI (tsA b first) ((tsO first).flatMap tgCells)) none 0 (tsA b first) (tsC first) (mgA_right first) (Nat.le_refl _) sla_sli
 have hB := fun b => ref10_me_sp (Bt := SlI (tsA b second) ((tsO second).flatMap tgCells)) none 0 (tsA b second) (tsC second) (mgB_right second) (Nat.le_refl _) sla_sli
 have hC := fun b => ref10_me_sp (Bt := SlI none []) (some ⟨b, 0, none⟩) 2 none 0 (mgC_right d) (Nat.le_refl _) sla_sli
 simp only [List.map_nil, List.length_nil, List.map_cons, List.length_cons] at hA hB hC
 have lA := ckB_len (mgA_right first)
 have lB := ckB_len (mgB_right second)
 have lC := ckB_len (mgC_right d)
 have hX := ref1_Sum_sp (mgA first) (by show (ckB (ckMe [] (tsO first) me 0)).length ≤ _; omega)
 have hY := ref1_Sum_sp (mgB second) (by show (ckB (ckMe [] (tsO second) you 0)).length ≤ _; omega)
 have hZ := ref1_Sum_sp (mgC first second) (by show (ckB (ckMe [mgX first, mgY second] [] me 4)).length ≤ _; omega)
 rw [show shaB (mgA first) = mgX first from rfl] at hX
 rw [show shaB (mgB second) = mgY second from rfl] at hY
 rw [show shaB (mgC first second) = mgZ first second from rfl] at hZ
 simp only [show ckB (ckMe [] (tsO first) me 0) = mgA first from rfl, show ckB (ckMe [] (tsO second) you 0) = mgB second from rfl, show ckB (ckMe [mgX first, mgY second] [] me 4) = mgC first second from rfl] at hA hB hC
 have hxy := d.xy
 have hxz := d.xz
 have hyz := d.yz
 have hmem : ∀ {K : Ks}, K.Perm [(mgX first, vS (mgA first)), (mgY second, vS (mgB second)), (mgZ first second, vS (mgC first second))] → HeldP K (mgL first second) := fun h => mg_held d h
 have hok : ∀ {K : Ks}, HeldP K (mgL first second) → MgP first second K := fun h => mg_ok d h
 have hlen : (mgL first second).length = 3 := rfl
 generalize mgL first second = ML at hmem hok hlen
 refine Sp.body (n := 100) Tryz.call6 Tryz.func6 rfl rfl rfl ?_
 refine Qc (k:=Vv (k:=Wq (Qc (k:=Vx (Ps [_, _, _, _]) (k:=Zv [_] (cs := [_, _, _, _]) (k:=fun b19 => ?_))))))
 refine wo_ent' (ce_norm (b := b19) (T := 27) (l' := opsR.flatMap tgCells) (by rfl) (by rfl)) ?_
 refine wo_frzC b19 ?_
 refine Vv (k:=Wq (Qc (k:=Vx (Ps [vS [], vS [], .int .i64 0, .slice none 0 0, .slice none 0 0, .slice none 0 0, _]) (k:=Vx (Ps [vS [], vS [], .int .i64 0, .slice none 0 0, .slice none 0 0, .slice none 0 0, _]) (k:=Zc [vS [], vS [], .int .i64 0, .slice none 0 0, .slice none 0 0, .slice none 0 0, vS []] (k:=fun b6 => Zc [vS [], vS [], .int .i64 0, .slice none 0 0, .slice none 0 0, .slice none 0 0, vS []] (k:=fun b7 => Zp (k:=Zp (k:=Wq ?_)))))))))
 refine p_cut (fun (_ : Unit) => [(0, vB first), (1, vB second), (5, .slice (some ⟨b19, 0, none⟩) 1 1), (6, .pointer (some ⟨b6, 0, none⟩)), (7, .pointer (some ⟨b7, 0, none⟩))]) (fun (_ : Unit) => [Ce b6 52 [vS [], vS [], vI 0, .slice none 0 0, .slice none 0 0, .slice (tsA b19 first) (tsO first).length (tsC first), vS [109, 101]], Ce b7 52 [vS [], vS [], vI 0, .slice none 0 0, .slice none 0 0, .slice none 0 0, vS [121, 111, 117]], SlI (some ⟨b19, 0, none⟩) (opsR.flatMap tgCells)]) rfl (fun _ => ?_) ?_
 ·
  try dsimp only
  refine p_cut (fun (_ : Unit) => [(0, vB first), (1, vB second), (6, .pointer (some ⟨b6, 0, none⟩)), (7, .pointer (some ⟨b7, 0, none⟩))]) (fun (_ : Unit) => [Ce b7 52 [vS [], vS [], vI 0, .slice none 0 0, .slice none 0 0, .slice (tsA b19 second) (tsO second).length (tsC second), vS [121, 111, 117]], Ce b6 52 [vS [], vS [], vI 0, .slice none 0 0, .slice none 0 0, .slice (tsA b19 first) (tsO first).length (tsC first), vS [109, 101]], SlI (some ⟨b19, 0, none⟩) (opsR.flatMap tgCells)]) rfl (fun _ => ?_) ?_
  ·
   refine wc_ent' (ent_ts (b := b19) first HasC.get) ?_
   refine wc_ent' (ent_ts (b := b19) second HasC.get) ?_
   refine wc_ent' sli_nil ?_
   try dsimp only
   refine Za (k:=Dw [Ce b6 52 [vS [], vS [], vI 0, .slice none 0 0, .slice none 0 0, .slice (tsA b19 first) (tsO first).length (tsC first), vS [109, 101]], Ce b7 52 [vS [], vS [], vI 0, .slice none 0 0, .slice none 0 0, .slice (tsA b19 second) (tsO second).length (tsC second), vS [121, 111, 117]]] (k:=?_))
   refine d_first 0 rfl rfl rfl (by kernel_rfl) (by kernel_rfl) (tl_loada (vs := [_, _, _, _, _, _, _]) Tryz.underlying52 rfl ti52 rfl (by exact Nat.le_of_ble_eq_true rfl) (by rfl)) ?_
   refine d_first 2 rfl rfl rfl (by kernel_rfl) (by kernel_rfl) (tl_loada (vs := [_, _, _, _, _, _, _]) Tryz.underlying52 rfl ti52 rfl (by exact Nat.le_of_ble_eq_true rfl) (by rfl)) ?_
   refine Dn 1 (k:=?_)
   refine an_call1 (hA b19) rfl rfl rfl ?_
   refine Dn 3 (k:=?_)
   refine an_call1 (hB b19) rfl rfl rfl ?_
   refine Dv 4 (k:=Dv 5 (k:=Dd (k:=Ya (Qc (k:=Vv (k:=?_))))))
   refine r_callF hX rfl rfl rfl ?_
   refine Vv (k:=?_)
   refine r_callF hY rfl rfl rfl ?_
   refine Qv (k:=Wq (Qc (k:=Qv (k:=Zv [_, _] (cs := [_, _]) (k:=fun b38 => Vx (Ps [vS [], vS [], _, .slice none 0 0, _, .slice none 0 0, _]) (k:=?_))))))
   refine wo_frzC b38 ?_
   refine wo_ent' sli_nil ?_
   refine r_call1 (hC b38) rfl rfl rfl ?_
   refine Vv (k:=Wq (Qc (k:=Vv (k:=?_))))
   refine r_callF hZ rfl rfl rfl ?_
   refine Vv (k:=Wq ?_)
   refine p_cut (fun (x : { x : Nat × Ks // x.2.Perm [(mgX first, vS (mgA first)), (mgY second, vS (mgB second)), (mgZ first second, vS (mgC first second))] }) => [(0, vB first), (1, vB second), (10, vS (mgX first)), (13, vS (mgZ first second)), (14, .map (some x.1.1))]) (fun (x : { x : Nat × Ks // x.2.Perm [(mgX first, vS (mgA first)), (mgY second, vS (mgB second)), (mgZ first second, vS (mgC first second))] }) => [MapS x.1.1 x.1.2]) rfl (fun x => ?_) ?_
   ·
    obtain ⟨⟨m, K⟩, hp⟩ := x
    dsimp only at hp ⊢
    have hh := hmem hp
    have ok1 := hok hh
    have hl1 : K.length = 3 := by rw [hh.len, hlen]
    have hOf := tags_Of_sp m K hh.txt hh.knd (by omega) [116] (mgZ first second) _ ok1.of.symm
    have hTb := tags_Table_sp m K hh.txt hh.knd (by omega)
    have hn3 := pnum first second
    have hz2 : ((if first then (some ⟨[116], mgZ first second, [118], mgX first, true, false⟩ : Option Tgd) else none).isSome) = first := by cases first <;> rfl
    have hz3 : first = true → ((if first then (some ⟨[116], mgZ first second, [118], mgX first, true, false⟩ : Option Tgd) else none).getD tgd0) = ⟨[116], mgZ first second, [118], mgX first, true, false⟩ := by intro h; rw [h]; rfl
    rw [ok1.n] at hTb
    rw [hz2] at hOf
    generalize ((if first then (some ⟨[116], mgZ first second, [118], mgX first, true, false⟩ : Option Tgd) else none).getD tgd0) = z2 at hOf hz3
    obtain ⟨g1, g2, g3, g4, g5, g6⟩ := z2
    try dsimp only
    refine Qc (k:=Qv (k:=?_))
    refine r_call1 hOf rfl rfl rfl ?_
    refine Vv (k:=?_)
    refine wo_pv (pv_extract (v := .agg #[vS g1, vS g2, vS g3, vS g4, .bool g5, .bool g6]) rfl rfl) rfl ?_
    refine wo_pv (pv_extract (v := vB first) rfl rfl) rfl ?_
    refine Zc [vS [], vS [], vS [], vS [], .bool false, .bool false] (k:=fun b15 => Zp (k:=Vv (k:=Wq (Qc (k:=Vv (k:=Wq ?_))))))
    refine p_cut (fun (_ : Unit) => [(0, vB first), (1, vB second), (10, vS (mgX first)), (14, .map (some m)), (15, .pointer (some ⟨b15, 0, none⟩)), (16, vB first), (17, vI ((if first then 2 else 0 : Nat)))]) (fun (_ : Unit) => [Ce b15 33 [vS g1, vS g2, vS g3, vS g4, .bool g5, .bool g6], MapS m K]) rfl (fun _ => ?_) ?_
    ·
     try dsimp only
     refine p_cut (fun (_ : Unit) => [(0, vB first), (10, vS (mgX first)), (14, .map (some m)), (15, .pointer (some ⟨b15, 0, none⟩)), (16, vB first), (17, vI ((if first then 2 else 0) + (if second then 1 else 0) : Nat))]) (fun (_ : Unit) => [Ce b15 33 [vS g1, vS g2, vS g3, vS g4, .bool g5, .bool g6], MapS m K]) rfl (fun _ => ?_) ?_
     ·
      try dsimp only
      refine Qc (k:=Qv (k:=?_))
      refine wo_pv (pv_beql Tryz.underlying4 rfl rfl) rfl ?_
      refine Vv (k:=Gi 3 (t:=fun h66 => ?_) (f:=fun h66 => ?_))
      ·
       refine J1 (k:=J1 (k:=J1 (k:=Gi 6 (t:=fun h69 => ?_) (f:=fun h69 => ?_))))
       ·
        refine O1 (k:=O1 (k:=O1 (k:=O1 (k:=O1 (k:=Ou (k:=Ou (k:=Ou (k:=O1 (k:=O1 (k:=Ou (k:=Ou (k:=?_))))))))))))
        refine Ou (k:=O1 (k:=O1 (k:=Ou (k:=Ou (k:=O1 (k:=I1 (k:=P1 (k:=P1 (k:=Vv (k:=J1 (k:=?_)))))))))))
        refine I1 (k:=?_)
        refine r_callX hTb rfl rfl rfl (fun x92 _ => ?_)
        refine J1 (k:=J1 (k:=J1 (k:=P1 (k:=Vv (k:=Gi 34 (t:=fun h97 => ?_) (f:=fun h97 => ?_))))))
        ·
         refine I1 (k:=?_)
         refine r_call1 TagsRuns_sp rfl rfl rfl ?_
         refine P1 (k:=Vv (k:=Wq (Zt (k:=?_))))
         exact fin_ret () (vs := [_]) (Cs := []) rfl (.tmp rfl .nil) rfl trivial ent_nil
        ·
         exact absurd rfl h97
         --done
       ·
        refine I0 (k:=Vf 3 9 (k:=I0 (k:=Zd (k:=J0 (k:=J0 (k:=J0 (k:=Gi 11 (t:=fun h74 => ?_) (f:=fun h74 => ?_))))))))
        ·
         refine I1 (k:=Vf 2 9 (k:=I1 (k:=Zd (k:=J1 (k:=I0 (k:=P1 (k:=J0 (k:=Gi 16 (t:=fun h79 => ?_) (f:=fun h79 => ?_)))))))))
         ·
          refine I1 (k:=Vf 5 4 (k:=I1 (k:=Zd (k:=J1 (k:=I0 (k:=P1 (k:=J0 (k:=Gi 21 (t:=fun h84 => ?_) (f:=fun h84 => ?_)))))))))
          ·
           refine I1 (k:=Vf 4 4 (k:=I1 (k:=Zd (k:=I0 (k:=P1 (k:=I1 (k:=P0 (k:=P1 (k:=Vv (k:=Gi 27 (t:=fun h90 => ?_) (f:=fun h90 => ?_)))))))))))
           ·
            refine J1 (k:=I1 (k:=?_))
            refine r_callX hTb rfl rfl rfl (fun x92 _ => ?_)
            refine J1 (k:=J1 (k:=J1 (k:=P1 (k:=Vv (k:=Gi 34 (t:=fun h97 => ?_) (f:=fun h97 => ?_))))))
            ·
             refine I1 (k:=?_)
             refine r_call1 TagsRuns_sp rfl rfl rfl ?_
             refine P1 (k:=Vv (k:=Wq (Zt (k:=?_))))
             exact fin_ret () (vs := [_]) (Cs := []) rfl (.tmp rfl .nil) rfl trivial ent_nil
            ·
             exact absurd rfl h97
             --done
           ·
            exfalso
            have hf : first = true := by simpa using h69
            have := hz3 hf
            simp_all
            --done
          ·
           exfalso
           have hf : first = true := by simpa using h69
           have := hz3 hf
           simp_all
           --done
         ·
          exfalso
          have hf : first = true := by simpa using h69
          have := hz3 hf
          simp_all
          --done
        ·
         exfalso
         have hf : first = true := by simpa using h69
         have := hz3 hf
         simp_all
         --done
      ·
       exfalso; simp_all
       --done
     ·
      refine Qc (k:=Vv (k:=Wq (Zi (t:=fun h60 => ?_) (f:=fun h60 => ?_))))
      ·
       refine Zr (k:=Vv (k:=?_))
       refine wo_pv (pv_add rfl rfl (by cases first <;> simp)) rfl ?_
       refine Vv (k:=Wn ?_)
       exact zb6join18
      ·
       refine Zk (k:=?_)
       exact zb6join18
    ·
     refine Qc (k:=Vv (k:=Wq (Zi (t:=fun h57 => ?_) (f:=fun h57 => ?_))))
     ·
      refine Zr (k:=Qv (k:=Vv (k:=Wn ?_)))
      exact zb6join16
     ·
      refine Zk (k:=?_)
      exact zb6join16
   ·
    refine Dw [] (k:=?_)
    refine Dv 1 (k:=Dv 2 (k:=Dv 4 (k:=Dv 5 (k:=Dv 7 (k:=Dv 8 (k:=Dn 0 (k:=?_)))))))
    refine an_mkmap rfl (fun b43 => ?_)
    refine d_next3 3 6 9 (by kernel_rfl) rfl rfl rfl ?_ ?_ ?_
    ·
     refine an_insert Tryz.underlying22 Tryz.underlying9 rfl rfl rfl ?_
     refine d_next2 6 9 (by kernel_rfl) rfl rfl ?_ ?_
     ·
      refine an_insert Tryz.underlying22 Tryz.underlying9 rfl rfl rfl ?_
      refine Dn 9 (k:=?_)
      refine an_insert Tryz.underlying22 Tryz.underlying9 rfl rfl rfl ?_
      refine Dv 10 (k:=Dv 11 (k:=Dd (k:=?_)))
      exact zb6join12
     ·
      refine an_insert Tryz.underlying22 Tryz.underlying9 rfl rfl rfl ?_
      refine Dn 6 (k:=?_)
      refine an_insert Tryz.underlying22 Tryz.underlying9 rfl rfl rfl ?_
      refine Dv 10 (k:=Dv 11 (k:=Dd (k:=?_)))
      exact zb6join12
    ·
     refine an_insert Tryz.underlying22 Tryz.underlying9 rfl rfl rfl ?_
     refine d_next2 3 9 (by kernel_rfl) rfl rfl ?_ ?_
     ·
      refine an_insert Tryz.underlying22 Tryz.underlying9 rfl rfl rfl ?_
      refine Dn 9 (k:=?_)
      refine an_insert Tryz.underlying22 Tryz.underlying9 rfl rfl rfl ?_
      refine Dv 10 (k:=Dv 11 (k:=Dd (k:=?_)))
      exact zb6join12
     ·
      refine an_insert Tryz.underlying22 Tryz.underlying9 rfl rfl rfl ?_
      refine Dn 3 (k:=?_)
      refine an_insert Tryz.underlying22 Tryz.underlying9 rfl rfl rfl ?_
      refine Dv 10 (k:=Dv 11 (k:=Dd (k:=?_)))
      exact zb6join12
    ·
     refine an_insert Tryz.underlying22 Tryz.underlying9 rfl rfl rfl ?_
     refine d_next2 3 6 (by kernel_rfl) rfl rfl ?_ ?_
     ·
      refine an_insert Tryz.underlying22 Tryz.underlying9 rfl rfl rfl ?_
      refine Dn 6 (k:=?_)
      refine an_insert Tryz.underlying22 Tryz.underlying9 rfl rfl rfl ?_
      refine Dv 10 (k:=Dv 11 (k:=Dd (k:=?_)))
      exact zb6join12
     ·
      refine an_insert Tryz.underlying22 Tryz.underlying9 rfl rfl rfl ?_
      refine Dn 3 (k:=?_)
      refine an_insert Tryz.underlying22 Tryz.underlying9 rfl rfl rfl ?_
      refine Dv 10 (k:=Dv 11 (k:=Dd (k:=?_)))
      exact zb6join12
  ·
   refine Qc (k:=Vv (k:=Wq (Zi (t:=fun h25 => ?_) (f:=fun h25 => ?_))))
   ·
    refine Zr (k:=Vv (k:=Vf 5 29 (k:=Zo (k:=Wn ?_))))
    exact zb6join7
   ·
    refine Zk (k:=?_)
    exact zb6join7
 ·
  refine Qc (k:=Vv (k:=Wq (Zi (t:=fun h22 => ?_) (f:=fun h22 => ?_))))
  ·
   refine Zr (k:=Vv (k:=Vf 5 29 (k:=Zo (k:=Wn ?_))))
   exact zb6join5
  ·
   refine Zk (k:=?_)
   exact zb6join5
end
end Go.Proofs.YtomgdbanbpjedaaGreat
