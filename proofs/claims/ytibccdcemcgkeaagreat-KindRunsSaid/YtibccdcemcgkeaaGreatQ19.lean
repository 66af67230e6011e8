/- Texts of this proof, put together: SCl, MapR, SMaps, SFrom, PMap. -/
import Derived.Maps.RangeRun
import Derived.Shelf.SlMaps.Clone
import Derived.Sort.Row
import Derived.Test.YtibccdcemcgkeaaGreatQ18
import Derived.Test.YtibccdcemcgkeaaGreatQ05
import Derived.Test.YtibccdcemcgkeaaGreatQ06
set_option linter.unusedVariables false
set_option linter.unusedSimpArgs false
section
set_option maxRecDepth 100000
namespace Go.Proofs.YtibccdcemcgkeaaGreat
set_option maxHeartbeats 1000000 in
theorem cluster_Right_sp {B : HP} {a : Option Addr} (n cap : Nat) (l : List Bs) (sh : SlA B a (l.map vS)) (hn : l.length = n) (hb : n ≤ 1073741824) (hz : ∀ t ∈ l, t.length ≤ 1099511627776) :
    Sp1 Tryz.prog 83 [.slice a n cap] [B] (vB (decide (RightCl l))) [B] := by
 subst hn
 haveI : RdSl a (l.map vS) [B] := ⟨⟨B, sh, .here⟩⟩
 refine Sp.body (n := 37) Tryz.call83 Tryz.func83 rfl rfl rfl ?_
 refine p_seq rfl ?_
 refine p_region rfl ?_
 refine wo_pv (pv_assign rfl) rfl ?_
 refine q_seq ?_
 refine p_seq rfl ?_
 refine p_seq rfl ?_
 refine p_region rfl ?_
 refine wo_pv (pv_move rfl) rfl ?_
 refine wo_pv (pv_call_len_sl Tryz.underlying27 rfl) rfl ?_
 refine wo_pv (pv_move rfl) rfl ?_
 refine q_seq ?_
 refine p_block 0 rfl ?_
 refine p_loop (fun (i : { j : Nat // j ≤ l.length ∧ ∀ i, i < j → isN (l.getD i []) = true ∧ (0 < i → blt (l.getD (i - 1) []) (l.getD i []) = true) }) => [(0, .slice a l.length cap), (5, .slice a l.length cap), (6, vI l.length), (7, vI i.1)]) (fun (i : { j : Nat // j ≤ l.length ∧ ∀ i, i < j → isN (l.getD i []) = true ∧ (0 < i → blt (l.getD (i - 1) []) (l.getD i []) = true) }) => [B]) (fun (i : { j : Nat // j ≤ l.length ∧ ∀ i, i < j → isN (l.getD i []) = true ∧ (0 < i → blt (l.getD (i - 1) []) (l.getD i []) = true) }) => l.length - i.1) rfl (⟨0, Nat.zero_le _, fun i h => by omega⟩) ?_ ?_ (fun i => ?_)
 · exact ⟨rfl, rfl, rfl, rfl, trivial⟩
 ·
  exact ent_pick
 obtain ⟨j, hj, hok⟩ := i
 dsimp only
 try dsimp only
 refine p_seq rfl ?_
 refine p_region rfl ?_
 refine wo_pv (pv_lss rfl rfl) rfl ?_
 refine q_seq ?_
 refine p_seq rfl ?_
 first | refine p_ite rfl rfl (fun h8 => ?_) (fun h8 => ?_) | refine p_cond rfl rfl (fun h8 => ?_) (fun h8 => ?_)
 ·
  refine p_skip rfl ?_
  refine t_seq ?_
  refine p_seq rfl ?_
  refine p_block 1 rfl ?_
  refine p_seq rfl ?_
  have hjl : j < l.length := by omega
  have hg : l.getD j [] = l[j] := by simp [hjl]
  have hzj := hz l[j] (List.getElem_mem hjl)
  obtain ⟨t, ht⟩ : ∃ t, t = l.getD j [] := ⟨_, rfl⟩
  rw [← hg, ← ht] at hzj
  have hbad : ∀ (h : ¬ (isN (l.getD j []) = true ∧ (0 < j → blt (l.getD (j - 1) []) (l.getD j []) = true))), decide (RightCl l) = false := fun h => decide_eq_false (fun r => h (r.ok j hjl))
  refine p_region rfl ?_
  refine wo_pv (pv_move rfl) rfl ?_
  refine r_elemAddr (sz := 1) Tryz.underlying27 ti9 rfl rfl rfl rfl (by omega) (by first | (rw [List.length_map]; omega) | (rw [flat_len (sz := 1) (fun _ => rfl)]; omega) | (simp; omega)) (Nat.mul_one _) rfl ?_
  refine r_eload Tryz.underlying9 rfl rfl (get_mapD [] hjl) rfl ?_
  rw [← ht]
  refine wo_pv (pv_assign rfl) rfl ?_
  refine wo_pv (pv_assign rfl) rfl ?_
  refine q_seq ?_
  refine p_seq rfl ?_
  refine p_region rfl ?_
  refine wo_pv (pv_move rfl) rfl ?_
  refine r_callF (hash_Is_sp t (by omega)) rfl rfl rfl ?_
  refine wo_pv (by first | exact pv_notd rfl | exact pv_not rfl) rfl ?_
  refine wo_pv (pv_move rfl) rfl ?_
  first | refine wo_gite (j := 3) rfl rfl (fun h15 => ?_) (fun h15 => ?_) | refine wo_gsplit (j := 3) rfl rfl (fun h15 => ?_) (fun h15 => ?_)
  ·
   refine wo_out (b := true) rfl rfl rfl ?_
   refine wo_out (b := true) rfl rfl rfl ?_
   refine wo_out (b := true) rfl rfl rfl ?_
   refine wo_outU (u := undef) rfl rfl rfl ?_
   refine wo_outU (u := undef) rfl rfl rfl ?_
   refine wo_outU (u := undef) rfl rfl rfl ?_
   refine wo_outU (u := undef) rfl rfl rfl ?_
   refine wo_outU (u := undef) rfl rfl rfl ?_
   refine wo_outU (u := undef) rfl rfl rfl ?_
   refine wo_outU (u := undef) rfl rfl rfl ?_
   refine wo_out (b := true) rfl rfl rfl ?_
   refine wo_pv (pv_pick_t rfl rfl) rfl ?_
   refine q_seq ?_
   refine p_true rfl rfl ?_
   refine p_seq rfl ?_
   refine p_region rfl ?_
   refine wo_pv (pv_assign rfl) rfl ?_
   refine q_seq ?_
   refine p_ret rfl ?_
   refine to_block_ret ?_
   refine t_seq_ret ?_
   refine to_inv_ret ?_
   refine to_block_ret ?_
   refine t_seq_ret ?_
   have hn : ¬ (isN (l.getD j []) = true ∧ (0 < j → blt (l.getD (j - 1) []) (l.getD j []) = true)) := fun ⟨o1, o2⟩ => by
    rw [← ht] at o1 o2
    try simp only [isN_fold] at *
    first
    | exact h15 o1
    | (have o3 := o2 (by omega); rw [o3] at h27; exact absurd h27 (by decide))
   refine fin_ret () (vs := [_]) (Cs := []) rfl (.tmp rfl .nil) (by rw [hbad hn]; rfl) trivial ent_pick
  ·
   refine wo_in (b := false) rfl ?_
   refine wo_pv (pv_move rfl) rfl ?_
   refine wo_in (b := false) rfl ?_
   refine wo_pv (pv_gtr rfl rfl) rfl ?_
   refine wo_in (b := false) rfl ?_
   refine wo_pv (pv_move rfl) rfl ?_
   first | refine wo_gite (j := 6) rfl rfl (fun h18 => ?_) (fun h18 => ?_) | refine wo_gsplit (j := 6) rfl rfl (fun h18 => ?_) (fun h18 => ?_)
   ·
    refine wo_in (b := true) rfl ?_
    refine wo_pv (pv_move rfl) rfl ?_
    refine wo_in (b := true) rfl ?_
    refine wo_pv (pv_move rfl) rfl ?_
    refine wo_in (b := true) rfl ?_
    refine wo_pv (pv_sub rfl rfl (by omega)) rfl ?_
    refine wo_in (b := true) rfl ?_
    refine r_elemAddr (sz := 1) (m := j - 1) (kk := j - 1) Tryz.underlying27 ti9 rfl rfl rfl (by omega) (by omega) (by rw [List.length_map]; omega) (Nat.mul_one _) rfl ?_
    refine wo_in (b := true) rfl ?_
    refine r_eload Tryz.underlying9 rfl rfl (get_mapD [] (m := j - 1) (by omega)) rfl ?_
    refine wo_in (b := true) rfl ?_
    refine wo_pv (pv_move rfl) rfl ?_
    refine wo_in (b := true) rfl ?_
    refine wo_pv (pv_sgeq rfl rfl) rfl ?_
    refine wo_in (b := false) rfl ?_
    refine wo_pv (pv_pick_t rfl rfl) rfl ?_
    refine wo_pv (pv_pick_f rfl rfl) rfl ?_
    refine q_seq ?_
    first | refine p_ite rfl rfl (fun h27 => ?_) (fun h27 => ?_) | refine p_cond rfl rfl (fun h27 => ?_) (fun h27 => ?_)
    ·
     refine p_seq rfl ?_
     refine p_region rfl ?_
     refine wo_pv (pv_assign rfl) rfl ?_
     refine q_seq ?_
     refine p_ret rfl ?_
     refine to_block_ret ?_
     refine t_seq_ret ?_
     refine to_inv_ret ?_
     refine to_block_ret ?_
     refine t_seq_ret ?_
     have hn : ¬ (isN (l.getD j []) = true ∧ (0 < j → blt (l.getD (j - 1) []) (l.getD j []) = true)) := fun ⟨o1, o2⟩ => by
      rw [← ht] at o1 o2
      try simp only [isN_fold] at *
      first
      | exact h15 o1
      | (have o3 := o2 (by omega); rw [o3] at h27; exact absurd h27 (by decide))
     refine fin_ret () (vs := [_]) (Cs := []) rfl (.tmp rfl .nil) (by rw [hbad hn]; rfl) trivial ent_pick
    ·
     refine p_skip rfl ?_
     refine to_block ?_
     refine t_seq ?_
     refine p_region rfl ?_
     refine wo_pv (pv_add rfl rfl (by omega)) rfl ?_
     refine wo_pv (pv_move rfl) rfl ?_
     refine wo_nil ?_
     refine to_inv ⟨j + 1, by omega, fun i hi => ?_⟩ (by dsimp only; omega) ⟨rfl, rfl, rfl, rfl, trivial⟩ ent_pick
     by_cases he : i = j
     · subst he
       rw [← ht]
       try simp only [isN_fold] at *
       refine ⟨Classical.not_not.1 h15, fun h0 => ?_⟩
       first
       | (exfalso; omega)
       | (simpa using h27)
     · exact hok i (by omega)
   ·
    refine wo_out (b := false) rfl rfl rfl ?_
    refine wo_out (b := false) rfl rfl rfl ?_
    refine wo_out (b := false) rfl rfl rfl ?_
    refine wo_out (b := false) rfl rfl rfl ?_
    refine wo_out (b := false) rfl rfl rfl ?_
    refine wo_out (b := false) rfl rfl rfl ?_
    refine wo_out (b := false) rfl rfl rfl ?_
    refine wo_in (b := false) rfl ?_
    refine wo_pv (pv_pick_f rfl rfl) rfl ?_
    refine wo_pv (pv_pick_f rfl rfl) rfl ?_
    refine q_seq ?_
    refine p_false rfl rfl ?_
    refine p_skip rfl ?_
    refine to_block ?_
    refine t_seq ?_
    refine p_region rfl ?_
    refine wo_pv (pv_add rfl rfl (by omega)) rfl ?_
    refine wo_pv (pv_move rfl) rfl ?_
    refine wo_nil ?_
    refine to_inv ⟨j + 1, by omega, fun i hi => ?_⟩ (by dsimp only; omega) ⟨rfl, rfl, rfl, rfl, trivial⟩ ent_pick
    by_cases he : i = j
    · subst he
      rw [← ht]
      try simp only [isN_fold] at *
      refine ⟨Classical.not_not.1 h15, fun h0 => ?_⟩
      first
      | (exfalso; omega)
      | (simpa using h27)
    · exact hok i (by omega)
 ·
  refine p_exit 0 rfl ?_
  refine t_seq_exit ?_
  refine to_inv_exit ?_
  refine to_block_here ?_
  refine t_seq ?_
  refine p_seq rfl ?_
  refine p_region rfl ?_
  refine wo_pv (pv_move rfl) rfl ?_
  refine wo_pv (pv_call_len_sl Tryz.underlying27 rfl) rfl ?_
  refine wo_pv (pv_geq rfl rfl) rfl ?_
  refine wo_pv (pv_move rfl) rfl ?_
  first | refine wo_gite (j := 3) rfl rfl (fun h32 => ?_) (fun h32 => ?_) | refine wo_gsplit (j := 3) rfl rfl (fun h32 => ?_) (fun h32 => ?_)
  ·
   refine wo_in (b := true) rfl ?_
   refine wo_pv (pv_move rfl) rfl ?_
   refine wo_in (b := true) rfl ?_
   refine wo_pv (pv_call_len_sl Tryz.underlying27 rfl) rfl ?_
   refine wo_in (b := true) rfl ?_
   refine wo_pv (pv_leq rfl rfl) rfl ?_
   refine wo_pv (pv_pick_t rfl rfl) rfl ?_
   refine wo_pv (pv_assign rfl) rfl ?_
   refine q_seq ?_
   refine p_ret rfl ?_
   refine fin_ret () (vs := [_]) (Cs := []) rfl (.tmp rfl .nil) ?_ trivial ent_pick
   show vB _ = vB _
   congr 1
   first
   | exact (decide_eq_false (fun h => by have := h.len; omega)).symm
   | exact decide_eq_decide.2 ⟨fun h => ⟨fun i hi => hok i (by omega), by omega⟩, fun h => by have := h.len; omega⟩
  ·
   refine wo_out (b := false) rfl rfl rfl ?_
   refine wo_out (b := false) rfl rfl rfl ?_
   refine wo_out (b := false) rfl rfl rfl ?_
   refine wo_pv (pv_pick_f rfl rfl) rfl ?_
   refine wo_pv (pv_assign rfl) rfl ?_
   refine q_seq ?_
   refine p_ret rfl ?_
   refine fin_ret () (vs := [_]) (Cs := []) rfl (.tmp rfl .nil) ?_ trivial ent_pick
   show vB _ = vB _
   congr 1
   first
   | exact (decide_eq_false (fun h => by have := h.len; omega)).symm
   | exact decide_eq_decide.2 ⟨fun h => ⟨fun i hi => hok i (by omega), by omega⟩, fun h => by have := h.len; omega⟩
def prCl (l : List Bs) : Bs := if RightCl l then clB l else []
set_option maxHeartbeats 1000000 in
theorem cluster_Print_sp {B : HP} {a : Option Addr} (n cap : Nat) (l : List Bs) (sh : SlA B a (l.map vS)) (hn : l.length = n) (hb : n ≤ 1073741824) (hz : ∀ t ∈ l, t.length ≤ 1099511627776) :
    Sp1 Tryz.prog 32 [.slice a n cap] [B] (vS (prCl l)) [B] := by
 have hRt := cluster_Right_sp n cap l sh hn hb hz
 subst hn
 haveI : RdSl a (l.map vS) [B] := ⟨⟨B, sh, .here⟩⟩
 refine Sp.body (n := 24) Tryz.call32 Tryz.func32 rfl rfl rfl ?_
 refine p_seq rfl ?_
 refine p_region rfl ?_
 refine wo_pv (pv_assign rfl) rfl ?_
 refine q_seq ?_
 refine p_seq rfl ?_
 refine p_seq rfl ?_
 refine p_region rfl ?_
 refine wo_pv (pv_move rfl) rfl ?_
 refine r_call1 hRt rfl rfl rfl ?_
 refine wo_pv (by first | exact pv_notd rfl | exact pv_not rfl) rfl ?_
 refine q_seq ?_
 first | refine p_ite rfl rfl (fun h8 => ?_) (fun h8 => ?_) | refine p_cond rfl rfl (fun h8 => ?_) (fun h8 => ?_)
 ·
  refine p_seq rfl ?_
  refine p_region rfl ?_
  refine wo_pv (pv_assign rfl) rfl ?_
  refine q_seq ?_
  refine p_ret rfl ?_
  refine t_seq_ret ?_
  have hn : ¬ RightCl l := by simpa using h8
  refine fin_ret () (vs := [_]) (Cs := []) rfl (.tmp rfl .nil) ?_ trivial ent_pick
  rw [prCl, if_neg hn]; rfl
 ·
  have hR : RightCl l := by simpa using h8
  have hsz := cl_small hR
  refine p_skip rfl ?_
  refine t_seq ?_
  refine p_seq rfl ?_
  refine p_region rfl ?_
  refine wo_pv (pv_assign rfl) rfl ?_
  refine q_seq ?_
  refine p_seq rfl ?_
  refine p_seq rfl ?_
  refine p_region rfl ?_
  refine wo_pv (pv_move rfl) rfl ?_
  refine wo_pv (pv_call_len_sl Tryz.underlying27 rfl) rfl ?_
  refine wo_pv (pv_move rfl) rfl ?_
  refine q_seq ?_
  refine p_block 0 rfl ?_
  refine p_loop (fun (i : { x : (Option Addr × Nat) × List CdV // x.2.length ≤ l.length ∧ cdsOf x.2 = clCards (l.take x.2.length) }) => [(3, .slice i.1.1.1 i.1.2.length i.1.1.2), (9, .slice a l.length cap), (10, vI l.length), (11, vI i.1.2.length)]) (fun (i : { x : (Option Addr × Nat) × List CdV // x.2.length ≤ l.length ∧ cdsOf x.2 = clCards (l.take x.2.length) }) => [Row 133 2 (.slice i.1.1.1 i.1.2.length i.1.1.2) i.1.2.length (i.1.2.flatMap CdV.cells), CdM i.1.2, B]) (fun (i : { x : (Option Addr × Nat) × List CdV // x.2.length ≤ l.length ∧ cdsOf x.2 = clCards (l.take x.2.length) }) => l.length - i.1.2.length) rfl (⟨((none, 0), []), Nat.zero_le _, rfl⟩) ?_ ?_ (fun i => ?_)
  · exact ⟨rfl, rfl, rfl, rfl, trivial⟩
  ·
   exact (row_nil (e := 133) (sz := 2)).trans (ent_cdm_nil.trans (show Ent _ [Row 133 2 (.slice none 0 0) 0 [], CdM [], B] from ent_pick))
  obtain ⟨⟨⟨oa, oc⟩, qs⟩, hj, hcd⟩ := i
  dsimp only at hj hcd ⊢
  try dsimp only
  refine p_seq rfl ?_
  refine p_region rfl ?_
  refine wo_pv (pv_lss rfl rfl) rfl ?_
  refine q_seq ?_
  refine p_seq rfl ?_
  first | refine p_ite rfl rfl (fun h12 => ?_) (fun h12 => ?_) | refine p_cond rfl rfl (fun h12 => ?_) (fun h12 => ?_)
  ·
   refine p_skip rfl ?_
   refine t_seq ?_
   refine p_seq rfl ?_
   refine p_block 1 rfl ?_
   refine p_seq rfl ?_
   have hjl : qs.length < l.length := by omega
   have htk : clCards (l.take (qs.length + 1)) = cdsOf qs ++ [clCard (l.getD qs.length [])] := by rw [List.take_succ_eq_append_getElem hjl, clCards, List.map_append, hcd]; simp [clCards, hjl]
   refine p_region rfl ?_
   refine r_elemAddr (sz := 1) Tryz.underlying27 ti9 rfl rfl rfl rfl (by omega) (by first | (rw [List.length_map]; omega) | (rw [flat_len (sz := 1) (fun _ => rfl)]; omega) | (simp; omega)) (Nat.mul_one _) rfl ?_
   refine r_eload Tryz.underlying9 rfl rfl (get_mapD [] hjl) rfl ?_
   obtain ⟨x, hx⟩ : ∃ x, x = l.getD qs.length [] := ⟨_, rfl⟩
   rw [← hx] at htk ⊢
   refine wo_pv (pv_assign rfl) rfl ?_
   refine q_seq ?_
   refine p_region rfl ?_
   refine wo_pv (pv_move rfl) rfl ?_
   refine wo_pv (pv_move rfl) rfl ?_
   refine r_buildSliceL [_] (cs := [_]) Tryz.underlying27 ti9 rfl rfl rfl rfl rfl rfl rfl rfl (fun b17 => ?_)
   refine wo_pv (pv_buildS (vs := [_, _]) Tryz.underlying133 ti133 rfl rfl rfl rfl rfl) rfl ?_
   refine r_buildSliceL [_] (cs := [_, _]) Tryz.underlying119 ti133 rfl rfl rfl rfl rfl rfl rfl rfl (fun b19 => ?_)
   refine r_append1 (sz := 2) (bytes := 32) Tryz.underlying119 ti133 rfl rfl rfl rfl rfl rfl rfl (by rfl) (by rfl) (by omega) (by simp only [maxLen]; omega) rfl (fun a20 c20 => ?_)
   refine wo_frzC b17 ?_
   refine wo_pv (pv_assign rfl) rfl ?_
   refine wo_nil ?_
   refine to_block ?_
   refine t_seq ?_
   refine p_region rfl ?_
   refine wo_pv (pv_add rfl rfl (by omega)) rfl ?_
   refine wo_pv (pv_move rfl) rfl ?_
   refine wo_nil ?_
   obtain ⟨q, hqq⟩ : ∃ q : CdV, q = ⟨77, some ⟨b17, 0, none⟩, 1, [x]⟩ := ⟨_, rfl⟩
   have hqc : q.cd = clCard x := by rw [hqq]; rfl
   have hql : (qs ++ [q]).length = qs.length + 1 := by simp
   refine to_inv ⟨((a20, c20), qs ++ [q]), ?_, ?_⟩ ?_ ⟨sl_eq hql.symm, rfl, rfl, vI_eq (by dsimp only; omega), trivial⟩ ?_
   · dsimp only; omega
   · dsimp only; rw [hql, htk, cds_snoc, hqc]
   · dsimp only; omega
   · dsimp only
     rw [hql]
     refine (ent_cdm_new (qs := qs) (a := some ⟨b17, 0, none⟩) (c := 1) 77 [x] [vS x] HasC.get HasC.get rfl (Nat.le_refl _)).trans ?_
     rw [← hqq]
     exact ent_step (row_norm (by rfl) (by rw [fm_snoc, hqq]; rfl)) ent_pick
  ·
   refine p_exit 0 rfl ?_
   refine t_seq_exit ?_
   refine to_inv_exit ?_
   refine to_block_here ?_
   refine t_seq ?_
   refine p_seq rfl ?_
   have hjl : qs.length = l.length := by omega
   rw [hjl, List.take_length] at hcd
   have hPr := card_Print_sp (B := Row 133 2 (.slice oa qs.length oc) qs.length (qs.flatMap CdV.cells)) (a := oa) qs.length oc qs sla_row rfl (by rw [hcd]; omega)
   rw [show (vS (prB (cdsOf qs))) = vS (prCl l) from by rw [prCl, if_pos hR, prB, hcd, if_pos (rightCl_cards hR)]; rfl] at hPr
   refine p_region rfl ?_
   refine wo_pv (pv_move rfl) rfl ?_
   refine r_call1 hPr rfl rfl rfl ?_
   refine wo_pv (pv_assign rfl) rfl ?_
   refine q_seq ?_
   refine p_ret rfl ?_
   exact fin_ret () (vs := [_]) (Cs := []) rfl (.tmp rfl .nil) rfl trivial ent_pick
theorem argsOf_flat : ∀ (x : UInt8) (l : List Cd), (argsOf x l).flatten.length ≤ (bodyB l).length := by
 intro x l
 induction l with
 | nil => simp [argsOf]
 | cons c l ih =>
   rw [bodyB_cons, List.length_append, List.length_cons]
   have e : (lineB c).length = (argsB c.args).length + 1 := by simp [lineB]
   have h1 := argsB_len c.args
   have e2 : argsOf x (c :: l) = (if c.l = x then [c.args] else []) ++ argsOf x l := by
    by_cases h : c.l = x <;> simp [argsOf, h]
   rw [e2, List.flatten_append, List.length_append]
   split
   · simp only [List.flatten_cons, List.flatten_nil, List.append_nil]; omega
   · simp only [List.flatten_nil, List.length_nil]; omega
/-- Names that are being gathered. -/
def NmB (b : Nat) (xs : List Bs) : HP := Ex fun z : Option Addr × Nat => Al [Ce b 27 [.slice z.1 xs.length z.2], Row 9 1 (.slice z.1 xs.length z.2) xs.length (xs.map vS)]
theorem fold_nmb {b T : Nat} {xs : List Bs} {v : Value} {Hs R1 Rs : List HP} (a : Option Addr) (k m : Nat) (hm : m = xs.length) [q : OwnC b T [v] Hs R1] (hT : T = 27) (h1 : v = .slice a m k) {n : Nat} {ys : List Value} {e sz : Nat} [q2 : RowC (.slice a m k) e sz n ys R1 Rs] (he : e = 9) (hsz : sz = 1) (hn : n = m) (hy : ys = xs.map vS) : Ent Hs (NmB b xs :: Rs) := by
 subst hT; subst h1; subst he; subst hsz; subst hn; subst hy; subst hm
 refine ent_ex (a, k) ?_
 refine ent_al ?_
 exact Picks.ent (.cons q.get (.cons q2.get .nil))
abbrev nmsH (x : (Option Addr × Nat) × List Bs) : List HP := [Row 9 1 (.slice x.1.1 x.2.length x.1.2) x.2.length (x.2.map vS)]
abbrev nmsV (x : (Option Addr × Nat) × List Bs) : Value := .slice x.1.1 x.2.length x.1.2
set_option maxHeartbeats 2000000 in
theorem cluster_Read_sp (s : Bs) (hs : s.length ≤ 1073741824) : Sp Tryz.prog 25 [vS s] [] (X := (Option Addr × Nat) × List Bs) (fun x => .tuple #[nmsV x, vB (readCl s).isSome]) (fun x => x.2 = (readCl s).getD []) nmsH := by
 refine Sp.body (n := 30) Tryz.call25 Tryz.func25 rfl rfl rfl ?_
 refine p_seq rfl ?_
 refine p_region rfl ?_
 refine wo_pv (pv_assign rfl) rfl ?_
 refine wo_pv (pv_assign rfl) rfl ?_
 refine q_seq ?_
 refine p_seq rfl ?_
 refine p_region rfl ?_
 refine wo_pv (pv_move rfl) rfl ?_
 refine r_callX (card_Read_sp s hs) rfl rfl rfl (fun x11 hx11 => ?_)
 obtain ⟨⟨ca, cc⟩, qs⟩ := x11
 dsimp only [cardV, cardH] at hx11 ⊢
 have hbz : (bodyB (cdsOf qs)).length ≤ 1073741824 := by
  rw [hx11]
  cases e : readC s with
  | none => simp [bodyB]
  | some l =>
    have h1 := congrArg List.length (readC_iff.1 e).2
    rw [printB, sealB_len] at h1
    simp only [Option.getD_some]; omega
 obtain ⟨hqn, hqz⟩ := cds_sizes hbz
 have hz := argsOf_sizes hbz 77
 have hfz := argsOf_flat 77 (cdsOf qs)
 have hof := ofL_argsOf 77 qs
 have hnone : ∀ (h : ∀ c, ReadsCl s c → False), readCl s = none := fun h => the_none h
 have hrl : ∀ l, ReadsCl s l → l = (argsOf 77 (cdsOf qs)).flatten := fun l h => by
  rw [hx11, readC_iff.2 h.reads, Option.getD_some, argsOf_cl, flat_single]
 refine wo_pv (pv_move rfl) rfl ?_
 refine wo_pv (pv_extract (v := .slice ca qs.length cc) rfl rfl) rfl ?_
 refine wo_pv (pv_extract (v := vB (readC s).isSome) rfl rfl) rfl ?_
 refine wo_pv (pv_assign rfl) rfl ?_
 refine wo_pv (pv_assign rfl) rfl ?_
 refine q_seq ?_
 refine p_seq rfl ?_
 refine p_region rfl ?_
 refine wo_alloc (zs := [.slice none 0 0]) ti27 rfl rfl rfl (fun b6 => ?_)
 refine q_seq ?_
 refine p_seq rfl ?_
 refine p_seq rfl ?_
 refine p_region rfl ?_
 refine wo_pv (pv_move rfl) rfl ?_
 refine r_callX (card_Of_sp ca qs.length cc 77) rfl rfl rfl (fun x15 _ => ?_)
 refine q_seq ?_
 refine p_block 0 rfl ?_
 refine p_rangeFunc (fun pre => [NmB b6 (pre.map (fun p => p.2.args)).flatten, CdM qs]) (fun j pre => [Pu False]) rfl (card_Of_it qs.length cc x15.1 x15.2 qs 77 (B := Row 133 2 (.slice ca qs.length cc) qs.length (qs.flatMap CdV.cells)) sla_row rfl (by omega)) rfl (fun _ => by rfl) rfl ?_ (fun l pre q hok => ?_) ?_ (fun j pre hs => ?_)
 · (refine ent_app ?_; simp only [List.map_nil, List.flatten_nil]; refine Ent.trans (row_nil (e := 9) (sz := 1)) ?_; exact (fold_nmb (b := b6) (xs := []) none 0 0 (by rfl) (by rfl) (by rfl) (by rfl) (by rfl) (by rfl) (by rfl)).trans ent_pick)
 ·
  obtain ⟨rr, hrr⟩ := hok
  obtain ⟨hqm, _⟩ := ofL_mem (p := q) (by rw [hrr]; simp)
  have hall : argsOf 77 (cdsOf qs) = pre.map (fun p => p.2.args) ++ q.2.args :: rr.map (fun p => p.2.args) := by rw [← hof, hrr]; simp
  refine wc_ent' (ent_cd hqm HasC.get) ?_
  refine wc_front (NmB b6 (pre.map (fun p => p.2.args)).flatten) (wc_exi fun z => wc_al ?_)
  obtain ⟨za, zc⟩ := z
  obtain ⟨qi, ql, qa, qc, xs⟩ := q
  dsimp only at hqm hall
  dsimp only [encO]
  obtain ⟨ys, hys⟩ : ∃ ys, ys = (pre.map (fun p => p.2.args)).flatten := ⟨_, rfl⟩
  have hyl : ys.length + xs.length ≤ 1073741824 := by
   rw [hall, List.flatten_append, ← hys, List.flatten_cons, List.length_append, List.length_append] at hfz
   omega
  rw [← hys]
  refine p_region rfl ?_
  refine wo_pv (pv_assign rfl) rfl ?_
  refine q_asg ?_
  refine p_block 1 rfl ?_
  refine p_region rfl ?_
  refine r_load Tryz.underlying27 rfl rfl rfl rfl ?_
  refine wo_pv (pv_move rfl) rfl ?_
  refine r_appendA (sz := 1) (bytes := 16) Tryz.underlying27 ti9 rfl rfl rfl rfl rfl rfl rfl (by first | rfl | (rw [List.length_map, Nat.mul_one]; try omega) | (rw [flat_len (fun _ => rfl)]; try omega) | (simp; try omega)) (by first | rfl | (simp [oneCell]; done) | (simp [List.all_flatMap, oneCell]; done)) (by omega) (by simp only [maxLen]; omega) rfl (fun a20 c20 => ?_)
  refine r_store ti27 rfl rfl rfl rfl (by simp; try omega) ?_
  refine wo_nil ?_
  refine to_block ?_
  refine to_round ?_
  rw [List.map_append, List.map_singleton, List.flatten_append, ← hys]
  exact ent_step (fold_nmb a20 c20 (ys.length + xs.length) (by simp) (by rfl) (by rfl) (by rfl) (by rfl) (by rfl) (by simp)) ent_pick
 ·
  skip
  refine to_block ?_
  refine t_seq ?_
  refine p_seq rfl ?_
  refine p_seq rfl ?_
  rw [hof]
  refine wc_front (NmB b6 (argsOf 77 (cdsOf qs)).flatten) (wc_exi fun z => wc_al ?_)
  obtain ⟨za, zc⟩ := z
  dsimp only
  have hem : ∀ t ∈ (argsOf 77 (cdsOf qs)).flatten, t.length ≤ 1099511627776 := fun t ht => by
   obtain ⟨xs, hx, ha⟩ := List.mem_flatten.1 ht
   have := (hz.2 xs hx).2 t ha
   omega
  generalize (argsOf 77 (cdsOf qs)).flatten = out at hfz hrl hem ⊢
  have hPr := cluster_Print_sp (B := Row 9 1 (.slice za out.length zc) out.length (out.map vS)) (a := za) out.length zc out sla_row rfl (by omega) hem
  refine p_region rfl ?_
  refine wo_pv (pv_move rfl) rfl ?_
  refine wo_pv (pv_seql rfl rfl) rfl ?_
  refine wo_pv (pv_move rfl) rfl ?_
  first | refine wo_gite (j := 2) rfl rfl (fun h23 => ?_) (fun h23 => ?_) | refine wo_gsplit (j := 2) rfl rfl (fun h23 => ?_) (fun h23 => ?_)
  ·
   refine wo_out (b := true) rfl rfl rfl ?_
   refine wo_out (b := true) rfl rfl rfl ?_
   refine wo_out (b := true) rfl rfl rfl ?_
   refine wo_out (b := true) rfl rfl rfl ?_
   refine wo_pv (pv_pick_t rfl rfl) rfl ?_
   refine q_seq ?_
   refine p_true rfl rfl ?_
   refine p_seq rfl ?_
   refine p_region rfl ?_
   refine wo_pv (pv_assign rfl) rfl ?_
   refine wo_pv (pv_assign rfl) rfl ?_
   refine q_seq ?_
   refine p_ret rfl ?_
   refine t_seq_ret ?_
   have hn : readCl s = none := hnone fun c h => by
    have e := hrl c h
    have e2 : prCl out = s := by rw [← e, prCl, if_pos h.1]; exact h.2
    have e3 := (reads_len h.reads).1
    first
    | exact h28 e2
    | (rw [show s = [] from by simpa using h23] at e3; simp at e3)
   rw [hn]
   refine fin_ret ((none, 0), []) (vs := [_, _]) (Cs := []) rfl (.tmp rfl (.tmp rfl .nil)) rfl rfl ?_
   exact (row_nil (e := 9) (sz := 1)).trans (show Ent _ [Row 9 1 (.slice none 0 0) 0 []] from ent_pick)
  ·
   refine wo_in (b := false) rfl ?_
   refine r_load Tryz.underlying27 rfl rfl rfl rfl ?_
   refine wo_in (b := false) rfl ?_
   refine r_call1 hPr rfl rfl rfl ?_
   refine wo_in (b := false) rfl ?_
   refine wo_pv (pv_move rfl) rfl ?_
   refine wo_in (b := false) rfl ?_
   refine wo_pv (pv_sneq rfl rfl) rfl ?_
   refine wo_pv (pv_pick_f rfl rfl) rfl ?_
   refine q_seq ?_
   first | refine p_ite rfl rfl (fun h28 => ?_) (fun h28 => ?_) | refine p_cond rfl rfl (fun h28 => ?_) (fun h28 => ?_)
   ·
    refine p_seq rfl ?_
    refine p_region rfl ?_
    refine wo_pv (pv_assign rfl) rfl ?_
    refine wo_pv (pv_assign rfl) rfl ?_
    refine q_seq ?_
    refine p_ret rfl ?_
    refine t_seq_ret ?_
    have hn : readCl s = none := hnone fun c h => by
     have e := hrl c h
     have e2 : prCl out = s := by rw [← e, prCl, if_pos h.1]; exact h.2
     have e3 := (reads_len h.reads).1
     first
     | exact h28 e2
     | (rw [show s = [] from by simpa using h23] at e3; simp at e3)
    rw [hn]
    refine fin_ret ((none, 0), []) (vs := [_, _]) (Cs := []) rfl (.tmp rfl (.tmp rfl .nil)) rfl rfl ?_
    exact (row_nil (e := 9) (sz := 1)).trans (show Ent _ [Row 9 1 (.slice none 0 0) 0 []] from ent_pick)
   ·
    refine p_skip rfl ?_
    refine t_seq ?_
    refine p_seq rfl ?_
    refine p_region rfl ?_
    refine r_load Tryz.underlying27 rfl rfl rfl rfl ?_
    refine wo_pv (pv_assign rfl) rfl ?_
    refine wo_pv (pv_assign rfl) rfl ?_
    refine q_seq ?_
    refine p_ret rfl ?_
    have he : prCl out = s := Classical.not_not.1 h28
    have hk : readCl s = some out := readCl_iff.2 (by
     rw [prCl] at he
     split at he
     · rename_i hR; exact ⟨hR, he⟩
     · exact absurd he.symm h23)
    rw [hk]
    refine fin_ret ((za, zc), out) (vs := [_, _]) (Cs := []) rfl (.tmp rfl (.tmp rfl .nil)) rfl rfl ?_
    exact ent_pick
 ·
  exact wc_no (fun s => by obtain ⟨_, _, _, _, a, _⟩ := s; exact a)
end Go.Proofs.YtibccdcemcgkeaaGreat
end
section
namespace Go.Proofs.YtibccdcemcgkeaaGreat
/-- The entries that a walk over a map has met. -/
structure SeenG (es : Array MapEntry) (ds : List MapEntry) (done : List (List UInt8)) : Prop where
 mem : ∀ d ∈ ds, d ∈ es.toList
 keys : ds.map (·.key) = done.map vS
 nodup : done.Nodup
/-- A map at b that is being walked over by the iterator at r; the keys that were met. -/
def MapIt (b r : Nat) (ks : Ks) (done : List (List UInt8)) : HP :=
 ⟨fun _ h => ∃ (es : Array MapEntry) (clock : Nat) (ds : List MapEntry), b ≠ r ∧ h = (Res.one b (.map es clock)).add (Res.one r (.mapIter (some b) clock (ds.map MapEntry.born).toArray clock)) ∧ MapG es clock ks ∧ SeenG es ds done, fun _ e => e⟩
section
variable {r : Option Nat} {P : Program} {n : Nat} {ops : Array Oper} {os : List Oper} {A : List HP} {L : Loc} {Hs : List HP} {Q : Out} {ty : TypeId} {d : Nat} {pos : String} {after : Array Edge} {c : Code}
/-- A map that is walked over, found by its iterator. -/
class MapItC (b : outParam Nat) (i : Nat) (ks : outParam Ks) (done : outParam (List (List UInt8))) (Hs : List HP) (Rs : outParam (List HP)) : Prop where
 get : Pick (MapIt b i ks done) Hs Rs
instance (priority := 1000) {b i : Nat} {ks : Ks} {done : List (List UInt8)} {r : List HP} : MapItC b i ks done (MapIt b i ks done :: r) r := ⟨.here⟩
instance (priority := 100) {b i : Nat} {ks : Ks} {done : List (List UInt8)} {B : HP} {r s : List HP} [h : MapItC b i ks done r s] : MapItC b i ks done (B :: r) (B :: s) := ⟨.there h.get⟩
instance (priority := 900) {b i : Nat} {ks : Ks} {done : List (List UInt8)} {B B' C : List HP} [h : MapItC b i ks done B B'] : MapItC b i ks done (B ++ C) (B' ++ C) := ⟨pick_left h.get⟩
instance (priority := 800) {b i : Nat} {ks : Ks} {done : List (List UInt8)} {B C C' : List HP} [h : MapItC b i ks done C C'] : MapItC b i ks done (B ++ C) (B ++ C') := ⟨pick_right h.get⟩
end
end Go.Proofs.YtibccdcemcgkeaaGreat
end
section
set_option maxRecDepth 100000
namespace Go.Proofs.YtibccdcemcgkeaaGreat
section
variable {r : Option Nat} {P : Program} {n : Nat} {ops : Array Oper} {A : List HP} {L : Loc} {Hs : List HP} {ty : TypeId} {d : Nat} {pos : String} {after : Array Edge}
end
/-! Sorting texts. -/
theorem bits_Len_zero : SpF Tryz.prog 105 [.int .u64 0] (vI 0) := SpF.of_same Tryz.call105 fun w => (Tryz.bits_Len 0 w (by omega) (by omega)).mono fun e w' ⟨h1, h2⟩ => ⟨by rw [h1]; rfl, h2⟩
theorem insertionSort_nil : SpF Tryz.prog 156 [.slice none 0 0, vI 0, vI 0] (.tuple #[]) := by
 refine Sp.body (n := 49) Tryz.call156 Tryz.func156 rfl rfl rfl ?_
 refine p_seq rfl ?_
 refine p_region rfl ?_
 refine wo_pv (pv_move rfl) rfl ?_
 refine wo_pv (pv_add rfl rfl (by omega)) rfl ?_
 refine wo_pv (pv_assign rfl) rfl ?_
 refine q_seq ?_
 refine p_block 0 rfl ?_
 refine p_loop (fun (i : Unit) => [(0, .slice none 0 0), (1, vI 0), (2, vI 0), (6, vI 1)]) (fun (i : Unit) => []) (fun (i : Unit) => 0) rfl (()) ?_ ?_ (fun i => ?_)
 · exact ⟨rfl, rfl, rfl, rfl, trivial⟩
 ·
  exact Ent.refl _
 try dsimp only
 refine p_seq rfl ?_
 refine p_seq rfl ?_
 refine p_region rfl ?_
 refine wo_pv (pv_move rfl) rfl ?_
 refine wo_pv (pv_move rfl) rfl ?_
 refine wo_pv (pv_lss rfl rfl) rfl ?_
 refine q_seq ?_
 first | refine p_ite rfl rfl (fun h12 => ?_) (fun h12 => ?_) | refine p_cond rfl rfl (fun h12 => ?_) (fun h12 => ?_)
 ·
  simp at h12
  --done
 ·
  refine p_exit 0 rfl ?_
  refine t_seq_exit ?_
  refine to_inv_exit ?_
  refine to_block_here ?_
  exact fin_end () (vs := []) (Cs := []) rfl .nil rfl trivial ent_nil
theorem pdqsort_nil : SpF Tryz.prog 104 [.slice none 0 0, vI 0, vI 0, vI 0] (.tuple #[]) := by
 refine Sp.body (n := 134) Tryz.call104 Tryz.func104 rfl rfl rfl ?_
 refine p_seq rfl ?_
 refine p_region rfl ?_
 refine wo_pv (pv_assign rfl) rfl ?_
 refine q_seq ?_
 refine p_seq rfl ?_
 refine p_region rfl ?_
 refine wo_pv (pv_assign rfl) rfl ?_
 refine q_seq ?_
 refine p_block 0 rfl ?_
 refine p_loop (fun (i : Unit) => [(0, .slice none 0 0), (1, vI 0), (2, vI 0), (3, vI 0)]) (fun (i : Unit) => []) (fun (i : Unit) => 0) rfl (()) ?_ ?_ (fun i => ?_)
 · exact ⟨rfl, rfl, rfl, rfl, trivial⟩
 ·
  exact Ent.refl _
 try dsimp only
 refine p_block 1 rfl ?_
 refine p_seq rfl ?_
 refine p_region rfl ?_
 refine wo_pv (pv_move rfl) rfl ?_
 refine wo_pv (pv_move rfl) rfl ?_
 refine wo_pv (pv_sub rfl rfl (by omega)) rfl ?_
 refine wo_pv (pv_assign rfl) rfl ?_
 refine q_seq ?_
 refine p_seq rfl ?_
 refine p_seq rfl ?_
 refine p_region rfl ?_
 refine wo_pv (pv_move rfl) rfl ?_
 refine wo_pv (pv_leq rfl rfl) rfl ?_
 refine q_seq ?_
 first | refine p_ite rfl rfl (fun h23 => ?_) (fun h23 => ?_) | refine p_cond rfl rfl (fun h23 => ?_) (fun h23 => ?_)
 ·
  refine p_seq rfl ?_
  refine p_region rfl ?_
  refine wo_pv (pv_move rfl) rfl ?_
  refine wo_pv (pv_move rfl) rfl ?_
  refine wo_pv (pv_move rfl) rfl ?_
  refine r_callF insertionSort_nil rfl rfl rfl ?_
  refine q_seq ?_
  refine p_ret rfl ?_
  refine t_seq_ret ?_
  refine to_block_ret ?_
  refine to_inv_ret ?_
  refine to_block_ret ?_
  exact fin_ret () (vs := []) (Cs := []) rfl .nil rfl trivial ent_nil
 ·
  simp at h23
  --done
theorem slices_Sort_nil : SpF Tryz.prog 55 [.slice none 0 0] (.tuple #[]) := by
 refine Sp.body (n := 11) Tryz.call55 Tryz.func55 rfl rfl rfl ?_
 refine p_seq rfl ?_
 refine p_region rfl ?_
 refine wo_pv (pv_move rfl) rfl ?_
 refine wo_pv (pv_call_len_sl Tryz.underlying27 rfl) rfl ?_
 refine wo_pv (pv_assign rfl) rfl ?_
 refine q_seq ?_
 refine p_region rfl ?_
 refine wo_pv (pv_move rfl) rfl ?_
 refine wo_pv (pv_move rfl) rfl ?_
 refine wo_pv (pv_move rfl) rfl ?_
 refine wo_pv (pv_conv_in (i := 0) rfl Tryz.underlying3 Tryz.underlying105 (by decide)) rfl ?_
 refine r_callF bits_Len_zero rfl rfl rfl ?_
 refine r_callF pdqsort_nil rfl rfl rfl ?_
 refine wo_nil ?_
 exact fin_end () (vs := []) (Cs := []) rfl .nil rfl trivial ent_nil
theorem sat_grow {w : World} {M : Kn} {h : Res} (t : Sat w M h) (os : Array Obj) : Sat (Go.Sort.grow w os) M h := by
 have old : ∀ i o, w.heap[i]? = some o → (Go.Sort.grow w os).heap[i]? = some o := fun i o e => by
  rw [Go.Sort.heap_grow_old w os (Array.getElem?_eq_some_iff.1 e).1]; exact e
 exact ⟨fun i o e => old i o (t.im i o e), fun i o e => old i o (t.ow i o e), t.dj, t.env.trans ⟨rfl, rfl, rfl, by simp⟩⟩
def sortB (l : List Bs) : List Bs := l.mergeSort fun x y => decide (x ≤ y)
theorem sortB_len (l : List Bs) : (sortB l).length = l.length := by simp [sortB]
theorem slices_Sort_sp (a : Option Addr) (n c : Nat) (l : List Bs) (hn : l.length = n) (hb : n < 4611686018427387904) :
    Sp1 Tryz.prog 55 [.slice a n c] [Row 9 1 (.slice a n c) n (l.map vS)] (.tuple #[]) [Row 9 1 (.slice a n c) n ((sortB l).map vS)] := by
 subst hn
 refine ⟨Tryz.call55, fun w M h hf d t s => ?_⟩
 obtain ⟨h1, h2, d12, e, hr, _⟩ := s
 subst e
 rcases hr with ⟨hv, hl, hx⟩ | ⟨g, cap, cur, hv, hnc, hcm, hcl, hxl, htk, hh⟩
 · have hl0 : l = [] := List.eq_nil_of_length_eq_zero hl
   subst hl0
   cases hv
   refine (slices_Sort_nil.calls w M (h1.add h2) hf d t trivial).mono ?_
   rintro ee w' ⟨x, M', h', rfl, _, le, dj, t', _⟩
   exact ⟨(), M', h', rfl, trivial, le, dj, t', Res.emp, h', Res.emp_dj _, rfl, .inl ⟨rfl, rfl, by simp [sortB]⟩, trivial⟩
 · cases hv
   subst hh
   rw [Nat.mul_one] at hcl htk
   obtain ⟨d1, d2⟩ := Res.dj_add_left.1 d
   have hg : w.heap[g]? = some (.cells cur.toArray 9 (0, 0)) := t.ow _ _ (by simp [Res.add, Res.one])
   have hlt : g < w.heap.size := (Array.getElem?_eq_some_iff.1 hg).1
   have hH : Go.Sort.Holds encStr w g 0 l.toArray := by
    intro j hj
    have hj' : j < l.length := by simpa using hj
    have hc : cur[j]? = some (vS l[j]) := by
     have := congrArg (fun q => q[j]?) htk
     simp only [List.getElem?_take, hj', if_true, List.getElem?_map, List.getElem?_eq_getElem hj', Option.map_some] at this
     exact this
    refine ⟨?_, ?_⟩
    · simp only [World.cell?, Nat.zero_add, hg]
      simp [hc, hj', encStr]
    · simp [World.frozen?, hg]
   have hcall := Tryz.slices_Sort_string g 0 c l w hH hlt hb
   refine CallsIn.mono (callsIn_wide.2 hcall) ?_
   rintro ee w' ⟨rfl, k, os, rfl⟩
   have hs : (l.mergeSort fun x y => decide (x ≤ y)) = sortB l := rfl
   rw [hs]
   have hsl := sortB_len l
   generalize hq : sortB l = q at hsl ⊢
   have hput : (Go.Sort.putRow encStr (Go.Sort.ahead w k) g 0 q.toArray).heap[g]? = some (.cells (q.map vS ++ cur.drop q.length).toArray 9 (0, 0)) := by
    have h0 : (Go.Sort.ahead w k).heap[g]? = some (.cells cur.toArray 9 (0, 0)) := hg
    simp only [Go.Sort.putRow, Go.Sort.mapBlock, Array.getElem?_modify, if_true, h0, Option.map_some, Go.Sort.onCells]
    congr 2
    apply Array.ext'
    simp only [Go.Sort.putCells, Array.toList_mapIdx]
    apply List.ext_getElem?
    intro j
    simp only [List.getElem?_mapIdx, Nat.zero_le, true_and, Nat.zero_add, List.size_toArray, Nat.sub_zero]
    by_cases hj : j < q.length
    · have hjc : j < cur.length := by have := congrArg List.length htk; simp at this; omega
      rw [List.getElem?_append_left (by simpa using hj)]
      simp [hj, hjc, encStr]
    · rw [List.getElem?_append_right (by simpa using Nat.le_of_not_lt hj)]
      simp only [List.length_map, List.getElem?_drop]
      have e : q.length + (j - q.length) = j := by omega
      rw [e]
      cases hc : cur[j]? with
      | none => simp [hc]
      | some v => simp [hc, hj]
   have hoth : ∀ i, i ≠ g → (Go.Sort.putRow encStr (Go.Sort.ahead w k) g 0 q.toArray).heap[i]? = w.heap[i]? := by
    intro i hi
    simp only [Go.Sort.putRow, Go.Sort.mapBlock, Array.getElem?_modify, Ne.symm hi, if_false]
    rfl
   have t1 : Sat w M ((Res.one g (.cells cur.toArray 9 (0, 0))).add (h2.add hf)) := by rw [← Res.add_assoc]; exact t
   have t2 := Sat.setBlk (Res.dj_add_right.2 ⟨d12, d1⟩) t1 hput hoth ⟨rfl, rfl, rfl, by simp⟩
   have dn : (Res.one g (.cells (q.map vS ++ cur.drop q.length).toArray 9 (0, 0))).dj (h2.add hf) := dj_one_any (Res.dj_add_right.2 ⟨d12, d1⟩)
   obtain ⟨dn1, dn2⟩ := Res.dj_add_right.1 dn
   refine ⟨(), M, (Res.one g (.cells (q.map vS ++ cur.drop q.length).toArray 9 (0, 0))).add h2, rfl, trivial, Kn.le_refl _, Res.dj_add_left.2 ⟨dn2, d2⟩, ?_, Res.one g _, h2, dn1, rfl, .inr ⟨g, c, q.map vS ++ cur.drop q.length, rfl, hnc, hcm, ?_, ?_, ?_, rfl⟩, trivial⟩
   · rw [Res.add_assoc]; exact sat_grow t2 os
   · simp; omega
   · simp; omega
   · rw [Nat.mul_one, ← hsl, List.take_left' (by simp)]
end Go.Proofs.YtibccdcemcgkeaaGreat
end
section
set_option maxRecDepth 100000
namespace Go.Proofs.YtibccdcemcgkeaaGreat
theorem sortB_sorted (l : List Bs) : (sortB l).Pairwise (fun x y => x ≤ y) := by
 have := List.pairwise_mergeSort (le := fun x y : Bs => decide (x ≤ y)) (fun a b c h k => by simp at *; exact List.le_trans h k) (fun a b => by simp; exact List.le_total a b) l
 simp only [decide_eq_true_eq] at this
 exact this
theorem sortB_perm (l : List Bs) : (sortB l).Perm l := List.mergeSort_perm l _
end Go.Proofs.YtibccdcemcgkeaaGreat
end
section
namespace Go.Proofs.YtibccdcemcgkeaaGreat
/-! The order of texts. -/
theorem blt_iff : ∀ (a b : Bs), blt a b = true ↔ a < b := by
 intro a
 induction a with
 | nil => intro b; cases b <;> simp [blt, Op.bytesLess]
 | cons x a ih =>
   intro b
   cases b with
   | nil => simp [blt, Op.bytesLess]
   | cons y b =>
     have := ih b
     simp only [blt] at this ⊢
     rw [List.cons_lt_cons_iff, ← this]
     simp only [Op.bytesLess]
     by_cases h : x = y
     · subst h; simp
     · simp [h]
theorem blt_eq (a b : Bs) : blt a b = decide (a < b) := by
 have := blt_iff a b
 cases h : blt a b with
 | true => rw [h] at this; exact (decide_eq_true (this.1 rfl)).symm
 | false => rw [h] at this; exact (decide_eq_false (fun e => by have := this.2 e; cases this)).symm
/-- Sorted lists with the same things in them are the same. -/
theorem sorted_eq {l m : List Bs} (hl : l.Pairwise (· < ·)) (hm : m.Pairwise (· < ·)) (h : ∀ k, k ∈ l ↔ k ∈ m) : l = m := by
 have nl : l.Nodup := hl.imp fun h e => by subst e; exact absurd h (List.lt_irrefl _)
 have nm : m.Nodup := hm.imp fun h e => by subst e; exact absurd h (List.lt_irrefl _)
 exact List.Perm.eq_of_pairwise (fun _ _ _ _ h k => List.le_antisymm h k) (hl.imp fun h => List.le_of_lt h) (hm.imp fun h => List.le_of_lt h) ((List.perm_ext_iff_of_nodup nl nm).2 h)
end Go.Proofs.YtibccdcemcgkeaaGreat
end
