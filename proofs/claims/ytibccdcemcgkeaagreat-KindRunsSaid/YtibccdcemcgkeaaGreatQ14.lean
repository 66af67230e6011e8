/- Texts of this proof, put together: SCk2. -/
import Derived.Test.YtibccdcemcgkeaaGreatQ13
set_option linter.unusedVariables false
set_option linter.unusedSimpArgs false
section
set_option maxRecDepth 100000
namespace Go.Proofs.YtibccdcemcgkeaaGreat
theorem isN_fold (s : Bs) : (s.length = 40 ∧ ∀ c ∈ s, c ∈ hexD) = (isN s = true) := propext (by rw [isN, decide_eq_true_iff])
set_option maxHeartbeats 2000000 in
theorem checkin_files_sp {B : HP} {a : Option Addr} (whole : Bool) (n cap : Nat) (l : List (Bs × Bs)) (sh : SlA B a (l.flatMap flCells)) (hn : l.length = n) (hb : n ≤ 1073741824) (hz : ∀ t ∈ l, t.1.length ≤ 1099511627776 ∧ t.2.length ≤ 1099511627776) :
    Sp1 Tryz.prog 122 [.slice a n cap, vB whole] [B] (vB (decide (RightF whole l))) [B] := by
 subst hn
 haveI : RdSl a (l.flatMap flCells) [B] := ⟨⟨B, sh, .here⟩⟩
 refine Sp.body (n := 51) Tryz.call122 Tryz.func122 rfl rfl rfl ?_
 refine p_seq rfl ?_
 refine p_region rfl ?_
 refine wo_pv (pv_assign rfl) rfl ?_
 refine q_seq ?_
 refine p_seq rfl ?_
 refine p_seq rfl ?_
 refine p_region rfl ?_
 refine wo_pv (pv_move rfl) rfl ?_
 refine wo_pv (pv_call_len_sl Tryz.underlying26 rfl) rfl ?_
 refine wo_pv (pv_move rfl) rfl ?_
 refine q_seq ?_
 refine p_block 0 rfl ?_
 refine p_loop (fun (i : { j : Nat // j ≤ l.length ∧ ∀ i, i < j → OkF whole l i }) => [(0, .slice a l.length cap), (1, vB whole), (7, .slice a l.length cap), (8, vI l.length), (9, vI i.1)]) (fun (i : { j : Nat // j ≤ l.length ∧ ∀ i, i < j → OkF whole l i }) => [B]) (fun (i : { j : Nat // j ≤ l.length ∧ ∀ i, i < j → OkF whole l i }) => l.length - i.1) rfl (⟨0, Nat.zero_le _, fun i h => by omega⟩) ?_ ?_ (fun i => ?_)
 · exact ⟨rfl, rfl, rfl, rfl, rfl, trivial⟩
 ·
  exact ent_pick
 obtain ⟨j, hj, hok⟩ := i
 dsimp only
 try dsimp only
 refine p_seq rfl ?_
 refine p_region rfl ?_
 refine wo_pv (pv_lss rfl rfl) rfl ?_
 refine q_seq ?_
 refine p_seq rfl ?_
 first | refine p_ite rfl rfl (fun h10 => ?_) (fun h10 => ?_) | refine p_cond rfl rfl (fun h10 => ?_) (fun h10 => ?_)
 ·
  refine p_skip rfl ?_
  refine t_seq ?_
  refine p_seq rfl ?_
  refine p_block 1 rfl ?_
  refine p_seq rfl ?_
  have hjl : j < l.length := by omega
  have hg : l.getD j ([], []) = l[j] := by simp [hjl]
  have hzj := hz l[j] (List.getElem_mem hjl)
  obtain ⟨t, ht⟩ : ∃ t, t = l[j] := ⟨_, rfl⟩
  rw [← ht] at hzj hg
  have hfl : (l.flatMap flCells).length = l.length * 2 := flat_len (f := flCells) (sz := 2) (fun _ => rfl) l
  have hbad : ∀ (h : ¬ OkF whole l j), decide (RightF whole l) = false := fun h => decide_eq_false (fun r => h (r.ok j hjl))
  refine p_region rfl ?_
  refine wo_pv (pv_move rfl) rfl ?_
  refine r_elemAddr (sz := 2) Tryz.underlying26 ti25 rfl rfl rfl rfl (by omega) (by first | (rw [List.length_map]; omega) | (rw [flat_len (sz := 2) (fun _ => rfl)]; omega) | (simp; omega)) rfl rfl ?_
  refine r_eloada (vs := [_, _]) (sz := 2) Tryz.underlying25 rfl ti25 rfl rfl (by rw [flat_len (sz := 2) (fun _ => rfl)]; omega) rfl (by refine get_flat (fun x => ?_) ?_ <;> first | rfl | omega) rfl ?_
  rw [← ht]
  refine wo_alloc (zs := [vS [], vS []]) ti25 rfl rfl rfl (fun b6 => ?_)
  refine wo_pv (pv_assign rfl) rfl ?_
  refine r_storea ti25 rfl rfl rfl rfl (by simp; try omega) ?_
  refine q_seq ?_
  refine p_seq rfl ?_
  refine d_draw rfl rfl rfl [Ce b6 25 [vS t.1, vS t.2], B] ?_
  refine d_first 0 rfl rfl rfl (by kernel_rfl) (by kernel_rfl) (tl_pv (pv_fieldAddrk Tryz.underlying25 rfl ti9 rfl rfl (k := 0) rfl (by first | exact Nat.zero_add _ | exact Nat.add_zero _ | exact rfl))) ?_
  refine d_first 1 rfl rfl rfl (by kernel_rfl) (by kernel_rfl) (tl_load Tryz.underlying9 rfl rfl rfl) ?_
  refine d_next 2 (by kernel_rfl) rfl ?_
  refine an_callF (escape_Word_sp t.1 (by omega)) rfl rfl rfl ?_
  refine d_first 3 rfl rfl rfl (by kernel_rfl) (by kernel_rfl) (tl_pv (by first | exact pv_notd rfl | exact pv_not rfl)) ?_
  refine d_first 4 rfl rfl rfl (by kernel_rfl) (by kernel_rfl) (tl_pv (pv_move rfl)) ?_
  first | refine d_gite (j := 4) rfl rfl (fun h18 => ?_) (fun h18 => ?_) | refine d_gsplit (j := 4) rfl rfl (fun h18 => ?_) (fun h18 => ?_)
  ·
   refine d_first 5 rfl rfl rfl (by kernel_rfl) (by kernel_rfl) (tl_out (b := true) rfl rfl) ?_
   refine d_first 6 rfl rfl rfl (by kernel_rfl) (by kernel_rfl) (tl_out (b := true) rfl rfl) ?_
   refine d_first 7 rfl rfl rfl (by kernel_rfl) (by kernel_rfl) (tl_out (b := true) rfl rfl) ?_
   refine d_first 8 rfl rfl rfl (by kernel_rfl) (by kernel_rfl) (tl_outU (u := undef) rfl rfl) ?_
   refine d_first 9 rfl rfl rfl (by kernel_rfl) (by kernel_rfl) (tl_outU (u := undef) rfl rfl) ?_
   refine d_first 10 rfl rfl rfl (by kernel_rfl) (by kernel_rfl) (tl_outU (u := undef) rfl rfl) ?_
   refine d_first 11 rfl rfl rfl (by kernel_rfl) (by kernel_rfl) (tl_outU (u := undef) rfl rfl) ?_
   refine d_first 12 rfl rfl rfl (by kernel_rfl) (by kernel_rfl) (tl_outU (u := undef) rfl rfl) ?_
   refine d_first 13 rfl rfl rfl (by kernel_rfl) (by kernel_rfl) (tl_outU (u := undef) rfl rfl) ?_
   refine d_first 14 rfl rfl rfl (by kernel_rfl) (by kernel_rfl) (tl_outU (u := undef) rfl rfl) ?_
   refine d_first 15 rfl rfl rfl (by kernel_rfl) (by kernel_rfl) (tl_outU (u := undef) rfl rfl) ?_
   refine d_first 16 rfl rfl rfl (by kernel_rfl) (by kernel_rfl) (tl_outU (u := undef) rfl rfl) ?_
   refine d_first 17 rfl rfl rfl (by kernel_rfl) (by kernel_rfl) (tl_out (b := true) rfl rfl) ?_
   refine d_first 18 rfl rfl rfl (by kernel_rfl) (by kernel_rfl) (tl_pv (pv_pick_t rfl rfl)) ?_
   refine d_first 19 rfl rfl rfl (by kernel_rfl) (by kernel_rfl) (tl_pv (pv_move rfl)) ?_
   refine d_first 20 rfl rfl rfl (by kernel_rfl) (by kernel_rfl) (tl_out (b := true) rfl rfl) ?_
   refine d_first 21 rfl rfl rfl (by kernel_rfl) (by kernel_rfl) (tl_out (b := true) rfl rfl) ?_
   refine d_first 22 rfl rfl rfl (by kernel_rfl) (by kernel_rfl) (tl_out (b := true) rfl rfl) ?_
   refine d_first 23 rfl rfl rfl (by kernel_rfl) (by kernel_rfl) (tl_out (b := true) rfl rfl) ?_
   refine d_first 24 rfl rfl rfl (by kernel_rfl) (by kernel_rfl) (tl_out (b := true) rfl rfl) ?_
   refine d_first 25 rfl rfl rfl (by kernel_rfl) (by kernel_rfl) (tl_outU (u := undef) rfl rfl) ?_
   refine d_first 26 rfl rfl rfl (by kernel_rfl) (by kernel_rfl) (tl_outU (u := undef) rfl rfl) ?_
   refine d_first 27 rfl rfl rfl (by kernel_rfl) (by kernel_rfl) (tl_outU (u := undef) rfl rfl) ?_
   refine d_first 28 rfl rfl rfl (by kernel_rfl) (by kernel_rfl) (tl_outU (u := undef) rfl rfl) ?_
   refine d_first 29 rfl rfl rfl (by kernel_rfl) (by kernel_rfl) (tl_outU (u := undef) rfl rfl) ?_
   refine d_first 30 rfl rfl rfl (by kernel_rfl) (by kernel_rfl) (tl_outU (u := undef) rfl rfl) ?_
   refine d_first 31 rfl rfl rfl (by kernel_rfl) (by kernel_rfl) (tl_out (b := true) rfl rfl) ?_
   refine d_first 32 rfl rfl rfl (by kernel_rfl) (by kernel_rfl) (tl_pv (pv_pick_t rfl rfl)) ?_
   refine d_done (by kernel_rfl) ?_
   refine t_seq ?_
   refine p_true rfl rfl ?_
   refine p_seq rfl ?_
   refine p_region rfl ?_
   refine wo_pv (pv_assign rfl) rfl ?_
   refine q_seq ?_
   refine p_ret rfl ?_
   refine to_block_ret ?_
   refine t_seq_ret ?_
   refine to_inv_ret ?_
   refine to_block_ret ?_
   refine t_seq_ret ?_
   have hn : ¬ OkF whole l j := fun o => by
    obtain ⟨o1, o2, o3⟩ := o
    rw [hg] at o1 o2 o3
    try simp only [isN_fold] at *
    have h0 : j = 0 ∨ 0 < j := by omega
    clear hz hzj hfl hok hbad
    rcases h0 with h0 | h0
    · cases whole <;> simp_all
    · have o2' := o2 h0
      cases whole <;> simp_all
   refine fin_ret () (vs := [_]) (Cs := []) rfl (.tmp rfl .nil) (by rw [hbad hn]; rfl) trivial ent_pick
  ·
   refine d_first 5 rfl rfl rfl (by kernel_rfl) (by kernel_rfl) (tl_in (b := false) rfl (tl_pv (pv_move rfl))) ?_
   refine d_first 6 rfl rfl rfl (by kernel_rfl) (by kernel_rfl) (tl_in (b := false) rfl (tl_pv (pv_gtr rfl rfl))) ?_
   refine d_first 7 rfl rfl rfl (by kernel_rfl) (by kernel_rfl) (tl_in (b := false) rfl (tl_pv (pv_move rfl))) ?_
   first | refine d_gite (j := 7) rfl rfl (fun h21 => ?_) (fun h21 => ?_) | refine d_gsplit (j := 7) rfl rfl (fun h21 => ?_) (fun h21 => ?_)
   ·
    refine d_first 8 rfl rfl rfl (by kernel_rfl) (by kernel_rfl) (tl_in (b := true) rfl (tl_pv (pv_move rfl))) ?_
    refine d_first 9 rfl rfl rfl (by kernel_rfl) (by kernel_rfl) (tl_in (b := true) rfl (tl_pv (pv_move rfl))) ?_
    refine d_first 10 rfl rfl rfl (by kernel_rfl) (by kernel_rfl) (tl_in (b := true) rfl (tl_pv (pv_sub rfl rfl (by omega)))) ?_
    refine d_first 11 rfl rfl rfl (by kernel_rfl) (by kernel_rfl) (tl_in (b := true) rfl (tl_elemAddr (sz := 2) (m := j - 1) (kk := 2 * (j - 1)) Tryz.underlying26 ti25 rfl rfl rfl (by omega) (by omega) (by omega) (Nat.mul_comm _ _))) ?_
    refine d_first 12 rfl rfl rfl (by kernel_rfl) (by kernel_rfl) (tl_in (b := true) rfl (tl_efield (kk := 2 * (j - 1)) Tryz.underlying25 rfl ti9 rfl rfl rfl rfl (by omega))) ?_
    refine d_first 13 rfl rfl rfl (by kernel_rfl) (by kernel_rfl) (tl_in (b := true) rfl (tl_eload Tryz.underlying9 rfl rfl (flget (j := j - 1) (by omega)))) ?_
    refine d_first 14 rfl rfl rfl (by kernel_rfl) (by kernel_rfl) (tl_in (b := true) rfl (tl_pv (pv_fieldAddrk Tryz.underlying25 rfl ti9 rfl rfl (k := 0) rfl (by first | exact Nat.zero_add _ | exact Nat.add_zero _ | exact rfl)))) ?_
    refine d_first 15 rfl rfl rfl (by kernel_rfl) (by kernel_rfl) (tl_in (b := true) rfl (tl_load Tryz.underlying9 rfl rfl rfl)) ?_
    refine d_first 16 rfl rfl rfl (by kernel_rfl) (by kernel_rfl) (tl_in (b := true) rfl (tl_pv (pv_sgeq rfl rfl))) ?_
    refine d_first 17 rfl rfl rfl (by kernel_rfl) (by kernel_rfl) (tl_in (b := false) rfl (tl_pv (pv_pick_t rfl rfl))) ?_
    refine d_first 18 rfl rfl rfl (by kernel_rfl) (by kernel_rfl) (tl_pv (pv_pick_f rfl rfl)) ?_
    refine d_first 19 rfl rfl rfl (by kernel_rfl) (by kernel_rfl) (tl_pv (pv_move rfl)) ?_
    first | refine d_gite (j := 19) rfl rfl (fun h33 => ?_) (fun h33 => ?_) | refine d_gsplit (j := 19) rfl rfl (fun h33 => ?_) (fun h33 => ?_)
    ·
     refine d_first 20 rfl rfl rfl (by kernel_rfl) (by kernel_rfl) (tl_out (b := true) rfl rfl) ?_
     refine d_first 21 rfl rfl rfl (by kernel_rfl) (by kernel_rfl) (tl_out (b := true) rfl rfl) ?_
     refine d_first 22 rfl rfl rfl (by kernel_rfl) (by kernel_rfl) (tl_out (b := true) rfl rfl) ?_
     refine d_first 23 rfl rfl rfl (by kernel_rfl) (by kernel_rfl) (tl_out (b := true) rfl rfl) ?_
     refine d_first 24 rfl rfl rfl (by kernel_rfl) (by kernel_rfl) (tl_out (b := true) rfl rfl) ?_
     refine d_first 25 rfl rfl rfl (by kernel_rfl) (by kernel_rfl) (tl_outU (u := undef) rfl rfl) ?_
     refine d_first 26 rfl rfl rfl (by kernel_rfl) (by kernel_rfl) (tl_outU (u := undef) rfl rfl) ?_
     refine d_first 27 rfl rfl rfl (by kernel_rfl) (by kernel_rfl) (tl_outU (u := undef) rfl rfl) ?_
     refine d_first 28 rfl rfl rfl (by kernel_rfl) (by kernel_rfl) (tl_outU (u := undef) rfl rfl) ?_
     refine d_first 29 rfl rfl rfl (by kernel_rfl) (by kernel_rfl) (tl_outU (u := undef) rfl rfl) ?_
     refine d_first 30 rfl rfl rfl (by kernel_rfl) (by kernel_rfl) (tl_outU (u := undef) rfl rfl) ?_
     refine d_first 31 rfl rfl rfl (by kernel_rfl) (by kernel_rfl) (tl_out (b := true) rfl rfl) ?_
     refine d_first 32 rfl rfl rfl (by kernel_rfl) (by kernel_rfl) (tl_pv (pv_pick_t rfl rfl)) ?_
     refine d_done (by kernel_rfl) ?_
     refine t_seq ?_
     refine p_true rfl rfl ?_
     refine p_seq rfl ?_
     refine p_region rfl ?_
     refine wo_pv (pv_assign rfl) rfl ?_
     refine q_seq ?_
     refine p_ret rfl ?_
     refine to_block_ret ?_
     refine t_seq_ret ?_
     refine to_inv_ret ?_
     refine to_block_ret ?_
     refine t_seq_ret ?_
     have hn : ¬ OkF whole l j := fun o => by
      obtain ⟨o1, o2, o3⟩ := o
      rw [hg] at o1 o2 o3
      try simp only [isN_fold] at *
      have h0 : j = 0 ∨ 0 < j := by omega
      clear hz hzj hfl hok hbad
      rcases h0 with h0 | h0
      · cases whole <;> simp_all
      · have o2' := o2 h0
        cases whole <;> simp_all
     refine fin_ret () (vs := [_]) (Cs := []) rfl (.tmp rfl .nil) (by rw [hbad hn]; rfl) trivial ent_pick
    ·
     refine d_first 20 rfl rfl rfl (by kernel_rfl) (by kernel_rfl) (tl_in (b := false) rfl (tl_pv (pv_fieldAddrk Tryz.underlying25 rfl ti9 rfl rfl (k := 1) rfl (by first | exact Nat.zero_add _ | exact Nat.add_zero _ | exact rfl)))) ?_
     refine d_first 21 rfl rfl rfl (by kernel_rfl) (by kernel_rfl) (tl_in (b := false) rfl (tl_load Tryz.underlying9 rfl rfl rfl)) ?_
     refine d_next 22 (by kernel_rfl) rfl ?_
     refine an_in (b := false) rfl ?_
     refine an_callF (hash_Is_sp t.2 (by omega)) rfl rfl rfl ?_
     refine d_first 23 rfl rfl rfl (by kernel_rfl) (by kernel_rfl) (tl_in (b := false) rfl (tl_pv (by first | exact pv_notd rfl | exact pv_not rfl))) ?_
     refine d_first 24 rfl rfl rfl (by kernel_rfl) (by kernel_rfl) (tl_in (b := false) rfl (tl_pv (pv_move rfl))) ?_
     first | refine d_gite (j := 24) rfl rfl (fun h38 => ?_) (fun h38 => ?_) | refine d_gsplit (j := 24) rfl rfl (fun h38 => ?_) (fun h38 => ?_)
     ·
      refine d_first 25 rfl rfl rfl (by kernel_rfl) (by kernel_rfl) (tl_in (b := true) rfl (tl_pv (pv_move rfl))) ?_
      refine d_first 26 rfl rfl rfl (by kernel_rfl) (by kernel_rfl) (tl_in (b := true) rfl (tl_pv (pv_move rfl))) ?_
      first | refine d_gite (j := 26) rfl rfl (fun h40 => ?_) (fun h40 => ?_) | refine d_gsplit (j := 26) rfl rfl (fun h40 => ?_) (fun h40 => ?_)
      ·
       refine d_first 27 rfl rfl rfl (by kernel_rfl) (by kernel_rfl) (tl_out (b := true) rfl rfl) ?_
       refine d_first 28 rfl rfl rfl (by kernel_rfl) (by kernel_rfl) (tl_out (b := true) rfl rfl) ?_
       refine d_first 29 rfl rfl rfl (by kernel_rfl) (by kernel_rfl) (tl_out (b := true) rfl rfl) ?_
       refine d_first 30 rfl rfl rfl (by kernel_rfl) (by kernel_rfl) (tl_in (b := true) rfl (tl_pv (pv_pick_t rfl rfl))) ?_
       refine d_first 31 rfl rfl rfl (by kernel_rfl) (by kernel_rfl) (tl_in (b := false) rfl (tl_pv (pv_pick_t rfl rfl))) ?_
       refine d_first 32 rfl rfl rfl (by kernel_rfl) (by kernel_rfl) (tl_pv (pv_pick_f rfl rfl)) ?_
       refine d_done (by kernel_rfl) ?_
       refine t_seq ?_
       refine p_true rfl rfl ?_
       refine p_seq rfl ?_
       refine p_region rfl ?_
       refine wo_pv (pv_assign rfl) rfl ?_
       refine q_seq ?_
       refine p_ret rfl ?_
       refine to_block_ret ?_
       refine t_seq_ret ?_
       refine to_inv_ret ?_
       refine to_block_ret ?_
       refine t_seq_ret ?_
       have hn : ¬ OkF whole l j := fun o => by
        obtain ⟨o1, o2, o3⟩ := o
        rw [hg] at o1 o2 o3
        try simp only [isN_fold] at *
        have h0 : j = 0 ∨ 0 < j := by omega
        clear hz hzj hfl hok hbad
        rcases h0 with h0 | h0
        · cases whole <;> simp_all
        · have o2' := o2 h0
          cases whole <;> simp_all
       refine fin_ret () (vs := [_]) (Cs := []) rfl (.tmp rfl .nil) (by rw [hbad hn]; rfl) trivial ent_pick
      ·
       refine d_first 27 rfl rfl rfl (by kernel_rfl) (by kernel_rfl) (tl_in (b := false) rfl (tl_pv (pv_fieldAddrk Tryz.underlying25 rfl ti9 rfl rfl (k := 1) rfl (by first | exact Nat.zero_add _ | exact Nat.add_zero _ | exact rfl)))) ?_
       refine d_first 28 rfl rfl rfl (by kernel_rfl) (by kernel_rfl) (tl_in (b := false) rfl (tl_load Tryz.underlying9 rfl rfl rfl)) ?_
       refine d_first 29 rfl rfl rfl (by kernel_rfl) (by kernel_rfl) (tl_in (b := false) rfl (tl_pv (pv_sneq rfl rfl))) ?_
       refine d_first 30 rfl rfl rfl (by kernel_rfl) (by kernel_rfl) (tl_in (b := true) rfl (tl_pv (pv_pick_f rfl rfl))) ?_
       refine d_first 31 rfl rfl rfl (by kernel_rfl) (by kernel_rfl) (tl_in (b := false) rfl (tl_pv (pv_pick_t rfl rfl))) ?_
       refine d_first 32 rfl rfl rfl (by kernel_rfl) (by kernel_rfl) (tl_pv (pv_pick_f rfl rfl)) ?_
       refine d_done (by kernel_rfl) ?_
       refine t_seq ?_
       first | refine p_ite rfl rfl (fun h46 => ?_) (fun h46 => ?_) | refine p_cond rfl rfl (fun h46 => ?_) (fun h46 => ?_)
       ·
        refine p_seq rfl ?_
        refine p_region rfl ?_
        refine wo_pv (pv_assign rfl) rfl ?_
        refine q_seq ?_
        refine p_ret rfl ?_
        refine to_block_ret ?_
        refine t_seq_ret ?_
        refine to_inv_ret ?_
        refine to_block_ret ?_
        refine t_seq_ret ?_
        have hn : ¬ OkF whole l j := fun o => by
         obtain ⟨o1, o2, o3⟩ := o
         rw [hg] at o1 o2 o3
         try simp only [isN_fold] at *
         have h0 : j = 0 ∨ 0 < j := by omega
         clear hz hzj hfl hok hbad
         rcases h0 with h0 | h0
         · cases whole <;> simp_all
         · have o2' := o2 h0
           cases whole <;> simp_all
        refine fin_ret () (vs := [_]) (Cs := []) rfl (.tmp rfl .nil) (by rw [hbad hn]; rfl) trivial ent_pick
       ·
        refine p_skip rfl ?_
        refine to_block ?_
        refine t_seq ?_
        refine p_region rfl ?_
        refine wo_pv (pv_add rfl rfl (by omega)) rfl ?_
        refine wo_pv (pv_move rfl) rfl ?_
        refine wo_nil ?_
        have hokj : OkF whole l j := by
         refine ⟨by rw [hg]; exact Classical.not_not.1 h18, fun h0 => ?_, ?_⟩
         · rw [hg]
           first
           | (exfalso; omega)
           | (clear hz hzj hfl hok hbad; simp_all; done)
         · rw [hg]
           try simp only [isN_fold] at *
           clear hz hzj hfl hok hbad
           cases whole <;> simp_all
        refine to_inv ⟨j + 1, by omega, fun i hi => ?_⟩ (by dsimp only; omega) ⟨rfl, rfl, rfl, rfl, rfl, trivial⟩ ent_pick
        by_cases he : i = j
        · rw [he]; exact hokj
        · exact hok i (by omega)
     ·
      refine d_first 25 rfl rfl rfl (by kernel_rfl) (by kernel_rfl) (tl_out (b := false) rfl rfl) ?_
      refine d_first 26 rfl rfl rfl (by kernel_rfl) (by kernel_rfl) (tl_out (b := false) rfl rfl) ?_
      refine d_first 27 rfl rfl rfl (by kernel_rfl) (by kernel_rfl) (tl_outU (u := undef) rfl rfl) ?_
      refine d_first 28 rfl rfl rfl (by kernel_rfl) (by kernel_rfl) (tl_outU (u := undef) rfl rfl) ?_
      refine d_first 29 rfl rfl rfl (by kernel_rfl) (by kernel_rfl) (tl_outU (u := undef) rfl rfl) ?_
      refine d_first 30 rfl rfl rfl (by kernel_rfl) (by kernel_rfl) (tl_out (b := false) rfl rfl) ?_
      refine d_first 31 rfl rfl rfl (by kernel_rfl) (by kernel_rfl) (tl_in (b := false) rfl (tl_pv (pv_pick_f rfl rfl))) ?_
      refine d_first 32 rfl rfl rfl (by kernel_rfl) (by kernel_rfl) (tl_pv (pv_pick_f rfl rfl)) ?_
      refine d_done (by kernel_rfl) ?_
      refine t_seq ?_
      refine p_false rfl rfl ?_
      refine p_skip rfl ?_
      refine to_block ?_
      refine t_seq ?_
      refine p_region rfl ?_
      refine wo_pv (pv_add rfl rfl (by omega)) rfl ?_
      refine wo_pv (pv_move rfl) rfl ?_
      refine wo_nil ?_
      have hokj : OkF whole l j := by
       refine ⟨by rw [hg]; exact Classical.not_not.1 h18, fun h0 => ?_, ?_⟩
       · rw [hg]
         first
         | (exfalso; omega)
         | (clear hz hzj hfl hok hbad; simp_all; done)
       · rw [hg]
         try simp only [isN_fold] at *
         clear hz hzj hfl hok hbad
         cases whole <;> simp_all
      refine to_inv ⟨j + 1, by omega, fun i hi => ?_⟩ (by dsimp only; omega) ⟨rfl, rfl, rfl, rfl, rfl, trivial⟩ ent_pick
      by_cases he : i = j
      · rw [he]; exact hokj
      · exact hok i (by omega)
   ·
    refine d_first 8 rfl rfl rfl (by kernel_rfl) (by kernel_rfl) (tl_out (b := false) rfl rfl) ?_
    refine d_first 9 rfl rfl rfl (by kernel_rfl) (by kernel_rfl) (tl_out (b := false) rfl rfl) ?_
    refine d_first 10 rfl rfl rfl (by kernel_rfl) (by kernel_rfl) (tl_out (b := false) rfl rfl) ?_
    refine d_first 11 rfl rfl rfl (by kernel_rfl) (by kernel_rfl) (tl_out (b := false) rfl rfl) ?_
    refine d_first 12 rfl rfl rfl (by kernel_rfl) (by kernel_rfl) (tl_out (b := false) rfl rfl) ?_
    refine d_first 13 rfl rfl rfl (by kernel_rfl) (by kernel_rfl) (tl_out (b := false) rfl rfl) ?_
    refine d_first 14 rfl rfl rfl (by kernel_rfl) (by kernel_rfl) (tl_out (b := false) rfl rfl) ?_
    refine d_first 15 rfl rfl rfl (by kernel_rfl) (by kernel_rfl) (tl_out (b := false) rfl rfl) ?_
    refine d_first 16 rfl rfl rfl (by kernel_rfl) (by kernel_rfl) (tl_out (b := false) rfl rfl) ?_
    refine d_first 17 rfl rfl rfl (by kernel_rfl) (by kernel_rfl) (tl_in (b := false) rfl (tl_pv (pv_pick_f rfl rfl))) ?_
    refine d_first 18 rfl rfl rfl (by kernel_rfl) (by kernel_rfl) (tl_pv (pv_pick_f rfl rfl)) ?_
    refine d_first 19 rfl rfl rfl (by kernel_rfl) (by kernel_rfl) (tl_pv (pv_move rfl)) ?_
    refine d_first 20 rfl rfl rfl (by kernel_rfl) (by kernel_rfl) (tl_in (b := false) rfl (tl_pv (pv_fieldAddrk Tryz.underlying25 rfl ti9 rfl rfl (k := 1) rfl (by first | exact Nat.zero_add _ | exact Nat.add_zero _ | exact rfl)))) ?_
    refine d_first 21 rfl rfl rfl (by kernel_rfl) (by kernel_rfl) (tl_in (b := false) rfl (tl_load Tryz.underlying9 rfl rfl rfl)) ?_
    refine d_next 22 (by kernel_rfl) rfl ?_
    refine an_in (b := false) rfl ?_
    refine an_callF (hash_Is_sp t.2 (by omega)) rfl rfl rfl ?_
    refine d_first 23 rfl rfl rfl (by kernel_rfl) (by kernel_rfl) (tl_in (b := false) rfl (tl_pv (by first | exact pv_notd rfl | exact pv_not rfl))) ?_
    refine d_first 24 rfl rfl rfl (by kernel_rfl) (by kernel_rfl) (tl_in (b := false) rfl (tl_pv (pv_move rfl))) ?_
    first | refine d_gite (j := 24) rfl rfl (fun h38 => ?_) (fun h38 => ?_) | refine d_gsplit (j := 24) rfl rfl (fun h38 => ?_) (fun h38 => ?_)
    ·
     refine d_first 25 rfl rfl rfl (by kernel_rfl) (by kernel_rfl) (tl_in (b := true) rfl (tl_pv (pv_move rfl))) ?_
     refine d_first 26 rfl rfl rfl (by kernel_rfl) (by kernel_rfl) (tl_in (b := true) rfl (tl_pv (pv_move rfl))) ?_
     first | refine d_gite (j := 26) rfl rfl (fun h40 => ?_) (fun h40 => ?_) | refine d_gsplit (j := 26) rfl rfl (fun h40 => ?_) (fun h40 => ?_)
     ·
      refine d_first 27 rfl rfl rfl (by kernel_rfl) (by kernel_rfl) (tl_out (b := true) rfl rfl) ?_
      refine d_first 28 rfl rfl rfl (by kernel_rfl) (by kernel_rfl) (tl_out (b := true) rfl rfl) ?_
      refine d_first 29 rfl rfl rfl (by kernel_rfl) (by kernel_rfl) (tl_out (b := true) rfl rfl) ?_
      refine d_first 30 rfl rfl rfl (by kernel_rfl) (by kernel_rfl) (tl_in (b := true) rfl (tl_pv (pv_pick_t rfl rfl))) ?_
      refine d_first 31 rfl rfl rfl (by kernel_rfl) (by kernel_rfl) (tl_in (b := false) rfl (tl_pv (pv_pick_t rfl rfl))) ?_
      refine d_first 32 rfl rfl rfl (by kernel_rfl) (by kernel_rfl) (tl_pv (pv_pick_f rfl rfl)) ?_
      refine d_done (by kernel_rfl) ?_
      refine t_seq ?_
      refine p_true rfl rfl ?_
      refine p_seq rfl ?_
      refine p_region rfl ?_
      refine wo_pv (pv_assign rfl) rfl ?_
      refine q_seq ?_
      refine p_ret rfl ?_
      refine to_block_ret ?_
      refine t_seq_ret ?_
      refine to_inv_ret ?_
      refine to_block_ret ?_
      refine t_seq_ret ?_
      have hn : ¬ OkF whole l j := fun o => by
       obtain ⟨o1, o2, o3⟩ := o
       rw [hg] at o1 o2 o3
       try simp only [isN_fold] at *
       have h0 : j = 0 ∨ 0 < j := by omega
       clear hz hzj hfl hok hbad
       rcases h0 with h0 | h0
       · cases whole <;> simp_all
       · have o2' := o2 h0
         cases whole <;> simp_all
      refine fin_ret () (vs := [_]) (Cs := []) rfl (.tmp rfl .nil) (by rw [hbad hn]; rfl) trivial ent_pick
     ·
      refine d_first 27 rfl rfl rfl (by kernel_rfl) (by kernel_rfl) (tl_in (b := false) rfl (tl_pv (pv_fieldAddrk Tryz.underlying25 rfl ti9 rfl rfl (k := 1) rfl (by first | exact Nat.zero_add _ | exact Nat.add_zero _ | exact rfl)))) ?_
      refine d_first 28 rfl rfl rfl (by kernel_rfl) (by kernel_rfl) (tl_in (b := false) rfl (tl_load Tryz.underlying9 rfl rfl rfl)) ?_
      refine d_first 29 rfl rfl rfl (by kernel_rfl) (by kernel_rfl) (tl_in (b := false) rfl (tl_pv (pv_sneq rfl rfl))) ?_
      refine d_first 30 rfl rfl rfl (by kernel_rfl) (by kernel_rfl) (tl_in (b := true) rfl (tl_pv (pv_pick_f rfl rfl))) ?_
      refine d_first 31 rfl rfl rfl (by kernel_rfl) (by kernel_rfl) (tl_in (b := false) rfl (tl_pv (pv_pick_t rfl rfl))) ?_
      refine d_first 32 rfl rfl rfl (by kernel_rfl) (by kernel_rfl) (tl_pv (pv_pick_f rfl rfl)) ?_
      refine d_done (by kernel_rfl) ?_
      refine t_seq ?_
      first | refine p_ite rfl rfl (fun h46 => ?_) (fun h46 => ?_) | refine p_cond rfl rfl (fun h46 => ?_) (fun h46 => ?_)
      ·
       refine p_seq rfl ?_
       refine p_region rfl ?_
       refine wo_pv (pv_assign rfl) rfl ?_
       refine q_seq ?_
       refine p_ret rfl ?_
       refine to_block_ret ?_
       refine t_seq_ret ?_
       refine to_inv_ret ?_
       refine to_block_ret ?_
       refine t_seq_ret ?_
       have hn : ¬ OkF whole l j := fun o => by
        obtain ⟨o1, o2, o3⟩ := o
        rw [hg] at o1 o2 o3
        try simp only [isN_fold] at *
        have h0 : j = 0 ∨ 0 < j := by omega
        clear hz hzj hfl hok hbad
        rcases h0 with h0 | h0
        · cases whole <;> simp_all
        · have o2' := o2 h0
          cases whole <;> simp_all
       refine fin_ret () (vs := [_]) (Cs := []) rfl (.tmp rfl .nil) (by rw [hbad hn]; rfl) trivial ent_pick
      ·
       refine p_skip rfl ?_
       refine to_block ?_
       refine t_seq ?_
       refine p_region rfl ?_
       refine wo_pv (pv_add rfl rfl (by omega)) rfl ?_
       refine wo_pv (pv_move rfl) rfl ?_
       refine wo_nil ?_
       have hokj : OkF whole l j := by
        refine ⟨by rw [hg]; exact Classical.not_not.1 h18, fun h0 => ?_, ?_⟩
        · rw [hg]
          first
          | (exfalso; omega)
          | (clear hz hzj hfl hok hbad; simp_all; done)
        · rw [hg]
          try simp only [isN_fold] at *
          clear hz hzj hfl hok hbad
          cases whole <;> simp_all
       refine to_inv ⟨j + 1, by omega, fun i hi => ?_⟩ (by dsimp only; omega) ⟨rfl, rfl, rfl, rfl, rfl, trivial⟩ ent_pick
       by_cases he : i = j
       · rw [he]; exact hokj
       · exact hok i (by omega)
    ·
     refine d_first 25 rfl rfl rfl (by kernel_rfl) (by kernel_rfl) (tl_out (b := false) rfl rfl) ?_
     refine d_first 26 rfl rfl rfl (by kernel_rfl) (by kernel_rfl) (tl_out (b := false) rfl rfl) ?_
     refine d_first 27 rfl rfl rfl (by kernel_rfl) (by kernel_rfl) (tl_outU (u := undef) rfl rfl) ?_
     refine d_first 28 rfl rfl rfl (by kernel_rfl) (by kernel_rfl) (tl_outU (u := undef) rfl rfl) ?_
     refine d_first 29 rfl rfl rfl (by kernel_rfl) (by kernel_rfl) (tl_outU (u := undef) rfl rfl) ?_
     refine d_first 30 rfl rfl rfl (by kernel_rfl) (by kernel_rfl) (tl_out (b := false) rfl rfl) ?_
     refine d_first 31 rfl rfl rfl (by kernel_rfl) (by kernel_rfl) (tl_in (b := false) rfl (tl_pv (pv_pick_f rfl rfl))) ?_
     refine d_first 32 rfl rfl rfl (by kernel_rfl) (by kernel_rfl) (tl_pv (pv_pick_f rfl rfl)) ?_
     refine d_done (by kernel_rfl) ?_
     refine t_seq ?_
     refine p_false rfl rfl ?_
     refine p_skip rfl ?_
     refine to_block ?_
     refine t_seq ?_
     refine p_region rfl ?_
     refine wo_pv (pv_add rfl rfl (by omega)) rfl ?_
     refine wo_pv (pv_move rfl) rfl ?_
     refine wo_nil ?_
     have hokj : OkF whole l j := by
      refine ⟨by rw [hg]; exact Classical.not_not.1 h18, fun h0 => ?_, ?_⟩
      · rw [hg]
        first
        | (exfalso; omega)
        | (clear hz hzj hfl hok hbad; simp_all; done)
      · rw [hg]
        try simp only [isN_fold] at *
        clear hz hzj hfl hok hbad
        cases whole <;> simp_all
     refine to_inv ⟨j + 1, by omega, fun i hi => ?_⟩ (by dsimp only; omega) ⟨rfl, rfl, rfl, rfl, rfl, trivial⟩ ent_pick
     by_cases he : i = j
     · rw [he]; exact hokj
     · exact hok i (by omega)
 ·
  refine p_exit 0 rfl ?_
  refine t_seq_exit ?_
  refine to_inv_exit ?_
  refine to_block_here ?_
  refine t_seq ?_
  refine p_seq rfl ?_
  refine p_region rfl ?_
  refine wo_pv (pv_move rfl) rfl ?_
  refine wo_pv (pv_call_len_sl Tryz.underlying26 rfl) rfl ?_
  refine wo_pv (pv_leq rfl rfl) rfl ?_
  refine wo_pv (pv_assign rfl) rfl ?_
  refine q_seq ?_
  refine p_ret rfl ?_
  refine fin_ret () (vs := [_]) (Cs := []) rfl (.tmp rfl .nil) ?_ trivial ent_pick
  show vB _ = vB _
  congr 1
  refine decide_eq_decide.2 ⟨fun h => ⟨fun i hi => hok i (by omega), by omega⟩, fun h => ?_⟩
  have := h.len
  omega
theorem checkin_names_sp {B : HP} {a : Option Addr} (most : Int) (n cap : Nat) (l : List Bs) (sh : SlA B a (l.map vS)) (hn : l.length = n) (hcap : n ≤ cap) (hb : n ≤ 1073741824) (hz : ∀ t ∈ l, t.length ≤ 1099511627776) :
    Sp1 Tryz.prog 123 [.slice a n cap, vI most] [B] (vB (decide (RightP l most))) [B] := by
 subst hn
 haveI : RdSl a (l.map vS) [B] := ⟨⟨B, sh, .here⟩⟩
 refine Sp.body (n := 29) Tryz.call123 Tryz.func123 rfl rfl rfl ?_
 refine p_seq rfl ?_
 refine p_region rfl ?_
 refine wo_pv (pv_assign rfl) rfl ?_
 refine q_seq ?_
 refine p_seq rfl ?_
 refine p_seq rfl ?_
 refine p_region rfl ?_
 refine wo_pv (pv_move rfl) rfl ?_
 refine wo_pv (pv_call_len_sl Tryz.underlying27 rfl) rfl ?_
 refine wo_pv (pv_move rfl) rfl ?_
 refine q_seq ?_
 refine p_block 0 rfl ?_
 refine p_loop (fun (i : { j : Nat // j ≤ l.length ∧ ∀ i, i < j → isN (l.getD i []) = true ∧ l.getD i [] ∉ l.take i }) => [(0, .slice a l.length cap), (1, vI most), (7, .slice a l.length cap), (8, vI l.length), (9, vI i.1)]) (fun (i : { j : Nat // j ≤ l.length ∧ ∀ i, i < j → isN (l.getD i []) = true ∧ l.getD i [] ∉ l.take i }) => [B]) (fun (i : { j : Nat // j ≤ l.length ∧ ∀ i, i < j → isN (l.getD i []) = true ∧ l.getD i [] ∉ l.take i }) => l.length - i.1) rfl (⟨0, Nat.zero_le _, fun i h => by omega⟩) ?_ ?_ (fun i => ?_)
 · exact ⟨rfl, rfl, rfl, rfl, rfl, trivial⟩
 ·
  exact ent_pick
 obtain ⟨j, hj, hok⟩ := i
 dsimp only
 try dsimp only
 refine p_seq rfl ?_
 refine p_region rfl ?_
 refine wo_pv (pv_lss rfl rfl) rfl ?_
 refine q_seq ?_
 refine p_seq rfl ?_
 first | refine p_ite rfl rfl (fun h10 => ?_) (fun h10 => ?_) | refine p_cond rfl rfl (fun h10 => ?_) (fun h10 => ?_)
 ·
  refine p_skip rfl ?_
  refine t_seq ?_
  refine p_seq rfl ?_
  refine p_block 1 rfl ?_
  refine p_seq rfl ?_
  have hjl : j < l.length := by omega
  have hg : l.getD j [] = l[j] := by simp [hjl]
  have hzj := hz l[j] (List.getElem_mem hjl)
  obtain ⟨t, ht⟩ : ∃ t, t = l.getD j [] := ⟨_, rfl⟩
  rw [← hg, ← ht] at hzj
  have hbad : ∀ (h : ¬ (isN (l.getD j []) = true ∧ l.getD j [] ∉ l.take j)), decide (RightP l most) = false := fun h => decide_eq_false (fun r => h (r.ok j hjl))
  refine p_region rfl ?_
  refine wo_pv (pv_move rfl) rfl ?_
  refine r_elemAddr (sz := 1) Tryz.underlying27 ti9 rfl rfl rfl rfl (by omega) (by first | (rw [List.length_map]; omega) | (rw [flat_len (sz := 1) (fun _ => rfl)]; omega) | (simp; omega)) (Nat.mul_one _) rfl ?_
  refine r_eload Tryz.underlying9 rfl rfl (get_mapD [] hjl) rfl ?_
  rw [← ht]
  refine wo_pv (pv_assign rfl) rfl ?_
  refine wo_pv (pv_assign rfl) rfl ?_
  refine q_seq ?_
  refine p_seq rfl ?_
  refine p_region rfl ?_
  refine wo_pv (pv_move rfl) rfl ?_
  refine r_callF (hash_Is_sp t (by omega)) rfl rfl rfl ?_
  refine wo_pv (by first | exact pv_notd rfl | exact pv_not rfl) rfl ?_
  refine wo_pv (pv_move rfl) rfl ?_
  first | refine wo_gite (j := 3) rfl rfl (fun h17 => ?_) (fun h17 => ?_) | refine wo_gsplit (j := 3) rfl rfl (fun h17 => ?_) (fun h17 => ?_)
  ·
   refine wo_out (b := true) rfl rfl rfl ?_
   refine wo_out (b := true) rfl rfl rfl ?_
   refine wo_out (b := true) rfl rfl rfl ?_
   refine wo_out (b := true) rfl rfl rfl ?_
   refine wo_out (b := true) rfl rfl rfl ?_
   refine wo_pv (pv_pick_t rfl rfl) rfl ?_
   refine q_seq ?_
   refine p_true rfl rfl ?_
   refine p_seq rfl ?_
   refine p_region rfl ?_
   refine wo_pv (pv_assign rfl) rfl ?_
   refine q_seq ?_
   refine p_ret rfl ?_
   refine to_block_ret ?_
   refine t_seq_ret ?_
   refine to_inv_ret ?_
   refine to_block_ret ?_
   refine t_seq_ret ?_
   have hn : ¬ (isN (l.getD j []) = true ∧ l.getD j [] ∉ l.take j) := fun ⟨o1, o2⟩ => by
    rw [← ht] at o1 o2
    try simp only [isN_fold] at *
    simp_all
   refine fin_ret () (vs := [_]) (Cs := []) rfl (.tmp rfl .nil) (by rw [hbad hn]; rfl) trivial ent_pick
  ·
   refine wo_in (b := false) rfl ?_
   refine wo_pv (pv_move rfl) rfl ?_
   refine wo_in (b := false) rfl ?_
   refine wo_pv (pv_move rfl) rfl ?_
   refine wo_in (b := false) rfl ?_
   refine wo_pv (pv_slslice_tom (m := j) Tryz.underlying27 ti9 rfl rfl rfl (by omega)) rfl ?_
   refine wo_in (b := false) rfl ?_
   refine wo_pv (pv_move rfl) rfl ?_
   refine wo_in (b := false) rfl ?_
   refine r_call1 (slices_Contains_sp (B := B) (a := a) j cap (l.take j) t (by rw [List.map_take]; exact sla_take sh j) (by rw [List.length_take]; omega) (by omega)) rfl rfl rfl ?_
   refine wo_pv (pv_pick_f rfl rfl) rfl ?_
   refine q_seq ?_
   first | refine p_ite rfl rfl (fun h23 => ?_) (fun h23 => ?_) | refine p_cond rfl rfl (fun h23 => ?_) (fun h23 => ?_)
   ·
    refine p_seq rfl ?_
    refine p_region rfl ?_
    refine wo_pv (pv_assign rfl) rfl ?_
    refine q_seq ?_
    refine p_ret rfl ?_
    refine to_block_ret ?_
    refine t_seq_ret ?_
    refine to_inv_ret ?_
    refine to_block_ret ?_
    refine t_seq_ret ?_
    have hn : ¬ (isN (l.getD j []) = true ∧ l.getD j [] ∉ l.take j) := fun ⟨o1, o2⟩ => by
     rw [← ht] at o1 o2
     try simp only [isN_fold] at *
     simp_all
    refine fin_ret () (vs := [_]) (Cs := []) rfl (.tmp rfl .nil) (by rw [hbad hn]; rfl) trivial ent_pick
   ·
    refine p_skip rfl ?_
    refine to_block ?_
    refine t_seq ?_
    refine p_region rfl ?_
    refine wo_pv (pv_add rfl rfl (by omega)) rfl ?_
    refine wo_pv (pv_move rfl) rfl ?_
    refine wo_nil ?_
    refine to_inv ⟨j + 1, by omega, fun i hi => ?_⟩ (by dsimp only; omega) ⟨rfl, rfl, rfl, rfl, rfl, trivial⟩ ent_pick
    by_cases he : i = j
    · subst he
      rw [← ht]
      try simp only [isN_fold] at *
      simp_all
    · exact hok i (by omega)
 ·
  refine p_exit 0 rfl ?_
  refine t_seq_exit ?_
  refine to_inv_exit ?_
  refine to_block_here ?_
  refine t_seq ?_
  refine p_seq rfl ?_
  refine p_region rfl ?_
  refine wo_pv (pv_move rfl) rfl ?_
  refine wo_pv (pv_call_len_sl Tryz.underlying27 rfl) rfl ?_
  refine wo_pv (pv_move rfl) rfl ?_
  refine wo_pv (pv_leq rfl rfl) rfl ?_
  refine wo_pv (pv_assign rfl) rfl ?_
  refine q_seq ?_
  refine p_ret rfl ?_
  refine fin_ret () (vs := [_]) (Cs := []) rfl (.tmp rfl .nil) ?_ trivial ent_pick
  show vB _ = vB _
  congr 1
  refine decide_eq_decide.2 ⟨fun h => ⟨fun i hi => hok i (by omega), h⟩, fun h => h.len⟩
theorem checkin_dated_sp (n : Int) : SpF Tryz.prog 121 [vI n] (vB (decide (0 ≤ n ∧ n ≤ 1073741824))) := by
 refine Sp.body (n := 9) Tryz.call121 Tryz.func121 rfl rfl rfl ?_
 refine p_seq rfl ?_
 refine p_region rfl ?_
 refine wo_pv (pv_assign rfl) rfl ?_
 refine q_seq ?_
 refine p_seq rfl ?_
 refine p_region rfl ?_
 refine wo_pv (pv_move rfl) rfl ?_
 refine wo_pv (pv_geq rfl rfl) rfl ?_
 refine wo_pv (pv_move rfl) rfl ?_
 first | refine wo_gite (j := 2) rfl rfl (fun h5 => ?_) (fun h5 => ?_) | refine wo_gsplit (j := 2) rfl rfl (fun h5 => ?_) (fun h5 => ?_)
 ·
  refine wo_in (b := true) rfl ?_
  refine wo_pv (pv_move rfl) rfl ?_
  refine wo_in (b := true) rfl ?_
  refine wo_pv (pv_leq rfl rfl) rfl ?_
  refine wo_pv (pv_pick_t rfl rfl) rfl ?_
  refine wo_pv (pv_assign rfl) rfl ?_
  refine q_seq ?_
  refine p_ret rfl ?_
  refine fin_ret () (vs := [_]) (Cs := []) rfl (.tmp rfl .nil) ?_ trivial ent_nil
  show vB _ = vB _
  congr 1
  first
  | exact decide_eq_decide.2 (by constructor <;> intro h <;> omega)
  | exact (decide_eq_false (by omega)).symm
 ·
  refine wo_out (b := false) rfl rfl rfl ?_
  refine wo_out (b := false) rfl rfl rfl ?_
  refine wo_pv (pv_pick_f rfl rfl) rfl ?_
  refine wo_pv (pv_assign rfl) rfl ?_
  refine q_seq ?_
  refine p_ret rfl ?_
  refine fin_ret () (vs := [_]) (Cs := []) rfl (.tmp rfl .nil) ?_ trivial ent_nil
  show vB _ = vB _
  congr 1
  first
  | exact decide_eq_decide.2 (by constructor <;> intro h <;> omega)
  | exact (decide_eq_false (by omega)).symm
end Go.Proofs.YtibccdcemcgkeaaGreat
end
