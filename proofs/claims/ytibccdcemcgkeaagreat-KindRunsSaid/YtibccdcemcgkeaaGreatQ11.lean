/- Texts of this proof, put together: SCard2. -/
import Derived.Test.YtibccdcemcgkeaaGreatQ10
set_option linter.unusedVariables false
set_option linter.unusedSimpArgs false
section
set_option maxRecDepth 100000
namespace Go.Proofs.YtibccdcemcgkeaaGreat
theorem card_sealed_sp (s : Bs) (hs : s.length ≤ 1099511627776) : SpF Tryz.prog 113 [vS s] (vS (sealB s)) := by
 have h40 := shaB_len s
 refine Sp.body (n := 9) Tryz.call113 Tryz.func113 rfl rfl rfl ?_
 refine p_seq rfl ?_
 refine p_region rfl ?_
 refine wo_pv (pv_assign rfl) rfl ?_
 refine q_seq ?_
 refine p_seq rfl ?_
 refine p_region rfl ?_
 refine wo_pv (pv_move rfl) rfl ?_
 refine wo_pv (pv_cat rfl rfl (by first | (simp only [List.length_append, List.length_take, List.length_drop, List.length_cons, List.length_nil]; omega) | (simp; try omega))) rfl ?_
 refine wo_pv (pv_move rfl) rfl ?_
 refine r_callF (hash_Sum_sp s hs) rfl rfl rfl ?_
 refine wo_pv (pv_cat rfl rfl (by first | (simp only [List.length_append, List.length_take, List.length_drop, List.length_cons, List.length_nil]; omega) | (simp; try omega))) rfl ?_
 refine wo_pv (pv_cat rfl rfl (by first | (simp only [List.length_append, List.length_take, List.length_drop, List.length_cons, List.length_nil]; omega) | (simp; try omega))) rfl ?_
 refine wo_pv (pv_assign rfl) rfl ?_
 refine q_seq ?_
 refine p_ret rfl ?_
 refine fin_ret () (vs := [_]) (Cs := []) rfl (.tmp rfl .nil) ?_ trivial ent_nil
 rfl
theorem argsB_ge (l : List Bs) : l.length ≤ (argsB l).length := by rw [argsB_len]; omega
theorem bodyB_ge : ∀ (l : List Cd), l.length ≤ (bodyB l).length ∧ ∀ c ∈ l, (argsB c.args).length + 2 ≤ (bodyB l).length := by
 intro l
 induction l with
 | nil => exact ⟨Nat.zero_le _, fun c hc => by cases hc⟩
 | cons c l ih =>
   rw [bodyB_cons, List.length_append, List.length_cons, List.length_cons]
   have e : (lineB c).length = (argsB c.args).length + 1 := by simp [lineB]
   refine ⟨by omega, fun x hx => ?_⟩
   rcases List.mem_cons.1 hx with rfl | hx
   · omega
   · have := ih.2 x hx; omega
theorem cds_sizes {qs : List CdV} {N : Nat} (h : (bodyB (cdsOf qs)).length ≤ N) : qs.length ≤ N ∧ ∀ q ∈ qs, (argsB q.args).length ≤ N ∧ q.args.length ≤ N := by
 obtain ⟨h1, h2⟩ := bodyB_ge (cdsOf qs)
 have e0 : (cdsOf qs).length = qs.length := by simp [cdsOf]
 rw [e0] at h1
 refine ⟨by omega, fun q hq => ?_⟩
 have h3 := h2 q.cd (List.mem_map.2 ⟨q, hq, rfl⟩)
 have h4 := argsB_ge q.args
 have e : q.cd.args = q.args := rfl
 rw [e] at h3
 omega
theorem cds_getD {qs : List CdV} {j : Nat} (h : j < qs.length) : (cdsOf qs).getD j cd0 = qs[j].cd := by simp [cdsOf, h]
set_option maxHeartbeats 1000000 in
theorem card_Right_sp {B : HP} {a : Option Addr} (n cap : Nat) (qs : List CdV) (sh : SlA B a (qs.flatMap CdV.cells)) (hn : qs.length = n) (hz : (bodyB (cdsOf qs)).length ≤ 1073741824) :
    Sp1 Tryz.prog 128 [.slice a n cap] [B, CdM qs] (vB (decide (RightC (cdsOf qs)))) [B] := by
 subst hn
 obtain ⟨hb, hqa⟩ := cds_sizes hz
 haveI : RdSl a (qs.flatMap CdV.cells) [B, CdM qs] := ⟨⟨B, sh, .here⟩⟩
 haveI : RdSl a (qs.flatMap CdV.cells) [B] := ⟨⟨B, sh, .here⟩⟩
 obtain ⟨l, hl⟩ : ∃ l, l = cdsOf qs := ⟨_, rfl⟩
 have hll : l.length = qs.length := by rw [hl]; simp [cdsOf]
 rw [← hl]
 refine Sp.body (n := 59) Tryz.call128 Tryz.func128 rfl rfl rfl ?_
 refine p_seq rfl ?_
 refine p_region rfl ?_
 refine wo_pv (pv_assign rfl) rfl ?_
 refine q_seq ?_
 refine p_seq rfl ?_
 refine p_seq rfl ?_
 refine p_region rfl ?_
 refine wo_pv (pv_move rfl) rfl ?_
 refine wo_pv (pv_call_len_sl Tryz.underlying119 rfl) rfl ?_
 refine wo_pv (pv_move rfl) rfl ?_
 refine q_seq ?_
 refine p_block 0 rfl ?_
 refine p_loop (fun (i : { j : Nat // j ≤ qs.length ∧ ∀ i, i < j → OkC l i }) => [(0, .slice a qs.length cap), (7, .slice a qs.length cap), (8, vI qs.length), (9, vI i.1)]) (fun (i : { j : Nat // j ≤ qs.length ∧ ∀ i, i < j → OkC l i }) => [B, CdM qs]) (fun (i : { j : Nat // j ≤ qs.length ∧ ∀ i, i < j → OkC l i }) => qs.length - i.1) rfl (⟨0, Nat.zero_le _, fun i h => by omega⟩) ?_ ?_ (fun i => ?_)
 · exact ⟨rfl, rfl, rfl, rfl, trivial⟩
 ·
  exact ent_pick
 obtain ⟨j, hj, hok⟩ := i
 dsimp only
 try dsimp only
 refine p_seq rfl ?_
 refine p_region rfl ?_
 refine wo_pv (pv_lss rfl rfl) rfl ?_
 refine q_seq ?_
 refine p_seq rfl ?_
 first | refine p_ite rfl rfl (fun h10 => ?_) (fun h10 => ?_) | refine p_cond rfl rfl (fun h10 => ?_) (fun h10 => ?_)
 ·
  refine p_skip rfl ?_
  refine t_seq ?_
  refine p_seq rfl ?_
  refine p_block 1 rfl ?_
  refine p_seq rfl ?_
  have hjl : j < qs.length := by omega
  have hlj : l.getD j cd0 = qs[j].cd := by rw [hl]; exact cds_getD hjl
  have hll1 : (l.getD j cd0).l.toNat = qs[j].l.toNat := by rw [hlj]; rfl
  have hfl : (qs.flatMap CdV.cells).length = qs.length * 2 := flat_len (f := CdV.cells) (sz := 2) (fun _ => rfl) qs
  refine p_region rfl ?_
  refine wo_pv (pv_move rfl) rfl ?_
  refine r_elemAddr (sz := 2) Tryz.underlying119 ti133 rfl rfl rfl rfl (by omega) (by first | (rw [List.length_map]; omega) | (rw [flat_len (sz := 2) (fun _ => rfl)]; omega) | (simp; omega)) rfl rfl ?_
  refine r_eloada (vs := [_, _]) (sz := 2) Tryz.underlying133 rfl ti133 rfl rfl (by rw [flat_len (sz := 2) (fun _ => rfl)]; omega) rfl (by refine get_flat (fun x => ?_) ?_ <;> first | rfl | omega) rfl ?_
  refine wo_alloc (zs := [.int .u8 0, .slice none 0 0]) ti133 rfl rfl rfl (fun b4 => ?_)
  refine wo_pv (pv_assign rfl) rfl ?_
  refine r_storea ti133 rfl rfl rfl rfl (by simp; try omega) ?_
  refine q_seq ?_
  refine p_seq rfl ?_
  refine p_seq rfl ?_
  refine d_draw rfl rfl rfl [Ce b4 133 [vU (qs[j].l.toNat : Int), .slice qs[j].a qs[j].args.length qs[j].c], B] ?_
  refine d_first 0 rfl rfl rfl (by kernel_rfl) (by kernel_rfl) (tl_pv (pv_fieldAddrk Tryz.underlying133 rfl ti5 rfl rfl (k := 0) rfl (by first | exact Nat.zero_add _ | exact Nat.add_zero _ | exact rfl))) ?_
  refine d_first 1 rfl rfl rfl (by kernel_rfl) (by kernel_rfl) (tl_load Tryz.underlying5 rfl rfl rfl) ?_
  refine d_first 2 rfl rfl rfl (by kernel_rfl) (by kernel_rfl) (tl_pv (pv_lss rfl rfl)) ?_
  refine d_first 3 rfl rfl rfl (by kernel_rfl) (by kernel_rfl) (tl_pv (pv_move rfl)) ?_
  first | refine d_gite (j := 3) rfl rfl (fun h17 => ?_) (fun h17 => ?_) | refine d_gsplit (j := 3) rfl rfl (fun h17 => ?_) (fun h17 => ?_)
  ·
   refine d_first 4 rfl rfl rfl (by kernel_rfl) (by kernel_rfl) (tl_out (b := true) rfl rfl) ?_
   refine d_first 5 rfl rfl rfl (by kernel_rfl) (by kernel_rfl) (tl_out (b := true) rfl rfl) ?_
   refine d_first 6 rfl rfl rfl (by kernel_rfl) (by kernel_rfl) (tl_out (b := true) rfl rfl) ?_
   refine d_first 7 rfl rfl rfl (by kernel_rfl) (by kernel_rfl) (tl_pv (pv_pick_t rfl rfl)) ?_
   refine d_first 8 rfl rfl rfl (by kernel_rfl) (by kernel_rfl) (tl_pv (pv_move rfl)) ?_
   refine d_first 9 rfl rfl rfl (by kernel_rfl) (by kernel_rfl) (tl_out (b := true) rfl rfl) ?_
   refine d_first 10 rfl rfl rfl (by kernel_rfl) (by kernel_rfl) (tl_out (b := true) rfl rfl) ?_
   refine d_first 11 rfl rfl rfl (by kernel_rfl) (by kernel_rfl) (tl_out (b := true) rfl rfl) ?_
   refine d_first 12 rfl rfl rfl (by kernel_rfl) (by kernel_rfl) (tl_outU (u := undef) rfl rfl) ?_
   refine d_first 13 rfl rfl rfl (by kernel_rfl) (by kernel_rfl) (tl_outU (u := undef) rfl rfl) ?_
   refine d_first 14 rfl rfl rfl (by kernel_rfl) (by kernel_rfl) (tl_outU (u := undef) rfl rfl) ?_
   refine d_first 15 rfl rfl rfl (by kernel_rfl) (by kernel_rfl) (tl_outU (u := undef) rfl rfl) ?_
   refine d_first 16 rfl rfl rfl (by kernel_rfl) (by kernel_rfl) (tl_outU (u := undef) rfl rfl) ?_
   refine d_first 17 rfl rfl rfl (by kernel_rfl) (by kernel_rfl) (tl_outU (u := undef) rfl rfl) ?_
   refine d_first 18 rfl rfl rfl (by kernel_rfl) (by kernel_rfl) (tl_outU (u := undef) rfl rfl) ?_
   refine d_first 19 rfl rfl rfl (by kernel_rfl) (by kernel_rfl) (tl_outU (u := undef) rfl rfl) ?_
   refine d_first 20 rfl rfl rfl (by kernel_rfl) (by kernel_rfl) (tl_outU (u := undef) rfl rfl) ?_
   refine d_first 21 rfl rfl rfl (by kernel_rfl) (by kernel_rfl) (tl_out (b := true) rfl rfl) ?_
   refine d_first 22 rfl rfl rfl (by kernel_rfl) (by kernel_rfl) (tl_pv (pv_pick_t rfl rfl)) ?_
   refine d_done (by kernel_rfl) ?_
   refine t_seq ?_
   refine p_true rfl rfl ?_
   refine p_seq rfl ?_
   refine p_region rfl ?_
   refine wo_pv (pv_assign rfl) rfl ?_
   refine q_seq ?_
   refine p_ret rfl ?_
   refine t_seq_ret ?_
   refine to_block_ret ?_
   refine t_seq_ret ?_
   refine to_inv_ret ?_
   refine to_block_ret ?_
   refine t_seq_ret ?_
   have hn : ¬ OkC l j := fun ok => by
    have h1 := ok.lo
    have h2 := ok.hi
    have h3 := ok.rise
    first
    | omega
    | (have h4 := h3 (by omega); omega)
   refine fin_ret () (vs := [_]) (Cs := []) rfl (.tmp rfl .nil) ?_ trivial ent_pick
   rw [decide_eq_false (right_not (by omega) hn)]; rfl
  ·
   refine d_first 4 rfl rfl rfl (by kernel_rfl) (by kernel_rfl) (tl_in (b := false) rfl (tl_pv (pv_fieldAddrk Tryz.underlying133 rfl ti5 rfl rfl (k := 0) rfl (by first | exact Nat.zero_add _ | exact Nat.add_zero _ | exact rfl)))) ?_
   refine d_first 5 rfl rfl rfl (by kernel_rfl) (by kernel_rfl) (tl_in (b := false) rfl (tl_load Tryz.underlying5 rfl rfl rfl)) ?_
   refine d_first 6 rfl rfl rfl (by kernel_rfl) (by kernel_rfl) (tl_in (b := false) rfl (tl_pv (pv_gtr rfl rfl))) ?_
   refine d_first 7 rfl rfl rfl (by kernel_rfl) (by kernel_rfl) (tl_pv (pv_pick_f rfl rfl)) ?_
   refine d_first 8 rfl rfl rfl (by kernel_rfl) (by kernel_rfl) (tl_pv (pv_move rfl)) ?_
   first | refine d_gite (j := 8) rfl rfl (fun h22 => ?_) (fun h22 => ?_) | refine d_gsplit (j := 8) rfl rfl (fun h22 => ?_) (fun h22 => ?_)
   ·
    refine d_first 9 rfl rfl rfl (by kernel_rfl) (by kernel_rfl) (tl_out (b := true) rfl rfl) ?_
    refine d_first 10 rfl rfl rfl (by kernel_rfl) (by kernel_rfl) (tl_out (b := true) rfl rfl) ?_
    refine d_first 11 rfl rfl rfl (by kernel_rfl) (by kernel_rfl) (tl_out (b := true) rfl rfl) ?_
    refine d_first 12 rfl rfl rfl (by kernel_rfl) (by kernel_rfl) (tl_outU (u := undef) rfl rfl) ?_
    refine d_first 13 rfl rfl rfl (by kernel_rfl) (by kernel_rfl) (tl_outU (u := undef) rfl rfl) ?_
    refine d_first 14 rfl rfl rfl (by kernel_rfl) (by kernel_rfl) (tl_outU (u := undef) rfl rfl) ?_
    refine d_first 15 rfl rfl rfl (by kernel_rfl) (by kernel_rfl) (tl_outU (u := undef) rfl rfl) ?_
    refine d_first 16 rfl rfl rfl (by kernel_rfl) (by kernel_rfl) (tl_outU (u := undef) rfl rfl) ?_
    refine d_first 17 rfl rfl rfl (by kernel_rfl) (by kernel_rfl) (tl_outU (u := undef) rfl rfl) ?_
    refine d_first 18 rfl rfl rfl (by kernel_rfl) (by kernel_rfl) (tl_outU (u := undef) rfl rfl) ?_
    refine d_first 19 rfl rfl rfl (by kernel_rfl) (by kernel_rfl) (tl_outU (u := undef) rfl rfl) ?_
    refine d_first 20 rfl rfl rfl (by kernel_rfl) (by kernel_rfl) (tl_outU (u := undef) rfl rfl) ?_
    refine d_first 21 rfl rfl rfl (by kernel_rfl) (by kernel_rfl) (tl_out (b := true) rfl rfl) ?_
    refine d_first 22 rfl rfl rfl (by kernel_rfl) (by kernel_rfl) (tl_pv (pv_pick_t rfl rfl)) ?_
    refine d_done (by kernel_rfl) ?_
    refine t_seq ?_
    refine p_true rfl rfl ?_
    refine p_seq rfl ?_
    refine p_region rfl ?_
    refine wo_pv (pv_assign rfl) rfl ?_
    refine q_seq ?_
    refine p_ret rfl ?_
    refine t_seq_ret ?_
    refine to_block_ret ?_
    refine t_seq_ret ?_
    refine to_inv_ret ?_
    refine to_block_ret ?_
    refine t_seq_ret ?_
    have hn : ¬ OkC l j := fun ok => by
     have h1 := ok.lo
     have h2 := ok.hi
     have h3 := ok.rise
     first
     | omega
     | (have h4 := h3 (by omega); omega)
    refine fin_ret () (vs := [_]) (Cs := []) rfl (.tmp rfl .nil) ?_ trivial ent_pick
    rw [decide_eq_false (right_not (by omega) hn)]; rfl
   ·
    refine d_first 9 rfl rfl rfl (by kernel_rfl) (by kernel_rfl) (tl_in (b := false) rfl (tl_pv (pv_move rfl))) ?_
    refine d_first 10 rfl rfl rfl (by kernel_rfl) (by kernel_rfl) (tl_in (b := false) rfl (tl_pv (pv_gtr rfl rfl))) ?_
    refine d_first 11 rfl rfl rfl (by kernel_rfl) (by kernel_rfl) (tl_in (b := false) rfl (tl_pv (pv_move rfl))) ?_
    first | refine d_gite (j := 11) rfl rfl (fun h25 => ?_) (fun h25 => ?_) | refine d_gsplit (j := 11) rfl rfl (fun h25 => ?_) (fun h25 => ?_)
    ·
     have hlp : (l.getD (j - 1) cd0).l.toNat = qs[j - 1].l.toNat := by
      have e := cds_getD (show j - 1 < qs.length by omega)
      rw [← hl] at e
      rw [e]; rfl
     refine d_first 12 rfl rfl rfl (by kernel_rfl) (by kernel_rfl) (tl_in (b := true) rfl (tl_pv (pv_move rfl))) ?_
     refine d_first 13 rfl rfl rfl (by kernel_rfl) (by kernel_rfl) (tl_in (b := true) rfl (tl_pv (pv_move rfl))) ?_
     refine d_first 14 rfl rfl rfl (by kernel_rfl) (by kernel_rfl) (tl_in (b := true) rfl (tl_pv (pv_sub rfl rfl (by omega)))) ?_
     refine d_first 15 rfl rfl rfl (by kernel_rfl) (by kernel_rfl) (tl_in (b := true) rfl (tl_elemAddr (sz := 2) (m := j - 1) (kk := 2 * (j - 1)) Tryz.underlying119 ti133 rfl rfl rfl (by omega) (by omega) (by omega) (Nat.mul_comm _ _))) ?_
     refine d_first 16 rfl rfl rfl (by kernel_rfl) (by kernel_rfl) (tl_in (b := true) rfl (tl_efield (kk := 2 * (j - 1)) Tryz.underlying133 rfl ti5 rfl rfl rfl rfl (by omega))) ?_
     refine d_first 17 rfl rfl rfl (by kernel_rfl) (by kernel_rfl) (tl_in (b := true) rfl (tl_eload Tryz.underlying5 rfl rfl (cdget (j := j - 1) (by omega)).1)) ?_
     refine d_first 18 rfl rfl rfl (by kernel_rfl) (by kernel_rfl) (tl_in (b := true) rfl (tl_pv (pv_fieldAddrk Tryz.underlying133 rfl ti5 rfl rfl (k := 0) rfl (by first | exact Nat.zero_add _ | exact Nat.add_zero _ | exact rfl)))) ?_
     refine d_first 19 rfl rfl rfl (by kernel_rfl) (by kernel_rfl) (tl_in (b := true) rfl (tl_load Tryz.underlying5 rfl rfl rfl)) ?_
     refine d_first 20 rfl rfl rfl (by kernel_rfl) (by kernel_rfl) (tl_in (b := true) rfl (tl_pv (pv_gtr rfl rfl))) ?_
     refine d_first 21 rfl rfl rfl (by kernel_rfl) (by kernel_rfl) (tl_in (b := false) rfl (tl_pv (pv_pick_t rfl rfl))) ?_
     refine d_first 22 rfl rfl rfl (by kernel_rfl) (by kernel_rfl) (tl_pv (pv_pick_f rfl rfl)) ?_
     refine d_done (by kernel_rfl) ?_
     refine t_seq ?_
     first | refine p_ite rfl rfl (fun h36 => ?_) (fun h36 => ?_) | refine p_cond rfl rfl (fun h36 => ?_) (fun h36 => ?_)
     ·
      refine p_seq rfl ?_
      refine p_region rfl ?_
      refine wo_pv (pv_assign rfl) rfl ?_
      refine q_seq ?_
      refine p_ret rfl ?_
      refine t_seq_ret ?_
      refine to_block_ret ?_
      refine t_seq_ret ?_
      refine to_inv_ret ?_
      refine to_block_ret ?_
      refine t_seq_ret ?_
      have hn : ¬ OkC l j := fun ok => by
       have h1 := ok.lo
       have h2 := ok.hi
       have h3 := ok.rise
       first
       | omega
       | (have h4 := h3 (by omega); omega)
      refine fin_ret () (vs := [_]) (Cs := []) rfl (.tmp rfl .nil) ?_ trivial ent_pick
      rw [decide_eq_false (right_not (by omega) hn)]; rfl
     ·
      refine p_skip rfl ?_
      refine t_seq ?_
      refine p_seq rfl ?_
      refine p_region rfl ?_
      refine wo_pv (pv_fieldAddrk Tryz.underlying133 rfl ti27 rfl rfl (k := 1) rfl (by first | exact Nat.zero_add _ | exact Nat.add_zero _ | exact rfl)) rfl ?_
      refine wo_ent' (ent_cd (q := qs[j]) (List.getElem_mem hjl) HasC.get) ?_
      obtain ⟨q, hq⟩ : ∃ q, q = qs[j] := ⟨_, rfl⟩
      have hqal := (hqa qs[j] (List.getElem_mem hjl)).2
      rw [← hq] at hqal ⊢
      refine r_load Tryz.underlying27 rfl rfl rfl rfl ?_
      refine wo_pv (pv_call_len_sl Tryz.underlying27 rfl) rfl ?_
      refine wo_pv (pv_move rfl) rfl ?_
      refine q_seq ?_
      refine p_block 2 rfl ?_
      refine p_loop (fun (i : { m : Nat // m ≤ q.args.length ∧ ∀ i, i < m → argOk (q.args.getD i []) }) => [(0, .slice a qs.length cap), (7, .slice a qs.length cap), (8, vI qs.length), (9, vI j), (38, .slice q.a q.args.length q.c), (39, vI q.args.length), (40, vI i.1)]) (fun (i : { m : Nat // m ≤ q.args.length ∧ ∀ i, i < m → argOk (q.args.getD i []) }) => [SlI q.a (q.args.map vS), B, CdM qs]) (fun (i : { m : Nat // m ≤ q.args.length ∧ ∀ i, i < m → argOk (q.args.getD i []) }) => q.args.length - i.1) rfl (⟨0, Nat.zero_le _, fun i h => by omega⟩) ?_ ?_ (fun i => ?_)
      · exact ⟨rfl, rfl, rfl, rfl, rfl, rfl, rfl, trivial⟩
      ·
       exact ent_pick
      obtain ⟨m, hm, hma⟩ := i
      dsimp only
      try dsimp only
      refine p_seq rfl ?_
      refine p_region rfl ?_
      refine wo_pv (pv_lss rfl rfl) rfl ?_
      refine q_seq ?_
      refine p_seq rfl ?_
      first | refine p_ite rfl rfl (fun h41 => ?_) (fun h41 => ?_) | refine p_cond rfl rfl (fun h41 => ?_) (fun h41 => ?_)
      ·
       refine p_skip rfl ?_
       refine t_seq ?_
       refine p_seq rfl ?_
       refine p_block 3 rfl ?_
       refine p_seq rfl ?_
       refine p_region rfl ?_
       refine r_elemAddr (sz := 1) Tryz.underlying27 ti9 rfl rfl rfl rfl (by omega) (by first | (rw [List.length_map]; omega) | (rw [flat_len (sz := 1) (fun _ => rfl)]; omega) | (simp; omega)) (Nat.mul_one _) rfl ?_
       refine r_eload Tryz.underlying9 rfl rfl (get_mapD [] (by omega)) rfl ?_
       refine wo_pv (pv_assign rfl) rfl ?_
       refine q_seq ?_
       refine p_seq rfl ?_
       obtain ⟨x, hx⟩ : ∃ x, x = q.args.getD m [] := ⟨_, rfl⟩
       have hxm : x ∈ (l.getD j cd0).args := by
        rw [hlj, ← hq, hx]
        show _ ∈ q.args
        have hmm : m < q.args.length := by omega
        simp [hmm]
       rw [← hx]
       refine p_region rfl ?_
       refine wo_pv (pv_move rfl) rfl ?_
       refine wo_pv (pv_seql rfl rfl) rfl ?_
       refine wo_pv (pv_move rfl) rfl ?_
       first | refine wo_gite (j := 2) rfl rfl (fun h46 => ?_) (fun h46 => ?_) | refine wo_gsplit (j := 2) rfl rfl (fun h46 => ?_) (fun h46 => ?_)
       ·
        refine wo_out (b := true) rfl rfl rfl ?_
        refine wo_out (b := true) rfl rfl rfl ?_
        refine wo_pv (pv_pick_t rfl rfl) rfl ?_
        refine wo_pv (pv_move rfl) rfl ?_
        refine wo_out (b := true) rfl rfl rfl ?_
        refine wo_out (b := true) rfl rfl rfl ?_
        refine wo_pv (pv_pick_t rfl rfl) rfl ?_
        refine q_seq ?_
        refine p_true rfl rfl ?_
        refine p_seq rfl ?_
        refine p_region rfl ?_
        refine wo_pv (pv_assign rfl) rfl ?_
        refine q_seq ?_
        refine p_ret rfl ?_
        refine to_block_ret ?_
        refine t_seq_ret ?_
        refine to_inv_ret ?_
        refine to_block_ret ?_
        refine to_block_ret ?_
        refine t_seq_ret ?_
        refine to_inv_ret ?_
        refine to_block_ret ?_
        refine t_seq_ret ?_
        have hn : ¬ OkC l j := fun ok => by
         obtain ⟨o1, o2, o3⟩ := ok.args x hxm
         simp_all
        refine fin_ret () (vs := [_]) (Cs := []) rfl (.tmp rfl .nil) ?_ trivial ent_pick
        rw [decide_eq_false (right_not (by omega) hn)]; rfl
       ·
        refine wo_in (b := false) rfl ?_
        refine wo_pv (pv_move rfl) rfl ?_
        refine wo_in (b := false) rfl ?_
        refine r_callF (Contains_one_sp x 32) rfl rfl rfl ?_
        refine wo_pv (pv_pick_f rfl rfl) rfl ?_
        refine wo_pv (pv_move rfl) rfl ?_
        first | refine wo_gite (j := 6) rfl rfl (fun h50 => ?_) (fun h50 => ?_) | refine wo_gsplit (j := 6) rfl rfl (fun h50 => ?_) (fun h50 => ?_)
        ·
         refine wo_out (b := true) rfl rfl rfl ?_
         refine wo_out (b := true) rfl rfl rfl ?_
         refine wo_pv (pv_pick_t rfl rfl) rfl ?_
         refine q_seq ?_
         refine p_true rfl rfl ?_
         refine p_seq rfl ?_
         refine p_region rfl ?_
         refine wo_pv (pv_assign rfl) rfl ?_
         refine q_seq ?_
         refine p_ret rfl ?_
         refine to_block_ret ?_
         refine t_seq_ret ?_
         refine to_inv_ret ?_
         refine to_block_ret ?_
         refine to_block_ret ?_
         refine t_seq_ret ?_
         refine to_inv_ret ?_
         refine to_block_ret ?_
         refine t_seq_ret ?_
         have hn : ¬ OkC l j := fun ok => by
          obtain ⟨o1, o2, o3⟩ := ok.args x hxm
          simp_all
         refine fin_ret () (vs := [_]) (Cs := []) rfl (.tmp rfl .nil) ?_ trivial ent_pick
         rw [decide_eq_false (right_not (by omega) hn)]; rfl
        ·
         refine wo_in (b := false) rfl ?_
         refine wo_pv (pv_move rfl) rfl ?_
         refine wo_in (b := false) rfl ?_
         refine r_callF (Contains_one_sp x 10) rfl rfl rfl ?_
         refine wo_pv (pv_pick_f rfl rfl) rfl ?_
         refine q_seq ?_
         first | refine p_ite rfl rfl (fun h53 => ?_) (fun h53 => ?_) | refine p_cond rfl rfl (fun h53 => ?_) (fun h53 => ?_)
         ·
          refine p_seq rfl ?_
          refine p_region rfl ?_
          refine wo_pv (pv_assign rfl) rfl ?_
          refine q_seq ?_
          refine p_ret rfl ?_
          refine to_block_ret ?_
          refine t_seq_ret ?_
          refine to_inv_ret ?_
          refine to_block_ret ?_
          refine to_block_ret ?_
          refine t_seq_ret ?_
          refine to_inv_ret ?_
          refine to_block_ret ?_
          refine t_seq_ret ?_
          have hn : ¬ OkC l j := fun ok => by
           obtain ⟨o1, o2, o3⟩ := ok.args x hxm
           simp_all
          refine fin_ret () (vs := [_]) (Cs := []) rfl (.tmp rfl .nil) ?_ trivial ent_pick
          rw [decide_eq_false (right_not (by omega) hn)]; rfl
         ·
          refine p_skip rfl ?_
          refine to_block ?_
          refine t_seq ?_
          refine p_region rfl ?_
          refine wo_pv (pv_add rfl rfl (by omega)) rfl ?_
          refine wo_pv (pv_move rfl) rfl ?_
          refine wo_nil ?_
          have hxo : argOk x := by
           refine ⟨?_, ?_, ?_⟩ <;> simp_all
          refine to_inv ⟨m + 1, by omega, fun i hi => ?_⟩ (by dsimp only; omega) ⟨rfl, rfl, rfl, rfl, rfl, rfl, rfl, trivial⟩ ent_pick
          by_cases he : i = m
          · rw [he, ← hx]; exact hxo
          · exact hma i (by omega)
      ·
       refine p_exit 2 rfl ?_
       refine t_seq_exit ?_
       refine to_inv_exit ?_
       refine to_block_here ?_
       refine to_block ?_
       refine t_seq ?_
       refine p_region rfl ?_
       refine wo_pv (pv_add rfl rfl (by omega)) rfl ?_
       refine wo_pv (pv_move rfl) rfl ?_
       refine wo_nil ?_
       have hokj : OkC l j := by
        refine ⟨by omega, by omega, fun h => by omega, fun x hx => ?_⟩
        rw [hlj, ← hq] at hx
        obtain ⟨i, hi, rfl⟩ := mem_getD (d := []) (show x ∈ q.args from hx)
        exact hma i (by omega)
       refine to_inv ⟨j + 1, by omega, fun i hi => ?_⟩ (by dsimp only; omega) ⟨rfl, rfl, rfl, rfl, trivial⟩ ent_pick
       by_cases he : i = j
       · rw [he]; exact hokj
       · exact hok i (by omega)
    ·
     refine d_first 12 rfl rfl rfl (by kernel_rfl) (by kernel_rfl) (tl_out (b := false) rfl rfl) ?_
     refine d_first 13 rfl rfl rfl (by kernel_rfl) (by kernel_rfl) (tl_out (b := false) rfl rfl) ?_
     refine d_first 14 rfl rfl rfl (by kernel_rfl) (by kernel_rfl) (tl_out (b := false) rfl rfl) ?_
     refine d_first 15 rfl rfl rfl (by kernel_rfl) (by kernel_rfl) (tl_out (b := false) rfl rfl) ?_
     refine d_first 16 rfl rfl rfl (by kernel_rfl) (by kernel_rfl) (tl_out (b := false) rfl rfl) ?_
     refine d_first 17 rfl rfl rfl (by kernel_rfl) (by kernel_rfl) (tl_out (b := false) rfl rfl) ?_
     refine d_first 18 rfl rfl rfl (by kernel_rfl) (by kernel_rfl) (tl_out (b := false) rfl rfl) ?_
     refine d_first 19 rfl rfl rfl (by kernel_rfl) (by kernel_rfl) (tl_out (b := false) rfl rfl) ?_
     refine d_first 20 rfl rfl rfl (by kernel_rfl) (by kernel_rfl) (tl_out (b := false) rfl rfl) ?_
     refine d_first 21 rfl rfl rfl (by kernel_rfl) (by kernel_rfl) (tl_in (b := false) rfl (tl_pv (pv_pick_f rfl rfl))) ?_
     refine d_first 22 rfl rfl rfl (by kernel_rfl) (by kernel_rfl) (tl_pv (pv_pick_f rfl rfl)) ?_
     refine d_done (by kernel_rfl) ?_
     refine t_seq ?_
     refine p_false rfl rfl ?_
     refine p_skip rfl ?_
     refine t_seq ?_
     refine p_seq rfl ?_
     refine p_region rfl ?_
     refine wo_pv (pv_fieldAddrk Tryz.underlying133 rfl ti27 rfl rfl (k := 1) rfl (by first | exact Nat.zero_add _ | exact Nat.add_zero _ | exact rfl)) rfl ?_
     refine wo_ent' (ent_cd (q := qs[j]) (List.getElem_mem hjl) HasC.get) ?_
     obtain ⟨q, hq⟩ : ∃ q, q = qs[j] := ⟨_, rfl⟩
     have hqal := (hqa qs[j] (List.getElem_mem hjl)).2
     rw [← hq] at hqal ⊢
     refine r_load Tryz.underlying27 rfl rfl rfl rfl ?_
     refine wo_pv (pv_call_len_sl Tryz.underlying27 rfl) rfl ?_
     refine wo_pv (pv_move rfl) rfl ?_
     refine q_seq ?_
     refine p_block 2 rfl ?_
     refine p_loop (fun (i : { m : Nat // m ≤ q.args.length ∧ ∀ i, i < m → argOk (q.args.getD i []) }) => [(0, .slice a qs.length cap), (7, .slice a qs.length cap), (8, vI qs.length), (9, vI j), (38, .slice q.a q.args.length q.c), (39, vI q.args.length), (40, vI i.1)]) (fun (i : { m : Nat // m ≤ q.args.length ∧ ∀ i, i < m → argOk (q.args.getD i []) }) => [SlI q.a (q.args.map vS), B, CdM qs]) (fun (i : { m : Nat // m ≤ q.args.length ∧ ∀ i, i < m → argOk (q.args.getD i []) }) => q.args.length - i.1) rfl (⟨0, Nat.zero_le _, fun i h => by omega⟩) ?_ ?_ (fun i => ?_)
     · exact ⟨rfl, rfl, rfl, rfl, rfl, rfl, rfl, trivial⟩
     ·
      exact ent_pick
     obtain ⟨m, hm, hma⟩ := i
     dsimp only
     try dsimp only
     refine p_seq rfl ?_
     refine p_region rfl ?_
     refine wo_pv (pv_lss rfl rfl) rfl ?_
     refine q_seq ?_
     refine p_seq rfl ?_
     first | refine p_ite rfl rfl (fun h41 => ?_) (fun h41 => ?_) | refine p_cond rfl rfl (fun h41 => ?_) (fun h41 => ?_)
     ·
      refine p_skip rfl ?_
      refine t_seq ?_
      refine p_seq rfl ?_
      refine p_block 3 rfl ?_
      refine p_seq rfl ?_
      refine p_region rfl ?_
      refine r_elemAddr (sz := 1) Tryz.underlying27 ti9 rfl rfl rfl rfl (by omega) (by first | (rw [List.length_map]; omega) | (rw [flat_len (sz := 1) (fun _ => rfl)]; omega) | (simp; omega)) (Nat.mul_one _) rfl ?_
      refine r_eload Tryz.underlying9 rfl rfl (get_mapD [] (by omega)) rfl ?_
      refine wo_pv (pv_assign rfl) rfl ?_
      refine q_seq ?_
      refine p_seq rfl ?_
      obtain ⟨x, hx⟩ : ∃ x, x = q.args.getD m [] := ⟨_, rfl⟩
      have hxm : x ∈ (l.getD j cd0).args := by
       rw [hlj, ← hq, hx]
       show _ ∈ q.args
       have hmm : m < q.args.length := by omega
       simp [hmm]
      rw [← hx]
      refine p_region rfl ?_
      refine wo_pv (pv_move rfl) rfl ?_
      refine wo_pv (pv_seql rfl rfl) rfl ?_
      refine wo_pv (pv_move rfl) rfl ?_
      first | refine wo_gite (j := 2) rfl rfl (fun h46 => ?_) (fun h46 => ?_) | refine wo_gsplit (j := 2) rfl rfl (fun h46 => ?_) (fun h46 => ?_)
      ·
       refine wo_out (b := true) rfl rfl rfl ?_
       refine wo_out (b := true) rfl rfl rfl ?_
       refine wo_pv (pv_pick_t rfl rfl) rfl ?_
       refine wo_pv (pv_move rfl) rfl ?_
       refine wo_out (b := true) rfl rfl rfl ?_
       refine wo_out (b := true) rfl rfl rfl ?_
       refine wo_pv (pv_pick_t rfl rfl) rfl ?_
       refine q_seq ?_
       refine p_true rfl rfl ?_
       refine p_seq rfl ?_
       refine p_region rfl ?_
       refine wo_pv (pv_assign rfl) rfl ?_
       refine q_seq ?_
       refine p_ret rfl ?_
       refine to_block_ret ?_
       refine t_seq_ret ?_
       refine to_inv_ret ?_
       refine to_block_ret ?_
       refine to_block_ret ?_
       refine t_seq_ret ?_
       refine to_inv_ret ?_
       refine to_block_ret ?_
       refine t_seq_ret ?_
       have hn : ¬ OkC l j := fun ok => by
        obtain ⟨o1, o2, o3⟩ := ok.args x hxm
        simp_all
       refine fin_ret () (vs := [_]) (Cs := []) rfl (.tmp rfl .nil) ?_ trivial ent_pick
       rw [decide_eq_false (right_not (by omega) hn)]; rfl
      ·
       refine wo_in (b := false) rfl ?_
       refine wo_pv (pv_move rfl) rfl ?_
       refine wo_in (b := false) rfl ?_
       refine r_callF (Contains_one_sp x 32) rfl rfl rfl ?_
       refine wo_pv (pv_pick_f rfl rfl) rfl ?_
       refine wo_pv (pv_move rfl) rfl ?_
       first | refine wo_gite (j := 6) rfl rfl (fun h50 => ?_) (fun h50 => ?_) | refine wo_gsplit (j := 6) rfl rfl (fun h50 => ?_) (fun h50 => ?_)
       ·
        refine wo_out (b := true) rfl rfl rfl ?_
        refine wo_out (b := true) rfl rfl rfl ?_
        refine wo_pv (pv_pick_t rfl rfl) rfl ?_
        refine q_seq ?_
        refine p_true rfl rfl ?_
        refine p_seq rfl ?_
        refine p_region rfl ?_
        refine wo_pv (pv_assign rfl) rfl ?_
        refine q_seq ?_
        refine p_ret rfl ?_
        refine to_block_ret ?_
        refine t_seq_ret ?_
        refine to_inv_ret ?_
        refine to_block_ret ?_
        refine to_block_ret ?_
        refine t_seq_ret ?_
        refine to_inv_ret ?_
        refine to_block_ret ?_
        refine t_seq_ret ?_
        have hn : ¬ OkC l j := fun ok => by
         obtain ⟨o1, o2, o3⟩ := ok.args x hxm
         simp_all
        refine fin_ret () (vs := [_]) (Cs := []) rfl (.tmp rfl .nil) ?_ trivial ent_pick
        rw [decide_eq_false (right_not (by omega) hn)]; rfl
       ·
        refine wo_in (b := false) rfl ?_
        refine wo_pv (pv_move rfl) rfl ?_
        refine wo_in (b := false) rfl ?_
        refine r_callF (Contains_one_sp x 10) rfl rfl rfl ?_
        refine wo_pv (pv_pick_f rfl rfl) rfl ?_
        refine q_seq ?_
        first | refine p_ite rfl rfl (fun h53 => ?_) (fun h53 => ?_) | refine p_cond rfl rfl (fun h53 => ?_) (fun h53 => ?_)
        ·
         refine p_seq rfl ?_
         refine p_region rfl ?_
         refine wo_pv (pv_assign rfl) rfl ?_
         refine q_seq ?_
         refine p_ret rfl ?_
         refine to_block_ret ?_
         refine t_seq_ret ?_
         refine to_inv_ret ?_
         refine to_block_ret ?_
         refine to_block_ret ?_
         refine t_seq_ret ?_
         refine to_inv_ret ?_
         refine to_block_ret ?_
         refine t_seq_ret ?_
         have hn : ¬ OkC l j := fun ok => by
          obtain ⟨o1, o2, o3⟩ := ok.args x hxm
          simp_all
         refine fin_ret () (vs := [_]) (Cs := []) rfl (.tmp rfl .nil) ?_ trivial ent_pick
         rw [decide_eq_false (right_not (by omega) hn)]; rfl
        ·
         refine p_skip rfl ?_
         refine to_block ?_
         refine t_seq ?_
         refine p_region rfl ?_
         refine wo_pv (pv_add rfl rfl (by omega)) rfl ?_
         refine wo_pv (pv_move rfl) rfl ?_
         refine wo_nil ?_
         have hxo : argOk x := by
          refine ⟨?_, ?_, ?_⟩ <;> simp_all
         refine to_inv ⟨m + 1, by omega, fun i hi => ?_⟩ (by dsimp only; omega) ⟨rfl, rfl, rfl, rfl, rfl, rfl, rfl, trivial⟩ ent_pick
         by_cases he : i = m
         · rw [he, ← hx]; exact hxo
         · exact hma i (by omega)
     ·
      refine p_exit 2 rfl ?_
      refine t_seq_exit ?_
      refine to_inv_exit ?_
      refine to_block_here ?_
      refine to_block ?_
      refine t_seq ?_
      refine p_region rfl ?_
      refine wo_pv (pv_add rfl rfl (by omega)) rfl ?_
      refine wo_pv (pv_move rfl) rfl ?_
      refine wo_nil ?_
      have hokj : OkC l j := by
       refine ⟨by omega, by omega, fun h => by omega, fun x hx => ?_⟩
       rw [hlj, ← hq] at hx
       obtain ⟨i, hi, rfl⟩ := mem_getD (d := []) (show x ∈ q.args from hx)
       exact hma i (by omega)
      refine to_inv ⟨j + 1, by omega, fun i hi => ?_⟩ (by dsimp only; omega) ⟨rfl, rfl, rfl, rfl, trivial⟩ ent_pick
      by_cases he : i = j
      · rw [he]; exact hokj
      · exact hok i (by omega)
 ·
  refine p_exit 0 rfl ?_
  refine t_seq_exit ?_
  refine to_inv_exit ?_
  refine to_block_here ?_
  refine t_seq ?_
  refine p_seq rfl ?_
  refine p_region rfl ?_
  refine wo_pv (pv_move rfl) rfl ?_
  refine wo_pv (pv_call_len_sl Tryz.underlying119 rfl) rfl ?_
  refine wo_pv (pv_gtr rfl rfl) rfl ?_
  refine wo_pv (pv_assign rfl) rfl ?_
  refine q_seq ?_
  refine p_ret rfl ?_
  refine fin_ret () (vs := [_]) (Cs := []) rfl (.tmp rfl .nil) ?_ trivial ent_pick
  show vB _ = vB _
  congr 1
  refine decide_eq_decide.2 ⟨fun h => ⟨fun e => ?_, fun i hi => hok i (by omega)⟩, fun h => ?_⟩
  · rw [e] at hll; simp at hll; omega
  · have := List.length_pos_iff.2 h.ne; omega
theorem body_take {l : List Cd} {j : Nat} (h : j < l.length) : bodyB (l.take (j + 1)) = bodyB (l.take j) ++ cardB (l.getD j cd0) := by
 rw [List.take_succ_eq_append_getElem h, bodyB_app]; simp [bodyB, h]
theorem body_take_le (l : List Cd) (j : Nat) : (bodyB (l.take j)).length ≤ (bodyB l).length := by
 conv => rhs; rw [← List.take_append_drop j l, bodyB_app, List.length_append]
 omega
/-- What cards print. -/
def prB (l : List Cd) : Bs := if RightC l then printB l else []
set_option maxHeartbeats 1000000 in
theorem card_Print_sp {B : HP} {a : Option Addr} (n cap : Nat) (qs : List CdV) (sh : SlA B a (qs.flatMap CdV.cells)) (hn : qs.length = n) (hz : (bodyB (cdsOf qs)).length ≤ 1073741824) :
    Sp1 Tryz.prog 79 [.slice a n cap] [B, CdM qs] (vS (prB (cdsOf qs))) [B] := by
 have hR := card_Right_sp n cap qs sh hn hz
 subst hn
 obtain ⟨hb, hqa⟩ := cds_sizes hz
 haveI : RdSl a (qs.flatMap CdV.cells) [B, CdM qs] := ⟨⟨B, sh, .here⟩⟩
 obtain ⟨l, hl⟩ : ∃ l, l = cdsOf qs := ⟨_, rfl⟩
 have hll : l.length = qs.length := by rw [hl]; simp [cdsOf]
 rw [← hl] at hz hR ⊢
 refine Sp.body (n := 29) Tryz.call79 Tryz.func79 rfl rfl rfl ?_
 refine p_seq rfl ?_
 refine p_region rfl ?_
 refine wo_pv (pv_assign rfl) rfl ?_
 refine q_seq ?_
 refine p_seq rfl ?_
 refine p_seq rfl ?_
 refine p_region rfl ?_
 refine wo_pv (pv_move rfl) rfl ?_
 refine r_call1 hR rfl rfl rfl ?_
 refine wo_pv (by first | exact pv_notd rfl | exact pv_not rfl) rfl ?_
 refine q_seq ?_
 first | refine p_ite rfl rfl (fun h8 => ?_) (fun h8 => ?_) | refine p_cond rfl rfl (fun h8 => ?_) (fun h8 => ?_)
 ·
  refine p_seq rfl ?_
  refine p_region rfl ?_
  refine wo_pv (pv_assign rfl) rfl ?_
  refine q_seq ?_
  refine p_ret rfl ?_
  refine t_seq_ret ?_
  have hn : ¬ RightC l := by simpa using h8
  refine fin_ret () (vs := [_]) (Cs := []) rfl (.tmp rfl .nil) ?_ trivial ent_pick
  rw [prB, if_neg hn]; rfl
 ·
  refine p_skip rfl ?_
  refine t_seq ?_
  refine p_seq rfl ?_
  refine p_region rfl ?_
  refine wo_alloc (zs := [.pointer none, .slice none 0 0]) ti174 rfl rfl rfl (fun b3 => ?_)
  refine wo_ent' (fold_newB (p := b3) (by rfl) (by rfl) (by rfl)) ?_
  refine q_seq ?_
  refine p_seq rfl ?_
  refine p_seq rfl ?_
  refine p_region rfl ?_
  refine wo_pv (pv_move rfl) rfl ?_
  refine wo_pv (pv_call_len_sl Tryz.underlying119 rfl) rfl ?_
  refine wo_pv (pv_move rfl) rfl ?_
  refine q_seq ?_
  refine p_block 0 rfl ?_
  refine p_loop (fun (i : { j : Nat // j ≤ qs.length }) => [(3, .pointer (some ⟨b3, 0, none⟩)), (9, .slice a qs.length cap), (10, vI qs.length), (11, vI i.1)]) (fun (i : { j : Nat // j ≤ qs.length }) => [IsB b3 (bodyB (l.take i.1)), B, CdM qs]) (fun (i : { j : Nat // j ≤ qs.length }) => qs.length - i.1) rfl (⟨0, Nat.zero_le _⟩) ?_ ?_ (fun i => ?_)
  · exact ⟨rfl, rfl, rfl, rfl, trivial⟩
  ·
   dsimp only
   rw [List.take_zero, show bodyB [] = [] from rfl]
   exact ent_pick
  obtain ⟨j, hj⟩ := i
  dsimp only
  have hle := body_take_le l j
  try dsimp only
  refine p_seq rfl ?_
  refine p_region rfl ?_
  refine wo_pv (pv_lss rfl rfl) rfl ?_
  refine q_seq ?_
  refine p_seq rfl ?_
  first | refine p_ite rfl rfl (fun h12 => ?_) (fun h12 => ?_) | refine p_cond rfl rfl (fun h12 => ?_) (fun h12 => ?_)
  ·
   refine p_skip rfl ?_
   refine t_seq ?_
   refine p_seq rfl ?_
   refine p_block 1 rfl ?_
   refine p_seq rfl ?_
   have hjl : j < qs.length := by omega
   have hlj : l.getD j cd0 = qs[j].cd := by rw [hl]; exact cds_getD hjl
   have hbt := body_take (l := l) (j := j) (by omega)
   have hle2 := body_take_le l (j + 1)
   obtain ⟨q, hq⟩ : ∃ q, q = qs[j] := ⟨_, rfl⟩
   have hqm : q ∈ qs := by rw [hq]; exact List.getElem_mem _
   have hqal := hqa q hqm
   rw [hlj, ← hq] at hbt
   have hbl := congrArg List.length hbt
   have hcb : cardB q.cd = q.l :: argsB q.args ++ [10] := rfl
   rw [hcb] at hbt hbl
   simp only [List.length_append, List.length_cons, List.length_nil] at hbl
   refine p_region rfl ?_
   refine r_elemAddr (sz := 2) Tryz.underlying119 ti133 rfl rfl rfl rfl (by omega) (by first | (rw [List.length_map]; omega) | (rw [flat_len (sz := 2) (fun _ => rfl)]; omega) | (simp; omega)) rfl rfl ?_
   refine r_eloada (vs := [_, _]) (sz := 2) Tryz.underlying133 rfl ti133 rfl rfl (by rw [flat_len (sz := 2) (fun _ => rfl)]; omega) rfl (by refine get_flat (fun x => ?_) ?_ <;> first | rfl | omega) rfl ?_
   refine wo_alloc (zs := [.int .u8 0, .slice none 0 0]) ti133 rfl rfl rfl (fun b5 => ?_)
   refine r_storea ti133 rfl rfl rfl rfl (by simp; try omega) ?_
   rw [← hq]
   refine q_seq ?_
   refine p_region rfl ?_
   refine wo_pv (pv_fieldAddrk Tryz.underlying133 rfl ti5 rfl rfl (k := 0) rfl (by first | exact Nat.zero_add _ | exact Nat.add_zero _ | exact rfl)) rfl ?_
   refine r_load Tryz.underlying5 rfl rfl rfl rfl ?_
   refine r_buildSliceL [_] (cs := [_]) Tryz.underlying89 ti5 rfl rfl rfl rfl rfl rfl rfl rfl (fun b17 => ?_)
   refine r_b2s (l := [q.l]) Tryz.underlying89 Tryz.underlying9 Tryz.underlying5 rfl (by simp [vUs]) (by simp) rfl ?_
   refine r_buildSliceL [_] (cs := [_]) Tryz.underlying27 ti9 rfl rfl rfl rfl rfl rfl rfl rfl (fun b19 => ?_)
   refine wo_pv (pv_fieldAddrk Tryz.underlying133 rfl ti27 rfl rfl (k := 1) rfl (by first | exact Nat.zero_add _ | exact Nat.add_zero _ | exact rfl)) rfl ?_
   refine r_load Tryz.underlying27 rfl rfl rfl rfl ?_
   refine wo_ent' (ent_cd hqm HasC.get) ?_
   refine wo_ent' (ent_row (k := 1) (cap := 1) (sz := 1) (e := 9) (g := b19) (xs := [vS [q.l]]) (cur := [vS [q.l]]) (Nat.le_refl _) (by simp [maxLen]) rfl rfl rfl) ?_
   refine r_appendA (sz := 1) (bytes := 16) Tryz.underlying27 ti9 rfl rfl rfl rfl rfl rfl rfl (by first | rfl | (rw [List.length_map, Nat.mul_one]; try omega) | (rw [flat_len (fun _ => rfl)]; try omega) | (simp; try omega)) (by first | rfl | (simp [oneCell]; done) | (simp [List.all_flatMap, oneCell]; done)) (by omega) (by simp only [maxLen]; omega) rfl (fun a22 c22 => ?_)
   refine wo_ent' (row_norm (v := .slice a22 (1 + q.args.length) c22) (xs := [vS [q.l]] ++ q.args.map vS) (n := 1 + q.args.length) (n' := q.args.length + 1) (xs' := ([q.l] :: q.args).map vS) (by omega) rfl) ?_
   rw [Nat.add_comm 1]
   refine r_call1 (strings_Join_sp c22 [q.l] q.args (by simp) (by omega) (by rw [List.length_singleton]; omega)) rfl rfl rfl ?_
   rw [show joinB ([q.l] :: q.args) = q.l :: argsB q.args from rfl]
   refine wo_pv (pv_cat rfl rfl (by first | (simp only [List.length_append, List.length_take, List.length_drop, List.length_cons, List.length_nil]; omega) | (simp; try omega))) rfl ?_
   refine r_call1 (WriteString_sp b3 (bodyB (l.take j)) (q.l :: argsB q.args ++ [10]) (by simp only [List.length_append, List.length_cons, List.length_nil]; omega)) rfl rfl rfl ?_
   refine wo_nil ?_
   refine to_block ?_
   refine t_seq ?_
   refine p_region rfl ?_
   refine wo_pv (pv_add rfl rfl (by omega)) rfl ?_
   refine wo_pv (pv_move rfl) rfl ?_
   refine wo_nil ?_
   refine to_inv ⟨j + 1, by omega⟩ (by dsimp only; omega) ⟨rfl, rfl, rfl, rfl, trivial⟩ ?_
   dsimp only
   rw [hbt]
   exact ent_pick
  ·
   refine p_exit 0 rfl ?_
   refine t_seq_exit ?_
   refine to_inv_exit ?_
   refine to_block_here ?_
   refine t_seq ?_
   refine p_seq rfl ?_
   have hjl : j = qs.length := by omega
   subst hjl
   rw [List.take_of_length_le (by omega)]
   refine p_region rfl ?_
   refine r_call1 (String_sp b3 (bodyB l) (by omega)) rfl rfl rfl ?_
   refine r_callF (card_sealed_sp (bodyB l) (by omega)) rfl rfl rfl ?_
   refine wo_pv (pv_assign rfl) rfl ?_
   refine q_seq ?_
   refine p_ret rfl ?_
   have hn : RightC l := by simpa using h8
   refine fin_ret () (vs := [_]) (Cs := []) rfl (.tmp rfl .nil) ?_ trivial ent_pick
   rw [prB, if_pos hn]; rfl
end Go.Proofs.YtibccdcemcgkeaaGreat
end
