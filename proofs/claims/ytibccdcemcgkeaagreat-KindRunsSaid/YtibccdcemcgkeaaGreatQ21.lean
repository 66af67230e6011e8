/- Texts of this proof, put together: SRSha, RowZ, RowZ2. -/
import Derived.Laws.IdiomStrings
import Derived.Test.YtibccdcemcgkeaaGreatQ07
import Derived.Test.YtibccdcemcgkeaaGreatQ05
set_option linter.unusedVariables false
set_option linter.unusedSimpArgs false
section
set_option maxRecDepth 100000
namespace Go.Proofs.YtibccdcemcgkeaaGreat
theorem ref1_turn_sp (x : UInt32) (k : Nat) (hk : k = 1 ∨ k = 5 ∨ k = 30) : SpF Tryz.prog 103 [vW x, .int .u64 k] (vW (rotl x k)) := by
 rcases hk with rfl | rfl | rfl
 · skip
   refine Sp.body (n := 13) Tryz.call103 Tryz.func103 rfl rfl rfl ?_
   refine p_seq rfl ?_
   refine p_region rfl ?_
   refine wo_pv (pv_assign rfl) rfl ?_
   refine q_seq ?_
   refine p_seq rfl ?_
   refine p_region rfl ?_
   refine wo_pv (pv_move rfl) rfl ?_
   refine wo_pv (pv_move rfl) rfl ?_
   refine wo_pv (pv_shlW (m := 1) rfl rfl rfl (by omega)) rfl ?_
   refine wo_pv (pv_move rfl) rfl ?_
   refine wo_pv (pv_move rfl) rfl ?_
   refine wo_pv (pv_subw rfl rfl) rfl ?_
   refine wo_pv (pv_shrW (m := 31) rfl rfl (by decide) (by omega)) rfl ?_
   refine wo_pv (pv_orW rfl rfl) rfl ?_
   refine wo_pv (pv_assign rfl) rfl ?_
   refine q_seq ?_
   refine p_ret rfl ?_
   exact fin_ret () (vs := [_]) (Cs := []) rfl (.tmp rfl .nil) rfl trivial ent_nil
 · skip
   refine Sp.body (n := 13) Tryz.call103 Tryz.func103 rfl rfl rfl ?_
   refine p_seq rfl ?_
   refine p_region rfl ?_
   refine wo_pv (pv_assign rfl) rfl ?_
   refine q_seq ?_
   refine p_seq rfl ?_
   refine p_region rfl ?_
   refine wo_pv (pv_move rfl) rfl ?_
   refine wo_pv (pv_move rfl) rfl ?_
   refine wo_pv (pv_shlW (m := 5) rfl rfl rfl (by omega)) rfl ?_
   refine wo_pv (pv_move rfl) rfl ?_
   refine wo_pv (pv_move rfl) rfl ?_
   refine wo_pv (pv_subw rfl rfl) rfl ?_
   refine wo_pv (pv_shrW (m := 27) rfl rfl (by decide) (by omega)) rfl ?_
   refine wo_pv (pv_orW rfl rfl) rfl ?_
   refine wo_pv (pv_assign rfl) rfl ?_
   refine q_seq ?_
   refine p_ret rfl ?_
   exact fin_ret () (vs := [_]) (Cs := []) rfl (.tmp rfl .nil) rfl trivial ent_nil
 · skip
   refine Sp.body (n := 13) Tryz.call103 Tryz.func103 rfl rfl rfl ?_
   refine p_seq rfl ?_
   refine p_region rfl ?_
   refine wo_pv (pv_assign rfl) rfl ?_
   refine q_seq ?_
   refine p_seq rfl ?_
   refine p_region rfl ?_
   refine wo_pv (pv_move rfl) rfl ?_
   refine wo_pv (pv_move rfl) rfl ?_
   refine wo_pv (pv_shlW (m := 30) rfl rfl rfl (by omega)) rfl ?_
   refine wo_pv (pv_move rfl) rfl ?_
   refine wo_pv (pv_move rfl) rfl ?_
   refine wo_pv (pv_subw rfl rfl) rfl ?_
   refine wo_pv (pv_shrW (m := 2) rfl rfl (by decide) (by omega)) rfl ?_
   refine wo_pv (pv_orW rfl rfl) rfl ?_
   refine wo_pv (pv_assign rfl) rfl ?_
   refine q_seq ?_
   refine p_ret rfl ?_
   exact fin_ret () (vs := [_]) (Cs := []) rfl (.tmp rfl .nil) rfl trivial ent_nil
theorem ref1_block_sp {B : HP} {a : Option Addr} (c : Nat) (h : W5) (b : Bs) (hb : b.length = 64) (sh : SlA B a (vUs b)) : Sp1 Tryz.prog 48 [.agg (h.list.map vW).toArray, .slice a 64 c] [B] (.agg ((takeW h b).list.map vW).toArray) [B] := by
 haveI : RdSl a (vUs b) [B] := ⟨⟨B, sh, .here⟩⟩
 have hvl : (vUs b).length = 64 := by simp [vUs, hb]
 refine Sp.body (n := 177) Tryz.call48 Tryz.func48 rfl rfl rfl ?_
 refine p_seq rfl ?_
 refine p_region rfl ?_
 refine wo_box (vs := [_, _, _, _, _]) rfl rfl rfl (fun b2 => ?_)
 refine wo_alloc (zs := [.int .u32 0, .int .u32 0, .int .u32 0, .int .u32 0, .int .u32 0]) ti103 rfl rfl rfl (fun b4 => ?_)
 refine q_seq ?_
 refine p_seq rfl ?_
 refine p_region rfl ?_
 refine wo_alloc (zs := [.int .u32 0, .int .u32 0, .int .u32 0, .int .u32 0, .int .u32 0, .int .u32 0, .int .u32 0, .int .u32 0, .int .u32 0, .int .u32 0, .int .u32 0, .int .u32 0, .int .u32 0, .int .u32 0, .int .u32 0, .int .u32 0, .int .u32 0, .int .u32 0, .int .u32 0, .int .u32 0, .int .u32 0, .int .u32 0, .int .u32 0, .int .u32 0, .int .u32 0, .int .u32 0, .int .u32 0, .int .u32 0, .int .u32 0, .int .u32 0, .int .u32 0, .int .u32 0, .int .u32 0, .int .u32 0, .int .u32 0, .int .u32 0, .int .u32 0, .int .u32 0, .int .u32 0, .int .u32 0, .int .u32 0, .int .u32 0, .int .u32 0, .int .u32 0, .int .u32 0, .int .u32 0, .int .u32 0, .int .u32 0, .int .u32 0, .int .u32 0, .int .u32 0, .int .u32 0, .int .u32 0, .int .u32 0, .int .u32 0, .int .u32 0, .int .u32 0, .int .u32 0, .int .u32 0, .int .u32 0, .int .u32 0, .int .u32 0, .int .u32 0, .int .u32 0, .int .u32 0, .int .u32 0, .int .u32 0, .int .u32 0, .int .u32 0, .int .u32 0, .int .u32 0, .int .u32 0, .int .u32 0, .int .u32 0, .int .u32 0, .int .u32 0, .int .u32 0, .int .u32 0, .int .u32 0, .int .u32 0]) ti165 rfl rfl rfl (fun b5 => ?_)
 refine q_seq ?_
 refine p_seq rfl ?_
 refine p_seq rfl ?_
 refine p_region rfl ?_
 refine wo_pv (pv_move rfl) rfl ?_
 refine q_seq ?_
 refine p_block 0 rfl ?_
 refine p_loop (fun (i : { j : Nat // j ≤ 16 }) => [(1, .slice a 64 c), (2, .pointer (some ⟨b2, 0, none⟩)), (4, .pointer (some ⟨b4, 0, none⟩)), (5, .pointer (some ⟨b5, 0, none⟩)), (14, vI i.1)]) (fun (i : { j : Nat // j ≤ 16 }) => [Ce b5 165 ((spreadL b i.1 ++ List.replicate (80 - i.1) 0).map vW), Ce b2 103 (h.list.map vW), Ce b4 103 ((List.replicate 5 (0 : UInt32)).map vW), B]) (fun (i : { j : Nat // j ≤ 16 }) => 16 - i.1) rfl (⟨0, Nat.zero_le _⟩) ?_ ?_ (fun i => ?_)
 · exact ⟨rfl, rfl, rfl, rfl, rfl, trivial⟩
 ·
  exact ent_step (ce_norm (by rfl) (by rfl)) (ent_step (ce_norm (by rfl) (by rfl)) (ent_step (ce_norm (by rfl) (by rfl)) ent_pick))
 obtain ⟨j, hj⟩ := i
 dsimp only
 have hsp := spreadL_len b j
 try dsimp only
 refine p_seq rfl ?_
 refine p_region rfl ?_
 refine wo_pv (pv_lss rfl rfl) rfl ?_
 refine q_seq ?_
 refine p_seq rfl ?_
 first | refine p_ite rfl rfl (fun h15 => ?_) (fun h15 => ?_) | refine p_cond rfl rfl (fun h15 => ?_) (fun h15 => ?_)
 ·
  refine p_skip rfl ?_
  refine t_seq ?_
  refine p_seq rfl ?_
  refine p_block 1 rfl ?_
  refine p_seq rfl ?_
  refine p_region rfl ?_
  refine wo_pv (pv_move rfl) rfl ?_
  refine wo_pv (pv_assign rfl) rfl ?_
  refine q_seq ?_
  refine d_draw rfl rfl rfl [B] ?_
  refine d_first 0 rfl rfl rfl (by kernel_rfl) (by kernel_rfl) (tl_pv (pv_move rfl)) ?_
  refine d_first 1 rfl rfl rfl (by kernel_rfl) (by kernel_rfl) (tl_pv (pv_move rfl)) ?_
  refine d_first 2 rfl rfl rfl (by kernel_rfl) (by kernel_rfl) (tl_pv (pv_move rfl)) ?_
  refine d_first 3 rfl rfl rfl (by kernel_rfl) (by kernel_rfl) (tl_pv (pv_mul rfl rfl (by omega))) ?_
  refine d_first 4 rfl rfl rfl (by kernel_rfl) (by kernel_rfl) (tl_elemAddr (sz := 1) (m := 4 * j) Tryz.underlying89 ti5 rfl rfl rfl (by omega) (by omega) (by omega) (Nat.mul_one _)) ?_
  refine d_first 5 rfl rfl rfl (by kernel_rfl) (by kernel_rfl) (tl_eload Tryz.underlying5 rfl rfl (vUs_get (by omega))) ?_
  refine d_first 6 rfl rfl rfl (by kernel_rfl) (by kernel_rfl) (tl_pv (pv_convW rfl Tryz.underlying5 Tryz.underlying102)) ?_
  refine d_first 7 rfl rfl rfl (by kernel_rfl) (by kernel_rfl) (tl_pv (pv_shlW (m := 24) rfl rfl rfl (by omega))) ?_
  refine d_first 8 rfl rfl rfl (by kernel_rfl) (by kernel_rfl) (tl_pv (pv_move rfl)) ?_
  refine d_first 9 rfl rfl rfl (by kernel_rfl) (by kernel_rfl) (tl_pv (pv_move rfl)) ?_
  refine d_first 10 rfl rfl rfl (by kernel_rfl) (by kernel_rfl) (tl_pv (pv_mul rfl rfl (by omega))) ?_
  refine d_first 11 rfl rfl rfl (by kernel_rfl) (by kernel_rfl) (tl_pv (pv_add rfl rfl (by omega))) ?_
  refine d_first 12 rfl rfl rfl (by kernel_rfl) (by kernel_rfl) (tl_elemAddr (sz := 1) (m := 4 * j + 1) Tryz.underlying89 ti5 rfl rfl rfl (by omega) (by omega) (by omega) (Nat.mul_one _)) ?_
  refine d_first 13 rfl rfl rfl (by kernel_rfl) (by kernel_rfl) (tl_eload Tryz.underlying5 rfl rfl (vUs_get (by omega))) ?_
  refine d_first 14 rfl rfl rfl (by kernel_rfl) (by kernel_rfl) (tl_pv (pv_convW rfl Tryz.underlying5 Tryz.underlying102)) ?_
  refine d_first 15 rfl rfl rfl (by kernel_rfl) (by kernel_rfl) (tl_pv (pv_shlW (m := 16) rfl rfl rfl (by omega))) ?_
  refine d_first 16 rfl rfl rfl (by kernel_rfl) (by kernel_rfl) (tl_pv (pv_orW rfl rfl)) ?_
  refine d_first 17 rfl rfl rfl (by kernel_rfl) (by kernel_rfl) (tl_pv (pv_move rfl)) ?_
  refine d_first 18 rfl rfl rfl (by kernel_rfl) (by kernel_rfl) (tl_pv (pv_move rfl)) ?_
  refine d_first 19 rfl rfl rfl (by kernel_rfl) (by kernel_rfl) (tl_pv (pv_mul rfl rfl (by omega))) ?_
  refine d_first 20 rfl rfl rfl (by kernel_rfl) (by kernel_rfl) (tl_pv (pv_add rfl rfl (by omega))) ?_
  refine d_first 21 rfl rfl rfl (by kernel_rfl) (by kernel_rfl) (tl_elemAddr (sz := 1) (m := 4 * j + 2) Tryz.underlying89 ti5 rfl rfl rfl (by omega) (by omega) (by omega) (Nat.mul_one _)) ?_
  refine d_first 22 rfl rfl rfl (by kernel_rfl) (by kernel_rfl) (tl_eload Tryz.underlying5 rfl rfl (vUs_get (by omega))) ?_
  refine d_first 23 rfl rfl rfl (by kernel_rfl) (by kernel_rfl) (tl_pv (pv_convW rfl Tryz.underlying5 Tryz.underlying102)) ?_
  refine d_first 24 rfl rfl rfl (by kernel_rfl) (by kernel_rfl) (tl_pv (pv_shlW (m := 8) rfl rfl rfl (by omega))) ?_
  refine d_first 25 rfl rfl rfl (by kernel_rfl) (by kernel_rfl) (tl_pv (pv_orW rfl rfl)) ?_
  refine d_first 26 rfl rfl rfl (by kernel_rfl) (by kernel_rfl) (tl_pv (pv_move rfl)) ?_
  refine d_first 27 rfl rfl rfl (by kernel_rfl) (by kernel_rfl) (tl_pv (pv_move rfl)) ?_
  refine d_first 28 rfl rfl rfl (by kernel_rfl) (by kernel_rfl) (tl_pv (pv_mul rfl rfl (by omega))) ?_
  refine d_first 29 rfl rfl rfl (by kernel_rfl) (by kernel_rfl) (tl_pv (pv_add rfl rfl (by omega))) ?_
  refine d_first 30 rfl rfl rfl (by kernel_rfl) (by kernel_rfl) (tl_elemAddr (sz := 1) (m := 4 * j + 3) Tryz.underlying89 ti5 rfl rfl rfl (by omega) (by omega) (by omega) (Nat.mul_one _)) ?_
  refine d_first 31 rfl rfl rfl (by kernel_rfl) (by kernel_rfl) (tl_eload Tryz.underlying5 rfl rfl (vUs_get (by omega))) ?_
  refine d_first 32 rfl rfl rfl (by kernel_rfl) (by kernel_rfl) (tl_pv (pv_convW rfl Tryz.underlying5 Tryz.underlying102)) ?_
  refine d_first 33 rfl rfl rfl (by kernel_rfl) (by kernel_rfl) (tl_pv (pv_orW rfl rfl)) ?_
  refine d_first 34 rfl rfl rfl (by kernel_rfl) (by kernel_rfl) (tl_pv (pv_aindex1 Tryz.underlying165 ti102 rfl rfl rfl (by first | rfl | omega) (by omega))) ?_
  refine d_next 35 (by kernel_rfl) rfl ?_
  refine an_store ti102 rfl rfl rfl rfl (by simp; try omega) ?_
  refine d_done (by kernel_rfl) ?_
  refine to_block ?_
  refine t_seq ?_
  refine p_region rfl ?_
  refine wo_pv (pv_add rfl rfl (by omega)) rfl ?_
  refine wo_pv (pv_move rfl) rfl ?_
  refine wo_nil ?_
  refine to_inv ⟨j + 1, by omega⟩ (by dsimp only; omega) ⟨rfl, rfl, rfl, rfl, rfl, trivial⟩ ?_
  dsimp only
  rw [← sp_set (b := b) (j := j) (by omega) (blkW b j) (by rw [if_pos (by omega)])]
  exact ent_step (ce_norm (by rfl) (by rw [List.map_set]; rfl)) ent_pick
 ·
  refine p_exit 0 rfl ?_
  refine t_seq_exit ?_
  refine to_inv_exit ?_
  refine to_block_here ?_
  refine t_seq ?_
  refine p_seq rfl ?_
  refine p_seq rfl ?_
  refine p_region rfl ?_
  refine wo_pv (pv_assign rfl) rfl ?_
  refine q_seq ?_
  refine p_block 2 rfl ?_
  refine p_loop (fun (i : { j : Nat // 16 ≤ j ∧ j ≤ 80 }) => [(2, .pointer (some ⟨b2, 0, none⟩)), (4, .pointer (some ⟨b4, 0, none⟩)), (5, .pointer (some ⟨b5, 0, none⟩)), (7, vI i.1)]) (fun (i : { j : Nat // 16 ≤ j ∧ j ≤ 80 }) => [Ce b5 165 ((spreadL b i.1 ++ List.replicate (80 - i.1) 0).map vW), Ce b2 103 (h.list.map vW), Ce b4 103 ((List.replicate 5 (0 : UInt32)).map vW), B]) (fun (i : { j : Nat // 16 ≤ j ∧ j ≤ 80 }) => 80 - i.1) rfl (⟨16, by omega, by omega⟩) ?_ ?_ (fun i => ?_)
  · exact ⟨rfl, rfl, rfl, rfl, trivial⟩
  ·
   have hj16 : j = 16 := by omega
   subst hj16
   exact ent_pick
  obtain ⟨m, hm1, hm2⟩ := i
  dsimp only
  have hsl : (spreadL b m ++ List.replicate (80 - m) (0 : UInt32)).length = 80 := by rw [List.length_append, spreadL_len, List.length_replicate]; omega
  have hsp := spreadL_len b m
  try dsimp only
  refine p_seq rfl ?_
  refine p_seq rfl ?_
  refine p_region rfl ?_
  refine wo_pv (pv_move rfl) rfl ?_
  refine wo_pv (pv_lss rfl rfl) rfl ?_
  refine q_seq ?_
  first | refine p_ite rfl rfl (fun h54 => ?_) (fun h54 => ?_) | refine p_cond rfl rfl (fun h54 => ?_) (fun h54 => ?_)
  ·
   refine p_skip rfl ?_
   refine t_seq ?_
   refine p_seq rfl ?_
   refine p_block 3 rfl ?_
   refine d_draw rfl rfl rfl [Ce b5 165 ((spreadL b m ++ List.replicate (80 - m) 0).map vW)] ?_
   refine d_first 0 rfl rfl rfl (by kernel_rfl) (by kernel_rfl) (tl_pv (pv_move rfl)) ?_
   refine d_first 1 rfl rfl rfl (by kernel_rfl) (by kernel_rfl) (tl_pv (pv_move rfl)) ?_
   refine d_first 2 rfl rfl rfl (by kernel_rfl) (by kernel_rfl) (tl_pv (pv_sub rfl rfl (by omega))) ?_
   refine d_first 3 rfl rfl rfl (by kernel_rfl) (by kernel_rfl) (tl_pv (pv_aindex1 (m := m - 3) Tryz.underlying165 ti102 rfl rfl rfl (by omega) (by omega))) ?_
   refine d_first 4 rfl rfl rfl (by kernel_rfl) (by kernel_rfl) (tl_load Tryz.underlying102 rfl rfl ((vW_getD (m := m - 3) (by omega)).trans (by rw [sp_get (by omega) (by omega)]))) ?_
   refine d_first 5 rfl rfl rfl (by kernel_rfl) (by kernel_rfl) (tl_pv (pv_move rfl)) ?_
   refine d_first 6 rfl rfl rfl (by kernel_rfl) (by kernel_rfl) (tl_pv (pv_sub rfl rfl (by omega))) ?_
   refine d_first 7 rfl rfl rfl (by kernel_rfl) (by kernel_rfl) (tl_pv (pv_aindex1 (m := m - 8) Tryz.underlying165 ti102 rfl rfl rfl (by omega) (by omega))) ?_
   refine d_first 8 rfl rfl rfl (by kernel_rfl) (by kernel_rfl) (tl_load Tryz.underlying102 rfl rfl ((vW_getD (m := m - 8) (by omega)).trans (by rw [sp_get (by omega) (by omega)]))) ?_
   refine d_first 9 rfl rfl rfl (by kernel_rfl) (by kernel_rfl) (tl_pv (pv_xorW rfl rfl)) ?_
   refine d_first 10 rfl rfl rfl (by kernel_rfl) (by kernel_rfl) (tl_pv (pv_move rfl)) ?_
   refine d_first 11 rfl rfl rfl (by kernel_rfl) (by kernel_rfl) (tl_pv (pv_sub rfl rfl (by omega))) ?_
   refine d_first 12 rfl rfl rfl (by kernel_rfl) (by kernel_rfl) (tl_pv (pv_aindex1 (m := m - 14) Tryz.underlying165 ti102 rfl rfl rfl (by omega) (by omega))) ?_
   refine d_first 13 rfl rfl rfl (by kernel_rfl) (by kernel_rfl) (tl_load Tryz.underlying102 rfl rfl ((vW_getD (m := m - 14) (by omega)).trans (by rw [sp_get (by omega) (by omega)]))) ?_
   refine d_first 14 rfl rfl rfl (by kernel_rfl) (by kernel_rfl) (tl_pv (pv_xorW rfl rfl)) ?_
   refine d_first 15 rfl rfl rfl (by kernel_rfl) (by kernel_rfl) (tl_pv (pv_move rfl)) ?_
   refine d_first 16 rfl rfl rfl (by kernel_rfl) (by kernel_rfl) (tl_pv (pv_sub rfl rfl (by omega))) ?_
   refine d_first 17 rfl rfl rfl (by kernel_rfl) (by kernel_rfl) (tl_pv (pv_aindex1 (m := m - 16) Tryz.underlying165 ti102 rfl rfl rfl (by omega) (by omega))) ?_
   refine d_first 18 rfl rfl rfl (by kernel_rfl) (by kernel_rfl) (tl_load Tryz.underlying102 rfl rfl ((vW_getD (m := m - 16) (by omega)).trans (by rw [sp_get (by omega) (by omega)]))) ?_
   refine d_first 19 rfl rfl rfl (by kernel_rfl) (by kernel_rfl) (tl_pv (pv_xorW rfl rfl)) ?_
   refine d_next 20 (by kernel_rfl) rfl ?_
   refine an_callF (ref1_turn_sp _ 1 (.inl rfl)) rfl rfl rfl ?_
   refine d_first 21 rfl rfl rfl (by kernel_rfl) (by kernel_rfl) (tl_pv (pv_aindex1 Tryz.underlying165 ti102 rfl rfl rfl (by first | rfl | omega) (by omega))) ?_
   refine d_last 22 (by kernel_rfl) rfl (by kernel_rfl) (by kernel_rfl) ?_
   refine an_store ti102 rfl rfl rfl rfl (by simp; try omega) ?_
   refine to_block ?_
   refine t_seq ?_
   refine p_region rfl ?_
   refine wo_pv (pv_move rfl) rfl ?_
   refine wo_pv (pv_add rfl rfl (by omega)) rfl ?_
   refine wo_pv (pv_assign rfl) rfl ?_
   refine wo_nil ?_
   refine to_inv ⟨m + 1, by omega, by omega⟩ (by dsimp only; omega) ⟨rfl, rfl, rfl, rfl, trivial⟩ ?_
   dsimp only
   rw [← sp_set (b := b) (j := m) (by omega) (nextW (spreadL b m) m) (by rw [if_neg (by omega)])]
   exact ent_step (ce_norm (by rfl) (by rw [List.map_set]; rfl)) ent_pick
  ·
   refine p_exit 2 rfl ?_
   refine t_seq_exit ?_
   refine to_inv_exit ?_
   refine to_block_here ?_
   refine t_seq ?_
   refine p_seq rfl ?_
   have hm80 : m = 80 := by omega
   subst hm80
   rw [Nat.sub_self, List.replicate_zero, List.append_nil]
   have htk : takeW h b = (let s := roundsW (spreadL b 80) h 80; ⟨h.a + s.a, h.b + s.b, h.c + s.c, h.d + s.d, h.e + s.e⟩) := rfl
   generalize spreadL b 80 = ws at hsp htk ⊢
   refine p_region rfl ?_
   refine r_loada (vs := [_, _, _, _, _]) Tryz.underlying103 rfl ti103 rfl (by exact Nat.le_of_ble_eq_true rfl) (by rfl) rfl ?_
   refine wo_alloc (zs := [.int .u32 0, .int .u32 0, .int .u32 0, .int .u32 0, .int .u32 0]) ti103 rfl rfl rfl (fun b8 => ?_)
   refine r_storea ti103 rfl rfl rfl rfl (by simp; try omega) ?_
   refine q_seq ?_
   refine p_seq rfl ?_
   refine p_seq rfl ?_
   refine p_region rfl ?_
   refine wo_pv (pv_move rfl) rfl ?_
   refine q_seq ?_
   refine p_block 4 rfl ?_
   refine p_loop (fun (i : { j : Nat // j ≤ 80 }) => [(2, .pointer (some ⟨b2, 0, none⟩)), (4, .pointer (some ⟨b4, 0, none⟩)), (5, .pointer (some ⟨b5, 0, none⟩)), (8, .pointer (some ⟨b8, 0, none⟩)), (80, vI i.1)]) (fun (i : { j : Nat // j ≤ 80 }) => [Ce b8 103 ((roundsW ws h i.1).list.map vW), Ce b5 165 (ws.map vW), Ce b2 103 (h.list.map vW), Ce b4 103 ((List.replicate 5 (0 : UInt32)).map vW), B]) (fun (i : { j : Nat // j ≤ 80 }) => 80 - i.1) rfl (⟨0, Nat.zero_le _⟩) ?_ ?_ (fun i => ?_)
   · exact ⟨rfl, rfl, rfl, rfl, rfl, trivial⟩
   ·
    exact ent_step (ce_norm (by rfl) (by rfl)) ent_pick
   obtain ⟨q, hq⟩ := i
   dsimp only
   try dsimp only
   refine p_seq rfl ?_
   refine p_region rfl ?_
   refine wo_pv (pv_lss rfl rfl) rfl ?_
   refine q_seq ?_
   refine p_seq rfl ?_
   first | refine p_ite rfl rfl (fun h81 => ?_) (fun h81 => ?_) | refine p_cond rfl rfl (fun h81 => ?_) (fun h81 => ?_)
   ·
    refine p_skip rfl ?_
    refine t_seq ?_
    refine p_seq rfl ?_
    refine p_block 5 rfl ?_
    refine p_seq rfl ?_
    obtain ⟨s, hs⟩ : ∃ s, s = roundsW ws h q := ⟨_, rfl⟩
    have hs2 : roundsW ws h (q + 1) = roundW ws q s := by rw [hs]; rfl
    rw [← hs]
    have hsl5 : s.list.length = 5 := rfl
    have hmx : mixW q s.b s.c s.d = if q / 20 = 0 then ((s.b &&& s.c) ||| (~~~s.b &&& s.d), 0x5a827999) else if q / 20 = 1 then (s.b ^^^ s.c ^^^ s.d, 0x6ed9eba1) else if q / 20 = 2 then ((s.b &&& s.c) ||| (s.b &&& s.d) ||| (s.c &&& s.d), 0x8f1bbcdc) else (s.b ^^^ s.c ^^^ s.d, 0xca62c1d6) := rfl
    refine p_region rfl ?_
    refine wo_pv (pv_move rfl) rfl ?_
    refine wo_pv (pv_assign rfl) rfl ?_
    refine q_seq ?_
    refine p_seq rfl ?_
    refine p_region rfl ?_
    refine wo_pv (pv_aindex1 (m := 1) Tryz.underlying103 ti102 rfl rfl rfl (by first | rfl | omega) (by omega)) rfl ?_
    refine r_load Tryz.underlying102 rfl rfl rfl rfl ?_
    refine wo_pv (pv_aindex1 (m := 2) Tryz.underlying103 ti102 rfl rfl rfl (by first | rfl | omega) (by omega)) rfl ?_
    refine r_load Tryz.underlying102 rfl rfl rfl rfl ?_
    refine wo_pv (pv_andW rfl rfl) rfl ?_
    refine wo_pv (pv_aindex1 (m := 1) Tryz.underlying103 ti102 rfl rfl rfl (by first | rfl | omega) (by omega)) rfl ?_
    refine r_load Tryz.underlying102 rfl rfl rfl rfl ?_
    refine wo_pv (pv_notW rfl) rfl ?_
    refine wo_pv (pv_aindex1 (m := 3) Tryz.underlying103 ti102 rfl rfl rfl (by first | rfl | omega) (by omega)) rfl ?_
    refine r_load Tryz.underlying102 rfl rfl rfl rfl ?_
    refine wo_pv (pv_andW rfl rfl) rfl ?_
    refine wo_pv (pv_orW rfl rfl) rfl ?_
    refine wo_pv (pv_assign rfl) rfl ?_
    refine wo_pv (pv_assign rfl) rfl ?_
    refine q_seq ?_
    refine p_cut (fun (u : Unit) => [(2, .pointer (some ⟨b2, 0, none⟩)), (4, .pointer (some ⟨b4, 0, none⟩)), (5, .pointer (some ⟨b5, 0, none⟩)), (8, .pointer (some ⟨b8, 0, none⟩)), (9, vI q), (10, vW (mixW q s.b s.c s.d).1), (11, vW (mixW q s.b s.c s.d).2), (80, vI q)]) (fun (u : Unit) => [Ce b8 103 (s.list.map vW), Ce b5 165 (ws.map vW), Ce b2 103 (h.list.map vW), Ce b4 103 ((List.replicate 5 (0 : UInt32)).map vW), B]) rfl (fun u => ?_) ?_
    ·
     try dsimp only
     refine p_seq rfl ?_
     refine d_draw rfl rfl rfl [Ce b8 103 (s.list.map vW), Ce b5 165 (ws.map vW)] ?_
     refine d_first 0 rfl rfl rfl (by kernel_rfl) (by kernel_rfl) (tl_pv (pv_aindex1 (m := 0) Tryz.underlying103 ti102 rfl rfl rfl (by first | rfl | omega) (by omega))) ?_
     refine d_first 1 rfl rfl rfl (by kernel_rfl) (by kernel_rfl) (tl_load Tryz.underlying102 rfl rfl rfl) ?_
     refine d_first 3 rfl rfl rfl (by kernel_rfl) (by kernel_rfl) (tl_pv (pv_move rfl)) ?_
     refine d_first 5 rfl rfl rfl (by kernel_rfl) (by kernel_rfl) (tl_pv (pv_aindex1 (m := 4) Tryz.underlying103 ti102 rfl rfl rfl (by first | rfl | omega) (by omega))) ?_
     refine d_first 6 rfl rfl rfl (by kernel_rfl) (by kernel_rfl) (tl_load Tryz.underlying102 rfl rfl rfl) ?_
     refine d_first 8 rfl rfl rfl (by kernel_rfl) (by kernel_rfl) (tl_pv (pv_move rfl)) ?_
     refine d_first 10 rfl rfl rfl (by kernel_rfl) (by kernel_rfl) (tl_pv (pv_move rfl)) ?_
     refine d_first 11 rfl rfl rfl (by kernel_rfl) (by kernel_rfl) (tl_pv (pv_aindex1 Tryz.underlying165 ti102 rfl rfl rfl (by first | rfl | omega) (by omega))) ?_
     refine d_first 12 rfl rfl rfl (by kernel_rfl) (by kernel_rfl) (tl_load Tryz.underlying102 rfl rfl (vW_getD (m := q) (by omega))) ?_
     refine d_next 2 (by kernel_rfl) rfl ?_
     refine an_callF (ref1_turn_sp _ 5 (.inr (.inl rfl))) rfl rfl rfl ?_
     refine d_first 4 rfl rfl rfl (by kernel_rfl) (by kernel_rfl) (tl_pv (pv_addW rfl rfl)) ?_
     refine d_first 7 rfl rfl rfl (by kernel_rfl) (by kernel_rfl) (tl_pv (pv_addW rfl rfl)) ?_
     refine d_first 9 rfl rfl rfl (by kernel_rfl) (by kernel_rfl) (tl_pv (pv_addW rfl rfl)) ?_
     refine d_first 13 rfl rfl rfl (by kernel_rfl) (by kernel_rfl) (tl_pv (pv_addW rfl rfl)) ?_
     refine d_first 14 rfl rfl rfl (by kernel_rfl) (by kernel_rfl) (tl_pv (pv_assign rfl)) ?_
     refine d_done (by kernel_rfl) ?_
     refine t_seq ?_
     refine d_draw rfl rfl rfl [Ce b8 103 (s.list.map vW)] ?_
     refine d_first 0 rfl rfl rfl (by kernel_rfl) (by kernel_rfl) (tl_pv (pv_move rfl)) ?_
     refine d_first 1 rfl rfl rfl (by kernel_rfl) (by kernel_rfl) (tl_pv (pv_aindex1 (m := 0) Tryz.underlying103 ti102 rfl rfl rfl (by first | rfl | omega) (by omega))) ?_
     refine d_first 2 rfl rfl rfl (by kernel_rfl) (by kernel_rfl) (tl_load Tryz.underlying102 rfl rfl rfl) ?_
     refine d_first 3 rfl rfl rfl (by kernel_rfl) (by kernel_rfl) (tl_pv (pv_aindex1 (m := 1) Tryz.underlying103 ti102 rfl rfl rfl (by first | rfl | omega) (by omega))) ?_
     refine d_first 4 rfl rfl rfl (by kernel_rfl) (by kernel_rfl) (tl_load Tryz.underlying102 rfl rfl rfl) ?_
     refine d_first 6 rfl rfl rfl (by kernel_rfl) (by kernel_rfl) (tl_pv (pv_aindex1 (m := 2) Tryz.underlying103 ti102 rfl rfl rfl (by first | rfl | omega) (by omega))) ?_
     refine d_first 7 rfl rfl rfl (by kernel_rfl) (by kernel_rfl) (tl_load Tryz.underlying102 rfl rfl rfl) ?_
     refine d_first 8 rfl rfl rfl (by kernel_rfl) (by kernel_rfl) (tl_pv (pv_aindex1 (m := 3) Tryz.underlying103 ti102 rfl rfl rfl (by first | rfl | omega) (by omega))) ?_
     refine d_first 9 rfl rfl rfl (by kernel_rfl) (by kernel_rfl) (tl_load Tryz.underlying102 rfl rfl rfl) ?_
     refine d_next 5 (by kernel_rfl) rfl ?_
     refine an_callF (ref1_turn_sp _ 30 (.inr (.inr rfl))) rfl rfl rfl ?_
     refine d_first 10 rfl rfl rfl (by kernel_rfl) (by kernel_rfl) (tl_pv (pv_buildA (vs := [_, _, _, _, _]) Tryz.underlying103 ti102 rfl rfl rfl ti103 rfl rfl)) ?_
     refine d_last 11 (by kernel_rfl) rfl (by kernel_rfl) (by kernel_rfl) ?_
     refine an_storea ti103 rfl rfl rfl rfl (by simp; try omega) ?_
     refine to_block ?_
     refine t_seq ?_
     refine p_region rfl ?_
     refine wo_pv (pv_add rfl rfl (by omega)) rfl ?_
     refine wo_pv (pv_move rfl) rfl ?_
     refine wo_nil ?_
     refine to_inv ⟨q + 1, by omega⟩ (by dsimp only; omega) ⟨rfl, rfl, rfl, rfl, rfl, trivial⟩ ?_
     dsimp only
     rw [hs2]
     exact ent_step (ce_norm (by rfl) (by rfl)) ent_pick
    ·
     refine p_block 6 rfl ?_
     refine p_seq rfl ?_
     refine p_region rfl ?_
     refine wo_pv (pv_move rfl) rfl ?_
     refine wo_pv (pv_geq rfl rfl) rfl ?_
     refine wo_pv (pv_assign rfl) rfl ?_
     refine q_seq ?_
     first | refine p_ite rfl rfl (fun h95 => ?_) (fun h95 => ?_) | refine p_cond rfl rfl (fun h95 => ?_) (fun h95 => ?_)
     ·
      refine p_region rfl ?_
      refine wo_pv (pv_aindex1 (m := 1) Tryz.underlying103 ti102 rfl rfl rfl (by first | rfl | omega) (by omega)) rfl ?_
      refine r_load Tryz.underlying102 rfl rfl rfl rfl ?_
      refine wo_pv (pv_aindex1 (m := 2) Tryz.underlying103 ti102 rfl rfl rfl (by first | rfl | omega) (by omega)) rfl ?_
      refine r_load Tryz.underlying102 rfl rfl rfl rfl ?_
      refine wo_pv (pv_xorW rfl rfl) rfl ?_
      refine wo_pv (pv_aindex1 (m := 3) Tryz.underlying103 ti102 rfl rfl rfl (by first | rfl | omega) (by omega)) rfl ?_
      refine r_load Tryz.underlying102 rfl rfl rfl rfl ?_
      refine wo_pv (pv_xorW rfl rfl) rfl ?_
      refine wo_pv (pv_assign rfl) rfl ?_
      refine wo_pv (pv_assign rfl) rfl ?_
      refine wo_nil ?_
      refine to_block ?_
      first
      | (rw [if_neg (by omega), if_neg (by omega), if_neg (by omega)] at hmx
         rw [hmx]
         exact to_inv () trivial ⟨rfl, rfl, rfl, rfl, rfl, rfl, rfl, rfl, trivial⟩ ent_pick)
      | (rw [if_neg (by omega), if_neg (by omega), if_pos (by omega)] at hmx
         rw [hmx]
         exact to_inv () trivial ⟨rfl, rfl, rfl, rfl, rfl, rfl, rfl, rfl, trivial⟩ ent_pick)
      | (rw [if_neg (by omega), if_pos (by omega)] at hmx
         rw [hmx]
         exact to_inv () trivial ⟨rfl, rfl, rfl, rfl, rfl, rfl, rfl, rfl, trivial⟩ ent_pick)
      | (rw [if_pos (by omega)] at hmx
         rw [hmx]
         exact to_inv () trivial ⟨rfl, rfl, rfl, rfl, rfl, rfl, rfl, rfl, trivial⟩ ent_pick)
     ·
      refine p_seq rfl ?_
      refine p_region rfl ?_
      refine wo_pv (pv_move rfl) rfl ?_
      refine wo_pv (pv_geq rfl rfl) rfl ?_
      refine wo_pv (pv_assign rfl) rfl ?_
      refine q_seq ?_
      first | refine p_ite rfl rfl (fun h106 => ?_) (fun h106 => ?_) | refine p_cond rfl rfl (fun h106 => ?_) (fun h106 => ?_)
      ·
       refine p_region rfl ?_
       refine wo_pv (pv_aindex1 (m := 1) Tryz.underlying103 ti102 rfl rfl rfl (by first | rfl | omega) (by omega)) rfl ?_
       refine r_load Tryz.underlying102 rfl rfl rfl rfl ?_
       refine wo_pv (pv_aindex1 (m := 2) Tryz.underlying103 ti102 rfl rfl rfl (by first | rfl | omega) (by omega)) rfl ?_
       refine r_load Tryz.underlying102 rfl rfl rfl rfl ?_
       refine wo_pv (pv_andW rfl rfl) rfl ?_
       refine wo_pv (pv_aindex1 (m := 1) Tryz.underlying103 ti102 rfl rfl rfl (by first | rfl | omega) (by omega)) rfl ?_
       refine r_load Tryz.underlying102 rfl rfl rfl rfl ?_
       refine wo_pv (pv_aindex1 (m := 3) Tryz.underlying103 ti102 rfl rfl rfl (by first | rfl | omega) (by omega)) rfl ?_
       refine r_load Tryz.underlying102 rfl rfl rfl rfl ?_
       refine wo_pv (pv_andW rfl rfl) rfl ?_
       refine wo_pv (pv_orW rfl rfl) rfl ?_
       refine wo_pv (pv_aindex1 (m := 2) Tryz.underlying103 ti102 rfl rfl rfl (by first | rfl | omega) (by omega)) rfl ?_
       refine r_load Tryz.underlying102 rfl rfl rfl rfl ?_
       refine wo_pv (pv_aindex1 (m := 3) Tryz.underlying103 ti102 rfl rfl rfl (by first | rfl | omega) (by omega)) rfl ?_
       refine r_load Tryz.underlying102 rfl rfl rfl rfl ?_
       refine wo_pv (pv_andW rfl rfl) rfl ?_
       refine wo_pv (pv_orW rfl rfl) rfl ?_
       refine wo_pv (pv_assign rfl) rfl ?_
       refine wo_pv (pv_assign rfl) rfl ?_
       refine wo_nil ?_
       refine to_block ?_
       first
       | (rw [if_neg (by omega), if_neg (by omega), if_neg (by omega)] at hmx
          rw [hmx]
          exact to_inv () trivial ⟨rfl, rfl, rfl, rfl, rfl, rfl, rfl, rfl, trivial⟩ ent_pick)
       | (rw [if_neg (by omega), if_neg (by omega), if_pos (by omega)] at hmx
          rw [hmx]
          exact to_inv () trivial ⟨rfl, rfl, rfl, rfl, rfl, rfl, rfl, rfl, trivial⟩ ent_pick)
       | (rw [if_neg (by omega), if_pos (by omega)] at hmx
          rw [hmx]
          exact to_inv () trivial ⟨rfl, rfl, rfl, rfl, rfl, rfl, rfl, rfl, trivial⟩ ent_pick)
       | (rw [if_pos (by omega)] at hmx
          rw [hmx]
          exact to_inv () trivial ⟨rfl, rfl, rfl, rfl, rfl, rfl, rfl, rfl, trivial⟩ ent_pick)
      ·
       refine p_seq rfl ?_
       refine p_region rfl ?_
       refine wo_pv (pv_move rfl) rfl ?_
       refine wo_pv (pv_geq rfl rfl) rfl ?_
       refine wo_pv (pv_assign rfl) rfl ?_
       refine q_seq ?_
       first | refine p_ite rfl rfl (fun h126 => ?_) (fun h126 => ?_) | refine p_cond rfl rfl (fun h126 => ?_) (fun h126 => ?_)
       ·
        refine p_region rfl ?_
        refine wo_pv (pv_aindex1 (m := 1) Tryz.underlying103 ti102 rfl rfl rfl (by first | rfl | omega) (by omega)) rfl ?_
        refine r_load Tryz.underlying102 rfl rfl rfl rfl ?_
        refine wo_pv (pv_aindex1 (m := 2) Tryz.underlying103 ti102 rfl rfl rfl (by first | rfl | omega) (by omega)) rfl ?_
        refine r_load Tryz.underlying102 rfl rfl rfl rfl ?_
        refine wo_pv (pv_xorW rfl rfl) rfl ?_
        refine wo_pv (pv_aindex1 (m := 3) Tryz.underlying103 ti102 rfl rfl rfl (by first | rfl | omega) (by omega)) rfl ?_
        refine r_load Tryz.underlying102 rfl rfl rfl rfl ?_
        refine wo_pv (pv_xorW rfl rfl) rfl ?_
        refine wo_pv (pv_assign rfl) rfl ?_
        refine wo_pv (pv_assign rfl) rfl ?_
        refine wo_nil ?_
        refine to_block ?_
        first
        | (rw [if_neg (by omega), if_neg (by omega), if_neg (by omega)] at hmx
           rw [hmx]
           exact to_inv () trivial ⟨rfl, rfl, rfl, rfl, rfl, rfl, rfl, rfl, trivial⟩ ent_pick)
        | (rw [if_neg (by omega), if_neg (by omega), if_pos (by omega)] at hmx
           rw [hmx]
           exact to_inv () trivial ⟨rfl, rfl, rfl, rfl, rfl, rfl, rfl, rfl, trivial⟩ ent_pick)
        | (rw [if_neg (by omega), if_pos (by omega)] at hmx
           rw [hmx]
           exact to_inv () trivial ⟨rfl, rfl, rfl, rfl, rfl, rfl, rfl, rfl, trivial⟩ ent_pick)
        | (rw [if_pos (by omega)] at hmx
           rw [hmx]
           exact to_inv () trivial ⟨rfl, rfl, rfl, rfl, rfl, rfl, rfl, rfl, trivial⟩ ent_pick)
       ·
        refine p_skip rfl ?_
        refine to_block ?_
        first
        | (rw [if_neg (by omega), if_neg (by omega), if_neg (by omega)] at hmx
           rw [hmx]
           exact to_inv () trivial ⟨rfl, rfl, rfl, rfl, rfl, rfl, rfl, rfl, trivial⟩ ent_pick)
        | (rw [if_neg (by omega), if_neg (by omega), if_pos (by omega)] at hmx
           rw [hmx]
           exact to_inv () trivial ⟨rfl, rfl, rfl, rfl, rfl, rfl, rfl, rfl, trivial⟩ ent_pick)
        | (rw [if_neg (by omega), if_pos (by omega)] at hmx
           rw [hmx]
           exact to_inv () trivial ⟨rfl, rfl, rfl, rfl, rfl, rfl, rfl, rfl, trivial⟩ ent_pick)
        | (rw [if_pos (by omega)] at hmx
           rw [hmx]
           exact to_inv () trivial ⟨rfl, rfl, rfl, rfl, rfl, rfl, rfl, rfl, trivial⟩ ent_pick)
   ·
    refine p_exit 4 rfl ?_
    refine t_seq_exit ?_
    refine to_inv_exit ?_
    refine to_block_here ?_
    refine t_seq ?_
    refine p_seq rfl ?_
    refine p_seq rfl ?_
    have hq80 : q = 80 := by omega
    subst hq80
    obtain ⟨s, hs⟩ : ∃ s, s = roundsW ws h 80 := ⟨_, rfl⟩
    dsimp only at htk
    rw [← hs] at htk ⊢
    have hh5 : h.list.length = 5 := rfl
    have hs5 : s.list.length = 5 := rfl
    refine p_region rfl ?_
    refine wo_pv (pv_move rfl) rfl ?_
    refine q_seq ?_
    refine p_block 7 rfl ?_
    refine p_loop (fun (i : { m : Nat // m ≤ 5 }) => [(2, .pointer (some ⟨b2, 0, none⟩)), (4, .pointer (some ⟨b4, 0, none⟩)), (8, .pointer (some ⟨b8, 0, none⟩)), (163, vI i.1)]) (fun (i : { m : Nat // m ≤ 5 }) => [Ce b2 103 ((addL h.list s.list i.1).map vW), Ce b8 103 (s.list.map vW), Ce b4 103 ((List.replicate 5 (0 : UInt32)).map vW), B]) (fun (i : { m : Nat // m ≤ 5 }) => 5 - i.1) rfl (⟨0, Nat.zero_le _⟩) ?_ ?_ (fun i => ?_)
    · exact ⟨rfl, rfl, rfl, rfl, trivial⟩
    ·
     exact ent_step (ce_norm (by rfl) (by rfl)) ent_pick
    obtain ⟨m, hm⟩ := i
    dsimp only
    have hal := addL_len (h := h.list) (s := s.list) (i := m) rfl hm
    try dsimp only
    refine p_seq rfl ?_
    refine p_region rfl ?_
    refine wo_pv (pv_lss rfl rfl) rfl ?_
    refine q_seq ?_
    refine p_seq rfl ?_
    first | refine p_ite rfl rfl (fun h164 => ?_) (fun h164 => ?_) | refine p_cond rfl rfl (fun h164 => ?_) (fun h164 => ?_)
    ·
     refine p_skip rfl ?_
     refine t_seq ?_
     refine p_seq rfl ?_
     refine p_block 8 rfl ?_
     refine p_seq rfl ?_
     refine p_region rfl ?_
     refine wo_pv (pv_move rfl) rfl ?_
     refine wo_pv (pv_assign rfl) rfl ?_
     refine q_seq ?_
     refine d_draw rfl rfl rfl [Ce b8 103 (s.list.map vW)] ?_
     refine d_first 0 rfl rfl rfl (by kernel_rfl) (by kernel_rfl) (tl_pv (pv_move rfl)) ?_
     refine d_first 1 rfl rfl rfl (by kernel_rfl) (by kernel_rfl) (tl_pv (pv_move rfl)) ?_
     refine d_first 2 rfl rfl rfl (by kernel_rfl) (by kernel_rfl) (tl_pv (pv_aindex1 Tryz.underlying103 ti102 rfl rfl rfl (by first | rfl | omega) (by omega))) ?_
     refine d_first 4 rfl rfl rfl (by kernel_rfl) (by kernel_rfl) (tl_pv (pv_move rfl)) ?_
     refine d_first 5 rfl rfl rfl (by kernel_rfl) (by kernel_rfl) (tl_pv (pv_aindex1 Tryz.underlying103 ti102 rfl rfl rfl (by first | rfl | omega) (by omega))) ?_
     refine d_first 6 rfl rfl rfl (by kernel_rfl) (by kernel_rfl) (tl_load Tryz.underlying102 rfl rfl (vW_getD (m := m) (by omega))) ?_
     refine d_next 3 (by kernel_rfl) rfl ?_
     refine an_load Tryz.underlying102 rfl rfl ((vW_getD (m := m) (by omega)).trans (by rw [addL_get (hh5.trans hs5.symm) (by omega)])) rfl ?_
     refine d_first 7 rfl rfl rfl (by kernel_rfl) (by kernel_rfl) (tl_pv (pv_addW rfl rfl)) ?_
     refine d_first 8 rfl rfl rfl (by kernel_rfl) (by kernel_rfl) (tl_pv (pv_aindex1 Tryz.underlying103 ti102 rfl rfl rfl (by first | rfl | omega) (by omega))) ?_
     refine d_next 9 (by kernel_rfl) rfl ?_
     refine an_store ti102 rfl rfl rfl rfl (by simp; try omega) ?_
     refine d_done (by kernel_rfl) ?_
     refine to_block ?_
     refine t_seq ?_
     refine p_region rfl ?_
     refine wo_pv (pv_add rfl rfl (by omega)) rfl ?_
     refine wo_pv (pv_move rfl) rfl ?_
     refine wo_nil ?_
     refine to_inv ⟨m + 1, by omega⟩ (by dsimp only; omega) ⟨rfl, rfl, rfl, rfl, trivial⟩ ?_
     dsimp only
     rw [← addL_set (hh5.trans hs5.symm) (by omega)]
     exact ent_step (ce_norm (by rfl) (by rw [List.map_set])) ent_pick
    ·
     refine p_exit 7 rfl ?_
     refine t_seq_exit ?_
     refine to_inv_exit ?_
     refine to_block_here ?_
     refine t_seq ?_
     refine p_seq rfl ?_
     have hm5 : m = 5 := by omega
     subst hm5
     have hfin : addL h.list s.list 5 = (takeW h b).list := by rw [htk]; rfl
     rw [hfin]
     generalize takeW h b = tk
     refine p_region rfl ?_
     refine r_loada (vs := [_, _, _, _, _]) Tryz.underlying103 rfl ti103 rfl (by exact Nat.le_of_ble_eq_true rfl) (by rfl) rfl ?_
     refine r_storea ti103 rfl rfl rfl rfl (by simp; try omega) ?_
     refine q_seq ?_
     refine p_ret rfl ?_
     refine fin_ret () (vs := [_]) (Cs := [Ce b4 103 (tk.list.map vW)]) rfl (.cell (l := tk.list.map vW) (us := tk.list.map vW) rfl (shows_ce (T := 103)) Tryz.underlying103 rfl ti103 (Nat.le_refl 5) rfl .nil) rfl trivial ?_
     exact (ce_norm (b := b4) (l := tk.list.map vW) (T := 103) (by rfl) (by rfl)).trans ent_pick
end Go.Proofs.YtibccdcemcgkeaaGreat
end
section
namespace Go.Proofs.YtibccdcemcgkeaaGreat
section
variable {P : Program}
theorem run_store_cez {w : World} {b off : Nat} {T : TypeId} {l : List Value} {v : Value} {fz : Nat × Nat} (hb : w.heap[b]? = some (.cells l.toArray T fz)) (hz : l.length ≤ fz.1) (h1 : oneCell v = true) (ho : off < l.length) :
    (store ⟨b, off, none⟩ v).run P w = .ok () (w.setCell ⟨b, off, none⟩ v) := by
 have hc : w.cell? ⟨b, off, none⟩ = some l[off] := by simp [World.cell?, hb, ho]
 obtain ⟨lo, hi⟩ := fz
 dsimp only at hz
 have hf : w.frozen? ⟨b, off, none⟩ = false := by
  simp [World.frozen?, hb]; omega
 cases v <;> simp_all [store, Sem.run, oneCell]
theorem setCell_atz {w : World} {b off : Nat} {T : TypeId} {l : List Value} {v : Value} {fz : Nat × Nat} (hb : w.heap[b]? = some (.cells l.toArray T fz)) :
    (w.setCell ⟨b, off, none⟩ v).heap[b]? = some (.cells (l.set off v).toArray T fz) := by
 simp [World.setCell, Array.getElem?_modify, hb]
theorem run_storeCells_cez {b T : Nat} {fz : Nat × Nat} : ∀ (vs : List Value) (w : World) (l : List Value) (off i : Nat), w.heap[b]? = some (.cells l.toArray T fz) → l.length ≤ fz.1 → vs.all oneCell = true → off + i + vs.length ≤ l.length →
    ∃ w', (storeCells ⟨b, off, none⟩ vs i).run P w = .ok () w' ∧ w'.heap[b]? = some (.cells (setAt l (off + i) vs).toArray T fz) ∧ (∀ j, j ≠ b → w'.heap[j]? = w.heap[j]?) ∧ Env w w' := by
 intro vs
 induction vs with
 | nil => intro w l off i hb _ _ _; exact ⟨w, by simp [storeCells], hb, fun _ _ => rfl, Env.refl w⟩
 | cons v vs ih =>
   intro w l off i hb hz h1 hl
   simp only [List.all_cons, Bool.and_eq_true] at h1
   simp only [List.length_cons] at hl
   have hst := run_store_cez (P := P) (off := off + i) hb hz h1.1 (by omega)
   obtain ⟨w', hr, hb', ho', he'⟩ := ih (w.setCell ⟨b, off + i, none⟩ v) (l.set (off + i) v) off (i + 1) (setCell_atz hb) (by simpa using hz) h1.2 (by simp; omega)
   refine ⟨w', ?_, hb', fun j hj => (ho' j hj).trans (setCell_other hj), (env_setCell _ _ _).trans he'⟩
   simp only [storeCells, Sem.run_bind, addr_add, hst, Result.andThen_ok]
   exact hr
end
/-- A slice of bytes that is one's own, in a block that may bear a mark behind its cells. -/
def RowZAt (v : Value) (n : Nat) (xs : List Value) (e : TypeId) (M : Kn) (h : Res) : Prop :=
 ∃ g cap cur fz, v = .slice (some ⟨g, 0, none⟩) n cap ∧ n ≤ cap ∧ cap ≤ maxLen ∧ List.length cur = cap ∧ xs.length = n ∧ cur.take n = xs ∧ (fz = (0, 0) ∨ cap ≤ fz.1) ∧ h = Res.one g (.cells cur.toArray e fz)
def RowZ (e : TypeId) (v : Value) (n : Nat) (xs : List Value) : HP := ⟨RowZAt v n xs e, fun _ e => e⟩
theorem sla_rowz {e : TypeId} {k n c : Nat} {a : Option Addr} {xs : List Value} : SlA (RowZ e (.slice a n c) k xs) a xs := fun x => by
 obtain ⟨g, cap, cur, fz, h1, h2, h3, h4, h5, h6, h7, h8⟩ := x
 cases h1
 exact .inr ⟨g, 0, cur, e, fz, rfl, .inr (by rw [h8]; exact Res.one_same _ _), by rw [List.drop_zero, h5]; exact h6⟩
instance (priority := 1000) {e : TypeId} {k n c : Nat} {a : Option Addr} {xs : List Value} {r : List HP} : RdSl a xs (RowZ e (.slice a n c) k xs :: r) := ⟨⟨_, sla_rowz, .here⟩⟩
section
variable {r : Option Nat} {P : Program} {n : Nat} {ops : Array Oper} {os : List Oper} {L : Loc} {Hs : List HP} {Q : Out} {ty : TypeId} {d : Nat} {pos : String} {after : Array Edge}
theorem r_s2b {src dt e : TypeId} {x : Operand} {s : Bs} (hs : P.underlying src = some .string) (ht : P.underlying dt = some (.slice e)) (he : P.underlying e = some (.int .u8)) (hx : ev L x = some (vS s)) (hl : s.length ≤ maxLen) (hd : Nat.blt d n = true)
    (K : ∀ b cap, wo r P n ops os ((d, .slice (some ⟨b, 0, none⟩) s.length cap) :: L) (RowZ e (.slice (some ⟨b, 0, none⟩) s.length cap) s.length (vUs s) :: Hs) Q) : wo r P n ops (⟨some d, .convert src dt x, ty, pos, after, none⟩ :: os) L Hs Q := by
 intro a M m st w hf dj t
 have hsz : (⟨s.toArray⟩ : ByteArray).size = s.length := rfl
 have hge := grownCap_ge w s.length 0 e
 have hcm : grownCap w s.length 0 e ≤ maxLen := grownCap_le_maxLen w s.length 0 e hl
 have hrow : bytesRow ⟨s.toArray⟩ (grownCap w s.length 0 e) = (vUs s ++ List.replicate (grownCap w s.length 0 e - s.length) (vU 0)).toArray := by
  apply Array.ext'
  simp [bytesRow, vUs, hsz]
 have hrl : (vUs s ++ List.replicate (grownCap w s.length 0 e - s.length) (vU 0)).length = grownCap w s.length 0 e := by simp [vUs]; omega
 have hrun : (execOp a.eval ⟨some d, .convert src dt x, ty, pos, after, none⟩).run P w = .ok (.value (.slice (some ⟨w.heap.size, 0, none⟩) s.length (grownCap w s.length 0 e))) (w.drew.alloc (.cells (vUs s ++ List.replicate (grownCap w s.length 0 e - s.length) (vU 0)).toArray e (grownCap w s.length 0 e, grownCap w s.length 0 e + 1))) := by
  have h1 := run_bytes_of_string (P := P) w src dt e ⟨s.toArray⟩ hs ht he
  rw [hsz, hrow] at h1
  simp only [List.size_toArray, hrl] at h1
  simp only [execOp, st.1.ev hx, Sem.run_bind]
  rw [show (vS s) = Value.string ⟨s.toArray⟩ from rfl, h1]; rfl
 simp only [wpL, Region.wanted, if_true]
 rw [Oper.semAt_eq _ _ _ (by intro c; simp), hrun]
 generalize hcap : grownCap w s.length 0 e = cap at *
 generalize hcells : vUs s ++ List.replicate (cap - s.length) (vU 0) = cur at *
 have t2 := t.drew.alloc (.cells cur.toArray e (cap, cap + 1))
 obtain ⟨f1, f2⟩ := fresh_none t.drew
 obtain ⟨f3, f4⟩ := Res.add_none.1 f2
 rw [← Res.add_assoc] at t2
 refine K w.heap.size cap _ M ((Res.one w.heap.size (.cells cur.toArray e (cap, cap + 1))).add m) ⟨st.1.put hd, ?_⟩ _ hf (Res.dj_add_left.2 ⟨one_dj f4, dj⟩) t2
 obtain ⟨g1, g2, dg, e1, y, s2⟩ := st.2
 subst e1
 obtain ⟨f5, f6⟩ := Res.add_none.1 f3
 have hvl : (vUs s).length = s.length := by simp [vUs]
 have htk : cur.take s.length = vUs s := by rw [← hcells]; exact List.take_left' hvl
 replace f5 : g1 w.heap.size = none := f5
 replace f6 : g2 w.heap.size = none := f6
 exact ⟨g1, (Res.one w.heap.size _).add g2, Res.dj_add_right.2 ⟨Res.dj_comm (one_dj f5), dg⟩, by rw [← Res.add_assoc, Res.add_comm (one_dj f5), Res.add_assoc], y,
  Res.one w.heap.size _, g2, one_dj f6, rfl, ⟨w.heap.size, cap, cur, (cap, cap + 1), rfl, hge, hcm, hrl, by simp [vUs], htk, .inr (Nat.le_refl _), rfl⟩, s2⟩
end
end Go.Proofs.YtibccdcemcgkeaaGreat
end
section
namespace Go.Proofs.YtibccdcemcgkeaaGreat
/-- append(s, x...) where s may bear a mark behind its cells. -/
theorem run_append_rowz {P : Program} {t ty e : TypeId} {i : TypeInfo} {z : Value} (ht : P.underlying t = some (.slice e)) (hi : P.info? e = some i) (hz : i.zero = some z) (hzs : z.cells.size = i.size) (hsz : i.size = 1)
    {v : Value} {k : Nat} {xs : List Value} {w : World} {M : Kn} {h hf : Res} (dj : h.dj hf) (s : Sat w M (h.add hf)) (hr : RowZAt v k xs e M h)
    {a : Addr} {m c : Nat} {news : List Value} (hl : news.length = m) (hnews : ∀ j u, news[j]? = some u → w.cell? (a.add j) = some u) (h1 : ∀ u ∈ news, oneCell u = true)
    (hbytes : (k + m) * i.bytes ≤ 140737488355328) (h63 : k + m ≤ maxLen) :
    ∃ v' w' h', (Builtin.append_ #[t, t] ty #[v, .slice (some a) m c]).run P w = .ok v' w' ∧ h'.dj hf ∧ Sat w' M (h'.add hf) ∧ RowZAt v' (k + m) (xs ++ news) e M h' := by
 have h1' : ∀ u ∈ news, u.oneCell' = true := fun u hu => oneCell_iff.1 (h1 u hu)
 have hsmall : k + m ≤ 9223372036854775807 := by simp only [maxLen] at h63; omega
 have hl1 : news.length = m * i.size := by rw [hsz, Nat.mul_one]; exact hl
 obtain ⟨g, cap, cur, fz, rfl, hkc, hcm, hcl, hxl, htake, hfz, rfl⟩ := hr
 have hg : w.heap[g]? = some (.cells cur.toArray e fz) := s.ow _ _ (by simp [Res.add, Res.one])
 by_cases hroom : k + m ≤ cap
 · have hst : ∃ w', (storeCells ⟨g, k, none⟩ news 0).run P w = .ok () w' ∧ w'.heap[g]? = some (.cells (setAt cur k news).toArray e fz) ∧ (∀ j, j ≠ g → w'.heap[j]? = w.heap[j]?) ∧ Env w w' := by
     rcases hfz with rfl | hfz
     · have := run_storeCells_ce (P := P) (b := g) (T := e) news w cur k 0 hg (List.all_eq_true.2 h1) (by omega)
       simpa using this
     · have := run_storeCells_cez (P := P) (b := g) (T := e) news w cur k 0 hg (by omega) (List.all_eq_true.2 h1) (by omega)
       simpa using this
   obtain ⟨w', hr, hb', ho', he'⟩ := hst
   have hfc := run_firstCells_some (P := P) w i.size m a m c news hl1 hnews
   rw [hsz] at hfc
   refine ⟨.slice (some ⟨g, 0, none⟩) (k + m) cap, w', Res.one g (.cells (setAt cur k news).toArray e fz), ?_, dj_one_any dj, Sat.setBlk dj s hb' ho' he', ⟨g, cap, setAt cur k news, fz, rfl, hroom, hcm, by rw [length_setAt]; exact hcl, by simp [hxl, hl], ?_, hfz, rfl⟩⟩
   · simp [Builtin.append_, run_underlying ht, sizeOf, typeInfo, hi, Builtin.lenOf, hroom, hfc, Addr.add_lit, hsz, hr]
   · have hcur : cur = xs ++ ((cur.drop k).take m ++ cur.drop (k + m)) := by
       rw [← htake, ← List.drop_drop, List.take_append_drop, List.take_append_drop]
     have hm := setAt_mid news xs ((cur.drop k).take m) (cur.drop (k + m)) (by rw [List.length_take, List.length_drop]; omega)
     rw [← hcur, hxl] at hm
     rw [hm, ← List.append_assoc]
     exact List.take_left' (by simp [hxl, hl])
 · have holds : ∀ j u, xs[j]? = some u → w.cell? ((⟨g, 0, none⟩ : Addr).add j) = some u := by
     intro j u hj
     have hlt := (List.getElem?_eq_some_iff.1 hj).1
     rw [addr_add, Nat.zero_add]
     simp only [World.cell?, hg]
     rw [← htake, List.getElem?_take_of_lt (by omega)] at hj
     simpa using hj
   have hr := run_append_grow (P := P) w t ty e i z ht hi hz ⟨g, 0, none⟩ k cap xs (by rw [hsz, Nat.mul_one]; exact hxl) holds a m c news hl1 hnews (by omega) (by omega) (growslice_fits (by omega) hbytes)
   have hge := grownCap_ge w (k + m) cap e
   have hcm2 : grownCap w (k + m) cap e ≤ maxLen := grownCap_le_maxLen w (k + m) cap e h63
   have s2 := s.drew.alloc (.cells (xs.toArray ++ news.toArray ++ Builtin.zeroCells z.cells (grownCap w (k + m) cap e - (k + m))) e)
   obtain ⟨f1, f2⟩ := fresh_none s.drew
   obtain ⟨f3, f4⟩ := Res.add_none.1 f2
   refine ⟨_, _, Res.one w.heap.size (.cells (xs.toArray ++ news.toArray ++ Builtin.zeroCells z.cells (grownCap w (k + m) cap e - (k + m))) e), hr, one_dj f4, s2.le ?_, ⟨w.heap.size, _, xs ++ news ++ (Builtin.zeroCells z.cells (grownCap w (k + m) cap e - (k + m))).toList, (0, 0), rfl, hge, hcm2, ?_, ?_, ?_, .inl rfl, ?_⟩⟩
   · intro b o e'
     simp only [Res.add] at e' ⊢
     show (match Res.one w.heap.size _ b with | some o => some o | none => _) = _
     cases eb : Res.one w.heap.size (Obj.cells (xs.toArray ++ news.toArray ++ Builtin.zeroCells z.cells (grownCap w (k + m) cap e - (k + m))) e) b with
     | some u => rw [eb] at e'; simpa using e'
     | none =>
       rw [eb] at e'
       rcases dj b with x | x
       · simpa [x] using e'
       · have e2 : hf b = some o := e'
         rw [x] at e2; cases e2
   · simp only [List.length_append, Array.length_toList, size_zeroCells, hzs, hxl, hl, hsz]; omega
   · simp [hxl, hl]
   · have : (xs ++ news).length = k + m := by simp [hxl, hl]
     exact List.take_left' this
   · congr 2
     apply Array.ext'
     simp
section
variable {r : Option Nat} {P : Program} {n : Nat} {ops : Array Oper} {os : List Oper} {A : List HP} {L : Loc} {Hs : List HP} {Q : Out} {ty : TypeId} {d : Nat} {pos : String} {after : Array Edge}
theorem opt_appendZ {dst : Option Tmp} {t e : TypeId} {x y : Operand} {i : TypeInfo} {z : Value} (ht : P.underlying t = some (.slice e)) (hi : P.info? e = some i) (hz : i.zero = some z) (hzs : Nat.beq z.cells.size i.size = true) (hsz : i.size = 1) {bytes : Nat} (hby : i.bytes = bytes)
    {v : Value} {k : Nat} {xs : List Value} {b off m c : Nat} {l news : List Value} {B : HP} (hx : ev L x = some v) (hy : ev L y = some (.slice (some ⟨b, off, none⟩) m c)) (sh : Shows B b l)
    (hl : news.length = m) (hnews : (l.drop off).take m = news) (h1 : news.all oneCell = true)
    (hbytes : (k + m) * bytes ≤ 140737488355328) (h63 : k + m ≤ maxLen) :
    OpT r P n ⟨dst, .call ⟨.builtin .append, #[x, y], #[t, t]⟩, ty, pos, after, none⟩ A L [RowZ e v k xs, B] (fun v' => v') (fun v' => ∃ a c, v' = .slice a (k + m) c) (fun v' => [RowZ e v' (k + m) (xs ++ news), B]) := by
 subst hby
 intro a f w M h hA hf dj dj' s sA t'
 obtain ⟨g1, g2, dg, e1, hrow, s2⟩ := s
 obtain ⟨g3, g4, dg2, e2, hB, _⟩ := s2
 subst e2; subst e1
 obtain ⟨d1, d2⟩ := Res.dj_add_right.1 dg
 obtain ⟨d3, d4⟩ := Res.dj_add_left.1 dj
 obtain ⟨d5, d6⟩ := Res.dj_add_left.1 dj'
 obtain ⟨d7, d8⟩ := Res.dj_add_left.1 d5
 have eq : ((g1.add (g3.add g4)).add hA).add hf = g1.add (((g3.add g4).add hA).add hf) := by simp only [Res.add_assoc]
 rw [eq] at t'
 have hcell : ∀ j u, news[j]? = some u → w.cell? ((⟨b, off, none⟩ : Addr).add j) = some u := by
  intro j u hj
  have hle : g3.le (((g3.add g4).add hA).add hf) := fun i o e => by simp [Res.add, e]
  have t2 : Sat w M ((((g3.add g4).add hA).add hf).add Res.emp) := by
   rw [Res.add_emp]
   exact t'.le (Res.le_add_right (Res.dj_add_right.2 ⟨Res.dj_add_right.2 ⟨dg, d3⟩, d7⟩))
  rw [addr_add, shows_cell sh t2 hle hB (off + j), ← drop_get]
  have hlt := (List.getElem?_eq_some_iff.1 hj).1
  rw [← hnews, List.getElem?_take_of_lt (by omega)] at hj
  exact hj
 obtain ⟨v', w', h', hr, djn, sn, rn⟩ := run_append_rowz (P := P) ht hi hz (Nat.eq_of_beq_eq_true hzs) hsz (hf := ((g3.add g4).add hA).add hf) (Res.dj_add_right.2 ⟨Res.dj_add_right.2 ⟨dg, d3⟩, d7⟩) t' hrow hl hcell (fun u hu => List.all_eq_true.1 h1 u hu) hbytes h63 (ty := ty) (c := c)
 have hrun : (execOp a.eval ⟨dst, .call ⟨.builtin .append, #[x, y], #[t, t]⟩, ty, pos, after, none⟩).run P w = .ok (.value v') w' := by
  simp [execOp, resolve, f.ev hx, f.ev hy, invoke, builtin, hr]
 rw [hrun]
 obtain ⟨y1, y2⟩ := Res.dj_add_right.1 djn
 obtain ⟨y3, y4⟩ := Res.dj_add_right.1 y1
 have hsl : ∃ a c, v' = .slice a (k + m) c := by obtain ⟨g, cap, cur, fz, h, _⟩ := rn; exact ⟨_, _, h⟩
 refine ⟨v', M, h'.add (g3.add g4), rfl, hsl, Kn.le_refl _, Res.dj_add_left.2 ⟨y4, d4⟩, Res.dj_add_left.2 ⟨Res.dj_add_left.2 ⟨y2, d8⟩, d6⟩, ?_, h', g3.add g4, y3, rfl, rn, g3, g4, dg2, rfl, hB, trivial⟩
 have eq2 : ((h'.add (g3.add g4)).add hA).add hf = h'.add (((g3.add g4).add hA).add hf) := by simp only [Res.add_assoc]
 rw [eq2]; exact sn
end
end Go.Proofs.YtibccdcemcgkeaaGreat
end
