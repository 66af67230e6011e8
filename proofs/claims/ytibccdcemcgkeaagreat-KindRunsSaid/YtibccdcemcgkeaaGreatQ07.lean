/- Texts of this proof, put together: SHash, SHash2, SHash3, Slic. -/
import Derived.Test.YtibccdcemcgkeaaGreatQ06
import Derived.Test.YtibccdcemcgkeaaGreatQ05
set_option linter.unusedVariables false
set_option linter.unusedSimpArgs false
section
set_option maxRecDepth 100000
namespace Go.Proofs.YtibccdcemcgkeaaGreat
theorem RotateLeft32_sp (x : UInt32) (k : Nat) (hk : k = 1 ∨ k = 5 ∨ k = 30) : SpF Tryz.prog 138 [vW x, vI k] (vW (rotl x k)) := by
 rcases hk with rfl | rfl | rfl
 · skip
   refine Sp.body (n := 17) Tryz.call138 Tryz.func138 rfl rfl rfl ?_
   refine p_seq rfl ?_
   refine p_region rfl ?_
   refine wo_pv (pv_assign rfl) rfl ?_
   refine q_seq ?_
   refine p_seq rfl ?_
   refine p_region rfl ?_
   refine wo_pv (pv_move rfl) rfl ?_
   refine wo_pv (pv_conv rfl Tryz.underlying3 Tryz.underlying105) rfl ?_
   refine wo_pv (pv_and rfl rfl) rfl ?_
   refine wo_pv (pv_assign rfl) rfl ?_
   refine q_seq ?_
   refine p_seq rfl ?_
   refine p_region rfl ?_
   refine wo_pv (pv_move rfl) rfl ?_
   refine wo_pv (pv_move rfl) rfl ?_
   refine wo_pv (pv_shlW (m := 1) rfl rfl (by decide) (by omega)) rfl ?_
   refine wo_pv (pv_move rfl) rfl ?_
   refine wo_pv (pv_move rfl) rfl ?_
   refine wo_pv (pv_subw rfl rfl) rfl ?_
   refine wo_pv (pv_shrW (m := 31) rfl rfl (by decide) (by omega)) rfl ?_
   refine wo_pv (pv_orW rfl rfl) rfl ?_
   refine wo_pv (pv_assign rfl) rfl ?_
   refine q_seq ?_
   refine p_ret rfl ?_
   exact fin_ret () (vs := [_]) (Cs := []) rfl (.tmp rfl .nil) rfl trivial ent_nil
 · skip
   refine Sp.body (n := 17) Tryz.call138 Tryz.func138 rfl rfl rfl ?_
   refine p_seq rfl ?_
   refine p_region rfl ?_
   refine wo_pv (pv_assign rfl) rfl ?_
   refine q_seq ?_
   refine p_seq rfl ?_
   refine p_region rfl ?_
   refine wo_pv (pv_move rfl) rfl ?_
   refine wo_pv (pv_conv rfl Tryz.underlying3 Tryz.underlying105) rfl ?_
   refine wo_pv (pv_and rfl rfl) rfl ?_
   refine wo_pv (pv_assign rfl) rfl ?_
   refine q_seq ?_
   refine p_seq rfl ?_
   refine p_region rfl ?_
   refine wo_pv (pv_move rfl) rfl ?_
   refine wo_pv (pv_move rfl) rfl ?_
   refine wo_pv (pv_shlW (m := 5) rfl rfl (by decide) (by omega)) rfl ?_
   refine wo_pv (pv_move rfl) rfl ?_
   refine wo_pv (pv_move rfl) rfl ?_
   refine wo_pv (pv_subw rfl rfl) rfl ?_
   refine wo_pv (pv_shrW (m := 27) rfl rfl (by decide) (by omega)) rfl ?_
   refine wo_pv (pv_orW rfl rfl) rfl ?_
   refine wo_pv (pv_assign rfl) rfl ?_
   refine q_seq ?_
   refine p_ret rfl ?_
   exact fin_ret () (vs := [_]) (Cs := []) rfl (.tmp rfl .nil) rfl trivial ent_nil
 · skip
   refine Sp.body (n := 17) Tryz.call138 Tryz.func138 rfl rfl rfl ?_
   refine p_seq rfl ?_
   refine p_region rfl ?_
   refine wo_pv (pv_assign rfl) rfl ?_
   refine q_seq ?_
   refine p_seq rfl ?_
   refine p_region rfl ?_
   refine wo_pv (pv_move rfl) rfl ?_
   refine wo_pv (pv_conv rfl Tryz.underlying3 Tryz.underlying105) rfl ?_
   refine wo_pv (pv_and rfl rfl) rfl ?_
   refine wo_pv (pv_assign rfl) rfl ?_
   refine q_seq ?_
   refine p_seq rfl ?_
   refine p_region rfl ?_
   refine wo_pv (pv_move rfl) rfl ?_
   refine wo_pv (pv_move rfl) rfl ?_
   refine wo_pv (pv_shlW (m := 30) rfl rfl (by decide) (by omega)) rfl ?_
   refine wo_pv (pv_move rfl) rfl ?_
   refine wo_pv (pv_move rfl) rfl ?_
   refine wo_pv (pv_subw rfl rfl) rfl ?_
   refine wo_pv (pv_shrW (m := 2) rfl rfl (by decide) (by omega)) rfl ?_
   refine wo_pv (pv_orW rfl rfl) rfl ?_
   refine wo_pv (pv_assign rfl) rfl ?_
   refine q_seq ?_
   refine p_ret rfl ?_
   exact fin_ret () (vs := [_]) (Cs := []) rfl (.tmp rfl .nil) rfl trivial ent_nil
theorem hash_mixed_sp (i : Nat) (b c d : UInt32) (hi : i < 80) : SpF Tryz.prog 137 [vI i, vW b, vW c, vW d] (.tuple #[vW (mixW i b c d).1, vW (mixW i b c d).2]) := by
 have hm : mixW i b c d = if i / 20 = 0 then ((b &&& c) ||| (~~~b &&& d), 0x5a827999) else if i / 20 = 1 then (b ^^^ c ^^^ d, 0x6ed9eba1) else if i / 20 = 2 then ((b &&& c) ||| (b &&& d) ||| (c &&& d), 0x8f1bbcdc) else (b ^^^ c ^^^ d, 0xca62c1d6) := rfl
 refine Sp.body (n := 47) Tryz.call137 Tryz.func137 rfl rfl rfl ?_
 refine p_seq rfl ?_
 refine p_region rfl ?_
 refine wo_pv (pv_assign rfl) rfl ?_
 refine wo_pv (pv_assign rfl) rfl ?_
 refine q_seq ?_
 refine p_seq rfl ?_
 refine p_seq rfl ?_
 refine p_region rfl ?_
 refine wo_pv (pv_move rfl) rfl ?_
 refine wo_pv (pv_quo rfl rfl (by omega)) rfl ?_
 refine q_seq ?_
 refine p_block 0 rfl ?_
 refine p_seq rfl ?_
 refine p_region rfl ?_
 refine wo_pv (pv_eql rfl rfl) rfl ?_
 refine wo_pv (pv_assign rfl) rfl ?_
 refine q_seq ?_
 first | refine p_ite rfl rfl (fun h12 => ?_) (fun h12 => ?_) | refine p_cond rfl rfl (fun h12 => ?_) (fun h12 => ?_)
 ·
  refine p_seq rfl ?_
  refine p_region rfl ?_
  refine wo_pv (pv_move rfl) rfl ?_
  refine wo_pv (pv_move rfl) rfl ?_
  refine wo_pv (pv_andW rfl rfl) rfl ?_
  refine wo_pv (pv_move rfl) rfl ?_
  refine wo_pv (pv_notW rfl) rfl ?_
  refine wo_pv (pv_move rfl) rfl ?_
  refine wo_pv (pv_andW rfl rfl) rfl ?_
  refine wo_pv (pv_orW rfl rfl) rfl ?_
  refine wo_pv (pv_assign rfl) rfl ?_
  refine wo_pv (pv_assign rfl) rfl ?_
  refine q_seq ?_
  refine p_ret rfl ?_
  refine to_block_ret ?_
  refine t_seq_ret ?_
  rw [if_pos (by omega)] at hm
  rw [hm]
  exact fin_ret () (vs := [_, _]) (Cs := []) rfl (.tmp rfl (.tmp rfl .nil)) rfl trivial ent_nil
 ·
  refine p_seq rfl ?_
  refine p_region rfl ?_
  refine wo_pv (pv_eql rfl rfl) rfl ?_
  refine wo_pv (pv_assign rfl) rfl ?_
  refine q_seq ?_
  first | refine p_ite rfl rfl (fun h22 => ?_) (fun h22 => ?_) | refine p_cond rfl rfl (fun h22 => ?_) (fun h22 => ?_)
  ·
   refine p_seq rfl ?_
   refine p_region rfl ?_
   refine wo_pv (pv_move rfl) rfl ?_
   refine wo_pv (pv_move rfl) rfl ?_
   refine wo_pv (pv_xorW rfl rfl) rfl ?_
   refine wo_pv (pv_move rfl) rfl ?_
   refine wo_pv (pv_xorW rfl rfl) rfl ?_
   refine wo_pv (pv_assign rfl) rfl ?_
   refine wo_pv (pv_assign rfl) rfl ?_
   refine q_seq ?_
   refine p_ret rfl ?_
   refine to_block_ret ?_
   refine t_seq_ret ?_
   rw [if_neg (by omega), if_pos (by omega)] at hm
   rw [hm]
   exact fin_ret () (vs := [_, _]) (Cs := []) rfl (.tmp rfl (.tmp rfl .nil)) rfl trivial ent_nil
  ·
   refine p_seq rfl ?_
   refine p_region rfl ?_
   refine wo_pv (pv_eql rfl rfl) rfl ?_
   refine wo_pv (pv_assign rfl) rfl ?_
   refine q_seq ?_
   first | refine p_ite rfl rfl (fun h29 => ?_) (fun h29 => ?_) | refine p_cond rfl rfl (fun h29 => ?_) (fun h29 => ?_)
   ·
    refine p_seq rfl ?_
    refine p_region rfl ?_
    refine wo_pv (pv_move rfl) rfl ?_
    refine wo_pv (pv_move rfl) rfl ?_
    refine wo_pv (pv_andW rfl rfl) rfl ?_
    refine wo_pv (pv_move rfl) rfl ?_
    refine wo_pv (pv_move rfl) rfl ?_
    refine wo_pv (pv_andW rfl rfl) rfl ?_
    refine wo_pv (pv_orW rfl rfl) rfl ?_
    refine wo_pv (pv_move rfl) rfl ?_
    refine wo_pv (pv_move rfl) rfl ?_
    refine wo_pv (pv_andW rfl rfl) rfl ?_
    refine wo_pv (pv_orW rfl rfl) rfl ?_
    refine wo_pv (pv_assign rfl) rfl ?_
    refine wo_pv (pv_assign rfl) rfl ?_
    refine q_seq ?_
    refine p_ret rfl ?_
    refine to_block_ret ?_
    refine t_seq_ret ?_
    rw [if_neg (by omega), if_neg (by omega), if_pos (by omega)] at hm
    rw [hm]
    exact fin_ret () (vs := [_, _]) (Cs := []) rfl (.tmp rfl (.tmp rfl .nil)) rfl trivial ent_nil
   ·
    refine p_skip rfl ?_
    refine to_block ?_
    refine t_seq ?_
    refine p_seq rfl ?_
    refine p_region rfl ?_
    refine wo_pv (pv_move rfl) rfl ?_
    refine wo_pv (pv_move rfl) rfl ?_
    refine wo_pv (pv_xorW rfl rfl) rfl ?_
    refine wo_pv (pv_move rfl) rfl ?_
    refine wo_pv (pv_xorW rfl rfl) rfl ?_
    refine wo_pv (pv_assign rfl) rfl ?_
    refine wo_pv (pv_assign rfl) rfl ?_
    refine q_seq ?_
    refine p_ret rfl ?_
    rw [if_neg (by omega), if_neg (by omega), if_neg (by omega)] at hm
    rw [hm]
    exact fin_ret () (vs := [_, _]) (Cs := []) rfl (.tmp rfl (.tmp rfl .nil)) rfl trivial ent_nil
theorem vW_getD {l : List UInt32} {m : Nat} (h : m < l.length) : (l.map vW)[m]? = some (vW (l.getD m 0)) := by simp [h]
theorem sp_set {b : Bs} {j : Nat} (hj : j < 80) (x : UInt32) (hx : x = if j < 16 then blkW b j else nextW (spreadL b j) j) : (spreadL b j ++ List.replicate (80 - j) 0).set j x = spreadL b (j + 1) ++ List.replicate (80 - (j + 1)) 0 := by
 have e : List.replicate (80 - j) (0 : UInt32) = 0 :: List.replicate (80 - (j + 1)) 0 := by
  rw [← List.replicate_succ]; congr 1; omega
 rw [e, List.set_append_right _ _ (by rw [spreadL_len]; omega), spreadL_len, Nat.sub_self, List.set_cons_zero, spreadL, hx]
 simp
theorem sp_get {b : Bs} {j m : Nat} (h : m < j) (hj : j ≤ 80) : (spreadL b j ++ List.replicate (80 - j) (0 : UInt32)).getD m 0 = (spreadL b j).getD m 0 := by
 have := spreadL_len b j
 simp [List.getD_eq_getElem?_getD, List.getElem?_append_left, this, h]
theorem vUs_get {l : Bs} {m : Nat} (h : m < l.length) : (vUs l)[m]? = some (vU (l.getD m 0).toNat) := by simp [vUs, h]
theorem hash_spread_sp {B : HP} {a : Option Addr} (c : Nat) (b : Bs) (hb : b.length = 64) (sh : SlA B a (vUs b)) : Sp1 Tryz.prog 136 [.slice a 64 c] [B] (.agg ((spreadL b 80).map vW).toArray) [B] := by
 haveI : RdSl a (vUs b) [B] := ⟨⟨B, sh, .here⟩⟩
 have hvl : (vUs b).length = 64 := by simp [vUs, hb]
 refine Sp.body (n := 72) Tryz.call136 Tryz.func136 rfl rfl rfl ?_
 refine p_seq rfl ?_
 refine p_region rfl ?_
 refine wo_alloc (zs := [.int .u32 0, .int .u32 0, .int .u32 0, .int .u32 0, .int .u32 0, .int .u32 0, .int .u32 0, .int .u32 0, .int .u32 0, .int .u32 0, .int .u32 0, .int .u32 0, .int .u32 0, .int .u32 0, .int .u32 0, .int .u32 0, .int .u32 0, .int .u32 0, .int .u32 0, .int .u32 0, .int .u32 0, .int .u32 0, .int .u32 0, .int .u32 0, .int .u32 0, .int .u32 0, .int .u32 0, .int .u32 0, .int .u32 0, .int .u32 0, .int .u32 0, .int .u32 0, .int .u32 0, .int .u32 0, .int .u32 0, .int .u32 0, .int .u32 0, .int .u32 0, .int .u32 0, .int .u32 0, .int .u32 0, .int .u32 0, .int .u32 0, .int .u32 0, .int .u32 0, .int .u32 0, .int .u32 0, .int .u32 0, .int .u32 0, .int .u32 0, .int .u32 0, .int .u32 0, .int .u32 0, .int .u32 0, .int .u32 0, .int .u32 0, .int .u32 0, .int .u32 0, .int .u32 0, .int .u32 0, .int .u32 0, .int .u32 0, .int .u32 0, .int .u32 0, .int .u32 0, .int .u32 0, .int .u32 0, .int .u32 0, .int .u32 0, .int .u32 0, .int .u32 0, .int .u32 0, .int .u32 0, .int .u32 0, .int .u32 0, .int .u32 0, .int .u32 0, .int .u32 0, .int .u32 0, .int .u32 0]) ti165 rfl rfl rfl (fun b2 => ?_)
 refine q_seq ?_
 refine p_seq rfl ?_
 refine p_region rfl ?_
 refine wo_alloc (zs := [.int .u32 0, .int .u32 0, .int .u32 0, .int .u32 0, .int .u32 0, .int .u32 0, .int .u32 0, .int .u32 0, .int .u32 0, .int .u32 0, .int .u32 0, .int .u32 0, .int .u32 0, .int .u32 0, .int .u32 0, .int .u32 0, .int .u32 0, .int .u32 0, .int .u32 0, .int .u32 0, .int .u32 0, .int .u32 0, .int .u32 0, .int .u32 0, .int .u32 0, .int .u32 0, .int .u32 0, .int .u32 0, .int .u32 0, .int .u32 0, .int .u32 0, .int .u32 0, .int .u32 0, .int .u32 0, .int .u32 0, .int .u32 0, .int .u32 0, .int .u32 0, .int .u32 0, .int .u32 0, .int .u32 0, .int .u32 0, .int .u32 0, .int .u32 0, .int .u32 0, .int .u32 0, .int .u32 0, .int .u32 0, .int .u32 0, .int .u32 0, .int .u32 0, .int .u32 0, .int .u32 0, .int .u32 0, .int .u32 0, .int .u32 0, .int .u32 0, .int .u32 0, .int .u32 0, .int .u32 0, .int .u32 0, .int .u32 0, .int .u32 0, .int .u32 0, .int .u32 0, .int .u32 0, .int .u32 0, .int .u32 0, .int .u32 0, .int .u32 0, .int .u32 0, .int .u32 0, .int .u32 0, .int .u32 0, .int .u32 0, .int .u32 0, .int .u32 0, .int .u32 0, .int .u32 0, .int .u32 0]) ti165 rfl rfl rfl (fun b3 => ?_)
 refine q_seq ?_
 refine p_seq rfl ?_
 refine p_seq rfl ?_
 refine p_region rfl ?_
 refine wo_pv (pv_move rfl) rfl ?_
 refine q_seq ?_
 refine p_block 0 rfl ?_
 refine p_loop (fun (i : { j : Nat // j ≤ 16 }) => [(0, .slice a 64 c), (2, .pointer (some ⟨b2, 0, none⟩)), (3, .pointer (some ⟨b3, 0, none⟩)), (6, vI i.1)]) (fun (i : { j : Nat // j ≤ 16 }) => [Ce b3 165 ((spreadL b i.1 ++ List.replicate (80 - i.1) 0).map vW), Ce b2 165 ((List.replicate 80 (0 : UInt32)).map vW), B]) (fun (i : { j : Nat // j ≤ 16 }) => 16 - i.1) rfl (⟨0, Nat.zero_le _⟩) ?_ ?_ (fun i => ?_)
 · exact ⟨rfl, rfl, rfl, rfl, trivial⟩
 ·
  exact ent_step (ce_norm (by rfl) (by rfl)) (ent_step (ce_norm (by rfl) (by rfl)) ent_pick)
 obtain ⟨j, hj⟩ := i
 dsimp only
 have hsp := spreadL_len b j
 try dsimp only
 refine p_seq rfl ?_
 refine p_region rfl ?_
 refine wo_pv (pv_lss rfl rfl) rfl ?_
 refine q_seq ?_
 refine p_seq rfl ?_
 first | refine p_ite rfl rfl (fun h7 => ?_) (fun h7 => ?_) | refine p_cond rfl rfl (fun h7 => ?_) (fun h7 => ?_)
 ·
  refine p_skip rfl ?_
  refine t_seq ?_
  refine p_seq rfl ?_
  refine p_block 1 rfl ?_
  refine p_seq rfl ?_
  refine p_region rfl ?_
  refine wo_pv (pv_move rfl) rfl ?_
  refine wo_pv (pv_assign rfl) rfl ?_
  refine q_seq ?_
  refine d_draw rfl rfl rfl [B] ?_
  refine d_first 0 rfl rfl rfl (by kernel_rfl) (by kernel_rfl) (tl_pv (pv_move rfl)) ?_
  refine d_first 1 rfl rfl rfl (by kernel_rfl) (by kernel_rfl) (tl_pv (pv_move rfl)) ?_
  refine d_first 2 rfl rfl rfl (by kernel_rfl) (by kernel_rfl) (tl_pv (pv_move rfl)) ?_
  refine d_first 3 rfl rfl rfl (by kernel_rfl) (by kernel_rfl) (tl_pv (pv_mul rfl rfl (by omega))) ?_
  refine d_first 4 rfl rfl rfl (by kernel_rfl) (by kernel_rfl) (tl_elemAddr (sz := 1) (m := 4 * j) Tryz.underlying89 ti5 rfl rfl rfl (by omega) (by omega) (by omega) (Nat.mul_one _)) ?_
  refine d_first 5 rfl rfl rfl (by kernel_rfl) (by kernel_rfl) (tl_eload Tryz.underlying5 rfl rfl (vUs_get (by omega))) ?_
  refine d_first 6 rfl rfl rfl (by kernel_rfl) (by kernel_rfl) (tl_pv (pv_convW rfl Tryz.underlying5 Tryz.underlying102)) ?_
  refine d_first 7 rfl rfl rfl (by kernel_rfl) (by kernel_rfl) (tl_pv (pv_shlW (m := 24) rfl rfl rfl (by omega))) ?_
  refine d_first 8 rfl rfl rfl (by kernel_rfl) (by kernel_rfl) (tl_pv (pv_move rfl)) ?_
  refine d_first 9 rfl rfl rfl (by kernel_rfl) (by kernel_rfl) (tl_pv (pv_move rfl)) ?_
  refine d_first 10 rfl rfl rfl (by kernel_rfl) (by kernel_rfl) (tl_pv (pv_mul rfl rfl (by omega))) ?_
  refine d_first 11 rfl rfl rfl (by kernel_rfl) (by kernel_rfl) (tl_pv (pv_add rfl rfl (by omega))) ?_
  refine d_first 12 rfl rfl rfl (by kernel_rfl) (by kernel_rfl) (tl_elemAddr (sz := 1) (m := 4 * j + 1) Tryz.underlying89 ti5 rfl rfl rfl (by omega) (by omega) (by omega) (Nat.mul_one _)) ?_
  refine d_first 13 rfl rfl rfl (by kernel_rfl) (by kernel_rfl) (tl_eload Tryz.underlying5 rfl rfl (vUs_get (by omega))) ?_
  refine d_first 14 rfl rfl rfl (by kernel_rfl) (by kernel_rfl) (tl_pv (pv_convW rfl Tryz.underlying5 Tryz.underlying102)) ?_
  refine d_first 15 rfl rfl rfl (by kernel_rfl) (by kernel_rfl) (tl_pv (pv_shlW (m := 16) rfl rfl rfl (by omega))) ?_
  refine d_first 16 rfl rfl rfl (by kernel_rfl) (by kernel_rfl) (tl_pv (pv_orW rfl rfl)) ?_
  refine d_first 17 rfl rfl rfl (by kernel_rfl) (by kernel_rfl) (tl_pv (pv_move rfl)) ?_
  refine d_first 18 rfl rfl rfl (by kernel_rfl) (by kernel_rfl) (tl_pv (pv_move rfl)) ?_
  refine d_first 19 rfl rfl rfl (by kernel_rfl) (by kernel_rfl) (tl_pv (pv_mul rfl rfl (by omega))) ?_
  refine d_first 20 rfl rfl rfl (by kernel_rfl) (by kernel_rfl) (tl_pv (pv_add rfl rfl (by omega))) ?_
  refine d_first 21 rfl rfl rfl (by kernel_rfl) (by kernel_rfl) (tl_elemAddr (sz := 1) (m := 4 * j + 2) Tryz.underlying89 ti5 rfl rfl rfl (by omega) (by omega) (by omega) (Nat.mul_one _)) ?_
  refine d_first 22 rfl rfl rfl (by kernel_rfl) (by kernel_rfl) (tl_eload Tryz.underlying5 rfl rfl (vUs_get (by omega))) ?_
  refine d_first 23 rfl rfl rfl (by kernel_rfl) (by kernel_rfl) (tl_pv (pv_convW rfl Tryz.underlying5 Tryz.underlying102)) ?_
  refine d_first 24 rfl rfl rfl (by kernel_rfl) (by kernel_rfl) (tl_pv (pv_shlW (m := 8) rfl rfl rfl (by omega))) ?_
  refine d_first 25 rfl rfl rfl (by kernel_rfl) (by kernel_rfl) (tl_pv (pv_orW rfl rfl)) ?_
  refine d_first 26 rfl rfl rfl (by kernel_rfl) (by kernel_rfl) (tl_pv (pv_move rfl)) ?_
  refine d_first 27 rfl rfl rfl (by kernel_rfl) (by kernel_rfl) (tl_pv (pv_move rfl)) ?_
  refine d_first 28 rfl rfl rfl (by kernel_rfl) (by kernel_rfl) (tl_pv (pv_mul rfl rfl (by omega))) ?_
  refine d_first 29 rfl rfl rfl (by kernel_rfl) (by kernel_rfl) (tl_pv (pv_add rfl rfl (by omega))) ?_
  refine d_first 30 rfl rfl rfl (by kernel_rfl) (by kernel_rfl) (tl_elemAddr (sz := 1) (m := 4 * j + 3) Tryz.underlying89 ti5 rfl rfl rfl (by omega) (by omega) (by omega) (Nat.mul_one _)) ?_
  refine d_first 31 rfl rfl rfl (by kernel_rfl) (by kernel_rfl) (tl_eload Tryz.underlying5 rfl rfl (vUs_get (by omega))) ?_
  refine d_first 32 rfl rfl rfl (by kernel_rfl) (by kernel_rfl) (tl_pv (pv_convW rfl Tryz.underlying5 Tryz.underlying102)) ?_
  refine d_first 33 rfl rfl rfl (by kernel_rfl) (by kernel_rfl) (tl_pv (pv_orW rfl rfl)) ?_
  refine d_first 34 rfl rfl rfl (by kernel_rfl) (by kernel_rfl) (tl_pv (pv_aindex1 Tryz.underlying165 ti102 rfl rfl rfl (by first | rfl | omega) (by omega))) ?_
  refine d_next 35 (by kernel_rfl) rfl ?_
  refine an_store ti102 rfl rfl rfl rfl (by simp; try omega) ?_
  refine d_done (by kernel_rfl) ?_
  refine to_block ?_
  refine t_seq ?_
  refine p_region rfl ?_
  refine wo_pv (pv_add rfl rfl (by omega)) rfl ?_
  refine wo_pv (pv_move rfl) rfl ?_
  refine wo_nil ?_
  refine to_inv ⟨j + 1, by omega⟩ (by dsimp only; omega) ⟨rfl, rfl, rfl, rfl, trivial⟩ ?_
  dsimp only
  rw [← sp_set (b := b) (j := j) (by omega) (blkW b j) (by rw [if_pos (by omega)])]
  exact ent_step (ce_norm (by rfl) (by rw [List.map_set]; rfl)) ent_pick
 ·
  refine p_exit 0 rfl ?_
  refine t_seq_exit ?_
  refine to_inv_exit ?_
  refine to_block_here ?_
  refine t_seq ?_
  refine p_seq rfl ?_
  refine p_seq rfl ?_
  refine p_region rfl ?_
  refine wo_pv (pv_assign rfl) rfl ?_
  refine q_seq ?_
  refine p_block 2 rfl ?_
  refine p_loop (fun (i : { j : Nat // 16 ≤ j ∧ j ≤ 80 }) => [(2, .pointer (some ⟨b2, 0, none⟩)), (3, .pointer (some ⟨b3, 0, none⟩)), (5, vI i.1)]) (fun (i : { j : Nat // 16 ≤ j ∧ j ≤ 80 }) => [Ce b3 165 ((spreadL b i.1 ++ List.replicate (80 - i.1) 0).map vW), Ce b2 165 ((List.replicate 80 (0 : UInt32)).map vW), B]) (fun (i : { j : Nat // 16 ≤ j ∧ j ≤ 80 }) => 80 - i.1) rfl (⟨16, by omega, by omega⟩) ?_ ?_ (fun i => ?_)
  · exact ⟨rfl, rfl, rfl, trivial⟩
  ·
   have hj16 : j = 16 := by omega
   subst hj16
   exact ent_pick
  obtain ⟨m, hm1, hm2⟩ := i
  dsimp only
  have hsl : (spreadL b m ++ List.replicate (80 - m) (0 : UInt32)).length = 80 := by rw [List.length_append, spreadL_len, List.length_replicate]; omega
  have hsp := spreadL_len b m
  try dsimp only
  refine p_seq rfl ?_
  refine p_seq rfl ?_
  refine p_region rfl ?_
  refine wo_pv (pv_move rfl) rfl ?_
  refine wo_pv (pv_lss rfl rfl) rfl ?_
  refine q_seq ?_
  first | refine p_ite rfl rfl (fun h46 => ?_) (fun h46 => ?_) | refine p_cond rfl rfl (fun h46 => ?_) (fun h46 => ?_)
  ·
   refine p_skip rfl ?_
   refine t_seq ?_
   refine p_seq rfl ?_
   refine p_block 3 rfl ?_
   refine d_draw rfl rfl rfl [Ce b3 165 ((spreadL b m ++ List.replicate (80 - m) 0).map vW)] ?_
   refine d_first 0 rfl rfl rfl (by kernel_rfl) (by kernel_rfl) (tl_pv (pv_move rfl)) ?_
   refine d_first 1 rfl rfl rfl (by kernel_rfl) (by kernel_rfl) (tl_pv (pv_move rfl)) ?_
   refine d_first 2 rfl rfl rfl (by kernel_rfl) (by kernel_rfl) (tl_pv (pv_sub rfl rfl (by omega))) ?_
   refine d_first 3 rfl rfl rfl (by kernel_rfl) (by kernel_rfl) (tl_pv (pv_aindex1 (m := m - 3) Tryz.underlying165 ti102 rfl rfl rfl (by omega) (by omega))) ?_
   refine d_first 4 rfl rfl rfl (by kernel_rfl) (by kernel_rfl) (tl_load Tryz.underlying102 rfl rfl ((vW_getD (m := m - 3) (by omega)).trans (by rw [sp_get (by omega) (by omega)]))) ?_
   refine d_first 5 rfl rfl rfl (by kernel_rfl) (by kernel_rfl) (tl_pv (pv_move rfl)) ?_
   refine d_first 6 rfl rfl rfl (by kernel_rfl) (by kernel_rfl) (tl_pv (pv_sub rfl rfl (by omega))) ?_
   refine d_first 7 rfl rfl rfl (by kernel_rfl) (by kernel_rfl) (tl_pv (pv_aindex1 (m := m - 8) Tryz.underlying165 ti102 rfl rfl rfl (by omega) (by omega))) ?_
   refine d_first 8 rfl rfl rfl (by kernel_rfl) (by kernel_rfl) (tl_load Tryz.underlying102 rfl rfl ((vW_getD (m := m - 8) (by omega)).trans (by rw [sp_get (by omega) (by omega)]))) ?_
   refine d_first 9 rfl rfl rfl (by kernel_rfl) (by kernel_rfl) (tl_pv (pv_xorW rfl rfl)) ?_
   refine d_first 10 rfl rfl rfl (by kernel_rfl) (by kernel_rfl) (tl_pv (pv_move rfl)) ?_
   refine d_first 11 rfl rfl rfl (by kernel_rfl) (by kernel_rfl) (tl_pv (pv_sub rfl rfl (by omega))) ?_
   refine d_first 12 rfl rfl rfl (by kernel_rfl) (by kernel_rfl) (tl_pv (pv_aindex1 (m := m - 14) Tryz.underlying165 ti102 rfl rfl rfl (by omega) (by omega))) ?_
   refine d_first 13 rfl rfl rfl (by kernel_rfl) (by kernel_rfl) (tl_load Tryz.underlying102 rfl rfl ((vW_getD (m := m - 14) (by omega)).trans (by rw [sp_get (by omega) (by omega)]))) ?_
   refine d_first 14 rfl rfl rfl (by kernel_rfl) (by kernel_rfl) (tl_pv (pv_xorW rfl rfl)) ?_
   refine d_first 15 rfl rfl rfl (by kernel_rfl) (by kernel_rfl) (tl_pv (pv_move rfl)) ?_
   refine d_first 16 rfl rfl rfl (by kernel_rfl) (by kernel_rfl) (tl_pv (pv_sub rfl rfl (by omega))) ?_
   refine d_first 17 rfl rfl rfl (by kernel_rfl) (by kernel_rfl) (tl_pv (pv_aindex1 (m := m - 16) Tryz.underlying165 ti102 rfl rfl rfl (by omega) (by omega))) ?_
   refine d_first 18 rfl rfl rfl (by kernel_rfl) (by kernel_rfl) (tl_load Tryz.underlying102 rfl rfl ((vW_getD (m := m - 16) (by omega)).trans (by rw [sp_get (by omega) (by omega)]))) ?_
   refine d_first 19 rfl rfl rfl (by kernel_rfl) (by kernel_rfl) (tl_pv (pv_xorW rfl rfl)) ?_
   refine d_next 20 (by kernel_rfl) rfl ?_
   refine an_callF (RotateLeft32_sp _ 1 (.inl rfl)) rfl rfl rfl ?_
   refine d_first 21 rfl rfl rfl (by kernel_rfl) (by kernel_rfl) (tl_pv (pv_aindex1 Tryz.underlying165 ti102 rfl rfl rfl (by first | rfl | omega) (by omega))) ?_
   refine d_last 22 (by kernel_rfl) rfl (by kernel_rfl) (by kernel_rfl) ?_
   refine an_store ti102 rfl rfl rfl rfl (by simp; try omega) ?_
   refine to_block ?_
   refine t_seq ?_
   refine p_region rfl ?_
   refine wo_pv (pv_move rfl) rfl ?_
   refine wo_pv (pv_add rfl rfl (by omega)) rfl ?_
   refine wo_pv (pv_assign rfl) rfl ?_
   refine wo_nil ?_
   refine to_inv ⟨m + 1, by omega, by omega⟩ (by dsimp only; omega) ⟨rfl, rfl, rfl, trivial⟩ ?_
   dsimp only
   rw [← sp_set (b := b) (j := m) (by omega) (nextW (spreadL b m) m) (by rw [if_neg (by omega)])]
   exact ent_step (ce_norm (by rfl) (by rw [List.map_set]; rfl)) ent_pick
  ·
   refine p_exit 2 rfl ?_
   refine t_seq_exit ?_
   refine to_inv_exit ?_
   refine to_block_here ?_
   refine t_seq ?_
   refine p_seq rfl ?_
   have hm80 : m = 80 := by omega
   subst hm80
   rw [Nat.sub_self, List.replicate_zero, List.append_nil]
   have hsl2 : ((spreadL b 80).map vW).length = 80 := by rw [List.length_map, hsp]
   have hoc : ((spreadL b 80).map vW).all oneCell = true := by simp [oneCell]
   generalize (spreadL b 80).map vW = ws at hsl2 hoc ⊢
   refine p_region rfl ?_
   refine r_loada (vs := ws) Tryz.underlying165 rfl ti165 rfl (show 0 + 80 ≤ _ by omega) (show (ws.drop 0).take 80 = ws by rw [List.drop_zero]; exact List.take_of_length_le (by omega)) rfl ?_
   refine r_storea (vs := ws) ti165 (show Nat.beq 80 ws.length = true by rw [hsl2]; rfl) rfl rfl hoc (show 0 + ws.length ≤ _ by rw [hsl2]; simp) ?_
   refine q_seq ?_
   refine p_ret rfl ?_
   have hfull : setAt ((List.replicate 80 (0 : UInt32)).map vW) 0 ws = ws := by
    have := setAt_mid ws [] ((List.replicate 80 (0 : UInt32)).map vW) [] (by rw [hsl2]; simp)
    simpa using this
   rw [hfull]
   refine fin_ret () (vs := [_]) (Cs := [Ce b2 165 ws]) rfl (.cell (l := ws) (us := ws) rfl (shows_ce (T := 165)) Tryz.underlying165 rfl ti165 (show 80 ≤ ws.length by omega) (show ws.take 80 = ws from List.take_of_length_le (by omega)) .nil) rfl trivial ?_
   exact ent_pick
end Go.Proofs.YtibccdcemcgkeaaGreat
end
section
set_option maxRecDepth 100000
namespace Go.Proofs.YtibccdcemcgkeaaGreat
theorem setAt_full {l vs : List Value} (h : l.length = vs.length) : setAt l 0 vs = vs := by
 have := setAt_mid vs [] l [] (by rw [h])
 simpa using this
/-- So many words added. -/
def addL (h s : List UInt32) (i : Nat) : List UInt32 := (List.zipWith (· + ·) h s).take i ++ h.drop i
theorem addL_len {h s : List UInt32} (e : h.length = s.length) {i : Nat} (hi : i ≤ h.length) : (addL h s i).length = h.length := by
 simp [addL, List.length_zipWith, ← e]; omega
theorem addL_get {h s : List UInt32} (e : h.length = s.length) {i : Nat} (hi : i < h.length) : (addL h s i).getD i 0 = h.getD i 0 := by
 have hl : ((List.zipWith (· + ·) h s).take i).length = i := by simp [List.length_zipWith, ← e]; omega
 simp only [addL, List.getD_eq_getElem?_getD]
 rw [List.getElem?_append_right (by omega), hl, Nat.sub_self, List.getElem?_drop, Nat.add_zero]
theorem addL_set {h s : List UInt32} (e : h.length = s.length) {i : Nat} (hi : i < h.length) : (addL h s i).set i (h.getD i 0 + s.getD i 0) = addL h s (i + 1) := by
 have hl : ((List.zipWith (· + ·) h s).take i).length = i := by simp [List.length_zipWith, ← e]; omega
 have hz : i < (List.zipWith (· + ·) h s).length := by simp [List.length_zipWith, ← e]; omega
 have hd : h.drop i = h[i] :: h.drop (i + 1) := List.drop_eq_getElem_cons hi
 unfold addL
 rw [hd, List.set_append_right _ _ (by omega), hl, Nat.sub_self, List.set_cons_zero, List.take_succ_eq_append_getElem hz]
 have h1 : h.getD i 0 = h[i] := by simp [hi]
 have h2 : s.getD i 0 = s[i] := by simp [← e, hi]
 simp [List.getElem_zipWith, hi, ← e]
theorem hash_take_sp {B : HP} {a : Option Addr} (p c : Nat) (h : W5) (b : Bs) (hb : b.length = 64) (sh : SlA B a (vUs b)) : Sp1 Tryz.prog 91 [.pointer (some ⟨p, 0, none⟩), .slice a 64 c] [Ce p 103 (h.list.map vW), B] (.tuple #[]) [Ce p 103 ((takeW h b).list.map vW), B] := by
 have hwl : (spreadL b 80).length = 80 := spreadL_len b 80
 have htk : takeW h b = (let s := roundsW (spreadL b 80) h 80; ⟨h.a + s.a, h.b + s.b, h.c + s.c, h.d + s.d, h.e + s.e⟩) := rfl
 have hsp := hash_spread_sp c b hb sh
 generalize spreadL b 80 = ws at hwl htk hsp
 have hwm : (ws.map vW).length = 80 := by rw [List.length_map, hwl]
 refine Sp.body (n := 88) Tryz.call91 Tryz.func91 rfl rfl rfl ?_
 refine p_seq rfl ?_
 refine p_region rfl ?_
 refine wo_pv (pv_move rfl) rfl ?_
 refine r_call1 hsp rfl rfl rfl ?_
 refine wo_alloc (zs := [.int .u32 0, .int .u32 0, .int .u32 0, .int .u32 0, .int .u32 0, .int .u32 0, .int .u32 0, .int .u32 0, .int .u32 0, .int .u32 0, .int .u32 0, .int .u32 0, .int .u32 0, .int .u32 0, .int .u32 0, .int .u32 0, .int .u32 0, .int .u32 0, .int .u32 0, .int .u32 0, .int .u32 0, .int .u32 0, .int .u32 0, .int .u32 0, .int .u32 0, .int .u32 0, .int .u32 0, .int .u32 0, .int .u32 0, .int .u32 0, .int .u32 0, .int .u32 0, .int .u32 0, .int .u32 0, .int .u32 0, .int .u32 0, .int .u32 0, .int .u32 0, .int .u32 0, .int .u32 0, .int .u32 0, .int .u32 0, .int .u32 0, .int .u32 0, .int .u32 0, .int .u32 0, .int .u32 0, .int .u32 0, .int .u32 0, .int .u32 0, .int .u32 0, .int .u32 0, .int .u32 0, .int .u32 0, .int .u32 0, .int .u32 0, .int .u32 0, .int .u32 0, .int .u32 0, .int .u32 0, .int .u32 0, .int .u32 0, .int .u32 0, .int .u32 0, .int .u32 0, .int .u32 0, .int .u32 0, .int .u32 0, .int .u32 0, .int .u32 0, .int .u32 0, .int .u32 0, .int .u32 0, .int .u32 0, .int .u32 0, .int .u32 0, .int .u32 0, .int .u32 0, .int .u32 0, .int .u32 0]) ti165 rfl rfl rfl (fun b4 => ?_)
 refine r_storea (vs := ws.map vW) ti165 (show Nat.beq 80 (ws.map vW).length = true by rw [hwm]; rfl) rfl rfl (by simp [oneCell]) (show 0 + (ws.map vW).length ≤ _ by rw [hwm]; exact Nat.le_refl 80) ?_
 rw [setAt_full (by rw [hwm]; rfl)]
 refine q_seq ?_
 refine p_seq rfl ?_
 refine d_draw rfl rfl rfl [Ce p 103 (h.list.map vW)] ?_
 refine d_first 0 rfl rfl rfl (by kernel_rfl) (by kernel_rfl) (tl_pv (pv_move rfl)) ?_
 refine d_first 1 rfl rfl rfl (by kernel_rfl) (by kernel_rfl) (tl_pv (by first | exact pv_nilCheck_p rfl | exact pv_nilCheck_f rfl)) ?_
 refine d_first 2 rfl rfl rfl (by kernel_rfl) (by kernel_rfl) (tl_pv (pv_aindex1 (m := 0) Tryz.underlying103 ti102 rfl rfl rfl (by first | rfl | omega) (by omega))) ?_
 refine d_first 3 rfl rfl rfl (by kernel_rfl) (by kernel_rfl) (tl_load Tryz.underlying102 rfl rfl rfl) ?_
 refine d_first 4 rfl rfl rfl (by kernel_rfl) (by kernel_rfl) (tl_pv (pv_move rfl)) ?_
 refine d_first 5 rfl rfl rfl (by kernel_rfl) (by kernel_rfl) (tl_pv (by first | exact pv_nilCheck_p rfl | exact pv_nilCheck_f rfl)) ?_
 refine d_first 6 rfl rfl rfl (by kernel_rfl) (by kernel_rfl) (tl_pv (pv_aindex1 (m := 1) Tryz.underlying103 ti102 rfl rfl rfl (by first | rfl | omega) (by omega))) ?_
 refine d_first 7 rfl rfl rfl (by kernel_rfl) (by kernel_rfl) (tl_load Tryz.underlying102 rfl rfl rfl) ?_
 refine d_first 8 rfl rfl rfl (by kernel_rfl) (by kernel_rfl) (tl_pv (pv_move rfl)) ?_
 refine d_first 9 rfl rfl rfl (by kernel_rfl) (by kernel_rfl) (tl_pv (by first | exact pv_nilCheck_p rfl | exact pv_nilCheck_f rfl)) ?_
 refine d_first 10 rfl rfl rfl (by kernel_rfl) (by kernel_rfl) (tl_pv (pv_aindex1 (m := 2) Tryz.underlying103 ti102 rfl rfl rfl (by first | rfl | omega) (by omega))) ?_
 refine d_first 11 rfl rfl rfl (by kernel_rfl) (by kernel_rfl) (tl_load Tryz.underlying102 rfl rfl rfl) ?_
 refine d_first 12 rfl rfl rfl (by kernel_rfl) (by kernel_rfl) (tl_pv (pv_move rfl)) ?_
 refine d_first 13 rfl rfl rfl (by kernel_rfl) (by kernel_rfl) (tl_pv (by first | exact pv_nilCheck_p rfl | exact pv_nilCheck_f rfl)) ?_
 refine d_first 14 rfl rfl rfl (by kernel_rfl) (by kernel_rfl) (tl_pv (pv_aindex1 (m := 3) Tryz.underlying103 ti102 rfl rfl rfl (by first | rfl | omega) (by omega))) ?_
 refine d_first 15 rfl rfl rfl (by kernel_rfl) (by kernel_rfl) (tl_load Tryz.underlying102 rfl rfl rfl) ?_
 refine d_first 16 rfl rfl rfl (by kernel_rfl) (by kernel_rfl) (tl_pv (pv_move rfl)) ?_
 refine d_first 17 rfl rfl rfl (by kernel_rfl) (by kernel_rfl) (tl_pv (by first | exact pv_nilCheck_p rfl | exact pv_nilCheck_f rfl)) ?_
 refine d_first 18 rfl rfl rfl (by kernel_rfl) (by kernel_rfl) (tl_pv (pv_aindex1 (m := 4) Tryz.underlying103 ti102 rfl rfl rfl (by first | rfl | omega) (by omega))) ?_
 refine d_first 19 rfl rfl rfl (by kernel_rfl) (by kernel_rfl) (tl_load Tryz.underlying102 rfl rfl rfl) ?_
 refine d_first 20 rfl rfl rfl (by kernel_rfl) (by kernel_rfl) (tl_pv (pv_assign rfl)) ?_
 refine d_first 21 rfl rfl rfl (by kernel_rfl) (by kernel_rfl) (tl_pv (pv_assign rfl)) ?_
 refine d_first 22 rfl rfl rfl (by kernel_rfl) (by kernel_rfl) (tl_pv (pv_assign rfl)) ?_
 refine d_first 23 rfl rfl rfl (by kernel_rfl) (by kernel_rfl) (tl_pv (pv_assign rfl)) ?_
 refine d_first 24 rfl rfl rfl (by kernel_rfl) (by kernel_rfl) (tl_pv (pv_assign rfl)) ?_
 refine d_done (by kernel_rfl) ?_
 refine t_seq ?_
 refine p_seq rfl ?_
 refine p_seq rfl ?_
 refine p_region rfl ?_
 refine wo_pv (pv_move rfl) rfl ?_
 refine q_seq ?_
 refine p_block 0 rfl ?_
 refine p_loop (fun (i : { j : Nat // j ≤ 80 }) => [(0, .pointer (some ⟨p, 0, none⟩)), (4, .pointer (some ⟨b4, 0, none⟩)), (5, vW (roundsW ws h i.1).a), (6, vW (roundsW ws h i.1).b), (7, vW (roundsW ws h i.1).c), (8, vW (roundsW ws h i.1).d), (9, vW (roundsW ws h i.1).e), (38, vI i.1)]) (fun (i : { j : Nat // j ≤ 80 }) => [Ce p 103 (h.list.map vW), Ce b4 165 (ws.map vW), B]) (fun (i : { j : Nat // j ≤ 80 }) => 80 - i.1) rfl (⟨0, Nat.zero_le _⟩) ?_ ?_ (fun i => ?_)
 · exact ⟨rfl, rfl, rfl, rfl, rfl, rfl, rfl, rfl, trivial⟩
 ·
  exact ent_pick
 obtain ⟨j, hj⟩ := i
 dsimp only
 try dsimp only
 refine p_seq rfl ?_
 refine p_region rfl ?_
 refine wo_pv (pv_lss rfl rfl) rfl ?_
 refine q_seq ?_
 refine p_seq rfl ?_
 first | refine p_ite rfl rfl (fun h39 => ?_) (fun h39 => ?_) | refine p_cond rfl rfl (fun h39 => ?_) (fun h39 => ?_)
 ·
  refine p_skip rfl ?_
  refine t_seq ?_
  refine p_seq rfl ?_
  refine p_block 1 rfl ?_
  refine p_seq rfl ?_
  obtain ⟨s, hs⟩ : ∃ s, s = roundsW ws h j := ⟨_, rfl⟩
  have hs2 : roundsW ws h (j + 1) = roundW ws j s := by rw [hs]; rfl
  rw [← hs]
  refine p_region rfl ?_
  refine wo_pv (pv_move rfl) rfl ?_
  refine wo_pv (pv_assign rfl) rfl ?_
  refine q_seq ?_
  refine p_seq rfl ?_
  refine p_region rfl ?_
  refine wo_pv (pv_move rfl) rfl ?_
  refine wo_pv (pv_move rfl) rfl ?_
  refine wo_pv (pv_move rfl) rfl ?_
  refine wo_pv (pv_move rfl) rfl ?_
  refine r_callF (hash_mixed_sp j s.b s.c s.d (by omega)) rfl rfl rfl ?_
  refine wo_pv (pv_move rfl) rfl ?_
  refine wo_pv (pv_extract rfl rfl) rfl ?_
  refine wo_pv (pv_extract rfl rfl) rfl ?_
  refine wo_pv (pv_assign rfl) rfl ?_
  refine wo_pv (pv_assign rfl) rfl ?_
  refine q_seq ?_
  refine p_seq rfl ?_
  refine d_draw rfl rfl rfl [Ce b4 165 (ws.map vW)] ?_
  refine d_first 0 rfl rfl rfl (by kernel_rfl) (by kernel_rfl) (tl_pv (pv_move rfl)) ?_
  refine d_first 2 rfl rfl rfl (by kernel_rfl) (by kernel_rfl) (tl_pv (pv_move rfl)) ?_
  refine d_first 4 rfl rfl rfl (by kernel_rfl) (by kernel_rfl) (tl_pv (pv_move rfl)) ?_
  refine d_first 6 rfl rfl rfl (by kernel_rfl) (by kernel_rfl) (tl_pv (pv_move rfl)) ?_
  refine d_first 8 rfl rfl rfl (by kernel_rfl) (by kernel_rfl) (tl_pv (pv_move rfl)) ?_
  refine d_first 9 rfl rfl rfl (by kernel_rfl) (by kernel_rfl) (tl_pv (pv_aindex1 Tryz.underlying165 ti102 rfl rfl rfl (by first | rfl | omega) (by omega))) ?_
  refine d_first 10 rfl rfl rfl (by kernel_rfl) (by kernel_rfl) (tl_load Tryz.underlying102 rfl rfl (vW_getD (m := j) (by omega))) ?_
  refine d_next 1 (by kernel_rfl) rfl ?_
  refine an_callF (RotateLeft32_sp _ 5 (.inr (.inl rfl))) rfl rfl rfl ?_
  refine d_first 3 rfl rfl rfl (by kernel_rfl) (by kernel_rfl) (tl_pv (pv_addW rfl rfl)) ?_
  refine d_first 5 rfl rfl rfl (by kernel_rfl) (by kernel_rfl) (tl_pv (pv_addW rfl rfl)) ?_
  refine d_first 7 rfl rfl rfl (by kernel_rfl) (by kernel_rfl) (tl_pv (pv_addW rfl rfl)) ?_
  refine d_first 11 rfl rfl rfl (by kernel_rfl) (by kernel_rfl) (tl_pv (pv_addW rfl rfl)) ?_
  refine d_first 12 rfl rfl rfl (by kernel_rfl) (by kernel_rfl) (tl_pv (pv_assign rfl)) ?_
  refine d_done (by kernel_rfl) ?_
  refine t_seq ?_
  refine p_region rfl ?_
  refine wo_pv (pv_move rfl) rfl ?_
  refine wo_pv (pv_move rfl) rfl ?_
  refine wo_pv (pv_move rfl) rfl ?_
  refine r_callF (RotateLeft32_sp _ 30 (.inr (.inr rfl))) rfl rfl rfl ?_
  refine wo_pv (pv_move rfl) rfl ?_
  refine wo_pv (pv_move rfl) rfl ?_
  refine wo_pv (pv_assign rfl) rfl ?_
  refine wo_pv (pv_assign rfl) rfl ?_
  refine wo_pv (pv_assign rfl) rfl ?_
  refine wo_pv (pv_assign rfl) rfl ?_
  refine wo_pv (pv_assign rfl) rfl ?_
  refine wo_nil ?_
  refine to_block ?_
  refine t_seq ?_
  refine p_region rfl ?_
  refine wo_pv (pv_add rfl rfl (by omega)) rfl ?_
  refine wo_pv (pv_move rfl) rfl ?_
  refine wo_nil ?_
  refine to_inv ⟨j + 1, by omega⟩ (by dsimp only; omega) ?_ ent_pick
  dsimp only
  rw [hs2]
  exact ⟨rfl, rfl, rfl, rfl, rfl, rfl, rfl, rfl, trivial⟩
 ·
  refine p_exit 0 rfl ?_
  refine t_seq_exit ?_
  refine to_inv_exit ?_
  refine to_block_here ?_
  refine t_seq ?_
  refine p_seq rfl ?_
  have hj80 : j = 80 := by omega
  subst hj80
  obtain ⟨s, hs⟩ : ∃ s, s = roundsW ws h 80 := ⟨_, rfl⟩
  dsimp only at htk
  rw [← hs] at htk ⊢
  have hh5 : h.list.length = 5 := rfl
  have hs5 : s.list.length = 5 := rfl
  refine p_region rfl ?_
  refine wo_pv (pv_move rfl) rfl ?_
  refine wo_pv (pv_move rfl) rfl ?_
  refine wo_pv (pv_move rfl) rfl ?_
  refine wo_pv (pv_move rfl) rfl ?_
  refine wo_pv (pv_move rfl) rfl ?_
  refine wo_pv (pv_buildA (vs := [_, _, _, _, _]) Tryz.underlying103 ti102 rfl rfl rfl ti103 rfl rfl) rfl ?_
  refine wo_pv (pv_move rfl) rfl ?_
  refine q_seq ?_
  refine p_block 2 rfl ?_
  refine p_loop (fun (i : { m : Nat // m ≤ 5 }) => [(0, .pointer (some ⟨p, 0, none⟩)), (73, .agg (s.list.map vW).toArray), (74, vI i.1)]) (fun (i : { m : Nat // m ≤ 5 }) => [Ce p 103 ((addL h.list s.list i.1).map vW), B]) (fun (i : { m : Nat // m ≤ 5 }) => 5 - i.1) rfl (⟨0, Nat.zero_le _⟩) ?_ ?_ (fun i => ?_)
  · exact ⟨rfl, rfl, rfl, trivial⟩
  ·
   exact ent_step (ce_norm (by rfl) (by rfl)) ent_pick
  obtain ⟨m, hm⟩ := i
  dsimp only
  have hal := addL_len (h := h.list) (s := s.list) (i := m) rfl hm
  try dsimp only
  refine p_seq rfl ?_
  refine p_region rfl ?_
  refine wo_pv (pv_lss rfl rfl) rfl ?_
  refine q_seq ?_
  refine p_seq rfl ?_
  first | refine p_ite rfl rfl (fun h75 => ?_) (fun h75 => ?_) | refine p_cond rfl rfl (fun h75 => ?_) (fun h75 => ?_)
  ·
   refine p_skip rfl ?_
   refine t_seq ?_
   refine p_seq rfl ?_
   refine p_block 3 rfl ?_
   refine p_seq rfl ?_
   refine p_region rfl ?_
   refine wo_pv (pv_move rfl) rfl ?_
   refine wo_pv (pv_aidx Tryz.underlying103 Tryz.underlying102 ti102 rfl rfl rfl rfl rfl (by omega) (vW_getD (m := m) (by omega))) rfl ?_
   refine wo_pv (pv_assign rfl) rfl ?_
   refine wo_pv (pv_assign rfl) rfl ?_
   refine q_seq ?_
   refine d_draw rfl rfl rfl [] ?_
   refine d_first 0 rfl rfl rfl (by kernel_rfl) (by kernel_rfl) (tl_pv (pv_move rfl)) ?_
   refine d_first 1 rfl rfl rfl (by kernel_rfl) (by kernel_rfl) (tl_pv (pv_move rfl)) ?_
   refine d_first 2 rfl rfl rfl (by kernel_rfl) (by kernel_rfl) (tl_pv (by first | exact pv_nilCheck_p rfl | exact pv_nilCheck_f rfl)) ?_
   refine d_first 3 rfl rfl rfl (by kernel_rfl) (by kernel_rfl) (tl_pv (pv_aindex1 Tryz.underlying103 ti102 rfl rfl rfl (by first | rfl | omega) (by omega))) ?_
   refine d_first 5 rfl rfl rfl (by kernel_rfl) (by kernel_rfl) (tl_pv (pv_move rfl)) ?_
   refine d_first 7 rfl rfl rfl (by kernel_rfl) (by kernel_rfl) (tl_pv (by first | exact pv_nilCheck_p rfl | exact pv_nilCheck_f rfl)) ?_
   refine d_next 4 (by kernel_rfl) rfl ?_
   refine an_load Tryz.underlying102 rfl rfl ((vW_getD (m := m) (by omega)).trans (by rw [addL_get (hh5.trans hs5.symm) (by omega)])) rfl ?_
   refine d_first 6 rfl rfl rfl (by kernel_rfl) (by kernel_rfl) (tl_pv (pv_addW rfl rfl)) ?_
   refine d_first 8 rfl rfl rfl (by kernel_rfl) (by kernel_rfl) (tl_pv (pv_aindex1 Tryz.underlying103 ti102 rfl rfl rfl (by first | rfl | omega) (by omega))) ?_
   refine d_next 9 (by kernel_rfl) rfl ?_
   refine an_store ti102 rfl rfl rfl rfl (by simp; try omega) ?_
   refine d_done (by kernel_rfl) ?_
   refine to_block ?_
   refine t_seq ?_
   refine p_region rfl ?_
   refine wo_pv (pv_add rfl rfl (by omega)) rfl ?_
   refine wo_pv (pv_move rfl) rfl ?_
   refine wo_nil ?_
   refine to_inv ⟨m + 1, by omega⟩ (by dsimp only; omega) ⟨rfl, rfl, rfl, trivial⟩ ?_
   dsimp only
   rw [← addL_set (hh5.trans hs5.symm) (by omega)]
   exact ent_step (ce_norm (by rfl) (by rw [List.map_set])) ent_pick
  ·
   refine p_exit 2 rfl ?_
   refine t_seq_exit ?_
   refine to_inv_exit ?_
   refine to_block_here ?_
   have hm5 : m = 5 := by omega
   subst hm5
   refine fin_end () (vs := []) (Cs := []) rfl .nil rfl trivial ?_
   rw [htk]
   exact ent_step (ce_norm (by rfl) (by rfl)) ent_pick
end Go.Proofs.YtibccdcemcgkeaaGreat
end
section
set_option maxRecDepth 100000
namespace Go.Proofs.YtibccdcemcgkeaaGreat
section
variable {r : Option Nat} {P : Program} {n : Nat} {A : List HP} {L : Loc} {ty : TypeId} {pos : String} {after : Array Edge}
theorem opt_copyS {dst : Option Tmp} {x y : Operand} {dT sT e : TypeId} {g dLen dCap T : Nat} {cur : List Value} {s : Bs} (hu : P.underlying dT = some (.slice e)) (hs : (P.info? e).map (·.size) = some 1)
    (hx : ev L x = some (.slice (some ⟨g, 0, none⟩) dLen dCap)) (hy : ev L y = some (vS s)) (hq : s.length ≤ dLen) (hl : s.length ≤ cur.length) :
    OpT r P n ⟨dst, .call ⟨.builtin .copy, #[x, y], #[dT, sT]⟩, ty, pos, after, none⟩ A L [Ce g T cur] (fun _ : Unit => vI s.length) (fun _ => True) (fun _ => [Ce g T (setAt cur 0 (vUs s))]) := by
 refine opt_turn (fun ac f w M h1 hf dj tt hr => ?_)
 have hr' : h1 = Res.one g _ := hr
 subst hr'
 have hb : w.heap[g]? = some (.cells cur.toArray T (0, 0)) := tt.ow _ _ (by simp [Res.add, Res.one])
 obtain ⟨w', hrun, hb', ho', he'⟩ := run_storeCells_ce (P := P) (vUs s) w cur 0 0 hb (by simp [vUs, oneCell]) (by simp [vUs]; omega)
 refine ⟨w', Res.one g (.cells (setAt cur 0 (vUs s)).toArray T (0, 0)), dj_one_any dj, Sat.setBlk dj tt (by simpa using hb') ho' he', rfl, .inl ?_⟩
 cases hq2 : P.info? e with
 | none => simp [hq2] at hs
 | some i =>
   have hi : i.size = 1 := by simpa [hq2] using hs
   have hsz : (Builtin.lenOf (vS s)).run P w = .ok s.length w := rfl
   have hc : (Builtin.firstCells 1 s.length (vS s)).run P w = .ok (vUs s).toArray w := by
    show Result.ok _ w = Result.ok _ w
    congr 1
    apply Array.ext'
    simp [vUs, ByteArray.data_extract]
   have hm : Nat.min s.length dLen = s.length := Nat.min_eq_left hq
   simp only [execOp, resolve, Array.map, f.ev hx, f.ev hy, invoke, builtin]
   simp [execOp, resolve, f.ev hx, f.ev hy, invoke, builtin, Builtin.copy_, run_underlying hu, sizeOf, typeInfo, program, Sem.run, hq2, hi, hsz, hm, hc, hrun]
   rfl
end
/-- The padding, with so many bytes of the length. -/
def padI (s : Bs) (i : Nat) : Bs := s ++ [0x80] ++ zeros (64 * blocksN s - 9 - s.length) ++ (zeros (8 - i) ++ ((List.range 8).map (len8 s)).drop (8 - i))
theorem padI_len (s : Bs) {i : Nat} (h : i ≤ 8) : (padI s i).length = 64 * blocksN s := by
 simp only [padI, blocksN, zeros, List.length_append, List.length_replicate, List.length_drop, List.length_map, List.length_range, List.length_singleton]
 omega
theorem padI_8 (s : Bs) : padI s 8 = padB s := by simp [padI, padB, zeros]
theorem padI_0 (s : Bs) : ((vUs s ++ List.replicate (64 * blocksN s - s.length) (vU 0)).set s.length (vU 128)) = vUs (padI s 0) := by
 have hb : 64 * blocksN s - s.length = (64 * blocksN s - 9 - s.length) + 8 + 1 := by unfold blocksN; omega
 have hl : (vUs s).length = s.length := by simp [vUs]
 rw [List.set_append_right _ _ (by omega), hl, Nat.sub_self, hb, List.replicate_succ, List.set_cons_zero, ← List.replicate_append_replicate]
 simp [padI, vUs, zeros]
theorem padI_set (s : Bs) {i : Nat} (h : i < 8) : (padI s i).set (64 * blocksN s - 1 - i) (len8 s (7 - i)) = padI s (i + 1) := by
 have hp : (s ++ [0x80] ++ zeros (64 * blocksN s - 9 - s.length)).length = 64 * blocksN s - 8 := by
  simp only [blocksN, zeros, List.length_append, List.length_replicate, List.length_singleton]; omega
 have hb : 64 ≤ 64 * blocksN s := by unfold blocksN; omega
 unfold padI
 rw [List.set_append_right _ _ (by omega), hp, show 64 * blocksN s - 1 - i - (64 * blocksN s - 8) = 7 - i from by omega]
 congr 1
 have hz : zeros (8 - i) = zeros (7 - i) ++ [0] := by
  have : 8 - i = (7 - i) + 1 := by omega
  rw [this, zeros, zeros, List.replicate_succ']
 have hzl : (zeros (7 - i)).length = 7 - i := by simp [zeros]
 have hm : 7 - i < ((List.range 8).map (len8 s)).length := by simp; omega
 have hd : ((List.range 8).map (len8 s)).drop (7 - i) = len8 s (7 - i) :: ((List.range 8).map (len8 s)).drop (8 - i) := by
  rw [List.drop_eq_getElem_cons hm]
  have : 7 - i + 1 = 8 - i := by omega
  rw [this]; simp
 rw [hz, List.append_assoc, List.set_append_right _ _ (by omega), hzl, Nat.sub_self, List.singleton_append, List.set_cons_zero, show 8 - (i + 1) = 7 - i from by omega, hd]
theorem vUs_set {l : Bs} {m : Nat} {c : UInt8} : (vUs l).set m (vU c.toNat) = vUs (l.set m c) := by simp [vUs, List.map_set]
theorem len8_byte {s : Bs} (hs : s.length ≤ 1099511627776) {j : Nat} (hj : j < 8) : IntKind.u8.wrap (Int.fdiv (IntKind.u64.wrap (IntKind.u64.wrap (s.length : Int) * 8)) (2 ^ (min (8 * j) IntKind.u64.bits))) = ((len8 s (7 - j)).toNat : Int) := by
 have w64 : ∀ n : Int, IntKind.u64.wrap n = n % 18446744073709551616 := fun n => by simp [IntKind.wrap, IntKind.signed, IntKind.bits]
 have w8 : ∀ n : Int, IntKind.u8.wrap n = n % 256 := fun n => by simp [IntKind.wrap, IntKind.signed, IntKind.bits]
 have h1 : IntKind.u64.wrap (IntKind.u64.wrap (s.length : Int) * 8) = ((8 * s.length : Nat) : Int) := by rw [w64, w64]; omega
 have h2 : min (8 * j) IntKind.u64.bits = 8 * j := Nat.min_eq_left (by simp only [IntKind.bits]; omega)
 rw [h1, h2, two_pow, Int.fdiv_eq_ediv_of_nonneg _ (Int.natCast_nonneg _), w8, ← Int.natCast_ediv]
 have h3 : 7 - (7 - j) = j := by omega
 simp only [len8, h3, UInt8.toNat_ofNat']
 generalize 8 * s.length / 2 ^ (8 * j) = q
 omega
theorem hash_padded_sp (s : Bs) (hs : s.length ≤ 1099511627776) : Sp Tryz.prog 90 [vS s] [] (X := Nat) (fun g => .slice (some ⟨g, 0, none⟩) (64 * blocksN s) (64 * blocksN s)) (fun _ => True) (fun g => [Ce g 5 (vUs (padB s))]) := by
 have hbn : 64 * blocksN s = ((s.length + 8) / 64 + 1) * 64 := by unfold blocksN; omega
 have hbl : s.length + 9 ≤ 64 * blocksN s := by unfold blocksN; omega
 have hbu : 64 * blocksN s ≤ s.length + 72 := by unfold blocksN; omega
 refine Sp.body (n := 43) Tryz.call90 Tryz.func90 rfl rfl rfl ?_
 refine p_seq rfl ?_
 refine p_region rfl ?_
 refine wo_pv (pv_assign rfl) rfl ?_
 refine q_seq ?_
 refine p_seq rfl ?_
 refine p_region rfl ?_
 refine wo_pv (pv_move rfl) rfl ?_
 refine wo_pv (pv_call_len_s Tryz.underlying9 rfl) rfl ?_
 refine wo_pv (pv_add rfl rfl (by omega)) rfl ?_
 refine wo_pv (pv_quo rfl rfl (by omega)) rfl ?_
 refine wo_pv (pv_add rfl rfl (by omega)) rfl ?_
 refine wo_pv (pv_assign rfl) rfl ?_
 refine q_seq ?_
 refine p_seq rfl ?_
 refine p_region rfl ?_
 refine wo_pv (pv_move rfl) rfl ?_
 refine wo_pv (pv_mul rfl rfl (by omega)) rfl ?_
 refine r_makeSlice (m := 64 * blocksN s) (z := .int .u8 0) Tryz.underlying89 ti5 rfl rfl rfl (vI_eq (by omega)) (vI_eq (by omega)) (by omega) (by rw [show Tryz.t5.bytes = 1 from rfl]; omega) rfl (fun b14 => ?_)
 refine wo_pv (pv_assign rfl) rfl ?_
 refine q_seq ?_
 refine p_seq rfl ?_
 refine p_region rfl ?_
 refine wo_pv (pv_move rfl) rfl ?_
 refine wo_pv (pv_move rfl) rfl ?_
 refine wo_opT (by intro c; simp) (opt_copyS Tryz.underlying89 rfl rfl rfl (by omega) (by rw [List.length_replicate]; omega) (cur := List.replicate (64 * blocksN s) (vU 0)) (T := 5)) rfl (fun _ _ => ?_)
 have hsa : setAt (List.replicate (64 * blocksN s) (vU 0)) 0 (vUs s) = vUs s ++ List.replicate (64 * blocksN s - s.length) (vU 0) := by
  have h1 : List.replicate (64 * blocksN s) (vU 0) = List.replicate s.length (vU 0) ++ List.replicate (64 * blocksN s - s.length) (vU 0) := by rw [List.replicate_append_replicate]; congr 1; omega
  have := setAt_mid (vUs s) [] (List.replicate s.length (vU 0)) (List.replicate (64 * blocksN s - s.length) (vU 0)) (by simp [vUs])
  rw [h1]; simpa using this
 rw [hsa]
 have hl0 : (vUs s ++ List.replicate (64 * blocksN s - s.length) (vU 0)).length = 64 * blocksN s := by simp [vUs]; omega
 refine q_seq ?_
 refine p_seq rfl ?_
 refine p_region rfl ?_
 refine wo_pv (pv_move rfl) rfl ?_
 refine wo_pv (pv_move rfl) rfl ?_
 refine wo_pv (pv_call_len_s Tryz.underlying9 rfl) rfl ?_
 refine r_elemAddr (sz := 1) (m := s.length) (kk := s.length) Tryz.underlying89 ti5 rfl rfl rfl rfl (by omega) (by omega) (Nat.mul_one _) rfl ?_
 refine r_store ti5 rfl rfl rfl rfl (show 0 + s.length < _ by omega) ?_
 rw [Nat.zero_add, padI_0]
 refine q_seq ?_
 refine p_seq rfl ?_
 refine p_region rfl ?_
 refine wo_pv (pv_move rfl) rfl ?_
 refine wo_pv (pv_call_len_s Tryz.underlying9 rfl) rfl ?_
 refine wo_pv (pv_conv rfl Tryz.underlying3 Tryz.underlying104) rfl ?_
 refine wo_pv (pv_mulw rfl rfl) rfl ?_
 refine wo_pv (pv_assign rfl) rfl ?_
 refine q_seq ?_
 refine p_seq rfl ?_
 refine p_seq rfl ?_
 refine p_region rfl ?_
 refine wo_pv (pv_move rfl) rfl ?_
 refine q_seq ?_
 refine p_block 0 rfl ?_
 refine p_loop (fun (i : { j : Nat // j ≤ 8 }) => [(4, .slice (some ⟨b14, 0, none⟩) (64 * blocksN s) (64 * blocksN s)), (5, .int .u64 (IntKind.u64.wrap (IntKind.u64.wrap (s.length : Int) * 8))), (26, vI i.1)]) (fun (i : { j : Nat // j ≤ 8 }) => [Ce b14 5 (vUs (padI s i.1))]) (fun (i : { j : Nat // j ≤ 8 }) => 8 - i.1) rfl (⟨0, Nat.zero_le _⟩) ?_ ?_ (fun i => ?_)
 · exact ⟨rfl, rfl, rfl, trivial⟩
 ·
  exact ent_pick
 obtain ⟨j, hj⟩ := i
 dsimp only
 have hpl := padI_len s hj
 have hpv : (vUs (padI s j)).length = 64 * blocksN s := by simp [vUs, hpl]
 try dsimp only
 refine p_seq rfl ?_
 refine p_region rfl ?_
 refine wo_pv (pv_lss rfl rfl) rfl ?_
 refine q_seq ?_
 refine p_seq rfl ?_
 first | refine p_ite rfl rfl (fun h27 => ?_) (fun h27 => ?_) | refine p_cond rfl rfl (fun h27 => ?_) (fun h27 => ?_)
 ·
  refine p_skip rfl ?_
  refine t_seq ?_
  refine p_seq rfl ?_
  refine p_block 1 rfl ?_
  refine p_seq rfl ?_
  refine p_region rfl ?_
  refine wo_pv (pv_move rfl) rfl ?_
  refine wo_pv (pv_assign rfl) rfl ?_
  refine q_seq ?_
  refine p_region rfl ?_
  refine wo_pv (pv_move rfl) rfl ?_
  refine wo_pv (pv_move rfl) rfl ?_
  refine wo_pv (pv_call_len_sl Tryz.underlying89 rfl) rfl ?_
  refine wo_pv (pv_sub rfl rfl (by omega)) rfl ?_
  refine wo_pv (pv_move rfl) rfl ?_
  refine wo_pv (pv_sub rfl rfl (by omega)) rfl ?_
  refine wo_pv (pv_move rfl) rfl ?_
  refine wo_pv (pv_move rfl) rfl ?_
  refine wo_pv (pv_mul rfl rfl (by omega)) rfl ?_
  refine wo_pv (pv_shr (m := 8 * j) rfl (vI_eq (by omega))) rfl ?_
  refine wo_pv (pv_conv rfl Tryz.underlying104 Tryz.underlying5) rfl ?_
  refine r_elemAddr (sz := 1) (m := 64 * blocksN s - 1 - j) (kk := 64 * blocksN s - 1 - j) Tryz.underlying89 ti5 rfl rfl rfl (by omega) (by omega) (by omega) (Nat.mul_one _) rfl ?_
  refine r_store ti5 rfl rfl rfl rfl (show 0 + (64 * blocksN s - 1 - j) < _ by omega) ?_
  rw [Nat.zero_add, len8_byte hs (by omega), vUs_set, padI_set s (by omega)]
  refine wo_nil ?_
  refine to_block ?_
  refine t_seq ?_
  refine p_region rfl ?_
  refine wo_pv (pv_add rfl rfl (by omega)) rfl ?_
  refine wo_pv (pv_move rfl) rfl ?_
  refine wo_nil ?_
  exact to_inv ⟨j + 1, by omega⟩ (by dsimp only; omega) ⟨rfl, rfl, rfl, trivial⟩ ent_pick
 ·
  refine p_exit 0 rfl ?_
  refine t_seq_exit ?_
  refine to_inv_exit ?_
  refine to_block_here ?_
  refine t_seq ?_
  refine p_seq rfl ?_
  refine p_region rfl ?_
  refine wo_pv (pv_move rfl) rfl ?_
  refine wo_pv (pv_assign rfl) rfl ?_
  refine q_seq ?_
  refine p_ret rfl ?_
  have hj8 : j = 8 := by omega
  subst hj8
  rw [padI_8]
  refine fin_ret b14 (vs := [_]) (Cs := []) rfl (.tmp rfl .nil) rfl trivial ?_
  exact ent_pick
end Go.Proofs.YtibccdcemcgkeaaGreat
end
section
namespace Go.Proofs.YtibccdcemcgkeaaGreat
/-- The address of a slice that begins so many elements on. -/
def fromA (a : Option Addr) (m cap kk : Nat) : Option Addr := if m < cap then elemA a kk else a
section
variable {r : Option Nat} {P : Program} {n : Nat} {L : Loc} {Hs : List HP} {Q : Out} {ty : TypeId}
theorem pv_slslice_froma {x y : Operand} {a : Option Addr} {len cap m kk : Nat} {k : IntKind} {i : Int} {t e : TypeId} {ti : TypeInfo} {sz : Nat} (ht : P.underlying t = some (.slice e)) (hi : P.info? e = some ti) (hsz : ti.size = sz) (hx : ev L x = some (.slice a len cap)) (hy : ev L y = some (.int k i)) (hm : i = (m : Int)) (hk : m * sz = kk) (h : m ≤ len) (hc : len ≤ cap) (ha : ∀ b, a = some b → b.spot = none) :
    PV P n L (.slice t x (some y) none none) ty (.slice (fromA a m cap kk) (len - m) (cap - m)) := by
 by_cases hlt : m < cap
 · have := pv_slslice_fromm (P := P) (n := n) (ty := ty) ht hi hsz hx hy hm hk h hlt ha
   rw [fromA, if_pos hlt]; exact this
 · subst hm
   have := pv_slslice_from (P := P) (n := n) (ty := ty) ht hi hx hy (by omega) (by omega)
   rw [Int.toNat_natCast, if_pos (by omega)] at this
   rw [fromA, if_neg hlt]; exact this
theorem row_know {e : TypeId} {sz k n' c' : Nat} {a : Option Addr} {xs : List Value} {M : Kn} {h : Res} (x : (Row e sz (.slice a n' c') k xs).at_ M h) : k ≤ c' ∧ xs.length = k * sz ∧ ∀ b, a = some b → b.spot = none := by
 rcases x with ⟨h1, h2, h3⟩ | ⟨g, cap, cur, h1, h2, h3, h4, h5, h6, h7⟩
 · cases h1; subst h2; subst h3
   exact ⟨Nat.zero_le _, by simp, fun b e => by cases e⟩
 · cases h1
   exact ⟨h2, h5, fun b e => by cases e; rfl⟩
theorem sla_take {A : HP} {a : Option Addr} {xs : List Value} (sh : SlA A a xs) (k : Nat) : SlA A a (xs.take k) := fun x => by
 rcases sh x with e | ⟨g, off, l, T, fz, e1, e2, e3⟩
 · left; rw [e]; simp
 · refine .inr ⟨g, off, l, T, fz, e1, e2, ?_⟩
   conv => rhs; rw [← e3]
   rw [List.take_take, List.length_take]
theorem sla_from {e : TypeId} {sz k n' c' m kk : Nat} {a : Option Addr} {xs : List Value} (hk : m * sz = kk) (hm : m ≤ k) : SlA (Row e sz (.slice a n' c') k xs) (fromA a m c' kk) (xs.drop kk) := fun x => by
 obtain ⟨h1, h2, h3⟩ := row_know x
 by_cases hlt : m < c'
 · rcases sla_row x with e | ⟨g, off, l, T, fz, e1, e2, e3⟩
   · left; rw [e]; simp
   · refine .inr ⟨g, off + kk, l, T, fz, ?_, e2, ?_⟩
     · rw [fromA, if_pos hlt, e1]; rfl
     · conv => rhs; rw [← e3]
       rw [List.drop_take, List.drop_drop, List.length_drop]
 · left
   have hmk : m = k := by omega
   subst hmk
   rw [← hk, ← h2, List.drop_length]
end
end Go.Proofs.YtibccdcemcgkeaaGreat
end
