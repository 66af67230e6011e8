/- Texts of this proof, put together: SRead, SRead2, SSame, SBook, SRows, AskOf, PAsk. -/
import Derived.Test.YtimafngkifakfaaQB1
import Derived.Test.YtimafngkifakfaaQB4
import Derived.Test.YtimafngkifakfaaQA4
set_option linter.unusedVariables false
set_option linter.unusedSimpArgs false
/- The document's own reading of rows: walks. -/
set_option maxRecDepth 100000
namespace Go.Proofs.Ytimafngkifakfaa
def rdI (s : Bs) : Int := match readDec s with | some n => (n : Int) | none => -1
theorem ref1_ReadDec_sp (s : List UInt8) (hs : s.length ≤ 140737488355328) : SpF Try.prog 65 [vS s] (vI (rdI s)) := by
  have hq : rdI s = (match readDec2 s with | some n => (n : Int) | none => -1) := by rw [rdI, readDec_eq2]
  rw [hq]
  refine Sp.body (n := 45) Try.call65 Try.func65 rfl rfl rfl ?_
  refine p_seq rfl ?_
  refine p_region rfl ?_
  refine wo_pv (pv_assign rfl) rfl ?_
  refine q_seq ?_
  refine p_seq rfl ?_
  refine p_region rfl ?_
  refine wo_pv (pv_assign rfl) rfl ?_
  refine q_seq ?_
  refine p_seq rfl ?_
  refine p_seq rfl ?_
  refine p_region rfl ?_
  refine wo_pv (pv_assign rfl) rfl ?_
  refine q_seq ?_
  refine p_block 0 rfl ?_
  refine p_loop (fun (i : { p : Nat × Nat // dn2 (s.drop p.1) p.2 = dn2 s 0 ∧ p.1 ≤ s.length ∧ p.2 ≤ 1073741824 }) => [(0, vS s), (4, vI i.1.1), (3, vI i.1.2)]) (fun (i : { p : Nat × Nat // dn2 (s.drop p.1) p.2 = dn2 s 0 ∧ p.1 ≤ s.length ∧ p.2 ≤ 1073741824 }) => []) (fun (i : { p : Nat × Nat // dn2 (s.drop p.1) p.2 = dn2 s 0 ∧ p.1 ≤ s.length ∧ p.2 ≤ 1073741824 }) => s.length - i.1.1) rfl (⟨(0, 0), rfl, Nat.zero_le _, by omega⟩) ?_ ?_ (fun i => ?_)
  · exact ⟨rfl, rfl, rfl, trivial⟩
  · -- H at start
    exact ent_pick
  obtain ⟨⟨j, n⟩, hi, hj, hn⟩ := i
  dsimp only at hi hj hn
  try dsimp only
  refine p_seq rfl ?_
  refine p_seq rfl ?_
  refine p_region rfl ?_
  refine wo_pv (pv_move rfl) rfl ?_
  refine wo_pv (pv_move rfl) rfl ?_
  refine wo_pv (pv_call_len_s Try.underlying9 rfl) rfl ?_
  refine wo_pv (pv_lss rfl rfl) rfl ?_
  refine q_seq ?_
  first | refine p_ite rfl rfl (fun h8 => ?_) (fun h8 => ?_) | refine p_cond rfl rfl (fun h8 => ?_) (fun h8 => ?_)
  · -- t8 True
    refine p_skip rfl ?_
    refine t_seq ?_
    refine p_seq rfl ?_
    refine p_block 1 rfl ?_
    refine p_seq rfl ?_
    refine p_seq rfl ?_
    have hd := dn2_step (s := s) (i := j) (by omega) n
    refine p_region rfl ?_
    refine wo_pv (pv_move rfl) rfl ?_
    refine wo_pv (pv_move rfl) rfl ?_
    refine wo_pv (pv_indexm Try.underlying9 rfl rfl rfl (by omega)) rfl ?_
    refine wo_pv (pv_lss rfl rfl) rfl ?_
    refine wo_pv (pv_move rfl) rfl ?_
    first | refine wo_gite (j := 4) rfl rfl (fun h15 => ?_) (fun h15 => ?_) | refine wo_gsplit (j := 4) rfl rfl (fun h15 => ?_) (fun h15 => ?_)
    · -- t15 True
      refine wo_out (b := true) rfl rfl rfl ?_
      refine wo_out (b := true) rfl rfl rfl ?_
      refine wo_out (b := true) rfl rfl rfl ?_
      refine wo_out (b := true) rfl rfl rfl ?_
      refine wo_pv (pv_pick_t rfl rfl) rfl ?_
      refine q_seq ?_
      refine p_true rfl rfl ?_
      refine p_seq rfl ?_
      refine p_region rfl ?_
      refine wo_pv (pv_assign rfl) rfl ?_
      refine q_seq ?_
      refine p_ret rfl ?_
      refine t_seq_ret ?_
      refine to_block_ret ?_
      refine t_seq_ret ?_
      refine to_inv_ret ?_
      refine to_block_ret ?_
      refine t_seq_ret ?_
      rw [hi, if_pos (by omega)] at hd
      refine fin_ret () (vs := [_]) rfl (.tmp rfl .nil) ?_ trivial ent_nil
      simp [readDec2, hd, pack]
    · -- t15 False
      refine wo_in (b := false) rfl ?_
      refine wo_pv (pv_move rfl) rfl ?_
      refine wo_in (b := false) rfl ?_
      refine wo_pv (pv_move rfl) rfl ?_
      refine wo_in (b := false) rfl ?_
      refine wo_pv (pv_indexm Try.underlying9 rfl rfl rfl (by omega)) rfl ?_
      refine wo_in (b := false) rfl ?_
      refine wo_pv (pv_gtr rfl rfl) rfl ?_
      refine wo_pv (pv_pick_f rfl rfl) rfl ?_
      refine q_seq ?_
      first | refine p_ite rfl rfl (fun h20 => ?_) (fun h20 => ?_) | refine p_cond rfl rfl (fun h20 => ?_) (fun h20 => ?_)
      · -- t20 True
        refine p_seq rfl ?_
        refine p_region rfl ?_
        refine wo_pv (pv_assign rfl) rfl ?_
        refine q_seq ?_
        refine p_ret rfl ?_
        refine t_seq_ret ?_
        refine to_block_ret ?_
        refine t_seq_ret ?_
        refine to_inv_ret ?_
        refine to_block_ret ?_
        refine t_seq_ret ?_
        rw [hi, if_pos (by omega)] at hd
        refine fin_ret () (vs := [_]) rfl (.tmp rfl .nil) ?_ trivial ent_nil
        simp [readDec2, hd, pack]
      · -- t20 False
        refine p_skip rfl ?_
        refine t_seq ?_
        refine p_seq rfl ?_
        refine p_region rfl ?_
        refine wo_pv (pv_move rfl) rfl ?_
        refine wo_pv (pv_mul rfl rfl (by omega)) rfl ?_
        refine wo_pv (pv_move rfl) rfl ?_
        refine wo_pv (pv_move rfl) rfl ?_
        refine wo_pv (pv_indexm Try.underlying9 rfl rfl rfl (by omega)) rfl ?_
        refine wo_pv (by first | exact pv_subu rfl rfl (by omega) | exact pv_subw rfl rfl) rfl ?_
        refine wo_pv (pv_conv_in rfl Try.underlying5 Try.underlying3 (by first | exact wrap_byte _ | exact wrap_u8 _ | exact i64_in' (by omega))) rfl ?_
        refine wo_pv (pv_add rfl rfl (by omega)) rfl ?_
        refine wo_pv (pv_assign rfl) rfl ?_
        refine q_seq ?_
        refine p_seq rfl ?_
        refine p_region rfl ?_
        refine wo_pv (pv_move rfl) rfl ?_
        refine wo_pv (pv_gtr rfl rfl) rfl ?_
        refine q_seq ?_
        first | refine p_ite rfl rfl (fun h30 => ?_) (fun h30 => ?_) | refine p_cond rfl rfl (fun h30 => ?_) (fun h30 => ?_)
        · -- t30 True
          refine p_seq rfl ?_
          refine p_region rfl ?_
          refine wo_pv (pv_assign rfl) rfl ?_
          refine q_seq ?_
          refine p_ret rfl ?_
          refine to_block_ret ?_
          refine t_seq_ret ?_
          refine to_inv_ret ?_
          refine to_block_ret ?_
          refine t_seq_ret ?_
          rw [hi, if_neg (by omega), if_pos (by omega)] at hd
          refine fin_ret () (vs := [_]) rfl (.tmp rfl .nil) ?_ trivial ent_nil
          simp [readDec2, hd, pack]
        · -- t30 False
          refine p_skip rfl ?_
          refine to_block ?_
          refine t_seq ?_
          refine p_region rfl ?_
          refine wo_pv (pv_move rfl) rfl ?_
          refine wo_pv (pv_add rfl rfl (by omega)) rfl ?_
          refine wo_pv (pv_assign rfl) rfl ?_
          refine wo_nil ?_
          rw [hi, if_neg (by omega), if_neg (by omega)] at hd
          refine to_inv ⟨(j + 1, 10 * n + ((s.getD j 0).toNat - 48)), hd.symm, ?_, ?_⟩ ?_ ⟨rfl, rfl, ?_, trivial⟩ ent_nil
          · dsimp only; omega
          · dsimp only; omega
          · dsimp only; omega
          · exact vI_eq (by dsimp only; omega)
  · -- t8 False
    refine p_exit 0 rfl ?_
    refine t_seq_exit ?_
    refine to_inv_exit ?_
    refine to_block_here ?_
    refine t_seq ?_
    refine p_seq rfl ?_
    refine p_seq rfl ?_
    refine p_region rfl ?_
    refine wo_pv (pv_move rfl) rfl ?_
    refine wo_pv (pv_call_len_s Try.underlying9 rfl) rfl ?_
    refine wo_pv (pv_eql rfl rfl) rfl ?_
    refine wo_pv (pv_move rfl) rfl ?_
    first | refine wo_gite (j := 3) rfl rfl (fun h34 => ?_) (fun h34 => ?_) | refine wo_gsplit (j := 3) rfl rfl (fun h34 => ?_) (fun h34 => ?_)
    · -- t34 True
      refine wo_out (b := true) rfl rfl rfl ?_
      refine wo_out (b := true) rfl rfl rfl ?_
      refine wo_out (b := true) rfl rfl rfl ?_
      refine wo_out (b := true) rfl rfl rfl ?_
      refine wo_outU (u := undef) rfl rfl rfl ?_
      refine wo_outU (u := undef) rfl rfl rfl ?_
      refine wo_outU (u := undef) rfl rfl rfl ?_
      refine wo_out (b := true) rfl rfl rfl ?_
      refine wo_pv (pv_pick_t rfl rfl) rfl ?_
      refine q_seq ?_
      refine p_true rfl rfl ?_
      refine p_seq rfl ?_
      refine p_region rfl ?_
      refine wo_pv (pv_assign rfl) rfl ?_
      refine q_seq ?_
      refine p_ret rfl ?_
      refine t_seq_ret ?_
      have hjs : j = s.length := by omega
      subst hjs
      rw [List.drop_length, dn2] at hi
      have hc : s.length = 0 ∨ (1 < s.length ∧ s.getD 0 0 = 48) := by
        first
        | exact .inl (by omega)
        | exact .inr ⟨by omega, UInt8.toNat_inj.1 (by simp only [UInt8.reduceToNat]; omega)⟩
      refine fin_ret () (vs := [_]) rfl (.tmp rfl .nil) ?_ trivial ent_nil
      simp only [readDec2, ← hi, if_pos hc]
      rfl
    · -- t34 False
      refine wo_in (b := false) rfl ?_
      refine wo_pv (pv_move rfl) rfl ?_
      refine wo_in (b := false) rfl ?_
      refine wo_pv (pv_call_len_s Try.underlying9 rfl) rfl ?_
      refine wo_in (b := false) rfl ?_
      refine wo_pv (pv_gtr rfl rfl) rfl ?_
      refine wo_in (b := false) rfl ?_
      refine wo_pv (pv_move rfl) rfl ?_
      first | refine wo_gite (j := 7) rfl rfl (fun h38 => ?_) (fun h38 => ?_) | refine wo_gsplit (j := 7) rfl rfl (fun h38 => ?_) (fun h38 => ?_)
      · -- t38 True
        refine wo_in (b := true) rfl ?_
        refine wo_pv (pv_move rfl) rfl ?_
        refine wo_in (b := true) rfl ?_
        refine wo_pv (pv_indexm (m := 0) Try.underlying9 rfl rfl rfl (by omega)) rfl ?_
        refine wo_in (b := true) rfl ?_
        refine wo_pv (pv_eql rfl rfl) rfl ?_
        refine wo_in (b := false) rfl ?_
        refine wo_pv (pv_pick_t rfl rfl) rfl ?_
        refine wo_pv (pv_pick_f rfl rfl) rfl ?_
        refine q_seq ?_
        first | refine p_ite rfl rfl (fun h43 => ?_) (fun h43 => ?_) | refine p_cond rfl rfl (fun h43 => ?_) (fun h43 => ?_)
        · -- t43 True
          refine p_seq rfl ?_
          refine p_region rfl ?_
          refine wo_pv (pv_assign rfl) rfl ?_
          refine q_seq ?_
          refine p_ret rfl ?_
          refine t_seq_ret ?_
          have hjs : j = s.length := by omega
          subst hjs
          rw [List.drop_length, dn2] at hi
          have hc : s.length = 0 ∨ (1 < s.length ∧ s.getD 0 0 = 48) := by
            first
            | exact .inl (by omega)
            | exact .inr ⟨by omega, UInt8.toNat_inj.1 (by simp only [UInt8.reduceToNat]; omega)⟩
          refine fin_ret () (vs := [_]) rfl (.tmp rfl .nil) ?_ trivial ent_nil
          simp only [readDec2, ← hi, if_pos hc]
          rfl
        · -- t43 False
          refine p_skip rfl ?_
          refine t_seq ?_
          refine p_seq rfl ?_
          refine p_region rfl ?_
          refine wo_pv (pv_move rfl) rfl ?_
          refine wo_pv (pv_assign rfl) rfl ?_
          refine q_seq ?_
          refine p_ret rfl ?_
          have hjs : j = s.length := by omega
          subst hjs
          rw [List.drop_length, dn2] at hi
          have hc : ¬ (s.length = 0 ∨ (1 < s.length ∧ s.getD 0 0 = 48)) := by
            rintro (e | ⟨e1, e2⟩)
            · omega
            · have := congrArg UInt8.toNat e2
              simp only [UInt8.reduceToNat] at this
              first | omega | (simp_all; done)
          refine fin_ret () (vs := [_]) rfl (.tmp rfl .nil) ?_ trivial ent_nil
          simp only [readDec2, ← hi, if_neg hc]
          rfl
      · -- t38 False
        refine wo_out (b := false) rfl rfl rfl ?_
        refine wo_out (b := false) rfl rfl rfl ?_
        refine wo_out (b := false) rfl rfl rfl ?_
        refine wo_in (b := false) rfl ?_
        refine wo_pv (pv_pick_f rfl rfl) rfl ?_
        refine wo_pv (pv_pick_f rfl rfl) rfl ?_
        refine q_seq ?_
        refine p_false rfl rfl ?_
        refine p_skip rfl ?_
        refine t_seq ?_
        refine p_seq rfl ?_
        refine p_region rfl ?_
        refine wo_pv (pv_move rfl) rfl ?_
        refine wo_pv (pv_assign rfl) rfl ?_
        refine q_seq ?_
        refine p_ret rfl ?_
        have hjs : j = s.length := by omega
        subst hjs
        rw [List.drop_length, dn2] at hi
        have hc : ¬ (s.length = 0 ∨ (1 < s.length ∧ s.getD 0 0 = 48)) := by
          rintro (e | ⟨e1, e2⟩)
          · omega
          · have := congrArg UInt8.toNat e2
            simp only [UInt8.reduceToNat] at this
            first | omega | (simp_all; done)
        refine fin_ret () (vs := [_]) rfl (.tmp rfl .nil) ?_ trivial ent_nil
        simp only [readDec2, ← hi, if_neg hc]
        rfl
/-- A number up to a blank, in the document's own words. -/
def decV (s : Bs) (i : Nat) : Int × Int := match numR (s.drop i) with
  | (_, _, false) => (0, -1)
  | (n, t, true) => (n, (s.length : Int) - t.length)
theorem drop_getD {s : Bs} {i k : Nat} : (s.drop i).getD k 0 = s.getD (i + k) 0 := by
  simp [List.getD_eq_getElem?_getD, List.getElem?_drop]
theorem decV_none {s : Bs} {i : Nat} (h : ∀ k, i ≤ k → k < s.length → s.getD k 0 ≠ 32) : decV s i = (0, -1) := by
  have hf : (s.drop i).findIdx? (· == 32) = none := by
    rw [List.findIdx?_eq_none_iff]
    intro x hx
    obtain ⟨k, hk, rfl⟩ := List.getElem_of_mem hx
    have hl : i + k < s.length := by rw [List.length_drop] at hk; omega
    have := h (i + k) (by omega) hl
    simp [List.getD_eq_getElem?_getD] at this
    simp [hl] at this
    simpa using this
  rw [decV, numR, hf]
theorem decV_at {s : Bs} {i j : Nat} (h1 : i ≤ j) (h2 : j < s.length) (h3 : ∀ k, i ≤ k → k < j → s.getD k 0 ≠ 32) (h4 : s.getD j 0 = 32) :
    decV s i = if rdI ((s.drop i).take (j - i)) < 0 then (0, -1) else (rdI ((s.drop i).take (j - i)), (j : Int) + 1) := by
  have hf : (s.drop i).findIdx? (· == 32) = some (j - i) := by
    rw [List.findIdx?_eq_some_iff_getElem]
    refine ⟨by rw [List.length_drop]; omega, ?_, fun k hk => ?_⟩
    · have e : s[i + (j - i)]? = s[j]? := by congr 1; omega
      simp [List.getD_eq_getElem?_getD] at h4
      simp [h2] at h4
      have e1 : i + (j - i) = j := by omega
      simp [e1, h4]
    · have := h3 (i + k) (by omega) (by omega)
      simp [List.getD_eq_getElem?_getD] at this
      have hl : i + k < s.length := by omega
      simp [hl] at this
      simpa using this
  rw [decV, numR, hf]
  dsimp only
  unfold rdI
  cases readDec ((s.drop i).take (j - i)) with
  | none => rfl
  | some n =>
    dsimp only
    rw [if_neg (by omega), List.length_drop, List.length_drop]
    congr 1
    omega
theorem decV_ex (s : Bs) (i0 : Nat) (h0 : i0 ≤ s.length) : ∃ n i : Int, decV s i0 = (n, i) ∧ ((i = -1 ∧ n = 0 ∧ ∃ k t, numR (s.drop i0) = (k, t, false)) ∨
    ∃ k i' : Nat, n = k ∧ i = i' ∧ i0 < i' ∧ i' ≤ s.length ∧ k ≤ 1073741824 ∧ numR (s.drop i0) = (k, s.drop i', true)) := by
  cases e : numR (s.drop i0) with
  | mk k q =>
    obtain ⟨t, ok⟩ := q
    cases ok with
    | false => exact ⟨0, -1, by rw [decV, e], .inl ⟨rfl, rfl, k, t, rfl⟩⟩
    | true =>
      refine ⟨k, (s.length : Int) - t.length, by rw [decV, e], .inr ⟨k, s.length - t.length, rfl, ?_⟩⟩
      rw [numR] at e
      split at e
      · cases e
      · rename_i j hj
        have hlt := (List.findIdx?_eq_some_iff_getElem.1 hj).1
        rw [List.length_drop] at hlt
        split at e
        · cases e
        · rename_i m hm
          simp only [Prod.mk.injEq, and_true] at e
          obtain ⟨rfl, rfl⟩ := e
          simp only [List.drop_drop, List.length_drop]
          have e1 : s.length - (s.length - (i0 + (j + 1))) = i0 + (j + 1) := by omega
          refine ⟨by omega, by omega, by omega, readDec_le hm, ?_⟩
          rw [e1]
theorem ref5_dec_sp (s : List UInt8) (at_ : Nat) (ha : at_ ≤ s.length) (hs : s.length ≤ 140737488355328) : SpF Try.prog 44 [vS s, vI at_] (.tuple #[vI (decV s at_).1, vI (decV s at_).2]) := by
  refine Sp.body (n := 35) Try.call44 Try.func44 rfl rfl rfl ?_
  refine p_seq rfl ?_
  refine p_region rfl ?_
  refine wo_pv (pv_assign rfl) rfl ?_
  refine wo_pv (pv_assign rfl) rfl ?_
  refine q_seq ?_
  refine p_seq rfl ?_
  refine p_region rfl ?_
  refine wo_pv (pv_move rfl) rfl ?_
  refine wo_pv (pv_assign rfl) rfl ?_
  refine q_seq ?_
  refine p_seq rfl ?_
  refine p_block 0 rfl ?_
  refine p_loop (fun (i : { j : Nat // at_ ≤ j ∧ j ≤ s.length ∧ ∀ k, at_ ≤ k → k < j → s.getD k 0 ≠ 32 }) => [(0, vS s), (1, vI at_), (6, vI i.1)]) (fun (i : { j : Nat // at_ ≤ j ∧ j ≤ s.length ∧ ∀ k, at_ ≤ k → k < j → s.getD k 0 ≠ 32 }) => []) (fun (i : { j : Nat // at_ ≤ j ∧ j ≤ s.length ∧ ∀ k, at_ ≤ k → k < j → s.getD k 0 ≠ 32 }) => s.length - i.1) rfl (⟨at_, Nat.le_refl _, ha, fun k h1 h2 => by omega⟩) ?_ ?_ (fun i => ?_)
  · exact ⟨rfl, rfl, rfl, trivial⟩
  · -- H at start
    exact ent_pick
  obtain ⟨j, hj1, hj2, hj3⟩ := i
  try dsimp only
  refine p_seq rfl ?_
  refine p_seq rfl ?_
  refine p_region rfl ?_
  refine wo_pv (pv_move rfl) rfl ?_
  refine wo_pv (pv_move rfl) rfl ?_
  refine wo_pv (pv_call_len_s Try.underlying9 rfl) rfl ?_
  refine wo_pv (pv_lss rfl rfl) rfl ?_
  refine wo_pv (pv_move rfl) rfl ?_
  first | refine wo_gite (j := 4) rfl rfl (fun h13 => ?_) (fun h13 => ?_) | refine wo_gsplit (j := 4) rfl rfl (fun h13 => ?_) (fun h13 => ?_)
  · -- t13 True
    refine wo_in (b := true) rfl ?_
    refine wo_pv (pv_move rfl) rfl ?_
    refine wo_in (b := true) rfl ?_
    refine wo_pv (pv_move rfl) rfl ?_
    refine wo_in (b := true) rfl ?_
    refine wo_pv (pv_indexm Try.underlying9 rfl rfl rfl (by omega)) rfl ?_
    refine wo_in (b := true) rfl ?_
    refine wo_pv (pv_neq rfl rfl) rfl ?_
    refine wo_pv (pv_pick_t rfl rfl) rfl ?_
    refine q_seq ?_
    first | refine p_ite rfl rfl (fun h18 => ?_) (fun h18 => ?_) | refine p_cond rfl rfl (fun h18 => ?_) (fun h18 => ?_)
    · -- t18 True
      refine p_skip rfl ?_
      refine t_seq ?_
      refine p_block 1 rfl ?_
      refine p_region rfl ?_
      refine wo_pv (pv_move rfl) rfl ?_
      refine wo_pv (pv_add rfl rfl (by omega)) rfl ?_
      refine wo_pv (pv_assign rfl) rfl ?_
      refine wo_nil ?_
      refine to_block ?_
      refine to_inv ⟨j + 1, by omega, by omega, fun k h1 h2 => ?_⟩ (by dsimp only; omega) ⟨rfl, rfl, rfl, trivial⟩ ent_nil
      by_cases hk : k = j
      · subst hk
        intro e; apply h18; rw [e]; rfl
      · exact hj3 k h1 (by omega)
    · -- t18 False
      refine p_exit 0 rfl ?_
      refine t_seq_exit ?_
      refine to_inv_exit ?_
      refine to_block_here ?_
      refine t_seq ?_
      refine p_seq rfl ?_
      refine p_seq rfl ?_
      refine p_region rfl ?_
      refine wo_pv (pv_move rfl) rfl ?_
      refine wo_pv (pv_move rfl) rfl ?_
      refine wo_pv (pv_call_len_s Try.underlying9 rfl) rfl ?_
      refine wo_pv (pv_geq rfl rfl) rfl ?_
      refine q_seq ?_
      first | refine p_ite rfl rfl (fun h24 => ?_) (fun h24 => ?_) | refine p_cond rfl rfl (fun h24 => ?_) (fun h24 => ?_)
      · -- t24 True
        refine p_seq rfl ?_
        refine p_region rfl ?_
        refine wo_pv (pv_assign rfl) rfl ?_
        refine wo_pv (pv_assign rfl) rfl ?_
        refine q_seq ?_
        refine p_ret rfl ?_
        refine t_seq_ret ?_
        have hn : decV s at_ = (0, -1) := decV_none (fun k h1 h2 => hj3 k h1 (by omega))
        refine fin_ret () (vs := [_, _]) rfl (.tmp rfl (.tmp rfl .nil)) (by rw [hn]; rfl) trivial ent_nil
      · -- t24 False
        refine p_skip rfl ?_
        refine t_seq ?_
        refine p_seq rfl ?_
        refine p_region rfl ?_
        refine wo_pv (pv_move rfl) rfl ?_
        refine wo_pv (pv_move rfl) rfl ?_
        refine wo_pv (pv_move rfl) rfl ?_
        refine wo_pv (pv_slice_inm (m := at_) (o := j) Try.underlying9 rfl rfl rfl rfl rfl (by omega) (by omega)) rfl ?_
        refine r_callF (ref1_ReadDec_sp ((s.drop at_).take (j - at_)) (by rw [List.length_take, List.length_drop]; omega)) rfl rfl rfl ?_
        refine wo_pv (pv_assign rfl) rfl ?_
        refine q_seq ?_
        refine p_seq rfl ?_
        refine p_seq rfl ?_
        refine p_region rfl ?_
        refine wo_pv (pv_move rfl) rfl ?_
        refine wo_pv (pv_lss rfl rfl) rfl ?_
        refine q_seq ?_
        first | refine p_ite rfl rfl (fun h31 => ?_) (fun h31 => ?_) | refine p_cond rfl rfl (fun h31 => ?_) (fun h31 => ?_)
        · -- t31 True
          refine p_seq rfl ?_
          refine p_region rfl ?_
          refine wo_pv (pv_assign rfl) rfl ?_
          refine wo_pv (pv_assign rfl) rfl ?_
          refine q_seq ?_
          refine p_ret rfl ?_
          refine t_seq_ret ?_
          have hb : s.getD j 0 = 32 := UInt8.toNat_inj.1 (by simp only [UInt8.reduceToNat]; omega)
          have hn := decV_at hj1 (by omega) hj3 hb
          rw [if_pos h31] at hn
          refine fin_ret () (vs := [_, _]) rfl (.tmp rfl (.tmp rfl .nil)) (by rw [hn]; rfl) trivial ent_nil
        · -- t31 False
          refine p_skip rfl ?_
          refine t_seq ?_
          refine p_seq rfl ?_
          refine p_region rfl ?_
          refine wo_pv (pv_move rfl) rfl ?_
          refine wo_pv (pv_move rfl) rfl ?_
          refine wo_pv (pv_add rfl rfl (by omega)) rfl ?_
          refine wo_pv (pv_assign rfl) rfl ?_
          refine wo_pv (pv_assign rfl) rfl ?_
          refine q_seq ?_
          refine p_ret rfl ?_
          have hb : s.getD j 0 = 32 := UInt8.toNat_inj.1 (by simp only [UInt8.reduceToNat]; omega)
          have hn := decV_at hj1 (by omega) hj3 hb
          rw [if_neg h31] at hn
          refine fin_ret () (vs := [_, _]) rfl (.tmp rfl (.tmp rfl .nil)) (by rw [hn]; rfl) trivial ent_nil
  · -- t13 False
    refine wo_out (b := false) rfl rfl rfl ?_
    refine wo_out (b := false) rfl rfl rfl ?_
    refine wo_out (b := false) rfl rfl rfl ?_
    refine wo_out (b := false) rfl rfl rfl ?_
    refine wo_pv (pv_pick_f rfl rfl) rfl ?_
    refine q_seq ?_
    refine p_false rfl rfl ?_
    refine p_exit 0 rfl ?_
    refine t_seq_exit ?_
    refine to_inv_exit ?_
    refine to_block_here ?_
    refine t_seq ?_
    refine p_seq rfl ?_
    refine p_seq rfl ?_
    refine p_region rfl ?_
    refine wo_pv (pv_move rfl) rfl ?_
    refine wo_pv (pv_move rfl) rfl ?_
    refine wo_pv (pv_call_len_s Try.underlying9 rfl) rfl ?_
    refine wo_pv (pv_geq rfl rfl) rfl ?_
    refine q_seq ?_
    first | refine p_ite rfl rfl (fun h24 => ?_) (fun h24 => ?_) | refine p_cond rfl rfl (fun h24 => ?_) (fun h24 => ?_)
    · -- t24 True
      refine p_seq rfl ?_
      refine p_region rfl ?_
      refine wo_pv (pv_assign rfl) rfl ?_
      refine wo_pv (pv_assign rfl) rfl ?_
      refine q_seq ?_
      refine p_ret rfl ?_
      refine t_seq_ret ?_
      have hn : decV s at_ = (0, -1) := decV_none (fun k h1 h2 => hj3 k h1 (by omega))
      refine fin_ret () (vs := [_, _]) rfl (.tmp rfl (.tmp rfl .nil)) (by rw [hn]; rfl) trivial ent_nil
    · -- t24 False
      refine p_skip rfl ?_
      refine t_seq ?_
      refine p_seq rfl ?_
      refine p_region rfl ?_
      refine wo_pv (pv_move rfl) rfl ?_
      refine wo_pv (pv_move rfl) rfl ?_
      refine wo_pv (pv_move rfl) rfl ?_
      refine wo_pv (pv_slice_inm (m := at_) (o := j) Try.underlying9 rfl rfl rfl rfl rfl (by omega) (by omega)) rfl ?_
      refine r_callF (ref1_ReadDec_sp ((s.drop at_).take (j - at_)) (by rw [List.length_take, List.length_drop]; omega)) rfl rfl rfl ?_
      refine wo_pv (pv_assign rfl) rfl ?_
      refine q_seq ?_
      refine p_seq rfl ?_
      refine p_seq rfl ?_
      refine p_region rfl ?_
      refine wo_pv (pv_move rfl) rfl ?_
      refine wo_pv (pv_lss rfl rfl) rfl ?_
      refine q_seq ?_
      first | refine p_ite rfl rfl (fun h31 => ?_) (fun h31 => ?_) | refine p_cond rfl rfl (fun h31 => ?_) (fun h31 => ?_)
      · -- t31 True
        refine p_seq rfl ?_
        refine p_region rfl ?_
        refine wo_pv (pv_assign rfl) rfl ?_
        refine wo_pv (pv_assign rfl) rfl ?_
        refine q_seq ?_
        refine p_ret rfl ?_
        refine t_seq_ret ?_
        have hb : s.getD j 0 = 32 := UInt8.toNat_inj.1 (by simp only [UInt8.reduceToNat]; omega)
        have hn := decV_at hj1 (by omega) hj3 hb
        rw [if_pos h31] at hn
        refine fin_ret () (vs := [_, _]) rfl (.tmp rfl (.tmp rfl .nil)) (by rw [hn]; rfl) trivial ent_nil
      · -- t31 False
        refine p_skip rfl ?_
        refine t_seq ?_
        refine p_seq rfl ?_
        refine p_region rfl ?_
        refine wo_pv (pv_move rfl) rfl ?_
        refine wo_pv (pv_move rfl) rfl ?_
        refine wo_pv (pv_add rfl rfl (by omega)) rfl ?_
        refine wo_pv (pv_assign rfl) rfl ?_
        refine wo_pv (pv_assign rfl) rfl ?_
        refine q_seq ?_
        refine p_ret rfl ?_
        have hb : s.getD j 0 = 32 := UInt8.toNat_inj.1 (by simp only [UInt8.reduceToNat]; omega)
        have hn := decV_at hj1 (by omega) hj3 hb
        rw [if_neg h31] at hn
        refine fin_ret () (vs := [_, _]) rfl (.tmp rfl (.tmp rfl .nil)) (by rw [hn]; rfl) trivial ent_nil
end Go.Proofs.Ytimafngkifakfaa

/- The document's own reading of rows, all of them. -/
set_option maxRecDepth 100000
namespace Go.Proofs.Ytimafngkifakfaa
theorem rowR_bad {s t : Bs} {k : Nat} {ok : Bool} (h : numR s = (k, t, ok)) (hb : ok = false ∨ t = [] ∨ k < 1 ∨ 60 < k) : rowR s = none := by
  cases e : numR t with
  | mk v q =>
    obtain ⟨s2, ok2⟩ := q
    rw [rowR_eq h e]
    by_cases h1 : ok = false ∨ k < 1 ∨ 60 < k
    · rw [if_pos h1]
    · rw [if_neg h1]
      have ht : t = [] := by rcases hb with h | h | h | h <;> simp_all
      subst ht
      have : ok2 = false := by simp [numR] at e; first | exact e.2.2 | exact e.2.2.symm
      subst this
      simp
theorem rowR_dash {s t : Bs} {k : Nat} (h : numR s = (k, t, true)) (h1 : 1 ≤ k) (h2 : k ≤ 60) (hd : t.take 1 = [45]) : rowR s = if (t.drop 1).length < k then none else some (⟨(t.drop 1).take k, [], true⟩, (t.drop 1).drop k) := by
  cases e : numR t with
  | mk v q =>
    obtain ⟨s2, ok2⟩ := q
    rw [rowR_eq h e, if_neg (by rintro (e | e | e) <;> first | omega | cases e), if_pos hd]
theorem rowR_two {s t s2 : Bs} {k v : Nat} {ok2 : Bool} (h : numR s = (k, t, true)) (h1 : 1 ≤ k) (h2 : k ≤ 60) (hd : ¬ t.take 1 = [45]) (e : numR t = (v, s2, ok2)) :
    rowR s = if ok2 = false ∨ s2.length < k ∨ s2.length - k < v then none else some (⟨s2.take k, (s2.drop k).take v, false⟩, s2.drop (k + v)) := by
  rw [rowR_eq h e, if_neg (by rintro (e | e | e) <;> first | omega | cases e), if_neg hd]
theorem take1_iff {s : Bs} {i : Nat} (h : i < s.length) : (s.drop i).take 1 = [45] ↔ (s.getD i 0).toNat = 45 := by
  rw [List.drop_eq_getElem_cons h]
  simp only [List.take_succ_cons, List.take_zero, List.cons.injEq, and_true]
  have e : s.getD i 0 = s[i] := by simp [h]
  rw [e]
  constructor
  · intro x; rw [x]; rfl
  · intro x; exact UInt8.toNat_inj.1 (by simpa using x)
theorem ref5_ReadRows_sp (s : List UInt8) (h : s.length ≤ 1099511627776) : Sp Try.prog 18 [vS s] [] (X := Option Addr × Nat) (fun x => .tuple #[.slice x.1 ((readR s).getD []).length x.2, vB (readR s).isSome]) (fun _ => True)
    (fun x => [Row 29 3 (.slice x.1 ((readR s).getD []).length x.2) ((readR s).getD []).length (((readR s).getD []).flatMap rowC)]) := by
  refine Sp.body (n := 115) Try.call18 Try.func18 rfl rfl rfl ?_
  refine p_seq rfl ?_
  refine p_region rfl ?_
  refine wo_pv (pv_assign rfl) rfl ?_
  refine wo_pv (pv_assign rfl) rfl ?_
  refine q_seq ?_
  refine p_seq rfl ?_
  refine p_region rfl ?_
  refine wo_pv (pv_assign rfl) rfl ?_
  refine q_seq ?_
  refine p_seq rfl ?_
  refine p_region rfl ?_
  refine wo_pv (pv_assign rfl) rfl ?_
  refine q_seq ?_
  refine p_seq rfl ?_
  refine p_block 0 rfl ?_
  refine p_loop (fun (i : { p : (Option Addr × Nat) × List Rw × Nat // readR s = (readR (s.drop p.2.2)).map (p.2.1 ++ ·) ∧ p.2.1.length ≤ p.2.2 ∧ p.2.2 ≤ s.length }) => [(0, vS s), (4, .slice i.1.1.1 i.1.2.1.length i.1.1.2), (5, vI i.1.2.2)]) (fun (i : { p : (Option Addr × Nat) × List Rw × Nat // readR s = (readR (s.drop p.2.2)).map (p.2.1 ++ ·) ∧ p.2.1.length ≤ p.2.2 ∧ p.2.2 ≤ s.length }) => [Row 29 3 (.slice i.1.1.1 i.1.2.1.length i.1.1.2) i.1.2.1.length (i.1.2.1.flatMap rowC)]) (fun (i : { p : (Option Addr × Nat) × List Rw × Nat // readR s = (readR (s.drop p.2.2)).map (p.2.1 ++ ·) ∧ p.2.1.length ≤ p.2.2 ∧ p.2.2 ≤ s.length }) => s.length - i.1.2.2) rfl (⟨((none, 0), [], 0), by cases e : readR s <;> simp [e], by simp, by simp⟩) ?_ ?_ (fun i => ?_)
  · exact ⟨rfl, rfl, rfl, trivial⟩
  · -- H at start
    exact row_nil
  obtain ⟨⟨⟨a, c⟩, out, j⟩, hi, hl, hj⟩ := i
  dsimp only at hi hl hj
  try dsimp only
  refine p_seq rfl ?_
  refine p_seq rfl ?_
  refine p_region rfl ?_
  refine wo_pv (pv_move rfl) rfl ?_
  refine wo_pv (pv_move rfl) rfl ?_
  refine wo_pv (pv_call_len_s Try.underlying9 rfl) rfl ?_
  refine wo_pv (pv_lss rfl rfl) rfl ?_
  refine q_seq ?_
  first | refine p_ite rfl rfl (fun h13 => ?_) (fun h13 => ?_) | refine p_cond rfl rfl (fun h13 => ?_) (fun h13 => ?_)
  · -- t13 True
    refine p_skip rfl ?_
    refine t_seq ?_
    refine p_block 1 rfl ?_
    refine p_seq rfl ?_
    have hjl : j < s.length := by omega
    have hne : s.drop j ≠ [] := by intro e; have := congrArg List.length e; rw [List.length_drop, List.length_nil] at this; omega
    obtain ⟨n1, i1, hd1, hf1⟩ := decV_ex s j hj
    have hcd1 := ref5_dec_sp s j hj (by omega)
    rw [hd1] at hcd1
    dsimp only at hcd1
    refine p_region rfl ?_
    refine wo_pv (pv_move rfl) rfl ?_
    refine wo_pv (pv_move rfl) rfl ?_
    refine r_callF hcd1 rfl rfl rfl ?_
    refine wo_pv (pv_move rfl) rfl ?_
    refine wo_pv (pv_extract rfl rfl) rfl ?_
    refine wo_pv (pv_extract rfl rfl) rfl ?_
    refine wo_pv (pv_assign rfl) rfl ?_
    refine wo_pv (pv_assign rfl) rfl ?_
    refine q_seq ?_
    refine p_seq rfl ?_
    refine p_seq rfl ?_
    refine p_region rfl ?_
    refine wo_pv (pv_move rfl) rfl ?_
    refine wo_pv (pv_lss rfl rfl) rfl ?_
    refine wo_pv (pv_move rfl) rfl ?_
    first | refine wo_gite (j := 2) rfl rfl (fun h22 => ?_) (fun h22 => ?_) | refine wo_gsplit (j := 2) rfl rfl (fun h22 => ?_) (fun h22 => ?_)
    · -- t22 True
      refine wo_out (b := true) rfl rfl rfl ?_
      refine wo_out (b := true) rfl rfl rfl ?_
      refine wo_out (b := true) rfl rfl rfl ?_
      refine wo_out (b := true) rfl rfl rfl ?_
      refine wo_pv (pv_pick_t rfl rfl) rfl ?_
      refine wo_pv (pv_move rfl) rfl ?_
      refine wo_out (b := true) rfl rfl rfl ?_
      refine wo_out (b := true) rfl rfl rfl ?_
      refine wo_pv (pv_pick_t rfl rfl) rfl ?_
      refine wo_pv (pv_move rfl) rfl ?_
      refine wo_out (b := true) rfl rfl rfl ?_
      refine wo_out (b := true) rfl rfl rfl ?_
      refine wo_pv (pv_pick_t rfl rfl) rfl ?_
      refine q_seq ?_
      refine p_true rfl rfl ?_
      refine p_seq rfl ?_
      refine p_region rfl ?_
      refine wo_pv (pv_assign rfl) rfl ?_
      refine wo_pv (pv_assign rfl) rfl ?_
      refine q_seq ?_
      refine p_ret rfl ?_
      refine t_seq_ret ?_
      refine to_block_ret ?_
      refine to_inv_ret ?_
      refine to_block_ret ?_
      refine t_seq_ret ?_
      have hn : rowR (s.drop j) = none := by
        rcases hf1 with ⟨e1, _, k, t, g⟩ | ⟨k, i, rfl, rfl, g1, g2, g3, g4⟩
        · exact rowR_bad g (.inl rfl)
        · refine rowR_bad g4 (.inr ?_)
          first
          | omega
          | exact .inl (List.drop_eq_nil_of_le (by omega))
          | exact .inr (by omega)
      have hn2 : readR s = none := by rw [hi, readR_none hne hn]; rfl
      rw [hn2]
      refine fin_ret (none, 0) (vs := [_, _]) (Cs := []) rfl (.tmp rfl (.tmp rfl .nil)) rfl trivial ?_
      exact ent_step row_nil ent_nil
    · -- t22 False
      refine wo_in (b := false) rfl ?_
      refine wo_pv (pv_move rfl) rfl ?_
      refine wo_in (b := false) rfl ?_
      refine wo_pv (pv_move rfl) rfl ?_
      refine wo_in (b := false) rfl ?_
      refine wo_pv (pv_call_len_s Try.underlying9 rfl) rfl ?_
      refine wo_in (b := false) rfl ?_
      refine wo_pv (pv_geq rfl rfl) rfl ?_
      refine wo_pv (pv_pick_f rfl rfl) rfl ?_
      refine wo_pv (pv_move rfl) rfl ?_
      first | refine wo_gite (j := 8) rfl rfl (fun h28 => ?_) (fun h28 => ?_) | refine wo_gsplit (j := 8) rfl rfl (fun h28 => ?_) (fun h28 => ?_)
      · -- t28 True
        refine wo_out (b := true) rfl rfl rfl ?_
        refine wo_out (b := true) rfl rfl rfl ?_
        refine wo_pv (pv_pick_t rfl rfl) rfl ?_
        refine wo_pv (pv_move rfl) rfl ?_
        refine wo_out (b := true) rfl rfl rfl ?_
        refine wo_out (b := true) rfl rfl rfl ?_
        refine wo_pv (pv_pick_t rfl rfl) rfl ?_
        refine q_seq ?_
        refine p_true rfl rfl ?_
        refine p_seq rfl ?_
        refine p_region rfl ?_
        refine wo_pv (pv_assign rfl) rfl ?_
        refine wo_pv (pv_assign rfl) rfl ?_
        refine q_seq ?_
        refine p_ret rfl ?_
        refine t_seq_ret ?_
        refine to_block_ret ?_
        refine to_inv_ret ?_
        refine to_block_ret ?_
        refine t_seq_ret ?_
        have hn : rowR (s.drop j) = none := by
          rcases hf1 with ⟨e1, _, k, t, g⟩ | ⟨k, i, rfl, rfl, g1, g2, g3, g4⟩
          · exact rowR_bad g (.inl rfl)
          · refine rowR_bad g4 (.inr ?_)
            first
            | omega
            | exact .inl (List.drop_eq_nil_of_le (by omega))
            | exact .inr (by omega)
        have hn2 : readR s = none := by rw [hi, readR_none hne hn]; rfl
        rw [hn2]
        refine fin_ret (none, 0) (vs := [_, _]) (Cs := []) rfl (.tmp rfl (.tmp rfl .nil)) rfl trivial ?_
        exact ent_step row_nil ent_nil
      · -- t28 False
        refine wo_in (b := false) rfl ?_
        refine wo_pv (pv_move rfl) rfl ?_
        refine wo_in (b := false) rfl ?_
        refine wo_pv (pv_lss rfl rfl) rfl ?_
        refine wo_pv (pv_pick_f rfl rfl) rfl ?_
        refine wo_pv (pv_move rfl) rfl ?_
        first | refine wo_gite (j := 12) rfl rfl (fun h32 => ?_) (fun h32 => ?_) | refine wo_gsplit (j := 12) rfl rfl (fun h32 => ?_) (fun h32 => ?_)
        · -- t32 True
          refine wo_out (b := true) rfl rfl rfl ?_
          refine wo_out (b := true) rfl rfl rfl ?_
          refine wo_pv (pv_pick_t rfl rfl) rfl ?_
          refine q_seq ?_
          refine p_true rfl rfl ?_
          refine p_seq rfl ?_
          refine p_region rfl ?_
          refine wo_pv (pv_assign rfl) rfl ?_
          refine wo_pv (pv_assign rfl) rfl ?_
          refine q_seq ?_
          refine p_ret rfl ?_
          refine t_seq_ret ?_
          refine to_block_ret ?_
          refine to_inv_ret ?_
          refine to_block_ret ?_
          refine t_seq_ret ?_
          have hn : rowR (s.drop j) = none := by
            rcases hf1 with ⟨e1, _, k, t, g⟩ | ⟨k, i, rfl, rfl, g1, g2, g3, g4⟩
            · exact rowR_bad g (.inl rfl)
            · refine rowR_bad g4 (.inr ?_)
              first
              | omega
              | exact .inl (List.drop_eq_nil_of_le (by omega))
              | exact .inr (by omega)
          have hn2 : readR s = none := by rw [hi, readR_none hne hn]; rfl
          rw [hn2]
          refine fin_ret (none, 0) (vs := [_, _]) (Cs := []) rfl (.tmp rfl (.tmp rfl .nil)) rfl trivial ?_
          exact ent_step row_nil ent_nil
        · -- t32 False
          refine wo_in (b := false) rfl ?_
          refine wo_pv (pv_move rfl) rfl ?_
          refine wo_in (b := false) rfl ?_
          refine wo_pv (pv_gtr rfl rfl) rfl ?_
          refine wo_pv (pv_pick_f rfl rfl) rfl ?_
          refine q_seq ?_
          first | refine p_ite rfl rfl (fun h35 => ?_) (fun h35 => ?_) | refine p_cond rfl rfl (fun h35 => ?_) (fun h35 => ?_)
          · -- t35 True
            refine p_seq rfl ?_
            refine p_region rfl ?_
            refine wo_pv (pv_assign rfl) rfl ?_
            refine wo_pv (pv_assign rfl) rfl ?_
            refine q_seq ?_
            refine p_ret rfl ?_
            refine t_seq_ret ?_
            refine to_block_ret ?_
            refine to_inv_ret ?_
            refine to_block_ret ?_
            refine t_seq_ret ?_
            have hn : rowR (s.drop j) = none := by
              rcases hf1 with ⟨e1, _, k, t, g⟩ | ⟨k, i, rfl, rfl, g1, g2, g3, g4⟩
              · exact rowR_bad g (.inl rfl)
              · refine rowR_bad g4 (.inr ?_)
                first
                | omega
                | exact .inl (List.drop_eq_nil_of_le (by omega))
                | exact .inr (by omega)
            have hn2 : readR s = none := by rw [hi, readR_none hne hn]; rfl
            rw [hn2]
            refine fin_ret (none, 0) (vs := [_, _]) (Cs := []) rfl (.tmp rfl (.tmp rfl .nil)) rfl trivial ?_
            exact ent_step row_nil ent_nil
          · -- t35 False
            rcases hf1 with ⟨e1, _⟩ | ⟨k, i, rfl, rfl, g1, g2, g3, g4⟩
            · omega
            have hil : i < s.length := by omega
            have hk1 : 1 ≤ k := by omega
            have hk2 : k ≤ 60 := by omega
            have ht1 := take1_iff hil
            obtain ⟨n2, i2, hd2, hf2⟩ := decV_ex s i g2
            have hb2 : -1 ≤ i2 ∧ i2 ≤ s.length ∧ 0 ≤ n2 ∧ n2 ≤ 1073741824 := by rcases hf2 with ⟨e, _⟩ | ⟨k', i', _, e, _, g, _⟩ <;> omega
            have hcd2 := ref5_dec_sp s i g2 (by omega)
            rw [hd2] at hcd2
            dsimp only at hcd2
            refine p_skip rfl ?_
            refine t_seq ?_
            refine p_seq rfl ?_
            refine p_seq rfl ?_
            refine p_region rfl ?_
            refine wo_pv (pv_move rfl) rfl ?_
            refine wo_pv (pv_move rfl) rfl ?_
            refine wo_pv (pv_indexm Try.underlying9 rfl rfl rfl (by omega)) rfl ?_
            refine wo_pv (pv_eql rfl rfl) rfl ?_
            refine q_seq ?_
            first | refine p_ite rfl rfl (fun h39 => ?_) (fun h39 => ?_) | refine p_cond rfl rfl (fun h39 => ?_) (fun h39 => ?_)
            · -- t39 True
              have hdash : (s.drop i).take 1 = [45] := ht1.2 (by omega)
              have hrow := rowR_dash g4 hk1 hk2 hdash
              rw [List.length_drop, List.length_drop] at hrow
              refine p_seq rfl ?_
              refine p_seq rfl ?_
              refine p_region rfl ?_
              refine wo_pv (pv_move rfl) rfl ?_
              refine wo_pv (pv_move rfl) rfl ?_
              refine wo_pv (pv_call_len_s Try.underlying9 rfl) rfl ?_
              refine wo_pv (pv_move rfl) rfl ?_
              refine wo_pv (pv_sub rfl rfl (by omega)) rfl ?_
              refine wo_pv (pv_sub rfl rfl (by omega)) rfl ?_
              refine wo_pv (pv_gtr rfl rfl) rfl ?_
              refine q_seq ?_
              first | refine p_ite rfl rfl (fun h46 => ?_) (fun h46 => ?_) | refine p_cond rfl rfl (fun h46 => ?_) (fun h46 => ?_)
              · -- t46 True
                refine p_seq rfl ?_
                refine p_region rfl ?_
                refine wo_pv (pv_assign rfl) rfl ?_
                refine wo_pv (pv_assign rfl) rfl ?_
                refine q_seq ?_
                refine p_ret rfl ?_
                refine t_seq_ret ?_
                refine t_seq_ret ?_
                refine to_block_ret ?_
                refine to_inv_ret ?_
                refine to_block_ret ?_
                refine t_seq_ret ?_
                rw [if_pos (by omega)] at hrow
                have hn2 : readR s = none := by rw [hi, readR_none hne hrow]; rfl
                rw [hn2]
                refine fin_ret (none, 0) (vs := [_, _]) (Cs := []) rfl (.tmp rfl (.tmp rfl .nil)) rfl trivial ?_
                exact ent_step row_nil ent_nil
              · -- t46 False
                rw [if_neg (by omega)] at hrow
                refine p_skip rfl ?_
                refine t_seq ?_
                refine p_seq rfl ?_
                refine p_region rfl ?_
                refine wo_pv (pv_move rfl) rfl ?_
                refine wo_pv (pv_move rfl) rfl ?_
                refine wo_pv (pv_move rfl) rfl ?_
                refine wo_pv (pv_add rfl rfl (by omega)) rfl ?_
                refine wo_pv (pv_move rfl) rfl ?_
                refine wo_pv (pv_add rfl rfl (by omega)) rfl ?_
                refine wo_pv (pv_move rfl) rfl ?_
                refine wo_pv (pv_add rfl rfl (by omega)) rfl ?_
                refine wo_pv (pv_slice_inm (m := i + 1) (o := i + 1 + k) Try.underlying9 rfl rfl rfl rfl rfl (by omega) (by omega)) rfl ?_
                refine wo_pv (pv_buildS (vs := [_, vS [], _]) Try.underlying29 ti29 rfl rfl rfl rfl rfl) rfl ?_
                refine r_buildSliceL [_] (cs := [_, _, _]) Try.underlying38 ti29 rfl rfl rfl rfl rfl rfl rfl rfl (fun b57 => ?_)
                refine r_append1 (sz := 3) (bytes := 40) Try.underlying38 ti29 rfl rfl rfl rfl rfl rfl rfl (by rfl) (by rfl) (by omega) (by simp only [maxLen]; omega) rfl (fun a58 c58 => ?_)
                refine wo_pv (pv_assign rfl) rfl ?_
                refine q_seq ?_
                refine p_seq rfl ?_
                refine p_region rfl ?_
                refine wo_pv (pv_move rfl) rfl ?_
                refine wo_pv (pv_add rfl rfl (by omega)) rfl ?_
                refine wo_pv (pv_move rfl) rfl ?_
                refine wo_pv (pv_add rfl rfl (by omega)) rfl ?_
                refine wo_pv (pv_assign rfl) rfl ?_
                refine q_seq ?_
                refine p_exit 1 rfl ?_
                refine t_seq_exit ?_
                refine to_block_here ?_
                have hq := readR_some hne hrow
                simp only [List.drop_drop] at hq
                first
                | (refine to_inv ⟨((a58, c58), out ++ [⟨(s.drop (i + 1)).take k, [], true⟩], i + 1 + k), ?_, ?_, ?_⟩ ?_ ⟨rfl, sl_eq (by simp), ?_, trivial⟩ ?_
                   · rw [hi, hq]; dsimp only; cases readR (s.drop (i + 1 + k)) <;> simp
                   · dsimp only; rw [List.length_append, List.length_singleton]; omega
                   · dsimp only; omega
                   · dsimp only; omega
                   · exact vI_eq (by dsimp only; omega)
                   · simp only [List.flatMap_append, List.length_append, List.length_singleton]
                     exact row_norm1 (by rfl) (by simp [rowC, List.drop_drop]))
                | (refine to_inv ⟨((a108, c108), out ++ [⟨(s.drop i').take k, (s.drop (i' + k)).take v, false⟩], i' + k + v), ?_, ?_, ?_⟩ ?_ ⟨rfl, sl_eq (by simp), ?_, trivial⟩ ?_
                   · rw [hi, hq]; dsimp only
                     have e : i' + (k + v) = i' + k + v := by omega
                     rw [e]
                     cases readR (s.drop (i' + k + v)) <;> simp
                   · dsimp only; rw [List.length_append, List.length_singleton]; omega
                   · dsimp only; omega
                   · dsimp only; omega
                   · exact vI_eq (by dsimp only; omega)
                   · simp only [List.flatMap_append, List.length_append, List.length_singleton]
                     exact row_norm1 (by rfl) (by simp [rowC]))
            · -- t39 False
              have hdash : ¬ (s.drop i).take 1 = [45] := fun e => h39 (by have := ht1.1 e; omega)
              refine p_skip rfl ?_
              refine t_seq ?_
              refine p_seq rfl ?_
              refine p_region rfl ?_
              refine wo_pv (pv_move rfl) rfl ?_
              refine wo_pv (pv_move rfl) rfl ?_
              refine r_callF hcd2 rfl rfl rfl ?_
              refine wo_pv (pv_move rfl) rfl ?_
              refine wo_pv (pv_extract rfl rfl) rfl ?_
              refine wo_pv (pv_extract rfl rfl) rfl ?_
              refine wo_pv (pv_assign rfl) rfl ?_
              refine wo_pv (pv_assign rfl) rfl ?_
              refine q_seq ?_
              refine p_seq rfl ?_
              refine p_seq rfl ?_
              refine p_region rfl ?_
              refine wo_pv (pv_move rfl) rfl ?_
              refine wo_pv (pv_lss rfl rfl) rfl ?_
              refine wo_pv (pv_move rfl) rfl ?_
              first | refine wo_gite (j := 2) rfl rfl (fun h71 => ?_) (fun h71 => ?_) | refine wo_gsplit (j := 2) rfl rfl (fun h71 => ?_) (fun h71 => ?_)
              · -- t71 True
                refine wo_out (b := true) rfl rfl rfl ?_
                refine wo_out (b := true) rfl rfl rfl ?_
                refine wo_out (b := true) rfl rfl rfl ?_
                refine wo_out (b := true) rfl rfl rfl ?_
                refine wo_out (b := true) rfl rfl rfl ?_
                refine wo_out (b := true) rfl rfl rfl ?_
                refine wo_pv (pv_pick_t rfl rfl) rfl ?_
                refine wo_pv (pv_move rfl) rfl ?_
                refine wo_out (b := true) rfl rfl rfl ?_
                refine wo_out (b := true) rfl rfl rfl ?_
                refine wo_out (b := true) rfl rfl rfl ?_
                refine wo_out (b := true) rfl rfl rfl ?_
                refine wo_out (b := true) rfl rfl rfl ?_
                refine wo_out (b := true) rfl rfl rfl ?_
                refine wo_out (b := true) rfl rfl rfl ?_
                refine wo_out (b := true) rfl rfl rfl ?_
                refine wo_pv (pv_pick_t rfl rfl) rfl ?_
                refine q_seq ?_
                refine p_true rfl rfl ?_
                refine p_seq rfl ?_
                refine p_region rfl ?_
                refine wo_pv (pv_assign rfl) rfl ?_
                refine wo_pv (pv_assign rfl) rfl ?_
                refine q_seq ?_
                refine p_ret rfl ?_
                refine t_seq_ret ?_
                refine to_block_ret ?_
                refine to_inv_ret ?_
                refine to_block_ret ?_
                refine t_seq_ret ?_
                have hn : rowR (s.drop j) = none := by
                  rcases hf2 with ⟨e1, _, v, t, g⟩ | ⟨v, i', rfl, rfl, g5, g6, g7, g8⟩
                  · rw [rowR_two g4 hk1 hk2 hdash g, if_pos (.inl rfl)]
                  · rw [rowR_two g4 hk1 hk2 hdash g8, List.length_drop, if_pos (.inr (by omega))]
                have hn2 : readR s = none := by rw [hi, readR_none hne hn]; rfl
                rw [hn2]
                refine fin_ret (none, 0) (vs := [_, _]) (Cs := []) rfl (.tmp rfl (.tmp rfl .nil)) rfl trivial ?_
                exact ent_step row_nil ent_nil
              · -- t71 False
                refine wo_in (b := false) rfl ?_
                refine wo_pv (pv_move rfl) rfl ?_
                refine wo_in (b := false) rfl ?_
                refine wo_pv (pv_move rfl) rfl ?_
                refine wo_in (b := false) rfl ?_
                refine wo_pv (pv_call_len_s Try.underlying9 rfl) rfl ?_
                refine wo_in (b := false) rfl ?_
                refine wo_pv (pv_move rfl) rfl ?_
                refine wo_in (b := false) rfl ?_
                refine wo_pv (pv_sub rfl rfl (by omega)) rfl ?_
                refine wo_in (b := false) rfl ?_
                refine wo_pv (pv_gtr rfl rfl) rfl ?_
                refine wo_pv (pv_pick_f rfl rfl) rfl ?_
                refine wo_pv (pv_move rfl) rfl ?_
                first | refine wo_gite (j := 10) rfl rfl (fun h79 => ?_) (fun h79 => ?_) | refine wo_gsplit (j := 10) rfl rfl (fun h79 => ?_) (fun h79 => ?_)
                · -- t79 True
                  refine wo_out (b := true) rfl rfl rfl ?_
                  refine wo_out (b := true) rfl rfl rfl ?_
                  refine wo_out (b := true) rfl rfl rfl ?_
                  refine wo_out (b := true) rfl rfl rfl ?_
                  refine wo_out (b := true) rfl rfl rfl ?_
                  refine wo_out (b := true) rfl rfl rfl ?_
                  refine wo_out (b := true) rfl rfl rfl ?_
                  refine wo_out (b := true) rfl rfl rfl ?_
                  refine wo_pv (pv_pick_t rfl rfl) rfl ?_
                  refine q_seq ?_
                  refine p_true rfl rfl ?_
                  refine p_seq rfl ?_
                  refine p_region rfl ?_
                  refine wo_pv (pv_assign rfl) rfl ?_
                  refine wo_pv (pv_assign rfl) rfl ?_
                  refine q_seq ?_
                  refine p_ret rfl ?_
                  refine t_seq_ret ?_
                  refine to_block_ret ?_
                  refine to_inv_ret ?_
                  refine to_block_ret ?_
                  refine t_seq_ret ?_
                  have hn : rowR (s.drop j) = none := by
                    rcases hf2 with ⟨e1, _, v, t, g⟩ | ⟨v, i', rfl, rfl, g5, g6, g7, g8⟩
                    · rw [rowR_two g4 hk1 hk2 hdash g, if_pos (.inl rfl)]
                    · rw [rowR_two g4 hk1 hk2 hdash g8, List.length_drop, if_pos (.inr (by omega))]
                  have hn2 : readR s = none := by rw [hi, readR_none hne hn]; rfl
                  rw [hn2]
                  refine fin_ret (none, 0) (vs := [_, _]) (Cs := []) rfl (.tmp rfl (.tmp rfl .nil)) rfl trivial ?_
                  exact ent_step row_nil ent_nil
                · -- t79 False
                  refine wo_in (b := false) rfl ?_
                  refine wo_pv (pv_move rfl) rfl ?_
                  refine wo_in (b := false) rfl ?_
                  refine wo_pv (pv_move rfl) rfl ?_
                  refine wo_in (b := false) rfl ?_
                  refine wo_pv (pv_call_len_s Try.underlying9 rfl) rfl ?_
                  refine wo_in (b := false) rfl ?_
                  refine wo_pv (pv_move rfl) rfl ?_
                  refine wo_in (b := false) rfl ?_
                  refine wo_pv (pv_sub rfl rfl (by omega)) rfl ?_
                  refine wo_in (b := false) rfl ?_
                  refine wo_pv (pv_move rfl) rfl ?_
                  refine wo_in (b := false) rfl ?_
                  refine wo_pv (pv_sub rfl rfl (by omega)) rfl ?_
                  refine wo_in (b := false) rfl ?_
                  refine wo_pv (pv_gtr rfl rfl) rfl ?_
                  refine wo_pv (pv_pick_f rfl rfl) rfl ?_
                  refine q_seq ?_
                  first | refine p_ite rfl rfl (fun h88 => ?_) (fun h88 => ?_) | refine p_cond rfl rfl (fun h88 => ?_) (fun h88 => ?_)
                  · -- t88 True
                    refine p_seq rfl ?_
                    refine p_region rfl ?_
                    refine wo_pv (pv_assign rfl) rfl ?_
                    refine wo_pv (pv_assign rfl) rfl ?_
                    refine q_seq ?_
                    refine p_ret rfl ?_
                    refine t_seq_ret ?_
                    refine to_block_ret ?_
                    refine to_inv_ret ?_
                    refine to_block_ret ?_
                    refine t_seq_ret ?_
                    have hn : rowR (s.drop j) = none := by
                      rcases hf2 with ⟨e1, _, v, t, g⟩ | ⟨v, i', rfl, rfl, g5, g6, g7, g8⟩
                      · rw [rowR_two g4 hk1 hk2 hdash g, if_pos (.inl rfl)]
                      · rw [rowR_two g4 hk1 hk2 hdash g8, List.length_drop, if_pos (.inr (by omega))]
                    have hn2 : readR s = none := by rw [hi, readR_none hne hn]; rfl
                    rw [hn2]
                    refine fin_ret (none, 0) (vs := [_, _]) (Cs := []) rfl (.tmp rfl (.tmp rfl .nil)) rfl trivial ?_
                    exact ent_step row_nil ent_nil
                  · -- t88 False
                    rcases hf2 with ⟨e1, _⟩ | ⟨v, i', rfl, rfl, g5, g6, g7, g8⟩
                    · omega
                    have hrow := rowR_two g4 hk1 hk2 hdash g8
                    rw [List.length_drop, if_neg (by rintro (e | e) <;> first | omega | cases e)] at hrow
                    refine p_skip rfl ?_
                    refine t_seq ?_
                    refine p_seq rfl ?_
                    refine d_draw rfl rfl rfl [] ?_
                    refine d_first 0 rfl rfl rfl (by kernel_rfl) (by kernel_rfl) (tl_pv (pv_move rfl)) ?_
                    refine d_first 1 rfl rfl rfl (by kernel_rfl) (by kernel_rfl) (tl_pv (pv_move rfl)) ?_
                    refine d_first 2 rfl rfl rfl (by kernel_rfl) (by kernel_rfl) (tl_pv (pv_move rfl)) ?_
                    refine d_first 3 rfl rfl rfl (by kernel_rfl) (by kernel_rfl) (tl_pv (pv_move rfl)) ?_
                    refine d_first 4 rfl rfl rfl (by kernel_rfl) (by kernel_rfl) (tl_pv (pv_move rfl)) ?_
                    refine d_first 5 rfl rfl rfl (by kernel_rfl) (by kernel_rfl) (tl_pv (pv_add rfl rfl (by omega))) ?_
                    refine d_first 6 rfl rfl rfl (by kernel_rfl) (by kernel_rfl) (tl_pv (pv_slice_inm (m := i') (o := i' + k) Try.underlying9 rfl rfl rfl rfl (by omega) (by omega) (by omega))) ?_
                    refine d_first 7 rfl rfl rfl (by kernel_rfl) (by kernel_rfl) (tl_pv (pv_move rfl)) ?_
                    refine d_first 8 rfl rfl rfl (by kernel_rfl) (by kernel_rfl) (tl_pv (pv_move rfl)) ?_
                    refine d_first 9 rfl rfl rfl (by kernel_rfl) (by kernel_rfl) (tl_pv (pv_move rfl)) ?_
                    refine d_first 10 rfl rfl rfl (by kernel_rfl) (by kernel_rfl) (tl_pv (pv_add rfl rfl (by omega))) ?_
                    refine d_first 11 rfl rfl rfl (by kernel_rfl) (by kernel_rfl) (tl_pv (pv_move rfl)) ?_
                    refine d_first 12 rfl rfl rfl (by kernel_rfl) (by kernel_rfl) (tl_pv (pv_move rfl)) ?_
                    refine d_first 13 rfl rfl rfl (by kernel_rfl) (by kernel_rfl) (tl_pv (pv_add rfl rfl (by omega))) ?_
                    refine d_first 14 rfl rfl rfl (by kernel_rfl) (by kernel_rfl) (tl_pv (pv_move rfl)) ?_
                    refine d_first 15 rfl rfl rfl (by kernel_rfl) (by kernel_rfl) (tl_pv (pv_add rfl rfl (by omega))) ?_
                    refine d_first 16 rfl rfl rfl (by kernel_rfl) (by kernel_rfl) (tl_pv (pv_slice_inm (m := i' + k) (o := i' + k + v) Try.underlying9 rfl rfl rfl (by omega) (by omega) (by omega) (by omega))) ?_
                    refine d_first 17 rfl rfl rfl (by kernel_rfl) (by kernel_rfl) (tl_pv (pv_buildS (vs := [_, _, .bool false]) Try.underlying29 ti29 rfl rfl rfl rfl rfl)) ?_
                    refine d_next 18 (by kernel_rfl) rfl ?_
                    refine an_buildSliceL [_] (cs := [_, _, _]) Try.underlying38 ti29 rfl rfl rfl rfl rfl rfl rfl rfl (fun b107 => ?_)
                    refine d_next 19 (by kernel_rfl) rfl ?_
                    refine an_append1 (sz := 3) (bytes := 40) Try.underlying38 ti29 rfl rfl rfl rfl rfl rfl rfl (by rfl) (by rfl) (by omega) (by simp only [maxLen]; omega) rfl (fun a108 c108 => ?_)
                    refine d_first 20 rfl rfl rfl (by kernel_rfl) (by kernel_rfl) (tl_pv (pv_assign rfl)) ?_
                    refine d_done (by kernel_rfl) ?_
                    refine t_seq ?_
                    refine p_region rfl ?_
                    refine wo_pv (pv_move rfl) rfl ?_
                    refine wo_pv (pv_move rfl) rfl ?_
                    refine wo_pv (pv_add rfl rfl (by omega)) rfl ?_
                    refine wo_pv (pv_move rfl) rfl ?_
                    refine wo_pv (pv_add rfl rfl (by omega)) rfl ?_
                    refine wo_pv (pv_assign rfl) rfl ?_
                    refine wo_nil ?_
                    refine to_block ?_
                    have hq := readR_some hne hrow
                    simp only [List.drop_drop] at hq
                    first
                    | (refine to_inv ⟨((a58, c58), out ++ [⟨(s.drop (i + 1)).take k, [], true⟩], i + 1 + k), ?_, ?_, ?_⟩ ?_ ⟨rfl, sl_eq (by simp), ?_, trivial⟩ ?_
                       · rw [hi, hq]; dsimp only; cases readR (s.drop (i + 1 + k)) <;> simp
                       · dsimp only; rw [List.length_append, List.length_singleton]; omega
                       · dsimp only; omega
                       · dsimp only; omega
                       · exact vI_eq (by dsimp only; omega)
                       · simp only [List.flatMap_append, List.length_append, List.length_singleton]
                         exact row_norm1 (by rfl) (by simp [rowC, List.drop_drop]))
                    | (refine to_inv ⟨((a108, c108), out ++ [⟨(s.drop i').take k, (s.drop (i' + k)).take v, false⟩], i' + k + v), ?_, ?_, ?_⟩ ?_ ⟨rfl, sl_eq (by simp), ?_, trivial⟩ ?_
                       · rw [hi, hq]; dsimp only
                         have e : i' + (k + v) = i' + k + v := by omega
                         rw [e]
                         cases readR (s.drop (i' + k + v)) <;> simp
                       · dsimp only; rw [List.length_append, List.length_singleton]; omega
                       · dsimp only; omega
                       · dsimp only; omega
                       · exact vI_eq (by dsimp only; omega)
                       · simp only [List.flatMap_append, List.length_append, List.length_singleton]
                         exact row_norm1 (by rfl) (by simp [rowC]))
  · -- t13 False
    refine p_exit 0 rfl ?_
    refine t_seq_exit ?_
    refine to_inv_exit ?_
    refine to_block_here ?_
    refine t_seq ?_
    refine p_seq rfl ?_
    refine p_region rfl ?_
    refine wo_pv (pv_move rfl) rfl ?_
    refine wo_pv (pv_assign rfl) rfl ?_
    refine wo_pv (pv_assign rfl) rfl ?_
    refine q_seq ?_
    refine p_ret rfl ?_
    have hjs : j = s.length := by omega
    subst hjs
    rw [List.drop_length, readR_nil] at hi
    have hi3 : readR s = some out := by rw [hi]; simp
    rw [hi3]
    refine fin_ret (a, c) (vs := [_, _]) (Cs := []) rfl (.tmp rfl (.tmp rfl .nil)) rfl trivial ?_
    simp only [Option.getD_some]
    exact ent_pick
end Go.Proofs.Ytimafngkifakfaa

/- Rows of rows that are compared. -/
set_option maxRecDepth 100000
namespace Go.Proofs.Ytimafngkifakfaa
theorem eqCells_row (r q : Rw) : eqCells (rowC r) (rowC q) = decide (r = q) := by
  obtain ⟨k, v, g⟩ := r
  obtain ⟨k', v', g'⟩ := q
  simp only [rowC, eqCells, eqCell_s, Bool.and_true]
  have : eqCell (vB g) (vB g') = decide (g = g') := by cases g <;> cases g' <;> rfl
  rw [this]
  simp only [Rw.mk.injEq]
  by_cases h1 : k = k' <;> by_cases h2 : v = v' <;> by_cases h3 : g = g' <;> simp [h1, h2, h3]
theorem picks_self : ∀ As : List HP, Picks As As []
  | [] => .nil
  | A :: r => .cons .here (picks_self r)
theorem take_step {l l' : List Rw} {j : Nat} (h : j < l.length) (h' : j < l'.length) (e : l.take j = l'.take j) (x : l[j] = l'[j]) : l.take (j + 1) = l'.take (j + 1) := by
  rw [List.take_succ_eq_append_getElem h, List.take_succ_eq_append_getElem h', e, x]
theorem book_Same_Row_sp {As : List HP} {a a' : Option Addr} (n n' c c' : Nat) (l l' : List Rw) [h1 : RdSl a (l.flatMap rowC) As] [h2 : RdSl a' (l'.flatMap rowC) As] (hn : l.length = n) (hn' : l'.length = n') (hb : n ≤ 140737488355328) :
    Sp1 Try.prog 16 [.slice a n c, .slice a' n' c'] As (vB (decide (l = l'))) As := by
  subst hn; subst hn'
  haveI : PicksC As As [] := ⟨picks_self As⟩
  refine Sp.body (n := 26) Try.call16 Try.func16 rfl rfl rfl ?_
  refine p_seq rfl ?_
  refine p_region rfl ?_
  refine wo_pv (pv_assign rfl) rfl ?_
  refine q_seq ?_
  refine p_seq rfl ?_
  refine p_seq rfl ?_
  refine p_region rfl ?_
  refine wo_pv (pv_move rfl) rfl ?_
  refine wo_pv (pv_call_len_sl Try.underlying38 rfl) rfl ?_
  refine wo_pv (pv_move rfl) rfl ?_
  refine wo_pv (pv_call_len_sl Try.underlying38 rfl) rfl ?_
  refine wo_pv (pv_neq rfl rfl) rfl ?_
  refine q_seq ?_
  first | refine p_ite rfl rfl (fun h10 => ?_) (fun h10 => ?_) | refine p_cond rfl rfl (fun h10 => ?_) (fun h10 => ?_)
  · -- t10 True
    refine p_seq rfl ?_
    refine p_region rfl ?_
    refine wo_pv (pv_assign rfl) rfl ?_
    refine q_seq ?_
    refine p_ret rfl ?_
    refine t_seq_ret ?_
    have hn : ¬ l = l' := fun e => h10 (by rw [e])
    exact fin_ret () (vs := [_]) (Cs := []) rfl (.tmp rfl .nil) (by rw [decide_eq_false hn]; rfl) trivial (by rw [List.append_nil]; exact Ent.refl _)
  · -- t10 False
    refine p_skip rfl ?_
    refine t_seq ?_
    refine p_seq rfl ?_
    refine p_seq rfl ?_
    refine p_region rfl ?_
    refine wo_pv (pv_assign rfl) rfl ?_
    refine q_seq ?_
    refine p_block 0 rfl ?_
    refine p_loop (fun (i : { j : Nat // j ≤ l.length ∧ l.take j = l'.take j }) => [(0, .slice a l.length c), (1, .slice a' l'.length c'), (5, vI i.1)]) (fun (i : { j : Nat // j ≤ l.length ∧ l.take j = l'.take j }) => As) (fun (i : { j : Nat // j ≤ l.length ∧ l.take j = l'.take j }) => l.length - i.1) rfl (⟨0, Nat.zero_le _, rfl⟩) ?_ ?_ (fun i => ?_)
    · exact ⟨rfl, rfl, rfl, trivial⟩
    · -- H at start
      exact Ent.refl _
    obtain ⟨j, hj, hw⟩ := i
    try dsimp only
    refine p_seq rfl ?_
    refine p_seq rfl ?_
    refine p_region rfl ?_
    refine wo_pv (pv_move rfl) rfl ?_
    refine wo_pv (pv_move rfl) rfl ?_
    refine wo_pv (pv_call_len_sl Try.underlying38 rfl) rfl ?_
    refine wo_pv (pv_lss rfl rfl) rfl ?_
    refine q_seq ?_
    first | refine p_ite rfl rfl (fun h14 => ?_) (fun h14 => ?_) | refine p_cond rfl rfl (fun h14 => ?_) (fun h14 => ?_)
    · -- t14 True
      refine p_skip rfl ?_
      refine t_seq ?_
      refine p_seq rfl ?_
      refine p_block 1 rfl ?_
      refine p_seq rfl ?_
      have hjl : j < l.length := by omega
      have hjl' : j < l'.length := by omega
      have hq : eqCells [vS l[j].key, vS l[j].val, vB l[j].gone] [vS l'[j].key, vS l'[j].val, vB l'[j].gone] = decide (l[j] = l'[j]) := eqCells_row l[j] l'[j]
      refine d_draw rfl rfl rfl As ?_
      refine d_first 0 rfl rfl rfl (by kernel_rfl) (by kernel_rfl) (tl_pv (pv_move rfl)) ?_
      refine d_first 1 rfl rfl rfl (by kernel_rfl) (by kernel_rfl) (tl_pv (pv_move rfl)) ?_
      refine d_first 2 rfl rfl rfl (by kernel_rfl) (by kernel_rfl) (tl_elemAddr (sz := 3) Try.underlying38 ti29 rfl rfl rfl rfl (by omega) (by first | (rw [List.length_map]; omega) | (rw [flat_len (sz := 3) (fun _ => rfl)]; omega) | (simp; omega)) rfl) ?_
      refine d_first 3 rfl rfl rfl (by kernel_rfl) (by kernel_rfl) (tl_eloada (vs := [_, _, _]) (sz := 3) Try.underlying29 rfl ti29 rfl rfl (by rw [flat_len (sz := 3) (fun _ => rfl)]; omega) rfl (by refine get_flat (fun x => ?_) ?_ <;> first | rfl | omega)) ?_
      refine d_first 4 rfl rfl rfl (by kernel_rfl) (by kernel_rfl) (tl_pv (pv_move rfl)) ?_
      refine d_first 5 rfl rfl rfl (by kernel_rfl) (by kernel_rfl) (tl_pv (pv_move rfl)) ?_
      refine d_first 6 rfl rfl rfl (by kernel_rfl) (by kernel_rfl) (tl_elemAddr (sz := 3) Try.underlying38 ti29 rfl rfl rfl rfl (by omega) (by first | (rw [List.length_map]; omega) | (rw [flat_len (sz := 3) (fun _ => rfl)]; omega) | (simp; omega)) rfl) ?_
      refine d_first 7 rfl rfl rfl (by kernel_rfl) (by kernel_rfl) (tl_eloada (vs := [_, _, _]) (sz := 3) Try.underlying29 rfl ti29 rfl rfl (by rw [flat_len (sz := 3) (fun _ => rfl)]; omega) rfl (by refine get_flat (fun x => ?_) ?_ <;> first | rfl | omega)) ?_
      refine d_first 8 rfl rfl rfl (by kernel_rfl) (by kernel_rfl) (tl_pv (pv_aneq [.string, .string, .bool] Try.underlying29 (by kernel_rfl) (by kernel_rfl) (by kernel_rfl) rfl rfl rfl)) ?_
      refine d_done (by kernel_rfl) ?_
      rw [hq]
      refine t_seq ?_
      first | refine p_ite rfl rfl (fun h25 => ?_) (fun h25 => ?_) | refine p_cond rfl rfl (fun h25 => ?_) (fun h25 => ?_)
      · -- t25 True
        refine p_seq rfl ?_
        refine p_region rfl ?_
        refine wo_pv (pv_assign rfl) rfl ?_
        refine q_seq ?_
        refine p_ret rfl ?_
        refine to_block_ret ?_
        refine t_seq_ret ?_
        refine to_inv_ret ?_
        refine to_block_ret ?_
        refine t_seq_ret ?_
        have hn : ¬ l = l' := fun e => by subst e; simp at h25
        exact fin_ret () (vs := [_]) (Cs := []) rfl (.tmp rfl .nil) (by rw [decide_eq_false hn]; rfl) trivial (by rw [List.append_nil]; exact Ent.refl _)
      · -- t25 False
        refine p_skip rfl ?_
        refine to_block ?_
        refine t_seq ?_
        refine p_region rfl ?_
        refine wo_pv (pv_move rfl) rfl ?_
        refine wo_pv (pv_add rfl rfl (by omega)) rfl ?_
        refine wo_pv (pv_assign rfl) rfl ?_
        refine wo_nil ?_
        have hx : l[j] = l'[j] := by simpa using h25
        exact to_inv ⟨j + 1, by omega, take_step hjl hjl' hw hx⟩ (by dsimp only; omega) ⟨rfl, rfl, rfl, trivial⟩ (by rw [List.append_nil]; exact Ent.refl _)
    · -- t14 False
      refine p_exit 0 rfl ?_
      refine t_seq_exit ?_
      refine to_inv_exit ?_
      refine to_block_here ?_
      refine t_seq ?_
      refine p_seq rfl ?_
      refine p_region rfl ?_
      refine wo_pv (pv_assign rfl) rfl ?_
      refine q_seq ?_
      refine p_ret rfl ?_
      have hjl : j = l.length := by omega
      subst hjl
      have he : l = l' := by
        have e1 : l'.length = l.length := by omega
        rw [List.take_length, ← e1, List.take_length] at hw
        exact hw
      exact fin_ret () (vs := [_]) (Cs := []) rfl (.tmp rfl .nil) (by rw [decide_eq_true he]; rfl) trivial (by rw [List.append_nil]; exact Ent.refl _)
end Go.Proofs.Ytimafngkifakfaa

/- Package ammonitebook: Within. -/
set_option maxRecDepth 100000
namespace Go.Proofs.Ytimafngkifakfaa
def withinI (n lo hi : Int) : Int := lo + n % (hi - lo + 1)
theorem withinI_in {n lo hi : Int} (h : lo ≤ hi) : lo ≤ withinI n lo hi ∧ withinI n lo hi ≤ hi := by
  have h1 := Int.emod_nonneg n (show hi - lo + 1 ≠ 0 by omega)
  have h2 := Int.emod_lt_of_pos n (show 0 < hi - lo + 1 by omega)
  unfold withinI; omega
theorem tmod_cases (n m : Int) (hm : 1 ≤ m) : (0 ≤ n.tmod m ∧ n.tmod m = n % m ∨ n.tmod m < 0 ∧ n.tmod m + m = n % m) ∧ -m < n.tmod m ∧ n.tmod m < m := by
  have e1 := Int.emod_nonneg n (show m ≠ 0 by omega)
  have e2 := Int.emod_lt_of_pos n (show 0 < m by omega)
  have hd := Int.emod_emod_of_dvd n (Int.dvd_refl m)
  rcases Int.lt_or_le n 0 with h | h
  · have h2 : n.tmod m = -((-n) % m) := by
      have : n = -(-n) := by omega
      conv => lhs; rw [this]
      rw [Int.neg_tmod, Int.tmod_eq_emod_of_nonneg (by omega)]
    have e3 := Int.emod_nonneg (-n) (show m ≠ 0 by omega)
    have e4 := Int.emod_lt_of_pos (-n) (show 0 < m by omega)
    have hs : (n % m + (-n) % m) % m = 0 := by
      rw [← Int.add_emod, Int.add_right_neg, Int.zero_emod]
    by_cases hz : (-n) % m = 0
    · have : n % m = 0 := by
        rw [hz, Int.add_zero, Int.emod_emod_of_dvd n (Int.dvd_refl m)] at hs; exact hs
      rw [h2, hz, this]; omega
    · have hsum : n % m + (-n) % m = m := by
        have hpos : 0 < n % m + (-n) % m := by omega
        have hlt : n % m + (-n) % m < m + m := by omega
        have hge : m ≤ n % m + (-n) % m := by
          apply Classical.byContradiction; intro hc
          rw [Int.emod_eq_of_lt (by omega) (by omega)] at hs
          omega
        have : (n % m + (-n) % m - m) % m = 0 := by rw [Int.sub_emod, hs]; simp
        rw [Int.emod_eq_of_lt (by omega) (by omega)] at this
        omega
      rw [h2]; omega
  · rw [Int.tmod_eq_emod_of_nonneg h]; omega
theorem book_Within_sp (n lo hi : Int) (h1 : -1099511627776 ≤ lo) (h2 : lo ≤ hi) (h3 : hi ≤ 1099511627776) : SpF Try.prog 17 [vI n, vI lo, vI hi] (vI (withinI n lo hi)) := by
  have hc := tmod_cases n (hi - lo + 1) (by omega)
  have hw : withinI n lo hi = lo + n % (hi - lo + 1) := rfl
  refine Sp.body (n := 24) Try.call17 Try.func17 rfl rfl rfl ?_
  refine p_seq rfl ?_
  refine p_region rfl ?_
  refine wo_pv (pv_assign rfl) rfl ?_
  refine q_seq ?_
  refine p_seq rfl ?_
  refine p_region rfl ?_
  refine wo_pv (pv_move rfl) rfl ?_
  refine wo_pv (pv_move rfl) rfl ?_
  refine wo_pv (pv_move rfl) rfl ?_
  refine wo_pv (pv_sub rfl rfl (by omega)) rfl ?_
  refine wo_pv (pv_add rfl rfl (by omega)) rfl ?_
  refine wo_pv (pv_remt rfl rfl (by omega)) rfl ?_
  refine wo_pv (pv_assign rfl) rfl ?_
  refine q_seq ?_
  refine p_seq rfl ?_
  refine p_seq rfl ?_
  refine p_region rfl ?_
  refine wo_pv (pv_move rfl) rfl ?_
  refine wo_pv (pv_lss rfl rfl) rfl ?_
  refine q_seq ?_
  first | refine p_ite rfl rfl (fun h14 => ?_) (fun h14 => ?_) | refine p_cond rfl rfl (fun h14 => ?_) (fun h14 => ?_)
  · -- t14 True
    refine p_region rfl ?_
    refine wo_pv (pv_move rfl) rfl ?_
    refine wo_pv (pv_move rfl) rfl ?_
    refine wo_pv (pv_add rfl rfl (by omega)) rfl ?_
    refine wo_pv (pv_move rfl) rfl ?_
    refine wo_pv (pv_sub rfl rfl (by omega)) rfl ?_
    refine wo_pv (pv_add rfl rfl (by omega)) rfl ?_
    refine wo_pv (pv_assign rfl) rfl ?_
    refine q_seq ?_
    refine p_seq rfl ?_
    refine p_region rfl ?_
    refine wo_pv (pv_move rfl) rfl ?_
    refine wo_pv (pv_move rfl) rfl ?_
    refine wo_pv (pv_add rfl rfl (by omega)) rfl ?_
    refine wo_pv (pv_assign rfl) rfl ?_
    refine q_seq ?_
    refine p_ret rfl ?_
    exact fin_ret () (vs := [_]) rfl (.tmp rfl .nil) (by rw [hw]; exact congrArg vI (by omega)) trivial ent_nil
  · -- t14 False
    refine p_skip rfl ?_
    refine t_seq ?_
    refine p_seq rfl ?_
    refine p_region rfl ?_
    refine wo_pv (pv_move rfl) rfl ?_
    refine wo_pv (pv_move rfl) rfl ?_
    refine wo_pv (pv_add rfl rfl (by omega)) rfl ?_
    refine wo_pv (pv_assign rfl) rfl ?_
    refine q_seq ?_
    refine p_ret rfl ?_
    exact fin_ret () (vs := [_]) rfl (.tmp rfl .nil) (by rw [hw]; exact congrArg vI (by omega)) trivial ent_nil
end Go.Proofs.Ytimafngkifakfaa

/- Chapter 7's rows of an ask. -/
set_option maxRecDepth 100000
namespace Go.Proofs.Ytimafngkifakfaa
def keyTab : List Bs := [[97], [97, 98], [98], [98, 97], [99]]
def valTab : List Bs := [[], [49], [115, 111, 109, 101, 32, 118, 97, 108, 117, 101], [57, 32, 57, 32, 97, 57], [97, 32, 118, 97, 108, 117, 101, 32, 116, 104, 97, 116, 32, 105, 115, 32, 108, 111, 110, 103, 101, 114, 32, 116, 104, 97, 110, 32, 111, 110, 101, 32, 115, 101, 99, 116, 111, 114, 32, 105, 115, 44, 32, 105, 110, 32, 97, 110, 121, 32, 99, 97, 115, 101]]
def rowM (k v : Int) : Rw := if v.tmod 5 = 4 then ⟨keyTab.getD (withinI k 0 4).toNat [], [], true⟩ else ⟨keyTab.getD (withinI k 0 4).toNat [], valTab.getD (withinI v 0 4).toNat [], false⟩
def rowsM (ks vs : List Int) : List Rw := (List.range (min ks.length 4)).map fun i => rowM (ks.getD i 0) (vs.getD i 0)
/-- An ask, as it is handed on. -/
structure AskV where
  kind : Int
  n : Int
  keep : Int
  ka : Option Addr
  kc : Nat
  keys : List Int
  va : Option Addr
  vc : Nat
  vals : List Int
abbrev AskV.cells (q : AskV) : List Value := [vI q.kind, vI q.n, vI q.keep, .slice q.ka q.keys.length q.kc, .slice q.va q.vals.length q.vc]
theorem within5 (x : Int) : ∃ m : Nat, withinI x 0 4 = (m : Int) ∧ m < 5 := by
  have := withinI_in (n := x) (lo := 0) (hi := 4) (by omega)
  exact ⟨(withinI x 0 4).toNat, by omega, by omega⟩
theorem getD_lt {α : Type} {l : List α} {i : Nat} {d : α} (h : i < l.length) : l.getD i d = l[i] := by simp [h]
theorem rowsM_step {ks vs : List Int} {j : Nat} (h : j < ks.length) (h4 : j < 4) : (List.range (j + 1)).map (fun i => rowM (ks.getD i 0) (vs.getD i 0)) = (List.range j).map (fun i => rowM (ks.getD i 0) (vs.getD i 0)) ++ [rowM (ks.getD j 0) (vs.getD j 0)] := by
  rw [List.range_succ, List.map_append]; rfl
theorem law7_rows_sp (q : AskV) (hk : q.keys.length ≤ 9223372036854775807) (hv : q.vals.length ≤ 9223372036854775807) : Sp Try.prog 14 [.agg q.cells.toArray] [SlI q.ka (q.keys.map vI), SlI q.va (q.vals.map vI)] (X := Option Addr × Nat) (fun x => .slice x.1 (rowsM q.keys q.vals).length x.2) (fun _ => True)
    (fun x => [Row 29 3 (.slice x.1 (rowsM q.keys q.vals).length x.2) (rowsM q.keys q.vals).length ((rowsM q.keys q.vals).flatMap rowC)]) := by
  obtain ⟨kind, n0, keep, ka, kc, ks, va, vc, vs⟩ := q
  dsimp only [AskV.cells] at hk hv ⊢
  have hkt : keyTab.length = 5 := rfl
  have hvt : valTab.length = 5 := rfl
  refine Sp.body (n := 53) Try.call14 Try.func14 rfl rfl rfl ?_
  refine p_seq rfl ?_
  refine p_region rfl ?_
  refine wo_box (vs := [_, _, _, _, _]) rfl rfl rfl (fun b1 => ?_)
  refine wo_pv (pv_assign rfl) rfl ?_
  refine q_seq ?_
  refine p_seq rfl ?_
  refine p_region rfl ?_
  refine wo_pv (pv_assign rfl) rfl ?_
  refine q_seq ?_
  refine p_seq rfl ?_
  refine p_seq rfl ?_
  refine p_region rfl ?_
  refine wo_pv (pv_assign rfl) rfl ?_
  refine q_seq ?_
  refine p_block 0 rfl ?_
  refine p_loop (fun (i : { p : (Option Addr × Nat) × Nat // p.2 ≤ ks.length ∧ p.2 ≤ 4 }) => [(1, .pointer (some ⟨b1, 0, none⟩)), (3, .slice i.1.1.1 i.1.2 i.1.1.2), (4, vI i.1.2)]) (fun (i : { p : (Option Addr × Nat) × Nat // p.2 ≤ ks.length ∧ p.2 ≤ 4 }) => [Row 29 3 (.slice i.1.1.1 i.1.2 i.1.1.2) i.1.2 (((List.range i.1.2).map fun i => rowM (ks.getD i 0) (vs.getD i 0)).flatMap rowC), Ce b1 37 [vI kind, vI n0, vI keep, .slice ka ks.length kc, .slice va vs.length vc], SlI ka (ks.map vI), SlI va (vs.map vI)]) (fun (i : { p : (Option Addr × Nat) × Nat // p.2 ≤ ks.length ∧ p.2 ≤ 4 }) => 4 - i.1.2) rfl (⟨((none, 0), 0), Nat.zero_le _, Nat.zero_le _⟩) ?_ ?_ (fun i => ?_)
  · exact ⟨rfl, rfl, rfl, trivial⟩
  · -- H at start
    exact ent_step row_nil ent_pick
  obtain ⟨⟨⟨a, c⟩, j⟩, hj, hj4⟩ := i
  dsimp only at hj hj4
  try dsimp only
  refine p_seq rfl ?_
  refine p_seq rfl ?_
  refine p_region rfl ?_
  refine wo_pv (pv_move rfl) rfl ?_
  refine wo_pv (pv_fieldAddrk Try.underlying37 rfl ti35 rfl rfl (k := 3) rfl (by first | exact Nat.zero_add _ | exact Nat.add_zero _ | exact rfl)) rfl ?_
  refine r_load Try.underlying35 rfl rfl rfl rfl ?_
  refine wo_pv (pv_call_len_sl Try.underlying35 rfl) rfl ?_
  refine wo_pv (pv_lss rfl rfl) rfl ?_
  refine wo_pv (pv_move rfl) rfl ?_
  first | refine wo_gite (j := 5) rfl rfl (fun h12 => ?_) (fun h12 => ?_) | refine wo_gsplit (j := 5) rfl rfl (fun h12 => ?_) (fun h12 => ?_)
  · -- t12 True
    refine wo_in (b := true) rfl ?_
    refine wo_pv (pv_move rfl) rfl ?_
    refine wo_in (b := true) rfl ?_
    refine wo_pv (pv_lss rfl rfl) rfl ?_
    refine wo_pv (pv_pick_t rfl rfl) rfl ?_
    refine q_seq ?_
    first | refine p_ite rfl rfl (fun h15 => ?_) (fun h15 => ?_) | refine p_cond rfl rfl (fun h15 => ?_) (fun h15 => ?_)
    · -- t15 True
      refine p_skip rfl ?_
      refine t_seq ?_
      refine p_seq rfl ?_
      refine p_block 1 rfl ?_
      refine p_seq rfl ?_
      have hjl : j < ks.length := by omega
      obtain ⟨kk, hkk, hk5⟩ := within5 ks[j]
      have hWk := book_Within_sp ks[j] 0 4 (by omega) (by omega) (by omega)
      rw [hkk] at hWk
      refine p_region rfl ?_
      refine r_buildSliceL [_, _, _, _, _] (cs := [_, _, _, _, _]) Try.underlying46 ti9 rfl rfl rfl rfl rfl rfl rfl rfl (fun b18 => ?_)
      refine wo_ent' (ce_norm (b := b18) (T := 9) (l' := keyTab.map vS) (by rfl) (by rfl)) ?_
      refine wo_pv (pv_fieldAddrk Try.underlying37 rfl ti35 rfl rfl (k := 3) rfl (by first | exact Nat.zero_add _ | exact Nat.add_zero _ | exact rfl)) rfl ?_
      refine r_load Try.underlying35 rfl rfl rfl rfl ?_
      refine wo_pv (pv_move rfl) rfl ?_
      refine r_elemAddr (sz := 1) Try.underlying35 ti3 rfl rfl rfl rfl (by omega) (by first | (rw [List.length_map]; omega) | (rw [flat_len (sz := 1) (fun _ => rfl)]; omega) | (simp; omega)) (Nat.mul_one _) rfl ?_
      refine r_eload Try.underlying3 rfl rfl (get_map (by omega)) rfl ?_
      refine r_callF hWk rfl rfl rfl ?_
      refine r_elemAddr (sz := 1) Try.underlying46 ti9 rfl rfl rfl rfl (by omega) (by first | (rw [List.length_map]; omega) | (rw [flat_len (sz := 1) (fun _ => rfl)]; omega) | (simp; omega)) (Nat.mul_one _) rfl ?_
      refine r_eload Try.underlying9 rfl rfl (get_map (by omega)) rfl ?_
      refine wo_pv (pv_buildS (vs := [_, vS [], .bool false]) Try.underlying29 ti29 rfl rfl rfl rfl rfl) rfl ?_
      refine wo_alloc (zs := [vS [], vS [], .bool false]) ti29 rfl rfl rfl (fun b5 => ?_)
      refine r_storea ti29 rfl rfl rfl rfl (by simp; try omega) ?_
      refine q_seq ?_
      refine p_seq rfl ?_
      refine p_region rfl ?_
      refine wo_pv (pv_assign rfl) rfl ?_
      refine q_seq ?_
      refine p_seq rfl ?_
      refine p_seq rfl ?_
      refine p_region rfl ?_
      refine wo_pv (pv_move rfl) rfl ?_
      refine wo_pv (pv_fieldAddrk Try.underlying37 rfl ti35 rfl rfl (k := 4) rfl (by first | exact Nat.zero_add _ | exact Nat.add_zero _ | exact rfl)) rfl ?_
      refine r_load Try.underlying35 rfl rfl rfl rfl ?_
      refine wo_pv (pv_call_len_sl Try.underlying35 rfl) rfl ?_
      refine wo_pv (pv_lss rfl rfl) rfl ?_
      refine q_seq ?_
      first | refine p_ite rfl rfl (fun h32 => ?_) (fun h32 => ?_) | refine p_cond rfl rfl (fun h32 => ?_) (fun h32 => ?_)
      · -- t32 True
        have h3 : j < vs.length := by omega
        have hg : vs.getD j 0 = vs[j] := by simp [h3]
        refine p_region rfl ?_
        refine wo_pv (pv_fieldAddrk Try.underlying37 rfl ti35 rfl rfl (k := 4) rfl (by first | exact Nat.zero_add _ | exact Nat.add_zero _ | exact rfl)) rfl ?_
        refine r_load Try.underlying35 rfl rfl rfl rfl ?_
        refine wo_pv (pv_move rfl) rfl ?_
        refine r_elemAddr (sz := 1) Try.underlying35 ti3 rfl rfl rfl rfl (by omega) (by first | (rw [List.length_map]; omega) | (rw [flat_len (sz := 1) (fun _ => rfl)]; omega) | (simp; omega)) (Nat.mul_one _) rfl ?_
        refine r_eload Try.underlying3 rfl rfl (get_map (by omega)) rfl ?_
        refine wo_pv (pv_assign rfl) rfl ?_
        refine q_seq ?_
        refine p_seq rfl ?_
        refine p_seq rfl ?_
        refine p_region rfl ?_
        refine wo_pv (pv_move rfl) rfl ?_
        refine wo_pv (pv_remt rfl rfl (by omega)) rfl ?_
        refine wo_pv (pv_eql rfl rfl) rfl ?_
        refine q_seq ?_
        first | refine p_ite rfl rfl (fun h40 => ?_) (fun h40 => ?_) | refine p_cond rfl rfl (fun h40 => ?_) (fun h40 => ?_)
        · -- t40 True
          refine p_region rfl ?_
          refine wo_pv (pv_fieldAddrk Try.underlying29 rfl ti4 rfl rfl (k := 2) rfl (by first | exact Nat.zero_add _ | exact Nat.add_zero _ | exact rfl)) rfl ?_
          refine r_store ti4 rfl rfl rfl rfl (by simp; try omega) ?_
          refine q_seq ?_
          refine p_region rfl ?_
          refine wo_pv (pv_move rfl) rfl ?_
          refine r_loada (vs := [_, _, _]) Try.underlying29 rfl ti29 rfl (by exact Nat.le_of_ble_eq_true rfl) (by rfl) rfl ?_
          refine r_buildSliceL [_] (cs := [_, _, _]) Try.underlying38 ti29 rfl rfl rfl rfl rfl rfl rfl rfl (fun b50 => ?_)
          refine r_append1 (sz := 3) (bytes := 40) Try.underlying38 ti29 rfl rfl rfl rfl rfl rfl rfl (by rfl) (by rfl) (by omega) (by simp only [maxLen]; omega) rfl (fun a51 c51 => ?_)
          refine wo_pv (pv_assign rfl) rfl ?_
          refine wo_nil ?_
          refine to_block ?_
          refine t_seq ?_
          refine p_region rfl ?_
          refine wo_pv (pv_move rfl) rfl ?_
          refine wo_pv (pv_add rfl rfl (by omega)) rfl ?_
          refine wo_pv (pv_assign rfl) rfl ?_
          refine wo_nil ?_
          have hks : ks.getD j 0 = ks[j] := by simp [hjl]
          have hkt2 : keyTab.getD kk [] = keyTab[kk] := getD_lt (by omega)
          refine to_inv ⟨((a51, c51), j + 1), by dsimp only; omega, by dsimp only; omega⟩ (by dsimp only; omega) ⟨rfl, rfl, rfl, trivial⟩ ?_
          dsimp only
          rw [rowsM_step hjl (by omega), List.flatMap_append, List.flatMap_cons, List.flatMap_nil, List.append_nil, hks, hg, rowM, hkk]
          first
          | (rw [if_pos h40]
             exact ent_step (row_norm (by rfl) (by rw [Int.toNat_natCast, hkt2]; rfl)) ent_pick)
          | (have hvt2 : valTab.getD vv [] = valTab[vv] := getD_lt (by omega)
             rw [hg] at hvv
             rw [if_neg h40, hvv]
             exact ent_step (row_norm (by rfl) (by rw [Int.toNat_natCast, Int.toNat_natCast, hkt2, hvt2]; rfl)) ent_pick)
        · -- t40 False
          obtain ⟨vv, hvv, hv5⟩ := within5 (vs.getD j 0)
          have hWv := book_Within_sp (vs.getD j 0) 0 4 (by omega) (by omega) (by omega)
          rw [hvv] at hWv
          rw [hg] at hWv
          refine p_region rfl ?_
          refine r_buildSliceL [_, _, _, _, _] (cs := [_, _, _, _, _]) Try.underlying46 ti9 rfl rfl rfl rfl rfl rfl rfl rfl (fun b42 => ?_)
          refine wo_ent' (ce_norm (b := b42) (T := 9) (l' := valTab.map vS) (by rfl) (by rfl)) ?_
          refine wo_pv (pv_move rfl) rfl ?_
          refine r_callF hWv rfl rfl rfl ?_
          refine r_elemAddr (sz := 1) Try.underlying46 ti9 rfl rfl rfl rfl (by omega) (by first | (rw [List.length_map]; omega) | (rw [flat_len (sz := 1) (fun _ => rfl)]; omega) | (simp; omega)) (Nat.mul_one _) rfl ?_
          refine r_eload Try.underlying9 rfl rfl (get_map (by omega)) rfl ?_
          refine wo_pv (pv_fieldAddrk Try.underlying29 rfl ti9 rfl rfl (k := 1) rfl (by first | exact Nat.zero_add _ | exact Nat.add_zero _ | exact rfl)) rfl ?_
          refine r_store ti9 rfl rfl rfl rfl (by simp; try omega) ?_
          refine q_seq ?_
          refine p_region rfl ?_
          refine wo_pv (pv_move rfl) rfl ?_
          refine r_loada (vs := [_, _, _]) Try.underlying29 rfl ti29 rfl (by exact Nat.le_of_ble_eq_true rfl) (by rfl) rfl ?_
          refine r_buildSliceL [_] (cs := [_, _, _]) Try.underlying38 ti29 rfl rfl rfl rfl rfl rfl rfl rfl (fun b50 => ?_)
          refine r_append1 (sz := 3) (bytes := 40) Try.underlying38 ti29 rfl rfl rfl rfl rfl rfl rfl (by rfl) (by rfl) (by omega) (by simp only [maxLen]; omega) rfl (fun a51 c51 => ?_)
          refine wo_pv (pv_assign rfl) rfl ?_
          refine wo_nil ?_
          refine to_block ?_
          refine t_seq ?_
          refine p_region rfl ?_
          refine wo_pv (pv_move rfl) rfl ?_
          refine wo_pv (pv_add rfl rfl (by omega)) rfl ?_
          refine wo_pv (pv_assign rfl) rfl ?_
          refine wo_nil ?_
          have hks : ks.getD j 0 = ks[j] := by simp [hjl]
          have hkt2 : keyTab.getD kk [] = keyTab[kk] := getD_lt (by omega)
          refine to_inv ⟨((a51, c51), j + 1), by dsimp only; omega, by dsimp only; omega⟩ (by dsimp only; omega) ⟨rfl, rfl, rfl, trivial⟩ ?_
          dsimp only
          rw [rowsM_step hjl (by omega), List.flatMap_append, List.flatMap_cons, List.flatMap_nil, List.append_nil, hks, hg, rowM, hkk]
          first
          | (rw [if_pos h40]
             exact ent_step (row_norm (by rfl) (by rw [Int.toNat_natCast, hkt2]; rfl)) ent_pick)
          | (have hvt2 : valTab.getD vv [] = valTab[vv] := getD_lt (by omega)
             rw [hg] at hvv
             rw [if_neg h40, hvv]
             exact ent_step (row_norm (by rfl) (by rw [Int.toNat_natCast, Int.toNat_natCast, hkt2, hvt2]; rfl)) ent_pick)
      · -- t32 False
        have hg : vs.getD j 0 = 0 := by rw [List.getD_eq_getElem?_getD, List.getElem?_eq_none (by omega)]; rfl
        refine p_skip rfl ?_
        refine t_seq ?_
        refine p_seq rfl ?_
        refine p_seq rfl ?_
        refine p_region rfl ?_
        refine wo_pv (pv_move rfl) rfl ?_
        refine wo_pv (pv_remt rfl rfl (by omega)) rfl ?_
        refine wo_pv (pv_eql rfl rfl) rfl ?_
        refine q_seq ?_
        first | refine p_ite rfl rfl (fun h40 => ?_) (fun h40 => ?_) | refine p_cond rfl rfl (fun h40 => ?_) (fun h40 => ?_)
        · -- t40 True
          refine p_region rfl ?_
          refine wo_pv (pv_fieldAddrk Try.underlying29 rfl ti4 rfl rfl (k := 2) rfl (by first | exact Nat.zero_add _ | exact Nat.add_zero _ | exact rfl)) rfl ?_
          refine r_store ti4 rfl rfl rfl rfl (by simp; try omega) ?_
          refine q_seq ?_
          refine p_region rfl ?_
          refine wo_pv (pv_move rfl) rfl ?_
          refine r_loada (vs := [_, _, _]) Try.underlying29 rfl ti29 rfl (by exact Nat.le_of_ble_eq_true rfl) (by rfl) rfl ?_
          refine r_buildSliceL [_] (cs := [_, _, _]) Try.underlying38 ti29 rfl rfl rfl rfl rfl rfl rfl rfl (fun b50 => ?_)
          refine r_append1 (sz := 3) (bytes := 40) Try.underlying38 ti29 rfl rfl rfl rfl rfl rfl rfl (by rfl) (by rfl) (by omega) (by simp only [maxLen]; omega) rfl (fun a51 c51 => ?_)
          refine wo_pv (pv_assign rfl) rfl ?_
          refine wo_nil ?_
          refine to_block ?_
          refine t_seq ?_
          refine p_region rfl ?_
          refine wo_pv (pv_move rfl) rfl ?_
          refine wo_pv (pv_add rfl rfl (by omega)) rfl ?_
          refine wo_pv (pv_assign rfl) rfl ?_
          refine wo_nil ?_
          have hks : ks.getD j 0 = ks[j] := by simp [hjl]
          have hkt2 : keyTab.getD kk [] = keyTab[kk] := getD_lt (by omega)
          refine to_inv ⟨((a51, c51), j + 1), by dsimp only; omega, by dsimp only; omega⟩ (by dsimp only; omega) ⟨rfl, rfl, rfl, trivial⟩ ?_
          dsimp only
          rw [rowsM_step hjl (by omega), List.flatMap_append, List.flatMap_cons, List.flatMap_nil, List.append_nil, hks, hg, rowM, hkk]
          first
          | (rw [if_pos h40]
             exact ent_step (row_norm (by rfl) (by rw [Int.toNat_natCast, hkt2]; rfl)) ent_pick)
          | (have hvt2 : valTab.getD vv [] = valTab[vv] := getD_lt (by omega)
             rw [hg] at hvv
             rw [if_neg h40, hvv]
             exact ent_step (row_norm (by rfl) (by rw [Int.toNat_natCast, Int.toNat_natCast, hkt2, hvt2]; rfl)) ent_pick)
        · -- t40 False
          obtain ⟨vv, hvv, hv5⟩ := within5 (vs.getD j 0)
          have hWv := book_Within_sp (vs.getD j 0) 0 4 (by omega) (by omega) (by omega)
          rw [hvv] at hWv
          rw [hg] at hWv
          refine p_region rfl ?_
          refine r_buildSliceL [_, _, _, _, _] (cs := [_, _, _, _, _]) Try.underlying46 ti9 rfl rfl rfl rfl rfl rfl rfl rfl (fun b42 => ?_)
          refine wo_ent' (ce_norm (b := b42) (T := 9) (l' := valTab.map vS) (by rfl) (by rfl)) ?_
          refine wo_pv (pv_move rfl) rfl ?_
          refine r_callF hWv rfl rfl rfl ?_
          refine r_elemAddr (sz := 1) Try.underlying46 ti9 rfl rfl rfl rfl (by omega) (by first | (rw [List.length_map]; omega) | (rw [flat_len (sz := 1) (fun _ => rfl)]; omega) | (simp; omega)) (Nat.mul_one _) rfl ?_
          refine r_eload Try.underlying9 rfl rfl (get_map (by omega)) rfl ?_
          refine wo_pv (pv_fieldAddrk Try.underlying29 rfl ti9 rfl rfl (k := 1) rfl (by first | exact Nat.zero_add _ | exact Nat.add_zero _ | exact rfl)) rfl ?_
          refine r_store ti9 rfl rfl rfl rfl (by simp; try omega) ?_
          refine q_seq ?_
          refine p_region rfl ?_
          refine wo_pv (pv_move rfl) rfl ?_
          refine r_loada (vs := [_, _, _]) Try.underlying29 rfl ti29 rfl (by exact Nat.le_of_ble_eq_true rfl) (by rfl) rfl ?_
          refine r_buildSliceL [_] (cs := [_, _, _]) Try.underlying38 ti29 rfl rfl rfl rfl rfl rfl rfl rfl (fun b50 => ?_)
          refine r_append1 (sz := 3) (bytes := 40) Try.underlying38 ti29 rfl rfl rfl rfl rfl rfl rfl (by rfl) (by rfl) (by omega) (by simp only [maxLen]; omega) rfl (fun a51 c51 => ?_)
          refine wo_pv (pv_assign rfl) rfl ?_
          refine wo_nil ?_
          refine to_block ?_
          refine t_seq ?_
          refine p_region rfl ?_
          refine wo_pv (pv_move rfl) rfl ?_
          refine wo_pv (pv_add rfl rfl (by omega)) rfl ?_
          refine wo_pv (pv_assign rfl) rfl ?_
          refine wo_nil ?_
          have hks : ks.getD j 0 = ks[j] := by simp [hjl]
          have hkt2 : keyTab.getD kk [] = keyTab[kk] := getD_lt (by omega)
          refine to_inv ⟨((a51, c51), j + 1), by dsimp only; omega, by dsimp only; omega⟩ (by dsimp only; omega) ⟨rfl, rfl, rfl, trivial⟩ ?_
          dsimp only
          rw [rowsM_step hjl (by omega), List.flatMap_append, List.flatMap_cons, List.flatMap_nil, List.append_nil, hks, hg, rowM, hkk]
          first
          | (rw [if_pos h40]
             exact ent_step (row_norm (by rfl) (by rw [Int.toNat_natCast, hkt2]; rfl)) ent_pick)
          | (have hvt2 : valTab.getD vv [] = valTab[vv] := getD_lt (by omega)
             rw [hg] at hvv
             rw [if_neg h40, hvv]
             exact ent_step (row_norm (by rfl) (by rw [Int.toNat_natCast, Int.toNat_natCast, hkt2, hvt2]; rfl)) ent_pick)
    · -- t15 False
      refine p_exit 0 rfl ?_
      refine t_seq_exit ?_
      refine to_inv_exit ?_
      refine to_block_here ?_
      refine t_seq ?_
      refine p_seq rfl ?_
      refine p_region rfl ?_
      refine wo_pv (pv_move rfl) rfl ?_
      refine wo_pv (pv_assign rfl) rfl ?_
      refine q_seq ?_
      refine p_ret rfl ?_
      have hjm : j = min ks.length 4 := by omega
      subst hjm
      have hm : (List.range (min ks.length 4)).map (fun i => rowM (ks.getD i 0) (vs.getD i 0)) = rowsM ks vs := rfl
      have hl : min ks.length 4 = (rowsM ks vs).length := by simp [rowsM]
      rw [hm, ← hl]
      refine fin_ret (a, c) (vs := [_]) (Cs := []) rfl (.tmp rfl .nil) rfl trivial ?_
      exact ent_pick
  · -- t12 False
    refine wo_out (b := false) rfl rfl rfl ?_
    refine wo_out (b := false) rfl rfl rfl ?_
    refine wo_pv (pv_pick_f rfl rfl) rfl ?_
    refine q_seq ?_
    refine p_false rfl rfl ?_
    refine p_exit 0 rfl ?_
    refine t_seq_exit ?_
    refine to_inv_exit ?_
    refine to_block_here ?_
    refine t_seq ?_
    refine p_seq rfl ?_
    refine p_region rfl ?_
    refine wo_pv (pv_move rfl) rfl ?_
    refine wo_pv (pv_assign rfl) rfl ?_
    refine q_seq ?_
    refine p_ret rfl ?_
    have hjm : j = min ks.length 4 := by omega
    subst hjm
    have hm : (List.range (min ks.length 4)).map (fun i => rowM (ks.getD i 0) (vs.getD i 0)) = rowsM ks vs := rfl
    have hl : min ks.length 4 = (rowsM ks vs).length := by simp [rowsM]
    rw [hm, ← hl]
    refine fin_ret (a, c) (vs := [_]) (Cs := []) rfl (.tmp rfl .nil) rfl trivial ?_
    exact ent_pick
end Go.Proofs.Ytimafngkifakfaa

/- An ask of chapter 7 among the arguments. -/
namespace Go.Proofs.Ytimafngkifakfaa
/-- An ask among the arguments. -/
theorem ask_of {H : Type} {enc : TypeId × Value → H} {w : World} {spare : Nat → Bool} {held : Bool} {fuel : Nat} {cs : List Value} {x : DataW H × List MemPlace}
    (h : DataW.trod enc Try.prog w 0 spare held fuel 37 cs = some x) : ∃ q : AskV, cs = q.cells ∧ q.keys.length ≤ 9223372036854775807 ∧ q.vals.length ≤ 9223372036854775807 ∧ At w (SlI q.ka (q.keys.map vI)) ∧ At w (SlI q.va (q.vals.map vI)) := by
  have hl := od_len Try.underlying37 h
  have e5 : Try.prog.cellsOf 37 = 5 := by kernel_rfl
  have ei : Try.prog.cellsOf 3 = 1 := by kernel_rfl
  have es : Try.prog.cellsOf 35 = 1 := by kernel_rfl
  rw [e5] at hl
  obtain ⟨m0, y0, f0⟩ := od_field Try.underlying37 h 0 3 0 1 rfl ei
  obtain ⟨m1, y1, f1⟩ := od_field Try.underlying37 h 1 3 1 1 rfl ei
  obtain ⟨m2, y2, f2⟩ := od_field Try.underlying37 h 2 3 2 1 rfl ei
  obtain ⟨m3, y3, f3⟩ := od_field Try.underlying37 h 3 35 3 1 rfl es
  obtain ⟨m4, y4, f4⟩ := od_field Try.underlying37 h 4 35 4 1 rfl es
  match cs, hl with
  | [c0, c1, c2, c3, c4], _ =>
    simp only [List.drop_zero, List.drop_succ_cons, List.take_succ_cons, List.take_zero] at f0 f1 f2 f3 f4
    obtain ⟨n0, g0, _, _⟩ := DataW.trod_int Try.underlying3 f0
    obtain ⟨n1, g1, _, _⟩ := DataW.trod_int Try.underlying3 f1
    obtain ⟨n2, g2, _, _⟩ := DataW.trod_int Try.underlying3 f2
    obtain ⟨a3, k3, l3, g3, b3, s3, _⟩ := od_ints Try.underlying35 Try.underlying3 (by rw [ei]; decide) f3
    obtain ⟨a4, k4, l4, g4, b4, s4, _⟩ := od_ints Try.underlying35 Try.underlying3 (by rw [ei]; decide) f4
    cases g0; cases g1; cases g2; cases g3; cases g4
    exact ⟨⟨n0, n1, n2, a3, k3, l3, a4, k4, l4⟩, rfl, b3, b4, s3, s4⟩
end Go.Proofs.Ytimafngkifakfaa

/- Rows of an ask: plain laws. -/
namespace Go.Proofs.Ytimafngkifakfaa
theorem keyTab_len : ∀ k ∈ keyTab, 1 ≤ k.length ∧ k.length ≤ 2 := by decide
theorem valTab_len : ∀ k ∈ valTab, k.length ≤ 54 := by decide
theorem rowM_ok (k v : Int) : (rowM k v).Ok ∧ (rowM k v).key.length ≤ 2 ∧ (rowM k v).val.length ≤ 54 := by
  obtain ⟨a, ha, ha5⟩ := within5 k
  obtain ⟨b, hb, hb5⟩ := within5 v
  have h1 := keyTab_len (keyTab.getD a []) (by rw [getD_lt (show a < keyTab.length by exact ha5)]; exact List.getElem_mem _)
  have h2 := valTab_len (valTab.getD b []) (by rw [getD_lt (show b < valTab.length by exact hb5)]; exact List.getElem_mem _)
  rw [rowM, ha, hb]
  simp only [Int.toNat_natCast]
  split
  · exact ⟨⟨h1.1, by dsimp only; omega, by simp, fun _ => rfl⟩, h1.2, by simp⟩
  · exact ⟨⟨h1.1, by dsimp only; omega, by dsimp only; omega, fun e => by cases e⟩, h1.2, h2⟩
theorem rowsM_ok (ks vs : List Int) : ∀ r ∈ rowsM ks vs, r.Ok ∧ r.key.length ≤ 2 ∧ r.val.length ≤ 54 := by
  intro r hr
  simp only [rowsM, List.mem_map] at hr
  obtain ⟨i, _, rfl⟩ := hr
  exact rowM_ok _ _
theorem decN_small {n : Nat} (h : n < 1000) : (decN n).length ≤ 3 := by
  rw [decN]
  split
  · simp
  · rw [decN]
    split
    · simp
    · rw [decN, if_pos (by omega)]; simp
theorem rowText_small {r : Rw} (h : r.key.length ≤ 2 ∧ r.val.length ≤ 54) : (rowText r).length ≤ 70 := by
  have h1 := decN_small (n := r.key.length) (by omega)
  have h2 := decN_small (n := r.val.length) (by omega)
  unfold rowText
  split <;> simp <;> omega
theorem textOf_small {l : List Rw} (h : ∀ r ∈ l, r.key.length ≤ 2 ∧ r.val.length ≤ 54) : (textOf l).length ≤ 70 * l.length := by
  induction l with
  | nil => simp [textOf]
  | cons q l ih =>
    have e : textOf (q :: l) = rowText q ++ textOf l := by simp [textOf]
    have h1 := rowText_small (h q (by simp))
    have h2 := ih fun r hr => h r (by simp [hr])
    rw [e, List.length_append, List.length_cons]; omega
theorem rowsM_len (ks vs : List Int) : (rowsM ks vs).length ≤ 4 := by simp [rowsM]; omega
theorem rowsM_text (ks vs : List Int) : (textOf (rowsM ks vs)).length ≤ 280 := by
  have h1 := textOf_small (l := rowsM ks vs) fun r hr => (rowsM_ok ks vs r hr).2
  have h2 := rowsM_len ks vs
  omega
end Go.Proofs.Ytimafngkifakfaa
