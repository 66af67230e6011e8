/- Package store: texts that are read. -/
import Derived.Test.YtimafngkifakfaaSJour3
set_option linter.unusedVariables false
set_option maxRecDepth 100000
set_option linter.unusedSimpArgs false
namespace Go.Proofs.Ytimafngkifakfaa

theorem store_may_sp (k : List UInt8) : SpF Try.prog 38 [vS k] (vB (decide (k ≠ [] ∧ k.length ≤ 60))) := by
  refine Sp.body (n := 10) Try.call38 Try.func38 rfl rfl rfl ?_
  refine p_seq rfl ?_
  refine p_region rfl ?_
  refine wo_pv (pv_assign rfl) rfl ?_
  refine q_seq ?_
  refine p_seq rfl ?_
  refine p_region rfl ?_
  refine wo_pv (pv_move rfl) rfl ?_
  refine wo_pv (pv_sneq rfl rfl) rfl ?_
  refine wo_pv (pv_move rfl) rfl ?_
  first | refine wo_gite (j := 2) rfl rfl (fun h5 => ?_) (fun h5 => ?_) | refine wo_gsplit (j := 2) rfl rfl (fun h5 => ?_) (fun h5 => ?_)
  · -- t5 True
    refine wo_in (b := true) rfl ?_
    refine wo_pv (pv_move rfl) rfl ?_
    refine wo_in (b := true) rfl ?_
    refine wo_pv (pv_call_len_s Try.underlying9 rfl) rfl ?_
    refine wo_in (b := true) rfl ?_
    refine wo_pv (pv_leq rfl rfl) rfl ?_
    refine wo_pv (pv_pick_t rfl rfl) rfl ?_
    refine wo_pv (pv_assign rfl) rfl ?_
    refine q_seq ?_
    refine p_ret rfl ?_
    refine fin_ret () (vs := [_]) rfl (.tmp rfl .nil) ?_ trivial ent_nil
    simp_all [pack]
    try omega
  · -- t5 False
    refine wo_out (b := false) rfl rfl rfl ?_
    refine wo_out (b := false) rfl rfl rfl ?_
    refine wo_out (b := false) rfl rfl rfl ?_
    refine wo_pv (pv_pick_f rfl rfl) rfl ?_
    refine wo_pv (pv_assign rfl) rfl ?_
    refine q_seq ?_
    refine p_ret rfl ?_
    refine fin_ret () (vs := [_]) rfl (.tmp rfl .nil) ?_ trivial ent_nil
    simp_all [pack]
    try omega
theorem indexByte_find (l : List UInt8) (c : UInt8) : Lib.indexByte l c = (match l.findIdx? (· == c) with | none => -1 | some i => (i : Int)) := by
  induction l with
  | nil => rfl
  | cons b l ih =>
    simp only [Lib.indexByte, List.findIdx?_cons, ih]
    by_cases h : b == c
    · simp [h]
    · simp only [h]
      cases l.findIdx? (· == c) with
      | none => rfl
      | some i => have h1 : ¬ ((i : Int) = -1) := by omega
                  simp [h1]
def numV (x : Nat × Bs × Bool) : Value := .tuple #[vI x.1, vS x.2.1, vB x.2.2]
theorem store_number_sp (s : List UInt8) (h : s.length ≤ 140737488355328) : SpF Try.prog 63 [vS s] (numV (numR s)) := by
  have hx := indexByte_find s 32
  cases hf : s.findIdx? (· == 32) with
  | none =>
    rw [hf] at hx
    have hr : numR s = (0, [], false) := by rw [numR, hf]
    rw [hr]
    have hI := IndexByte_sp s 32
    rw [show (32 : Int).toNat.toUInt8 = 32 from rfl, hx] at hI
    dsimp only at hI
    refine Sp.body (n := 25) Try.call63 Try.func63 rfl rfl rfl ?_
    refine p_seq rfl ?_
    refine p_region rfl ?_
    refine wo_pv (pv_assign rfl) rfl ?_
    refine wo_pv (pv_assign rfl) rfl ?_
    refine wo_pv (pv_assign rfl) rfl ?_
    refine q_seq ?_
    refine p_seq rfl ?_
    refine p_region rfl ?_
    refine wo_pv (pv_move rfl) rfl ?_
    refine r_callF (hI) rfl rfl rfl ?_
    refine wo_pv (pv_assign rfl) rfl ?_
    refine q_seq ?_
    refine p_seq rfl ?_
    refine p_seq rfl ?_
    refine p_region rfl ?_
    refine wo_pv (pv_move rfl) rfl ?_
    refine wo_pv (pv_lss rfl rfl) rfl ?_
    refine q_seq ?_
    first | refine p_ite rfl rfl (fun h11 => ?_) (fun h11 => ?_) | refine p_cond rfl rfl (fun h11 => ?_) (fun h11 => ?_)
    · -- t11 True
      refine p_seq rfl ?_
      refine p_region rfl ?_
      refine wo_pv (pv_assign rfl) rfl ?_
      refine wo_pv (pv_assign rfl) rfl ?_
      refine wo_pv (pv_assign rfl) rfl ?_
      refine q_seq ?_
      refine p_ret rfl ?_
      refine t_seq_ret ?_
      exact fin_ret () (vs := [_, _, _]) rfl (.tmp rfl (.tmp rfl (.tmp rfl .nil))) rfl trivial ent_nil
    · -- t11 False
      exfalso; revert h11; decide
      --done
  | some i =>
    rw [hf] at hx
    have hlt := (List.findIdx?_eq_some_iff_getElem.1 hf).1
    have hI := IndexByte_sp s 32
    rw [show (32 : Int).toNat.toUInt8 = 32 from rfl, hx] at hI
    dsimp only at hI
    have hr : numR s = ((readDec (s.take i)).getD 0, s.drop (i + 1), (readDec (s.take i)).isSome) := by
      rw [numR, hf]
      dsimp only
      cases readDec (s.take i) <;> rfl
    rw [hr]
    refine Sp.body (n := 25) Try.call63 Try.func63 rfl rfl rfl ?_
    refine p_seq rfl ?_
    refine p_region rfl ?_
    refine wo_pv (pv_assign rfl) rfl ?_
    refine wo_pv (pv_assign rfl) rfl ?_
    refine wo_pv (pv_assign rfl) rfl ?_
    refine q_seq ?_
    refine p_seq rfl ?_
    refine p_region rfl ?_
    refine wo_pv (pv_move rfl) rfl ?_
    refine r_callF (hI) rfl rfl rfl ?_
    refine wo_pv (pv_assign rfl) rfl ?_
    refine q_seq ?_
    refine p_seq rfl ?_
    refine p_seq rfl ?_
    refine p_region rfl ?_
    refine wo_pv (pv_move rfl) rfl ?_
    refine wo_pv (pv_lss rfl rfl) rfl ?_
    refine q_seq ?_
    first | refine p_ite rfl rfl (fun h11 => ?_) (fun h11 => ?_) | refine p_cond rfl rfl (fun h11 => ?_) (fun h11 => ?_)
    · -- t11 True
      exfalso; omega
      --done
    · -- t11 False
      refine p_skip rfl ?_
      refine t_seq ?_
      refine p_seq rfl ?_
      refine p_region rfl ?_
      refine wo_pv (pv_move rfl) rfl ?_
      refine wo_pv (pv_move rfl) rfl ?_
      refine wo_pv (pv_slice_tom Try.underlying9 rfl rfl rfl (by omega)) rfl ?_
      refine r_callF (digit_ReadDec_sp (s.take i) (by rw [List.length_take]; omega)) rfl rfl rfl ?_
      refine wo_pv (pv_move rfl) rfl ?_
      refine wo_pv (pv_extract rfl rfl) rfl ?_
      refine wo_pv (pv_extract rfl rfl) rfl ?_
      refine wo_pv (pv_assign rfl) rfl ?_
      refine wo_pv (pv_assign rfl) rfl ?_
      refine q_seq ?_
      refine p_seq rfl ?_
      refine d_draw rfl rfl rfl [] ?_
      refine d_first 0 rfl rfl rfl (by kernel_rfl) (by kernel_rfl) (tl_pv (pv_move rfl)) ?_
      refine d_first 1 rfl rfl rfl (by kernel_rfl) (by kernel_rfl) (tl_pv (pv_move rfl)) ?_
      refine d_first 2 rfl rfl rfl (by kernel_rfl) (by kernel_rfl) (tl_pv (pv_move rfl)) ?_
      refine d_first 3 rfl rfl rfl (by kernel_rfl) (by kernel_rfl) (tl_pv (pv_add rfl rfl (by omega))) ?_
      refine d_first 4 rfl rfl rfl (by kernel_rfl) (by kernel_rfl) (tl_pv (pv_slice_fromm (m := i + 1) Try.underlying9 rfl rfl (by omega) (by omega))) ?_
      refine d_first 5 rfl rfl rfl (by kernel_rfl) (by kernel_rfl) (tl_pv (pv_move rfl)) ?_
      refine d_first 6 rfl rfl rfl (by kernel_rfl) (by kernel_rfl) (tl_pv (pv_assign rfl)) ?_
      refine d_first 7 rfl rfl rfl (by kernel_rfl) (by kernel_rfl) (tl_pv (pv_assign rfl)) ?_
      refine d_first 8 rfl rfl rfl (by kernel_rfl) (by kernel_rfl) (tl_pv (pv_assign rfl)) ?_
      refine d_done (by kernel_rfl) ?_
      refine t_seq ?_
      refine p_ret rfl ?_
      exact fin_ret () (vs := [_, _, _]) rfl (.tmp rfl (.tmp rfl (.tmp rfl .nil))) rfl trivial ent_nil
def rowC (r : Rw) : List Value := [vS r.key, vS r.val, vB r.gone]
def rowV : Option (Rw × Bs) → Value
  | none => .tuple #[.agg #[vS [], vS [], vB false], vS [], vB false]
  | some (r, t) => .tuple #[.agg (rowC r).toArray, vS t, vB true]
theorem pre_dash (s : Bs) : Lib.hasPrefix s [45] = decide (s.take 1 = [45]) := by
  cases s with
  | nil => rfl
  | cons c s =>
    simp only [Lib.hasPrefix, List.isPrefixOf, List.take_succ_cons, List.take_zero, Bool.and_true]
    by_cases h : (45 : UInt8) = c
    · subst h; simp
    · have : ¬ c = 45 := fun e => h e.symm
      simp [h, this]

theorem rowR_eq {s s1 s2 : Bs} {k v : Nat} {ok ok2 : Bool} (h1 : numR s = (k, s1, ok)) (h2 : numR s1 = (v, s2, ok2)) : rowR s =
    if ok = false ∨ k < 1 ∨ 60 < k then none
    else if s1.take 1 = [45] then (if (s1.drop 1).length < k then none else some (⟨(s1.drop 1).take k, [], true⟩, (s1.drop 1).drop k))
    else if ok2 = false ∨ s2.length < k ∨ s2.length - k < v then none
    else some (⟨s2.take k, (s2.drop k).take v, false⟩, s2.drop (k + v)) := by
  unfold rowR
  rw [h1]
  cases ok with
  | false => simp
  | true =>
    dsimp only
    by_cases hk : k < 1 ∨ 60 < k
    · rw [if_pos hk, if_pos (.inr hk)]
    · rw [if_neg hk, if_neg (show ¬ (true = false ∨ k < 1 ∨ 60 < k) from fun h => hk (h.resolve_left (by simp)))]
      by_cases hd : s1.take 1 = [45]
      · rw [if_pos hd, if_pos hd]
      · rw [if_neg hd, if_neg hd, h2]
        cases ok2 with
        | false => simp
        | true => simp
theorem store_row_sp (s : List UInt8) (h : s.length ≤ 140737488355328) : SpF Try.prog 43 [vS s] (rowV (rowR s)) := by
  have n1 := store_number_sp s h
  have l1 := numR_len s
  cases e1 : numR s with
  | mk k q =>
  obtain ⟨s1, ok⟩ := q
  rw [e1] at n1 l1
  dsimp only at l1
  have n1 : SpF Try.prog 63 [vS s] (.tuple #[vI k, vS s1, vB ok]) := n1
  have n2 := store_number_sp s1 (by omega)
  have l2 := numR_len s1
  have hc := CutPrefix_sp s1 [45]
  rw [pre_dash] at hc
  cases e2 : numR s1 with
  | mk v q2 =>
  obtain ⟨s2, ok2⟩ := q2
  rw [e2] at n2 l2
  dsimp only at l2
  have n2 : SpF Try.prog 63 [vS s1] (.tuple #[vI v, vS s2, vB ok2]) := n2
  have hr := rowR_eq e1 e2
  clear e1 e2
  have hv : ∀ n : Nat, rowV none = .tuple #[.agg #[vS [], vS [], vB false], vS [], vB false] := fun _ => rfl
  have ht : (s1.take 1 = [45]) → Lib.trimPrefix s1 [45] = s1.drop 1 := fun e => by
    rw [Lib.trimPrefix, pre_dash, e]; simp
  refine Sp.body (n := 83) Try.call43 Try.func43 rfl rfl rfl ?_
  refine p_seq rfl ?_
  refine p_region rfl ?_
  refine wo_alloc (zs := [vS [], vS [], .bool false]) ti29 rfl rfl rfl (fun b2 => ?_)
  refine wo_pv (pv_assign rfl) rfl ?_
  refine wo_pv (pv_assign rfl) rfl ?_
  refine q_seq ?_
  refine p_seq rfl ?_
  refine p_region rfl ?_
  refine wo_pv (pv_move rfl) rfl ?_
  refine r_callF n1 rfl rfl rfl ?_
  refine wo_pv (pv_move rfl) rfl ?_
  refine wo_pv (pv_extract rfl rfl) rfl ?_
  refine wo_pv (pv_extract rfl rfl) rfl ?_
  refine wo_pv (pv_extract rfl rfl) rfl ?_
  refine wo_pv (pv_assign rfl) rfl ?_
  refine wo_pv (pv_assign rfl) rfl ?_
  refine wo_pv (pv_assign rfl) rfl ?_
  refine q_seq ?_
  refine p_seq rfl ?_
  refine p_seq rfl ?_
  refine p_region rfl ?_
  refine wo_pv (pv_move rfl) rfl ?_
  refine wo_pv (by first | exact pv_notd rfl | exact pv_not rfl) rfl ?_
  refine wo_pv (pv_move rfl) rfl ?_
  first | refine wo_gite (j := 2) rfl rfl (fun h18 => ?_) (fun h18 => ?_) | refine wo_gsplit (j := 2) rfl rfl (fun h18 => ?_) (fun h18 => ?_)
  · -- t18 True
    refine wo_out (b := true) rfl rfl rfl ?_
    refine wo_out (b := true) rfl rfl rfl ?_
    refine wo_pv (pv_pick_t rfl rfl) rfl ?_
    refine wo_pv (pv_move rfl) rfl ?_
    refine wo_out (b := true) rfl rfl rfl ?_
    refine wo_out (b := true) rfl rfl rfl ?_
    refine wo_pv (pv_pick_t rfl rfl) rfl ?_
    refine q_seq ?_
    refine p_true rfl rfl ?_
    refine p_seq rfl ?_
    refine p_region rfl ?_
    refine wo_pv (pv_buildS (vs := [vS [], vS [], .bool false]) Try.underlying29 ti29 rfl rfl rfl rfl rfl) rfl ?_
    refine r_storea ti29 rfl rfl rfl rfl (by simp; try omega) ?_
    refine wo_pv (pv_assign rfl) rfl ?_
    refine wo_pv (pv_assign rfl) rfl ?_
    refine q_seq ?_
    refine p_ret rfl ?_
    refine t_seq_ret ?_
    have hn : rowR s = none := by rw [hr, if_pos (by first | exact .inl (by simpa using h18) | exact .inr (.inl (by omega)) | exact .inr (.inr (by omega)))]
    rw [hn]
    refine tw_ent (Gs := [Ce b2 29 [vS [], vS [], vB false]]) (ce_norm1 (by rfl) (by rfl)) ?_
    exact fin_ret () (vs := [_, _, _]) (Cs := [_]) rfl (.cell (l := [vS [], vS [], vB false]) (us := [vS [], vS [], vB false]) rfl (shows_ce (T := 29)) Try.underlying29 rfl ti29 (Nat.le_of_ble_eq_true rfl) rfl (.tmp rfl (.tmp rfl .nil))) rfl trivial (Ent.refl _)
  · -- t18 False
    refine wo_in (b := false) rfl ?_
    refine wo_pv (pv_move rfl) rfl ?_
    refine wo_in (b := false) rfl ?_
    refine wo_pv (pv_lss rfl rfl) rfl ?_
    refine wo_pv (pv_pick_f rfl rfl) rfl ?_
    refine wo_pv (pv_move rfl) rfl ?_
    first | refine wo_gite (j := 6) rfl rfl (fun h22 => ?_) (fun h22 => ?_) | refine wo_gsplit (j := 6) rfl rfl (fun h22 => ?_) (fun h22 => ?_)
    · -- t22 True
      refine wo_out (b := true) rfl rfl rfl ?_
      refine wo_out (b := true) rfl rfl rfl ?_
      refine wo_pv (pv_pick_t rfl rfl) rfl ?_
      refine q_seq ?_
      refine p_true rfl rfl ?_
      refine p_seq rfl ?_
      refine p_region rfl ?_
      refine wo_pv (pv_buildS (vs := [vS [], vS [], .bool false]) Try.underlying29 ti29 rfl rfl rfl rfl rfl) rfl ?_
      refine r_storea ti29 rfl rfl rfl rfl (by simp; try omega) ?_
      refine wo_pv (pv_assign rfl) rfl ?_
      refine wo_pv (pv_assign rfl) rfl ?_
      refine q_seq ?_
      refine p_ret rfl ?_
      refine t_seq_ret ?_
      have hn : rowR s = none := by rw [hr, if_pos (by first | exact .inl (by simpa using h18) | exact .inr (.inl (by omega)) | exact .inr (.inr (by omega)))]
      rw [hn]
      refine tw_ent (Gs := [Ce b2 29 [vS [], vS [], vB false]]) (ce_norm1 (by rfl) (by rfl)) ?_
      exact fin_ret () (vs := [_, _, _]) (Cs := [_]) rfl (.cell (l := [vS [], vS [], vB false]) (us := [vS [], vS [], vB false]) rfl (shows_ce (T := 29)) Try.underlying29 rfl ti29 (Nat.le_of_ble_eq_true rfl) rfl (.tmp rfl (.tmp rfl .nil))) rfl trivial (Ent.refl _)
    · -- t22 False
      refine wo_in (b := false) rfl ?_
      refine wo_pv (pv_move rfl) rfl ?_
      refine wo_in (b := false) rfl ?_
      refine wo_pv (pv_gtr rfl rfl) rfl ?_
      refine wo_pv (pv_pick_f rfl rfl) rfl ?_
      refine q_seq ?_
      first | refine p_ite rfl rfl (fun h25 => ?_) (fun h25 => ?_) | refine p_cond rfl rfl (fun h25 => ?_) (fun h25 => ?_)
      · -- t25 True
        refine p_seq rfl ?_
        refine p_region rfl ?_
        refine wo_pv (pv_buildS (vs := [vS [], vS [], .bool false]) Try.underlying29 ti29 rfl rfl rfl rfl rfl) rfl ?_
        refine r_storea ti29 rfl rfl rfl rfl (by simp; try omega) ?_
        refine wo_pv (pv_assign rfl) rfl ?_
        refine wo_pv (pv_assign rfl) rfl ?_
        refine q_seq ?_
        refine p_ret rfl ?_
        refine t_seq_ret ?_
        have hn : rowR s = none := by rw [hr, if_pos (by first | exact .inl (by simpa using h18) | exact .inr (.inl (by omega)) | exact .inr (.inr (by omega)))]
        rw [hn]
        refine tw_ent (Gs := [Ce b2 29 [vS [], vS [], vB false]]) (ce_norm1 (by rfl) (by rfl)) ?_
        exact fin_ret () (vs := [_, _, _]) (Cs := [_]) rfl (.cell (l := [vS [], vS [], vB false]) (us := [vS [], vS [], vB false]) rfl (shows_ce (T := 29)) Try.underlying29 rfl ti29 (Nat.le_of_ble_eq_true rfl) rfl (.tmp rfl (.tmp rfl .nil))) rfl trivial (Ent.refl _)
      · -- t25 False
        refine p_skip rfl ?_
        refine t_seq ?_
        refine p_seq rfl ?_
        refine p_seq rfl ?_
        refine p_region rfl ?_
        refine wo_pv (pv_move rfl) rfl ?_
        refine r_callF (hc) rfl rfl rfl ?_
        refine wo_pv (pv_move rfl) rfl ?_
        refine wo_pv (pv_extract rfl rfl) rfl ?_
        refine wo_pv (pv_extract rfl rfl) rfl ?_
        refine wo_pv (pv_assign rfl) rfl ?_
        refine wo_pv (pv_assign rfl) rfl ?_
        refine q_seq ?_
        refine p_seq rfl ?_
        refine p_region rfl ?_
        refine wo_pv (pv_move rfl) rfl ?_
        refine q_seq ?_
        first | refine p_ite rfl rfl (fun h32 => ?_) (fun h32 => ?_) | refine p_cond rfl rfl (fun h32 => ?_) (fun h32 => ?_)
        · -- t32 True
          rw [ht h32]
          refine p_seq rfl ?_
          refine p_seq rfl ?_
          refine p_region rfl ?_
          refine wo_pv (pv_move rfl) rfl ?_
          refine wo_pv (pv_move rfl) rfl ?_
          refine wo_pv (pv_call_len_s Try.underlying9 rfl) rfl ?_
          refine wo_pv (pv_gtr rfl rfl) rfl ?_
          refine q_seq ?_
          first | refine p_ite rfl rfl (fun h36 => ?_) (fun h36 => ?_) | refine p_cond rfl rfl (fun h36 => ?_) (fun h36 => ?_)
          · -- t36 True
            refine p_seq rfl ?_
            refine p_region rfl ?_
            refine wo_pv (pv_buildS (vs := [vS [], vS [], .bool false]) Try.underlying29 ti29 rfl rfl rfl rfl rfl) rfl ?_
            refine r_storea ti29 rfl rfl rfl rfl (by simp; try omega) ?_
            refine wo_pv (pv_assign rfl) rfl ?_
            refine wo_pv (pv_assign rfl) rfl ?_
            refine q_seq ?_
            refine p_ret rfl ?_
            refine t_seq_ret ?_
            refine t_seq_ret ?_
            have hn : rowR s = none := by rw [hr, if_neg (by rintro (e | e | e) <;> first | omega | (subst e; simp at h18)), if_pos h32, if_pos (by omega)]
            rw [hn]
            refine tw_ent (Gs := [Ce b2 29 [vS [], vS [], vB false]]) (ce_norm1 (by rfl) (by rfl)) ?_
            exact fin_ret () (vs := [_, _, _]) (Cs := [_]) rfl (.cell (l := [vS [], vS [], vB false]) (us := [vS [], vS [], vB false]) rfl (shows_ce (T := 29)) Try.underlying29 rfl ti29 (Nat.le_of_ble_eq_true rfl) rfl (.tmp rfl (.tmp rfl .nil))) rfl trivial (Ent.refl _)
          · -- t36 False
            refine p_skip rfl ?_
            refine t_seq ?_
            refine p_seq rfl ?_
            refine d_draw rfl rfl rfl [] ?_
            refine d_first 0 rfl rfl rfl (by kernel_rfl) (by kernel_rfl) (tl_pv (pv_move rfl)) ?_
            refine d_first 1 rfl rfl rfl (by kernel_rfl) (by kernel_rfl) (tl_pv (pv_move rfl)) ?_
            refine d_first 2 rfl rfl rfl (by kernel_rfl) (by kernel_rfl) (tl_pv (pv_slice_tom Try.underlying9 rfl rfl rfl (by omega))) ?_
            refine d_first 3 rfl rfl rfl (by kernel_rfl) (by kernel_rfl) (tl_pv (pv_buildS (vs := [_, vS [], _]) Try.underlying29 ti29 rfl rfl rfl rfl rfl)) ?_
            refine d_first 4 rfl rfl rfl (by kernel_rfl) (by kernel_rfl) (tl_pv (pv_move rfl)) ?_
            refine d_first 5 rfl rfl rfl (by kernel_rfl) (by kernel_rfl) (tl_pv (pv_move rfl)) ?_
            refine d_first 6 rfl rfl rfl (by kernel_rfl) (by kernel_rfl) (tl_pv (pv_slice_fromm Try.underlying9 rfl rfl rfl (by omega))) ?_
            refine d_next 7 (by kernel_rfl) rfl ?_
            refine an_storea ti29 rfl rfl rfl rfl (by simp; try omega) ?_
            refine d_first 8 rfl rfl rfl (by kernel_rfl) (by kernel_rfl) (tl_pv (pv_assign rfl)) ?_
            refine d_first 9 rfl rfl rfl (by kernel_rfl) (by kernel_rfl) (tl_pv (pv_assign rfl)) ?_
            refine d_done (by kernel_rfl) ?_
            refine t_seq ?_
            refine p_ret rfl ?_
            refine t_seq_ret ?_
            have hn : rowR s = some (⟨(s1.drop 1).take k, [], true⟩, (s1.drop 1).drop k) := by rw [hr, if_neg (by rintro (e | e | e) <;> first | omega | (subst e; simp at h18)), if_pos h32, if_neg (by omega)]
            rw [hn]
            refine tw_ent (Gs := [Ce b2 29 [vS ((s1.drop 1).take k), vS [], vB true]]) (ce_norm1 (by rfl) (by rfl)) ?_
            exact fin_ret () (vs := [_, _, _]) (Cs := [_]) rfl (.cell (l := [vS ((s1.drop 1).take k), vS [], vB true]) (us := [vS ((s1.drop 1).take k), vS [], vB true]) rfl (shows_ce (T := 29)) Try.underlying29 rfl ti29 (Nat.le_of_ble_eq_true rfl) rfl (.tmp rfl (.tmp rfl .nil))) rfl trivial (Ent.refl _)
        · -- t32 False
          refine p_skip rfl ?_
          refine t_seq ?_
          refine p_seq rfl ?_
          refine p_region rfl ?_
          refine wo_pv (pv_move rfl) rfl ?_
          refine r_callF n2 rfl rfl rfl ?_
          refine wo_pv (pv_move rfl) rfl ?_
          refine wo_pv (pv_extract rfl rfl) rfl ?_
          refine wo_pv (pv_extract rfl rfl) rfl ?_
          refine wo_pv (pv_extract rfl rfl) rfl ?_
          refine wo_pv (pv_assign rfl) rfl ?_
          refine wo_pv (pv_assign rfl) rfl ?_
          refine wo_pv (pv_assign rfl) rfl ?_
          refine q_seq ?_
          refine p_seq rfl ?_
          refine p_seq rfl ?_
          refine p_region rfl ?_
          refine wo_pv (pv_move rfl) rfl ?_
          refine wo_pv (by first | exact pv_notd rfl | exact pv_not rfl) rfl ?_
          refine wo_pv (pv_move rfl) rfl ?_
          first | refine wo_gite (j := 2) rfl rfl (fun h53 => ?_) (fun h53 => ?_) | refine wo_gsplit (j := 2) rfl rfl (fun h53 => ?_) (fun h53 => ?_)
          · -- t53 True
            refine wo_out (b := true) rfl rfl rfl ?_
            refine wo_out (b := true) rfl rfl rfl ?_
            refine wo_out (b := true) rfl rfl rfl ?_
            refine wo_out (b := true) rfl rfl rfl ?_
            refine wo_pv (pv_pick_t rfl rfl) rfl ?_
            refine wo_pv (pv_move rfl) rfl ?_
            refine wo_out (b := true) rfl rfl rfl ?_
            refine wo_out (b := true) rfl rfl rfl ?_
            refine wo_out (b := true) rfl rfl rfl ?_
            refine wo_out (b := true) rfl rfl rfl ?_
            refine wo_out (b := true) rfl rfl rfl ?_
            refine wo_out (b := true) rfl rfl rfl ?_
            refine wo_pv (pv_pick_t rfl rfl) rfl ?_
            refine q_seq ?_
            refine p_true rfl rfl ?_
            refine p_seq rfl ?_
            refine p_region rfl ?_
            refine wo_pv (pv_buildS (vs := [vS [], vS [], .bool false]) Try.underlying29 ti29 rfl rfl rfl rfl rfl) rfl ?_
            refine r_storea ti29 rfl rfl rfl rfl (by simp; try omega) ?_
            refine wo_pv (pv_assign rfl) rfl ?_
            refine wo_pv (pv_assign rfl) rfl ?_
            refine q_seq ?_
            refine p_ret rfl ?_
            refine t_seq_ret ?_
            have hn : rowR s = none := by rw [hr, if_neg (by rintro (e | e | e) <;> first | omega | (subst e; simp at h18)), if_neg (by simpa using h32), if_pos (by first | exact .inl (by simpa using h53) | exact .inr (.inl (by omega)) | exact .inr (.inr (by omega)))]
            rw [hn]
            refine tw_ent (Gs := [Ce b2 29 [vS [], vS [], vB false]]) (ce_norm1 (by rfl) (by rfl)) ?_
            exact fin_ret () (vs := [_, _, _]) (Cs := [_]) rfl (.cell (l := [vS [], vS [], vB false]) (us := [vS [], vS [], vB false]) rfl (shows_ce (T := 29)) Try.underlying29 rfl ti29 (Nat.le_of_ble_eq_true rfl) rfl (.tmp rfl (.tmp rfl .nil))) rfl trivial (Ent.refl _)
          · -- t53 False
            refine wo_in (b := false) rfl ?_
            refine wo_pv (pv_move rfl) rfl ?_
            refine wo_in (b := false) rfl ?_
            refine wo_pv (pv_move rfl) rfl ?_
            refine wo_in (b := false) rfl ?_
            refine wo_pv (pv_call_len_s Try.underlying9 rfl) rfl ?_
            refine wo_in (b := false) rfl ?_
            refine wo_pv (pv_gtr rfl rfl) rfl ?_
            refine wo_pv (pv_pick_f rfl rfl) rfl ?_
            refine wo_pv (pv_move rfl) rfl ?_
            first | refine wo_gite (j := 8) rfl rfl (fun h59 => ?_) (fun h59 => ?_) | refine wo_gsplit (j := 8) rfl rfl (fun h59 => ?_) (fun h59 => ?_)
            · -- t59 True
              refine wo_out (b := true) rfl rfl rfl ?_
              refine wo_out (b := true) rfl rfl rfl ?_
              refine wo_out (b := true) rfl rfl rfl ?_
              refine wo_out (b := true) rfl rfl rfl ?_
              refine wo_out (b := true) rfl rfl rfl ?_
              refine wo_out (b := true) rfl rfl rfl ?_
              refine wo_pv (pv_pick_t rfl rfl) rfl ?_
              refine q_seq ?_
              refine p_true rfl rfl ?_
              refine p_seq rfl ?_
              refine p_region rfl ?_
              refine wo_pv (pv_buildS (vs := [vS [], vS [], .bool false]) Try.underlying29 ti29 rfl rfl rfl rfl rfl) rfl ?_
              refine r_storea ti29 rfl rfl rfl rfl (by simp; try omega) ?_
              refine wo_pv (pv_assign rfl) rfl ?_
              refine wo_pv (pv_assign rfl) rfl ?_
              refine q_seq ?_
              refine p_ret rfl ?_
              refine t_seq_ret ?_
              have hn : rowR s = none := by rw [hr, if_neg (by rintro (e | e | e) <;> first | omega | (subst e; simp at h18)), if_neg (by simpa using h32), if_pos (by first | exact .inl (by simpa using h53) | exact .inr (.inl (by omega)) | exact .inr (.inr (by omega)))]
              rw [hn]
              refine tw_ent (Gs := [Ce b2 29 [vS [], vS [], vB false]]) (ce_norm1 (by rfl) (by rfl)) ?_
              exact fin_ret () (vs := [_, _, _]) (Cs := [_]) rfl (.cell (l := [vS [], vS [], vB false]) (us := [vS [], vS [], vB false]) rfl (shows_ce (T := 29)) Try.underlying29 rfl ti29 (Nat.le_of_ble_eq_true rfl) rfl (.tmp rfl (.tmp rfl .nil))) rfl trivial (Ent.refl _)
            · -- t59 False
              refine wo_in (b := false) rfl ?_
              refine wo_pv (pv_move rfl) rfl ?_
              refine wo_in (b := false) rfl ?_
              refine wo_pv (pv_move rfl) rfl ?_
              refine wo_in (b := false) rfl ?_
              refine wo_pv (pv_call_len_s Try.underlying9 rfl) rfl ?_
              refine wo_in (b := false) rfl ?_
              refine wo_pv (pv_move rfl) rfl ?_
              refine wo_in (b := false) rfl ?_
              refine wo_pv (pv_sub rfl rfl (by omega)) rfl ?_
              refine wo_in (b := false) rfl ?_
              refine wo_pv (pv_gtr rfl rfl) rfl ?_
              refine wo_pv (pv_pick_f rfl rfl) rfl ?_
              refine q_seq ?_
              first | refine p_ite rfl rfl (fun h66 => ?_) (fun h66 => ?_) | refine p_cond rfl rfl (fun h66 => ?_) (fun h66 => ?_)
              · -- t66 True
                refine p_seq rfl ?_
                refine p_region rfl ?_
                refine wo_pv (pv_buildS (vs := [vS [], vS [], .bool false]) Try.underlying29 ti29 rfl rfl rfl rfl rfl) rfl ?_
                refine r_storea ti29 rfl rfl rfl rfl (by simp; try omega) ?_
                refine wo_pv (pv_assign rfl) rfl ?_
                refine wo_pv (pv_assign rfl) rfl ?_
                refine q_seq ?_
                refine p_ret rfl ?_
                refine t_seq_ret ?_
                have hn : rowR s = none := by rw [hr, if_neg (by rintro (e | e | e) <;> first | omega | (subst e; simp at h18)), if_neg (by simpa using h32), if_pos (by first | exact .inl (by simpa using h53) | exact .inr (.inl (by omega)) | exact .inr (.inr (by omega)))]
                rw [hn]
                refine tw_ent (Gs := [Ce b2 29 [vS [], vS [], vB false]]) (ce_norm1 (by rfl) (by rfl)) ?_
                exact fin_ret () (vs := [_, _, _]) (Cs := [_]) rfl (.cell (l := [vS [], vS [], vB false]) (us := [vS [], vS [], vB false]) rfl (shows_ce (T := 29)) Try.underlying29 rfl ti29 (Nat.le_of_ble_eq_true rfl) rfl (.tmp rfl (.tmp rfl .nil))) rfl trivial (Ent.refl _)
              · -- t66 False
                refine p_skip rfl ?_
                refine t_seq ?_
                refine p_seq rfl ?_
                refine d_draw rfl rfl rfl [] ?_
                refine d_first 0 rfl rfl rfl (by kernel_rfl) (by kernel_rfl) (tl_pv (pv_move rfl)) ?_
                refine d_first 1 rfl rfl rfl (by kernel_rfl) (by kernel_rfl) (tl_pv (pv_move rfl)) ?_
                refine d_first 2 rfl rfl rfl (by kernel_rfl) (by kernel_rfl) (tl_pv (pv_slice_tom Try.underlying9 rfl rfl rfl (by omega))) ?_
                refine d_first 3 rfl rfl rfl (by kernel_rfl) (by kernel_rfl) (tl_pv (pv_move rfl)) ?_
                refine d_first 4 rfl rfl rfl (by kernel_rfl) (by kernel_rfl) (tl_pv (pv_move rfl)) ?_
                refine d_first 5 rfl rfl rfl (by kernel_rfl) (by kernel_rfl) (tl_pv (pv_move rfl)) ?_
                refine d_first 6 rfl rfl rfl (by kernel_rfl) (by kernel_rfl) (tl_pv (pv_move rfl)) ?_
                refine d_first 7 rfl rfl rfl (by kernel_rfl) (by kernel_rfl) (tl_pv (pv_add rfl rfl (by omega))) ?_
                refine d_first 8 rfl rfl rfl (by kernel_rfl) (by kernel_rfl) (tl_pv (pv_slice_inm (m := k) (o := k + v) Try.underlying9 rfl rfl rfl rfl (by omega) (by omega) (by omega))) ?_
                refine d_first 9 rfl rfl rfl (by kernel_rfl) (by kernel_rfl) (tl_pv (pv_buildS (vs := [_, _, .bool false]) Try.underlying29 ti29 rfl rfl rfl rfl rfl)) ?_
                refine d_first 10 rfl rfl rfl (by kernel_rfl) (by kernel_rfl) (tl_pv (pv_move rfl)) ?_
                refine d_first 11 rfl rfl rfl (by kernel_rfl) (by kernel_rfl) (tl_pv (pv_move rfl)) ?_
                refine d_first 12 rfl rfl rfl (by kernel_rfl) (by kernel_rfl) (tl_pv (pv_move rfl)) ?_
                refine d_first 13 rfl rfl rfl (by kernel_rfl) (by kernel_rfl) (tl_pv (pv_add rfl rfl (by omega))) ?_
                refine d_first 14 rfl rfl rfl (by kernel_rfl) (by kernel_rfl) (tl_pv (pv_slice_fromm (m := k + v) Try.underlying9 rfl rfl (by omega) (by omega))) ?_
                refine d_next 15 (by kernel_rfl) rfl ?_
                refine an_storea ti29 rfl rfl rfl rfl (by simp; try omega) ?_
                refine d_first 16 rfl rfl rfl (by kernel_rfl) (by kernel_rfl) (tl_pv (pv_assign rfl)) ?_
                refine d_first 17 rfl rfl rfl (by kernel_rfl) (by kernel_rfl) (tl_pv (pv_assign rfl)) ?_
                refine d_done (by kernel_rfl) ?_
                refine t_seq ?_
                refine p_ret rfl ?_
                have hn : rowR s = some (⟨s2.take k, (s2.drop k).take v, false⟩, s2.drop (k + v)) := by rw [hr, if_neg (by rintro (e | e | e) <;> first | omega | (subst e; simp at h18)), if_neg (by simpa using h32), if_neg (by rintro (e | e | e) <;> first | omega | (subst e; simp at h53))]
                rw [hn]
                refine tw_ent (Gs := [Ce b2 29 [vS (s2.take k), vS ((s2.drop k).take (k + v - k)), vB false]]) (ce_norm1 (by rfl) (by rfl)) ?_
                exact fin_ret () (vs := [_, _, _]) (Cs := [_]) rfl (.cell (l := [vS (s2.take k), vS ((s2.drop k).take (k + v - k)), vB false]) (us := [vS (s2.take k), vS ((s2.drop k).take (k + v - k)), vB false]) rfl (shows_ce (T := 29)) Try.underlying29 rfl ti29 (Nat.le_of_ble_eq_true rfl) rfl (.tmp rfl (.tmp rfl .nil))) (by simp [pack, rowV, rowC]) trivial (Ent.refl _)
end Go.Proofs.Ytimafngkifakfaa
