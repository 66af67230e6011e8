/- Texts of this proof, put together: SStore0, SStore1, SStore2, SStore3, SStore4, SStore5, SStore6. -/
import Derived.Test.YtimafngkifakfaaQB3
set_option linter.unusedVariables false
set_option linter.unusedSimpArgs false
/- Package store: texts that are read. -/
set_option maxRecDepth 100000
namespace Go.Proofs.Ytimafngkifakfaa

theorem store_may_sp (k : List UInt8) : SpF Try.prog 38 [vS k] (vB (decide (k ≠ [] ∧ k.length ≤ 60))) := by
  refine Sp.body (n := 10) Try.call38 Try.func38 rfl rfl rfl ?_
  refine p_seq rfl ?_
  refine p_region rfl ?_
  refine wo_pv (pv_assign rfl) rfl ?_
  refine q_seq ?_
  refine p_seq rfl ?_
  refine p_region rfl ?_
  refine wo_pv (pv_move rfl) rfl ?_
  refine wo_pv (pv_sneq rfl rfl) rfl ?_
  refine wo_pv (pv_move rfl) rfl ?_
  first | refine wo_gite (j := 2) rfl rfl (fun h5 => ?_) (fun h5 => ?_) | refine wo_gsplit (j := 2) rfl rfl (fun h5 => ?_) (fun h5 => ?_)
  · -- t5 True
    refine wo_in (b := true) rfl ?_
    refine wo_pv (pv_move rfl) rfl ?_
    refine wo_in (b := true) rfl ?_
    refine wo_pv (pv_call_len_s Try.underlying9 rfl) rfl ?_
    refine wo_in (b := true) rfl ?_
    refine wo_pv (pv_leq rfl rfl) rfl ?_
    refine wo_pv (pv_pick_t rfl rfl) rfl ?_
    refine wo_pv (pv_assign rfl) rfl ?_
    refine q_seq ?_
    refine p_ret rfl ?_
    refine fin_ret () (vs := [_]) rfl (.tmp rfl .nil) ?_ trivial ent_nil
    simp_all [pack]
    try omega
  · -- t5 False
    refine wo_out (b := false) rfl rfl rfl ?_
    refine wo_out (b := false) rfl rfl rfl ?_
    refine wo_out (b := false) rfl rfl rfl ?_
    refine wo_pv (pv_pick_f rfl rfl) rfl ?_
    refine wo_pv (pv_assign rfl) rfl ?_
    refine q_seq ?_
    refine p_ret rfl ?_
    refine fin_ret () (vs := [_]) rfl (.tmp rfl .nil) ?_ trivial ent_nil
    simp_all [pack]
    try omega
theorem indexByte_find (l : List UInt8) (c : UInt8) : Lib.indexByte l c = (match l.findIdx? (· == c) with | none => -1 | some i => (i : Int)) := by
  induction l with
  | nil => rfl
  | cons b l ih =>
    simp only [Lib.indexByte, List.findIdx?_cons, ih]
    by_cases h : b == c
    · simp [h]
    · simp only [h]
      cases l.findIdx? (· == c) with
      | none => rfl
      | some i => have h1 : ¬ ((i : Int) = -1) := by omega
                  simp [h1]
def numV (x : Nat × Bs × Bool) : Value := .tuple #[vI x.1, vS x.2.1, vB x.2.2]
theorem store_number_sp (s : List UInt8) (h : s.length ≤ 140737488355328) : SpF Try.prog 63 [vS s] (numV (numR s)) := by
  have hx := indexByte_find s 32
  cases hf : s.findIdx? (· == 32) with
  | none =>
    rw [hf] at hx
    have hr : numR s = (0, [], false) := by rw [numR, hf]
    rw [hr]
    have hI := IndexByte_sp s 32
    rw [show (32 : Int).toNat.toUInt8 = 32 from rfl, hx] at hI
    dsimp only at hI
    refine Sp.body (n := 25) Try.call63 Try.func63 rfl rfl rfl ?_
    refine p_seq rfl ?_
    refine p_region rfl ?_
    refine wo_pv (pv_assign rfl) rfl ?_
    refine wo_pv (pv_assign rfl) rfl ?_
    refine wo_pv (pv_assign rfl) rfl ?_
    refine q_seq ?_
    refine p_seq rfl ?_
    refine p_region rfl ?_
    refine wo_pv (pv_move rfl) rfl ?_
    refine r_callF (hI) rfl rfl rfl ?_
    refine wo_pv (pv_assign rfl) rfl ?_
    refine q_seq ?_
    refine p_seq rfl ?_
    refine p_seq rfl ?_
    refine p_region rfl ?_
    refine wo_pv (pv_move rfl) rfl ?_
    refine wo_pv (pv_lss rfl rfl) rfl ?_
    refine q_seq ?_
    first | refine p_ite rfl rfl (fun h11 => ?_) (fun h11 => ?_) | refine p_cond rfl rfl (fun h11 => ?_) (fun h11 => ?_)
    · -- t11 True
      refine p_seq rfl ?_
      refine p_region rfl ?_
      refine wo_pv (pv_assign rfl) rfl ?_
      refine wo_pv (pv_assign rfl) rfl ?_
      refine wo_pv (pv_assign rfl) rfl ?_
      refine q_seq ?_
      refine p_ret rfl ?_
      refine t_seq_ret ?_
      exact fin_ret () (vs := [_, _, _]) rfl (.tmp rfl (.tmp rfl (.tmp rfl .nil))) rfl trivial ent_nil
    · -- t11 False
      exfalso; revert h11; decide
      --done
  | some i =>
    rw [hf] at hx
    have hlt := (List.findIdx?_eq_some_iff_getElem.1 hf).1
    have hI := IndexByte_sp s 32
    rw [show (32 : Int).toNat.toUInt8 = 32 from rfl, hx] at hI
    dsimp only at hI
    have hr : numR s = ((readDec (s.take i)).getD 0, s.drop (i + 1), (readDec (s.take i)).isSome) := by
      rw [numR, hf]
      dsimp only
      cases readDec (s.take i) <;> rfl
    rw [hr]
    refine Sp.body (n := 25) Try.call63 Try.func63 rfl rfl rfl ?_
    refine p_seq rfl ?_
    refine p_region rfl ?_
    refine wo_pv (pv_assign rfl) rfl ?_
    refine wo_pv (pv_assign rfl) rfl ?_
    refine wo_pv (pv_assign rfl) rfl ?_
    refine q_seq ?_
    refine p_seq rfl ?_
    refine p_region rfl ?_
    refine wo_pv (pv_move rfl) rfl ?_
    refine r_callF (hI) rfl rfl rfl ?_
    refine wo_pv (pv_assign rfl) rfl ?_
    refine q_seq ?_
    refine p_seq rfl ?_
    refine p_seq rfl ?_
    refine p_region rfl ?_
    refine wo_pv (pv_move rfl) rfl ?_
    refine wo_pv (pv_lss rfl rfl) rfl ?_
    refine q_seq ?_
    first | refine p_ite rfl rfl (fun h11 => ?_) (fun h11 => ?_) | refine p_cond rfl rfl (fun h11 => ?_) (fun h11 => ?_)
    · -- t11 True
      exfalso; omega
      --done
    · -- t11 False
      refine p_skip rfl ?_
      refine t_seq ?_
      refine p_seq rfl ?_
      refine p_region rfl ?_
      refine wo_pv (pv_move rfl) rfl ?_
      refine wo_pv (pv_move rfl) rfl ?_
      refine wo_pv (pv_slice_tom Try.underlying9 rfl rfl rfl (by omega)) rfl ?_
      refine r_callF (digit_ReadDec_sp (s.take i) (by rw [List.length_take]; omega)) rfl rfl rfl ?_
      refine wo_pv (pv_move rfl) rfl ?_
      refine wo_pv (pv_extract rfl rfl) rfl ?_
      refine wo_pv (pv_extract rfl rfl) rfl ?_
      refine wo_pv (pv_assign rfl) rfl ?_
      refine wo_pv (pv_assign rfl) rfl ?_
      refine q_seq ?_
      refine p_seq rfl ?_
      refine d_draw rfl rfl rfl [] ?_
      refine d_first 0 rfl rfl rfl (by kernel_rfl) (by kernel_rfl) (tl_pv (pv_move rfl)) ?_
      refine d_first 1 rfl rfl rfl (by kernel_rfl) (by kernel_rfl) (tl_pv (pv_move rfl)) ?_
      refine d_first 2 rfl rfl rfl (by kernel_rfl) (by kernel_rfl) (tl_pv (pv_move rfl)) ?_
      refine d_first 3 rfl rfl rfl (by kernel_rfl) (by kernel_rfl) (tl_pv (pv_add rfl rfl (by omega))) ?_
      refine d_first 4 rfl rfl rfl (by kernel_rfl) (by kernel_rfl) (tl_pv (pv_slice_fromm (m := i + 1) Try.underlying9 rfl rfl (by omega) (by omega))) ?_
      refine d_first 5 rfl rfl rfl (by kernel_rfl) (by kernel_rfl) (tl_pv (pv_move rfl)) ?_
      refine d_first 6 rfl rfl rfl (by kernel_rfl) (by kernel_rfl) (tl_pv (pv_assign rfl)) ?_
      refine d_first 7 rfl rfl rfl (by kernel_rfl) (by kernel_rfl) (tl_pv (pv_assign rfl)) ?_
      refine d_first 8 rfl rfl rfl (by kernel_rfl) (by kernel_rfl) (tl_pv (pv_assign rfl)) ?_
      refine d_done (by kernel_rfl) ?_
      refine t_seq ?_
      refine p_ret rfl ?_
      exact fin_ret () (vs := [_, _, _]) rfl (.tmp rfl (.tmp rfl (.tmp rfl .nil))) rfl trivial ent_nil
def rowC (r : Rw) : List Value := [vS r.key, vS r.val, vB r.gone]
def rowV : Option (Rw × Bs) → Value
  | none => .tuple #[.agg #[vS [], vS [], vB false], vS [], vB false]
  | some (r, t) => .tuple #[.agg (rowC r).toArray, vS t, vB true]
theorem pre_dash (s : Bs) : Lib.hasPrefix s [45] = decide (s.take 1 = [45]) := by
  cases s with
  | nil => rfl
  | cons c s =>
    simp only [Lib.hasPrefix, List.isPrefixOf, List.take_succ_cons, List.take_zero, Bool.and_true]
    by_cases h : (45 : UInt8) = c
    · subst h; simp
    · have : ¬ c = 45 := fun e => h e.symm
      simp [h, this]

theorem rowR_eq {s s1 s2 : Bs} {k v : Nat} {ok ok2 : Bool} (h1 : numR s = (k, s1, ok)) (h2 : numR s1 = (v, s2, ok2)) : rowR s =
    if ok = false ∨ k < 1 ∨ 60 < k then none
    else if s1.take 1 = [45] then (if (s1.drop 1).length < k then none else some (⟨(s1.drop 1).take k, [], true⟩, (s1.drop 1).drop k))
    else if ok2 = false ∨ s2.length < k ∨ s2.length - k < v then none
    else some (⟨s2.take k, (s2.drop k).take v, false⟩, s2.drop (k + v)) := by
  unfold rowR
  rw [h1]
  cases ok with
  | false => simp
  | true =>
    dsimp only
    by_cases hk : k < 1 ∨ 60 < k
    · rw [if_pos hk, if_pos (.inr hk)]
    · rw [if_neg hk, if_neg (show ¬ (true = false ∨ k < 1 ∨ 60 < k) from fun h => hk (h.resolve_left (by simp)))]
      by_cases hd : s1.take 1 = [45]
      · rw [if_pos hd, if_pos hd]
      · rw [if_neg hd, if_neg hd, h2]
        cases ok2 with
        | false => simp
        | true => simp
theorem store_row_sp (s : List UInt8) (h : s.length ≤ 140737488355328) : SpF Try.prog 43 [vS s] (rowV (rowR s)) := by
  have n1 := store_number_sp s h
  have l1 := numR_len s
  cases e1 : numR s with
  | mk k q =>
  obtain ⟨s1, ok⟩ := q
  rw [e1] at n1 l1
  dsimp only at l1
  have n1 : SpF Try.prog 63 [vS s] (.tuple #[vI k, vS s1, vB ok]) := n1
  have n2 := store_number_sp s1 (by omega)
  have l2 := numR_len s1
  have hc := CutPrefix_sp s1 [45]
  rw [pre_dash] at hc
  cases e2 : numR s1 with
  | mk v q2 =>
  obtain ⟨s2, ok2⟩ := q2
  rw [e2] at n2 l2
  dsimp only at l2
  have n2 : SpF Try.prog 63 [vS s1] (.tuple #[vI v, vS s2, vB ok2]) := n2
  have hr := rowR_eq e1 e2
  clear e1 e2
  have hv : ∀ n : Nat, rowV none = .tuple #[.agg #[vS [], vS [], vB false], vS [], vB false] := fun _ => rfl
  have ht : (s1.take 1 = [45]) → Lib.trimPrefix s1 [45] = s1.drop 1 := fun e => by
    rw [Lib.trimPrefix, pre_dash, e]; simp
  refine Sp.body (n := 83) Try.call43 Try.func43 rfl rfl rfl ?_
  refine p_seq rfl ?_
  refine p_region rfl ?_
  refine wo_alloc (zs := [vS [], vS [], .bool false]) ti29 rfl rfl rfl (fun b2 => ?_)
  refine wo_pv (pv_assign rfl) rfl ?_
  refine wo_pv (pv_assign rfl) rfl ?_
  refine q_seq ?_
  refine p_seq rfl ?_
  refine p_region rfl ?_
  refine wo_pv (pv_move rfl) rfl ?_
  refine r_callF n1 rfl rfl rfl ?_
  refine wo_pv (pv_move rfl) rfl ?_
  refine wo_pv (pv_extract rfl rfl) rfl ?_
  refine wo_pv (pv_extract rfl rfl) rfl ?_
  refine wo_pv (pv_extract rfl rfl) rfl ?_
  refine wo_pv (pv_assign rfl) rfl ?_
  refine wo_pv (pv_assign rfl) rfl ?_
  refine wo_pv (pv_assign rfl) rfl ?_
  refine q_seq ?_
  refine p_seq rfl ?_
  refine p_seq rfl ?_
  refine p_region rfl ?_
  refine wo_pv (pv_move rfl) rfl ?_
  refine wo_pv (by first | exact pv_notd rfl | exact pv_not rfl) rfl ?_
  refine wo_pv (pv_move rfl) rfl ?_
  first | refine wo_gite (j := 2) rfl rfl (fun h18 => ?_) (fun h18 => ?_) | refine wo_gsplit (j := 2) rfl rfl (fun h18 => ?_) (fun h18 => ?_)
  · -- t18 True
    refine wo_out (b := true) rfl rfl rfl ?_
    refine wo_out (b := true) rfl rfl rfl ?_
    refine wo_pv (pv_pick_t rfl rfl) rfl ?_
    refine wo_pv (pv_move rfl) rfl ?_
    refine wo_out (b := true) rfl rfl rfl ?_
    refine wo_out (b := true) rfl rfl rfl ?_
    refine wo_pv (pv_pick_t rfl rfl) rfl ?_
    refine q_seq ?_
    refine p_true rfl rfl ?_
    refine p_seq rfl ?_
    refine p_region rfl ?_
    refine wo_pv (pv_buildS (vs := [vS [], vS [], .bool false]) Try.underlying29 ti29 rfl rfl rfl rfl rfl) rfl ?_
    refine r_storea ti29 rfl rfl rfl rfl (by simp; try omega) ?_
    refine wo_pv (pv_assign rfl) rfl ?_
    refine wo_pv (pv_assign rfl) rfl ?_
    refine q_seq ?_
    refine p_ret rfl ?_
    refine t_seq_ret ?_
    have hn : rowR s = none := by rw [hr, if_pos (by first | exact .inl (by simpa using h18) | exact .inr (.inl (by omega)) | exact .inr (.inr (by omega)))]
    rw [hn]
    refine tw_ent (Gs := [Ce b2 29 [vS [], vS [], vB false]]) (ce_norm1 (by rfl) (by rfl)) ?_
    exact fin_ret () (vs := [_, _, _]) (Cs := [_]) rfl (.cell (l := [vS [], vS [], vB false]) (us := [vS [], vS [], vB false]) rfl (shows_ce (T := 29)) Try.underlying29 rfl ti29 (Nat.le_of_ble_eq_true rfl) rfl (.tmp rfl (.tmp rfl .nil))) rfl trivial (Ent.refl _)
  · -- t18 False
    refine wo_in (b := false) rfl ?_
    refine wo_pv (pv_move rfl) rfl ?_
    refine wo_in (b := false) rfl ?_
    refine wo_pv (pv_lss rfl rfl) rfl ?_
    refine wo_pv (pv_pick_f rfl rfl) rfl ?_
    refine wo_pv (pv_move rfl) rfl ?_
    first | refine wo_gite (j := 6) rfl rfl (fun h22 => ?_) (fun h22 => ?_) | refine wo_gsplit (j := 6) rfl rfl (fun h22 => ?_) (fun h22 => ?_)
    · -- t22 True
      refine wo_out (b := true) rfl rfl rfl ?_
      refine wo_out (b := true) rfl rfl rfl ?_
      refine wo_pv (pv_pick_t rfl rfl) rfl ?_
      refine q_seq ?_
      refine p_true rfl rfl ?_
      refine p_seq rfl ?_
      refine p_region rfl ?_
      refine wo_pv (pv_buildS (vs := [vS [], vS [], .bool false]) Try.underlying29 ti29 rfl rfl rfl rfl rfl) rfl ?_
      refine r_storea ti29 rfl rfl rfl rfl (by simp; try omega) ?_
      refine wo_pv (pv_assign rfl) rfl ?_
      refine wo_pv (pv_assign rfl) rfl ?_
      refine q_seq ?_
      refine p_ret rfl ?_
      refine t_seq_ret ?_
      have hn : rowR s = none := by rw [hr, if_pos (by first | exact .inl (by simpa using h18) | exact .inr (.inl (by omega)) | exact .inr (.inr (by omega)))]
      rw [hn]
      refine tw_ent (Gs := [Ce b2 29 [vS [], vS [], vB false]]) (ce_norm1 (by rfl) (by rfl)) ?_
      exact fin_ret () (vs := [_, _, _]) (Cs := [_]) rfl (.cell (l := [vS [], vS [], vB false]) (us := [vS [], vS [], vB false]) rfl (shows_ce (T := 29)) Try.underlying29 rfl ti29 (Nat.le_of_ble_eq_true rfl) rfl (.tmp rfl (.tmp rfl .nil))) rfl trivial (Ent.refl _)
    · -- t22 False
      refine wo_in (b := false) rfl ?_
      refine wo_pv (pv_move rfl) rfl ?_
      refine wo_in (b := false) rfl ?_
      refine wo_pv (pv_gtr rfl rfl) rfl ?_
      refine wo_pv (pv_pick_f rfl rfl) rfl ?_
      refine q_seq ?_
      first | refine p_ite rfl rfl (fun h25 => ?_) (fun h25 => ?_) | refine p_cond rfl rfl (fun h25 => ?_) (fun h25 => ?_)
      · -- t25 True
        refine p_seq rfl ?_
        refine p_region rfl ?_
        refine wo_pv (pv_buildS (vs := [vS [], vS [], .bool false]) Try.underlying29 ti29 rfl rfl rfl rfl rfl) rfl ?_
        refine r_storea ti29 rfl rfl rfl rfl (by simp; try omega) ?_
        refine wo_pv (pv_assign rfl) rfl ?_
        refine wo_pv (pv_assign rfl) rfl ?_
        refine q_seq ?_
        refine p_ret rfl ?_
        refine t_seq_ret ?_
        have hn : rowR s = none := by rw [hr, if_pos (by first | exact .inl (by simpa using h18) | exact .inr (.inl (by omega)) | exact .inr (.inr (by omega)))]
        rw [hn]
        refine tw_ent (Gs := [Ce b2 29 [vS [], vS [], vB false]]) (ce_norm1 (by rfl) (by rfl)) ?_
        exact fin_ret () (vs := [_, _, _]) (Cs := [_]) rfl (.cell (l := [vS [], vS [], vB false]) (us := [vS [], vS [], vB false]) rfl (shows_ce (T := 29)) Try.underlying29 rfl ti29 (Nat.le_of_ble_eq_true rfl) rfl (.tmp rfl (.tmp rfl .nil))) rfl trivial (Ent.refl _)
      · -- t25 False
        refine p_skip rfl ?_
        refine t_seq ?_
        refine p_seq rfl ?_
        refine p_seq rfl ?_
        refine p_region rfl ?_
        refine wo_pv (pv_move rfl) rfl ?_
        refine r_callF (hc) rfl rfl rfl ?_
        refine wo_pv (pv_move rfl) rfl ?_
        refine wo_pv (pv_extract rfl rfl) rfl ?_
        refine wo_pv (pv_extract rfl rfl) rfl ?_
        refine wo_pv (pv_assign rfl) rfl ?_
        refine wo_pv (pv_assign rfl) rfl ?_
        refine q_seq ?_
        refine p_seq rfl ?_
        refine p_region rfl ?_
        refine wo_pv (pv_move rfl) rfl ?_
        refine q_seq ?_
        first | refine p_ite rfl rfl (fun h32 => ?_) (fun h32 => ?_) | refine p_cond rfl rfl (fun h32 => ?_) (fun h32 => ?_)
        · -- t32 True
          rw [ht h32]
          refine p_seq rfl ?_
          refine p_seq rfl ?_
          refine p_region rfl ?_
          refine wo_pv (pv_move rfl) rfl ?_
          refine wo_pv (pv_move rfl) rfl ?_
          refine wo_pv (pv_call_len_s Try.underlying9 rfl) rfl ?_
          refine wo_pv (pv_gtr rfl rfl) rfl ?_
          refine q_seq ?_
          first | refine p_ite rfl rfl (fun h36 => ?_) (fun h36 => ?_) | refine p_cond rfl rfl (fun h36 => ?_) (fun h36 => ?_)
          · -- t36 True
            refine p_seq rfl ?_
            refine p_region rfl ?_
            refine wo_pv (pv_buildS (vs := [vS [], vS [], .bool false]) Try.underlying29 ti29 rfl rfl rfl rfl rfl) rfl ?_
            refine r_storea ti29 rfl rfl rfl rfl (by simp; try omega) ?_
            refine wo_pv (pv_assign rfl) rfl ?_
            refine wo_pv (pv_assign rfl) rfl ?_
            refine q_seq ?_
            refine p_ret rfl ?_
            refine t_seq_ret ?_
            refine t_seq_ret ?_
            have hn : rowR s = none := by rw [hr, if_neg (by rintro (e | e | e) <;> first | omega | (subst e; simp at h18)), if_pos h32, if_pos (by omega)]
            rw [hn]
            refine tw_ent (Gs := [Ce b2 29 [vS [], vS [], vB false]]) (ce_norm1 (by rfl) (by rfl)) ?_
            exact fin_ret () (vs := [_, _, _]) (Cs := [_]) rfl (.cell (l := [vS [], vS [], vB false]) (us := [vS [], vS [], vB false]) rfl (shows_ce (T := 29)) Try.underlying29 rfl ti29 (Nat.le_of_ble_eq_true rfl) rfl (.tmp rfl (.tmp rfl .nil))) rfl trivial (Ent.refl _)
          · -- t36 False
            refine p_skip rfl ?_
            refine t_seq ?_
            refine p_seq rfl ?_
            refine d_draw rfl rfl rfl [] ?_
            refine d_first 0 rfl rfl rfl (by kernel_rfl) (by kernel_rfl) (tl_pv (pv_move rfl)) ?_
            refine d_first 1 rfl rfl rfl (by kernel_rfl) (by kernel_rfl) (tl_pv (pv_move rfl)) ?_
            refine d_first 2 rfl rfl rfl (by kernel_rfl) (by kernel_rfl) (tl_pv (pv_slice_tom Try.underlying9 rfl rfl rfl (by omega))) ?_
            refine d_first 3 rfl rfl rfl (by kernel_rfl) (by kernel_rfl) (tl_pv (pv_buildS (vs := [_, vS [], _]) Try.underlying29 ti29 rfl rfl rfl rfl rfl)) ?_
            refine d_first 4 rfl rfl rfl (by kernel_rfl) (by kernel_rfl) (tl_pv (pv_move rfl)) ?_
            refine d_first 5 rfl rfl rfl (by kernel_rfl) (by kernel_rfl) (tl_pv (pv_move rfl)) ?_
            refine d_first 6 rfl rfl rfl (by kernel_rfl) (by kernel_rfl) (tl_pv (pv_slice_fromm Try.underlying9 rfl rfl rfl (by omega))) ?_
            refine d_next 7 (by kernel_rfl) rfl ?_
            refine an_storea ti29 rfl rfl rfl rfl (by simp; try omega) ?_
            refine d_first 8 rfl rfl rfl (by kernel_rfl) (by kernel_rfl) (tl_pv (pv_assign rfl)) ?_
            refine d_first 9 rfl rfl rfl (by kernel_rfl) (by kernel_rfl) (tl_pv (pv_assign rfl)) ?_
            refine d_done (by kernel_rfl) ?_
            refine t_seq ?_
            refine p_ret rfl ?_
            refine t_seq_ret ?_
            have hn : rowR s = some (⟨(s1.drop 1).take k, [], true⟩, (s1.drop 1).drop k) := by rw [hr, if_neg (by rintro (e | e | e) <;> first | omega | (subst e; simp at h18)), if_pos h32, if_neg (by omega)]
            rw [hn]
            refine tw_ent (Gs := [Ce b2 29 [vS ((s1.drop 1).take k), vS [], vB true]]) (ce_norm1 (by rfl) (by rfl)) ?_
            exact fin_ret () (vs := [_, _, _]) (Cs := [_]) rfl (.cell (l := [vS ((s1.drop 1).take k), vS [], vB true]) (us := [vS ((s1.drop 1).take k), vS [], vB true]) rfl (shows_ce (T := 29)) Try.underlying29 rfl ti29 (Nat.le_of_ble_eq_true rfl) rfl (.tmp rfl (.tmp rfl .nil))) rfl trivial (Ent.refl _)
        · -- t32 False
          refine p_skip rfl ?_
          refine t_seq ?_
          refine p_seq rfl ?_
          refine p_region rfl ?_
          refine wo_pv (pv_move rfl) rfl ?_
          refine r_callF n2 rfl rfl rfl ?_
          refine wo_pv (pv_move rfl) rfl ?_
          refine wo_pv (pv_extract rfl rfl) rfl ?_
          refine wo_pv (pv_extract rfl rfl) rfl ?_
          refine wo_pv (pv_extract rfl rfl) rfl ?_
          refine wo_pv (pv_assign rfl) rfl ?_
          refine wo_pv (pv_assign rfl) rfl ?_
          refine wo_pv (pv_assign rfl) rfl ?_
          refine q_seq ?_
          refine p_seq rfl ?_
          refine p_seq rfl ?_
          refine p_region rfl ?_
          refine wo_pv (pv_move rfl) rfl ?_
          refine wo_pv (by first | exact pv_notd rfl | exact pv_not rfl) rfl ?_
          refine wo_pv (pv_move rfl) rfl ?_
          first | refine wo_gite (j := 2) rfl rfl (fun h53 => ?_) (fun h53 => ?_) | refine wo_gsplit (j := 2) rfl rfl (fun h53 => ?_) (fun h53 => ?_)
          · -- t53 True
            refine wo_out (b := true) rfl rfl rfl ?_
            refine wo_out (b := true) rfl rfl rfl ?_
            refine wo_out (b := true) rfl rfl rfl ?_
            refine wo_out (b := true) rfl rfl rfl ?_
            refine wo_pv (pv_pick_t rfl rfl) rfl ?_
            refine wo_pv (pv_move rfl) rfl ?_
            refine wo_out (b := true) rfl rfl rfl ?_
            refine wo_out (b := true) rfl rfl rfl ?_
            refine wo_out (b := true) rfl rfl rfl ?_
            refine wo_out (b := true) rfl rfl rfl ?_
            refine wo_out (b := true) rfl rfl rfl ?_
            refine wo_out (b := true) rfl rfl rfl ?_
            refine wo_pv (pv_pick_t rfl rfl) rfl ?_
            refine q_seq ?_
            refine p_true rfl rfl ?_
            refine p_seq rfl ?_
            refine p_region rfl ?_
            refine wo_pv (pv_buildS (vs := [vS [], vS [], .bool false]) Try.underlying29 ti29 rfl rfl rfl rfl rfl) rfl ?_
            refine r_storea ti29 rfl rfl rfl rfl (by simp; try omega) ?_
            refine wo_pv (pv_assign rfl) rfl ?_
            refine wo_pv (pv_assign rfl) rfl ?_
            refine q_seq ?_
            refine p_ret rfl ?_
            refine t_seq_ret ?_
            have hn : rowR s = none := by rw [hr, if_neg (by rintro (e | e | e) <;> first | omega | (subst e; simp at h18)), if_neg (by simpa using h32), if_pos (by first | exact .inl (by simpa using h53) | exact .inr (.inl (by omega)) | exact .inr (.inr (by omega)))]
            rw [hn]
            refine tw_ent (Gs := [Ce b2 29 [vS [], vS [], vB false]]) (ce_norm1 (by rfl) (by rfl)) ?_
            exact fin_ret () (vs := [_, _, _]) (Cs := [_]) rfl (.cell (l := [vS [], vS [], vB false]) (us := [vS [], vS [], vB false]) rfl (shows_ce (T := 29)) Try.underlying29 rfl ti29 (Nat.le_of_ble_eq_true rfl) rfl (.tmp rfl (.tmp rfl .nil))) rfl trivial (Ent.refl _)
          · -- t53 False
            refine wo_in (b := false) rfl ?_
            refine wo_pv (pv_move rfl) rfl ?_
            refine wo_in (b := false) rfl ?_
            refine wo_pv (pv_move rfl) rfl ?_
            refine wo_in (b := false) rfl ?_
            refine wo_pv (pv_call_len_s Try.underlying9 rfl) rfl ?_
            refine wo_in (b := false) rfl ?_
            refine wo_pv (pv_gtr rfl rfl) rfl ?_
            refine wo_pv (pv_pick_f rfl rfl) rfl ?_
            refine wo_pv (pv_move rfl) rfl ?_
            first | refine wo_gite (j := 8) rfl rfl (fun h59 => ?_) (fun h59 => ?_) | refine wo_gsplit (j := 8) rfl rfl (fun h59 => ?_) (fun h59 => ?_)
            · -- t59 True
              refine wo_out (b := true) rfl rfl rfl ?_
              refine wo_out (b := true) rfl rfl rfl ?_
              refine wo_out (b := true) rfl rfl rfl ?_
              refine wo_out (b := true) rfl rfl rfl ?_
              refine wo_out (b := true) rfl rfl rfl ?_
              refine wo_out (b := true) rfl rfl rfl ?_
              refine wo_pv (pv_pick_t rfl rfl) rfl ?_
              refine q_seq ?_
              refine p_true rfl rfl ?_
              refine p_seq rfl ?_
              refine p_region rfl ?_
              refine wo_pv (pv_buildS (vs := [vS [], vS [], .bool false]) Try.underlying29 ti29 rfl rfl rfl rfl rfl) rfl ?_
              refine r_storea ti29 rfl rfl rfl rfl (by simp; try omega) ?_
              refine wo_pv (pv_assign rfl) rfl ?_
              refine wo_pv (pv_assign rfl) rfl ?_
              refine q_seq ?_
              refine p_ret rfl ?_
              refine t_seq_ret ?_
              have hn : rowR s = none := by rw [hr, if_neg (by rintro (e | e | e) <;> first | omega | (subst e; simp at h18)), if_neg (by simpa using h32), if_pos (by first | exact .inl (by simpa using h53) | exact .inr (.inl (by omega)) | exact .inr (.inr (by omega)))]
              rw [hn]
              refine tw_ent (Gs := [Ce b2 29 [vS [], vS [], vB false]]) (ce_norm1 (by rfl) (by rfl)) ?_
              exact fin_ret () (vs := [_, _, _]) (Cs := [_]) rfl (.cell (l := [vS [], vS [], vB false]) (us := [vS [], vS [], vB false]) rfl (shows_ce (T := 29)) Try.underlying29 rfl ti29 (Nat.le_of_ble_eq_true rfl) rfl (.tmp rfl (.tmp rfl .nil))) rfl trivial (Ent.refl _)
            · -- t59 False
              refine wo_in (b := false) rfl ?_
              refine wo_pv (pv_move rfl) rfl ?_
              refine wo_in (b := false) rfl ?_
              refine wo_pv (pv_move rfl) rfl ?_
              refine wo_in (b := false) rfl ?_
              refine wo_pv (pv_call_len_s Try.underlying9 rfl) rfl ?_
              refine wo_in (b := false) rfl ?_
              refine wo_pv (pv_move rfl) rfl ?_
              refine wo_in (b := false) rfl ?_
              refine wo_pv (pv_sub rfl rfl (by omega)) rfl ?_
              refine wo_in (b := false) rfl ?_
              refine wo_pv (pv_gtr rfl rfl) rfl ?_
              refine wo_pv (pv_pick_f rfl rfl) rfl ?_
              refine q_seq ?_
              first | refine p_ite rfl rfl (fun h66 => ?_) (fun h66 => ?_) | refine p_cond rfl rfl (fun h66 => ?_) (fun h66 => ?_)
              · -- t66 True
                refine p_seq rfl ?_
                refine p_region rfl ?_
                refine wo_pv (pv_buildS (vs := [vS [], vS [], .bool false]) Try.underlying29 ti29 rfl rfl rfl rfl rfl) rfl ?_
                refine r_storea ti29 rfl rfl rfl rfl (by simp; try omega) ?_
                refine wo_pv (pv_assign rfl) rfl ?_
                refine wo_pv (pv_assign rfl) rfl ?_
                refine q_seq ?_
                refine p_ret rfl ?_
                refine t_seq_ret ?_
                have hn : rowR s = none := by rw [hr, if_neg (by rintro (e | e | e) <;> first | omega | (subst e; simp at h18)), if_neg (by simpa using h32), if_pos (by first | exact .inl (by simpa using h53) | exact .inr (.inl (by omega)) | exact .inr (.inr (by omega)))]
                rw [hn]
                refine tw_ent (Gs := [Ce b2 29 [vS [], vS [], vB false]]) (ce_norm1 (by rfl) (by rfl)) ?_
                exact fin_ret () (vs := [_, _, _]) (Cs := [_]) rfl (.cell (l := [vS [], vS [], vB false]) (us := [vS [], vS [], vB false]) rfl (shows_ce (T := 29)) Try.underlying29 rfl ti29 (Nat.le_of_ble_eq_true rfl) rfl (.tmp rfl (.tmp rfl .nil))) rfl trivial (Ent.refl _)
              · -- t66 False
                refine p_skip rfl ?_
                refine t_seq ?_
                refine p_seq rfl ?_
                refine d_draw rfl rfl rfl [] ?_
                refine d_first 0 rfl rfl rfl (by kernel_rfl) (by kernel_rfl) (tl_pv (pv_move rfl)) ?_
                refine d_first 1 rfl rfl rfl (by kernel_rfl) (by kernel_rfl) (tl_pv (pv_move rfl)) ?_
                refine d_first 2 rfl rfl rfl (by kernel_rfl) (by kernel_rfl) (tl_pv (pv_slice_tom Try.underlying9 rfl rfl rfl (by omega))) ?_
                refine d_first 3 rfl rfl rfl (by kernel_rfl) (by kernel_rfl) (tl_pv (pv_move rfl)) ?_
                refine d_first 4 rfl rfl rfl (by kernel_rfl) (by kernel_rfl) (tl_pv (pv_move rfl)) ?_
                refine d_first 5 rfl rfl rfl (by kernel_rfl) (by kernel_rfl) (tl_pv (pv_move rfl)) ?_
                refine d_first 6 rfl rfl rfl (by kernel_rfl) (by kernel_rfl) (tl_pv (pv_move rfl)) ?_
                refine d_first 7 rfl rfl rfl (by kernel_rfl) (by kernel_rfl) (tl_pv (pv_add rfl rfl (by omega))) ?_
                refine d_first 8 rfl rfl rfl (by kernel_rfl) (by kernel_rfl) (tl_pv (pv_slice_inm (m := k) (o := k + v) Try.underlying9 rfl rfl rfl rfl (by omega) (by omega) (by omega))) ?_
                refine d_first 9 rfl rfl rfl (by kernel_rfl) (by kernel_rfl) (tl_pv (pv_buildS (vs := [_, _, .bool false]) Try.underlying29 ti29 rfl rfl rfl rfl rfl)) ?_
                refine d_first 10 rfl rfl rfl (by kernel_rfl) (by kernel_rfl) (tl_pv (pv_move rfl)) ?_
                refine d_first 11 rfl rfl rfl (by kernel_rfl) (by kernel_rfl) (tl_pv (pv_move rfl)) ?_
                refine d_first 12 rfl rfl rfl (by kernel_rfl) (by kernel_rfl) (tl_pv (pv_move rfl)) ?_
                refine d_first 13 rfl rfl rfl (by kernel_rfl) (by kernel_rfl) (tl_pv (pv_add rfl rfl (by omega))) ?_
                refine d_first 14 rfl rfl rfl (by kernel_rfl) (by kernel_rfl) (tl_pv (pv_slice_fromm (m := k + v) Try.underlying9 rfl rfl (by omega) (by omega))) ?_
                refine d_next 15 (by kernel_rfl) rfl ?_
                refine an_storea ti29 rfl rfl rfl rfl (by simp; try omega) ?_
                refine d_first 16 rfl rfl rfl (by kernel_rfl) (by kernel_rfl) (tl_pv (pv_assign rfl)) ?_
                refine d_first 17 rfl rfl rfl (by kernel_rfl) (by kernel_rfl) (tl_pv (pv_assign rfl)) ?_
                refine d_done (by kernel_rfl) ?_
                refine t_seq ?_
                refine p_ret rfl ?_
                have hn : rowR s = some (⟨s2.take k, (s2.drop k).take v, false⟩, s2.drop (k + v)) := by rw [hr, if_neg (by rintro (e | e | e) <;> first | omega | (subst e; simp at h18)), if_neg (by simpa using h32), if_neg (by rintro (e | e | e) <;> first | omega | (subst e; simp at h53))]
                rw [hn]
                refine tw_ent (Gs := [Ce b2 29 [vS (s2.take k), vS ((s2.drop k).take (k + v - k)), vB false]]) (ce_norm1 (by rfl) (by rfl)) ?_
                exact fin_ret () (vs := [_, _, _]) (Cs := [_]) rfl (.cell (l := [vS (s2.take k), vS ((s2.drop k).take (k + v - k)), vB false]) (us := [vS (s2.take k), vS ((s2.drop k).take (k + v - k)), vB false]) rfl (shows_ce (T := 29)) Try.underlying29 rfl ti29 (Nat.le_of_ble_eq_true rfl) rfl (.tmp rfl (.tmp rfl .nil))) (by simp [pack, rowV, rowC]) trivial (Ent.refl _)
end Go.Proofs.Ytimafngkifakfaa

/- Package store: rows that are read, and written as a text. -/
set_option maxRecDepth 100000
namespace Go.Proofs.Ytimafngkifakfaa

def rowG (o : Option (Rw × Bs)) : Rw := (o.map (·.1)).getD ⟨[], [], false⟩
def rowT (o : Option (Rw × Bs)) : Bs := (o.map (·.2)).getD []
theorem rowV_eq (o : Option (Rw × Bs)) : rowV o = .tuple #[.agg #[vS (rowG o).key, vS (rowG o).val, vB (rowG o).gone], vS (rowT o), vB o.isSome] := by
  cases o with
  | none => rfl
  | some p => obtain ⟨r, t⟩ := p; rfl
theorem store_Read_sp (s : List UInt8) (h : s.length ≤ 1099511627776) : Sp Try.prog 15 [vS s] [] (X := Option Addr × Nat) (fun x => .tuple #[.slice x.1 ((readR s).getD []).length x.2, vB (readR s).isSome]) (fun _ => True)
    (fun x => [Row 29 3 (.slice x.1 ((readR s).getD []).length x.2) ((readR s).getD []).length (((readR s).getD []).flatMap rowC)]) := by
  refine Sp.body (n := 24) Try.call15 Try.func15 rfl rfl rfl ?_
  refine p_seq rfl ?_
  refine p_region rfl ?_
  refine wo_pv (pv_assign rfl) rfl ?_
  refine wo_pv (pv_assign rfl) rfl ?_
  refine q_seq ?_
  refine p_seq rfl ?_
  refine p_region rfl ?_
  refine wo_pv (pv_assign rfl) rfl ?_
  refine q_seq ?_
  refine p_seq rfl ?_
  refine p_block 0 rfl ?_
  refine p_loop (fun (i : { p : (Option Addr × Nat) × List Rw × Bs // readR s = (readR p.2.2).map (p.2.1 ++ ·) ∧ p.2.1.length + p.2.2.length ≤ s.length }) => [(0, vS i.1.2.2), (4, .slice i.1.1.1 i.1.2.1.length i.1.1.2)]) (fun (i : { p : (Option Addr × Nat) × List Rw × Bs // readR s = (readR p.2.2).map (p.2.1 ++ ·) ∧ p.2.1.length + p.2.2.length ≤ s.length }) => [Row 29 3 (.slice i.1.1.1 i.1.2.1.length i.1.1.2) i.1.2.1.length (i.1.2.1.flatMap rowC)]) (fun (i : { p : (Option Addr × Nat) × List Rw × Bs // readR s = (readR p.2.2).map (p.2.1 ++ ·) ∧ p.2.1.length + p.2.2.length ≤ s.length }) => i.1.2.2.length) rfl (⟨((none, 0), [], s), by cases readR s <;> simp, by simp⟩) ?_ ?_ (fun i => ?_)
  · exact ⟨rfl, rfl, trivial⟩
  · -- H at start
    exact row_nil
  obtain ⟨⟨⟨a, c⟩, out, rs⟩, hi, hl⟩ := i
  dsimp only at hi hl
  try dsimp only
  refine p_seq rfl ?_
  refine p_seq rfl ?_
  refine p_region rfl ?_
  refine wo_pv (pv_move rfl) rfl ?_
  refine wo_pv (pv_sneq rfl rfl) rfl ?_
  refine q_seq ?_
  first | refine p_ite rfl rfl (fun h9 => ?_) (fun h9 => ?_) | refine p_cond rfl rfl (fun h9 => ?_) (fun h9 => ?_)
  · -- t9 True
    refine p_skip rfl ?_
    refine t_seq ?_
    refine p_block 1 rfl ?_
    refine p_seq rfl ?_
    have hrow := store_row_sp rs (by omega)
    rw [rowV_eq] at hrow
    refine p_region rfl ?_
    refine wo_pv (pv_move rfl) rfl ?_
    refine r_callF hrow rfl rfl rfl ?_
    refine wo_pv (pv_move rfl) rfl ?_
    refine wo_pv (pv_extract rfl rfl) rfl ?_
    refine wo_pv (pv_extract rfl rfl) rfl ?_
    refine wo_pv (pv_extract rfl rfl) rfl ?_
    refine wo_alloc (zs := [vS [], vS [], .bool false]) ti29 rfl rfl rfl (fun b5 => ?_)
    refine r_storea ti29 rfl rfl rfl rfl (by simp; try omega) ?_
    refine wo_pv (pv_assign rfl) rfl ?_
    refine wo_pv (pv_assign rfl) rfl ?_
    refine q_seq ?_
    refine p_seq rfl ?_
    refine p_seq rfl ?_
    refine p_region rfl ?_
    refine wo_pv (pv_move rfl) rfl ?_
    refine wo_pv (by first | exact pv_notd rfl | exact pv_not rfl) rfl ?_
    refine q_seq ?_
    first | refine p_ite rfl rfl (fun h17 => ?_) (fun h17 => ?_) | refine p_cond rfl rfl (fun h17 => ?_) (fun h17 => ?_)
    · -- t17 True
      refine p_seq rfl ?_
      refine p_region rfl ?_
      refine wo_pv (pv_assign rfl) rfl ?_
      refine wo_pv (pv_assign rfl) rfl ?_
      refine q_seq ?_
      refine p_ret rfl ?_
      refine t_seq_ret ?_
      refine to_block_ret ?_
      refine to_inv_ret ?_
      refine to_block_ret ?_
      refine t_seq_ret ?_
      have hn : rowR rs = none := by cases e : rowR rs with
        | none => rfl
        | some q => rw [e] at h17; simp at h17
      have hi2 := readR_none h9 hn
      rw [hi2] at hi
      have hi3 : readR s = none := hi
      rw [hi3]
      refine fin_ret (none, 0) (vs := [_, _]) (Cs := []) rfl (.tmp rfl (.tmp rfl .nil)) rfl trivial ?_
      exact ent_step row_nil ent_nil
    · -- t17 False
      refine p_skip rfl ?_
      refine t_seq ?_
      refine p_region rfl ?_
      refine wo_pv (pv_move rfl) rfl ?_
      refine r_loada (vs := [_, _, _]) Try.underlying29 rfl ti29 rfl (by exact Nat.le_of_ble_eq_true rfl) (by rfl) rfl ?_
      refine r_buildSliceL [_] (cs := [_, _, _]) Try.underlying38 ti29 rfl rfl rfl rfl rfl rfl rfl rfl (fun b20 => ?_)
      refine r_append1 (sz := 3) (bytes := 40) Try.underlying38 ti29 rfl rfl rfl rfl rfl rfl rfl (by rfl) (by rfl) (by omega) (by simp only [maxLen]; omega) rfl (fun a21 c21 => ?_)
      refine wo_pv (pv_move rfl) rfl ?_
      refine wo_pv (pv_assign rfl) rfl ?_
      refine wo_pv (pv_assign rfl) rfl ?_
      refine wo_nil ?_
      refine to_block ?_
      obtain ⟨q, hq⟩ : ∃ q, rowR rs = some q := by cases e : rowR rs with
        | none => rw [e] at h17; simp at h17
        | some q => exact ⟨q, rfl⟩
      obtain ⟨r, t⟩ := q
      have hlt := rowR_lt hq
      have hi2 := readR_some h9 hq
      rw [hq]
      refine to_inv ⟨((a21, c21), out ++ [r], t), ?_, ?_⟩ ?_ ⟨rfl, sl_eq (by simp), trivial⟩ ?_
      · rw [hi, hi2]; cases readR t <;> simp
      · simp only [List.length_append, List.length_singleton]; omega
      · exact hlt
      · simp only [List.flatMap_append, List.length_append, List.length_singleton]
        exact row_norm1 (by rfl) (by rfl)
  · -- t9 False
    refine p_exit 0 rfl ?_
    refine t_seq_exit ?_
    refine to_inv_exit ?_
    refine to_block_here ?_
    refine t_seq ?_
    refine p_seq rfl ?_
    refine p_region rfl ?_
    refine wo_pv (pv_move rfl) rfl ?_
    refine wo_pv (pv_assign rfl) rfl ?_
    refine wo_pv (pv_assign rfl) rfl ?_
    refine q_seq ?_
    refine p_ret rfl ?_
    have hrs : rs = [] := by simpa using h9
    subst hrs
    rw [readR_nil] at hi
    have hi3 : readR s = some out := by rw [hi]; simp
    rw [hi3]
    refine fin_ret (a, c) (vs := [_, _]) (Cs := []) rfl (.tmp rfl (.tmp rfl .nil)) rfl trivial ?_
    simp only [Option.getD_some]
    exact ent_pick
end Go.Proofs.Ytimafngkifakfaa

/- Package store: Text. -/
set_option maxRecDepth 100000
namespace Go.Proofs.Ytimafngkifakfaa

theorem fold_newB {p T : Nat} {v0 v1 : Value} {Hs Rs : List HP} [q : OwnC p T [v0, v1] Hs Rs] (hT : T = 88) (h0 : v0 = .pointer none) (h1 : v1 = .slice none 0 0) : Ent Hs (IsB p [] :: Rs) := by
  subst hT; subst h0; subst h1
  refine ent_ex (.pointer none) ?_
  refine ent_ex (.slice none 0 0) ?_
  refine ent_al (ent_pu ⟨.inl rfl, fun _ => rfl⟩ ?_)
  exact ent_step (ent_pick1 q.get) row_nil
theorem textOf_split {l : List Rw} {j : Nat} (h : j < l.length) : textOf l = textOf (l.take j) ++ (rowText l[j] ++ textOf (l.drop (j + 1))) := by
  have e : l = l.take j ++ (l[j] :: l.drop (j + 1)) := by rw [← List.drop_eq_getElem_cons h, List.take_append_drop]
  unfold textOf
  conv => lhs; rw [e]
  rw [List.flatMap_append, List.flatMap_cons]
theorem textOf_succ {l : List Rw} {j : Nat} (h : j < l.length) : textOf (l.take (j + 1)) = textOf (l.take j) ++ rowText l[j] := by
  unfold textOf
  rw [List.take_succ_eq_append_getElem h, List.flatMap_append, List.flatMap_cons, List.flatMap_nil, List.append_nil]
theorem store_Text_sp {B : HP} {a : Option Addr} (n c : Nat) (l : List Rw) (sh : SlA B a (l.flatMap rowC)) (hn : l.length = n) (hb : n ≤ 140737488355328) (hk : ∀ r ∈ l, r.key.length ≤ 1073741824 ∧ r.val.length ≤ 1073741824) (ht : (textOf l).length ≤ 4398046511104) :
    Sp1 Try.prog 13 [.slice a n c] [B] (vS (textOf l)) [B] := by
  subst hn
  haveI : RdSl a (l.flatMap rowC) [B] := ⟨⟨B, sh, .here⟩⟩
  refine Sp.body (n := 38) Try.call13 Try.func13 rfl rfl rfl ?_
  refine p_seq rfl ?_
  refine p_region rfl ?_
  refine wo_pv (pv_assign rfl) rfl ?_
  refine q_seq ?_
  refine p_seq rfl ?_
  refine p_region rfl ?_
  refine wo_alloc (zs := [.pointer none, .slice none 0 0]) ti88 rfl rfl rfl (fun b3 => ?_)
  refine wo_ent' (fold_newB (p := b3) (by rfl) (by rfl) (by rfl)) ?_
  refine q_seq ?_
  refine p_seq rfl ?_
  refine p_seq rfl ?_
  refine p_region rfl ?_
  refine wo_pv (pv_move rfl) rfl ?_
  refine wo_pv (pv_call_len_sl Try.underlying38 rfl) rfl ?_
  refine wo_pv (pv_move rfl) rfl ?_
  refine q_seq ?_
  refine p_block 0 rfl ?_
  refine p_loop (fun (i : { j : Nat // j ≤ l.length }) => [(3, .pointer (some ⟨b3, 0, none⟩)), (6, .slice a l.length c), (7, vI l.length), (8, vI i.1)]) (fun (i : { j : Nat // j ≤ l.length }) => [IsB b3 (textOf (l.take i.1)), B]) (fun (i : { j : Nat // j ≤ l.length }) => l.length - i.1) rfl (⟨0, Nat.zero_le _⟩) ?_ ?_ (fun i => ?_)
  · exact ⟨rfl, rfl, rfl, rfl, trivial⟩
  · -- H at start
    exact Ent.refl _
  obtain ⟨j, hj⟩ := i
  try dsimp only
  refine p_seq rfl ?_
  refine p_region rfl ?_
  refine wo_pv (pv_lss rfl rfl) rfl ?_
  refine q_seq ?_
  refine p_seq rfl ?_
  first | refine p_ite rfl rfl (fun h9 => ?_) (fun h9 => ?_) | refine p_cond rfl rfl (fun h9 => ?_) (fun h9 => ?_)
  · -- t9 True
    refine p_skip rfl ?_
    refine t_seq ?_
    refine p_seq rfl ?_
    refine p_block 1 rfl ?_
    refine p_seq rfl ?_
    have hjl : j < l.length := by omega
    have hsp := congrArg List.length (textOf_split hjl)
    obtain ⟨hk1, hk2⟩ := hk l[j] (List.getElem_mem _)
    have hsu := textOf_succ hjl
    rw [List.length_append, List.length_append] at hsp
    have hrl : (rowText l[j]).length = (decN l[j].key.length).length + 1 + (if l[j].gone then 1 + l[j].key.length else (decN l[j].val.length).length + 1 + l[j].key.length + l[j].val.length) := by
      unfold rowText; split <;> simp [*] <;> omega
    refine p_region rfl ?_
    refine r_elemAddr (sz := 3) Try.underlying38 ti29 rfl rfl rfl rfl (by omega) (by first | (rw [List.length_map]; omega) | (rw [flat_len (sz := 3) (fun _ => rfl)]; omega) | (simp; omega)) rfl rfl ?_
    refine r_eloada (vs := [_, _, _]) (sz := 3) Try.underlying29 rfl ti29 rfl rfl (by rw [flat_len (sz := 3) (fun _ => rfl)]; omega) rfl (by refine get_flat (fun x => ?_) ?_ <;> first | rfl | omega) rfl ?_
    refine wo_alloc (zs := [vS [], vS [], .bool false]) ti29 rfl rfl rfl (fun b5 => ?_)
    refine r_storea ti29 rfl rfl rfl rfl (by simp; try omega) ?_
    refine q_seq ?_
    refine p_seq rfl ?_
    refine p_region rfl ?_
    refine wo_pv (pv_fieldAddrk Try.underlying29 rfl ti9 rfl rfl (k := 0) rfl (by first | exact Nat.zero_add _ | exact Nat.add_zero _ | exact rfl)) rfl ?_
    refine r_load Try.underlying9 rfl rfl rfl rfl ?_
    refine wo_pv (pv_call_len_s Try.underlying9 rfl) rfl ?_
    refine r_callF (digit_Dec_sp l[j].key.length hk1) rfl rfl rfl ?_
    refine wo_pv (pv_cat rfl rfl (by first | (simp only [List.length_append, List.length_take, List.length_drop, List.length_cons, List.length_nil]; omega) | (simp; try omega))) rfl ?_
    refine r_call1 (WriteString_sp b3 (textOf (l.take j)) (decN l[j].key.length ++ [32]) (by simp only [List.length_append, List.length_singleton]; omega)) rfl rfl rfl ?_
    refine q_seq ?_
    refine p_seq rfl ?_
    refine p_seq rfl ?_
    refine p_region rfl ?_
    refine wo_pv (pv_fieldAddrk Try.underlying29 rfl ti4 rfl rfl (k := 2) rfl (by first | exact Nat.zero_add _ | exact Nat.add_zero _ | exact rfl)) rfl ?_
    refine r_load Try.underlying4 rfl rfl rfl rfl ?_
    refine q_seq ?_
    first | refine p_ite rfl rfl (fun h19 => ?_) (fun h19 => ?_) | refine p_cond rfl rfl (fun h19 => ?_) (fun h19 => ?_)
    · -- t19 True
      refine p_seq rfl ?_
      rw [if_pos h19] at hrl
      refine p_region rfl ?_
      refine wo_pv (pv_fieldAddrk Try.underlying29 rfl ti9 rfl rfl (k := 0) rfl (by first | exact Nat.zero_add _ | exact Nat.add_zero _ | exact rfl)) rfl ?_
      refine r_load Try.underlying9 rfl rfl rfl rfl ?_
      refine wo_pv (pv_cat rfl rfl (by first | (simp only [List.length_append, List.length_take, List.length_drop, List.length_cons, List.length_nil]; omega) | (simp; try omega))) rfl ?_
      refine r_call1 (WriteString_sp b3 (textOf (l.take j) ++ (decN l[j].key.length ++ [32])) ([45] ++ l[j].key) (by simp only [List.length_append, List.length_singleton]; omega)) rfl rfl rfl ?_
      refine q_seq ?_
      refine p_exit 1 rfl ?_
      refine t_seq_exit ?_
      refine to_block_here ?_
      refine t_seq ?_
      refine p_region rfl ?_
      refine wo_pv (pv_add rfl rfl (by omega)) rfl ?_
      refine wo_pv (pv_move rfl) rfl ?_
      refine wo_nil ?_
      refine to_inv ⟨j + 1, by omega⟩ (by dsimp only; omega) ⟨rfl, rfl, rfl, rfl, trivial⟩ ?_
      dsimp only
      rw [hsu, rowText, h19]
      simp only [List.append_assoc, if_true, Bool.false_eq_true, if_false]
      exact ent_pick
    · -- t19 False
      refine p_skip rfl ?_
      refine t_seq ?_
      rw [if_neg (by rw [h19]; simp)] at hrl
      refine d_draw rfl rfl rfl [Ce b5 29 [vS l[j].key, vS l[j].val, vB l[j].gone]] ?_
      refine d_first 0 rfl rfl rfl (by kernel_rfl) (by kernel_rfl) (tl_pv (pv_fieldAddrk Try.underlying29 rfl ti9 rfl rfl (k := 1) rfl (by first | exact Nat.zero_add _ | exact Nat.add_zero _ | exact rfl))) ?_
      refine d_first 1 rfl rfl rfl (by kernel_rfl) (by kernel_rfl) (tl_load Try.underlying9 rfl rfl rfl) ?_
      refine d_first 2 rfl rfl rfl (by kernel_rfl) (by kernel_rfl) (tl_pv (pv_call_len_s Try.underlying9 rfl)) ?_
      refine d_first 5 rfl rfl rfl (by kernel_rfl) (by kernel_rfl) (tl_pv (pv_fieldAddrk Try.underlying29 rfl ti9 rfl rfl (k := 0) rfl (by first | exact Nat.zero_add _ | exact Nat.add_zero _ | exact rfl))) ?_
      refine d_first 6 rfl rfl rfl (by kernel_rfl) (by kernel_rfl) (tl_load Try.underlying9 rfl rfl rfl) ?_
      refine d_first 8 rfl rfl rfl (by kernel_rfl) (by kernel_rfl) (tl_pv (pv_fieldAddrk Try.underlying29 rfl ti9 rfl rfl (k := 1) rfl (by first | exact Nat.zero_add _ | exact Nat.add_zero _ | exact rfl))) ?_
      refine d_first 9 rfl rfl rfl (by kernel_rfl) (by kernel_rfl) (tl_load Try.underlying9 rfl rfl rfl) ?_
      refine d_next 3 (by kernel_rfl) rfl ?_
      refine an_callF (digit_Dec_sp l[j].val.length hk2) rfl rfl rfl ?_
      refine d_first 4 rfl rfl rfl (by kernel_rfl) (by kernel_rfl) (tl_pv (pv_cat rfl rfl (by first | (simp only [List.length_append, List.length_take, List.length_drop, List.length_cons, List.length_nil]; omega) | (simp; try omega)))) ?_
      refine d_first 7 rfl rfl rfl (by kernel_rfl) (by kernel_rfl) (tl_pv (pv_cat rfl rfl (by first | (simp only [List.length_append, List.length_take, List.length_drop, List.length_cons, List.length_nil]; omega) | (simp; try omega)))) ?_
      refine d_first 10 rfl rfl rfl (by kernel_rfl) (by kernel_rfl) (tl_pv (pv_cat rfl rfl (by first | (simp only [List.length_append, List.length_take, List.length_drop, List.length_cons, List.length_nil]; omega) | (simp; try omega)))) ?_
      refine d_next 11 (by kernel_rfl) rfl ?_
      refine an_call1 (WriteString_sp b3 (textOf (l.take j) ++ (decN l[j].key.length ++ [32])) (decN l[j].val.length ++ [32] ++ l[j].key ++ l[j].val) (by simp only [List.length_append, List.length_singleton]; omega)) rfl rfl rfl ?_
      refine d_done (by kernel_rfl) ?_
      refine to_block ?_
      refine t_seq ?_
      refine p_region rfl ?_
      refine wo_pv (pv_add rfl rfl (by omega)) rfl ?_
      refine wo_pv (pv_move rfl) rfl ?_
      refine wo_nil ?_
      refine to_inv ⟨j + 1, by omega⟩ (by dsimp only; omega) ⟨rfl, rfl, rfl, rfl, trivial⟩ ?_
      dsimp only
      rw [hsu, rowText, h19]
      simp only [List.append_assoc, if_true, Bool.false_eq_true, if_false]
      exact ent_pick
  · -- t9 False
    refine p_exit 0 rfl ?_
    refine t_seq_exit ?_
    refine to_inv_exit ?_
    refine to_block_here ?_
    refine t_seq ?_
    refine p_seq rfl ?_
    have hjl : j = l.length := by omega
    subst hjl
    rw [List.take_length]
    refine p_region rfl ?_
    refine r_call1 (String_sp b3 (textOf l) (by omega)) rfl rfl rfl ?_
    refine wo_pv (pv_assign rfl) rfl ?_
    refine q_seq ?_
    refine p_ret rfl ?_
    refine fin_ret () (vs := [_]) (Cs := []) rfl (.tmp rfl .nil) rfl trivial ?_
    exact ent_pick
end Go.Proofs.Ytimafngkifakfaa

/- Package store: rows that are done. -/
set_option maxRecDepth 100000
namespace Go.Proofs.Ytimafngkifakfaa
def doOne (ks : Ks) (r : Rw) : Ks := if r.gone then mdel ks r.key else mput ks r.key (vS r.val)
def doR (ks : Ks) (l : List Rw) : Ks := l.foldl doOne ks
theorem doR_succ {ks : Ks} {l : List Rw} {j : Nat} (h : j < l.length) : doR ks (l.take (j + 1)) = doOne (doR ks (l.take j)) l[j] := by
  unfold doR
  rw [List.take_succ_eq_append_getElem h, List.foldl_append]; rfl
theorem store_do_sp {B : HP} {a : Option Addr} (p b n c : Nat) (v : Value) (ks : Ks) (l : List Rw) (sh : SlA B a (l.flatMap rowC)) (hn : l.length = n) (hb : n ≤ 140737488355328) :
    Sp1 Try.prog 37 [.pointer (some ⟨p, 0, none⟩), .slice a n c] [Ce p 79 [v, .map (some b)], MapS b ks, B] (.tuple #[]) [Ce p 79 [v, .map (some b)], MapS b (doR ks l), B] := by
  subst hn
  haveI : RdSl a (l.flatMap rowC) [B] := ⟨⟨B, sh, .here⟩⟩
  refine Sp.body (n := 29) Try.call37 Try.func37 rfl rfl rfl ?_
  refine p_seq rfl ?_
  refine p_region rfl ?_
  refine wo_pv (pv_move rfl) rfl ?_
  refine wo_pv (pv_call_len_sl Try.underlying38 rfl) rfl ?_
  refine wo_pv (pv_move rfl) rfl ?_
  refine q_seq ?_
  refine p_block 0 rfl ?_
  refine p_loop (fun (i : { j : Nat // j ≤ l.length }) => [(0, .pointer (some ⟨p, 0, none⟩)), (6, .slice a l.length c), (7, vI l.length), (8, vI i.1)]) (fun (i : { j : Nat // j ≤ l.length }) => [Ce p 79 [v, .map (some b)], MapS b (doR ks (l.take i.1)), B]) (fun (i : { j : Nat // j ≤ l.length }) => l.length - i.1) rfl (⟨0, Nat.zero_le _⟩) ?_ ?_ (fun i => ?_)
  · exact ⟨rfl, rfl, rfl, rfl, trivial⟩
  · -- H at start
    exact Ent.refl _
  obtain ⟨j, hj⟩ := i
  try dsimp only
  refine p_seq rfl ?_
  refine p_region rfl ?_
  refine wo_pv (pv_lss rfl rfl) rfl ?_
  refine q_seq ?_
  refine p_seq rfl ?_
  first | refine p_ite rfl rfl (fun h9 => ?_) (fun h9 => ?_) | refine p_cond rfl rfl (fun h9 => ?_) (fun h9 => ?_)
  · -- t9 True
    refine p_skip rfl ?_
    refine t_seq ?_
    refine p_seq rfl ?_
    refine p_block 1 rfl ?_
    refine p_seq rfl ?_
    have hjl : j < l.length := by omega
    have hsu := doR_succ (ks := ks) hjl
    refine p_region rfl ?_
    refine r_elemAddr (sz := 3) Try.underlying38 ti29 rfl rfl rfl rfl (by omega) (by first | (rw [List.length_map]; omega) | (rw [flat_len (sz := 3) (fun _ => rfl)]; omega) | (simp; omega)) rfl rfl ?_
    refine r_eloada (vs := [_, _, _]) (sz := 3) Try.underlying29 rfl ti29 rfl rfl (by rw [flat_len (sz := 3) (fun _ => rfl)]; omega) rfl (by refine get_flat (fun x => ?_) ?_ <;> first | rfl | omega) rfl ?_
    refine wo_alloc (zs := [vS [], vS [], .bool false]) ti29 rfl rfl rfl (fun b5 => ?_)
    refine r_storea ti29 rfl rfl rfl rfl (by simp; try omega) ?_
    refine q_seq ?_
    refine p_seq rfl ?_
    refine p_region rfl ?_
    refine wo_pv (pv_fieldAddrk Try.underlying29 rfl ti4 rfl rfl (k := 2) rfl (by first | exact Nat.zero_add _ | exact Nat.add_zero _ | exact rfl)) rfl ?_
    refine r_load Try.underlying4 rfl rfl rfl rfl ?_
    refine q_seq ?_
    first | refine p_ite rfl rfl (fun h13 => ?_) (fun h13 => ?_) | refine p_cond rfl rfl (fun h13 => ?_) (fun h13 => ?_)
    · -- t13 True
      refine d_draw rfl rfl rfl [Ce p 79 [v, .map (some b)], Ce b5 29 [vS l[j].key, vS l[j].val, vB l[j].gone]] ?_
      refine d_first 0 rfl rfl rfl (by kernel_rfl) (by kernel_rfl) (tl_pv (pv_move rfl)) ?_
      refine d_first 1 rfl rfl rfl (by kernel_rfl) (by kernel_rfl) (tl_pv (by first | exact pv_nilCheck_p rfl | exact pv_nilCheck_f rfl)) ?_
      refine d_first 2 rfl rfl rfl (by kernel_rfl) (by kernel_rfl) (tl_pv (pv_fieldAddrk Try.underlying79 rfl ti68 rfl rfl (k := 1) rfl (by first | exact Nat.zero_add _ | exact Nat.add_zero _ | exact rfl))) ?_
      refine d_first 3 rfl rfl rfl (by kernel_rfl) (by kernel_rfl) (tl_load Try.underlying68 rfl rfl rfl) ?_
      refine d_first 4 rfl rfl rfl (by kernel_rfl) (by kernel_rfl) (tl_pv (pv_fieldAddrk Try.underlying29 rfl ti9 rfl rfl (k := 0) rfl (by first | exact Nat.zero_add _ | exact Nat.add_zero _ | exact rfl))) ?_
      refine d_first 5 rfl rfl rfl (by kernel_rfl) (by kernel_rfl) (tl_load Try.underlying9 rfl rfl rfl) ?_
      refine d_next 6 (by kernel_rfl) rfl ?_
      refine an_delete Try.underlying68 Try.underlying9 rfl rfl rfl ?_
      refine d_done (by kernel_rfl) ?_
      refine to_block ?_
      refine t_seq ?_
      refine p_region rfl ?_
      refine wo_pv (pv_add rfl rfl (by omega)) rfl ?_
      refine wo_pv (pv_move rfl) rfl ?_
      refine wo_nil ?_
      refine to_inv ⟨j + 1, by omega⟩ (by dsimp only; omega) ⟨rfl, rfl, rfl, rfl, trivial⟩ ?_
      dsimp only
      rw [hsu, doOne, h13]
      simp only [if_true, Bool.false_eq_true, if_false]
      exact ent_pick
    · -- t13 False
      refine d_draw rfl rfl rfl [Ce p 79 [v, .map (some b)], Ce b5 29 [vS l[j].key, vS l[j].val, vB l[j].gone]] ?_
      refine d_first 0 rfl rfl rfl (by kernel_rfl) (by kernel_rfl) (tl_pv (pv_move rfl)) ?_
      refine d_first 1 rfl rfl rfl (by kernel_rfl) (by kernel_rfl) (tl_pv (by first | exact pv_nilCheck_p rfl | exact pv_nilCheck_f rfl)) ?_
      refine d_first 2 rfl rfl rfl (by kernel_rfl) (by kernel_rfl) (tl_pv (pv_fieldAddrk Try.underlying79 rfl ti68 rfl rfl (k := 1) rfl (by first | exact Nat.zero_add _ | exact Nat.add_zero _ | exact rfl))) ?_
      refine d_first 3 rfl rfl rfl (by kernel_rfl) (by kernel_rfl) (tl_load Try.underlying68 rfl rfl rfl) ?_
      refine d_first 4 rfl rfl rfl (by kernel_rfl) (by kernel_rfl) (tl_pv (pv_fieldAddrk Try.underlying29 rfl ti9 rfl rfl (k := 0) rfl (by first | exact Nat.zero_add _ | exact Nat.add_zero _ | exact rfl))) ?_
      refine d_first 5 rfl rfl rfl (by kernel_rfl) (by kernel_rfl) (tl_load Try.underlying9 rfl rfl rfl) ?_
      refine d_first 6 rfl rfl rfl (by kernel_rfl) (by kernel_rfl) (tl_pv (pv_fieldAddrk Try.underlying29 rfl ti9 rfl rfl (k := 1) rfl (by first | exact Nat.zero_add _ | exact Nat.add_zero _ | exact rfl))) ?_
      refine d_first 7 rfl rfl rfl (by kernel_rfl) (by kernel_rfl) (tl_load Try.underlying9 rfl rfl rfl) ?_
      refine d_next 8 (by kernel_rfl) rfl ?_
      refine an_mapUpdate Try.underlying68 Try.underlying9 rfl rfl rfl ?_
      refine d_done (by kernel_rfl) ?_
      refine to_block ?_
      refine t_seq ?_
      refine p_region rfl ?_
      refine wo_pv (pv_add rfl rfl (by omega)) rfl ?_
      refine wo_pv (pv_move rfl) rfl ?_
      refine wo_nil ?_
      refine to_inv ⟨j + 1, by omega⟩ (by dsimp only; omega) ⟨rfl, rfl, rfl, rfl, trivial⟩ ?_
      dsimp only
      rw [hsu, doOne, h13]
      simp only [if_true, Bool.false_eq_true, if_false]
      exact ent_pick
  · -- t9 False
    refine p_exit 0 rfl ?_
    refine t_seq_exit ?_
    refine to_inv_exit ?_
    refine to_block_here ?_
    have hjl : j = l.length := by omega
    subst hjl
    rw [List.take_length]
    refine fin_end () (vs := []) (Cs := []) rfl .nil rfl trivial ?_
    exact ent_pick
end Go.Proofs.Ytimafngkifakfaa

/- Package store: Open, Get, Len, Journal. -/
set_option maxRecDepth 100000
namespace Go.Proofs.Ytimafngkifakfaa
/-- A store in memory, over a disk at p. -/
def IsS (s p : Nat) (J : Jn) (ks : Ks) : HP := Ex fun q : Nat => Ex fun b : Nat => Al [Ce s 79 [.pointer (some ⟨q, 0, none⟩), .map (some b)], IsJ q p J, MapS b ks]
theorem fold_isS {s p : Nat} {J : Jn} {ks : Ks} (q b : Nat) {T : Nat} {v0 v1 : Value} {Hs R1 R2 Rs : List HP} [h1 : OwnC s T [v0, v1] Hs R1] [h2 : PickC (IsJ q p J) R1 R2] [h3 : PickC (MapS b ks) R2 Rs] (hT : T = 79) (e0 : v0 = .pointer (some ⟨q, 0, none⟩)) (e1 : v1 = .map (some b)) : Ent Hs (IsS s p J ks :: Rs) := by
  subst hT; subst e0; subst e1
  refine ent_ex q ?_
  refine ent_ex b (ent_al ?_)
  exact ent_step (ent_pick1 h1.get) (ent_step (ent_pick1 h2.get) (ent_pick1 h3.get))
theorem store_Len_sp (s p : Nat) (J : Jn) (ks : Ks) : Sp1 Try.prog 12 [.pointer (some ⟨s, 0, none⟩)] [IsS s p J ks] (vI ks.length) [IsS s p J ks] := by
  refine Sp.body (n := 8) Try.call12 Try.func12 rfl rfl rfl ?_
  refine wc_exi fun q => wc_exi fun b => wc_al ?_
  refine p_seq rfl ?_
  refine p_region rfl ?_
  refine wo_pv (pv_assign rfl) rfl ?_
  refine q_seq ?_
  refine p_seq rfl ?_
  refine p_region rfl ?_
  refine wo_pv (pv_move rfl) rfl ?_
  refine wo_pv (by first | exact pv_nilCheck_p rfl | exact pv_nilCheck_f rfl) rfl ?_
  refine wo_pv (pv_fieldAddrk Try.underlying79 rfl ti68 rfl rfl (k := 1) rfl (by first | exact Nat.zero_add _ | exact Nat.add_zero _ | exact rfl)) rfl ?_
  refine r_load Try.underlying68 rfl rfl rfl rfl ?_
  refine r_mlen Try.underlying68 rfl rfl ?_
  refine wo_pv (pv_assign rfl) rfl ?_
  refine q_seq ?_
  refine p_ret rfl ?_
  refine fin_ret () (vs := [_]) (Cs := []) rfl (.tmp rfl .nil) rfl trivial ?_
  exact fold_isS q b rfl rfl rfl
theorem store_Journal_sp (s p : Nat) (J : Jn) (ks : Ks) : Sp Try.prog 29 [.pointer (some ⟨s, 0, none⟩)] [IsS s p J ks] (X := Nat) (fun q => .pointer (some ⟨q, 0, none⟩)) (fun _ => True) (fun _ => [IsS s p J ks]) := by
  refine Sp.body (n := 7) Try.call29 Try.func29 rfl rfl rfl ?_
  refine wc_exi fun q => wc_exi fun b => wc_al ?_
  refine p_seq rfl ?_
  refine p_region rfl ?_
  refine wo_pv (pv_assign rfl) rfl ?_
  refine q_seq ?_
  refine p_seq rfl ?_
  refine p_region rfl ?_
  refine wo_pv (pv_move rfl) rfl ?_
  refine wo_pv (by first | exact pv_nilCheck_p rfl | exact pv_nilCheck_f rfl) rfl ?_
  refine wo_pv (pv_fieldAddrk Try.underlying79 rfl ti65 rfl rfl (k := 0) rfl (by first | exact Nat.zero_add _ | exact Nat.add_zero _ | exact rfl)) rfl ?_
  refine r_load Try.underlying65 rfl rfl rfl rfl ?_
  refine wo_pv (pv_assign rfl) rfl ?_
  refine q_seq ?_
  refine p_ret rfl ?_
  refine fin_ret q (vs := [_]) (Cs := []) rfl (.tmp rfl .nil) rfl trivial ?_
  exact fold_isS q b rfl rfl rfl
theorem store_Get_sp (s p : Nat) (J : Jn) (ks : Ks) (k : List UInt8) : Sp1 Try.prog 11 [.pointer (some ⟨s, 0, none⟩), vS k] [IsS s p J ks] (.tuple #[(mlook ks k).getD (vS []), vB (mlook ks k).isSome]) [IsS s p J ks] := by
  refine Sp.body (n := 19) Try.call11 Try.func11 rfl rfl rfl ?_
  refine wc_exi fun q => wc_exi fun b => wc_al ?_
  refine p_seq rfl ?_
  refine p_region rfl ?_
  refine wo_pv (pv_assign rfl) rfl ?_
  refine wo_pv (pv_assign rfl) rfl ?_
  refine q_seq ?_
  refine p_seq rfl ?_
  refine p_region rfl ?_
  refine wo_pv (pv_move rfl) rfl ?_
  refine wo_pv (by first | exact pv_nilCheck_p rfl | exact pv_nilCheck_f rfl) rfl ?_
  refine wo_pv (pv_fieldAddrk Try.underlying79 rfl ti68 rfl rfl (k := 1) rfl (by first | exact Nat.zero_add _ | exact Nat.add_zero _ | exact rfl)) rfl ?_
  refine r_load Try.underlying68 rfl rfl rfl rfl ?_
  refine wo_pv (pv_move rfl) rfl ?_
  refine r_lookup Try.underlying68 Try.underlying9 ti9 rfl rfl rfl rfl rfl ?_
  refine wo_pv (pv_move rfl) rfl ?_
  refine wo_pv (pv_extract rfl rfl) rfl ?_
  refine wo_pv (pv_extract rfl rfl) rfl ?_
  refine wo_pv (pv_assign rfl) rfl ?_
  refine wo_pv (pv_assign rfl) rfl ?_
  refine q_seq ?_
  refine p_seq rfl ?_
  refine p_region rfl ?_
  refine wo_pv (pv_move rfl) rfl ?_
  refine wo_pv (pv_move rfl) rfl ?_
  refine wo_pv (pv_assign rfl) rfl ?_
  refine wo_pv (pv_assign rfl) rfl ?_
  refine q_seq ?_
  refine p_ret rfl ?_
  refine fin_ret () (vs := [_, _]) (Cs := []) rfl (.tmp rfl (.tmp rfl .nil)) rfl trivial ?_
  exact fold_isS q b rfl rfl rfl
def openK (ts : List Bs) : Ks := ts.foldl (fun ks t => doR ks ((readR t).getD [])) []
theorem openK_succ {ts : List Bs} {j : Nat} (h : j < ts.length) : openK (ts.take (j + 1)) = doR (openK (ts.take j)) ((readR (ts.getD j [])).getD []) := by
  unfold openK
  rw [List.take_succ_eq_append_getElem h, List.foldl_append]
  simp [h]
theorem readR_len (s : Bs) : ((readR s).getD []).length ≤ s.length := by
  induction h : s.length using Nat.strongRecOn generalizing s with
  | _ n ih =>
    by_cases hs : s = []
    · subst hs; rw [readR_nil]; simp
    · cases hr : rowR s with
      | none => rw [readR_none hs hr]; simp
      | some q =>
        obtain ⟨r, t⟩ := q
        have hlt := rowR_lt hr
        rw [readR_some hs hr]
        have := ih t.length (by omega) t rfl
        cases ht : readR t with
        | none => simp
        | some l => rw [ht] at this; simp at this ⊢; omega
end Go.Proofs.Ytimafngkifakfaa

/- Package store: Open. -/
set_option maxRecDepth 100000
namespace Go.Proofs.Ytimafngkifakfaa
theorem store_Open_sp (p : Nat) (D : Dk) : Sp Try.prog 9 [.pointer (some ⟨p, 0, none⟩)] [IsD p D] (X := Nat) (fun s => .pointer (some ⟨s, 0, none⟩)) (fun _ => True) (fun s => [IsS s p (openJ D) (openK (openJ D).l), IsD p D]) := by
  refine Sp.body (n := 28) Try.call9 Try.func9 rfl rfl rfl ?_
  refine wc_know (A := IsD p D) .here ok_len (fun ok => ?_)
  have hm := ok.many
  have hj := scanS_end D.secs 0 [] [] 0 (Nat.le_refl _) (Nat.le_refl _)
  have hjl : (openJ D).l.length ≤ 2000 := by show (scanS D.secs 0 [] [] 0).1.length ≤ 2000; omega
  have htl : ∀ t ∈ (openJ D).l, t.length ≤ 60000 := scanS_len D.secs 0 [] [] 0 60000 (by simp; omega) (by simp)
  generalize hJ : openJ D = J at *
  refine p_seq rfl ?_
  refine p_region rfl ?_
  refine wo_pv (pv_assign rfl) rfl ?_
  refine q_seq ?_
  refine p_seq rfl ?_
  refine p_region rfl ?_
  refine wo_pv (pv_move rfl) rfl ?_
  refine r_callX (journal_Open_sp p D) rfl rfl rfl (fun q _ => ?_)
  rw [hJ]
  refine r_mkmap rfl (fun b9 => ?_)
  refine wo_pv (pv_buildS (vs := [_, _]) Try.underlying79 ti79 rfl rfl rfl rfl rfl) rfl ?_
  refine wo_box (vs := [_, _]) rfl rfl rfl (fun b11 => ?_)
  refine wo_alloc (zs := [.pointer none]) ti24 rfl rfl rfl (fun b3 => ?_)
  refine r_store ti24 rfl rfl rfl rfl (by simp; try omega) ?_
  refine q_seq ?_
  refine p_seq rfl ?_
  refine p_seq rfl ?_
  refine p_region rfl ?_
  refine r_load Try.underlying24 rfl rfl rfl rfl ?_
  refine wo_pv (by first | exact pv_nilCheck_p rfl | exact pv_nilCheck_f rfl) rfl ?_
  refine wo_pv (pv_fieldAddrk Try.underlying79 rfl ti65 rfl rfl (k := 0) rfl (by first | exact Nat.zero_add _ | exact Nat.add_zero _ | exact rfl)) rfl ?_
  refine r_load Try.underlying65 rfl rfl rfl rfl ?_
  refine r_callX (journal_All_sp q p J (by omega)) rfl rfl rfl (fun x16 _ => ?_)
  refine q_seq ?_
  refine p_block 0 rfl ?_
  refine p_rangeFunc (fun pre => [Ce b3 24 [.pointer (some ⟨b11, 0, none⟩)], Ce b11 79 [.pointer (some ⟨q, 0, none⟩), .map (some b9)], MapS b9 (openK (J.l.take pre.length)), IsJ q p J, IsD p D]) (fun j pre => [Pu False]) rfl (slices_Values_it (B := SlI x16.2.1 (J.l.map vS)) J.l.length x16.2.2 x16.1 J.l sla_sli rfl (by omega)) rfl (fun _ => by rfl) rfl ?_ (fun l pre i hok => ?_) ?_ (fun j pre hs => ?_)
  · (refine ent_app ?_; simp only [List.length_nil, List.take_zero]; rw [show openK [] = [] from rfl]; exact ent_pick)
  · -- a round
    obtain ⟨hi, hlt⟩ := hok
    have hsu := openK_succ hlt
    have hil : (J.l.getD i []).length ≤ 60000 := by
      have e : J.l.getD i [] = J.l[i] := by simp [hlt]
      rw [e]; exact htl _ (List.getElem_mem _)
    rw [← hi]
    refine p_region rfl ?_
    refine wo_pv (pv_assign rfl) rfl ?_
    refine q_asg ?_
    refine p_block 1 rfl ?_
    refine p_seq rfl ?_
    refine p_region rfl ?_
    refine wo_pv (pv_move rfl) rfl ?_
    refine r_callX (store_Read_sp (J.l.getD i []) (by omega)) rfl rfl rfl (fun x20 _ => ?_)
    refine wo_frz x20.1 ?_
    refine wo_pv (pv_move rfl) rfl ?_
    refine wo_pv (pv_extract rfl rfl) rfl ?_
    refine wo_pv (pv_extract rfl rfl) rfl ?_
    refine wo_pv (pv_assign rfl) rfl ?_
    refine wo_pv (pv_assign rfl) rfl ?_
    refine q_seq ?_
    refine p_seq rfl ?_
    refine p_region rfl ?_
    refine wo_pv (pv_move rfl) rfl ?_
    refine q_seq ?_
    first | refine p_ite rfl rfl (fun h23 => ?_) (fun h23 => ?_) | refine p_cond rfl rfl (fun h23 => ?_) (fun h23 => ?_)
    · -- t23 True
      refine p_region rfl ?_
      refine r_load Try.underlying24 rfl rfl rfl rfl ?_
      refine wo_pv (pv_move rfl) rfl ?_
      refine r_call1 (store_do_sp (B := SlI x20.1 (((readR (J.l.getD i [])).getD []).flatMap rowC)) b11 b9 ((readR (J.l.getD i [])).getD []).length x20.2 (.pointer (some ⟨q, 0, none⟩)) (openK (J.l.take i)) ((readR (J.l.getD i [])).getD []) sla_sli rfl (by have := readR_len (J.l.getD i []); omega)) rfl rfl rfl ?_
      refine wo_nil ?_
      refine to_block ?_
      refine to_round ?_
      rw [List.length_append, List.length_singleton, ← hi, hsu]
      first
      | exact ent_pick
      | (have hn : readR (J.l.getD i []) = none := by cases e : readR (J.l.getD i []) with
           | none => rfl
           | some l => rw [e] at h23; simp at h23
         rw [hn]
         show Ent _ [Ce b3 24 [.pointer (some ⟨b11, 0, none⟩)], Ce b11 79 [.pointer (some ⟨q, 0, none⟩), .map (some b9)], MapS b9 (openK (J.l.take i)), IsJ q p J, IsD p D]
         exact ent_pick)
    · -- t23 False
      refine p_skip rfl ?_
      refine to_block ?_
      refine to_round ?_
      rw [List.length_append, List.length_singleton, ← hi, hsu]
      first
      | exact ent_pick
      | (have hn : readR (J.l.getD i []) = none := by cases e : readR (J.l.getD i []) with
           | none => rfl
           | some l => rw [e] at h23; simp at h23
         rw [hn]
         show Ent _ [Ce b3 24 [.pointer (some ⟨b11, 0, none⟩)], Ce b11 79 [.pointer (some ⟨q, 0, none⟩), .map (some b9)], MapS b9 (openK (J.l.take i)), IsJ q p J, IsD p D]
         exact ent_pick)
  · -- behind
    skip
    refine to_block ?_
    refine t_seq ?_
    refine p_seq rfl ?_
    refine p_region rfl ?_
    refine r_load Try.underlying24 rfl rfl rfl rfl ?_
    refine wo_pv (pv_assign rfl) rfl ?_
    refine q_seq ?_
    refine p_ret rfl ?_
    refine fin_ret b11 (vs := [_]) (Cs := []) rfl (.tmp rfl .nil) rfl trivial ?_
    rw [List.length_range, List.take_length]
    exact ent_step (fold_isS q b9 rfl rfl rfl) ent_pick
  · -- stopped
    exact wc_no (fun s => by obtain ⟨_, _, _, _, a, _⟩ := s; exact a)
end Go.Proofs.Ytimafngkifakfaa

/- Package store: Commit. -/
set_option maxRecDepth 100000
namespace Go.Proofs.Ytimafngkifakfaa
def mayB (r : Rw) : Bool := decide (r.key ≠ [] ∧ r.key.length ≤ 60)
def commitS (J : Jn) (ks : Ks) (D : Dk) (l : List Rw) : Jn × Ks × Dk × Nat :=
  if l.all mayB = false then (J, ks, D, 1) else
    ((commitJ J D (textOf l)).1, (if (commitJ J D (textOf l)).2.2 = 0 then doR ks l else ks), (commitJ J D (textOf l)).2.1, (commitJ J D (textOf l)).2.2)
theorem store_Commit_sp {B : HP} {a : Option Addr} (s p n c : Nat) (J : Jn) (ks : Ks) (D : Dk) (l : List Rw) (sh : SlA B a (l.flatMap rowC)) (hn : l.length = n) (hb : n ≤ 140737488355328)
    (hk : ∀ r ∈ l, r.key.length ≤ 1073741824 ∧ r.val.length ≤ 1073741824) (ht : (textOf l).length ≤ 4398046511104) (hl : -1152921504606846976 ≤ D.left ∧ D.left ≤ 9223372036854775807) (he : J.e ≤ 1099511627776) (hjl : J.l.length ≤ 1099511627776) :
    Sp1 Try.prog 10 [.pointer (some ⟨s, 0, none⟩), .slice a n c] [IsS s p J ks, IsD p D, B] (vI (commitS J ks D l).2.2.2) [IsS s p (commitS J ks D l).1 (commitS J ks D l).2.1, IsD p (commitS J ks D l).2.2.1, B] := by
  subst hn
  haveI : RdSl a (l.flatMap rowC) [B] := ⟨⟨B, sh, .here⟩⟩
  refine Sp.body (n := 32) Try.call10 Try.func10 rfl rfl rfl ?_
  refine wc_exi fun q => wc_exi fun b => wc_al ?_
  refine p_seq rfl ?_
  refine p_region rfl ?_
  refine wo_pv (pv_assign rfl) rfl ?_
  refine q_seq ?_
  refine p_seq rfl ?_
  refine p_seq rfl ?_
  refine p_region rfl ?_
  refine wo_pv (pv_move rfl) rfl ?_
  refine wo_pv (pv_call_len_sl Try.underlying38 rfl) rfl ?_
  refine wo_pv (pv_move rfl) rfl ?_
  refine q_seq ?_
  refine p_block 0 rfl ?_
  refine p_loop (fun (i : { j : Nat // j ≤ l.length ∧ (l.take j).all mayB = true }) => [(0, .pointer (some ⟨s, 0, none⟩)), (1, .slice a l.length c), (8, .slice a l.length c), (9, vI l.length), (10, vI i.1)]) (fun (i : { j : Nat // j ≤ l.length ∧ (l.take j).all mayB = true }) => [Ce s 79 [.pointer (some ⟨q, 0, none⟩), .map (some b)], IsJ q p J, MapS b ks, IsD p D, B]) (fun (i : { j : Nat // j ≤ l.length ∧ (l.take j).all mayB = true }) => l.length - i.1) rfl (⟨0, Nat.zero_le _, rfl⟩) ?_ ?_ (fun i => ?_)
  · exact ⟨rfl, rfl, rfl, rfl, rfl, trivial⟩
  · -- H at start
    exact ent_pick
  obtain ⟨j, hj, hw⟩ := i
  try dsimp only
  refine p_seq rfl ?_
  refine p_region rfl ?_
  refine wo_pv (pv_lss rfl rfl) rfl ?_
  refine q_seq ?_
  refine p_seq rfl ?_
  first | refine p_ite rfl rfl (fun h11 => ?_) (fun h11 => ?_) | refine p_cond rfl rfl (fun h11 => ?_) (fun h11 => ?_)
  · -- t11 True
    refine p_skip rfl ?_
    refine t_seq ?_
    refine p_seq rfl ?_
    refine p_block 1 rfl ?_
    refine p_seq rfl ?_
    have hjlt : j < l.length := by omega
    refine p_region rfl ?_
    refine r_elemAddr (sz := 3) Try.underlying38 ti29 rfl rfl rfl rfl (by omega) (by first | (rw [List.length_map]; omega) | (rw [flat_len (sz := 3) (fun _ => rfl)]; omega) | (simp; omega)) rfl rfl ?_
    refine r_eloada (vs := [_, _, _]) (sz := 3) Try.underlying29 rfl ti29 rfl rfl (by rw [flat_len (sz := 3) (fun _ => rfl)]; omega) rfl (by refine get_flat (fun x => ?_) ?_ <;> first | rfl | omega) rfl ?_
    refine wo_alloc (zs := [vS [], vS [], .bool false]) ti29 rfl rfl rfl (fun b6 => ?_)
    refine r_storea ti29 rfl rfl rfl rfl (by simp; try omega) ?_
    refine q_seq ?_
    refine p_seq rfl ?_
    refine p_region rfl ?_
    refine wo_pv (pv_fieldAddrk Try.underlying29 rfl ti9 rfl rfl (k := 0) rfl (by first | exact Nat.zero_add _ | exact Nat.add_zero _ | exact rfl)) rfl ?_
    refine r_load Try.underlying9 rfl rfl rfl rfl ?_
    refine r_callF (store_may_sp l[j].key) rfl rfl rfl ?_
    refine wo_pv (by first | exact pv_notd rfl | exact pv_not rfl) rfl ?_
    refine q_seq ?_
    first | refine p_ite rfl rfl (fun h17 => ?_) (fun h17 => ?_) | refine p_cond rfl rfl (fun h17 => ?_) (fun h17 => ?_)
    · -- t17 True
      refine p_seq rfl ?_
      refine p_region rfl ?_
      refine wo_pv (pv_assign rfl) rfl ?_
      refine q_seq ?_
      refine p_ret rfl ?_
      refine to_block_ret ?_
      refine t_seq_ret ?_
      refine to_inv_ret ?_
      refine to_block_ret ?_
      refine t_seq_ret ?_
      have hn : commitS J ks D l = (J, ks, D, 1) := by
        have hb2 : l.all mayB = false := by
          cases e : l.all mayB with
          | false => rfl
          | true =>
            have := List.all_eq_true.1 e l[j] (List.getElem_mem _)
            exact absurd (of_decide_eq_true this) h17
        rw [commitS, if_pos hb2]
      rw [hn]
      refine fin_ret () (vs := [_]) (Cs := []) rfl (.tmp rfl .nil) rfl trivial ?_
      exact ent_step (fold_isS q b rfl rfl rfl) ent_pick
    · -- t17 False
      refine p_skip rfl ?_
      refine to_block ?_
      refine t_seq ?_
      refine p_region rfl ?_
      refine wo_pv (pv_add rfl rfl (by omega)) rfl ?_
      refine wo_pv (pv_move rfl) rfl ?_
      refine wo_nil ?_
      refine to_inv ⟨j + 1, by omega, ?_⟩ (by dsimp only; omega) ⟨rfl, rfl, rfl, rfl, rfl, trivial⟩ ent_pick
      rw [List.take_succ_eq_append_getElem hjlt, List.all_append, hw]
      have hm : mayB l[j] = true := by
        have h17' := h17
        simp only [Classical.not_not] at h17'
        exact decide_eq_true h17'
      simp [hm]
  · -- t11 False
    refine p_exit 0 rfl ?_
    refine t_seq_exit ?_
    refine to_inv_exit ?_
    refine to_block_here ?_
    refine t_seq ?_
    refine p_seq rfl ?_
    have hjl2 : j = l.length := by omega
    subst hjl2
    rw [List.take_length] at hw
    have hcs : commitS J ks D l = ((commitJ J D (textOf l)).1, (if (commitJ J D (textOf l)).2.2 = 0 then doR ks l else ks), (commitJ J D (textOf l)).2.1, (commitJ J D (textOf l)).2.2) := by
      rw [commitS, if_neg (by rw [hw]; simp)]
    rw [hcs]
    refine d_draw rfl rfl rfl [Ce s 79 [.pointer (some ⟨q, 0, none⟩), .map (some b)]] ?_
    refine d_first 0 rfl rfl rfl (by kernel_rfl) (by kernel_rfl) (tl_pv (pv_move rfl)) ?_
    refine d_first 1 rfl rfl rfl (by kernel_rfl) (by kernel_rfl) (tl_pv (by first | exact pv_nilCheck_p rfl | exact pv_nilCheck_f rfl)) ?_
    refine d_first 2 rfl rfl rfl (by kernel_rfl) (by kernel_rfl) (tl_pv (pv_fieldAddrk Try.underlying79 rfl ti65 rfl rfl (k := 0) rfl (by first | exact Nat.zero_add _ | exact Nat.add_zero _ | exact rfl))) ?_
    refine d_first 3 rfl rfl rfl (by kernel_rfl) (by kernel_rfl) (tl_load Try.underlying65 rfl rfl rfl) ?_
    refine d_first 4 rfl rfl rfl (by kernel_rfl) (by kernel_rfl) (tl_pv (pv_move rfl)) ?_
    refine d_next 5 (by kernel_rfl) rfl ?_
    refine an_call1 (store_Text_sp l.length c l sh rfl hb hk ht) rfl rfl rfl ?_
    refine d_next 6 (by kernel_rfl) rfl ?_
    refine an_call1 (journal_Commit_sp q p J D (textOf l) ht hl he hjl) rfl rfl rfl ?_
    refine d_first 7 rfl rfl rfl (by kernel_rfl) (by kernel_rfl) (tl_pv (pv_assign rfl)) ?_
    refine d_done (by kernel_rfl) ?_
    refine t_seq ?_
    refine p_seq rfl ?_
    refine p_seq rfl ?_
    refine p_region rfl ?_
    refine wo_pv (pv_move rfl) rfl ?_
    refine wo_pv (pv_eql rfl rfl) rfl ?_
    refine q_seq ?_
    first | refine p_ite rfl rfl (fun h27 => ?_) (fun h27 => ?_) | refine p_cond rfl rfl (fun h27 => ?_) (fun h27 => ?_)
    · -- t27 True
      refine p_region rfl ?_
      refine wo_pv (pv_move rfl) rfl ?_
      refine wo_pv (pv_move rfl) rfl ?_
      refine r_call1 (store_do_sp (B := B) s b l.length c (.pointer (some ⟨q, 0, none⟩)) ks l sh rfl hb) rfl rfl rfl ?_
      refine q_seq ?_
      refine p_seq rfl ?_
      refine p_region rfl ?_
      refine wo_pv (pv_move rfl) rfl ?_
      refine wo_pv (pv_assign rfl) rfl ?_
      refine q_seq ?_
      refine p_ret rfl ?_
      refine fin_ret () (vs := [_]) (Cs := []) rfl (.tmp rfl .nil) rfl trivial ?_
      first
      | (rw [if_pos (by omega)]; exact ent_step (fold_isS q b rfl rfl rfl) ent_pick)
      | (rw [if_neg (by omega)]; exact ent_step (fold_isS q b rfl rfl rfl) ent_pick)
    · -- t27 False
      refine p_skip rfl ?_
      refine t_seq ?_
      refine p_seq rfl ?_
      refine p_region rfl ?_
      refine wo_pv (pv_move rfl) rfl ?_
      refine wo_pv (pv_assign rfl) rfl ?_
      refine q_seq ?_
      refine p_ret rfl ?_
      refine fin_ret () (vs := [_]) (Cs := []) rfl (.tmp rfl .nil) rfl trivial ?_
      first
      | (rw [if_pos (by omega)]; exact ent_step (fold_isS q b rfl rfl rfl) ent_pick)
      | (rw [if_neg (by omega)]; exact ent_step (fold_isS q b rfl rfl rfl) ent_pick)
end Go.Proofs.Ytimafngkifakfaa
