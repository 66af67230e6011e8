/- Package journal: All, Commit. -/
import Derived.Test.YtimafngkifakfaaSJour2
set_option linter.unusedVariables false
set_option maxRecDepth 100000
set_option linter.unusedSimpArgs false
namespace Go.Proofs.Ytimafngkifakfaa

theorem journal_All_sp (q p : Nat) (J : Jn) (hb : J.l.length ≤ 8796093022208) : Sp Try.prog 36 [.pointer (some ⟨q, 0, none⟩)] [IsJ q p J] (X := Nat × Option Addr × Nat) (fun x => .func (.func 76) #[] #[.pointer (some ⟨x.1, 0, none⟩)]) (fun _ => True)
    (fun x => [IsJ q p J, Ce x.1 46 [.slice x.2.1 J.l.length x.2.2], SlI x.2.1 (J.l.map vS)]) := by
  refine Sp.body (n := 9) Try.call36 Try.func36 rfl rfl rfl ?_
  refine wc_exi fun a => wc_exi fun c => wc_al ?_
  refine wc_know (A := Row 9 1 (.slice a J.l.length c) J.l.length (J.l.map vS)) (.there .here) row_none (fun hnone => ?_)
  refine p_seq rfl ?_
  refine p_region rfl ?_
  refine wo_pv (pv_assign rfl) rfl ?_
  refine q_seq ?_
  refine p_seq rfl ?_
  refine p_region rfl ?_
  refine wo_pv (pv_move rfl) rfl ?_
  refine wo_pv (by first | exact pv_nilCheck_p rfl | exact pv_nilCheck_f rfl) rfl ?_
  refine wo_pv (pv_fieldAddrk Try.underlying111 rfl ti46 rfl rfl (k := 1) rfl (by first | exact Nat.zero_add _ | exact Nat.add_zero _ | exact rfl)) rfl ?_
  refine r_load Try.underlying46 rfl rfl rfl rfl ?_
  refine r_callX (slices_Clone_sp J.l.length c J.l (sla_row (e := 9) (sz := 1) (k := J.l.length) (n := J.l.length) (c := c)) rfl hnone (by omega)) rfl rfl rfl (fun x7 _ => ?_)
  obtain ⟨a7, c7⟩ := x7
  dsimp only
  refine wo_frz a7 ?_
  refine r_callX (slices_Values_sp a7 J.l.length c7) rfl rfl rfl (fun b8 _ => ?_)
  refine wo_pv (pv_assign rfl) rfl ?_
  refine q_seq ?_
  refine p_ret rfl ?_
  refine fin_ret (b8, a7, c7) (vs := [_]) (Cs := []) rfl (.tmp rfl .nil) rfl trivial ?_
  refine ent_step (fold_isJ J (by rfl) (by exact ⟨rfl, rfl⟩) (by rfl) (by exact ⟨_, _, rfl⟩) (by rfl) (by rfl) (by rfl) (by rfl)) ?_
  exact ent_pick

theorem writes_snoc : ∀ (ps : List Bs) (D : Dk) (i : Nat) (p : Bs), (D.writes i ps).2 = true → D.writes i (ps ++ [p]) = (D.writes i ps).1.write (((i + ps.length : Nat)) : Int) p := by
  intro ps
  induction ps with
  | nil =>
    intro D i p _
    simp only [List.nil_append, Dk.writes, List.length_nil, Nat.add_zero]
    split <;> simp_all [Dk.writes]
  | cons x r ih =>
    intro D i p h
    simp only [List.cons_append, Dk.writes] at h ⊢
    split at h
    · rename_i D' e
      rw [ih D' (i + 1) p h, List.length_cons]
      congr 2; omega
    · cases h
theorem write_left (D : Dk) (i : Int) (s : Bs) : (D.write i s).1.secs.length = D.secs.length ∧ D.left - 1 ≤ (D.write i s).1.left ∧ (D.write i s).1.left ≤ D.left := by
  simp only [Dk.write]
  split
  · dsimp only; omega
  · split
    · simp only [List.length_set, true_and]; omega
    · simp only [List.length_set, true_and]; omega
theorem writes_left : ∀ (ps : List Bs) (D : Dk) (i : Nat), (D.writes i ps).1.secs.length = D.secs.length ∧ D.left - ps.length ≤ (D.writes i ps).1.left ∧ (D.writes i ps).1.left ≤ D.left := by
  intro ps
  induction ps with
  | nil => intro D i; simp [Dk.writes]
  | cons x r ih =>
    intro D i
    have h1 := write_left D i x
    simp only [Dk.writes, List.length_cons]
    split
    · rename_i D' e
      rw [e] at h1
      have h2 := ih D' (i + 1)
      dsimp only at h1
      omega
    · rename_i D' e
      rw [e] at h1
      dsimp only at h1 ⊢
      omega
theorem writes_more : ∀ (ps rs : List Bs) (D : Dk) (i : Nat), (D.writes i ps).2 = false → D.writes i (ps ++ rs) = D.writes i ps := by
  intro ps
  induction ps with
  | nil => intro rs D i h; simp [Dk.writes] at h
  | cons x r ih =>
    intro rs D i h
    simp only [List.cons_append, Dk.writes] at h ⊢
    split at h
    · rename_i D' e
      rw [ih rs D' (i + 1) h]
    · rfl

theorem writes_take {ps : List Bs} {D : Dk} {e j : Nat} (hj : j < ps.length) (h : (D.writes e (ps.take j)).2 = true) : D.writes e (ps.take (j + 1)) = (D.writes e (ps.take j)).1.write ((e : Int) + (j : Int)) ps[j] := by
  rw [List.take_succ_eq_append_getElem hj, writes_snoc _ _ _ _ h, List.length_take, Nat.min_eq_left (by omega)]
  congr 1
theorem writes_fail {ps : List Bs} {D : Dk} {e j : Nat} (h : (D.writes e (ps.take j)).2 = false) : D.writes e ps = D.writes e (ps.take j) := by
  have := writes_more (ps.take j) (ps.drop j) D e h
  rw [List.take_append_drop] at this
  exact this
theorem journal_Commit_sp (q p : Nat) (J : Jn) (D : Dk) (s : List UInt8) (hs : s.length ≤ 4398046511104) (hl : -1152921504606846976 ≤ D.left ∧ D.left ≤ 9223372036854775807) (he : J.e ≤ 1099511627776) (hjl : J.l.length ≤ 1099511627776) :
    Sp1 Try.prog 39 [.pointer (some ⟨q, 0, none⟩), vS s] [IsJ q p J, IsD p D] (vI (commitJ J D s).2.2) [IsJ q p (commitJ J D s).1, IsD p (commitJ J D s).2.1] := by
  refine Sp.body (n := 71) Try.call39 Try.func39 rfl rfl rfl ?_
  refine wc_know (A := IsD p D) (.there .here) ok_len (fun ok => ?_)
  have hm := ok.many
  have hpl := piecesS_len s
  refine wc_exi fun a => wc_exi fun c => wc_al ?_
  refine p_seq rfl ?_
  refine p_region rfl ?_
  refine wo_pv (pv_assign rfl) rfl ?_
  refine q_seq ?_
  refine p_seq rfl ?_
  refine p_seq rfl ?_
  refine p_region rfl ?_
  refine wo_pv (pv_move rfl) rfl ?_
  refine wo_pv (by first | exact pv_nilCheck_p rfl | exact pv_nilCheck_f rfl) rfl ?_
  refine wo_pv (pv_fieldAddrk Try.underlying111 rfl ti4 rfl rfl (k := 3) rfl (by first | exact Nat.zero_add _ | exact Nat.add_zero _ | exact rfl)) rfl ?_
  refine r_load Try.underlying4 rfl rfl rfl rfl ?_
  refine q_seq ?_
  first | refine p_ite rfl rfl (fun h11 => ?_) (fun h11 => ?_) | refine p_cond rfl rfl (fun h11 => ?_) (fun h11 => ?_)
  · -- t11 True
    refine p_seq rfl ?_
    refine p_region rfl ?_
    refine wo_pv (pv_assign rfl) rfl ?_
    refine q_seq ?_
    refine p_ret rfl ?_
    refine t_seq_ret ?_
    have hw : commitJ J D s = (J, D, 9) := by rw [commitJ, if_pos h11]
    rw [hw]
    refine fin_ret () (vs := [_]) (Cs := []) rfl (.tmp rfl .nil) rfl trivial ?_
    exact ent_step (fold_isJ J (by rfl) (by exact ⟨rfl, rfl⟩) (by rfl) (by exact ⟨_, _, rfl⟩) (by rfl) (by rfl) (by rfl) (by rfl)) ent_pick
  · -- t11 False
    refine p_skip rfl ?_
    refine t_seq ?_
    refine p_seq rfl ?_
    refine p_region rfl ?_
    refine wo_pv (pv_move rfl) rfl ?_
    refine r_callX (journal_Pieces_sp s hs) rfl rfl rfl (fun x13 _ => ?_)
    obtain ⟨a13, c13⟩ := x13
    dsimp only
    refine wo_frz a13 ?_
    generalize hps : piecesS s = ps at *
    refine wo_pv (pv_assign rfl) rfl ?_
    refine q_seq ?_
    refine p_seq rfl ?_
    refine p_seq rfl ?_
    refine d_draw rfl rfl rfl [Ce q 111 [.pointer (some ⟨p, 0, none⟩), .slice a J.l.length c, vI J.e, vB J.down]] ?_
    refine d_first 0 rfl rfl rfl (by kernel_rfl) (by kernel_rfl) (tl_pv (pv_move rfl)) ?_
    refine d_first 1 rfl rfl rfl (by kernel_rfl) (by kernel_rfl) (tl_pv (pv_call_len_sl Try.underlying46 rfl)) ?_
    refine d_first 2 rfl rfl rfl (by kernel_rfl) (by kernel_rfl) (tl_pv (pv_move rfl)) ?_
    refine d_first 3 rfl rfl rfl (by kernel_rfl) (by kernel_rfl) (tl_pv (by first | exact pv_nilCheck_p rfl | exact pv_nilCheck_f rfl)) ?_
    refine d_first 4 rfl rfl rfl (by kernel_rfl) (by kernel_rfl) (tl_pv (pv_fieldAddrk Try.underlying111 rfl ti22 rfl rfl (k := 0) rfl (by first | exact Nat.zero_add _ | exact Nat.add_zero _ | exact rfl))) ?_
    refine d_first 5 rfl rfl rfl (by kernel_rfl) (by kernel_rfl) (tl_load Try.underlying22 rfl rfl rfl) ?_
    refine d_first 7 rfl rfl rfl (by kernel_rfl) (by kernel_rfl) (tl_pv (pv_move rfl)) ?_
    refine d_first 8 rfl rfl rfl (by kernel_rfl) (by kernel_rfl) (tl_pv (by first | exact pv_nilCheck_p rfl | exact pv_nilCheck_f rfl)) ?_
    refine d_first 9 rfl rfl rfl (by kernel_rfl) (by kernel_rfl) (tl_pv (pv_fieldAddrk Try.underlying111 rfl ti3 rfl rfl (k := 2) rfl (by first | exact Nat.zero_add _ | exact Nat.add_zero _ | exact rfl))) ?_
    refine d_first 10 rfl rfl rfl (by kernel_rfl) (by kernel_rfl) (tl_load Try.underlying3 rfl rfl rfl) ?_
    refine d_next 6 (by kernel_rfl) rfl ?_
    refine an_call1 (disk_Sectors_sp p D) rfl rfl rfl ?_
    refine d_first 11 rfl rfl rfl (by kernel_rfl) (by kernel_rfl) (tl_pv (pv_sub rfl rfl (by omega))) ?_
    refine d_first 12 rfl rfl rfl (by kernel_rfl) (by kernel_rfl) (tl_pv (pv_gtr rfl rfl)) ?_
    refine d_done (by kernel_rfl) ?_
    refine t_seq ?_
    first | refine p_ite rfl rfl (fun h26 => ?_) (fun h26 => ?_) | refine p_cond rfl rfl (fun h26 => ?_) (fun h26 => ?_)
    · -- t26 True
      refine p_seq rfl ?_
      refine p_region rfl ?_
      refine wo_pv (pv_assign rfl) rfl ?_
      refine q_seq ?_
      refine p_ret rfl ?_
      refine t_seq_ret ?_
      have hw : commitJ J D s = (J, D, 6) := by rw [commitJ, if_neg (by rw [h11]; simp), if_pos (by rw [hps]; exact h26)]
      rw [hw]
      refine fin_ret () (vs := [_]) (Cs := []) rfl (.tmp rfl .nil) rfl trivial ?_
      exact ent_step (fold_isJ J (by rfl) (by exact ⟨rfl, rfl⟩) (by rfl) (by exact ⟨_, _, rfl⟩) (by rfl) (by rfl) (by rfl) (by rfl)) ent_pick
    · -- t26 False
      refine p_skip rfl ?_
      refine t_seq ?_
      refine p_seq rfl ?_
      refine p_seq rfl ?_
      refine p_region rfl ?_
      refine wo_pv (pv_move rfl) rfl ?_
      refine wo_pv (pv_call_len_sl Try.underlying46 rfl) rfl ?_
      refine wo_pv (pv_move rfl) rfl ?_
      refine q_seq ?_
      refine p_block 0 rfl ?_
      refine p_loop (fun (i : { j : Nat // j ≤ ps.length ∧ (D.writes J.e (ps.take j)).2 = true }) => [(0, .pointer (some ⟨q, 0, none⟩)), (1, vS s), (5, .slice a13 ps.length c13), (27, .slice a13 ps.length c13), (28, vI ps.length), (29, vI i.1)]) (fun (i : { j : Nat // j ≤ ps.length ∧ (D.writes J.e (ps.take j)).2 = true }) => [Ce q 111 [.pointer (some ⟨p, 0, none⟩), .slice a J.l.length c, vI J.e, vB J.down], Row 9 1 (.slice a J.l.length c) J.l.length (J.l.map vS), IsD p (D.writes J.e (ps.take i.1)).1, SlI a13 (ps.map vS)]) (fun (i : { j : Nat // j ≤ ps.length ∧ (D.writes J.e (ps.take j)).2 = true }) => ps.length - i.1) rfl (⟨0, Nat.zero_le _, rfl⟩) ?_ ?_ (fun i => ?_)
      · exact ⟨rfl, rfl, rfl, rfl, rfl, rfl, trivial⟩
      · -- H at start
        show Ent _ [Ce q 111 [.pointer (some ⟨p, 0, none⟩), .slice a J.l.length c, vI J.e, vB J.down], Row 9 1 (.slice a J.l.length c) J.l.length (J.l.map vS), IsD p D, SlI a13 (ps.map vS)]
        exact ent_pick
      obtain ⟨j, hj, hw⟩ := i
      have hwl := writes_left (ps.take j) D J.e
      rw [List.length_take] at hwl
      generalize hD : (D.writes J.e (ps.take j)).1 = D' at *
      try dsimp only
      refine p_seq rfl ?_
      refine p_region rfl ?_
      refine wo_pv (pv_lss rfl rfl) rfl ?_
      refine q_seq ?_
      refine p_seq rfl ?_
      first | refine p_ite rfl rfl (fun h30 => ?_) (fun h30 => ?_) | refine p_cond rfl rfl (fun h30 => ?_) (fun h30 => ?_)
      · -- t30 True
        refine p_skip rfl ?_
        refine t_seq ?_
        refine p_seq rfl ?_
        refine p_block 1 rfl ?_
        refine p_seq rfl ?_
        refine p_region rfl ?_
        refine wo_pv (pv_move rfl) rfl ?_
        refine r_elemAddr (sz := 1) Try.underlying46 ti9 rfl rfl rfl rfl (by omega) (by first | (rw [List.length_map]; omega) | (rw [flat_len (sz := 1) (fun _ => rfl)]; omega) | (simp; omega)) (Nat.mul_one _) rfl ?_
        refine r_eload Try.underlying9 rfl rfl (get_map (by omega)) rfl ?_
        refine wo_pv (pv_assign rfl) rfl ?_
        refine wo_pv (pv_assign rfl) rfl ?_
        refine q_seq ?_
        refine p_seq rfl ?_
        refine d_draw rfl rfl rfl [Ce q 111 [.pointer (some ⟨p, 0, none⟩), .slice a J.l.length c, vI J.e, vB J.down]] ?_
        refine d_first 0 rfl rfl rfl (by kernel_rfl) (by kernel_rfl) (tl_pv (pv_move rfl)) ?_
        refine d_first 1 rfl rfl rfl (by kernel_rfl) (by kernel_rfl) (tl_pv (by first | exact pv_nilCheck_p rfl | exact pv_nilCheck_f rfl)) ?_
        refine d_first 2 rfl rfl rfl (by kernel_rfl) (by kernel_rfl) (tl_pv (pv_fieldAddrk Try.underlying111 rfl ti22 rfl rfl (k := 0) rfl (by first | exact Nat.zero_add _ | exact Nat.add_zero _ | exact rfl))) ?_
        refine d_first 3 rfl rfl rfl (by kernel_rfl) (by kernel_rfl) (tl_load Try.underlying22 rfl rfl rfl) ?_
        refine d_first 4 rfl rfl rfl (by kernel_rfl) (by kernel_rfl) (tl_pv (pv_move rfl)) ?_
        refine d_first 5 rfl rfl rfl (by kernel_rfl) (by kernel_rfl) (tl_pv (by first | exact pv_nilCheck_p rfl | exact pv_nilCheck_f rfl)) ?_
        refine d_first 6 rfl rfl rfl (by kernel_rfl) (by kernel_rfl) (tl_pv (pv_fieldAddrk Try.underlying111 rfl ti3 rfl rfl (k := 2) rfl (by first | exact Nat.zero_add _ | exact Nat.add_zero _ | exact rfl))) ?_
        refine d_first 7 rfl rfl rfl (by kernel_rfl) (by kernel_rfl) (tl_load Try.underlying3 rfl rfl rfl) ?_
        refine d_first 8 rfl rfl rfl (by kernel_rfl) (by kernel_rfl) (tl_pv (pv_move rfl)) ?_
        refine d_first 9 rfl rfl rfl (by kernel_rfl) (by kernel_rfl) (tl_pv (pv_add rfl rfl (by omega))) ?_
        refine d_first 10 rfl rfl rfl (by kernel_rfl) (by kernel_rfl) (tl_pv (pv_move rfl)) ?_
        refine d_next 11 (by kernel_rfl) rfl ?_
        refine an_call1 (disk_Write_sp p D' ((J.e : Int) + (j : Int)) (ps[j]'(by omega)) (by rw [piecesS_mem (s := s) (p := ps[j]'(by omega)) (by rw [hps]; exact List.getElem_mem _)]; omega) (by omega)) rfl rfl rfl ?_
        refine d_first 12 rfl rfl rfl (by kernel_rfl) (by kernel_rfl) (tl_pv (by first | exact pv_notd rfl | exact pv_not rfl)) ?_
        refine d_done (by kernel_rfl) ?_
        have hwt := writes_take (ps := ps) (D := D) (e := J.e) (j := j) (by omega) hw
        rw [hD] at hwt
        refine t_seq ?_
        first | refine p_ite rfl rfl (fun h46 => ?_) (fun h46 => ?_) | refine p_cond rfl rfl (fun h46 => ?_) (fun h46 => ?_)
        · -- t46 True
          refine p_seq rfl ?_
          refine p_region rfl ?_
          refine wo_pv (pv_move rfl) rfl ?_
          refine wo_pv (by first | exact pv_nilCheck_p rfl | exact pv_nilCheck_f rfl) rfl ?_
          refine wo_pv (pv_fieldAddrk Try.underlying111 rfl ti4 rfl rfl (k := 3) rfl (by first | exact Nat.zero_add _ | exact Nat.add_zero _ | exact rfl)) rfl ?_
          refine r_store ti4 rfl rfl rfl rfl (by simp; try omega) ?_
          refine q_seq ?_
          refine p_seq rfl ?_
          refine p_region rfl ?_
          refine wo_pv (pv_assign rfl) rfl ?_
          refine q_seq ?_
          refine p_ret rfl ?_
          refine to_block_ret ?_
          refine t_seq_ret ?_
          refine to_inv_ret ?_
          refine to_block_ret ?_
          refine t_seq_ret ?_
          have hw1 : (D.writes J.e (ps.take (j + 1))).2 = false := by rw [hwt]; simpa using h46
          have hw2 := writes_fail hw1
          have hcm : commitJ J D s = (⟨J.l, J.e, true⟩, (D'.write ((J.e : Int) + (j : Int)) (ps[j]'(by omega))).1, 9) := by
            rw [commitJ, if_neg (by rw [h11]; simp), if_neg (by rw [hps]; exact h26), hps, hw2, hwt]
            rw [hwt] at hw1
            revert hw1
            cases D'.write ((J.e : Int) + (j : Int)) (ps[j]'(by omega)) with
            | mk x y => intro hy; dsimp only at hy; subst hy; rfl
          rw [hcm]
          refine fin_ret () (vs := [_]) (Cs := []) rfl (.tmp rfl .nil) rfl trivial ?_
          exact ent_step (fold_isJ ⟨J.l, J.e, true⟩ (by rfl) (by exact ⟨rfl, rfl⟩) (by rfl) (by exact ⟨_, _, rfl⟩) (by rfl) (by rfl) (by rfl) (by rfl)) ent_pick
        · -- t46 False
          refine p_skip rfl ?_
          refine to_block ?_
          refine t_seq ?_
          refine p_region rfl ?_
          refine wo_pv (pv_add rfl rfl (by omega)) rfl ?_
          refine wo_pv (pv_move rfl) rfl ?_
          refine wo_nil ?_
          have hw1 : (D.writes J.e (ps.take (j + 1))).2 = true := by rw [hwt]; simpa using h46
          refine to_inv ⟨j + 1, by omega, hw1⟩ ?_ ⟨rfl, rfl, rfl, rfl, rfl, rfl, trivial⟩ ?_
          · dsimp only; omega
          · dsimp only; rw [hwt]; exact ent_pick
      · -- t30 False
        refine p_exit 0 rfl ?_
        refine t_seq_exit ?_
        refine to_inv_exit ?_
        refine to_block_here ?_
        refine t_seq ?_
        refine p_seq rfl ?_
        refine d_draw rfl rfl rfl [] ?_
        refine d_first 0 rfl rfl rfl (by kernel_rfl) (by kernel_rfl) (tl_pv (pv_move rfl)) ?_
        refine d_first 1 rfl rfl rfl (by kernel_rfl) (by kernel_rfl) (tl_pv (pv_move rfl)) ?_
        refine d_first 2 rfl rfl rfl (by kernel_rfl) (by kernel_rfl) (tl_pv (pv_move rfl)) ?_
        refine d_first 3 rfl rfl rfl (by kernel_rfl) (by kernel_rfl) (tl_pv (by first | exact pv_nilCheck_p rfl | exact pv_nilCheck_f rfl)) ?_
        refine d_first 4 rfl rfl rfl (by kernel_rfl) (by kernel_rfl) (tl_pv (pv_fieldAddrk Try.underlying111 rfl ti46 rfl rfl (k := 1) rfl (by first | exact Nat.zero_add _ | exact Nat.add_zero _ | exact rfl))) ?_
        refine d_first 6 rfl rfl rfl (by kernel_rfl) (by kernel_rfl) (tl_pv (pv_move rfl)) ?_
        refine d_first 9 rfl rfl rfl (by kernel_rfl) (by kernel_rfl) (tl_pv (pv_move rfl)) ?_
        refine d_first 10 rfl rfl rfl (by kernel_rfl) (by kernel_rfl) (tl_pv (by first | exact pv_nilCheck_p rfl | exact pv_nilCheck_f rfl)) ?_
        refine d_first 11 rfl rfl rfl (by kernel_rfl) (by kernel_rfl) (tl_pv (pv_fieldAddrk Try.underlying111 rfl ti3 rfl rfl (k := 2) rfl (by first | exact Nat.zero_add _ | exact Nat.add_zero _ | exact rfl))) ?_
        refine d_first 13 rfl rfl rfl (by kernel_rfl) (by kernel_rfl) (tl_pv (pv_move rfl)) ?_
        refine d_first 14 rfl rfl rfl (by kernel_rfl) (by kernel_rfl) (tl_pv (pv_call_len_sl Try.underlying46 rfl)) ?_
        refine d_next3 5 7 12 (by kernel_rfl) rfl rfl rfl ?_ ?_ ?_
        · -- op 5
          refine an_load Try.underlying46 rfl rfl rfl rfl ?_
          refine d_next2 7 12 (by kernel_rfl) rfl rfl ?_ ?_
          · -- op 7
            refine an_buildSliceL [_] (cs := [_]) Try.underlying46 ti9 rfl rfl rfl rfl rfl rfl rfl rfl (fun b58 => ?_)
            refine d_next2 8 12 (by kernel_rfl) rfl rfl ?_ ?_
            · -- op 8
              refine an_append1 (sz := 1) (bytes := 16) Try.underlying46 ti9 rfl rfl rfl rfl rfl rfl rfl (by rfl) (by rfl) (by omega) (by simp only [maxLen]; omega) rfl (fun a59 c59 => ?_)
              refine d_next 12 (by kernel_rfl) rfl ?_
              refine an_load Try.underlying3 rfl rfl rfl rfl ?_
              refine d_first 15 rfl rfl rfl (by kernel_rfl) (by kernel_rfl) (tl_pv (pv_add rfl rfl (by omega))) ?_
              refine d_first 16 rfl rfl rfl (by kernel_rfl) (by kernel_rfl) (tl_pv (by first | exact pv_nilCheck_p rfl | exact pv_nilCheck_f rfl)) ?_
              refine d_first 17 rfl rfl rfl (by kernel_rfl) (by kernel_rfl) (tl_pv (pv_fieldAddrk Try.underlying111 rfl ti46 rfl rfl (k := 1) rfl (by first | exact Nat.zero_add _ | exact Nat.add_zero _ | exact rfl))) ?_
              refine d_next 18 (by kernel_rfl) rfl ?_
              refine an_store ti46 rfl rfl rfl rfl (by simp; try omega) ?_
              refine d_first 19 rfl rfl rfl (by kernel_rfl) (by kernel_rfl) (tl_pv (by first | exact pv_nilCheck_p rfl | exact pv_nilCheck_f rfl)) ?_
              refine d_first 20 rfl rfl rfl (by kernel_rfl) (by kernel_rfl) (tl_pv (pv_fieldAddrk Try.underlying111 rfl ti3 rfl rfl (k := 2) rfl (by first | exact Nat.zero_add _ | exact Nat.add_zero _ | exact rfl))) ?_
              refine d_next 21 (by kernel_rfl) rfl ?_
              refine an_store ti3 rfl rfl rfl rfl (by simp; try omega) ?_
              refine d_done (by kernel_rfl) ?_
              refine t_seq ?_
              refine p_seq rfl ?_
              refine p_region rfl ?_
              refine wo_pv (pv_assign rfl) rfl ?_
              refine q_seq ?_
              refine p_ret rfl ?_
              have hjl : j = ps.length := by omega
              subst hjl
              rw [List.take_length] at hw hD
              have hcm : commitJ J D s = (⟨J.l ++ [s], J.e + ps.length, false⟩, D', 0) := by
                rw [commitJ, if_neg (by rw [h11]; simp), if_neg (by rw [hps]; exact h26), hps, ← hD]
                revert hw
                cases D.writes J.e ps with
                | mk x y => intro hy; dsimp only at hy; subst hy; rfl
              rw [hcm]
              refine fin_ret () (vs := [_]) (Cs := []) rfl (.tmp rfl .nil) rfl trivial ?_
              exact ent_step (fold_isJ ⟨J.l ++ [s], J.e + ps.length, false⟩ (by rfl) (by exact ⟨rfl, rfl⟩) (by rfl) (by exact ⟨_, _, by rw [List.length_append, List.length_singleton]⟩) (by rw [show ((J.e + ps.length : Nat) : Int) = (J.e : Int) + (ps.length : Int) from by omega]) (by rw [h11]) (by rw [List.length_append, List.length_singleton]) (by rw [List.map_append]; rfl)) ent_pick
            · -- op 12
              refine an_load Try.underlying3 rfl rfl rfl rfl ?_
              refine d_first 15 rfl rfl rfl (by kernel_rfl) (by kernel_rfl) (tl_pv (pv_add rfl rfl (by omega))) ?_
              refine d_next 8 (by kernel_rfl) rfl ?_
              refine an_append1 (sz := 1) (bytes := 16) Try.underlying46 ti9 rfl rfl rfl rfl rfl rfl rfl (by rfl) (by rfl) (by omega) (by simp only [maxLen]; omega) rfl (fun a59 c59 => ?_)
              refine d_first 16 rfl rfl rfl (by kernel_rfl) (by kernel_rfl) (tl_pv (by first | exact pv_nilCheck_p rfl | exact pv_nilCheck_f rfl)) ?_
              refine d_first 17 rfl rfl rfl (by kernel_rfl) (by kernel_rfl) (tl_pv (pv_fieldAddrk Try.underlying111 rfl ti46 rfl rfl (k := 1) rfl (by first | exact Nat.zero_add _ | exact Nat.add_zero _ | exact rfl))) ?_
              refine d_next 18 (by kernel_rfl) rfl ?_
              refine an_store ti46 rfl rfl rfl rfl (by simp; try omega) ?_
              refine d_first 19 rfl rfl rfl (by kernel_rfl) (by kernel_rfl) (tl_pv (by first | exact pv_nilCheck_p rfl | exact pv_nilCheck_f rfl)) ?_
              refine d_first 20 rfl rfl rfl (by kernel_rfl) (by kernel_rfl) (tl_pv (pv_fieldAddrk Try.underlying111 rfl ti3 rfl rfl (k := 2) rfl (by first | exact Nat.zero_add _ | exact Nat.add_zero _ | exact rfl))) ?_
              refine d_next 21 (by kernel_rfl) rfl ?_
              refine an_store ti3 rfl rfl rfl rfl (by simp; try omega) ?_
              refine d_done (by kernel_rfl) ?_
              refine t_seq ?_
              refine p_seq rfl ?_
              refine p_region rfl ?_
              refine wo_pv (pv_assign rfl) rfl ?_
              refine q_seq ?_
              refine p_ret rfl ?_
              have hjl : j = ps.length := by omega
              subst hjl
              rw [List.take_length] at hw hD
              have hcm : commitJ J D s = (⟨J.l ++ [s], J.e + ps.length, false⟩, D', 0) := by
                rw [commitJ, if_neg (by rw [h11]; simp), if_neg (by rw [hps]; exact h26), hps, ← hD]
                revert hw
                cases D.writes J.e ps with
                | mk x y => intro hy; dsimp only at hy; subst hy; rfl
              rw [hcm]
              refine fin_ret () (vs := [_]) (Cs := []) rfl (.tmp rfl .nil) rfl trivial ?_
              exact ent_step (fold_isJ ⟨J.l ++ [s], J.e + ps.length, false⟩ (by rfl) (by exact ⟨rfl, rfl⟩) (by rfl) (by exact ⟨_, _, by rw [List.length_append, List.length_singleton]⟩) (by rw [show ((J.e + ps.length : Nat) : Int) = (J.e : Int) + (ps.length : Int) from by omega]) (by rw [h11]) (by rw [List.length_append, List.length_singleton]) (by rw [List.map_append]; rfl)) ent_pick
          · -- op 12
            refine an_load Try.underlying3 rfl rfl rfl rfl ?_
            refine d_first 15 rfl rfl rfl (by kernel_rfl) (by kernel_rfl) (tl_pv (pv_add rfl rfl (by omega))) ?_
            refine d_next 7 (by kernel_rfl) rfl ?_
            refine an_buildSliceL [_] (cs := [_]) Try.underlying46 ti9 rfl rfl rfl rfl rfl rfl rfl rfl (fun b58 => ?_)
            refine d_next 8 (by kernel_rfl) rfl ?_
            refine an_append1 (sz := 1) (bytes := 16) Try.underlying46 ti9 rfl rfl rfl rfl rfl rfl rfl (by rfl) (by rfl) (by omega) (by simp only [maxLen]; omega) rfl (fun a59 c59 => ?_)
            refine d_first 16 rfl rfl rfl (by kernel_rfl) (by kernel_rfl) (tl_pv (by first | exact pv_nilCheck_p rfl | exact pv_nilCheck_f rfl)) ?_
            refine d_first 17 rfl rfl rfl (by kernel_rfl) (by kernel_rfl) (tl_pv (pv_fieldAddrk Try.underlying111 rfl ti46 rfl rfl (k := 1) rfl (by first | exact Nat.zero_add _ | exact Nat.add_zero _ | exact rfl))) ?_
            refine d_next 18 (by kernel_rfl) rfl ?_
            refine an_store ti46 rfl rfl rfl rfl (by simp; try omega) ?_
            refine d_first 19 rfl rfl rfl (by kernel_rfl) (by kernel_rfl) (tl_pv (by first | exact pv_nilCheck_p rfl | exact pv_nilCheck_f rfl)) ?_
            refine d_first 20 rfl rfl rfl (by kernel_rfl) (by kernel_rfl) (tl_pv (pv_fieldAddrk Try.underlying111 rfl ti3 rfl rfl (k := 2) rfl (by first | exact Nat.zero_add _ | exact Nat.add_zero _ | exact rfl))) ?_
            refine d_next 21 (by kernel_rfl) rfl ?_
            refine an_store ti3 rfl rfl rfl rfl (by simp; try omega) ?_
            refine d_done (by kernel_rfl) ?_
            refine t_seq ?_
            refine p_seq rfl ?_
            refine p_region rfl ?_
            refine wo_pv (pv_assign rfl) rfl ?_
            refine q_seq ?_
            refine p_ret rfl ?_
            have hjl : j = ps.length := by omega
            subst hjl
            rw [List.take_length] at hw hD
            have hcm : commitJ J D s = (⟨J.l ++ [s], J.e + ps.length, false⟩, D', 0) := by
              rw [commitJ, if_neg (by rw [h11]; simp), if_neg (by rw [hps]; exact h26), hps, ← hD]
              revert hw
              cases D.writes J.e ps with
              | mk x y => intro hy; dsimp only at hy; subst hy; rfl
            rw [hcm]
            refine fin_ret () (vs := [_]) (Cs := []) rfl (.tmp rfl .nil) rfl trivial ?_
            exact ent_step (fold_isJ ⟨J.l ++ [s], J.e + ps.length, false⟩ (by rfl) (by exact ⟨rfl, rfl⟩) (by rfl) (by exact ⟨_, _, by rw [List.length_append, List.length_singleton]⟩) (by rw [show ((J.e + ps.length : Nat) : Int) = (J.e : Int) + (ps.length : Int) from by omega]) (by rw [h11]) (by rw [List.length_append, List.length_singleton]) (by rw [List.map_append]; rfl)) ent_pick
        · -- op 7
          refine an_buildSliceL [_] (cs := [_]) Try.underlying46 ti9 rfl rfl rfl rfl rfl rfl rfl rfl (fun b58 => ?_)
          refine d_next2 5 12 (by kernel_rfl) rfl rfl ?_ ?_
          · -- op 5
            refine an_load Try.underlying46 rfl rfl rfl rfl ?_
            refine d_next2 8 12 (by kernel_rfl) rfl rfl ?_ ?_
            · -- op 8
              refine an_append1 (sz := 1) (bytes := 16) Try.underlying46 ti9 rfl rfl rfl rfl rfl rfl rfl (by rfl) (by rfl) (by omega) (by simp only [maxLen]; omega) rfl (fun a59 c59 => ?_)
              refine d_next 12 (by kernel_rfl) rfl ?_
              refine an_load Try.underlying3 rfl rfl rfl rfl ?_
              refine d_first 15 rfl rfl rfl (by kernel_rfl) (by kernel_rfl) (tl_pv (pv_add rfl rfl (by omega))) ?_
              refine d_first 16 rfl rfl rfl (by kernel_rfl) (by kernel_rfl) (tl_pv (by first | exact pv_nilCheck_p rfl | exact pv_nilCheck_f rfl)) ?_
              refine d_first 17 rfl rfl rfl (by kernel_rfl) (by kernel_rfl) (tl_pv (pv_fieldAddrk Try.underlying111 rfl ti46 rfl rfl (k := 1) rfl (by first | exact Nat.zero_add _ | exact Nat.add_zero _ | exact rfl))) ?_
              refine d_next 18 (by kernel_rfl) rfl ?_
              refine an_store ti46 rfl rfl rfl rfl (by simp; try omega) ?_
              refine d_first 19 rfl rfl rfl (by kernel_rfl) (by kernel_rfl) (tl_pv (by first | exact pv_nilCheck_p rfl | exact pv_nilCheck_f rfl)) ?_
              refine d_first 20 rfl rfl rfl (by kernel_rfl) (by kernel_rfl) (tl_pv (pv_fieldAddrk Try.underlying111 rfl ti3 rfl rfl (k := 2) rfl (by first | exact Nat.zero_add _ | exact Nat.add_zero _ | exact rfl))) ?_
              refine d_next 21 (by kernel_rfl) rfl ?_
              refine an_store ti3 rfl rfl rfl rfl (by simp; try omega) ?_
              refine d_done (by kernel_rfl) ?_
              refine t_seq ?_
              refine p_seq rfl ?_
              refine p_region rfl ?_
              refine wo_pv (pv_assign rfl) rfl ?_
              refine q_seq ?_
              refine p_ret rfl ?_
              have hjl : j = ps.length := by omega
              subst hjl
              rw [List.take_length] at hw hD
              have hcm : commitJ J D s = (⟨J.l ++ [s], J.e + ps.length, false⟩, D', 0) := by
                rw [commitJ, if_neg (by rw [h11]; simp), if_neg (by rw [hps]; exact h26), hps, ← hD]
                revert hw
                cases D.writes J.e ps with
                | mk x y => intro hy; dsimp only at hy; subst hy; rfl
              rw [hcm]
              refine fin_ret () (vs := [_]) (Cs := []) rfl (.tmp rfl .nil) rfl trivial ?_
              exact ent_step (fold_isJ ⟨J.l ++ [s], J.e + ps.length, false⟩ (by rfl) (by exact ⟨rfl, rfl⟩) (by rfl) (by exact ⟨_, _, by rw [List.length_append, List.length_singleton]⟩) (by rw [show ((J.e + ps.length : Nat) : Int) = (J.e : Int) + (ps.length : Int) from by omega]) (by rw [h11]) (by rw [List.length_append, List.length_singleton]) (by rw [List.map_append]; rfl)) ent_pick
            · -- op 12
              refine an_load Try.underlying3 rfl rfl rfl rfl ?_
              refine d_first 15 rfl rfl rfl (by kernel_rfl) (by kernel_rfl) (tl_pv (pv_add rfl rfl (by omega))) ?_
              refine d_next 8 (by kernel_rfl) rfl ?_
              refine an_append1 (sz := 1) (bytes := 16) Try.underlying46 ti9 rfl rfl rfl rfl rfl rfl rfl (by rfl) (by rfl) (by omega) (by simp only [maxLen]; omega) rfl (fun a59 c59 => ?_)
              refine d_first 16 rfl rfl rfl (by kernel_rfl) (by kernel_rfl) (tl_pv (by first | exact pv_nilCheck_p rfl | exact pv_nilCheck_f rfl)) ?_
              refine d_first 17 rfl rfl rfl (by kernel_rfl) (by kernel_rfl) (tl_pv (pv_fieldAddrk Try.underlying111 rfl ti46 rfl rfl (k := 1) rfl (by first | exact Nat.zero_add _ | exact Nat.add_zero _ | exact rfl))) ?_
              refine d_next 18 (by kernel_rfl) rfl ?_
              refine an_store ti46 rfl rfl rfl rfl (by simp; try omega) ?_
              refine d_first 19 rfl rfl rfl (by kernel_rfl) (by kernel_rfl) (tl_pv (by first | exact pv_nilCheck_p rfl | exact pv_nilCheck_f rfl)) ?_
              refine d_first 20 rfl rfl rfl (by kernel_rfl) (by kernel_rfl) (tl_pv (pv_fieldAddrk Try.underlying111 rfl ti3 rfl rfl (k := 2) rfl (by first | exact Nat.zero_add _ | exact Nat.add_zero _ | exact rfl))) ?_
              refine d_next 21 (by kernel_rfl) rfl ?_
              refine an_store ti3 rfl rfl rfl rfl (by simp; try omega) ?_
              refine d_done (by kernel_rfl) ?_
              refine t_seq ?_
              refine p_seq rfl ?_
              refine p_region rfl ?_
              refine wo_pv (pv_assign rfl) rfl ?_
              refine q_seq ?_
              refine p_ret rfl ?_
              have hjl : j = ps.length := by omega
              subst hjl
              rw [List.take_length] at hw hD
              have hcm : commitJ J D s = (⟨J.l ++ [s], J.e + ps.length, false⟩, D', 0) := by
                rw [commitJ, if_neg (by rw [h11]; simp), if_neg (by rw [hps]; exact h26), hps, ← hD]
                revert hw
                cases D.writes J.e ps with
                | mk x y => intro hy; dsimp only at hy; subst hy; rfl
              rw [hcm]
              refine fin_ret () (vs := [_]) (Cs := []) rfl (.tmp rfl .nil) rfl trivial ?_
              exact ent_step (fold_isJ ⟨J.l ++ [s], J.e + ps.length, false⟩ (by rfl) (by exact ⟨rfl, rfl⟩) (by rfl) (by exact ⟨_, _, by rw [List.length_append, List.length_singleton]⟩) (by rw [show ((J.e + ps.length : Nat) : Int) = (J.e : Int) + (ps.length : Int) from by omega]) (by rw [h11]) (by rw [List.length_append, List.length_singleton]) (by rw [List.map_append]; rfl)) ent_pick
          · -- op 12
            refine an_load Try.underlying3 rfl rfl rfl rfl ?_
            refine d_first 15 rfl rfl rfl (by kernel_rfl) (by kernel_rfl) (tl_pv (pv_add rfl rfl (by omega))) ?_
            refine d_next 5 (by kernel_rfl) rfl ?_
            refine an_load Try.underlying46 rfl rfl rfl rfl ?_
            refine d_next 8 (by kernel_rfl) rfl ?_
            refine an_append1 (sz := 1) (bytes := 16) Try.underlying46 ti9 rfl rfl rfl rfl rfl rfl rfl (by rfl) (by rfl) (by omega) (by simp only [maxLen]; omega) rfl (fun a59 c59 => ?_)
            refine d_first 16 rfl rfl rfl (by kernel_rfl) (by kernel_rfl) (tl_pv (by first | exact pv_nilCheck_p rfl | exact pv_nilCheck_f rfl)) ?_
            refine d_first 17 rfl rfl rfl (by kernel_rfl) (by kernel_rfl) (tl_pv (pv_fieldAddrk Try.underlying111 rfl ti46 rfl rfl (k := 1) rfl (by first | exact Nat.zero_add _ | exact Nat.add_zero _ | exact rfl))) ?_
            refine d_next 18 (by kernel_rfl) rfl ?_
            refine an_store ti46 rfl rfl rfl rfl (by simp; try omega) ?_
            refine d_first 19 rfl rfl rfl (by kernel_rfl) (by kernel_rfl) (tl_pv (by first | exact pv_nilCheck_p rfl | exact pv_nilCheck_f rfl)) ?_
            refine d_first 20 rfl rfl rfl (by kernel_rfl) (by kernel_rfl) (tl_pv (pv_fieldAddrk Try.underlying111 rfl ti3 rfl rfl (k := 2) rfl (by first | exact Nat.zero_add _ | exact Nat.add_zero _ | exact rfl))) ?_
            refine d_next 21 (by kernel_rfl) rfl ?_
            refine an_store ti3 rfl rfl rfl rfl (by simp; try omega) ?_
            refine d_done (by kernel_rfl) ?_
            refine t_seq ?_
            refine p_seq rfl ?_
            refine p_region rfl ?_
            refine wo_pv (pv_assign rfl) rfl ?_
            refine q_seq ?_
            refine p_ret rfl ?_
            have hjl : j = ps.length := by omega
            subst hjl
            rw [List.take_length] at hw hD
            have hcm : commitJ J D s = (⟨J.l ++ [s], J.e + ps.length, false⟩, D', 0) := by
              rw [commitJ, if_neg (by rw [h11]; simp), if_neg (by rw [hps]; exact h26), hps, ← hD]
              revert hw
              cases D.writes J.e ps with
              | mk x y => intro hy; dsimp only at hy; subst hy; rfl
            rw [hcm]
            refine fin_ret () (vs := [_]) (Cs := []) rfl (.tmp rfl .nil) rfl trivial ?_
            exact ent_step (fold_isJ ⟨J.l ++ [s], J.e + ps.length, false⟩ (by rfl) (by exact ⟨rfl, rfl⟩) (by rfl) (by exact ⟨_, _, by rw [List.length_append, List.length_singleton]⟩) (by rw [show ((J.e + ps.length : Nat) : Int) = (J.e : Int) + (ps.length : Int) from by omega]) (by rw [h11]) (by rw [List.length_append, List.length_singleton]) (by rw [List.map_append]; rfl)) ent_pick
        · -- op 12
          refine an_load Try.underlying3 rfl rfl rfl rfl ?_
          refine d_first 15 rfl rfl rfl (by kernel_rfl) (by kernel_rfl) (tl_pv (pv_add rfl rfl (by omega))) ?_
          refine d_next2 5 7 (by kernel_rfl) rfl rfl ?_ ?_
          · -- op 5
            refine an_load Try.underlying46 rfl rfl rfl rfl ?_
            refine d_next 7 (by kernel_rfl) rfl ?_
            refine an_buildSliceL [_] (cs := [_]) Try.underlying46 ti9 rfl rfl rfl rfl rfl rfl rfl rfl (fun b58 => ?_)
            refine d_next 8 (by kernel_rfl) rfl ?_
            refine an_append1 (sz := 1) (bytes := 16) Try.underlying46 ti9 rfl rfl rfl rfl rfl rfl rfl (by rfl) (by rfl) (by omega) (by simp only [maxLen]; omega) rfl (fun a59 c59 => ?_)
            refine d_first 16 rfl rfl rfl (by kernel_rfl) (by kernel_rfl) (tl_pv (by first | exact pv_nilCheck_p rfl | exact pv_nilCheck_f rfl)) ?_
            refine d_first 17 rfl rfl rfl (by kernel_rfl) (by kernel_rfl) (tl_pv (pv_fieldAddrk Try.underlying111 rfl ti46 rfl rfl (k := 1) rfl (by first | exact Nat.zero_add _ | exact Nat.add_zero _ | exact rfl))) ?_
            refine d_next 18 (by kernel_rfl) rfl ?_
            refine an_store ti46 rfl rfl rfl rfl (by simp; try omega) ?_
            refine d_first 19 rfl rfl rfl (by kernel_rfl) (by kernel_rfl) (tl_pv (by first | exact pv_nilCheck_p rfl | exact pv_nilCheck_f rfl)) ?_
            refine d_first 20 rfl rfl rfl (by kernel_rfl) (by kernel_rfl) (tl_pv (pv_fieldAddrk Try.underlying111 rfl ti3 rfl rfl (k := 2) rfl (by first | exact Nat.zero_add _ | exact Nat.add_zero _ | exact rfl))) ?_
            refine d_next 21 (by kernel_rfl) rfl ?_
            refine an_store ti3 rfl rfl rfl rfl (by simp; try omega) ?_
            refine d_done (by kernel_rfl) ?_
            refine t_seq ?_
            refine p_seq rfl ?_
            refine p_region rfl ?_
            refine wo_pv (pv_assign rfl) rfl ?_
            refine q_seq ?_
            refine p_ret rfl ?_
            have hjl : j = ps.length := by omega
            subst hjl
            rw [List.take_length] at hw hD
            have hcm : commitJ J D s = (⟨J.l ++ [s], J.e + ps.length, false⟩, D', 0) := by
              rw [commitJ, if_neg (by rw [h11]; simp), if_neg (by rw [hps]; exact h26), hps, ← hD]
              revert hw
              cases D.writes J.e ps with
              | mk x y => intro hy; dsimp only at hy; subst hy; rfl
            rw [hcm]
            refine fin_ret () (vs := [_]) (Cs := []) rfl (.tmp rfl .nil) rfl trivial ?_
            exact ent_step (fold_isJ ⟨J.l ++ [s], J.e + ps.length, false⟩ (by rfl) (by exact ⟨rfl, rfl⟩) (by rfl) (by exact ⟨_, _, by rw [List.length_append, List.length_singleton]⟩) (by rw [show ((J.e + ps.length : Nat) : Int) = (J.e : Int) + (ps.length : Int) from by omega]) (by rw [h11]) (by rw [List.length_append, List.length_singleton]) (by rw [List.map_append]; rfl)) ent_pick
          · -- op 7
            refine an_buildSliceL [_] (cs := [_]) Try.underlying46 ti9 rfl rfl rfl rfl rfl rfl rfl rfl (fun b58 => ?_)
            refine d_next 5 (by kernel_rfl) rfl ?_
            refine an_load Try.underlying46 rfl rfl rfl rfl ?_
            refine d_next 8 (by kernel_rfl) rfl ?_
            refine an_append1 (sz := 1) (bytes := 16) Try.underlying46 ti9 rfl rfl rfl rfl rfl rfl rfl (by rfl) (by rfl) (by omega) (by simp only [maxLen]; omega) rfl (fun a59 c59 => ?_)
            refine d_first 16 rfl rfl rfl (by kernel_rfl) (by kernel_rfl) (tl_pv (by first | exact pv_nilCheck_p rfl | exact pv_nilCheck_f rfl)) ?_
            refine d_first 17 rfl rfl rfl (by kernel_rfl) (by kernel_rfl) (tl_pv (pv_fieldAddrk Try.underlying111 rfl ti46 rfl rfl (k := 1) rfl (by first | exact Nat.zero_add _ | exact Nat.add_zero _ | exact rfl))) ?_
            refine d_next 18 (by kernel_rfl) rfl ?_
            refine an_store ti46 rfl rfl rfl rfl (by simp; try omega) ?_
            refine d_first 19 rfl rfl rfl (by kernel_rfl) (by kernel_rfl) (tl_pv (by first | exact pv_nilCheck_p rfl | exact pv_nilCheck_f rfl)) ?_
            refine d_first 20 rfl rfl rfl (by kernel_rfl) (by kernel_rfl) (tl_pv (pv_fieldAddrk Try.underlying111 rfl ti3 rfl rfl (k := 2) rfl (by first | exact Nat.zero_add _ | exact Nat.add_zero _ | exact rfl))) ?_
            refine d_next 21 (by kernel_rfl) rfl ?_
            refine an_store ti3 rfl rfl rfl rfl (by simp; try omega) ?_
            refine d_done (by kernel_rfl) ?_
            refine t_seq ?_
            refine p_seq rfl ?_
            refine p_region rfl ?_
            refine wo_pv (pv_assign rfl) rfl ?_
            refine q_seq ?_
            refine p_ret rfl ?_
            have hjl : j = ps.length := by omega
            subst hjl
            rw [List.take_length] at hw hD
            have hcm : commitJ J D s = (⟨J.l ++ [s], J.e + ps.length, false⟩, D', 0) := by
              rw [commitJ, if_neg (by rw [h11]; simp), if_neg (by rw [hps]; exact h26), hps, ← hD]
              revert hw
              cases D.writes J.e ps with
              | mk x y => intro hy; dsimp only at hy; subst hy; rfl
            rw [hcm]
            refine fin_ret () (vs := [_]) (Cs := []) rfl (.tmp rfl .nil) rfl trivial ?_
            exact ent_step (fold_isJ ⟨J.l ++ [s], J.e + ps.length, false⟩ (by rfl) (by exact ⟨rfl, rfl⟩) (by rfl) (by exact ⟨_, _, by rw [List.length_append, List.length_singleton]⟩) (by rw [show ((J.e + ps.length : Nat) : Int) = (J.e : Int) + (ps.length : Int) from by omega]) (by rw [h11]) (by rw [List.length_append, List.length_singleton]) (by rw [List.map_append]; rfl)) ent_pick
end Go.Proofs.Ytimafngkifakfaa
