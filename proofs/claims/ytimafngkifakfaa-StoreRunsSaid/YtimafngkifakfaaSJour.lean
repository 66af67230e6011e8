/- Package journal. -/
import Derived.Test.YtimafngkifakfaaSJour0
set_option linter.unusedVariables false
set_option maxRecDepth 100000
set_option linter.unusedSimpArgs false
namespace Go.Proofs.Ytimafngkifakfaa


theorem journal_Pieces_sp (s : List UInt8) (h : s.length ≤ 4398046511104) : Sp Try.prog 58 [vS s] [] (X := Option Addr × Nat) (fun x => .slice x.1 (piecesS s).length x.2) (fun _ => True) (fun x => [Row 9 1 (.slice x.1 (piecesS s).length x.2) (piecesS s).length ((piecesS s).map vS)]) := by
  refine Sp.body (n := 20) Try.call58 Try.func58 rfl rfl rfl ?_
  refine p_seq rfl ?_
  refine p_region rfl ?_
  refine wo_pv (pv_assign rfl) rfl ?_
  refine q_seq ?_
  refine p_seq rfl ?_
  refine p_region rfl ?_
  refine wo_pv (pv_assign rfl) rfl ?_
  refine q_seq ?_
  refine p_seq rfl ?_
  refine p_block 0 rfl ?_
  refine p_loop (fun (i : { p : (Option Addr × Nat) × List (List UInt8) × List UInt8 // p.2.1 ++ piecesS p.2.2 = piecesS s ∧ p.2.1.length + p.2.2.length ≤ s.length }) => [(0, vS i.1.2.2), (3, .slice i.1.1.1 i.1.2.1.length i.1.1.2)]) (fun (i : { p : (Option Addr × Nat) × List (List UInt8) × List UInt8 // p.2.1 ++ piecesS p.2.2 = piecesS s ∧ p.2.1.length + p.2.2.length ≤ s.length }) => [Row 9 1 (.slice i.1.1.1 i.1.2.1.length i.1.1.2) i.1.2.1.length (i.1.2.1.map vS)]) (fun (i : { p : (Option Addr × Nat) × List (List UInt8) × List UInt8 // p.2.1 ++ piecesS p.2.2 = piecesS s ∧ p.2.1.length + p.2.2.length ≤ s.length }) => i.1.2.2.length) rfl (⟨((none, 0), [], s), rfl, by simp⟩) ?_ ?_ (fun i => ?_)
  · exact ⟨rfl, rfl, trivial⟩
  · -- H at start
    exact row_nil
  obtain ⟨⟨⟨a, c⟩, dn, rs⟩, hi, hl⟩ := i
  dsimp only at hi hl
  try dsimp only
  refine p_seq rfl ?_
  refine p_seq rfl ?_
  refine p_region rfl ?_
  refine wo_pv (pv_move rfl) rfl ?_
  refine wo_pv (pv_call_len_s Try.underlying9 rfl) rfl ?_
  refine wo_pv (pv_gtr rfl rfl) rfl ?_
  refine q_seq ?_
  first | refine p_ite rfl rfl (fun h6 => ?_) (fun h6 => ?_) | refine p_cond rfl rfl (fun h6 => ?_) (fun h6 => ?_)
  · -- t6 True
    refine p_skip rfl ?_
    refine t_seq ?_
    refine p_block 1 rfl ?_
    refine p_seq rfl ?_
    refine p_region rfl ?_
    refine wo_pv (pv_move rfl) rfl ?_
    refine wo_pv (pv_move rfl) rfl ?_
    refine wo_pv (pv_slice_tom (m := 30) Try.underlying9 rfl rfl rfl (by omega)) rfl ?_
    refine r_callF (journal_piece_sp (rs.take 30) (by simp; omega) 1) rfl rfl rfl ?_
    refine r_buildSliceL [_] (cs := [_]) Try.underlying46 ti9 rfl rfl rfl rfl rfl rfl rfl rfl (fun b11 => ?_)
    refine r_append1 (sz := 1) (bytes := 16) Try.underlying46 ti9 rfl rfl rfl rfl rfl rfl rfl (by rfl) (by rfl) (by omega) (by simp only [maxLen]; omega) rfl (fun a12 c12 => ?_)
    refine wo_pv (pv_assign rfl) rfl ?_
    refine q_seq ?_
    refine p_region rfl ?_
    refine wo_pv (pv_move rfl) rfl ?_
    refine wo_pv (pv_slice_fromm (m := 30) Try.underlying9 rfl rfl rfl (by omega)) rfl ?_
    refine wo_pv (pv_assign rfl) rfl ?_
    refine wo_nil ?_
    refine to_block ?_
    refine to_inv ⟨((a12, c12), dn ++ [pieceS (rs.take 30) 1], rs.drop 30), ?_, ?_⟩ ?_ ⟨rfl, sl_eq (by simp), trivial⟩ ?_
    · rw [← hi, piecesS_more (s := rs) (by omega)]; simp
    · simp; omega
    · simp; omega
    · simp only [List.map_append, List.length_append, List.length_singleton, List.map_cons, List.map_nil]
      exact ent_pick
  · -- t6 False
    refine p_exit 0 rfl ?_
    refine t_seq_exit ?_
    refine to_inv_exit ?_
    refine to_block_here ?_
    refine t_seq ?_
    refine p_seq rfl ?_
    refine p_region rfl ?_
    refine wo_pv (pv_move rfl) rfl ?_
    refine wo_pv (pv_move rfl) rfl ?_
    refine r_callF (journal_piece_sp rs (by omega) 2) rfl rfl rfl ?_
    refine r_buildSliceL [_] (cs := [_]) Try.underlying46 ti9 rfl rfl rfl rfl rfl rfl rfl rfl (fun b18 => ?_)
    refine r_append1 (sz := 1) (bytes := 16) Try.underlying46 ti9 rfl rfl rfl rfl rfl rfl rfl (by rfl) (by rfl) (by omega) (by simp only [maxLen]; omega) rfl (fun a19 c19 => ?_)
    refine wo_pv (pv_assign rfl) rfl ?_
    refine q_seq ?_
    refine p_ret rfl ?_
    have hp : piecesS s = dn ++ [pieceS rs 2] := by rw [← hi, piecesS_last (by omega)]
    refine fin_ret (a19, c19) (vs := [_]) (Cs := []) rfl (.tmp rfl .nil) ?_ trivial ?_
    · simp [pack, hp]
    · simp only [hp, List.map_append, List.length_append, List.length_singleton, List.map_cons, List.map_nil]
      exact ent_pick

theorem disk_All_sp (p : Nat) (D : Dk) : Sp Try.prog 56 [.pointer (some ⟨p, 0, none⟩)] [IsD p D] (X := Nat × Option Addr × Nat) (fun x => .func (.func 86) #[] #[.pointer (some ⟨x.1, 0, none⟩)]) (fun _ => True)
    (fun x => [IsD p D, Ce x.1 46 [.slice x.2.1 D.secs.length x.2.2], SlI x.2.1 (D.secs.map vS)]) := by
  refine Sp.body (n := 9) Try.call56 Try.func56 rfl rfl rfl ?_
  refine wc_exi fun a => wc_exi fun c => wc_al (wc_pu fun ok => ?_)
  have hm := ok.many
  refine wc_know (A := Row 9 1 (.slice a D.secs.length c) D.secs.length (D.secs.map vS)) (.there .here) row_none (fun hnone => ?_)
  refine p_seq rfl ?_
  refine p_region rfl ?_
  refine wo_pv (pv_assign rfl) rfl ?_
  refine q_seq ?_
  refine p_seq rfl ?_
  refine p_region rfl ?_
  refine wo_pv (pv_move rfl) rfl ?_
  refine wo_pv (by first | exact pv_nilCheck_p rfl | exact pv_nilCheck_f rfl) rfl ?_
  refine wo_pv (pv_fieldAddrk Try.underlying76 rfl ti46 rfl rfl (k := 0) rfl (by first | exact Nat.zero_add _ | exact Nat.add_zero _ | exact rfl)) rfl ?_
  refine r_load Try.underlying46 rfl rfl rfl rfl ?_
  refine r_callX (slices_Clone_sp D.secs.length c D.secs (sla_row (e := 9) (sz := 1) (k := D.secs.length) (n := D.secs.length) (c := c)) rfl hnone (by omega)) rfl rfl rfl (fun x7 _ => ?_)
  obtain ⟨a7, c7⟩ := x7
  dsimp only
  refine wo_frz a7 ?_
  refine r_callX (slices_All_sp a7 D.secs.length c7) rfl rfl rfl (fun b8 _ => ?_)
  refine wo_pv (pv_assign rfl) rfl ?_
  refine q_seq ?_
  refine p_ret rfl ?_
  refine fin_ret (b8, a7, c7) (vs := [_]) (Cs := []) rfl (.tmp rfl .nil) rfl trivial ?_
  refine ent_step (fold_isD D ok (by rfl) (by exact ⟨rfl, rfl⟩) (by exact ⟨_, _, rfl⟩) (by rfl) (by rfl) (by rfl) (by rfl) (by rfl) (by rfl)) ?_
  exact ent_pick

/-- A journal in memory. -/
def IsJ (q p : Nat) (J : Jn) : HP := Ex fun a : Option Addr => Ex fun c : Nat => Al [Ce q 111 [.pointer (some ⟨p, 0, none⟩), .slice a J.l.length c, vI J.e, vB J.down], Row 9 1 (.slice a J.l.length c) J.l.length (J.l.map vS)]
theorem fold_isJ {q p : Nat} (J : Jn) {v0 v1 v2 v3 : Value} {n e sz T : Nat} {xs : List Value} {Hs R1 Rs : List HP} [h1 : OwnC q T [v0, v1, v2, v3] Hs R1] [h2 : RowC v1 e sz n xs R1 Rs] (hT : T = 111) (he : e = 9 ∧ sz = 1)
    (h0 : v0 = .pointer (some ⟨p, 0, none⟩)) (hs : ∃ a c, v1 = .slice a J.l.length c) (e2 : v2 = vI J.e) (e3 : v3 = vB J.down) (hn : n = J.l.length) (hx : xs = J.l.map vS) : Ent Hs (IsJ q p J :: Rs) := by
  obtain ⟨a, c, rfl⟩ := hs
  obtain ⟨rfl, rfl⟩ := he
  subst hT; subst h0; subst e2; subst e3; subst hn; subst hx
  refine ent_ex a ?_
  refine ent_ex c (ent_al ?_)
  exact ent_step (ent_pick1 h1.get) (ent_pick1 h2.get)
end Go.Proofs.Ytimafngkifakfaa
