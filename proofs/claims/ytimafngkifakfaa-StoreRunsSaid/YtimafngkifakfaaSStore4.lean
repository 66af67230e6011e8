/- Package store: Open, Get, Len, Journal. -/
import Derived.Test.YtimafngkifakfaaSStore3
set_option linter.unusedVariables false
set_option maxRecDepth 100000
set_option linter.unusedSimpArgs false
namespace Go.Proofs.Ytimafngkifakfaa
/-- A store in memory, over a disk at p. -/
def IsS (s p : Nat) (J : Jn) (ks : Ks) : HP := Ex fun q : Nat => Ex fun b : Nat => Al [Ce s 79 [.pointer (some ⟨q, 0, none⟩), .map (some b)], IsJ q p J, MapS b ks]
theorem fold_isS {s p : Nat} {J : Jn} {ks : Ks} (q b : Nat) {T : Nat} {v0 v1 : Value} {Hs R1 R2 Rs : List HP} [h1 : OwnC s T [v0, v1] Hs R1] [h2 : PickC (IsJ q p J) R1 R2] [h3 : PickC (MapS b ks) R2 Rs] (hT : T = 79) (e0 : v0 = .pointer (some ⟨q, 0, none⟩)) (e1 : v1 = .map (some b)) : Ent Hs (IsS s p J ks :: Rs) := by
  subst hT; subst e0; subst e1
  refine ent_ex q ?_
  refine ent_ex b (ent_al ?_)
  exact ent_step (ent_pick1 h1.get) (ent_step (ent_pick1 h2.get) (ent_pick1 h3.get))
theorem store_Len_sp (s p : Nat) (J : Jn) (ks : Ks) : Sp1 Try.prog 12 [.pointer (some ⟨s, 0, none⟩)] [IsS s p J ks] (vI ks.length) [IsS s p J ks] := by
  refine Sp.body (n := 8) Try.call12 Try.func12 rfl rfl rfl ?_
  refine wc_exi fun q => wc_exi fun b => wc_al ?_
  refine p_seq rfl ?_
  refine p_region rfl ?_
  refine wo_pv (pv_assign rfl) rfl ?_
  refine q_seq ?_
  refine p_seq rfl ?_
  refine p_region rfl ?_
  refine wo_pv (pv_move rfl) rfl ?_
  refine wo_pv (by first | exact pv_nilCheck_p rfl | exact pv_nilCheck_f rfl) rfl ?_
  refine wo_pv (pv_fieldAddrk Try.underlying79 rfl ti68 rfl rfl (k := 1) rfl (by first | exact Nat.zero_add _ | exact Nat.add_zero _ | exact rfl)) rfl ?_
  refine r_load Try.underlying68 rfl rfl rfl rfl ?_
  refine r_mlen Try.underlying68 rfl rfl ?_
  refine wo_pv (pv_assign rfl) rfl ?_
  refine q_seq ?_
  refine p_ret rfl ?_
  refine fin_ret () (vs := [_]) (Cs := []) rfl (.tmp rfl .nil) rfl trivial ?_
  exact fold_isS q b rfl rfl rfl
theorem store_Journal_sp (s p : Nat) (J : Jn) (ks : Ks) : Sp Try.prog 29 [.pointer (some ⟨s, 0, none⟩)] [IsS s p J ks] (X := Nat) (fun q => .pointer (some ⟨q, 0, none⟩)) (fun _ => True) (fun _ => [IsS s p J ks]) := by
  refine Sp.body (n := 7) Try.call29 Try.func29 rfl rfl rfl ?_
  refine wc_exi fun q => wc_exi fun b => wc_al ?_
  refine p_seq rfl ?_
  refine p_region rfl ?_
  refine wo_pv (pv_assign rfl) rfl ?_
  refine q_seq ?_
  refine p_seq rfl ?_
  refine p_region rfl ?_
  refine wo_pv (pv_move rfl) rfl ?_
  refine wo_pv (by first | exact pv_nilCheck_p rfl | exact pv_nilCheck_f rfl) rfl ?_
  refine wo_pv (pv_fieldAddrk Try.underlying79 rfl ti65 rfl rfl (k := 0) rfl (by first | exact Nat.zero_add _ | exact Nat.add_zero _ | exact rfl)) rfl ?_
  refine r_load Try.underlying65 rfl rfl rfl rfl ?_
  refine wo_pv (pv_assign rfl) rfl ?_
  refine q_seq ?_
  refine p_ret rfl ?_
  refine fin_ret q (vs := [_]) (Cs := []) rfl (.tmp rfl .nil) rfl trivial ?_
  exact fold_isS q b rfl rfl rfl
theorem store_Get_sp (s p : Nat) (J : Jn) (ks : Ks) (k : List UInt8) : Sp1 Try.prog 11 [.pointer (some ⟨s, 0, none⟩), vS k] [IsS s p J ks] (.tuple #[(mlook ks k).getD (vS []), vB (mlook ks k).isSome]) [IsS s p J ks] := by
  refine Sp.body (n := 19) Try.call11 Try.func11 rfl rfl rfl ?_
  refine wc_exi fun q => wc_exi fun b => wc_al ?_
  refine p_seq rfl ?_
  refine p_region rfl ?_
  refine wo_pv (pv_assign rfl) rfl ?_
  refine wo_pv (pv_assign rfl) rfl ?_
  refine q_seq ?_
  refine p_seq rfl ?_
  refine p_region rfl ?_
  refine wo_pv (pv_move rfl) rfl ?_
  refine wo_pv (by first | exact pv_nilCheck_p rfl | exact pv_nilCheck_f rfl) rfl ?_
  refine wo_pv (pv_fieldAddrk Try.underlying79 rfl ti68 rfl rfl (k := 1) rfl (by first | exact Nat.zero_add _ | exact Nat.add_zero _ | exact rfl)) rfl ?_
  refine r_load Try.underlying68 rfl rfl rfl rfl ?_
  refine wo_pv (pv_move rfl) rfl ?_
  refine r_lookup Try.underlying68 Try.underlying9 ti9 rfl rfl rfl rfl rfl ?_
  refine wo_pv (pv_move rfl) rfl ?_
  refine wo_pv (pv_extract rfl rfl) rfl ?_
  refine wo_pv (pv_extract rfl rfl) rfl ?_
  refine wo_pv (pv_assign rfl) rfl ?_
  refine wo_pv (pv_assign rfl) rfl ?_
  refine q_seq ?_
  refine p_seq rfl ?_
  refine p_region rfl ?_
  refine wo_pv (pv_move rfl) rfl ?_
  refine wo_pv (pv_move rfl) rfl ?_
  refine wo_pv (pv_assign rfl) rfl ?_
  refine wo_pv (pv_assign rfl) rfl ?_
  refine q_seq ?_
  refine p_ret rfl ?_
  refine fin_ret () (vs := [_, _]) (Cs := []) rfl (.tmp rfl (.tmp rfl .nil)) rfl trivial ?_
  exact fold_isS q b rfl rfl rfl
def openK (ts : List Bs) : Ks := ts.foldl (fun ks t => doR ks ((readR t).getD [])) []
theorem openK_succ {ts : List Bs} {j : Nat} (h : j < ts.length) : openK (ts.take (j + 1)) = doR (openK (ts.take j)) ((readR (ts.getD j [])).getD []) := by
  unfold openK
  rw [List.take_succ_eq_append_getElem h, List.foldl_append]
  simp [h]
theorem readR_len (s : Bs) : ((readR s).getD []).length ≤ s.length := by
  induction h : s.length using Nat.strongRecOn generalizing s with
  | _ n ih =>
    by_cases hs : s = []
    · subst hs; rw [readR_nil]; simp
    · cases hr : rowR s with
      | none => rw [readR_none hs hr]; simp
      | some q =>
        obtain ⟨r, t⟩ := q
        have hlt := rowR_lt hr
        rw [readR_some hs hr]
        have := ih t.length (by omega) t rfl
        cases ht : readR t with
        | none => simp
        | some l => rw [ht] at this; simp at this ⊢; omega
end Go.Proofs.Ytimafngkifakfaa
