/- Package store: rows that are done. -/
import Derived.Test.YtimafngkifakfaaSStore2
set_option linter.unusedVariables false
set_option maxRecDepth 100000
set_option linter.unusedSimpArgs false
namespace Go.Proofs.Ytimafngkifakfaa
def doOne (ks : Ks) (r : Rw) : Ks := if r.gone then mdel ks r.key else mput ks r.key (vS r.val)
def doR (ks : Ks) (l : List Rw) : Ks := l.foldl doOne ks
theorem doR_succ {ks : Ks} {l : List Rw} {j : Nat} (h : j < l.length) : doR ks (l.take (j + 1)) = doOne (doR ks (l.take j)) l[j] := by
  unfold doR
  rw [List.take_succ_eq_append_getElem h, List.foldl_append]; rfl
theorem store_do_sp {B : HP} {a : Option Addr} (p b n c : Nat) (v : Value) (ks : Ks) (l : List Rw) (sh : SlA B a (l.flatMap rowC)) (hn : l.length = n) (hb : n ≤ 140737488355328) :
    Sp1 Try.prog 37 [.pointer (some ⟨p, 0, none⟩), .slice a n c] [Ce p 79 [v, .map (some b)], MapS b ks, B] (.tuple #[]) [Ce p 79 [v, .map (some b)], MapS b (doR ks l), B] := by
  subst hn
  haveI : RdSl a (l.flatMap rowC) [B] := ⟨⟨B, sh, .here⟩⟩
  refine Sp.body (n := 29) Try.call37 Try.func37 rfl rfl rfl ?_
  refine p_seq rfl ?_
  refine p_region rfl ?_
  refine wo_pv (pv_move rfl) rfl ?_
  refine wo_pv (pv_call_len_sl Try.underlying38 rfl) rfl ?_
  refine wo_pv (pv_move rfl) rfl ?_
  refine q_seq ?_
  refine p_block 0 rfl ?_
  refine p_loop (fun (i : { j : Nat // j ≤ l.length }) => [(0, .pointer (some ⟨p, 0, none⟩)), (6, .slice a l.length c), (7, vI l.length), (8, vI i.1)]) (fun (i : { j : Nat // j ≤ l.length }) => [Ce p 79 [v, .map (some b)], MapS b (doR ks (l.take i.1)), B]) (fun (i : { j : Nat // j ≤ l.length }) => l.length - i.1) rfl (⟨0, Nat.zero_le _⟩) ?_ ?_ (fun i => ?_)
  · exact ⟨rfl, rfl, rfl, rfl, trivial⟩
  · -- H at start
    exact Ent.refl _
  obtain ⟨j, hj⟩ := i
  try dsimp only
  refine p_seq rfl ?_
  refine p_region rfl ?_
  refine wo_pv (pv_lss rfl rfl) rfl ?_
  refine q_seq ?_
  refine p_seq rfl ?_
  first | refine p_ite rfl rfl (fun h9 => ?_) (fun h9 => ?_) | refine p_cond rfl rfl (fun h9 => ?_) (fun h9 => ?_)
  · -- t9 True
    refine p_skip rfl ?_
    refine t_seq ?_
    refine p_seq rfl ?_
    refine p_block 1 rfl ?_
    refine p_seq rfl ?_
    have hjl : j < l.length := by omega
    have hsu := doR_succ (ks := ks) hjl
    refine p_region rfl ?_
    refine r_elemAddr (sz := 3) Try.underlying38 ti29 rfl rfl rfl rfl (by omega) (by first | (rw [List.length_map]; omega) | (rw [flat_len (sz := 3) (fun _ => rfl)]; omega) | (simp; omega)) rfl rfl ?_
    refine r_eloada (vs := [_, _, _]) (sz := 3) Try.underlying29 rfl ti29 rfl rfl (by rw [flat_len (sz := 3) (fun _ => rfl)]; omega) rfl (by refine get_flat (fun x => ?_) ?_ <;> first | rfl | omega) rfl ?_
    refine wo_alloc (zs := [vS [], vS [], .bool false]) ti29 rfl rfl rfl (fun b5 => ?_)
    refine r_storea ti29 rfl rfl rfl rfl (by simp; try omega) ?_
    refine q_seq ?_
    refine p_seq rfl ?_
    refine p_region rfl ?_
    refine wo_pv (pv_fieldAddrk Try.underlying29 rfl ti4 rfl rfl (k := 2) rfl (by first | exact Nat.zero_add _ | exact Nat.add_zero _ | exact rfl)) rfl ?_
    refine r_load Try.underlying4 rfl rfl rfl rfl ?_
    refine q_seq ?_
    first | refine p_ite rfl rfl (fun h13 => ?_) (fun h13 => ?_) | refine p_cond rfl rfl (fun h13 => ?_) (fun h13 => ?_)
    · -- t13 True
      refine d_draw rfl rfl rfl [Ce p 79 [v, .map (some b)], Ce b5 29 [vS l[j].key, vS l[j].val, vB l[j].gone]] ?_
      refine d_first 0 rfl rfl rfl (by kernel_rfl) (by kernel_rfl) (tl_pv (pv_move rfl)) ?_
      refine d_first 1 rfl rfl rfl (by kernel_rfl) (by kernel_rfl) (tl_pv (by first | exact pv_nilCheck_p rfl | exact pv_nilCheck_f rfl)) ?_
      refine d_first 2 rfl rfl rfl (by kernel_rfl) (by kernel_rfl) (tl_pv (pv_fieldAddrk Try.underlying79 rfl ti68 rfl rfl (k := 1) rfl (by first | exact Nat.zero_add _ | exact Nat.add_zero _ | exact rfl))) ?_
      refine d_first 3 rfl rfl rfl (by kernel_rfl) (by kernel_rfl) (tl_load Try.underlying68 rfl rfl rfl) ?_
      refine d_first 4 rfl rfl rfl (by kernel_rfl) (by kernel_rfl) (tl_pv (pv_fieldAddrk Try.underlying29 rfl ti9 rfl rfl (k := 0) rfl (by first | exact Nat.zero_add _ | exact Nat.add_zero _ | exact rfl))) ?_
      refine d_first 5 rfl rfl rfl (by kernel_rfl) (by kernel_rfl) (tl_load Try.underlying9 rfl rfl rfl) ?_
      refine d_next 6 (by kernel_rfl) rfl ?_
      refine an_delete Try.underlying68 Try.underlying9 rfl rfl rfl ?_
      refine d_done (by kernel_rfl) ?_
      refine to_block ?_
      refine t_seq ?_
      refine p_region rfl ?_
      refine wo_pv (pv_add rfl rfl (by omega)) rfl ?_
      refine wo_pv (pv_move rfl) rfl ?_
      refine wo_nil ?_
      refine to_inv ⟨j + 1, by omega⟩ (by dsimp only; omega) ⟨rfl, rfl, rfl, rfl, trivial⟩ ?_
      dsimp only
      rw [hsu, doOne, h13]
      simp only [if_true, Bool.false_eq_true, if_false]
      exact ent_pick
    · -- t13 False
      refine d_draw rfl rfl rfl [Ce p 79 [v, .map (some b)], Ce b5 29 [vS l[j].key, vS l[j].val, vB l[j].gone]] ?_
      refine d_first 0 rfl rfl rfl (by kernel_rfl) (by kernel_rfl) (tl_pv (pv_move rfl)) ?_
      refine d_first 1 rfl rfl rfl (by kernel_rfl) (by kernel_rfl) (tl_pv (by first | exact pv_nilCheck_p rfl | exact pv_nilCheck_f rfl)) ?_
      refine d_first 2 rfl rfl rfl (by kernel_rfl) (by kernel_rfl) (tl_pv (pv_fieldAddrk Try.underlying79 rfl ti68 rfl rfl (k := 1) rfl (by first | exact Nat.zero_add _ | exact Nat.add_zero _ | exact rfl))) ?_
      refine d_first 3 rfl rfl rfl (by kernel_rfl) (by kernel_rfl) (tl_load Try.underlying68 rfl rfl rfl) ?_
      refine d_first 4 rfl rfl rfl (by kernel_rfl) (by kernel_rfl) (tl_pv (pv_fieldAddrk Try.underlying29 rfl ti9 rfl rfl (k := 0) rfl (by first | exact Nat.zero_add _ | exact Nat.add_zero _ | exact rfl))) ?_
      refine d_first 5 rfl rfl rfl (by kernel_rfl) (by kernel_rfl) (tl_load Try.underlying9 rfl rfl rfl) ?_
      refine d_first 6 rfl rfl rfl (by kernel_rfl) (by kernel_rfl) (tl_pv (pv_fieldAddrk Try.underlying29 rfl ti9 rfl rfl (k := 1) rfl (by first | exact Nat.zero_add _ | exact Nat.add_zero _ | exact rfl))) ?_
      refine d_first 7 rfl rfl rfl (by kernel_rfl) (by kernel_rfl) (tl_load Try.underlying9 rfl rfl rfl) ?_
      refine d_next 8 (by kernel_rfl) rfl ?_
      refine an_mapUpdate Try.underlying68 Try.underlying9 rfl rfl rfl ?_
      refine d_done (by kernel_rfl) ?_
      refine to_block ?_
      refine t_seq ?_
      refine p_region rfl ?_
      refine wo_pv (pv_add rfl rfl (by omega)) rfl ?_
      refine wo_pv (pv_move rfl) rfl ?_
      refine wo_nil ?_
      refine to_inv ⟨j + 1, by omega⟩ (by dsimp only; omega) ⟨rfl, rfl, rfl, rfl, trivial⟩ ?_
      dsimp only
      rw [hsu, doOne, h13]
      simp only [if_true, Bool.false_eq_true, if_false]
      exact ent_pick
  · -- t9 False
    refine p_exit 0 rfl ?_
    refine t_seq_exit ?_
    refine to_inv_exit ?_
    refine to_block_here ?_
    have hjl : j = l.length := by omega
    subst hjl
    rw [List.take_length]
    refine fin_end () (vs := []) (Cs := []) rfl .nil rfl trivial ?_
    exact ent_pick
end Go.Proofs.Ytimafngkifakfaa
