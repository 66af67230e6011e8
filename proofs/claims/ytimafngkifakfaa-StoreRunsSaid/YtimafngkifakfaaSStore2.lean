/- Package store: Text. -/
import Derived.Test.YtimafngkifakfaaSStore1
set_option linter.unusedVariables false
set_option maxRecDepth 100000
set_option linter.unusedSimpArgs false
namespace Go.Proofs.Ytimafngkifakfaa

theorem fold_newB {p T : Nat} {v0 v1 : Value} {Hs Rs : List HP} [q : OwnC p T [v0, v1] Hs Rs] (hT : T = 88) (h0 : v0 = .pointer none) (h1 : v1 = .slice none 0 0) : Ent Hs (IsB p [] :: Rs) := by
  subst hT; subst h0; subst h1
  refine ent_ex (.pointer none) ?_
  refine ent_ex (.slice none 0 0) ?_
  refine ent_al (ent_pu ⟨.inl rfl, fun _ => rfl⟩ ?_)
  exact ent_step (ent_pick1 q.get) row_nil
theorem textOf_split {l : List Rw} {j : Nat} (h : j < l.length) : textOf l = textOf (l.take j) ++ (rowText l[j] ++ textOf (l.drop (j + 1))) := by
  have e : l = l.take j ++ (l[j] :: l.drop (j + 1)) := by rw [← List.drop_eq_getElem_cons h, List.take_append_drop]
  unfold textOf
  conv => lhs; rw [e]
  rw [List.flatMap_append, List.flatMap_cons]
theorem textOf_succ {l : List Rw} {j : Nat} (h : j < l.length) : textOf (l.take (j + 1)) = textOf (l.take j) ++ rowText l[j] := by
  unfold textOf
  rw [List.take_succ_eq_append_getElem h, List.flatMap_append, List.flatMap_cons, List.flatMap_nil, List.append_nil]
theorem store_Text_sp {B : HP} {a : Option Addr} (n c : Nat) (l : List Rw) (sh : SlA B a (l.flatMap rowC)) (hn : l.length = n) (hb : n ≤ 140737488355328) (hk : ∀ r ∈ l, r.key.length ≤ 1073741824 ∧ r.val.length ≤ 1073741824) (ht : (textOf l).length ≤ 4398046511104) :
    Sp1 Try.prog 13 [.slice a n c] [B] (vS (textOf l)) [B] := by
  subst hn
  haveI : RdSl a (l.flatMap rowC) [B] := ⟨⟨B, sh, .here⟩⟩
  refine Sp.body (n := 38) Try.call13 Try.func13 rfl rfl rfl ?_
  refine p_seq rfl ?_
  refine p_region rfl ?_
  refine wo_pv (pv_assign rfl) rfl ?_
  refine q_seq ?_
  refine p_seq rfl ?_
  refine p_region rfl ?_
  refine wo_alloc (zs := [.pointer none, .slice none 0 0]) ti88 rfl rfl rfl (fun b3 => ?_)
  refine wo_ent' (fold_newB (p := b3) (by rfl) (by rfl) (by rfl)) ?_
  refine q_seq ?_
  refine p_seq rfl ?_
  refine p_seq rfl ?_
  refine p_region rfl ?_
  refine wo_pv (pv_move rfl) rfl ?_
  refine wo_pv (pv_call_len_sl Try.underlying38 rfl) rfl ?_
  refine wo_pv (pv_move rfl) rfl ?_
  refine q_seq ?_
  refine p_block 0 rfl ?_
  refine p_loop (fun (i : { j : Nat // j ≤ l.length }) => [(3, .pointer (some ⟨b3, 0, none⟩)), (6, .slice a l.length c), (7, vI l.length), (8, vI i.1)]) (fun (i : { j : Nat // j ≤ l.length }) => [IsB b3 (textOf (l.take i.1)), B]) (fun (i : { j : Nat // j ≤ l.length }) => l.length - i.1) rfl (⟨0, Nat.zero_le _⟩) ?_ ?_ (fun i => ?_)
  · exact ⟨rfl, rfl, rfl, rfl, trivial⟩
  · -- H at start
    exact Ent.refl _
  obtain ⟨j, hj⟩ := i
  try dsimp only
  refine p_seq rfl ?_
  refine p_region rfl ?_
  refine wo_pv (pv_lss rfl rfl) rfl ?_
  refine q_seq ?_
  refine p_seq rfl ?_
  first | refine p_ite rfl rfl (fun h9 => ?_) (fun h9 => ?_) | refine p_cond rfl rfl (fun h9 => ?_) (fun h9 => ?_)
  · -- t9 True
    refine p_skip rfl ?_
    refine t_seq ?_
    refine p_seq rfl ?_
    refine p_block 1 rfl ?_
    refine p_seq rfl ?_
    have hjl : j < l.length := by omega
    have hsp := congrArg List.length (textOf_split hjl)
    obtain ⟨hk1, hk2⟩ := hk l[j] (List.getElem_mem _)
    have hsu := textOf_succ hjl
    rw [List.length_append, List.length_append] at hsp
    have hrl : (rowText l[j]).length = (decN l[j].key.length).length + 1 + (if l[j].gone then 1 + l[j].key.length else (decN l[j].val.length).length + 1 + l[j].key.length + l[j].val.length) := by
      unfold rowText; split <;> simp [*] <;> omega
    refine p_region rfl ?_
    refine r_elemAddr (sz := 3) Try.underlying38 ti29 rfl rfl rfl rfl (by omega) (by first | (rw [List.length_map]; omega) | (rw [flat_len (sz := 3) (fun _ => rfl)]; omega) | (simp; omega)) rfl rfl ?_
    refine r_eloada (vs := [_, _, _]) (sz := 3) Try.underlying29 rfl ti29 rfl rfl (by rw [flat_len (sz := 3) (fun _ => rfl)]; omega) rfl (by refine get_flat (fun x => ?_) ?_ <;> first | rfl | omega) rfl ?_
    refine wo_alloc (zs := [vS [], vS [], .bool false]) ti29 rfl rfl rfl (fun b5 => ?_)
    refine r_storea ti29 rfl rfl rfl rfl (by simp; try omega) ?_
    refine q_seq ?_
    refine p_seq rfl ?_
    refine p_region rfl ?_
    refine wo_pv (pv_fieldAddrk Try.underlying29 rfl ti9 rfl rfl (k := 0) rfl (by first | exact Nat.zero_add _ | exact Nat.add_zero _ | exact rfl)) rfl ?_
    refine r_load Try.underlying9 rfl rfl rfl rfl ?_
    refine wo_pv (pv_call_len_s Try.underlying9 rfl) rfl ?_
    refine r_callF (digit_Dec_sp l[j].key.length hk1) rfl rfl rfl ?_
    refine wo_pv (pv_cat rfl rfl (by first | (simp only [List.length_append, List.length_take, List.length_drop, List.length_cons, List.length_nil]; omega) | (simp; try omega))) rfl ?_
    refine r_call1 (WriteString_sp b3 (textOf (l.take j)) (decN l[j].key.length ++ [32]) (by simp only [List.length_append, List.length_singleton]; omega)) rfl rfl rfl ?_
    refine q_seq ?_
    refine p_seq rfl ?_
    refine p_seq rfl ?_
    refine p_region rfl ?_
    refine wo_pv (pv_fieldAddrk Try.underlying29 rfl ti4 rfl rfl (k := 2) rfl (by first | exact Nat.zero_add _ | exact Nat.add_zero _ | exact rfl)) rfl ?_
    refine r_load Try.underlying4 rfl rfl rfl rfl ?_
    refine q_seq ?_
    first | refine p_ite rfl rfl (fun h19 => ?_) (fun h19 => ?_) | refine p_cond rfl rfl (fun h19 => ?_) (fun h19 => ?_)
    · -- t19 True
      refine p_seq rfl ?_
      rw [if_pos h19] at hrl
      refine p_region rfl ?_
      refine wo_pv (pv_fieldAddrk Try.underlying29 rfl ti9 rfl rfl (k := 0) rfl (by first | exact Nat.zero_add _ | exact Nat.add_zero _ | exact rfl)) rfl ?_
      refine r_load Try.underlying9 rfl rfl rfl rfl ?_
      refine wo_pv (pv_cat rfl rfl (by first | (simp only [List.length_append, List.length_take, List.length_drop, List.length_cons, List.length_nil]; omega) | (simp; try omega))) rfl ?_
      refine r_call1 (WriteString_sp b3 (textOf (l.take j) ++ (decN l[j].key.length ++ [32])) ([45] ++ l[j].key) (by simp only [List.length_append, List.length_singleton]; omega)) rfl rfl rfl ?_
      refine q_seq ?_
      refine p_exit 1 rfl ?_
      refine t_seq_exit ?_
      refine to_block_here ?_
      refine t_seq ?_
      refine p_region rfl ?_
      refine wo_pv (pv_add rfl rfl (by omega)) rfl ?_
      refine wo_pv (pv_move rfl) rfl ?_
      refine wo_nil ?_
      refine to_inv ⟨j + 1, by omega⟩ (by dsimp only; omega) ⟨rfl, rfl, rfl, rfl, trivial⟩ ?_
      dsimp only
      rw [hsu, rowText, h19]
      simp only [List.append_assoc, if_true, Bool.false_eq_true, if_false]
      exact ent_pick
    · -- t19 False
      refine p_skip rfl ?_
      refine t_seq ?_
      rw [if_neg (by rw [h19]; simp)] at hrl
      refine d_draw rfl rfl rfl [Ce b5 29 [vS l[j].key, vS l[j].val, vB l[j].gone]] ?_
      refine d_first 0 rfl rfl rfl (by kernel_rfl) (by kernel_rfl) (tl_pv (pv_fieldAddrk Try.underlying29 rfl ti9 rfl rfl (k := 1) rfl (by first | exact Nat.zero_add _ | exact Nat.add_zero _ | exact rfl))) ?_
      refine d_first 1 rfl rfl rfl (by kernel_rfl) (by kernel_rfl) (tl_load Try.underlying9 rfl rfl rfl) ?_
      refine d_first 2 rfl rfl rfl (by kernel_rfl) (by kernel_rfl) (tl_pv (pv_call_len_s Try.underlying9 rfl)) ?_
      refine d_first 5 rfl rfl rfl (by kernel_rfl) (by kernel_rfl) (tl_pv (pv_fieldAddrk Try.underlying29 rfl ti9 rfl rfl (k := 0) rfl (by first | exact Nat.zero_add _ | exact Nat.add_zero _ | exact rfl))) ?_
      refine d_first 6 rfl rfl rfl (by kernel_rfl) (by kernel_rfl) (tl_load Try.underlying9 rfl rfl rfl) ?_
      refine d_first 8 rfl rfl rfl (by kernel_rfl) (by kernel_rfl) (tl_pv (pv_fieldAddrk Try.underlying29 rfl ti9 rfl rfl (k := 1) rfl (by first | exact Nat.zero_add _ | exact Nat.add_zero _ | exact rfl))) ?_
      refine d_first 9 rfl rfl rfl (by kernel_rfl) (by kernel_rfl) (tl_load Try.underlying9 rfl rfl rfl) ?_
      refine d_next 3 (by kernel_rfl) rfl ?_
      refine an_callF (digit_Dec_sp l[j].val.length hk2) rfl rfl rfl ?_
      refine d_first 4 rfl rfl rfl (by kernel_rfl) (by kernel_rfl) (tl_pv (pv_cat rfl rfl (by first | (simp only [List.length_append, List.length_take, List.length_drop, List.length_cons, List.length_nil]; omega) | (simp; try omega)))) ?_
      refine d_first 7 rfl rfl rfl (by kernel_rfl) (by kernel_rfl) (tl_pv (pv_cat rfl rfl (by first | (simp only [List.length_append, List.length_take, List.length_drop, List.length_cons, List.length_nil]; omega) | (simp; try omega)))) ?_
      refine d_first 10 rfl rfl rfl (by kernel_rfl) (by kernel_rfl) (tl_pv (pv_cat rfl rfl (by first | (simp only [List.length_append, List.length_take, List.length_drop, List.length_cons, List.length_nil]; omega) | (simp; try omega)))) ?_
      refine d_next 11 (by kernel_rfl) rfl ?_
      refine an_call1 (WriteString_sp b3 (textOf (l.take j) ++ (decN l[j].key.length ++ [32])) (decN l[j].val.length ++ [32] ++ l[j].key ++ l[j].val) (by simp only [List.length_append, List.length_singleton]; omega)) rfl rfl rfl ?_
      refine d_done (by kernel_rfl) ?_
      refine to_block ?_
      refine t_seq ?_
      refine p_region rfl ?_
      refine wo_pv (pv_add rfl rfl (by omega)) rfl ?_
      refine wo_pv (pv_move rfl) rfl ?_
      refine wo_nil ?_
      refine to_inv ⟨j + 1, by omega⟩ (by dsimp only; omega) ⟨rfl, rfl, rfl, rfl, trivial⟩ ?_
      dsimp only
      rw [hsu, rowText, h19]
      simp only [List.append_assoc, if_true, Bool.false_eq_true, if_false]
      exact ent_pick
  · -- t9 False
    refine p_exit 0 rfl ?_
    refine t_seq_exit ?_
    refine to_inv_exit ?_
    refine to_block_here ?_
    refine t_seq ?_
    refine p_seq rfl ?_
    have hjl : j = l.length := by omega
    subst hjl
    rw [List.take_length]
    refine p_region rfl ?_
    refine r_call1 (String_sp b3 (textOf l) (by omega)) rfl rfl rfl ?_
    refine wo_pv (pv_assign rfl) rfl ?_
    refine q_seq ?_
    refine p_ret rfl ?_
    refine fin_ret () (vs := [_]) (Cs := []) rfl (.tmp rfl .nil) rfl trivial ?_
    exact ent_pick
end Go.Proofs.Ytimafngkifakfaa
