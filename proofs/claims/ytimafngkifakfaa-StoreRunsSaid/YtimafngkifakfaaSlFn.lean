/- slices.Clone, slices.All, slices.Values. -/
import Derived.Test.YtimafngkifakfaaSDisk
set_option linter.unusedVariables false
set_option maxRecDepth 100000
set_option linter.unusedSimpArgs false
namespace Go.Proofs.Ytimafngkifakfaa
section
variable {r : Option Nat} {P : Program} {n : Nat} {ops : Array Oper} {os : List Oper} {A : List HP} {L : Loc} {Hs : List HP} {Q : Out} {c : Code}
theorem row_none {e : TypeId} {sz k n' c' : Nat} {a : Option Addr} {xs : List Value} {M : Kn} {h : Res} (x : (Row e sz (.slice a n' c') k xs).at_ M h) : a = none → k = 0 := by
  intro ha
  rcases x with ⟨_, h1, _⟩ | ⟨g, cap, cur, h1, _⟩
  · exact h1
  · subst ha; cases h1
end

theorem slices_Clone_sp {B : HP} {a : Option Addr} (n c : Nat) (l : List (List UInt8)) (sh : SlA B a (l.map vS)) (hn : l.length = n) (ha : a = none → n = 0) (hb : n ≤ 8796093022208) :
    Sp Try.prog 53 [.slice a n c] [B] (X := Option Addr × Nat) (fun x => .slice x.1 n x.2) (fun _ => True) (fun x => [Row 9 1 (.slice x.1 n x.2) n (l.map vS), B]) := by
  subst hn
  refine Sp.body (n := 8) Try.call53 Try.func53 rfl rfl rfl ?_
  refine p_seq rfl ?_
  refine p_region rfl ?_
  refine wo_pv (pv_assign rfl) rfl ?_
  refine q_seq ?_
  refine p_seq rfl ?_
  refine p_seq rfl ?_
  refine p_region rfl ?_
  refine wo_pv (pv_move rfl) rfl ?_
  refine wo_pv (pv_sleql_nil Try.underlying46 rfl rfl) rfl ?_
  refine q_seq ?_
  first | refine p_ite rfl rfl (fun h4 => ?_) (fun h4 => ?_) | refine p_cond rfl rfl (fun h4 => ?_) (fun h4 => ?_)
  · -- t4 True
    refine p_seq rfl ?_
    refine p_region rfl ?_
    refine wo_pv (pv_assign rfl) rfl ?_
    refine q_seq ?_
    refine p_ret rfl ?_
    refine t_seq_ret ?_
    have ha' : a = none := by simpa using h4
    have hl : l = [] := List.eq_nil_of_length_eq_zero (ha ha')
    subst hl
    refine fin_ret (none, 0) (vs := [_]) (Cs := []) rfl (.tmp rfl .nil) rfl trivial ?_
    exact row_nil
  · -- t4 False
    refine p_skip rfl ?_
    refine t_seq ?_
    refine p_seq rfl ?_
    refine p_region rfl ?_
    refine r_buildSliceL [] (cs := []) Try.underlying46 ti9 rfl rfl rfl rfl rfl rfl rfl rfl (fun b5 => ?_)
    refine wo_pv (pv_move rfl) rfl ?_
    refine wo_ent' (ent_row (k := 0) (cap := 0) (sz := 1) (e := 9) (g := b5) (xs := []) (cur := []) (Nat.le_refl _) (by simp [maxLen]) rfl rfl rfl) ?_
    refine wo_opT (by intro c; simp) (opt_appendA Try.underlying46 ti9 rfl rfl rfl rfl rfl rfl rfl sh (by simp) (by simp [oneCell]) (by omega) (by simp only [maxLen]; omega) (k := 0) (xs := []) (sz := 1) (bytes := 16)) rfl (fun x7 ⟨a7, c7, h7⟩ => ?_)
    subst h7
    rw [Nat.zero_add, List.nil_append]
    refine wo_pv (pv_assign rfl) rfl ?_
    refine q_seq ?_
    refine p_ret rfl ?_
    refine fin_ret (a7, c7) (vs := [_]) (Cs := []) rfl (.tmp rfl .nil) rfl trivial ?_
    exact ent_pick

/-- The functions that walk a slice. -/
theorem slices_All_sp (a : Option Addr) (n c : Nat) : Sp Try.prog 75 [.slice a n c] [] (X := Nat) (fun b => .func (.func 86) #[] #[.pointer (some ⟨b, 0, none⟩)]) (fun _ => True) (fun b => [Ce b 46 [.slice a n c]]) := by
  refine Sp.body (n := 4) Try.call75 Try.func75 rfl rfl rfl ?_
  refine p_seq rfl ?_
  refine p_region rfl ?_
  refine wo_box (vs := [_]) rfl rfl rfl (fun b1 => ?_)
  refine wo_pv (pv_assign rfl) rfl ?_
  refine q_seq ?_
  refine p_seq rfl ?_
  refine p_region rfl ?_
  refine wo_pv (pv_makeFunc rfl rfl) rfl ?_
  refine wo_pv (pv_assign rfl) rfl ?_
  refine q_seq ?_
  refine p_ret rfl ?_
  refine fin_ret b1 (vs := [_]) (Cs := []) rfl (.tmp rfl .nil) rfl trivial ?_
  exact ent_pick
theorem slices_Values_sp (a : Option Addr) (n c : Nat) : Sp Try.prog 57 [.slice a n c] [] (X := Nat) (fun b => .func (.func 76) #[] #[.pointer (some ⟨b, 0, none⟩)]) (fun _ => True) (fun b => [Ce b 46 [.slice a n c]]) := by
  refine Sp.body (n := 4) Try.call57 Try.func57 rfl rfl rfl ?_
  refine p_seq rfl ?_
  refine p_region rfl ?_
  refine wo_box (vs := [_]) rfl rfl rfl (fun b1 => ?_)
  refine wo_pv (pv_assign rfl) rfl ?_
  refine q_seq ?_
  refine p_seq rfl ?_
  refine p_region rfl ?_
  refine wo_pv (pv_makeFunc rfl rfl) rfl ?_
  refine wo_pv (pv_assign rfl) rfl ?_
  refine q_seq ?_
  refine p_ret rfl ?_
  refine fin_ret b1 (vs := [_]) (Cs := []) rfl (.tmp rfl .nil) rfl trivial ?_
  exact ent_pick

theorem get_mapD {α : Type} {f : α → Value} {l : List α} {m : Nat} (d : α) (h : m < l.length) : (l.map f)[m]? = some (f (l.getD m d)) := by simp [h]
/-- How far a walk over a slice has come. -/
abbrev okR (n : Nat) : List Nat → Nat → Prop := fun pre i => i = pre.length ∧ i < n
abbrev stopR (n : Nat) : List Nat → Prop := fun pre => ∃ m, 0 < m ∧ m ≤ n ∧ pre = List.range m
theorem slices_All_it {B : HP} {a : Option Addr} (n c b : Nat) (l : List (List UInt8)) (sh : SlA B a (l.map vS)) (hn : l.length = n) (hb : n ≤ 140737488355328) :
    Iter Try.prog 86 [.pointer (some ⟨b, 0, none⟩)] (fun i : Nat => [vI i, vS (l.getD i [])]) (okR n) (stopR n) [Ce b 46 [.slice a n c], B] [Ce b 46 [.slice a n c], B] (List.range n) (fun _ => .tuple #[]) := by
  intro y J Jx ys
  subst hn
  haveI : RdSl a (l.map vS) [B] := ⟨⟨B, sh, .here⟩⟩
  refine Sp.body (n := 18) Try.call86 Try.func86 rfl rfl rfl ?_
  refine p_seq rfl ?_
  refine p_region rfl ?_
  refine r_load Try.underlying46 rfl rfl rfl rfl ?_
  refine wo_pv (pv_call_len_sl Try.underlying46 rfl) rfl ?_
  refine wo_pv (pv_move rfl) rfl ?_
  refine q_seq ?_
  refine p_block 0 rfl ?_
  refine p_loop (fun (i : { j : Nat // j ≤ l.length }) => [(0, y), (5, .slice a l.length c), (6, vI l.length), (7, vI i.1)]) (fun (i : { j : Nat // j ≤ l.length }) => [J (List.range i.1), Ce b 46 [.slice a l.length c], B]) (fun (i : { j : Nat // j ≤ l.length }) => l.length - i.1) rfl (⟨0, Nat.zero_le _⟩) ?_ ?_ (fun i => ?_)
  · exact ⟨rfl, rfl, rfl, rfl, trivial⟩
  · -- H at start
    exact Ent.refl _
  obtain ⟨j, hj⟩ := i
  try dsimp only
  refine p_seq rfl ?_
  refine p_region rfl ?_
  refine wo_pv (pv_lss rfl rfl) rfl ?_
  refine q_seq ?_
  refine p_seq rfl ?_
  first | refine p_ite rfl rfl (fun h8 => ?_) (fun h8 => ?_) | refine p_cond rfl rfl (fun h8 => ?_) (fun h8 => ?_)
  · -- t8 True
    refine p_skip rfl ?_
    refine t_seq ?_
    refine p_seq rfl ?_
    refine p_block 1 rfl ?_
    refine p_seq rfl ?_
    refine p_region rfl ?_
    refine wo_pv (pv_move rfl) rfl ?_
    refine r_elemAddr (sz := 1) Try.underlying46 ti9 rfl rfl rfl rfl (by omega) (by first | (rw [List.length_map]; omega) | (rw [flat_len (sz := 1) (fun _ => rfl)]; omega) | (simp; omega)) (Nat.mul_one _) rfl ?_
    refine r_eload Try.underlying9 rfl rfl (get_mapD [] (by omega)) rfl ?_
    refine wo_pv (pv_assign rfl) rfl ?_
    refine wo_pv (pv_assign rfl) rfl ?_
    refine q_seq ?_
    refine p_seq rfl ?_
    refine p_region rfl ?_
    refine wo_pv (pv_move rfl) rfl ?_
    refine wo_pv (pv_move rfl) rfl ?_
    refine wo_pv (pv_move rfl) rfl ?_
    refine r_yield ys (List.range j) j ⟨by simp, by omega⟩ rfl rfl rfl ?_ ?_
    · -- t15 True
      refine wo_pv (by first | exact pv_notd rfl | exact pv_not rfl) rfl ?_
      refine q_seq ?_
      refine p_false rfl rfl ?_
      refine p_skip rfl ?_
      refine to_block ?_
      refine t_seq ?_
      refine p_region rfl ?_
      refine wo_pv (pv_add rfl rfl (by omega)) rfl ?_
      refine wo_pv (pv_move rfl) rfl ?_
      refine wo_nil ?_
      refine to_inv ⟨j + 1, by omega⟩ ?_ ⟨rfl, rfl, rfl, rfl, trivial⟩ ?_
      · dsimp only; omega
      · rw [List.range_succ]; exact ent_pick
    · -- t15 False
      refine wo_pv (by first | exact pv_notd rfl | exact pv_not rfl) rfl ?_
      refine q_seq ?_
      refine p_true rfl rfl ?_
      refine p_ret rfl ?_
      refine to_block_ret ?_
      refine t_seq_ret ?_
      refine to_inv_ret ?_
      refine to_block_ret ?_
      refine fin_ret (some (List.range (j + 1))) (vs := []) (Cs := []) rfl .nil rfl (fun pre e => by cases e; exact ⟨j + 1, by omega, by omega, rfl⟩) ?_
      simp only [endsAt]
      rw [List.range_succ]
      exact ent_pick
  · -- t8 False
    refine p_exit 0 rfl ?_
    refine t_seq_exit ?_
    refine to_inv_exit ?_
    refine to_block_here ?_
    have hj2 : j = l.length := by omega
    subst hj2
    refine fin_end none (vs := []) (Cs := []) rfl .nil rfl (fun pre e => by cases e) ?_
    simp only [endsAt]
    exact ent_pick
theorem slices_Values_it {B : HP} {a : Option Addr} (n c b : Nat) (l : List (List UInt8)) (sh : SlA B a (l.map vS)) (hn : l.length = n) (hb : n ≤ 140737488355328) :
    Iter Try.prog 76 [.pointer (some ⟨b, 0, none⟩)] (fun i : Nat => [vS (l.getD i [])]) (okR n) (stopR n) [Ce b 46 [.slice a n c], B] [Ce b 46 [.slice a n c], B] (List.range n) (fun _ => .tuple #[]) := by
  intro y J Jx ys
  subst hn
  haveI : RdSl a (l.map vS) [B] := ⟨⟨B, sh, .here⟩⟩
  refine Sp.body (n := 16) Try.call76 Try.func76 rfl rfl rfl ?_
  refine p_seq rfl ?_
  refine p_region rfl ?_
  refine r_load Try.underlying46 rfl rfl rfl rfl ?_
  refine wo_pv (pv_call_len_sl Try.underlying46 rfl) rfl ?_
  refine wo_pv (pv_move rfl) rfl ?_
  refine q_seq ?_
  refine p_block 0 rfl ?_
  refine p_loop (fun (i : { j : Nat // j ≤ l.length }) => [(0, y), (5, .slice a l.length c), (6, vI l.length), (7, vI i.1)]) (fun (i : { j : Nat // j ≤ l.length }) => [J (List.range i.1), Ce b 46 [.slice a l.length c], B]) (fun (i : { j : Nat // j ≤ l.length }) => l.length - i.1) rfl (⟨0, Nat.zero_le _⟩) ?_ ?_ (fun i => ?_)
  · exact ⟨rfl, rfl, rfl, rfl, trivial⟩
  · -- H at start
    exact Ent.refl _
  obtain ⟨j, hj⟩ := i
  try dsimp only
  refine p_seq rfl ?_
  refine p_region rfl ?_
  refine wo_pv (pv_lss rfl rfl) rfl ?_
  refine q_seq ?_
  refine p_seq rfl ?_
  first | refine p_ite rfl rfl (fun h8 => ?_) (fun h8 => ?_) | refine p_cond rfl rfl (fun h8 => ?_) (fun h8 => ?_)
  · -- t8 True
    refine p_skip rfl ?_
    refine t_seq ?_
    refine p_seq rfl ?_
    refine p_block 1 rfl ?_
    refine p_seq rfl ?_
    refine p_region rfl ?_
    refine r_elemAddr (sz := 1) Try.underlying46 ti9 rfl rfl rfl rfl (by omega) (by first | (rw [List.length_map]; omega) | (rw [flat_len (sz := 1) (fun _ => rfl)]; omega) | (simp; omega)) (Nat.mul_one _) rfl ?_
    refine r_eload Try.underlying9 rfl rfl (get_mapD [] (by omega)) rfl ?_
    refine wo_pv (pv_assign rfl) rfl ?_
    refine q_seq ?_
    refine p_seq rfl ?_
    refine p_region rfl ?_
    refine wo_pv (pv_move rfl) rfl ?_
    refine wo_pv (pv_move rfl) rfl ?_
    refine r_yield ys (List.range j) j ⟨by simp, by omega⟩ rfl rfl rfl ?_ ?_
    · -- t13 True
      refine wo_pv (by first | exact pv_notd rfl | exact pv_not rfl) rfl ?_
      refine q_seq ?_
      refine p_false rfl rfl ?_
      refine p_skip rfl ?_
      refine to_block ?_
      refine t_seq ?_
      refine p_region rfl ?_
      refine wo_pv (pv_add rfl rfl (by omega)) rfl ?_
      refine wo_pv (pv_move rfl) rfl ?_
      refine wo_nil ?_
      refine to_inv ⟨j + 1, by omega⟩ ?_ ⟨rfl, rfl, rfl, rfl, trivial⟩ ?_
      · dsimp only; omega
      · rw [List.range_succ]; exact ent_pick
    · -- t13 False
      refine wo_pv (by first | exact pv_notd rfl | exact pv_not rfl) rfl ?_
      refine q_seq ?_
      refine p_true rfl rfl ?_
      refine p_ret rfl ?_
      refine to_block_ret ?_
      refine t_seq_ret ?_
      refine to_inv_ret ?_
      refine to_block_ret ?_
      refine fin_ret (some (List.range (j + 1))) (vs := []) (Cs := []) rfl .nil rfl (fun pre e => by cases e; exact ⟨j + 1, by omega, by omega, rfl⟩) ?_
      simp only [endsAt]
      rw [List.range_succ]
      exact ent_pick
  · -- t8 False
    refine p_exit 0 rfl ?_
    refine t_seq_exit ?_
    refine to_inv_exit ?_
    refine to_block_here ?_
    have hj2 : j = l.length := by omega
    subst hj2
    refine fin_end none (vs := []) (Cs := []) rfl .nil rfl (fun pre e => by cases e) ?_
    simp only [endsAt]
    exact ent_pick
end Go.Proofs.Ytimafngkifakfaa
