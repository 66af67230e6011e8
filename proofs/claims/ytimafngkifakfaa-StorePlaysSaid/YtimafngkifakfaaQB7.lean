/- Texts of this proof, put together: SMaps, SFrom, PMap, SWhole. -/
import Derived.Sort.Row
import Derived.Test.YtimafngkifakfaaQA4
import Derived.Test.YtimafngkifakfaaQB2
import Derived.Test.YtimafngkifakfaaQB4
import Derived.Test.YtimafngkifakfaaQB1
set_option linter.unusedVariables false
set_option linter.unusedSimpArgs false
/- Packages maps and slices: Clone, Keys, AppendSeq, Collect, Sort, Sorted. -/
set_option maxRecDepth 100000
namespace Go.Proofs.Ytimafngkifakfaa
section
variable {r : Option Nat} {P : Program} {n : Nat} {ops : Array Oper} {A : List HP} {L : Loc} {Hs : List HP} {ty : TypeId} {d : Nat} {pos : String} {after : Array Edge}
theorem opt_mapsClone {dst : Option Tmp} {t : TypeId} {x : Operand} {g b : Nat} {ks : Ks} {ts : Array TypeId} (hg : ∀ (args : Array Value) (w : World), (callFunc g args).run P w = ((Extern.MapsClone.clone args).run P w).andThen fun v w' => .ok (.value v) w') (hx : ev L x = some (.iface t (.map (some b)))) :
    OpT r P n ⟨dst, .call ⟨.value (.func g), #[x], ts⟩, ty, pos, after, none⟩ A L [MapS b ks] (fun i : Nat => .iface t (.map (some i))) (fun _ => True) (fun i => [Al [MapS b ks, MapS i ks]]) := by
  refine opt_turnX (fun a f w M h1 hf dj tt hm => ?_)
  obtain ⟨es, clock, e1, g'⟩ := hm
  subst e1
  have hb : w.heap[b]? = some (.map es clock) := tt.ow _ _ (by simp [Res.add, Res.one])
  obtain ⟨f1, f2⟩ := fresh_none tt
  have t2 := tt.alloc (.map es clock)
  have hd2 : (Res.one w.heap.size (.map es clock)).dj ((Res.one b (.map es clock)).add hf) := one_dj f2
  obtain ⟨d1, d2⟩ := Res.dj_add_right.1 hd2
  refine ⟨w.heap.size, w.alloc (.map es clock), (Res.one b (.map es clock)).add (Res.one w.heap.size (.map es clock)), trivial, Res.dj_add_left.2 ⟨dj, d2⟩, ?_, ⟨Res.one b (.map es clock), Res.one w.heap.size (.map es clock), Res.dj_comm d1, rfl, ⟨es, clock, rfl, g'⟩, Res.one w.heap.size (.map es clock), Res.emp, Res.dj_emp _, (Res.add_emp _).symm, ⟨es, clock, rfl, g'⟩, trivial⟩, ?_⟩
  · rw [Res.add_comm (Res.dj_comm d1), Res.add_assoc]; exact t2
  · have hc := run_maps_clone_sl (P := P) w t hb
    have hfv : a.eval (.func g) = .func (.func g) #[] #[] := rfl
    have hargs : #[x].map a.eval = #[.iface t (.map (some b))] := by simp [f.ev hx]
    simp only [execOp, resolve, hfv, Deferred.ofValue, hargs, Sem.run_bind, Sem.run_pure, Result.andThen_ok, invoke]
    simp [hg, hc]
theorem pv_mkIface {t : TypeId} {x : Operand} {v : Value} (hx : ev L x = some v) (h : ∀ w, (execOp (fun _ => v) ⟨none, .makeInterface t x, ty, "", #[], none⟩).run P w = .ok (.value (.iface t v)) w) : PV P n L (.makeInterface t x) ty (.iface t v) :=
  ⟨by intro c; simp, fun a f w _ _ _ _ => by have := h w; simp only [execOp] at this ⊢; rw [f.ev hx]; exact this⟩
theorem pv_assertMap {x : Operand} {xT t k e : TypeId} {v : Value} (ht : P.underlying t = some (.map k e)) (hx : ev L x = some (.iface t v)) : PV P n L (.typeAssert x xT t false) ty v :=
  ⟨by intro c; simp, fun a f w _ _ _ _ => by simp only [execOp, f.ev hx, Sem.run_bind, run_typeAssert_map_sl w t xT k e v ht, Result.andThen_ok, Sem.run_pure]⟩
end
theorem maps_Clone_sp (b : Nat) (ks : Ks) : Sp Try.prog 49 [.map (some b)] [MapS b ks] (X := Nat) (fun i => .map (some i)) (fun _ => True) (fun i => [MapS b ks, MapS i ks]) := by
  refine Sp.body (n := 9) Try.call49 Try.func49 rfl rfl rfl ?_
  refine p_seq rfl ?_
  refine p_region rfl ?_
  refine wo_pv (pv_assign rfl) rfl ?_
  refine q_seq ?_
  refine p_seq rfl ?_
  refine p_seq rfl ?_
  refine p_region rfl ?_
  refine wo_pv (pv_move rfl) rfl ?_
  refine wo_pv (pv_meql_nil Try.underlying68 rfl rfl) rfl ?_
  refine q_seq ?_
  first | refine p_ite rfl rfl (fun h4 => ?_) (fun h4 => ?_) | refine p_cond rfl rfl (fun h4 => ?_) (fun h4 => ?_)
  · -- t4 True
    simp at h4
    --done
  · -- t4 False
    refine p_skip rfl ?_
    refine t_seq ?_
    refine p_seq rfl ?_
    refine p_region rfl ?_
    refine wo_pv (pv_move rfl) rfl ?_
    refine wo_pv (pv_mkIface rfl (fun w => by rfl)) rfl ?_
    refine wo_opT (by intro c; simp) (opt_mapsClone (b := b) (ks := ks) (fun args w => run_callFunc_extern Try.func66 (by kernel_rfl) (by kernel_rfl) (by kernel_rfl) (e := Extern.MapsClone.clone) (by kernel_rfl) args w) rfl) rfl (fun i _ => ?_)
    refine wo_al ?_
    refine wo_pv (pv_assertMap Try.underlying68 rfl) rfl ?_
    refine wo_pv (pv_assign rfl) rfl ?_
    refine q_seq ?_
    refine p_ret rfl ?_
    refine fin_ret i (vs := [_]) (Cs := []) rfl (.tmp rfl .nil) rfl trivial ?_
    exact ent_pick
theorem maps_Keys_sp (m : Option Nat) : Sp Try.prog 51 [.map m] [] (X := Nat) (fun b => .func (.func 69) #[] #[.pointer (some ⟨b, 0, none⟩)]) (fun _ => True) (fun b => [Ce b 68 [.map m]]) := by
  refine Sp.body (n := 4) Try.call51 Try.func51 rfl rfl rfl ?_
  refine p_seq rfl ?_
  refine p_region rfl ?_
  refine wo_box (vs := [_]) rfl rfl rfl (fun b1 => ?_)
  refine wo_pv (pv_assign rfl) rfl ?_
  refine q_seq ?_
  refine p_seq rfl ?_
  refine p_region rfl ?_
  refine wo_pv (pv_makeFunc rfl rfl) rfl ?_
  refine wo_pv (pv_assign rfl) rfl ?_
  refine q_seq ?_
  refine p_ret rfl ?_
  refine fin_ret b1 (vs := [_]) (Cs := []) rfl (.tmp rfl .nil) rfl trivial ?_
  exact ent_pick
abbrev okK (ks : Ks) : List Bs → Bs → Prop := fun pre k => k ∈ ks.map (·.1) ∧ k ∉ pre ∧ pre.length < ks.length
theorem maps_Keys_it (c b : Nat) (ks : Ks) : IterU Try.prog 69 [.pointer (some ⟨c, 0, none⟩)] (fun k : Bs => [vS k]) (okK ks) (fun _ => True)
    [Ce c 68 [.map (some b)], MapS b ks] [Ce c 68 [.map (some b)], MapS b ks] (fun l => l.Perm (ks.map (·.1))) (fun _ => .tuple #[]) := by
  intro y J Jx ys
  refine Sp.body (n := 14) Try.call69 Try.func69 rfl rfl rfl ?_
  refine p_seq rfl ?_
  refine p_region rfl ?_
  refine r_load Try.underlying68 rfl rfl rfl rfl ?_
  refine r_range Try.underlying68 rfl rfl (fun b5 => ?_)
  refine q_seq ?_
  refine p_block 0 rfl ?_
  refine p_loop (fun (i : List Bs) => [(0, y), (5, .pointer (some ⟨b5, 0, none⟩))]) (fun (i : List Bs) => [J i, Ce c 68 [.map (some b)], MapIt b b5 ks i]) (fun (i : List Bs) => ks.length - i.length) rfl ([]) ?_ ?_ (fun i => ?_)
  · exact ⟨rfl, rfl, trivial⟩
  · -- H at start
    exact ent_pick
  refine wc_know (A := MapIt b b5 ks i) (.there (.there .here)) mapit_len (fun hlen => ?_)
  try dsimp only
  refine p_seq rfl ?_
  refine p_region rfl ?_
  refine r_next rfl rfl (fun o6 ho6 => ?_)
  refine wo_pv (pv_nx0 rfl) rfl ?_
  refine q_seq ?_
  refine p_seq rfl ?_
  first | refine p_ite rfl rfl (fun h7 => ?_) (fun h7 => ?_) | refine p_cond rfl rfl (fun h7 => ?_) (fun h7 => ?_)
  · -- t7 True
    obtain ⟨⟨k, v⟩, rfl⟩ := Option.isSome_iff_exists.1 h7
    obtain ⟨hm, hk⟩ := ho6
    have hk1 : k ∈ ks.map (·.1) := List.mem_map_of_mem (f := fun p : Bs × Value => p.1) hm
    have hl2 : i.length < ks.length := by
      have := nodup_len (l := i ++ [k]) (m := ks.map (·.1)) (by rw [List.nodup_append]; exact ⟨hlen.2.1, by simp, fun a ha c hc e => by simp only [List.mem_singleton] at hc; subst hc; subst e; exact hk ha⟩) (fun x hx => by rcases List.mem_append.1 hx with h | h; exact hlen.2.2 x h; simp only [List.mem_singleton] at h; subst h; exact hk1)
      rw [List.length_append, List.length_singleton, List.length_map] at this
      omega
    dsimp only [nxD]
    refine p_skip rfl ?_
    refine t_seq ?_
    refine p_block 1 rfl ?_
    refine p_seq rfl ?_
    refine p_region rfl ?_
    refine r_entry (b := b) (ks := ks) (done := i) (k := k) (v := v) hm rfl rfl ?_
    refine wo_pv (pv_extract rfl rfl) rfl ?_
    refine wo_pv (pv_assign rfl) rfl ?_
    refine q_seq ?_
    refine p_seq rfl ?_
    refine p_region rfl ?_
    refine wo_pv (pv_move rfl) rfl ?_
    refine wo_pv (pv_move rfl) rfl ?_
    refine r_yield ys i k ⟨hk1, hk, hl2⟩ rfl rfl rfl ?_ ?_
    · -- t12 True
      refine wo_pv (by first | exact pv_notd rfl | exact pv_not rfl) rfl ?_
      refine q_seq ?_
      refine p_false rfl rfl ?_
      refine p_skip rfl ?_
      refine to_block ?_
      refine to_inv (i ++ [k]) ?_ ⟨rfl, rfl, trivial⟩ ?_
      · rw [List.length_append, List.length_singleton]; omega
      · exact ent_pick
    · -- t12 False
      refine wo_pv (by first | exact pv_notd rfl | exact pv_not rfl) rfl ?_
      refine q_seq ?_
      refine p_true rfl rfl ?_
      refine p_ret rfl ?_
      refine to_block_ret ?_
      refine to_inv_ret ?_
      refine to_block_ret ?_
      refine fin_ret (some (i ++ [k]), []) (vs := []) (Cs := []) rfl .nil rfl ⟨fun pre e => trivial, fun e => by cases e⟩ ?_
      simp only [endsAt]
      refine ent_cons (ent_cons ?_)
      refine (mapit_done (i := b5)).trans ?_
      exact ent_pick
  · -- t7 False
    have hnone : o6 = none := by cases o6 with
      | none => rfl
      | some p => simp at h7
    subst hnone
    dsimp only [nxD]
    refine p_exit 0 rfl ?_
    refine t_seq_exit ?_
    refine to_inv_exit ?_
    refine to_block_here ?_
    refine tw_know (A := MapIt b b5 ks i) .here (fun x => mapit_perm x ho6) (fun hperm => ?_)
    refine fin_end (none, i) (vs := []) (Cs := []) rfl .nil rfl ⟨(fun pre e => by cases e), fun _ => hperm⟩ ?_
    simp only [endsAt]
    refine ent_cons (ent_cons ?_)
    refine (mapit_done (i := b5)).trans ?_
    exact ent_pick
/-- slices.AppendSeq, to nothing, of what is walked to its end. -/
theorem slices_AppendSeq_sp {g : Nat} {lb : List Value} {ok : List Bs → Bs → Prop} {stopped : List Bs → Prop} {As Bs' : List HP} {fin : List Bs → Prop} {val : Option (List Bs) → Value}
    (it : IterU Try.prog g lb (fun k : Bs => [vS k]) ok stopped As Bs' fin val) (N : Nat) (hN : N ≤ 4398046511104) (hlim : ∀ pre x, ok pre x → pre.length < N) [hp : PicksC As As []] :
    Sp Try.prog 82 [.slice none 0 0, .func (.func g) #[] lb.toArray] As (X := (Option Addr × Nat) × List Bs) (fun x => .slice x.1.1 x.2.length x.1.2) (fun x => fin x.2) (fun x => Row 9 1 (.slice x.1.1 x.2.length x.1.2) x.2.length (x.2.map vS) :: Bs') := by
  refine Sp.body (n := 13) Try.call82 Try.func82 rfl rfl rfl ?_
  refine p_seq rfl ?_
  refine p_region rfl ?_
  refine wo_box (vs := [_]) rfl rfl rfl (fun b2 => ?_)
  refine wo_pv (pv_assign rfl) rfl ?_
  refine q_seq ?_
  refine p_seq rfl ?_
  refine p_seq rfl ?_
  refine p_region rfl ?_
  refine wo_pv (pv_move rfl) rfl ?_
  refine q_seq ?_
  refine p_block 0 rfl ?_
  refine p_rangeFuncU (fun pre => [Ex fun s : Option Addr × Nat => Al [Ce b2 46 [.slice s.1 pre.length s.2], Row 9 1 (.slice s.1 pre.length s.2) pre.length (pre.map vS)]]) (fun j pre => [Pu False]) rfl it rfl (fun _ => by rfl) rfl ?_ (fun l pre k hok => ?_) (fun all hfin => ?_) (fun j pre hs => ?_)
  · (refine ent_app ?_; refine ent_ex (none, 0) (ent_al ?_); exact ent_cons (ent_step row_nil ent_pick))
  · -- a round
    have hpl := hlim pre k hok
    refine wc_exi fun s => wc_al ?_
    refine p_region rfl ?_
    refine wo_pv (pv_assign rfl) rfl ?_
    refine q_asg ?_
    refine p_block 1 rfl ?_
    refine p_region rfl ?_
    refine r_load Try.underlying46 rfl rfl rfl rfl ?_
    refine wo_pv (pv_move rfl) rfl ?_
    refine r_buildSliceL [_] (cs := [_]) Try.underlying46 ti9 rfl rfl rfl rfl rfl rfl rfl rfl (fun b10 => ?_)
    refine r_append1 (sz := 1) (bytes := 16) Try.underlying46 ti9 rfl rfl rfl rfl rfl rfl rfl (by rfl) (by rfl) (by omega) (by simp only [maxLen]; omega) rfl (fun a11 c11 => ?_)
    refine r_store ti46 rfl rfl rfl rfl (by simp; try omega) ?_
    refine wo_nil ?_
    refine to_block ?_
    refine to_round ?_
    refine ent_ex (a11, c11) (ent_al ?_)
    simp only [List.length_append, List.length_singleton, List.map_append, List.map_cons, List.map_nil]
    exact ent_pick
  · -- behind
    simp only [List.singleton_append]
    refine to_block ?_
    refine t_seq ?_
    refine p_seq rfl ?_
    refine wc_exi fun s => wc_al ?_
    refine p_region rfl ?_
    refine r_load Try.underlying46 rfl rfl rfl rfl ?_
    refine wo_pv (pv_assign rfl) rfl ?_
    refine q_seq ?_
    refine p_ret rfl ?_
    refine fin_ret ((s.1, s.2), all) (vs := [_]) (Cs := []) rfl (.tmp rfl .nil) rfl hfin ?_
    rw [List.append_nil]
    exact ent_cons ent_tail
  · -- stopped
    exact wc_no (fun s => by obtain ⟨_, _, _, _, a, _⟩ := s; exact a)
theorem slices_Collect_sp {g : Nat} {lb : List Value} {ok : List Bs → Bs → Prop} {stopped : List Bs → Prop} {As Bs' : List HP} {fin : List Bs → Prop} {val : Option (List Bs) → Value}
    (it : IterU Try.prog g lb (fun k : Bs => [vS k]) ok stopped As Bs' fin val) (N : Nat) (hN : N ≤ 4398046511104) (hlim : ∀ pre x, ok pre x → pre.length < N) [hp : PicksC As As []] :
    Sp Try.prog 67 [.func (.func g) #[] lb.toArray] As (X := (Option Addr × Nat) × List Bs) (fun x => .slice x.1.1 x.2.length x.1.2) (fun x => fin x.2) (fun x => Row 9 1 (.slice x.1.1 x.2.length x.1.2) x.2.length (x.2.map vS) :: Bs') := by
  refine Sp.body (n := 5) Try.call67 Try.func67 rfl rfl rfl ?_
  refine p_seq rfl ?_
  refine p_region rfl ?_
  refine wo_pv (pv_assign rfl) rfl ?_
  refine q_seq ?_
  refine p_seq rfl ?_
  refine p_region rfl ?_
  refine wo_pv (pv_move rfl) rfl ?_
  refine r_callX (slices_AppendSeq_sp it N hN hlim) rfl rfl rfl (fun x hx => ?_)
  refine wo_pv (pv_assign rfl) rfl ?_
  refine q_seq ?_
  refine p_ret rfl ?_
  refine fin_ret x (vs := [_]) (Cs := []) rfl (.tmp rfl .nil) rfl hx ?_
  simp only [List.append_nil]
  exact Ent.refl _
/-! Sorting texts. -/
theorem bits_Len_zero : SpF Try.prog 84 [.int .u64 0] (vI 0) := SpF.of_same Try.call84 fun w => (Try.bits_Len 0 w (by omega) (by omega)).mono fun e w' ⟨h1, h2⟩ => ⟨by rw [h1]; rfl, h2⟩
theorem insertionSort_nil : SpF Try.prog 88 [.slice none 0 0, vI 0, vI 0] (.tuple #[]) := by
  refine Sp.body (n := 49) Try.call88 Try.func88 rfl rfl rfl ?_
  refine p_seq rfl ?_
  refine p_region rfl ?_
  refine wo_pv (pv_move rfl) rfl ?_
  refine wo_pv (pv_add rfl rfl (by omega)) rfl ?_
  refine wo_pv (pv_assign rfl) rfl ?_
  refine q_seq ?_
  refine p_block 0 rfl ?_
  refine p_loop (fun (i : Unit) => [(0, .slice none 0 0), (1, vI 0), (2, vI 0), (6, vI 1)]) (fun (i : Unit) => []) (fun (i : Unit) => 0) rfl (()) ?_ ?_ (fun i => ?_)
  · exact ⟨rfl, rfl, rfl, rfl, trivial⟩
  · -- H at start
    exact Ent.refl _
  try dsimp only
  refine p_seq rfl ?_
  refine p_seq rfl ?_
  refine p_region rfl ?_
  refine wo_pv (pv_move rfl) rfl ?_
  refine wo_pv (pv_move rfl) rfl ?_
  refine wo_pv (pv_lss rfl rfl) rfl ?_
  refine q_seq ?_
  first | refine p_ite rfl rfl (fun h12 => ?_) (fun h12 => ?_) | refine p_cond rfl rfl (fun h12 => ?_) (fun h12 => ?_)
  · -- t12 True
    simp at h12
    --done
  · -- t12 False
    refine p_exit 0 rfl ?_
    refine t_seq_exit ?_
    refine to_inv_exit ?_
    refine to_block_here ?_
    exact fin_end () (vs := []) (Cs := []) rfl .nil rfl trivial ent_nil
theorem pdqsort_nil : SpF Try.prog 83 [.slice none 0 0, vI 0, vI 0, vI 0] (.tuple #[]) := by
  refine Sp.body (n := 134) Try.call83 Try.func83 rfl rfl rfl ?_
  refine p_seq rfl ?_
  refine p_region rfl ?_
  refine wo_pv (pv_assign rfl) rfl ?_
  refine q_seq ?_
  refine p_seq rfl ?_
  refine p_region rfl ?_
  refine wo_pv (pv_assign rfl) rfl ?_
  refine q_seq ?_
  refine p_block 0 rfl ?_
  refine p_loop (fun (i : Unit) => [(0, .slice none 0 0), (1, vI 0), (2, vI 0), (3, vI 0)]) (fun (i : Unit) => []) (fun (i : Unit) => 0) rfl (()) ?_ ?_ (fun i => ?_)
  · exact ⟨rfl, rfl, rfl, rfl, trivial⟩
  · -- H at start
    exact Ent.refl _
  try dsimp only
  refine p_block 1 rfl ?_
  refine p_seq rfl ?_
  refine p_region rfl ?_
  refine wo_pv (pv_move rfl) rfl ?_
  refine wo_pv (pv_move rfl) rfl ?_
  refine wo_pv (pv_sub rfl rfl (by omega)) rfl ?_
  refine wo_pv (pv_assign rfl) rfl ?_
  refine q_seq ?_
  refine p_seq rfl ?_
  refine p_seq rfl ?_
  refine p_region rfl ?_
  refine wo_pv (pv_move rfl) rfl ?_
  refine wo_pv (pv_leq rfl rfl) rfl ?_
  refine q_seq ?_
  first | refine p_ite rfl rfl (fun h23 => ?_) (fun h23 => ?_) | refine p_cond rfl rfl (fun h23 => ?_) (fun h23 => ?_)
  · -- t23 True
    refine p_seq rfl ?_
    refine p_region rfl ?_
    refine wo_pv (pv_move rfl) rfl ?_
    refine wo_pv (pv_move rfl) rfl ?_
    refine wo_pv (pv_move rfl) rfl ?_
    refine r_callF insertionSort_nil rfl rfl rfl ?_
    refine q_seq ?_
    refine p_ret rfl ?_
    refine t_seq_ret ?_
    refine to_block_ret ?_
    refine to_inv_ret ?_
    refine to_block_ret ?_
    exact fin_ret () (vs := []) (Cs := []) rfl .nil rfl trivial ent_nil
  · -- t23 False
    simp at h23
    --done
theorem slices_Sort_nil : SpF Try.prog 68 [.slice none 0 0] (.tuple #[]) := by
  refine Sp.body (n := 11) Try.call68 Try.func68 rfl rfl rfl ?_
  refine p_seq rfl ?_
  refine p_region rfl ?_
  refine wo_pv (pv_move rfl) rfl ?_
  refine wo_pv (pv_call_len_sl Try.underlying46 rfl) rfl ?_
  refine wo_pv (pv_assign rfl) rfl ?_
  refine q_seq ?_
  refine p_region rfl ?_
  refine wo_pv (pv_move rfl) rfl ?_
  refine wo_pv (pv_move rfl) rfl ?_
  refine wo_pv (pv_move rfl) rfl ?_
  refine wo_pv (pv_conv_in (i := 0) rfl Try.underlying3 Try.underlying106 (by decide)) rfl ?_
  refine r_callF bits_Len_zero rfl rfl rfl ?_
  refine r_callF pdqsort_nil rfl rfl rfl ?_
  refine wo_nil ?_
  exact fin_end () (vs := []) (Cs := []) rfl .nil rfl trivial ent_nil

theorem sat_grow {w : World} {M : Kn} {h : Res} (t : Sat w M h) (os : Array Obj) : Sat (Go.Sort.grow w os) M h := by
  have old : ∀ i o, w.heap[i]? = some o → (Go.Sort.grow w os).heap[i]? = some o := fun i o e => by
    rw [Go.Sort.heap_grow_old w os (Array.getElem?_eq_some_iff.1 e).1]; exact e
  exact ⟨fun i o e => old i o (t.im i o e), fun i o e => old i o (t.ow i o e), t.dj, t.env.trans ⟨rfl, rfl, rfl, by simp⟩⟩
def sortB (l : List Bs) : List Bs := l.mergeSort fun x y => decide (x ≤ y)
theorem sortB_len (l : List Bs) : (sortB l).length = l.length := by simp [sortB]
theorem slices_Sort_sp (a : Option Addr) (n c : Nat) (l : List Bs) (hn : l.length = n) (hb : n < 4611686018427387904) :
    Sp1 Try.prog 68 [.slice a n c] [Row 9 1 (.slice a n c) n (l.map vS)] (.tuple #[]) [Row 9 1 (.slice a n c) n ((sortB l).map vS)] := by
  subst hn
  refine ⟨Try.call68, fun w M h hf d t s => ?_⟩
  obtain ⟨h1, h2, d12, e, hr, _⟩ := s
  subst e
  rcases hr with ⟨hv, hl, hx⟩ | ⟨g, cap, cur, hv, hnc, hcm, hcl, hxl, htk, hh⟩
  · have hl0 : l = [] := List.eq_nil_of_length_eq_zero hl
    subst hl0
    cases hv
    refine (slices_Sort_nil.calls w M (h1.add h2) hf d t trivial).mono ?_
    rintro ee w' ⟨x, M', h', rfl, _, le, dj, t', _⟩
    exact ⟨(), M', h', rfl, trivial, le, dj, t', Res.emp, h', Res.emp_dj _, rfl, .inl ⟨rfl, rfl, by simp [sortB]⟩, trivial⟩
  · cases hv
    subst hh
    rw [Nat.mul_one] at hcl htk
    obtain ⟨d1, d2⟩ := Res.dj_add_left.1 d
    have hg : w.heap[g]? = some (.cells cur.toArray 9 (0, 0)) := t.ow _ _ (by simp [Res.add, Res.one])
    have hlt : g < w.heap.size := (Array.getElem?_eq_some_iff.1 hg).1
    have hH : Go.Sort.Holds encStr w g 0 l.toArray := by
      intro j hj
      have hj' : j < l.length := by simpa using hj
      have hc : cur[j]? = some (vS l[j]) := by
        have := congrArg (fun q => q[j]?) htk
        simp only [List.getElem?_take, hj', if_true, List.getElem?_map, List.getElem?_eq_getElem hj', Option.map_some] at this
        exact this
      refine ⟨?_, ?_⟩
      · simp only [World.cell?, Nat.zero_add, hg]
        simp [hc, hj', encStr]
      · simp [World.frozen?, hg]
    have hcall := Try.slices_Sort_string g 0 c l w hH hlt hb
    refine CallsIn.mono (callsIn_wide.2 hcall) ?_
    rintro ee w' ⟨rfl, k, os, rfl⟩
    have hs : (l.mergeSort fun x y => decide (x ≤ y)) = sortB l := rfl
    rw [hs]
    have hsl := sortB_len l
    generalize hq : sortB l = q at hsl ⊢
    have hput : (Go.Sort.putRow encStr (Go.Sort.ahead w k) g 0 q.toArray).heap[g]? = some (.cells (q.map vS ++ cur.drop q.length).toArray 9 (0, 0)) := by
      have h0 : (Go.Sort.ahead w k).heap[g]? = some (.cells cur.toArray 9 (0, 0)) := hg
      simp only [Go.Sort.putRow, Go.Sort.mapBlock, Array.getElem?_modify, if_true, h0, Option.map_some, Go.Sort.onCells]
      congr 2
      apply Array.ext'
      simp only [Go.Sort.putCells, Array.toList_mapIdx]
      apply List.ext_getElem?
      intro j
      simp only [List.getElem?_mapIdx, Nat.zero_le, true_and, Nat.zero_add, List.size_toArray, Nat.sub_zero]
      by_cases hj : j < q.length
      · have hjc : j < cur.length := by have := congrArg List.length htk; simp at this; omega
        rw [List.getElem?_append_left (by simpa using hj)]
        simp [hj, hjc, encStr]
      · rw [List.getElem?_append_right (by simpa using Nat.le_of_not_lt hj)]
        simp only [List.length_map, List.getElem?_drop]
        have e : q.length + (j - q.length) = j := by omega
        rw [e]
        cases hc : cur[j]? with
        | none => simp [hc]
        | some v => simp [hc, hj]
    have hoth : ∀ i, i ≠ g → (Go.Sort.putRow encStr (Go.Sort.ahead w k) g 0 q.toArray).heap[i]? = w.heap[i]? := by
      intro i hi
      simp only [Go.Sort.putRow, Go.Sort.mapBlock, Array.getElem?_modify, Ne.symm hi, if_false]
      rfl
    have t1 : Sat w M ((Res.one g (.cells cur.toArray 9 (0, 0))).add (h2.add hf)) := by rw [← Res.add_assoc]; exact t
    have t2 := Sat.setBlk (Res.dj_add_right.2 ⟨d12, d1⟩) t1 hput hoth ⟨rfl, rfl, rfl, by simp⟩
    have dn : (Res.one g (.cells (q.map vS ++ cur.drop q.length).toArray 9 (0, 0))).dj (h2.add hf) := dj_one_any (Res.dj_add_right.2 ⟨d12, d1⟩)
    obtain ⟨dn1, dn2⟩ := Res.dj_add_right.1 dn
    refine ⟨(), M, (Res.one g (.cells (q.map vS ++ cur.drop q.length).toArray 9 (0, 0))).add h2, rfl, trivial, Kn.le_refl _, Res.dj_add_left.2 ⟨dn2, d2⟩, ?_, Res.one g _, h2, dn1, rfl, .inr ⟨g, c, q.map vS ++ cur.drop q.length, rfl, hnc, hcm, ?_, ?_, ?_, rfl⟩, trivial⟩
    · rw [Res.add_assoc]; exact sat_grow t2 os
    · simp; omega
    · simp; omega
    · rw [Nat.mul_one, ← hsl, List.take_left' (by simp)]

end Go.Proofs.Ytimafngkifakfaa

/- Package store: From, All. -/
set_option maxRecDepth 100000
namespace Go.Proofs.Ytimafngkifakfaa
theorem sortB_sorted (l : List Bs) : (sortB l).Pairwise (fun x y => x ≤ y) := by
  have := List.pairwise_mergeSort (le := fun x y : Bs => decide (x ≤ y)) (fun a b c h k => by simp at *; exact List.le_trans h k) (fun a b => by simp; exact List.le_total a b) l
  simp only [decide_eq_true_eq] at this
  exact this
theorem sortB_perm (l : List Bs) : (sortB l).Perm l := List.mergeSort_perm l _
theorem sortB_eq {l m : List Bs} (h : l.Perm m) : sortB l = sortB m :=
  List.Perm.eq_of_pairwise (fun _ _ _ _ h k => List.le_antisymm h k) (sortB_sorted l) (sortB_sorted m) ((sortB_perm l).trans (h.trans (sortB_perm m).symm))
theorem slices_Sorted_sp {g : Nat} {lb : List Value} {ok : List Bs → Bs → Prop} {stopped : List Bs → Prop} {As Bs' : List HP} {fin : List Bs → Prop} {val : Option (List Bs) → Value}
    (it : IterU Try.prog g lb (fun k : Bs => [vS k]) ok stopped As Bs' fin val) (N : Nat) (hN : N ≤ 4398046511104) (hlim : ∀ pre x, ok pre x → pre.length < N) (hfin : ∀ l, fin l → l.length ≤ N) [hp : PicksC As As []] :
    Sp Try.prog 50 [.func (.func g) #[] lb.toArray] As (X := (Option Addr × Nat) × List Bs) (fun x => .slice x.1.1 x.2.length x.1.2) (fun x => fin x.2) (fun x => Row 9 1 (.slice x.1.1 x.2.length x.1.2) x.2.length ((sortB x.2).map vS) :: Bs') := by
  refine Sp.body (n := 9) Try.call50 Try.func50 rfl rfl rfl ?_
  refine p_seq rfl ?_
  refine p_region rfl ?_
  refine wo_pv (pv_assign rfl) rfl ?_
  refine q_seq ?_
  refine p_seq rfl ?_
  refine p_region rfl ?_
  refine wo_pv (pv_move rfl) rfl ?_
  refine r_callX (slices_Collect_sp it N hN hlim) rfl rfl rfl (fun x hx => ?_)
  have hxl := hfin x.2 hx
  refine wo_pv (pv_assign rfl) rfl ?_
  refine q_seq ?_
  refine p_seq rfl ?_
  refine p_region rfl ?_
  refine wo_pv (pv_move rfl) rfl ?_
  refine r_call1 (slices_Sort_sp x.1.1 x.2.length x.1.2 x.2 rfl (by omega)) rfl rfl rfl ?_
  refine q_seq ?_
  refine p_seq rfl ?_
  refine p_region rfl ?_
  refine wo_pv (pv_move rfl) rfl ?_
  refine wo_pv (pv_assign rfl) rfl ?_
  refine q_seq ?_
  refine p_ret rfl ?_
  refine fin_ret x (vs := [_]) (Cs := []) rfl (.tmp rfl .nil) rfl hx ?_
  simp only [List.append_nil]
  exact Ent.refl _
/-- The keys of some rows, rising. -/
def keysS (ks : Ks) : List Bs := sortB (ks.map (·.1))
theorem keysS_len (ks : Ks) : (keysS ks).length = ks.length := by rw [keysS, sortB_len]; simp
theorem keysS_mem {ks : Ks} {k : Bs} : k ∈ keysS ks ↔ k ∈ ks.map (·.1) := (sortB_perm _).mem_iff
theorem mlook_mem {ks : Ks} {k : Bs} (h : k ∈ ks.map (·.1)) : (mlook ks k).isSome = true := by
  induction ks with
  | nil => simp at h
  | cons p r ih =>
    simp only [mlook]
    by_cases e : p.1 = k
    · simp [e]
    · simp only [e, if_false]
      refine ih ?_
      simp only [List.map_cons, List.mem_cons] at h
      rcases h with h | h
      · exact absurd h.symm e
      · exact h
def fromL (ks : Ks) (p : Bs) (l : List Bs) : List (Bs × Value) := (l.filter (fun k => Lib.hasPrefix k p)).map fun k => (k, (mlook ks k).getD (vS []))
/-- A store's rows whose keys begin so, rising. -/
def fromS (ks : Ks) (p : Bs) : List (Bs × Value) := fromL ks p (keysS ks)
abbrev okL {α : Type} (all : List α) : List α → α → Prop := fun pre x => ∃ r, all = pre ++ x :: r
abbrev stopL {α : Type} (all : List α) : List α → Prop := fun pre => pre ≠ [] ∧ ∃ r, all = pre ++ r
theorem store_From_sp (s : Nat) (p : Bs) : Sp Try.prog 28 [.pointer (some ⟨s, 0, none⟩), vS p] [] (X := Nat × Nat) (fun x => .func (.func 48) #[] #[.pointer (some ⟨x.1, 0, none⟩), .pointer (some ⟨x.2, 0, none⟩)]) (fun _ => True)
    (fun x => [Ce x.1 24 [.pointer (some ⟨s, 0, none⟩)], Ce x.2 9 [vS p]]) := by
  refine Sp.body (n := 6) Try.call28 Try.func28 rfl rfl rfl ?_
  refine p_seq rfl ?_
  refine p_region rfl ?_
  refine wo_box (vs := [_]) rfl rfl rfl (fun b2 => ?_)
  refine wo_box (vs := [_]) rfl rfl rfl (fun b3 => ?_)
  refine wo_pv (pv_assign rfl) rfl ?_
  refine q_seq ?_
  refine p_seq rfl ?_
  refine p_region rfl ?_
  refine wo_pv (pv_makeFunc rfl rfl) rfl ?_
  refine wo_pv (pv_assign rfl) rfl ?_
  refine q_seq ?_
  refine p_ret rfl ?_
  refine fin_ret (b2, b3) (vs := [_]) (Cs := []) rfl (.tmp rfl .nil) rfl trivial ?_
  exact ent_pick
theorem store_All_sp (s : Nat) : Sp Try.prog 19 [.pointer (some ⟨s, 0, none⟩)] [] (X := Nat × Nat) (fun x => .func (.func 48) #[] #[.pointer (some ⟨x.1, 0, none⟩), .pointer (some ⟨x.2, 0, none⟩)]) (fun _ => True)
    (fun x => [Ce x.1 24 [.pointer (some ⟨s, 0, none⟩)], Ce x.2 9 [vS []]]) := by
  refine Sp.body (n := 5) Try.call19 Try.func19 rfl rfl rfl ?_
  refine p_seq rfl ?_
  refine p_region rfl ?_
  refine wo_pv (pv_assign rfl) rfl ?_
  refine q_seq ?_
  refine p_seq rfl ?_
  refine p_region rfl ?_
  refine wo_pv (pv_move rfl) rfl ?_
  refine r_callX (store_From_sp s []) rfl rfl rfl (fun x _ => ?_)
  refine wo_pv (pv_assign rfl) rfl ?_
  refine q_seq ?_
  refine p_ret rfl ?_
  refine fin_ret x (vs := [_]) (Cs := []) rfl (.tmp rfl .nil) rfl trivial ?_
  exact ent_pick
theorem store_From_it (c1 c2 s p : Nat) (J : Jn) (ks : Ks) (q : Bs) (hks : ks.length ≤ 4398046511104) : Iter Try.prog 48 [.pointer (some ⟨c1, 0, none⟩), .pointer (some ⟨c2, 0, none⟩)] (fun x : Bs × Value => [vS x.1, x.2]) (okL (fromS ks q)) (stopL (fromS ks q))
    [Ce c1 24 [.pointer (some ⟨s, 0, none⟩)], Ce c2 9 [vS q], IsS s p J ks] [Ce c1 24 [.pointer (some ⟨s, 0, none⟩)], Ce c2 9 [vS q], IsS s p J ks] (fromS ks q) (fun _ => .tuple #[]) := by
  intro y Jy Jx ys
  have hkl := keysS_len ks
  refine Sp.body (n := 33) Try.call48 Try.func48 rfl rfl rfl ?_
  refine wc_front (IsS s p J ks) ?_
  refine wc_exi fun jq => wc_exi fun b => wc_al ?_
  refine p_seq rfl ?_
  refine p_region rfl ?_
  refine r_load Try.underlying24 rfl rfl rfl rfl ?_
  refine wo_pv (by first | exact pv_nilCheck_p rfl | exact pv_nilCheck_f rfl) rfl ?_
  refine wo_pv (pv_fieldAddrk Try.underlying79 rfl ti68 rfl rfl (k := 1) rfl (by first | exact Nat.zero_add _ | exact Nat.add_zero _ | exact rfl)) rfl ?_
  refine r_load Try.underlying68 rfl rfl rfl rfl ?_
  refine r_callX (maps_Clone_sp b ks) rfl rfl rfl (fun b' _ => ?_)
  refine wo_pv (pv_assign rfl) rfl ?_
  refine q_seq ?_
  refine p_seq rfl ?_
  refine p_region rfl ?_
  refine wo_pv (pv_move rfl) rfl ?_
  refine r_callX (maps_Keys_sp (some b')) rfl rfl rfl (fun cb _ => ?_)
  refine r_callX (slices_Sorted_sp (maps_Keys_it cb b' ks) ks.length hks (fun pre x h => h.2.2) (fun l h => by have := h.length_eq; simp at this; omega)) rfl rfl rfl (fun xs hxs => ?_)
  obtain ⟨⟨sa, sc⟩, al⟩ := xs
  have hse : sortB al = keysS ks := sortB_eq hxs
  have hal : al.length = ks.length := by have := hxs.length_eq; simpa using this
  dsimp only
  rw [hse, hal]
  refine wo_pv (pv_call_len_sl Try.underlying46 rfl) rfl ?_
  refine wo_pv (pv_move rfl) rfl ?_
  refine q_seq ?_
  refine p_block 0 rfl ?_
  refine p_loop (fun (i : { j : Nat // j ≤ ks.length }) => [(0, y), (1, .pointer (some ⟨c1, 0, none⟩)), (2, .pointer (some ⟨c2, 0, none⟩)), (4, .map (some b')), (14, .slice sa ks.length sc), (15, vI ks.length), (16, vI i.1)]) (fun (i : { j : Nat // j ≤ ks.length }) => [Jy (fromL ks q ((keysS ks).take i.1)), Row 9 1 (.slice sa ks.length sc) ks.length ((keysS ks).map vS), MapS b' ks, Ce s 79 [.pointer (some ⟨jq, 0, none⟩), .map (some b)], IsJ jq p J, MapS b ks, Ce c1 24 [.pointer (some ⟨s, 0, none⟩)], Ce c2 9 [vS q]]) (fun (i : { j : Nat // j ≤ ks.length }) => ks.length - i.1) rfl (⟨0, Nat.zero_le _⟩) ?_ ?_ (fun i => ?_)
  · exact ⟨rfl, rfl, rfl, rfl, rfl, rfl, rfl, trivial⟩
  · -- H at start
    dsimp only
    rw [show fromL ks q ((keysS ks).take 0) = [] from rfl]
    exact ent_pick
  obtain ⟨j, hj⟩ := i
  try dsimp only
  refine p_seq rfl ?_
  refine p_region rfl ?_
  refine wo_pv (pv_lss rfl rfl) rfl ?_
  refine q_seq ?_
  refine p_seq rfl ?_
  first | refine p_ite rfl rfl (fun h17 => ?_) (fun h17 => ?_) | refine p_cond rfl rfl (fun h17 => ?_) (fun h17 => ?_)
  · -- t17 True
    refine p_skip rfl ?_
    refine t_seq ?_
    refine p_seq rfl ?_
    refine p_block 1 rfl ?_
    refine p_seq rfl ?_
    have hjl : j < (keysS ks).length := by omega
    have hml := mlook_mem (keysS_mem.1 (List.getElem_mem hjl))
    obtain ⟨v, hv⟩ := Option.isSome_iff_exists.1 hml
    have hst : (keysS ks).take (j + 1) = (keysS ks).take j ++ [(keysS ks)[j]] := List.take_succ_eq_append_getElem hjl
    have hff : fromS ks q = fromL ks q ((keysS ks).take j) ++ fromL ks q [(keysS ks)[j]] ++ fromL ks q ((keysS ks).drop (j + 1)) := by
      have e : keysS ks = (keysS ks).take j ++ ([(keysS ks)[j]] ++ (keysS ks).drop (j + 1)) := by rw [List.singleton_append, ← List.drop_eq_getElem_cons hjl, List.take_append_drop]
      unfold fromS
      conv => lhs; rw [e]
      simp only [fromL, List.filter_append, List.map_append, List.append_assoc]
    have hfs : fromL ks q ((keysS ks).take (j + 1)) = fromL ks q ((keysS ks).take j) ++ fromL ks q [(keysS ks)[j]] := by rw [hst]; simp only [fromL, List.filter_append, List.map_append]
    refine p_region rfl ?_
    refine r_elemAddr (sz := 1) Try.underlying46 ti9 rfl rfl rfl rfl (by omega) (by first | (rw [List.length_map]; omega) | (rw [flat_len (sz := 1) (fun _ => rfl)]; omega) | (simp; omega)) (Nat.mul_one _) rfl ?_
    refine r_eload Try.underlying9 rfl rfl (get_map (by omega)) rfl ?_
    refine wo_pv (pv_assign rfl) rfl ?_
    refine q_seq ?_
    refine p_seq rfl ?_
    refine p_region rfl ?_
    refine wo_pv (pv_move rfl) rfl ?_
    refine r_load Try.underlying9 rfl rfl rfl rfl ?_
    refine r_callF (HasPrefix_sp (keysS ks)[j] q) rfl rfl rfl ?_
    refine wo_pv (pv_move rfl) rfl ?_
    first | refine wo_gite (j := 3) rfl rfl (fun h23 => ?_) (fun h23 => ?_) | refine wo_gsplit (j := 3) rfl rfl (fun h23 => ?_) (fun h23 => ?_)
    · -- t23 True
      have hone : fromL ks q [(keysS ks)[j]] = [((keysS ks)[j], v)] := by simp [fromL, h23, hv]
      rw [hone] at hff hfs
      refine wo_in (b := true) rfl ?_
      refine wo_pv (pv_move rfl) rfl ?_
      refine wo_in (b := true) rfl ?_
      refine wo_pv (pv_move rfl) rfl ?_
      refine wo_in (b := true) rfl ?_
      refine wo_pv (pv_move rfl) rfl ?_
      refine wo_in (b := true) rfl ?_
      refine wo_pv (pv_move rfl) rfl ?_
      refine wo_in (b := true) rfl ?_
      refine r_lookup (v := v) Try.underlying68 Try.underlying9 ti9 rfl rfl rfl (by simp only [hv]; rfl) rfl ?_
      refine wo_in (b := true) rfl ?_
      refine r_yield ys (fromL ks q ((keysS ks).take j)) ((keysS ks)[j], v) ⟨_, by rw [hff, List.append_assoc, List.singleton_append]⟩ rfl rfl rfl ?_ ?_
      · -- t29 True
        refine wo_in (b := true) rfl ?_
        refine wo_pv (by first | exact pv_notd rfl | exact pv_not rfl) rfl ?_
        refine wo_pv (pv_pick_t rfl rfl) rfl ?_
        refine q_seq ?_
        refine p_false rfl rfl ?_
        refine p_skip rfl ?_
        refine to_block ?_
        refine t_seq ?_
        refine p_region rfl ?_
        refine wo_pv (pv_add rfl rfl (by omega)) rfl ?_
        refine wo_pv (pv_move rfl) rfl ?_
        refine wo_nil ?_
        refine to_inv ⟨j + 1, by omega⟩ (by dsimp only; omega) ⟨rfl, rfl, rfl, rfl, rfl, rfl, rfl, trivial⟩ ?_
        dsimp only
        rw [hfs]
        exact ent_pick
      · -- t29 False
        refine wo_in (b := true) rfl ?_
        refine wo_pv (by first | exact pv_notd rfl | exact pv_not rfl) rfl ?_
        refine wo_pv (pv_pick_t rfl rfl) rfl ?_
        refine q_seq ?_
        refine p_true rfl rfl ?_
        refine p_ret rfl ?_
        refine to_block_ret ?_
        refine t_seq_ret ?_
        refine to_inv_ret ?_
        refine to_block_ret ?_
        refine fin_ret (some (fromL ks q ((keysS ks).take (j + 1)))) (vs := []) (Cs := []) rfl .nil rfl (fun pre e => by cases e; exact ⟨by rw [hfs]; simp, _, by rw [hff, hfs]⟩) ?_
        simp only [endsAt]
        rw [hfs]
        refine ent_cons (ent_cons (ent_cons ?_))
        exact ent_step (fold_isS jq b rfl rfl rfl) ent_nil
    · -- t23 False
      have hone : fromL ks q [(keysS ks)[j]] = [] := by simp [fromL, h23]
      rw [hone, List.append_nil] at hfs
      refine wo_out (b := false) rfl rfl rfl ?_
      refine wo_out (b := false) rfl rfl rfl ?_
      refine wo_out (b := false) rfl rfl rfl ?_
      refine wo_out (b := false) rfl rfl rfl ?_
      refine wo_out (b := false) rfl rfl rfl ?_
      refine wo_out (b := false) rfl rfl rfl ?_
      refine wo_out (b := false) rfl rfl rfl ?_
      refine wo_pv (pv_pick_f rfl rfl) rfl ?_
      refine q_seq ?_
      refine p_false rfl rfl ?_
      refine p_skip rfl ?_
      refine to_block ?_
      refine t_seq ?_
      refine p_region rfl ?_
      refine wo_pv (pv_add rfl rfl (by omega)) rfl ?_
      refine wo_pv (pv_move rfl) rfl ?_
      refine wo_nil ?_
      refine to_inv ⟨j + 1, by omega⟩ (by dsimp only; omega) ⟨rfl, rfl, rfl, rfl, rfl, rfl, rfl, trivial⟩ ?_
      dsimp only
      rw [hfs]
      exact ent_pick
  · -- t17 False
    refine p_exit 0 rfl ?_
    refine t_seq_exit ?_
    refine to_inv_exit ?_
    refine to_block_here ?_
    have hj2 : j = (keysS ks).length := by omega
    subst hj2
    refine fin_end none (vs := []) (Cs := []) rfl .nil rfl (fun pre e => by cases e) ?_
    simp only [endsAt]
    rw [List.take_length, show fromL ks q (keysS ks) = fromS ks q from rfl]
    refine ent_cons (ent_cons (ent_cons ?_))
    exact ent_step (fold_isS jq b rfl rfl rfl) ent_nil
end Go.Proofs.Ytimafngkifakfaa

/- Maps as lists, texts in their order: plain laws. -/
namespace Go.Proofs.Ytimafngkifakfaa
theorem mlook_mput (ks : Ks) (k k' : Bs) (v : Value) : mlook (mput ks k v) k' = if k = k' then some v else mlook ks k' := by
  induction ks with
  | nil => simp [mput, mlook]
  | cons p r ih =>
    simp only [mput]
    by_cases h : p.1 = k
    · rw [if_pos h]
      by_cases h2 : k = k'
      · simp [mlook, h2]
      · simp [mlook, h2, h]
    · rw [if_neg h]
      simp only [mlook, ih]
      by_cases h2 : k = k'
      · subst h2; simp [h]
      · simp [h2]
theorem mput_keys (ks : Ks) (k : Bs) (v : Value) : (mput ks k v).map (·.1) = if k ∈ ks.map (·.1) then ks.map (·.1) else ks.map (·.1) ++ [k] := by
  induction ks with
  | nil => simp [mput]
  | cons p r ih =>
    simp only [mput]
    by_cases h : p.1 = k
    · rw [if_pos h, if_pos (by simp [h])]; simp [h]
    · rw [if_neg h]
      simp only [List.map_cons, ih, List.mem_cons]
      by_cases h2 : k ∈ r.map (·.1)
      · rw [if_pos h2, if_pos (.inr h2)]
      · rw [if_neg h2, if_neg (by rintro (e | e); exact h e.symm; exact h2 e)]; simp
theorem mput_nodup {ks : Ks} (h : (ks.map (·.1)).Nodup) (k : Bs) (v : Value) : ((mput ks k v).map (·.1)).Nodup := by
  rw [mput_keys]
  split
  · exact h
  · rename_i hk
    rw [List.nodup_append]
    exact ⟨h, by simp, fun a ha b hb e => by simp only [List.mem_singleton] at hb; subst hb; subst e; exact hk ha⟩
theorem mdel_keys (ks : Ks) (k : Bs) : ((mdel ks k).map (·.1)).Sublist (ks.map (·.1)) := by
  induction ks with
  | nil => simp [mdel]
  | cons p r ih =>
    simp only [mdel]
    split
    · simp
    · simp only [List.map_cons]; exact ih.cons_cons _
theorem mdel_nodup {ks : Ks} (h : (ks.map (·.1)).Nodup) (k : Bs) : ((mdel ks k).map (·.1)).Nodup := h.sublist (mdel_keys ks k)
theorem mlook_none {ks : Ks} {k : Bs} (h : k ∉ ks.map (·.1)) : mlook ks k = none := by
  induction ks with
  | nil => rfl
  | cons p r ih =>
    simp only [List.map_cons, List.mem_cons, not_or] at h
    simp only [mlook, Ne.symm h.1, if_false]
    exact ih h.2
theorem mlook_mdel {ks : Ks} (h : (ks.map (·.1)).Nodup) (k k' : Bs) : mlook (mdel ks k) k' = if k = k' then none else mlook ks k' := by
  induction ks with
  | nil => simp [mdel, mlook]
  | cons p r ih =>
    simp only [List.map_cons, List.nodup_cons] at h
    simp only [mdel]
    by_cases h1 : p.1 = k
    · rw [if_pos h1]
      by_cases h2 : k = k'
      · subst h2; rw [if_pos rfl]; exact mlook_none (by rw [← h1]; exact h.1)
      · rw [if_neg h2]; simp [mlook, h1, h2]
    · rw [if_neg h1]
      simp only [mlook, ih h.2]
      by_cases h2 : k = k'
      · subst h2; simp [h1]
      · simp [h2]
theorem mlook_isSome {ks : Ks} {k : Bs} : (mlook ks k).isSome = true ↔ k ∈ ks.map (·.1) := by
  constructor
  · intro h
    apply Classical.byContradiction
    intro hc
    rw [mlook_none hc] at h; cases h
  · exact mlook_mem
theorem mlook_of_mem {ks : Ks} {k : Bs} {v : Value} (hn : (ks.map (·.1)).Nodup) (h : (k, v) ∈ ks) : mlook ks k = some v := by
  induction ks with
  | nil => simp at h
  | cons p r ih =>
    simp only [List.map_cons, List.nodup_cons] at hn
    simp only [mlook]
    rcases List.mem_cons.1 h with rfl | h
    · simp
    · have : p.1 ≠ k := fun e => hn.1 (e ▸ List.mem_map_of_mem (f := fun p : Bs × Value => p.1) h)
      simp only [this, if_false]
      exact ih hn.2 h
theorem mem_of_mlook {ks : Ks} {k : Bs} {v : Value} (h : mlook ks k = some v) : (k, v) ∈ ks := by
  induction ks with
  | nil => simp [mlook] at h
  | cons p r ih =>
    simp only [mlook] at h
    split at h
    · rename_i e; simp only [Option.some.injEq] at h; subst h; subst e; simp
    · simp [ih h]
/-! The order of texts. -/
theorem blt_iff : ∀ (a b : Bs), blt a b = true ↔ a < b := by
  intro a
  induction a with
  | nil => intro b; cases b <;> simp [blt, Op.bytesLess]
  | cons x a ih =>
    intro b
    cases b with
    | nil => simp [blt, Op.bytesLess]
    | cons y b =>
      have := ih b
      simp only [blt] at this ⊢
      rw [List.cons_lt_cons_iff, ← this]
      simp only [Op.bytesLess]
      by_cases h : x = y
      · subst h; simp
      · simp [h]
theorem blt_eq (a b : Bs) : blt a b = decide (a < b) := by
  have := blt_iff a b
  cases h : blt a b with
  | true => rw [h] at this; exact (decide_eq_true (this.1 rfl)).symm
  | false => rw [h] at this; exact (decide_eq_false (fun e => by have := this.2 e; cases this)).symm
theorem keysS_lt {ks : Ks} (hn : (ks.map (·.1)).Nodup) : (keysS ks).Pairwise (· < ·) := by
  have h1 := sortB_sorted (ks.map (·.1))
  have h2 : (keysS ks).Nodup := (sortB_perm _).nodup_iff.2 hn
  have h3 : (keysS ks).Pairwise (fun a b => a ≤ b ∧ a ≠ b) := List.Pairwise.and h1 h2
  exact h3.imp fun ⟨a, b⟩ => Std.lt_of_le_of_ne a b
theorem hasPrefix_nil (k : Bs) : Lib.hasPrefix k [] = true := by cases k <;> rfl
theorem fromS_nil (ks : Ks) : fromS ks [] = (keysS ks).map fun k => (k, (mlook ks k).getD (vS [])) := by
  have e : (keysS ks).filter (fun k => Lib.hasPrefix k []) = keysS ks := List.filter_eq_self.2 fun k _ => hasPrefix_nil k
  rw [fromS, fromL, e]
theorem fromS_nil_len (K : Ks) : (fromS K []).length = K.length := by rw [fromS_nil, List.length_map, keysS_len]
theorem fromS_mem {ks : Ks} {p : Bs} {x : Bs × Value} (h : x ∈ fromS ks p) : x.1 ∈ ks.map (·.1) ∧ Lib.hasPrefix x.1 p = true ∧ mlook ks x.1 = some x.2 := by
  simp only [fromS, fromL, List.mem_map, List.mem_filter] at h
  obtain ⟨k, ⟨h1, h2⟩, rfl⟩ := h
  have h3 := keysS_mem.1 h1
  refine ⟨h3, h2, ?_⟩
  obtain ⟨v, hv⟩ := Option.isSome_iff_exists.1 (mlook_mem h3)
  simp [hv]
/-- Sorted lists with the same things in them are the same. -/
theorem sorted_eq {l m : List Bs} (hl : l.Pairwise (· < ·)) (hm : m.Pairwise (· < ·)) (h : ∀ k, k ∈ l ↔ k ∈ m) : l = m := by
  have nl : l.Nodup := hl.imp fun h e => by subst e; exact absurd h (List.lt_irrefl _)
  have nm : m.Nodup := hm.imp fun h e => by subst e; exact absurd h (List.lt_irrefl _)
  exact List.Perm.eq_of_pairwise (fun _ _ _ _ h k => List.le_antisymm h k) (hl.imp fun h => List.le_of_lt h) (hm.imp fun h => List.le_of_lt h) ((List.perm_ext_iff_of_nodup nl nm).2 h)
end Go.Proofs.Ytimafngkifakfaa

/- disk.Copy; maps of rows that are compared. -/
set_option maxRecDepth 100000
namespace Go.Proofs.Ytimafngkifakfaa
theorem disk_Copy_sp (p : Nat) (D : Dk) : Sp Try.prog 30 [.pointer (some ⟨p, 0, none⟩)] [IsD p D] (X := Nat) (fun q => .pointer (some ⟨q, 0, none⟩)) (fun _ => True) (fun q => [IsD q D, IsD p D]) := by
  refine Sp.body (n := 13) Try.call30 Try.func30 rfl rfl rfl ?_
  refine wc_exi fun a => wc_exi fun c => wc_al (wc_pu fun ok => ?_)
  refine wc_know (A := Row 9 1 (.slice a D.secs.length c) D.secs.length (D.secs.map vS)) (.there .here) row_none (fun hnone => ?_)
  have hmany := ok.many
  refine p_seq rfl ?_
  refine p_region rfl ?_
  refine wo_pv (pv_assign rfl) rfl ?_
  refine q_seq ?_
  refine p_seq rfl ?_
  refine p_region rfl ?_
  refine wo_pv (pv_move rfl) rfl ?_
  refine wo_pv (by first | exact pv_nilCheck_p rfl | exact pv_nilCheck_f rfl) rfl ?_
  refine r_loada (vs := [_, _, _, _, _]) Try.underlying76 rfl ti76 rfl (by exact Nat.le_of_ble_eq_true rfl) (by rfl) rfl ?_
  refine wo_alloc (zs := [.slice none 0 0, .bool false, .int .i64 0, .int .i64 0, .bool false]) ti76 rfl rfl rfl (fun b3 => ?_)
  refine r_storea ti76 rfl rfl rfl rfl (by simp; try omega) ?_
  refine q_seq ?_
  refine p_seq rfl ?_
  refine p_region rfl ?_
  refine wo_pv (pv_move rfl) rfl ?_
  refine wo_pv (by first | exact pv_nilCheck_p rfl | exact pv_nilCheck_f rfl) rfl ?_
  refine wo_pv (pv_fieldAddrk Try.underlying76 rfl ti46 rfl rfl (k := 0) rfl (by first | exact Nat.zero_add _ | exact Nat.add_zero _ | exact rfl)) rfl ?_
  refine r_load Try.underlying46 rfl rfl rfl rfl ?_
  refine r_callX (slices_Clone_sp (B := Row 9 1 (.slice a D.secs.length c) D.secs.length (D.secs.map vS)) D.secs.length c D.secs sla_row rfl hnone (by omega)) rfl rfl rfl (fun x11 _ => ?_)
  refine wo_pv (pv_fieldAddrk Try.underlying76 rfl ti46 rfl rfl (k := 0) rfl (by first | exact Nat.zero_add _ | exact Nat.add_zero _ | exact rfl)) rfl ?_
  refine r_store ti46 rfl rfl rfl rfl (by simp; try omega) ?_
  refine q_seq ?_
  refine p_seq rfl ?_
  refine p_region rfl ?_
  refine wo_pv (pv_assign rfl) rfl ?_
  refine q_seq ?_
  refine p_ret rfl ?_
  refine fin_ret b3 (vs := [_]) (Cs := []) rfl (.tmp rfl .nil) rfl trivial ?_
  refine ent_step (fold_isD (p := b3) D ok (by rfl) (by exact ⟨rfl, rfl⟩) (by exact ⟨_, _, rfl⟩) (by rfl) (by rfl) (by rfl) (by rfl) (by rfl) (by rfl)) ?_
  exact ent_step (fold_isD (p := p) D ok (by rfl) (by exact ⟨rfl, rfl⟩) (by exact ⟨_, _, rfl⟩) (by rfl) (by rfl) (by rfl) (by rfl) (by rfl) (by rfl)) ent_nil
/-- Rows whose values are texts. -/
def AllS (K : Ks) : Prop := ∀ p ∈ K, ∃ s, p.2 = vS s
def sameP (Ka Kb : Ks) : Prop := Ka.length = Kb.length ∧ ∀ p ∈ Ka, mlook Kb p.1 = some p.2
theorem allS_look {K : Ks} (h : AllS K) {k : Bs} {v : Value} (e : mlook K k = some v) : ∃ s, v = vS s := h (k, v) (mem_of_mlook e)
theorem mapit_keys {b i : Nat} {ks : Ks} {done : List Bs} {M : Kn} {h : Res} (x : (MapIt b i ks done).at_ M h) : (ks.map (·.1)).Nodup := by
  obtain ⟨es, clock, ds, hne, e1, g, sg⟩ := x
  exact g.keys
theorem law7_same_sp (ba bb : Nat) (Ka Kb : Ks) (ha : AllS Ka) (hb : AllS Kb) (hl : Ka.length ≤ 4398046511104) : Sp1 Try.prog 31 [.map (some ba), .map (some bb)] [MapS ba Ka, MapS bb Kb] (vB (@decide (sameP Ka Kb) (Classical.propDecidable _))) [MapS ba Ka, MapS bb Kb] := by
  refine Sp.body (n := 34) Try.call31 Try.func31 rfl rfl rfl ?_
  refine p_seq rfl ?_
  refine p_region rfl ?_
  refine wo_pv (pv_assign rfl) rfl ?_
  refine q_seq ?_
  refine p_seq rfl ?_
  refine p_seq rfl ?_
  refine p_region rfl ?_
  refine wo_pv (pv_move rfl) rfl ?_
  refine r_mlen Try.underlying68 rfl rfl ?_
  refine wo_pv (pv_move rfl) rfl ?_
  refine r_mlen Try.underlying68 rfl rfl ?_
  refine wo_pv (pv_neq rfl rfl) rfl ?_
  refine q_seq ?_
  first | refine p_ite rfl rfl (fun h13 => ?_) (fun h13 => ?_) | refine p_cond rfl rfl (fun h13 => ?_) (fun h13 => ?_)
  · -- t13 True
    refine p_seq rfl ?_
    refine p_region rfl ?_
    refine wo_pv (pv_assign rfl) rfl ?_
    refine q_seq ?_
    refine p_ret rfl ?_
    refine t_seq_ret ?_
    have hn : ¬ sameP Ka Kb := fun h => h13 (by rw [h.1])
    refine fin_ret () (vs := [_]) (Cs := []) rfl (.tmp rfl .nil) (by rw [@decide_eq_false _ (Classical.propDecidable _) hn]; rfl) trivial ?_
    exact ent_pick
  · -- t13 False
    refine p_skip rfl ?_
    refine t_seq ?_
    refine p_seq rfl ?_
    refine p_seq rfl ?_
    refine p_region rfl ?_
    refine wo_pv (pv_move rfl) rfl ?_
    refine r_range Try.underlying68 rfl rfl (fun b15 => ?_)
    refine q_seq ?_
    refine p_block 0 rfl ?_
    refine p_loop (fun (i : { done : List Bs // ∀ k ∈ done, mlook Kb k = mlook Ka k }) => [(1, .map (some bb)), (15, .pointer (some ⟨b15, 0, none⟩))]) (fun (i : { done : List Bs // ∀ k ∈ done, mlook Kb k = mlook Ka k }) => [MapIt ba b15 Ka i.1, MapS bb Kb]) (fun (i : { done : List Bs // ∀ k ∈ done, mlook Kb k = mlook Ka k }) => Ka.length - i.1.length) rfl (⟨[], by simp⟩) ?_ ?_ (fun i => ?_)
    · exact ⟨rfl, rfl, trivial⟩
    · -- H at start
      exact Ent.refl _
    obtain ⟨done, hdone⟩ := i
    refine wc_know (A := MapIt ba b15 Ka done) .here mapit_len (fun hlen => ?_)
    refine wc_know (A := MapIt ba b15 Ka done) .here mapit_keys (fun hkeys => ?_)
    try dsimp only
    refine p_seq rfl ?_
    refine p_region rfl ?_
    refine r_next rfl rfl (fun o16 ho16 => ?_)
    refine wo_pv (pv_nx0 rfl) rfl ?_
    refine q_seq ?_
    refine p_seq rfl ?_
    first | refine p_ite rfl rfl (fun h17 => ?_) (fun h17 => ?_) | refine p_cond rfl rfl (fun h17 => ?_) (fun h17 => ?_)
    · -- t17 True
      obtain ⟨⟨k, v⟩, rfl⟩ := Option.isSome_iff_exists.1 h17
      obtain ⟨hm, hk⟩ := ho16
      have hlk := mlook_of_mem hkeys hm
      obtain ⟨sv, rfl⟩ := ha _ hm
      obtain ⟨sw, hsw⟩ : ∃ sw : Bs, (mlook Kb k).getD (vS []) = vS sw := by
        cases e : mlook Kb k with
        | none => exact ⟨[], rfl⟩
        | some u => obtain ⟨s, rfl⟩ := allS_look hb e; exact ⟨s, rfl⟩
      dsimp only [nxD]
      refine p_skip rfl ?_
      refine t_seq ?_
      refine p_block 1 rfl ?_
      refine p_seq rfl ?_
      refine p_region rfl ?_
      refine r_entry (b := ba) (ks := Ka) (done := done) (k := k) (v := vS sv) hm rfl rfl ?_
      refine wo_pv (pv_extract rfl rfl) rfl ?_
      refine wo_pv (pv_extract rfl rfl) rfl ?_
      refine wo_pv (pv_assign rfl) rfl ?_
      refine wo_pv (pv_assign rfl) rfl ?_
      refine q_seq ?_
      refine p_seq rfl ?_
      refine p_region rfl ?_
      refine wo_pv (pv_move rfl) rfl ?_
      refine wo_pv (pv_move rfl) rfl ?_
      refine r_lookup (v := .tuple #[vS sw, vB (mlook Kb k).isSome]) Try.underlying68 Try.underlying9 ti9 rfl rfl rfl (by rw [← hsw]; rfl) rfl ?_
      refine wo_pv (pv_move rfl) rfl ?_
      refine wo_pv (pv_extract rfl rfl) rfl ?_
      refine wo_pv (pv_extract rfl rfl) rfl ?_
      refine wo_pv (pv_assign rfl) rfl ?_
      refine wo_pv (pv_assign rfl) rfl ?_
      refine q_seq ?_
      refine p_seq rfl ?_
      refine p_region rfl ?_
      refine wo_pv (pv_move rfl) rfl ?_
      refine wo_pv (by first | exact pv_notd rfl | exact pv_not rfl) rfl ?_
      refine wo_pv (pv_move rfl) rfl ?_
      first | refine wo_gite (j := 2) rfl rfl (fun h29 => ?_) (fun h29 => ?_) | refine wo_gsplit (j := 2) rfl rfl (fun h29 => ?_) (fun h29 => ?_)
      · -- t29 True
        refine wo_out (b := true) rfl rfl rfl ?_
        refine wo_out (b := true) rfl rfl rfl ?_
        refine wo_out (b := true) rfl rfl rfl ?_
        refine wo_pv (pv_pick_t rfl rfl) rfl ?_
        refine q_seq ?_
        refine p_true rfl rfl ?_
        refine p_seq rfl ?_
        refine p_region rfl ?_
        refine wo_pv (pv_assign rfl) rfl ?_
        refine q_seq ?_
        refine p_ret rfl ?_
        refine to_block_ret ?_
        refine to_inv_ret ?_
        refine to_block_ret ?_
        refine t_seq_ret ?_
        have hn : ¬ sameP Ka Kb := fun h => by
          have h1 := h.2 _ hm
          dsimp only at h1
          rw [h1] at hsw
          have h2 : sv = sw := vS_inj hsw
          subst h2
          simp_all
        refine fin_ret () (vs := [_]) (Cs := []) rfl (.tmp rfl .nil) (by rw [@decide_eq_false _ (Classical.propDecidable _) hn]; rfl) trivial ?_
        refine (mapit_done (i := b15)).trans ?_
        exact ent_pick
      · -- t29 False
        refine wo_in (b := false) rfl ?_
        refine wo_pv (pv_move rfl) rfl ?_
        refine wo_in (b := false) rfl ?_
        refine wo_pv (pv_move rfl) rfl ?_
        refine wo_in (b := false) rfl ?_
        refine wo_pv (pv_sneq rfl rfl) rfl ?_
        refine wo_pv (pv_pick_f rfl rfl) rfl ?_
        refine q_seq ?_
        first | refine p_ite rfl rfl (fun h33 => ?_) (fun h33 => ?_) | refine p_cond rfl rfl (fun h33 => ?_) (fun h33 => ?_)
        · -- t33 True
          refine p_seq rfl ?_
          refine p_region rfl ?_
          refine wo_pv (pv_assign rfl) rfl ?_
          refine q_seq ?_
          refine p_ret rfl ?_
          refine to_block_ret ?_
          refine to_inv_ret ?_
          refine to_block_ret ?_
          refine t_seq_ret ?_
          have hn : ¬ sameP Ka Kb := fun h => by
            have h1 := h.2 _ hm
            dsimp only at h1
            rw [h1] at hsw
            have h2 : sv = sw := vS_inj hsw
            subst h2
            simp_all
          refine fin_ret () (vs := [_]) (Cs := []) rfl (.tmp rfl .nil) (by rw [@decide_eq_false _ (Classical.propDecidable _) hn]; rfl) trivial ?_
          refine (mapit_done (i := b15)).trans ?_
          exact ent_pick
        · -- t33 False
          refine p_skip rfl ?_
          refine to_block ?_
          have hb2 : mlook Kb k = some (vS sv) := by
            cases e : mlook Kb k with
            | none => rw [e] at h29; simp at h29
            | some u =>
              rw [e] at hsw
              have h1 : u = vS sw := hsw
              have h2 : sw = sv := by simpa using h33
              rw [h1, h2]
          have hl2 : done.length < Ka.length := by
            have hk1 : k ∈ Ka.map (·.1) := List.mem_map_of_mem (f := fun p : Bs × Value => p.1) hm
            have := nodup_len (l := done ++ [k]) (m := Ka.map (·.1)) (by rw [List.nodup_append]; exact ⟨hlen.2.1, by simp, fun a ha c hc e => by simp only [List.mem_singleton] at hc; subst hc; subst e; exact hk ha⟩) (fun x hx => by rcases List.mem_append.1 hx with h | h; exact hlen.2.2 x h; simp only [List.mem_singleton] at h; subst h; exact hk1)
            rw [List.length_append, List.length_singleton, List.length_map] at this
            omega
          refine to_inv ⟨done ++ [k], fun q hq => ?_⟩ ?_ ⟨rfl, rfl, trivial⟩ ?_
          · rcases List.mem_append.1 hq with hq | hq
            · exact hdone q hq
            · simp only [List.mem_singleton] at hq; subst hq; rw [hb2, hlk]
          · dsimp only; rw [List.length_append, List.length_singleton]; omega
          · exact ent_pick
    · -- t17 False
      have hnone : o16 = none := by cases o16 with
        | none => rfl
        | some p => simp at h17
      subst hnone
      dsimp only [nxD]
      refine p_exit 0 rfl ?_
      refine t_seq_exit ?_
      refine to_inv_exit ?_
      refine to_block_here ?_
      refine t_seq ?_
      refine p_seq rfl ?_
      refine p_region rfl ?_
      refine wo_pv (pv_assign rfl) rfl ?_
      refine q_seq ?_
      refine p_ret rfl ?_
      have hn : sameP Ka Kb := ⟨by omega, fun p hp => by
        rw [hdone p.1 (ho16 p hp)]; exact mlook_of_mem hkeys hp⟩
      refine fin_ret () (vs := [_]) (Cs := []) rfl (.tmp rfl .nil) (by rw [@decide_eq_true _ (Classical.propDecidable _) hn]; rfl) trivial ?_
      refine (mapit_done (i := b15)).trans ?_
      exact ent_pick
/-- A map that is made of a walk over all rows. -/
theorem mput_snoc {m : Ks} {k : Bs} {v : Value} (h : k ∉ m.map (·.1)) : mput m k v = m ++ [(k, v)] := by
  induction m with
  | nil => rfl
  | cons p r ih =>
    simp only [List.map_cons, List.mem_cons, not_or] at h
    simp only [mput, Ne.symm h.1, if_false, ih h.2, List.cons_append]
theorem fromS_nodup {K : Ks} (hn : (K.map (·.1)).Nodup) : ((fromS K []).map (·.1)).Nodup := by
  have h2 : (fromS K []).map (·.1) = keysS K := by rw [fromS_nil, List.map_map]; simp [Function.comp_def]
  rw [h2]; exact (sortB_perm _).nodup_iff.2 hn
theorem fromS_fresh {K : Ks} (hn : (K.map (·.1)).Nodup) {pre r : List (Bs × Value)} {x : Bs × Value} (h : fromS K [] = pre ++ x :: r) : x.1 ∉ pre.map (·.1) := by
  have h1 := fromS_nodup hn
  rw [h, List.map_append, List.nodup_append] at h1
  intro hx
  exact h1.2.2 _ hx _ (by simp) rfl
theorem law7_of_sp (s p : Nat) (J : Jn) (K : Ks) (hn : (K.map (·.1)).Nodup) (hl : K.length ≤ 4398046511104) : Sp Try.prog 32 [.pointer (some ⟨s, 0, none⟩)] [IsS s p J K] (X := Nat) (fun m => .map (some m)) (fun _ => True) (fun m => [MapS m (fromS K []), IsS s p J K]) := by
  refine Sp.body (n := 15) Try.call32 Try.func32 rfl rfl rfl ?_
  refine p_seq rfl ?_
  refine p_region rfl ?_
  refine wo_pv (pv_assign rfl) rfl ?_
  refine q_seq ?_
  refine p_seq rfl ?_
  refine p_region rfl ?_
  refine r_mkmap rfl (fun b6 => ?_)
  refine wo_alloc (zs := [.map none]) ti68 rfl rfl rfl (fun b3 => ?_)
  refine r_store ti68 rfl rfl rfl rfl (by simp; try omega) ?_
  refine q_seq ?_
  refine p_seq rfl ?_
  refine p_seq rfl ?_
  refine p_region rfl ?_
  refine wo_pv (pv_move rfl) rfl ?_
  refine r_callX (store_All_sp s) rfl rfl rfl (fun x8 _ => ?_)
  refine q_seq ?_
  refine p_block 0 rfl ?_
  refine p_rangeFunc (fun pre => [Ce b3 68 [.map (some b6)], MapS b6 pre]) (fun j pre => [Pu False]) rfl (store_From_it x8.1 x8.2 s p J K [] hl) rfl (fun _ => by rfl) rfl ?_ (fun l pre x hok => ?_) ?_ (fun j pre hs => ?_)
  · (refine ent_app ?_; exact ent_pick)
  · -- a round
    obtain ⟨k, v⟩ := x
    obtain ⟨r, hr⟩ := hok
    have hfr := fromS_fresh hn hr
    refine p_seq rfl ?_
    refine p_region rfl ?_
    refine wo_pv (pv_assign rfl) rfl ?_
    refine q_seq ?_
    refine p_region rfl ?_
    refine wo_pv (pv_assign rfl) rfl ?_
    refine q_asg ?_
    refine p_block 1 rfl ?_
    refine p_region rfl ?_
    refine r_load Try.underlying68 rfl rfl rfl rfl ?_
    refine wo_pv (pv_move rfl) rfl ?_
    refine wo_pv (pv_move rfl) rfl ?_
    refine r_mapUpdate Try.underlying68 Try.underlying9 rfl rfl rfl ?_
    refine wo_nil ?_
    refine to_block ?_
    refine to_round ?_
    rw [← mput_snoc hfr]
    exact ent_pick
  · -- behind
    skip
    refine to_block ?_
    refine t_seq ?_
    refine p_seq rfl ?_
    refine p_region rfl ?_
    refine r_load Try.underlying68 rfl rfl rfl rfl ?_
    refine wo_pv (pv_assign rfl) rfl ?_
    refine q_seq ?_
    refine p_ret rfl ?_
    refine fin_ret b6 (vs := [_]) (Cs := []) rfl (.tmp rfl .nil) rfl trivial ?_
    exact ent_pick
  · -- stopped
    exact wc_no (fun s => by obtain ⟨_, _, _, _, a, _⟩ := s; exact a)
theorem doOne_allS {K : Ks} (h : AllS K) (r : Rw) : AllS (doOne K r) := by
  intro p hp
  unfold doOne at hp
  split at hp
  · have : (p : Bs × Value) ∈ K := by
      clear h
      induction K with
      | nil => simp [mdel] at hp
      | cons q l ih =>
        simp only [mdel] at hp
        split at hp
        · simp [hp]
        · rcases List.mem_cons.1 hp with rfl | hp
          · simp
          · simp [ih hp]
    exact h p this
  · have : p ∈ K ∨ p = (r.key, vS r.val) := by
      clear h
      induction K with
      | nil => simp [mput] at hp; exact .inr hp
      | cons q l ih =>
        simp only [mput] at hp
        split at hp
        · rcases List.mem_cons.1 hp with rfl | hp
          · exact .inr rfl
          · exact .inl (by simp [hp])
        · rcases List.mem_cons.1 hp with rfl | hp
          · exact .inl (by simp)
          · rcases ih hp with h | h
            · exact .inl (by simp [h])
            · exact .inr h
    rcases this with h2 | rfl
    · exact h p h2
    · exact ⟨_, rfl⟩
theorem doR_allS (l : List Rw) : ∀ {K : Ks}, AllS K → AllS (doR K l) := by
  induction l with
  | nil => intro K h; exact h
  | cons r l ih => intro K h; exact ih (doOne_allS h r)
theorem doOne_nodup {K : Ks} (h : (K.map (·.1)).Nodup) (r : Rw) : ((doOne K r).map (·.1)).Nodup := by
  unfold doOne
  split
  · exact mdel_nodup h _
  · exact mput_nodup h _ _
theorem doR_nodup (l : List Rw) : ∀ {K : Ks}, (K.map (·.1)).Nodup → ((doR K l).map (·.1)).Nodup := by
  induction l with
  | nil => intro K h; exact h
  | cons r l ih => intro K h; exact ih (doOne_nodup h r)
theorem mput_len' (ks : Ks) (k : Bs) (v : Value) : (mput ks k v).length ≤ ks.length + 1 := by
  have := congrArg List.length (mput_keys ks k v)
  split at this <;> simp at this <;> omega
theorem doR_len (l : List Rw) : ∀ (K : Ks), (doR K l).length ≤ K.length + l.length := by
  induction l with
  | nil => intro K; simp [doR]
  | cons r l ih =>
    intro K
    have h1 := ih (doOne K r)
    have h2 : (doOne K r).length ≤ K.length + 1 := by
      unfold doOne
      split
      · have := (mdel_keys K r.key).length_le
        simp at this; omega
      · exact mput_len' _ _ _
    have : doR K (r :: l) = doR (doOne K r) l := rfl
    rw [this, List.length_cons]; omega
theorem openK_snoc (ts : List Bs) (t : Bs) : openK (ts ++ [t]) = doR (openK ts) ((readR t).getD []) := by simp [openK, List.foldl_append]
theorem openK_ok (ts : List Bs) : AllS (openK ts) ∧ ((openK ts).map (·.1)).Nodup := by
  have key : ∀ (ts : List Bs) (K : Ks), AllS K → (K.map (·.1)).Nodup → AllS (ts.foldl (fun ks t => doR ks ((readR t).getD [])) K) ∧ ((ts.foldl (fun ks t => doR ks ((readR t).getD [])) K).map (·.1)).Nodup := by
    intro ts
    induction ts with
    | nil => intro K h1 h2; exact ⟨h1, h2⟩
    | cons t ts ih => intro K h1 h2; exact ih _ (doR_allS _ h1) (doR_nodup _ h2)
  exact key ts [] (by intro p hp; simp at hp) (by simp)
theorem fromS_allS {K : Ks} (h : AllS K) : AllS (fromS K []) := by
  intro p hp
  exact allS_look h (fromS_mem hp).2.2
theorem same_refl {K : Ks} (hn : (K.map (·.1)).Nodup) : sameP (fromS K []) (fromS K []) := ⟨rfl, fun p hp => mlook_of_mem (fromS_nodup hn) hp⟩
end Go.Proofs.Ytimafngkifakfaa
