/- Texts of this proof, put together: MRef, SRefD, SRefS, SRefP, SRefT, PTurn, SRefT2, SRefT3. -/
import Derived.Test.YtimafngkifakfaaQB1
import Derived.Test.YtimafngkifakfaaQB7
import Derived.Test.YtimafngkifakfaaQA4
import Derived.Test.YtimafngkifakfaaQB6
set_option linter.unusedVariables false
set_option linter.unusedSimpArgs false
/- The document's own disk, beside the program's: plain laws. -/
namespace Go.Proofs.Ytimafngkifakfaa
structure Od where
  secs : List Bs
  left : Int
  keep : Nat
  down : Bool
structure Od.Ok (o : Od) : Prop where
  secs : ∀ s ∈ o.secs, s.length = 32
  keep : o.keep ≤ 32
  many : o.secs.length ≤ 2000
  left : -1 ≤ o.left ∧ o.left ≤ 1000
def Od.write (o : Od) (i : Int) (s : Bs) : Od × Bool :=
  if o.down = true ∨ i < 0 ∨ (o.secs.length : Int) ≤ i ∨ 32 < s.length then (o, false)
  else if o.left = 0 then ({ o with secs := o.secs.set i.toNat ((wholeS s).take o.keep ++ (o.secs.getD i.toNat []).drop o.keep), left := -1, down := true }, false)
  else ({ o with secs := o.secs.set i.toNat (wholeS s), left := if 0 < o.left then o.left - 1 else o.left }, true)
def Od.writes : Od → Nat → List Bs → Od × Bool
  | o, _, [] => (o, true)
  | o, i, p :: r => match o.write i p with
    | (o', true) => o'.writes (i + 1) r
    | (o', false) => (o', false)
def scanO (o : Od) : List Bs × Nat := scanS o.secs 0 [] [] 0
def commitO (o : Od) (s : Bs) : Od × Bool :=
  if (o.secs.length : Int) - (scanO o).2 < (piecesS s).length then (o, false) else o.writes (scanO o).2 (piecesS s)
theorem set_ok {ss : List Bs} (h : ∀ s ∈ ss, s.length = 32) {i : Nat} {x : Bs} (hx : x.length = 32) : ∀ s ∈ ss.set i x, s.length = 32 := by
  intro s hs
  rcases List.mem_or_eq_of_mem_set hs with h1 | h1
  · exact h s h1
  · rw [h1]; exact hx
theorem Od.write_ok {o : Od} (ok : o.Ok) (i : Int) (s : Bs) : (o.write i s).1.Ok := by
  unfold Od.write
  split
  · exact ok
  · rename_i h
    have hi : i.toNat < o.secs.length := by omega
    have hs : s.length ≤ 32 := by omega
    have hw := wholeS_len hs
    split
    · refine ⟨set_ok ok.secs ?_, ok.keep, by simpa using ok.many, by dsimp only; omega⟩
      have h1 : o.secs.getD i.toNat [] = o.secs[i.toNat] := by simp [hi]
      have h2 := ok.secs _ (List.getElem_mem hi)
      have := ok.keep
      rw [List.length_append, List.length_take, List.length_drop, h1, h2, hw]; omega
    · refine ⟨set_ok ok.secs hw, ok.keep, by simpa using ok.many, ?_⟩
      have := ok.left
      dsimp only
      split <;> omega
theorem Od.writes_ok : ∀ (ps : List Bs) {o : Od} (ok : o.Ok) (i : Nat), (o.writes i ps).1.Ok := by
  intro ps
  induction ps with
  | nil => intro o ok i; exact ok
  | cons p r ih =>
    intro o ok i
    have h := Od.write_ok ok i p
    rw [Od.writes]
    cases hw : o.write i p with
    | mk o' b =>
      rw [hw] at h
      cases b
      · exact h
      · exact ih h (i + 1)
theorem Od.writes_len : ∀ (ps : List Bs) (o : Od) (i : Nat), (o.writes i ps).1.secs.length = o.secs.length := by
  have h1 : ∀ (o : Od) (i : Int) (s : Bs), (o.write i s).1.secs.length = o.secs.length := by
    intro o i s
    unfold Od.write
    split
    · rfl
    · split <;> simp
  intro ps
  induction ps with
  | nil => intro o i; rfl
  | cons p r ih =>
    intro o i
    rw [Od.writes]
    have h := h1 o i p
    cases hw : o.write i p with
    | mk o' b =>
      rw [hw] at h
      cases b
      · exact h
      · rw [← h]; exact ih o' (i + 1)
/-- The two disks are alike. -/
structure Rel (D : Dk) (o : Od) : Prop where
  secs : o.secs = D.secs
  down : o.down = D.down
  armed : D.armed = true → o.left = D.left ∧ o.keep = D.keep ∧ 0 ≤ D.left
  calm : D.armed = false → o.left = -1
theorem write_rel {D : Dk} {o : Od} (h : Rel D o) (ok : o.Ok) (i : Int) (s : Bs) : (o.write i s).2 = (D.write i s).2 ∧ Rel (D.write i s).1 (o.write i s).1 := by
  obtain ⟨h1, h2, h3, h4⟩ := h
  have hl := ok.left
  unfold Od.write Dk.write
  rw [h1, h2]
  by_cases hc : D.down = true ∨ i < 0 ∨ (D.secs.length : Int) ≤ i ∨ 32 < s.length
  · rw [if_pos hc, if_pos hc]; exact ⟨rfl, h1, h2, h3, h4⟩
  · rw [if_neg hc, if_neg hc]
    by_cases ha : D.armed = true
    · obtain ⟨e1, e2, e3⟩ := h3 ha
      by_cases hz : D.left = 0
      · rw [if_pos (show o.left = 0 by omega), if_pos (show D.armed = true ∧ D.left = 0 from ⟨ha, hz⟩), e2]
        exact ⟨rfl, rfl, rfl, (fun e => by cases e), fun _ => rfl⟩
      · rw [if_neg (show ¬ o.left = 0 by omega), if_neg (show ¬ (D.armed = true ∧ D.left = 0) from fun e => hz e.2)]
        refine ⟨rfl, rfl, rfl, fun _ => ?_, fun e => ?_⟩
        · dsimp only; rw [if_pos (by omega)]; exact ⟨by omega, e2, by omega⟩
        · have e' : D.armed = false := e
          rw [ha] at e'; cases e'
    · have hf := h4 (by simpa using ha)
      rw [if_neg (show ¬ o.left = 0 by omega), if_neg (show ¬ (D.armed = true ∧ D.left = 0) from fun e => ha e.1)]
      refine ⟨rfl, rfl, rfl, fun e => absurd e ha, fun _ => ?_⟩
      dsimp only
      rw [if_neg (by omega)]; exact hf
theorem writes_rel : ∀ (ps : List Bs) {D : Dk} {o : Od} (h : Rel D o) (ok : o.Ok) (i : Nat), (o.writes i ps).2 = (D.writes i ps).2 ∧ Rel (D.writes i ps).1 (o.writes i ps).1 := by
  intro ps
  induction ps with
  | nil => intro D o h ok i; exact ⟨rfl, h⟩
  | cons p r ih =>
    intro D o h ok i
    have hr := write_rel h ok i p
    have hok := Od.write_ok ok i p
    rw [Od.writes, Dk.writes]
    cases hw : o.write i p with
    | mk o' b =>
    cases hv : D.write i p with
    | mk D' b' =>
      rw [hw, hv] at hr
      rw [hw] at hok
      obtain ⟨e, hr⟩ := hr
      dsimp only at e hr hok
      subst e
      cases b
      · exact ⟨rfl, hr⟩
      · exact ih hr hok (i + 1)
end Go.Proofs.Ytimafngkifakfaa

/- The document's own disk: walks. -/
set_option maxRecDepth 100000
namespace Go.Proofs.Ytimafngkifakfaa
def IsO (p : Nat) (o : Od) : HP := Ex fun a : Option Addr => Ex fun c : Nat => Al [Pu o.Ok, Ce p 57 [.slice a o.secs.length c, vI o.left, vI o.keep, vB o.down], Row 9 1 (.slice a o.secs.length c) o.secs.length (o.secs.map vS)]
theorem fold_isO {p : Nat} (o : Od) {v0 v1 v2 v3 : Value} {n e sz T : Nat} {xs : List Value} {Hs R1 Rs : List HP} [h1 : OwnC p T [v0, v1, v2, v3] Hs R1] [h2 : RowC v0 e sz n xs R1 Rs] (ok : o.Ok) (hT : T = 57) (he : e = 9 ∧ sz = 1)
    (h0 : ∃ a c, v0 = .slice a o.secs.length c) (e1 : v1 = vI o.left) (e2 : v2 = vI o.keep) (e3 : v3 = vB o.down) (hn : n = o.secs.length) (hx : xs = o.secs.map vS) : Ent Hs (IsO p o :: Rs) := by
  obtain ⟨a, c, rfl⟩ := h0
  obtain ⟨rfl, rfl⟩ := he
  subst hT; subst e1; subst e2; subst e3; subst hn; subst hx
  refine ent_ex a ?_
  refine ent_ex c (ent_al (ent_pu ok ?_))
  exact ent_step (ent_pick1 h1.get) (ent_pick1 h2.get)
def newO (n : Nat) : Od := ⟨List.replicate n (wholeS []), -1, 0, false⟩
theorem ref5_NewDisk_sp (n : Nat) (h1 : 1 ≤ n) (h2 : n ≤ 2000) : Sp Try.prog 20 [vI n] [] (X := Nat) (fun p => .pointer (some ⟨p, 0, none⟩)) (fun _ => True) (fun p => [IsO p (newO n)]) := by
  refine Sp.body (n := 24) Try.call20 Try.func20 rfl rfl rfl ?_
  refine p_seq rfl ?_
  refine p_region rfl ?_
  refine wo_pv (pv_assign rfl) rfl ?_
  refine q_seq ?_
  refine p_seq rfl ?_
  refine p_region rfl ?_
  refine wo_pv (pv_buildS (vs := [.slice none 0 0, _, .int .i64 0, .bool false]) Try.underlying57 ti57 rfl rfl rfl rfl rfl) rfl ?_
  refine wo_box (vs := [_, _, _, _]) rfl rfl rfl (fun b5 => ?_)
  refine wo_pv (pv_assign rfl) rfl ?_
  refine q_seq ?_
  refine p_seq rfl ?_
  refine p_seq rfl ?_
  refine p_region rfl ?_
  refine wo_pv (pv_move rfl) rfl ?_
  refine wo_pv (pv_call_max rfl rfl) rfl ?_
  refine wo_pv (pv_call_min rfl rfl) rfl ?_
  refine wo_pv (pv_move rfl) rfl ?_
  refine q_seq ?_
  refine p_block 0 rfl ?_
  refine p_loop (fun (i : { x : (Option Addr × Nat) × Nat // x.2 ≤ n }) => [(3, .pointer (some ⟨b5, 0, none⟩)), (8, vI n), (9, vI i.1.2)]) (fun (i : { x : (Option Addr × Nat) × Nat // x.2 ≤ n }) => [Row 9 1 (.slice i.1.1.1 i.1.2 i.1.1.2) i.1.2 ((List.replicate i.1.2 (wholeS [])).map vS), Ce b5 57 [.slice i.1.1.1 i.1.2 i.1.1.2, vI (-1), vI 0, vB false]]) (fun (i : { x : (Option Addr × Nat) × Nat // x.2 ≤ n }) => n - i.1.2) rfl (⟨((none, 0), 0), Nat.zero_le _⟩) ?_ ?_ (fun i => ?_)
  · exact ⟨rfl, vI_eq (by omega), rfl, trivial⟩
  · -- H at start
    exact ent_step row_nil ent_pick
  obtain ⟨⟨⟨a, c⟩, j⟩, hj⟩ := i
  dsimp only at hj
  try dsimp only
  refine p_seq rfl ?_
  refine p_region rfl ?_
  refine wo_pv (pv_lss rfl rfl) rfl ?_
  refine q_seq ?_
  refine p_seq rfl ?_
  first | refine p_ite rfl rfl (fun h10 => ?_) (fun h10 => ?_) | refine p_cond rfl rfl (fun h10 => ?_) (fun h10 => ?_)
  · -- t10 True
    refine p_skip rfl ?_
    refine t_seq ?_
    refine p_seq rfl ?_
    refine p_block 1 rfl ?_
    refine d_draw rfl rfl rfl [] ?_
    refine d_first 0 rfl rfl rfl (by kernel_rfl) (by kernel_rfl) (tl_pv (pv_move rfl)) ?_
    refine d_first 1 rfl rfl rfl (by kernel_rfl) (by kernel_rfl) (tl_pv (pv_move rfl)) ?_
    refine d_first 2 rfl rfl rfl (by kernel_rfl) (by kernel_rfl) (tl_pv (by first | exact pv_nilCheck_p rfl | exact pv_nilCheck_f rfl)) ?_
    refine d_first 3 rfl rfl rfl (by kernel_rfl) (by kernel_rfl) (tl_pv (pv_fieldAddrk Try.underlying57 rfl ti46 rfl rfl (k := 0) rfl (by first | exact Nat.zero_add _ | exact Nat.add_zero _ | exact rfl))) ?_
    refine d_next2 4 5 (by kernel_rfl) rfl rfl ?_ ?_
    · -- op 4
      refine an_load Try.underlying46 rfl rfl rfl rfl ?_
      refine d_next 5 (by kernel_rfl) rfl ?_
      refine an_makeSlice (m := 32) (z := .int .u8 0) Try.underlying44 ti5 rfl rfl rfl rfl rfl (by omega) (by rw [show Try.t5.bytes = 1 from rfl]; omega) rfl (fun b16 => ?_)
      refine d_next 6 (by kernel_rfl) rfl ?_
      refine an_b2s (l := wholeS []) Try.underlying44 Try.underlying9 Try.underlying5 rfl (by rfl) (by simp) rfl ?_
      refine d_next 7 (by kernel_rfl) rfl ?_
      refine an_buildSliceL [_] (cs := [_]) Try.underlying46 ti9 rfl rfl rfl rfl rfl rfl rfl rfl (fun b18 => ?_)
      refine d_next 8 (by kernel_rfl) rfl ?_
      refine an_append1 (sz := 1) (bytes := 16) Try.underlying46 ti9 rfl rfl rfl rfl rfl rfl rfl (by rfl) (by rfl) (by omega) (by simp only [maxLen]; omega) rfl (fun a19 c19 => ?_)
      refine d_first 9 rfl rfl rfl (by kernel_rfl) (by kernel_rfl) (tl_pv (by first | exact pv_nilCheck_p rfl | exact pv_nilCheck_f rfl)) ?_
      refine d_first 10 rfl rfl rfl (by kernel_rfl) (by kernel_rfl) (tl_pv (pv_fieldAddrk Try.underlying57 rfl ti46 rfl rfl (k := 0) rfl (by first | exact Nat.zero_add _ | exact Nat.add_zero _ | exact rfl))) ?_
      refine d_next 11 (by kernel_rfl) rfl ?_
      refine an_store ti46 rfl rfl rfl rfl (by simp; try omega) ?_
      refine d_done (by kernel_rfl) ?_
      refine to_block ?_
      refine t_seq ?_
      refine p_region rfl ?_
      refine wo_pv (pv_add rfl rfl (by omega)) rfl ?_
      refine wo_pv (pv_move rfl) rfl ?_
      refine wo_nil ?_
      refine to_inv ⟨((a19, c19), j + 1), by dsimp only; omega⟩ (by dsimp only; omega) ⟨rfl, rfl, rfl, trivial⟩ ?_
      dsimp only
      exact ent_step (row_norm (v := .slice a19 (j + 1) c19) (by rfl) (by rw [List.replicate_succ', List.map_append]; rfl)) ent_pick
    · -- op 5
      refine an_makeSlice (m := 32) (z := .int .u8 0) Try.underlying44 ti5 rfl rfl rfl rfl rfl (by omega) (by rw [show Try.t5.bytes = 1 from rfl]; omega) rfl (fun b16 => ?_)
      refine d_next2 4 6 (by kernel_rfl) rfl rfl ?_ ?_
      · -- op 4
        refine an_load Try.underlying46 rfl rfl rfl rfl ?_
        refine d_next 6 (by kernel_rfl) rfl ?_
        refine an_b2s (l := wholeS []) Try.underlying44 Try.underlying9 Try.underlying5 rfl (by rfl) (by simp) rfl ?_
        refine d_next 7 (by kernel_rfl) rfl ?_
        refine an_buildSliceL [_] (cs := [_]) Try.underlying46 ti9 rfl rfl rfl rfl rfl rfl rfl rfl (fun b18 => ?_)
        refine d_next 8 (by kernel_rfl) rfl ?_
        refine an_append1 (sz := 1) (bytes := 16) Try.underlying46 ti9 rfl rfl rfl rfl rfl rfl rfl (by rfl) (by rfl) (by omega) (by simp only [maxLen]; omega) rfl (fun a19 c19 => ?_)
        refine d_first 9 rfl rfl rfl (by kernel_rfl) (by kernel_rfl) (tl_pv (by first | exact pv_nilCheck_p rfl | exact pv_nilCheck_f rfl)) ?_
        refine d_first 10 rfl rfl rfl (by kernel_rfl) (by kernel_rfl) (tl_pv (pv_fieldAddrk Try.underlying57 rfl ti46 rfl rfl (k := 0) rfl (by first | exact Nat.zero_add _ | exact Nat.add_zero _ | exact rfl))) ?_
        refine d_next 11 (by kernel_rfl) rfl ?_
        refine an_store ti46 rfl rfl rfl rfl (by simp; try omega) ?_
        refine d_done (by kernel_rfl) ?_
        refine to_block ?_
        refine t_seq ?_
        refine p_region rfl ?_
        refine wo_pv (pv_add rfl rfl (by omega)) rfl ?_
        refine wo_pv (pv_move rfl) rfl ?_
        refine wo_nil ?_
        refine to_inv ⟨((a19, c19), j + 1), by dsimp only; omega⟩ (by dsimp only; omega) ⟨rfl, rfl, rfl, trivial⟩ ?_
        dsimp only
        exact ent_step (row_norm (v := .slice a19 (j + 1) c19) (by rfl) (by rw [List.replicate_succ', List.map_append]; rfl)) ent_pick
      · -- op 6
        refine an_b2s (l := wholeS []) Try.underlying44 Try.underlying9 Try.underlying5 rfl (by rfl) (by simp) rfl ?_
        refine d_next2 4 7 (by kernel_rfl) rfl rfl ?_ ?_
        · -- op 4
          refine an_load Try.underlying46 rfl rfl rfl rfl ?_
          refine d_next 7 (by kernel_rfl) rfl ?_
          refine an_buildSliceL [_] (cs := [_]) Try.underlying46 ti9 rfl rfl rfl rfl rfl rfl rfl rfl (fun b18 => ?_)
          refine d_next 8 (by kernel_rfl) rfl ?_
          refine an_append1 (sz := 1) (bytes := 16) Try.underlying46 ti9 rfl rfl rfl rfl rfl rfl rfl (by rfl) (by rfl) (by omega) (by simp only [maxLen]; omega) rfl (fun a19 c19 => ?_)
          refine d_first 9 rfl rfl rfl (by kernel_rfl) (by kernel_rfl) (tl_pv (by first | exact pv_nilCheck_p rfl | exact pv_nilCheck_f rfl)) ?_
          refine d_first 10 rfl rfl rfl (by kernel_rfl) (by kernel_rfl) (tl_pv (pv_fieldAddrk Try.underlying57 rfl ti46 rfl rfl (k := 0) rfl (by first | exact Nat.zero_add _ | exact Nat.add_zero _ | exact rfl))) ?_
          refine d_next 11 (by kernel_rfl) rfl ?_
          refine an_store ti46 rfl rfl rfl rfl (by simp; try omega) ?_
          refine d_done (by kernel_rfl) ?_
          refine to_block ?_
          refine t_seq ?_
          refine p_region rfl ?_
          refine wo_pv (pv_add rfl rfl (by omega)) rfl ?_
          refine wo_pv (pv_move rfl) rfl ?_
          refine wo_nil ?_
          refine to_inv ⟨((a19, c19), j + 1), by dsimp only; omega⟩ (by dsimp only; omega) ⟨rfl, rfl, rfl, trivial⟩ ?_
          dsimp only
          exact ent_step (row_norm (v := .slice a19 (j + 1) c19) (by rfl) (by rw [List.replicate_succ', List.map_append]; rfl)) ent_pick
        · -- op 7
          refine an_buildSliceL [_] (cs := [_]) Try.underlying46 ti9 rfl rfl rfl rfl rfl rfl rfl rfl (fun b18 => ?_)
          refine d_next 4 (by kernel_rfl) rfl ?_
          refine an_load Try.underlying46 rfl rfl rfl rfl ?_
          refine d_next 8 (by kernel_rfl) rfl ?_
          refine an_append1 (sz := 1) (bytes := 16) Try.underlying46 ti9 rfl rfl rfl rfl rfl rfl rfl (by rfl) (by rfl) (by omega) (by simp only [maxLen]; omega) rfl (fun a19 c19 => ?_)
          refine d_first 9 rfl rfl rfl (by kernel_rfl) (by kernel_rfl) (tl_pv (by first | exact pv_nilCheck_p rfl | exact pv_nilCheck_f rfl)) ?_
          refine d_first 10 rfl rfl rfl (by kernel_rfl) (by kernel_rfl) (tl_pv (pv_fieldAddrk Try.underlying57 rfl ti46 rfl rfl (k := 0) rfl (by first | exact Nat.zero_add _ | exact Nat.add_zero _ | exact rfl))) ?_
          refine d_next 11 (by kernel_rfl) rfl ?_
          refine an_store ti46 rfl rfl rfl rfl (by simp; try omega) ?_
          refine d_done (by kernel_rfl) ?_
          refine to_block ?_
          refine t_seq ?_
          refine p_region rfl ?_
          refine wo_pv (pv_add rfl rfl (by omega)) rfl ?_
          refine wo_pv (pv_move rfl) rfl ?_
          refine wo_nil ?_
          refine to_inv ⟨((a19, c19), j + 1), by dsimp only; omega⟩ (by dsimp only; omega) ⟨rfl, rfl, rfl, trivial⟩ ?_
          dsimp only
          exact ent_step (row_norm (v := .slice a19 (j + 1) c19) (by rfl) (by rw [List.replicate_succ', List.map_append]; rfl)) ent_pick
  · -- t10 False
    refine p_exit 0 rfl ?_
    refine t_seq_exit ?_
    refine to_inv_exit ?_
    refine to_block_here ?_
    refine t_seq ?_
    refine p_seq rfl ?_
    refine p_region rfl ?_
    refine wo_pv (pv_move rfl) rfl ?_
    refine wo_pv (pv_assign rfl) rfl ?_
    refine q_seq ?_
    refine p_ret rfl ?_
    have hjn : j = n := by omega
    subst hjn
    refine fin_ret b5 (vs := [_]) (Cs := []) rfl (.tmp rfl .nil) rfl trivial ?_
    refine fold_isO (newO j) ⟨fun s hs => ?_, by simp [newO], by simp [newO]; omega, by simp [newO]⟩ (by rfl) (by exact ⟨rfl, rfl⟩) (by exact ⟨a, c, by simp [newO]⟩) (by rfl) (by rfl) (by rfl) (by simp [newO]) (by rfl)
    have h1 : s = wholeS [] := (List.mem_replicate.1 hs).2
    rw [h1]; rfl
theorem ref5_Write_sp (p : Nat) (o : Od) (i : Int) (s : Bs) (hs : s.length ≤ 9223372036854775807) : Sp1 Try.prog 46 [.pointer (some ⟨p, 0, none⟩), vI i, vS s] [IsO p o] (vB (o.write i s).2) [IsO p (o.write i s).1] := by
  refine Sp.body (n := 98) Try.call46 Try.func46 rfl rfl rfl ?_
  refine wc_exi fun a => wc_exi fun c => wc_al (wc_pu fun ok => ?_)
  have hsecs := ok.secs
  have hkeep := ok.keep
  have hmany := ok.many
  have hleft := ok.left
  have hwok := Od.write_ok ok i s
  refine p_seq rfl ?_
  refine p_region rfl ?_
  refine wo_pv (pv_assign rfl) rfl ?_
  refine q_seq ?_
  refine p_seq rfl ?_
  refine p_seq rfl ?_
  refine p_region rfl ?_
  refine wo_pv (pv_move rfl) rfl ?_
  refine wo_pv (by first | exact pv_nilCheck_p rfl | exact pv_nilCheck_f rfl) rfl ?_
  refine wo_pv (pv_fieldAddrk Try.underlying57 rfl ti4 rfl rfl (k := 3) rfl (by first | exact Nat.zero_add _ | exact Nat.add_zero _ | exact rfl)) rfl ?_
  refine r_load Try.underlying4 rfl rfl rfl rfl ?_
  refine wo_pv (pv_move rfl) rfl ?_
  first | refine wo_gite (j := 4) rfl rfl (fun h13 => ?_) (fun h13 => ?_) | refine wo_gsplit (j := 4) rfl rfl (fun h13 => ?_) (fun h13 => ?_)
  · -- t13 True
    refine wo_out (b := true) rfl rfl rfl ?_
    refine wo_out (b := true) rfl rfl rfl ?_
    refine wo_pv (pv_pick_t rfl rfl) rfl ?_
    refine wo_pv (pv_move rfl) rfl ?_
    refine wo_out (b := true) rfl rfl rfl ?_
    refine wo_out (b := true) rfl rfl rfl ?_
    refine wo_out (b := true) rfl rfl rfl ?_
    refine wo_out (b := true) rfl rfl rfl ?_
    refine wo_out (b := true) rfl rfl rfl ?_
    refine wo_out (b := true) rfl rfl rfl ?_
    refine wo_out (b := true) rfl rfl rfl ?_
    refine wo_pv (pv_pick_t rfl rfl) rfl ?_
    refine wo_pv (pv_move rfl) rfl ?_
    refine wo_out (b := true) rfl rfl rfl ?_
    refine wo_out (b := true) rfl rfl rfl ?_
    refine wo_out (b := true) rfl rfl rfl ?_
    refine wo_pv (pv_pick_t rfl rfl) rfl ?_
    refine q_seq ?_
    refine p_true rfl rfl ?_
    refine p_seq rfl ?_
    refine p_region rfl ?_
    refine wo_pv (pv_assign rfl) rfl ?_
    refine q_seq ?_
    refine p_ret rfl ?_
    refine t_seq_ret ?_
    have hn : o.write i s = (o, false) := by
      rw [Od.write, if_pos]
      first | exact .inl (by assumption) | exact .inr (.inl (by assumption)) | exact .inr (.inr (.inl (by omega))) | exact .inr (.inr (.inr (by omega)))
    rw [hn]
    refine fin_ret () (vs := [_]) (Cs := []) rfl (.tmp rfl .nil) rfl trivial ?_
    exact fold_isO o ok (by rfl) (by exact ⟨rfl, rfl⟩) (by exact ⟨_, _, rfl⟩) (by rfl) (by rfl) (by rfl) (by rfl) (by rfl)
  · -- t13 False
    refine wo_in (b := false) rfl ?_
    refine wo_pv (pv_move rfl) rfl ?_
    refine wo_in (b := false) rfl ?_
    refine wo_pv (pv_lss rfl rfl) rfl ?_
    refine wo_pv (pv_pick_f rfl rfl) rfl ?_
    refine wo_pv (pv_move rfl) rfl ?_
    first | refine wo_gite (j := 8) rfl rfl (fun h17 => ?_) (fun h17 => ?_) | refine wo_gsplit (j := 8) rfl rfl (fun h17 => ?_) (fun h17 => ?_)
    · -- t17 True
      refine wo_out (b := true) rfl rfl rfl ?_
      refine wo_out (b := true) rfl rfl rfl ?_
      refine wo_out (b := true) rfl rfl rfl ?_
      refine wo_out (b := true) rfl rfl rfl ?_
      refine wo_out (b := true) rfl rfl rfl ?_
      refine wo_out (b := true) rfl rfl rfl ?_
      refine wo_out (b := true) rfl rfl rfl ?_
      refine wo_pv (pv_pick_t rfl rfl) rfl ?_
      refine wo_pv (pv_move rfl) rfl ?_
      refine wo_out (b := true) rfl rfl rfl ?_
      refine wo_out (b := true) rfl rfl rfl ?_
      refine wo_out (b := true) rfl rfl rfl ?_
      refine wo_pv (pv_pick_t rfl rfl) rfl ?_
      refine q_seq ?_
      refine p_true rfl rfl ?_
      refine p_seq rfl ?_
      refine p_region rfl ?_
      refine wo_pv (pv_assign rfl) rfl ?_
      refine q_seq ?_
      refine p_ret rfl ?_
      refine t_seq_ret ?_
      have hn : o.write i s = (o, false) := by
        rw [Od.write, if_pos]
        first | exact .inl (by assumption) | exact .inr (.inl (by assumption)) | exact .inr (.inr (.inl (by omega))) | exact .inr (.inr (.inr (by omega)))
      rw [hn]
      refine fin_ret () (vs := [_]) (Cs := []) rfl (.tmp rfl .nil) rfl trivial ?_
      exact fold_isO o ok (by rfl) (by exact ⟨rfl, rfl⟩) (by exact ⟨_, _, rfl⟩) (by rfl) (by rfl) (by rfl) (by rfl) (by rfl)
    · -- t17 False
      refine wo_in (b := false) rfl ?_
      refine wo_pv (pv_move rfl) rfl ?_
      refine wo_in (b := false) rfl ?_
      refine wo_pv (pv_move rfl) rfl ?_
      refine wo_in (b := false) rfl ?_
      refine wo_pv (by first | exact pv_nilCheck_p rfl | exact pv_nilCheck_f rfl) rfl ?_
      refine wo_in (b := false) rfl ?_
      refine wo_pv (pv_fieldAddrk Try.underlying57 rfl ti46 rfl rfl (k := 0) rfl (by first | exact Nat.zero_add _ | exact Nat.add_zero _ | exact rfl)) rfl ?_
      refine wo_in (b := false) rfl ?_
      refine r_load Try.underlying46 rfl rfl rfl rfl ?_
      refine wo_in (b := false) rfl ?_
      refine wo_pv (pv_call_len_sl Try.underlying46 rfl) rfl ?_
      refine wo_in (b := false) rfl ?_
      refine wo_pv (pv_geq rfl rfl) rfl ?_
      refine wo_pv (pv_pick_f rfl rfl) rfl ?_
      refine wo_pv (pv_move rfl) rfl ?_
      first | refine wo_gite (j := 17) rfl rfl (fun h26 => ?_) (fun h26 => ?_) | refine wo_gsplit (j := 17) rfl rfl (fun h26 => ?_) (fun h26 => ?_)
      · -- t26 True
        refine wo_out (b := true) rfl rfl rfl ?_
        refine wo_out (b := true) rfl rfl rfl ?_
        refine wo_out (b := true) rfl rfl rfl ?_
        refine wo_pv (pv_pick_t rfl rfl) rfl ?_
        refine q_seq ?_
        refine p_true rfl rfl ?_
        refine p_seq rfl ?_
        refine p_region rfl ?_
        refine wo_pv (pv_assign rfl) rfl ?_
        refine q_seq ?_
        refine p_ret rfl ?_
        refine t_seq_ret ?_
        have hn : o.write i s = (o, false) := by
          rw [Od.write, if_pos]
          first | exact .inl (by assumption) | exact .inr (.inl (by assumption)) | exact .inr (.inr (.inl (by omega))) | exact .inr (.inr (.inr (by omega)))
        rw [hn]
        refine fin_ret () (vs := [_]) (Cs := []) rfl (.tmp rfl .nil) rfl trivial ?_
        exact fold_isO o ok (by rfl) (by exact ⟨rfl, rfl⟩) (by exact ⟨_, _, rfl⟩) (by rfl) (by rfl) (by rfl) (by rfl) (by rfl)
      · -- t26 False
        refine wo_in (b := false) rfl ?_
        refine wo_pv (pv_move rfl) rfl ?_
        refine wo_in (b := false) rfl ?_
        refine wo_pv (pv_call_len_s Try.underlying9 rfl) rfl ?_
        refine wo_in (b := false) rfl ?_
        refine wo_pv (pv_gtr rfl rfl) rfl ?_
        refine wo_pv (pv_pick_f rfl rfl) rfl ?_
        refine q_seq ?_
        first | refine p_ite rfl rfl (fun h30 => ?_) (fun h30 => ?_) | refine p_cond rfl rfl (fun h30 => ?_) (fun h30 => ?_)
        · -- t30 True
          refine p_seq rfl ?_
          refine p_region rfl ?_
          refine wo_pv (pv_assign rfl) rfl ?_
          refine q_seq ?_
          refine p_ret rfl ?_
          refine t_seq_ret ?_
          have hn : o.write i s = (o, false) := by
            rw [Od.write, if_pos]
            first | exact .inl (by assumption) | exact .inr (.inl (by assumption)) | exact .inr (.inr (.inl (by omega))) | exact .inr (.inr (.inr (by omega)))
          rw [hn]
          refine fin_ret () (vs := [_]) (Cs := []) rfl (.tmp rfl .nil) rfl trivial ?_
          exact fold_isO o ok (by rfl) (by exact ⟨rfl, rfl⟩) (by exact ⟨_, _, rfl⟩) (by rfl) (by rfl) (by rfl) (by rfl) (by rfl)
        · -- t30 False
          obtain ⟨k, rfl⟩ : ∃ k : Nat, i = (k : Int) := ⟨i.toNat, by omega⟩
          have hkl : k < o.secs.length := by omega
          have hsl : s.length ≤ 32 := by omega
          have hc : ¬ (o.down = true ∨ (k : Int) < 0 ∨ (o.secs.length : Int) ≤ k ∨ 32 < s.length) := by rintro (e | e | e | e) <;> first | omega | (simp_all; done)
          have hzs : List.length s + (32 - s.length) = 32 := by omega
          refine p_skip rfl ?_
          refine t_seq ?_
          refine p_seq rfl ?_
          refine p_region rfl ?_
          refine wo_pv (pv_move rfl) rfl ?_
          refine wo_pv (pv_move rfl) rfl ?_
          refine wo_pv (pv_call_len_s Try.underlying9 rfl) rfl ?_
          refine wo_pv (pv_sub rfl rfl (by omega)) rfl ?_
          refine r_makeSlice (m := 32 - s.length) (z := .int .u8 0) Try.underlying44 ti5 rfl rfl rfl (vI_eq (by omega)) (vI_eq (by omega)) (by omega) (by rw [show Try.t5.bytes = 1 from rfl]; omega) rfl (fun b35 => ?_)
          refine r_b2s (l := zeros (32 - s.length)) Try.underlying44 Try.underlying9 Try.underlying5 rfl (by simp [vUs, zeros]) (by simp) rfl ?_
          refine wo_pv (pv_cat rfl rfl (by simp only [zeros, List.length_replicate]; omega)) rfl ?_
          change wo _ _ _ _ _ ((37, vS (wholeS s)) :: _) _ _
          refine wo_pv (pv_assign rfl) rfl ?_
          refine q_seq ?_
          refine p_seq rfl ?_
          refine p_region rfl ?_
          refine r_buildSliceL [] (cs := []) Try.underlying46 ti9 rfl rfl rfl rfl rfl rfl rfl rfl (fun b38 => ?_)
          refine wo_pv (pv_move rfl) rfl ?_
          refine wo_pv (by first | exact pv_nilCheck_p rfl | exact pv_nilCheck_f rfl) rfl ?_
          refine wo_pv (pv_fieldAddrk Try.underlying57 rfl ti46 rfl rfl (k := 0) rfl (by first | exact Nat.zero_add _ | exact Nat.add_zero _ | exact rfl)) rfl ?_
          refine r_load Try.underlying46 rfl rfl rfl rfl ?_
          refine wo_ent' (ent_row (k := 0) (cap := 0) (sz := 1) (e := 9) (g := b38) (xs := []) (cur := []) (Nat.le_refl _) (by simp [maxLen]) rfl rfl rfl) ?_
          refine r_appendA (sz := 1) (bytes := 16) Try.underlying46 ti9 rfl rfl rfl rfl rfl rfl rfl (by rw [List.length_map, Nat.mul_one]) (by simp [oneCell]) (by omega) (by simp only [maxLen]; omega) rfl (fun a43 c43 => ?_)
          simp only [Nat.zero_add, List.nil_append]
          have hgk : o.secs.getD k [] = o.secs[k] := by simp [hkl]
          have h32 : (o.secs[k]).length = 32 := hsecs _ (List.getElem_mem hkl)
          have hwl : (wholeS s).length = 32 := wholeS_len hsl
          refine wo_pv (pv_assign rfl) rfl ?_
          refine q_seq ?_
          refine p_seq rfl ?_
          refine p_seq rfl ?_
          refine p_region rfl ?_
          refine wo_pv (pv_move rfl) rfl ?_
          refine wo_pv (by first | exact pv_nilCheck_p rfl | exact pv_nilCheck_f rfl) rfl ?_
          refine wo_pv (pv_fieldAddrk Try.underlying57 rfl ti3 rfl rfl (k := 1) rfl (by first | exact Nat.zero_add _ | exact Nat.add_zero _ | exact rfl)) rfl ?_
          refine r_load Try.underlying3 rfl rfl rfl rfl ?_
          refine wo_pv (pv_eql rfl rfl) rfl ?_
          refine q_seq ?_
          first | refine p_ite rfl rfl (fun h48 => ?_) (fun h48 => ?_) | refine p_cond rfl rfl (fun h48 => ?_) (fun h48 => ?_)
          · -- t48 True
            refine p_seq rfl ?_
            refine d_draw rfl rfl rfl [Ce p 57 [.slice a o.secs.length c, vI o.left, vI o.keep, vB o.down]] ?_
            refine d_first 0 rfl rfl rfl (by kernel_rfl) (by kernel_rfl) (tl_pv (pv_move rfl)) ?_
            refine d_first 1 rfl rfl rfl (by kernel_rfl) (by kernel_rfl) (tl_pv (pv_move rfl)) ?_
            refine d_first 2 rfl rfl rfl (by kernel_rfl) (by kernel_rfl) (tl_pv (pv_move rfl)) ?_
            refine d_first 3 rfl rfl rfl (by kernel_rfl) (by kernel_rfl) (tl_pv (pv_move rfl)) ?_
            refine d_first 4 rfl rfl rfl (by kernel_rfl) (by kernel_rfl) (tl_pv (by first | exact pv_nilCheck_p rfl | exact pv_nilCheck_f rfl)) ?_
            refine d_first 5 rfl rfl rfl (by kernel_rfl) (by kernel_rfl) (tl_pv (pv_fieldAddrk Try.underlying57 rfl ti3 rfl rfl (k := 2) rfl (by first | exact Nat.zero_add _ | exact Nat.add_zero _ | exact rfl))) ?_
            refine d_first 6 rfl rfl rfl (by kernel_rfl) (by kernel_rfl) (tl_load Try.underlying3 rfl rfl rfl) ?_
            refine d_first 7 rfl rfl rfl (by kernel_rfl) (by kernel_rfl) (tl_pv (pv_slice_tom (m := o.keep) Try.underlying9 rfl rfl rfl (by omega))) ?_
            refine d_first 8 rfl rfl rfl (by kernel_rfl) (by kernel_rfl) (tl_pv (pv_move rfl)) ?_
            refine d_first 9 rfl rfl rfl (by kernel_rfl) (by kernel_rfl) (tl_pv (pv_move rfl)) ?_
            refine d_first 12 rfl rfl rfl (by kernel_rfl) (by kernel_rfl) (tl_pv (pv_move rfl)) ?_
            refine d_first 13 rfl rfl rfl (by kernel_rfl) (by kernel_rfl) (tl_pv (by first | exact pv_nilCheck_p rfl | exact pv_nilCheck_f rfl)) ?_
            refine d_first 14 rfl rfl rfl (by kernel_rfl) (by kernel_rfl) (tl_pv (pv_fieldAddrk Try.underlying57 rfl ti3 rfl rfl (k := 2) rfl (by first | exact Nat.zero_add _ | exact Nat.add_zero _ | exact rfl))) ?_
            refine d_first 15 rfl rfl rfl (by kernel_rfl) (by kernel_rfl) (tl_load Try.underlying3 rfl rfl rfl) ?_
            refine d_next 10 (by kernel_rfl) rfl ?_
            refine an_elemAddr (sz := 1) Try.underlying46 ti9 rfl rfl rfl rfl (by omega) (by first | (rw [List.length_map]; omega) | (rw [flat_len (sz := 1) (fun _ => rfl)]; omega) | (simp; omega)) (Nat.mul_one _) rfl ?_
            refine d_next 11 (by kernel_rfl) rfl ?_
            refine an_eload Try.underlying9 rfl rfl (get_mapD [] hkl) rfl ?_
            refine d_first 16 rfl rfl rfl (by kernel_rfl) (by kernel_rfl) (tl_pv (pv_slice_fromm (m := o.keep) Try.underlying9 rfl rfl rfl (by rw [hgk]; omega))) ?_
            refine d_first 17 rfl rfl rfl (by kernel_rfl) (by kernel_rfl) (tl_pv (pv_cat rfl rfl (by rw [List.length_take, List.length_drop, hgk]; omega))) ?_
            refine d_next 18 (by kernel_rfl) rfl ?_
            refine an_elemAddr (sz := 1) Try.underlying46 ti9 rfl rfl rfl rfl (by omega) (by first | (rw [List.length_map]; omega) | (rw [flat_len (sz := 1) (fun _ => rfl)]; omega) | (simp; omega)) (Nat.mul_one _) rfl ?_
            refine d_next 19 (by kernel_rfl) rfl ?_
            refine an_estore ti9 rfl rfl rfl rfl (by first | (rw [List.length_map]; omega) | (rw [flat_len (fun _ => rfl)]; omega) | (simp; omega)) ?_
            refine d_done (by kernel_rfl) ?_
            refine t_seq ?_
            refine p_seq rfl ?_
            refine p_region rfl ?_
            refine wo_pv (pv_move rfl) rfl ?_
            refine wo_pv (pv_move rfl) rfl ?_
            refine wo_pv (pv_move rfl) rfl ?_
            refine wo_pv (pv_move rfl) rfl ?_
            refine wo_pv (by first | exact pv_nilCheck_p rfl | exact pv_nilCheck_f rfl) rfl ?_
            refine wo_pv (pv_fieldAddrk Try.underlying57 rfl ti46 rfl rfl (k := 0) rfl (by first | exact Nat.zero_add _ | exact Nat.add_zero _ | exact rfl)) rfl ?_
            refine r_store ti46 rfl rfl rfl rfl (by simp; try omega) ?_
            refine wo_pv (by first | exact pv_nilCheck_p rfl | exact pv_nilCheck_f rfl) rfl ?_
            refine wo_pv (pv_fieldAddrk Try.underlying57 rfl ti3 rfl rfl (k := 1) rfl (by first | exact Nat.zero_add _ | exact Nat.add_zero _ | exact rfl)) rfl ?_
            refine r_store ti3 rfl rfl rfl rfl (by simp; try omega) ?_
            refine wo_pv (by first | exact pv_nilCheck_p rfl | exact pv_nilCheck_f rfl) rfl ?_
            refine wo_pv (pv_fieldAddrk Try.underlying57 rfl ti4 rfl rfl (k := 3) rfl (by first | exact Nat.zero_add _ | exact Nat.add_zero _ | exact rfl)) rfl ?_
            refine r_store ti4 rfl rfl rfl rfl (by simp; try omega) ?_
            refine q_seq ?_
            refine p_seq rfl ?_
            refine p_region rfl ?_
            refine wo_pv (pv_assign rfl) rfl ?_
            refine q_seq ?_
            refine p_ret rfl ?_
            refine t_seq_ret ?_
            have hn : o.write k s = (⟨o.secs.set k ((wholeS s).take o.keep ++ (o.secs.getD k []).drop o.keep), -1, o.keep, true⟩, false) := by rw [Od.write, if_neg hc, if_pos h48, Int.toNat_natCast]
            rw [hn] at hwok ⊢
            refine fin_ret () (vs := [_]) (Cs := []) rfl (.tmp rfl .nil) rfl trivial ?_
            exact ent_step (fold_isO _ hwok (by rfl) (by exact ⟨rfl, rfl⟩) (by exact ⟨a43, c43, by simp⟩) (by rfl) (by rfl) (by rfl) (by simp) (by simp [List.map_set])) ent_nil
          · -- t48 False
            refine p_skip rfl ?_
            refine t_seq ?_
            refine p_seq rfl ?_
            refine p_region rfl ?_
            refine wo_pv (pv_move rfl) rfl ?_
            refine wo_pv (pv_move rfl) rfl ?_
            refine wo_pv (pv_move rfl) rfl ?_
            refine r_elemAddr (sz := 1) Try.underlying46 ti9 rfl rfl rfl rfl (by omega) (by first | (rw [List.length_map]; omega) | (rw [flat_len (sz := 1) (fun _ => rfl)]; omega) | (simp; omega)) (Nat.mul_one _) rfl ?_
            refine r_estore ti9 rfl rfl rfl rfl (by first | (rw [List.length_map]; omega) | (rw [flat_len (fun _ => rfl)]; omega) | (simp; omega)) ?_
            refine q_seq ?_
            refine p_seq rfl ?_
            refine p_region rfl ?_
            refine wo_pv (pv_move rfl) rfl ?_
            refine wo_pv (pv_move rfl) rfl ?_
            refine wo_pv (by first | exact pv_nilCheck_p rfl | exact pv_nilCheck_f rfl) rfl ?_
            refine wo_pv (pv_fieldAddrk Try.underlying57 rfl ti46 rfl rfl (k := 0) rfl (by first | exact Nat.zero_add _ | exact Nat.add_zero _ | exact rfl)) rfl ?_
            refine r_store ti46 rfl rfl rfl rfl (by simp; try omega) ?_
            refine q_seq ?_
            refine p_seq rfl ?_
            refine p_seq rfl ?_
            refine p_region rfl ?_
            refine wo_pv (pv_move rfl) rfl ?_
            refine wo_pv (by first | exact pv_nilCheck_p rfl | exact pv_nilCheck_f rfl) rfl ?_
            refine wo_pv (pv_fieldAddrk Try.underlying57 rfl ti3 rfl rfl (k := 1) rfl (by first | exact Nat.zero_add _ | exact Nat.add_zero _ | exact rfl)) rfl ?_
            refine r_load Try.underlying3 rfl rfl rfl rfl ?_
            refine wo_pv (pv_gtr rfl rfl) rfl ?_
            refine q_seq ?_
            first | refine p_ite rfl rfl (fun h90 => ?_) (fun h90 => ?_) | refine p_cond rfl rfl (fun h90 => ?_) (fun h90 => ?_)
            · -- t90 True
              refine p_region rfl ?_
              refine wo_pv (pv_move rfl) rfl ?_
              refine wo_pv (by first | exact pv_nilCheck_p rfl | exact pv_nilCheck_f rfl) rfl ?_
              refine wo_pv (pv_fieldAddrk Try.underlying57 rfl ti3 rfl rfl (k := 1) rfl (by first | exact Nat.zero_add _ | exact Nat.add_zero _ | exact rfl)) rfl ?_
              refine r_load Try.underlying3 rfl rfl rfl rfl ?_
              refine wo_pv (pv_sub rfl rfl (by omega)) rfl ?_
              refine wo_pv (by first | exact pv_nilCheck_p rfl | exact pv_nilCheck_f rfl) rfl ?_
              refine wo_pv (pv_fieldAddrk Try.underlying57 rfl ti3 rfl rfl (k := 1) rfl (by first | exact Nat.zero_add _ | exact Nat.add_zero _ | exact rfl)) rfl ?_
              refine r_store ti3 rfl rfl rfl rfl (by simp; try omega) ?_
              refine q_seq ?_
              refine p_seq rfl ?_
              refine p_region rfl ?_
              refine wo_pv (pv_assign rfl) rfl ?_
              refine q_seq ?_
              refine p_ret rfl ?_
              have hn : o.write k s = (⟨o.secs.set k (wholeS s), if 0 < o.left then o.left - 1 else o.left, o.keep, o.down⟩, true) := by rw [Od.write, if_neg hc, if_neg h48, Int.toNat_natCast]
              rw [hn] at hwok ⊢
              refine fin_ret () (vs := [_]) (Cs := []) rfl (.tmp rfl .nil) rfl trivial ?_
              exact ent_step (fold_isO _ hwok (by rfl) (by exact ⟨rfl, rfl⟩) (by exact ⟨a43, c43, by simp⟩) (by simp [h90]) (by rfl) (by rfl) (by simp) (by simp [List.map_set])) ent_nil
            · -- t90 False
              refine p_skip rfl ?_
              refine t_seq ?_
              refine p_seq rfl ?_
              refine p_region rfl ?_
              refine wo_pv (pv_assign rfl) rfl ?_
              refine q_seq ?_
              refine p_ret rfl ?_
              have hn : o.write k s = (⟨o.secs.set k (wholeS s), if 0 < o.left then o.left - 1 else o.left, o.keep, o.down⟩, true) := by rw [Od.write, if_neg hc, if_neg h48, Int.toNat_natCast]
              rw [hn] at hwok ⊢
              refine fin_ret () (vs := [_]) (Cs := []) rfl (.tmp rfl .nil) rfl trivial ?_
              exact ent_step (fold_isO _ hwok (by rfl) (by exact ⟨rfl, rfl⟩) (by exact ⟨a43, c43, by simp⟩) (by simp [h90]) (by rfl) (by rfl) (by simp) (by simp [List.map_set])) ent_nil
end Go.Proofs.Ytimafngkifakfaa

/- The document's own scan, pieces, commit: walks. -/
set_option maxRecDepth 100000
namespace Go.Proofs.Ytimafngkifakfaa
theorem u8_ne {c : UInt8} (d : UInt8) (h : ¬ ((c.toNat : Int) = (d.toNat : Int))) : c ≠ d := fun e => h (by rw [e])
theorem u8_eq {c : UInt8} (d : UInt8) (h : (c.toNat : Int) = (d.toNat : Int)) : c = d := UInt8.toNat_inj.1 (by omega)
theorem ref5_Scan_sp (p : Nat) (o : Od) : Sp Try.prog 24 [.pointer (some ⟨p, 0, none⟩)] [IsO p o] (X := Option Addr × Nat) (fun x => .tuple #[.slice x.1 (scanO o).1.length x.2, vI (scanO o).2]) (fun _ => True)
    (fun x => [Row 9 1 (.slice x.1 (scanO o).1.length x.2) (scanO o).1.length ((scanO o).1.map vS), IsO p o]) := by
  refine Sp.body (n := 55) Try.call24 Try.func24 rfl rfl rfl ?_
  refine wc_exi fun a => wc_exi fun c => wc_al (wc_pu fun ok => ?_)
  have hsecs := ok.secs
  have hmany := ok.many
  refine p_seq rfl ?_
  refine p_region rfl ?_
  refine wo_pv (pv_assign rfl) rfl ?_
  refine wo_pv (pv_assign rfl) rfl ?_
  refine q_seq ?_
  refine p_seq rfl ?_
  refine p_region rfl ?_
  refine wo_pv (pv_assign rfl) rfl ?_
  refine q_seq ?_
  refine p_seq rfl ?_
  refine p_region rfl ?_
  refine wo_pv (pv_assign rfl) rfl ?_
  refine q_seq ?_
  refine p_seq rfl ?_
  refine p_region rfl ?_
  refine wo_pv (pv_assign rfl) rfl ?_
  refine q_seq ?_
  refine p_seq rfl ?_
  refine p_seq rfl ?_
  refine p_region rfl ?_
  refine wo_pv (pv_move rfl) rfl ?_
  refine wo_pv (by first | exact pv_nilCheck_p rfl | exact pv_nilCheck_f rfl) rfl ?_
  refine wo_pv (pv_fieldAddrk Try.underlying57 rfl ti46 rfl rfl (k := 0) rfl (by first | exact Nat.zero_add _ | exact Nat.add_zero _ | exact rfl)) rfl ?_
  refine r_load Try.underlying46 rfl rfl rfl rfl ?_
  refine wo_pv (pv_call_len_sl Try.underlying46 rfl) rfl ?_
  refine wo_pv (pv_move rfl) rfl ?_
  refine q_seq ?_
  refine p_block 0 rfl ?_
  refine p_loop (fun (i : { x : (Option Addr × Nat) × (List Bs × Nat × Bs) × Nat // scanS (o.secs.drop x.2.2) x.2.2 x.2.1.2.2 x.2.1.1 x.2.1.2.1 = scanO o ∧ x.2.2 ≤ o.secs.length ∧ x.2.1.1.length ≤ x.2.2 ∧ x.2.1.2.1 ≤ x.2.2 ∧ x.2.1.2.2.length ≤ 30 * x.2.2 }) => [(4, .slice i.1.1.1 i.1.2.1.1.length i.1.1.2), (5, vI i.1.2.1.2.1), (6, vS i.1.2.1.2.2), (14, .slice a o.secs.length c), (15, vI o.secs.length), (16, vI i.1.2.2)]) (fun (i : { x : (Option Addr × Nat) × (List Bs × Nat × Bs) × Nat // scanS (o.secs.drop x.2.2) x.2.2 x.2.1.2.2 x.2.1.1 x.2.1.2.1 = scanO o ∧ x.2.2 ≤ o.secs.length ∧ x.2.1.1.length ≤ x.2.2 ∧ x.2.1.2.1 ≤ x.2.2 ∧ x.2.1.2.2.length ≤ 30 * x.2.2 }) => [Row 9 1 (.slice i.1.1.1 i.1.2.1.1.length i.1.1.2) i.1.2.1.1.length (i.1.2.1.1.map vS), Row 9 1 (.slice a o.secs.length c) o.secs.length (o.secs.map vS), Ce p 57 [.slice a o.secs.length c, vI o.left, vI o.keep, vB o.down]]) (fun (i : { x : (Option Addr × Nat) × (List Bs × Nat × Bs) × Nat // scanS (o.secs.drop x.2.2) x.2.2 x.2.1.2.2 x.2.1.1 x.2.1.2.1 = scanO o ∧ x.2.2 ≤ o.secs.length ∧ x.2.1.1.length ≤ x.2.2 ∧ x.2.1.2.1 ≤ x.2.2 ∧ x.2.1.2.2.length ≤ 30 * x.2.2 }) => o.secs.length - i.1.2.2) rfl (⟨((none, 0), ([], 0, []), 0), rfl, Nat.zero_le _, Nat.le_refl _, Nat.le_refl _, Nat.le_refl _⟩) ?_ ?_ (fun i => ?_)
  · exact ⟨rfl, rfl, rfl, rfl, rfl, rfl, trivial⟩
  · -- H at start
    exact ent_step row_nil ent_pick
  obtain ⟨⟨⟨a1, c1⟩, ⟨l, e, t⟩, j⟩, hi, hj, hl, he, ht⟩ := i
  dsimp only at hi hj hl he ht
  try dsimp only
  refine p_seq rfl ?_
  refine p_region rfl ?_
  refine wo_pv (pv_lss rfl rfl) rfl ?_
  refine q_seq ?_
  refine p_seq rfl ?_
  first | refine p_ite rfl rfl (fun h17 => ?_) (fun h17 => ?_) | refine p_cond rfl rfl (fun h17 => ?_) (fun h17 => ?_)
  · -- t17 True
    refine p_skip rfl ?_
    refine t_seq ?_
    refine p_seq rfl ?_
    refine p_block 1 rfl ?_
    refine p_seq rfl ?_
    have hjl : j < o.secs.length := by omega
    have hst := scanS_step hjl t l e
    rw [hi] at hst
    have hgl : (o.secs.getD j []).length = 32 := by
      have : o.secs.getD j [] = o.secs[j] := by simp [hjl]
      rw [this]; exact hsecs _ (List.getElem_mem hjl)
    refine p_region rfl ?_
    refine wo_pv (pv_move rfl) rfl ?_
    refine r_elemAddr (sz := 1) Try.underlying46 ti9 rfl rfl rfl rfl (by omega) (by first | (rw [List.length_map]; omega) | (rw [flat_len (sz := 1) (fun _ => rfl)]; omega) | (simp; omega)) (Nat.mul_one _) rfl ?_
    refine r_eload Try.underlying9 rfl rfl (get_mapD [] hjl) rfl ?_
    refine wo_pv (pv_assign rfl) rfl ?_
    refine wo_pv (pv_assign rfl) rfl ?_
    refine q_seq ?_
    refine p_seq rfl ?_
    refine p_region rfl ?_
    refine wo_pv (pv_move rfl) rfl ?_
    refine wo_pv (pv_indexm (m := 0) Try.underlying9 rfl rfl rfl (by omega)) rfl ?_
    refine wo_pv (pv_conv_in rfl Try.underlying5 Try.underlying3 (by first | exact wrap_byte _ | exact wrap_u8 _ | exact i64_in' (by omega))) rfl ?_
    refine wo_pv (pv_assign rfl) rfl ?_
    refine q_seq ?_
    refine p_seq rfl ?_
    refine p_region rfl ?_
    refine wo_pv (pv_move rfl) rfl ?_
    refine wo_pv (pv_indexm (m := 31) Try.underlying9 rfl rfl rfl (by omega)) rfl ?_
    refine wo_pv (pv_assign rfl) rfl ?_
    refine q_seq ?_
    refine p_seq rfl ?_
    refine p_seq rfl ?_
    refine p_region rfl ?_
    refine wo_pv (pv_move rfl) rfl ?_
    refine wo_pv (pv_neq rfl rfl) rfl ?_
    refine wo_pv (pv_move rfl) rfl ?_
    first | refine wo_gite (j := 2) rfl rfl (fun h28 => ?_) (fun h28 => ?_) | refine wo_gsplit (j := 2) rfl rfl (fun h28 => ?_) (fun h28 => ?_)
    · -- t28 True
      refine wo_in (b := true) rfl ?_
      refine wo_pv (pv_move rfl) rfl ?_
      refine wo_in (b := true) rfl ?_
      refine wo_pv (pv_neq rfl rfl) rfl ?_
      refine wo_pv (pv_pick_t rfl rfl) rfl ?_
      refine wo_pv (pv_move rfl) rfl ?_
      first | refine wo_gite (j := 6) rfl rfl (fun h32 => ?_) (fun h32 => ?_) | refine wo_gsplit (j := 6) rfl rfl (fun h32 => ?_) (fun h32 => ?_)
      · -- t32 True
        refine wo_out (b := true) rfl rfl rfl ?_
        refine wo_out (b := true) rfl rfl rfl ?_
        refine wo_pv (pv_pick_t rfl rfl) rfl ?_
        refine q_seq ?_
        refine p_true rfl rfl ?_
        refine p_seq rfl ?_
        refine p_region rfl ?_
        refine wo_pv (pv_move rfl) rfl ?_
        refine wo_pv (pv_move rfl) rfl ?_
        refine wo_pv (pv_assign rfl) rfl ?_
        refine wo_pv (pv_assign rfl) rfl ?_
        refine q_seq ?_
        refine p_ret rfl ?_
        refine t_seq_ret ?_
        refine to_block_ret ?_
        refine t_seq_ret ?_
        refine to_inv_ret ?_
        refine to_block_ret ?_
        refine t_seq_ret ?_
        have hn : scanO o = (l, e) := by
          rw [hst]
          first
          | (rw [if_pos (by omega)]; done)
          | (by_cases h30 : 30 < ((o.secs.getD j []).getD 0 0).toNat
             · rw [if_pos h30]
             · rw [if_neg h30, if_neg (u8_ne 1 h28), if_neg (u8_ne 2 (by assumption))])
        rw [hn]
        refine fin_ret (a1, c1) (vs := [_, _]) (Cs := []) rfl (.tmp rfl (.tmp rfl .nil)) rfl trivial ?_
        refine ent_cons ?_
        exact ent_step (fold_isO o ok (by rfl) (by exact ⟨rfl, rfl⟩) (by exact ⟨_, _, rfl⟩) (by rfl) (by rfl) (by rfl) (by rfl) (by rfl)) ent_nil
      · -- t32 False
        refine wo_in (b := false) rfl ?_
        refine wo_pv (pv_move rfl) rfl ?_
        refine wo_in (b := false) rfl ?_
        refine wo_pv (pv_gtr rfl rfl) rfl ?_
        refine wo_pv (pv_pick_f rfl rfl) rfl ?_
        refine q_seq ?_
        first | refine p_ite rfl rfl (fun h35 => ?_) (fun h35 => ?_) | refine p_cond rfl rfl (fun h35 => ?_) (fun h35 => ?_)
        · -- t35 True
          refine p_seq rfl ?_
          refine p_region rfl ?_
          refine wo_pv (pv_move rfl) rfl ?_
          refine wo_pv (pv_move rfl) rfl ?_
          refine wo_pv (pv_assign rfl) rfl ?_
          refine wo_pv (pv_assign rfl) rfl ?_
          refine q_seq ?_
          refine p_ret rfl ?_
          refine t_seq_ret ?_
          refine to_block_ret ?_
          refine t_seq_ret ?_
          refine to_inv_ret ?_
          refine to_block_ret ?_
          refine t_seq_ret ?_
          have hn : scanO o = (l, e) := by
            rw [hst]
            first
            | (rw [if_pos (by omega)]; done)
            | (by_cases h30 : 30 < ((o.secs.getD j []).getD 0 0).toNat
               · rw [if_pos h30]
               · rw [if_neg h30, if_neg (u8_ne 1 h28), if_neg (u8_ne 2 (by assumption))])
          rw [hn]
          refine fin_ret (a1, c1) (vs := [_, _]) (Cs := []) rfl (.tmp rfl (.tmp rfl .nil)) rfl trivial ?_
          refine ent_cons ?_
          exact ent_step (fold_isO o ok (by rfl) (by exact ⟨rfl, rfl⟩) (by exact ⟨_, _, rfl⟩) (by rfl) (by rfl) (by rfl) (by rfl) (by rfl)) ent_nil
        · -- t35 False
          refine p_skip rfl ?_
          refine t_seq ?_
          refine p_seq rfl ?_
          refine p_region rfl ?_
          refine wo_pv (pv_move rfl) rfl ?_
          refine wo_pv (pv_move rfl) rfl ?_
          refine wo_pv (pv_move rfl) rfl ?_
          refine wo_pv (pv_add rfl rfl (by omega)) rfl ?_
          refine wo_pv (pv_slice_inm (m := 1) (o := ((o.secs.getD j []).getD 0 0).toNat + 1) Try.underlying9 rfl rfl rfl rfl (by omega) (by omega) (by omega)) rfl ?_
          rw [Nat.add_sub_cancel]
          refine wo_pv (pv_cat rfl rfl (by first | (simp only [List.length_append, List.length_take, List.length_drop, List.length_cons, List.length_nil]; omega) | (simp; try omega))) rfl ?_
          refine wo_pv (pv_assign rfl) rfl ?_
          refine q_seq ?_
          refine p_seq rfl ?_
          have h30 : ¬ 30 < ((o.secs.getD j []).getD 0 0).toNat := by omega
          rw [if_neg h30] at hst
          have hbl : (((o.secs.getD j []).drop 1).take ((o.secs.getD j []).getD 0 0).toNat).length ≤ 30 := by rw [List.length_take]; omega
          refine p_region rfl ?_
          refine wo_pv (pv_move rfl) rfl ?_
          refine wo_pv (pv_eql rfl rfl) rfl ?_
          refine q_seq ?_
          first | refine p_ite rfl rfl (fun h45 => ?_) (fun h45 => ?_) | refine p_cond rfl rfl (fun h45 => ?_) (fun h45 => ?_)
          · -- t45 True
            have hm2 : (o.secs.getD j []).getD 31 0 = 2 := u8_eq 2 h45
            rw [if_neg (by rw [hm2]; decide), if_pos hm2] at hst
            refine p_region rfl ?_
            refine wo_pv (pv_move rfl) rfl ?_
            refine wo_pv (pv_move rfl) rfl ?_
            refine r_buildSliceL [_] (cs := [_]) Try.underlying46 ti9 rfl rfl rfl rfl rfl rfl rfl rfl (fun b48 => ?_)
            refine r_append1 (sz := 1) (bytes := 16) Try.underlying46 ti9 rfl rfl rfl rfl rfl rfl rfl (by rfl) (by rfl) (by omega) (by simp only [maxLen]; omega) rfl (fun a49 c49 => ?_)
            refine wo_pv (pv_move rfl) rfl ?_
            refine wo_pv (pv_add rfl rfl (by omega)) rfl ?_
            refine wo_pv (pv_assign rfl) rfl ?_
            refine wo_pv (pv_assign rfl) rfl ?_
            refine wo_pv (pv_assign rfl) rfl ?_
            refine wo_nil ?_
            refine to_block ?_
            refine t_seq ?_
            refine p_region rfl ?_
            refine wo_pv (pv_add rfl rfl (by omega)) rfl ?_
            refine wo_pv (pv_move rfl) rfl ?_
            refine wo_nil ?_
            first
            | (refine to_inv ⟨((a49, c49), (l ++ [t ++ ((o.secs.getD j []).drop 1).take ((o.secs.getD j []).getD 0 0).toNat], j + 1, []), j + 1), hst.symm, by dsimp only; omega, ?_, by dsimp only; omega, by simp⟩ (by dsimp only; omega) ⟨sl_eq (by simp), rfl, rfl, rfl, rfl, rfl, trivial⟩ ?_
               · dsimp only; rw [List.length_append, List.length_singleton]; omega
               · dsimp only
                 simp only [List.length_append, List.length_singleton, List.map_append, List.map_cons, List.map_nil]
                 exact ent_pick)
            | (refine to_inv ⟨((a1, c1), (l, e, t ++ ((o.secs.getD j []).drop 1).take ((o.secs.getD j []).getD 0 0).toNat), j + 1), hst.symm, by dsimp only; omega, by dsimp only; omega, by dsimp only; omega, ?_⟩ (by dsimp only; omega) ⟨rfl, rfl, rfl, rfl, rfl, rfl, trivial⟩ ent_pick
               dsimp only; rw [List.length_append]; omega)
          · -- t45 False
            have hm1 : (o.secs.getD j []).getD 31 0 = 1 := by
              apply Classical.byContradiction
              intro hc
              have h1 : ¬ (((o.secs.getD j []).getD 31 0).toNat : Int) = 1 := fun e => hc (u8_eq 1 e)
              omega
            rw [if_pos hm1] at hst
            refine p_skip rfl ?_
            refine to_block ?_
            refine t_seq ?_
            refine p_region rfl ?_
            refine wo_pv (pv_add rfl rfl (by omega)) rfl ?_
            refine wo_pv (pv_move rfl) rfl ?_
            refine wo_nil ?_
            first
            | (refine to_inv ⟨((a49, c49), (l ++ [t ++ ((o.secs.getD j []).drop 1).take ((o.secs.getD j []).getD 0 0).toNat], j + 1, []), j + 1), hst.symm, by dsimp only; omega, ?_, by dsimp only; omega, by simp⟩ (by dsimp only; omega) ⟨sl_eq (by simp), rfl, rfl, rfl, rfl, rfl, trivial⟩ ?_
               · dsimp only; rw [List.length_append, List.length_singleton]; omega
               · dsimp only
                 simp only [List.length_append, List.length_singleton, List.map_append, List.map_cons, List.map_nil]
                 exact ent_pick)
            | (refine to_inv ⟨((a1, c1), (l, e, t ++ ((o.secs.getD j []).drop 1).take ((o.secs.getD j []).getD 0 0).toNat), j + 1), hst.symm, by dsimp only; omega, by dsimp only; omega, by dsimp only; omega, ?_⟩ (by dsimp only; omega) ⟨rfl, rfl, rfl, rfl, rfl, rfl, trivial⟩ ent_pick
               dsimp only; rw [List.length_append]; omega)
    · -- t28 False
      refine wo_out (b := false) rfl rfl rfl ?_
      refine wo_out (b := false) rfl rfl rfl ?_
      refine wo_pv (pv_pick_f rfl rfl) rfl ?_
      refine wo_pv (pv_move rfl) rfl ?_
      refine wo_in (b := false) rfl ?_
      refine wo_pv (pv_move rfl) rfl ?_
      refine wo_in (b := false) rfl ?_
      refine wo_pv (pv_gtr rfl rfl) rfl ?_
      refine wo_pv (pv_pick_f rfl rfl) rfl ?_
      refine q_seq ?_
      first | refine p_ite rfl rfl (fun h35 => ?_) (fun h35 => ?_) | refine p_cond rfl rfl (fun h35 => ?_) (fun h35 => ?_)
      · -- t35 True
        refine p_seq rfl ?_
        refine p_region rfl ?_
        refine wo_pv (pv_move rfl) rfl ?_
        refine wo_pv (pv_move rfl) rfl ?_
        refine wo_pv (pv_assign rfl) rfl ?_
        refine wo_pv (pv_assign rfl) rfl ?_
        refine q_seq ?_
        refine p_ret rfl ?_
        refine t_seq_ret ?_
        refine to_block_ret ?_
        refine t_seq_ret ?_
        refine to_inv_ret ?_
        refine to_block_ret ?_
        refine t_seq_ret ?_
        have hn : scanO o = (l, e) := by
          rw [hst]
          first
          | (rw [if_pos (by omega)]; done)
          | (by_cases h30 : 30 < ((o.secs.getD j []).getD 0 0).toNat
             · rw [if_pos h30]
             · rw [if_neg h30, if_neg (u8_ne 1 h28), if_neg (u8_ne 2 (by assumption))])
        rw [hn]
        refine fin_ret (a1, c1) (vs := [_, _]) (Cs := []) rfl (.tmp rfl (.tmp rfl .nil)) rfl trivial ?_
        refine ent_cons ?_
        exact ent_step (fold_isO o ok (by rfl) (by exact ⟨rfl, rfl⟩) (by exact ⟨_, _, rfl⟩) (by rfl) (by rfl) (by rfl) (by rfl) (by rfl)) ent_nil
      · -- t35 False
        refine p_skip rfl ?_
        refine t_seq ?_
        refine p_seq rfl ?_
        refine p_region rfl ?_
        refine wo_pv (pv_move rfl) rfl ?_
        refine wo_pv (pv_move rfl) rfl ?_
        refine wo_pv (pv_move rfl) rfl ?_
        refine wo_pv (pv_add rfl rfl (by omega)) rfl ?_
        refine wo_pv (pv_slice_inm (m := 1) (o := ((o.secs.getD j []).getD 0 0).toNat + 1) Try.underlying9 rfl rfl rfl rfl (by omega) (by omega) (by omega)) rfl ?_
        rw [Nat.add_sub_cancel]
        refine wo_pv (pv_cat rfl rfl (by first | (simp only [List.length_append, List.length_take, List.length_drop, List.length_cons, List.length_nil]; omega) | (simp; try omega))) rfl ?_
        refine wo_pv (pv_assign rfl) rfl ?_
        refine q_seq ?_
        refine p_seq rfl ?_
        have h30 : ¬ 30 < ((o.secs.getD j []).getD 0 0).toNat := by omega
        rw [if_neg h30] at hst
        have hbl : (((o.secs.getD j []).drop 1).take ((o.secs.getD j []).getD 0 0).toNat).length ≤ 30 := by rw [List.length_take]; omega
        refine p_region rfl ?_
        refine wo_pv (pv_move rfl) rfl ?_
        refine wo_pv (pv_eql rfl rfl) rfl ?_
        refine q_seq ?_
        first | refine p_ite rfl rfl (fun h45 => ?_) (fun h45 => ?_) | refine p_cond rfl rfl (fun h45 => ?_) (fun h45 => ?_)
        · -- t45 True
          have hm2 : (o.secs.getD j []).getD 31 0 = 2 := u8_eq 2 h45
          rw [if_neg (by rw [hm2]; decide), if_pos hm2] at hst
          refine p_region rfl ?_
          refine wo_pv (pv_move rfl) rfl ?_
          refine wo_pv (pv_move rfl) rfl ?_
          refine r_buildSliceL [_] (cs := [_]) Try.underlying46 ti9 rfl rfl rfl rfl rfl rfl rfl rfl (fun b48 => ?_)
          refine r_append1 (sz := 1) (bytes := 16) Try.underlying46 ti9 rfl rfl rfl rfl rfl rfl rfl (by rfl) (by rfl) (by omega) (by simp only [maxLen]; omega) rfl (fun a49 c49 => ?_)
          refine wo_pv (pv_move rfl) rfl ?_
          refine wo_pv (pv_add rfl rfl (by omega)) rfl ?_
          refine wo_pv (pv_assign rfl) rfl ?_
          refine wo_pv (pv_assign rfl) rfl ?_
          refine wo_pv (pv_assign rfl) rfl ?_
          refine wo_nil ?_
          refine to_block ?_
          refine t_seq ?_
          refine p_region rfl ?_
          refine wo_pv (pv_add rfl rfl (by omega)) rfl ?_
          refine wo_pv (pv_move rfl) rfl ?_
          refine wo_nil ?_
          first
          | (refine to_inv ⟨((a49, c49), (l ++ [t ++ ((o.secs.getD j []).drop 1).take ((o.secs.getD j []).getD 0 0).toNat], j + 1, []), j + 1), hst.symm, by dsimp only; omega, ?_, by dsimp only; omega, by simp⟩ (by dsimp only; omega) ⟨sl_eq (by simp), rfl, rfl, rfl, rfl, rfl, trivial⟩ ?_
             · dsimp only; rw [List.length_append, List.length_singleton]; omega
             · dsimp only
               simp only [List.length_append, List.length_singleton, List.map_append, List.map_cons, List.map_nil]
               exact ent_pick)
          | (refine to_inv ⟨((a1, c1), (l, e, t ++ ((o.secs.getD j []).drop 1).take ((o.secs.getD j []).getD 0 0).toNat), j + 1), hst.symm, by dsimp only; omega, by dsimp only; omega, by dsimp only; omega, ?_⟩ (by dsimp only; omega) ⟨rfl, rfl, rfl, rfl, rfl, rfl, trivial⟩ ent_pick
             dsimp only; rw [List.length_append]; omega)
        · -- t45 False
          have hm1 : (o.secs.getD j []).getD 31 0 = 1 := by
            apply Classical.byContradiction
            intro hc
            have h1 : ¬ (((o.secs.getD j []).getD 31 0).toNat : Int) = 1 := fun e => hc (u8_eq 1 e)
            omega
          rw [if_pos hm1] at hst
          refine p_skip rfl ?_
          refine to_block ?_
          refine t_seq ?_
          refine p_region rfl ?_
          refine wo_pv (pv_add rfl rfl (by omega)) rfl ?_
          refine wo_pv (pv_move rfl) rfl ?_
          refine wo_nil ?_
          first
          | (refine to_inv ⟨((a49, c49), (l ++ [t ++ ((o.secs.getD j []).drop 1).take ((o.secs.getD j []).getD 0 0).toNat], j + 1, []), j + 1), hst.symm, by dsimp only; omega, ?_, by dsimp only; omega, by simp⟩ (by dsimp only; omega) ⟨sl_eq (by simp), rfl, rfl, rfl, rfl, rfl, trivial⟩ ?_
             · dsimp only; rw [List.length_append, List.length_singleton]; omega
             · dsimp only
               simp only [List.length_append, List.length_singleton, List.map_append, List.map_cons, List.map_nil]
               exact ent_pick)
          | (refine to_inv ⟨((a1, c1), (l, e, t ++ ((o.secs.getD j []).drop 1).take ((o.secs.getD j []).getD 0 0).toNat), j + 1), hst.symm, by dsimp only; omega, by dsimp only; omega, by dsimp only; omega, ?_⟩ (by dsimp only; omega) ⟨rfl, rfl, rfl, rfl, rfl, rfl, trivial⟩ ent_pick
             dsimp only; rw [List.length_append]; omega)
  · -- t17 False
    refine p_exit 0 rfl ?_
    refine t_seq_exit ?_
    refine to_inv_exit ?_
    refine to_block_here ?_
    refine t_seq ?_
    refine p_seq rfl ?_
    refine p_region rfl ?_
    refine wo_pv (pv_move rfl) rfl ?_
    refine wo_pv (pv_move rfl) rfl ?_
    refine wo_pv (pv_assign rfl) rfl ?_
    refine wo_pv (pv_assign rfl) rfl ?_
    refine q_seq ?_
    refine p_ret rfl ?_
    have hjn : j = o.secs.length := by omega
    rw [hjn, List.drop_length] at hi
    have hn : scanO o = (l, e) := hi.symm
    rw [hn]
    refine fin_ret (a1, c1) (vs := [_, _]) (Cs := []) rfl (.tmp rfl (.tmp rfl .nil)) rfl trivial ?_
    refine ent_cons ?_
    exact ent_step (fold_isO o ok (by rfl) (by exact ⟨rfl, rfl⟩) (by exact ⟨_, _, rfl⟩) (by rfl) (by rfl) (by rfl) (by rfl) (by rfl)) ent_nil
end Go.Proofs.Ytimafngkifakfaa

/- The document's own pieces and commit: walks. -/
set_option maxRecDepth 100000
namespace Go.Proofs.Ytimafngkifakfaa
theorem vUs_zeros (n : Nat) : (List.replicate n (Value.int .u8 0)).take n = vUs (zeros n) := by simp [vUs, zeros]
theorem vUs_byte {n : Nat} (h : n ≤ 255) : [vU (IntKind.u8.wrap (n : Int))] = vUs [UInt8.ofNat n] := by
  have e : IntKind.u8.wrap (n : Int) = n := u8_in' (by omega)
  rw [e]
  simp [vUs]; omega
theorem ref5_Pieces_sp (s : Bs) (hs : s.length ≤ 4398046511104) : Sp Try.prog 25 [vS s] [] (X := Option Addr × Nat) (fun x => .slice x.1 (piecesS s).length x.2) (fun _ => True) (fun x => [Row 9 1 (.slice x.1 (piecesS s).length x.2) (piecesS s).length ((piecesS s).map vS)]) := by
  refine Sp.body (n := 41) Try.call25 Try.func25 rfl rfl rfl ?_
  refine p_seq rfl ?_
  refine p_region rfl ?_
  refine wo_pv (pv_assign rfl) rfl ?_
  refine q_seq ?_
  refine p_seq rfl ?_
  refine p_region rfl ?_
  refine wo_pv (pv_assign rfl) rfl ?_
  refine q_seq ?_
  refine p_block 0 rfl ?_
  refine p_loop (fun (i : { x : (Option Addr × Nat) × List Bs × Bs // piecesS s = x.2.1 ++ piecesS x.2.2 ∧ x.2.1.length + x.2.2.length ≤ s.length }) => [(0, vS i.1.2.2), (3, .slice i.1.1.1 i.1.2.1.length i.1.1.2)]) (fun (i : { x : (Option Addr × Nat) × List Bs × Bs // piecesS s = x.2.1 ++ piecesS x.2.2 ∧ x.2.1.length + x.2.2.length ≤ s.length }) => [Row 9 1 (.slice i.1.1.1 i.1.2.1.length i.1.1.2) i.1.2.1.length (i.1.2.1.map vS)]) (fun (i : { x : (Option Addr × Nat) × List Bs × Bs // piecesS s = x.2.1 ++ piecesS x.2.2 ∧ x.2.1.length + x.2.2.length ≤ s.length }) => i.1.2.2.length) rfl (⟨((none, 0), [], s), rfl, by simp⟩) ?_ ?_ (fun i => ?_)
  · exact ⟨rfl, rfl, trivial⟩
  · -- H at start
    exact row_nil
  obtain ⟨⟨⟨a, c⟩, out, r⟩, hi, hl⟩ := i
  dsimp only at hi hl
  try dsimp only
  refine p_block 1 rfl ?_
  refine p_seq rfl ?_
  refine p_region rfl ?_
  refine wo_pv (pv_move rfl) rfl ?_
  refine wo_pv (pv_call_len_s Try.underlying9 rfl) rfl ?_
  refine wo_pv (pv_call_min rfl rfl) rfl ?_
  refine wo_pv (pv_assign rfl) rfl ?_
  refine q_seq ?_
  refine p_seq rfl ?_
  obtain ⟨m, hm, hm2⟩ : ∃ m : Nat, min (r.length : Int) 30 = (m : Int) ∧ m = min r.length 30 := ⟨min r.length 30, by omega, rfl⟩
  rw [hm]
  refine p_region rfl ?_
  refine wo_pv (pv_assign rfl) rfl ?_
  refine q_seq ?_
  refine p_cut (fun (tg : { tg : UInt8 // tg = if 30 < r.length then 1 else 2 }) => [(0, vS r), (3, .slice a out.length c), (4, vI m), (5, vU tg.1.toNat)]) (fun (tg : { tg : UInt8 // tg = if 30 < r.length then 1 else 2 }) => [Row 9 1 (.slice a out.length c) out.length (out.map vS)]) rfl (fun tg => ?_) ?_
  · -- behind the place 6
    obtain ⟨tg, htg⟩ := tg
    have hz : (zeros (30 - m)).length = 30 - m := by simp [zeros]
    have hrt : (r.take m).length = m := by rw [List.length_take]; omega
    try dsimp only
    refine p_seq rfl ?_
    refine d_draw rfl rfl rfl [] ?_
    refine d_first 0 rfl rfl rfl (by kernel_rfl) (by kernel_rfl) (tl_pv (pv_move rfl)) ?_
    refine d_first 1 rfl rfl rfl (by kernel_rfl) (by kernel_rfl) (tl_pv (pv_conv rfl Try.underlying3 Try.underlying5)) ?_
    refine d_first 4 rfl rfl rfl (by kernel_rfl) (by kernel_rfl) (tl_pv (pv_move rfl)) ?_
    refine d_first 5 rfl rfl rfl (by kernel_rfl) (by kernel_rfl) (tl_pv (pv_move rfl)) ?_
    refine d_first 6 rfl rfl rfl (by kernel_rfl) (by kernel_rfl) (tl_pv (pv_slice_tom (m := m) Try.underlying9 rfl rfl rfl (by omega))) ?_
    refine d_first 8 rfl rfl rfl (by kernel_rfl) (by kernel_rfl) (tl_pv (pv_move rfl)) ?_
    refine d_first 9 rfl rfl rfl (by kernel_rfl) (by kernel_rfl) (tl_pv (pv_sub rfl rfl (by omega))) ?_
    refine d_first 13 rfl rfl rfl (by kernel_rfl) (by kernel_rfl) (tl_pv (pv_move rfl)) ?_
    refine d_next3 2 10 14 (by kernel_rfl) rfl rfl rfl ?_ ?_ ?_
    · -- op 2
      refine an_buildSliceI [_] (cs := [_]) Try.underlying44 ti5 rfl rfl rfl rfl rfl rfl rfl rfl (fun b16 => ?_)
      refine d_first 3 rfl rfl rfl (by kernel_rfl) (by kernel_rfl) (tl_b2s (l := [UInt8.ofNat m]) Try.underlying44 Try.underlying9 Try.underlying5 rfl (by exact vUs_byte (n := m) (by omega)) (by simp)) ?_
      refine d_first 7 rfl rfl rfl (by kernel_rfl) (by kernel_rfl) (tl_pv (pv_cat rfl rfl (by rw [hrt, List.length_singleton]; omega))) ?_
      refine d_next2 10 14 (by kernel_rfl) rfl rfl ?_ ?_
      · -- op 10
        refine an_makeSliceI (m := 30 - m) (z := .int .u8 0) Try.underlying44 ti5 rfl rfl rfl (vI_eq (by omega)) (vI_eq (by omega)) (by omega) (by rw [show Try.t5.bytes = 1 from rfl]; omega) rfl (fun b24 => ?_)
        refine d_first 11 rfl rfl rfl (by kernel_rfl) (by kernel_rfl) (tl_b2s (l := zeros (30 - m)) Try.underlying44 Try.underlying9 Try.underlying5 rfl (by exact vUs_zeros (30 - m)) (by simp)) ?_
        refine d_first 12 rfl rfl rfl (by kernel_rfl) (by kernel_rfl) (tl_pv (pv_cat rfl rfl (by rw [List.length_append, hrt, hz, List.length_singleton]; omega))) ?_
        refine d_next 14 (by kernel_rfl) rfl ?_
        refine an_buildSliceI [_] (cs := [_]) Try.underlying44 ti5 rfl rfl rfl rfl rfl rfl rfl rfl (fun b28 => ?_)
        refine d_first 15 rfl rfl rfl (by kernel_rfl) (by kernel_rfl) (tl_b2s (l := [tg]) Try.underlying44 Try.underlying9 Try.underlying5 rfl (by rfl) (by simp)) ?_
        refine d_first 16 rfl rfl rfl (by kernel_rfl) (by kernel_rfl) (tl_pv (pv_cat rfl rfl (by rw [List.length_append, List.length_append, hrt, hz, List.length_singleton, List.length_singleton]; omega))) ?_
        refine d_first 17 rfl rfl rfl (by kernel_rfl) (by kernel_rfl) (tl_pv (pv_assign rfl)) ?_
        refine d_done (by kernel_rfl) ?_
        have hpc : [UInt8.ofNat m] ++ r.take m ++ zeros (30 - m) ++ [tg] = pieceS (r.take m) tg := by unfold pieceS; rw [hrt]
        rw [hpc]
        refine t_seq ?_
        refine p_seq rfl ?_
        refine d_draw rfl rfl rfl [] ?_
        refine d_first 0 rfl rfl rfl (by kernel_rfl) (by kernel_rfl) (tl_pv (pv_move rfl)) ?_
        refine d_first 1 rfl rfl rfl (by kernel_rfl) (by kernel_rfl) (tl_pv (pv_move rfl)) ?_
        refine d_first 4 rfl rfl rfl (by kernel_rfl) (by kernel_rfl) (tl_pv (pv_move rfl)) ?_
        refine d_first 5 rfl rfl rfl (by kernel_rfl) (by kernel_rfl) (tl_pv (pv_move rfl)) ?_
        refine d_first 6 rfl rfl rfl (by kernel_rfl) (by kernel_rfl) (tl_pv (pv_slice_fromm (m := m) Try.underlying9 rfl rfl rfl (by omega))) ?_
        refine d_next 2 (by kernel_rfl) rfl ?_
        refine an_buildSliceL [_] (cs := [_]) Try.underlying46 ti9 rfl rfl rfl rfl rfl rfl rfl rfl (fun b33 => ?_)
        refine d_next 3 (by kernel_rfl) rfl ?_
        refine an_append1 (sz := 1) (bytes := 16) Try.underlying46 ti9 rfl rfl rfl rfl rfl rfl rfl (by rfl) (by rfl) (by omega) (by simp only [maxLen]; omega) rfl (fun a34 c34 => ?_)
        refine d_first 7 rfl rfl rfl (by kernel_rfl) (by kernel_rfl) (tl_pv (pv_assign rfl)) ?_
        refine d_first 8 rfl rfl rfl (by kernel_rfl) (by kernel_rfl) (tl_pv (pv_assign rfl)) ?_
        refine d_done (by kernel_rfl) ?_
        refine t_seq ?_
        refine p_seq rfl ?_
        refine p_region rfl ?_
        refine wo_pv (pv_move rfl) rfl ?_
        refine wo_pv (pv_eql rfl rfl) rfl ?_
        refine q_seq ?_
        first | refine p_ite rfl rfl (fun h39 => ?_) (fun h39 => ?_) | refine p_cond rfl rfl (fun h39 => ?_) (fun h39 => ?_)
        · -- t39 True
          refine p_seq rfl ?_
          refine p_region rfl ?_
          refine wo_pv (pv_move rfl) rfl ?_
          refine wo_pv (pv_assign rfl) rfl ?_
          refine q_seq ?_
          refine p_ret rfl ?_
          refine to_block_ret ?_
          refine to_inv_ret ?_
          refine to_block_ret ?_
          have htg2 : ¬ 30 < r.length := fun h => by
            rw [if_pos h] at htg
            subst htg
            simp at h39
          rw [if_neg htg2] at htg
          have hmr : r.take m = r := List.take_of_length_le (by omega)
          rw [hmr, htg] 
          have hpp : piecesS s = out ++ [pieceS r 2] := by rw [hi, piecesS_last htg2]
          rw [hpp]
          simp only [List.length_append, List.length_singleton, List.map_append, List.map_cons, List.map_nil]
          refine fin_ret (a34, c34) (vs := [_]) (Cs := []) rfl (.tmp rfl .nil) rfl trivial ?_
          exact ent_pick
        · -- t39 False
          refine p_skip rfl ?_
          refine to_block ?_
          have htg2 : 30 < r.length := by
            apply Classical.byContradiction
            intro h
            rw [if_neg h] at htg
            subst htg
            simp at h39
          rw [if_pos htg2] at htg
          have hm30 : m = 30 := by omega
          subst hm30
          subst htg
          refine to_inv ⟨((a34, c34), out ++ [pieceS (r.take 30) 1], r.drop 30), ?_, ?_⟩ ?_ ⟨rfl, sl_eq (by simp), trivial⟩ ?_
          · dsimp only; rw [hi, piecesS_more htg2]; simp
          · dsimp only; rw [List.length_append, List.length_singleton, List.length_drop]; omega
          · dsimp only; rw [List.length_drop]; omega
          · dsimp only
            simp only [List.length_append, List.length_singleton, List.map_append, List.map_cons, List.map_nil]
            exact ent_pick
      · -- op 14
        refine an_buildSliceI [_] (cs := [_]) Try.underlying44 ti5 rfl rfl rfl rfl rfl rfl rfl rfl (fun b28 => ?_)
        refine d_first 15 rfl rfl rfl (by kernel_rfl) (by kernel_rfl) (tl_b2s (l := [tg]) Try.underlying44 Try.underlying9 Try.underlying5 rfl (by rfl) (by simp)) ?_
        refine d_next 10 (by kernel_rfl) rfl ?_
        refine an_makeSliceI (m := 30 - m) (z := .int .u8 0) Try.underlying44 ti5 rfl rfl rfl (vI_eq (by omega)) (vI_eq (by omega)) (by omega) (by rw [show Try.t5.bytes = 1 from rfl]; omega) rfl (fun b24 => ?_)
        refine d_first 11 rfl rfl rfl (by kernel_rfl) (by kernel_rfl) (tl_b2s (l := zeros (30 - m)) Try.underlying44 Try.underlying9 Try.underlying5 rfl (by exact vUs_zeros (30 - m)) (by simp)) ?_
        refine d_first 12 rfl rfl rfl (by kernel_rfl) (by kernel_rfl) (tl_pv (pv_cat rfl rfl (by rw [List.length_append, hrt, hz, List.length_singleton]; omega))) ?_
        refine d_first 16 rfl rfl rfl (by kernel_rfl) (by kernel_rfl) (tl_pv (pv_cat rfl rfl (by rw [List.length_append, List.length_append, hrt, hz, List.length_singleton, List.length_singleton]; omega))) ?_
        refine d_first 17 rfl rfl rfl (by kernel_rfl) (by kernel_rfl) (tl_pv (pv_assign rfl)) ?_
        refine d_done (by kernel_rfl) ?_
        have hpc : [UInt8.ofNat m] ++ r.take m ++ zeros (30 - m) ++ [tg] = pieceS (r.take m) tg := by unfold pieceS; rw [hrt]
        rw [hpc]
        refine t_seq ?_
        refine p_seq rfl ?_
        refine d_draw rfl rfl rfl [] ?_
        refine d_first 0 rfl rfl rfl (by kernel_rfl) (by kernel_rfl) (tl_pv (pv_move rfl)) ?_
        refine d_first 1 rfl rfl rfl (by kernel_rfl) (by kernel_rfl) (tl_pv (pv_move rfl)) ?_
        refine d_first 4 rfl rfl rfl (by kernel_rfl) (by kernel_rfl) (tl_pv (pv_move rfl)) ?_
        refine d_first 5 rfl rfl rfl (by kernel_rfl) (by kernel_rfl) (tl_pv (pv_move rfl)) ?_
        refine d_first 6 rfl rfl rfl (by kernel_rfl) (by kernel_rfl) (tl_pv (pv_slice_fromm (m := m) Try.underlying9 rfl rfl rfl (by omega))) ?_
        refine d_next 2 (by kernel_rfl) rfl ?_
        refine an_buildSliceL [_] (cs := [_]) Try.underlying46 ti9 rfl rfl rfl rfl rfl rfl rfl rfl (fun b33 => ?_)
        refine d_next 3 (by kernel_rfl) rfl ?_
        refine an_append1 (sz := 1) (bytes := 16) Try.underlying46 ti9 rfl rfl rfl rfl rfl rfl rfl (by rfl) (by rfl) (by omega) (by simp only [maxLen]; omega) rfl (fun a34 c34 => ?_)
        refine d_first 7 rfl rfl rfl (by kernel_rfl) (by kernel_rfl) (tl_pv (pv_assign rfl)) ?_
        refine d_first 8 rfl rfl rfl (by kernel_rfl) (by kernel_rfl) (tl_pv (pv_assign rfl)) ?_
        refine d_done (by kernel_rfl) ?_
        refine t_seq ?_
        refine p_seq rfl ?_
        refine p_region rfl ?_
        refine wo_pv (pv_move rfl) rfl ?_
        refine wo_pv (pv_eql rfl rfl) rfl ?_
        refine q_seq ?_
        first | refine p_ite rfl rfl (fun h39 => ?_) (fun h39 => ?_) | refine p_cond rfl rfl (fun h39 => ?_) (fun h39 => ?_)
        · -- t39 True
          refine p_seq rfl ?_
          refine p_region rfl ?_
          refine wo_pv (pv_move rfl) rfl ?_
          refine wo_pv (pv_assign rfl) rfl ?_
          refine q_seq ?_
          refine p_ret rfl ?_
          refine to_block_ret ?_
          refine to_inv_ret ?_
          refine to_block_ret ?_
          have htg2 : ¬ 30 < r.length := fun h => by
            rw [if_pos h] at htg
            subst htg
            simp at h39
          rw [if_neg htg2] at htg
          have hmr : r.take m = r := List.take_of_length_le (by omega)
          rw [hmr, htg] 
          have hpp : piecesS s = out ++ [pieceS r 2] := by rw [hi, piecesS_last htg2]
          rw [hpp]
          simp only [List.length_append, List.length_singleton, List.map_append, List.map_cons, List.map_nil]
          refine fin_ret (a34, c34) (vs := [_]) (Cs := []) rfl (.tmp rfl .nil) rfl trivial ?_
          exact ent_pick
        · -- t39 False
          refine p_skip rfl ?_
          refine to_block ?_
          have htg2 : 30 < r.length := by
            apply Classical.byContradiction
            intro h
            rw [if_neg h] at htg
            subst htg
            simp at h39
          rw [if_pos htg2] at htg
          have hm30 : m = 30 := by omega
          subst hm30
          subst htg
          refine to_inv ⟨((a34, c34), out ++ [pieceS (r.take 30) 1], r.drop 30), ?_, ?_⟩ ?_ ⟨rfl, sl_eq (by simp), trivial⟩ ?_
          · dsimp only; rw [hi, piecesS_more htg2]; simp
          · dsimp only; rw [List.length_append, List.length_singleton, List.length_drop]; omega
          · dsimp only; rw [List.length_drop]; omega
          · dsimp only
            simp only [List.length_append, List.length_singleton, List.map_append, List.map_cons, List.map_nil]
            exact ent_pick
    · -- op 10
      refine an_makeSliceI (m := 30 - m) (z := .int .u8 0) Try.underlying44 ti5 rfl rfl rfl (vI_eq (by omega)) (vI_eq (by omega)) (by omega) (by rw [show Try.t5.bytes = 1 from rfl]; omega) rfl (fun b24 => ?_)
      refine d_first 11 rfl rfl rfl (by kernel_rfl) (by kernel_rfl) (tl_b2s (l := zeros (30 - m)) Try.underlying44 Try.underlying9 Try.underlying5 rfl (by exact vUs_zeros (30 - m)) (by simp)) ?_
      refine d_next2 2 14 (by kernel_rfl) rfl rfl ?_ ?_
      · -- op 2
        refine an_buildSliceI [_] (cs := [_]) Try.underlying44 ti5 rfl rfl rfl rfl rfl rfl rfl rfl (fun b16 => ?_)
        refine d_first 3 rfl rfl rfl (by kernel_rfl) (by kernel_rfl) (tl_b2s (l := [UInt8.ofNat m]) Try.underlying44 Try.underlying9 Try.underlying5 rfl (by exact vUs_byte (n := m) (by omega)) (by simp)) ?_
        refine d_first 7 rfl rfl rfl (by kernel_rfl) (by kernel_rfl) (tl_pv (pv_cat rfl rfl (by rw [hrt, List.length_singleton]; omega))) ?_
        refine d_first 12 rfl rfl rfl (by kernel_rfl) (by kernel_rfl) (tl_pv (pv_cat rfl rfl (by rw [List.length_append, hrt, hz, List.length_singleton]; omega))) ?_
        refine d_next 14 (by kernel_rfl) rfl ?_
        refine an_buildSliceI [_] (cs := [_]) Try.underlying44 ti5 rfl rfl rfl rfl rfl rfl rfl rfl (fun b28 => ?_)
        refine d_first 15 rfl rfl rfl (by kernel_rfl) (by kernel_rfl) (tl_b2s (l := [tg]) Try.underlying44 Try.underlying9 Try.underlying5 rfl (by rfl) (by simp)) ?_
        refine d_first 16 rfl rfl rfl (by kernel_rfl) (by kernel_rfl) (tl_pv (pv_cat rfl rfl (by rw [List.length_append, List.length_append, hrt, hz, List.length_singleton, List.length_singleton]; omega))) ?_
        refine d_first 17 rfl rfl rfl (by kernel_rfl) (by kernel_rfl) (tl_pv (pv_assign rfl)) ?_
        refine d_done (by kernel_rfl) ?_
        have hpc : [UInt8.ofNat m] ++ r.take m ++ zeros (30 - m) ++ [tg] = pieceS (r.take m) tg := by unfold pieceS; rw [hrt]
        rw [hpc]
        refine t_seq ?_
        refine p_seq rfl ?_
        refine d_draw rfl rfl rfl [] ?_
        refine d_first 0 rfl rfl rfl (by kernel_rfl) (by kernel_rfl) (tl_pv (pv_move rfl)) ?_
        refine d_first 1 rfl rfl rfl (by kernel_rfl) (by kernel_rfl) (tl_pv (pv_move rfl)) ?_
        refine d_first 4 rfl rfl rfl (by kernel_rfl) (by kernel_rfl) (tl_pv (pv_move rfl)) ?_
        refine d_first 5 rfl rfl rfl (by kernel_rfl) (by kernel_rfl) (tl_pv (pv_move rfl)) ?_
        refine d_first 6 rfl rfl rfl (by kernel_rfl) (by kernel_rfl) (tl_pv (pv_slice_fromm (m := m) Try.underlying9 rfl rfl rfl (by omega))) ?_
        refine d_next 2 (by kernel_rfl) rfl ?_
        refine an_buildSliceL [_] (cs := [_]) Try.underlying46 ti9 rfl rfl rfl rfl rfl rfl rfl rfl (fun b33 => ?_)
        refine d_next 3 (by kernel_rfl) rfl ?_
        refine an_append1 (sz := 1) (bytes := 16) Try.underlying46 ti9 rfl rfl rfl rfl rfl rfl rfl (by rfl) (by rfl) (by omega) (by simp only [maxLen]; omega) rfl (fun a34 c34 => ?_)
        refine d_first 7 rfl rfl rfl (by kernel_rfl) (by kernel_rfl) (tl_pv (pv_assign rfl)) ?_
        refine d_first 8 rfl rfl rfl (by kernel_rfl) (by kernel_rfl) (tl_pv (pv_assign rfl)) ?_
        refine d_done (by kernel_rfl) ?_
        refine t_seq ?_
        refine p_seq rfl ?_
        refine p_region rfl ?_
        refine wo_pv (pv_move rfl) rfl ?_
        refine wo_pv (pv_eql rfl rfl) rfl ?_
        refine q_seq ?_
        first | refine p_ite rfl rfl (fun h39 => ?_) (fun h39 => ?_) | refine p_cond rfl rfl (fun h39 => ?_) (fun h39 => ?_)
        · -- t39 True
          refine p_seq rfl ?_
          refine p_region rfl ?_
          refine wo_pv (pv_move rfl) rfl ?_
          refine wo_pv (pv_assign rfl) rfl ?_
          refine q_seq ?_
          refine p_ret rfl ?_
          refine to_block_ret ?_
          refine to_inv_ret ?_
          refine to_block_ret ?_
          have htg2 : ¬ 30 < r.length := fun h => by
            rw [if_pos h] at htg
            subst htg
            simp at h39
          rw [if_neg htg2] at htg
          have hmr : r.take m = r := List.take_of_length_le (by omega)
          rw [hmr, htg] 
          have hpp : piecesS s = out ++ [pieceS r 2] := by rw [hi, piecesS_last htg2]
          rw [hpp]
          simp only [List.length_append, List.length_singleton, List.map_append, List.map_cons, List.map_nil]
          refine fin_ret (a34, c34) (vs := [_]) (Cs := []) rfl (.tmp rfl .nil) rfl trivial ?_
          exact ent_pick
        · -- t39 False
          refine p_skip rfl ?_
          refine to_block ?_
          have htg2 : 30 < r.length := by
            apply Classical.byContradiction
            intro h
            rw [if_neg h] at htg
            subst htg
            simp at h39
          rw [if_pos htg2] at htg
          have hm30 : m = 30 := by omega
          subst hm30
          subst htg
          refine to_inv ⟨((a34, c34), out ++ [pieceS (r.take 30) 1], r.drop 30), ?_, ?_⟩ ?_ ⟨rfl, sl_eq (by simp), trivial⟩ ?_
          · dsimp only; rw [hi, piecesS_more htg2]; simp
          · dsimp only; rw [List.length_append, List.length_singleton, List.length_drop]; omega
          · dsimp only; rw [List.length_drop]; omega
          · dsimp only
            simp only [List.length_append, List.length_singleton, List.map_append, List.map_cons, List.map_nil]
            exact ent_pick
      · -- op 14
        refine an_buildSliceI [_] (cs := [_]) Try.underlying44 ti5 rfl rfl rfl rfl rfl rfl rfl rfl (fun b28 => ?_)
        refine d_first 15 rfl rfl rfl (by kernel_rfl) (by kernel_rfl) (tl_b2s (l := [tg]) Try.underlying44 Try.underlying9 Try.underlying5 rfl (by rfl) (by simp)) ?_
        refine d_next 2 (by kernel_rfl) rfl ?_
        refine an_buildSliceI [_] (cs := [_]) Try.underlying44 ti5 rfl rfl rfl rfl rfl rfl rfl rfl (fun b16 => ?_)
        refine d_first 3 rfl rfl rfl (by kernel_rfl) (by kernel_rfl) (tl_b2s (l := [UInt8.ofNat m]) Try.underlying44 Try.underlying9 Try.underlying5 rfl (by exact vUs_byte (n := m) (by omega)) (by simp)) ?_
        refine d_first 7 rfl rfl rfl (by kernel_rfl) (by kernel_rfl) (tl_pv (pv_cat rfl rfl (by rw [hrt, List.length_singleton]; omega))) ?_
        refine d_first 12 rfl rfl rfl (by kernel_rfl) (by kernel_rfl) (tl_pv (pv_cat rfl rfl (by rw [List.length_append, hrt, hz, List.length_singleton]; omega))) ?_
        refine d_first 16 rfl rfl rfl (by kernel_rfl) (by kernel_rfl) (tl_pv (pv_cat rfl rfl (by rw [List.length_append, List.length_append, hrt, hz, List.length_singleton, List.length_singleton]; omega))) ?_
        refine d_first 17 rfl rfl rfl (by kernel_rfl) (by kernel_rfl) (tl_pv (pv_assign rfl)) ?_
        refine d_done (by kernel_rfl) ?_
        have hpc : [UInt8.ofNat m] ++ r.take m ++ zeros (30 - m) ++ [tg] = pieceS (r.take m) tg := by unfold pieceS; rw [hrt]
        rw [hpc]
        refine t_seq ?_
        refine p_seq rfl ?_
        refine d_draw rfl rfl rfl [] ?_
        refine d_first 0 rfl rfl rfl (by kernel_rfl) (by kernel_rfl) (tl_pv (pv_move rfl)) ?_
        refine d_first 1 rfl rfl rfl (by kernel_rfl) (by kernel_rfl) (tl_pv (pv_move rfl)) ?_
        refine d_first 4 rfl rfl rfl (by kernel_rfl) (by kernel_rfl) (tl_pv (pv_move rfl)) ?_
        refine d_first 5 rfl rfl rfl (by kernel_rfl) (by kernel_rfl) (tl_pv (pv_move rfl)) ?_
        refine d_first 6 rfl rfl rfl (by kernel_rfl) (by kernel_rfl) (tl_pv (pv_slice_fromm (m := m) Try.underlying9 rfl rfl rfl (by omega))) ?_
        refine d_next 2 (by kernel_rfl) rfl ?_
        refine an_buildSliceL [_] (cs := [_]) Try.underlying46 ti9 rfl rfl rfl rfl rfl rfl rfl rfl (fun b33 => ?_)
        refine d_next 3 (by kernel_rfl) rfl ?_
        refine an_append1 (sz := 1) (bytes := 16) Try.underlying46 ti9 rfl rfl rfl rfl rfl rfl rfl (by rfl) (by rfl) (by omega) (by simp only [maxLen]; omega) rfl (fun a34 c34 => ?_)
        refine d_first 7 rfl rfl rfl (by kernel_rfl) (by kernel_rfl) (tl_pv (pv_assign rfl)) ?_
        refine d_first 8 rfl rfl rfl (by kernel_rfl) (by kernel_rfl) (tl_pv (pv_assign rfl)) ?_
        refine d_done (by kernel_rfl) ?_
        refine t_seq ?_
        refine p_seq rfl ?_
        refine p_region rfl ?_
        refine wo_pv (pv_move rfl) rfl ?_
        refine wo_pv (pv_eql rfl rfl) rfl ?_
        refine q_seq ?_
        first | refine p_ite rfl rfl (fun h39 => ?_) (fun h39 => ?_) | refine p_cond rfl rfl (fun h39 => ?_) (fun h39 => ?_)
        · -- t39 True
          refine p_seq rfl ?_
          refine p_region rfl ?_
          refine wo_pv (pv_move rfl) rfl ?_
          refine wo_pv (pv_assign rfl) rfl ?_
          refine q_seq ?_
          refine p_ret rfl ?_
          refine to_block_ret ?_
          refine to_inv_ret ?_
          refine to_block_ret ?_
          have htg2 : ¬ 30 < r.length := fun h => by
            rw [if_pos h] at htg
            subst htg
            simp at h39
          rw [if_neg htg2] at htg
          have hmr : r.take m = r := List.take_of_length_le (by omega)
          rw [hmr, htg] 
          have hpp : piecesS s = out ++ [pieceS r 2] := by rw [hi, piecesS_last htg2]
          rw [hpp]
          simp only [List.length_append, List.length_singleton, List.map_append, List.map_cons, List.map_nil]
          refine fin_ret (a34, c34) (vs := [_]) (Cs := []) rfl (.tmp rfl .nil) rfl trivial ?_
          exact ent_pick
        · -- t39 False
          refine p_skip rfl ?_
          refine to_block ?_
          have htg2 : 30 < r.length := by
            apply Classical.byContradiction
            intro h
            rw [if_neg h] at htg
            subst htg
            simp at h39
          rw [if_pos htg2] at htg
          have hm30 : m = 30 := by omega
          subst hm30
          subst htg
          refine to_inv ⟨((a34, c34), out ++ [pieceS (r.take 30) 1], r.drop 30), ?_, ?_⟩ ?_ ⟨rfl, sl_eq (by simp), trivial⟩ ?_
          · dsimp only; rw [hi, piecesS_more htg2]; simp
          · dsimp only; rw [List.length_append, List.length_singleton, List.length_drop]; omega
          · dsimp only; rw [List.length_drop]; omega
          · dsimp only
            simp only [List.length_append, List.length_singleton, List.map_append, List.map_cons, List.map_nil]
            exact ent_pick
    · -- op 14
      refine an_buildSliceI [_] (cs := [_]) Try.underlying44 ti5 rfl rfl rfl rfl rfl rfl rfl rfl (fun b28 => ?_)
      refine d_first 15 rfl rfl rfl (by kernel_rfl) (by kernel_rfl) (tl_b2s (l := [tg]) Try.underlying44 Try.underlying9 Try.underlying5 rfl (by rfl) (by simp)) ?_
      refine d_next2 2 10 (by kernel_rfl) rfl rfl ?_ ?_
      · -- op 2
        refine an_buildSliceI [_] (cs := [_]) Try.underlying44 ti5 rfl rfl rfl rfl rfl rfl rfl rfl (fun b16 => ?_)
        refine d_first 3 rfl rfl rfl (by kernel_rfl) (by kernel_rfl) (tl_b2s (l := [UInt8.ofNat m]) Try.underlying44 Try.underlying9 Try.underlying5 rfl (by exact vUs_byte (n := m) (by omega)) (by simp)) ?_
        refine d_first 7 rfl rfl rfl (by kernel_rfl) (by kernel_rfl) (tl_pv (pv_cat rfl rfl (by rw [hrt, List.length_singleton]; omega))) ?_
        refine d_next 10 (by kernel_rfl) rfl ?_
        refine an_makeSliceI (m := 30 - m) (z := .int .u8 0) Try.underlying44 ti5 rfl rfl rfl (vI_eq (by omega)) (vI_eq (by omega)) (by omega) (by rw [show Try.t5.bytes = 1 from rfl]; omega) rfl (fun b24 => ?_)
        refine d_first 11 rfl rfl rfl (by kernel_rfl) (by kernel_rfl) (tl_b2s (l := zeros (30 - m)) Try.underlying44 Try.underlying9 Try.underlying5 rfl (by exact vUs_zeros (30 - m)) (by simp)) ?_
        refine d_first 12 rfl rfl rfl (by kernel_rfl) (by kernel_rfl) (tl_pv (pv_cat rfl rfl (by rw [List.length_append, hrt, hz, List.length_singleton]; omega))) ?_
        refine d_first 16 rfl rfl rfl (by kernel_rfl) (by kernel_rfl) (tl_pv (pv_cat rfl rfl (by rw [List.length_append, List.length_append, hrt, hz, List.length_singleton, List.length_singleton]; omega))) ?_
        refine d_first 17 rfl rfl rfl (by kernel_rfl) (by kernel_rfl) (tl_pv (pv_assign rfl)) ?_
        refine d_done (by kernel_rfl) ?_
        have hpc : [UInt8.ofNat m] ++ r.take m ++ zeros (30 - m) ++ [tg] = pieceS (r.take m) tg := by unfold pieceS; rw [hrt]
        rw [hpc]
        refine t_seq ?_
        refine p_seq rfl ?_
        refine d_draw rfl rfl rfl [] ?_
        refine d_first 0 rfl rfl rfl (by kernel_rfl) (by kernel_rfl) (tl_pv (pv_move rfl)) ?_
        refine d_first 1 rfl rfl rfl (by kernel_rfl) (by kernel_rfl) (tl_pv (pv_move rfl)) ?_
        refine d_first 4 rfl rfl rfl (by kernel_rfl) (by kernel_rfl) (tl_pv (pv_move rfl)) ?_
        refine d_first 5 rfl rfl rfl (by kernel_rfl) (by kernel_rfl) (tl_pv (pv_move rfl)) ?_
        refine d_first 6 rfl rfl rfl (by kernel_rfl) (by kernel_rfl) (tl_pv (pv_slice_fromm (m := m) Try.underlying9 rfl rfl rfl (by omega))) ?_
        refine d_next 2 (by kernel_rfl) rfl ?_
        refine an_buildSliceL [_] (cs := [_]) Try.underlying46 ti9 rfl rfl rfl rfl rfl rfl rfl rfl (fun b33 => ?_)
        refine d_next 3 (by kernel_rfl) rfl ?_
        refine an_append1 (sz := 1) (bytes := 16) Try.underlying46 ti9 rfl rfl rfl rfl rfl rfl rfl (by rfl) (by rfl) (by omega) (by simp only [maxLen]; omega) rfl (fun a34 c34 => ?_)
        refine d_first 7 rfl rfl rfl (by kernel_rfl) (by kernel_rfl) (tl_pv (pv_assign rfl)) ?_
        refine d_first 8 rfl rfl rfl (by kernel_rfl) (by kernel_rfl) (tl_pv (pv_assign rfl)) ?_
        refine d_done (by kernel_rfl) ?_
        refine t_seq ?_
        refine p_seq rfl ?_
        refine p_region rfl ?_
        refine wo_pv (pv_move rfl) rfl ?_
        refine wo_pv (pv_eql rfl rfl) rfl ?_
        refine q_seq ?_
        first | refine p_ite rfl rfl (fun h39 => ?_) (fun h39 => ?_) | refine p_cond rfl rfl (fun h39 => ?_) (fun h39 => ?_)
        · -- t39 True
          refine p_seq rfl ?_
          refine p_region rfl ?_
          refine wo_pv (pv_move rfl) rfl ?_
          refine wo_pv (pv_assign rfl) rfl ?_
          refine q_seq ?_
          refine p_ret rfl ?_
          refine to_block_ret ?_
          refine to_inv_ret ?_
          refine to_block_ret ?_
          have htg2 : ¬ 30 < r.length := fun h => by
            rw [if_pos h] at htg
            subst htg
            simp at h39
          rw [if_neg htg2] at htg
          have hmr : r.take m = r := List.take_of_length_le (by omega)
          rw [hmr, htg] 
          have hpp : piecesS s = out ++ [pieceS r 2] := by rw [hi, piecesS_last htg2]
          rw [hpp]
          simp only [List.length_append, List.length_singleton, List.map_append, List.map_cons, List.map_nil]
          refine fin_ret (a34, c34) (vs := [_]) (Cs := []) rfl (.tmp rfl .nil) rfl trivial ?_
          exact ent_pick
        · -- t39 False
          refine p_skip rfl ?_
          refine to_block ?_
          have htg2 : 30 < r.length := by
            apply Classical.byContradiction
            intro h
            rw [if_neg h] at htg
            subst htg
            simp at h39
          rw [if_pos htg2] at htg
          have hm30 : m = 30 := by omega
          subst hm30
          subst htg
          refine to_inv ⟨((a34, c34), out ++ [pieceS (r.take 30) 1], r.drop 30), ?_, ?_⟩ ?_ ⟨rfl, sl_eq (by simp), trivial⟩ ?_
          · dsimp only; rw [hi, piecesS_more htg2]; simp
          · dsimp only; rw [List.length_append, List.length_singleton, List.length_drop]; omega
          · dsimp only; rw [List.length_drop]; omega
          · dsimp only
            simp only [List.length_append, List.length_singleton, List.map_append, List.map_cons, List.map_nil]
            exact ent_pick
      · -- op 10
        refine an_makeSliceI (m := 30 - m) (z := .int .u8 0) Try.underlying44 ti5 rfl rfl rfl (vI_eq (by omega)) (vI_eq (by omega)) (by omega) (by rw [show Try.t5.bytes = 1 from rfl]; omega) rfl (fun b24 => ?_)
        refine d_first 11 rfl rfl rfl (by kernel_rfl) (by kernel_rfl) (tl_b2s (l := zeros (30 - m)) Try.underlying44 Try.underlying9 Try.underlying5 rfl (by exact vUs_zeros (30 - m)) (by simp)) ?_
        refine d_next 2 (by kernel_rfl) rfl ?_
        refine an_buildSliceI [_] (cs := [_]) Try.underlying44 ti5 rfl rfl rfl rfl rfl rfl rfl rfl (fun b16 => ?_)
        refine d_first 3 rfl rfl rfl (by kernel_rfl) (by kernel_rfl) (tl_b2s (l := [UInt8.ofNat m]) Try.underlying44 Try.underlying9 Try.underlying5 rfl (by exact vUs_byte (n := m) (by omega)) (by simp)) ?_
        refine d_first 7 rfl rfl rfl (by kernel_rfl) (by kernel_rfl) (tl_pv (pv_cat rfl rfl (by rw [hrt, List.length_singleton]; omega))) ?_
        refine d_first 12 rfl rfl rfl (by kernel_rfl) (by kernel_rfl) (tl_pv (pv_cat rfl rfl (by rw [List.length_append, hrt, hz, List.length_singleton]; omega))) ?_
        refine d_first 16 rfl rfl rfl (by kernel_rfl) (by kernel_rfl) (tl_pv (pv_cat rfl rfl (by rw [List.length_append, List.length_append, hrt, hz, List.length_singleton, List.length_singleton]; omega))) ?_
        refine d_first 17 rfl rfl rfl (by kernel_rfl) (by kernel_rfl) (tl_pv (pv_assign rfl)) ?_
        refine d_done (by kernel_rfl) ?_
        have hpc : [UInt8.ofNat m] ++ r.take m ++ zeros (30 - m) ++ [tg] = pieceS (r.take m) tg := by unfold pieceS; rw [hrt]
        rw [hpc]
        refine t_seq ?_
        refine p_seq rfl ?_
        refine d_draw rfl rfl rfl [] ?_
        refine d_first 0 rfl rfl rfl (by kernel_rfl) (by kernel_rfl) (tl_pv (pv_move rfl)) ?_
        refine d_first 1 rfl rfl rfl (by kernel_rfl) (by kernel_rfl) (tl_pv (pv_move rfl)) ?_
        refine d_first 4 rfl rfl rfl (by kernel_rfl) (by kernel_rfl) (tl_pv (pv_move rfl)) ?_
        refine d_first 5 rfl rfl rfl (by kernel_rfl) (by kernel_rfl) (tl_pv (pv_move rfl)) ?_
        refine d_first 6 rfl rfl rfl (by kernel_rfl) (by kernel_rfl) (tl_pv (pv_slice_fromm (m := m) Try.underlying9 rfl rfl rfl (by omega))) ?_
        refine d_next 2 (by kernel_rfl) rfl ?_
        refine an_buildSliceL [_] (cs := [_]) Try.underlying46 ti9 rfl rfl rfl rfl rfl rfl rfl rfl (fun b33 => ?_)
        refine d_next 3 (by kernel_rfl) rfl ?_
        refine an_append1 (sz := 1) (bytes := 16) Try.underlying46 ti9 rfl rfl rfl rfl rfl rfl rfl (by rfl) (by rfl) (by omega) (by simp only [maxLen]; omega) rfl (fun a34 c34 => ?_)
        refine d_first 7 rfl rfl rfl (by kernel_rfl) (by kernel_rfl) (tl_pv (pv_assign rfl)) ?_
        refine d_first 8 rfl rfl rfl (by kernel_rfl) (by kernel_rfl) (tl_pv (pv_assign rfl)) ?_
        refine d_done (by kernel_rfl) ?_
        refine t_seq ?_
        refine p_seq rfl ?_
        refine p_region rfl ?_
        refine wo_pv (pv_move rfl) rfl ?_
        refine wo_pv (pv_eql rfl rfl) rfl ?_
        refine q_seq ?_
        first | refine p_ite rfl rfl (fun h39 => ?_) (fun h39 => ?_) | refine p_cond rfl rfl (fun h39 => ?_) (fun h39 => ?_)
        · -- t39 True
          refine p_seq rfl ?_
          refine p_region rfl ?_
          refine wo_pv (pv_move rfl) rfl ?_
          refine wo_pv (pv_assign rfl) rfl ?_
          refine q_seq ?_
          refine p_ret rfl ?_
          refine to_block_ret ?_
          refine to_inv_ret ?_
          refine to_block_ret ?_
          have htg2 : ¬ 30 < r.length := fun h => by
            rw [if_pos h] at htg
            subst htg
            simp at h39
          rw [if_neg htg2] at htg
          have hmr : r.take m = r := List.take_of_length_le (by omega)
          rw [hmr, htg] 
          have hpp : piecesS s = out ++ [pieceS r 2] := by rw [hi, piecesS_last htg2]
          rw [hpp]
          simp only [List.length_append, List.length_singleton, List.map_append, List.map_cons, List.map_nil]
          refine fin_ret (a34, c34) (vs := [_]) (Cs := []) rfl (.tmp rfl .nil) rfl trivial ?_
          exact ent_pick
        · -- t39 False
          refine p_skip rfl ?_
          refine to_block ?_
          have htg2 : 30 < r.length := by
            apply Classical.byContradiction
            intro h
            rw [if_neg h] at htg
            subst htg
            simp at h39
          rw [if_pos htg2] at htg
          have hm30 : m = 30 := by omega
          subst hm30
          subst htg
          refine to_inv ⟨((a34, c34), out ++ [pieceS (r.take 30) 1], r.drop 30), ?_, ?_⟩ ?_ ⟨rfl, sl_eq (by simp), trivial⟩ ?_
          · dsimp only; rw [hi, piecesS_more htg2]; simp
          · dsimp only; rw [List.length_append, List.length_singleton, List.length_drop]; omega
          · dsimp only; rw [List.length_drop]; omega
          · dsimp only
            simp only [List.length_append, List.length_singleton, List.map_append, List.map_cons, List.map_nil]
            exact ent_pick
  · -- to the place 6
    refine p_seq rfl ?_
    refine p_region rfl ?_
    refine wo_pv (pv_move rfl) rfl ?_
    refine wo_pv (pv_move rfl) rfl ?_
    refine wo_pv (pv_call_len_s Try.underlying9 rfl) rfl ?_
    refine wo_pv (pv_eql rfl rfl) rfl ?_
    refine q_seq ?_
    first | refine p_ite rfl rfl (fun h13 => ?_) (fun h13 => ?_) | refine p_cond rfl rfl (fun h13 => ?_) (fun h13 => ?_)
    · -- t13 True
      refine p_region rfl ?_
      refine wo_pv (pv_assign rfl) rfl ?_
      refine wo_nil ?_
      first
      | exact to_inv ⟨2, by rw [if_neg (by omega)]⟩ trivial ⟨rfl, rfl, rfl, rfl, trivial⟩ ent_pick
      | exact to_inv ⟨1, by rw [if_pos (by omega)]⟩ trivial ⟨rfl, rfl, rfl, rfl, trivial⟩ ent_pick
    · -- t13 False
      refine p_skip rfl ?_
      first
      | exact to_inv ⟨2, by rw [if_neg (by omega)]⟩ trivial ⟨rfl, rfl, rfl, rfl, trivial⟩ ent_pick
      | exact to_inv ⟨1, by rw [if_pos (by omega)]⟩ trivial ⟨rfl, rfl, rfl, rfl, trivial⟩ ent_pick
theorem ok_o {p : Nat} {o : Od} {M : Kn} {h : Res} (x : (IsO p o).at_ M h) : o.Ok := by
  obtain ⟨a, c, x⟩ := x
  obtain ⟨_, _, _, _, ok, _⟩ := x
  exact ok
theorem ref5_Commit_sp (p : Nat) (o : Od) (s : Bs) (hs : s.length ≤ 4398046511104) : Sp1 Try.prog 26 [.pointer (some ⟨p, 0, none⟩), vS s] [IsO p o] (vB (commitO o s).2) [IsO p (commitO o s).1] := by
  refine Sp.body (n := 42) Try.call26 Try.func26 rfl rfl rfl ?_
  refine wc_know (A := IsO p o) .here ok_o (fun ok => ?_)
  have hmany := ok.many
  have hse := (scanS_end o.secs 0 [] [] 0 (Nat.le_refl _) (Nat.le_refl _)).2
  rw [Nat.zero_add] at hse
  have hse : (scanO o).2 ≤ o.secs.length := hse
  have hpl := (piecesS_len s).2
  have hpm : ∀ q ∈ piecesS s, q.length = 32 := fun q hq => piecesS_mem hq
  have hco : commitO o s = if (o.secs.length : Int) - (scanO o).2 < (piecesS s).length then (o, false) else o.writes (scanO o).2 (piecesS s) := rfl
  rw [hco]
  refine p_seq rfl ?_
  refine p_region rfl ?_
  refine wo_pv (pv_assign rfl) rfl ?_
  refine q_seq ?_
  refine p_seq rfl ?_
  refine p_region rfl ?_
  refine wo_pv (pv_move rfl) rfl ?_
  refine r_callX (ref5_Scan_sp p o) rfl rfl rfl (fun x12 _ => ?_)
  refine wo_pv (pv_move rfl) rfl ?_
  refine wo_pv (pv_extract rfl rfl) rfl ?_
  refine wo_pv (pv_extract rfl rfl) rfl ?_
  refine wo_pv (pv_assign rfl) rfl ?_
  refine wo_pv (pv_assign rfl) rfl ?_
  refine q_seq ?_
  refine p_seq rfl ?_
  refine p_region rfl ?_
  refine wo_pv (pv_move rfl) rfl ?_
  refine r_callX (ref5_Pieces_sp s hs) rfl rfl rfl (fun x16 _ => ?_)
  refine wo_front (IsO p o) ?_
  refine wo_exi fun a => wo_exi fun c => wo_al (wo_pu fun _ => ?_)
  refine wo_pv (pv_assign rfl) rfl ?_
  refine q_seq ?_
  refine p_seq rfl ?_
  refine p_seq rfl ?_
  refine p_region rfl ?_
  refine wo_pv (pv_move rfl) rfl ?_
  refine wo_pv (pv_call_len_sl Try.underlying46 rfl) rfl ?_
  refine wo_pv (pv_move rfl) rfl ?_
  refine wo_pv (by first | exact pv_nilCheck_p rfl | exact pv_nilCheck_f rfl) rfl ?_
  refine wo_pv (pv_fieldAddrk Try.underlying57 rfl ti46 rfl rfl (k := 0) rfl (by first | exact Nat.zero_add _ | exact Nat.add_zero _ | exact rfl)) rfl ?_
  refine r_load Try.underlying46 rfl rfl rfl rfl ?_
  refine wo_pv (pv_call_len_sl Try.underlying46 rfl) rfl ?_
  refine wo_pv (pv_move rfl) rfl ?_
  refine wo_pv (pv_sub rfl rfl (by omega)) rfl ?_
  refine wo_pv (pv_gtr rfl rfl) rfl ?_
  refine q_seq ?_
  first | refine p_ite rfl rfl (fun h26 => ?_) (fun h26 => ?_) | refine p_cond rfl rfl (fun h26 => ?_) (fun h26 => ?_)
  · -- t26 True
    refine p_seq rfl ?_
    refine p_region rfl ?_
    refine wo_pv (pv_assign rfl) rfl ?_
    refine q_seq ?_
    refine p_ret rfl ?_
    refine t_seq_ret ?_
    rw [if_pos h26]
    refine fin_ret () (vs := [_]) (Cs := []) rfl (.tmp rfl .nil) rfl trivial ?_
    exact ent_step (fold_isO o ok (by rfl) (by exact ⟨rfl, rfl⟩) (by exact ⟨_, _, rfl⟩) (by rfl) (by rfl) (by rfl) (by rfl) (by rfl)) ent_nil
  · -- t26 False
    refine p_skip rfl ?_
    refine t_seq ?_
    refine p_seq rfl ?_
    refine p_seq rfl ?_
    rw [if_neg h26]
    refine p_region rfl ?_
    refine wo_pv (pv_move rfl) rfl ?_
    refine wo_pv (pv_call_len_sl Try.underlying46 rfl) rfl ?_
    refine wo_pv (pv_move rfl) rfl ?_
    refine q_seq ?_
    refine p_block 0 rfl ?_
    refine p_loop (fun (i : { x : Od × Nat // o.writes (scanO o).2 (piecesS s) = x.1.writes ((scanO o).2 + x.2) ((piecesS s).drop x.2) ∧ x.2 ≤ (piecesS s).length ∧ x.1.secs.length = o.secs.length }) => [(0, .pointer (some ⟨p, 0, none⟩)), (6, vI (scanO o).2), (27, .slice x16.1 (piecesS s).length x16.2), (28, vI (piecesS s).length), (29, vI i.1.2)]) (fun (i : { x : Od × Nat // o.writes (scanO o).2 (piecesS s) = x.1.writes ((scanO o).2 + x.2) ((piecesS s).drop x.2) ∧ x.2 ≤ (piecesS s).length ∧ x.1.secs.length = o.secs.length }) => [IsO p i.1.1, Row 9 1 (.slice x16.1 (piecesS s).length x16.2) (piecesS s).length ((piecesS s).map vS)]) (fun (i : { x : Od × Nat // o.writes (scanO o).2 (piecesS s) = x.1.writes ((scanO o).2 + x.2) ((piecesS s).drop x.2) ∧ x.2 ≤ (piecesS s).length ∧ x.1.secs.length = o.secs.length }) => (piecesS s).length - i.1.2) rfl (⟨(o, 0), rfl, Nat.zero_le _, rfl⟩) ?_ ?_ (fun i => ?_)
    · exact ⟨rfl, rfl, rfl, rfl, rfl, trivial⟩
    · -- H at start
      exact ent_step (fold_isO o ok (by rfl) (by exact ⟨rfl, rfl⟩) (by exact ⟨_, _, rfl⟩) (by rfl) (by rfl) (by rfl) (by rfl) (by rfl)) ent_pick
    obtain ⟨⟨o1, j⟩, hi, hj, hol⟩ := i
    dsimp only at hi hj hol
    try dsimp only
    refine p_seq rfl ?_
    refine p_region rfl ?_
    refine wo_pv (pv_lss rfl rfl) rfl ?_
    refine q_seq ?_
    refine p_seq rfl ?_
    first | refine p_ite rfl rfl (fun h30 => ?_) (fun h30 => ?_) | refine p_cond rfl rfl (fun h30 => ?_) (fun h30 => ?_)
    · -- t30 True
      refine p_skip rfl ?_
      refine t_seq ?_
      refine p_seq rfl ?_
      refine p_block 1 rfl ?_
      refine p_seq rfl ?_
      have hjl : j < (piecesS s).length := by omega
      have hp32 := hpm _ (List.getElem_mem hjl)
      have hdr : (piecesS s).drop j = (piecesS s)[j] :: (piecesS s).drop (j + 1) := List.drop_eq_getElem_cons hjl
      rw [hdr, Od.writes] at hi
      have hwl : ((o1.write (((scanO o).2 + j : Nat) : Int) (piecesS s)[j]).1).secs.length = o1.secs.length := by have := Od.writes_len [(piecesS s)[j]] o1 ((scanO o).2 + j); rw [Od.writes] at this; revert this; cases o1.write (((scanO o).2 + j : Nat) : Int) (piecesS s)[j] with | mk o2 b => cases b <;> exact fun h => h
      have hcast : ((scanO o).2 : Int) + (j : Int) = (((scanO o).2 + j : Nat) : Int) := by omega
      have hwr := ref5_Write_sp p o1 (((scanO o).2 + j : Nat) : Int) (piecesS s)[j] (by omega)
      rw [← hcast] at hwr hwl
      rw [← hcast] at hi
      cases hw : o1.write (((scanO o).2 : Int) + (j : Int)) (piecesS s)[j] with
      | mk o2 b =>
      rw [hw] at hi hwr hwl
      dsimp only at hi hwr hwl
      refine p_region rfl ?_
      refine wo_pv (pv_move rfl) rfl ?_
      refine r_elemAddr (sz := 1) Try.underlying46 ti9 rfl rfl rfl rfl (by omega) (by first | (rw [List.length_map]; omega) | (rw [flat_len (sz := 1) (fun _ => rfl)]; omega) | (simp; omega)) (Nat.mul_one _) rfl ?_
      refine r_eload Try.underlying9 rfl rfl (get_map (by omega)) rfl ?_
      refine wo_pv (pv_assign rfl) rfl ?_
      refine wo_pv (pv_assign rfl) rfl ?_
      refine q_seq ?_
      refine p_seq rfl ?_
      refine p_region rfl ?_
      refine wo_pv (pv_move rfl) rfl ?_
      refine wo_pv (pv_move rfl) rfl ?_
      refine wo_pv (pv_move rfl) rfl ?_
      refine wo_pv (pv_add rfl rfl (by omega)) rfl ?_
      refine wo_pv (pv_move rfl) rfl ?_
      refine r_call1 hwr rfl rfl rfl ?_
      refine wo_pv (by first | exact pv_notd rfl | exact pv_not rfl) rfl ?_
      refine q_seq ?_
      first | refine p_ite rfl rfl (fun h40 => ?_) (fun h40 => ?_) | refine p_cond rfl rfl (fun h40 => ?_) (fun h40 => ?_)
      · -- t40 True
        refine p_seq rfl ?_
        refine p_region rfl ?_
        refine wo_pv (pv_assign rfl) rfl ?_
        refine q_seq ?_
        refine p_ret rfl ?_
        refine to_block_ret ?_
        refine t_seq_ret ?_
        refine to_inv_ret ?_
        refine to_block_ret ?_
        refine t_seq_ret ?_
        have hb : b = false := by simpa using h40
        subst hb
        dsimp only at hi
        rw [hi]
        refine fin_ret () (vs := [_]) (Cs := []) rfl (.tmp rfl .nil) rfl trivial ?_
        exact ent_pick
      · -- t40 False
        refine p_skip rfl ?_
        refine to_block ?_
        refine t_seq ?_
        refine p_region rfl ?_
        refine wo_pv (pv_add rfl rfl (by omega)) rfl ?_
        refine wo_pv (pv_move rfl) rfl ?_
        refine wo_nil ?_
        have hb : b = true := by simpa using h40
        subst hb
        dsimp only at hi
        refine to_inv ⟨(o2, j + 1), ?_, by dsimp only; omega, by dsimp only; rw [hwl, hol]⟩ (by dsimp only; omega) ⟨rfl, rfl, rfl, rfl, rfl, trivial⟩ ?_
        · dsimp only; rw [hi, Nat.add_assoc]
        · exact ent_pick
    · -- t30 False
      refine p_exit 0 rfl ?_
      refine t_seq_exit ?_
      refine to_inv_exit ?_
      refine to_block_here ?_
      refine t_seq ?_
      refine p_seq rfl ?_
      refine p_region rfl ?_
      refine wo_pv (pv_assign rfl) rfl ?_
      refine q_seq ?_
      refine p_ret rfl ?_
      have hjn : j = (piecesS s).length := by omega
      subst hjn
      rw [List.drop_length, Od.writes] at hi
      rw [hi]
      refine fin_ret () (vs := [_]) (Cs := []) rfl (.tmp rfl .nil) rfl trivial ?_
      exact ent_pick
end Go.Proofs.Ytimafngkifakfaa

/- The document's own texts of rows, rows that are turned: walks. -/
set_option maxRecDepth 100000
namespace Go.Proofs.Ytimafngkifakfaa
theorem vUs_dgt (n : Nat) {m : Int} (h : m = 48 + ((n % 10 : Nat) : Int)) : [vU (IntKind.u8.wrap m)] = vUs [dgt n] := by
  have e : IntKind.u8.wrap m = m := u8_in' (by omega)
  have := dgt_toNat n
  rw [e]
  simp only [vUs, List.map_cons, List.map_nil, this]
  rw [h]; congr 2
theorem ref1_Dec_sp (n : Nat) (h : n ≤ 1073741824) : SpF Try.prog 45 [vI n] (vS (decN n)) := by
  induction n using Nat.strongRecOn with
  | _ n ih =>
  have hlen := decN_len n
  by_cases h10 : n < 10
  · have hn : decN n = [dgt n] := by rw [decN, if_pos h10]
    refine Sp.body (n := 26) Try.call45 Try.func45 rfl rfl rfl ?_
    refine p_seq rfl ?_
    refine p_region rfl ?_
    refine wo_pv (pv_assign rfl) rfl ?_
    refine q_seq ?_
    refine p_seq rfl ?_
    refine p_seq rfl ?_
    refine p_region rfl ?_
    refine wo_pv (pv_move rfl) rfl ?_
    refine wo_pv (pv_lss rfl rfl) rfl ?_
    refine wo_pv (pv_move rfl) rfl ?_
    first | refine wo_gite (j := 2) rfl rfl (fun h5 => ?_) (fun h5 => ?_) | refine wo_gsplit (j := 2) rfl rfl (fun h5 => ?_) (fun h5 => ?_)
    · -- t5 True
      exfalso; omega
      --done
    · -- t5 False
      refine wo_in (b := false) rfl ?_
      refine wo_pv (pv_move rfl) rfl ?_
      refine wo_in (b := false) rfl ?_
      refine wo_pv (pv_gtr rfl rfl) rfl ?_
      refine wo_pv (pv_pick_f rfl rfl) rfl ?_
      refine q_seq ?_
      first | refine p_ite rfl rfl (fun h8 => ?_) (fun h8 => ?_) | refine p_cond rfl rfl (fun h8 => ?_) (fun h8 => ?_)
      · -- t8 True
        exfalso; omega
        --done
      · -- t8 False
        refine p_skip rfl ?_
        refine t_seq ?_
        refine p_seq rfl ?_
        refine p_seq rfl ?_
        refine p_region rfl ?_
        refine wo_pv (pv_move rfl) rfl ?_
        refine wo_pv (pv_lss rfl rfl) rfl ?_
        refine q_seq ?_
        first | refine p_ite rfl rfl (fun h10 => ?_) (fun h10 => ?_) | refine p_cond rfl rfl (fun h10 => ?_) (fun h10 => ?_)
        · -- t10 True
          refine p_seq rfl ?_
          refine p_region rfl ?_
          refine wo_pv (pv_move rfl) rfl ?_
          refine wo_pv (pv_add rfl rfl (by omega)) rfl ?_
          refine wo_pv (pv_conv rfl Try.underlying3 Try.underlying5) rfl ?_
          refine r_buildSliceL [_] (cs := [_]) Try.underlying44 ti5 rfl rfl rfl rfl rfl rfl rfl rfl (fun b14 => ?_)
          refine r_b2s (l := [dgt n]) Try.underlying44 Try.underlying9 Try.underlying5 rfl (by exact vUs_dgt n (by omega)) (by simp) rfl ?_
          refine wo_pv (pv_assign rfl) rfl ?_
          refine q_seq ?_
          refine p_ret rfl ?_
          refine t_seq_ret ?_
          exact fin_ret () (vs := [_]) (Cs := []) rfl (.tmp rfl .nil) (by rw [hn]; rfl) trivial ent_nil
        · -- t10 False
          exfalso; omega
          --done
  · have hn : decN n = decN (n / 10) ++ [dgt n] := by rw [decN, if_neg h10]
    have hc := ih (n / 10) (by omega) (by omega)
    rw [show (((n / 10 : Nat)) : Int) = (n : Int) / 10 from by omega] at hc
    have hl2 := decN_len (n / 10)
    refine Sp.body (n := 26) Try.call45 Try.func45 rfl rfl rfl ?_
    refine p_seq rfl ?_
    refine p_region rfl ?_
    refine wo_pv (pv_assign rfl) rfl ?_
    refine q_seq ?_
    refine p_seq rfl ?_
    refine p_seq rfl ?_
    refine p_region rfl ?_
    refine wo_pv (pv_move rfl) rfl ?_
    refine wo_pv (pv_lss rfl rfl) rfl ?_
    refine wo_pv (pv_move rfl) rfl ?_
    first | refine wo_gite (j := 2) rfl rfl (fun h5 => ?_) (fun h5 => ?_) | refine wo_gsplit (j := 2) rfl rfl (fun h5 => ?_) (fun h5 => ?_)
    · -- t5 True
      exfalso; omega
      --done
    · -- t5 False
      refine wo_in (b := false) rfl ?_
      refine wo_pv (pv_move rfl) rfl ?_
      refine wo_in (b := false) rfl ?_
      refine wo_pv (pv_gtr rfl rfl) rfl ?_
      refine wo_pv (pv_pick_f rfl rfl) rfl ?_
      refine q_seq ?_
      first | refine p_ite rfl rfl (fun h8 => ?_) (fun h8 => ?_) | refine p_cond rfl rfl (fun h8 => ?_) (fun h8 => ?_)
      · -- t8 True
        exfalso; omega
        --done
      · -- t8 False
        refine p_skip rfl ?_
        refine t_seq ?_
        refine p_seq rfl ?_
        refine p_seq rfl ?_
        refine p_region rfl ?_
        refine wo_pv (pv_move rfl) rfl ?_
        refine wo_pv (pv_lss rfl rfl) rfl ?_
        refine q_seq ?_
        first | refine p_ite rfl rfl (fun h10 => ?_) (fun h10 => ?_) | refine p_cond rfl rfl (fun h10 => ?_) (fun h10 => ?_)
        · -- t10 True
          exfalso; omega
          --done
        · -- t10 False
          refine p_skip rfl ?_
          refine t_seq ?_
          refine p_seq rfl ?_
          refine d_draw rfl rfl rfl [] ?_
          refine d_first 0 rfl rfl rfl (by kernel_rfl) (by kernel_rfl) (tl_pv (pv_move rfl)) ?_
          refine d_first 1 rfl rfl rfl (by kernel_rfl) (by kernel_rfl) (tl_pv (pv_quo rfl rfl (by omega))) ?_
          refine d_first 3 rfl rfl rfl (by kernel_rfl) (by kernel_rfl) (tl_pv (pv_move rfl)) ?_
          refine d_first 4 rfl rfl rfl (by kernel_rfl) (by kernel_rfl) (tl_pv (pv_rem rfl rfl (by omega))) ?_
          refine d_first 5 rfl rfl rfl (by kernel_rfl) (by kernel_rfl) (tl_pv (pv_add rfl rfl (by omega))) ?_
          refine d_first 6 rfl rfl rfl (by kernel_rfl) (by kernel_rfl) (tl_pv (pv_conv rfl Try.underlying3 Try.underlying5)) ?_
          refine d_next2 2 7 (by kernel_rfl) rfl rfl ?_ ?_
          · -- op 2
            refine an_callF hc rfl rfl rfl ?_
            refine d_next 7 (by kernel_rfl) rfl ?_
            refine an_buildSliceI [_] (cs := [_]) Try.underlying44 ti5 rfl rfl rfl rfl rfl rfl rfl rfl (fun b23 => ?_)
            refine d_first 8 rfl rfl rfl (by kernel_rfl) (by kernel_rfl) (tl_b2s (l := [dgt n]) Try.underlying44 Try.underlying9 Try.underlying5 rfl (by exact vUs_dgt n (by omega)) (by simp)) ?_
            refine d_first 9 rfl rfl rfl (by kernel_rfl) (by kernel_rfl) (tl_pv (pv_cat rfl rfl (by rw [List.length_singleton]; omega))) ?_
            refine d_first 10 rfl rfl rfl (by kernel_rfl) (by kernel_rfl) (tl_pv (pv_assign rfl)) ?_
            refine d_done (by kernel_rfl) ?_
            refine t_seq ?_
            refine p_ret rfl ?_
            exact fin_ret () (vs := [_]) (Cs := []) rfl (.tmp rfl .nil) (by rw [hn]; rfl) trivial ent_nil
          · -- op 7
            refine an_buildSliceI [_] (cs := [_]) Try.underlying44 ti5 rfl rfl rfl rfl rfl rfl rfl rfl (fun b23 => ?_)
            refine d_first 8 rfl rfl rfl (by kernel_rfl) (by kernel_rfl) (tl_b2s (l := [dgt n]) Try.underlying44 Try.underlying9 Try.underlying5 rfl (by exact vUs_dgt n (by omega)) (by simp)) ?_
            refine d_next 2 (by kernel_rfl) rfl ?_
            refine an_callF hc rfl rfl rfl ?_
            refine d_first 9 rfl rfl rfl (by kernel_rfl) (by kernel_rfl) (tl_pv (pv_cat rfl rfl (by rw [List.length_singleton]; omega))) ?_
            refine d_first 10 rfl rfl rfl (by kernel_rfl) (by kernel_rfl) (tl_pv (pv_assign rfl)) ?_
            refine d_done (by kernel_rfl) ?_
            refine t_seq ?_
            refine p_ret rfl ?_
            exact fin_ret () (vs := [_]) (Cs := []) rfl (.tmp rfl .nil) (by rw [hn]; rfl) trivial ent_nil
theorem ref5_Rows_sp {B : HP} {a : Option Addr} (n c : Nat) (l : List Rw) (sh : SlA B a (l.flatMap rowC)) (hn : l.length = n) (hb : n ≤ 140737488355328) (hk : ∀ r ∈ l, r.key.length ≤ 1073741824 ∧ r.val.length ≤ 1073741824) (ht : (textOf l).length ≤ 4398046511104) :
    Sp1 Try.prog 23 [.slice a n c] [B] (vS (textOf l)) [B] := by
  subst hn
  haveI : RdSl a (l.flatMap rowC) [B] := ⟨⟨B, sh, .here⟩⟩
  refine Sp.body (n := 41) Try.call23 Try.func23 rfl rfl rfl ?_
  refine p_seq rfl ?_
  refine p_region rfl ?_
  refine wo_pv (pv_assign rfl) rfl ?_
  refine q_seq ?_
  refine p_seq rfl ?_
  refine p_region rfl ?_
  refine wo_pv (pv_assign rfl) rfl ?_
  refine q_seq ?_
  refine p_seq rfl ?_
  refine p_seq rfl ?_
  refine p_region rfl ?_
  refine wo_pv (pv_move rfl) rfl ?_
  refine wo_pv (pv_call_len_sl Try.underlying38 rfl) rfl ?_
  refine wo_pv (pv_move rfl) rfl ?_
  refine q_seq ?_
  refine p_block 0 rfl ?_
  refine p_loop (fun (i : { j : Nat // j ≤ l.length }) => [(3, vS (textOf (l.take i.1))), (6, .slice a l.length c), (7, vI l.length), (8, vI i.1)]) (fun (i : { j : Nat // j ≤ l.length }) => [B]) (fun (i : { j : Nat // j ≤ l.length }) => l.length - i.1) rfl (⟨0, Nat.zero_le _⟩) ?_ ?_ (fun i => ?_)
  · exact ⟨rfl, rfl, rfl, rfl, trivial⟩
  · -- H at start
    exact Ent.refl _
  obtain ⟨j, hj⟩ := i
  try dsimp only
  refine p_seq rfl ?_
  refine p_region rfl ?_
  refine wo_pv (pv_lss rfl rfl) rfl ?_
  refine q_seq ?_
  refine p_seq rfl ?_
  first | refine p_ite rfl rfl (fun h9 => ?_) (fun h9 => ?_) | refine p_cond rfl rfl (fun h9 => ?_) (fun h9 => ?_)
  · -- t9 True
    refine p_skip rfl ?_
    refine t_seq ?_
    refine p_seq rfl ?_
    refine p_block 1 rfl ?_
    refine p_seq rfl ?_
    have hjl : j < l.length := by omega
    have hsp := congrArg List.length (textOf_split hjl)
    obtain ⟨hk1, hk2⟩ := hk l[j] (List.getElem_mem _)
    have hsu := textOf_succ hjl
    rw [List.length_append, List.length_append] at hsp
    have hrl : (rowText l[j]).length = (decN l[j].key.length).length + 1 + (if l[j].gone then 1 + l[j].key.length else (decN l[j].val.length).length + 1 + l[j].key.length + l[j].val.length) := by
      unfold rowText; split <;> simp [*] <;> omega
    refine p_region rfl ?_
    refine r_elemAddr (sz := 3) Try.underlying38 ti29 rfl rfl rfl rfl (by omega) (by first | (rw [List.length_map]; omega) | (rw [flat_len (sz := 3) (fun _ => rfl)]; omega) | (simp; omega)) rfl rfl ?_
    refine r_eloada (vs := [_, _, _]) (sz := 3) Try.underlying29 rfl ti29 rfl rfl (by rw [flat_len (sz := 3) (fun _ => rfl)]; omega) rfl (by refine get_flat (fun x => ?_) ?_ <;> first | rfl | omega) rfl ?_
    refine wo_alloc (zs := [vS [], vS [], .bool false]) ti29 rfl rfl rfl (fun b5 => ?_)
    refine r_storea ti29 rfl rfl rfl rfl (by simp; try omega) ?_
    refine q_seq ?_
    refine p_seq rfl ?_
    refine p_region rfl ?_
    refine wo_pv (pv_move rfl) rfl ?_
    refine wo_pv (pv_fieldAddrk Try.underlying29 rfl ti9 rfl rfl (k := 0) rfl (by first | exact Nat.zero_add _ | exact Nat.add_zero _ | exact rfl)) rfl ?_
    refine r_load Try.underlying9 rfl rfl rfl rfl ?_
    refine wo_pv (pv_call_len_s Try.underlying9 rfl) rfl ?_
    refine r_callF (ref1_Dec_sp l[j].key.length hk1) rfl rfl rfl ?_
    refine wo_pv (pv_cat rfl rfl (by omega)) rfl ?_
    refine wo_pv (pv_cat rfl rfl (by rw [List.length_append, List.length_singleton]; omega)) rfl ?_
    refine wo_pv (pv_assign rfl) rfl ?_
    refine q_seq ?_
    refine p_seq rfl ?_
    refine p_region rfl ?_
    refine wo_pv (pv_fieldAddrk Try.underlying29 rfl ti4 rfl rfl (k := 2) rfl (by first | exact Nat.zero_add _ | exact Nat.add_zero _ | exact rfl)) rfl ?_
    refine r_load Try.underlying4 rfl rfl rfl rfl ?_
    refine q_seq ?_
    first | refine p_ite rfl rfl (fun h20 => ?_) (fun h20 => ?_) | refine p_cond rfl rfl (fun h20 => ?_) (fun h20 => ?_)
    · -- t20 True
      rw [if_pos h20] at hrl
      refine p_region rfl ?_
      refine wo_pv (pv_move rfl) rfl ?_
      refine wo_pv (pv_cat rfl rfl (by first | (simp only [List.length_append, List.length_take, List.length_drop, List.length_cons, List.length_nil]; omega) | (simp; try omega))) rfl ?_
      refine wo_pv (pv_fieldAddrk Try.underlying29 rfl ti9 rfl rfl (k := 0) rfl (by first | exact Nat.zero_add _ | exact Nat.add_zero _ | exact rfl)) rfl ?_
      refine r_load Try.underlying9 rfl rfl rfl rfl ?_
      refine wo_pv (pv_cat rfl rfl (by first | (simp only [List.length_append, List.length_take, List.length_drop, List.length_cons, List.length_nil]; omega) | (simp; try omega))) rfl ?_
      refine wo_pv (pv_assign rfl) rfl ?_
      refine wo_nil ?_
      refine to_block ?_
      refine t_seq ?_
      refine p_region rfl ?_
      refine wo_pv (pv_add rfl rfl (by omega)) rfl ?_
      refine wo_pv (pv_move rfl) rfl ?_
      refine wo_nil ?_
      refine to_inv ⟨j + 1, by omega⟩ (by dsimp only; omega) ⟨?_, rfl, rfl, rfl, trivial⟩ ent_pick
      refine vS_eq ?_
      rw [hsu, rowText, h20]
      simp only [List.append_assoc, if_true, Bool.false_eq_true, if_false]
    · -- t20 False
      rw [if_neg (by rw [h20]; simp)] at hrl
      refine d_draw rfl rfl rfl [Ce b5 29 [vS l[j].key, vS l[j].val, vB l[j].gone]] ?_
      refine d_first 0 rfl rfl rfl (by kernel_rfl) (by kernel_rfl) (tl_pv (pv_move rfl)) ?_
      refine d_first 1 rfl rfl rfl (by kernel_rfl) (by kernel_rfl) (tl_pv (pv_fieldAddrk Try.underlying29 rfl ti9 rfl rfl (k := 1) rfl (by first | exact Nat.zero_add _ | exact Nat.add_zero _ | exact rfl))) ?_
      refine d_first 2 rfl rfl rfl (by kernel_rfl) (by kernel_rfl) (tl_load Try.underlying9 rfl rfl rfl) ?_
      refine d_first 3 rfl rfl rfl (by kernel_rfl) (by kernel_rfl) (tl_pv (pv_call_len_s Try.underlying9 rfl)) ?_
      refine d_first 7 rfl rfl rfl (by kernel_rfl) (by kernel_rfl) (tl_pv (pv_fieldAddrk Try.underlying29 rfl ti9 rfl rfl (k := 0) rfl (by first | exact Nat.zero_add _ | exact Nat.add_zero _ | exact rfl))) ?_
      refine d_first 8 rfl rfl rfl (by kernel_rfl) (by kernel_rfl) (tl_load Try.underlying9 rfl rfl rfl) ?_
      refine d_first 10 rfl rfl rfl (by kernel_rfl) (by kernel_rfl) (tl_pv (pv_fieldAddrk Try.underlying29 rfl ti9 rfl rfl (k := 1) rfl (by first | exact Nat.zero_add _ | exact Nat.add_zero _ | exact rfl))) ?_
      refine d_first 11 rfl rfl rfl (by kernel_rfl) (by kernel_rfl) (tl_load Try.underlying9 rfl rfl rfl) ?_
      refine d_next 4 (by kernel_rfl) rfl ?_
      refine an_callF (ref1_Dec_sp l[j].val.length hk2) rfl rfl rfl ?_
      refine d_first 5 rfl rfl rfl (by kernel_rfl) (by kernel_rfl) (tl_pv (pv_cat rfl rfl (by first | (simp only [List.length_append, List.length_take, List.length_drop, List.length_cons, List.length_nil]; omega) | (simp; try omega)))) ?_
      refine d_first 6 rfl rfl rfl (by kernel_rfl) (by kernel_rfl) (tl_pv (pv_cat rfl rfl (by first | (simp only [List.length_append, List.length_take, List.length_drop, List.length_cons, List.length_nil]; omega) | (simp; try omega)))) ?_
      refine d_first 9 rfl rfl rfl (by kernel_rfl) (by kernel_rfl) (tl_pv (pv_cat rfl rfl (by first | (simp only [List.length_append, List.length_take, List.length_drop, List.length_cons, List.length_nil]; omega) | (simp; try omega)))) ?_
      refine d_first 12 rfl rfl rfl (by kernel_rfl) (by kernel_rfl) (tl_pv (pv_cat rfl rfl (by first | (simp only [List.length_append, List.length_take, List.length_drop, List.length_cons, List.length_nil]; omega) | (simp; try omega)))) ?_
      refine d_first 13 rfl rfl rfl (by kernel_rfl) (by kernel_rfl) (tl_pv (pv_assign rfl)) ?_
      refine d_done (by kernel_rfl) ?_
      refine to_block ?_
      refine t_seq ?_
      refine p_region rfl ?_
      refine wo_pv (pv_add rfl rfl (by omega)) rfl ?_
      refine wo_pv (pv_move rfl) rfl ?_
      refine wo_nil ?_
      refine to_inv ⟨j + 1, by omega⟩ (by dsimp only; omega) ⟨?_, rfl, rfl, rfl, trivial⟩ ent_pick
      refine vS_eq ?_
      rw [hsu, rowText, h20]
      simp only [List.append_assoc, if_true, Bool.false_eq_true, if_false]
  · -- t9 False
    refine p_exit 0 rfl ?_
    refine t_seq_exit ?_
    refine to_inv_exit ?_
    refine to_block_here ?_
    refine t_seq ?_
    refine p_seq rfl ?_
    refine p_region rfl ?_
    refine wo_pv (pv_move rfl) rfl ?_
    refine wo_pv (pv_assign rfl) rfl ?_
    refine q_seq ?_
    refine p_ret rfl ?_
    have hjl : j = l.length := by omega
    subst hjl
    rw [List.take_length]
    refine fin_ret () (vs := [_]) (Cs := []) rfl (.tmp rfl .nil) rfl trivial ?_
    exact ent_pick
end Go.Proofs.Ytimafngkifakfaa

/- Rows that are turned: plain laws. -/
namespace Go.Proofs.Ytimafngkifakfaa
def cutAt (l : List Rw) (k : Bs) : Nat := (l.takeWhile fun q => blt q.key k).length
def restAt (l : List Rw) (k : Bs) (at_ : Nat) : Nat := if (l[at_]?).map (·.key) = some k then at_ + 1 else at_
def turn1 (l : List Rw) (r : Rw) : List Rw := l.take (cutAt l r.key) ++ (if r.gone then [] else [r]) ++ l.drop (restAt l r.key (cutAt l r.key))
def turnL (l more : List Rw) : List Rw := more.foldl turn1 l
theorem turnL_succ {l more : List Rw} {j : Nat} (h : j < more.length) : turnL l (more.take (j + 1)) = turn1 (turnL l (more.take j)) more[j] := by
  unfold turnL
  rw [List.take_succ_eq_append_getElem h, List.foldl_append]; rfl
theorem cutAt_le (l : List Rw) (k : Bs) : cutAt l k ≤ l.length := (List.takeWhile_sublist _).length_le
theorem cutAt_eq : ∀ (l : List Rw) (k : Bs) (m : Nat), m ≤ l.length → (∀ i (h : i < l.length), i < m → blt l[i].key k = true) → (∀ h : m < l.length, blt l[m].key k = false) → cutAt l k = m := by
  intro l
  induction l with
  | nil => intro k m h _ _; simp at h; simp [cutAt, h]
  | cons q l ih =>
    intro k m h h1 h2
    cases m with
    | zero =>
      have := h2 (by simp)
      simp at this
      simp [cutAt, List.takeWhile_cons, this]
    | succ m =>
      have hq := h1 0 (by simp) (by omega)
      simp at hq
      have := ih k m (by simpa using h) (fun i hi hm => by have := h1 (i + 1) (by simp; omega) (by omega); simpa using this) (fun hm => by have := h2 (by simp; omega); simpa using this)
      simp only [cutAt, List.takeWhile_cons, hq, if_true, List.length_cons] at this ⊢
      omega
theorem turn1_len (l : List Rw) (r : Rw) : (turn1 l r).length ≤ l.length + 1 := by
  have h1 := cutAt_le l r.key
  have h2 : cutAt l r.key ≤ restAt l r.key (cutAt l r.key) := by unfold restAt; split <;> omega
  have h3 : (if r.gone = true then ([] : List Rw) else [r]).length ≤ 1 := by split <;> simp
  simp only [turn1, List.length_append, List.length_take, List.length_drop]
  omega
theorem turnL_len : ∀ (more l : List Rw), (turnL l more).length ≤ l.length + more.length := by
  intro more
  induction more with
  | nil => intro l; simp [turnL]
  | cons r more ih =>
    intro l
    have h1 := ih (turn1 l r)
    have h2 := turn1_len l r
    have : turnL l (r :: more) = turnL (turn1 l r) more := rfl
    rw [this, List.length_cons]; omega
def vStr : Value → Bs
  | .string s => s.data.toList
  | _ => []
/-- The rows of a map, rising. -/
def rowsK (K : Ks) : List Rw := (fromS K []).map fun p => ⟨p.1, vStr p.2, false⟩
theorem rowsK_keys (K : Ks) : (rowsK K).map (·.key) = keysS K := by
  rw [rowsK, fromS_nil, List.map_map, List.map_map]
  simp [Function.comp_def]
theorem rowsK_len (K : Ks) : (rowsK K).length = K.length := by rw [rowsK, List.length_map, fromS_nil_len]
def valR (l : List Rw) (k : Bs) : Option Bs := (l.find? fun r => r.key = k).map (·.val)
theorem rowsK_val {K : Ks} (hn : (K.map (·.1)).Nodup) (k : Bs) : ∀ r ∈ rowsK K, r.gone = false ∧ mlook K r.key = some (vS r.val) ∨ ¬ AllS K := by
  intro r hr
  by_cases ha : AllS K
  · left
    simp only [rowsK, List.mem_map] at hr
    obtain ⟨p, hp, rfl⟩ := hr
    obtain ⟨h1, h2, h3⟩ := fromS_mem hp
    refine ⟨rfl, ?_⟩
    obtain ⟨s, hs⟩ := allS_look ha h3
    rw [h3, hs]; rfl
  · exact .inr ha
/-- Rising lists of rows that stand for the same map are the same. -/
theorem rows_eq {K : Ks} (hn : (K.map (·.1)).Nodup) (ha : AllS K) {l : List Rw} (h1 : (l.map (·.key)).Pairwise (· < ·)) (h2 : ∀ k, k ∈ l.map (·.key) ↔ k ∈ K.map (·.1)) (h3 : ∀ r ∈ l, r.gone = false ∧ mlook K r.key = some (vS r.val)) : l = rowsK K := by
  have hk : l.map (·.key) = (rowsK K).map (·.key) := by
    rw [rowsK_keys]
    exact sorted_eq h1 (keysS_lt hn) (fun k => by rw [h2, keysS_mem])
  apply List.ext_getElem
  · have := congrArg List.length hk; simpa using this
  · intro i hi hj
    have hki : l[i].key = (rowsK K)[i].key := by
      have := congrArg (fun q => q[i]?) hk
      simp only [List.getElem?_map, List.getElem?_eq_getElem hi, List.getElem?_eq_getElem hj, Option.map_some, Option.some.injEq] at this
      exact this
    obtain ⟨g1, v1⟩ := h3 _ (List.getElem_mem hi)
    rcases rowsK_val hn [] _ (List.getElem_mem hj) with ⟨g2, v2⟩ | hna
    · rw [hki, v2] at v1
      have hv : (rowsK K)[i].val = l[i].val := vS_inj (Option.some.inj v1)
      cases hx : l[i] with
      | mk a b c =>
        cases hy : (rowsK K)[i] with
        | mk a' b' c' =>
          rw [hx, hy] at hki hv
          rw [hx] at g1; rw [hy] at g2
          dsimp only at hki hv g1 g2
          rw [hki, hv, g1, g2]
    · exact absurd ha hna
theorem takeWhile_take {α : Type} (p : α → Bool) (l : List α) : l.take (l.takeWhile p).length = l.takeWhile p := by
  induction l with
  | nil => rfl
  | cons a l ih => by_cases h : p a <;> simp [List.takeWhile_cons, h, ih]
theorem dropWhile_drop {α : Type} (p : α → Bool) (l : List α) : l.drop (l.takeWhile p).length = l.dropWhile p := by
  induction l with
  | nil => rfl
  | cons a l ih => by_cases h : p a <;> simp [List.takeWhile_cons, List.dropWhile_cons, h, ih]
theorem mem_tw {α : Type} {p : α → Bool} : ∀ {l : List α} {x : α}, x ∈ l.takeWhile p → p x = true := by
  intro l
  induction l with
  | nil => intro x h; simp at h
  | cons a l ih =>
    intro x h
    by_cases ha : p a = true
    · rw [List.takeWhile_cons, if_pos ha] at h
      rcases List.mem_cons.1 h with rfl | h
      · exact ha
      · exact ih h
    · rw [List.takeWhile_cons, if_neg ha] at h; simp at h
/-- What turning parts a rising list into. -/
theorem turn_parts {l : List Rw} (hs : (l.map (·.key)).Pairwise (· < ·)) (k : Bs) : ∃ A R : List Rw, l.take (cutAt l k) = A ∧ l.drop (restAt l k (cutAt l k)) = R ∧ (∀ x ∈ A, x.key < k) ∧ (∀ x ∈ R, k < x.key) ∧ (∀ x ∈ l, x ∈ A ∨ x.key = k ∨ x ∈ R) ∧ (∀ x ∈ A, x ∈ l) ∧ (∀ x ∈ R, x ∈ l) ∧ (A.map (·.key)).Pairwise (· < ·) ∧ (R.map (·.key)).Pairwise (· < ·) := by
  obtain ⟨m, hm⟩ : ∃ m, m = cutAt l k := ⟨_, rfl⟩
  rw [← hm]
  have hA : l.take m = l.takeWhile fun q => blt q.key k := by rw [hm]; exact takeWhile_take _ _
  have hD : l.drop m = l.dropWhile fun q => blt q.key k := by rw [hm]; exact dropWhile_drop _ _
  have hAlt : ∀ x ∈ l.take m, x.key < k := by
    intro x hx
    rw [hA] at hx
    have := mem_tw hx
    rw [blt_eq] at this
    exact of_decide_eq_true this
  have hpa : ((l.take m).map (·.key)).Pairwise (· < ·) := hs.sublist ((List.take_sublist _ _).map _)
  have hpd : ((l.drop m).map (·.key)).Pairwise (· < ·) := hs.sublist ((List.drop_sublist _ _).map _)
  have hle : ∀ (d : Rw) (D : List Rw), l.drop m = d :: D → ¬ d.key < k := by
    intro d D e
    rw [hD] at e
    have := List.head_dropWhile_not (p := fun q : Rw => blt q.key k) (l := l) (by rw [e]; simp)
    simp only [e, List.head_cons] at this
    rw [blt_eq] at this
    exact of_decide_eq_false this
  have hget : ∀ (d : Rw) (D : List Rw), l.drop m = d :: D → l[m]? = some d := by
    intro d D e
    have : (l.drop m)[0]? = some d := by rw [e]; rfl
    rw [List.getElem?_drop, Nat.add_zero] at this
    exact this
  have hsplit : ∀ x ∈ l, x ∈ l.take m ∨ x ∈ l.drop m := by
    intro x hx
    rw [← List.take_append_drop m l] at hx
    exact List.mem_append.1 hx
  cases hd : l.drop m with
  | nil =>
    have hn : l[m]? = none := by
      rw [List.getElem?_eq_none_iff]
      have := congrArg List.length hd
      simp at this; omega
    refine ⟨l.take m, [], rfl, ?_, hAlt, by simp, ?_, fun x hx => List.mem_of_mem_take hx, by simp, hpa, by simp⟩
    · rw [restAt, hn]; simpa using hd
    · intro x hx
      rcases hsplit x hx with h | h
      · exact .inl h
      · rw [hd] at h; simp at h
  | cons d D =>
    have hg := hget d D hd
    have hnd := hle d D hd
    rw [hd] at hpd
    simp only [List.map_cons, List.pairwise_cons, List.mem_map] at hpd
    have hDl : ∀ x ∈ D, d.key < x.key := fun x hx => hpd.1 _ ⟨x, hx, rfl⟩
    by_cases he : d.key = k
    · have hr : restAt l k m = m + 1 := by rw [restAt, hg, if_pos (by simp [he])]
      have hR : l.drop (m + 1) = D := by
        have := congrArg List.tail hd
        simpa [List.tail_drop] using this
      refine ⟨l.take m, D, rfl, by rw [hr, hR], hAlt, fun x hx => by rw [← he]; exact hDl x hx, ?_, fun x hx => List.mem_of_mem_take hx, fun x hx => List.mem_of_mem_drop (by rw [hd]; simp [hx]), hpa, hpd.2⟩
      intro x hx
      rcases hsplit x hx with h | h
      · exact .inl h
      · rw [hd] at h
        rcases List.mem_cons.1 h with rfl | h
        · exact .inr (.inl he)
        · exact .inr (.inr h)
    · have hr : restAt l k m = m := by rw [restAt, hg, if_neg (by simpa using he)]
      have hkd : k < d.key := Std.lt_of_le_of_ne (by exact hnd) (fun e => he e.symm)
      refine ⟨l.take m, d :: D, rfl, by rw [hr, hd], hAlt, ?_, ?_, fun x hx => List.mem_of_mem_take hx, fun x hx => List.mem_of_mem_drop (by rw [hd]; exact hx), hpa, ?_⟩
      · intro x hx
        rcases List.mem_cons.1 hx with rfl | hx
        · exact hkd
        · exact Std.lt_trans hkd (hDl x hx)
      · intro x hx
        rcases hsplit x hx with h | h
        · exact .inl h
        · rw [hd] at h; exact .inr (.inr h)
      · simp only [List.map_cons, List.pairwise_cons, List.mem_map]
        exact hpd
theorem rowsK_sorted {K : Ks} (hn : (K.map (·.1)).Nodup) : ((rowsK K).map (·.key)).Pairwise (· < ·) := by rw [rowsK_keys]; exact keysS_lt hn
theorem doOne_look {K : Ks} (hn : (K.map (·.1)).Nodup) (r : Rw) (k : Bs) : mlook (doOne K r) k = if r.key = k then (if r.gone then none else some (vS r.val)) else mlook K k := by
  unfold doOne
  cases r.gone
  · simp only [Bool.false_eq_true, if_false]; rw [mlook_mput]
  · simp only [if_true]; rw [mlook_mdel hn]
theorem turn1_rowsK {K : Ks} (hn : (K.map (·.1)).Nodup) (ha : AllS K) (r : Rw) : turn1 (rowsK K) r = rowsK (doOne K r) := by
  obtain ⟨A, R, hA, hR, h1, h2, h3, h4, h5, h6, h7⟩ := turn_parts (rowsK_sorted hn) r.key
  have hv : ∀ x ∈ rowsK K, x.gone = false ∧ mlook K x.key = some (vS x.val) := fun x hx => by
    rcases rowsK_val hn [] x hx with h | h
    · exact h
    · exact absurd ha h
  have irr : ∀ k : Bs, ¬ k < k := List.lt_irrefl
  refine rows_eq (doOne_nodup hn r) (doOne_allS ha r) ?_ ?_ ?_
  · rw [turn1, hA, hR]
    cases hg : r.gone with
    | true =>
      simp only [if_true, List.append_nil, List.map_append]
      rw [List.pairwise_append]
      refine ⟨h6, h7, ?_⟩
      intro a ha b hb
      obtain ⟨x, hx, rfl⟩ := List.mem_map.1 ha
      obtain ⟨y, hy, rfl⟩ := List.mem_map.1 hb
      exact Std.lt_trans (h1 x hx) (h2 y hy)
    | false =>
      simp only [Bool.false_eq_true, if_false, List.map_append, List.map_cons, List.map_nil, List.append_assoc, List.singleton_append]
      rw [List.pairwise_append]
      refine ⟨h6, ?_, ?_⟩
      · rw [List.pairwise_cons]
        refine ⟨fun b hb => ?_, h7⟩
        obtain ⟨y, hy, rfl⟩ := List.mem_map.1 hb
        exact h2 y hy
      · intro a ha b hb
        obtain ⟨x, hx, rfl⟩ := List.mem_map.1 ha
        rcases List.mem_cons.1 hb with rfl | hb
        · exact h1 x hx
        · obtain ⟨y, hy, rfl⟩ := List.mem_map.1 hb
          exact Std.lt_trans (h1 x hx) (h2 y hy)
  · intro k
    rw [← mlook_isSome, doOne_look hn]
    have hmem : k ∈ (turn1 (rowsK K) r).map (·.key) ↔ (∃ x ∈ A, x.key = k) ∨ (r.gone = false ∧ r.key = k) ∨ (∃ x ∈ R, x.key = k) := by
      rw [turn1, hA, hR]
      simp only [List.mem_map, List.mem_append]
      constructor
      · rintro ⟨x, (hx | hx) | hx, rfl⟩
        · exact .inl ⟨x, hx, rfl⟩
        · cases hg : r.gone with
          | true => rw [hg] at hx; simp at hx
          | false => rw [hg] at hx; simp at hx; subst hx; exact .inr (.inl ⟨rfl, rfl⟩)
        · exact .inr (.inr ⟨x, hx, rfl⟩)
      · rintro (⟨x, hx, rfl⟩ | ⟨hg, rfl⟩ | ⟨x, hx, rfl⟩)
        · exact ⟨x, .inl (.inl hx), rfl⟩
        · exact ⟨r, .inl (.inr (by rw [hg]; simp)), rfl⟩
        · exact ⟨x, .inr hx, rfl⟩
    rw [hmem]
    have hK : ∀ k, k ∈ (rowsK K).map (·.key) ↔ (mlook K k).isSome = true := fun k => by rw [rowsK_keys, keysS_mem, mlook_isSome]
    by_cases hk : r.key = k
    · subst hk
      rw [if_pos rfl]
      cases hg : r.gone with
      | true =>
        simp only [if_true, Option.isSome_none, Bool.false_eq_true, iff_false, not_or]
        refine ⟨?_, by simp, ?_⟩
        · rintro ⟨x, hx, e⟩; have := h1 x hx; rw [e] at this; exact irr _ this
        · rintro ⟨x, hx, e⟩; have := h2 x hx; rw [e] at this; exact irr _ this
      | false => simp
    · rw [if_neg hk, ← hK, List.mem_map]
      constructor
      · rintro (⟨x, hx, e⟩ | ⟨_, e⟩ | ⟨x, hx, e⟩)
        · exact ⟨x, h4 x hx, e⟩
        · exact absurd e hk
        · exact ⟨x, h5 x hx, e⟩
      · rintro ⟨x, hx, e⟩
        rcases h3 x hx with h | h | h
        · exact .inl ⟨x, h, e⟩
        · exact absurd (h.symm.trans e) hk
        · exact .inr (.inr ⟨x, h, e⟩)
  · intro x hx
    rw [turn1, hA, hR] at hx
    rw [doOne_look hn]
    simp only [List.mem_append] at hx
    rcases hx with (hx | hx) | hx
    · have := h1 x hx
      rw [if_neg (fun e => by rw [e] at this; exact irr _ this)]
      exact hv x (h4 x hx)
    · cases hg : r.gone with
      | true => rw [hg] at hx; simp at hx
      | false => rw [hg] at hx; simp at hx; subst hx; simp [hg]
    · have := h2 x hx
      rw [if_neg (fun e => by rw [e] at this; exact irr _ this)]
      exact hv x (h5 x hx)
theorem turnL_rowsK : ∀ (more : List Rw) {K : Ks}, (K.map (·.1)).Nodup → AllS K → turnL (rowsK K) more = rowsK (doR K more) := by
  intro more
  induction more with
  | nil => intro K _ _; rfl
  | cons r more ih =>
    intro K hn ha
    have e : turnL (rowsK K) (r :: more) = turnL (turn1 (rowsK K) r) more := rfl
    rw [e, turn1_rowsK hn ha, ih (doOne_nodup hn r) (doOne_allS ha r)]
    rfl
def replayS (ts : List Bs) : List Rw := ts.foldl (fun l t => turnL l ((readR t).getD [])) []
theorem replayS_eq (ts : List Bs) : replayS ts = rowsK (openK ts) := by
  have key : ∀ (ts : List Bs) (K : Ks), AllS K → (K.map (·.1)).Nodup → ts.foldl (fun l t => turnL l ((readR t).getD [])) (rowsK K) = rowsK (ts.foldl (fun ks t => doR ks ((readR t).getD [])) K) := by
    intro ts
    induction ts with
    | nil => intro K _ _; rfl
    | cons t ts ih =>
      intro K h1 h2
      simp only [List.foldl_cons]
      rw [turnL_rowsK _ h2 h1]
      exact ih _ (doR_allS _ h1) (doR_nodup _ h2)
  have h0 : rowsK [] = [] := List.eq_nil_of_length_eq_zero (by rw [rowsK_len]; rfl)
  have := key ts [] (by intro p hp; simp at hp) (by simp)
  rw [h0] at this
  exact this
end Go.Proofs.Ytimafngkifakfaa

/- Rows that are turned; the replay: walks. -/
set_option maxRecDepth 100000
namespace Go.Proofs.Ytimafngkifakfaa
/-- The address of a slice that begins so many elements on. -/
def fromA (a : Option Addr) (m cap kk : Nat) : Option Addr := if m < cap then elemA a kk else a
section
variable {r : Option Nat} {P : Program} {n : Nat} {L : Loc} {Hs : List HP} {Q : Out} {ty : TypeId}
theorem pv_slslice_froma {x y : Operand} {a : Option Addr} {len cap m kk : Nat} {k : IntKind} {i : Int} {t e : TypeId} {ti : TypeInfo} {sz : Nat} (ht : P.underlying t = some (.slice e)) (hi : P.info? e = some ti) (hsz : ti.size = sz) (hx : ev L x = some (.slice a len cap)) (hy : ev L y = some (.int k i)) (hm : i = (m : Int)) (hk : m * sz = kk) (h : m ≤ len) (hc : len ≤ cap) (ha : ∀ b, a = some b → b.spot = none) :
    PV P n L (.slice t x (some y) none none) ty (.slice (fromA a m cap kk) (len - m) (cap - m)) := by
  by_cases hlt : m < cap
  · have := pv_slslice_fromm (P := P) (n := n) (ty := ty) ht hi hsz hx hy hm hk h hlt ha
    rw [fromA, if_pos hlt]; exact this
  · subst hm
    have := pv_slslice_from (P := P) (n := n) (ty := ty) ht hi hx hy (by omega) (by omega)
    rw [Int.toNat_natCast, if_pos (by omega)] at this
    rw [fromA, if_neg hlt]; exact this
theorem row_know {e : TypeId} {sz k n' c' : Nat} {a : Option Addr} {xs : List Value} {M : Kn} {h : Res} (x : (Row e sz (.slice a n' c') k xs).at_ M h) : k ≤ c' ∧ xs.length = k * sz ∧ ∀ b, a = some b → b.spot = none := by
  rcases x with ⟨h1, h2, h3⟩ | ⟨g, cap, cur, h1, h2, h3, h4, h5, h6, h7⟩
  · cases h1; subst h2; subst h3
    exact ⟨Nat.zero_le _, by simp, fun b e => by cases e⟩
  · cases h1
    exact ⟨h2, h5, fun b e => by cases e; rfl⟩
theorem sla_take {A : HP} {a : Option Addr} {xs : List Value} (sh : SlA A a xs) (k : Nat) : SlA A a (xs.take k) := fun x => by
  rcases sh x with e | ⟨g, off, l, T, fz, e1, e2, e3⟩
  · left; rw [e]; simp
  · refine .inr ⟨g, off, l, T, fz, e1, e2, ?_⟩
    conv => rhs; rw [← e3]
    rw [List.take_take, List.length_take]
theorem sla_from {e : TypeId} {sz k n' c' m kk : Nat} {a : Option Addr} {xs : List Value} (hk : m * sz = kk) (hm : m ≤ k) : SlA (Row e sz (.slice a n' c') k xs) (fromA a m c' kk) (xs.drop kk) := fun x => by
  obtain ⟨h1, h2, h3⟩ := row_know x
  by_cases hlt : m < c'
  · rcases sla_row x with e | ⟨g, off, l, T, fz, e1, e2, e3⟩
    · left; rw [e]; simp
    · refine .inr ⟨g, off + kk, l, T, fz, ?_, e2, ?_⟩
      · rw [fromA, if_pos hlt, e1]; rfl
      · conv => rhs; rw [← e3]
        rw [List.drop_take, List.drop_drop, List.length_drop]
  · left
    have hmk : m = k := by omega
    subst hmk
    rw [← hk, ← h2, List.drop_length]
end
theorem get_rowC {l : List Rw} {m : Nat} (h : m < l.length) (o : Nat) (ho : o < 3) {kk : Nat} (hk : m * 3 + o = kk) : (l.flatMap rowC)[kk]? = (rowC l[m])[o]? := by
  subst hk
  have := get_flat (f := rowC) (sz := 3) (fun _ => rfl) h
  rw [← this, List.getElem?_take_of_lt ho, List.getElem?_drop]
theorem rowC_len (l : List Rw) : (l.flatMap rowC).length = l.length * 3 := flat_len (sz := 3) (fun _ => rfl) l
theorem rowC_take (l : List Rw) (m : Nat) : (l.flatMap rowC).take (m * 3) = (l.take m).flatMap rowC := by
  induction l generalizing m with
  | nil => simp
  | cons q l ih =>
    cases m with
    | zero => simp
    | succ m =>
      have e : (m + 1) * 3 = m * 3 + 3 := by omega
      simp only [List.flatMap_cons, List.take_succ_cons, rowC, List.cons_append, List.nil_append, e, List.take_succ_cons, ih]
theorem rowC_drop (l : List Rw) (m : Nat) : (l.flatMap rowC).drop (m * 3) = (l.drop m).flatMap rowC := by
  induction l generalizing m with
  | nil => simp
  | cons q l ih =>
    cases m with
    | zero => simp
    | succ m =>
      have e : (m + 1) * 3 = m * 3 + 3 := by omega
      simp only [List.flatMap_cons, List.drop_succ_cons, rowC, List.cons_append, List.nil_append, e, List.drop_succ_cons, ih]
theorem restAt_eq {q : List Rw} {k : Bs} {m : Nat} (h : m < q.length) (he : q[m].key = k) : restAt q k m = m + 1 := by rw [restAt, List.getElem?_eq_getElem h, Option.map_some, he, if_pos rfl]
theorem restAt_ne {q : List Rw} {k : Bs} {m : Nat} (h : m < q.length) (he : ¬ q[m].key = k) : restAt q k m = m := by rw [restAt, List.getElem?_eq_getElem h, Option.map_some, if_neg (fun e => he (Option.some.inj e))]
theorem restAt_end {q : List Rw} {k : Bs} {m : Nat} (h : ¬ m < q.length) : restAt q k m = m := by rw [restAt, List.getElem?_eq_none (by omega), Option.map_none, if_neg (by simp)]
theorem ref5_Turned_sp {B : HP} {a a2 : Option Addr} (n c n2 c2 : Nat) (l more : List Rw) (sh : SlA B a2 (more.flatMap rowC)) (hn : l.length = n) (hn2 : more.length = n2) (hb : n + n2 ≤ 1000000) :
    Sp Try.prog 47 [.slice a n c, .slice a2 n2 c2] [Row 29 3 (.slice a n c) n (l.flatMap rowC), B] (X := Option Addr × Nat) (fun x => .slice x.1 (turnL l more).length x.2) (fun _ => True) (fun x => [Row 29 3 (.slice x.1 (turnL l more).length x.2) (turnL l more).length ((turnL l more).flatMap rowC), B]) := by
  subst hn; subst hn2
  refine Sp.body (n := 70) Try.call47 Try.func47 rfl rfl rfl ?_
  refine p_seq rfl ?_
  refine p_region rfl ?_
  refine wo_pv (pv_assign rfl) rfl ?_
  refine q_seq ?_
  refine p_seq rfl ?_
  refine p_seq rfl ?_
  refine p_region rfl ?_
  refine wo_pv (pv_move rfl) rfl ?_
  refine wo_pv (pv_call_len_sl Try.underlying38 rfl) rfl ?_
  refine wo_pv (pv_move rfl) rfl ?_
  refine q_seq ?_
  refine p_block 0 rfl ?_
  refine p_loop (fun (i : { x : (Option Addr × Nat) × Nat // x.2 ≤ more.length }) => [(0, .slice i.1.1.1 (turnL l (more.take i.1.2)).length i.1.1.2), (10, .slice a2 more.length c2), (11, vI more.length), (12, vI i.1.2)]) (fun (i : { x : (Option Addr × Nat) × Nat // x.2 ≤ more.length }) => [Row 29 3 (.slice i.1.1.1 (turnL l (more.take i.1.2)).length i.1.1.2) (turnL l (more.take i.1.2)).length ((turnL l (more.take i.1.2)).flatMap rowC), B]) (fun (i : { x : (Option Addr × Nat) × Nat // x.2 ≤ more.length }) => more.length - i.1.2) rfl (⟨((a, c), 0), Nat.zero_le _⟩) ?_ ?_ (fun i => ?_)
  · exact ⟨rfl, rfl, rfl, rfl, trivial⟩
  · -- H at start
    exact Ent.refl _
  obtain ⟨⟨⟨a1, c1⟩, j⟩, hj⟩ := i
  dsimp only at hj
  have hql := turnL_len (more.take j) l
  rw [List.length_take] at hql
  obtain ⟨q, hq⟩ : ∃ q, q = turnL l (more.take j) := ⟨_, rfl⟩
  dsimp only
  rw [← hq] at hql ⊢
  refine wc_know (A := Row 29 3 (.slice a1 q.length c1) q.length (q.flatMap rowC)) .here row_know (fun hkn => ?_)
  obtain ⟨hqc, _, hqs⟩ := hkn
  haveI : RdSl a2 (more.flatMap rowC) [Row 29 3 (.slice a1 q.length c1) q.length (q.flatMap rowC), B] := ⟨⟨B, sh, .there .here⟩⟩
  try dsimp only
  refine p_seq rfl ?_
  refine p_region rfl ?_
  refine wo_pv (pv_lss rfl rfl) rfl ?_
  refine q_seq ?_
  refine p_seq rfl ?_
  first | refine p_ite rfl rfl (fun h13 => ?_) (fun h13 => ?_) | refine p_cond rfl rfl (fun h13 => ?_) (fun h13 => ?_)
  · -- t13 True
    refine p_skip rfl ?_
    refine t_seq ?_
    refine p_seq rfl ?_
    refine p_block 1 rfl ?_
    refine p_seq rfl ?_
    have hjl : j < more.length := by omega
    have hsu := turnL_succ (l := l) hjl
    rw [← hq] at hsu
    refine p_region rfl ?_
    refine r_elemAddr (sz := 3) Try.underlying38 ti29 rfl rfl rfl rfl (by omega) (by first | (rw [List.length_map]; omega) | (rw [flat_len (sz := 3) (fun _ => rfl)]; omega) | (simp; omega)) rfl rfl ?_
    refine r_eloada (vs := [_, _, _]) (sz := 3) Try.underlying29 rfl ti29 rfl rfl (by rw [flat_len (sz := 3) (fun _ => rfl)]; omega) rfl (by refine get_flat (fun x => ?_) ?_ <;> first | rfl | omega) rfl ?_
    refine wo_alloc (zs := [vS [], vS [], .bool false]) ti29 rfl rfl rfl (fun b6 => ?_)
    refine r_storea ti29 rfl rfl rfl rfl (by simp; try omega) ?_
    refine q_seq ?_
    refine p_seq rfl ?_
    refine p_region rfl ?_
    refine wo_pv (pv_assign rfl) rfl ?_
    refine q_seq ?_
    refine p_seq rfl ?_
    refine p_block 2 rfl ?_
    refine p_loop (fun (i : { m : Nat // m ≤ q.length ∧ ∀ i (h : i < q.length), i < m → blt q[i].key more[j].key = true }) => [(0, .slice a1 q.length c1), (6, .pointer (some ⟨b6, 0, none⟩)), (7, vI i.1), (10, .slice a2 more.length c2), (11, vI more.length), (12, vI j)]) (fun (i : { m : Nat // m ≤ q.length ∧ ∀ i (h : i < q.length), i < m → blt q[i].key more[j].key = true }) => [Row 29 3 (.slice a1 q.length c1) q.length (q.flatMap rowC), Ce b6 29 [vS more[j].key, vS more[j].val, vB more[j].gone], B]) (fun (i : { m : Nat // m ≤ q.length ∧ ∀ i (h : i < q.length), i < m → blt q[i].key more[j].key = true }) => q.length - i.1) rfl (⟨0, Nat.zero_le _, fun i h1 h2 => by omega⟩) ?_ ?_ (fun i => ?_)
    · exact ⟨rfl, rfl, rfl, rfl, rfl, rfl, trivial⟩
    · -- H at start
      exact ent_pick
    obtain ⟨m, hm1, hm2⟩ := i
    dsimp only
    try dsimp only
    refine p_seq rfl ?_
    refine p_seq rfl ?_
    refine d_draw rfl rfl rfl [Row 29 3 (.slice a1 q.length c1) q.length (q.flatMap rowC), Ce b6 29 [vS more[j].key, vS more[j].val, vB more[j].gone]] ?_
    refine d_first 0 rfl rfl rfl (by kernel_rfl) (by kernel_rfl) (tl_pv (pv_move rfl)) ?_
    refine d_first 1 rfl rfl rfl (by kernel_rfl) (by kernel_rfl) (tl_pv (pv_move rfl)) ?_
    refine d_first 2 rfl rfl rfl (by kernel_rfl) (by kernel_rfl) (tl_pv (pv_call_len_sl Try.underlying38 rfl)) ?_
    refine d_first 3 rfl rfl rfl (by kernel_rfl) (by kernel_rfl) (tl_pv (pv_lss rfl rfl)) ?_
    refine d_first 4 rfl rfl rfl (by kernel_rfl) (by kernel_rfl) (tl_pv (pv_move rfl)) ?_
    first | refine d_gite (j := 4) rfl rfl (fun h20 => ?_) (fun h20 => ?_) | refine d_gsplit (j := 4) rfl rfl (fun h20 => ?_) (fun h20 => ?_)
    · -- t20 True
      refine d_first 5 rfl rfl rfl (by kernel_rfl) (by kernel_rfl) (tl_in (b := true) rfl (tl_pv (pv_move rfl))) ?_
      refine d_first 6 rfl rfl rfl (by kernel_rfl) (by kernel_rfl) (tl_in (b := true) rfl (tl_pv (pv_move rfl))) ?_
      refine d_first 7 rfl rfl rfl (by kernel_rfl) (by kernel_rfl) (tl_in (b := true) rfl (tl_elemAddr (sz := 3) Try.underlying38 ti29 rfl rfl rfl rfl (by omega) (by first | (rw [List.length_map]; omega) | (rw [flat_len (sz := 3) (fun _ => rfl)]; omega) | (simp; omega)) rfl)) ?_
      refine d_first 8 rfl rfl rfl (by kernel_rfl) (by kernel_rfl) (tl_in (b := true) rfl (tl_efield Try.underlying29 rfl ti9 rfl rfl rfl rfl (by rw [rowC_len]; omega))) ?_
      refine d_first 9 rfl rfl rfl (by kernel_rfl) (by kernel_rfl) (tl_in (b := true) rfl (tl_eload Try.underlying9 rfl rfl ((get_rowC (m := m) (by omega) 0 (by decide) rfl).trans rfl))) ?_
      refine d_first 10 rfl rfl rfl (by kernel_rfl) (by kernel_rfl) (tl_in (b := true) rfl (tl_pv (pv_fieldAddrk Try.underlying29 rfl ti9 rfl rfl (k := 0) rfl (by first | exact Nat.zero_add _ | exact Nat.add_zero _ | exact rfl)))) ?_
      refine d_first 11 rfl rfl rfl (by kernel_rfl) (by kernel_rfl) (tl_in (b := true) rfl (tl_load Try.underlying9 rfl rfl rfl)) ?_
      refine d_first 12 rfl rfl rfl (by kernel_rfl) (by kernel_rfl) (tl_in (b := true) rfl (tl_pv (pv_slss rfl rfl))) ?_
      refine d_first 13 rfl rfl rfl (by kernel_rfl) (by kernel_rfl) (tl_pv (pv_pick_t rfl rfl)) ?_
      refine d_done (by kernel_rfl) ?_
      refine t_seq ?_
      first | refine p_ite rfl rfl (fun h29 => ?_) (fun h29 => ?_) | refine p_cond rfl rfl (fun h29 => ?_) (fun h29 => ?_)
      · -- t29 True
        refine p_skip rfl ?_
        refine t_seq ?_
        refine p_block 3 rfl ?_
        refine p_region rfl ?_
        refine wo_pv (pv_move rfl) rfl ?_
        refine wo_pv (pv_add rfl rfl (by omega)) rfl ?_
        refine wo_pv (pv_assign rfl) rfl ?_
        refine wo_nil ?_
        refine to_block ?_
        refine to_inv ⟨m + 1, by omega, fun i hi h => ?_⟩ (by dsimp only; omega) ⟨rfl, rfl, rfl, rfl, rfl, rfl, trivial⟩ ent_pick
        by_cases hk : i = m
        · subst hk; exact h29
        · exact hm2 i hi (by omega)
      · -- t29 False
        refine p_exit 2 rfl ?_
        refine t_seq_exit ?_
        refine to_inv_exit ?_
        refine to_block_here ?_
        refine t_seq ?_
        refine p_seq rfl ?_
        have hcut : cutAt q more[j].key = m := cutAt_eq q _ m hm1 hm2 (fun h => by first | exact h29 | omega)
        refine p_region rfl ?_
        refine wo_pv (pv_move rfl) rfl ?_
        refine wo_pv (pv_move rfl) rfl ?_
        refine wo_pv (pv_slslice_froma (m := m) Try.underlying38 ti29 rfl rfl rfl rfl rfl (by omega) hqc hqs) rfl ?_
        refine wo_pv (pv_assign rfl) rfl ?_
        refine q_seq ?_
        refine p_cut (fun (kk : { k : Nat // k = restAt q more[j].key (cutAt q more[j].key) ∧ k ≤ q.length ∧ cutAt q more[j].key = m }) => [(0, .slice a1 q.length c1), (6, .pointer (some ⟨b6, 0, none⟩)), (7, vI m), (8, .slice (fromA a1 kk.1 c1 (kk.1 * 3)) (q.length - kk.1) (c1 - kk.1)), (10, .slice a2 more.length c2), (11, vI more.length), (12, vI j)]) (fun (kk : { k : Nat // k = restAt q more[j].key (cutAt q more[j].key) ∧ k ≤ q.length ∧ cutAt q more[j].key = m }) => [Row 29 3 (.slice a1 q.length c1) q.length (q.flatMap rowC), Ce b6 29 [vS more[j].key, vS more[j].val, vB more[j].gone], B]) rfl (fun kk => ?_) ?_
        · -- behind the place 10
          obtain ⟨kk, hkk, hkl, hcut⟩ := kk
          have htl : (q.take m).length = m := by rw [List.length_take]; omega
          have hdl : (q.drop kk).length = q.length - kk := List.length_drop
          rw [turn1, ← hkk, hcut] at hsu
          try dsimp only
          refine p_seq rfl ?_
          refine p_region rfl ?_
          refine r_buildSliceL [] (cs := []) Try.underlying38 ti29 rfl rfl rfl rfl rfl rfl rfl rfl (fun b53 => ?_)
          refine wo_pv (pv_move rfl) rfl ?_
          refine wo_pv (pv_move rfl) rfl ?_
          refine wo_pv (pv_slslice_tom (m := m) Try.underlying38 ti29 rfl rfl rfl (by omega)) rfl ?_
          refine wo_ent' (ent_row (k := 0) (cap := 0) (sz := 3) (e := 29) (g := b53) (xs := []) (cur := []) (Nat.le_refl _) (by simp [maxLen]) rfl rfl rfl) ?_
          refine wo_opT (by intro c; simp) (opt_appendA (sz := 3) (bytes := 40) Try.underlying38 ti29 rfl rfl rfl rfl rfl rfl rfl (sla_take (sla_row (e := 29) (sz := 3) (k := q.length) (n := q.length) (c := c1) (a := a1) (xs := q.flatMap rowC)) (m * 3)) (by rw [rowC_take, rowC_len, htl]) (by rw [rowC_take]; simp [List.all_flatMap, oneCell, rowC]) (by omega) (by simp only [maxLen]; omega) (k := 0) (xs := [])) rfl (fun x57 ⟨a57, c57, h57⟩ => ?_)
          subst h57
          rw [Nat.zero_add, List.nil_append, rowC_take]
          refine wo_pv (pv_assign rfl) rfl ?_
          refine q_seq ?_
          refine p_seq rfl ?_
          refine p_seq rfl ?_
          refine p_region rfl ?_
          refine wo_pv (pv_fieldAddrk Try.underlying29 rfl ti4 rfl rfl (k := 2) rfl (by first | exact Nat.zero_add _ | exact Nat.add_zero _ | exact rfl)) rfl ?_
          refine r_load Try.underlying4 rfl rfl rfl rfl ?_
          refine wo_pv (by first | exact pv_notd rfl | exact pv_not rfl) rfl ?_
          refine q_seq ?_
          first | refine p_ite rfl rfl (fun h60 => ?_) (fun h60 => ?_) | refine p_cond rfl rfl (fun h60 => ?_) (fun h60 => ?_)
          · -- t60 True
            refine p_region rfl ?_
            refine wo_pv (pv_move rfl) rfl ?_
            refine r_loada (vs := [_, _, _]) Try.underlying29 rfl ti29 rfl (by exact Nat.le_of_ble_eq_true rfl) (by rfl) rfl ?_
            refine r_buildSliceL [_] (cs := [_, _, _]) Try.underlying38 ti29 rfl rfl rfl rfl rfl rfl rfl rfl (fun b63 => ?_)
            refine r_append1 (sz := 3) (bytes := 40) Try.underlying38 ti29 rfl rfl rfl rfl rfl rfl rfl (by rfl) (by rfl) (by omega) (by simp only [maxLen]; omega) rfl (fun a64 c64 => ?_)
            refine wo_pv (pv_assign rfl) rfl ?_
            refine q_seq ?_
            refine p_region rfl ?_
            refine wo_pv (pv_move rfl) rfl ?_
            refine wo_pv (pv_move rfl) rfl ?_
            first
            | refine wo_opT (by intro c; simp) (opt_appendA (sz := 3) (bytes := 40) Try.underlying38 ti29 rfl rfl rfl rfl rfl rfl rfl (sla_from (e := 29) (sz := 3) (a := a1) (n' := q.length) (c' := c1) (m := kk) (k := q.length) (xs := q.flatMap rowC) rfl hkl) (by rw [rowC_drop, rowC_len, hdl]) (by rw [rowC_drop]; simp [List.all_flatMap, oneCell, rowC]) (by omega) (by simp only [maxLen]; omega) (k := m + 1) (xs := (q.take m).flatMap rowC ++ [vS more[j].key, vS more[j].val, vB more[j].gone])) rfl (fun x67 ⟨a67, c67, h67⟩ => ?_)
            | refine wo_opT (by intro c; simp) (opt_appendA (sz := 3) (bytes := 40) Try.underlying38 ti29 rfl rfl rfl rfl rfl rfl rfl (sla_from (e := 29) (sz := 3) (a := a1) (n' := q.length) (c' := c1) (m := kk) (k := q.length) (xs := q.flatMap rowC) rfl hkl) (by rw [rowC_drop, rowC_len, hdl]) (by rw [rowC_drop]; simp [List.all_flatMap, oneCell, rowC]) (by omega) (by simp only [maxLen]; omega) (k := m) (xs := (q.take m).flatMap rowC)) rfl (fun x67 ⟨a67, c67, h67⟩ => ?_)
            subst h67
            rw [rowC_drop]
            refine wo_pv (pv_assign rfl) rfl ?_
            refine wo_nil ?_
            refine to_block ?_
            refine t_seq ?_
            refine p_region rfl ?_
            refine wo_pv (pv_add rfl rfl (by omega)) rfl ?_
            refine wo_pv (pv_move rfl) rfl ?_
            refine wo_nil ?_
            first
            | (have hg : more[j].gone = false := by simpa using h60
               rw [if_neg (by rw [hg]; simp)] at hsu
               have hl1 : m + 1 + (q.length - kk) = (turnL l (more.take (j + 1))).length := by rw [hsu, List.length_append, List.length_append, htl, hdl, List.length_singleton]
               have hl2 : (q.take m).flatMap rowC ++ [vS more[j].key, vS more[j].val, vB more[j].gone] ++ (q.drop kk).flatMap rowC = (turnL l (more.take (j + 1))).flatMap rowC := by simp [hsu, rowC]
               refine to_inv ⟨((a67, c67), j + 1), by omega⟩ (by dsimp only; omega) ⟨sl_eq hl1, rfl, rfl, rfl, trivial⟩ ?_
               dsimp only
               rw [← hl2, ← hl1]
               exact ent_pick)
            | (have hg : more[j].gone = true := by simpa using h60
               rw [if_pos hg, List.append_nil] at hsu
               have hl1 : m + (q.length - kk) = (turnL l (more.take (j + 1))).length := by rw [hsu, List.length_append, htl, hdl]
               have hl2 : (q.take m).flatMap rowC ++ (q.drop kk).flatMap rowC = (turnL l (more.take (j + 1))).flatMap rowC := by rw [hsu, List.flatMap_append]
               refine to_inv ⟨((a67, c67), j + 1), by omega⟩ (by dsimp only; omega) ⟨sl_eq hl1, rfl, rfl, rfl, trivial⟩ ?_
               dsimp only
               rw [← hl2, ← hl1]
               exact ent_pick)
          · -- t60 False
            refine p_skip rfl ?_
            refine t_seq ?_
            refine p_region rfl ?_
            refine wo_pv (pv_move rfl) rfl ?_
            refine wo_pv (pv_move rfl) rfl ?_
            first
            | refine wo_opT (by intro c; simp) (opt_appendA (sz := 3) (bytes := 40) Try.underlying38 ti29 rfl rfl rfl rfl rfl rfl rfl (sla_from (e := 29) (sz := 3) (a := a1) (n' := q.length) (c' := c1) (m := kk) (k := q.length) (xs := q.flatMap rowC) rfl hkl) (by rw [rowC_drop, rowC_len, hdl]) (by rw [rowC_drop]; simp [List.all_flatMap, oneCell, rowC]) (by omega) (by simp only [maxLen]; omega) (k := m + 1) (xs := (q.take m).flatMap rowC ++ [vS more[j].key, vS more[j].val, vB more[j].gone])) rfl (fun x67 ⟨a67, c67, h67⟩ => ?_)
            | refine wo_opT (by intro c; simp) (opt_appendA (sz := 3) (bytes := 40) Try.underlying38 ti29 rfl rfl rfl rfl rfl rfl rfl (sla_from (e := 29) (sz := 3) (a := a1) (n' := q.length) (c' := c1) (m := kk) (k := q.length) (xs := q.flatMap rowC) rfl hkl) (by rw [rowC_drop, rowC_len, hdl]) (by rw [rowC_drop]; simp [List.all_flatMap, oneCell, rowC]) (by omega) (by simp only [maxLen]; omega) (k := m) (xs := (q.take m).flatMap rowC)) rfl (fun x67 ⟨a67, c67, h67⟩ => ?_)
            subst h67
            rw [rowC_drop]
            refine wo_pv (pv_assign rfl) rfl ?_
            refine wo_nil ?_
            refine to_block ?_
            refine t_seq ?_
            refine p_region rfl ?_
            refine wo_pv (pv_add rfl rfl (by omega)) rfl ?_
            refine wo_pv (pv_move rfl) rfl ?_
            refine wo_nil ?_
            first
            | (have hg : more[j].gone = false := by simpa using h60
               rw [if_neg (by rw [hg]; simp)] at hsu
               have hl1 : m + 1 + (q.length - kk) = (turnL l (more.take (j + 1))).length := by rw [hsu, List.length_append, List.length_append, htl, hdl, List.length_singleton]
               have hl2 : (q.take m).flatMap rowC ++ [vS more[j].key, vS more[j].val, vB more[j].gone] ++ (q.drop kk).flatMap rowC = (turnL l (more.take (j + 1))).flatMap rowC := by simp [hsu, rowC]
               refine to_inv ⟨((a67, c67), j + 1), by omega⟩ (by dsimp only; omega) ⟨sl_eq hl1, rfl, rfl, rfl, trivial⟩ ?_
               dsimp only
               rw [← hl2, ← hl1]
               exact ent_pick)
            | (have hg : more[j].gone = true := by simpa using h60
               rw [if_pos hg, List.append_nil] at hsu
               have hl1 : m + (q.length - kk) = (turnL l (more.take (j + 1))).length := by rw [hsu, List.length_append, htl, hdl]
               have hl2 : (q.take m).flatMap rowC ++ (q.drop kk).flatMap rowC = (turnL l (more.take (j + 1))).flatMap rowC := by rw [hsu, List.flatMap_append]
               refine to_inv ⟨((a67, c67), j + 1), by omega⟩ (by dsimp only; omega) ⟨sl_eq hl1, rfl, rfl, rfl, trivial⟩ ?_
               dsimp only
               rw [← hl2, ← hl1]
               exact ent_pick)
        · -- to the place 10
          refine p_seq rfl ?_
          refine d_draw rfl rfl rfl [Row 29 3 (.slice a1 q.length c1) q.length (q.flatMap rowC), Ce b6 29 [vS more[j].key, vS more[j].val, vB more[j].gone]] ?_
          refine d_first 0 rfl rfl rfl (by kernel_rfl) (by kernel_rfl) (tl_pv (pv_move rfl)) ?_
          refine d_first 1 rfl rfl rfl (by kernel_rfl) (by kernel_rfl) (tl_pv (pv_move rfl)) ?_
          refine d_first 2 rfl rfl rfl (by kernel_rfl) (by kernel_rfl) (tl_pv (pv_call_len_sl Try.underlying38 rfl)) ?_
          refine d_first 3 rfl rfl rfl (by kernel_rfl) (by kernel_rfl) (tl_pv (pv_lss rfl rfl)) ?_
          refine d_first 4 rfl rfl rfl (by kernel_rfl) (by kernel_rfl) (tl_pv (pv_move rfl)) ?_
          first | refine d_gite (j := 4) rfl rfl (fun h39 => ?_) (fun h39 => ?_) | refine d_gsplit (j := 4) rfl rfl (fun h39 => ?_) (fun h39 => ?_)
          · -- t39 True
            refine d_first 5 rfl rfl rfl (by kernel_rfl) (by kernel_rfl) (tl_in (b := true) rfl (tl_pv (pv_move rfl))) ?_
            refine d_first 6 rfl rfl rfl (by kernel_rfl) (by kernel_rfl) (tl_in (b := true) rfl (tl_pv (pv_move rfl))) ?_
            refine d_first 7 rfl rfl rfl (by kernel_rfl) (by kernel_rfl) (tl_in (b := true) rfl (tl_elemAddr (sz := 3) Try.underlying38 ti29 rfl rfl rfl rfl (by omega) (by first | (rw [List.length_map]; omega) | (rw [flat_len (sz := 3) (fun _ => rfl)]; omega) | (simp; omega)) rfl)) ?_
            refine d_first 8 rfl rfl rfl (by kernel_rfl) (by kernel_rfl) (tl_in (b := true) rfl (tl_efield Try.underlying29 rfl ti9 rfl rfl rfl rfl (by rw [rowC_len]; omega))) ?_
            refine d_first 9 rfl rfl rfl (by kernel_rfl) (by kernel_rfl) (tl_in (b := true) rfl (tl_eload Try.underlying9 rfl rfl ((get_rowC (m := m) (by omega) 0 (by decide) rfl).trans rfl))) ?_
            refine d_first 10 rfl rfl rfl (by kernel_rfl) (by kernel_rfl) (tl_in (b := true) rfl (tl_pv (pv_fieldAddrk Try.underlying29 rfl ti9 rfl rfl (k := 0) rfl (by first | exact Nat.zero_add _ | exact Nat.add_zero _ | exact rfl)))) ?_
            refine d_first 11 rfl rfl rfl (by kernel_rfl) (by kernel_rfl) (tl_in (b := true) rfl (tl_load Try.underlying9 rfl rfl rfl)) ?_
            refine d_first 12 rfl rfl rfl (by kernel_rfl) (by kernel_rfl) (tl_in (b := true) rfl (tl_pv (pv_seql rfl rfl))) ?_
            refine d_first 13 rfl rfl rfl (by kernel_rfl) (by kernel_rfl) (tl_pv (pv_pick_t rfl rfl)) ?_
            refine d_done (by kernel_rfl) ?_
            refine t_seq ?_
            first | refine p_ite rfl rfl (fun h48 => ?_) (fun h48 => ?_) | refine p_cond rfl rfl (fun h48 => ?_) (fun h48 => ?_)
            · -- t48 True
              refine p_region rfl ?_
              refine wo_pv (pv_move rfl) rfl ?_
              refine wo_pv (pv_move rfl) rfl ?_
              refine wo_pv (pv_add rfl rfl (by omega)) rfl ?_
              refine wo_pv (pv_slslice_froma (m := m + 1) Try.underlying38 ti29 rfl rfl rfl (by exact Int.natCast_succ m) rfl (by omega) hqc hqs) rfl ?_
              refine wo_pv (pv_assign rfl) rfl ?_
              refine wo_nil ?_
              first
              | exact to_inv ⟨m + 1, by rw [hcut, restAt_eq (by omega) h48], by omega, hcut⟩ trivial ⟨rfl, rfl, rfl, rfl, rfl, rfl, rfl, trivial⟩ ent_pick
              | exact to_inv ⟨m, by rw [hcut, restAt_ne (by omega) h48], by omega, hcut⟩ trivial ⟨rfl, rfl, rfl, rfl, rfl, rfl, rfl, trivial⟩ ent_pick
              | exact to_inv ⟨m, by rw [hcut, restAt_end (by omega)], by omega, hcut⟩ trivial ⟨rfl, rfl, rfl, rfl, rfl, rfl, rfl, trivial⟩ ent_pick
            · -- t48 False
              refine p_skip rfl ?_
              first
              | exact to_inv ⟨m + 1, by rw [hcut, restAt_eq (by omega) h48], by omega, hcut⟩ trivial ⟨rfl, rfl, rfl, rfl, rfl, rfl, rfl, trivial⟩ ent_pick
              | exact to_inv ⟨m, by rw [hcut, restAt_ne (by omega) h48], by omega, hcut⟩ trivial ⟨rfl, rfl, rfl, rfl, rfl, rfl, rfl, trivial⟩ ent_pick
              | exact to_inv ⟨m, by rw [hcut, restAt_end (by omega)], by omega, hcut⟩ trivial ⟨rfl, rfl, rfl, rfl, rfl, rfl, rfl, trivial⟩ ent_pick
          · -- t39 False
            refine d_first 5 rfl rfl rfl (by kernel_rfl) (by kernel_rfl) (tl_out (b := false) rfl rfl) ?_
            refine d_first 6 rfl rfl rfl (by kernel_rfl) (by kernel_rfl) (tl_out (b := false) rfl rfl) ?_
            refine d_first 7 rfl rfl rfl (by kernel_rfl) (by kernel_rfl) (tl_out (b := false) rfl rfl) ?_
            refine d_first 8 rfl rfl rfl (by kernel_rfl) (by kernel_rfl) (tl_out (b := false) rfl rfl) ?_
            refine d_first 9 rfl rfl rfl (by kernel_rfl) (by kernel_rfl) (tl_out (b := false) rfl rfl) ?_
            refine d_first 10 rfl rfl rfl (by kernel_rfl) (by kernel_rfl) (tl_out (b := false) rfl rfl) ?_
            refine d_first 11 rfl rfl rfl (by kernel_rfl) (by kernel_rfl) (tl_out (b := false) rfl rfl) ?_
            refine d_first 12 rfl rfl rfl (by kernel_rfl) (by kernel_rfl) (tl_out (b := false) rfl rfl) ?_
            refine d_first 13 rfl rfl rfl (by kernel_rfl) (by kernel_rfl) (tl_pv (pv_pick_f rfl rfl)) ?_
            refine d_done (by kernel_rfl) ?_
            refine t_seq ?_
            refine p_false rfl rfl ?_
            refine p_skip rfl ?_
            first
            | exact to_inv ⟨m + 1, by rw [hcut, restAt_eq (by omega) h48], by omega, hcut⟩ trivial ⟨rfl, rfl, rfl, rfl, rfl, rfl, rfl, trivial⟩ ent_pick
            | exact to_inv ⟨m, by rw [hcut, restAt_ne (by omega) h48], by omega, hcut⟩ trivial ⟨rfl, rfl, rfl, rfl, rfl, rfl, rfl, trivial⟩ ent_pick
            | exact to_inv ⟨m, by rw [hcut, restAt_end (by omega)], by omega, hcut⟩ trivial ⟨rfl, rfl, rfl, rfl, rfl, rfl, rfl, trivial⟩ ent_pick
    · -- t20 False
      refine d_first 5 rfl rfl rfl (by kernel_rfl) (by kernel_rfl) (tl_out (b := false) rfl rfl) ?_
      refine d_first 6 rfl rfl rfl (by kernel_rfl) (by kernel_rfl) (tl_out (b := false) rfl rfl) ?_
      refine d_first 7 rfl rfl rfl (by kernel_rfl) (by kernel_rfl) (tl_out (b := false) rfl rfl) ?_
      refine d_first 8 rfl rfl rfl (by kernel_rfl) (by kernel_rfl) (tl_out (b := false) rfl rfl) ?_
      refine d_first 9 rfl rfl rfl (by kernel_rfl) (by kernel_rfl) (tl_out (b := false) rfl rfl) ?_
      refine d_first 10 rfl rfl rfl (by kernel_rfl) (by kernel_rfl) (tl_out (b := false) rfl rfl) ?_
      refine d_first 11 rfl rfl rfl (by kernel_rfl) (by kernel_rfl) (tl_out (b := false) rfl rfl) ?_
      refine d_first 12 rfl rfl rfl (by kernel_rfl) (by kernel_rfl) (tl_out (b := false) rfl rfl) ?_
      refine d_first 13 rfl rfl rfl (by kernel_rfl) (by kernel_rfl) (tl_pv (pv_pick_f rfl rfl)) ?_
      refine d_done (by kernel_rfl) ?_
      refine t_seq ?_
      refine p_false rfl rfl ?_
      refine p_exit 2 rfl ?_
      refine t_seq_exit ?_
      refine to_inv_exit ?_
      refine to_block_here ?_
      refine t_seq ?_
      refine p_seq rfl ?_
      have hcut : cutAt q more[j].key = m := cutAt_eq q _ m hm1 hm2 (fun h => by first | exact h29 | omega)
      refine p_region rfl ?_
      refine wo_pv (pv_move rfl) rfl ?_
      refine wo_pv (pv_move rfl) rfl ?_
      refine wo_pv (pv_slslice_froma (m := m) Try.underlying38 ti29 rfl rfl rfl rfl rfl (by omega) hqc hqs) rfl ?_
      refine wo_pv (pv_assign rfl) rfl ?_
      refine q_seq ?_
      refine p_cut (fun (kk : { k : Nat // k = restAt q more[j].key (cutAt q more[j].key) ∧ k ≤ q.length ∧ cutAt q more[j].key = m }) => [(0, .slice a1 q.length c1), (6, .pointer (some ⟨b6, 0, none⟩)), (7, vI m), (8, .slice (fromA a1 kk.1 c1 (kk.1 * 3)) (q.length - kk.1) (c1 - kk.1)), (10, .slice a2 more.length c2), (11, vI more.length), (12, vI j)]) (fun (kk : { k : Nat // k = restAt q more[j].key (cutAt q more[j].key) ∧ k ≤ q.length ∧ cutAt q more[j].key = m }) => [Row 29 3 (.slice a1 q.length c1) q.length (q.flatMap rowC), Ce b6 29 [vS more[j].key, vS more[j].val, vB more[j].gone], B]) rfl (fun kk => ?_) ?_
      · -- behind the place 10
        obtain ⟨kk, hkk, hkl, hcut⟩ := kk
        have htl : (q.take m).length = m := by rw [List.length_take]; omega
        have hdl : (q.drop kk).length = q.length - kk := List.length_drop
        rw [turn1, ← hkk, hcut] at hsu
        try dsimp only
        refine p_seq rfl ?_
        refine p_region rfl ?_
        refine r_buildSliceL [] (cs := []) Try.underlying38 ti29 rfl rfl rfl rfl rfl rfl rfl rfl (fun b53 => ?_)
        refine wo_pv (pv_move rfl) rfl ?_
        refine wo_pv (pv_move rfl) rfl ?_
        refine wo_pv (pv_slslice_tom (m := m) Try.underlying38 ti29 rfl rfl rfl (by omega)) rfl ?_
        refine wo_ent' (ent_row (k := 0) (cap := 0) (sz := 3) (e := 29) (g := b53) (xs := []) (cur := []) (Nat.le_refl _) (by simp [maxLen]) rfl rfl rfl) ?_
        refine wo_opT (by intro c; simp) (opt_appendA (sz := 3) (bytes := 40) Try.underlying38 ti29 rfl rfl rfl rfl rfl rfl rfl (sla_take (sla_row (e := 29) (sz := 3) (k := q.length) (n := q.length) (c := c1) (a := a1) (xs := q.flatMap rowC)) (m * 3)) (by rw [rowC_take, rowC_len, htl]) (by rw [rowC_take]; simp [List.all_flatMap, oneCell, rowC]) (by omega) (by simp only [maxLen]; omega) (k := 0) (xs := [])) rfl (fun x57 ⟨a57, c57, h57⟩ => ?_)
        subst h57
        rw [Nat.zero_add, List.nil_append, rowC_take]
        refine wo_pv (pv_assign rfl) rfl ?_
        refine q_seq ?_
        refine p_seq rfl ?_
        refine p_seq rfl ?_
        refine p_region rfl ?_
        refine wo_pv (pv_fieldAddrk Try.underlying29 rfl ti4 rfl rfl (k := 2) rfl (by first | exact Nat.zero_add _ | exact Nat.add_zero _ | exact rfl)) rfl ?_
        refine r_load Try.underlying4 rfl rfl rfl rfl ?_
        refine wo_pv (by first | exact pv_notd rfl | exact pv_not rfl) rfl ?_
        refine q_seq ?_
        first | refine p_ite rfl rfl (fun h60 => ?_) (fun h60 => ?_) | refine p_cond rfl rfl (fun h60 => ?_) (fun h60 => ?_)
        · -- t60 True
          refine p_region rfl ?_
          refine wo_pv (pv_move rfl) rfl ?_
          refine r_loada (vs := [_, _, _]) Try.underlying29 rfl ti29 rfl (by exact Nat.le_of_ble_eq_true rfl) (by rfl) rfl ?_
          refine r_buildSliceL [_] (cs := [_, _, _]) Try.underlying38 ti29 rfl rfl rfl rfl rfl rfl rfl rfl (fun b63 => ?_)
          refine r_append1 (sz := 3) (bytes := 40) Try.underlying38 ti29 rfl rfl rfl rfl rfl rfl rfl (by rfl) (by rfl) (by omega) (by simp only [maxLen]; omega) rfl (fun a64 c64 => ?_)
          refine wo_pv (pv_assign rfl) rfl ?_
          refine q_seq ?_
          refine p_region rfl ?_
          refine wo_pv (pv_move rfl) rfl ?_
          refine wo_pv (pv_move rfl) rfl ?_
          first
          | refine wo_opT (by intro c; simp) (opt_appendA (sz := 3) (bytes := 40) Try.underlying38 ti29 rfl rfl rfl rfl rfl rfl rfl (sla_from (e := 29) (sz := 3) (a := a1) (n' := q.length) (c' := c1) (m := kk) (k := q.length) (xs := q.flatMap rowC) rfl hkl) (by rw [rowC_drop, rowC_len, hdl]) (by rw [rowC_drop]; simp [List.all_flatMap, oneCell, rowC]) (by omega) (by simp only [maxLen]; omega) (k := m + 1) (xs := (q.take m).flatMap rowC ++ [vS more[j].key, vS more[j].val, vB more[j].gone])) rfl (fun x67 ⟨a67, c67, h67⟩ => ?_)
          | refine wo_opT (by intro c; simp) (opt_appendA (sz := 3) (bytes := 40) Try.underlying38 ti29 rfl rfl rfl rfl rfl rfl rfl (sla_from (e := 29) (sz := 3) (a := a1) (n' := q.length) (c' := c1) (m := kk) (k := q.length) (xs := q.flatMap rowC) rfl hkl) (by rw [rowC_drop, rowC_len, hdl]) (by rw [rowC_drop]; simp [List.all_flatMap, oneCell, rowC]) (by omega) (by simp only [maxLen]; omega) (k := m) (xs := (q.take m).flatMap rowC)) rfl (fun x67 ⟨a67, c67, h67⟩ => ?_)
          subst h67
          rw [rowC_drop]
          refine wo_pv (pv_assign rfl) rfl ?_
          refine wo_nil ?_
          refine to_block ?_
          refine t_seq ?_
          refine p_region rfl ?_
          refine wo_pv (pv_add rfl rfl (by omega)) rfl ?_
          refine wo_pv (pv_move rfl) rfl ?_
          refine wo_nil ?_
          first
          | (have hg : more[j].gone = false := by simpa using h60
             rw [if_neg (by rw [hg]; simp)] at hsu
             have hl1 : m + 1 + (q.length - kk) = (turnL l (more.take (j + 1))).length := by rw [hsu, List.length_append, List.length_append, htl, hdl, List.length_singleton]
             have hl2 : (q.take m).flatMap rowC ++ [vS more[j].key, vS more[j].val, vB more[j].gone] ++ (q.drop kk).flatMap rowC = (turnL l (more.take (j + 1))).flatMap rowC := by simp [hsu, rowC]
             refine to_inv ⟨((a67, c67), j + 1), by omega⟩ (by dsimp only; omega) ⟨sl_eq hl1, rfl, rfl, rfl, trivial⟩ ?_
             dsimp only
             rw [← hl2, ← hl1]
             exact ent_pick)
          | (have hg : more[j].gone = true := by simpa using h60
             rw [if_pos hg, List.append_nil] at hsu
             have hl1 : m + (q.length - kk) = (turnL l (more.take (j + 1))).length := by rw [hsu, List.length_append, htl, hdl]
             have hl2 : (q.take m).flatMap rowC ++ (q.drop kk).flatMap rowC = (turnL l (more.take (j + 1))).flatMap rowC := by rw [hsu, List.flatMap_append]
             refine to_inv ⟨((a67, c67), j + 1), by omega⟩ (by dsimp only; omega) ⟨sl_eq hl1, rfl, rfl, rfl, trivial⟩ ?_
             dsimp only
             rw [← hl2, ← hl1]
             exact ent_pick)
        · -- t60 False
          refine p_skip rfl ?_
          refine t_seq ?_
          refine p_region rfl ?_
          refine wo_pv (pv_move rfl) rfl ?_
          refine wo_pv (pv_move rfl) rfl ?_
          first
          | refine wo_opT (by intro c; simp) (opt_appendA (sz := 3) (bytes := 40) Try.underlying38 ti29 rfl rfl rfl rfl rfl rfl rfl (sla_from (e := 29) (sz := 3) (a := a1) (n' := q.length) (c' := c1) (m := kk) (k := q.length) (xs := q.flatMap rowC) rfl hkl) (by rw [rowC_drop, rowC_len, hdl]) (by rw [rowC_drop]; simp [List.all_flatMap, oneCell, rowC]) (by omega) (by simp only [maxLen]; omega) (k := m + 1) (xs := (q.take m).flatMap rowC ++ [vS more[j].key, vS more[j].val, vB more[j].gone])) rfl (fun x67 ⟨a67, c67, h67⟩ => ?_)
          | refine wo_opT (by intro c; simp) (opt_appendA (sz := 3) (bytes := 40) Try.underlying38 ti29 rfl rfl rfl rfl rfl rfl rfl (sla_from (e := 29) (sz := 3) (a := a1) (n' := q.length) (c' := c1) (m := kk) (k := q.length) (xs := q.flatMap rowC) rfl hkl) (by rw [rowC_drop, rowC_len, hdl]) (by rw [rowC_drop]; simp [List.all_flatMap, oneCell, rowC]) (by omega) (by simp only [maxLen]; omega) (k := m) (xs := (q.take m).flatMap rowC)) rfl (fun x67 ⟨a67, c67, h67⟩ => ?_)
          subst h67
          rw [rowC_drop]
          refine wo_pv (pv_assign rfl) rfl ?_
          refine wo_nil ?_
          refine to_block ?_
          refine t_seq ?_
          refine p_region rfl ?_
          refine wo_pv (pv_add rfl rfl (by omega)) rfl ?_
          refine wo_pv (pv_move rfl) rfl ?_
          refine wo_nil ?_
          first
          | (have hg : more[j].gone = false := by simpa using h60
             rw [if_neg (by rw [hg]; simp)] at hsu
             have hl1 : m + 1 + (q.length - kk) = (turnL l (more.take (j + 1))).length := by rw [hsu, List.length_append, List.length_append, htl, hdl, List.length_singleton]
             have hl2 : (q.take m).flatMap rowC ++ [vS more[j].key, vS more[j].val, vB more[j].gone] ++ (q.drop kk).flatMap rowC = (turnL l (more.take (j + 1))).flatMap rowC := by simp [hsu, rowC]
             refine to_inv ⟨((a67, c67), j + 1), by omega⟩ (by dsimp only; omega) ⟨sl_eq hl1, rfl, rfl, rfl, trivial⟩ ?_
             dsimp only
             rw [← hl2, ← hl1]
             exact ent_pick)
          | (have hg : more[j].gone = true := by simpa using h60
             rw [if_pos hg, List.append_nil] at hsu
             have hl1 : m + (q.length - kk) = (turnL l (more.take (j + 1))).length := by rw [hsu, List.length_append, htl, hdl]
             have hl2 : (q.take m).flatMap rowC ++ (q.drop kk).flatMap rowC = (turnL l (more.take (j + 1))).flatMap rowC := by rw [hsu, List.flatMap_append]
             refine to_inv ⟨((a67, c67), j + 1), by omega⟩ (by dsimp only; omega) ⟨sl_eq hl1, rfl, rfl, rfl, trivial⟩ ?_
             dsimp only
             rw [← hl2, ← hl1]
             exact ent_pick)
      · -- to the place 10
        refine p_seq rfl ?_
        refine d_draw rfl rfl rfl [Row 29 3 (.slice a1 q.length c1) q.length (q.flatMap rowC), Ce b6 29 [vS more[j].key, vS more[j].val, vB more[j].gone]] ?_
        refine d_first 0 rfl rfl rfl (by kernel_rfl) (by kernel_rfl) (tl_pv (pv_move rfl)) ?_
        refine d_first 1 rfl rfl rfl (by kernel_rfl) (by kernel_rfl) (tl_pv (pv_move rfl)) ?_
        refine d_first 2 rfl rfl rfl (by kernel_rfl) (by kernel_rfl) (tl_pv (pv_call_len_sl Try.underlying38 rfl)) ?_
        refine d_first 3 rfl rfl rfl (by kernel_rfl) (by kernel_rfl) (tl_pv (pv_lss rfl rfl)) ?_
        refine d_first 4 rfl rfl rfl (by kernel_rfl) (by kernel_rfl) (tl_pv (pv_move rfl)) ?_
        first | refine d_gite (j := 4) rfl rfl (fun h39 => ?_) (fun h39 => ?_) | refine d_gsplit (j := 4) rfl rfl (fun h39 => ?_) (fun h39 => ?_)
        · -- t39 True
          refine d_first 5 rfl rfl rfl (by kernel_rfl) (by kernel_rfl) (tl_in (b := true) rfl (tl_pv (pv_move rfl))) ?_
          refine d_first 6 rfl rfl rfl (by kernel_rfl) (by kernel_rfl) (tl_in (b := true) rfl (tl_pv (pv_move rfl))) ?_
          refine d_first 7 rfl rfl rfl (by kernel_rfl) (by kernel_rfl) (tl_in (b := true) rfl (tl_elemAddr (sz := 3) Try.underlying38 ti29 rfl rfl rfl rfl (by omega) (by first | (rw [List.length_map]; omega) | (rw [flat_len (sz := 3) (fun _ => rfl)]; omega) | (simp; omega)) rfl)) ?_
          refine d_first 8 rfl rfl rfl (by kernel_rfl) (by kernel_rfl) (tl_in (b := true) rfl (tl_efield Try.underlying29 rfl ti9 rfl rfl rfl rfl (by rw [rowC_len]; omega))) ?_
          refine d_first 9 rfl rfl rfl (by kernel_rfl) (by kernel_rfl) (tl_in (b := true) rfl (tl_eload Try.underlying9 rfl rfl ((get_rowC (m := m) (by omega) 0 (by decide) rfl).trans rfl))) ?_
          refine d_first 10 rfl rfl rfl (by kernel_rfl) (by kernel_rfl) (tl_in (b := true) rfl (tl_pv (pv_fieldAddrk Try.underlying29 rfl ti9 rfl rfl (k := 0) rfl (by first | exact Nat.zero_add _ | exact Nat.add_zero _ | exact rfl)))) ?_
          refine d_first 11 rfl rfl rfl (by kernel_rfl) (by kernel_rfl) (tl_in (b := true) rfl (tl_load Try.underlying9 rfl rfl rfl)) ?_
          refine d_first 12 rfl rfl rfl (by kernel_rfl) (by kernel_rfl) (tl_in (b := true) rfl (tl_pv (pv_seql rfl rfl))) ?_
          refine d_first 13 rfl rfl rfl (by kernel_rfl) (by kernel_rfl) (tl_pv (pv_pick_t rfl rfl)) ?_
          refine d_done (by kernel_rfl) ?_
          refine t_seq ?_
          first | refine p_ite rfl rfl (fun h48 => ?_) (fun h48 => ?_) | refine p_cond rfl rfl (fun h48 => ?_) (fun h48 => ?_)
          · -- t48 True
            refine p_region rfl ?_
            refine wo_pv (pv_move rfl) rfl ?_
            refine wo_pv (pv_move rfl) rfl ?_
            refine wo_pv (pv_add rfl rfl (by omega)) rfl ?_
            refine wo_pv (pv_slslice_froma (m := m + 1) Try.underlying38 ti29 rfl rfl rfl (by exact Int.natCast_succ m) rfl (by omega) hqc hqs) rfl ?_
            refine wo_pv (pv_assign rfl) rfl ?_
            refine wo_nil ?_
            first
            | exact to_inv ⟨m + 1, by rw [hcut, restAt_eq (by omega) h48], by omega, hcut⟩ trivial ⟨rfl, rfl, rfl, rfl, rfl, rfl, rfl, trivial⟩ ent_pick
            | exact to_inv ⟨m, by rw [hcut, restAt_ne (by omega) h48], by omega, hcut⟩ trivial ⟨rfl, rfl, rfl, rfl, rfl, rfl, rfl, trivial⟩ ent_pick
            | exact to_inv ⟨m, by rw [hcut, restAt_end (by omega)], by omega, hcut⟩ trivial ⟨rfl, rfl, rfl, rfl, rfl, rfl, rfl, trivial⟩ ent_pick
          · -- t48 False
            refine p_skip rfl ?_
            first
            | exact to_inv ⟨m + 1, by rw [hcut, restAt_eq (by omega) h48], by omega, hcut⟩ trivial ⟨rfl, rfl, rfl, rfl, rfl, rfl, rfl, trivial⟩ ent_pick
            | exact to_inv ⟨m, by rw [hcut, restAt_ne (by omega) h48], by omega, hcut⟩ trivial ⟨rfl, rfl, rfl, rfl, rfl, rfl, rfl, trivial⟩ ent_pick
            | exact to_inv ⟨m, by rw [hcut, restAt_end (by omega)], by omega, hcut⟩ trivial ⟨rfl, rfl, rfl, rfl, rfl, rfl, rfl, trivial⟩ ent_pick
        · -- t39 False
          refine d_first 5 rfl rfl rfl (by kernel_rfl) (by kernel_rfl) (tl_out (b := false) rfl rfl) ?_
          refine d_first 6 rfl rfl rfl (by kernel_rfl) (by kernel_rfl) (tl_out (b := false) rfl rfl) ?_
          refine d_first 7 rfl rfl rfl (by kernel_rfl) (by kernel_rfl) (tl_out (b := false) rfl rfl) ?_
          refine d_first 8 rfl rfl rfl (by kernel_rfl) (by kernel_rfl) (tl_out (b := false) rfl rfl) ?_
          refine d_first 9 rfl rfl rfl (by kernel_rfl) (by kernel_rfl) (tl_out (b := false) rfl rfl) ?_
          refine d_first 10 rfl rfl rfl (by kernel_rfl) (by kernel_rfl) (tl_out (b := false) rfl rfl) ?_
          refine d_first 11 rfl rfl rfl (by kernel_rfl) (by kernel_rfl) (tl_out (b := false) rfl rfl) ?_
          refine d_first 12 rfl rfl rfl (by kernel_rfl) (by kernel_rfl) (tl_out (b := false) rfl rfl) ?_
          refine d_first 13 rfl rfl rfl (by kernel_rfl) (by kernel_rfl) (tl_pv (pv_pick_f rfl rfl)) ?_
          refine d_done (by kernel_rfl) ?_
          refine t_seq ?_
          refine p_false rfl rfl ?_
          refine p_skip rfl ?_
          first
          | exact to_inv ⟨m + 1, by rw [hcut, restAt_eq (by omega) h48], by omega, hcut⟩ trivial ⟨rfl, rfl, rfl, rfl, rfl, rfl, rfl, trivial⟩ ent_pick
          | exact to_inv ⟨m, by rw [hcut, restAt_ne (by omega) h48], by omega, hcut⟩ trivial ⟨rfl, rfl, rfl, rfl, rfl, rfl, rfl, trivial⟩ ent_pick
          | exact to_inv ⟨m, by rw [hcut, restAt_end (by omega)], by omega, hcut⟩ trivial ⟨rfl, rfl, rfl, rfl, rfl, rfl, rfl, trivial⟩ ent_pick
  · -- t13 False
    refine p_exit 0 rfl ?_
    refine t_seq_exit ?_
    refine to_inv_exit ?_
    refine to_block_here ?_
    refine t_seq ?_
    refine p_seq rfl ?_
    refine p_region rfl ?_
    refine wo_pv (pv_move rfl) rfl ?_
    refine wo_pv (pv_assign rfl) rfl ?_
    refine q_seq ?_
    refine p_ret rfl ?_
    have hjn : j = more.length := by omega
    subst hjn
    rw [List.take_length] at hq
    subst hq
    refine fin_ret (a1, c1) (vs := [_]) (Cs := []) rfl (.tmp rfl .nil) rfl trivial ?_
    exact ent_pick
end Go.Proofs.Ytimafngkifakfaa

/- The replay: walk. -/
set_option maxRecDepth 100000
namespace Go.Proofs.Ytimafngkifakfaa
theorem scanS_bound (N : Nat) : ∀ (ss : List Bs) (i : Nat) (t : Bs) (l : List Bs) (e : Nat), t.length + 30 * ss.length ≤ N → (∀ x ∈ l, x.length ≤ N) → (∀ x ∈ (scanS ss i t l e).1, x.length ≤ N) ∧ (scanS ss i t l e).1.length ≤ l.length + ss.length := by
  intro ss
  induction ss with
  | nil => intro i t l e h1 h2; exact ⟨h2, by simp [scanS]⟩
  | cons x r ih =>
    intro i t l e h1 h2
    simp only [List.length_cons] at h1
    simp only [scanS, List.length_cons]
    split
    · exact ⟨h2, by dsimp only; omega⟩
    · rename_i h30
      have hb : ((x.drop 1).take (x.getD 0 0).toNat).length ≤ 30 := by rw [List.length_take]; omega
      have hc : (t ++ (x.drop 1).take (x.getD 0 0).toNat).length ≤ t.length + 30 := by rw [List.length_append]; omega
      split
      · have := ih (i + 1) (t ++ (x.drop 1).take (x.getD 0 0).toNat) l e (by omega) h2
        exact ⟨this.1, by omega⟩
      · split
        · have := ih (i + 1) [] (l ++ [t ++ (x.drop 1).take (x.getD 0 0).toNat]) (i + 1) (by simp only [List.length_nil]; omega) (fun y hy => by
            rcases List.mem_append.1 hy with hy | hy
            · exact h2 y hy
            · simp only [List.mem_singleton] at hy; subst hy; omega)
          refine ⟨this.1, ?_⟩
          have h3 := this.2
          rw [List.length_append, List.length_singleton] at h3
          omega
        · exact ⟨h2, by dsimp only; omega⟩
theorem scanO_bound (o : Od) : (∀ x ∈ (scanO o).1, x.length ≤ 30 * o.secs.length) ∧ (scanO o).1.length ≤ o.secs.length := by
  have := scanS_bound (30 * o.secs.length) o.secs 0 [] [] 0 (by simp) (by simp)
  exact ⟨this.1, by have := this.2; simp at this; exact this⟩
theorem replayS_snoc {ts : List Bs} {j : Nat} (h : j < ts.length) : replayS (ts.take (j + 1)) = turnL (replayS (ts.take j)) ((readR ts[j]).getD []) := by
  unfold replayS
  rw [List.take_succ_eq_append_getElem h, List.foldl_append]; rfl
theorem ref5_Replay_sp (p : Nat) (o : Od) (h60 : o.secs.length ≤ 60) : Sp Try.prog 27 [.pointer (some ⟨p, 0, none⟩)] [IsO p o] (X := Option Addr × Nat) (fun x => .slice x.1 (replayS (scanO o).1).length x.2) (fun _ => True)
    (fun x => [Row 29 3 (.slice x.1 (replayS (scanO o).1).length x.2) (replayS (scanO o).1).length ((replayS (scanO o).1).flatMap rowC), IsO p o]) := by
  obtain ⟨hts, htn⟩ := scanO_bound o
  obtain ⟨ts, hT⟩ : ∃ ts, ts = (scanO o).1 := ⟨_, rfl⟩
  have hsc := ref5_Scan_sp p o
  rw [← hT] at hts htn hsc ⊢
  refine Sp.body (n := 32) Try.call27 Try.func27 rfl rfl rfl ?_
  refine p_seq rfl ?_
  refine p_region rfl ?_
  refine wo_pv (pv_assign rfl) rfl ?_
  refine q_seq ?_
  refine p_seq rfl ?_
  refine p_region rfl ?_
  refine wo_pv (pv_move rfl) rfl ?_
  refine r_callX hsc rfl rfl rfl (fun x12 _ => ?_)
  refine wo_pv (pv_move rfl) rfl ?_
  refine wo_pv (pv_extract rfl rfl) rfl ?_
  refine wo_pv (pv_extract rfl rfl) rfl ?_
  refine wo_pv (pv_assign rfl) rfl ?_
  refine wo_pv (pv_assign rfl) rfl ?_
  refine q_seq ?_
  refine p_seq rfl ?_
  refine p_region rfl ?_
  refine wo_pv (pv_assign rfl) rfl ?_
  refine q_seq ?_
  refine p_seq rfl ?_
  refine p_seq rfl ?_
  refine p_region rfl ?_
  refine wo_pv (pv_move rfl) rfl ?_
  refine wo_pv (pv_call_len_sl Try.underlying46 rfl) rfl ?_
  refine wo_pv (pv_move rfl) rfl ?_
  refine q_seq ?_
  refine p_block 0 rfl ?_
  refine p_loop (fun (i : { x : (Option Addr × Nat) × Nat // x.2 ≤ ts.length ∧ (replayS (ts.take x.2)).length ≤ 1800 * x.2 }) => [(5, .slice i.1.1.1 (replayS (ts.take i.1.2)).length i.1.1.2), (15, .slice x12.1 ts.length x12.2), (16, vI ts.length), (17, vI i.1.2)]) (fun (i : { x : (Option Addr × Nat) × Nat // x.2 ≤ ts.length ∧ (replayS (ts.take x.2)).length ≤ 1800 * x.2 }) => [Row 29 3 (.slice i.1.1.1 (replayS (ts.take i.1.2)).length i.1.1.2) (replayS (ts.take i.1.2)).length ((replayS (ts.take i.1.2)).flatMap rowC), Row 9 1 (.slice x12.1 ts.length x12.2) ts.length (ts.map vS), IsO p o]) (fun (i : { x : (Option Addr × Nat) × Nat // x.2 ≤ ts.length ∧ (replayS (ts.take x.2)).length ≤ 1800 * x.2 }) => ts.length - i.1.2) rfl (⟨((none, 0), 0), Nat.zero_le _, Nat.zero_le _⟩) ?_ ?_ (fun i => ?_)
  · exact ⟨rfl, rfl, rfl, rfl, trivial⟩
  · -- H at start
    exact ent_step row_nil ent_pick
  obtain ⟨⟨⟨a, c⟩, j⟩, hj, hlen⟩ := i
  dsimp only at hj hlen
  try dsimp only
  refine p_seq rfl ?_
  refine p_region rfl ?_
  refine wo_pv (pv_lss rfl rfl) rfl ?_
  refine q_seq ?_
  refine p_seq rfl ?_
  first | refine p_ite rfl rfl (fun h18 => ?_) (fun h18 => ?_) | refine p_cond rfl rfl (fun h18 => ?_) (fun h18 => ?_)
  · -- t18 True
    refine p_skip rfl ?_
    refine t_seq ?_
    refine p_seq rfl ?_
    refine p_block 1 rfl ?_
    refine p_seq rfl ?_
    have hjl : j < ts.length := by omega
    have htl := hts _ (List.getElem_mem hjl)
    have hsn := replayS_snoc hjl
    have hrl := readR_len ts[j]
    refine p_region rfl ?_
    refine r_elemAddr (sz := 1) Try.underlying46 ti9 rfl rfl rfl rfl (by omega) (by first | (rw [List.length_map]; omega) | (rw [flat_len (sz := 1) (fun _ => rfl)]; omega) | (simp; omega)) (Nat.mul_one _) rfl ?_
    refine r_eload Try.underlying9 rfl rfl (get_map (by omega)) rfl ?_
    refine wo_pv (pv_assign rfl) rfl ?_
    refine q_seq ?_
    refine p_seq rfl ?_
    refine p_region rfl ?_
    refine wo_pv (pv_move rfl) rfl ?_
    refine r_callX (ref5_ReadRows_sp ts[j] (by omega)) rfl rfl rfl (fun x23 _ => ?_)
    refine wo_pv (pv_move rfl) rfl ?_
    refine wo_pv (pv_extract rfl rfl) rfl ?_
    refine wo_pv (pv_extract rfl rfl) rfl ?_
    refine wo_pv (pv_assign rfl) rfl ?_
    refine wo_pv (pv_assign rfl) rfl ?_
    refine q_seq ?_
    refine p_seq rfl ?_
    refine p_region rfl ?_
    refine wo_pv (pv_move rfl) rfl ?_
    refine q_seq ?_
    first | refine p_ite rfl rfl (fun h26 => ?_) (fun h26 => ?_) | refine p_cond rfl rfl (fun h26 => ?_) (fun h26 => ?_)
    · -- t26 True
      refine p_region rfl ?_
      refine wo_pv (pv_move rfl) rfl ?_
      refine wo_pv (pv_move rfl) rfl ?_
      refine r_callX (ref5_Turned_sp (B := Row 29 3 (.slice x23.1 ((readR ts[j]).getD []).length x23.2) ((readR ts[j]).getD []).length (((readR ts[j]).getD []).flatMap rowC)) (replayS (ts.take j)).length c ((readR ts[j]).getD []).length x23.2 (replayS (ts.take j)) ((readR ts[j]).getD []) sla_row rfl rfl (by omega)) rfl rfl rfl (fun x29 _ => ?_)
      refine wo_pv (pv_assign rfl) rfl ?_
      refine wo_nil ?_
      refine to_block ?_
      refine t_seq ?_
      refine p_region rfl ?_
      refine wo_pv (pv_add rfl rfl (by omega)) rfl ?_
      refine wo_pv (pv_move rfl) rfl ?_
      refine wo_nil ?_
      have htl2 := turnL_len ((readR ts[j]).getD []) (replayS (ts.take j))
      first
      | (refine to_inv ⟨(x29, j + 1), by dsimp only; omega, by dsimp only; rw [hsn]; omega⟩ (by dsimp only; omega) ⟨sl_eq (by dsimp only; rw [hsn]), rfl, rfl, rfl, trivial⟩ ?_
         dsimp only
         rw [hsn]
         exact ent_pick)
      | (have hno : (readR ts[j]).getD [] = [] := by cases e : readR ts[j] <;> simp_all
         rw [hno] at hsn
         have hsn : replayS (ts.take (j + 1)) = replayS (ts.take j) := hsn
         refine to_inv ⟨((a, c), j + 1), by dsimp only; omega, by dsimp only; rw [hsn]; omega⟩ (by dsimp only; omega) ⟨sl_eq (by dsimp only; rw [hsn]), rfl, rfl, rfl, trivial⟩ ?_
         dsimp only
         rw [hsn]
         exact ent_pick)
    · -- t26 False
      refine p_skip rfl ?_
      refine to_block ?_
      refine t_seq ?_
      refine p_region rfl ?_
      refine wo_pv (pv_add rfl rfl (by omega)) rfl ?_
      refine wo_pv (pv_move rfl) rfl ?_
      refine wo_nil ?_
      have htl2 := turnL_len ((readR ts[j]).getD []) (replayS (ts.take j))
      first
      | (refine to_inv ⟨(x29, j + 1), by dsimp only; omega, by dsimp only; rw [hsn]; omega⟩ (by dsimp only; omega) ⟨sl_eq (by dsimp only; rw [hsn]), rfl, rfl, rfl, trivial⟩ ?_
         dsimp only
         rw [hsn]
         exact ent_pick)
      | (have hno : (readR ts[j]).getD [] = [] := by cases e : readR ts[j] <;> simp_all
         rw [hno] at hsn
         have hsn : replayS (ts.take (j + 1)) = replayS (ts.take j) := hsn
         refine to_inv ⟨((a, c), j + 1), by dsimp only; omega, by dsimp only; rw [hsn]; omega⟩ (by dsimp only; omega) ⟨sl_eq (by dsimp only; rw [hsn]), rfl, rfl, rfl, trivial⟩ ?_
         dsimp only
         rw [hsn]
         exact ent_pick)
  · -- t18 False
    refine p_exit 0 rfl ?_
    refine t_seq_exit ?_
    refine to_inv_exit ?_
    refine to_block_here ?_
    refine t_seq ?_
    refine p_seq rfl ?_
    refine p_region rfl ?_
    refine wo_pv (pv_move rfl) rfl ?_
    refine wo_pv (pv_assign rfl) rfl ?_
    refine q_seq ?_
    refine p_ret rfl ?_
    have hjn : j = ts.length := by omega
    subst hjn
    rw [List.take_length]
    refine fin_ret (a, c) (vs := [_]) (Cs := []) rfl (.tmp rfl .nil) rfl trivial ?_
    exact ent_pick
end Go.Proofs.Ytimafngkifakfaa
