/- Texts of this proof, put together: RangeF, Sli, Scope, MapS, Eqs, Sto, Cut, Imm, EqS, Args, MapR. -/
import Derived.RangeFuncIn
import Derived.RangeFuncNested
import Derived.Laws.MakeOwn
import Derived.Laws.CopyRow
import Derived.Maps.RangeRun
import Derived.Laws.BitsAllLaws
import Derived.Laws.StructEq
import Derived.ChangeArms
import Derived.DataReads
import Derived.WideShapes
import Derived.Shelf.SlMaps.Clone
import Derived.Test.YtimafngkifakfaaQA2
import Derived.Test.YtimafngkifakfaaQA3
set_option linter.unusedVariables false
set_option linter.unusedSimpArgs false
/- A range over a function; a call of yield. -/
namespace Go.Proofs.Ytimafngkifakfaa

/-- What a round's jump is. -/
def jc : Option Nat → Code
  | none => .ret
  | some id => .exit id

/-- A value that one may call as yield: on each element: on, or no more. -/
def YSpec (P : Program) {α : Type} (y : Value) (enc : α → List Value) (ok : List α → α → Prop) (J Jx : List α → HP) : Prop :=
  ∃ l, y = .func (.yield l) #[] #[] ∧ ∀ (pre : List α) (x : α), ok pre x → ∀ (w : World) (M : Kn) (h hf : Res), h.dj hf → Sat w M (h.add hf) → (J pre).at_ M h →
    ∃ fn tmps assign body, (Instr.yield l (enc x).toArray).run P w = .ok (.round l fn tmps assign body) w ∧
      RoundIn (WF none) 0 P l fn tmps assign body w (fun e w' => ∃ (b : Bool) (M' : Kn) (h' : Res), e = .returned (.bool b) ∧ M.le M' ∧ h'.dj hf ∧ Sat w' M' (h'.add hf) ∧ (if b then J (pre ++ [x]) else Jx (pre ++ [x])).at_ M' h')

/-- What one has behind a walk: it went to its end, or was stopped. -/
def endsAt {α : Type} (J Jx : List α → HP) (all : List α) : Option (List α) → HP
  | none => J all
  | some pre => Jx pre
/-- What a function value does when it is ranged over. -/
def Iter (P : Program) {α : Type} (g : Nat) (lb : List Value) (enc : α → List Value) (ok : List α → α → Prop) (stopped : List α → Prop) (As Bs : List HP) (all : List α) (val : Option (List α) → Value) : Prop :=
  ∀ (y : Value) (J Jx : List α → HP), YSpec P y enc ok J Jx → Sp P g (y :: lb) (J [] :: As) (X := Option (List α)) val (fun x => ∀ pre, x = some pre → stopped pre) (fun x => endsAt J Jx all x :: Bs)

/-- The same, where the order is drawn on the way: what is known of it behind the walk. -/
def IterU (P : Program) {α : Type} (g : Nat) (lb : List Value) (enc : α → List Value) (ok : List α → α → Prop) (stopped : List α → Prop) (As Bs : List HP) (fin : List α → Prop) (val : Option (List α) → Value) : Prop :=
  ∀ (y : Value) (J Jx : List α → HP), YSpec P y enc ok J Jx → Sp P g (y :: lb) (J [] :: As) (X := Option (List α) × List α) (fun x => val x.1) (fun x => (∀ pre, x.1 = some pre → stopped pre) ∧ (x.1 = none → fin x.2)) (fun x => endsAt J Jx x.2 x.1 :: Bs)
theorem Iter.toU {P : Program} {α : Type} {g : Nat} {lb : List Value} {enc : α → List Value} {ok : List α → α → Prop} {stopped : List α → Prop} {As Bs : List HP} {all : List α} {val : Option (List α) → Value}
    (it : Iter P g lb enc ok stopped As Bs all val) : IterU P g lb enc ok stopped As Bs (fun l => l = all) val :=
  fun y J Jx ys => (it y J Jx ys).mono (Ent.refl _) fun x hx => ⟨(x, all), rfl, ⟨hx, fun _ => rfl⟩, Ent.refl _⟩

def bindL : List Tmp → List Value → Loc → Loc
  | p :: ps, v :: vs, L => bindL ps vs ((p, v) :: L)
  | _, _, L => L

/-- The ways out of a round. -/
def roundO {α : Type} (I : List α → List HP) (Ix : Option Nat → List α → List HP) (xs : List α) : Out
  | .normal => fun _ M h => SL (I xs) M h
  | .ret => fun _ M h => SL (Ix none xs) M h
  | .exit id => fun _ M h => SL (Ix (some id) xs) M h
  | _ => fun _ _ _ => False
def asgO (r : Option Nat) (P : Program) (y : Code) (Q : Out) : Out := thenO (wout r P y Q) (fun _ _ _ _ => False)

section
variable {r : Option Nat} {P : Program} {n : Nat} {ops : Array Oper} {os : List Oper} {A : List HP} {L : Loc} {Hs : List HP} {Q : Out} {ty : TypeId} {d : Nat} {pos : String} {after : Array Edge} {c : Code}

theorem t_asg {y : Code} (h : wc r P n y L Hs Q) : tw n (asgO r P y Q) .normal L Hs := to_then h
theorem q_asg {y : Code} (h : wc r P n y L Hs Q) : wo r P n ops [] L Hs (asgO r P y Q) := wo_nil (to_then h)
theorem to_round {α : Type} {I : List α → List HP} {Ix : Option Nat → List α → List HP} {xs : List α} (e : Ent Hs (I xs)) : tw n (roundO I Ix xs) .normal L Hs := by
  rintro a M h ⟨_, h1, h2, d, e', _, s⟩
  subst e'
  exact SL.more d (e s)
theorem to_round_ret {α : Type} {I : List α → List HP} {Ix : Option Nat → List α → List HP} {xs : List α} (e : Ent Hs (Ix none xs)) : tw n (roundO I Ix xs) .ret L Hs := by
  rintro a M h ⟨_, h1, h2, d, e', _, s⟩
  subst e'
  exact SL.more d (e s)
theorem to_round_exit {α : Type} {I : List α → List HP} {Ix : Option Nat → List α → List HP} {xs : List α} (id : Nat) (e : Ent Hs (Ix (some id) xs)) : tw n (roundO I Ix xs) (.exit id) L Hs := by
  rintro a M h ⟨_, h1, h2, d, e', _, s⟩
  subst e'
  exact SL.more d (e s)

theorem fr_bind : ∀ (ps : List Tmp) (vs : List Value) {L : Loc} {t : Array Value}, (∀ p ∈ ps, p < n) → (n ≤ t.size ∧ ∀ i v, lk L i = some v → t[i]? = some v) →
    (n ≤ ((ps.zip vs).foldl (fun t (p, v) => t.setIfInBounds p v) t).size ∧ ∀ i v, lk (bindL ps vs L) i = some v → ((ps.zip vs).foldl (fun t (p, v) => t.setIfInBounds p v) t)[i]? = some v) := by
  intro ps
  induction ps with
  | nil => intro vs L t _ h; simpa [bindL] using h
  | cons p ps ih =>
    intro vs L t hp h
    cases vs with
    | nil => simpa [bindL] using h
    | cons v vs =>
      simp only [bindL, List.zip_cons_cons, List.foldl_cons]
      refine ih vs (fun q hq => hp q (by simp [hq])) ?_
      have f : Fr n L { tmps := t, defers := [] } := h
      have := f.put (d := p) (v := v) (by simpa using hp p (by simp))
      simpa [Fr, Act.put] using this

theorem putObj_sat {w : World} {M : Kn} {h : Res} {b : Nat} {o o' : Obj} (d : (Res.one b o).dj h) (t : Sat w M ((Res.one b o).add h)) : Sat (w.putObj b o') M ((Res.one b o').add h) := Sat.putObj d t

/-- for .. := range f { .. } -/
theorem wc_rangeFunc {α : Type} {f : Operand} {ps : Array Tmp} {assign body : Code} {g : Nat} {lb : List Value} {enc : α → List Value} {ok : List α → α → Prop} {stopped : List α → Prop} {As Bs : List HP} {fin : List α → Prop} {val : Option (List α) → Value}
    (I : List α → List HP) (Ix : Option Nat → List α → List HP)
    (hf : ev L f = some (.func (.func g) #[] lb.toArray))
    (it : IterU P g lb enc ok stopped As Bs fin val)
    (hps : ∀ x, (enc x).length = ps.size) (hpn : ps.toList.all (fun p => Nat.blt p n) = true)
    (ha : Ent Hs (I [] ++ As))
    (round : ∀ (l : Nat) (pre : List α) (x : α), ok pre x → wc (some l) P n assign (bindL ps.toList (enc x) L) (I pre) (asgO (some l) P body (roundO I Ix (pre ++ [x]))))
    (done : ∀ all, fin all → tw n Q .normal L (I all ++ Bs))
    (stop : ∀ (j : Option Nat) (pre : List α), stopped pre → wc none P n (jc j) L (Ix j pre ++ Bs) Q) :
    wc none P n (.rangeFunc f ps assign body) L Hs Q := by
  intro a M h st w hfr dj t
  obtain ⟨fr, g1, g2, dg, e, sd, s2⟩ := st
  subst e
  obtain ⟨kI, kA, dIA, e, sI, sA⟩ := SL.split (ha s2)
  subst e
  refine wpIn_rangeFunc ?_
  intro fn hfn
  obtain ⟨rec, hrec⟩ : ∃ rec : LoopState → Option Code → Loop, rec = fun st pe => { state := st, pending := pe, fn, tmps := a.tmps, params := ps, assign, body, defers := w.heap.size } := ⟨_, rfl⟩
  obtain ⟨W1, hW1⟩ : ∃ W1, (w.alloc (.deferred (some []))).alloc (.loop (rec .ready none)) = W1 := ⟨_, rfl⟩
  have hsz : (w.alloc (.deferred (some []))).heap.size = w.heap.size + 1 := by simp
  have tD := t.alloc (.deferred (some []))
  have tL := tD.alloc (.loop (rec .ready none))
  obtain ⟨_, f1⟩ := fresh_none t
  obtain ⟨_, f2⟩ := fresh_none tD
  rw [hsz] at tL f2
  rw [hW1] at tL
  refine ⟨w.heap.size + 1, [{ target := .collected w.heap.size, args := #[] }], W1, { target := .fn (.func g) lb.toArray, args := #[.func (.yield (w.heap.size + 1)) #[] #[]] }, W1, g,
    #[.func (.yield (w.heap.size + 1)) #[] #[]] ++ lb.toArray, W1, ?_, ?_, fun _ _ => trivial, ?_, (fun e => by cases e), ?_⟩
  · rw [← hW1, hrec]; exact run_enterLoop_outer _ _ _ _ _
  · simp only [resolve, rangeCall]
    rw [fr.ev hf]
    simp [go_sem]
  · have := (it (.func (.yield (w.heap.size + 1)) #[] #[]) (fun _ => ⟨fun _ _ => False, fun _ e => e⟩) (fun _ => ⟨fun _ _ => False, fun _ e => e⟩) ⟨_, rfl, fun _ _ _ _ _ _ _ _ _ e => e.elim⟩).enters
    simp [invoke, go_sem]
    exact this _ _
  · -- the iterator's contract at the loop's record and the caller's invariant
    have ys : YSpec P (.func (.yield (w.heap.size + 1)) #[] #[]) enc ok (fun pre => Al (Blk (w.heap.size + 1) (.loop (rec .ready none)) :: I pre))
        (fun pre => Ex fun j : Option Nat => Al (Blk (w.heap.size + 1) (.loop (rec .done (some (jc j)))) :: Ix j pre)) := by
      refine ⟨_, rfl, fun pre x hok w' M' h' hf' dj' t' hj => ?_⟩
      obtain ⟨p1, p2, dp, e, hp1, sp2⟩ := hj
      have hp1' : p1 = Res.one _ _ := hp1
      subst hp1'
      subst e
      have hl : w'.heap[w.heap.size + 1]? = some (.loop (rec .ready none)) := t'.ow _ _ (by simp [Res.add, Res.one])
      have hy := run_yield (P := P) (args := (enc x).toArray) hl (by rw [hrec]; simpa using hps x)
      refine ⟨_, _, _, _, hy, roundIn_of_wpIn (F := WF none) trivial ?_⟩
      have e1 : (rec .ready none).assign = assign := by rw [hrec]
      have e2 : (rec .ready none).body = body := by rw [hrec]
      have e3 : (rec .ready none).tmps = a.tmps := by rw [hrec]
      have e4 : (rec .ready none).params = ps := by rw [hrec]
      rw [e1, e2, e3, e4]
      obtain ⟨dj1, dj2⟩ := Res.dj_add_left.1 dj'
      have hfold : (ps.zip (enc x).toArray).foldl (fun t (p, v) => t.setIfInBounds p v) a.tmps = (ps.toList.zip (enc x)).foldl (fun t (p, v) => t.setIfInBounds p v) a.tmps := by
        rw [← Array.foldl_toList]; simp
      rw [hfold]
      have hfr : Fr n (bindL ps.toList (enc x) L) { tmps := (ps.toList.zip (enc x)).foldl (fun t (p, v) => t.setIfInBounds p v) a.tmps, defers := [] } :=
        fr_bind ps.toList (enc x) (fun p hp => by have := List.all_eq_true.1 hpn p hp; simpa using this) fr
      have d2 : p2.dj ((Res.one (w.heap.size + 1) (.loop (rec .ready none))).add hf') := Res.dj_add_right.2 ⟨Res.dj_comm dp, dj2⟩
      have t2 : Sat w' M' (p2.add ((Res.one (w.heap.size + 1) (.loop (rec .ready none))).add hf')) := by
        rw [← Res.add_assoc, ← Res.add_comm dp]; exact t'
      have hw := round (w.heap.size + 1) pre x hok _ M' p2 ⟨hfr, Res.emp, p2, Res.emp_dj _, rfl, trivial, sp2⟩ w' _ d2 t2
      refine wpIn_mono (F := WF (some (w.heap.size + 1))) hw ?_
      rintro ex a1 w1 ⟨M1, h1, le1, dj3, t3, q1⟩
      cases ex with
      | normal =>
        have q1' : wout (some (w.heap.size + 1)) P body (roundO I Ix (pre ++ [x])) a1 M1 h1 := q1
        obtain ⟨y1, y2⟩ := Res.dj_add_right.1 dj3
        have hb : w1.heap[w.heap.size + 1]? = some (.loop (rec .ready none)) := t3.ow _ _ (Res.le_add_right dj3 _ _ (by simp [Res.add, Res.one]))
        refine ⟨_, run_beginRound hb (by rw [hrec]), ?_⟩
        have dA : (Res.one (w.heap.size + 1) (.loop (rec .ready none))).dj (h1.add hf') := Res.dj_add_right.2 ⟨Res.dj_comm y1, dj1⟩
        have hcomm : ∀ o : Obj, h1.dj (Res.one (w.heap.size + 1) o) → h1.add ((Res.one (w.heap.size + 1) o).add hf') = (Res.one (w.heap.size + 1) o).add (h1.add hf') := fun o dd => by
          rw [← Res.add_assoc, Res.add_comm dd, Res.add_assoc]
        rw [hcomm _ y1] at t3
        have t4 := Sat.putObj (o' := .loop { rec .ready none with state := .busy }) dA t3
        have dB : (Res.one (w.heap.size + 1) (.loop { rec .ready none with state := .busy })).dj (h1.add hf') := dj_one_any dA
        have dB1 := (Res.dj_add_right.1 dB).1
        rw [← hcomm _ (Res.dj_comm dB1)] at t4
        refine wpIn_mono (F := WF (some (w.heap.size + 1))) (q1' _ _ (Res.dj_add_right.2 ⟨Res.dj_comm dB1, y2⟩) t4) ?_
        have fin : ∀ (jump : Option Code) (M2 : Kn) (h2 : Res) (w2 : World), M1.le M2 → h2.dj ((Res.one (w.heap.size + 1) (.loop { rec .ready none with state := .busy })).add hf') → Sat w2 M2 (h2.add ((Res.one (w.heap.size + 1) (.loop { rec .ready none with state := .busy })).add hf')) →
            ∃ w3, (Instr.endRound (w.heap.size + 1) jump).run P w2 = .ok (.bool jump.isNone) w3 ∧ (Res.one (w.heap.size + 1) (.loop (rec (if jump.isNone then .ready else .done) jump))).dj h2 ∧
              ((Res.one (w.heap.size + 1) (.loop (rec (if jump.isNone then .ready else .done) jump))).add h2).dj hf' ∧ Sat w3 M2 (((Res.one (w.heap.size + 1) (.loop (rec (if jump.isNone then .ready else .done) jump))).add h2).add hf') := by
          intro jump M2 h2 w2 le2 dj5 t5
          have hb2 : w2.heap[w.heap.size + 1]? = some (.loop { rec .ready none with state := .busy }) := t5.ow _ _ (Res.le_add_right dj5 _ _ (by simp [Res.add, Res.one]))
          have hr := run_endRound (P := P) jump hb2
          obtain ⟨z1, z2⟩ := Res.dj_add_right.1 dj5
          have eqq : h2.add ((Res.one (w.heap.size + 1) (.loop { rec .ready none with state := .busy })).add hf') = (Res.one (w.heap.size + 1) (.loop { rec .ready none with state := .busy })).add (h2.add hf') := by
            rw [← Res.add_assoc, Res.add_comm z1, Res.add_assoc]
          rw [eqq] at t5
          have dC : (Res.one (w.heap.size + 1) (.loop { rec .ready none with state := .busy })).dj (h2.add hf') := Res.dj_add_right.2 ⟨Res.dj_comm z1, dj_one_any dj1⟩
          have t6 := Sat.putObj (o' := .loop (rec (if jump.isNone then .ready else .done) jump)) dC t5
          have dD : (Res.one (w.heap.size + 1) (.loop (rec (if jump.isNone then .ready else .done) jump))).dj (h2.add hf') := dj_one_any dC
          obtain ⟨v1, v2⟩ := Res.dj_add_right.1 dD
          refine ⟨_, ?_, v1, Res.dj_add_left.2 ⟨v2, z2⟩, by rw [Res.add_assoc]; exact t6⟩
          rw [hr, hrec]
        rintro e2 a2 w2 ⟨M2, h2, le2, dj5, t5, q2⟩
        cases e2 with
        | normal =>
          obtain ⟨w3, r1, r2, r3, r4⟩ := fin none M2 h2 w2 le2 dj5 t5
          exact ⟨_, w3, r1, true, M2, _, rfl, Kn.le_trans le1 le2, r3, r4, _, _, r2, rfl, rfl, q2⟩
        | ret =>
          obtain ⟨w3, r1, r2, r3, r4⟩ := fin (some .ret) M2 h2 w2 le2 dj5 t5
          exact ⟨_, w3, r1, false, M2, _, rfl, Kn.le_trans le1 le2, r3, r4, none, _, _, r2, rfl, rfl, q2⟩
        | exit id =>
          obtain ⟨w3, r1, r2, r3, r4⟩ := fin (some (.exit id)) M2 h2 w2 le2 dj5 t5
          exact ⟨_, w3, r1, false, M2, _, rfl, Kn.le_trans le1 le2, r3, r4, some id, _, _, r2, rfl, rfl, q2⟩
        | goto _ => exact q2.elim
        | panic _ => exact q2.elim
        | outgrown => exact q2.elim
      | ret => exact q1.elim
      | exit _ => exact q1.elim
      | goto _ => exact q1.elim
      | panic _ => exact q1.elim
      | outgrown => exact q1.elim
    have sp := it _ _ _ ys
    -- resources
    obtain ⟨dg1, dg2⟩ := Res.dj_add_right.1 dg
    obtain ⟨q1, q2⟩ := Res.dj_add_left.1 dj
    obtain ⟨q3, q4⟩ := Res.dj_add_left.1 q2
    let D : Res := Res.one w.heap.size (.deferred (some []))
    let Lp : Res := Res.one (w.heap.size + 1) (.loop (rec .ready none))
    have dLp : Lp.dj (D.add ((g1.add (kI.add kA)).add hfr)) := one_dj f2
    have dD : D.dj ((g1.add (kI.add kA)).add hfr) := one_dj f1
    obtain ⟨a1, a2⟩ := Res.dj_add_right.1 dLp
    obtain ⟨a3, a4⟩ := Res.dj_add_right.1 a2
    obtain ⟨a5, a6⟩ := Res.dj_add_right.1 a3
    obtain ⟨a7, a8⟩ := Res.dj_add_right.1 a6
    obtain ⟨b3, b4⟩ := Res.dj_add_right.1 dD
    obtain ⟨b5, b6⟩ := Res.dj_add_right.1 b3
    obtain ⟨b7, b8⟩ := Res.dj_add_right.1 b6
    have eqr : Lp.add (D.add ((g1.add (kI.add kA)).add hfr)) = ((Lp.add kI).add kA).add ((D.add g1).add hfr) := by
      funext i
      simp only [Res.add]
      have c1 := b7 i; have c2 := b8 i; have c3 := b5 i; have c4 := dg1 i; have c5 := dg2 i
      revert c1 c2 c3 c4 c5
      cases Lp i <;> cases D i <;> cases g1 i <;> cases kI i <;> cases kA i <;> simp
    have tL' : Sat W1 M (((Lp.add kI).add kA).add ((D.add g1).add hfr)) := by rw [← eqr]; exact tL
    have djr : ((Lp.add kI).add kA).dj ((D.add g1).add hfr) := by
      refine Res.dj_add_left.2 ⟨Res.dj_add_left.2 ⟨?_, ?_⟩, ?_⟩
      · exact Res.dj_add_right.2 ⟨Res.dj_add_right.2 ⟨a1, a5⟩, a4⟩
      · exact Res.dj_add_right.2 ⟨Res.dj_add_right.2 ⟨Res.dj_comm b7, Res.dj_comm dg1⟩, q3⟩
      · exact Res.dj_add_right.2 ⟨Res.dj_add_right.2 ⟨Res.dj_comm b8, Res.dj_comm dg2⟩, q4⟩
    have cc := sp.calls W1 M ((Lp.add kI).add kA) ((D.add g1).add hfr) djr tL' ⟨Lp.add kI, kA, Res.dj_add_left.2 ⟨a8, dIA⟩, rfl, ⟨Lp, kI, a7, rfl, rfl, sI⟩, sA⟩
    have hargs : (Value.func (.yield (w.heap.size + 1)) #[] #[] :: lb).toArray = #[.func (.yield (w.heap.size + 1)) #[] #[]] ++ lb.toArray := by simp
    rw [hargs] at cc
    refine CallsIn.mono (F := WF none) cc ?_
    rintro ee w3 ⟨x, M3, h3, rfl, hx, le3, dj3, t3, s3⟩
    have stN : ∀ (o : Obj) (Gs : List HP) (m : Res), (Res.one (w.heap.size + 1) o).dj m → ((Res.one (w.heap.size + 1) o).add m).dj ((D.add g1).add hfr) → Sat w3 M3 (((Res.one (w.heap.size + 1) o).add m).add ((D.add g1).add hfr)) → SL Gs M3 m → ∀ o' : Obj,
        St n L Gs { a with defers := [{ target := .collected w.heap.size, args := #[] }] ++ a.defers } M3 ((D.add g1).add m) ∧ ((D.add g1).add m).dj hfr ∧ Sat (w3.putObj (w.heap.size + 1) o') M3 (((D.add g1).add m).add hfr) := by
      intro o Gs m dom djm tm sm o'
      obtain ⟨u1, u2⟩ := Res.dj_add_left.1 djm
      obtain ⟨u3, u4⟩ := Res.dj_add_right.1 u2
      obtain ⟨u5, u6⟩ := Res.dj_add_right.1 u3
      obtain ⟨u7, u8⟩ := Res.dj_add_right.1 u1
      refine ⟨⟨fr, D.add g1, m, Res.dj_comm u3, rfl, ?_, sm⟩, Res.dj_add_left.2 ⟨Res.dj_add_left.2 ⟨b4, q1⟩, u4⟩, ?_⟩
      · refine ⟨D, g1, b5, rfl, ⟨w.heap.size, Res.emp, D, Res.emp_dj _, rfl, rfl, D, Res.emp, Res.dj_emp _, (Res.add_emp _).symm, rfl, trivial⟩, SL.mono le3 sd⟩
      · rw [Res.add_assoc] at tm
        have dX : (Res.one (w.heap.size + 1) o).dj (m.add ((D.add g1).add hfr)) := Res.dj_add_right.2 ⟨dom, u1⟩
        have t7 := Sat.putObj (o' := o') dX tm
        have eq7 : m.add ((D.add g1).add hfr) = ((D.add g1).add m).add hfr := by rw [← Res.add_assoc, Res.add_comm u3]
        rw [eq7] at t7
        exact t7.le (Res.le_add_right (by rw [← eq7]; exact dj_one_any dX))
    obtain ⟨x, all⟩ := x
    obtain ⟨hx, hfin⟩ := hx
    dsimp only at hx hfin s3 ⊢
    obtain ⟨m1, m2, dm, e, sm1, sm2⟩ := s3
    subst e
    cases x with
    | none =>
      obtain ⟨o1, o2, do12, e, ho1, so2⟩ := sm1
      have ho1' : o1 = Res.one _ _ := ho1
      subst ho1'
      subst e
      have hb : w3.heap[w.heap.size + 1]? = some (.loop (rec .ready none)) := t3.ow _ _ (by simp [Res.add, Res.one])
      refine ⟨none, _, by have := run_endLoop (P := P) hb (by rw [hrec]; simp); rw [hrec] at this; exact this, ?_⟩
      obtain ⟨v1, v2⟩ := Res.dj_add_left.1 dm
      rw [Res.add_assoc (Res.one _ _) o2 m2] at t3 dj3
      obtain ⟨w1, w2, w4⟩ := stN _ (I all ++ Bs) (o2.add m2) (Res.dj_add_right.2 ⟨do12, v1⟩) dj3 t3 (SL.append v2 so2 sm2) (.loop { rec .ready none with state := .exhausted })
      have := done all (hfin rfl) _ M3 _ w1
      rw [hrec] at w4
      exact ⟨M3, _, le3, w2, w4, this⟩
    | some pre =>
      obtain ⟨j, o1, o2, do12, e, ho1, so2⟩ := sm1
      have ho1' : o1 = Res.one _ _ := ho1
      subst ho1'
      subst e
      have hb : w3.heap[w.heap.size + 1]? = some (.loop (rec .done (some (jc j)))) := t3.ow _ _ (by simp [Res.add, Res.one])
      refine ⟨some (jc j), _, by have := run_endLoop (P := P) hb (by rw [hrec]; simp); rw [hrec] at this; exact this, ?_⟩
      obtain ⟨v1, v2⟩ := Res.dj_add_left.1 dm
      rw [Res.add_assoc (Res.one _ _) o2 m2] at t3 dj3
      obtain ⟨w1, w2, w4⟩ := stN _ (Ix j pre ++ Bs) (o2.add m2) (Res.dj_add_right.2 ⟨do12, v1⟩) dj3 t3 (SL.append v2 so2 sm2) (.loop { rec .done (some (jc j)) with state := .exhausted })
      rw [hrec] at w4
      exact wpIn_mono (stop j pre (hx pre rfl) _ M3 _ w1 _ _ w2 w4) (fun _ _ _ q => lift_le le3 q)
theorem p_rangeFunc {α : Type} {g : Nat} {lb : List Value} {enc : α → List Value} {ok : List α → α → Prop} {stopped : List α → Prop} {As Bs : List HP} {all : List α} {val : Option (List α) → Value}
    (I : List α → List HP) (Ix : Option Nat → List α → List HP) (hc : c = .rangeFunc (rF c) (rP c) (rA c) (rB c))
    (it : Iter P g lb enc ok stopped As Bs all val)
    (hf : ev L (rF c) = some (.func (.func g) #[] lb.toArray))
    (hps : ∀ x, (enc x).length = (rP c).size) (hpn : (rP c).toList.all (fun p => Nat.blt p n) = true)
    (ha : Ent Hs (I [] ++ As))
    (round : ∀ (l : Nat) (pre : List α) (x : α), ok pre x → wc (some l) P n (rA c) (bindL (rP c).toList (enc x) L) (I pre) (asgO (some l) P (rB c) (roundO I Ix (pre ++ [x]))))
    (done : tw n Q .normal L (I all ++ Bs))
    (stop : ∀ (j : Option Nat) (pre : List α), stopped pre → wc none P n (jc j) L (Ix j pre ++ Bs) Q) : wc none P n c L Hs Q := by
  rw [hc]; exact wc_rangeFunc I Ix hf it.toU hps hpn ha round (fun l e => by subst e; exact done) stop
theorem p_rangeFuncU {α : Type} {g : Nat} {lb : List Value} {enc : α → List Value} {ok : List α → α → Prop} {stopped : List α → Prop} {As Bs : List HP} {fin : List α → Prop} {val : Option (List α) → Value}
    (I : List α → List HP) (Ix : Option Nat → List α → List HP) (hc : c = .rangeFunc (rF c) (rP c) (rA c) (rB c))
    (it : IterU P g lb enc ok stopped As Bs fin val)
    (hf : ev L (rF c) = some (.func (.func g) #[] lb.toArray))
    (hps : ∀ x, (enc x).length = (rP c).size) (hpn : (rP c).toList.all (fun p => Nat.blt p n) = true)
    (ha : Ent Hs (I [] ++ As))
    (round : ∀ (l : Nat) (pre : List α) (x : α), ok pre x → wc (some l) P n (rA c) (bindL (rP c).toList (enc x) L) (I pre) (asgO (some l) P (rB c) (roundO I Ix (pre ++ [x]))))
    (done : ∀ all, fin all → tw n Q .normal L (I all ++ Bs))
    (stop : ∀ (j : Option Nat) (pre : List α), stopped pre → wc none P n (jc j) L (Ix j pre ++ Bs) Q) : wc none P n c L Hs Q := by
  rw [hc]; exact wc_rangeFunc I Ix hf it hps hpn ha round done stop

/-- A call of yield. -/
theorem opt_yield {α : Type} {y : Value} {enc : α → List Value} {ok : List α → α → Prop} {J Jx : List α → HP} (ys : YSpec P y enc ok J Jx) (pre : List α) (x : α) (hok : ok pre x) {dst : Option Tmp} {f : Operand} {args : Array Operand} {ts : Array TypeId} (hf : ev L f = some y) (ha : evs L args.toList = some (enc x)) :
    OpT r P n ⟨dst, .call ⟨.value f, args, ts⟩, ty, pos, after, none⟩ A L [J pre] (fun b : Bool => .bool b) (fun _ => True) (fun b => [if b then J (pre ++ [x]) else Jx (pre ++ [x])]) := by
  intro a fr w M h hA hfr dj dj' s sA t
  obtain ⟨l, rfl, hy⟩ := ys
  obtain ⟨k1, k2, dk, e, hj, _⟩ := s
  subst e
  obtain ⟨x1, x2⟩ := Res.dj_add_left.1 dj'
  obtain ⟨x3, x4⟩ := Res.dj_add_left.1 x1
  obtain ⟨y1, y2⟩ := Res.dj_add_left.1 dj
  have t2 : Sat w M (k1.add ((k2.add hA).add hfr)) := by
    have : ((k1.add k2).add hA).add hfr = k1.add ((k2.add hA).add hfr) := by simp only [Res.add_assoc]
    rw [← this]; exact t
  obtain ⟨fn, tmps, assign, body, h1, h2⟩ := hy pre x hok w M k1 ((k2.add hA).add hfr) (Res.dj_add_right.2 ⟨Res.dj_add_right.2 ⟨dk, y1⟩, x3⟩) t2 hj
  have hargs : args.map a.eval = (enc x).toArray := by
    have := fr.evs _ ha
    apply Array.ext'
    simp [this]
  have hrun : (execOp a.eval ⟨dst, .call ⟨.value f, args, ts⟩, ty, pos, after, none⟩).run P w = .ok (.round l fn tmps assign body) w := by
    simp only [execOp, resolve, fr.ev hf, Deferred.ofValue, hargs, Sem.run_bind, Sem.run_pure, Result.andThen_ok, invoke]
    simp [go_sem, h1]
  rw [hrun]
  refine RoundIn.mono (F := WF none) h2 ?_
  rintro e w' ⟨b, M', h', rfl, le, dj3, t3, hb⟩
  obtain ⟨z1, z2⟩ := Res.dj_add_right.1 dj3
  obtain ⟨z3, z4⟩ := Res.dj_add_right.1 z1
  refine ⟨_, rfl, b, M', h', rfl, trivial, le, z4, Res.dj_add_left.2 ⟨z2, x2⟩, ?_, h', Res.emp, Res.dj_emp _, (Res.add_emp _).symm, hb, trivial⟩
  refine t3.le ?_
  intro i o e
  have e1 : ((h'.add hA).add hfr) i = some o := e
  simp only [Res.add] at e1 ⊢
  cases c1 : h' i with
  | some u => rw [c1] at e1; simpa using e1
  | none =>
    rw [c1] at e1
    cases c2 : hA i with
    | some u =>
      rw [c2] at e1
      have := y2 i
      rw [c2] at this
      simp at this
      simp [this]; simpa using e1
    | none =>
      rw [c2] at e1
      have := x4 i
      simp at e1
      rw [e1] at this
      simp at this
      simp [this, e1]
theorem r_yield {α : Type} {y : Value} {enc : α → List Value} {ok : List α → α → Prop} {J Jx : List α → HP} (ys : YSpec P y enc ok J Jx) (pre : List α) (x : α) (hok : ok pre x) {f : Operand} {args : Array Operand} {ts : Array TypeId} (hf : ev L f = some y) (ha : evs L args.toList = some (enc x)) (hd : Nat.blt d n = true)
    {Rs : List HP} [hp : PickC (J pre) Hs Rs] (kt : wo r P n ops os ((d, .bool true) :: L) (J (pre ++ [x]) :: Rs) Q) (kf : wo r P n ops os ((d, .bool false) :: L) (Jx (pre ++ [x]) :: Rs) Q) :
    wo r P n ops (⟨some d, .call ⟨.value f, args, ts⟩, ty, pos, after, none⟩ :: os) L Hs Q := by
  haveI : PicksC [J pre] Hs Rs := ⟨.cons hp.get .nil⟩
  refine wo_opT (by intro c; simp) (opt_yield ys pre x hok hf ha) (by simpa [dstOk] using hd) (fun b _ => ?_)
  cases b
  · exact kf
  · exact kt
end
end Go.Proofs.Ytimafngkifakfaa

/- Slices that are read. -/
namespace Go.Proofs.Ytimafngkifakfaa

/-- An address, so many cells on. -/
def elemA (a : Option Addr) (k : Nat) : Option Addr := match a with | some ⟨b, off, _⟩ => some ⟨b, off + k, none⟩ | none => none

/-- What lets cells behind an address be read. -/
def SlA (A : HP) (a : Option Addr) (xs : List Value) : Prop :=
  ∀ {M : Kn} {h : Res}, A.at_ M h → xs = [] ∨ ∃ g off l T fz, a = some ⟨g, off, none⟩ ∧ (M.im g = some (.cells (List.toArray l) T fz) ∨ h g = some (.cells (List.toArray l) T fz)) ∧ (l.drop off).take xs.length = xs

def SlIAt (a : Option Addr) (xs : List Value) (M : Kn) (_ : Res) : Prop := xs = [] ∨ ∃ g off l T fz, a = some ⟨g, off, none⟩ ∧ M.im g = some (.cells (List.toArray l) T fz) ∧ (l.drop off).take xs.length = xs
/-- Cells that never turn any more. -/
def SlI (a : Option Addr) (xs : List Value) : HP := ⟨SlIAt a xs, fun le e => e.imp id fun ⟨g, off, l, T, fz, h1, h2, h3⟩ => ⟨g, off, l, T, fz, h1, le.1 _ _ h2, h3⟩⟩
theorem SlI.pers (a : Option Addr) (xs : List Value) : Pers (SlI a xs) := fun e => e
instance {a : Option Addr} {xs : List Value} : PersC (SlI a xs) := ⟨SlI.pers a xs⟩
theorem sla_sli {a : Option Addr} {xs : List Value} : SlA (SlI a xs) a xs := fun e => e.imp id fun ⟨g, off, l, T, fz, h1, h2, h3⟩ => ⟨g, off, l, T, fz, h1, .inl h2, h3⟩
theorem sla_row {e : TypeId} {sz k n c : Nat} {a : Option Addr} {xs : List Value} : SlA (Row e sz (.slice a n c) k xs) a xs := fun x => by
  rcases x with ⟨_, _, h⟩ | ⟨g, cap, cur, h1, h2, h3, h4, h5, h6, h7⟩
  · exact .inl h
  · cases h1
    refine .inr ⟨g, 0, cur, e, (0, 0), rfl, .inr (by rw [h7]; exact Res.one_same _ _), ?_⟩
    rw [List.drop_zero, h5]; exact h6
theorem sla_ce {b : Nat} {T : TypeId} {l : List Value} : SlA (Ce b T l) (some ⟨b, 0, none⟩) l := fun x => .inr ⟨b, 0, l, T, (0, 0), rfl, .inr (by have : _ = Res.one b _ := x; rw [this]; exact Res.one_same _ _), by simp⟩
theorem sla_ice {b : Nat} {T : TypeId} {l : List Value} : SlA (ICe b T l) (some ⟨b, 0, none⟩) l := fun x => .inr ⟨b, 0, l, T, (0, 0), rfl, .inl x, by simp⟩

class RdSl (a : Option Addr) (xs : outParam (List Value)) (Hs : List HP) : Prop where
  get : ∃ A : HP, SlA A a xs ∧ Has A Hs
instance (priority := 1000) {a : Option Addr} {xs : List Value} {r : List HP} : RdSl a xs (SlI a xs :: r) := ⟨⟨_, sla_sli, .here⟩⟩
instance (priority := 1000) {e : TypeId} {sz k n c : Nat} {a : Option Addr} {xs : List Value} {r : List HP} : RdSl a xs (Row e sz (.slice a n c) k xs :: r) := ⟨⟨_, sla_row, .here⟩⟩
instance (priority := 1000) {b : Nat} {T : TypeId} {l : List Value} {r : List HP} : RdSl (some ⟨b, 0, none⟩) l (Ce b T l :: r) := ⟨⟨_, sla_ce, .here⟩⟩
instance (priority := 1000) {b : Nat} {T : TypeId} {l : List Value} {r : List HP} : RdSl (some ⟨b, 0, none⟩) l (ICe b T l :: r) := ⟨⟨_, sla_ice, .here⟩⟩
instance (priority := 100) {a : Option Addr} {xs : List Value} {B : HP} {r : List HP} [h : RdSl a xs r] : RdSl a xs (B :: r) := ⟨let ⟨A, s, p⟩ := h.get; ⟨A, s, .there p⟩⟩
theorem has_left {A : HP} {B C : List HP} (h : Has A B) : Has A (B ++ C) := by
  induction h with
  | here => exact .here
  | there _ ih => exact .there ih
theorem has_right {A : HP} {B C : List HP} (h : Has A C) : Has A (B ++ C) := by
  induction B with
  | nil => exact h
  | cons _ _ ih => exact .there ih
instance (priority := 900) {a : Option Addr} {xs : List Value} {B C : List HP} [h : RdSl a xs B] : RdSl a xs (B ++ C) := ⟨let ⟨A, s, p⟩ := h.get; ⟨A, s, has_left p⟩⟩
instance (priority := 800) {a : Option Addr} {xs : List Value} {B C : List HP} [h : RdSl a xs C] : RdSl a xs (B ++ C) := ⟨let ⟨A, s, p⟩ := h.get; ⟨A, s, has_right p⟩⟩

theorem sla_cell {A : HP} {a : Option Addr} {xs : List Value} (sh : SlA A a xs) {w : World} {M : Kn} {h hf h1 : Res} (t : Sat w M (h.add hf)) (le : h1.le h) (x : A.at_ M h1) (hne : xs ≠ []) :
    ∃ g off, a = some ⟨g, off, none⟩ ∧ ∀ j, j < xs.length → w.cell? ⟨g, off + j, none⟩ = xs[j]? := by
  rcases sh x with e | ⟨g, off, l, T, fz, e1, e2, e3⟩
  · exact absurd e hne
  · have hb : w.heap[g]? = some (.cells l.toArray T fz) := by
      rcases e2 with e | e
      · exact t.im _ _ e
      · exact t.ow _ _ (Res.le_add_left _ _ _ _ (le _ _ e))
    refine ⟨g, off, e1, fun j hj => ?_⟩
    have h4 : ((l.drop off).take xs.length)[j]? = xs[j]? := by rw [e3]
    rw [List.getElem?_take_of_lt hj, List.getElem?_drop] at h4
    simp [World.cell?, hb, h4]

theorem get_map {α : Type} {f : α → Value} {l : List α} {m : Nat} (h : m < l.length) : (l.map f)[m]? = some (f l[m]) := by simp [h]
theorem flat_len {α : Type} {f : α → List Value} {sz : Nat} (hf : ∀ x, (f x).length = sz) (l : List α) : (l.flatMap f).length = l.length * sz := by
  induction l with
  | nil => simp
  | cons x l ih => simp [List.flatMap_cons, ih, hf, Nat.add_mul]; omega
theorem get_flat {α : Type} {f : α → List Value} {sz : Nat} (hf : ∀ x, (f x).length = sz) {l : List α} {m : Nat} (h : m < l.length) : ((l.flatMap f).drop (m * sz)).take sz = f l[m] := by
  induction l generalizing m with
  | nil => simp at h
  | cons x l ih =>
    cases m with
    | zero => simp only [List.flatMap_cons, Nat.zero_mul, List.drop_zero, List.getElem_cons_zero]; rw [← hf x]; exact List.take_left
    | succ m =>
      simp only [List.flatMap_cons, List.getElem_cons_succ]
      have e : (m + 1) * sz = (f x).length + m * sz := by rw [hf, Nat.add_mul]; omega
      rw [e, ← List.drop_drop, List.drop_left]
      exact ih (by simpa using h)

section
variable {r : Option Nat} {P : Program} {n : Nat} {ops : Array Oper} {os : List Oper} {A : List HP} {L : Loc} {Hs : List HP} {Q : Out} {ty : TypeId} {d : Nat} {pos : String} {after : Array Edge} {c : Code}

theorem run_elemAddr {t e : TypeId} {x y : Operand} {k : IntKind} {i : Int} {m len cap g off : Nat} {ti : TypeInfo} (ht : P.underlying t = some (.slice e)) (hi : P.info? e = some ti) {sz : Nat} (hsz : ti.size = sz)
    {a : Act} (f : Fr n L a) (hx : ev L x = some (.slice (some ⟨g, off, none⟩) len cap)) (hy : ev L y = some (.int k i)) (hm : i = (m : Int)) (h : m < len) (w : World) (dst : Option Tmp) (pos : String) (after : Array Edge) (guard : Option (Nat × Bool)) :
    (execOp a.eval ⟨dst, .indexAddr t x y, ty, pos, after, guard⟩).run P w = .ok (.value (.pointer (some ⟨g, off + m * sz, none⟩))) w := by
  subst hm
  have := (pv_indexAddr (n := n) (ty := ty) ht hi hx hy (by omega) (by omega)).run a f w dst pos after guard
  rw [this]; simp [hsz]
theorem r_elemAddr {t e : TypeId} {x y : Operand} {a : Option Addr} {k : IntKind} {i : Int} {m len cap kk : Nat} {ti : TypeInfo} {xs : List Value} {sz : Nat} (ht : P.underlying t = some (.slice e)) (hi : P.info? e = some ti) (hsz : ti.size = sz)
    (hx : ev L x = some (.slice a len cap)) (hy : ev L y = some (.int k i)) (hm : i = (m : Int)) (h : m < len) [hr : RdSl a xs Hs] (hne : 0 < xs.length) (hk : m * sz = kk) (hd : Nat.blt d n = true)
    (K : wo r P n ops os ((d, .pointer (elemA a kk)) :: L) Hs Q) : wo r P n ops (⟨some d, .indexAddr t x y, ty, pos, after, none⟩ :: os) L Hs Q := by
  obtain ⟨B, sh, hB⟩ := hr.get
  refine wo_read (by intro c; simp) hB hd (fun ac f w M h1 h2 hf t' le yy dst pos after guard => ?_) K
  obtain ⟨g, off, rfl, _⟩ := sla_cell sh t' le yy (fun e => by rw [e] at hne; exact absurd hne (by simp))
  rw [run_elemAddr ht hi hsz f hx hy hm h w dst pos after guard, hk]
  rfl
theorem r_eload {t : TypeId} {td : TypeDesc} {x : Operand} {a : Option Addr} {k : Nat} {xs : List Value} {v : Value} (ht : P.underlying t = some td) (hfl : flat td = true)
    (hx : ev L x = some (.pointer (elemA a k))) [hr : RdSl a xs Hs] (hv : xs[k]? = some v) (hd : Nat.blt d n = true)
    (K : wo r P n ops os ((d, v) :: L) Hs Q) : wo r P n ops (⟨some d, .load t x, ty, pos, after, none⟩ :: os) L Hs Q := by
  obtain ⟨B, sh, hB⟩ := hr.get
  have hlt := (List.getElem?_eq_some_iff.1 hv).1
  refine wo_read (by intro c; simp) hB hd (fun ac f w M h1 h2 hf t' le yy _ _ _ _ => ?_) K
  obtain ⟨g, off, rfl, hc⟩ := sla_cell sh t' le yy (fun e => by rw [e] at hlt; exact absurd hlt (by simp))
  have h3 := hc k hlt
  rw [hv] at h3
  simp [execOp, f.ev hx, elemA, Instr.loadAt, Instr.sureAddr, loadVar, isAgg_flat ht hfl, run_load, h3]
theorem run_ecells {w : World} {g off k sz : Nat} {xs vs : List Value} (hc : ∀ j, j < xs.length → w.cell? ⟨g, off + j, none⟩ = xs[j]?) (hl : k + sz ≤ xs.length) (hv : (xs.drop k).take sz = vs) :
    (loadCells ⟨g, off + k, none⟩ sz).run P w = .ok vs.toArray w := by
  subst hv
  have e : ((xs.drop k).take sz).length = sz := by simp; omega
  have := run_loadCells_list (P := P) w ⟨g, off + k, none⟩ ((xs.drop k).take sz) (fun j v hj => by
    have hlt : j < ((xs.drop k).take sz).length := (List.getElem?_eq_some_iff.1 hj).1
    rw [e] at hlt
    rw [addr_add, Nat.add_assoc, hc (k + j) (by omega), ← List.getElem?_drop]
    rw [List.getElem?_take_of_lt hlt] at hj
    exact hj)
  rw [e] at this
  exact this
theorem r_eloada {t : TypeId} {td : TypeDesc} {x : Operand} {a : Option Addr} {k : Nat} {xs vs : List Value} {ti : TypeInfo} {sz : Nat} (ht : P.underlying t = some td) (hfl : flat td = false) (hi : P.info? t = some ti) (hsz : ti.size = sz)
    (hx : ev L x = some (.pointer (elemA a k))) [hr : RdSl a xs Hs] (hl : k + sz ≤ xs.length) (hs0 : Nat.blt 0 sz = true) (hv : (xs.drop k).take sz = vs) (hd : Nat.blt d n = true)
    (K : wo r P n ops os ((d, .agg vs.toArray) :: L) Hs Q) : wo r P n ops (⟨some d, .load t x, ty, pos, after, none⟩ :: os) L Hs Q := by
  obtain ⟨B, sh, hB⟩ := hr.get
  have hpos : 0 < sz := by simpa using hs0
  refine wo_read (by intro c; simp) hB hd (fun ac f w M h1 h2 hf t' le yy _ _ _ _ => ?_) K
  obtain ⟨g, off, rfl, hc⟩ := sla_cell sh t' le yy (fun e => by rw [e] at hl; simp at hl; omega)
  have h3 := run_ecells (P := P) hc hl hv
  simp [execOp, f.ev hx, elemA, Instr.loadAt, Instr.sureAddr, loadVar, isAgg_agg ht hfl, sizeOf, typeInfo, program, Sem.run, hi, hsz, h3]
/-- A field of an element. -/
theorem r_efield {t : TypeId} {x : Operand} {i : Nat} {a : Option Addr} {k : Nat} {fs : Array Field} {fd : Field} {xs : List Value} (ht : P.underlying t = some (.struct fs)) (hf : fs[i]? = some fd) {ti : TypeInfo} (hi : P.info? fd.type = some ti) (hz : Nat.beq ti.size 0 = false)
    (hx : ev L x = some (.pointer (elemA a k))) {o kk : Nat} (ho : fd.offset = o) (hk : k + o = kk) [hr : RdSl a xs Hs] (hne : 0 < xs.length) (hd : Nat.blt d n = true)
    (K : wo r P n ops os ((d, .pointer (elemA a kk)) :: L) Hs Q) : wo r P n ops (⟨some d, .fieldAddr t x i, ty, pos, after, none⟩ :: os) L Hs Q := by
  obtain ⟨B, sh, hB⟩ := hr.get
  refine wo_read (by intro c; simp) hB hd (fun ac f w M h1 h2 hfr t' le yy dst pos after guard => ?_) K
  obtain ⟨g, off, rfl, _⟩ := sla_cell sh t' le yy (fun e => by rw [e] at hne; exact absurd hne (by simp))
  have := (pv_fieldAddr (n := n) (ty := ty) ht hf hi hz hx).run ac f w dst pos after guard
  rw [this, ho, Nat.add_assoc, hk]
  rfl
/-! The same in regions that draw. -/
theorem tl_elemAddr {t e : TypeId} {x y : Operand} {a : Option Addr} {k : IntKind} {i : Int} {m len cap kk : Nat} {ti : TypeInfo} {xs : List Value} {sz : Nat} {dst : Option Tmp} (ht : P.underlying t = some (.slice e)) (hi : P.info? e = some ti) (hsz : ti.size = sz)
    (hx : ev L x = some (.slice a len cap)) (hy : ev L y = some (.int k i)) (hm : i = (m : Int)) (h : m < len) [hr : RdSl a xs A] (hne : 0 < xs.length) (hk : m * sz = kk) : Tells P n ops ⟨dst, .indexAddr t x y, ty, pos, after, none⟩ A L (.pointer (elemA a kk)) := by
  obtain ⟨B, sh, hB⟩ := hr.get
  refine .inr ⟨.inl rfl, fun ac f w M hA hf dj s t' => ?_⟩
  obtain ⟨h1, le, yy⟩ := hB.sat s
  obtain ⟨g, off, rfl, _⟩ := sla_cell sh t' le yy (fun e => by rw [e] at hne; exact absurd hne (by simp))
  rw [run_elemAddr ht hi hsz f hx hy hm h w dst pos after none, hk]
  rfl
theorem tl_eload {t : TypeId} {td : TypeDesc} {x : Operand} {a : Option Addr} {k : Nat} {xs : List Value} {v : Value} {dst : Option Tmp} (ht : P.underlying t = some td) (hfl : flat td = true)
    (hx : ev L x = some (.pointer (elemA a k))) [hr : RdSl a xs A] (hv : xs[k]? = some v) : Tells P n ops ⟨dst, .load t x, ty, pos, after, none⟩ A L v := by
  obtain ⟨B, sh, hB⟩ := hr.get
  have hlt := (List.getElem?_eq_some_iff.1 hv).1
  refine .inr ⟨.inl rfl, fun ac f w M hA hf dj s t' => ?_⟩
  obtain ⟨h1, le, yy⟩ := hB.sat s
  obtain ⟨g, off, rfl, hc⟩ := sla_cell sh t' le yy (fun e => by rw [e] at hlt; exact absurd hlt (by simp))
  have h3 := hc k hlt
  rw [hv] at h3
  simp [execOp, f.ev hx, elemA, Instr.loadAt, Instr.sureAddr, loadVar, isAgg_flat ht hfl, run_load, h3]
theorem tl_eloada {t : TypeId} {td : TypeDesc} {x : Operand} {a : Option Addr} {k : Nat} {xs vs : List Value} {ti : TypeInfo} {sz : Nat} {dst : Option Tmp} (ht : P.underlying t = some td) (hfl : flat td = false) (hi : P.info? t = some ti) (hsz : ti.size = sz)
    (hx : ev L x = some (.pointer (elemA a k))) [hr : RdSl a xs A] (hl : k + sz ≤ xs.length) (hs0 : Nat.blt 0 sz = true) (hv : (xs.drop k).take sz = vs) : Tells P n ops ⟨dst, .load t x, ty, pos, after, none⟩ A L (.agg vs.toArray) := by
  obtain ⟨B, sh, hB⟩ := hr.get
  have hpos : 0 < sz := by simpa using hs0
  refine .inr ⟨.inl rfl, fun ac f w M hA hf dj s t' => ?_⟩
  obtain ⟨h1, le, yy⟩ := hB.sat s
  obtain ⟨g, off, rfl, hc⟩ := sla_cell sh t' le yy (fun e => by rw [e] at hl; simp at hl; omega)
  have h3 := run_ecells (P := P) hc hl hv
  simp [execOp, f.ev hx, elemA, Instr.loadAt, Instr.sureAddr, loadVar, isAgg_agg ht hfl, sizeOf, typeInfo, program, Sem.run, hi, hsz, h3]
theorem tl_efield {t : TypeId} {x : Operand} {i : Nat} {a : Option Addr} {k : Nat} {fs : Array Field} {fd : Field} {xs : List Value} {dst : Option Tmp} (ht : P.underlying t = some (.struct fs)) (hf : fs[i]? = some fd) {ti : TypeInfo} (hi : P.info? fd.type = some ti) (hz : Nat.beq ti.size 0 = false)
    (hx : ev L x = some (.pointer (elemA a k))) {o kk : Nat} (ho : fd.offset = o) (hk : k + o = kk) [hr : RdSl a xs A] (hne : 0 < xs.length) : Tells P n ops ⟨dst, .fieldAddr t x i, ty, pos, after, none⟩ A L (.pointer (elemA a kk)) := by
  obtain ⟨B, sh, hB⟩ := hr.get
  refine .inr ⟨.inl rfl, fun ac f w M hA hfr dj s t' => ?_⟩
  obtain ⟨h1, le, yy⟩ := hB.sat s
  obtain ⟨g, off, rfl, _⟩ := sla_cell sh t' le yy (fun e => by rw [e] at hne; exact absurd hne (by simp))
  have := (pv_fieldAddr (n := n) (ty := ty) ht hf hi hz hx).run ac f w dst pos after none
  rw [this, ho, Nat.add_assoc, hk]
  rfl

/-- One's own row is given up for good. -/
theorem row_freeze {e : TypeId} {sz k n' c' : Nat} {a : Option Addr} {xs : List Value} {w : World} {M : Kn} {h1 h : Res} (x : RowAt e sz (.slice a n' c') k xs M h1) (d : h1.dj h) (t : Sat w M (h1.add h)) :
    ∃ M' : Kn, M.le M' ∧ SlIAt a xs M' Res.emp ∧ Sat w M' h := by
  rcases x with ⟨_, _, e1⟩ | ⟨g, cap, cur, e1, e2, e3, e4, e5, e6, e7⟩
  · exact ⟨M, Kn.le_refl _, .inl e1, t.le (Res.le_add_right d)⟩
  · cases e1
    subst e7
    obtain ⟨M', le, hi, t'⟩ := freeze_sat d t
    exact ⟨M', le, .inr ⟨g, 0, cur, e, (0, 0), rfl, hi, by rw [List.drop_zero, e5]; exact e6⟩, t'⟩
theorem wo_freezeRow {e : TypeId} {sz k n' c' : Nat} {a : Option Addr} {xs : List Value} {Rs : List HP} (hp : Pick (Row e sz (.slice a n' c') k xs) Hs Rs) (K : wo r P n ops os L (SlI a xs :: Rs) Q) : wo r P n ops os L Hs Q := by
  intro ac M m s w hf dj t
  obtain ⟨g1, g2, dg, e, y, s2⟩ := s.2
  subst e
  obtain ⟨h1, h2, d12, e, hb, sr⟩ := hp.sat s2
  subst e
  obtain ⟨d1, d2⟩ := Res.dj_add_right.1 dg
  obtain ⟨f1, f2⟩ := Res.dj_add_left.1 dj
  obtain ⟨f3, f4⟩ := Res.dj_add_left.1 f2
  have eq : (g1.add (h1.add h2)).add hf = h1.add ((g1.add h2).add hf) := by
    rw [← Res.add_assoc g1, Res.add_comm d1]
    simp only [Res.add_assoc]
  rw [eq] at t
  obtain ⟨M', le, hi, t'⟩ := row_freeze hb (Res.dj_add_right.2 ⟨Res.dj_add_right.2 ⟨Res.dj_comm d1, d12⟩, f3⟩) t
  exact wo_on K (a := ac) (M := M') (h := g1.add h2) ⟨s.1, g1, h2, d2, rfl, (Al _).mono le y, Res.emp, h2, Res.emp_dj _, rfl, hi, SL.mono le sr⟩ le (Res.dj_add_left.2 ⟨f1, f4⟩) t'
theorem wc_freezeRow {e : TypeId} {sz k n' c' : Nat} {a : Option Addr} {xs : List Value} {Rs : List HP} (hp : Pick (Row e sz (.slice a n' c') k xs) Hs Rs) (K : wc r P n c L (SlI a xs :: Rs) Q) : wc r P n c L Hs Q := by
  intro ac M m s w hf dj t
  obtain ⟨g1, g2, dg, e, y, s2⟩ := s.2
  subst e
  obtain ⟨h1, h2, d12, e, hb, sr⟩ := hp.sat s2
  subst e
  obtain ⟨d1, d2⟩ := Res.dj_add_right.1 dg
  obtain ⟨f1, f2⟩ := Res.dj_add_left.1 dj
  obtain ⟨f3, f4⟩ := Res.dj_add_left.1 f2
  have eq : (g1.add (h1.add h2)).add hf = h1.add ((g1.add h2).add hf) := by
    rw [← Res.add_assoc g1, Res.add_comm d1]
    simp only [Res.add_assoc]
  rw [eq] at t
  obtain ⟨M', le, hi, t'⟩ := row_freeze hb (Res.dj_add_right.2 ⟨Res.dj_add_right.2 ⟨Res.dj_comm d1, d12⟩, f3⟩) t
  exact wout_of (K ac M' (g1.add h2) ⟨s.1, g1, h2, d2, rfl, (Al _).mono le y, Res.emp, h2, Res.emp_dj _, rfl, hi, SL.mono le sr⟩) le (Res.dj_add_left.2 ⟨f1, f4⟩) t'

/-- append(s, x...), whatever lets x be read. -/
theorem opt_appendA {dst : Option Tmp} {t e : TypeId} {x y : Operand} {i : TypeInfo} {z : Value} (ht : P.underlying t = some (.slice e)) (hi : P.info? e = some i) (hz : i.zero = some z) (hzs : Nat.beq z.cells.size i.size = true) {sz : Nat} (hsz : i.size = sz) (hs0 : Nat.blt 0 sz = true) {bytes : Nat} (hby : i.bytes = bytes)
    {v : Value} {k : Nat} {xs : List Value} {a : Option Addr} {m c : Nat} {news : List Value} {B : HP} (hx : ev L x = some v) (hy : ev L y = some (.slice a m c)) (sh : SlA B a news)
    (hl : news.length = m * sz) (h1 : news.all oneCell = true) (hbytes : (k + m) * bytes ≤ 140737488355328) (h63 : k + m ≤ maxLen) :
    OpT r P n ⟨dst, .call ⟨.builtin .append, #[x, y], #[t, t]⟩, ty, pos, after, none⟩ A L [Row e sz v k xs, B] (fun v' => v') (fun v' => ∃ a c, v' = .slice a (k + m) c) (fun v' => [Row e sz v' (k + m) (xs ++ news), B]) := by
  subst hsz; subst hby
  have hpos : 0 < i.size := by simpa using hs0
  intro ac f w M h hA hf dj dj' s sA t'
  obtain ⟨g1, g2, dg, e1, hrow, s2⟩ := s
  obtain ⟨g3, g4, dg2, e2, hB, _⟩ := s2
  subst e2; subst e1
  obtain ⟨d1, d2⟩ := Res.dj_add_right.1 dg
  obtain ⟨d3, d4⟩ := Res.dj_add_left.1 dj
  obtain ⟨d5, d6⟩ := Res.dj_add_left.1 dj'
  obtain ⟨d7, d8⟩ := Res.dj_add_left.1 d5
  have eq : ((g1.add (g3.add g4)).add hA).add hf = g1.add (((g3.add g4).add hA).add hf) := by simp only [Res.add_assoc]
  by_cases hne : news = []
  · subst hne
    have hm : m = 0 := by
      rcases Nat.mul_eq_zero.1 hl.symm with h | h
      · exact h
      · omega
    subst hm
    have hr : (Builtin.append_ #[t, t] ty #[v, .slice a 0 c]).run P w = .ok v w := by
      have hl0 : ∀ b : Addr, (loadCells b 0).run P w = .ok #[] w := fun b => by simpa using run_loadCells_list (P := P) w b [] (by simp)
      rcases hrow with ⟨rfl, rfl, _⟩ | ⟨g, cap, cur, rfl, hkc, _, _, _, _, _⟩
      · cases a <;> simp [Builtin.append_, run_underlying ht, sizeOf, typeInfo, hi, Builtin.lenOf, Builtin.firstCells, hl0]
      · cases a <;> simp [Builtin.append_, run_underlying ht, sizeOf, typeInfo, hi, Builtin.lenOf, Builtin.firstCells, hl0, hkc, storeCells]
    have hrun : (execOp ac.eval ⟨dst, .call ⟨.builtin .append, #[x, y], #[t, t]⟩, ty, pos, after, none⟩).run P w = .ok (.value v) w := by
      simp [execOp, resolve, f.ev hx, f.ev hy, invoke, builtin, hr]
    rw [hrun]
    refine ⟨v, M, g1.add (g3.add g4), rfl, RowAt.slice (M := M) hrow, Kn.le_refl _, dj, dj', t', g1, g3.add g4, dg, rfl, ?_, g3, g4, dg2, rfl, hB, trivial⟩
    simpa using hrow
  · have hle : g3.le (g1.add (g3.add g4)) := Res.le_trans (Res.le_add_left g3 g4) (Res.le_add_right dg)
    have t3 : Sat w M ((g1.add (g3.add g4)).add (hA.add hf)) := by rw [← Res.add_assoc]; exact t'
    obtain ⟨g, off, rfl, hc⟩ := sla_cell sh t3 hle hB hne
    rw [eq] at t'
    obtain ⟨v', w', h', hr, djn, sn, rn⟩ := run_append_row (P := P) ht hi hz (Nat.eq_of_beq_eq_true hzs) hpos (hf := ((g3.add g4).add hA).add hf) (Res.dj_add_right.2 ⟨Res.dj_add_right.2 ⟨dg, d3⟩, d7⟩) t' hrow hl (fun j u hj => by
      rw [addr_add, hc j (List.getElem?_eq_some_iff.1 hj).1]; exact hj) (fun u hu => List.all_eq_true.1 h1 u hu) hbytes h63 (ty := ty) (c := c)
    have hrun : (execOp ac.eval ⟨dst, .call ⟨.builtin .append, #[x, y], #[t, t]⟩, ty, pos, after, none⟩).run P w = .ok (.value v') w' := by
      simp [execOp, resolve, f.ev hx, f.ev hy, invoke, builtin, hr]
    rw [hrun]
    obtain ⟨y1, y2⟩ := Res.dj_add_right.1 djn
    obtain ⟨y3, y4⟩ := Res.dj_add_right.1 y1
    refine ⟨v', M, h'.add (g3.add g4), rfl, rn.slice, Kn.le_refl _, Res.dj_add_left.2 ⟨y4, d4⟩, Res.dj_add_left.2 ⟨Res.dj_add_left.2 ⟨y2, d8⟩, d6⟩, ?_, h', g3.add g4, y3, rfl, rn, g3, g4, dg2, rfl, hB, trivial⟩
    have eq2 : ((h'.add (g3.add g4)).add hA).add hf = h'.add (((g3.add g4).add hA).add hf) := by simp only [Res.add_assoc]
    rw [eq2]; exact sn
end
end Go.Proofs.Ytimafngkifakfaa

/- A scope that nobody leaves by goto. -/
namespace Go.Proofs.Ytimafngkifakfaa
section
variable {r : Option Nat} {P : Program} {n : Nat} {L : Loc} {Hs : List HP} {Q : Out} {c : Code}
variable {b : Frame} {a : Act} {k : List Item} {cs : List Frame} {w : World}
theorem stepR_scope {c : Code} : step P (lone (b.atR a (.code (.scope c) :: k)) cs w) = .next (lone (b.atR a (.code c :: .inScope c :: k)) cs w) :=
  step_lone_go (by simp [stepG, stepG.exec, Frame.atR])
theorem stepR_inScope {c : Code} : step P (lone (b.atR a (.inScope c :: k)) cs w) = .next (lone (b.atR a k) cs w) :=
  step_lone_go (by simp [stepG, stepG.exec, Frame.atR])

def scopeO (Q : Out) : Out
  | .goto _ => fun _ _ _ => False
  | e => Q e
theorem wc_scope2 {c : Code} (h : wc r P n c L Hs (scopeO Q)) : wc r P n (.scope c) L Hs Q := by
  intro a M m s w hf d t b k cs hro hb hr
  have h0 : (lone (b.atR a (.code (.scope c) :: k)) cs w).fenced P (WF r) := fenced_calm hb hr rfl
  obtain ⟨e, a₁, w₁, ⟨M', h', l, d', t', q⟩, harr⟩ := h a M m s w hf d t b (.inScope c :: k) cs hro hb hr
  cases e with
  | normal => exact ⟨.normal, a₁, w₁, ⟨M', h', l, d', t', q⟩, .head h0 stepR_scope (StepsIn.trans harr (.one (fenced_calm hb hr rfl) stepR_inScope))⟩
  | exit id =>
    have hx : exitTo id (.inScope c :: k) = exitTo id k := by simp [exitTo]
    exact ⟨.exit id, a₁, w₁, ⟨M', h', l, d', t', q⟩, fun k' hk => .head h0 stepR_scope (harr.1 k' (by rw [hx]; exact hk)),
      fun hr' hk => let ⟨k₁, h1, h2⟩ := harr.2 hr' (by rw [hx]; exact hk); ⟨k₁, h1, .head h0 stepR_scope h2⟩⟩
  | goto l => exact q.elim
  | ret => exact ⟨_, a₁, w₁, ⟨M', h', l, d', t', q⟩, .of_steps (.one h0 stepR_scope) harr⟩
  | panic ch => exact ⟨_, a₁, w₁, ⟨M', h', l, d', t', q⟩, .of_steps (.one h0 stepR_scope) harr⟩
  | outgrown => exact ⟨_, a₁, w₁, ⟨M', h', l, d', t', q⟩, .of_steps (.one h0 stepR_scope) harr⟩
theorem p_scope2 (h : c = .scope (bB c)) (k : wc r P n (bB c) L Hs (scopeO Q)) : wc r P n c L Hs Q := by rw [h]; exact wc_scope2 k
theorem t_scope (h : tw n Q .normal L Hs) : tw n (scopeO Q) .normal L Hs := h
theorem t_scope_exit {id : Nat} (h : tw n Q (.exit id) L Hs) : tw n (scopeO Q) (.exit id) L Hs := h
theorem t_scope_ret (h : tw n Q .ret L Hs) : tw n (scopeO Q) .ret L Hs := h
end
end Go.Proofs.Ytimafngkifakfaa

/- Maps whose keys are texts; making slices; copying. -/
namespace Go.Proofs.Ytimafngkifakfaa

abbrev Ks := List (List UInt8 × Value)
def mlook : Ks → List UInt8 → Option Value
  | [], _ => none
  | p :: r, k => if p.1 = k then some p.2 else mlook r k
def mput : Ks → List UInt8 → Value → Ks
  | [], k, v => [(k, v)]
  | p :: r, k, v => if p.1 = k then (k, v) :: r else p :: mput r k v
def mdel : Ks → List UInt8 → Ks
  | [], _ => []
  | p :: r, k => if p.1 = k then r else p :: mdel r k
def mfind : Ks → List UInt8 → Nat → Option (Nat × Value)
  | [], _, _ => none
  | p :: r, k, i => if p.1 = k then some (i, p.2) else mfind r k (i + 1)

theorem mfind_none {ks : Ks} {k : List UInt8} : ∀ {i : Nat}, mfind ks k i = none → mlook ks k = none ∧ (∀ v, mput ks k v = ks ++ [(k, v)]) ∧ mdel ks k = ks ∧ k ∉ ks.map (·.1) := by
  induction ks with
  | nil => intro i h; exact ⟨rfl, fun v => rfl, rfl, by simp⟩
  | cons p r ih =>
    intro i h
    simp only [mfind] at h
    split at h
    · cases h
    · rename_i hp
      obtain ⟨h1, h2, h3, h4⟩ := ih h
      simp only [mlook, mput, mdel, hp, if_false, h1, h2, h3, true_and]
      refine ⟨fun v => by simp, ?_⟩
      simp only [List.map_cons, List.mem_cons, not_or]
      exact ⟨fun e => hp e.symm, h4⟩
theorem mfind_some {ks : Ks} {k : List UInt8} {v : Value} : ∀ {i j : Nat}, mfind ks k i = some (j, v) → ∃ m, j = i + m ∧ m < ks.length ∧ mlook ks k = some v ∧ ks[m]? = some (k, v) ∧ (∀ u, mput ks k u = ks.set m (k, u)) ∧ mdel ks k = ks.eraseIdx m := by
  induction ks with
  | nil => intro i j h; simp [mfind] at h
  | cons p r ih =>
    intro i j h
    simp only [mfind] at h
    split at h
    · rename_i hp
      simp only [Option.some.injEq, Prod.mk.injEq] at h
      obtain ⟨rfl, rfl⟩ := h
      refine ⟨0, rfl, by simp, by simp [mlook, hp], by simp [← hp], fun u => by simp [mput, hp], by simp [mdel, hp]⟩
    · rename_i hp
      obtain ⟨m, rfl, h2, h3, h4, h5, h6⟩ := ih h
      refine ⟨m + 1, by omega, by simp; omega, by simp [mlook, hp, h3], by simpa using h4, fun u => by simp [mput, hp, h5], by simp [mdel, hp, h6]⟩

/-- A map's entries, and what they are taken for. -/
structure MapG (es : Array MapEntry) (clock : Nat) (ks : Ks) : Prop where
  eq : es.toList.map (fun e => (e.key, e.val)) = ks.map (fun p => (vS p.1, p.2))
  old : ∀ e ∈ es.toList, e.born < clock
  born : (es.toList.map (·.born)).Nodup
  keys : (ks.map (·.1)).Nodup
theorem MapG.nil : MapG #[] 0 [] := ⟨rfl, by simp, by simp, by simp⟩
theorem MapG.size {es : Array MapEntry} {clock : Nat} {ks : Ks} (g : MapG es clock ks) : es.size = ks.length := by
  have := congrArg List.length g.eq
  simpa using this
def MapS (b : Nat) (ks : Ks) : HP := ⟨fun _ h => ∃ es clock, h = Res.one b (.map es clock) ∧ MapG es clock ks, fun _ e => e⟩

theorem findNow_eq (k : List UInt8) : ∀ (es : List MapEntry) (ks : Ks) (i : Nat), es.map (fun e => (e.key, e.val)) = ks.map (fun p => (vS p.1, p.2)) → Instr.findNow .string (vS k) es i = some (mfind ks k i) := by
  intro es
  induction es with
  | nil => intro ks i h; cases ks with
    | nil => rfl
    | cons _ _ => simp at h
  | cons e es ih =>
    intro ks i h
    cases ks with
    | nil => simp at h
    | cons p r =>
      simp only [List.map_cons, List.cons.injEq, Prod.mk.injEq] at h
      obtain ⟨⟨h1, h2⟩, h3⟩ := h
      have e1 : Instr.sameNow .string (vS k) e.key = some (decide (k = p.1)) := by rw [h1]; simp [Instr.sameNow, mk_eq]
      simp only [Instr.findNow, e1, mfind]
      by_cases hk : p.1 = k
      · simp [hk, h2]
      · have : k ≠ p.1 := fun e => hk e.symm
        simp only [this, decide_false, hk, if_false]
        exact ih r (i + 1) h3
theorem run_checkKey {P : Program} {kt : TypeId} (hk : P.underlying kt = some .string) (b : Bool) (k : List UInt8) (w : World) : ∀ d : Nat, (Instr.checkKey b (d + 1) kt (vS k)).run P w = .ok () w := fun d => by
  simp [Instr.checkKey, run_underlying hk]
theorem run_findKey {P : Program} {kt : TypeId} (hk : P.underlying kt = some .string) {es : Array MapEntry} {clock : Nat} {ks : Ks} (g : MapG es clock ks) (k : List UInt8) (w : World) : (Instr.findKey kt (vS k) es.toList).run P w = .ok (mfind ks k 0) w := by
  simp [Instr.findKey, run_underlying hk, findNow_eq k es.toList ks 0 g.eq]
theorem run_keyStays {P : Program} (k : List UInt8) (w : World) : (Instr.keyThatStays (vS k) (vS k)).run P w = .ok (vS k) w := by
  have h : ∀ d, Instr.sameBits d (vS k) (vS k) = true := fun d => by cases d <;> simp [Instr.sameBits, mk_eq]
  simp [Instr.keyThatStays, h 10000]

theorem MapG.put {es : Array MapEntry} {clock : Nat} {ks : Ks} (g : MapG es clock ks) (k : List UInt8) (v : Value) (h : mfind ks k 0 = none) : MapG (es.push { key := vS k, val := v, born := clock }) (clock + 1) (mput ks k v) := by
  obtain ⟨_, h2, _, h4⟩ := mfind_none h
  rw [h2]
  refine ⟨by simp [g.eq], ?_, ?_, ?_⟩
  · intro e he
    simp only [Array.toList_push, List.mem_append, List.mem_singleton] at he
    rcases he with he | rfl
    · have := g.old e he; omega
    · simp
  · simp only [Array.toList_push, List.map_append, List.map_cons, List.map_nil]
    rw [List.nodup_append]
    refine ⟨g.born, by simp, ?_⟩
    intro a ha c hc
    simp only [List.mem_singleton] at hc
    obtain ⟨e, he, rfl⟩ := List.mem_map.1 ha
    have := g.old e he
    omega
  · rw [List.map_append, List.nodup_append]
    refine ⟨g.keys, by simp, ?_⟩
    intro a ha c hc e
    simp at hc
    subst hc; subst e
    exact h4 ha
theorem MapG.set {es : Array MapEntry} {clock : Nat} {ks : Ks} (g : MapG es clock ks) {k : List UInt8} {u : Value} {j : Nat} (v : Value) (h : mfind ks k 0 = some (j, u)) : MapG (es.modify j fun e => { e with key := vS k, val := v }) clock (mput ks k v) := by
  obtain ⟨m, hj, hm, _, h4, h5, _⟩ := mfind_some h
  simp only [Nat.zero_add] at hj
  subst hj
  rw [h5]
  have hsz := g.size
  have hlt : j < es.toList.length := by rw [Array.length_toList, hsz]; exact hm
  have e1 : (es.modify j fun e => { e with key := vS k, val := v }).toList = es.toList.set j ⟨vS k, v, es.toList[j].born⟩ := by
    rw [Array.toList_modify]
    apply List.ext_getElem?
    intro i
    rw [List.getElem?_modify, List.getElem?_set]
    by_cases hi : j = i
    · subst hi
      have h6 : es.toList[j]? = some es.toList[j] := List.getElem?_eq_getElem hlt
      simp [h6, hlt]
      simpa using hlt
    · simp [hi]
  refine ⟨?_, ?_, ?_, ?_⟩
  · rw [e1, List.map_set, g.eq, List.map_set]
  · intro e he
    rw [e1] at he
    rcases List.mem_or_eq_of_mem_set he with he | rfl
    · exact g.old e he
    · show es.toList[j].born < clock
      exact g.old _ (List.getElem_mem hlt)
  · rw [e1, List.map_set]
    have : (es.toList.map (·.born)).set j es.toList[j].born = es.toList.map (·.born) := by
      apply List.ext_getElem?
      intro i
      rw [List.getElem?_set]
      by_cases hi : j = i
      · subst hi
        have h6 : es.toList[j]? = some es.toList[j] := List.getElem?_eq_getElem hlt
        rw [List.getElem?_map, h6]; simp
        simpa using hlt
      · simp [hi]
    rw [this]; exact g.born
  · rw [List.map_set]
    have : (ks.map (·.1)).set j k = ks.map (·.1) := by
      apply List.ext_getElem?
      intro i
      rw [List.getElem?_set]
      by_cases hi : j = i
      · subst hi; rw [List.getElem?_map, h4]; simp [hm]
      · simp [hi]
    rw [this]; exact g.keys
theorem map_eraseIdx' {α β : Type} (f : α → β) : ∀ (l : List α) (j : Nat), (l.eraseIdx j).map f = (l.map f).eraseIdx j
  | [], _ => by simp
  | _ :: _, 0 => by simp
  | _ :: l, j + 1 => by simp [map_eraseIdx' f l j]
theorem MapG.del {es : Array MapEntry} {clock : Nat} {ks : Ks} (g : MapG es clock ks) {k : List UInt8} {u : Value} {j : Nat} (h : mfind ks k 0 = some (j, u)) : MapG (es.eraseIdxIfInBounds j) clock (mdel ks k) := by
  obtain ⟨m, hj, hm, _, h4, _, h6⟩ := mfind_some h
  simp only [Nat.zero_add] at hj
  subst hj
  rw [h6]
  have hsz := g.size
  have hlt : j < es.size := by rw [hsz]; exact hm
  have e1 : (es.eraseIdxIfInBounds j).toList = es.toList.eraseIdx j := by
    rw [Array.eraseIdxIfInBounds, dif_pos hlt, Array.toList_eraseIdx]
  refine ⟨?_, ?_, ?_, ?_⟩
  · rw [e1, map_eraseIdx', g.eq, map_eraseIdx']
  · intro e he
    rw [e1] at he
    exact g.old e (List.mem_of_mem_eraseIdx he)
  · rw [e1, map_eraseIdx']
    exact List.Nodup.sublist (List.eraseIdx_sublist _ _) g.born
  · rw [map_eraseIdx']
    exact List.Nodup.sublist (List.eraseIdx_sublist _ _) g.keys

class RdMap (b : Nat) (ks : outParam Ks) (Hs : List HP) : Prop where
  get : Has (MapS b ks) Hs
instance (priority := 1000) {b : Nat} {ks : Ks} {r : List HP} : RdMap b ks (MapS b ks :: r) := ⟨.here⟩
instance (priority := 100) {b : Nat} {ks : Ks} {B : HP} {r : List HP} [h : RdMap b ks r] : RdMap b ks (B :: r) := ⟨.there h.get⟩
instance (priority := 900) {b : Nat} {ks : Ks} {B C : List HP} [h : RdMap b ks B] : RdMap b ks (B ++ C) := ⟨has_left h.get⟩
instance (priority := 800) {b : Nat} {ks : Ks} {B C : List HP} [h : RdMap b ks C] : RdMap b ks (B ++ C) := ⟨has_right h.get⟩

theorem maps_at {b : Nat} {ks : Ks} {w : World} {M : Kn} {h hf h1 : Res} (t : Sat w M (h.add hf)) (le : h1.le h) (x : (MapS b ks).at_ M h1) : ∃ es clock, w.heap[b]? = some (.map es clock) ∧ MapG es clock ks := by
  obtain ⟨es, clock, e, g⟩ := x
  exact ⟨es, clock, t.ow _ _ (Res.le_add_left _ _ _ _ (le _ _ (by rw [e]; exact Res.one_same _ _))), g⟩

section
variable {r : Option Nat} {P : Program} {n : Nat} {ops : Array Oper} {os : List Oper} {A : List HP} {L : Loc} {Hs : List HP} {Q : Out} {ty : TypeId} {d : Nat} {pos : String} {after : Array Edge} {c : Code}

theorem run_mlook {t kt e : TypeId} {i : TypeInfo} {z : Value} (ht : P.underlying t = some (.map kt e)) (hk : P.underlying kt = some .string) (hi : P.info? e = some i) (hz : i.zero = some z) {w : World} {b : Nat} {es : Array MapEntry} {clock : Nat} {ks : Ks} (hb : w.heap[b]? = some (.map es clock)) (g : MapG es clock ks) (k : List UInt8) (ok : Bool) :
    (Instr.lookup t (.map (some b)) (vS k) ok).run P w = .ok (if ok then .tuple #[(mlook ks k).getD z, .bool (mlook ks k).isSome] else (mlook ks k).getD z) w := by
  have hc := run_checkKey (P := P) hk es.isEmpty k w 9999
  have hf := run_findKey (P := P) hk g k w
  have hzv : (zeroValue e).run P w = .ok z w := by simp [zeroValue, typeInfo, program, Sem.run, hi, hz]
  cases hm : mfind ks k 0 with
  | none =>
    obtain ⟨h1, _⟩ := mfind_none hm
    rw [hm] at hf
    simp only [Instr.lookup, run_underlying ht, Sem.run_bind, Result.andThen_ok, MapKept.run_getObj_map hb, hc, hf, h1, hzv, Sem.run_pure]
    cases ok <;> rfl
  | some p =>
    obtain ⟨j, u⟩ := p
    obtain ⟨m, _, _, h3, _⟩ := mfind_some hm
    rw [hm] at hf
    simp only [Instr.lookup, run_underlying ht, Sem.run_bind, Result.andThen_ok, MapKept.run_getObj_map hb, hc, hf, h3, Sem.run_pure]
    cases ok <;> rfl
theorem r_lookup {t kt e : TypeId} {i : TypeInfo} {z : Value} {x y : Operand} {b : Nat} {ks : Ks} {k : List UInt8} {ok : Bool} {v : Value} (ht : P.underlying t = some (.map kt e)) (hk : P.underlying kt = some .string) (hi : P.info? e = some i) (hz : i.zero = some z)
    (hx : ev L x = some (.map (some b))) (hy : ev L y = some (vS k)) [hr : RdMap b ks Hs] (hv : (if ok then Value.tuple #[(mlook ks k).getD z, .bool (mlook ks k).isSome] else (mlook ks k).getD z) = v) (hd : Nat.blt d n = true)
    (K : wo r P n ops os ((d, v) :: L) Hs Q) : wo r P n ops (⟨some d, .lookup t x y ok, ty, pos, after, none⟩ :: os) L Hs Q := by
  subst hv
  refine wo_read (by intro c; simp) hr.get hd (fun a f w M h h1 hf t' le yy _ _ _ _ => ?_) K
  obtain ⟨es, clock, hb, g⟩ := maps_at t' le yy
  simp [execOp, f.ev hx, f.ev hy, run_mlook ht hk hi hz hb g k ok]
theorem tl_lookup {t kt e : TypeId} {i : TypeInfo} {z : Value} {x y : Operand} {b : Nat} {ks : Ks} {k : List UInt8} {ok : Bool} {v : Value} {dst : Option Tmp} (ht : P.underlying t = some (.map kt e)) (hk : P.underlying kt = some .string) (hi : P.info? e = some i) (hz : i.zero = some z)
    (hx : ev L x = some (.map (some b))) (hy : ev L y = some (vS k)) [hr : RdMap b ks A] (hv : (if ok then Value.tuple #[(mlook ks k).getD z, .bool (mlook ks k).isSome] else (mlook ks k).getD z) = v) : Tells P n ops ⟨dst, .lookup t x y ok, ty, pos, after, none⟩ A L v := by
  subst hv
  refine .inr ⟨.inl rfl, fun ac f w M hA hf dj s t' => ?_⟩
  obtain ⟨h1, le, yy⟩ := hr.get.sat s
  obtain ⟨es, clock, hb, g⟩ := maps_at t' le yy
  simp [execOp, f.ev hx, f.ev hy, run_mlook ht hk hi hz hb g k ok]
theorem r_mlen {t kt e : TypeId} {x : Operand} {b : Nat} {ks : Ks} (ht : P.underlying t = some (.map kt e)) (hx : ev L x = some (.map (some b))) [hr : RdMap b ks Hs] (hd : Nat.blt d n = true)
    (K : wo r P n ops os ((d, vI ks.length) :: L) Hs Q) : wo r P n ops (⟨some d, .call ⟨.builtin .len, #[x], #[t]⟩, ty, pos, after, none⟩ :: os) L Hs Q := by
  refine wo_read (by intro c; simp) hr.get hd (fun a f w M h h1 hf t' le yy _ _ _ _ => ?_) K
  obtain ⟨es, clock, hb, g⟩ := maps_at t' le yy
  have := g.size
  simp [execOp, resolve, f.ev hx, invoke, builtin, Builtin.len_, run_underlying ht, MapKept.run_getObj_map hb, goInt, this]
theorem tl_mlen {t kt e : TypeId} {x : Operand} {b : Nat} {ks : Ks} {dst : Option Tmp} (ht : P.underlying t = some (.map kt e)) (hx : ev L x = some (.map (some b))) [hr : RdMap b ks A] : Tells P n ops ⟨dst, .call ⟨.builtin .len, #[x], #[t]⟩, ty, pos, after, none⟩ A L (vI ks.length) := by
  refine .inr ⟨.inl rfl, fun ac f w M hA hf dj s t' => ?_⟩
  obtain ⟨h1, le, yy⟩ := hr.get.sat s
  obtain ⟨es, clock, hb, g⟩ := maps_at t' le yy
  have := g.size
  simp [execOp, resolve, f.ev hx, invoke, builtin, Builtin.len_, run_underlying ht, MapKept.run_getObj_map hb, goInt, this]

/-- What a triple of an operation that turns one block comes down to. -/
theorem opt_turn {dst : Option Tmp} {op : Op} {B C : HP} {u : Value} (hrun : ∀ (a : Act), Fr n L a → ∀ (w : World) (M : Kn) (h1 hf : Res), h1.dj hf → Sat w M (h1.add hf) → B.at_ M h1 → ∃ (w' : World) (h1' : Res), h1'.dj hf ∧ Sat w' M (h1'.add hf) ∧ C.at_ M h1' ∧
      ((execOp a.eval ⟨dst, op, ty, pos, after, none⟩).run P w = .ok (.value u) w' ∨ (execOp a.eval ⟨dst, op, ty, pos, after, none⟩).run P w = .ok .skip w' ∧ u = undef)) :
    OpT r P n ⟨dst, op, ty, pos, after, none⟩ A L [B] (fun _ : Unit => u) (fun _ => True) (fun _ => [C]) := by
  intro a f w M h hA hf dj dj' s sA t
  obtain ⟨k1, k2, dk, e, hb, _⟩ := s
  subst e
  obtain ⟨x1, x2⟩ := Res.dj_add_left.1 dj'
  obtain ⟨x3, x4⟩ := Res.dj_add_left.1 x1
  obtain ⟨y1, y2⟩ := Res.dj_add_left.1 dj
  have t2 : Sat w M (k1.add ((k2.add hA).add hf)) := by
    have : ((k1.add k2).add hA).add hf = k1.add ((k2.add hA).add hf) := by simp only [Res.add_assoc]
    rw [← this]; exact t
  obtain ⟨w', h', dj3, t3, hc, hr⟩ := hrun a f w M k1 ((k2.add hA).add hf) (Res.dj_add_right.2 ⟨Res.dj_add_right.2 ⟨dk, y1⟩, x3⟩) t2 hb
  obtain ⟨z1, z2⟩ := Res.dj_add_right.1 dj3
  obtain ⟨z3, z4⟩ := Res.dj_add_right.1 z1
  have fin : ∃ (x : Unit) (M' : Kn) (h'' : Res), u = u ∧ True ∧ M.le M' ∧ h''.dj hA ∧ (h''.add hA).dj hf ∧ Sat w' M' ((h''.add hA).add hf) ∧ SL [C] M' h'' := by
    refine ⟨(), M, h'.add k2, rfl, trivial, Kn.le_refl _, Res.dj_add_left.2 ⟨z4, y2⟩, Res.dj_add_left.2 ⟨Res.dj_add_left.2 ⟨z2, x4⟩, x2⟩, ?_, h', k2, z3, rfl, hc, trivial⟩
    have : ((h'.add k2).add hA).add hf = h'.add ((k2.add hA).add hf) := by simp only [Res.add_assoc]
    rw [this]; exact t3
  rcases hr with hr | ⟨hr, hu⟩
  · rw [hr]; exact fin
  · rw [hr]
    show ∃ (x : Unit) (M' : Kn) (h'' : Res), undef = u ∧ _
    rw [hu] at fin ⊢
    exact fin

theorem sat_setBlock {w : World} {M : Kn} {h : Res} {b : Nat} {o : Obj} (o' : Obj) (dj : (Res.one b o).dj h) (t : Sat w M ((Res.one b o).add h)) : Sat { w with heap := w.heap.setIfInBounds b o' } M ((Res.one b o').add h) := by
  have hb : w.heap[b]? = some o := t.ow _ _ (by simp [Res.add, Res.one])
  have hlt : b < w.heap.size := (Array.getElem?_eq_some_iff.1 hb).1
  refine Sat.setBlk dj t ?_ (fun i hi => ?_) ⟨rfl, rfl, rfl, by simp⟩
  · simp [Array.getElem?_setIfInBounds, hlt]
  · simp [Array.getElem?_setIfInBounds, Ne.symm hi]

theorem opt_mapUpdate {t kt e : TypeId} {x y z : Operand} {b : Nat} {ks : Ks} {k : List UInt8} {v : Value} (ht : P.underlying t = some (.map kt e)) (hk : P.underlying kt = some .string)
    (hx : ev L x = some (.map (some b))) (hy : ev L y = some (vS k)) (hz : ev L z = some v) :
    OpT r P n ⟨none, .mapUpdate t x y z, ty, pos, after, none⟩ A L [MapS b ks] (fun _ : Unit => undef) (fun _ => True) (fun _ => [MapS b (mput ks k v)]) := by
  refine opt_turn (fun a f w M h1 hf dj tt hm => ?_)
  obtain ⟨es, clock, e1, g⟩ := hm
  subst e1
  have hb : w.heap[b]? = some (.map es clock) := tt.ow _ _ (by simp [Res.add, Res.one])
  have hc := run_checkKey (P := P) hk false k w 9999
  have hfk := run_findKey (P := P) hk g k w
  cases hm : mfind ks k 0 with
  | none =>
    rw [hm] at hfk
    refine ⟨_, Res.one b (.map (es.push { key := vS k, val := v, born := clock }) (clock + 1)), dj_one_any dj, sat_setBlock _ dj tt, ⟨_, _, rfl, g.put k v hm⟩, .inr ⟨?_, rfl⟩⟩
    simp [execOp, f.ev hx, f.ev hy, f.ev hz, Instr.mapUpdate, run_underlying ht, MapKept.run_getObj_map hb, hc, hfk, MapKept.run_setObj_map _ hb]
  | some p =>
    obtain ⟨j, u⟩ := p
    rw [hm] at hfk
    obtain ⟨m, hj, hlt, _, h4, _⟩ := mfind_some hm
    simp only [Nat.zero_add] at hj
    subst hj
    have hkey : ((es[j]?).map (·.key)).getD (vS k) = vS k := by
      have h5 : (es.toList.map (fun e => (e.key, e.val)))[j]? = (ks.map (fun p => (vS p.1, p.2)))[j]? := by rw [g.eq]
      simp only [List.getElem?_map, h4, Option.map_some, Array.getElem?_toList] at h5
      cases h6 : es[j]? with
      | none => rw [h6] at h5; simp at h5
      | some e0 => rw [h6] at h5; simp at h5; simp [h5]
    have hst := run_keyStays (P := P) k w
    refine ⟨_, Res.one b (.map (es.modify j fun e => { e with key := vS k, val := v }) clock), dj_one_any dj, sat_setBlock _ dj tt, ⟨_, _, rfl, g.set v hm⟩, .inr ⟨?_, rfl⟩⟩
    simp [execOp, f.ev hx, f.ev hy, f.ev hz, Instr.mapUpdate, run_underlying ht, MapKept.run_getObj_map hb, hc, hfk, hkey, hst, MapKept.run_setObj_map _ hb]
theorem opt_delete {t kt e kt' : TypeId} {x y : Operand} {b : Nat} {ks : Ks} {k : List UInt8} {dst : Option Tmp} (ht : P.underlying t = some (.map kt e)) (hk : P.underlying kt = some .string)
    (hx : ev L x = some (.map (some b))) (hy : ev L y = some (vS k)) :
    OpT r P n ⟨dst, .call ⟨.builtin .delete, #[x, y], #[t, kt']⟩, ty, pos, after, none⟩ A L [MapS b ks] (fun _ : Unit => .tuple #[]) (fun _ => True) (fun _ => [MapS b (mdel ks k)]) := by
  refine opt_turn (fun a f w M h1 hf dj tt hm => ?_)
  obtain ⟨es, clock, e1, g⟩ := hm
  subst e1
  have hb : w.heap[b]? = some (.map es clock) := tt.ow _ _ (by simp [Res.add, Res.one])
  have hc := run_checkKey (P := P) hk es.isEmpty k w 9999
  have hfk := run_findKey (P := P) hk g k w
  cases hm : mfind ks k 0 with
  | none =>
    rw [hm] at hfk
    obtain ⟨_, _, h3, _⟩ := mfind_none hm
    refine ⟨_, Res.one b (.map es clock), dj_one_any dj, sat_setBlock _ dj tt, ⟨_, _, rfl, by rw [h3]; exact g⟩, .inl ?_⟩
    simp [execOp, resolve, f.ev hx, f.ev hy, invoke, builtin, Builtin.delete_, run_underlying ht, MapKept.run_getObj_map hb, hc, hfk, MapKept.run_setObj_map _ hb]
  | some p =>
    obtain ⟨j, u⟩ := p
    rw [hm] at hfk
    refine ⟨_, Res.one b (.map (es.eraseIdxIfInBounds j) clock), dj_one_any dj, sat_setBlock _ dj tt, ⟨_, _, rfl, g.del hm⟩, .inl ?_⟩
    simp [execOp, resolve, f.ev hx, f.ev hy, invoke, builtin, Builtin.delete_, run_underlying ht, MapKept.run_getObj_map hb, hc, hfk, MapKept.run_setObj_map _ hb]
theorem r_mkmap {t : TypeId} (hd : Nat.blt d n = true) (K : ∀ b, wo r P n ops os ((d, .map (some b)) :: L) (MapS b [] :: Hs) Q) : wo r P n ops (⟨some d, .makeMap t none, ty, pos, after, none⟩ :: os) L Hs Q := by
  refine wo_makeMap0 hd (fun b => wo_ent' ⟨fun s => ?_⟩ (K b))
  obtain ⟨h1, h2, d1, e, hb, s2⟩ := s
  exact ⟨h1, h2, d1, e, ⟨_, _, hb, MapG.nil⟩, s2⟩

/-! Making slices. -/
theorem madeCells_one (z : Value) (h : z.cells = #[z]) (m : Nat) : (madeCells z.cells m).toList = List.replicate m z := by
  apply List.ext_getElem
  · simp [madeCells]
  · intro i h1 h2
    simp [madeCells, h, Nat.mod_one]
theorem r_makeSlice {t e : TypeId} {x y : Operand} {i : TypeInfo} {z : Value} {m : Nat} (ht : P.underlying t = some (.slice e)) (hi : P.info? e = some i) (hz : i.zero = some z) (hz1 : z.cells = #[z]) (hsz : Nat.beq i.size 1 = true)
    (hx : ev L x = some (vI (m : Int))) (hy : ev L y = some (vI (m : Int))) (hm : m ≤ 9223372036854775807) (hb : (i.bytes : Int) * (m : Int) ≤ 281474976710656) (hd : Nat.blt d n = true)
    (K : ∀ b, wo r P n ops os ((d, .slice (some ⟨b, 0, none⟩) m m) :: L) (Ce b e (List.replicate m z) :: Hs) Q) : wo r P n ops (⟨some d, .makeSlice t x y, ty, pos, after, none⟩ :: os) L Hs Q := by
  have hs : i.size = 1 := Nat.eq_of_beq_eq_true hsz
  refine wo_new (o := .cells (List.replicate m z).toArray e (0, 0)) (val := fun b => .slice (some ⟨b, 0, none⟩) m m) (by intro c; simp) hd (fun a f w _ _ _ _ => ?_) K
  have hr := run_make (P := P) w t e i z ht hi hz .i64 .i64 m m (by omega) (Int.le_refl _) hb (by omega)
  have e1 : madeCells z.cells ((m : Int).toNat * i.size) = (List.replicate m z).toArray := by
    rw [hs, Nat.mul_one, Int.toNat_natCast, ← madeCells_one z hz1 m]
  rw [e1] at hr
  simp [execOp, f.ev hx, f.ev hy, hr]
theorem an_makeSlice {K : Loc → List HP → Prop} {t e : TypeId} {x y : Operand} {i : TypeInfo} {z : Value} {m : Nat} (ht : P.underlying t = some (.slice e)) (hi : P.info? e = some i) (hz : i.zero = some z) (hz1 : z.cells = #[z]) (hsz : Nat.beq i.size 1 = true)
    (hx : ev L x = some (vI (m : Int))) (hy : ev L y = some (vI (m : Int))) (hm : m ≤ 9223372036854775807) (hb : (i.bytes : Int) * (m : Int) ≤ 281474976710656) (hd : Nat.blt d n = true)
    (k : ∀ b, K ((d, .slice (some ⟨b, 0, none⟩) m m) :: L) (Ce b e (List.replicate m z) :: Hs)) : AnOp r P n ops A ⟨some d, .makeSlice t x y, ty, pos, after, none⟩ K L Hs := by
  have hs : i.size = 1 := Nat.eq_of_beq_eq_true hsz
  refine an_new (o := .cells (List.replicate m z).toArray e (0, 0)) (val := fun b => .slice (some ⟨b, 0, none⟩) m m) hd (fun a f w _ _ _ _ => ?_) k
  have hr := run_make (P := P) w t e i z ht hi hz .i64 .i64 m m (by omega) (Int.le_refl _) hb (by omega)
  have e1 : madeCells z.cells ((m : Int).toNat * i.size) = (List.replicate m z).toArray := by
    rw [hs, Nat.mul_one, Int.toNat_natCast, ← madeCells_one z hz1 m]
  rw [e1] at hr
  simp [execOp, f.ev hx, f.ev hy, hr]
end
end Go.Proofs.Ytimafngkifakfaa

/- A few more operations. -/
namespace Go.Proofs.Ytimafngkifakfaa
section
variable {r : Option Nat} {P : Program} {n : Nat} {ops : Array Oper} {os : List Oper} {A : List HP} {L : Loc} {Hs : List HP} {Q : Out} {ty : TypeId} {d : Nat} {pos : String} {after : Array Edge} {c : Code}
theorem pv_vv {x y : Operand} {a b : Value} {t yt : TypeId} {op : BinOp} {v : Value} (hx : ev L x = some a) (hy : ev L y = some b) (hg : ∀ w, (eqGuard op t x y a b).run P w = .ok () w)
    (h : ∀ w, (binOp op t a b).run P w = .ok v w) : PV P n L (.binOp op t x y yt) ty v :=
  ⟨by intro c; simp, fun ac f w _ _ _ _ => by
    simp only [execOp, f.ev hx, f.ev hy, Sem.run_bind]
    rw [hg w]
    simp [h w]⟩
theorem pv_sleql_nil {x y : Operand} {a : Option Addr} {m c : Nat} {t yt e : TypeId} (ht : P.underlying t = some (.slice e)) (hx : ev L x = some (.slice a m c)) (hy : ev L y = some (.slice none 0 0)) : PV P n L (.binOp .eql t x y yt) ty (.bool a.isNone) :=
  pv_vv hx hy (fun w => by unfold eqGuard; split <;> first | rfl | (simp_all; done)) fun w => by
    have h : ∀ d : Nat, (Op.equalIn (d + 1) t (.slice a m c) (.slice none 0 0)).run P w = .ok a.isNone w := fun d => by
      cases a <;> simp [Op.equalIn, run_underlying ht]
    simp only [binOp]
    simp [Op.equal, Op.maxDepth, h 9999]
theorem pv_slneq_nil {x y : Operand} {a : Option Addr} {m c : Nat} {t yt e : TypeId} (ht : P.underlying t = some (.slice e)) (hx : ev L x = some (.slice a m c)) (hy : ev L y = some (.slice none 0 0)) : PV P n L (.binOp .neq t x y yt) ty (.bool a.isSome) :=
  pv_vv hx hy (fun w => by unfold eqGuard; split <;> first | rfl | (simp_all; done)) fun w => by
    have h : ∀ d : Nat, (Op.equalIn (d + 1) t (.slice a m c) (.slice none 0 0)).run P w = .ok a.isNone w := fun d => by
      cases a <;> simp [Op.equalIn, run_underlying ht]
    simp only [binOp]
    cases a <;> simp [Op.equal, Op.maxDepth, h 9999]
theorem pv_meql_nil {x y : Operand} {b : Option Nat} {t yt k e : TypeId} (ht : P.underlying t = some (.map k e)) (hx : ev L x = some (.map b)) (hy : ev L y = some (.map none)) : PV P n L (.binOp .eql t x y yt) ty (.bool b.isNone) :=
  pv_vv hx hy (fun w => by unfold eqGuard; split <;> first | rfl | (simp_all; done)) fun w => by
    have h : ∀ d : Nat, (Op.equalIn (d + 1) t (.map b) (.map none)).run P w = .ok b.isNone w := fun d => by
      cases b <;> simp [Op.equalIn, run_underlying ht]
    simp only [binOp]
    simp [Op.equal, Op.maxDepth, h 9999]
theorem pv_beql {x y : Operand} {a b : Bool} {t yt : TypeId} (ht : P.underlying t = some .bool) (hx : ev L x = some (.bool a)) (hy : ev L y = some (.bool b)) : PV P n L (.binOp .eql t x y yt) ty (.bool (a == b)) :=
  pv_vv hx hy (fun w => by unfold eqGuard; split <;> first | rfl | (simp_all; done)) fun w => by
    have h : ∀ d : Nat, (Op.equalIn (d + 1) t (.bool a) (.bool b)).run P w = .ok (a == b) w := fun d => by simp [Op.equalIn, run_underlying ht]
    simp only [binOp]
    simp [Op.equal, Op.maxDepth, h 9999]
theorem pv_bneq {x y : Operand} {a b : Bool} {t yt : TypeId} (ht : P.underlying t = some .bool) (hx : ev L x = some (.bool a)) (hy : ev L y = some (.bool b)) : PV P n L (.binOp .neq t x y yt) ty (.bool (!(a == b))) :=
  pv_vv hx hy (fun w => by unfold eqGuard; split <;> first | rfl | (simp_all; done)) fun w => by
    have h : ∀ d : Nat, (Op.equalIn (d + 1) t (.bool a) (.bool b)).run P w = .ok (a == b) w := fun d => by simp [Op.equalIn, run_underlying ht]
    simp only [binOp]
    simp [Op.equal, Op.maxDepth, h 9999]

/-- Copying between blocks, or within one: one's own the one that is written. -/
theorem opt_copy {dst : Option Tmp} {x y : Operand} {dT sT e : TypeId} {g o dLen dCap b off sLen sCap T : Nat} {cur cs l : List Value} (hu : P.underlying dT = some (.slice e)) (hs : (P.info? e).map (·.size) = some 1)
    (hx : ev L x = some (.slice (some ⟨g, o, none⟩) dLen dCap)) (hy : ev L y = some (.slice (some ⟨b, off, none⟩) sLen sCap)) {B : HP} (hb : (b = g ∧ l = cur ∧ B = Pu True) ∨ Shows B b l)
    {q : Nat} (hq : Nat.min sLen dLen = q) (hcs : (l.drop off).take (q) = cs) (hl : off + q ≤ l.length) (hfit : o + q ≤ cur.length) (h1 : cs.all oneCell = true) :
    OpT r P n ⟨dst, .call ⟨.builtin .copy, #[x, y], #[dT, sT]⟩, ty, pos, after, none⟩ A L [Ce g T cur, B] (fun _ : Unit => vI (q)) (fun _ => True) (fun _ => [Ce g T (cur.take o ++ cs ++ cur.drop (o + q)), B]) := by
  subst hq
  have hlen : cs.length = Nat.min sLen dLen := by rw [← hcs]; simp only [List.length_take, List.length_drop]; omega
  intro a f w M h hA hf dj dj' s sA t'
  obtain ⟨g1, g2, dg, e1, hrow, s2⟩ := s
  obtain ⟨g3, g4, dg2, e2, hB, _⟩ := s2
  subst e2; subst e1
  have hrow' : g1 = Res.one g _ := hrow
  subst hrow'
  obtain ⟨d1, d2⟩ := Res.dj_add_right.1 dg
  obtain ⟨d3, d4⟩ := Res.dj_add_left.1 dj
  obtain ⟨d5, d6⟩ := Res.dj_add_left.1 dj'
  obtain ⟨d7, d8⟩ := Res.dj_add_left.1 d5
  have hg : w.heap[g]? = some (.cells cur.toArray T (0, 0)) := t'.ow _ _ (by simp [Res.add, Res.one])
  have hsrc : ∀ j v, cs[j]? = some v → w.cell? ((⟨b, off, none⟩ : Addr).add j) = some v := by
    intro j v hj
    have hlt := (List.getElem?_eq_some_iff.1 hj).1
    rw [addr_add]
    have hlj : l[off + j]? = some v := by rw [← hcs, List.getElem?_take_of_lt (by omega), List.getElem?_drop] at hj; exact hj
    rcases hb with ⟨rfl, rfl, _⟩ | sh
    · simp [World.cell?, hg, hlj]
    · have hle : g3.le ((((Res.one g (.cells cur.toArray T (0, 0))).add (g3.add g4)).add hA)) := Res.le_trans (Res.le_trans (Res.le_add_left g3 g4) (Res.le_add_right dg)) (Res.le_add_left _ _)
      rw [shows_cell sh t' hle hB (off + j)]; exact hlj
  have hr := run_copy_row (P := P) w dT sT ty e g o dLen dCap ⟨b, off, none⟩ sLen sCap cur.toArray T cs hu hs hg hlen hsrc (by simp only [List.size_toArray]; omega) (fun v hv => oneCell_iff.1 (List.all_eq_true.1 h1 v hv))
  have hrun : (execOp a.eval ⟨dst, .call ⟨.builtin .copy, #[x, y], #[dT, sT]⟩, ty, pos, after, none⟩).run P w = .ok (.value (vI (Nat.min sLen dLen))) (w.setRow g (cur.take o ++ cs ++ cur.drop (o + Nat.min sLen dLen)).toArray) := by
    simp only [execOp, resolve, Array.map, f.ev hx, f.ev hy, invoke, builtin]
    simp [execOp, resolve, f.ev hx, f.ev hy, invoke, builtin, hr, goInt, hlen]
  rw [hrun]
  have eq : (((Res.one g (.cells cur.toArray T (0, 0))).add (g3.add g4)).add hA).add hf = (Res.one g (.cells cur.toArray T (0, 0))).add (((g3.add g4).add hA).add hf) := by simp only [Res.add_assoc]
  rw [eq] at t'
  have djx : (Res.one g (.cells cur.toArray T (0, 0))).dj (((g3.add g4).add hA).add hf) := Res.dj_add_right.2 ⟨Res.dj_add_right.2 ⟨dg, d3⟩, d7⟩
  have t2 : Sat (w.setRow g (cur.take o ++ cs ++ cur.drop (o + Nat.min sLen dLen)).toArray) M ((Res.one g (.cells (cur.take o ++ cs ++ cur.drop (o + Nat.min sLen dLen)).toArray T (0, 0))).add (((g3.add g4).add hA).add hf)) :=
    Sat.setBlk djx t' (setRow_heap w g cur.toArray _ T _ hg) (fun j hj => setRow_other w g j _ (fun x => hj x)) ⟨rfl, rfl, rfl, by simp [World.setRow]⟩
  have djn := dj_one_any (o' := .cells (cur.take o ++ cs ++ cur.drop (o + Nat.min sLen dLen)).toArray T (0, 0)) djx
  obtain ⟨y1, y2⟩ := Res.dj_add_right.1 djn
  obtain ⟨y3, y4⟩ := Res.dj_add_right.1 y1
  refine ⟨(), M, (Res.one g (.cells (cur.take o ++ cs ++ cur.drop (o + Nat.min sLen dLen)).toArray T (0, 0))).add (g3.add g4), rfl, trivial, Kn.le_refl _, Res.dj_add_left.2 ⟨y4, d4⟩, Res.dj_add_left.2 ⟨Res.dj_add_left.2 ⟨y2, d8⟩, d6⟩, ?_, _, g3.add g4, y3, rfl, rfl, g3, g4, dg2, rfl, hB, trivial⟩
  have eq2 : (((Res.one g (.cells (cur.take o ++ cs ++ cur.drop (o + Nat.min sLen dLen)).toArray T (0, 0))).add (g3.add g4)).add hA).add hf = (Res.one g (.cells (cur.take o ++ cs ++ cur.drop (o + Nat.min sLen dLen)).toArray T (0, 0))).add (((g3.add g4).add hA).add hf) := by simp only [Res.add_assoc]
  rw [eq2]; exact t2
theorem wrap_u8 (x : Int) : IntKind.i64.wrap (IntKind.u8.wrap x) = IntKind.u8.wrap x := by
  have h : IntKind.u8.wrap x = x % 256 := by simp [IntKind.wrap_u8]
  exact i64_in' (by rw [h]; omega)
theorem u8_in' {m : Int} (h : 0 ≤ m ∧ m ≤ 255) : IntKind.u8.wrap m = m := IntWalk.u8_in m h
theorem pv_addu {x y : Operand} {i j : Int} {t yt : TypeId} (hx : ev L x = some (vU i)) (hy : ev L y = some (vU j)) (h : 0 ≤ i + j ∧ i + j ≤ 255) :
    PV P n L (.binOp .add t x y yt) ty (vU (i + j)) := by have := pv_addw (P := P) (n := n) (ty := ty) (t := t) (yt := yt) hx hy; rw [u8_in' h] at this; exact this
theorem pv_subu {x y : Operand} {i j : Int} {t yt : TypeId} (hx : ev L x = some (vU i)) (hy : ev L y = some (vU j)) (h : 0 ≤ i - j ∧ i - j ≤ 255) :
    PV P n L (.binOp .sub t x y yt) ty (vU (i - j)) := by have := pv_subw (P := P) (n := n) (ty := ty) (t := t) (yt := yt) hx hy; rw [u8_in' h] at this; exact this
theorem pv_indexm {x y : Operand} {l : List UInt8} {k : IntKind} {i : Int} {m : Nat} {t : TypeId} (ht : P.underlying t = some .string) (hx : ev L x = some (vS l)) (hy : ev L y = some (.int k i)) (hm : i = (m : Int)) (h : m < l.length) : PV P n L (.index t x y) ty (vU ((l.getD m 0).toNat : Int)) := by
  subst hm
  have := pv_index (P := P) (n := n) (ty := ty) ht hx hy (by omega) (by omega)
  simpa using this
theorem pv_slice_tom {x y : Operand} {l : List UInt8} {k : IntKind} {i : Int} {m : Nat} {t : TypeId} (ht : P.underlying t = some .string) (hx : ev L x = some (vS l)) (hy : ev L y = some (.int k i)) (hm : i = (m : Int)) (h : m ≤ l.length) :
    PV P n L (.slice t x none (some y) none) ty (vS (l.take m)) := by
  subst hm
  have := pv_slice_to (P := P) (n := n) (ty := ty) ht hx hy (by omega) (by omega)
  simpa using this
theorem pv_slice_fromm {x y : Operand} {l : List UInt8} {k : IntKind} {i : Int} {m : Nat} {t : TypeId} (ht : P.underlying t = some .string) (hx : ev L x = some (vS l)) (hy : ev L y = some (.int k i)) (hm : i = (m : Int)) (h : m ≤ l.length) :
    PV P n L (.slice t x (some y) none none) ty (vS (l.drop m)) := by
  subst hm
  have := pv_slice_from (P := P) (n := n) (ty := ty) ht hx hy (by omega) (by omega)
  simpa using this
theorem pv_slice_inm {x y z : Operand} {l : List UInt8} {k k' : IntKind} {i j : Int} {m o : Nat} {t : TypeId} (ht : P.underlying t = some .string) (hx : ev L x = some (vS l)) (hy : ev L y = some (.int k i)) (hz : ev L z = some (.int k' j)) (hm : i = (m : Int)) (ho : j = (o : Int)) (h1 : m ≤ o) (h : o ≤ l.length) :
    PV P n L (.slice t x (some y) (some z) none) ty (vS ((l.drop m).take (o - m))) := by
  subst hm; subst ho
  have := pv_slice_in (P := P) (n := n) (ty := ty) ht hx hy hz (by omega) (by omega) (by omega)
  have e : ((o : Int) - (m : Int)).toNat = o - m := by omega
  rw [e] at this
  simpa using this
theorem pv_slslice_fromm {x y : Operand} {a : Option Addr} {len cap m kk : Nat} {k : IntKind} {i : Int} {t e : TypeId} {ti : TypeInfo} {sz : Nat} (ht : P.underlying t = some (.slice e)) (hi : P.info? e = some ti) (hsz : ti.size = sz) (hx : ev L x = some (.slice a len cap)) (hy : ev L y = some (.int k i)) (hm : i = (m : Int)) (hk : m * sz = kk) (h : m ≤ len) (hc : m < cap) (ha : ∀ b, a = some b → b.spot = none) :
    PV P n L (.slice t x (some y) none none) ty (.slice (elemA a kk) (len - m) (cap - m)) := by
  subst hm
  have := pv_slslice_from (P := P) (n := n) (ty := ty) ht hi hx hy (by omega) (by omega)
  rw [Int.toNat_natCast, if_neg (by omega), hsz, hk] at this
  have e1 : Option.map (fun x : Addr => x.add kk) a = elemA a kk := by
    cases a with
    | none => rfl
    | some b =>
      obtain ⟨b, o, s⟩ := b
      have : s = none := ha _ rfl
      subst this
      simp [elemA, addr_add]
  rw [e1] at this
  exact this
theorem pv_slslice_tom {x y : Operand} {b : Option Addr} {len cap m : Nat} {k : IntKind} {i : Int} {t e : TypeId} {ti : TypeInfo} (ht : P.underlying t = some (.slice e)) (hi : P.info? e = some ti) (hx : ev L x = some (.slice b len cap)) (hy : ev L y = some (.int k i)) (hm : i = (m : Int)) (h : m ≤ cap) :
    PV P n L (.slice t x none (some y) none) ty (.slice b m cap) := by
  subst hm
  have := pv_slslice_to (P := P) (n := n) (ty := ty) ht hi hx hy (by omega) (by omega)
  simpa using this
theorem vI_eq {a b : Int} (h : a = b) : some (vI a) = some (vI b) := by rw [h]
theorem ent_true : Ent Hs (Pu True :: Hs) := ⟨fun {M h} s => ⟨Res.emp, h, Res.emp_dj _, rfl, trivial, s⟩⟩
end
end Go.Proofs.Ytimafngkifakfaa

/- Storing into a row's elements; reading, in a region that draws, what the region turns. -/
namespace Go.Proofs.Ytimafngkifakfaa
class RowAC (a : Option Addr) (e sz n' c' n : outParam Nat) (xs : outParam (List Value)) (Hs : List HP) (Rs : outParam (List HP)) : Prop where
  get : Pick (Row e sz (.slice a n' c') n xs) Hs Rs
instance (priority := 1000) {a : Option Addr} {e sz n' c' n : Nat} {xs : List Value} {r : List HP} : RowAC a e sz n' c' n xs (Row e sz (.slice a n' c') n xs :: r) r := ⟨.here⟩
instance (priority := 100) {a : Option Addr} {e sz n' c' n : Nat} {xs : List Value} {B : HP} {r s : List HP} [h : RowAC a e sz n' c' n xs r s] : RowAC a e sz n' c' n xs (B :: r) (B :: s) := ⟨.there h.get⟩
instance (priority := 900) {a : Option Addr} {e sz n' c' n : Nat} {xs : List Value} {B B' C : List HP} [h : RowAC a e sz n' c' n xs B B'] : RowAC a e sz n' c' n xs (B ++ C) (B' ++ C) := ⟨pick_left h.get⟩
instance (priority := 800) {a : Option Addr} {e sz n' c' n : Nat} {xs : List Value} {B C C' : List HP} [h : RowAC a e sz n' c' n xs C C'] : RowAC a e sz n' c' n xs (B ++ C) (B ++ C') := ⟨pick_right h.get⟩

class MapPC (b : Nat) (ks : outParam Ks) (Hs : List HP) (Rs : outParam (List HP)) : Prop where
  get : Pick (MapS b ks) Hs Rs
instance (priority := 1000) {b : Nat} {ks : Ks} {r : List HP} : MapPC b ks (MapS b ks :: r) r := ⟨.here⟩
instance (priority := 100) {b : Nat} {ks : Ks} {B : HP} {r s : List HP} [h : MapPC b ks r s] : MapPC b ks (B :: r) (B :: s) := ⟨.there h.get⟩
instance (priority := 900) {b : Nat} {ks : Ks} {B B' C : List HP} [h : MapPC b ks B B'] : MapPC b ks (B ++ C) (B' ++ C) := ⟨pick_left h.get⟩
instance (priority := 800) {b : Nat} {ks : Ks} {B C C' : List HP} [h : MapPC b ks C C'] : MapPC b ks (B ++ C) (B ++ C') := ⟨pick_right h.get⟩

section
variable {r : Option Nat} {P : Program} {n : Nat} {ops : Array Oper} {os : List Oper} {A : List HP} {L : Loc} {Hs : List HP} {Q : Out} {ty : TypeId} {d : Nat} {pos : String} {after : Array Edge} {c : Code}

theorem setAt_take : ∀ (vs l : List Value) (k m : Nat), k + vs.length ≤ m → (setAt l k vs).take m = setAt (l.take m) k vs := by
  intro vs
  induction vs with
  | nil => intros; rfl
  | cons v vs ih =>
    intro l k m h
    simp only [List.length_cons] at h
    simp only [setAt]
    rw [ih _ _ _ (by omega), List.take_set]
theorem opt_estorea {t : TypeId} {ti : TypeInfo} {x y : Operand} {a : Option Addr} {e sz n' c' k m : Nat} {xs vs : List Value} (hi : P.info? t = some ti) (hs : Nat.beq ti.size vs.length = true) (hv : 0 < vs.length)
    (hx : ev L x = some (.pointer (elemA a m))) {u : Value} (hy : ev L y = some u) (hu : u.cells.toList = vs) (h1 : vs.all oneCell = true) (hm : m + vs.length ≤ xs.length) :
    OpT r P n ⟨none, .store t x y, ty, pos, after, none⟩ A L [Row e sz (.slice a n' c') k xs] (fun _ : Unit => undef) (fun _ => True) (fun _ => [Row e sz (.slice a n' c') k (setAt xs m vs)]) := by
  refine opt_turn (fun ac f w M h1' hf dj tt hr => ?_)
  rcases hr with ⟨_, _, e1⟩ | ⟨g, cap, cur, e1, e2, e3, e4, e5, e6, e7⟩
  · rw [e1, List.length_nil] at hm; omega
  · cases e1
    subst e7
    have hb : w.heap[g]? = some (.cells cur.toArray e (0, 0)) := tt.ow _ _ (by simp [Res.add, Res.one])
    have hcl : (cur.take (n' * sz)).length = n' * sz := by rw [e6, e5]
    have hcm : n' * sz ≤ cur.length := by rw [List.length_take] at hcl; omega
    obtain ⟨w', hr, hb', ho', he'⟩ := run_storeCells_ce (P := P) vs w cur (0 + m) 0 hb h1 (by omega)
    have hsz : ti.size = vs.length := Nat.eq_of_beq_eq_true hs
    refine ⟨w', Res.one g (.cells (setAt cur m vs).toArray e (0, 0)), dj_one_any dj, Sat.setBlk dj tt (by simpa using hb') ho' he', .inr ⟨g, c', setAt cur m vs, rfl, e2, e3, by rw [length_setAt]; exact e4, by rw [length_setAt]; exact e5, ?_, rfl⟩, .inr ⟨?_, rfl⟩⟩
    · rw [setAt_take _ _ _ _ (by omega), e6]
    · have hcs : u.cells = vs.toArray := by rw [← hu]
      simp [execOp, f.ev hx, f.ev hy, elemA, Instr.storeAt, Instr.sureAddr, storeVar, hcs, sizeOf, typeInfo, program, Sem.run, hi, hsz]
      have hr' : (storeCells ⟨g, m, none⟩ vs).run P w = .ok () w' := by simpa using hr
      rw [hr']; rfl
theorem opt_estore {t : TypeId} {ti : TypeInfo} {x y : Operand} {a : Option Addr} {e sz n' c' k m : Nat} {xs : List Value} (hi : P.info? t = some ti) (hs : Nat.beq ti.size 1 = true)
    (hx : ev L x = some (.pointer (elemA a m))) {v : Value} (hy : ev L y = some v) (h1 : oneCell v = true) (hm : m < xs.length) :
    OpT r P n ⟨none, .store t x y, ty, pos, after, none⟩ A L [Row e sz (.slice a n' c') k xs] (fun _ : Unit => undef) (fun _ => True) (fun _ => [Row e sz (.slice a n' c') k (xs.set m v)]) := by
  have hc : v.cells.toList = [v] := by cases v <;> simp_all [Value.cells, oneCell]
  have := opt_estorea (r := r) (n := n) (A := A) (ty := ty) (pos := pos) (after := after) (e := e) (sz := sz) (n' := n') (c' := c') (k := k) (xs := xs) (m := m) (vs := [v]) hi hs (by simp) hx hy hc (by simp [h1]) (by simp only [List.length_singleton]; omega)
  exact this
theorem r_estore {t : TypeId} {ti : TypeInfo} {x y : Operand} {a : Option Addr} {e sz n' c' k m : Nat} {xs : List Value} {Rs : List HP} (hi : P.info? t = some ti) (hs : Nat.beq ti.size 1 = true)
    (hx : ev L x = some (.pointer (elemA a m))) {v : Value} (hy : ev L y = some v) [hp : RowAC a e sz n' c' k xs Hs Rs] (h1 : oneCell v = true) (hm : m < xs.length)
    (K : wo r P n ops os L (Row e sz (.slice a n' c') k (xs.set m v) :: Rs) Q) : wo r P n ops (⟨none, .store t x y, ty, pos, after, none⟩ :: os) L Hs Q := by
  haveI : PicksC [Row e sz (.slice a n' c') k xs] Hs Rs := ⟨.cons hp.get .nil⟩
  exact wo_opT (by intro c; simp) (opt_estore hi hs hx hy h1 hm) rfl (fun _ _ => K)
theorem an_estore {K : Loc → List HP → Prop} {t : TypeId} {ti : TypeInfo} {x y : Operand} {a : Option Addr} {e sz n' c' k m : Nat} {xs : List Value} {Rs : List HP} (hi : P.info? t = some ti) (hs : Nat.beq ti.size 1 = true)
    (hx : ev L x = some (.pointer (elemA a m))) {v : Value} (hy : ev L y = some v) [hp : RowAC a e sz n' c' k xs Hs Rs] (h1 : oneCell v = true) (hm : m < xs.length)
    (k' : K L (Row e sz (.slice a n' c') k (xs.set m v) :: Rs)) : AnOp r P n ops A ⟨none, .store t x y, ty, pos, after, none⟩ K L Hs := by
  haveI : PicksC [Row e sz (.slice a n' c') k xs] Hs Rs := ⟨.cons hp.get .nil⟩
  exact an_opT (opt_estore hi hs hx hy h1 hm) rfl (fun _ _ => k')
theorem r_estorea {t : TypeId} {ti : TypeInfo} {x y : Operand} {a : Option Addr} {e sz n' c' k m : Nat} {xs vs : List Value} {Rs : List HP} (hi : P.info? t = some ti) (hs : Nat.beq ti.size vs.length = true) (hv : 0 < vs.length)
    (hx : ev L x = some (.pointer (elemA a m))) (hy : ev L y = some (.agg vs.toArray)) [hp : RowAC a e sz n' c' k xs Hs Rs] (h1 : vs.all oneCell = true) (hm : m + vs.length ≤ xs.length)
    (K : wo r P n ops os L (Row e sz (.slice a n' c') k (setAt xs m vs) :: Rs) Q) : wo r P n ops (⟨none, .store t x y, ty, pos, after, none⟩ :: os) L Hs Q := by
  haveI : PicksC [Row e sz (.slice a n' c') k xs] Hs Rs := ⟨.cons hp.get .nil⟩
  exact wo_opT (by intro c; simp) (opt_estorea hi hs hv hx hy rfl h1 hm) rfl (fun _ _ => K)

/-! Appending. -/
theorem r_append1 {t e : TypeId} {x y : Operand} {i : TypeInfo} {z : Value} (ht : P.underlying t = some (.slice e)) (hi : P.info? e = some i) (hz : i.zero = some z) (hzs : Nat.beq z.cells.size i.size = true) {sz : Nat} (hsz : i.size = sz) (hs0 : Nat.blt 0 sz = true) {bytes : Nat} (hby : i.bytes = bytes)
    {v : Value} {k : Nat} {xs : List Value} {b m c T : Nat} {l : List Value} {R1 R2 : List HP} (hx : ev L x = some v) (hy : ev L y = some (.slice (some ⟨b, 0, none⟩) m c)) [h1 : RowC v e sz k xs Hs R1] [h2 : OwnC b T l R1 R2]
    (hl : l.length = m * sz) (ho : l.all oneCell = true) (hbytes : (k + m) * bytes ≤ 140737488355328) (h63 : k + m ≤ maxLen) (hd : Nat.blt d n = true)
    (K : ∀ a' c', wo r P n ops os ((d, .slice a' (k + m) c') :: L) (Row e sz (.slice a' (k + m) c') (k + m) (xs ++ l) :: R2) Q) : wo r P n ops (⟨some d, .call ⟨.builtin .append, #[x, y], #[t, t]⟩, ty, pos, after, none⟩ :: os) L Hs Q := by
  haveI : PicksC [Row e sz v k xs, Ce b T l] Hs R2 := ⟨.cons h1.get (.cons h2.get .nil)⟩
  refine wo_opT (by intro c; simp) (opt_append ht hi hz hzs hsz hs0 hby hx hy (shows_ce (T := T)) hl (by rw [List.drop_zero, ← hl, List.take_length]) ho hbytes h63 (xs := xs)) (by simpa [dstOk] using hd) (fun v' ⟨a', c', h'⟩ => ?_)
  subst h'
  refine wo_ent' (Gs := Row e sz (.slice a' (k + m) c') (k + m) (xs ++ l) :: R2) ⟨fun s => ?_⟩ (K a' c')
  obtain ⟨g1, g2, dd, e1, hr, s2⟩ := s
  obtain ⟨q1, q2, dq, eq, _, s3⟩ := s2
  refine ⟨g1, g2, dd, e1, hr, ?_⟩
  rw [eq]; exact SL.more dq s3
theorem an_append1 {K : Loc → List HP → Prop} {t e : TypeId} {x y : Operand} {i : TypeInfo} {z : Value} (ht : P.underlying t = some (.slice e)) (hi : P.info? e = some i) (hz : i.zero = some z) (hzs : Nat.beq z.cells.size i.size = true) {sz : Nat} (hsz : i.size = sz) (hs0 : Nat.blt 0 sz = true) {bytes : Nat} (hby : i.bytes = bytes)
    {v : Value} {k : Nat} {xs : List Value} {b m c T : Nat} {l : List Value} {R1 R2 : List HP} (hx : ev L x = some v) (hy : ev L y = some (.slice (some ⟨b, 0, none⟩) m c)) [h1 : RowC v e sz k xs Hs R1] [h2 : OwnC b T l R1 R2]
    (hl : l.length = m * sz) (ho : l.all oneCell = true) (hbytes : (k + m) * bytes ≤ 140737488355328) (h63 : k + m ≤ maxLen) (hd : Nat.blt d n = true)
    (k' : ∀ a' c', K ((d, .slice a' (k + m) c') :: L) (Row e sz (.slice a' (k + m) c') (k + m) (xs ++ l) :: Ce b T l :: R2)) : AnOp r P n ops A ⟨some d, .call ⟨.builtin .append, #[x, y], #[t, t]⟩, ty, pos, after, none⟩ K L Hs := by
  haveI : PicksC [Row e sz v k xs, Ce b T l] Hs R2 := ⟨.cons h1.get (.cons h2.get .nil)⟩
  refine an_opT (opt_append ht hi hz hzs hsz hs0 hby hx hy (shows_ce (T := T)) hl (by rw [List.drop_zero, ← hl, List.take_length]) ho hbytes h63 (xs := xs)) (by simpa [dstOk] using hd) (fun v' ⟨a', c', h'⟩ => ?_)
  subst h'
  exact k' a' c'
/-- Something that lets a slice be read, taken out. -/
class PickSl (a : Option Addr) (news : outParam (List Value)) (B : outParam HP) (Hs : List HP) (Rs : outParam (List HP)) : Prop where
  sla : SlA B a news
  get : Pick B Hs Rs
instance (priority := 1000) {a : Option Addr} {xs : List Value} {r : List HP} : PickSl a xs (SlI a xs) (SlI a xs :: r) (SlI a xs :: r) := ⟨sla_sli, .keep (SlI.pers a xs)⟩
instance (priority := 1000) {e : TypeId} {sz k n c : Nat} {a : Option Addr} {xs : List Value} {r : List HP} : PickSl a xs (Row e sz (.slice a n c) k xs) (Row e sz (.slice a n c) k xs :: r) r := ⟨sla_row, .here⟩
instance (priority := 1000) {b : Nat} {T : TypeId} {l : List Value} {r : List HP} : PickSl (some ⟨b, 0, none⟩) l (Ce b T l) (Ce b T l :: r) r := ⟨sla_ce, .here⟩
instance (priority := 100) {a : Option Addr} {xs : List Value} {B C : HP} {r s : List HP} [h : PickSl a xs B r s] : PickSl a xs B (C :: r) (C :: s) := ⟨h.sla, .there h.get⟩
instance (priority := 900) {a : Option Addr} {xs : List Value} {A : HP} {B B' C : List HP} [h : PickSl a xs A B B'] : PickSl a xs A (B ++ C) (B' ++ C) := ⟨h.sla, pick_left h.get⟩
instance (priority := 800) {a : Option Addr} {xs : List Value} {A : HP} {B C C' : List HP} [h : PickSl a xs A C C'] : PickSl a xs A (B ++ C) (B ++ C') := ⟨h.sla, pick_right h.get⟩
theorem r_appendA {t e : TypeId} {x y : Operand} {i : TypeInfo} {z : Value} (ht : P.underlying t = some (.slice e)) (hi : P.info? e = some i) (hz : i.zero = some z) (hzs : Nat.beq z.cells.size i.size = true) {sz : Nat} (hsz : i.size = sz) (hs0 : Nat.blt 0 sz = true) {bytes : Nat} (hby : i.bytes = bytes)
    {v : Value} {k : Nat} {xs news : List Value} {a : Option Addr} {m c : Nat} {B : HP} {R1 R2 : List HP} (hx : ev L x = some v) (hy : ev L y = some (.slice a m c)) [h1 : RowC v e sz k xs Hs R1] [h2 : PickSl a news B R1 R2]
    (hl : news.length = m * sz) (ho : news.all oneCell = true) (hbytes : (k + m) * bytes ≤ 140737488355328) (h63 : k + m ≤ maxLen) (hd : Nat.blt d n = true)
    (K : ∀ a' c', wo r P n ops os ((d, .slice a' (k + m) c') :: L) (Row e sz (.slice a' (k + m) c') (k + m) (xs ++ news) :: B :: R2) Q) : wo r P n ops (⟨some d, .call ⟨.builtin .append, #[x, y], #[t, t]⟩, ty, pos, after, none⟩ :: os) L Hs Q := by
  haveI : PicksC [Row e sz v k xs, B] Hs R2 := ⟨.cons h1.get (.cons h2.get .nil)⟩
  refine wo_opT (by intro c; simp) (opt_appendA ht hi hz hzs hsz hs0 hby hx hy h2.sla hl ho hbytes h63 (xs := xs)) (by simpa [dstOk] using hd) (fun v' ⟨a', c', h'⟩ => ?_)
  subst h'
  exact K a' c'

/-! Reading as one of the things that happen. -/
theorem an_elemAddr {K : Loc → List HP → Prop} {t e : TypeId} {x y : Operand} {a : Option Addr} {k : IntKind} {i : Int} {m len cap kk : Nat} {ti : TypeInfo} {xs : List Value} {sz : Nat} (ht : P.underlying t = some (.slice e)) (hi : P.info? e = some ti) (hsz : ti.size = sz)
    (hx : ev L x = some (.slice a len cap)) (hy : ev L y = some (.int k i)) (hm : i = (m : Int)) (h : m < len) [hr : RdSl a xs Hs] (hne : 0 < xs.length) (hk : m * sz = kk) (hd : Nat.blt d n = true)
    (k' : K ((d, .pointer (elemA a kk)) :: L) Hs) : AnOp r P n ops A ⟨some d, .indexAddr t x y, ty, pos, after, none⟩ K L Hs := by
  obtain ⟨B, sh, hB⟩ := hr.get
  refine an_read hB hd (fun ac f w M h1 h2 hf t' le yy dst pos after guard => ?_) k'
  obtain ⟨g, off, rfl, _⟩ := sla_cell sh t' le yy (fun e => by rw [e] at hne; exact absurd hne (by simp))
  rw [run_elemAddr ht hi hsz f hx hy hm h w dst pos after guard, hk]
  rfl
theorem an_eload {K : Loc → List HP → Prop} {t : TypeId} {td : TypeDesc} {x : Operand} {a : Option Addr} {k : Nat} {xs : List Value} {v : Value} (ht : P.underlying t = some td) (hfl : flat td = true)
    (hx : ev L x = some (.pointer (elemA a k))) [hr : RdSl a xs Hs] (hv : xs[k]? = some v) (hd : Nat.blt d n = true)
    (k' : K ((d, v) :: L) Hs) : AnOp r P n ops A ⟨some d, .load t x, ty, pos, after, none⟩ K L Hs := by
  obtain ⟨B, sh, hB⟩ := hr.get
  have hlt := (List.getElem?_eq_some_iff.1 hv).1
  refine an_read hB hd (fun ac f w M h1 h2 hf t' le yy _ _ _ _ => ?_) k'
  obtain ⟨g, off, rfl, hc⟩ := sla_cell sh t' le yy (fun e => by rw [e] at hlt; exact absurd hlt (by simp))
  have h3 := hc k hlt
  rw [hv] at h3
  simp [execOp, f.ev hx, elemA, Instr.loadAt, Instr.sureAddr, loadVar, isAgg_flat ht hfl, run_load, h3]
theorem an_load {K : Loc → List HP → Prop} {t : TypeId} {td : TypeDesc} {x : Operand} {b off : Nat} {l : List Value} {v : Value} (ht : P.underlying t = some td) (hfl : flat td = true)
    (hx : ev L x = some (.pointer (some ⟨b, off, none⟩))) [hr : RdCe b l Hs] (hv : l[off]? = some v) (hd : Nat.blt d n = true)
    (k' : K ((d, v) :: L) Hs) : AnOp r P n ops A ⟨some d, .load t x, ty, pos, after, none⟩ K L Hs := by
  obtain ⟨B, sh, hB⟩ := hr.get
  refine an_read hB hd (fun ac f w M h1 h2 hf t' le yy _ _ _ _ => ?_) k'
  have hc := shows_cell sh t' le yy off
  rw [hv] at hc
  simp [execOp, f.ev hx, Instr.loadAt, Instr.sureAddr, loadVar, isAgg_flat ht hfl, run_load, hc]
theorem wo_frz (a : Option Addr) {e sz n' c' k : Nat} {xs : List Value} {Rs : List HP} [h : RowAC a e sz n' c' k xs Hs Rs] (K : wo r P n ops os L (SlI a xs :: Rs) Q) : wo r P n ops os L Hs Q := wo_freezeRow h.get K
theorem wc_frz (a : Option Addr) {e sz n' c' k : Nat} {xs : List Value} {Rs : List HP} [h : RowAC a e sz n' c' k xs Hs Rs] (K : wc r P n c L (SlI a xs :: Rs) Q) : wc r P n c L Hs Q := wc_freezeRow h.get K
theorem ent_app {As Rs Gs : List HP} [q : AppC As Rs Gs] (e : Ent Hs Gs) : Ent Hs (As ++ Rs) := by rw [q.get]; exact e
theorem tw_ent {e : Exit} {Gs : List HP} (h : Ent Hs Gs) (k : tw n Q e L Gs) : tw n Q e L Hs := fun a M x s => k a M x ⟨s.1, by
  obtain ⟨h1, h2, d, e', y, t⟩ := s.2
  exact ⟨h1, h2, d, e', y, h t⟩⟩
theorem wc_ent0 {Gs : List HP} (h : Ent Hs Gs) (k : wc r P n c L Gs Q) : wc r P n c L Hs Q := wc_ent' h k
theorem wc_no (h : ∀ {M : Kn} {x : Res}, SL Hs M x → False) : wc r P n c L Hs Q := fun a M x s => by
  obtain ⟨h1, h2, d, e', y, t⟩ := s.2
  exact (h t).elim
theorem ce_norm {b T T' : Nat} {l l' : List Value} {Rs : List HP} [q : OwnC b T' l Hs Rs] (hT : T' = T) (hl : l = l') : Ent Hs (Ce b T l' :: Rs) := by
  subst hT; subst hl; exact ent_pick1 q.get
theorem ce_norm1 {b T T' : Nat} {l l' : List Value} {Rs : List HP} [q : OwnC b T' l Hs Rs] (hT : T' = T) (hl : l = l') : Ent Hs [Ce b T l'] := (ce_norm hT hl).trans (ent_step (Ent.refl _) ent_nil)
/-! Maps that are turned. -/
theorem r_mapUpdate {t kt e : TypeId} {x y z : Operand} {b : Nat} {ks : Ks} {k : List UInt8} {v : Value} {Rs : List HP} (ht : P.underlying t = some (.map kt e)) (hk : P.underlying kt = some .string)
    (hx : ev L x = some (.map (some b))) (hy : ev L y = some (vS k)) (hz : ev L z = some v) [h : MapPC b ks Hs Rs] (K : wo r P n ops os L (MapS b (mput ks k v) :: Rs) Q) : wo r P n ops (⟨none, .mapUpdate t x y z, ty, pos, after, none⟩ :: os) L Hs Q := by
  haveI : PicksC [MapS b ks] Hs Rs := ⟨.cons h.get .nil⟩
  exact wo_opT (by intro c; simp) (opt_mapUpdate ht hk hx hy hz (ks := ks)) rfl (fun _ _ => K)
theorem an_mapUpdate {K : Loc → List HP → Prop} {t kt e : TypeId} {x y z : Operand} {b : Nat} {ks : Ks} {k : List UInt8} {v : Value} {Rs : List HP} (ht : P.underlying t = some (.map kt e)) (hk : P.underlying kt = some .string)
    (hx : ev L x = some (.map (some b))) (hy : ev L y = some (vS k)) (hz : ev L z = some v) [h : MapPC b ks Hs Rs] (k' : K L (MapS b (mput ks k v) :: Rs)) : AnOp r P n ops A ⟨none, .mapUpdate t x y z, ty, pos, after, none⟩ K L Hs := by
  haveI : PicksC [MapS b ks] Hs Rs := ⟨.cons h.get .nil⟩
  exact an_opT (opt_mapUpdate ht hk hx hy hz (ks := ks)) rfl (fun _ _ => k')
theorem r_delete {t kt e kt' : TypeId} {x y : Operand} {b : Nat} {ks : Ks} {k : List UInt8} {Rs : List HP} {dst : Option Tmp} (ht : P.underlying t = some (.map kt e)) (hk : P.underlying kt = some .string)
    (hx : ev L x = some (.map (some b))) (hy : ev L y = some (vS k)) [h : MapPC b ks Hs Rs] (hd : dstOk n dst = true) (K : wo r P n ops os (putL dst (.tuple #[]) L) (MapS b (mdel ks k) :: Rs) Q) : wo r P n ops (⟨dst, .call ⟨.builtin .delete, #[x, y], #[t, kt']⟩, ty, pos, after, none⟩ :: os) L Hs Q := by
  haveI : PicksC [MapS b ks] Hs Rs := ⟨.cons h.get .nil⟩
  exact wo_opT (by intro c; simp) (opt_delete ht hk hx hy (ks := ks)) hd (fun _ _ => K)
theorem an_delete {K : Loc → List HP → Prop} {t kt e kt' : TypeId} {x y : Operand} {b : Nat} {ks : Ks} {k : List UInt8} {Rs : List HP} {dst : Option Tmp} (ht : P.underlying t = some (.map kt e)) (hk : P.underlying kt = some .string)
    (hx : ev L x = some (.map (some b))) (hy : ev L y = some (vS k)) [h : MapPC b ks Hs Rs] (hd : dstOk n dst = true) (k' : K (putL dst (.tuple #[]) L) (MapS b (mdel ks k) :: Rs)) : AnOp r P n ops A ⟨dst, .call ⟨.builtin .delete, #[x, y], #[t, kt']⟩, ty, pos, after, none⟩ K L Hs := by
  haveI : PicksC [MapS b ks] Hs Rs := ⟨.cons h.get .nil⟩
  exact an_opT (opt_delete ht hk hx hy (ks := ks)) hd (fun _ _ => k')
theorem sl_eq {a : Option Addr} {m m' c : Nat} (h : m = m') : some (Value.slice a m c) = some (.slice a m' c) := by rw [h]
theorem vS_eq {l l' : List UInt8} (h : l = l') : some (vS l) = some (vS l') := by rw [h]
theorem vB_eq {b b' : Bool} (h : b = b') : some (vB b) = some (vB b') := by rw [h]
end
end Go.Proofs.Ytimafngkifakfaa

/- A place where several ways come together. -/
namespace Go.Proofs.Ytimafngkifakfaa
section
variable {r : Option Nat} {P : Program} {n : Nat} {L : Loc} {Hs : List HP} {Q : Out} {c : Code}
theorem p_cut {ι : Type} (Li : ι → Loc) (Hi : ι → List HP) (h : c = .seq (sA c) (sB c)) (k2 : ∀ i, wc r P n (sB c) (Li i) (Hi i) Q) (k1 : wc r P n (sA c) L Hs (invO n Li Hi (fun _ => True) Q)) : wc r P n c L Hs Q := by
  rw [h]
  intro a M m s w hf d t
  refine wpIn_seq (wpIn_mono (k1 a M m s w hf d t) ?_)
  rintro e a' w' ⟨M', h', l, d', t', q⟩
  cases e with
  | normal =>
    obtain ⟨j, _, sj⟩ := q
    exact wout_of (k2 j a' M' h' sj) l d' t'
  | _ => exact ⟨M', h', l, d', t', q⟩
end
section
variable {P : Program} {n : Nat} {L : Loc} {ty : TypeId}
theorem pv_and {x y : Operand} {k : IntKind} {i j : Int} {t yt : TypeId} (hx : ev L x = some (.int k i)) (hy : ev L y = some (.int k j)) :
    PV P n L (.binOp .and t x y yt) ty (.int k (bits .and k i j)) := pv_arith hx hy fun w => by simp [binOp, Op.intBits, bits]
theorem pv_or {x y : Operand} {k : IntKind} {i j : Int} {t yt : TypeId} (hx : ev L x = some (.int k i)) (hy : ev L y = some (.int k j)) :
    PV P n L (.binOp .or t x y yt) ty (.int k (bits .or k i j)) := pv_arith hx hy fun w => by simp [binOp, Op.intBits, bits]
theorem pv_xor {x y : Operand} {k : IntKind} {i j : Int} {t yt : TypeId} (hx : ev L x = some (.int k i)) (hy : ev L y = some (.int k j)) :
    PV P n L (.binOp .xor t x y yt) ty (.int k (bits .xor k i j)) := pv_arith hx hy fun w => by simp [binOp, Op.intBits, bits]
end
end Go.Proofs.Ytimafngkifakfaa

/- New blocks that never turn, in regions that draw their order: what is read of them is quiet. -/
namespace Go.Proofs.Ytimafngkifakfaa
section
variable {r : Option Nat} {P : Program} {n : Nat} {ops : Array Oper} {A : List HP} {L : Loc} {Hs : List HP} {Q : Out}
theorem opV_mono {R R' : Value → World → Prop} (h : ∀ v w, R v w → R' v w) {res : Result Next} (q : opV r P R res) : opV r P R' res := by
  unfold opV at q ⊢
  split at q
  · exact h _ _ q
  · exact h _ _ q
  · refine q.mono ?_
    rintro e w'' ⟨v, rfl, x⟩
    exact ⟨v, rfl, h _ _ x⟩
  · refine q.mono ?_
    rintro e w'' ⟨v, rfl, x⟩
    exact ⟨v, rfl, h _ _ x⟩
  · exact q.elim
theorem sl_pers {B : HP} (hB : Pers B) {As : List HP} {M : Kn} {h1 h : Res} (b : B.at_ M h1) (s : SL As M h) : SL (B :: As) M h := ⟨Res.emp, h, Res.emp_dj _, (Res.emp_add _).symm, hB b, s⟩
theorem ent_mid {B : HP} (hB : Pers B) : Ent (A ++ (B :: Hs)) ((B :: A) ++ Hs) := ⟨fun {M h} s => by
  obtain ⟨h1, h2, d, e, s1, s2⟩ := SL.split s
  obtain ⟨g1, g2, d', e', b, s3⟩ := s2
  subst e'; subst e
  refine sl_pers hB b ?_
  obtain ⟨d1, d2⟩ := Res.dj_add_right.1 d
  have := SL.append d (s1) (SL.more d' s3)
  exact this⟩
theorem d_known {B : HP} (hB : Pers B) : ∀ {k : Nat} {ls : Array Bool} {L : Loc} {Hs : List HP}, An r P n ops (B :: A) Q k ls L Hs → An r P n ops A Q k ls L (B :: Hs) := by
  intro k
  induction k with
  | zero =>
    intro ls L Hs h
    exact ⟨h.1, fun a M x s => h.2 a M x ⟨s.1, (by
      obtain ⟨g1, g2, d, e, y, t⟩ := s.2
      exact ⟨g1, g2, d, e, y, (ent_mid hB) t⟩)⟩⟩
  | succ k ih =>
    intro ls L Hs h
    refine ⟨fun e a M x s => h.1 e a M x ⟨s.1, (by
      obtain ⟨g1, g2, d, e, y, t⟩ := s.2
      exact ⟨g1, g2, d, e, y, (ent_mid hB) t⟩)⟩, fun i hi => ?_⟩
    obtain ⟨o, ho, hd, hop⟩ := h.2 i hi
    refine ⟨o, ho, hd, ?_⟩
    rcases hop with ⟨j, want, u, hg, hgd, hne, k'⟩ | ⟨hg, X, val, φ, As, Rs, Bs, he, ht, hk⟩
    · exact .inl ⟨j, want, u, hg, hgd, hne, ih k'⟩
    · refine .inr ⟨hg, X, val, φ, B :: As, Rs, fun x => B :: Bs x, ⟨fun s => ?_⟩, ?_, fun x hx => ih (hk x hx)⟩
      · obtain ⟨g1, g2, d, e, b, s⟩ := s
        exact ⟨g1, g2, d, e, b, he s⟩
      · intro a f w M h hA hf dj dj' s sA t
        obtain ⟨g1, g2, d, e, b, s⟩ := s
        have sx : SL As M h := by rw [e]; exact SL.more d s
        have := ht a f w M h hA hf dj dj' sx (sl_pers hB b sA) t
        refine opV_mono ?_ this
        rintro v w' ⟨x, M', h', e1, p, l, e2, e3, e4, e5⟩
        exact ⟨x, M', h', e1, p, l, e2, e3, e4, sl_pers hB (B.mono l b) e5⟩
/-- A new block that never turns any more. -/
theorem an_newI {k : Nat} {ls : Array Bool} {op : Op} {ty : TypeId} {d : Nat} {pos : String} {after : Array Edge} {e : TypeId} {cs : List Value} {val : Nat → Value} (hd : Nat.blt d n = true)
    (hrun : ∀ (a : Act), Fr n L a → ∀ (w : World) (dst : Option Tmp) (pos : String) (after : Array Edge) (guard : Option (Nat × Bool)),
      (execOp a.eval ⟨dst, op, ty, pos, after, guard⟩).run P w = .ok (.value (val w.heap.size)) (w.alloc (.cells cs.toArray e (0, 0))))
    (kk : ∀ b, An r P n ops (ICe b e cs :: A) Q k ls ((d, val b) :: L) Hs) : AnOp r P n ops A ⟨some d, op, ty, pos, after, none⟩ (fun L' Hs' => An r P n ops A Q k ls L' Hs') L Hs := by
  refine ⟨hd, .inr ⟨.inl rfl, Nat, val, fun _ => True, [], Hs, fun b => [ICe b e cs], Ent.refl _, ?_, fun b _ => d_known (Im.pers b _) (kk b)⟩⟩
  intro a fr w M h hA hf dj dj' s sA t
  rw [hrun a fr w]
  have t2 := t.alloc (.cells cs.toArray e (0, 0))
  obtain ⟨f1, f2⟩ := fresh_none t
  obtain ⟨M', l, him, t3⟩ := freeze_sat (one_dj f2) t2
  exact ⟨w.heap.size, M', h, rfl, trivial, l, dj, dj', t3, Res.emp, h, Res.emp_dj _, (Res.emp_add _).symm, him, trivial⟩
theorem an_buildSliceI {k : Nat} {ls : Array Bool} {t e ty : TypeId} {d : Nat} {pos : String} {after : Array Edge} {ti : TypeInfo} {z : Value} {len : Nat} {ps : List (Nat × Operand)} (vs : List Value) {cs : List Value} (ht : P.underlying t = some (.slice e)) (hi : P.info? e = some ti) (hz : ti.zero = some z) (hzs : Nat.beq z.cells.size ti.size = true)
    (hps : evps L ps = some (parts 0 vs)) (hlen : vs.length = len) (hv : vs.all (fun v => Nat.beq v.cells.size ti.size) = true) (hsm : Nat.ble (vs.length * ti.size) 16777216 = true) (hcs : vs.flatMap (·.cells.toList) = cs) (hd : Nat.blt d n = true)
    (kk : ∀ b, An r P n ops (ICe b e cs :: A) Q k ls ((d, .slice (some ⟨b, 0, none⟩) len len) :: L) Hs) : AnOp r P n ops A ⟨some d, .buildSlice t len ps.toArray, ty, pos, after, none⟩ (fun L' Hs' => An r P n ops A Q k ls L' Hs') L Hs := by
  subst hlen
  refine an_newI (val := fun b => .slice (some ⟨b, 0, none⟩) vs.length vs.length) hd (fun a f w _ _ _ _ => ?_) kk
  rw [← hcs]
  have e1 := f.evpsa hps
  have := run_buildSlice ht hi hz (Nat.eq_of_beq_eq_true hzs) (fun v hv' => Nat.eq_of_beq_eq_true (by have := List.all_eq_true.1 hv v hv'; simpa using this)) (Nat.le_of_ble_eq_true hsm) w
  simp only [execOp]
  rw [show (Array.map (fun x => match x with | (i, x) => (i, a.eval x)) ps.toArray) = (parts 0 vs).toArray from e1]
  simp [this]
theorem an_makeSliceI {k : Nat} {ls : Array Bool} {t e ty : TypeId} {d : Nat} {pos : String} {after : Array Edge} {x y : Operand} {i : TypeInfo} {z : Value} {m : Nat} (ht : P.underlying t = some (.slice e)) (hi : P.info? e = some i) (hz : i.zero = some z) (hz1 : z.cells = #[z]) (hsz : Nat.beq i.size 1 = true)
    (hx : ev L x = some (vI (m : Int))) (hy : ev L y = some (vI (m : Int))) (hm : m ≤ 9223372036854775807) (hb : (i.bytes : Int) * (m : Int) ≤ 281474976710656) (hd : Nat.blt d n = true)
    (kk : ∀ b, An r P n ops (ICe b e (List.replicate m z) :: A) Q k ls ((d, .slice (some ⟨b, 0, none⟩) m m) :: L) Hs) : AnOp r P n ops A ⟨some d, .makeSlice t x y, ty, pos, after, none⟩ (fun L' Hs' => An r P n ops A Q k ls L' Hs') L Hs := by
  have hs : i.size = 1 := Nat.eq_of_beq_eq_true hsz
  refine an_newI (val := fun b => .slice (some ⟨b, 0, none⟩) m m) hd (fun a f w _ _ _ _ => ?_) kk
  have hr := run_make (P := P) w t e i z ht hi hz .i64 .i64 m m (by omega) (Int.le_refl _) hb (by omega)
  have e1 : madeCells z.cells ((m : Int).toNat * i.size) = (List.replicate m z).toArray := by
    rw [hs, Nat.mul_one, Int.toNat_natCast, ← madeCells_one z hz1 m]
  rw [e1] at hr
  simp [execOp, f.ev hx, f.ev hy, hr]
theorem tl_b2s {s t e ty : TypeId} {dst : Option Tmp} {pos : String} {after : Array Edge} {x : Operand} {b len cap : Nat} {l : List UInt8} {m : List Value} (hs : P.underlying s = some (.slice e)) (ht : P.underlying t = some .string) (he : P.underlying e = some (.int .u8))
    (hx : ev L x = some (.slice (some ⟨b, 0, none⟩) len cap)) [hr : RdCe b m A] (hm : m.take len = vUs l) (hl : len ≤ m.length) : Tells P n ops ⟨dst, .convert s t x, ty, pos, after, none⟩ A L (vS l) := by
  obtain ⟨B, sh, hB⟩ := hr.get
  have hlen : l.length = len := by have := congrArg List.length hm; simp [vUs] at this; omega
  refine .inr ⟨.inl rfl, fun a f w M hA hf dj sA t' => ?_⟩
  have hc : ∀ j, j < l.length → w.cell? ⟨b, j, none⟩ = some (vU ((l.getD j 0).toNat : Int)) := fun j hj => by
    rw [shows_cell' sh hB sA t' j]
    have : (m.take len)[j]? = (vUs l)[j]? := by rw [hm]
    rw [List.getElem?_take_of_lt (by omega)] at this
    rw [this]; simp [vUs, hj]
  have hb := run_b2s (P := P) (cap := cap) hc hlen.symm
  simp [execOp, f.ev hx, convert, run_underlying hs, run_underlying ht, run_underlying he, hb]
end
end Go.Proofs.Ytimafngkifakfaa

/- Structs that are compared, cell by cell. -/
namespace Go.Proofs.Ytimafngkifakfaa
def okCells : List TypeDesc → List Value → List Value → Bool
  | [], [], [] => true
  | .int _ :: r, .int k _ :: xs, .int k' _ :: ys => decide (k = k') && okCells r xs ys
  | .bool :: r, .bool _ :: xs, .bool _ :: ys => okCells r xs ys
  | .string :: r, .string _ :: xs, .string _ :: ys => okCells r xs ys
  | _, _, _ => false
def eqCell : Value → Value → Bool
  | .int _ a, .int _ b => a == b
  | .bool a, .bool b => a == b
  | .string a, .string b => a.toList == b.toList
  | _, _ => false
def eqCells : List Value → List Value → Bool
  | [], [] => true
  | x :: xs, y :: ys => eqCell x y && eqCells xs ys
  | _, _ => false
section
variable {P : Program} {n : Nat} {L : Loc} {ty : TypeId}
theorem run_eqFields {w : World} (d : Nat) : ∀ (tds : List TypeDesc) (fs : List Field) (xs ys px py : List Value),
    fs.map (fun f => (P.underlying f.type, f.name == "_", f.offset)) = (tds.zipIdx px.length).map (fun (td, i) => (some td, false, i)) → px.length = py.length → okCells tds xs ys = true →
    (Op.eqFields (d + 1) (px ++ xs).toArray (py ++ ys).toArray fs).run P w = .ok (eqCells xs ys) w := by
  intro tds
  induction tds with
  | nil =>
    intro fs xs ys px py hf hl ho
    cases fs with
    | cons f fs => simp at hf
    | nil =>
      cases xs <;> cases ys <;> simp [okCells] at ho
      simp [Op.eqFields, eqCells]
  | cons td tds ih =>
    intro fs xs ys px py hf hl ho
    cases fs with
    | nil => simp at hf
    | cons f fs =>
      simp only [List.map_cons, List.zipIdx_cons, List.cons.injEq, Prod.mk.injEq] at hf
      obtain ⟨⟨hu, hn, hof⟩, hf⟩ := hf
      have hn' : f.name ≠ "_" := by
        intro e; rw [e] at hn; simp at hn
      cases xs with
      | nil => cases td <;> simp [okCells] at ho
      | cons x xs =>
      cases ys with
      | nil => cases td <;> cases x <;> simp [okCells] at ho
      | cons y ys =>
      have hfl : flat td = true ∧ okCells tds xs ys = true ∧ (Op.equalIn (d + 1) f.type x y).run P w = .ok (eqCell x y) w := by
        cases td <;> cases x <;> cases y <;> simp [okCells] at ho
        · exact ⟨rfl, ho, run_equalIn_bool' w d _ _ _ hu⟩
        · obtain ⟨e, ho⟩ := ho
          subst e
          exact ⟨rfl, ho, run_equalIn_int w d _ _ _ _ _ hu⟩
        · exact ⟨rfl, ho, run_equalIn_string w d _ _ _ hu⟩
      obtain ⟨h1, h2, h3⟩ := hfl
      have hp : ∀ (pz : List Value) (z : Value) (zs : List Value), pz.length = px.length → (part f.type (pz ++ z :: zs).toArray f.offset).run P w = .ok z w := by
        intro pz z zs hz
        rw [hof]
        simp [part, isAgg_flat hu h1, ← hz]
      have hx := hp px x xs rfl
      have hy := hp py y ys hl.symm
      simp only [Op.eqFields, hn', ne_eq, not_false_eq_true, if_true, Sem.run_bind, hx, hy, h3, Result.andThen_ok]
      have := ih fs xs ys (px ++ [x]) (py ++ [y]) (by rw [List.length_append, List.length_singleton]; exact hf) (by simp [hl]) h2
      simp only [List.append_assoc, List.singleton_append] at this
      cases hb : eqCell x y with
      | false => simp [eqCells, hb]
      | true => simp [eqCells, hb, this]
theorem pv_aeql {x y : Operand} {xs ys : List Value} {t yt : TypeId} {fs : Array Field} (tds : List TypeDesc) (ht : P.underlying t = some (.struct fs)) (hs : P.stoodInHeld t = false) (hg : P.eqGuardType P.depth t = false)
    (hf : fs.toList.map (fun f => (P.underlying f.type, f.name == "_", f.offset)) = tds.zipIdx.map (fun (td, i) => (some td, false, i))) (hx : ev L x = some (.agg xs.toArray)) (hy : ev L y = some (.agg ys.toArray)) (hc : okCells tds xs ys = true) :
    PV P n L (.binOp .eql t x y yt) ty (.bool (eqCells xs ys)) :=
  pv_vv hx hy (fun w => run_eqGuard_agg _ _ _ _ _ _ _ hg) fun w => by
    have hfo : P.fieldsOf t = fs := by simp [Program.fieldsOf, ht]
    have := run_eqFields (P := P) (w := w) 9998 tds fs.toList xs ys [] [] hf rfl hc
    rw [run_eql_struct, show (10000 : Nat) = 9999 + 1 from rfl, run_equalIn_agg w 9999 t _ _ (by rw [hfo]; exact ht) hs, hfo]
    simp only [List.nil_append] at this
    rw [this]; rfl
theorem pv_aneq {x y : Operand} {xs ys : List Value} {t yt : TypeId} {fs : Array Field} (tds : List TypeDesc) (ht : P.underlying t = some (.struct fs)) (hs : P.stoodInHeld t = false) (hg : P.eqGuardType P.depth t = false)
    (hf : fs.toList.map (fun f => (P.underlying f.type, f.name == "_", f.offset)) = tds.zipIdx.map (fun (td, i) => (some td, false, i))) (hx : ev L x = some (.agg xs.toArray)) (hy : ev L y = some (.agg ys.toArray)) (hc : okCells tds xs ys = true) :
    PV P n L (.binOp .neq t x y yt) ty (.bool (!eqCells xs ys)) :=
  pv_vv hx hy (fun w => run_eqGuard_agg _ _ _ _ _ _ _ hg) fun w => by
    have hfo : P.fieldsOf t = fs := by simp [Program.fieldsOf, ht]
    have := run_eqFields (P := P) (w := w) 9998 tds fs.toList xs ys [] [] hf rfl hc
    rw [run_neq_struct, show (10000 : Nat) = 9999 + 1 from rfl, run_equalIn_agg w 9999 t _ _ (by rw [hfo]; exact ht) hs, hfo]
    simp only [List.nil_append] at this
    rw [this]; rfl
theorem eqCell_s (a b : List UInt8) : eqCell (vS a) (vS b) = decide (a = b) := by simp [eqCell, mk_toList, lbeq]
end
end Go.Proofs.Ytimafngkifakfaa

/- Arguments of a law, as they lie in memory. -/
namespace Go.Proofs.Ytimafngkifakfaa
/-- The memory as it is when the law begins. -/
abbrev kn (w : World) : Kn := ⟨fun b => w.heap[b]?, w⟩
abbrev At (w : World) (A : HP) : Prop := A.at_ (kn w) Res.emp
section
variable {H : Type} {enc : TypeId × Value → H} {P : Program} {w : World} {spare : Nat → Bool} {held : Bool} {fuel : Nat} {t e : TypeId} {cs : List Value} {x : DataW H × List MemPlace}
theorem cell_block {a : Addr} {v : Value} (h : w.cell? a = some v) : ∃ c T fz, w.heap[a.block]? = some (.cells c T fz) ∧ a.spot = none ∧ c[a.off]? = some v := by
  unfold World.cell? at h
  split at h
  · rename_i c T fz hb
    split at h
    · cases h
    · rename_i hs
      refine ⟨c, T, fz, hb, ?_, h⟩
      cases hq : a.spot with
      | none => rfl
      | some s => rw [hq] at hs; simp at hs
  · cases h
theorem addr_zero (a : Addr) : a.add 0 = a := rfl
theorem od_slice (ht : P.underlying t = some (.slice e)) (hc : 0 < P.cellsOf e) (h : DataW.trod enc P w 0 spare held fuel t cs = some x) :
    ∃ (a : Option Addr) (n c : Nat) (css : List (List Value)), cs = [.slice a n c] ∧ css.length = n ∧ n ≤ 9223372036854775807 ∧ At w (SlI a css.flatten) ∧ ∀ u ∈ css, u.length = P.cellsOf e ∧ ∃ m y, DataW.trod enc P w 0 spare held m e u = some y := by
  rcases DataW.trod_slice ht h with ⟨rfl, _⟩ | ⟨a, len, cap, elems, rest, n, _, rfl, _, hb, hl, hm, hlen, hel, _, _⟩
  · exact ⟨none, 0, 0, [], rfl, rfl, by omega, .inl rfl, by simp⟩
  · have hsz : ∃ sz, P.cellsOf e = sz := ⟨_, rfl⟩
    obtain ⟨sz, hsz⟩ := hsz
    rw [hsz] at hel hc
    let f : Nat → List Value := fun i => (List.range sz).map fun j => (w.cell? ((a.add (i * sz)).add j)).getD undef
    have hf : ∀ i, (f i).length = sz := fun i => by simp [f]
    have key : ∀ i, i < len → w.cells? 0 (a.add (i * sz)) sz = some (f i) ∧ (∃ y, DataW.trod enc P w 0 spare held n e (f i) = some y) ∧ ∀ j, j < sz → w.cell? ((a.add (i * sz)).add j) = (f i)[j]? := by
      intro i hi
      have h1 := hel i hi
      have h2 : elems[i]? = some elems[i] := List.getElem?_eq_getElem (by omega)
      rw [h2, Option.bind_eq_some_iff] at h1
      obtain ⟨u, hu, hy⟩ := h1
      obtain ⟨_, hul, huc⟩ := World.cells?_some hu
      have e1 : u = f i := by
        apply List.ext_getElem?
        intro j
        by_cases hj : j < sz
        · have h3 := huc j hj
          have h4 : u[j]? = some (u[j]'(by omega)) := List.getElem?_eq_getElem (by omega)
          simp only [f, List.getElem?_map, List.getElem?_range hj, Option.map_some, h3, h4, Option.getD_some]
        · rw [List.getElem?_eq_none (by omega), List.getElem?_eq_none (by rw [hf]; omega)]
      subst e1
      exact ⟨hu, ⟨_, hy⟩, huc⟩
    have hm' : len ≤ 9223372036854775807 := by
      have : maxLen = 9223372036854775807 := by decide
      omega
    refine ⟨some a, len, cap, (List.range len).map f, rfl, by simp, hm', ?_, ?_⟩
    · by_cases h0 : len = 0
      · subst h0; exact .inl rfl
      · right
        have c0 := (key 0 (by omega)).2.2 0 hc
        have c1 : (f 0)[0]? = some ((f 0)[0]'(by rw [hf]; exact hc)) := List.getElem?_eq_getElem _
        rw [c1, Nat.zero_mul, addr_zero, addr_zero] at c0
        obtain ⟨c, T, fz, hblk, hsp, _⟩ := cell_block c0
        obtain ⟨g, off, sp⟩ := a
        dsimp only at hsp hblk
        subst hsp
        refine ⟨g, off, c.toList, T, fz, rfl, by simpa using hblk, ?_⟩
        apply List.ext_getElem?
        intro k
        have hfl : ((List.range len).map f).flatten = (List.range len).flatMap f := by rw [List.flatMap_def]
        rw [hfl]
        have hlenf : ((List.range len).flatMap f).length = len * sz := by rw [flat_len hf, List.length_range]
        rw [hlenf]
        by_cases hk : k < len * sz
        · have hi : k / sz < len := Nat.div_lt_of_lt_mul (by rw [Nat.mul_comm]; exact hk)
          have hj : k % sz < sz := Nat.mod_lt _ hc
          have hkk : k / sz * sz + k % sz = k := by rw [Nat.mul_comm]; exact Nat.div_add_mod k sz
          have h3 := get_flat (f := f) (sz := sz) hf (l := List.range len) (m := k / sz) (by simpa using hi)
          have h4 : ((List.range len).flatMap f)[k]? = (f (k / sz))[k % sz]? := by
            have := congrArg (fun l => l[k % sz]?) h3
            simp only [List.getElem?_take, hj, if_true, List.getElem?_drop, hkk, List.getElem_range] at this
            exact this
          have h5 := (key (k / sz) hi).2.2 (k % sz) hj
          rw [h4, ← h5, List.getElem?_take_of_lt hk, List.getElem?_drop, addr_add, addr_add]
          simp only [World.cell?, hblk]
          have e5 : off + k / sz * sz + k % sz = off + k := by omega
          simp [e5]
        · rw [List.getElem?_eq_none (by rw [List.length_take]; omega), List.getElem?_eq_none (by omega)]
    · intro u hu
      simp only [List.mem_map, List.mem_range] at hu
      obtain ⟨i, hi, rfl⟩ := hu
      refine ⟨by rw [hf, hsz], n, (key i hi).2.1⟩
theorem od_field {fs : Array Field} (ht : P.underlying t = some (.struct fs)) (h : DataW.trod enc P w 0 spare held fuel t cs = some x) (i ft off sz : Nat) (hf : (fs[i]?).map (fun f => (f.type, f.offset)) = some (ft, off)) (hs : P.cellsOf ft = sz) :
    ∃ m y, DataW.trod enc P w 0 spare held m ft ((cs.drop off).take sz) = some y := by
  obtain ⟨xs, n, _, _, _, hl, hx⟩ := DataW.trod_struct ht h
  cases hfi : fs[i]? with
  | none => rw [hfi] at hf; cases hf
  | some f =>
    rw [hfi] at hf
    simp only [Option.map_some, Option.some.injEq, Prod.mk.injEq] at hf
    obtain ⟨rfl, rfl⟩ := hf
    have h1 := hx i f hfi
    have hi := (Array.getElem?_eq_some_iff.1 hfi).1
    rw [List.getElem?_eq_getElem (by omega)] at h1
    rw [← hs]
    exact ⟨n, _, h1⟩
theorem od_len {fs : Array Field} (ht : P.underlying t = some (.struct fs)) (h : DataW.trod enc P w 0 spare held fuel t cs = some x) : cs.length = P.cellsOf t := by
  obtain ⟨xs, n, _, _, hl, _⟩ := DataW.trod_struct ht h
  exact hl
theorem list_map_of {α : Type} {f : α → List Value} {css : List (List Value)} (h : ∀ u ∈ css, ∃ a, u = f a) : ∃ l : List α, css = l.map f := by
  induction css with
  | nil => exact ⟨[], rfl⟩
  | cons u r ih =>
    obtain ⟨a, rfl⟩ := h u (by simp)
    obtain ⟨l, rfl⟩ := ih fun v hv => h v (by simp [hv])
    exact ⟨a :: l, rfl⟩
theorem od_list {α : Type} (f : α → List Value) (φ : α → Prop) (ht : P.underlying t = some (.slice e)) (hc : 0 < P.cellsOf e)
    (hel : ∀ {u : List Value} {m : Nat} {y : DataW H × List MemPlace}, u.length = P.cellsOf e → DataW.trod enc P w 0 spare held m e u = some y → ∃ a, u = f a ∧ φ a) (h : DataW.trod enc P w 0 spare held fuel t cs = some x) :
    ∃ (a : Option Addr) (c : Nat) (l : List α), cs = [.slice a l.length c] ∧ l.length ≤ 9223372036854775807 ∧ At w (SlI a (l.flatMap f)) ∧ ∀ z ∈ l, φ z := by
  obtain ⟨a, n, c, css, rfl, hn, hm, hs, hu⟩ := od_slice ht hc h
  have : ∃ l : List { a : α // φ a }, css = l.map fun a => f a.1 := list_map_of fun u hu' => by
    obtain ⟨hl, m, y, hy⟩ := hu u hu'
    obtain ⟨z, hz, hp⟩ := hel hl hy
    exact ⟨⟨z, hp⟩, hz⟩
  obtain ⟨l, rfl⟩ := this
  refine ⟨a, c, l.map (·.1), ?_, ?_, ?_, ?_⟩
  · rw [← hn]; simp
  · simp at hn ⊢; omega
  · have e1 : (l.map fun a => f a.1).flatten = (l.map (·.1)).flatMap f := by simp [List.flatMap_def, Function.comp_def]
    rw [← e1]; exact hs
  · intro z hz
    simp only [List.mem_map] at hz
    obtain ⟨q, _, rfl⟩ := hz
    exact q.2
theorem flat_one {α : Type} (f : α → Value) (l : List α) : l.flatMap (fun a => [f a]) = l.map f := by
  induction l with
  | nil => rfl
  | cons a r ih => simp [ih]
theorem od_ints {k : IntKind} (ht : P.underlying t = some (.slice e)) (he : P.underlying e = some (.int k)) (hc : 0 < P.cellsOf e) (h : DataW.trod enc P w 0 spare held fuel t cs = some x) :
    ∃ (a : Option Addr) (c : Nat) (l : List Int), cs = [.slice a l.length c] ∧ l.length ≤ 9223372036854775807 ∧ At w (SlI a (l.map (.int k))) ∧ ∀ z ∈ l, (Lit.int k z).wf = true := by
  have := od_list (fun z : Int => [.int k z]) (fun z => (Lit.int k z).wf = true) ht hc (fun _ hy => by
    obtain ⟨n, hn, _, hw⟩ := DataW.trod_int he hy
    exact ⟨n, hn, hw⟩) h
  simpa only [flat_one] using this
theorem od_strs (ht : P.underlying t = some (.slice e)) (he : P.underlying e = some .string) (hc : 0 < P.cellsOf e) (h : DataW.trod enc P w 0 spare held fuel t cs = some x) :
    ∃ (a : Option Addr) (c : Nat) (l : List (List UInt8)), cs = [.slice a l.length c] ∧ l.length ≤ 9223372036854775807 ∧ At w (SlI a (l.map vS)) ∧ ∀ z ∈ l, z.length ≤ 9223372036854775807 := by
  have := od_list (fun z : List UInt8 => [vS z]) (fun z => z.length ≤ 9223372036854775807) ht hc (fun _ hy => by
    obtain ⟨n, hn, _, hw⟩ := DataW.trod_string he hy
    refine ⟨n.data.toList, by rw [hn], ?_⟩
    have : maxLen = 9223372036854775807 := by decide
    have h2 : n.size = n.data.toList.length := rfl
    omega) h
  simpa only [flat_one] using this
theorem od_bools (ht : P.underlying t = some (.slice e)) (he : P.underlying e = some .bool) (hc : 0 < P.cellsOf e) (h : DataW.trod enc P w 0 spare held fuel t cs = some x) :
    ∃ (a : Option Addr) (c : Nat) (l : List Bool), cs = [.slice a l.length c] ∧ l.length ≤ 9223372036854775807 ∧ At w (SlI a (l.map vB)) := by
  have := od_list (fun z : Bool => [vB z]) (fun _ => True) ht hc (fun _ hy => by
    obtain ⟨n, hn, _⟩ := DataW.trod_bool he hy
    exact ⟨n, hn, trivial⟩) h
  obtain ⟨a, c, l, h1, h2, h3, _⟩ := this
  exact ⟨a, c, l, h1, h2, by simpa only [flat_one] using h3⟩
end
theorem wf_i64 {n : Int} (h : (Lit.int .i64 n).wf = true) : -9223372036854775808 ≤ n ∧ n ≤ 9223372036854775807 := by
  simp [Lit.wf] at h
  have e1 : IntKind.i64.min = -9223372036854775808 := by decide
  have e2 : IntKind.i64.max = 9223372036854775807 := by decide
  omega
theorem wf_u8 {n : Int} (h : (Lit.int .u8 n).wf = true) : 0 ≤ n ∧ n ≤ 255 := by
  simp [Lit.wf] at h
  have e1 : IntKind.u8.min = 0 := by decide
  have e2 : IntKind.u8.max = 255 := by decide
  omega
/-- A byte among the arguments. -/
theorem byte_of {n : Int} (h : (Lit.int .u8 n).wf = true) : ∃ c : UInt8, n = (c.toNat : Int) := by
  have := wf_u8 h
  refine ⟨UInt8.ofNat n.toNat, ?_⟩
  have e : (UInt8.ofNat n.toNat).toNat = n.toNat := by simp; omega
  rw [e]; omega
/-- Several things that are there from the beginning. -/
theorem sl_start {w : World} : ∀ {As : List HP}, (∀ A ∈ As, At w A) → SL As (kn w) Res.emp
  | [], _ => trivial
  | A :: r, h => ⟨Res.emp, Res.emp, Res.emp_dj _, rfl, h A (by simp), sl_start fun B hB => h B (by simp [hB])⟩
end Go.Proofs.Ytimafngkifakfaa

/- Ranging over a map; maps.Clone's inner call. -/
namespace Go.Proofs.Ytimafngkifakfaa
theorem nodup_inj {α : Type} {l : List α} (h : l.Nodup) {i j : Nat} (hi : i < l.length) (hj : j < l.length) (e : l[i] = l[j]) : i = j := by
  have hp := List.pairwise_iff_getElem.1 h
  rcases Nat.lt_trichotomy i j with h1 | h1 | h1
  · exact absurd e (hp i j hi hj h1)
  · exact h1
  · exact absurd e.symm (hp j i hj hi h1)
theorem nodup_len {α : Type} [DecidableEq α] : ∀ {l m : List α}, l.Nodup → (∀ x ∈ l, x ∈ m) → l.length ≤ m.length := by
  intro l
  induction l with
  | nil => intro m _ _; simp
  | cons a l ih =>
    intro m hn hs
    have ha : a ∈ m := hs a (by simp)
    have h1 := ih (m := m.erase a) (List.nodup_cons.1 hn).2 fun x hx => by
      have hne : x ≠ a := fun e => (List.nodup_cons.1 hn).1 (e ▸ hx)
      exact (List.mem_erase_of_ne hne).2 (hs x (by simp [hx]))
    have h2 := List.length_erase_of_mem ha
    have h3 := List.length_pos_of_mem ha
    simp only [List.length_cons]; omega
/-- The entries that a walk over a map has met. -/
structure SeenG (es : Array MapEntry) (ds : List MapEntry) (done : List (List UInt8)) : Prop where
  mem : ∀ d ∈ ds, d ∈ es.toList
  keys : ds.map (·.key) = done.map vS
  nodup : done.Nodup
/-- A map at b that is being walked over by the iterator at r; the keys that were met. -/
def MapIt (b r : Nat) (ks : Ks) (done : List (List UInt8)) : HP :=
  ⟨fun _ h => ∃ (es : Array MapEntry) (clock : Nat) (ds : List MapEntry), b ≠ r ∧ h = (Res.one b (.map es clock)).add (Res.one r (.mapIter (some b) clock (ds.map MapEntry.born).toArray clock)) ∧ MapG es clock ks ∧ SeenG es ds done, fun _ e => e⟩
theorem mapg_key {es : Array MapEntry} {clock : Nat} {ks : Ks} (g : MapG es clock ks) {e : MapEntry} (h : e ∈ es.toList) : ∃ k v, e.key = vS k ∧ e.val = v ∧ (k, v) ∈ ks := by
  have h1 : (e.key, e.val) ∈ es.toList.map (fun e => (e.key, e.val)) := List.mem_map_of_mem (f := fun e => (e.key, e.val)) h
  rw [g.eq] at h1
  obtain ⟨p, hp, hq⟩ := List.mem_map.1 h1
  simp only [Prod.mk.injEq] at hq
  exact ⟨p.1, p.2, hq.1.symm, hq.2.symm, hp⟩
theorem vS_inj {a b : List UInt8} (h : vS a = vS b) : a = b := by
  have := congrArg (fun v => match v with | .string s => s.data.toList | _ => []) h
  exact this
theorem mapg_inj {es : Array MapEntry} {clock : Nat} {ks : Ks} (g : MapG es clock ks) {e f : MapEntry} (he : e ∈ es.toList) (hf : f ∈ es.toList) (h : e.key = f.key) : e = f := by
  have hn : (es.toList.map (·.key)).Nodup := by
    have h1 : es.toList.map (·.key) = (ks.map (·.1)).map vS := by
      have := congrArg (List.map Prod.fst) g.eq
      simpa [List.map_map, Function.comp_def] using this
    rw [h1]
    refine List.Pairwise.map vS (fun a b hab e => hab (vS_inj e)) g.keys
  obtain ⟨i, hi, rfl⟩ := List.getElem_of_mem he
  obtain ⟨j, hj, rfl⟩ := List.getElem_of_mem hf
  have := nodup_inj hn (i := i) (j := j) (by simpa using hi) (by simpa using hj) (by simpa using h)
  subst this; rfl
def nxV : Option (List UInt8 × Value) → Value
  | none => .tuple #[.bool false]
  | some (k, v) => .tuple #[.bool true, vS k, v]
def nxD (done : List (List UInt8)) : Option (List UInt8 × Value) → List (List UInt8)
  | none => done
  | some (k, _) => done ++ [k]
def nxP (ks : Ks) (done : List (List UInt8)) : Option (List UInt8 × Value) → Prop
  | none => ∀ p ∈ ks, p.1 ∈ done
  | some (k, v) => (k, v) ∈ ks ∧ k ∉ done
section
variable {r : Option Nat} {P : Program} {n : Nat} {ops : Array Oper} {os : List Oper} {A : List HP} {L : Loc} {Hs : List HP} {Q : Out} {ty : TypeId} {d : Nat} {pos : String} {after : Array Edge} {c : Code}
theorem opt_turnX {dst : Option Tmp} {op : Op} {X : Type} {B : HP} {val : X → Value} {φ : X → Prop} {C : X → HP} (hrun : ∀ (a : Act), Fr n L a → ∀ (w : World) (M : Kn) (h1 hf : Res), h1.dj hf → Sat w M (h1.add hf) → B.at_ M h1 → ∃ (x : X) (w' : World) (h1' : Res), φ x ∧ h1'.dj hf ∧ Sat w' M (h1'.add hf) ∧ (C x).at_ M h1' ∧
      (execOp a.eval ⟨dst, op, ty, pos, after, none⟩).run P w = .ok (.value (val x)) w') :
    OpT r P n ⟨dst, op, ty, pos, after, none⟩ A L [B] val φ (fun x => [C x]) := by
  intro a f w M h hA hf dj dj' s sA t
  obtain ⟨k1, k2, dk, e, hb, _⟩ := s
  subst e
  obtain ⟨x1, x2⟩ := Res.dj_add_left.1 dj'
  obtain ⟨x3, x4⟩ := Res.dj_add_left.1 x1
  obtain ⟨y1, y2⟩ := Res.dj_add_left.1 dj
  have t2 : Sat w M (k1.add ((k2.add hA).add hf)) := by
    have : ((k1.add k2).add hA).add hf = k1.add ((k2.add hA).add hf) := by simp only [Res.add_assoc]
    rw [← this]; exact t
  obtain ⟨x, w', h', hp, dj3, t3, hc, hr⟩ := hrun a f w M k1 ((k2.add hA).add hf) (Res.dj_add_right.2 ⟨Res.dj_add_right.2 ⟨dk, y1⟩, x3⟩) t2 hb
  obtain ⟨z1, z2⟩ := Res.dj_add_right.1 dj3
  obtain ⟨z3, z4⟩ := Res.dj_add_right.1 z1
  rw [hr]
  refine ⟨x, M, h'.add k2, rfl, hp, Kn.le_refl _, Res.dj_add_left.2 ⟨z4, y2⟩, Res.dj_add_left.2 ⟨Res.dj_add_left.2 ⟨z2, x4⟩, x2⟩, ?_, h', k2, z3, rfl, hc, trivial⟩
  have : ((h'.add k2).add hA).add hf = h'.add ((k2.add hA).add hf) := by simp only [Res.add_assoc]
  rw [this]; exact t3
theorem opt_range {dst : Option Tmp} {t kt e : TypeId} {x : Operand} {b : Nat} {ks : Ks} (ht : P.underlying t = some (.map kt e)) (hx : ev L x = some (.map (some b))) :
    OpT r P n ⟨dst, .range t x, ty, pos, after, none⟩ A L [MapS b ks] (fun i : Nat => .pointer (some ⟨i, 0, none⟩)) (fun _ => True) (fun i => [MapIt b i ks []]) := by
  refine opt_turnX (fun a f w M h1 hf dj tt hm => ?_)
  obtain ⟨es, clock, e1, g⟩ := hm
  subst e1
  have hb : w.heap[b]? = some (.map es clock) := tt.ow _ _ (by simp [Res.add, Res.one])
  have hlt : b < w.heap.size := (Array.getElem?_eq_some_iff.1 hb).1
  obtain ⟨f1, f2⟩ := fresh_none tt
  have t2 := tt.alloc (.mapIter (some b) clock #[] clock)
  have hd2 : (Res.one w.heap.size (.mapIter (some b) clock #[] clock)).dj ((Res.one b (.map es clock)).add hf) := one_dj f2
  obtain ⟨d1, d2⟩ := Res.dj_add_right.1 hd2
  refine ⟨w.heap.size, w.alloc (.mapIter (some b) clock #[] clock), (Res.one b (.map es clock)).add (Res.one w.heap.size (.mapIter (some b) clock #[] clock)), trivial, Res.dj_add_left.2 ⟨dj, d2⟩, ?_, ⟨es, clock, [], by omega, rfl, g, ⟨by simp, rfl, by simp⟩⟩, ?_⟩
  · rw [Res.add_comm (Res.dj_comm d1), Res.add_assoc]; exact t2
  · simp [execOp, f.ev hx, Instr.range, run_underlying ht, MapKept.run_getObj_map hb, newObj, Sem.run]
theorem opt_next {dst : Option Tmp} {x : Operand} {b i : Nat} {ks : Ks} {done : List (List UInt8)} (hx : ev L x = some (.pointer (some ⟨i, 0, none⟩))) :
    OpT r P n ⟨dst, .next x false, ty, pos, after, none⟩ A L [MapIt b i ks done] nxV (nxP ks done) (fun o => [MapIt b i ks (nxD done o)]) := by
  refine opt_turnX (fun a f w M h1 hf dj tt hm => ?_)
  obtain ⟨es, clock, ds, hne, e1, g, sg⟩ := hm
  subst e1
  have hb : w.heap[b]? = some (.map es clock) := tt.ow _ _ (by simp [Res.add, Res.one])
  have hi : w.heap[i]? = some (.mapIter (some b) clock (ds.map MapEntry.born).toArray clock) := tt.ow _ _ (by simp [Res.add, Res.one, Ne.symm hne])
  have hrun : ∀ (v : Value) (w' : World), (Instr.next (.pointer (some ⟨i, 0, none⟩)) false ty).run P w = .ok v w' → (execOp a.eval ⟨dst, .next x false, ty, pos, after, none⟩).run P w = .ok (.value v) w' := by
    intro v w' h
    simp only [execOp, f.ev hx, Sem.run_bind, h, Result.andThen_ok, Sem.run_pure]
  rcases run_next_at (P := P) w ty i b clock clock (ds.map MapEntry.born).toArray es clock hi hb (fun x hx => g.old x hx) (Nat.le_refl _) with ⟨h0, hr⟩ | ⟨e, he, w1, hw1, hr⟩
  · refine ⟨none, w, _, ?_, dj, tt, ⟨es, clock, ds, hne, rfl, g, sg⟩, hrun _ _ hr⟩
    intro p hp
    obtain ⟨j, hj, rfl⟩ := List.getElem_of_mem hp
    have hje : j < es.toList.length := by have := g.size; simp; omega
    have h1 : es.toList[j] ∈ es.toList := List.getElem_mem _
    have h2 : (ds.map MapEntry.born).contains es.toList[j].born = true := by
      apply Classical.byContradiction
      intro hc
      have h3 : es.toList[j] ∈ (leftOf es (ds.map MapEntry.born).toArray).toList := by
        unfold leftOf
        simp only [Array.toList_filter, List.mem_filter]
        refine ⟨h1, ?_⟩
        simpa using hc
      have h4 : (leftOf es (ds.map MapEntry.born).toArray).toList.length = 0 := by simpa using h0
      rw [List.eq_nil_of_length_eq_zero h4] at h3
      simp at h3
    simp only [List.contains_eq_mem, decide_eq_true_eq, List.mem_map] at h2
    obtain ⟨d0, hd0, hdb⟩ := h2
    have hde : d0 = es.toList[j] := by
      obtain ⟨q, hq, hq2⟩ := List.getElem_of_mem (sg.mem d0 hd0)
      have := nodup_inj g.born (i := q) (j := j) (by simpa using hq) (by simpa using hje) (by rw [List.getElem_map, List.getElem_map, hq2, hdb])
      subst this; exact hq2.symm
    have hk : d0.key ∈ ds.map (·.key) := List.mem_map_of_mem (f := fun e : MapEntry => e.key) hd0
    rw [sg.keys] at hk
    obtain ⟨k, hk1, hk2⟩ := List.mem_map.1 hk
    have h5 : (es.toList.map (fun e => (e.key, e.val)))[j]? = (ks.map (fun p => (vS p.1, p.2)))[j]? := by rw [g.eq]
    rw [List.getElem?_map, List.getElem?_map, List.getElem?_eq_getElem hje, List.getElem?_eq_getElem hj] at h5
    simp only [Option.map_some, Option.some.injEq, Prod.mk.injEq] at h5
    have : k = ks[j].1 := vS_inj (by rw [hk2, hde, h5.1])
    rw [← this]; exact hk1
  · have he2 : e ∈ es.toList ∧ ¬ e.born ∈ ds.map MapEntry.born := by
      unfold leftOf at he
      simp only [Array.toList_filter, List.mem_filter] at he
      refine ⟨he.1, ?_⟩
      intro hc
      have := he.2
      simp [hc] at this
    obtain ⟨k, v, hk, hv, hm⟩ := mapg_key g he2.1
    have hkd : k ∉ done := by
      intro hc
      have : vS k ∈ ds.map (·.key) := by rw [sg.keys]; exact List.mem_map_of_mem (f := vS) hc
      obtain ⟨d0, hd0, hd1⟩ := List.mem_map.1 this
      have := mapg_inj g (sg.mem d0 hd0) he2.1 (by rw [hd1, hk])
      subst this
      exact he2.2 (List.mem_map_of_mem (f := fun e : MapEntry => e.born) hd0)
    have tt1 : Sat w1 M (((Res.one b (.map es clock)).add (Res.one i (.mapIter (some b) clock (ds.map MapEntry.born).toArray clock))).add hf) := by
      rcases hw1 with rfl | rfl
      · exact tt
      · exact tt.drew
    obtain ⟨dj1, dj2⟩ := Res.dj_add_left.1 dj
    have dbi : (Res.one b (.map es clock)).dj (Res.one i (.mapIter (some b) clock (ds.map MapEntry.born).toArray clock)) := fun q => by
      by_cases hq : q = b
      · right; subst hq; simp [Res.one, hne]
      · left; simp [Res.one, hq]
    have eq : ∀ o : Obj, ((Res.one b (.map es clock)).add (Res.one i o)).add hf = (Res.one i o).add ((Res.one b (.map es clock)).add hf) := fun o => by
      have d : (Res.one b (.map es clock)).dj (Res.one i o) := fun q => by
        by_cases hq : q = b
        · right; subst hq; simp [Res.one, hne]
        · left; simp [Res.one, hq]
      rw [Res.add_comm d, Res.add_assoc]
    rw [eq] at tt1
    have t3 := sat_setBlock (.mapIter (some b) clock ((ds.map MapEntry.born).toArray.push e.born) clock) (Res.dj_add_right.2 ⟨Res.dj_comm dbi, dj2⟩) tt1
    rw [← eq] at t3
    refine ⟨some (k, v), _, _, ⟨hm, hkd⟩, Res.dj_add_left.2 ⟨dj1, dj_one_any dj2⟩, t3, ⟨es, clock, ds ++ [e], hne, by simp, g, ⟨?_, ?_, ?_⟩⟩, hrun _ _ (by rw [hr, hk, hv]; rfl)⟩
    · intro d0 hd0
      rcases List.mem_append.1 hd0 with h | h
      · exact sg.mem d0 h
      · simp only [List.mem_singleton] at h; subst h; exact he2.1
    · simp [sg.keys, hk, nxD]
    · show (done ++ [k]).Nodup
      rw [List.nodup_append]
      refine ⟨sg.nodup, by simp, ?_⟩
      intro a1 h1 b1 h2 h3
      simp only [List.mem_singleton] at h2
      subst h2; subst h3
      exact hkd h1
theorem tw_know {e : Exit} {A : HP} {p : Prop} (hA : Has A Hs) (hp : ∀ {M : Kn} {h : Res}, A.at_ M h → p) (k : p → tw n Q e L Hs) : tw n Q e L Hs := by
  intro a M m s
  obtain ⟨g1, g2, dg, e, _, s2⟩ := s.2
  obtain ⟨h1, _, x⟩ := hA.sat s2
  exact k (hp x) a M m s
theorem ent_tail {B : HP} {Gs : List HP} : Ent (B :: Gs) Gs := ⟨fun s => by
  obtain ⟨h1, h2, d, e, _, s⟩ := s
  subst e; exact SL.more d s⟩
/-- A map that is walked over, found by its iterator. -/
class MapItC (b : outParam Nat) (i : Nat) (ks : outParam Ks) (done : outParam (List (List UInt8))) (Hs : List HP) (Rs : outParam (List HP)) : Prop where
  get : Pick (MapIt b i ks done) Hs Rs
instance (priority := 1000) {b i : Nat} {ks : Ks} {done : List (List UInt8)} {r : List HP} : MapItC b i ks done (MapIt b i ks done :: r) r := ⟨.here⟩
instance (priority := 100) {b i : Nat} {ks : Ks} {done : List (List UInt8)} {B : HP} {r s : List HP} [h : MapItC b i ks done r s] : MapItC b i ks done (B :: r) (B :: s) := ⟨.there h.get⟩
instance (priority := 900) {b i : Nat} {ks : Ks} {done : List (List UInt8)} {B B' C : List HP} [h : MapItC b i ks done B B'] : MapItC b i ks done (B ++ C) (B' ++ C) := ⟨pick_left h.get⟩
instance (priority := 800) {b i : Nat} {ks : Ks} {done : List (List UInt8)} {B C C' : List HP} [h : MapItC b i ks done C C'] : MapItC b i ks done (B ++ C) (B ++ C') := ⟨pick_right h.get⟩
theorem r_range {t kt e : TypeId} {x : Operand} {b : Nat} {ks : Ks} {Rs : List HP} (ht : P.underlying t = some (.map kt e)) (hx : ev L x = some (.map (some b))) [h : MapPC b ks Hs Rs] (hd : Nat.blt d n = true)
    (K : ∀ i, wo r P n ops os ((d, .pointer (some ⟨i, 0, none⟩)) :: L) (MapIt b i ks [] :: Rs) Q) : wo r P n ops (⟨some d, .range t x, ty, pos, after, none⟩ :: os) L Hs Q := by
  haveI : PicksC [MapS b ks] Hs Rs := ⟨.cons h.get .nil⟩
  exact wo_opT (by intro c; simp) (opt_range ht hx) (by simpa [dstOk] using hd) (fun i _ => K i)
theorem r_next {x : Operand} {b i : Nat} {ks : Ks} {done : List (List UInt8)} {Rs : List HP} (hx : ev L x = some (.pointer (some ⟨i, 0, none⟩))) [h : MapItC b i ks done Hs Rs] (hd : Nat.blt d n = true)
    (K : ∀ o, nxP ks done o → wo r P n ops os ((d, nxV o) :: L) (MapIt b i ks (nxD done o) :: Rs) Q) : wo r P n ops (⟨some d, .next x false, ty, pos, after, none⟩ :: os) L Hs Q := by
  haveI : PicksC [MapIt b i ks done] Hs Rs := ⟨.cons h.get .nil⟩
  exact wo_opT (by intro c; simp) (opt_next hx) (by simpa [dstOk] using hd) (fun o ho => K o ho)
theorem pv_nx0 {x : Operand} {o : Option (List UInt8 × Value)} (hx : ev L x = some (nxV o)) : PV P n L (.extract x 0) ty (.bool o.isSome) := by
  cases o with
  | none => exact pv_extract hx rfl
  | some p => exact pv_extract (vs := #[.bool true, vS p.1, p.2]) hx rfl
theorem pick_has {A : HP} {Hs Rs : List HP} (p : Pick A Hs Rs) : Has A Hs := by
  induction p with
  | here => exact .here
  | keep _ => exact .here
  | there _ ih => exact .there ih
theorem r_entry {x : Operand} {b i : Nat} {ks : Ks} {done : List (List UInt8)} {k : List UInt8} {v : Value} {Rs : List HP} (hm : (k, v) ∈ ks) (hx : ev L x = some (.pointer (some ⟨i, 0, none⟩))) [h : MapItC b i ks (done ++ [k]) Hs Rs] (hd : Nat.blt d n = true)
    (K : wo r P n ops os ((d, .tuple #[vS k, v]) :: L) Hs Q) : wo r P n ops (⟨some d, .entry x, ty, pos, after, none⟩ :: os) L Hs Q := by
  refine wo_read (by intro c; simp) (pick_has h.get) hd (fun a f w M h1 h2 hf t le hm' dst pos after guard => ?_) K
  obtain ⟨es, clock, ds, hne, e1, g, sg⟩ := hm'
  subst e1
  have hb : w.heap[b]? = some (.map es clock) := t.ow _ _ (by have := le b (.map es clock) (by simp [Res.add, Res.one]); simp [Res.add, this])
  have hi : w.heap[i]? = some (.mapIter (some b) clock (ds.map MapEntry.born).toArray clock) := t.ow _ _ (by have := le i (.mapIter (some b) clock (ds.map MapEntry.born).toArray clock) (by simp [Res.add, Res.one, Ne.symm hne]); simp [Res.add, this])
  have hl : ds.length = done.length + 1 := by have := congrArg List.length sg.keys; simpa using this
  obtain ⟨ds', e, rfl⟩ : ∃ ds' e, ds = ds' ++ [e] := by
    rcases List.eq_nil_or_concat ds with h | ⟨l, e, h⟩
    · rw [h] at hl; simp at hl
    · exact ⟨l, e, by simpa using h⟩
  have hk : e.key = vS k := by
    have := sg.keys
    simp only [List.map_append, List.map_cons, List.map_nil] at this
    exact (List.append_inj' this rfl).2 |> fun h => by simpa using h
  have he : e ∈ es.toList := sg.mem e (by simp)
  obtain ⟨k2, v2, hk2, hv2, hm2⟩ := mapg_key g he
  have hkk : k2 = k := vS_inj (by rw [← hk2, hk])
  subst hkk
  have hvv : v2 = v := by
    obtain ⟨p, hp, hp2⟩ := List.getElem_of_mem hm
    obtain ⟨q, hq, hq2⟩ := List.getElem_of_mem hm2
    have := nodup_inj g.keys (i := p) (j := q) (by simpa using hp) (by simpa using hq) (by rw [List.getElem_map, List.getElem_map, hp2, hq2])
    subst this
    rw [hp2] at hq2
    exact (Prod.mk.inj hq2).2.symm
  subst hvv
  have hi2 : w.heap[i]? = some (.mapIter (some b) clock ((ds'.map MapEntry.born).toArray.push e.born) clock) := by rw [hi]; simp
  have := run_entry_at (P := P) w i b clock _ es clock e hi2 hb he g.born
  simp only [execOp, f.ev hx, Sem.run_bind, this, Result.andThen_ok, Sem.run_pure, hk, hv2]
theorem mapit_done {b i : Nat} {ks : Ks} {done : List (List UInt8)} {Rs : List HP} [h : MapItC b i ks done Hs Rs] : Ent Hs (MapS b ks :: Rs) := (Picks.ent (.cons h.get .nil)).trans ⟨fun {M x} s => by
  obtain ⟨h1, h2, d, e, ⟨es, clock, ds, hne, e1, g, sg⟩, s⟩ := s
  subst e1; subst e
  obtain ⟨d1, d2⟩ := Res.dj_add_left.1 d
  have dbi : (Res.one b (.map es clock)).dj (Res.one i (.mapIter (some b) clock (ds.map MapEntry.born).toArray clock)) := fun q => by
    by_cases hq : q = b
    · right; subst hq; simp [Res.one, hne]
    · left; simp [Res.one, hq]
  rw [Res.add_assoc]
  exact ⟨_, _, Res.dj_add_right.2 ⟨dbi, d1⟩, rfl, ⟨es, clock, rfl, g⟩, SL.more d2 s⟩⟩
/-- The keys that were met, once nothing is left. -/
theorem mapit_perm {b i : Nat} {ks : Ks} {done : List (List UInt8)} {M : Kn} {h : Res} (x : (MapIt b i ks done).at_ M h) (hn : nxP ks done none) : done.Perm (ks.map (·.1)) := by
  obtain ⟨es, clock, ds, hne, e1, g, sg⟩ := x
  refine (List.perm_ext_iff_of_nodup sg.nodup g.keys).2 fun k => ⟨fun hk => ?_, fun hk => ?_⟩
  · have : vS k ∈ ds.map (·.key) := by rw [sg.keys]; exact List.mem_map_of_mem (f := vS) hk
    obtain ⟨d0, hd0, hd1⟩ := List.mem_map.1 this
    obtain ⟨k2, v2, hk2, _, hm2⟩ := mapg_key g (sg.mem d0 hd0)
    have : k2 = k := vS_inj (by rw [← hk2, hd1])
    subst this
    exact List.mem_map_of_mem (f := fun p : List UInt8 × Value => p.1) hm2
  · obtain ⟨p, hp, rfl⟩ := List.mem_map.1 hk
    exact hn p hp
theorem mapit_len {b i : Nat} {ks : Ks} {done : List (List UInt8)} {M : Kn} {h : Res} (x : (MapIt b i ks done).at_ M h) : done.length ≤ ks.length ∧ done.Nodup ∧ ∀ k ∈ done, k ∈ ks.map (·.1) := by
  obtain ⟨es, clock, ds, hne, e1, g, sg⟩ := x
  have hsub : ∀ k ∈ done, k ∈ ks.map (·.1) := fun k hk => by
    have : vS k ∈ ds.map (·.key) := by rw [sg.keys]; exact List.mem_map_of_mem (f := vS) hk
    obtain ⟨d0, hd0, hd1⟩ := List.mem_map.1 this
    obtain ⟨k2, v2, hk2, _, hm2⟩ := mapg_key g (sg.mem d0 hd0)
    have : k2 = k := vS_inj (by rw [← hk2, hd1])
    subst this
    exact List.mem_map_of_mem (f := fun p : List UInt8 × Value => p.1) hm2
  refine ⟨?_, sg.nodup, hsub⟩
  have := nodup_len sg.nodup hsub
  simpa using this
end
end Go.Proofs.Ytimafngkifakfaa
