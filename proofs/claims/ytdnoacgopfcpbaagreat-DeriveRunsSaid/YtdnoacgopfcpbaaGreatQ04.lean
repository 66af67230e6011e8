/- Texts of this proof, put together: RangeF, Types, Shelf, Lib0, LibB. -/
import Derived.RangeFuncIn
import Derived.RangeFuncNested
import Derived.Test.YtdnoacgopfcpbaaGreatProg
import Derived.Shelf.Strings.Builder1
import Derived.Shelf.Strings.Builder2
import Derived.Shelf.Small.Bits
import Derived.Shelf.Small.Strs
import Derived.Shelf.Strings.BuilderF
import Derived.Shelf.Strconv.Itoa0
import Derived.Shelf.Strings.Search1
import Derived.Shelf.Strings.Search2
import Derived.Shelf.Strings.Search3
import Derived.Shelf.Strings.Cut
import Derived.Shelf.LaysM
import Derived.Shelf.Strings.Shaped
import Derived.Shelf.Sort.Plain
import Derived.Shelf.Strings.Prefix
import Derived.Shelf.Strings.Repeat
import Derived.Lib.Builder
import Derived.Lib.UnsafeStr
import Derived.Lib.AppendStr
import Derived.Test.YtdnoacgopfcpbaaGreatQ03
set_option linter.unusedVariables false
set_option linter.unusedSimpArgs false
namespace Go.Proofs.YtdnoacgopfcpbaaGreat
section
/-- What a round's jump is. -/
def jc : Option Nat → Code
 | none => .ret
 | some id => .exit id
/-- A value that one may call as yield: on each element: on, or no more. -/
def YSpec (P : Program) {α : Type} (y : Value) (enc : α → List Value) (ok : List α → α → Prop) (J Jx : List α → HP) : Prop :=
 ∃ l, y = .func (.yield l) #[] #[] ∧ ∀ (pre : List α) (x : α), ok pre x → ∀ (w : World) (M : Kn) (h hf : Res), h.dj hf → Sat w M (h.add hf) → (J pre).at_ M h →
  ∃ fn tmps assign body, (Instr.yield l (enc x).toArray).run P w = .ok (.round l fn tmps assign body) w ∧
   RoundIn (WF none) 0 P l fn tmps assign body w (fun e w' => ∃ (b : Bool) (M' : Kn) (h' : Res), e = .returned (.bool b) ∧ M.le M' ∧ h'.dj hf ∧ Sat w' M' (h'.add hf) ∧ (if b then J (pre ++ [x]) else Jx (pre ++ [x])).at_ M' h')
/-- What one has behind a walk: it went to its end, or was stopped. -/
def endsAt {α : Type} (J Jx : List α → HP) (all : List α) : Option (List α) → HP
 | none => J all
 | some pre => Jx pre
/-- What a function value does when it is ranged over. -/
def Iter (P : Program) {α : Type} (g : Nat) (lb : List Value) (enc : α → List Value) (ok : List α → α → Prop) (stopped : List α → Prop) (As Bs : List HP) (all : List α) (val : Option (List α) → Value) : Prop :=
 ∀ (y : Value) (J Jx : List α → HP), YSpec P y enc ok J Jx → Sp P g (y :: lb) (J [] :: As) (X := Option (List α)) val (fun x => ∀ pre, x = some pre → stopped pre) (fun x => endsAt J Jx all x :: Bs)
/-- The same, where the order is drawn on the way: what is known of it behind the walk. -/
def IterU (P : Program) {α : Type} (g : Nat) (lb : List Value) (enc : α → List Value) (ok : List α → α → Prop) (stopped : List α → Prop) (As Bs : List HP) (fin : List α → Prop) (val : Option (List α) → Value) : Prop :=
 ∀ (y : Value) (J Jx : List α → HP), YSpec P y enc ok J Jx → Sp P g (y :: lb) (J [] :: As) (X := Option (List α) × List α) (fun x => val x.1) (fun x => (∀ pre, x.1 = some pre → stopped pre) ∧ (x.1 = none → fin x.2)) (fun x => endsAt J Jx x.2 x.1 :: Bs)
theorem Iter.toU {P : Program} {α : Type} {g : Nat} {lb : List Value} {enc : α → List Value} {ok : List α → α → Prop} {stopped : List α → Prop} {As Bs : List HP} {all : List α} {val : Option (List α) → Value}
    (it : Iter P g lb enc ok stopped As Bs all val) : IterU P g lb enc ok stopped As Bs (fun l => l = all) val :=
 fun y J Jx ys => (it y J Jx ys).mono (Ent.refl _) fun x hx => ⟨(x, all), rfl, ⟨hx, fun _ => rfl⟩, Ent.refl _⟩
def bindL : List Tmp → List Value → Loc → Loc
 | p :: ps, v :: vs, L => bindL ps vs ((p, v) :: L)
 | _, _, L => L
/-- The ways out of a round. -/
def roundO {α : Type} (I : List α → List HP) (Ix : Option Nat → List α → List HP) (xs : List α) : Out
 | .normal => fun _ M h => SL (I xs) M h
 | .ret => fun _ M h => SL (Ix none xs) M h
 | .exit id => fun _ M h => SL (Ix (some id) xs) M h
 | _ => fun _ _ _ => False
def asgO (r : Option Nat) (P : Program) (y : Code) (Q : Out) : Out := thenO (wout r P y Q) (fun _ _ _ _ => False)
section
variable {r : Option Nat} {P : Program} {n : Nat} {ops : Array Oper} {os : List Oper} {A : List HP} {L : Loc} {Hs : List HP} {Q : Out} {ty : TypeId} {d : Nat} {pos : String} {after : Array Edge} {c : Code}
theorem q_asg {y : Code} (h : wc r P n y L Hs Q) : wo r P n ops [] L Hs (asgO r P y Q) := wo_nil (to_then h)
theorem to_round {α : Type} {I : List α → List HP} {Ix : Option Nat → List α → List HP} {xs : List α} (e : Ent Hs (I xs)) : tw n (roundO I Ix xs) .normal L Hs := by
 rintro a M h ⟨_, h1, h2, d, e', _, s⟩
 subst e'
 exact SL.more d (e s)
theorem to_round_ret {α : Type} {I : List α → List HP} {Ix : Option Nat → List α → List HP} {xs : List α} (e : Ent Hs (Ix none xs)) : tw n (roundO I Ix xs) .ret L Hs := by
 rintro a M h ⟨_, h1, h2, d, e', _, s⟩
 subst e'
 exact SL.more d (e s)
theorem to_round_exit {α : Type} {I : List α → List HP} {Ix : Option Nat → List α → List HP} {xs : List α} (id : Nat) (e : Ent Hs (Ix (some id) xs)) : tw n (roundO I Ix xs) (.exit id) L Hs := by
 rintro a M h ⟨_, h1, h2, d, e', _, s⟩
 subst e'
 exact SL.more d (e s)
theorem fr_bind : ∀ (ps : List Tmp) (vs : List Value) {L : Loc} {t : Array Value}, (∀ p ∈ ps, p < n) → (n ≤ t.size ∧ ∀ i v, lk L i = some v → t[i]? = some v) →
    (n ≤ ((ps.zip vs).foldl (fun t (p, v) => t.setIfInBounds p v) t).size ∧ ∀ i v, lk (bindL ps vs L) i = some v → ((ps.zip vs).foldl (fun t (p, v) => t.setIfInBounds p v) t)[i]? = some v) := by
 intro ps
 induction ps with
 | nil => intro vs L t _ h; simpa [bindL] using h
 | cons p ps ih =>
   intro vs L t hp h
   cases vs with
   | nil => simpa [bindL] using h
   | cons v vs =>
     simp only [bindL, List.zip_cons_cons, List.foldl_cons]
     refine ih vs (fun q hq => hp q (by simp [hq])) ?_
     have f : Fr n L { tmps := t, defers := [] } := h
     have := f.put (d := p) (v := v) (by simpa using hp p (by simp))
     simpa [Fr, Act.put] using this
/-- for .. := range f { .. } -/
theorem wc_rangeFunc {α : Type} {f : Operand} {ps : Array Tmp} {assign body : Code} {g : Nat} {lb : List Value} {enc : α → List Value} {ok : List α → α → Prop} {stopped : List α → Prop} {As Bs : List HP} {fin : List α → Prop} {val : Option (List α) → Value}
    (I : List α → List HP) (Ix : Option Nat → List α → List HP)
    (hf : ev L f = some (.func (.func g) #[] lb.toArray))
    (it : IterU P g lb enc ok stopped As Bs fin val)
    (hps : ∀ x, (enc x).length = ps.size) (hpn : ps.toList.all (fun p => Nat.blt p n) = true)
    (ha : Ent Hs (I [] ++ As))
    (round : ∀ (l : Nat) (pre : List α) (x : α), ok pre x → wc (some l) P n assign (bindL ps.toList (enc x) L) (I pre) (asgO (some l) P body (roundO I Ix (pre ++ [x]))))
    (done : ∀ all, fin all → tw n Q .normal L (I all ++ Bs))
    (stop : ∀ (j : Option Nat) (pre : List α), stopped pre → wc none P n (jc j) L (Ix j pre ++ Bs) Q) :
    wc none P n (.rangeFunc f ps assign body) L Hs Q := by
 intro a M h st w hfr dj t
 obtain ⟨fr, g1, g2, dg, e, sd, s2⟩ := st
 subst e
 obtain ⟨kI, kA, dIA, e, sI, sA⟩ := SL.split (ha s2)
 subst e
 refine wpIn_rangeFunc ?_
 intro fn hfn
 obtain ⟨rec, hrec⟩ : ∃ rec : LoopState → Option Code → Loop, rec = fun st pe => { state := st, pending := pe, fn, tmps := a.tmps, params := ps, assign, body, defers := w.heap.size } := ⟨_, rfl⟩
 obtain ⟨W1, hW1⟩ : ∃ W1, (w.alloc (.deferred (some []))).alloc (.loop (rec .ready none)) = W1 := ⟨_, rfl⟩
 have hsz : (w.alloc (.deferred (some []))).heap.size = w.heap.size + 1 := by simp
 have tD := t.alloc (.deferred (some []))
 have tL := tD.alloc (.loop (rec .ready none))
 obtain ⟨_, f1⟩ := fresh_none t
 obtain ⟨_, f2⟩ := fresh_none tD
 rw [hsz] at tL f2
 rw [hW1] at tL
 refine ⟨w.heap.size + 1, [{ target := .collected w.heap.size, args := #[] }], W1, { target := .fn (.func g) lb.toArray, args := #[.func (.yield (w.heap.size + 1)) #[] #[]] }, W1, g,
  #[.func (.yield (w.heap.size + 1)) #[] #[]] ++ lb.toArray, W1, ?_, ?_, fun _ _ => trivial, ?_, (fun e => by cases e), ?_⟩
 · rw [← hW1, hrec]; exact run_enterLoop_outer _ _ _ _ _
 · simp only [resolve, rangeCall]
   rw [fr.ev hf]
   simp [go_sem]
 · have := (it (.func (.yield (w.heap.size + 1)) #[] #[]) (fun _ => ⟨fun _ _ => False, fun _ e => e⟩) (fun _ => ⟨fun _ _ => False, fun _ e => e⟩) ⟨_, rfl, fun _ _ _ _ _ _ _ _ _ e => e.elim⟩).enters
   simp [invoke, go_sem]
   exact this _ _
 ·
  have ys : YSpec P (.func (.yield (w.heap.size + 1)) #[] #[]) enc ok (fun pre => Al (Blk (w.heap.size + 1) (.loop (rec .ready none)) :: I pre))
      (fun pre => Ex fun j : Option Nat => Al (Blk (w.heap.size + 1) (.loop (rec .done (some (jc j)))) :: Ix j pre)) := by
   refine ⟨_, rfl, fun pre x hok w' M' h' hf' dj' t' hj => ?_⟩
   obtain ⟨p1, p2, dp, e, hp1, sp2⟩ := hj
   have hp1' : p1 = Res.one _ _ := hp1
   subst hp1'
   subst e
   have hl : w'.heap[w.heap.size + 1]? = some (.loop (rec .ready none)) := t'.ow _ _ (by simp [Res.add, Res.one])
   have hy := run_yield (P := P) (args := (enc x).toArray) hl (by rw [hrec]; simpa using hps x)
   refine ⟨_, _, _, _, hy, roundIn_of_wpIn (F := WF none) trivial ?_⟩
   have e1 : (rec .ready none).assign = assign := by rw [hrec]
   have e2 : (rec .ready none).body = body := by rw [hrec]
   have e3 : (rec .ready none).tmps = a.tmps := by rw [hrec]
   have e4 : (rec .ready none).params = ps := by rw [hrec]
   rw [e1, e2, e3, e4]
   obtain ⟨dj1, dj2⟩ := Res.dj_add_left.1 dj'
   have hfold : (ps.zip (enc x).toArray).foldl (fun t (p, v) => t.setIfInBounds p v) a.tmps = (ps.toList.zip (enc x)).foldl (fun t (p, v) => t.setIfInBounds p v) a.tmps := by
    rw [← Array.foldl_toList]; simp
   rw [hfold]
   have hfr : Fr n (bindL ps.toList (enc x) L) { tmps := (ps.toList.zip (enc x)).foldl (fun t (p, v) => t.setIfInBounds p v) a.tmps, defers := [] } :=
    fr_bind ps.toList (enc x) (fun p hp => by have := List.all_eq_true.1 hpn p hp; simpa using this) fr
   have d2 : p2.dj ((Res.one (w.heap.size + 1) (.loop (rec .ready none))).add hf') := Res.dj_add_right.2 ⟨Res.dj_comm dp, dj2⟩
   have t2 : Sat w' M' (p2.add ((Res.one (w.heap.size + 1) (.loop (rec .ready none))).add hf')) := by
    rw [← Res.add_assoc, ← Res.add_comm dp]; exact t'
   have hw := round (w.heap.size + 1) pre x hok _ M' p2 ⟨hfr, Res.emp, p2, Res.emp_dj _, rfl, trivial, sp2⟩ w' _ d2 t2
   refine wpIn_mono (F := WF (some (w.heap.size + 1))) hw ?_
   rintro ex a1 w1 ⟨M1, h1, le1, dj3, t3, q1⟩
   cases ex with
   | normal =>
     have q1' : wout (some (w.heap.size + 1)) P body (roundO I Ix (pre ++ [x])) a1 M1 h1 := q1
     obtain ⟨y1, y2⟩ := Res.dj_add_right.1 dj3
     have hb : w1.heap[w.heap.size + 1]? = some (.loop (rec .ready none)) := t3.ow _ _ (Res.le_add_right dj3 _ _ (by simp [Res.add, Res.one]))
     refine ⟨_, run_beginRound hb (by rw [hrec]), ?_⟩
     have dA : (Res.one (w.heap.size + 1) (.loop (rec .ready none))).dj (h1.add hf') := Res.dj_add_right.2 ⟨Res.dj_comm y1, dj1⟩
     have hcomm : ∀ o : Obj, h1.dj (Res.one (w.heap.size + 1) o) → h1.add ((Res.one (w.heap.size + 1) o).add hf') = (Res.one (w.heap.size + 1) o).add (h1.add hf') := fun o dd => by
      rw [← Res.add_assoc, Res.add_comm dd, Res.add_assoc]
     rw [hcomm _ y1] at t3
     have t4 := Sat.putObj (o' := .loop { rec .ready none with state := .busy }) dA t3
     have dB : (Res.one (w.heap.size + 1) (.loop { rec .ready none with state := .busy })).dj (h1.add hf') := dj_one_any dA
     have dB1 := (Res.dj_add_right.1 dB).1
     rw [← hcomm _ (Res.dj_comm dB1)] at t4
     refine wpIn_mono (F := WF (some (w.heap.size + 1))) (q1' _ _ (Res.dj_add_right.2 ⟨Res.dj_comm dB1, y2⟩) t4) ?_
     have fin : ∀ (jump : Option Code) (M2 : Kn) (h2 : Res) (w2 : World), M1.le M2 → h2.dj ((Res.one (w.heap.size + 1) (.loop { rec .ready none with state := .busy })).add hf') → Sat w2 M2 (h2.add ((Res.one (w.heap.size + 1) (.loop { rec .ready none with state := .busy })).add hf')) →
         ∃ w3, (Instr.endRound (w.heap.size + 1) jump).run P w2 = .ok (.bool jump.isNone) w3 ∧ (Res.one (w.heap.size + 1) (.loop (rec (if jump.isNone then .ready else .done) jump))).dj h2 ∧
          ((Res.one (w.heap.size + 1) (.loop (rec (if jump.isNone then .ready else .done) jump))).add h2).dj hf' ∧ Sat w3 M2 (((Res.one (w.heap.size + 1) (.loop (rec (if jump.isNone then .ready else .done) jump))).add h2).add hf') := by
      intro jump M2 h2 w2 le2 dj5 t5
      have hb2 : w2.heap[w.heap.size + 1]? = some (.loop { rec .ready none with state := .busy }) := t5.ow _ _ (Res.le_add_right dj5 _ _ (by simp [Res.add, Res.one]))
      have hr := run_endRound (P := P) jump hb2
      obtain ⟨z1, z2⟩ := Res.dj_add_right.1 dj5
      have eqq : h2.add ((Res.one (w.heap.size + 1) (.loop { rec .ready none with state := .busy })).add hf') = (Res.one (w.heap.size + 1) (.loop { rec .ready none with state := .busy })).add (h2.add hf') := by
       rw [← Res.add_assoc, Res.add_comm z1, Res.add_assoc]
      rw [eqq] at t5
      have dC : (Res.one (w.heap.size + 1) (.loop { rec .ready none with state := .busy })).dj (h2.add hf') := Res.dj_add_right.2 ⟨Res.dj_comm z1, dj_one_any dj1⟩
      have t6 := Sat.putObj (o' := .loop (rec (if jump.isNone then .ready else .done) jump)) dC t5
      have dD : (Res.one (w.heap.size + 1) (.loop (rec (if jump.isNone then .ready else .done) jump))).dj (h2.add hf') := dj_one_any dC
      obtain ⟨v1, v2⟩ := Res.dj_add_right.1 dD
      refine ⟨_, ?_, v1, Res.dj_add_left.2 ⟨v2, z2⟩, by rw [Res.add_assoc]; exact t6⟩
      rw [hr, hrec]
     rintro e2 a2 w2 ⟨M2, h2, le2, dj5, t5, q2⟩
     cases e2 with
     | normal =>
       obtain ⟨w3, r1, r2, r3, r4⟩ := fin none M2 h2 w2 le2 dj5 t5
       exact ⟨_, w3, r1, true, M2, _, rfl, Kn.le_trans le1 le2, r3, r4, _, _, r2, rfl, rfl, q2⟩
     | ret =>
       obtain ⟨w3, r1, r2, r3, r4⟩ := fin (some .ret) M2 h2 w2 le2 dj5 t5
       exact ⟨_, w3, r1, false, M2, _, rfl, Kn.le_trans le1 le2, r3, r4, none, _, _, r2, rfl, rfl, q2⟩
     | exit id =>
       obtain ⟨w3, r1, r2, r3, r4⟩ := fin (some (.exit id)) M2 h2 w2 le2 dj5 t5
       exact ⟨_, w3, r1, false, M2, _, rfl, Kn.le_trans le1 le2, r3, r4, some id, _, _, r2, rfl, rfl, q2⟩
     | goto _ => exact q2.elim
     | panic _ => exact q2.elim
     | outgrown => exact q2.elim
   | ret => exact q1.elim
   | exit _ => exact q1.elim
   | goto _ => exact q1.elim
   | panic _ => exact q1.elim
   | outgrown => exact q1.elim
  have sp := it _ _ _ ys
  -- resources
  obtain ⟨dg1, dg2⟩ := Res.dj_add_right.1 dg
  obtain ⟨q1, q2⟩ := Res.dj_add_left.1 dj
  obtain ⟨q3, q4⟩ := Res.dj_add_left.1 q2
  let D : Res := Res.one w.heap.size (.deferred (some []))
  let Lp : Res := Res.one (w.heap.size + 1) (.loop (rec .ready none))
  have dLp : Lp.dj (D.add ((g1.add (kI.add kA)).add hfr)) := one_dj f2
  have dD : D.dj ((g1.add (kI.add kA)).add hfr) := one_dj f1
  obtain ⟨a1, a2⟩ := Res.dj_add_right.1 dLp
  obtain ⟨a3, a4⟩ := Res.dj_add_right.1 a2
  obtain ⟨a5, a6⟩ := Res.dj_add_right.1 a3
  obtain ⟨a7, a8⟩ := Res.dj_add_right.1 a6
  obtain ⟨b3, b4⟩ := Res.dj_add_right.1 dD
  obtain ⟨b5, b6⟩ := Res.dj_add_right.1 b3
  obtain ⟨b7, b8⟩ := Res.dj_add_right.1 b6
  have eqr : Lp.add (D.add ((g1.add (kI.add kA)).add hfr)) = ((Lp.add kI).add kA).add ((D.add g1).add hfr) := by
   funext i
   simp only [Res.add]
   have c1 := b7 i; have c2 := b8 i; have c3 := b5 i; have c4 := dg1 i; have c5 := dg2 i
   revert c1 c2 c3 c4 c5
   cases Lp i <;> cases D i <;> cases g1 i <;> cases kI i <;> cases kA i <;> simp
  have tL' : Sat W1 M (((Lp.add kI).add kA).add ((D.add g1).add hfr)) := by rw [← eqr]; exact tL
  have djr : ((Lp.add kI).add kA).dj ((D.add g1).add hfr) := by
   refine Res.dj_add_left.2 ⟨Res.dj_add_left.2 ⟨?_, ?_⟩, ?_⟩
   · exact Res.dj_add_right.2 ⟨Res.dj_add_right.2 ⟨a1, a5⟩, a4⟩
   · exact Res.dj_add_right.2 ⟨Res.dj_add_right.2 ⟨Res.dj_comm b7, Res.dj_comm dg1⟩, q3⟩
   · exact Res.dj_add_right.2 ⟨Res.dj_add_right.2 ⟨Res.dj_comm b8, Res.dj_comm dg2⟩, q4⟩
  have cc := sp.calls W1 M ((Lp.add kI).add kA) ((D.add g1).add hfr) djr tL' ⟨Lp.add kI, kA, Res.dj_add_left.2 ⟨a8, dIA⟩, rfl, ⟨Lp, kI, a7, rfl, rfl, sI⟩, sA⟩
  have hargs : (Value.func (.yield (w.heap.size + 1)) #[] #[] :: lb).toArray = #[.func (.yield (w.heap.size + 1)) #[] #[]] ++ lb.toArray := by simp
  rw [hargs] at cc
  refine CallsIn.mono (F := WF none) cc ?_
  rintro ee w3 ⟨x, M3, h3, rfl, hx, le3, dj3, t3, s3⟩
  have stN : ∀ (o : Obj) (Gs : List HP) (m : Res), (Res.one (w.heap.size + 1) o).dj m → ((Res.one (w.heap.size + 1) o).add m).dj ((D.add g1).add hfr) → Sat w3 M3 (((Res.one (w.heap.size + 1) o).add m).add ((D.add g1).add hfr)) → SL Gs M3 m → ∀ o' : Obj,
      St n L Gs { a with defers := [{ target := .collected w.heap.size, args := #[] }] ++ a.defers } M3 ((D.add g1).add m) ∧ ((D.add g1).add m).dj hfr ∧ Sat (w3.putObj (w.heap.size + 1) o') M3 (((D.add g1).add m).add hfr) := by
   intro o Gs m dom djm tm sm o'
   obtain ⟨u1, u2⟩ := Res.dj_add_left.1 djm
   obtain ⟨u3, u4⟩ := Res.dj_add_right.1 u2
   obtain ⟨u5, u6⟩ := Res.dj_add_right.1 u3
   obtain ⟨u7, u8⟩ := Res.dj_add_right.1 u1
   refine ⟨⟨fr, D.add g1, m, Res.dj_comm u3, rfl, ?_, sm⟩, Res.dj_add_left.2 ⟨Res.dj_add_left.2 ⟨b4, q1⟩, u4⟩, ?_⟩
   · refine ⟨D, g1, b5, rfl, ⟨w.heap.size, Res.emp, D, Res.emp_dj _, rfl, rfl, D, Res.emp, Res.dj_emp _, (Res.add_emp _).symm, rfl, trivial⟩, SL.mono le3 sd⟩
   · rw [Res.add_assoc] at tm
     have dX : (Res.one (w.heap.size + 1) o).dj (m.add ((D.add g1).add hfr)) := Res.dj_add_right.2 ⟨dom, u1⟩
     have t7 := Sat.putObj (o' := o') dX tm
     have eq7 : m.add ((D.add g1).add hfr) = ((D.add g1).add m).add hfr := by rw [← Res.add_assoc, Res.add_comm u3]
     rw [eq7] at t7
     exact t7.le (Res.le_add_right (by rw [← eq7]; exact dj_one_any dX))
  obtain ⟨x, all⟩ := x
  obtain ⟨hx, hfin⟩ := hx
  dsimp only at hx hfin s3 ⊢
  obtain ⟨m1, m2, dm, e, sm1, sm2⟩ := s3
  subst e
  cases x with
  | none =>
    obtain ⟨o1, o2, do12, e, ho1, so2⟩ := sm1
    have ho1' : o1 = Res.one _ _ := ho1
    subst ho1'
    subst e
    have hb : w3.heap[w.heap.size + 1]? = some (.loop (rec .ready none)) := t3.ow _ _ (by simp [Res.add, Res.one])
    refine ⟨none, _, by have := run_endLoop (P := P) hb (by rw [hrec]; simp); rw [hrec] at this; exact this, ?_⟩
    obtain ⟨v1, v2⟩ := Res.dj_add_left.1 dm
    rw [Res.add_assoc (Res.one _ _) o2 m2] at t3 dj3
    obtain ⟨w1, w2, w4⟩ := stN _ (I all ++ Bs) (o2.add m2) (Res.dj_add_right.2 ⟨do12, v1⟩) dj3 t3 (SL.append v2 so2 sm2) (.loop { rec .ready none with state := .exhausted })
    have := done all (hfin rfl) _ M3 _ w1
    rw [hrec] at w4
    exact ⟨M3, _, le3, w2, w4, this⟩
  | some pre =>
    obtain ⟨j, o1, o2, do12, e, ho1, so2⟩ := sm1
    have ho1' : o1 = Res.one _ _ := ho1
    subst ho1'
    subst e
    have hb : w3.heap[w.heap.size + 1]? = some (.loop (rec .done (some (jc j)))) := t3.ow _ _ (by simp [Res.add, Res.one])
    refine ⟨some (jc j), _, by have := run_endLoop (P := P) hb (by rw [hrec]; simp); rw [hrec] at this; exact this, ?_⟩
    obtain ⟨v1, v2⟩ := Res.dj_add_left.1 dm
    rw [Res.add_assoc (Res.one _ _) o2 m2] at t3 dj3
    obtain ⟨w1, w2, w4⟩ := stN _ (Ix j pre ++ Bs) (o2.add m2) (Res.dj_add_right.2 ⟨do12, v1⟩) dj3 t3 (SL.append v2 so2 sm2) (.loop { rec .done (some (jc j)) with state := .exhausted })
    rw [hrec] at w4
    exact wpIn_mono (stop j pre (hx pre rfl) _ M3 _ w1 _ _ w2 w4) (fun _ _ _ q => lift_le le3 q)
theorem p_rangeFunc {α : Type} {g : Nat} {lb : List Value} {enc : α → List Value} {ok : List α → α → Prop} {stopped : List α → Prop} {As Bs : List HP} {all : List α} {val : Option (List α) → Value}
    (I : List α → List HP) (Ix : Option Nat → List α → List HP) (hc : c = .rangeFunc (rF c) (rP c) (rA c) (rB c))
    (it : Iter P g lb enc ok stopped As Bs all val)
    (hf : ev L (rF c) = some (.func (.func g) #[] lb.toArray))
    (hps : ∀ x, (enc x).length = (rP c).size) (hpn : (rP c).toList.all (fun p => Nat.blt p n) = true)
    (ha : Ent Hs (I [] ++ As))
    (round : ∀ (l : Nat) (pre : List α) (x : α), ok pre x → wc (some l) P n (rA c) (bindL (rP c).toList (enc x) L) (I pre) (asgO (some l) P (rB c) (roundO I Ix (pre ++ [x]))))
    (done : tw n Q .normal L (I all ++ Bs))
    (stop : ∀ (j : Option Nat) (pre : List α), stopped pre → wc none P n (jc j) L (Ix j pre ++ Bs) Q) : wc none P n c L Hs Q := by
 rw [hc]; exact wc_rangeFunc I Ix hf it.toU hps hpn ha round (fun l e => by subst e; exact done) stop
theorem p_rangeFuncU {α : Type} {g : Nat} {lb : List Value} {enc : α → List Value} {ok : List α → α → Prop} {stopped : List α → Prop} {As Bs : List HP} {fin : List α → Prop} {val : Option (List α) → Value}
    (I : List α → List HP) (Ix : Option Nat → List α → List HP) (hc : c = .rangeFunc (rF c) (rP c) (rA c) (rB c))
    (it : IterU P g lb enc ok stopped As Bs fin val)
    (hf : ev L (rF c) = some (.func (.func g) #[] lb.toArray))
    (hps : ∀ x, (enc x).length = (rP c).size) (hpn : (rP c).toList.all (fun p => Nat.blt p n) = true)
    (ha : Ent Hs (I [] ++ As))
    (round : ∀ (l : Nat) (pre : List α) (x : α), ok pre x → wc (some l) P n (rA c) (bindL (rP c).toList (enc x) L) (I pre) (asgO (some l) P (rB c) (roundO I Ix (pre ++ [x]))))
    (done : ∀ all, fin all → tw n Q .normal L (I all ++ Bs))
    (stop : ∀ (j : Option Nat) (pre : List α), stopped pre → wc none P n (jc j) L (Ix j pre ++ Bs) Q) : wc none P n c L Hs Q := by
 rw [hc]; exact wc_rangeFunc I Ix hf it hps hpn ha round done stop
/-- A call of yield. -/
theorem opt_yield {α : Type} {y : Value} {enc : α → List Value} {ok : List α → α → Prop} {J Jx : List α → HP} (ys : YSpec P y enc ok J Jx) (pre : List α) (x : α) (hok : ok pre x) {dst : Option Tmp} {f : Operand} {args : Array Operand} {ts : Array TypeId} (hf : ev L f = some y) (ha : evs L args.toList = some (enc x)) :
    OpT r P n ⟨dst, .call ⟨.value f, args, ts⟩, ty, pos, after, none⟩ A L [J pre] (fun b : Bool => .bool b) (fun _ => True) (fun b => [if b then J (pre ++ [x]) else Jx (pre ++ [x])]) := by
 intro a fr w M h hA hfr dj dj' s sA t
 obtain ⟨l, rfl, hy⟩ := ys
 obtain ⟨k1, k2, dk, e, hj, _⟩ := s
 subst e
 obtain ⟨x1, x2⟩ := Res.dj_add_left.1 dj'
 obtain ⟨x3, x4⟩ := Res.dj_add_left.1 x1
 obtain ⟨y1, y2⟩ := Res.dj_add_left.1 dj
 have t2 : Sat w M (k1.add ((k2.add hA).add hfr)) := by
  have : ((k1.add k2).add hA).add hfr = k1.add ((k2.add hA).add hfr) := by simp only [Res.add_assoc]
  rw [← this]; exact t
 obtain ⟨fn, tmps, assign, body, h1, h2⟩ := hy pre x hok w M k1 ((k2.add hA).add hfr) (Res.dj_add_right.2 ⟨Res.dj_add_right.2 ⟨dk, y1⟩, x3⟩) t2 hj
 have hargs : args.map a.eval = (enc x).toArray := by
  have := fr.evs _ ha
  apply Array.ext'
  simp [this]
 have hrun : (execOp a.eval ⟨dst, .call ⟨.value f, args, ts⟩, ty, pos, after, none⟩).run P w = .ok (.round l fn tmps assign body) w := by
  simp only [execOp, resolve, fr.ev hf, Deferred.ofValue, hargs, Sem.run_bind, Sem.run_pure, Result.andThen_ok, invoke]
  simp [go_sem, h1]
 rw [hrun]
 refine RoundIn.mono (F := WF none) h2 ?_
 rintro e w' ⟨b, M', h', rfl, le, dj3, t3, hb⟩
 obtain ⟨z1, z2⟩ := Res.dj_add_right.1 dj3
 obtain ⟨z3, z4⟩ := Res.dj_add_right.1 z1
 refine ⟨_, rfl, b, M', h', rfl, trivial, le, z4, Res.dj_add_left.2 ⟨z2, x2⟩, ?_, h', Res.emp, Res.dj_emp _, (Res.add_emp _).symm, hb, trivial⟩
 refine t3.le ?_
 intro i o e
 have e1 : ((h'.add hA).add hfr) i = some o := e
 simp only [Res.add] at e1 ⊢
 cases c1 : h' i with
 | some u => rw [c1] at e1; simpa using e1
 | none =>
   rw [c1] at e1
   cases c2 : hA i with
   | some u =>
     rw [c2] at e1
     have := y2 i
     rw [c2] at this
     simp at this
     simp [this]; simpa using e1
   | none =>
     rw [c2] at e1
     have := x4 i
     simp at e1
     rw [e1] at this
     simp at this
     simp [this, e1]
theorem r_yield {α : Type} {y : Value} {enc : α → List Value} {ok : List α → α → Prop} {J Jx : List α → HP} (ys : YSpec P y enc ok J Jx) (pre : List α) (x : α) (hok : ok pre x) {f : Operand} {args : Array Operand} {ts : Array TypeId} (hf : ev L f = some y) (ha : evs L args.toList = some (enc x)) (hd : Nat.blt d n = true)
    {Rs : List HP} [hp : PickC (J pre) Hs Rs] (kt : wo r P n ops os ((d, .bool true) :: L) (J (pre ++ [x]) :: Rs) Q) (kf : wo r P n ops os ((d, .bool false) :: L) (Jx (pre ++ [x]) :: Rs) Q) :
    wo r P n ops (⟨some d, .call ⟨.value f, args, ts⟩, ty, pos, after, none⟩ :: os) L Hs Q := by
 haveI : PicksC [J pre] Hs Rs := ⟨.cons hp.get .nil⟩
 refine wo_opT (by intro c; simp) (opt_yield ys pre x hok hf ha) (by simpa [dstOk] using hd) (fun b _ => ?_)
 cases b
 · exact kf
 · exact kt
end
end
theorem ti3 : Tryz.prog.info? 3 = some Tryz.t3 := by kernel_rfl
instance ui3 : UndC Tryz.prog 3 Tryz.t3.desc := ⟨Tryz.underlying3⟩
instance ii3 : InfC Tryz.prog 3 Tryz.t3 := ⟨ti3⟩
theorem ti4 : Tryz.prog.info? 4 = some Tryz.t4 := by kernel_rfl
instance ui4 : UndC Tryz.prog 4 Tryz.t4.desc := ⟨Tryz.underlying4⟩
instance ii4 : InfC Tryz.prog 4 Tryz.t4 := ⟨ti4⟩
theorem ti5 : Tryz.prog.info? 5 = some Tryz.t5 := by kernel_rfl
instance ui5 : UndC Tryz.prog 5 Tryz.t5.desc := ⟨Tryz.underlying5⟩
instance ii5 : InfC Tryz.prog 5 Tryz.t5 := ⟨ti5⟩
theorem ti9 : Tryz.prog.info? 9 = some Tryz.t9 := by kernel_rfl
instance ui9 : UndC Tryz.prog 9 Tryz.t9.desc := ⟨Tryz.underlying9⟩
instance ii9 : InfC Tryz.prog 9 Tryz.t9 := ⟨ti9⟩
theorem ti20 : Tryz.prog.info? 20 = some Tryz.t20 := by kernel_rfl
instance ui20 : UndC Tryz.prog 20 Tryz.t20.desc := ⟨Tryz.underlying20⟩
instance ii20 : InfC Tryz.prog 20 Tryz.t20 := ⟨ti20⟩
theorem ti25 : Tryz.prog.info? 25 = some Tryz.t25 := by kernel_rfl
instance ui25 : UndC Tryz.prog 25 Tryz.t24.desc := ⟨Tryz.underlying25⟩
instance ii25 : InfC Tryz.prog 25 Tryz.t25 := ⟨ti25⟩
theorem ti26 : Tryz.prog.info? 26 = some Tryz.t26 := by kernel_rfl
instance ui26 : UndC Tryz.prog 26 Tryz.t26.desc := ⟨Tryz.underlying26⟩
instance ii26 : InfC Tryz.prog 26 Tryz.t26 := ⟨ti26⟩
theorem ti27 : Tryz.prog.info? 27 = some Tryz.t27 := by kernel_rfl
instance ui27 : UndC Tryz.prog 27 Tryz.t27.desc := ⟨Tryz.underlying27⟩
instance ii27 : InfC Tryz.prog 27 Tryz.t27 := ⟨ti27⟩
theorem ti28 : Tryz.prog.info? 28 = some Tryz.t28 := by kernel_rfl
instance ui28 : UndC Tryz.prog 28 Tryz.t28.desc := ⟨Tryz.underlying28⟩
instance ii28 : InfC Tryz.prog 28 Tryz.t28 := ⟨ti28⟩
theorem ti30 : Tryz.prog.info? 30 = some Tryz.t30 := by kernel_rfl
instance ui30 : UndC Tryz.prog 30 Tryz.t29.desc := ⟨Tryz.underlying30⟩
instance ii30 : InfC Tryz.prog 30 Tryz.t30 := ⟨ti30⟩
theorem ti31 : Tryz.prog.info? 31 = some Tryz.t31 := by kernel_rfl
instance ui31 : UndC Tryz.prog 31 Tryz.t31.desc := ⟨Tryz.underlying31⟩
instance ii31 : InfC Tryz.prog 31 Tryz.t31 := ⟨ti31⟩
theorem ti32 : Tryz.prog.info? 32 = some Tryz.t32 := by kernel_rfl
instance ui32 : UndC Tryz.prog 32 Tryz.t32.desc := ⟨Tryz.underlying32⟩
instance ii32 : InfC Tryz.prog 32 Tryz.t32 := ⟨ti32⟩
theorem ti34 : Tryz.prog.info? 34 = some Tryz.t34 := by kernel_rfl
instance ui34 : UndC Tryz.prog 34 Tryz.t34.desc := ⟨Tryz.underlying34⟩
instance ii34 : InfC Tryz.prog 34 Tryz.t34 := ⟨ti34⟩
theorem ti37 : Tryz.prog.info? 37 = some Tryz.t37 := by kernel_rfl
instance ui37 : UndC Tryz.prog 37 Tryz.t36.desc := ⟨Tryz.underlying37⟩
instance ii37 : InfC Tryz.prog 37 Tryz.t37 := ⟨ti37⟩
theorem ti39 : Tryz.prog.info? 39 = some Tryz.t39 := by kernel_rfl
instance ui39 : UndC Tryz.prog 39 Tryz.t38.desc := ⟨Tryz.underlying39⟩
instance ii39 : InfC Tryz.prog 39 Tryz.t39 := ⟨ti39⟩
theorem ti47 : Tryz.prog.info? 47 = some Tryz.t47 := by kernel_rfl
instance ui47 : UndC Tryz.prog 47 Tryz.t46.desc := ⟨Tryz.underlying47⟩
instance ii47 : InfC Tryz.prog 47 Tryz.t47 := ⟨ti47⟩
theorem ti56 : Tryz.prog.info? 56 = some Tryz.t56 := by kernel_rfl
instance ui56 : UndC Tryz.prog 56 Tryz.t56.desc := ⟨Tryz.underlying56⟩
instance ii56 : InfC Tryz.prog 56 Tryz.t56 := ⟨ti56⟩
theorem ti60 : Tryz.prog.info? 60 = some Tryz.t60 := by kernel_rfl
instance ui60 : UndC Tryz.prog 60 Tryz.t59.desc := ⟨Tryz.underlying60⟩
instance ii60 : InfC Tryz.prog 60 Tryz.t60 := ⟨ti60⟩
theorem ti63 : Tryz.prog.info? 63 = some Tryz.t63 := by kernel_rfl
instance ui63 : UndC Tryz.prog 63 Tryz.t62.desc := ⟨Tryz.underlying63⟩
instance ii63 : InfC Tryz.prog 63 Tryz.t63 := ⟨ti63⟩
theorem ti64 : Tryz.prog.info? 64 = some Tryz.t64 := by kernel_rfl
instance ui64 : UndC Tryz.prog 64 Tryz.t64.desc := ⟨Tryz.underlying64⟩
instance ii64 : InfC Tryz.prog 64 Tryz.t64 := ⟨ti64⟩
theorem ti70 : Tryz.prog.info? 70 = some Tryz.t70 := by kernel_rfl
instance ui70 : UndC Tryz.prog 70 Tryz.t69.desc := ⟨Tryz.underlying70⟩
instance ii70 : InfC Tryz.prog 70 Tryz.t70 := ⟨ti70⟩
theorem ti71 : Tryz.prog.info? 71 = some Tryz.t71 := by kernel_rfl
instance ui71 : UndC Tryz.prog 71 Tryz.t71.desc := ⟨Tryz.underlying71⟩
instance ii71 : InfC Tryz.prog 71 Tryz.t71 := ⟨ti71⟩
theorem ti77 : Tryz.prog.info? 77 = some Tryz.t77 := by kernel_rfl
instance ui77 : UndC Tryz.prog 77 Tryz.t77.desc := ⟨Tryz.underlying77⟩
instance ii77 : InfC Tryz.prog 77 Tryz.t77 := ⟨ti77⟩
theorem ti80 : Tryz.prog.info? 80 = some Tryz.t80 := by kernel_rfl
instance ui80 : UndC Tryz.prog 80 Tryz.t80.desc := ⟨Tryz.underlying80⟩
instance ii80 : InfC Tryz.prog 80 Tryz.t80 := ⟨ti80⟩
theorem ti82 : Tryz.prog.info? 82 = some Tryz.t82 := by kernel_rfl
instance ui82 : UndC Tryz.prog 82 Tryz.t81.desc := ⟨Tryz.underlying82⟩
instance ii82 : InfC Tryz.prog 82 Tryz.t82 := ⟨ti82⟩
theorem ti87 : Tryz.prog.info? 87 = some Tryz.t87 := by kernel_rfl
instance ui87 : UndC Tryz.prog 87 Tryz.t87.desc := ⟨Tryz.underlying87⟩
instance ii87 : InfC Tryz.prog 87 Tryz.t87 := ⟨ti87⟩
theorem ti90 : Tryz.prog.info? 90 = some Tryz.t90 := by kernel_rfl
instance ui90 : UndC Tryz.prog 90 Tryz.t89.desc := ⟨Tryz.underlying90⟩
instance ii90 : InfC Tryz.prog 90 Tryz.t90 := ⟨ti90⟩
theorem ti94 : Tryz.prog.info? 94 = some Tryz.t94 := by kernel_rfl
instance ui94 : UndC Tryz.prog 94 Tryz.t94.desc := ⟨Tryz.underlying94⟩
instance ii94 : InfC Tryz.prog 94 Tryz.t94 := ⟨ti94⟩
theorem ti95 : Tryz.prog.info? 95 = some Tryz.t95 := by kernel_rfl
instance ui95 : UndC Tryz.prog 95 Tryz.t95.desc := ⟨Tryz.underlying95⟩
instance ii95 : InfC Tryz.prog 95 Tryz.t95 := ⟨ti95⟩
theorem ti96 : Tryz.prog.info? 96 = some Tryz.t96 := by kernel_rfl
instance ui96 : UndC Tryz.prog 96 Tryz.t96.desc := ⟨Tryz.underlying96⟩
instance ii96 : InfC Tryz.prog 96 Tryz.t96 := ⟨ti96⟩
theorem ti97 : Tryz.prog.info? 97 = some Tryz.t97 := by kernel_rfl
instance ui97 : UndC Tryz.prog 97 Tryz.t97.desc := ⟨Tryz.underlying97⟩
instance ii97 : InfC Tryz.prog 97 Tryz.t97 := ⟨ti97⟩
theorem ti99 : Tryz.prog.info? 99 = some Tryz.t99 := by kernel_rfl
instance ui99 : UndC Tryz.prog 99 Tryz.t99.desc := ⟨Tryz.underlying99⟩
instance ii99 : InfC Tryz.prog 99 Tryz.t99 := ⟨ti99⟩
theorem ti101 : Tryz.prog.info? 101 = some Tryz.t101 := by kernel_rfl
instance ui101 : UndC Tryz.prog 101 Tryz.t100.desc := ⟨Tryz.underlying101⟩
instance ii101 : InfC Tryz.prog 101 Tryz.t101 := ⟨ti101⟩
theorem ti107 : Tryz.prog.info? 107 = some Tryz.t107 := by kernel_rfl
instance ui107 : UndC Tryz.prog 107 Tryz.t107.desc := ⟨Tryz.underlying107⟩
instance ii107 : InfC Tryz.prog 107 Tryz.t107 := ⟨ti107⟩
theorem ti125 : Tryz.prog.info? 125 = some Tryz.t125 := by kernel_rfl
instance ui125 : UndC Tryz.prog 125 Tryz.t124.desc := ⟨Tryz.underlying125⟩
instance ii125 : InfC Tryz.prog 125 Tryz.t125 := ⟨ti125⟩
theorem ti137 : Tryz.prog.info? 137 = some Tryz.t137 := by kernel_rfl
instance ui137 : UndC Tryz.prog 137 Tryz.t137.desc := ⟨Tryz.underlying137⟩
instance ii137 : InfC Tryz.prog 137 Tryz.t137 := ⟨ti137⟩
theorem ti138 : Tryz.prog.info? 138 = some Tryz.t138 := by kernel_rfl
instance ui138 : UndC Tryz.prog 138 Tryz.t138.desc := ⟨Tryz.underlying138⟩
instance ii138 : InfC Tryz.prog 138 Tryz.t138 := ⟨ti138⟩
theorem ti140 : Tryz.prog.info? 140 = some Tryz.t140 := by kernel_rfl
instance ui140 : UndC Tryz.prog 140 Tryz.t139.desc := ⟨Tryz.underlying140⟩
instance ii140 : InfC Tryz.prog 140 Tryz.t140 := ⟨ti140⟩
theorem ti144 : Tryz.prog.info? 144 = some Tryz.t144 := by kernel_rfl
instance ui144 : UndC Tryz.prog 144 Tryz.t144.desc := ⟨Tryz.underlying144⟩
instance ii144 : InfC Tryz.prog 144 Tryz.t144 := ⟨ti144⟩
theorem ti153 : Tryz.prog.info? 153 = some Tryz.t153 := by kernel_rfl
instance ui153 : UndC Tryz.prog 153 Tryz.t152.desc := ⟨Tryz.underlying153⟩
instance ii153 : InfC Tryz.prog 153 Tryz.t153 := ⟨ti153⟩
theorem ti162 : Tryz.prog.info? 162 = some Tryz.t162 := by kernel_rfl
instance ui162 : UndC Tryz.prog 162 Tryz.t162.desc := ⟨Tryz.underlying162⟩
instance ii162 : InfC Tryz.prog 162 Tryz.t162 := ⟨ti162⟩
theorem ti170 : Tryz.prog.info? 170 = some Tryz.t170 := by kernel_rfl
instance ui170 : UndC Tryz.prog 170 Tryz.t170.desc := ⟨Tryz.underlying170⟩
instance ii170 : InfC Tryz.prog 170 Tryz.t170 := ⟨ti170⟩
theorem ti192 : Tryz.prog.info? 192 = some Tryz.t192 := by kernel_rfl
instance ui192 : UndC Tryz.prog 192 Tryz.t191.desc := ⟨Tryz.underlying192⟩
instance ii192 : InfC Tryz.prog 192 Tryz.t192 := ⟨ti192⟩
theorem ti193 : Tryz.prog.info? 193 = some Tryz.t193 := by kernel_rfl
instance ui193 : UndC Tryz.prog 193 Tryz.t193.desc := ⟨Tryz.underlying193⟩
instance ii193 : InfC Tryz.prog 193 Tryz.t193 := ⟨ti193⟩
theorem ti206 : Tryz.prog.info? 206 = some Tryz.t206 := by kernel_rfl
instance ui206 : UndC Tryz.prog 206 Tryz.t3.desc := ⟨Tryz.underlying206⟩
instance ii206 : InfC Tryz.prog 206 Tryz.t206 := ⟨ti206⟩
theorem ti216 : Tryz.prog.info? 216 = some Tryz.t216 := by kernel_rfl
instance ui216 : UndC Tryz.prog 216 Tryz.t216.desc := ⟨Tryz.underlying216⟩
instance ii216 : InfC Tryz.prog 216 Tryz.t216 := ⟨ti216⟩
theorem ti220 : Tryz.prog.info? 220 = some Tryz.t220 := by kernel_rfl
instance ui220 : UndC Tryz.prog 220 Tryz.t100.desc := ⟨Tryz.underlying220⟩
instance ii220 : InfC Tryz.prog 220 Tryz.t220 := ⟨ti220⟩
theorem ti223 : Tryz.prog.info? 223 = some Tryz.t223 := by kernel_rfl
instance ui223 : UndC Tryz.prog 223 Tryz.t223.desc := ⟨Tryz.underlying223⟩
instance ii223 : InfC Tryz.prog 223 Tryz.t223 := ⟨ti223⟩
theorem ti225 : Tryz.prog.info? 225 = some Tryz.t225 := by kernel_rfl
instance ui225 : UndC Tryz.prog 225 Tryz.t224.desc := ⟨Tryz.underlying225⟩
instance ii225 : InfC Tryz.prog 225 Tryz.t225 := ⟨ti225⟩
theorem ti253 : Tryz.prog.info? 253 = some Tryz.t253 := by kernel_rfl
instance ui253 : UndC Tryz.prog 253 Tryz.t96.desc := ⟨Tryz.underlying253⟩
instance ii253 : InfC Tryz.prog 253 Tryz.t253 := ⟨ti253⟩
theorem ti257 : Tryz.prog.info? 257 = some Tryz.t257 := by kernel_rfl
instance ui257 : UndC Tryz.prog 257 Tryz.t257.desc := ⟨Tryz.underlying257⟩
instance ii257 : InfC Tryz.prog 257 Tryz.t257 := ⟨ti257⟩
theorem ti263 : Tryz.prog.info? 263 = some Tryz.t263 := by kernel_rfl
instance ui263 : UndC Tryz.prog 263 Tryz.t263.desc := ⟨Tryz.underlying263⟩
instance ii263 : InfC Tryz.prog 263 Tryz.t263 := ⟨ti263⟩
theorem ti278 : Tryz.prog.info? 278 = some Tryz.t278 := by kernel_rfl
instance ui278 : UndC Tryz.prog 278 Tryz.t278.desc := ⟨Tryz.underlying278⟩
instance ii278 : InfC Tryz.prog 278 Tryz.t278 := ⟨ti278⟩
theorem ti280 : Tryz.prog.info? 280 = some Tryz.t280 := by kernel_rfl
instance ui280 : UndC Tryz.prog 280 Tryz.t280.desc := ⟨Tryz.underlying280⟩
instance ii280 : InfC Tryz.prog 280 Tryz.t280 := ⟨ti280⟩
end Go.Proofs.YtdnoacgopfcpbaaGreat
/- The library's contracts at this translation, printed by the kit's tools; remarks taken out. -/
namespace Go.Proofs
open Go.Shelf
def Tryz.lays125_ren : Go.Shelf.Ren := ⟨fun | 125 => 101 | 128 => 146 | 129 => 147 | n => n, fun | 46 => 97 | 3 => 3 | 51 => 94 | 53 => 96 | 4 => 4 | 5 => 5 | 9 => 9 | n => n, fun | n => n⟩
theorem Tryz.lays125 : Go.Proofs.Lays.n125 Tryz.prog Tryz.lays125_ren := {
 mixed := by kernel_rfl
 f125 := Tryz.func101.trans (congrArg some (by kernel_rfl))
 f128 := Tryz.func146.trans (congrArg some (by kernel_rfl))
 f129 := Tryz.func147.trans (congrArg some (by kernel_rfl))
 t3 := Tryz.underlying3
 a3 := Tryz.isAgg3
 z3 := Tryz.sizeOf3
 v3 := Tryz.zeroValue3
 t4 := Tryz.underlying4
 a4 := Tryz.isAgg4
 z4 := Tryz.sizeOf4
 v4 := Tryz.zeroValue4
 t5 := Tryz.underlying5
 a5 := Tryz.isAgg5
 z5 := Tryz.sizeOf5
 v5 := Tryz.zeroValue5
 t9 := Tryz.underlying9
 a9 := Tryz.isAgg9
 z9 := Tryz.sizeOf9
 v9 := Tryz.zeroValue9
 t46 := Tryz.underlying97
 a46 := Tryz.isAgg97
 z46 := Tryz.sizeOf97
 v46 := Tryz.zeroValue97
 t51 := Tryz.underlying94
 a51 := Tryz.isAgg94
 z51 := Tryz.sizeOf94
 v51 := Tryz.zeroValue94
 t53 := Tryz.underlying96
 a53 := Tryz.isAgg96
 z53 := Tryz.sizeOf96
 v53 := Tryz.zeroValue96 }
theorem Tryz.bits_Len (x : Int) (w : World) (h0 : 0 ≤ x) (h1 : x ≤ 18446744073709551615) :
    Calls Tryz.prog 101 #[.int .u64 x] w fun e w' => e = .returned (.int .i64 (Lib.bitLen x.toNat)) ∧ w' = w := Any.bits_Len Tryz.lays125 x w h0 h1
def Tryz.lays137_ren : Go.Shelf.Ren := ⟨fun | 137 => 229 | 217 => 237 | 266 => 245 | n => n, fun | 9 => 9 | 5 => 5 | 3 => 3 | n => n, fun | n => n⟩
theorem Tryz.lays137 : Go.Proofs.Lays.n137 Tryz.prog Tryz.lays137_ren := {
 mixed := by kernel_rfl
 f137 := Tryz.func229.trans (congrArg some (by kernel_rfl))
 f217 := Tryz.func237.trans (congrArg some (by kernel_rfl))
 f266 := Tryz.func245.trans (congrArg some (by kernel_rfl))
 t3 := Tryz.underlying3
 a3 := Tryz.isAgg3
 z3 := Tryz.sizeOf3
 v3 := Tryz.zeroValue3
 t5 := Tryz.underlying5
 a5 := Tryz.isAgg5
 z5 := Tryz.sizeOf5
 v5 := Tryz.zeroValue5
 t9 := Tryz.underlying9
 a9 := Tryz.isAgg9
 z9 := Tryz.sizeOf9
 v9 := Tryz.zeroValue9 }
open Go.RowKit in
theorem Tryz.strings_IndexByte (s : ByteArray) (c : Int) (w : World) :
    Calls Tryz.prog 229 #[.string s, .int .u8 c] w fun e w' => e = .returned (.int .i64 (Lib.indexByte s.data.toList c.toNat.toUInt8)) ∧ w' = w := Any.strings_IndexByte Tryz.lays137 s c w
def Tryz.lays219_ren : Go.Shelf.Ren := ⟨fun | 219 => 225 | 217 => 237 | 225 => 238 | 224 => 239 | 267 => 240 | 266 => 245 | 314 => 246 | n => n, fun | 9 => 9 | 3 => 3 | 4 => 4 | 5 => 5 | 46 => 97 | 146 => 287 | 51 => 94 | n => n, fun | 1 => 0 | n => n⟩
theorem Tryz.lays219 : Go.Proofs.Lays.n219 Tryz.prog Tryz.lays219_ren := {
 mixed := by kernel_rfl
 f217 := Tryz.func237.trans (congrArg some (by kernel_rfl))
 f219 := Tryz.func225.trans (congrArg some (by kernel_rfl))
 f224 := Tryz.func239.trans (congrArg some (by kernel_rfl))
 f225 := Tryz.func238.trans (congrArg some (by kernel_rfl))
 f266 := Tryz.func245.trans (congrArg some (by kernel_rfl))
 f267 := Tryz.func240.trans (congrArg some (by kernel_rfl))
 f314 := Tryz.func246.trans (congrArg some (by kernel_rfl))
 t3 := Tryz.underlying3
 a3 := Tryz.isAgg3
 z3 := Tryz.sizeOf3
 v3 := Tryz.zeroValue3
 t4 := Tryz.underlying4
 a4 := Tryz.isAgg4
 z4 := Tryz.sizeOf4
 v4 := Tryz.zeroValue4
 t5 := Tryz.underlying5
 a5 := Tryz.isAgg5
 z5 := Tryz.sizeOf5
 v5 := Tryz.zeroValue5
 t9 := Tryz.underlying9
 a9 := Tryz.isAgg9
 z9 := Tryz.sizeOf9
 v9 := Tryz.zeroValue9
 t46 := Tryz.underlying97
 a46 := Tryz.isAgg97
 z46 := Tryz.sizeOf97
 v46 := Tryz.zeroValue97
 t51 := Tryz.underlying94
 a51 := Tryz.isAgg94
 z51 := Tryz.sizeOf94
 v51 := Tryz.zeroValue94
 t146 := Tryz.underlying287
 a146 := Tryz.isAgg287
 z146 := Tryz.sizeOf287
 v146 := Tryz.zeroValue287
 g1 := by kernel_rfl }
open Go.RowKit Go.Lib in
theorem Tryz.stringslite_Index_one (s : ByteArray) (c : UInt8) (w : World) :
    Calls Tryz.prog 225 #[.string s, .string ⟨#[c]⟩] w fun e w' => e = .returned (.int .i64 (Lib.indexByte s.data.toList c)) ∧ w' = w := Any.stringslite_Index_one Tryz.lays219 s c w
def Tryz.lays144_ren : Go.Shelf.Ren := ⟨fun | 144 => 226 | 143 => 241 | 219 => 225 | 217 => 237 | 225 => 238 | 224 => 239 | 267 => 240 | 266 => 245 | 314 => 246 | n => n, fun | 9 => 9 | 4 => 4 | 3 => 3 | 5 => 5 | 46 => 97 | 146 => 287 | 51 => 94 | n => n, fun | 1 => 0 | n => n⟩
theorem Tryz.lays144 : Go.Proofs.Lays.n144 Tryz.prog Tryz.lays144_ren := {
 mixed := by kernel_rfl
 f143 := Tryz.func241.trans (congrArg some (by kernel_rfl))
 f144 := Tryz.func226.trans (congrArg some (by kernel_rfl))
 f217 := Tryz.func237.trans (congrArg some (by kernel_rfl))
 f219 := Tryz.func225.trans (congrArg some (by kernel_rfl))
 f224 := Tryz.func239.trans (congrArg some (by kernel_rfl))
 f225 := Tryz.func238.trans (congrArg some (by kernel_rfl))
 f266 := Tryz.func245.trans (congrArg some (by kernel_rfl))
 f267 := Tryz.func240.trans (congrArg some (by kernel_rfl))
 f314 := Tryz.func246.trans (congrArg some (by kernel_rfl))
 t3 := Tryz.underlying3
 a3 := Tryz.isAgg3
 z3 := Tryz.sizeOf3
 v3 := Tryz.zeroValue3
 t4 := Tryz.underlying4
 a4 := Tryz.isAgg4
 z4 := Tryz.sizeOf4
 v4 := Tryz.zeroValue4
 t5 := Tryz.underlying5
 a5 := Tryz.isAgg5
 z5 := Tryz.sizeOf5
 v5 := Tryz.zeroValue5
 t9 := Tryz.underlying9
 a9 := Tryz.isAgg9
 z9 := Tryz.sizeOf9
 v9 := Tryz.zeroValue9
 t46 := Tryz.underlying97
 a46 := Tryz.isAgg97
 z46 := Tryz.sizeOf97
 v46 := Tryz.zeroValue97
 t51 := Tryz.underlying94
 a51 := Tryz.isAgg94
 z51 := Tryz.sizeOf94
 v51 := Tryz.zeroValue94
 t146 := Tryz.underlying287
 a146 := Tryz.isAgg287
 z146 := Tryz.sizeOf287
 v146 := Tryz.zeroValue287
 g1 := by kernel_rfl }
open Go.RowKit Go.Lib in
theorem Tryz.strings_Contains_one (s : ByteArray) (c : UInt8) (w : World) :
    Calls Tryz.prog 226 #[.string s, .string ⟨#[c]⟩] w fun e w' => e = .returned (.bool (decide (0 ≤ Lib.indexByte s.data.toList c))) ∧ w' = w := Any.strings_Contains_one Tryz.lays144 s c w
def Tryz.lays190_ren : Go.Shelf.Ren := ⟨fun | 190 => 85 | 125 => 101 | 258 => 132 | 128 => 146 | 129 => 147 | 302 => 181 | 303 => 182 | 304 => 183 | 305 => 184 | 306 => 185 | 307 => 186 | 308 => 187 | 309 => 188 | 310 => 189 | 333 => 218 | 329 => 193 | 330 => 194 | 334 => 219 | 335 => 220 | 336 => 102 | 344 => 233 | n => n, fun | 31 => 27 | 9 => 9 | 3 => 3 | 46 => 97 | 0 => 0 | 51 => 94 | 53 => 96 | 4 => 4 | 183 => 207 | 182 => 206 | 131 => 167 | 5 => 5 | 218 => 253 | 222 => 257 | 228 => 273 | 229 => 274 | n => n, fun | n => n⟩
theorem Tryz.lays190 : Go.Proofs.Lays.n190 Tryz.prog Tryz.lays190_ren := {
 mixed := by kernel_rfl
 f125 := Tryz.func101.trans (congrArg some (by kernel_rfl))
 f128 := Tryz.func146.trans (congrArg some (by kernel_rfl))
 f129 := Tryz.func147.trans (congrArg some (by kernel_rfl))
 f190 := Tryz.func85.trans (congrArg some (by kernel_rfl))
 f258 := Tryz.func132.trans (congrArg some (by kernel_rfl))
 f302 := Tryz.func181.trans (congrArg some (by kernel_rfl))
 f303 := Tryz.func182.trans (congrArg some (by kernel_rfl))
 f304 := Tryz.func183.trans (congrArg some (by kernel_rfl))
 f305 := Tryz.func184.trans (congrArg some (by kernel_rfl))
 f306 := Tryz.func185.trans (congrArg some (by kernel_rfl))
 f307 := Tryz.func186.trans (congrArg some (by kernel_rfl))
 f308 := Tryz.func187.trans (congrArg some (by kernel_rfl))
 f309 := Tryz.func188.trans (congrArg some (by kernel_rfl))
 f310 := Tryz.func189.trans (congrArg some (by kernel_rfl))
 f329 := Tryz.func193.trans (congrArg some (by kernel_rfl))
 f330 := Tryz.func194.trans (congrArg some (by kernel_rfl))
 f333 := Tryz.func218.trans (congrArg some (by kernel_rfl))
 f334 := Tryz.func219.trans (congrArg some (by kernel_rfl))
 f335 := Tryz.func220.trans (congrArg some (by kernel_rfl))
 f336 := Tryz.func102.trans (congrArg some (by kernel_rfl))
 f344 := Tryz.func233.trans (congrArg some (by kernel_rfl))
 t0 := Tryz.underlying0
 a0 := Tryz.isAgg0
 z0 := Tryz.sizeOf0
 v0 := Tryz.zeroValue0
 t3 := Tryz.underlying3
 a3 := Tryz.isAgg3
 z3 := Tryz.sizeOf3
 v3 := Tryz.zeroValue3
 t4 := Tryz.underlying4
 a4 := Tryz.isAgg4
 z4 := Tryz.sizeOf4
 v4 := Tryz.zeroValue4
 t5 := Tryz.underlying5
 a5 := Tryz.isAgg5
 z5 := Tryz.sizeOf5
 v5 := Tryz.zeroValue5
 t9 := Tryz.underlying9
 a9 := Tryz.isAgg9
 z9 := Tryz.sizeOf9
 v9 := Tryz.zeroValue9
 t31 := Tryz.underlying27
 a31 := Tryz.isAgg27
 z31 := Tryz.sizeOf27
 v31 := Tryz.zeroValue27
 t46 := Tryz.underlying97
 a46 := Tryz.isAgg97
 z46 := Tryz.sizeOf97
 v46 := Tryz.zeroValue97
 t51 := Tryz.underlying94
 a51 := Tryz.isAgg94
 z51 := Tryz.sizeOf94
 v51 := Tryz.zeroValue94
 t53 := Tryz.underlying96
 a53 := Tryz.isAgg96
 z53 := Tryz.sizeOf96
 v53 := Tryz.zeroValue96
 t131 := Tryz.underlying167
 a131 := Tryz.isAgg167
 z131 := Tryz.sizeOf167
 v131 := Tryz.zeroValue167
 t182 := Tryz.underlying206
 a182 := Tryz.isAgg206
 z182 := Tryz.sizeOf206
 v182 := Tryz.zeroValue206
 t183 := Tryz.underlying207
 a183 := Tryz.isAgg207
 z183 := Tryz.sizeOf207
 v183 := Tryz.zeroValue207
 t218 := Tryz.underlying253
 a218 := Tryz.isAgg253
 z218 := Tryz.sizeOf253
 v218 := Tryz.zeroValue253
 t222 := Tryz.underlying257
 a222 := Tryz.isAgg257
 z222 := Tryz.sizeOf257
 v222 := Tryz.zeroValue257
 t228 := Tryz.underlying273
 a228 := Tryz.isAgg273
 z228 := Tryz.sizeOf273
 v228 := Tryz.zeroValue273
 t229 := Tryz.underlying274
 a229 := Tryz.isAgg274
 z229 := Tryz.sizeOf274
 v229 := Tryz.zeroValue274 }
open Go.Sort Go.RowKit in
theorem Tryz.slices_Sort_string (blk off cap : Nat) (ss : List (List UInt8)) (w : World) (hH : Holds encStr w blk off ss.toArray) (hblk : blk < w.heap.size) (hsz : ss.length < 4611686018427387904) :
    Calls Tryz.prog 85 #[.slice (some ⟨blk, off, none⟩) ss.length cap] w fun e w' =>
     e = .returned (.tuple #[]) ∧ ∃ n os, w' = grow (putRow encStr (Sort.ahead w n) blk off (ss.mergeSort fun x y => decide (x ≤ y)).toArray) os := Any.slices_Sort_string Tryz.lays190 blk off cap ss w hH hblk hsz
def Tryz.lays101_ren : Go.Shelf.Ren := ⟨fun | 101 => 108 | 208 => 158 | 206 => 205 | n => n, fun | 9 => 9 | 4 => 4 | 3 => 3 | n => n, fun | n => n⟩
theorem Tryz.lays101 : Go.Proofs.Lays.n101 Tryz.prog Tryz.lays101_ren := {
 mixed := by kernel_rfl
 f101 := Tryz.func108.trans (congrArg some (by kernel_rfl))
 f206 := Tryz.func205.trans (congrArg some (by kernel_rfl))
 f208 := Tryz.func158.trans (congrArg some (by kernel_rfl))
 t3 := Tryz.underlying3
 a3 := Tryz.isAgg3
 z3 := Tryz.sizeOf3
 v3 := Tryz.zeroValue3
 t4 := Tryz.underlying4
 a4 := Tryz.isAgg4
 z4 := Tryz.sizeOf4
 v4 := Tryz.zeroValue4
 t9 := Tryz.underlying9
 a9 := Tryz.isAgg9
 z9 := Tryz.sizeOf9
 v9 := Tryz.zeroValue9 }
open Go.RowKit Go.Lib in
theorem Tryz.strings_TrimPrefix (s p : ByteArray) (w : World) :
    Calls Tryz.prog 108 #[.string s, .string p] w fun e w' => e = .returned (.string ⟨(Lib.trimPrefix s.data.toList p.data.toList).toArray⟩) ∧ w' = w := Any.strings_TrimPrefix Tryz.lays101 s p w
end Go.Proofs
namespace Go.Proofs.YtdnoacgopfcpbaaGreat
section
open Go.RowKit (Below)
theorem IndexByte_sp (l : List UInt8) (c : Int) : SpF Tryz.prog 229 [vS l, vU c] (vI (Lib.indexByte l c.toNat.toUInt8)) :=
 SpF.of_same Tryz.call229 fun w => Tryz.strings_IndexByte ⟨⟨l⟩⟩ c w
end
section
set_option maxRecDepth 100000
section
variable {r : Option Nat} {P : Program} {n : Nat} {ops : Array Oper} {os : List Oper} {A : List HP} {L : Loc} {Hs : List HP} {Q : Out} {ty : TypeId} {d : Nat} {pos : String} {after : Array Edge} {c : Code}
theorem pv_ptr {x y : Operand} {a b : Option Addr} {t yt : TypeId} {op : BinOp} {v : Value} (hx : ev L x = some (.pointer a)) (hy : ev L y = some (.pointer b))
    (h : ∀ w, (binOp op t (.pointer a) (.pointer b)).run P w = .ok v w) : PV P n L (.binOp op t x y yt) ty v :=
 ⟨by intro c; simp, fun ac f w _ _ _ _ => by
  simp only [execOp, f.ev hx, f.ev hy, Sem.run_bind]
  have hg : (eqGuard op t x y (.pointer a) (.pointer b)).run P w = .ok () w := by
   unfold eqGuard
   split <;> rfl
  rw [hg]
  simp [h w]⟩
theorem pv_peql_nil {x y : Operand} {a : Option Addr} {t yt e : TypeId} (ht : P.underlying t = some (.pointer e)) (hx : ev L x = some (.pointer a)) (hy : ev L y = some (.pointer none)) : PV P n L (.binOp .eql t x y yt) ty (.bool a.isNone) :=
 pv_ptr hx hy fun w => by
  have h : ∀ d : Nat, (Op.equalIn (d + 1) t (.pointer a) (.pointer none)).run P w = .ok a.isNone w := fun d => by
   cases a <;> simp [Op.equalIn, run_underlying ht]
  simp only [binOp]
  simp [Op.equal, Op.maxDepth, h 9999]
theorem pv_pneq_same {x y : Operand} {a : Addr} {t yt e : TypeId} {j : TypeInfo} (ht : P.underlying t = some (.pointer e)) (he : P.info? e = some j) (hx : ev L x = some (.pointer (some a))) (hy : ev L y = some (.pointer (some a))) : PV P n L (.binOp .neq t x y yt) ty (.bool false) :=
 pv_ptr hx hy fun w => Lib.run_neq_ptr_same w a ht he
theorem pv_extern {f : FuncId} {fn : Func} {e : Array Value → Sem Value} {args : Array Operand} {ats : Array TypeId} {vs : List Value} {v : Value} (hf : P.funcs[f]? = some fn) (hname : (fn.name == "runtime.NumGoroutine") = false)
    (hb : fn.body.isNone = true) (hn : Extern.findNext fn = none) (he : Extern.find fn = some e) (ha : evs L args.toList = some vs) (h : ∀ w, (e vs.toArray).run P w = .ok v w) : PV P n L (.call ⟨.value (.func f), args, ats⟩) ty v :=
 ⟨by intro c; simp, fun a fr w _ _ _ _ => by
  have hargs : args.map a.eval = vs.toArray := by
   have := fr.evs _ ha
   apply Array.ext'
   simp [this]
  simp only [execOp, resolve, Act.eval, Deferred.ofValue, Sem.run_bind, Sem.run_pure, Result.andThen_ok, invoke]
  have := run_callFunc_extern hf hname hb hn he vs.toArray w
  rw [show (Array.map (fun x => a.eval x) args) = vs.toArray from hargs]
  simp only [Array.append_empty, Array.empty_append]
  rw [this, h w]
  rfl⟩
theorem ce_shape {b T : Nat} {l : List Value} {w : World} {M : Kn} {h hf h1 : Res} (t : Sat w M (h.add hf)) (le : h1.le h) (x : (Ce b T l).at_ M h1) : w.shape? b = some (T, l.length) := by
 have e : h1 = Res.one b _ := x
 have hb : w.heap[b]? = some (.cells l.toArray T (0, 0)) := t.ow _ _ (Res.le_add_left _ _ _ _ (le _ _ (by rw [e]; exact Res.one_same _ _)))
 simp [World.shape?, hb]
theorem r_toUnsafe {src dst t T : TypeId} {j : TypeInfo} {x : Operand} {b : Nat} {l : List Value} (hs : P.underlying src = some (.pointer t)) (hd' : P.underlying dst = some .unsafePointer) (ht : P.info? t = some j) (hj : Nat.beq j.size 0 = false)
    (hx : ev L x = some (.pointer (some ⟨b, 0, none⟩))) (hA : Has (Ce b T l) Hs) (hl : Nat.blt 0 l.length = true) (hd : Nat.blt d n = true)
    (k : wo r P n ops os ((d, .pointer (some ⟨b, 0, none⟩)) :: L) Hs Q) : wo r P n ops (⟨some d, .convert src dst x, ty, pos, after, none⟩ :: os) L Hs Q := by
 refine wo_read (by intro c; simp) hA hd (fun a f w M h h1 hf t' le y _ _ _ _ => ?_) k
 have hsh := ce_shape t' le y
 have := Lib.run_to_unsafe (P := P) w ⟨b, 0, none⟩ hs hd' ht (fun e => by rw [e] at hj; cases hj) hsh (by simpa using hl)
 simp [execOp, f.ev hx, this]
theorem r_fromUnsafe {src dst u T : TypeId} {j : TypeInfo} {x : Operand} {b : Nat} {l : List Value} {len : Nat} (hs : P.underlying src = some .unsafePointer) (hd' : P.underlying dst = some (.pointer u)) (hu : P.info? u = some j) (hlen : l.length = len)
    (hlies : liesAt P P.depth T (len / P.cellsOf T) 0 u 1 = true)
    (hx : ev L x = some (.pointer (some ⟨b, 0, none⟩))) (hA : Has (Ce b T l) Hs) (hd : Nat.blt d n = true)
    (k : wo r P n ops os ((d, .pointer (some ⟨b, 0, none⟩)) :: L) Hs Q) : wo r P n ops (⟨some d, .convert src dst x, ty, pos, after, none⟩ :: os) L Hs Q := by
 refine wo_read (by intro c; simp) hA hd (fun a f w M h h1 hf t' le y _ _ _ _ => ?_) k
 have hsh := ce_shape t' le y
 have := Lib.run_from_unsafe (P := P) w ⟨b, 0, none⟩ hs hd' hu hsh (by rw [hlen]; exact hlies)
 simp [execOp, f.ev hx, this]
/-- append(b, s...), s a text. -/
theorem opt_appendS {dst : Option Tmp} {t u e : TypeId} {x y : Operand} {i : TypeInfo} (ht : P.underlying t = some (.slice e)) (hu : P.underlying u = some .string) (hi : P.info? e = some i) (hz : i.zero = some (.int .u8 0)) (hs1 : i.size = 1) (hb1 : i.bytes = 1)
    {v : Value} {k : Nat} {xs : List Value} {l : List UInt8} (hx : ev L x = some v) (hy : ev L y = some (vS l)) (h63 : k + l.length ≤ 140737488355328) :
    OpT r P n ⟨dst, .call ⟨.builtin .append, #[x, y], #[t, u]⟩, ty, pos, after, none⟩ A L [Row e 1 v k xs] (fun v' => v') (fun v' => (∃ a c, v' = .slice a (k + l.length) c) ∧ (k + l.length = 0 → v = .slice none 0 0 → v' = .slice none 0 0)) (fun v' => [Row e 1 v' (k + l.length) (xs ++ vUs l)]) := by
 intro a f w M h hA hf dj dj' s sA t'
 obtain ⟨g1, g2, dg, e1, hrow, _⟩ := s
 subst e1
 obtain ⟨d3, d4⟩ := Res.dj_add_left.1 dj
 obtain ⟨d5, d6⟩ := Res.dj_add_left.1 dj'
 obtain ⟨d7, d8⟩ := Res.dj_add_left.1 d5
 have eq : ((g1.add g2).add hA).add hf = g1.add ((g2.add hA).add hf) := by simp only [Res.add_assoc]
 rw [eq] at t'
 have djx : g1.dj ((g2.add hA).add hf) := Res.dj_add_right.2 ⟨Res.dj_add_right.2 ⟨dg, d3⟩, d7⟩
 have hmx : k + l.length ≤ maxLen := by simp only [maxLen]; omega
 have fin : ∀ v' w' h', (k + l.length = 0 → v = .slice none 0 0 → v' = .slice none 0 0) → (Builtin.append_ #[t, u] ty #[v, vS l]).run P w = .ok v' w' → h'.dj ((g2.add hA).add hf) → Sat w' M (h'.add ((g2.add hA).add hf)) → RowAt e 1 v' (k + l.length) (xs ++ vUs l) M h' →
     opV r P (fun u' w' => ∃ (x : Value) (M' : Kn) (h' : Res), u' = x ∧ ((∃ a c, x = .slice a (k + l.length) c) ∧ (k + l.length = 0 → v = Value.slice none 0 0 → x = .slice none 0 0)) ∧ M.le M' ∧ h'.dj hA ∧ (h'.add hA).dj hf ∧ Sat w' M' ((h'.add hA).add hf) ∧ SL [Row e 1 x (k + l.length) (xs ++ vUs l)] M' h')
      ((execOp a.eval ⟨dst, .call ⟨.builtin .append, #[x, y], #[t, u]⟩, ty, pos, after, none⟩).run P w) := by
  intro v' w' h' hz' hr djn sn rn
  have hrun : (execOp a.eval ⟨dst, .call ⟨.builtin .append, #[x, y], #[t, u]⟩, ty, pos, after, none⟩).run P w = .ok (.value v') w' := by
   simp [execOp, resolve, f.ev hx, f.ev hy, invoke, builtin, hr]
  rw [hrun]
  obtain ⟨y1, y2⟩ := Res.dj_add_right.1 djn
  obtain ⟨y3, y4⟩ := Res.dj_add_right.1 y1
  refine ⟨v', M, h'.add g2, rfl, ⟨rn.slice, hz'⟩, Kn.le_refl _, Res.dj_add_left.2 ⟨y4, d4⟩, Res.dj_add_left.2 ⟨Res.dj_add_left.2 ⟨y2, d8⟩, d6⟩, ?_, h', g2, y3, rfl, rn, trivial⟩
  have eq2 : ((h'.add g2).add hA).add hf = h'.add ((g2.add hA).add hf) := by simp only [Res.add_assoc]
  rw [eq2]; exact sn
 have hsl : Lib.strCells ⟨⟨l⟩⟩ = vUs l := rfl
 have hlen : (vUs l).length = l.length := by simp [vUs]
 have grown : ∀ (old : Nat), old < k + l.length → xs.length = k → ∃ h', h'.dj ((g2.add hA).add hf) ∧ Sat (w.drew.alloc (.cells (xs.toArray ++ (vUs l).toArray ++ Builtin.zeroCells (Value.int .u8 0).cells (grownCap w (k + l.length) old e - (k + l.length))) e)) M (h'.add ((g2.add hA).add hf)) ∧
     RowAt e 1 (.slice (some ⟨w.heap.size, 0, none⟩) (k + l.length) (grownCap w (k + l.length) old e)) (k + l.length) (xs ++ vUs l) M h' := by
  intro old ho hxl
  have hge := grownCap_ge w (k + l.length) old e
  have hcm : grownCap w (k + l.length) old e ≤ maxLen := grownCap_le_maxLen w (k + l.length) old e hmx
  have s2 := t'.drew.alloc (.cells (xs.toArray ++ (vUs l).toArray ++ Builtin.zeroCells (Value.int .u8 0).cells (grownCap w (k + l.length) old e - (k + l.length))) e)
  obtain ⟨f1, f2⟩ := fresh_none t'.drew
  obtain ⟨f3, f4⟩ := Res.add_none.1 f2
  refine ⟨Res.one w.heap.size (.cells (xs.toArray ++ (vUs l).toArray ++ Builtin.zeroCells (Value.int .u8 0).cells (grownCap w (k + l.length) old e - (k + l.length))) e), one_dj f4, s2.le ?_, .inr ⟨w.heap.size, _, xs ++ vUs l ++ (Builtin.zeroCells (Value.int .u8 0).cells (grownCap w (k + l.length) old e - (k + l.length))).toList, rfl, hge, hcm, ?_, ?_, ?_, ?_⟩⟩
  · intro b o e
    simp only [Res.add] at e ⊢
    show (match Res.one w.heap.size _ b with | some o => some o | none => _) = _
    cases eb : Res.one w.heap.size (Obj.cells (xs.toArray ++ (vUs l).toArray ++ Builtin.zeroCells (Value.int .u8 0).cells (grownCap w (k + l.length) old _ - (k + l.length))) _) b with
    | some u => rw [eb] at e; simpa using e
    | none =>
      rw [eb] at e
      rcases djx b with x | x
      · simpa [x] using e
      · have e' : ((g2.add hA).add hf) b = some o := e
        rw [x] at e'; cases e'
  · simp only [List.length_append, Array.length_toList, size_zeroCells, hxl, hlen]
    simp [Value.cells]
    omega
  · simp [hxl, hlen]
  · have : (xs ++ vUs l).length = (k + l.length) * 1 := by simp [hxl, hlen]
    rw [← this]
    exact List.take_left
  · congr 2
    apply Array.ext'
    simp
 rcases hrow with ⟨rfl, rfl, rfl⟩ | ⟨g, cap, cur, rfl, hkc, hcm, hcl, hxl, htake, rfl⟩
 · by_cases hm : l = []
   · subst hm
     refine fin (.slice none 0 0) w g1 (fun _ _ => rfl) ?_ djx t' (.inl ⟨rfl, rfl, rfl⟩)
     simp [Builtin.append_, run_underlying ht, run_underlying hu, sizeOf, typeInfo, hi, Builtin.lenOf, Builtin.firstCells, mk_size]
   · have hpos : 0 < l.length := List.length_pos_iff.2 hm
     have hr := run_append_nil_string (P := P) w t u ty e i (.int .u8 0) ht hu hi hz ⟨⟨l⟩⟩ (by rw [mk_size]; omega) (by rw [mk_size]; omega) (by rw [mk_size, hb1]; omega)
     obtain ⟨h', d', s', r'⟩ := grown 0 (by omega) (by simp)
     have hsl2 : Array.map (fun b : UInt8 => Value.int .u8 (b.toNat : Int)) ⟨l⟩ = (vUs l).toArray := by simp [vUs]
     simp only [Nat.zero_add, List.nil_append, Array.empty_append, mk_size, hsl2] at d' s' r' hr
     exact fin _ _ h' (fun e _ => by omega) hr d' s' (by simpa using r')
 · have hg : w.heap[g]? = some (.cells cur.toArray e (0, 0)) := t'.ow _ _ (by simp [Res.add, Res.one])
   simp only [Nat.mul_one] at hcl hxl htake
   by_cases hroom : k + l.length ≤ cap
   · have hr := Lib.run_append_room_string (P := P) w t u ty e i ht hu hi hs1 g k cap cur.toArray hg ⟨⟨l⟩⟩ hroom (by simp [mk_size, hcl]; exact hroom)
     rw [mk_size, hsl] at hr
     refine fin _ _ (Res.one g (.cells (cur.take k ++ vUs l ++ cur.drop (k + l.length)).toArray e (0, 0))) (fun _ e => by cases e) hr (dj_one_any djx) (Sat.setBlk djx t' ?_ (fun j hj => ?_) ⟨rfl, rfl, rfl, by simp [World.setRow], up_rfl⟩) (.inr ⟨g, cap, cur.take k ++ vUs l ++ cur.drop (k + l.length), rfl, hroom, hcm, ?_, ?_, ?_, rfl⟩)
     · exact setRow_heap w g cur.toArray _ e _ hg
     · exact setRow_other w g j _ (fun x => hj x)
     · simp only [List.length_append, List.length_take, List.length_drop, hlen]
       omega
     · simp [hxl, hlen]
     · rw [htake]
       have : (xs ++ vUs l).length = (k + l.length) * 1 := by simp [hxl, hlen]
       rw [← this]
       exact List.take_left
   · have holds : ∀ j u, xs[j]? = some u → w.cell? ((⟨g, 0, none⟩ : Addr).add j) = some u := by
       intro j u hj
       have hlt := (List.getElem?_eq_some_iff.1 hj).1
       rw [addr_add, Nat.zero_add]
       simp only [World.cell?, hg]
       rw [← htake, List.getElem?_take_of_lt (by omega)] at hj
       simpa using hj
     have hr := Lib.run_append_grow_string (P := P) w t u ty e i (.int .u8 0) ht hu hi hz ⟨g, 0, none⟩ k cap xs (by rw [hs1]; omega) holds ⟨⟨l⟩⟩ (by rw [mk_size]; omega) (by rw [mk_size]; omega) (by rw [mk_size]; exact growslice_fits (by omega) (by rw [hb1]; omega))
     obtain ⟨h', d', s', r'⟩ := grown cap (by omega) hxl
     rw [mk_size, hsl] at hr
     exact fin _ _ h' (fun _ e => by cases e) hr d' s' r'
end
end
end Go.Proofs.YtdnoacgopfcpbaaGreat
