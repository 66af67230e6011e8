/- Texts of this proof, put together: RangeF. -/
import Derived.RangeFuncIn
import Derived.RangeFuncNested
import Derived.Test.YtibccdcemcgkeaaGreatQ03
set_option linter.unusedVariables false
set_option linter.unusedSimpArgs false
section
namespace Go.Proofs.YtibccdcemcgkeaaGreat
/-- What a round's jump is. -/
def jc : Option Nat → Code
 | none => .ret
 | some id => .exit id
/-- A value that one may call as yield: on each element: on, or no more. -/
def YSpec (P : Program) {α : Type} (y : Value) (enc : α → List Value) (ok : List α → α → Prop) (J Jx : List α → HP) : Prop :=
 ∃ l, y = .func (.yield l) #[] #[] ∧ ∀ (pre : List α) (x : α), ok pre x → ∀ (w : World) (M : Kn) (h hf : Res), h.dj hf → Sat w M (h.add hf) → (J pre).at_ M h →
  ∃ fn tmps assign body, (Instr.yield l (enc x).toArray).run P w = .ok (.round l fn tmps assign body) w ∧
   RoundIn (WF none) 0 P l fn tmps assign body w (fun e w' => ∃ (b : Bool) (M' : Kn) (h' : Res), e = .returned (.bool b) ∧ M.le M' ∧ h'.dj hf ∧ Sat w' M' (h'.add hf) ∧ (if b then J (pre ++ [x]) else Jx (pre ++ [x])).at_ M' h')
/-- What one has behind a walk: it went to its end, or was stopped. -/
def endsAt {α : Type} (J Jx : List α → HP) (all : List α) : Option (List α) → HP
 | none => J all
 | some pre => Jx pre
/-- What a function value does when it is ranged over. -/
def Iter (P : Program) {α : Type} (g : Nat) (lb : List Value) (enc : α → List Value) (ok : List α → α → Prop) (stopped : List α → Prop) (As Bs : List HP) (all : List α) (val : Option (List α) → Value) : Prop :=
 ∀ (y : Value) (J Jx : List α → HP), YSpec P y enc ok J Jx → Sp P g (y :: lb) (J [] :: As) (X := Option (List α)) val (fun x => ∀ pre, x = some pre → stopped pre) (fun x => endsAt J Jx all x :: Bs)
/-- The same, where the order is drawn on the way: what is known of it behind the walk. -/
def IterU (P : Program) {α : Type} (g : Nat) (lb : List Value) (enc : α → List Value) (ok : List α → α → Prop) (stopped : List α → Prop) (As Bs : List HP) (fin : List α → Prop) (val : Option (List α) → Value) : Prop :=
 ∀ (y : Value) (J Jx : List α → HP), YSpec P y enc ok J Jx → Sp P g (y :: lb) (J [] :: As) (X := Option (List α) × List α) (fun x => val x.1) (fun x => (∀ pre, x.1 = some pre → stopped pre) ∧ (x.1 = none → fin x.2)) (fun x => endsAt J Jx x.2 x.1 :: Bs)
theorem Iter.toU {P : Program} {α : Type} {g : Nat} {lb : List Value} {enc : α → List Value} {ok : List α → α → Prop} {stopped : List α → Prop} {As Bs : List HP} {all : List α} {val : Option (List α) → Value}
    (it : Iter P g lb enc ok stopped As Bs all val) : IterU P g lb enc ok stopped As Bs (fun l => l = all) val :=
 fun y J Jx ys => (it y J Jx ys).mono (Ent.refl _) fun x hx => ⟨(x, all), rfl, ⟨hx, fun _ => rfl⟩, Ent.refl _⟩
def bindL : List Tmp → List Value → Loc → Loc
 | p :: ps, v :: vs, L => bindL ps vs ((p, v) :: L)
 | _, _, L => L
/-- The ways out of a round. -/
def roundO {α : Type} (I : List α → List HP) (Ix : Option Nat → List α → List HP) (xs : List α) : Out
 | .normal => fun _ M h => SL (I xs) M h
 | .ret => fun _ M h => SL (Ix none xs) M h
 | .exit id => fun _ M h => SL (Ix (some id) xs) M h
 | _ => fun _ _ _ => False
def asgO (r : Option Nat) (P : Program) (y : Code) (Q : Out) : Out := thenO (wout r P y Q) (fun _ _ _ _ => False)
section
variable {r : Option Nat} {P : Program} {n : Nat} {ops : Array Oper} {os : List Oper} {A : List HP} {L : Loc} {Hs : List HP} {Q : Out} {ty : TypeId} {d : Nat} {pos : String} {after : Array Edge} {c : Code}
theorem q_asg {y : Code} (h : wc r P n y L Hs Q) : wo r P n ops [] L Hs (asgO r P y Q) := wo_nil (to_then h)
theorem to_round {α : Type} {I : List α → List HP} {Ix : Option Nat → List α → List HP} {xs : List α} (e : Ent Hs (I xs)) : tw n (roundO I Ix xs) .normal L Hs := by
 rintro a M h ⟨_, h1, h2, d, e', _, s⟩
 subst e'
 exact SL.more d (e s)
theorem to_round_ret {α : Type} {I : List α → List HP} {Ix : Option Nat → List α → List HP} {xs : List α} (e : Ent Hs (Ix none xs)) : tw n (roundO I Ix xs) .ret L Hs := by
 rintro a M h ⟨_, h1, h2, d, e', _, s⟩
 subst e'
 exact SL.more d (e s)
theorem to_round_exit {α : Type} {I : List α → List HP} {Ix : Option Nat → List α → List HP} {xs : List α} (id : Nat) (e : Ent Hs (Ix (some id) xs)) : tw n (roundO I Ix xs) (.exit id) L Hs := by
 rintro a M h ⟨_, h1, h2, d, e', _, s⟩
 subst e'
 exact SL.more d (e s)
theorem fr_bind : ∀ (ps : List Tmp) (vs : List Value) {L : Loc} {t : Array Value}, (∀ p ∈ ps, p < n) → (n ≤ t.size ∧ ∀ i v, lk L i = some v → t[i]? = some v) →
    (n ≤ ((ps.zip vs).foldl (fun t (p, v) => t.setIfInBounds p v) t).size ∧ ∀ i v, lk (bindL ps vs L) i = some v → ((ps.zip vs).foldl (fun t (p, v) => t.setIfInBounds p v) t)[i]? = some v) := by
 intro ps
 induction ps with
 | nil => intro vs L t _ h; simpa [bindL] using h
 | cons p ps ih =>
   intro vs L t hp h
   cases vs with
   | nil => simpa [bindL] using h
   | cons v vs =>
     simp only [bindL, List.zip_cons_cons, List.foldl_cons]
     refine ih vs (fun q hq => hp q (by simp [hq])) ?_
     have f : Fr n L { tmps := t, defers := [] } := h
     have := f.put (d := p) (v := v) (by simpa using hp p (by simp))
     simpa [Fr, Act.put] using this
/-- for .. := range f { .. } -/
theorem wc_rangeFunc {α : Type} {f : Operand} {ps : Array Tmp} {assign body : Code} {g : Nat} {lb : List Value} {enc : α → List Value} {ok : List α → α → Prop} {stopped : List α → Prop} {As Bs : List HP} {fin : List α → Prop} {val : Option (List α) → Value}
    (I : List α → List HP) (Ix : Option Nat → List α → List HP)
    (hf : ev L f = some (.func (.func g) #[] lb.toArray))
    (it : IterU P g lb enc ok stopped As Bs fin val)
    (hps : ∀ x, (enc x).length = ps.size) (hpn : ps.toList.all (fun p => Nat.blt p n) = true)
    (ha : Ent Hs (I [] ++ As))
    (round : ∀ (l : Nat) (pre : List α) (x : α), ok pre x → wc (some l) P n assign (bindL ps.toList (enc x) L) (I pre) (asgO (some l) P body (roundO I Ix (pre ++ [x]))))
    (done : ∀ all, fin all → tw n Q .normal L (I all ++ Bs))
    (stop : ∀ (j : Option Nat) (pre : List α), stopped pre → wc none P n (jc j) L (Ix j pre ++ Bs) Q) :
    wc none P n (.rangeFunc f ps assign body) L Hs Q := by
 intro a M h st w hfr dj t
 obtain ⟨fr, g1, g2, dg, e, sd, s2⟩ := st
 subst e
 obtain ⟨kI, kA, dIA, e, sI, sA⟩ := SL.split (ha s2)
 subst e
 refine wpIn_rangeFunc ?_
 intro fn hfn
 obtain ⟨rec, hrec⟩ : ∃ rec : LoopState → Option Code → Loop, rec = fun st pe => { state := st, pending := pe, fn, tmps := a.tmps, params := ps, assign, body, defers := w.heap.size } := ⟨_, rfl⟩
 obtain ⟨W1, hW1⟩ : ∃ W1, (w.alloc (.deferred (some []))).alloc (.loop (rec .ready none)) = W1 := ⟨_, rfl⟩
 have hsz : (w.alloc (.deferred (some []))).heap.size = w.heap.size + 1 := by simp
 have tD := t.alloc (.deferred (some []))
 have tL := tD.alloc (.loop (rec .ready none))
 obtain ⟨_, f1⟩ := fresh_none t
 obtain ⟨_, f2⟩ := fresh_none tD
 rw [hsz] at tL f2
 rw [hW1] at tL
 refine ⟨w.heap.size + 1, [{ target := .collected w.heap.size, args := #[] }], W1, { target := .fn (.func g) lb.toArray, args := #[.func (.yield (w.heap.size + 1)) #[] #[]] }, W1, g,
  #[.func (.yield (w.heap.size + 1)) #[] #[]] ++ lb.toArray, W1, ?_, ?_, fun _ _ => trivial, ?_, (fun e => by cases e), ?_⟩
 · rw [← hW1, hrec]; exact run_enterLoop_outer _ _ _ _ _
 · simp only [resolve, rangeCall]
   rw [fr.ev hf]
   simp [go_sem]
 · have := (it (.func (.yield (w.heap.size + 1)) #[] #[]) (fun _ => ⟨fun _ _ => False, fun _ e => e⟩) (fun _ => ⟨fun _ _ => False, fun _ e => e⟩) ⟨_, rfl, fun _ _ _ _ _ _ _ _ _ e => e.elim⟩).enters
   simp [invoke, go_sem]
   exact this _ _
 ·
  have ys : YSpec P (.func (.yield (w.heap.size + 1)) #[] #[]) enc ok (fun pre => Al (Blk (w.heap.size + 1) (.loop (rec .ready none)) :: I pre))
      (fun pre => Ex fun j : Option Nat => Al (Blk (w.heap.size + 1) (.loop (rec .done (some (jc j)))) :: Ix j pre)) := by
   refine ⟨_, rfl, fun pre x hok w' M' h' hf' dj' t' hj => ?_⟩
   obtain ⟨p1, p2, dp, e, hp1, sp2⟩ := hj
   have hp1' : p1 = Res.one _ _ := hp1
   subst hp1'
   subst e
   have hl : w'.heap[w.heap.size + 1]? = some (.loop (rec .ready none)) := t'.ow _ _ (by simp [Res.add, Res.one])
   have hy := run_yield (P := P) (args := (enc x).toArray) hl (by rw [hrec]; simpa using hps x)
   refine ⟨_, _, _, _, hy, roundIn_of_wpIn (F := WF none) trivial ?_⟩
   have e1 : (rec .ready none).assign = assign := by rw [hrec]
   have e2 : (rec .ready none).body = body := by rw [hrec]
   have e3 : (rec .ready none).tmps = a.tmps := by rw [hrec]
   have e4 : (rec .ready none).params = ps := by rw [hrec]
   rw [e1, e2, e3, e4]
   obtain ⟨dj1, dj2⟩ := Res.dj_add_left.1 dj'
   have hfold : (ps.zip (enc x).toArray).foldl (fun t (p, v) => t.setIfInBounds p v) a.tmps = (ps.toList.zip (enc x)).foldl (fun t (p, v) => t.setIfInBounds p v) a.tmps := by
    rw [← Array.foldl_toList]; simp
   rw [hfold]
   have hfr : Fr n (bindL ps.toList (enc x) L) { tmps := (ps.toList.zip (enc x)).foldl (fun t (p, v) => t.setIfInBounds p v) a.tmps, defers := [] } :=
    fr_bind ps.toList (enc x) (fun p hp => by have := List.all_eq_true.1 hpn p hp; simpa using this) fr
   have d2 : p2.dj ((Res.one (w.heap.size + 1) (.loop (rec .ready none))).add hf') := Res.dj_add_right.2 ⟨Res.dj_comm dp, dj2⟩
   have t2 : Sat w' M' (p2.add ((Res.one (w.heap.size + 1) (.loop (rec .ready none))).add hf')) := by
    rw [← Res.add_assoc, ← Res.add_comm dp]; exact t'
   have hw := round (w.heap.size + 1) pre x hok _ M' p2 ⟨hfr, Res.emp, p2, Res.emp_dj _, rfl, trivial, sp2⟩ w' _ d2 t2
   refine wpIn_mono (F := WF (some (w.heap.size + 1))) hw ?_
   rintro ex a1 w1 ⟨M1, h1, le1, dj3, t3, q1⟩
   cases ex with
   | normal =>
     have q1' : wout (some (w.heap.size + 1)) P body (roundO I Ix (pre ++ [x])) a1 M1 h1 := q1
     obtain ⟨y1, y2⟩ := Res.dj_add_right.1 dj3
     have hb : w1.heap[w.heap.size + 1]? = some (.loop (rec .ready none)) := t3.ow _ _ (Res.le_add_right dj3 _ _ (by simp [Res.add, Res.one]))
     refine ⟨_, run_beginRound hb (by rw [hrec]), ?_⟩
     have dA : (Res.one (w.heap.size + 1) (.loop (rec .ready none))).dj (h1.add hf') := Res.dj_add_right.2 ⟨Res.dj_comm y1, dj1⟩
     have hcomm : ∀ o : Obj, h1.dj (Res.one (w.heap.size + 1) o) → h1.add ((Res.one (w.heap.size + 1) o).add hf') = (Res.one (w.heap.size + 1) o).add (h1.add hf') := fun o dd => by
      rw [← Res.add_assoc, Res.add_comm dd, Res.add_assoc]
     rw [hcomm _ y1] at t3
     have t4 := Sat.putObj (o' := .loop { rec .ready none with state := .busy }) dA t3
     have dB : (Res.one (w.heap.size + 1) (.loop { rec .ready none with state := .busy })).dj (h1.add hf') := dj_one_any dA
     have dB1 := (Res.dj_add_right.1 dB).1
     rw [← hcomm _ (Res.dj_comm dB1)] at t4
     refine wpIn_mono (F := WF (some (w.heap.size + 1))) (q1' _ _ (Res.dj_add_right.2 ⟨Res.dj_comm dB1, y2⟩) t4) ?_
     have fin : ∀ (jump : Option Code) (M2 : Kn) (h2 : Res) (w2 : World), M1.le M2 → h2.dj ((Res.one (w.heap.size + 1) (.loop { rec .ready none with state := .busy })).add hf') → Sat w2 M2 (h2.add ((Res.one (w.heap.size + 1) (.loop { rec .ready none with state := .busy })).add hf')) →
         ∃ w3, (Instr.endRound (w.heap.size + 1) jump).run P w2 = .ok (.bool jump.isNone) w3 ∧ (Res.one (w.heap.size + 1) (.loop (rec (if jump.isNone then .ready else .done) jump))).dj h2 ∧
          ((Res.one (w.heap.size + 1) (.loop (rec (if jump.isNone then .ready else .done) jump))).add h2).dj hf' ∧ Sat w3 M2 (((Res.one (w.heap.size + 1) (.loop (rec (if jump.isNone then .ready else .done) jump))).add h2).add hf') := by
      intro jump M2 h2 w2 le2 dj5 t5
      have hb2 : w2.heap[w.heap.size + 1]? = some (.loop { rec .ready none with state := .busy }) := t5.ow _ _ (Res.le_add_right dj5 _ _ (by simp [Res.add, Res.one]))
      have hr := run_endRound (P := P) jump hb2
      obtain ⟨z1, z2⟩ := Res.dj_add_right.1 dj5
      have eqq : h2.add ((Res.one (w.heap.size + 1) (.loop { rec .ready none with state := .busy })).add hf') = (Res.one (w.heap.size + 1) (.loop { rec .ready none with state := .busy })).add (h2.add hf') := by
       rw [← Res.add_assoc, Res.add_comm z1, Res.add_assoc]
      rw [eqq] at t5
      have dC : (Res.one (w.heap.size + 1) (.loop { rec .ready none with state := .busy })).dj (h2.add hf') := Res.dj_add_right.2 ⟨Res.dj_comm z1, dj_one_any dj1⟩
      have t6 := Sat.putObj (o' := .loop (rec (if jump.isNone then .ready else .done) jump)) dC t5
      have dD : (Res.one (w.heap.size + 1) (.loop (rec (if jump.isNone then .ready else .done) jump))).dj (h2.add hf') := dj_one_any dC
      obtain ⟨v1, v2⟩ := Res.dj_add_right.1 dD
      refine ⟨_, ?_, v1, Res.dj_add_left.2 ⟨v2, z2⟩, by rw [Res.add_assoc]; exact t6⟩
      rw [hr, hrec]
     rintro e2 a2 w2 ⟨M2, h2, le2, dj5, t5, q2⟩
     cases e2 with
     | normal =>
       obtain ⟨w3, r1, r2, r3, r4⟩ := fin none M2 h2 w2 le2 dj5 t5
       exact ⟨_, w3, r1, true, M2, _, rfl, Kn.le_trans le1 le2, r3, r4, _, _, r2, rfl, rfl, q2⟩
     | ret =>
       obtain ⟨w3, r1, r2, r3, r4⟩ := fin (some .ret) M2 h2 w2 le2 dj5 t5
       exact ⟨_, w3, r1, false, M2, _, rfl, Kn.le_trans le1 le2, r3, r4, none, _, _, r2, rfl, rfl, q2⟩
     | exit id =>
       obtain ⟨w3, r1, r2, r3, r4⟩ := fin (some (.exit id)) M2 h2 w2 le2 dj5 t5
       exact ⟨_, w3, r1, false, M2, _, rfl, Kn.le_trans le1 le2, r3, r4, some id, _, _, r2, rfl, rfl, q2⟩
     | goto _ => exact q2.elim
     | panic _ => exact q2.elim
     | outgrown => exact q2.elim
   | ret => exact q1.elim
   | exit _ => exact q1.elim
   | goto _ => exact q1.elim
   | panic _ => exact q1.elim
   | outgrown => exact q1.elim
  have sp := it _ _ _ ys
  -- resources
  obtain ⟨dg1, dg2⟩ := Res.dj_add_right.1 dg
  obtain ⟨q1, q2⟩ := Res.dj_add_left.1 dj
  obtain ⟨q3, q4⟩ := Res.dj_add_left.1 q2
  let D : Res := Res.one w.heap.size (.deferred (some []))
  let Lp : Res := Res.one (w.heap.size + 1) (.loop (rec .ready none))
  have dLp : Lp.dj (D.add ((g1.add (kI.add kA)).add hfr)) := one_dj f2
  have dD : D.dj ((g1.add (kI.add kA)).add hfr) := one_dj f1
  obtain ⟨a1, a2⟩ := Res.dj_add_right.1 dLp
  obtain ⟨a3, a4⟩ := Res.dj_add_right.1 a2
  obtain ⟨a5, a6⟩ := Res.dj_add_right.1 a3
  obtain ⟨a7, a8⟩ := Res.dj_add_right.1 a6
  obtain ⟨b3, b4⟩ := Res.dj_add_right.1 dD
  obtain ⟨b5, b6⟩ := Res.dj_add_right.1 b3
  obtain ⟨b7, b8⟩ := Res.dj_add_right.1 b6
  have eqr : Lp.add (D.add ((g1.add (kI.add kA)).add hfr)) = ((Lp.add kI).add kA).add ((D.add g1).add hfr) := by
   funext i
   simp only [Res.add]
   have c1 := b7 i; have c2 := b8 i; have c3 := b5 i; have c4 := dg1 i; have c5 := dg2 i
   revert c1 c2 c3 c4 c5
   cases Lp i <;> cases D i <;> cases g1 i <;> cases kI i <;> cases kA i <;> simp
  have tL' : Sat W1 M (((Lp.add kI).add kA).add ((D.add g1).add hfr)) := by rw [← eqr]; exact tL
  have djr : ((Lp.add kI).add kA).dj ((D.add g1).add hfr) := by
   refine Res.dj_add_left.2 ⟨Res.dj_add_left.2 ⟨?_, ?_⟩, ?_⟩
   · exact Res.dj_add_right.2 ⟨Res.dj_add_right.2 ⟨a1, a5⟩, a4⟩
   · exact Res.dj_add_right.2 ⟨Res.dj_add_right.2 ⟨Res.dj_comm b7, Res.dj_comm dg1⟩, q3⟩
   · exact Res.dj_add_right.2 ⟨Res.dj_add_right.2 ⟨Res.dj_comm b8, Res.dj_comm dg2⟩, q4⟩
  have cc := sp.calls W1 M ((Lp.add kI).add kA) ((D.add g1).add hfr) djr tL' ⟨Lp.add kI, kA, Res.dj_add_left.2 ⟨a8, dIA⟩, rfl, ⟨Lp, kI, a7, rfl, rfl, sI⟩, sA⟩
  have hargs : (Value.func (.yield (w.heap.size + 1)) #[] #[] :: lb).toArray = #[.func (.yield (w.heap.size + 1)) #[] #[]] ++ lb.toArray := by simp
  rw [hargs] at cc
  refine CallsIn.mono (F := WF none) cc ?_
  rintro ee w3 ⟨x, M3, h3, rfl, hx, le3, dj3, t3, s3⟩
  have stN : ∀ (o : Obj) (Gs : List HP) (m : Res), (Res.one (w.heap.size + 1) o).dj m → ((Res.one (w.heap.size + 1) o).add m).dj ((D.add g1).add hfr) → Sat w3 M3 (((Res.one (w.heap.size + 1) o).add m).add ((D.add g1).add hfr)) → SL Gs M3 m → ∀ o' : Obj,
      St n L Gs { a with defers := [{ target := .collected w.heap.size, args := #[] }] ++ a.defers } M3 ((D.add g1).add m) ∧ ((D.add g1).add m).dj hfr ∧ Sat (w3.putObj (w.heap.size + 1) o') M3 (((D.add g1).add m).add hfr) := by
   intro o Gs m dom djm tm sm o'
   obtain ⟨u1, u2⟩ := Res.dj_add_left.1 djm
   obtain ⟨u3, u4⟩ := Res.dj_add_right.1 u2
   obtain ⟨u5, u6⟩ := Res.dj_add_right.1 u3
   obtain ⟨u7, u8⟩ := Res.dj_add_right.1 u1
   refine ⟨⟨fr, D.add g1, m, Res.dj_comm u3, rfl, ?_, sm⟩, Res.dj_add_left.2 ⟨Res.dj_add_left.2 ⟨b4, q1⟩, u4⟩, ?_⟩
   · refine ⟨D, g1, b5, rfl, ⟨w.heap.size, Res.emp, D, Res.emp_dj _, rfl, rfl, D, Res.emp, Res.dj_emp _, (Res.add_emp _).symm, rfl, trivial⟩, SL.mono le3 sd⟩
   · rw [Res.add_assoc] at tm
     have dX : (Res.one (w.heap.size + 1) o).dj (m.add ((D.add g1).add hfr)) := Res.dj_add_right.2 ⟨dom, u1⟩
     have t7 := Sat.putObj (o' := o') dX tm
     have eq7 : m.add ((D.add g1).add hfr) = ((D.add g1).add m).add hfr := by rw [← Res.add_assoc, Res.add_comm u3]
     rw [eq7] at t7
     exact t7.le (Res.le_add_right (by rw [← eq7]; exact dj_one_any dX))
  obtain ⟨x, all⟩ := x
  obtain ⟨hx, hfin⟩ := hx
  dsimp only at hx hfin s3 ⊢
  obtain ⟨m1, m2, dm, e, sm1, sm2⟩ := s3
  subst e
  cases x with
  | none =>
    obtain ⟨o1, o2, do12, e, ho1, so2⟩ := sm1
    have ho1' : o1 = Res.one _ _ := ho1
    subst ho1'
    subst e
    have hb : w3.heap[w.heap.size + 1]? = some (.loop (rec .ready none)) := t3.ow _ _ (by simp [Res.add, Res.one])
    refine ⟨none, _, by have := run_endLoop (P := P) hb (by rw [hrec]; simp); rw [hrec] at this; exact this, ?_⟩
    obtain ⟨v1, v2⟩ := Res.dj_add_left.1 dm
    rw [Res.add_assoc (Res.one _ _) o2 m2] at t3 dj3
    obtain ⟨w1, w2, w4⟩ := stN _ (I all ++ Bs) (o2.add m2) (Res.dj_add_right.2 ⟨do12, v1⟩) dj3 t3 (SL.append v2 so2 sm2) (.loop { rec .ready none with state := .exhausted })
    have := done all (hfin rfl) _ M3 _ w1
    rw [hrec] at w4
    exact ⟨M3, _, le3, w2, w4, this⟩
  | some pre =>
    obtain ⟨j, o1, o2, do12, e, ho1, so2⟩ := sm1
    have ho1' : o1 = Res.one _ _ := ho1
    subst ho1'
    subst e
    have hb : w3.heap[w.heap.size + 1]? = some (.loop (rec .done (some (jc j)))) := t3.ow _ _ (by simp [Res.add, Res.one])
    refine ⟨some (jc j), _, by have := run_endLoop (P := P) hb (by rw [hrec]; simp); rw [hrec] at this; exact this, ?_⟩
    obtain ⟨v1, v2⟩ := Res.dj_add_left.1 dm
    rw [Res.add_assoc (Res.one _ _) o2 m2] at t3 dj3
    obtain ⟨w1, w2, w4⟩ := stN _ (Ix j pre ++ Bs) (o2.add m2) (Res.dj_add_right.2 ⟨do12, v1⟩) dj3 t3 (SL.append v2 so2 sm2) (.loop { rec .done (some (jc j)) with state := .exhausted })
    rw [hrec] at w4
    exact wpIn_mono (stop j pre (hx pre rfl) _ M3 _ w1 _ _ w2 w4) (fun _ _ _ q => lift_le le3 q)
theorem p_rangeFunc {α : Type} {g : Nat} {lb : List Value} {enc : α → List Value} {ok : List α → α → Prop} {stopped : List α → Prop} {As Bs : List HP} {all : List α} {val : Option (List α) → Value}
    (I : List α → List HP) (Ix : Option Nat → List α → List HP) (hc : c = .rangeFunc (rF c) (rP c) (rA c) (rB c))
    (it : Iter P g lb enc ok stopped As Bs all val)
    (hf : ev L (rF c) = some (.func (.func g) #[] lb.toArray))
    (hps : ∀ x, (enc x).length = (rP c).size) (hpn : (rP c).toList.all (fun p => Nat.blt p n) = true)
    (ha : Ent Hs (I [] ++ As))
    (round : ∀ (l : Nat) (pre : List α) (x : α), ok pre x → wc (some l) P n (rA c) (bindL (rP c).toList (enc x) L) (I pre) (asgO (some l) P (rB c) (roundO I Ix (pre ++ [x]))))
    (done : tw n Q .normal L (I all ++ Bs))
    (stop : ∀ (j : Option Nat) (pre : List α), stopped pre → wc none P n (jc j) L (Ix j pre ++ Bs) Q) : wc none P n c L Hs Q := by
 rw [hc]; exact wc_rangeFunc I Ix hf it.toU hps hpn ha round (fun l e => by subst e; exact done) stop
/-- A call of yield. -/
theorem opt_yield {α : Type} {y : Value} {enc : α → List Value} {ok : List α → α → Prop} {J Jx : List α → HP} (ys : YSpec P y enc ok J Jx) (pre : List α) (x : α) (hok : ok pre x) {dst : Option Tmp} {f : Operand} {args : Array Operand} {ts : Array TypeId} (hf : ev L f = some y) (ha : evs L args.toList = some (enc x)) :
    OpT r P n ⟨dst, .call ⟨.value f, args, ts⟩, ty, pos, after, none⟩ A L [J pre] (fun b : Bool => .bool b) (fun _ => True) (fun b => [if b then J (pre ++ [x]) else Jx (pre ++ [x])]) := by
 intro a fr w M h hA hfr dj dj' s sA t
 obtain ⟨l, rfl, hy⟩ := ys
 obtain ⟨k1, k2, dk, e, hj, _⟩ := s
 subst e
 obtain ⟨x1, x2⟩ := Res.dj_add_left.1 dj'
 obtain ⟨x3, x4⟩ := Res.dj_add_left.1 x1
 obtain ⟨y1, y2⟩ := Res.dj_add_left.1 dj
 have t2 : Sat w M (k1.add ((k2.add hA).add hfr)) := by
  have : ((k1.add k2).add hA).add hfr = k1.add ((k2.add hA).add hfr) := by simp only [Res.add_assoc]
  rw [← this]; exact t
 obtain ⟨fn, tmps, assign, body, h1, h2⟩ := hy pre x hok w M k1 ((k2.add hA).add hfr) (Res.dj_add_right.2 ⟨Res.dj_add_right.2 ⟨dk, y1⟩, x3⟩) t2 hj
 have hargs : args.map a.eval = (enc x).toArray := by
  have := fr.evs _ ha
  apply Array.ext'
  simp [this]
 have hrun : (execOp a.eval ⟨dst, .call ⟨.value f, args, ts⟩, ty, pos, after, none⟩).run P w = .ok (.round l fn tmps assign body) w := by
  simp only [execOp, resolve, fr.ev hf, Deferred.ofValue, hargs, Sem.run_bind, Sem.run_pure, Result.andThen_ok, invoke]
  simp [go_sem, h1]
 rw [hrun]
 refine RoundIn.mono (F := WF none) h2 ?_
 rintro e w' ⟨b, M', h', rfl, le, dj3, t3, hb⟩
 obtain ⟨z1, z2⟩ := Res.dj_add_right.1 dj3
 obtain ⟨z3, z4⟩ := Res.dj_add_right.1 z1
 refine ⟨_, rfl, b, M', h', rfl, trivial, le, z4, Res.dj_add_left.2 ⟨z2, x2⟩, ?_, h', Res.emp, Res.dj_emp _, (Res.add_emp _).symm, hb, trivial⟩
 refine t3.le ?_
 intro i o e
 have e1 : ((h'.add hA).add hfr) i = some o := e
 simp only [Res.add] at e1 ⊢
 cases c1 : h' i with
 | some u => rw [c1] at e1; simpa using e1
 | none =>
   rw [c1] at e1
   cases c2 : hA i with
   | some u =>
     rw [c2] at e1
     have := y2 i
     rw [c2] at this
     simp at this
     simp [this]; simpa using e1
   | none =>
     rw [c2] at e1
     have := x4 i
     simp at e1
     rw [e1] at this
     simp at this
     simp [this, e1]
theorem r_yield {α : Type} {y : Value} {enc : α → List Value} {ok : List α → α → Prop} {J Jx : List α → HP} (ys : YSpec P y enc ok J Jx) (pre : List α) (x : α) (hok : ok pre x) {f : Operand} {args : Array Operand} {ts : Array TypeId} (hf : ev L f = some y) (ha : evs L args.toList = some (enc x)) (hd : Nat.blt d n = true)
    {Rs : List HP} [hp : PickC (J pre) Hs Rs] (kt : wo r P n ops os ((d, .bool true) :: L) (J (pre ++ [x]) :: Rs) Q) (kf : wo r P n ops os ((d, .bool false) :: L) (Jx (pre ++ [x]) :: Rs) Q) :
    wo r P n ops (⟨some d, .call ⟨.value f, args, ts⟩, ty, pos, after, none⟩ :: os) L Hs Q := by
 haveI : PicksC [J pre] Hs Rs := ⟨.cons hp.get .nil⟩
 refine wo_opT (by intro c; simp) (opt_yield ys pre x hok hf ha) (by simpa [dstOk] using hd) (fun b _ => ?_)
 cases b
 · exact kf
 · exact kt
end
end Go.Proofs.YtibccdcemcgkeaaGreat
end
