/- Texts of this proof, put together: RangeX, SLinks, PTags. -/
import Derived.Test.YtdnoacgopfcpbaaGreatQ18
set_option linter.unusedVariables false
set_option linter.unusedSimpArgs false
namespace Go.Proofs.YtdnoacgopfcpbaaGreat
section
/-- A value that one may call as yield, with what an element points at, which never turns. -/
def YSpecE (P : Program) {α : Type} (y : Value) (enc : α → List Value) (ok : List α → α → Prop) (E : α → HP) (J Jx : List α → HP) : Prop :=
 ∃ l, y = .func (.yield l) #[] #[] ∧ ∀ (pre : List α) (x : α), ok pre x → ∀ (w : World) (M : Kn) (h hf : Res), h.dj hf → Sat w M (h.add hf) → (J pre).at_ M h → (E x).at_ M Res.emp →
  ∃ fn tmps assign body, (Instr.yield l (enc x).toArray).run P w = .ok (.round l fn tmps assign body) w ∧
   RoundIn (WF none) 0 P l fn tmps assign body w (fun e w' => ∃ (b : Bool) (M' : Kn) (h' : Res), e = .returned (.bool b) ∧ M.le M' ∧ h'.dj hf ∧ Sat w' M' (h'.add hf) ∧ (if b then J (pre ++ [x]) else Jx (pre ++ [x])).at_ M' h')
/-- What a function value does when it is ranged over, while the caller keeps R; E: what an element points at. -/
def IterX (P : Program) {α : Type} (g : Nat) (lb : List Value) (enc : α → List Value) (ok : List α → α → Prop) (stopped : List α → Prop) (E : α → HP) (R : HP) (As Bs : List HP) (fin : List α → Prop) (val : Option (List α) → Value) : Prop :=
 ∀ (y : Value) (J J0 Jx : List α → HP), YSpecE P y enc ok E J Jx → (∀ pre, Ent [J pre] [R, J0 pre]) → (∀ pre, Ent [R, J0 pre] [J pre]) →
  Sp P g (y :: lb) (J [] :: As) (X := Option (List α) × List α) (fun x => val x.1) (fun x => (∀ pre, x.1 = some pre → stopped pre) ∧ (x.1 = none → fin x.2)) (fun x => endsAt J Jx x.2 x.1 :: Bs)
section
variable {r : Option Nat} {P : Program} {n : Nat} {ops : Array Oper} {os : List Oper} {A : List HP} {L : Loc} {Hs : List HP} {Q : Out} {ty : TypeId} {d : Nat} {pos : String} {after : Array Edge} {c : Code}
/-- A call of yield. -/
theorem opt_yieldE {α : Type} {y : Value} {enc : α → List Value} {ok : List α → α → Prop} {J Jx : List α → HP} {E : α → HP} (ys : YSpecE P y enc ok E J Jx) (pre : List α) (x : α) (hok : ok pre x) (hE : Pers (E x)) {dst : Option Tmp} {f : Operand} {args : Array Operand} {ts : Array TypeId} (hf : ev L f = some y) (ha : evs L args.toList = some (enc x)) :
    OpT r P n ⟨dst, .call ⟨.value f, args, ts⟩, ty, pos, after, none⟩ A L [E x, J pre] (fun b : Bool => .bool b) (fun _ => True) (fun b => [if b then J (pre ++ [x]) else Jx (pre ++ [x])]) := by
 intro a fr w M h hA hfr dj dj' s sA t
 obtain ⟨l, rfl, hy⟩ := ys
 obtain ⟨g1, g2, dg, eg, he0, s⟩ := s
 have he := hE he0
 replace s : SL [J pre] M h := by
  rw [eg]; exact SL.more dg s
 obtain ⟨k1, k2, dk, e, hj, _⟩ := s
 subst e
 obtain ⟨x1, x2⟩ := Res.dj_add_left.1 dj'
 obtain ⟨x3, x4⟩ := Res.dj_add_left.1 x1
 obtain ⟨y1, y2⟩ := Res.dj_add_left.1 dj
 have t2 : Sat w M (k1.add ((k2.add hA).add hfr)) := by
  have : ((k1.add k2).add hA).add hfr = k1.add ((k2.add hA).add hfr) := by simp only [Res.add_assoc]
  rw [← this]; exact t
 obtain ⟨fn, tmps, assign, body, h1, h2⟩ := hy pre x hok w M k1 ((k2.add hA).add hfr) (Res.dj_add_right.2 ⟨Res.dj_add_right.2 ⟨dk, y1⟩, x3⟩) t2 hj he
 have hargs : args.map a.eval = (enc x).toArray := by
  have := fr.evs _ ha
  apply Array.ext'
  simp [this]
 have hrun : (execOp a.eval ⟨dst, .call ⟨.value f, args, ts⟩, ty, pos, after, none⟩).run P w = .ok (.round l fn tmps assign body) w := by
  simp only [execOp, resolve, fr.ev hf, Deferred.ofValue, hargs, Sem.run_bind, Sem.run_pure, Result.andThen_ok, invoke]
  simp [go_sem, h1]
 rw [hrun]
 refine RoundIn.mono (F := WF none) h2 ?_
 rintro e w' ⟨b, M', h', rfl, le, dj3, t3, hb⟩
 obtain ⟨z1, z2⟩ := Res.dj_add_right.1 dj3
 obtain ⟨z3, z4⟩ := Res.dj_add_right.1 z1
 refine ⟨_, rfl, b, M', h', rfl, trivial, le, z4, Res.dj_add_left.2 ⟨z2, x2⟩, ?_, h', Res.emp, Res.dj_emp _, (Res.add_emp _).symm, hb, trivial⟩
 refine t3.le ?_
 intro i o e
 have e1 : ((h'.add hA).add hfr) i = some o := e
 simp only [Res.add] at e1 ⊢
 cases c1 : h' i with
 | some u => rw [c1] at e1; simpa using e1
 | none =>
   rw [c1] at e1
   cases c2 : hA i with
   | some u =>
     rw [c2] at e1
     have := y2 i
     rw [c2] at this
     simp at this
     simp [this]; simpa using e1
   | none =>
     rw [c2] at e1
     have := x4 i
     simp at e1
     rw [e1] at this
     simp at this
     simp [this, e1]
theorem r_yieldE {α : Type} {y : Value} {enc : α → List Value} {ok : List α → α → Prop} {J Jx : List α → HP} {E : α → HP} (ys : YSpecE P y enc ok E J Jx) (pre : List α) (x : α) (hok : ok pre x) (hE : Pers (E x)) {f : Operand} {args : Array Operand} {ts : Array TypeId} (hf : ev L f = some y) (ha : evs L args.toList = some (enc x)) (hd : Nat.blt d n = true)
    {Rs : List HP} [hp : PicksC [E x, J pre] Hs Rs] (kt : wo r P n ops os ((d, .bool true) :: L) (J (pre ++ [x]) :: Rs) Q) (kf : wo r P n ops os ((d, .bool false) :: L) (Jx (pre ++ [x]) :: Rs) Q) :
    wo r P n ops (⟨some d, .call ⟨.value f, args, ts⟩, ty, pos, after, none⟩ :: os) L Hs Q := by
 refine wo_opT (by intro c; simp) (opt_yieldE ys pre x hok hE hf ha) (by simpa [dstOk] using hd) (fun b _ => ?_)
 cases b
 · exact kf
 · exact kt
/-- for .. := range f { .. } -/
theorem wc_rangeFuncE {α : Type} {f : Operand} {ps : Array Tmp} {assign body : Code} {g : Nat} {lb : List Value} {enc : α → List Value} {ok : List α → α → Prop} {stopped : List α → Prop} {As Bs : List HP} {fin : List α → Prop} {val : Option (List α) → Value}
    (I : List α → List HP) (Ix : Option Nat → List α → List HP)
    (hf : ev L f = some (.func (.func g) #[] lb.toArray))
    (en : ∀ l : Nat, ∃ (X : Type) (As' : List HP) (v : X → Value) (o : X → Prop) (Bs' : X → List HP), Sp P g (.func (.yield l) #[] #[] :: lb) As' v o Bs')
    {E : α → HP} (it : ∀ (b : Nat) (o : Obj) (y : Value) (Jx : List α → HP), YSpecE P y enc ok E (fun pre => Al (Blk b o :: I pre)) Jx → Sp P g (y :: lb) (Al (Blk b o :: I []) :: As) (X := Option (List α) × List α) (fun x => val x.1) (fun x => (∀ pre, x.1 = some pre → stopped pre) ∧ (x.1 = none → fin x.2)) (fun x => endsAt (fun pre => Al (Blk b o :: I pre)) Jx x.2 x.1 :: Bs))
    (hps : ∀ x, (enc x).length = ps.size) (hpn : ps.toList.all (fun p => Nat.blt p n) = true)
    (ha : Ent Hs (I [] ++ As))
    (round : ∀ (l : Nat) (pre : List α) (x : α), ok pre x → wc (some l) P n assign (bindL ps.toList (enc x) L) (E x :: I pre) (asgO (some l) P body (roundO I Ix (pre ++ [x]))))
    (done : ∀ all, fin all → tw n Q .normal L (I all ++ Bs))
    (stop : ∀ (j : Option Nat) (pre : List α), stopped pre → wc none P n (jc j) L (Ix j pre ++ Bs) Q) :
    wc none P n (.rangeFunc f ps assign body) L Hs Q := by
 intro a M h st w hfr dj t
 obtain ⟨fr, g1, g2, dg, e, sd, s2⟩ := st
 subst e
 obtain ⟨kI, kA, dIA, e, sI, sA⟩ := SL.split (ha s2)
 subst e
 refine wpIn_rangeFunc ?_
 intro fn hfn
 obtain ⟨rec, hrec⟩ : ∃ rec : LoopState → Option Code → Loop, rec = fun st pe => { state := st, pending := pe, fn, tmps := a.tmps, params := ps, assign, body, defers := w.heap.size } := ⟨_, rfl⟩
 obtain ⟨W1, hW1⟩ : ∃ W1, (w.alloc (.deferred (some []))).alloc (.loop (rec .ready none)) = W1 := ⟨_, rfl⟩
 have hsz : (w.alloc (.deferred (some []))).heap.size = w.heap.size + 1 := by simp
 have tD := t.alloc (.deferred (some []))
 have tL := tD.alloc (.loop (rec .ready none))
 obtain ⟨_, f1⟩ := fresh_none t
 obtain ⟨_, f2⟩ := fresh_none tD
 rw [hsz] at tL f2
 rw [hW1] at tL
 refine ⟨w.heap.size + 1, [{ target := .collected w.heap.size, args := #[] }], W1, { target := .fn (.func g) lb.toArray, args := #[.func (.yield (w.heap.size + 1)) #[] #[]] }, W1, g,
  #[.func (.yield (w.heap.size + 1)) #[] #[]] ++ lb.toArray, W1, ?_, ?_, fun _ _ => trivial, ?_, (fun e => by cases e), ?_⟩
 · rw [← hW1, hrec]; exact run_enterLoop_outer _ _ _ _ _
 · simp only [resolve, rangeCall]
   rw [fr.ev hf]
   simp [go_sem]
 · obtain ⟨X', A', v', o', B', hen⟩ := en (w.heap.size + 1)
   have := hen.enters
   simp [invoke, go_sem]
   exact this _ _
 ·
  have ys : YSpecE P (.func (.yield (w.heap.size + 1)) #[] #[]) enc ok E (fun pre => Al (Blk (w.heap.size + 1) (.loop (rec .ready none)) :: I pre))
      (fun pre => Ex fun j : Option Nat => Al (Blk (w.heap.size + 1) (.loop (rec .done (some (jc j)))) :: Ix j pre)) := by
   refine ⟨_, rfl, fun pre x hok w' M' h' hf' dj' t' hj hex => ?_⟩
   obtain ⟨p1, p2, dp, e, hp1, sp2⟩ := hj
   have hp1' : p1 = Res.one _ _ := hp1
   subst hp1'
   subst e
   have hl : w'.heap[w.heap.size + 1]? = some (.loop (rec .ready none)) := t'.ow _ _ (by simp [Res.add, Res.one])
   have hy := run_yield (P := P) (args := (enc x).toArray) hl (by rw [hrec]; simpa using hps x)
   refine ⟨_, _, _, _, hy, roundIn_of_wpIn (F := WF none) trivial ?_⟩
   have e1 : (rec .ready none).assign = assign := by rw [hrec]
   have e2 : (rec .ready none).body = body := by rw [hrec]
   have e3 : (rec .ready none).tmps = a.tmps := by rw [hrec]
   have e4 : (rec .ready none).params = ps := by rw [hrec]
   rw [e1, e2, e3, e4]
   obtain ⟨dj1, dj2⟩ := Res.dj_add_left.1 dj'
   have hfold : (ps.zip (enc x).toArray).foldl (fun t (p, v) => t.setIfInBounds p v) a.tmps = (ps.toList.zip (enc x)).foldl (fun t (p, v) => t.setIfInBounds p v) a.tmps := by
    rw [← Array.foldl_toList]; simp
   rw [hfold]
   have hfr : Fr n (bindL ps.toList (enc x) L) { tmps := (ps.toList.zip (enc x)).foldl (fun t (p, v) => t.setIfInBounds p v) a.tmps, defers := [] } :=
    fr_bind ps.toList (enc x) (fun p hp => by have := List.all_eq_true.1 hpn p hp; simpa using this) fr
   have d2 : p2.dj ((Res.one (w.heap.size + 1) (.loop (rec .ready none))).add hf') := Res.dj_add_right.2 ⟨Res.dj_comm dp, dj2⟩
   have t2 : Sat w' M' (p2.add ((Res.one (w.heap.size + 1) (.loop (rec .ready none))).add hf')) := by
    rw [← Res.add_assoc, ← Res.add_comm dp]; exact t'
   have hw := round (w.heap.size + 1) pre x hok _ M' p2 ⟨hfr, Res.emp, p2, Res.emp_dj _, rfl, trivial, Res.emp, p2, Res.emp_dj _, rfl, hex, sp2⟩ w' _ d2 t2
   refine wpIn_mono (F := WF (some (w.heap.size + 1))) hw ?_
   rintro ex a1 w1 ⟨M1, h1, le1, dj3, t3, q1⟩
   cases ex with
   | normal =>
     have q1' : wout (some (w.heap.size + 1)) P body (roundO I Ix (pre ++ [x])) a1 M1 h1 := q1
     obtain ⟨y1, y2⟩ := Res.dj_add_right.1 dj3
     have hb : w1.heap[w.heap.size + 1]? = some (.loop (rec .ready none)) := t3.ow _ _ (Res.le_add_right dj3 _ _ (by simp [Res.add, Res.one]))
     refine ⟨_, run_beginRound hb (by rw [hrec]), ?_⟩
     have dA : (Res.one (w.heap.size + 1) (.loop (rec .ready none))).dj (h1.add hf') := Res.dj_add_right.2 ⟨Res.dj_comm y1, dj1⟩
     have hcomm : ∀ o : Obj, h1.dj (Res.one (w.heap.size + 1) o) → h1.add ((Res.one (w.heap.size + 1) o).add hf') = (Res.one (w.heap.size + 1) o).add (h1.add hf') := fun o dd => by
      rw [← Res.add_assoc, Res.add_comm dd, Res.add_assoc]
     rw [hcomm _ y1] at t3
     have t4 := Sat.putObj (o' := .loop { rec .ready none with state := .busy }) dA t3
     have dB : (Res.one (w.heap.size + 1) (.loop { rec .ready none with state := .busy })).dj (h1.add hf') := dj_one_any dA
     have dB1 := (Res.dj_add_right.1 dB).1
     rw [← hcomm _ (Res.dj_comm dB1)] at t4
     refine wpIn_mono (F := WF (some (w.heap.size + 1))) (q1' _ _ (Res.dj_add_right.2 ⟨Res.dj_comm dB1, y2⟩) t4) ?_
     have fin : ∀ (jump : Option Code) (M2 : Kn) (h2 : Res) (w2 : World), M1.le M2 → h2.dj ((Res.one (w.heap.size + 1) (.loop { rec .ready none with state := .busy })).add hf') → Sat w2 M2 (h2.add ((Res.one (w.heap.size + 1) (.loop { rec .ready none with state := .busy })).add hf')) →
         ∃ w3, (Instr.endRound (w.heap.size + 1) jump).run P w2 = .ok (.bool jump.isNone) w3 ∧ (Res.one (w.heap.size + 1) (.loop (rec (if jump.isNone then .ready else .done) jump))).dj h2 ∧
          ((Res.one (w.heap.size + 1) (.loop (rec (if jump.isNone then .ready else .done) jump))).add h2).dj hf' ∧ Sat w3 M2 (((Res.one (w.heap.size + 1) (.loop (rec (if jump.isNone then .ready else .done) jump))).add h2).add hf') := by
      intro jump M2 h2 w2 le2 dj5 t5
      have hb2 : w2.heap[w.heap.size + 1]? = some (.loop { rec .ready none with state := .busy }) := t5.ow _ _ (Res.le_add_right dj5 _ _ (by simp [Res.add, Res.one]))
      have hr := run_endRound (P := P) jump hb2
      obtain ⟨z1, z2⟩ := Res.dj_add_right.1 dj5
      have eqq : h2.add ((Res.one (w.heap.size + 1) (.loop { rec .ready none with state := .busy })).add hf') = (Res.one (w.heap.size + 1) (.loop { rec .ready none with state := .busy })).add (h2.add hf') := by
       rw [← Res.add_assoc, Res.add_comm z1, Res.add_assoc]
      rw [eqq] at t5
      have dC : (Res.one (w.heap.size + 1) (.loop { rec .ready none with state := .busy })).dj (h2.add hf') := Res.dj_add_right.2 ⟨Res.dj_comm z1, dj_one_any dj1⟩
      have t6 := Sat.putObj (o' := .loop (rec (if jump.isNone then .ready else .done) jump)) dC t5
      have dD : (Res.one (w.heap.size + 1) (.loop (rec (if jump.isNone then .ready else .done) jump))).dj (h2.add hf') := dj_one_any dC
      obtain ⟨v1, v2⟩ := Res.dj_add_right.1 dD
      refine ⟨_, ?_, v1, Res.dj_add_left.2 ⟨v2, z2⟩, by rw [Res.add_assoc]; exact t6⟩
      rw [hr, hrec]
     rintro e2 a2 w2 ⟨M2, h2, le2, dj5, t5, q2⟩
     cases e2 with
     | normal =>
       obtain ⟨w3, r1, r2, r3, r4⟩ := fin none M2 h2 w2 le2 dj5 t5
       exact ⟨_, w3, r1, true, M2, _, rfl, Kn.le_trans le1 le2, r3, r4, _, _, r2, rfl, rfl, q2⟩
     | ret =>
       obtain ⟨w3, r1, r2, r3, r4⟩ := fin (some .ret) M2 h2 w2 le2 dj5 t5
       exact ⟨_, w3, r1, false, M2, _, rfl, Kn.le_trans le1 le2, r3, r4, none, _, _, r2, rfl, rfl, q2⟩
     | exit id =>
       obtain ⟨w3, r1, r2, r3, r4⟩ := fin (some (.exit id)) M2 h2 w2 le2 dj5 t5
       exact ⟨_, w3, r1, false, M2, _, rfl, Kn.le_trans le1 le2, r3, r4, some id, _, _, r2, rfl, rfl, q2⟩
     | goto _ => exact q2.elim
     | panic _ => exact q2.elim
     | outgrown => exact q2.elim
   | ret => exact q1.elim
   | exit _ => exact q1.elim
   | goto _ => exact q1.elim
   | panic _ => exact q1.elim
   | outgrown => exact q1.elim
  have sp := it _ _ _ _ ys
  -- resources
  obtain ⟨dg1, dg2⟩ := Res.dj_add_right.1 dg
  obtain ⟨q1, q2⟩ := Res.dj_add_left.1 dj
  obtain ⟨q3, q4⟩ := Res.dj_add_left.1 q2
  let D : Res := Res.one w.heap.size (.deferred (some []))
  let Lp : Res := Res.one (w.heap.size + 1) (.loop (rec .ready none))
  have dLp : Lp.dj (D.add ((g1.add (kI.add kA)).add hfr)) := one_dj f2
  have dD : D.dj ((g1.add (kI.add kA)).add hfr) := one_dj f1
  obtain ⟨a1, a2⟩ := Res.dj_add_right.1 dLp
  obtain ⟨a3, a4⟩ := Res.dj_add_right.1 a2
  obtain ⟨a5, a6⟩ := Res.dj_add_right.1 a3
  obtain ⟨a7, a8⟩ := Res.dj_add_right.1 a6
  obtain ⟨b3, b4⟩ := Res.dj_add_right.1 dD
  obtain ⟨b5, b6⟩ := Res.dj_add_right.1 b3
  obtain ⟨b7, b8⟩ := Res.dj_add_right.1 b6
  have eqr : Lp.add (D.add ((g1.add (kI.add kA)).add hfr)) = ((Lp.add kI).add kA).add ((D.add g1).add hfr) := by
   funext i
   simp only [Res.add]
   have c1 := b7 i; have c2 := b8 i; have c3 := b5 i; have c4 := dg1 i; have c5 := dg2 i
   revert c1 c2 c3 c4 c5
   cases Lp i <;> cases D i <;> cases g1 i <;> cases kI i <;> cases kA i <;> simp
  have tL' : Sat W1 M (((Lp.add kI).add kA).add ((D.add g1).add hfr)) := by rw [← eqr]; exact tL
  have djr : ((Lp.add kI).add kA).dj ((D.add g1).add hfr) := by
   refine Res.dj_add_left.2 ⟨Res.dj_add_left.2 ⟨?_, ?_⟩, ?_⟩
   · exact Res.dj_add_right.2 ⟨Res.dj_add_right.2 ⟨a1, a5⟩, a4⟩
   · exact Res.dj_add_right.2 ⟨Res.dj_add_right.2 ⟨Res.dj_comm b7, Res.dj_comm dg1⟩, q3⟩
   · exact Res.dj_add_right.2 ⟨Res.dj_add_right.2 ⟨Res.dj_comm b8, Res.dj_comm dg2⟩, q4⟩
  have cc := sp.calls W1 M ((Lp.add kI).add kA) ((D.add g1).add hfr) djr tL' ⟨Lp.add kI, kA, Res.dj_add_left.2 ⟨a8, dIA⟩, rfl, ⟨Lp, kI, a7, rfl, rfl, sI⟩, sA⟩
  have hargs : (Value.func (.yield (w.heap.size + 1)) #[] #[] :: lb).toArray = #[.func (.yield (w.heap.size + 1)) #[] #[]] ++ lb.toArray := by simp
  rw [hargs] at cc
  refine CallsIn.mono (F := WF none) cc ?_
  rintro ee w3 ⟨x, M3, h3, rfl, hx, le3, dj3, t3, s3⟩
  have stN : ∀ (o : Obj) (Gs : List HP) (m : Res), (Res.one (w.heap.size + 1) o).dj m → ((Res.one (w.heap.size + 1) o).add m).dj ((D.add g1).add hfr) → Sat w3 M3 (((Res.one (w.heap.size + 1) o).add m).add ((D.add g1).add hfr)) → SL Gs M3 m → ∀ o' : Obj,
      St n L Gs { a with defers := [{ target := .collected w.heap.size, args := #[] }] ++ a.defers } M3 ((D.add g1).add m) ∧ ((D.add g1).add m).dj hfr ∧ Sat (w3.putObj (w.heap.size + 1) o') M3 (((D.add g1).add m).add hfr) := by
   intro o Gs m dom djm tm sm o'
   obtain ⟨u1, u2⟩ := Res.dj_add_left.1 djm
   obtain ⟨u3, u4⟩ := Res.dj_add_right.1 u2
   obtain ⟨u5, u6⟩ := Res.dj_add_right.1 u3
   obtain ⟨u7, u8⟩ := Res.dj_add_right.1 u1
   refine ⟨⟨fr, D.add g1, m, Res.dj_comm u3, rfl, ?_, sm⟩, Res.dj_add_left.2 ⟨Res.dj_add_left.2 ⟨b4, q1⟩, u4⟩, ?_⟩
   · refine ⟨D, g1, b5, rfl, ⟨w.heap.size, Res.emp, D, Res.emp_dj _, rfl, rfl, D, Res.emp, Res.dj_emp _, (Res.add_emp _).symm, rfl, trivial⟩, SL.mono le3 sd⟩
   · rw [Res.add_assoc] at tm
     have dX : (Res.one (w.heap.size + 1) o).dj (m.add ((D.add g1).add hfr)) := Res.dj_add_right.2 ⟨dom, u1⟩
     have t7 := Sat.putObj (o' := o') dX tm
     have eq7 : m.add ((D.add g1).add hfr) = ((D.add g1).add m).add hfr := by rw [← Res.add_assoc, Res.add_comm u3]
     rw [eq7] at t7
     exact t7.le (Res.le_add_right (by rw [← eq7]; exact dj_one_any dX))
  obtain ⟨x, all⟩ := x
  obtain ⟨hx, hfin⟩ := hx
  dsimp only at hx hfin s3 ⊢
  obtain ⟨m1, m2, dm, e, sm1, sm2⟩ := s3
  subst e
  cases x with
  | none =>
    obtain ⟨o1, o2, do12, e, ho1, so2⟩ := sm1
    have ho1' : o1 = Res.one _ _ := ho1
    subst ho1'
    subst e
    have hb : w3.heap[w.heap.size + 1]? = some (.loop (rec .ready none)) := t3.ow _ _ (by simp [Res.add, Res.one])
    refine ⟨none, _, by have := run_endLoop (P := P) hb (by rw [hrec]; simp); rw [hrec] at this; exact this, ?_⟩
    obtain ⟨v1, v2⟩ := Res.dj_add_left.1 dm
    rw [Res.add_assoc (Res.one _ _) o2 m2] at t3 dj3
    obtain ⟨w1, w2, w4⟩ := stN _ (I all ++ Bs) (o2.add m2) (Res.dj_add_right.2 ⟨do12, v1⟩) dj3 t3 (SL.append v2 so2 sm2) (.loop { rec .ready none with state := .exhausted })
    have := done all (hfin rfl) _ M3 _ w1
    rw [hrec] at w4
    exact ⟨M3, _, le3, w2, w4, this⟩
  | some pre =>
    obtain ⟨j, o1, o2, do12, e, ho1, so2⟩ := sm1
    have ho1' : o1 = Res.one _ _ := ho1
    subst ho1'
    subst e
    have hb : w3.heap[w.heap.size + 1]? = some (.loop (rec .done (some (jc j)))) := t3.ow _ _ (by simp [Res.add, Res.one])
    refine ⟨some (jc j), _, by have := run_endLoop (P := P) hb (by rw [hrec]; simp); rw [hrec] at this; exact this, ?_⟩
    obtain ⟨v1, v2⟩ := Res.dj_add_left.1 dm
    rw [Res.add_assoc (Res.one _ _) o2 m2] at t3 dj3
    obtain ⟨w1, w2, w4⟩ := stN _ (Ix j pre ++ Bs) (o2.add m2) (Res.dj_add_right.2 ⟨do12, v1⟩) dj3 t3 (SL.append v2 so2 sm2) (.loop { rec .done (some (jc j)) with state := .exhausted })
    rw [hrec] at w4
    exact wpIn_mono (stop j pre (hx pre rfl) _ M3 _ w1 _ _ w2 w4) (fun _ _ _ q => lift_le le3 q)
theorem p_rangeFuncX {α : Type} {g : Nat} {lb : List Value} {enc : α → List Value} {ok : List α → α → Prop} {stopped : List α → Prop} {E : α → HP} {R : HP} {As Bs : List HP} {fin : List α → Prop} {val : Option (List α) → Value}
    (I : List α → List HP) (Ix : Option Nat → List α → List HP) (I0 : List α → List HP) (hc : c = .rangeFunc (rF c) (rP c) (rA c) (rB c))
    (it : IterX P g lb enc ok stopped E R As Bs fin val)
    (hf : ev L (rF c) = some (.func (.func g) #[] lb.toArray))
    (hps : ∀ x, (enc x).length = (rP c).size) (hpn : (rP c).toList.all (fun p => Nat.blt p n) = true)
    (h1 : ∀ pre, Ent (I pre) (R :: I0 pre)) (h2 : ∀ pre, Ent (R :: I0 pre) (I pre))
    (ha : Ent Hs (I [] ++ As))
    (round : ∀ (l : Nat) (pre : List α) (x : α), ok pre x → wc (some l) P n (rA c) (bindL (rP c).toList (enc x) L) (E x :: I pre) (asgO (some l) P (rB c) (roundO I Ix (pre ++ [x]))))
    (done : ∀ all, fin all → tw n Q .normal L (I all ++ Bs))
    (stop : ∀ (j : Option Nat) (pre : List α), stopped pre → wc none P n (jc j) L (Ix j pre ++ Bs) Q) : wc none P n c L Hs Q := by
 rw [hc]
 refine wc_rangeFuncE (fin := fin) I Ix hf (fun l => ⟨_, _, _, _, _, it (.func (.yield l) #[] #[]) (fun _ => ⟨fun _ _ => False, fun _ e => e⟩) (fun _ => ⟨fun _ _ => False, fun _ e => e⟩) (fun _ => ⟨fun _ _ => False, fun _ e => e⟩) ⟨_, rfl, fun _ _ _ _ _ _ _ _ _ e => e.elim⟩ (fun _ => ⟨fun ⟨_, _, _, _, e, _⟩ => e.elim⟩) (fun _ => ⟨fun ⟨_, _, _, _, _, _, _, _, _, e, _⟩ => e.elim⟩)⟩) (fun b o y Jx ys => it y _ (fun pre => Al (Blk b o :: I0 pre)) Jx ys (fun pre => ?_) (fun pre => ?_)) hps hpn ha round done stop
 · exact ent_al_one.trans ((ent_cons (A := Blk b o) (h1 pre)).trans ((ent_cons (A := R) (Ent.refl _)).trans (ent_cons ent_one_al)))
 · exact ent_al_last.trans (((ent_cons (A := Blk b o) (Ent.refl _)).trans (ent_cons (h2 pre))).trans ent_one_al)
end
end
section
set_option maxRecDepth 100000
/-- A check-in that is held, as it lies in memory. -/
abbrev CkN := Bs × CkA × Ck
def ckKey (x : CkN) : Bs × Ck := (x.1, x.2.2)
def ckV (x : CkN) : Value := .agg (ckVals x.2.1 x.2.2).toArray
abbrev CkM (x : CkN) : HP := Al [SlI x.2.1.fa (x.2.2.files.flatMap flCells), SlI x.2.1.pa (x.2.2.parents.map vS), SlI x.2.1.ta (x.2.2.tags.flatMap tgCells)]
theorem CkM.pers (x : CkN) : Pers (CkM x) := Al.pers (by
 intro A hA
 simp only [List.mem_cons, List.not_mem_nil, or_false] at hA
 rcases hA with rfl | rfl | rfl <;> exact PersC.get)
/-- What some check-ins point at: it never turns. -/
def CkMs (l : List CkN) : HP := ⟨fun M _ => ∀ x ∈ l, (CkM x).at_ M Res.emp, fun le h x hx => (CkM x).mono le (h x hx)⟩
instance {l : List CkN} : PersC (CkMs l) := ⟨fun e => e⟩
theorem ent_ckms_nil {Hs : List HP} : Ent Hs (CkMs [] :: Hs) := ⟨fun {M g} s => ⟨Res.emp, g, Res.emp_dj _, rfl, (fun x h => by cases h), s⟩⟩
theorem ent_ckms_snoc {l : List CkN} {x : CkN} {Hs : List HP} (h1 : Has (CkMs l) Hs) (h2 : Has (CkM x) Hs) : Ent Hs (CkMs (l ++ [x]) :: Hs) := ⟨fun {M g} s => by
 obtain ⟨_, _, a⟩ := h1.sat s
 obtain ⟨_, _, b⟩ := h2.sat s
 refine ⟨Res.emp, g, Res.emp_dj _, rfl, fun y hy => ?_, s⟩
 rcases List.mem_append.1 hy with hy | hy
 · exact a y hy
 · rw [List.mem_singleton.1 hy]; exact CkM.pers x b⟩
theorem ent_ckm {l : List CkN} {x : CkN} {Hs : List HP} (h : x ∈ l) (hp : Has (CkMs l) Hs) : Ent Hs (SlI x.2.1.fa (x.2.2.files.flatMap flCells) :: SlI x.2.1.pa (x.2.2.parents.map vS) :: SlI x.2.1.ta (x.2.2.tags.flatMap tgCells) :: Hs) := ⟨fun {M g} s => by
 obtain ⟨_, _, a⟩ := hp.sat s
 obtain ⟨h1, h2, d, e, x1, h3, h4, d', e', x2, h5, h6, d2, e2, x3, _⟩ := a x h
 have p1 := (PersC.get : Pers (SlI x.2.1.fa (x.2.2.files.flatMap flCells))) x1
 have p2 := (PersC.get : Pers (SlI x.2.1.pa (x.2.2.parents.map vS))) x2
 have p3 := (PersC.get : Pers (SlI x.2.1.ta (x.2.2.tags.flatMap tgCells))) x3
 exact ⟨Res.emp, g, Res.emp_dj _, rfl, p1, Res.emp, g, Res.emp_dj _, rfl, p2, Res.emp, g, Res.emp_dj _, rfl, p3, s⟩⟩
theorem get_headD {l : List Bs} (h : 0 < l.length) : l[0] = l.headD [] := by cases l; simp at h; rfl
theorem links_First_sp {B : HP} (xa : CkA) (c : Ck) (hz : c.parents.length ≤ 9223372036854775807) (sh : SlA B xa.pa (c.parents.map vS)) :
    Sp1 Tryz.prog 54 [.agg (ckVals xa c).toArray] [B] (vS (firstB c)) [B] := by
 haveI : RdSl xa.pa (c.parents.map vS) [B] := ⟨⟨B, sh, .here⟩⟩
 refine Sp.body (n := 11) Tryz.call54 Tryz.func54 rfl rfl rfl ?_
 refine Qc (k:=Zx [_, _, _, _, _, _, _] (k:=fun b1 => Vv (k:=Wq (Za (k:=Qc (k:=Qx 4 27 (k:=Qv (k:=?_))))))))
 refine Wq (Zi (t:=fun h6 => ?_) (f:=fun h6 => ?_))
 ·
  refine Qc (k:=Vv (k:=Wq (Zt (k:=Va ?_))))
  have : c.parents = [] := List.eq_nil_of_length_eq_zero (by omega)
  rw [firstB, this]
  exact fin_ret () (vs := [_]) (Cs := []) rfl (.tmp rfl .nil) rfl trivial ent_pick
 ·
  have hp0 : 0 < c.parents.length := by omega
  have hfb : c.parents[0] = firstB c := get_headD hp0
  haveI : RdSl xa.pa (c.parents.map vS) [Ce b1 30 (ckVals xa c), B] := ⟨⟨B, sh, .there .here⟩⟩
  refine Zk (k:=Ya (Qc (k:=Qx 4 27 (k:=?_))))
  refine r_elemAddr (m := 0) (sz := 1) Tryz.underlying27 ti9 rfl rfl rfl rfl (by omega) (by rw [List.length_map]; omega) (Nat.mul_one _) rfl ?_
  refine r_eload Tryz.underlying9 rfl rfl ((get_map (m := 0) (by omega)).trans (by rw [hfb])) rfl ?_
  refine Vv (k:=Wq (Zt (k:=?_)))
  exact fin_ret () (vs := [_]) (Cs := []) rfl (.tmp rfl .nil) rfl trivial ent_pick
theorem links_Checkins_sp (m : Option Nat) : Sp Tryz.prog 23 [.map m] [] (X := Nat) (fun b => .func (.func 64) #[] #[.pointer (some ⟨b, 0, none⟩)]) (fun _ => True) (fun b => [Ce b 31 [.map m]]) := by
 refine Sp.body (n := 4) Tryz.call23 Tryz.func23 rfl rfl rfl ?_
 refine Qc (k:=Zx [_] (k:=fun b1 => Vv (k:=Wq (Qc (k:=Qv (k:=Wq (Zt (k:=?_))))))))
 exact fin_ret b1 (vs := [_]) (Cs := []) rfl (.tmp rfl .nil) rfl trivial ent_pick
/-! The walk over the check-ins. -/
theorem cksF_snoc (H : Ks) (l : List Bs) (n : Bs) : cksF H (l ++ [n]) = cksF H l ++ ckOf H n := by simp [cksF]
def okC (H : Ks) (pre : List CkN) (x : CkN) : Prop := (∃ r, cksL H = pre.map ckKey ++ ckKey x :: r) ∧ x.2.2.parents.length ≤ x.2.1.pc ∧ readK (getB H x.1) = some x.2.2
def stopC (H : Ks) (pre : List CkN) : Prop := pre ≠ [] ∧ ∃ r, cksL H = pre.map ckKey ++ r
def finC (H : Ks) (all : List CkN) : Prop := all.map ckKey = cksL H
theorem zb64next0 {G : Prop} (h : G := by
    first
    | (refine to_inv ⟨(j + 1, pre ++ [(nm, xa, ck)]), by dsimp only; omega, by dsimp only; rw [List.map_append, hpre, hfs]; rfl⟩ (by dsimp only; omega) ⟨rfl, rfl, rfl, rfl, rfl, trivial⟩ ?_
       dsimp only
       exact ent_pick)
    | (refine to_inv ⟨(j + 1, pre), by dsimp only; omega, by dsimp only; rw [hpre, hfs]⟩ (by dsimp only; omega) ⟨rfl, rfl, rfl, rfl, rfl, trivial⟩ ?_
       dsimp only
       refine ent_fold2 (hj2 pre) ?_
       exact ent_pick)) : G := h
set_option maxHeartbeats 2000000 in
theorem links_Checkins_it (c b : Nat) (H : Ks) (hH : TxtK H) (hn : H.length ≤ 4398046511104) :
    IterX Tryz.prog 64 [.pointer (some ⟨c, 0, none⟩)] (fun x : CkN => [vS x.1, ckV x]) (okC H) (stopC H) CkM (MapS b H) [Ce c 31 [.map (some b)]] [Ce c 31 [.map (some b)]] (finC H) (fun _ => .tuple #[]) := by
 intro y Jy J0 Jx ys hj1 hj2
 have hkl := keysS_len H
 refine Sp.body (n := 31) Tryz.call64 Tryz.func64 rfl rfl rfl ?_
 refine wc_ent' (ent_open2 (hj1 []) (Ent.refl _)) ?_
 refine Qc (k:=Zd (k:=?_))
 refine r_callX (maps_Keys_sp (some b)) rfl rfl rfl (fun cb _ => ?_)
 refine r_callX (slices_Sorted_sp (maps_Keys_it cb b H) H.length hn (fun pre x h => h.2.2) (fun l h => by have := h.length_eq; simp at this; omega)) rfl rfl rfl (fun xs hxs => ?_)
 obtain ⟨⟨sa, sc⟩, al⟩ := xs
 have hse : sortB al = keysS H := sortB_eq hxs
 have hal : al.length = H.length := by have := hxs.length_eq; simpa using this
 dsimp only
 rw [hse, hal]
 refine Qv (k:=Wq (Zb (k:=?_)))
 refine p_loop (fun (i : { x : Nat × List CkN // x.1 ≤ H.length ∧ x.2.map ckKey = cksF H ((keysS H).take x.1) }) => [(0, y), (1, .pointer (some ⟨c, 0, none⟩)), (9, .slice sa H.length sc), (10, vI H.length), (11, vI i.1.1)]) (fun (i : { x : Nat × List CkN // x.1 ≤ H.length ∧ x.2.map ckKey = cksF H ((keysS H).take x.1) }) => [Jy i.1.2, Row 9 1 (.slice sa H.length sc) H.length ((keysS H).map vS), Ce c 31 [.map (some b)]]) (fun (i : { x : Nat × List CkN // x.1 ≤ H.length ∧ x.2.map ckKey = cksF H ((keysS H).take x.1) }) => H.length - i.1.1) rfl (⟨(0, []), Nat.zero_le _, rfl⟩) ?_ ?_ (fun i => ?_)
 · exact ⟨rfl, rfl, rfl, rfl, rfl, trivial⟩
 ·
  dsimp only
  refine ent_fold2 (hj2 []) ?_
  exact ent_pick
 obtain ⟨⟨j, pre⟩, hj, hpre⟩ := i
 dsimp only at hj hpre ⊢
 try dsimp only
 refine Qc (k:=Vv (k:=Wq (Za (k:=Zi (t:=fun h12 => ?_) (f:=fun h12 => ?_)))))
 ·
  refine Zk (k:=Ya (Za (k:=Zb (k:=Za (k:=?_)))))
  have hjl : j < (keysS H).length := by omega
  refine wc_ent' (ent_open2 (hj1 pre) (Ent.refl _)) ?_
  have hst : (keysS H).take (j + 1) = (keysS H).take j ++ [(keysS H)[j]] := List.take_succ_eq_append_getElem hjl
  obtain ⟨nm, hnm⟩ : ∃ nm, nm = (keysS H)[j] := ⟨_, rfl⟩
  have hfs : cksF H ((keysS H).take (j + 1)) = cksF H ((keysS H).take j) ++ ckOf H nm := by rw [hst, cksF_snoc, hnm]
  have hff : cksL H = cksF H ((keysS H).take j) ++ ckOf H nm ++ cksF H ((keysS H).drop (j + 1)) := by
   rw [← hfs]
   unfold cksL cksF
   rw [← List.flatMap_append, List.take_append_drop]
  obtain ⟨htx, htl⟩ := hH.get nm
  have hRd := checkin_Read_sp (getB H nm) htl
  refine Zr (k:=Ye 1 (k:=?_))
  refine r_eload Tryz.underlying9 rfl rfl ((get_map (m := j) (by omega)).trans (by rw [← hnm])) rfl ?_
  refine Vv (k:=Wq (Qc (k:=Zd (k:=Vv (k:=?_)))))
  refine r_lookup (v := vS (getB H nm)) Tryz.underlying31 Tryz.underlying9 ti9 rfl rfl rfl htx rfl ?_
  refine r_callX hRd rfl rfl rfl (fun x19 hx19 => ?_)
  obtain ⟨xa, ck⟩ := x19
  obtain ⟨hck, hpc⟩ := hx19
  dsimp only at hck hpc ⊢
  refine Vv (k:=?_)
  refine wo_pv (pv_extract (v := .agg #[vS ck.base, vS ck.comment, vI ck.date, .slice xa.fa ck.files.length xa.fc, .slice xa.pa ck.parents.length xa.pc, .slice xa.ta ck.tags.length xa.tc, vS ck.user]) rfl rfl) rfl ?_
  refine wo_pv (pv_extract (v := vB (readK (getB H nm)).isSome) rfl rfl) rfl ?_
  refine Zc [vS [], vS [], .int .i64 0, .slice none 0 0, .slice none 0 0, .slice none 0 0, vS []] (k:=fun b5 => Zp (k:=Vv (k:=Wq (Qc (k:=Qv (k:=Gi 1 (t:=fun h23 => ?_) (f:=fun h23 => ?_)))))))
  ·
   obtain ⟨k, hk⟩ : ∃ k, readK (getB H nm) = some k := Option.isSome_iff_exists.1 h23
   have hkk : ck = k := by rw [hck, hk]; rfl
   subst hkk
   have hof : ckOf H nm = [(nm, ck)] := by rw [ckOf, hk]
   rw [hof] at hfs hff
   refine wo_frzR xa.fa ?_
   refine wo_frzR xa.ta ?_
   refine wo_ent' (Gs := CkM (nm, xa, ck) :: Jy pre :: [Ce b5 30 [vS ck.base, vS ck.comment, vI ck.date, .slice xa.fa ck.files.length xa.fc, .slice xa.pa ck.parents.length xa.pc, .slice xa.ta ck.tags.length xa.tc, vS ck.user], Row 9 1 (.slice sa H.length sc) H.length ((keysS H).map vS), Ce c 31 [.map (some b)]]) (ent_al (ent_cons (ent_cons (ent_cons (ent_fold2 (hj2 pre) ent_pick))))) ?_
   refine J1 (k:=J1 (k:=I1 (k:=Zm [_, _, _, _, _, _, _] (k:=I1 (k:=?_)))))
   refine r_yieldE ys pre (nm, xa, ck) ⟨⟨_, by rw [hff, hpre, List.append_assoc]; rfl⟩, hpc, hk⟩ (CkM.pers _) rfl rfl rfl ?_ ?_
   ·
    refine J1 (k:=P1 (k:=Wq (Z0 (k:=Zk (k:=Yb (Ya (Zr (k:=Qv (k:=Wn ?_)))))))))
    exact zb64next0
   ·
    refine J1 (k:=P1 (k:=Wq (Z1 (k:=Zt (k:=Vb (Va (Vi (Vb ?_))))))))
    refine fin_ret (some (pre ++ [(nm, xa, ck)]), []) (vs := []) (Cs := []) rfl .nil rfl ⟨fun q e => by cases e; exact ⟨by simp, _, by rw [hff, List.map_append, hpre]; rfl⟩, fun e => by cases e⟩ ?_
    simp only [endsAt]
    exact ent_pick
  ·
   have hk : readK (getB H nm) = none := by cases e : readK (getB H nm) with | none => rfl | some k => rw [e] at h23; cases h23
   have hof : ckOf H nm = [] := by rw [ckOf, hk]
   rw [hof, List.append_nil] at hfs
   refine O0 (k:=O0 (k:=O0 (k:=O0 (k:=O0 (k:=P0 (k:=Wq (Z0 (k:=Zk (k:=Yb (Ya (Zr (k:=?_))))))))))))
   refine Qv (k:=Wn ?_)
   exact zb64next0
 ·
  refine Ze (k:=Xa (Xi (Xb ?_)))
  have hj2 : j = (keysS H).length := by omega
  subst hj2
  rw [List.take_length] at hpre
  refine fin_end (none, pre) (vs := []) (Cs := []) rfl .nil rfl ⟨(fun q e => by cases e), fun _ => hpre⟩ ?_
  simp only [endsAt]
  exact ent_pick
/-! maps.Collect. -/
def ckK (l : List CkN) : Ks := l.foldl (fun m x => mput m x.1 (ckV x)) []
theorem ckK_snoc (l : List CkN) (x : CkN) : ckK (l ++ [x]) = mput (ckK l) x.1 (ckV x) := by simp [ckK]
section
variable {g : Nat} {lb : List Value} {ok : List CkN → CkN → Prop} {stopped : List CkN → Prop} {R : HP} {As Bs' : List HP} {fin : List CkN → Prop} {val : Option (List CkN) → Value}
theorem maps_InsertC_sp (it : IterX Tryz.prog g lb (fun x : CkN => [vS x.1, ckV x]) ok stopped CkM R As Bs' fin val) (b : Nat) [hp : PicksC As As []] :
    Sp Tryz.prog 168 [.map (some b), .func (.func g) #[] lb.toArray] (R :: MapS b [] :: As) (X := List CkN) (fun _ => .tuple #[]) fin (fun l => CkMs l :: MapS b (ckK l) :: R :: Bs') := by
 refine Sp.body (n := 12) Tryz.call168 Tryz.func168 rfl rfl rfl ?_
 refine Qc (k:=Zx [_] (k:=fun b2 => Wq (Qc (k:=Vv (k:=Wq (Zb (k:=?_)))))))
 refine p_rangeFuncX (fun pre => [CkMs pre, MapS b (ckK pre), Ce b2 138 [.map (some b)], R]) (fun j pre => [Pu False]) (fun pre => [CkMs pre, MapS b (ckK pre), Ce b2 138 [.map (some b)]]) rfl it rfl (fun _ => by rfl) rfl (fun pre => ?_) (fun pre => ?_) ?_ (fun l pre x hok => ?_) (fun all hfin => ?_) (fun j pre hs => ?_)
 · exact ent_pick
 · exact ent_pick
 · (refine ent_app (ent_ckms_nil.trans ?_); rw [show ckK [] = [] from rfl]; exact ent_pick)
 ·
  obtain ⟨nm, xa, ck⟩ := x
  have hks : ckK (pre ++ [(nm, xa, ck)]) = mput (ckK pre) nm (.agg #[vS ck.base, vS ck.comment, vI ck.date, .slice xa.fa ck.files.length xa.fc, .slice xa.pa ck.parents.length xa.pc, .slice xa.ta ck.tags.length xa.tc, vS ck.user]) := ckK_snoc pre (nm, xa, ck)
  dsimp only [ckV, ckVals]
  refine Qc (k:=Vv (k:=Wq (Zr (k:=Zc [vS [], vS [], .int .i64 0, .slice none 0 0, .slice none 0 0, .slice none 0 0, vS []] (k:=fun b5 => Zp (k:=Wg (Zb (k:=Zr (k:=Zd (k:=Vv (k:=?_)))))))))))
  refine Zm [_, _, _, _, _, _, _] (k:=?_)
  refine r_mapUpdate Tryz.underlying138 Tryz.underlying9 rfl rfl rfl ?_
  refine Wn (Yb ?_)
  refine to_round ?_
  refine (ent_ckms_snoc (l := pre) (x := (nm, xa, ck)) HasC.get HasC.get).trans ?_
  rw [hks]
  exact ent_pick
 ·
  skip
  refine Yb ?_
  refine fin_end all (vs := []) (Cs := []) rfl .nil rfl hfin ?_
  simp only [List.append_nil, List.cons_append, List.nil_append]
  exact ent_cons (ent_cons (ent_cons (ent_tail.trans ent_tail)))
 ·
  exact wc_no (fun s => by obtain ⟨_, _, _, _, a, _⟩ := s; exact a)
theorem maps_CollectC_sp (it : IterX Tryz.prog g lb (fun x : CkN => [vS x.1, ckV x]) ok stopped CkM R As Bs' fin val) [hp : PicksC As As []] :
    Sp Tryz.prog 126 [.func (.func g) #[] lb.toArray] (R :: As) (X := Nat × List CkN) (fun x => .map (some x.1)) (fun x => fin x.2) (fun x => CkMs x.2 :: MapS x.1 (ckK x.2) :: R :: Bs') := by
 refine Sp.body (n := 9) Tryz.call126 Tryz.func126 rfl rfl rfl ?_
 refine Qc (k:=Vv (k:=Wq (Qc (k:=?_))))
 refine r_mkmap rfl (fun b4 => ?_)
 refine Vv (k:=Wq (Qc (k:=Qv (k:=?_))))
 refine wo_front (MapS b4 []) ?_
 refine wo_front R ?_
 refine wo_call (cap := []) (As := R :: MapS b4 [] :: As) (Rs := []) (by rw [List.append_nil]; exact maps_InsertC_sp it b4) rfl rfl rfl ?_ (fun l hl => ?_)
 · exact .cons .here (.cons .here hp.get)
 refine Wq (Qc (k:=Qv (k:=Wq (Zt (k:=?_)))))
 refine fin_ret (b4, l) (vs := [_]) (Cs := []) rfl (.tmp rfl .nil) rfl hl ?_
 simp only [List.append_nil]
 exact Ent.refl _
end
end
def sdKey (s : Sd) : Bs × Bs := (s.op.name, s.op.target)
theorem llook_lput (l : Ls) (k k' : Bs × Bs) (v : Sd) : llook (lput l k v) k' = if k = k' then some v else llook l k' := by
 induction l with
 | nil => simp [lput, llook]
 | cons p r ih =>
   simp only [lput]
   by_cases h : p.1 = k
   · rw [if_pos h]
     simp only [llook]
     by_cases h2 : k = k'
     · rw [if_pos h2, if_pos h2]
     · rw [if_neg h2, if_neg h2, if_neg (by rw [h]; exact h2)]
   · rw [if_neg h]
     simp only [llook, ih]
     by_cases h2 : p.1 = k'
     · rw [if_pos h2, if_pos h2, if_neg (fun e => h (by rw [h2, e]))]
     · rw [if_neg h2, if_neg h2]
theorem lput_keys (l : Ls) (k : Bs × Bs) (v : Sd) : (lput l k v).map (·.1) = if k ∈ l.map (·.1) then l.map (·.1) else l.map (·.1) ++ [k] := by
 induction l with
 | nil => simp [lput]
 | cons p r ih =>
   simp only [lput]
   by_cases h : p.1 = k
   · rw [if_pos h]; simp [h]
   · rw [if_neg h, List.map_cons, ih]
     by_cases h2 : k ∈ r.map (·.1)
     · rw [if_pos h2, if_pos (by simp [h2])]; rfl
     · rw [if_neg h2, if_neg (by simp only [List.map_cons, List.mem_cons, not_or]; exact ⟨fun e => h e.symm, h2⟩)]; rfl
theorem lput_nodup {l : Ls} (h : (l.map (·.1)).Nodup) (k : Bs × Bs) (v : Sd) : ((lput l k v).map (·.1)).Nodup := by
 rw [lput_keys]
 split
 · exact h
 · rename_i hk
   rw [List.nodup_append]
   exact ⟨h, by simp, fun a ha b hb e => hk (by simp at hb; rw [← hb, ← e]; exact ha)⟩
theorem lstep_look (l : Ls) (s : Sd) (k : Bs × Bs) : llook (lstep l s) k = if sdKey s = k then (match llook l k with | none => some s | some o => if o.date ≤ s.date then some s else some o) else llook l k := by
 unfold lstep
 by_cases h : sdKey s = k
 · rw [if_pos h]
   subst h
   show llook (match llook l (sdKey s) with | none => lput l (sdKey s) s | some old => if old.date ≤ s.date then lput l (sdKey s) s else l) (sdKey s) = _
   cases e : llook l (sdKey s) with
   | none => dsimp only; rw [llook_lput, if_pos rfl]
   | some o =>
     dsimp only
     split
     · rw [llook_lput, if_pos rfl]
     · exact e
 · rw [if_neg h]
   have h' : (s.op.name, s.op.target) ≠ k := h
   split
   · rw [llook_lput, if_neg h']
   · split
     · rw [llook_lput, if_neg h']
     · rfl
theorem lastF_snoc (l : List Sd) (s : Sd) : lastF (l ++ [s]) = lstep (lastF l) s := by simp [lastF]
theorem lstep_nodup {l : Ls} (h : (l.map (·.1)).Nodup) (s : Sd) : ((lstep l s).map (·.1)).Nodup := by
 unfold lstep
 split
 · exact lput_nodup h _ _
 · split
   · exact lput_nodup h _ _
   · exact h
/-- The last one of the latest date. -/
structure LastP (l : List Sd) (k : Bs × Bs) (s : Sd) : Prop where
 key : sdKey s = k
 at_ : ∃ l1 l2, l = l1 ++ s :: l2 ∧ (∀ o ∈ l1, sdKey o = k → o.date ≤ s.date) ∧ (∀ o ∈ l2, sdKey o = k → o.date < s.date)
theorem snoc_ind {α : Type} {P : List α → Prop} (h0 : P []) (h1 : ∀ l a, P l → P (l ++ [a])) : ∀ l, P l := by
 have : ∀ l : List α, P l.reverse := by
  intro l
  induction l with
  | nil => exact h0
  | cons a l ih => rw [List.reverse_cons]; exact h1 _ _ ih
 intro l
 have := this l.reverse
 rwa [List.reverse_reverse] at this
theorem lastF_ok (l : List Sd) : ((lastF l).map (·.1)).Nodup ∧ (∀ k, llook (lastF l) k = none → ∀ s ∈ l, sdKey s ≠ k) ∧ ∀ k s, llook (lastF l) k = some s → LastP l k s := by
 refine snoc_ind (P := fun l => ((lastF l).map (·.1)).Nodup ∧ (∀ k, llook (lastF l) k = none → ∀ s ∈ l, sdKey s ≠ k) ∧ ∀ k s, llook (lastF l) k = some s → LastP l k s) ?_ ?_ l
 · exact ⟨List.nodup_nil, (fun k _ s h => by cases h), (fun k s h => by cases h)⟩
 · rintro l a ⟨hn, h1, h2⟩
   rw [lastF_snoc]
   refine ⟨lstep_nodup hn a, fun k h s hs => ?_, fun k s h => ?_⟩
   · rw [lstep_look] at h
     by_cases e : sdKey a = k
     · rw [if_pos e] at h
       split at h
       · cases h
       · split at h <;> cases h
     · rw [if_neg e] at h
       rcases List.mem_append.1 hs with hs | hs
       · exact h1 k h s hs
       · rw [List.mem_singleton.1 hs]; exact e
   · rw [lstep_look] at h
     by_cases e : sdKey a = k
     · rw [if_pos e] at h
       cases hl : llook (lastF l) k with
       | none =>
         rw [hl] at h
         cases h
         exact ⟨e, l, [], by simp, fun o ho he => absurd he (h1 k hl o ho), by simp⟩
       | some o =>
         rw [hl] at h
         dsimp only at h
         obtain ⟨ok, l1, l2, e1, p1, p2⟩ := h2 k o hl
         split at h
         · rename_i hd
           cases h
           refine ⟨e, l, [], by simp, fun q hq hk => ?_, by simp⟩
           rw [e1] at hq
           rcases List.mem_append.1 hq with hq | hq
           · exact Int.le_trans (p1 q hq hk) hd
           · rcases List.mem_cons.1 hq with rfl | hq
             · exact hd
             · exact Int.le_trans (Int.le_of_lt (p2 q hq hk)) hd
         · rename_i hd
           cases h
           refine ⟨ok, l1, l2 ++ [a], by rw [e1]; simp, p1, fun q hq hk => ?_⟩
           rcases List.mem_append.1 hq with hq | hq
           · exact p2 q hq hk
           · rw [List.mem_singleton.1 hq]; omega
     · rw [if_neg e] at h
       obtain ⟨ok, l1, l2, e1, p1, p2⟩ := h2 k s h
       refine ⟨ok, l1, l2 ++ [a], by rw [e1]; simp, p1, fun q hq hk => ?_⟩
       rcases List.mem_append.1 hq with hq | hq
       · exact p2 q hq hk
       · rw [List.mem_singleton.1 hq] at hk; exact absurd hk e
theorem lastF_none {l : List Sd} {k : Bs × Bs} (h : ∀ s ∈ l, sdKey s ≠ k) : llook (lastF l) k = none := by
 cases e : llook (lastF l) k with
 | none => rfl
 | some s =>
   obtain ⟨hk, l1, l2, e1, _⟩ := (lastF_ok l).2.2 k s e
   exact absurd hk (h s (by rw [e1]; simp))
end Go.Proofs.YtdnoacgopfcpbaaGreat
