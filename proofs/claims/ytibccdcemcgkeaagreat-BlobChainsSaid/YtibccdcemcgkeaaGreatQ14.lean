/- Texts of this proof, put together: RangeB, SFromB, SHash, SHash2, SHash3. -/
import Derived.Test.YtibccdcemcgkeaaGreatQ12
set_option linter.unusedVariables false
set_option linter.unusedSimpArgs false
namespace Go.Proofs.YtibccdcemcgkeaaGreat
section
/-- What a function value does when it is ranged over, while the caller keeps R. -/
def IterB (P : Program) {α : Type} (g : Nat) (lb : List Value) (enc : α → List Value) (ok : List α → α → Prop) (stopped : List α → Prop) (R : HP) (As Bs : List HP) (all : List α) (val : Option (List α) → Value) : Prop :=
 ∀ (y : Value) (J J0 Jx : List α → HP), YSpec P y enc ok J Jx → (∀ pre, Ent [J pre] [R, J0 pre]) → (∀ pre, Ent [R, J0 pre] [J pre]) →
  Sp P g (y :: lb) (J [] :: As) (X := Option (List α)) val (fun x => ∀ pre, x = some pre → stopped pre) (fun x => endsAt J Jx all x :: Bs)
theorem ent_fold2 {R J J0 : HP} {Hs Rs : List HP} (h : Ent [R, J0] [J]) (e : Ent Hs (R :: J0 :: Rs)) : Ent Hs (J :: Rs) := e.trans (h.frame Rs)
theorem ent_open2 {R J J0 : HP} {Hs Rs Gs : List HP} [hp : PickC J Hs Rs] (h : Ent [J] [R, J0]) (e : Ent (R :: J0 :: Rs) Gs) : Ent Hs Gs :=
 ((ent_cons (Ent.refl _)).trans (h.frame Rs)).trans e
theorem ent_al_last {R : HP} {Xs : List HP} : Ent [R, Al Xs] (R :: Xs) := ⟨fun ⟨h1, h2, d, e, a, t⟩ => ⟨h1, h2, d, e, a, by have := sl_al t; rwa [List.append_nil] at this⟩⟩
theorem ent_al_one {Xs : List HP} : Ent [Al Xs] Xs := ⟨fun t => by have := sl_al t; rwa [List.append_nil] at this⟩
theorem ent_one_al {Xs : List HP} : Ent Xs [Al Xs] := ⟨fun {M h} s => ⟨h, Res.emp, Res.dj_emp _, (Res.add_emp _).symm, s, trivial⟩⟩
section
variable {r : Option Nat} {P : Program} {n : Nat} {ops : Array Oper} {os : List Oper} {A : List HP} {L : Loc} {Hs : List HP} {Q : Out} {ty : TypeId} {d : Nat} {pos : String} {after : Array Edge} {c : Code}
/-- for .. := range f { .. } -/
theorem wc_rangeFuncG {α : Type} {f : Operand} {ps : Array Tmp} {assign body : Code} {g : Nat} {lb : List Value} {enc : α → List Value} {ok : List α → α → Prop} {stopped : List α → Prop} {As Bs : List HP} {fin : List α → Prop} {val : Option (List α) → Value}
    (I : List α → List HP) (Ix : Option Nat → List α → List HP)
    (hf : ev L f = some (.func (.func g) #[] lb.toArray))
    (en : ∀ l : Nat, ∃ (X : Type) (As' : List HP) (v : X → Value) (o : X → Prop) (Bs' : X → List HP), Sp P g (.func (.yield l) #[] #[] :: lb) As' v o Bs')
    (it : ∀ (b : Nat) (o : Obj) (y : Value) (Jx : List α → HP), YSpec P y enc ok (fun pre => Al (Blk b o :: I pre)) Jx → Sp P g (y :: lb) (Al (Blk b o :: I []) :: As) (X := Option (List α) × List α) (fun x => val x.1) (fun x => (∀ pre, x.1 = some pre → stopped pre) ∧ (x.1 = none → fin x.2)) (fun x => endsAt (fun pre => Al (Blk b o :: I pre)) Jx x.2 x.1 :: Bs))
    (hps : ∀ x, (enc x).length = ps.size) (hpn : ps.toList.all (fun p => Nat.blt p n) = true)
    (ha : Ent Hs (I [] ++ As))
    (round : ∀ (l : Nat) (pre : List α) (x : α), ok pre x → wc (some l) P n assign (bindL ps.toList (enc x) L) (I pre) (asgO (some l) P body (roundO I Ix (pre ++ [x]))))
    (done : ∀ all, fin all → tw n Q .normal L (I all ++ Bs))
    (stop : ∀ (j : Option Nat) (pre : List α), stopped pre → wc none P n (jc j) L (Ix j pre ++ Bs) Q) :
    wc none P n (.rangeFunc f ps assign body) L Hs Q := by
 intro a M h st w hfr dj t
 obtain ⟨fr, g1, g2, dg, e, sd, s2⟩ := st
 subst e
 obtain ⟨kI, kA, dIA, e, sI, sA⟩ := SL.split (ha s2)
 subst e
 refine wpIn_rangeFunc ?_
 intro fn hfn
 obtain ⟨rec, hrec⟩ : ∃ rec : LoopState → Option Code → Loop, rec = fun st pe => { state := st, pending := pe, fn, tmps := a.tmps, params := ps, assign, body, defers := w.heap.size } := ⟨_, rfl⟩
 obtain ⟨W1, hW1⟩ : ∃ W1, (w.alloc (.deferred (some []))).alloc (.loop (rec .ready none)) = W1 := ⟨_, rfl⟩
 have hsz : (w.alloc (.deferred (some []))).heap.size = w.heap.size + 1 := by simp
 have tD := t.alloc (.deferred (some []))
 have tL := tD.alloc (.loop (rec .ready none))
 obtain ⟨_, f1⟩ := fresh_none t
 obtain ⟨_, f2⟩ := fresh_none tD
 rw [hsz] at tL f2
 rw [hW1] at tL
 refine ⟨w.heap.size + 1, [{ target := .collected w.heap.size, args := #[] }], W1, { target := .fn (.func g) lb.toArray, args := #[.func (.yield (w.heap.size + 1)) #[] #[]] }, W1, g,
  #[.func (.yield (w.heap.size + 1)) #[] #[]] ++ lb.toArray, W1, ?_, ?_, fun _ _ => trivial, ?_, (fun e => by cases e), ?_⟩
 · rw [← hW1, hrec]; exact run_enterLoop_outer _ _ _ _ _
 · simp only [resolve, rangeCall]
   rw [fr.ev hf]
   simp [go_sem]
 · obtain ⟨X', A', v', o', B', hen⟩ := en (w.heap.size + 1)
   have := hen.enters
   simp [invoke, go_sem]
   exact this _ _
 ·
  have ys : YSpec P (.func (.yield (w.heap.size + 1)) #[] #[]) enc ok (fun pre => Al (Blk (w.heap.size + 1) (.loop (rec .ready none)) :: I pre))
      (fun pre => Ex fun j : Option Nat => Al (Blk (w.heap.size + 1) (.loop (rec .done (some (jc j)))) :: Ix j pre)) := by
   refine ⟨_, rfl, fun pre x hok w' M' h' hf' dj' t' hj => ?_⟩
   obtain ⟨p1, p2, dp, e, hp1, sp2⟩ := hj
   have hp1' : p1 = Res.one _ _ := hp1
   subst hp1'
   subst e
   have hl : w'.heap[w.heap.size + 1]? = some (.loop (rec .ready none)) := t'.ow _ _ (by simp [Res.add, Res.one])
   have hy := run_yield (P := P) (args := (enc x).toArray) hl (by rw [hrec]; simpa using hps x)
   refine ⟨_, _, _, _, hy, roundIn_of_wpIn (F := WF none) trivial ?_⟩
   have e1 : (rec .ready none).assign = assign := by rw [hrec]
   have e2 : (rec .ready none).body = body := by rw [hrec]
   have e3 : (rec .ready none).tmps = a.tmps := by rw [hrec]
   have e4 : (rec .ready none).params = ps := by rw [hrec]
   rw [e1, e2, e3, e4]
   obtain ⟨dj1, dj2⟩ := Res.dj_add_left.1 dj'
   have hfold : (ps.zip (enc x).toArray).foldl (fun t (p, v) => t.setIfInBounds p v) a.tmps = (ps.toList.zip (enc x)).foldl (fun t (p, v) => t.setIfInBounds p v) a.tmps := by
    rw [← Array.foldl_toList]; simp
   rw [hfold]
   have hfr : Fr n (bindL ps.toList (enc x) L) { tmps := (ps.toList.zip (enc x)).foldl (fun t (p, v) => t.setIfInBounds p v) a.tmps, defers := [] } :=
    fr_bind ps.toList (enc x) (fun p hp => by have := List.all_eq_true.1 hpn p hp; simpa using this) fr
   have d2 : p2.dj ((Res.one (w.heap.size + 1) (.loop (rec .ready none))).add hf') := Res.dj_add_right.2 ⟨Res.dj_comm dp, dj2⟩
   have t2 : Sat w' M' (p2.add ((Res.one (w.heap.size + 1) (.loop (rec .ready none))).add hf')) := by
    rw [← Res.add_assoc, ← Res.add_comm dp]; exact t'
   have hw := round (w.heap.size + 1) pre x hok _ M' p2 ⟨hfr, Res.emp, p2, Res.emp_dj _, rfl, trivial, sp2⟩ w' _ d2 t2
   refine wpIn_mono (F := WF (some (w.heap.size + 1))) hw ?_
   rintro ex a1 w1 ⟨M1, h1, le1, dj3, t3, q1⟩
   cases ex with
   | normal =>
     have q1' : wout (some (w.heap.size + 1)) P body (roundO I Ix (pre ++ [x])) a1 M1 h1 := q1
     obtain ⟨y1, y2⟩ := Res.dj_add_right.1 dj3
     have hb : w1.heap[w.heap.size + 1]? = some (.loop (rec .ready none)) := t3.ow _ _ (Res.le_add_right dj3 _ _ (by simp [Res.add, Res.one]))
     refine ⟨_, run_beginRound hb (by rw [hrec]), ?_⟩
     have dA : (Res.one (w.heap.size + 1) (.loop (rec .ready none))).dj (h1.add hf') := Res.dj_add_right.2 ⟨Res.dj_comm y1, dj1⟩
     have hcomm : ∀ o : Obj, h1.dj (Res.one (w.heap.size + 1) o) → h1.add ((Res.one (w.heap.size + 1) o).add hf') = (Res.one (w.heap.size + 1) o).add (h1.add hf') := fun o dd => by
      rw [← Res.add_assoc, Res.add_comm dd, Res.add_assoc]
     rw [hcomm _ y1] at t3
     have t4 := Sat.putObj (o' := .loop { rec .ready none with state := .busy }) dA t3
     have dB : (Res.one (w.heap.size + 1) (.loop { rec .ready none with state := .busy })).dj (h1.add hf') := dj_one_any dA
     have dB1 := (Res.dj_add_right.1 dB).1
     rw [← hcomm _ (Res.dj_comm dB1)] at t4
     refine wpIn_mono (F := WF (some (w.heap.size + 1))) (q1' _ _ (Res.dj_add_right.2 ⟨Res.dj_comm dB1, y2⟩) t4) ?_
     have fin : ∀ (jump : Option Code) (M2 : Kn) (h2 : Res) (w2 : World), M1.le M2 → h2.dj ((Res.one (w.heap.size + 1) (.loop { rec .ready none with state := .busy })).add hf') → Sat w2 M2 (h2.add ((Res.one (w.heap.size + 1) (.loop { rec .ready none with state := .busy })).add hf')) →
         ∃ w3, (Instr.endRound (w.heap.size + 1) jump).run P w2 = .ok (.bool jump.isNone) w3 ∧ (Res.one (w.heap.size + 1) (.loop (rec (if jump.isNone then .ready else .done) jump))).dj h2 ∧
          ((Res.one (w.heap.size + 1) (.loop (rec (if jump.isNone then .ready else .done) jump))).add h2).dj hf' ∧ Sat w3 M2 (((Res.one (w.heap.size + 1) (.loop (rec (if jump.isNone then .ready else .done) jump))).add h2).add hf') := by
      intro jump M2 h2 w2 le2 dj5 t5
      have hb2 : w2.heap[w.heap.size + 1]? = some (.loop { rec .ready none with state := .busy }) := t5.ow _ _ (Res.le_add_right dj5 _ _ (by simp [Res.add, Res.one]))
      have hr := run_endRound (P := P) jump hb2
      obtain ⟨z1, z2⟩ := Res.dj_add_right.1 dj5
      have eqq : h2.add ((Res.one (w.heap.size + 1) (.loop { rec .ready none with state := .busy })).add hf') = (Res.one (w.heap.size + 1) (.loop { rec .ready none with state := .busy })).add (h2.add hf') := by
       rw [← Res.add_assoc, Res.add_comm z1, Res.add_assoc]
      rw [eqq] at t5
      have dC : (Res.one (w.heap.size + 1) (.loop { rec .ready none with state := .busy })).dj (h2.add hf') := Res.dj_add_right.2 ⟨Res.dj_comm z1, dj_one_any dj1⟩
      have t6 := Sat.putObj (o' := .loop (rec (if jump.isNone then .ready else .done) jump)) dC t5
      have dD : (Res.one (w.heap.size + 1) (.loop (rec (if jump.isNone then .ready else .done) jump))).dj (h2.add hf') := dj_one_any dC
      obtain ⟨v1, v2⟩ := Res.dj_add_right.1 dD
      refine ⟨_, ?_, v1, Res.dj_add_left.2 ⟨v2, z2⟩, by rw [Res.add_assoc]; exact t6⟩
      rw [hr, hrec]
     rintro e2 a2 w2 ⟨M2, h2, le2, dj5, t5, q2⟩
     cases e2 with
     | normal =>
       obtain ⟨w3, r1, r2, r3, r4⟩ := fin none M2 h2 w2 le2 dj5 t5
       exact ⟨_, w3, r1, true, M2, _, rfl, Kn.le_trans le1 le2, r3, r4, _, _, r2, rfl, rfl, q2⟩
     | ret =>
       obtain ⟨w3, r1, r2, r3, r4⟩ := fin (some .ret) M2 h2 w2 le2 dj5 t5
       exact ⟨_, w3, r1, false, M2, _, rfl, Kn.le_trans le1 le2, r3, r4, none, _, _, r2, rfl, rfl, q2⟩
     | exit id =>
       obtain ⟨w3, r1, r2, r3, r4⟩ := fin (some (.exit id)) M2 h2 w2 le2 dj5 t5
       exact ⟨_, w3, r1, false, M2, _, rfl, Kn.le_trans le1 le2, r3, r4, some id, _, _, r2, rfl, rfl, q2⟩
     | goto _ => exact q2.elim
     | panic _ => exact q2.elim
     | outgrown => exact q2.elim
   | ret => exact q1.elim
   | exit _ => exact q1.elim
   | goto _ => exact q1.elim
   | panic _ => exact q1.elim
   | outgrown => exact q1.elim
  have sp := it _ _ _ _ ys
  -- resources
  obtain ⟨dg1, dg2⟩ := Res.dj_add_right.1 dg
  obtain ⟨q1, q2⟩ := Res.dj_add_left.1 dj
  obtain ⟨q3, q4⟩ := Res.dj_add_left.1 q2
  let D : Res := Res.one w.heap.size (.deferred (some []))
  let Lp : Res := Res.one (w.heap.size + 1) (.loop (rec .ready none))
  have dLp : Lp.dj (D.add ((g1.add (kI.add kA)).add hfr)) := one_dj f2
  have dD : D.dj ((g1.add (kI.add kA)).add hfr) := one_dj f1
  obtain ⟨a1, a2⟩ := Res.dj_add_right.1 dLp
  obtain ⟨a3, a4⟩ := Res.dj_add_right.1 a2
  obtain ⟨a5, a6⟩ := Res.dj_add_right.1 a3
  obtain ⟨a7, a8⟩ := Res.dj_add_right.1 a6
  obtain ⟨b3, b4⟩ := Res.dj_add_right.1 dD
  obtain ⟨b5, b6⟩ := Res.dj_add_right.1 b3
  obtain ⟨b7, b8⟩ := Res.dj_add_right.1 b6
  have eqr : Lp.add (D.add ((g1.add (kI.add kA)).add hfr)) = ((Lp.add kI).add kA).add ((D.add g1).add hfr) := by
   funext i
   simp only [Res.add]
   have c1 := b7 i; have c2 := b8 i; have c3 := b5 i; have c4 := dg1 i; have c5 := dg2 i
   revert c1 c2 c3 c4 c5
   cases Lp i <;> cases D i <;> cases g1 i <;> cases kI i <;> cases kA i <;> simp
  have tL' : Sat W1 M (((Lp.add kI).add kA).add ((D.add g1).add hfr)) := by rw [← eqr]; exact tL
  have djr : ((Lp.add kI).add kA).dj ((D.add g1).add hfr) := by
   refine Res.dj_add_left.2 ⟨Res.dj_add_left.2 ⟨?_, ?_⟩, ?_⟩
   · exact Res.dj_add_right.2 ⟨Res.dj_add_right.2 ⟨a1, a5⟩, a4⟩
   · exact Res.dj_add_right.2 ⟨Res.dj_add_right.2 ⟨Res.dj_comm b7, Res.dj_comm dg1⟩, q3⟩
   · exact Res.dj_add_right.2 ⟨Res.dj_add_right.2 ⟨Res.dj_comm b8, Res.dj_comm dg2⟩, q4⟩
  have cc := sp.calls W1 M ((Lp.add kI).add kA) ((D.add g1).add hfr) djr tL' ⟨Lp.add kI, kA, Res.dj_add_left.2 ⟨a8, dIA⟩, rfl, ⟨Lp, kI, a7, rfl, rfl, sI⟩, sA⟩
  have hargs : (Value.func (.yield (w.heap.size + 1)) #[] #[] :: lb).toArray = #[.func (.yield (w.heap.size + 1)) #[] #[]] ++ lb.toArray := by simp
  rw [hargs] at cc
  refine CallsIn.mono (F := WF none) cc ?_
  rintro ee w3 ⟨x, M3, h3, rfl, hx, le3, dj3, t3, s3⟩
  have stN : ∀ (o : Obj) (Gs : List HP) (m : Res), (Res.one (w.heap.size + 1) o).dj m → ((Res.one (w.heap.size + 1) o).add m).dj ((D.add g1).add hfr) → Sat w3 M3 (((Res.one (w.heap.size + 1) o).add m).add ((D.add g1).add hfr)) → SL Gs M3 m → ∀ o' : Obj,
      St n L Gs { a with defers := [{ target := .collected w.heap.size, args := #[] }] ++ a.defers } M3 ((D.add g1).add m) ∧ ((D.add g1).add m).dj hfr ∧ Sat (w3.putObj (w.heap.size + 1) o') M3 (((D.add g1).add m).add hfr) := by
   intro o Gs m dom djm tm sm o'
   obtain ⟨u1, u2⟩ := Res.dj_add_left.1 djm
   obtain ⟨u3, u4⟩ := Res.dj_add_right.1 u2
   obtain ⟨u5, u6⟩ := Res.dj_add_right.1 u3
   obtain ⟨u7, u8⟩ := Res.dj_add_right.1 u1
   refine ⟨⟨fr, D.add g1, m, Res.dj_comm u3, rfl, ?_, sm⟩, Res.dj_add_left.2 ⟨Res.dj_add_left.2 ⟨b4, q1⟩, u4⟩, ?_⟩
   · refine ⟨D, g1, b5, rfl, ⟨w.heap.size, Res.emp, D, Res.emp_dj _, rfl, rfl, D, Res.emp, Res.dj_emp _, (Res.add_emp _).symm, rfl, trivial⟩, SL.mono le3 sd⟩
   · rw [Res.add_assoc] at tm
     have dX : (Res.one (w.heap.size + 1) o).dj (m.add ((D.add g1).add hfr)) := Res.dj_add_right.2 ⟨dom, u1⟩
     have t7 := Sat.putObj (o' := o') dX tm
     have eq7 : m.add ((D.add g1).add hfr) = ((D.add g1).add m).add hfr := by rw [← Res.add_assoc, Res.add_comm u3]
     rw [eq7] at t7
     exact t7.le (Res.le_add_right (by rw [← eq7]; exact dj_one_any dX))
  obtain ⟨x, all⟩ := x
  obtain ⟨hx, hfin⟩ := hx
  dsimp only at hx hfin s3 ⊢
  obtain ⟨m1, m2, dm, e, sm1, sm2⟩ := s3
  subst e
  cases x with
  | none =>
    obtain ⟨o1, o2, do12, e, ho1, so2⟩ := sm1
    have ho1' : o1 = Res.one _ _ := ho1
    subst ho1'
    subst e
    have hb : w3.heap[w.heap.size + 1]? = some (.loop (rec .ready none)) := t3.ow _ _ (by simp [Res.add, Res.one])
    refine ⟨none, _, by have := run_endLoop (P := P) hb (by rw [hrec]; simp); rw [hrec] at this; exact this, ?_⟩
    obtain ⟨v1, v2⟩ := Res.dj_add_left.1 dm
    rw [Res.add_assoc (Res.one _ _) o2 m2] at t3 dj3
    obtain ⟨w1, w2, w4⟩ := stN _ (I all ++ Bs) (o2.add m2) (Res.dj_add_right.2 ⟨do12, v1⟩) dj3 t3 (SL.append v2 so2 sm2) (.loop { rec .ready none with state := .exhausted })
    have := done all (hfin rfl) _ M3 _ w1
    rw [hrec] at w4
    exact ⟨M3, _, le3, w2, w4, this⟩
  | some pre =>
    obtain ⟨j, o1, o2, do12, e, ho1, so2⟩ := sm1
    have ho1' : o1 = Res.one _ _ := ho1
    subst ho1'
    subst e
    have hb : w3.heap[w.heap.size + 1]? = some (.loop (rec .done (some (jc j)))) := t3.ow _ _ (by simp [Res.add, Res.one])
    refine ⟨some (jc j), _, by have := run_endLoop (P := P) hb (by rw [hrec]; simp); rw [hrec] at this; exact this, ?_⟩
    obtain ⟨v1, v2⟩ := Res.dj_add_left.1 dm
    rw [Res.add_assoc (Res.one _ _) o2 m2] at t3 dj3
    obtain ⟨w1, w2, w4⟩ := stN _ (Ix j pre ++ Bs) (o2.add m2) (Res.dj_add_right.2 ⟨do12, v1⟩) dj3 t3 (SL.append v2 so2 sm2) (.loop { rec .done (some (jc j)) with state := .exhausted })
    rw [hrec] at w4
    exact wpIn_mono (stop j pre (hx pre rfl) _ M3 _ w1 _ _ w2 w4) (fun _ _ _ q => lift_le le3 q)
theorem p_rangeFuncB {α : Type} {g : Nat} {lb : List Value} {enc : α → List Value} {ok : List α → α → Prop} {stopped : List α → Prop} {R : HP} {As Bs : List HP} {all : List α} {val : Option (List α) → Value}
    (I : List α → List HP) (Ix : Option Nat → List α → List HP) (I0 : List α → List HP) (hc : c = .rangeFunc (rF c) (rP c) (rA c) (rB c))
    (it : IterB P g lb enc ok stopped R As Bs all val)
    (hf : ev L (rF c) = some (.func (.func g) #[] lb.toArray))
    (hps : ∀ x, (enc x).length = (rP c).size) (hpn : (rP c).toList.all (fun p => Nat.blt p n) = true)
    (h1 : ∀ pre, Ent (I pre) (R :: I0 pre)) (h2 : ∀ pre, Ent (R :: I0 pre) (I pre))
    (ha : Ent Hs (I [] ++ As))
    (round : ∀ (l : Nat) (pre : List α) (x : α), ok pre x → wc (some l) P n (rA c) (bindL (rP c).toList (enc x) L) (I pre) (asgO (some l) P (rB c) (roundO I Ix (pre ++ [x]))))
    (done : tw n Q .normal L (I all ++ Bs))
    (stop : ∀ (j : Option Nat) (pre : List α), stopped pre → wc none P n (jc j) L (Ix j pre ++ Bs) Q) : wc none P n c L Hs Q := by
 rw [hc]
 refine wc_rangeFuncG (fin := fun l => l = all) I Ix hf (fun l => ⟨_, _, _, _, _, it (.func (.yield l) #[] #[]) (fun _ => ⟨fun _ _ => False, fun _ e => e⟩) (fun _ => ⟨fun _ _ => False, fun _ e => e⟩) (fun _ => ⟨fun _ _ => False, fun _ e => e⟩) ⟨_, rfl, fun _ _ _ _ _ _ _ _ _ e => e.elim⟩ (fun _ => ⟨fun ⟨_, _, _, _, e, _⟩ => e.elim⟩) (fun _ => ⟨fun ⟨_, _, _, _, _, _, _, _, _, e, _⟩ => e.elim⟩)⟩) (fun b o y Jx ys => (it y _ (fun pre => Al (Blk b o :: I0 pre)) Jx ys (fun pre => ?_) (fun pre => ?_)).mono (Ent.refl _) fun x hx => ⟨(x, all), rfl, ⟨hx, fun _ => rfl⟩, Ent.refl _⟩) hps hpn ha round (fun l e => by subst e; exact done) stop
 · exact ent_al_one.trans ((ent_cons (A := Blk b o) (h1 pre)).trans ((ent_cons (A := R) (Ent.refl _)).trans (ent_cons ent_one_al)))
 · exact ent_al_last.trans (((ent_cons (A := Blk b o) (Ent.refl _)).trans (ent_cons (h2 pre))).trans ent_one_al)
end
end
section
set_option maxRecDepth 100000
theorem zbb150next0 {G : Prop} (h : G := by
    refine to_inv ⟨j + 1, by omega⟩ (by dsimp only; omega) ⟨rfl, rfl, rfl, rfl, rfl, rfl, rfl, trivial⟩ ?_
    dsimp only
    rw [hfs]
    exact ent_pick) : G := h
theorem store_From_itB (c1 c2 s p : Nat) (J : Jn) (ks : Ks) (q : Bs) (hks : ks.length ≤ 4398046511104) : IterB Tryz.prog 150 [.pointer (some ⟨c1, 0, none⟩), .pointer (some ⟨c2, 0, none⟩)] (fun x : Bs × Value => [vS x.1, x.2]) (okL (fromS ks q)) (stopL (fromS ks q)) (IsS s p J ks)
    [Ce c1 72 [.pointer (some ⟨s, 0, none⟩)], Ce c2 9 [vS q]] [Ce c1 72 [.pointer (some ⟨s, 0, none⟩)], Ce c2 9 [vS q]] (fromS ks q) (fun _ => .tuple #[]) := by
 intro y Jy J0 Jx ys hj1 hj2
 have hkl := keysS_len ks
 refine Sp.body (n := 33) Tryz.call150 Tryz.func150 rfl rfl rfl ?_
 refine wc_ent' (ent_open2 (hj1 []) (Ent.refl _)) ?_
 refine wc_front (IsS s p J ks) ?_
 refine wc_exi fun jq => wc_exi fun b => wc_al ?_
 refine Qc (k:=Zd (k:=Vv (k:=Qx 1 93 (k:=?_))))
 refine r_callX (maps_Clone_sp b ks) rfl rfl rfl (fun b' _ => ?_)
 refine Vv (k:=Wq (Qc (k:=Vv (k:=?_))))
 refine r_callX (maps_Keys_sp (some b')) rfl rfl rfl (fun cb _ => ?_)
 refine r_callX (slices_Sorted_sp (maps_Keys_it cb b' ks) ks.length hks (fun pre x h => h.2.2) (fun l h => by have := h.length_eq; simp at this; omega)) rfl rfl rfl (fun xs hxs => ?_)
 obtain ⟨⟨sa, sc⟩, al⟩ := xs
 have hse : sortB al = keysS ks := sortB_eq hxs
 have hal : al.length = ks.length := by have := hxs.length_eq; simpa using this
 dsimp only
 rw [hse, hal]
 refine Qv (k:=Wq (Zb (k:=?_)))
 refine p_loop (fun (i : { j : Nat // j ≤ ks.length }) => [(0, y), (1, .pointer (some ⟨c1, 0, none⟩)), (2, .pointer (some ⟨c2, 0, none⟩)), (4, .map (some b')), (14, .slice sa ks.length sc), (15, vI ks.length), (16, vI i.1)]) (fun (i : { j : Nat // j ≤ ks.length }) => [Jy (fromL ks q ((keysS ks).take i.1)), Row 9 1 (.slice sa ks.length sc) ks.length ((keysS ks).map vS), MapS b' ks, Ce c1 72 [.pointer (some ⟨s, 0, none⟩)], Ce c2 9 [vS q]]) (fun (i : { j : Nat // j ≤ ks.length }) => ks.length - i.1) rfl (⟨0, Nat.zero_le _⟩) ?_ ?_ (fun i => ?_)
 · exact ⟨rfl, rfl, rfl, rfl, rfl, rfl, rfl, trivial⟩
 ·
  dsimp only
  rw [show fromL ks q ((keysS ks).take 0) = [] from rfl]
  refine ent_fold2 (hj2 []) ?_
  exact ent_step (fold_isS jq b rfl rfl rfl) ent_pick
 obtain ⟨j, hj⟩ := i
 try dsimp only
 refine Qc (k:=Vv (k:=Wq (Za (k:=Zi (t:=fun h17 => ?_) (f:=fun h17 => ?_)))))
 ·
  refine Zk (k:=Ya (Za (k:=Zb (k:=Za (k:=?_)))))
  have hjl : j < (keysS ks).length := by omega
  have hml := mlook_mem (keysS_mem.1 (List.getElem_mem hjl))
  obtain ⟨v, hv⟩ := Option.isSome_iff_exists.1 hml
  have hst : (keysS ks).take (j + 1) = (keysS ks).take j ++ [(keysS ks)[j]] := List.take_succ_eq_append_getElem hjl
  have hff : fromS ks q = fromL ks q ((keysS ks).take j) ++ fromL ks q [(keysS ks)[j]] ++ fromL ks q ((keysS ks).drop (j + 1)) := by
   have e : keysS ks = (keysS ks).take j ++ ([(keysS ks)[j]] ++ (keysS ks).drop (j + 1)) := by rw [List.singleton_append, ← List.drop_eq_getElem_cons hjl, List.take_append_drop]
   unfold fromS
   conv => lhs; rw [e]
   simp only [fromL, List.filter_append, List.map_append, List.append_assoc]
  have hfs : fromL ks q ((keysS ks).take (j + 1)) = fromL ks q ((keysS ks).take j) ++ fromL ks q [(keysS ks)[j]] := by rw [hst]; simp only [fromL, List.filter_append, List.map_append]
  refine Zr (k:=Ye 1 (k:=Ym (k:=Vv (k:=Wq (Qc (k:=Vv (k:=Zd (k:=?_))))))))
  refine r_callF (HasPrefix_sp (keysS ks)[j] q) rfl rfl rfl ?_
  refine Vv (k:=Gi 3 (t:=fun h23 => ?_) (f:=fun h23 => ?_))
  ·
   have hone : fromL ks q [(keysS ks)[j]] = [((keysS ks)[j], v)] := by simp [fromL, h23, hv]
   rw [hone] at hff hfs
   refine J1 (k:=J1 (k:=J1 (k:=J1 (k:=I1 (k:=?_)))))
   refine r_lookup (v := v) Tryz.underlying93 Tryz.underlying9 ti9 rfl rfl rfl (by simp only [hv]; rfl) rfl ?_
   refine I1 (k:=?_)
   refine r_yield ys (fromL ks q ((keysS ks).take j)) ((keysS ks)[j], v) ⟨_, by rw [hff, List.append_assoc, List.singleton_append]⟩ rfl rfl rfl ?_ ?_
   ·
    refine J1 (k:=P1 (k:=Wq (Z0 (k:=Zk (k:=Yb (Ya (Zr (k:=Qv (k:=Wn ?_)))))))))
    exact zbb150next0
   ·
    refine J1 (k:=P1 (k:=Wq (Z1 (k:=Zt (k:=Vb (Va (Vi (Vb ?_))))))))
    refine fin_ret (some (fromL ks q ((keysS ks).take (j + 1)))) (vs := []) (Cs := []) rfl .nil rfl (fun pre e => by cases e; exact ⟨by rw [hfs]; simp, _, by rw [hff, hfs]⟩) ?_
    simp only [endsAt]
    rw [hfs]
    exact ent_pick
  ·
   have hone : fromL ks q [(keysS ks)[j]] = [] := by simp [fromL, h23]
   rw [hone, List.append_nil] at hfs
   refine O0 (k:=O0 (k:=O0 (k:=O0 (k:=O0 (k:=O0 (k:=O0 (k:=P0 (k:=Wq (Z0 (k:=Zk (k:=Yb ?_)))))))))))
   refine Ya (Zr (k:=Qv (k:=Wn ?_)))
   exact zbb150next0
 ·
  refine Ze (k:=Xa (Xi (Xb ?_)))
  have hj2 : j = (keysS ks).length := by omega
  subst hj2
  refine fin_end none (vs := []) (Cs := []) rfl .nil rfl (fun pre e => by cases e) ?_
  simp only [endsAt]
  rw [List.take_length, show fromL ks q (keysS ks) = fromS ks q from rfl]
  exact ent_pick
end
section
set_option maxRecDepth 100000
theorem RotateLeft32_sp (x : UInt32) (k : Nat) (hk : k = 1 ∨ k = 5 ∨ k = 30) : SpF Tryz.prog 138 [vW x, vI k] (vW (rotl x k)) := by
 rcases hk with rfl | rfl | rfl
 · skip
   refine Sp.body (n := 17) Tryz.call138 Tryz.func138 rfl rfl rfl ?_
   refine Qc (k:=Vv (k:=Wq (Qc (k:=Vv (k:=?_)))))
   refine wo_pv (pv_conv rfl Tryz.underlying3 Tryz.underlying105) rfl ?_
   refine wo_pv (pv_and rfl rfl) rfl ?_
   refine Vv (k:=Wq (Qc (k:=Qv (k:=?_))))
   refine wo_pv (pv_shlW (m := 1) rfl rfl (by decide) (by omega)) rfl ?_
   refine Qv (k:=?_)
   refine wo_pv (pv_subw rfl rfl) rfl ?_
   refine wo_pv (pv_shrW (m := 31) rfl rfl (by decide) (by omega)) rfl ?_
   refine wo_pv (pv_orW rfl rfl) rfl ?_
   refine Vv (k:=Wq (Zt (k:=?_)))
   exact fin_ret () (vs := [_]) (Cs := []) rfl (.tmp rfl .nil) rfl trivial ent_nil
 · skip
   refine Sp.body (n := 17) Tryz.call138 Tryz.func138 rfl rfl rfl ?_
   refine Qc (k:=Vv (k:=Wq (Qc (k:=Vv (k:=?_)))))
   refine wo_pv (pv_conv rfl Tryz.underlying3 Tryz.underlying105) rfl ?_
   refine wo_pv (pv_and rfl rfl) rfl ?_
   refine Vv (k:=Wq (Qc (k:=Qv (k:=?_))))
   refine wo_pv (pv_shlW (m := 5) rfl rfl (by decide) (by omega)) rfl ?_
   refine Qv (k:=?_)
   refine wo_pv (pv_subw rfl rfl) rfl ?_
   refine wo_pv (pv_shrW (m := 27) rfl rfl (by decide) (by omega)) rfl ?_
   refine wo_pv (pv_orW rfl rfl) rfl ?_
   refine Vv (k:=Wq (Zt (k:=?_)))
   exact fin_ret () (vs := [_]) (Cs := []) rfl (.tmp rfl .nil) rfl trivial ent_nil
 · skip
   refine Sp.body (n := 17) Tryz.call138 Tryz.func138 rfl rfl rfl ?_
   refine Qc (k:=Vv (k:=Wq (Qc (k:=Vv (k:=?_)))))
   refine wo_pv (pv_conv rfl Tryz.underlying3 Tryz.underlying105) rfl ?_
   refine wo_pv (pv_and rfl rfl) rfl ?_
   refine Vv (k:=Wq (Qc (k:=Qv (k:=?_))))
   refine wo_pv (pv_shlW (m := 30) rfl rfl (by decide) (by omega)) rfl ?_
   refine Qv (k:=?_)
   refine wo_pv (pv_subw rfl rfl) rfl ?_
   refine wo_pv (pv_shrW (m := 2) rfl rfl (by decide) (by omega)) rfl ?_
   refine wo_pv (pv_orW rfl rfl) rfl ?_
   refine Vv (k:=Wq (Zt (k:=?_)))
   exact fin_ret () (vs := [_]) (Cs := []) rfl (.tmp rfl .nil) rfl trivial ent_nil
theorem hash_mixed_sp (i : Nat) (b c d : UInt32) (hi : i < 80) : SpF Tryz.prog 137 [vI i, vW b, vW c, vW d] (.tuple #[vW (mixW i b c d).1, vW (mixW i b c d).2]) := by
 have hm : mixW i b c d = if i / 20 = 0 then ((b &&& c) ||| (~~~b &&& d), 0x5a827999) else if i / 20 = 1 then (b ^^^ c ^^^ d, 0x6ed9eba1) else if i / 20 = 2 then ((b &&& c) ||| (b &&& d) ||| (c &&& d), 0x8f1bbcdc) else (b ^^^ c ^^^ d, 0xca62c1d6) := rfl
 refine Sp.body (n := 47) Tryz.call137 Tryz.func137 rfl rfl rfl ?_
 refine Qc (k:=Qv (k:=Wq (Za (k:=Qc (k:=Qv (k:=Wq (Zb (k:=?_))))))))
 refine Qc (k:=Qv (k:=Wq (Zi (t:=fun h12 => ?_) (f:=fun h12 => ?_))))
 ·
  refine Qc (k:=Qv (k:=?_))
  refine wo_pv (pv_andW rfl rfl) rfl ?_
  refine Vv (k:=?_)
  refine wo_pv (pv_notW rfl) rfl ?_
  refine Vv (k:=?_)
  refine wo_pv (pv_andW rfl rfl) rfl ?_
  refine wo_pv (pv_orW rfl rfl) rfl ?_
  refine Qv (k:=Wq (Zt (k:=Vb (Va ?_))))
  rw [if_pos (by omega)] at hm
  rw [hm]
  exact fin_ret () (vs := [_, _]) (Cs := []) rfl (.tmp rfl (.tmp rfl .nil)) rfl trivial ent_nil
 ·
  refine Qc (k:=Qv (k:=Wq (Zi (t:=fun h22 => ?_) (f:=fun h22 => ?_))))
  ·
   refine Qc (k:=Qv (k:=?_))
   refine wo_pv (pv_xorW rfl rfl) rfl ?_
   refine Vv (k:=?_)
   refine wo_pv (pv_xorW rfl rfl) rfl ?_
   refine Qv (k:=Wq (Zt (k:=Vb (Va ?_))))
   rw [if_neg (by omega), if_pos (by omega)] at hm
   rw [hm]
   exact fin_ret () (vs := [_, _]) (Cs := []) rfl (.tmp rfl (.tmp rfl .nil)) rfl trivial ent_nil
  ·
   refine Qc (k:=Qv (k:=Wq (Zi (t:=fun h29 => ?_) (f:=fun h29 => ?_))))
   ·
    refine Qc (k:=Qv (k:=?_))
    refine wo_pv (pv_andW rfl rfl) rfl ?_
    refine Qv (k:=?_)
    refine wo_pv (pv_andW rfl rfl) rfl ?_
    refine wo_pv (pv_orW rfl rfl) rfl ?_
    refine Qv (k:=?_)
    refine wo_pv (pv_andW rfl rfl) rfl ?_
    refine wo_pv (pv_orW rfl rfl) rfl ?_
    refine Qv (k:=Wq (Zt (k:=Vb (Va ?_))))
    rw [if_neg (by omega), if_neg (by omega), if_pos (by omega)] at hm
    rw [hm]
    exact fin_ret () (vs := [_, _]) (Cs := []) rfl (.tmp rfl (.tmp rfl .nil)) rfl trivial ent_nil
   ·
    refine Zk (k:=Yb (Ya (Qc (k:=Qv (k:=?_)))))
    refine wo_pv (pv_xorW rfl rfl) rfl ?_
    refine Vv (k:=?_)
    refine wo_pv (pv_xorW rfl rfl) rfl ?_
    refine Qv (k:=Wq (Zt (k:=?_)))
    rw [if_neg (by omega), if_neg (by omega), if_neg (by omega)] at hm
    rw [hm]
    exact fin_ret () (vs := [_, _]) (Cs := []) rfl (.tmp rfl (.tmp rfl .nil)) rfl trivial ent_nil
theorem vW_getD {l : List UInt32} {m : Nat} (h : m < l.length) : (l.map vW)[m]? = some (vW (l.getD m 0)) := by simp [h]
theorem sp_set {b : Bs} {j : Nat} (hj : j < 80) (x : UInt32) (hx : x = if j < 16 then blkW b j else nextW (spreadL b j) j) : (spreadL b j ++ List.replicate (80 - j) 0).set j x = spreadL b (j + 1) ++ List.replicate (80 - (j + 1)) 0 := by
 have e : List.replicate (80 - j) (0 : UInt32) = 0 :: List.replicate (80 - (j + 1)) 0 := by
  rw [← List.replicate_succ]; congr 1; omega
 rw [e, List.set_append_right _ _ (by rw [spreadL_len]; omega), spreadL_len, Nat.sub_self, List.set_cons_zero, spreadL, hx]
 simp
theorem sp_get {b : Bs} {j m : Nat} (h : m < j) (hj : j ≤ 80) : (spreadL b j ++ List.replicate (80 - j) (0 : UInt32)).getD m 0 = (spreadL b j).getD m 0 := by
 have := spreadL_len b j
 simp [List.getD_eq_getElem?_getD, List.getElem?_append_left, this, h]
theorem vUs_get {l : Bs} {m : Nat} (h : m < l.length) : (vUs l)[m]? = some (vU (l.getD m 0).toNat) := by simp [vUs, h]
theorem hash_spread_sp {B : HP} {a : Option Addr} (c : Nat) (b : Bs) (hb : b.length = 64) (sh : SlA B a (vUs b)) : Sp1 Tryz.prog 136 [.slice a 64 c] [B] (.agg ((spreadL b 80).map vW).toArray) [B] := by
 haveI : RdSl a (vUs b) [B] := ⟨⟨B, sh, .here⟩⟩
 have hvl : (vUs b).length = 64 := by simp [vUs, hb]
 refine Sp.body (n := 72) Tryz.call136 Tryz.func136 rfl rfl rfl ?_
 refine Qc (k:=Zc [.int .u32 0, .int .u32 0, .int .u32 0, .int .u32 0, .int .u32 0, .int .u32 0, .int .u32 0, .int .u32 0, .int .u32 0, .int .u32 0, .int .u32 0, .int .u32 0, .int .u32 0, .int .u32 0, .int .u32 0, .int .u32 0, .int .u32 0, .int .u32 0, .int .u32 0, .int .u32 0, .int .u32 0, .int .u32 0, .int .u32 0, .int .u32 0, .int .u32 0, .int .u32 0, .int .u32 0, .int .u32 0, .int .u32 0, .int .u32 0, .int .u32 0, .int .u32 0, .int .u32 0, .int .u32 0, .int .u32 0, .int .u32 0, .int .u32 0, .int .u32 0, .int .u32 0, .int .u32 0, .int .u32 0, .int .u32 0, .int .u32 0, .int .u32 0, .int .u32 0, .int .u32 0, .int .u32 0, .int .u32 0, .int .u32 0, .int .u32 0, .int .u32 0, .int .u32 0, .int .u32 0, .int .u32 0, .int .u32 0, .int .u32 0, .int .u32 0, .int .u32 0, .int .u32 0, .int .u32 0, .int .u32 0, .int .u32 0, .int .u32 0, .int .u32 0, .int .u32 0, .int .u32 0, .int .u32 0, .int .u32 0, .int .u32 0, .int .u32 0, .int .u32 0, .int .u32 0, .int .u32 0, .int .u32 0, .int .u32 0, .int .u32 0, .int .u32 0, .int .u32 0, .int .u32 0, .int .u32 0] (k:=fun b2 => Wq (Qc (k:=Zc [.int .u32 0, .int .u32 0, .int .u32 0, .int .u32 0, .int .u32 0, .int .u32 0, .int .u32 0, .int .u32 0, .int .u32 0, .int .u32 0, .int .u32 0, .int .u32 0, .int .u32 0, .int .u32 0, .int .u32 0, .int .u32 0, .int .u32 0, .int .u32 0, .int .u32 0, .int .u32 0, .int .u32 0, .int .u32 0, .int .u32 0, .int .u32 0, .int .u32 0, .int .u32 0, .int .u32 0, .int .u32 0, .int .u32 0, .int .u32 0, .int .u32 0, .int .u32 0, .int .u32 0, .int .u32 0, .int .u32 0, .int .u32 0, .int .u32 0, .int .u32 0, .int .u32 0, .int .u32 0, .int .u32 0, .int .u32 0, .int .u32 0, .int .u32 0, .int .u32 0, .int .u32 0, .int .u32 0, .int .u32 0, .int .u32 0, .int .u32 0, .int .u32 0, .int .u32 0, .int .u32 0, .int .u32 0, .int .u32 0, .int .u32 0, .int .u32 0, .int .u32 0, .int .u32 0, .int .u32 0, .int .u32 0, .int .u32 0, .int .u32 0, .int .u32 0, .int .u32 0, .int .u32 0, .int .u32 0, .int .u32 0, .int .u32 0, .int .u32 0, .int .u32 0, .int .u32 0, .int .u32 0, .int .u32 0, .int .u32 0, .int .u32 0, .int .u32 0, .int .u32 0, .int .u32 0, .int .u32 0] (k:=fun b3 => Wq (Za (k:=Qc (k:=Vv (k:=?_)))))))))
 refine Wq (Zb (k:=?_))
 refine p_loop (fun (i : { j : Nat // j ≤ 16 }) => [(0, .slice a 64 c), (2, .pointer (some ⟨b2, 0, none⟩)), (3, .pointer (some ⟨b3, 0, none⟩)), (6, vI i.1)]) (fun (i : { j : Nat // j ≤ 16 }) => [Ce b3 165 ((spreadL b i.1 ++ List.replicate (80 - i.1) 0).map vW), Ce b2 165 ((List.replicate 80 (0 : UInt32)).map vW), B]) (fun (i : { j : Nat // j ≤ 16 }) => 16 - i.1) rfl (⟨0, Nat.zero_le _⟩) ?_ ?_ (fun i => ?_)
 · exact ⟨rfl, rfl, rfl, rfl, trivial⟩
 ·
  exact ent_step (ce_norm (by rfl) (by rfl)) (ent_step (ce_norm (by rfl) (by rfl)) ent_pick)
 obtain ⟨j, hj⟩ := i
 dsimp only
 have hsp := spreadL_len b j
 try dsimp only
 refine Qc (k:=Vv (k:=Wq (Za (k:=Zi (t:=fun h7 => ?_) (f:=fun h7 => ?_)))))
 ·
  refine Zk (k:=Ya (Za (k:=Zb (k:=Qc (k:=Qv (k:=Wq (Dw [B] (k:=?_))))))))
  refine Dv 0 (k:=Dv 1 (k:=Dv 2 (k:=Dv 3 (k:=?_))))
  refine d_first 4 rfl rfl rfl (by kernel_rfl) (by kernel_rfl) (tl_elemAddr (sz := 1) (m := 4 * j) Tryz.underlying89 ti5 rfl rfl rfl (by omega) (by omega) (by omega) (Nat.mul_one _)) ?_
  refine d_first 5 rfl rfl rfl (by kernel_rfl) (by kernel_rfl) (tl_eload Tryz.underlying5 rfl rfl (vUs_get (by omega))) ?_
  refine d_first 6 rfl rfl rfl (by kernel_rfl) (by kernel_rfl) (tl_pv (pv_convW rfl Tryz.underlying5 Tryz.underlying102)) ?_
  refine d_first 7 rfl rfl rfl (by kernel_rfl) (by kernel_rfl) (tl_pv (pv_shlW (m := 24) rfl rfl rfl (by omega))) ?_
  refine Dv 8 (k:=Dv 9 (k:=Dv 10 (k:=Dv 11 (k:=?_))))
  refine d_first 12 rfl rfl rfl (by kernel_rfl) (by kernel_rfl) (tl_elemAddr (sz := 1) (m := 4 * j + 1) Tryz.underlying89 ti5 rfl rfl rfl (by omega) (by omega) (by omega) (Nat.mul_one _)) ?_
  refine d_first 13 rfl rfl rfl (by kernel_rfl) (by kernel_rfl) (tl_eload Tryz.underlying5 rfl rfl (vUs_get (by omega))) ?_
  refine d_first 14 rfl rfl rfl (by kernel_rfl) (by kernel_rfl) (tl_pv (pv_convW rfl Tryz.underlying5 Tryz.underlying102)) ?_
  refine d_first 15 rfl rfl rfl (by kernel_rfl) (by kernel_rfl) (tl_pv (pv_shlW (m := 16) rfl rfl rfl (by omega))) ?_
  refine d_first 16 rfl rfl rfl (by kernel_rfl) (by kernel_rfl) (tl_pv (pv_orW rfl rfl)) ?_
  refine Dv 17 (k:=Dv 18 (k:=Dv 19 (k:=Dv 20 (k:=?_))))
  refine d_first 21 rfl rfl rfl (by kernel_rfl) (by kernel_rfl) (tl_elemAddr (sz := 1) (m := 4 * j + 2) Tryz.underlying89 ti5 rfl rfl rfl (by omega) (by omega) (by omega) (Nat.mul_one _)) ?_
  refine d_first 22 rfl rfl rfl (by kernel_rfl) (by kernel_rfl) (tl_eload Tryz.underlying5 rfl rfl (vUs_get (by omega))) ?_
  refine d_first 23 rfl rfl rfl (by kernel_rfl) (by kernel_rfl) (tl_pv (pv_convW rfl Tryz.underlying5 Tryz.underlying102)) ?_
  refine d_first 24 rfl rfl rfl (by kernel_rfl) (by kernel_rfl) (tl_pv (pv_shlW (m := 8) rfl rfl rfl (by omega))) ?_
  refine d_first 25 rfl rfl rfl (by kernel_rfl) (by kernel_rfl) (tl_pv (pv_orW rfl rfl)) ?_
  refine Dv 26 (k:=Dv 27 (k:=Dv 28 (k:=Dv 29 (k:=?_))))
  refine d_first 30 rfl rfl rfl (by kernel_rfl) (by kernel_rfl) (tl_elemAddr (sz := 1) (m := 4 * j + 3) Tryz.underlying89 ti5 rfl rfl rfl (by omega) (by omega) (by omega) (Nat.mul_one _)) ?_
  refine d_first 31 rfl rfl rfl (by kernel_rfl) (by kernel_rfl) (tl_eload Tryz.underlying5 rfl rfl (vUs_get (by omega))) ?_
  refine d_first 32 rfl rfl rfl (by kernel_rfl) (by kernel_rfl) (tl_pv (pv_convW rfl Tryz.underlying5 Tryz.underlying102)) ?_
  refine d_first 33 rfl rfl rfl (by kernel_rfl) (by kernel_rfl) (tl_pv (pv_orW rfl rfl)) ?_
  refine d_first 34 rfl rfl rfl (by kernel_rfl) (by kernel_rfl) (tl_pv (pv_aindex1 Tryz.underlying165 ti102 rfl rfl rfl (by first | rfl | omega) (by omega))) ?_
  refine Dn 35 (k:=No (k:=Dd (k:=Yb (Ya (Zr (k:=Qv (k:=Wn ?_)))))))
  refine to_inv ⟨j + 1, by omega⟩ (by dsimp only; omega) ⟨rfl, rfl, rfl, rfl, trivial⟩ ?_
  dsimp only
  rw [← sp_set (b := b) (j := j) (by omega) (blkW b j) (by rw [if_pos (by omega)])]
  exact ent_step (ce_norm (by rfl) (by rw [List.map_set]; rfl)) ent_pick
 ·
  refine Ze (k:=Xa (Xi (Xb (Ya (Za (k:=Qc (k:=Vv (k:=Wq (Zb (k:=?_))))))))))
  refine p_loop (fun (i : { j : Nat // 16 ≤ j ∧ j ≤ 80 }) => [(2, .pointer (some ⟨b2, 0, none⟩)), (3, .pointer (some ⟨b3, 0, none⟩)), (5, vI i.1)]) (fun (i : { j : Nat // 16 ≤ j ∧ j ≤ 80 }) => [Ce b3 165 ((spreadL b i.1 ++ List.replicate (80 - i.1) 0).map vW), Ce b2 165 ((List.replicate 80 (0 : UInt32)).map vW), B]) (fun (i : { j : Nat // 16 ≤ j ∧ j ≤ 80 }) => 80 - i.1) rfl (⟨16, by omega, by omega⟩) ?_ ?_ (fun i => ?_)
  · exact ⟨rfl, rfl, rfl, trivial⟩
  ·
   have hj16 : j = 16 := by omega
   subst hj16
   exact ent_pick
  obtain ⟨m, hm1, hm2⟩ := i
  dsimp only
  have hsl : (spreadL b m ++ List.replicate (80 - m) (0 : UInt32)).length = 80 := by rw [List.length_append, spreadL_len, List.length_replicate]; omega
  have hsp := spreadL_len b m
  try dsimp only
  refine Za (k:=Qc (k:=Qv (k:=Wq (Zi (t:=fun h46 => ?_) (f:=fun h46 => ?_)))))
  ·
   refine Zk (k:=Ya (Za (k:=Zb (k:=Dw [Ce b3 165 ((spreadL b m ++ List.replicate (80 - m) 0).map vW)] (k:=?_)))))
   refine Dv 0 (k:=Dv 1 (k:=Dv 2 (k:=?_)))
   refine d_first 3 rfl rfl rfl (by kernel_rfl) (by kernel_rfl) (tl_pv (pv_aindex1 (m := m - 3) Tryz.underlying165 ti102 rfl rfl rfl (by omega) (by omega))) ?_
   refine d_first 4 rfl rfl rfl (by kernel_rfl) (by kernel_rfl) (tl_load Tryz.underlying102 rfl rfl ((vW_getD (m := m - 3) (by omega)).trans (by rw [sp_get (by omega) (by omega)]))) ?_
   refine Dv 5 (k:=Dv 6 (k:=?_))
   refine d_first 7 rfl rfl rfl (by kernel_rfl) (by kernel_rfl) (tl_pv (pv_aindex1 (m := m - 8) Tryz.underlying165 ti102 rfl rfl rfl (by omega) (by omega))) ?_
   refine d_first 8 rfl rfl rfl (by kernel_rfl) (by kernel_rfl) (tl_load Tryz.underlying102 rfl rfl ((vW_getD (m := m - 8) (by omega)).trans (by rw [sp_get (by omega) (by omega)]))) ?_
   refine d_first 9 rfl rfl rfl (by kernel_rfl) (by kernel_rfl) (tl_pv (pv_xorW rfl rfl)) ?_
   refine Dv 10 (k:=Dv 11 (k:=?_))
   refine d_first 12 rfl rfl rfl (by kernel_rfl) (by kernel_rfl) (tl_pv (pv_aindex1 (m := m - 14) Tryz.underlying165 ti102 rfl rfl rfl (by omega) (by omega))) ?_
   refine d_first 13 rfl rfl rfl (by kernel_rfl) (by kernel_rfl) (tl_load Tryz.underlying102 rfl rfl ((vW_getD (m := m - 14) (by omega)).trans (by rw [sp_get (by omega) (by omega)]))) ?_
   refine d_first 14 rfl rfl rfl (by kernel_rfl) (by kernel_rfl) (tl_pv (pv_xorW rfl rfl)) ?_
   refine Dv 15 (k:=Dv 16 (k:=?_))
   refine d_first 17 rfl rfl rfl (by kernel_rfl) (by kernel_rfl) (tl_pv (pv_aindex1 (m := m - 16) Tryz.underlying165 ti102 rfl rfl rfl (by omega) (by omega))) ?_
   refine d_first 18 rfl rfl rfl (by kernel_rfl) (by kernel_rfl) (tl_load Tryz.underlying102 rfl rfl ((vW_getD (m := m - 16) (by omega)).trans (by rw [sp_get (by omega) (by omega)]))) ?_
   refine d_first 19 rfl rfl rfl (by kernel_rfl) (by kernel_rfl) (tl_pv (pv_xorW rfl rfl)) ?_
   refine Dn 20 (k:=?_)
   refine an_callF (RotateLeft32_sp _ 1 (.inl rfl)) rfl rfl rfl ?_
   refine d_first 21 rfl rfl rfl (by kernel_rfl) (by kernel_rfl) (tl_pv (pv_aindex1 Tryz.underlying165 ti102 rfl rfl rfl (by first | rfl | omega) (by omega))) ?_
   refine d_last 22 (by kernel_rfl) rfl (by kernel_rfl) (by kernel_rfl) ?_
   refine No (k:=Yb (Ya (Zr (k:=Qv (k:=Vv (k:=Wn ?_))))))
   refine to_inv ⟨m + 1, by omega, by omega⟩ (by dsimp only; omega) ⟨rfl, rfl, rfl, trivial⟩ ?_
   dsimp only
   rw [← sp_set (b := b) (j := m) (by omega) (nextW (spreadL b m) m) (by rw [if_neg (by omega)])]
   exact ent_step (ce_norm (by rfl) (by rw [List.map_set]; rfl)) ent_pick
  ·
   refine Ze (k:=Xa (Xi (Xb (Ya (Za (k:=?_))))))
   have hm80 : m = 80 := by omega
   subst hm80
   rw [Nat.sub_self, List.replicate_zero, List.append_nil]
   have hsl2 : ((spreadL b 80).map vW).length = 80 := by rw [List.length_map, hsp]
   have hoc : ((spreadL b 80).map vW).all oneCell = true := by simp [oneCell]
   generalize (spreadL b 80).map vW = ws at hsl2 hoc ⊢
   refine Zr (k:=?_)
   refine r_loada (vs := ws) Tryz.underlying165 rfl ti165 rfl (show 0 + 80 ≤ _ by omega) (show (ws.drop 0).take 80 = ws by rw [List.drop_zero]; exact List.take_of_length_le (by omega)) rfl ?_
   refine r_storea (vs := ws) ti165 (show Nat.beq 80 ws.length = true by rw [hsl2]; rfl) rfl rfl hoc (show 0 + ws.length ≤ _ by rw [hsl2]; simp) ?_
   refine Wq (Zt (k:=?_))
   have hfull : setAt ((List.replicate 80 (0 : UInt32)).map vW) 0 ws = ws := by
    have := setAt_mid ws [] ((List.replicate 80 (0 : UInt32)).map vW) [] (by rw [hsl2]; simp)
    simpa using this
   rw [hfull]
   refine fin_ret () (vs := [_]) (Cs := [Ce b2 165 ws]) rfl (.cell (l := ws) (us := ws) rfl (shows_ce (T := 165)) Tryz.underlying165 rfl ti165 (show 80 ≤ ws.length by omega) (show ws.take 80 = ws from List.take_of_length_le (by omega)) .nil) rfl trivial ?_
   exact ent_pick
end
section
set_option maxRecDepth 100000
theorem setAt_full {l vs : List Value} (h : l.length = vs.length) : setAt l 0 vs = vs := by
 have := setAt_mid vs [] l [] (by rw [h])
 simpa using this
/-- So many words added. -/
def addL (h s : List UInt32) (i : Nat) : List UInt32 := (List.zipWith (· + ·) h s).take i ++ h.drop i
theorem addL_len {h s : List UInt32} (e : h.length = s.length) {i : Nat} (hi : i ≤ h.length) : (addL h s i).length = h.length := by
 simp [addL, List.length_zipWith, ← e]; omega
theorem addL_get {h s : List UInt32} (e : h.length = s.length) {i : Nat} (hi : i < h.length) : (addL h s i).getD i 0 = h.getD i 0 := by
 have hl : ((List.zipWith (· + ·) h s).take i).length = i := by simp [List.length_zipWith, ← e]; omega
 simp only [addL, List.getD_eq_getElem?_getD]
 rw [List.getElem?_append_right (by omega), hl, Nat.sub_self, List.getElem?_drop, Nat.add_zero]
theorem addL_set {h s : List UInt32} (e : h.length = s.length) {i : Nat} (hi : i < h.length) : (addL h s i).set i (h.getD i 0 + s.getD i 0) = addL h s (i + 1) := by
 have hl : ((List.zipWith (· + ·) h s).take i).length = i := by simp [List.length_zipWith, ← e]; omega
 have hz : i < (List.zipWith (· + ·) h s).length := by simp [List.length_zipWith, ← e]; omega
 have hd : h.drop i = h[i] :: h.drop (i + 1) := List.drop_eq_getElem_cons hi
 unfold addL
 rw [hd, List.set_append_right _ _ (by omega), hl, Nat.sub_self, List.set_cons_zero, List.take_succ_eq_append_getElem hz]
 have h1 : h.getD i 0 = h[i] := by simp [hi]
 have h2 : s.getD i 0 = s[i] := by simp [← e, hi]
 simp [List.getElem_zipWith, hi, ← e]
theorem hash_take_sp {B : HP} {a : Option Addr} (p c : Nat) (h : W5) (b : Bs) (hb : b.length = 64) (sh : SlA B a (vUs b)) : Sp1 Tryz.prog 91 [.pointer (some ⟨p, 0, none⟩), .slice a 64 c] [Ce p 103 (h.list.map vW), B] (.tuple #[]) [Ce p 103 ((takeW h b).list.map vW), B] := by
 have hwl : (spreadL b 80).length = 80 := spreadL_len b 80
 have htk : takeW h b = (let s := roundsW (spreadL b 80) h 80; ⟨h.a + s.a, h.b + s.b, h.c + s.c, h.d + s.d, h.e + s.e⟩) := rfl
 have hsp := hash_spread_sp c b hb sh
 generalize spreadL b 80 = ws at hwl htk hsp
 have hwm : (ws.map vW).length = 80 := by rw [List.length_map, hwl]
 refine Sp.body (n := 88) Tryz.call91 Tryz.func91 rfl rfl rfl ?_
 refine Qc (k:=Vv (k:=?_))
 refine r_call1 hsp rfl rfl rfl ?_
 refine Zc [.int .u32 0, .int .u32 0, .int .u32 0, .int .u32 0, .int .u32 0, .int .u32 0, .int .u32 0, .int .u32 0, .int .u32 0, .int .u32 0, .int .u32 0, .int .u32 0, .int .u32 0, .int .u32 0, .int .u32 0, .int .u32 0, .int .u32 0, .int .u32 0, .int .u32 0, .int .u32 0, .int .u32 0, .int .u32 0, .int .u32 0, .int .u32 0, .int .u32 0, .int .u32 0, .int .u32 0, .int .u32 0, .int .u32 0, .int .u32 0, .int .u32 0, .int .u32 0, .int .u32 0, .int .u32 0, .int .u32 0, .int .u32 0, .int .u32 0, .int .u32 0, .int .u32 0, .int .u32 0, .int .u32 0, .int .u32 0, .int .u32 0, .int .u32 0, .int .u32 0, .int .u32 0, .int .u32 0, .int .u32 0, .int .u32 0, .int .u32 0, .int .u32 0, .int .u32 0, .int .u32 0, .int .u32 0, .int .u32 0, .int .u32 0, .int .u32 0, .int .u32 0, .int .u32 0, .int .u32 0, .int .u32 0, .int .u32 0, .int .u32 0, .int .u32 0, .int .u32 0, .int .u32 0, .int .u32 0, .int .u32 0, .int .u32 0, .int .u32 0, .int .u32 0, .int .u32 0, .int .u32 0, .int .u32 0, .int .u32 0, .int .u32 0, .int .u32 0, .int .u32 0, .int .u32 0, .int .u32 0] (k:=fun b4 => ?_)
 refine r_storea (vs := ws.map vW) ti165 (show Nat.beq 80 (ws.map vW).length = true by rw [hwm]; rfl) rfl rfl (by simp [oneCell]) (show 0 + (ws.map vW).length ≤ _ by rw [hwm]; exact Nat.le_refl 80) ?_
 rw [setAt_full (by rw [hwm]; rfl)]
 refine Wq (Za (k:=Dw [Ce p 103 (h.list.map vW)] (k:=?_)))
 refine Dv 0 (k:=Dv 1 (k:=?_))
 refine d_first 2 rfl rfl rfl (by kernel_rfl) (by kernel_rfl) (tl_pv (pv_aindex1 (m := 0) Tryz.underlying103 ti102 rfl rfl rfl (by first | rfl | omega) (by omega))) ?_
 refine Di 3 (t:=Ul) (k:=Dv 4 (k:=Dv 5 (k:=?_)))
 refine d_first 6 rfl rfl rfl (by kernel_rfl) (by kernel_rfl) (tl_pv (pv_aindex1 (m := 1) Tryz.underlying103 ti102 rfl rfl rfl (by first | rfl | omega) (by omega))) ?_
 refine Di 7 (t:=Ul) (k:=Dv 8 (k:=Dv 9 (k:=?_)))
 refine d_first 10 rfl rfl rfl (by kernel_rfl) (by kernel_rfl) (tl_pv (pv_aindex1 (m := 2) Tryz.underlying103 ti102 rfl rfl rfl (by first | rfl | omega) (by omega))) ?_
 refine Di 11 (t:=Ul) (k:=Dv 12 (k:=Dv 13 (k:=?_)))
 refine d_first 14 rfl rfl rfl (by kernel_rfl) (by kernel_rfl) (tl_pv (pv_aindex1 (m := 3) Tryz.underlying103 ti102 rfl rfl rfl (by first | rfl | omega) (by omega))) ?_
 refine Di 15 (t:=Ul) (k:=Dv 16 (k:=Dv 17 (k:=?_)))
 refine d_first 18 rfl rfl rfl (by kernel_rfl) (by kernel_rfl) (tl_pv (pv_aindex1 (m := 4) Tryz.underlying103 ti102 rfl rfl rfl (by first | rfl | omega) (by omega))) ?_
 refine Di 19 (t:=Ul) (k:=Dv 20 (k:=Dv 21 (k:=Dv 22 (k:=Dv 23 (k:=Dv 24 (k:=Dd (k:=Ya (Za (k:=Qc (k:=Vv (k:=?_)))))))))))
 refine Wq (Zb (k:=?_))
 refine p_loop (fun (i : { j : Nat // j ≤ 80 }) => [(0, .pointer (some ⟨p, 0, none⟩)), (4, .pointer (some ⟨b4, 0, none⟩)), (5, vW (roundsW ws h i.1).a), (6, vW (roundsW ws h i.1).b), (7, vW (roundsW ws h i.1).c), (8, vW (roundsW ws h i.1).d), (9, vW (roundsW ws h i.1).e), (38, vI i.1)]) (fun (i : { j : Nat // j ≤ 80 }) => [Ce p 103 (h.list.map vW), Ce b4 165 (ws.map vW), B]) (fun (i : { j : Nat // j ≤ 80 }) => 80 - i.1) rfl (⟨0, Nat.zero_le _⟩) ?_ ?_ (fun i => ?_)
 · exact ⟨rfl, rfl, rfl, rfl, rfl, rfl, rfl, rfl, trivial⟩
 ·
  exact ent_pick
 obtain ⟨j, hj⟩ := i
 dsimp only
 try dsimp only
 refine Qc (k:=Vv (k:=Wq (Za (k:=Zi (t:=fun h39 => ?_) (f:=fun h39 => ?_)))))
 ·
  refine Zk (k:=Ya (Za (k:=Zb (k:=Za (k:=?_)))))
  obtain ⟨s, hs⟩ : ∃ s, s = roundsW ws h j := ⟨_, rfl⟩
  have hs2 : roundsW ws h (j + 1) = roundW ws j s := by rw [hs]; rfl
  rw [← hs]
  refine Zr (k:=Qv (k:=Wq (Qc (k:=Qv (k:=Qv (k:=?_))))))
  refine r_callF (hash_mixed_sp j s.b s.c s.d (by omega)) rfl rfl rfl ?_
  refine Qv (k:=Qv (k:=Vv (k:=Wq (Za (k:=Dw [Ce b4 165 (ws.map vW)] (k:=?_))))))
  refine Dv 0 (k:=Dv 2 (k:=Dv 4 (k:=Dv 6 (k:=Dv 8 (k:=?_)))))
  refine d_first 9 rfl rfl rfl (by kernel_rfl) (by kernel_rfl) (tl_pv (pv_aindex1 Tryz.underlying165 ti102 rfl rfl rfl (by first | rfl | omega) (by omega))) ?_
  refine d_first 10 rfl rfl rfl (by kernel_rfl) (by kernel_rfl) (tl_load Tryz.underlying102 rfl rfl (vW_getD (m := j) (by omega))) ?_
  refine Dn 1 (k:=?_)
  refine an_callF (RotateLeft32_sp _ 5 (.inr (.inl rfl))) rfl rfl rfl ?_
  refine d_first 3 rfl rfl rfl (by kernel_rfl) (by kernel_rfl) (tl_pv (pv_addW rfl rfl)) ?_
  refine d_first 5 rfl rfl rfl (by kernel_rfl) (by kernel_rfl) (tl_pv (pv_addW rfl rfl)) ?_
  refine d_first 7 rfl rfl rfl (by kernel_rfl) (by kernel_rfl) (tl_pv (pv_addW rfl rfl)) ?_
  refine d_first 11 rfl rfl rfl (by kernel_rfl) (by kernel_rfl) (tl_pv (pv_addW rfl rfl)) ?_
  refine Dv 12 (k:=Dd (k:=Ya (Zr (k:=Qv (k:=Vv (k:=?_))))))
  refine r_callF (RotateLeft32_sp _ 30 (.inr (.inr rfl))) rfl rfl rfl ?_
  refine Qv (k:=Qv (k:=Qv (k:=Vv (k:=Wn (Yb (Ya (Zr (k:=Vv (k:=?_)))))))))
  refine Vv (k:=Wn ?_)
  refine to_inv ⟨j + 1, by omega⟩ (by dsimp only; omega) ?_ ent_pick
  dsimp only
  rw [hs2]
  exact ⟨rfl, rfl, rfl, rfl, rfl, rfl, rfl, rfl, trivial⟩
 ·
  refine Ze (k:=Xa (Xi (Xb (Ya (Za (k:=?_))))))
  have hj80 : j = 80 := by omega
  subst hj80
  obtain ⟨s, hs⟩ : ∃ s, s = roundsW ws h 80 := ⟨_, rfl⟩
  dsimp only at htk
  rw [← hs] at htk ⊢
  have hh5 : h.list.length = 5 := rfl
  have hs5 : s.list.length = 5 := rfl
  refine Zr (k:=Qv (k:=Qv (k:=Vv (k:=?_))))
  refine wo_pv (pv_buildA (vs := [_, _, _, _, _]) Tryz.underlying103 ti102 rfl rfl rfl ti103 rfl rfl) rfl ?_
  refine Vv (k:=Wq (Zb (k:=?_)))
  refine p_loop (fun (i : { m : Nat // m ≤ 5 }) => [(0, .pointer (some ⟨p, 0, none⟩)), (73, .agg (s.list.map vW).toArray), (74, vI i.1)]) (fun (i : { m : Nat // m ≤ 5 }) => [Ce p 103 ((addL h.list s.list i.1).map vW), B]) (fun (i : { m : Nat // m ≤ 5 }) => 5 - i.1) rfl (⟨0, Nat.zero_le _⟩) ?_ ?_ (fun i => ?_)
  · exact ⟨rfl, rfl, rfl, trivial⟩
  ·
   exact ent_step (ce_norm (by rfl) (by rfl)) ent_pick
  obtain ⟨m, hm⟩ := i
  dsimp only
  have hal := addL_len (h := h.list) (s := s.list) (i := m) rfl hm
  try dsimp only
  refine Qc (k:=Vv (k:=Wq (Za (k:=Zi (t:=fun h75 => ?_) (f:=fun h75 => ?_)))))
  ·
   refine Zk (k:=Ya (Za (k:=Zb (k:=Qc (k:=Vv (k:=?_))))))
   refine wo_pv (pv_aidx Tryz.underlying103 Tryz.underlying102 ti102 rfl rfl rfl rfl rfl (by omega) (vW_getD (m := m) (by omega))) rfl ?_
   refine Qv (k:=Wq (Dw [] (k:=?_)))
   refine Dv 0 (k:=Dv 1 (k:=Dv 2 (k:=?_)))
   refine d_first 3 rfl rfl rfl (by kernel_rfl) (by kernel_rfl) (tl_pv (pv_aindex1 Tryz.underlying103 ti102 rfl rfl rfl (by first | rfl | omega) (by omega))) ?_
   refine Dv 5 (k:=Dv 7 (k:=Dn 4 (k:=?_)))
   refine an_load Tryz.underlying102 rfl rfl ((vW_getD (m := m) (by omega)).trans (by rw [addL_get (hh5.trans hs5.symm) (by omega)])) rfl ?_
   refine d_first 6 rfl rfl rfl (by kernel_rfl) (by kernel_rfl) (tl_pv (pv_addW rfl rfl)) ?_
   refine d_first 8 rfl rfl rfl (by kernel_rfl) (by kernel_rfl) (tl_pv (pv_aindex1 Tryz.underlying103 ti102 rfl rfl rfl (by first | rfl | omega) (by omega))) ?_
   refine Dn 9 (k:=No (k:=Dd (k:=Yb (Ya (Zr (k:=Qv (k:=Wn ?_)))))))
   refine to_inv ⟨m + 1, by omega⟩ (by dsimp only; omega) ⟨rfl, rfl, rfl, trivial⟩ ?_
   dsimp only
   rw [← addL_set (hh5.trans hs5.symm) (by omega)]
   exact ent_step (ce_norm (by rfl) (by rw [List.map_set])) ent_pick
  ·
   refine Ze (k:=Xa (Xi (Xb ?_)))
   have hm5 : m = 5 := by omega
   subst hm5
   refine fin_end () (vs := []) (Cs := []) rfl .nil rfl trivial ?_
   rw [htk]
   exact ent_step (ce_norm (by rfl) (by rfl)) ent_pick
end
section
set_option maxRecDepth 100000
section
variable {r : Option Nat} {P : Program} {n : Nat} {A : List HP} {L : Loc} {ty : TypeId} {pos : String} {after : Array Edge}
theorem opt_copyS {dst : Option Tmp} {x y : Operand} {dT sT e : TypeId} {g dLen dCap T : Nat} {cur : List Value} {s : Bs} (hu : P.underlying dT = some (.slice e)) (hs : (P.info? e).map (·.size) = some 1)
    (hx : ev L x = some (.slice (some ⟨g, 0, none⟩) dLen dCap)) (hy : ev L y = some (vS s)) (hq : s.length ≤ dLen) (hl : s.length ≤ cur.length) :
    OpT r P n ⟨dst, .call ⟨.builtin .copy, #[x, y], #[dT, sT]⟩, ty, pos, after, none⟩ A L [Ce g T cur] (fun _ : Unit => vI s.length) (fun _ => True) (fun _ => [Ce g T (setAt cur 0 (vUs s))]) := by
 refine opt_turn (fun ac f w M h1 hf dj tt hr => ?_)
 have hr' : h1 = Res.one g _ := hr
 subst hr'
 have hb : w.heap[g]? = some (.cells cur.toArray T (0, 0)) := tt.ow _ _ (by simp [Res.add, Res.one])
 obtain ⟨w', hrun, hb', ho', he'⟩ := run_storeCells_ce (P := P) (vUs s) w cur 0 0 hb (by simp [vUs, oneCell]) (by simp [vUs]; omega)
 refine ⟨w', Res.one g (.cells (setAt cur 0 (vUs s)).toArray T (0, 0)), dj_one_any dj, Sat.setBlk dj tt (by simpa using hb') ho' he', rfl, .inl ?_⟩
 cases hq2 : P.info? e with
 | none => simp [hq2] at hs
 | some i =>
   have hi : i.size = 1 := by simpa [hq2] using hs
   have hsz : (Builtin.lenOf (vS s)).run P w = .ok s.length w := rfl
   have hc : (Builtin.firstCells 1 s.length (vS s)).run P w = .ok (vUs s).toArray w := by
    show Result.ok _ w = Result.ok _ w
    congr 1
    apply Array.ext'
    simp [vUs, ByteArray.data_extract]
   have hm : Nat.min s.length dLen = s.length := Nat.min_eq_left hq
   simp only [execOp, resolve, Array.map, f.ev hx, f.ev hy, invoke, builtin]
   simp [execOp, resolve, f.ev hx, f.ev hy, invoke, builtin, Builtin.copy_, run_underlying hu, sizeOf, typeInfo, program, Sem.run, hq2, hi, hsz, hm, hc, hrun]
   rfl
end
/-- The padding, with so many bytes of the length. -/
def padI (s : Bs) (i : Nat) : Bs := s ++ [0x80] ++ zeros (64 * blocksN s - 9 - s.length) ++ (zeros (8 - i) ++ ((List.range 8).map (len8 s)).drop (8 - i))
theorem padI_len (s : Bs) {i : Nat} (h : i ≤ 8) : (padI s i).length = 64 * blocksN s := by
 simp only [padI, blocksN, zeros, List.length_append, List.length_replicate, List.length_drop, List.length_map, List.length_range, List.length_singleton]
 omega
theorem padI_8 (s : Bs) : padI s 8 = padB s := by simp [padI, padB, zeros]
theorem padI_0 (s : Bs) : ((vUs s ++ List.replicate (64 * blocksN s - s.length) (vU 0)).set s.length (vU 128)) = vUs (padI s 0) := by
 have hb : 64 * blocksN s - s.length = (64 * blocksN s - 9 - s.length) + 8 + 1 := by unfold blocksN; omega
 have hl : (vUs s).length = s.length := by simp [vUs]
 rw [List.set_append_right _ _ (by omega), hl, Nat.sub_self, hb, List.replicate_succ, List.set_cons_zero, ← List.replicate_append_replicate]
 simp [padI, vUs, zeros]
theorem padI_set (s : Bs) {i : Nat} (h : i < 8) : (padI s i).set (64 * blocksN s - 1 - i) (len8 s (7 - i)) = padI s (i + 1) := by
 have hp : (s ++ [0x80] ++ zeros (64 * blocksN s - 9 - s.length)).length = 64 * blocksN s - 8 := by
  simp only [blocksN, zeros, List.length_append, List.length_replicate, List.length_singleton]; omega
 have hb : 64 ≤ 64 * blocksN s := by unfold blocksN; omega
 unfold padI
 rw [List.set_append_right _ _ (by omega), hp, show 64 * blocksN s - 1 - i - (64 * blocksN s - 8) = 7 - i from by omega]
 congr 1
 have hz : zeros (8 - i) = zeros (7 - i) ++ [0] := by
  have : 8 - i = (7 - i) + 1 := by omega
  rw [this, zeros, zeros, List.replicate_succ']
 have hzl : (zeros (7 - i)).length = 7 - i := by simp [zeros]
 have hm : 7 - i < ((List.range 8).map (len8 s)).length := by simp; omega
 have hd : ((List.range 8).map (len8 s)).drop (7 - i) = len8 s (7 - i) :: ((List.range 8).map (len8 s)).drop (8 - i) := by
  rw [List.drop_eq_getElem_cons hm]
  have : 7 - i + 1 = 8 - i := by omega
  rw [this]; simp
 rw [hz, List.append_assoc, List.set_append_right _ _ (by omega), hzl, Nat.sub_self, List.singleton_append, List.set_cons_zero, show 8 - (i + 1) = 7 - i from by omega, hd]
theorem vUs_set {l : Bs} {m : Nat} {c : UInt8} : (vUs l).set m (vU c.toNat) = vUs (l.set m c) := by simp [vUs, List.map_set]
theorem len8_byte {s : Bs} (hs : s.length ≤ 1099511627776) {j : Nat} (hj : j < 8) : IntKind.u8.wrap (Int.fdiv (IntKind.u64.wrap (IntKind.u64.wrap (s.length : Int) * 8)) (2 ^ (min (8 * j) IntKind.u64.bits))) = ((len8 s (7 - j)).toNat : Int) := by
 have w64 : ∀ n : Int, IntKind.u64.wrap n = n % 18446744073709551616 := fun n => by simp [IntKind.wrap, IntKind.signed, IntKind.bits]
 have w8 : ∀ n : Int, IntKind.u8.wrap n = n % 256 := fun n => by simp [IntKind.wrap, IntKind.signed, IntKind.bits]
 have h1 : IntKind.u64.wrap (IntKind.u64.wrap (s.length : Int) * 8) = ((8 * s.length : Nat) : Int) := by rw [w64, w64]; omega
 have h2 : min (8 * j) IntKind.u64.bits = 8 * j := Nat.min_eq_left (by simp only [IntKind.bits]; omega)
 rw [h1, h2, two_pow, Int.fdiv_eq_ediv_of_nonneg _ (Int.natCast_nonneg _), w8, ← Int.natCast_ediv]
 have h3 : 7 - (7 - j) = j := by omega
 simp only [len8, h3, UInt8.toNat_ofNat']
 generalize 8 * s.length / 2 ^ (8 * j) = q
 omega
theorem hash_padded_sp (s : Bs) (hs : s.length ≤ 1099511627776) : Sp Tryz.prog 90 [vS s] [] (X := Nat) (fun g => .slice (some ⟨g, 0, none⟩) (64 * blocksN s) (64 * blocksN s)) (fun _ => True) (fun g => [Ce g 5 (vUs (padB s))]) := by
 have hbn : 64 * blocksN s = ((s.length + 8) / 64 + 1) * 64 := by unfold blocksN; omega
 have hbl : s.length + 9 ≤ 64 * blocksN s := by unfold blocksN; omega
 have hbu : 64 * blocksN s ≤ s.length + 72 := by unfold blocksN; omega
 refine Sp.body (n := 43) Tryz.call90 Tryz.func90 rfl rfl rfl ?_
 refine Qc (k:=Vv (k:=Wq (Qc (k:=Qv (k:=Qv (k:=Qv (k:=?_)))))))
 refine Wq (Qc (k:=Qv (k:=?_)))
 refine r_makeSlice (m := 64 * blocksN s) (z := .int .u8 0) Tryz.underlying89 ti5 rfl rfl rfl (vI_eq (by omega)) (vI_eq (by omega)) (by omega) (by rw [show Tryz.t5.bytes = 1 from rfl]; omega) rfl (fun b14 => ?_)
 refine Vv (k:=Wq (Qc (k:=Qv (k:=?_))))
 refine wo_opT (by intro c; simp) (opt_copyS Tryz.underlying89 rfl rfl rfl (by omega) (by rw [List.length_replicate]; omega) (cur := List.replicate (64 * blocksN s) (vU 0)) (T := 5)) rfl (fun _ _ => ?_)
 have hsa : setAt (List.replicate (64 * blocksN s) (vU 0)) 0 (vUs s) = vUs s ++ List.replicate (64 * blocksN s - s.length) (vU 0) := by
  have h1 : List.replicate (64 * blocksN s) (vU 0) = List.replicate s.length (vU 0) ++ List.replicate (64 * blocksN s - s.length) (vU 0) := by rw [List.replicate_append_replicate]; congr 1; omega
  have := setAt_mid (vUs s) [] (List.replicate s.length (vU 0)) (List.replicate (64 * blocksN s - s.length) (vU 0)) (by simp [vUs])
  rw [h1]; simpa using this
 rw [hsa]
 have hl0 : (vUs s ++ List.replicate (64 * blocksN s - s.length) (vU 0)).length = 64 * blocksN s := by simp [vUs]; omega
 refine Wq (Qc (k:=Qv (k:=Vv (k:=?_))))
 refine r_elemAddr (sz := 1) (m := s.length) (kk := s.length) Tryz.underlying89 ti5 rfl rfl rfl rfl (by omega) (by omega) (Nat.mul_one _) rfl ?_
 refine r_store ti5 rfl rfl rfl rfl (show 0 + s.length < _ by omega) ?_
 rw [Nat.zero_add, padI_0]
 refine Wq (Qc (k:=Qv (k:=?_)))
 refine wo_pv (pv_conv rfl Tryz.underlying3 Tryz.underlying104) rfl ?_
 refine wo_pv (pv_mulw rfl rfl) rfl ?_
 refine Vv (k:=Wq (Za (k:=Qc (k:=Vv (k:=Wq (Zb (k:=?_)))))))
 refine p_loop (fun (i : { j : Nat // j ≤ 8 }) => [(4, .slice (some ⟨b14, 0, none⟩) (64 * blocksN s) (64 * blocksN s)), (5, .int .u64 (IntKind.u64.wrap (IntKind.u64.wrap (s.length : Int) * 8))), (26, vI i.1)]) (fun (i : { j : Nat // j ≤ 8 }) => [Ce b14 5 (vUs (padI s i.1))]) (fun (i : { j : Nat // j ≤ 8 }) => 8 - i.1) rfl (⟨0, Nat.zero_le _⟩) ?_ ?_ (fun i => ?_)
 · exact ⟨rfl, rfl, rfl, trivial⟩
 ·
  exact ent_pick
 obtain ⟨j, hj⟩ := i
 dsimp only
 have hpl := padI_len s hj
 have hpv : (vUs (padI s j)).length = 64 * blocksN s := by simp [vUs, hpl]
 try dsimp only
 refine Qc (k:=Vv (k:=Wq (Za (k:=Zi (t:=fun h27 => ?_) (f:=fun h27 => ?_)))))
 ·
  refine Zk (k:=Ya (Za (k:=Zb (k:=Qc (k:=Qv (k:=Wq (Zr (k:=Qv (k:=?_)))))))))
  refine Qv (k:=Qv (k:=Qv (k:=Vv (k:=?_))))
  refine wo_pv (pv_shr (m := 8 * j) rfl (vI_eq (by omega))) rfl ?_
  refine wo_pv (pv_conv rfl Tryz.underlying104 Tryz.underlying5) rfl ?_
  refine r_elemAddr (sz := 1) (m := 64 * blocksN s - 1 - j) (kk := 64 * blocksN s - 1 - j) Tryz.underlying89 ti5 rfl rfl rfl (by omega) (by omega) (by omega) (Nat.mul_one _) rfl ?_
  refine r_store ti5 rfl rfl rfl rfl (show 0 + (64 * blocksN s - 1 - j) < _ by omega) ?_
  rw [Nat.zero_add, len8_byte hs (by omega), vUs_set, padI_set s (by omega)]
  refine Wn (Yb (Ya (Zr (k:=Qv (k:=Wn ?_)))))
  exact to_inv ⟨j + 1, by omega⟩ (by dsimp only; omega) ⟨rfl, rfl, rfl, trivial⟩ ent_pick
 ·
  refine Ze (k:=Xa (Xi (Xb (Ya (Qc (k:=Qv (k:=Wq (Zt (k:=?_)))))))))
  have hj8 : j = 8 := by omega
  subst hj8
  rw [padI_8]
  refine fin_ret b14 (vs := [_]) (Cs := []) rfl (.tmp rfl .nil) rfl trivial ?_
  exact ent_pick
end
end Go.Proofs.YtibccdcemcgkeaaGreat
