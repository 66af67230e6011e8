/- Texts of this proof, put together: Bridge, Struct, RangeF, Types, Shelf, Lib0. -/
import Derived.Below
import Derived.RangeFuncIn
import Derived.RangeFuncNested
import Derived.Test.YtibccdcemcgkeaaGreatProg
import Derived.Shelf.Strings.Builder1
import Derived.Shelf.Strings.Builder2
import Derived.Shelf.Small.Bits
import Derived.Shelf.Small.Strs
import Derived.Shelf.Small.Wraps
import Derived.Shelf.Strings.BuilderF
import Derived.Shelf.Strconv.Itoa0
import Derived.Shelf.Strings.Search1
import Derived.Shelf.Strings.Search2
import Derived.Shelf.Strings.Search3
import Derived.Shelf.Strings.Cut
import Derived.Shelf.LaysM
import Derived.Shelf.Strings.Shaped
import Derived.Shelf.Sort.Plain
import Derived.Shelf.Strings.Prefix
import Derived.Shelf.Bits.Mul64
import Derived.Shelf.Strings.Repeat
import Derived.Test.YtibccdcemcgkeaaGreatQ03
set_option linter.unusedVariables false
set_option linter.unusedSimpArgs false
namespace Go.Proofs.YtibccdcemcgkeaaGreat
section
open Go.RowKit (Below)
theorem Sat.below {w w' : World} {M : Kn} {h : Res} (t : Sat w M h) (b : Below w.heap.size w w') : Sat w' M h := by
 have old : ∀ i o, w.heap[i]? = some o → w'.heap[i]? = some o := fun i o e => by
  rw [b.block i (Array.getElem?_eq_some_iff.1 e).1]; exact e
 exact ⟨fun i o e => old i o (t.im i o e), fun i o e => old i o (t.ow i o e), t.dj, t.env.trans ⟨b.os, b.tape, b.output, b.size⟩⟩
theorem SpF.of_calls {P : Program} {f : FuncId} {args : List Value} {v : Value} (en : ∀ (args : Array Value) (w : World), (callFunc f args).run P w = .ok (.enter f args) w)
    (h : ∀ w, Calls P f args.toArray w fun e w' => e = .returned v ∧ Below w.heap.size w w') : SpF P f args v := by
 refine ⟨en, fun w M m hf d t s => callsIn_wide.2 ((h w).mono ?_)⟩
 rintro e w' ⟨rfl, b⟩
 exact ⟨(), M, m, rfl, trivial, Kn.le_refl _, d, t.below b, trivial⟩
/-- A law's contract: all that there was is as it was. -/
theorem Sp.law {P : Program} {f : FuncId} {args : List Value} {As : List HP} {v : Value} {Bs : Unit → List HP} (sp : Sp P f args As (X := Unit) (fun _ => v) (fun _ => True) Bs) (w : World)
    (hA : SL As ⟨fun b => w.heap[b]?, w⟩ Res.emp) : Calls P f args.toArray w fun e w' => e = .returned v ∧ Below w.heap.size w w' := by
 have t : Sat w ⟨fun b => w.heap[b]?, w⟩ (Res.emp.add Res.emp) := ⟨fun _ _ e => e, fun _ _ e => by simp [Res.add, Res.emp] at e, fun _ => .inr rfl, Env.refl w⟩
 refine (callsIn_wide.1 (sp.calls w _ Res.emp Res.emp (Res.dj_emp _) t hA)).mono ?_
 rintro e w' ⟨x, M', h', rfl, _, l, _, t', _⟩
 have en := t'.env
 rw [← l.2] at en
 refine ⟨rfl, en.os, en.tape, en.output, en.size, fun k hk => ?_⟩
 have e1 : w.heap[k]? = some w.heap[k] := Array.getElem?_eq_getElem hk
 rw [e1]
 exact t'.im k _ (l.1 k _ e1)
end
section
open Go.RowKit (Below)
instance (priority := 900) {b : Nat} {l : List Value} {B C : List HP} [h : RdCe b l B] : RdCe b l (B ++ C) := ⟨by
 obtain ⟨A, s, p⟩ := h.get
 refine ⟨A, s, ?_⟩
 clear h s
 induction p with
 | here => exact .here
 | there _ ih => exact .there ih⟩
instance (priority := 800) {b : Nat} {l : List Value} {B C : List HP} [h : RdCe b l C] : RdCe b l (B ++ C) := ⟨by
 obtain ⟨A, s, p⟩ := h.get
 refine ⟨A, s, ?_⟩
 clear h s
 induction B with
 | nil => exact p
 | cons _ _ ih => exact .there ih⟩
instance (priority := 900) {b : Nat} {T : TypeId} {l l' : List Value} {B B' C : List HP} [h : UpCe b T l l' B B'] : UpCe b T l l' (B ++ C) (B' ++ C) := ⟨by
 have u := h.get
 clear h
 induction u with
 | here => exact .here
 | there _ ih => exact .there ih⟩
instance (priority := 800) {b : Nat} {T : TypeId} {l l' : List Value} {B C C' : List HP} [h : UpCe b T l l' C C'] : UpCe b T l l' (B ++ C) (B ++ C') := ⟨by
 have u := h.get
 clear h
 induction B with
 | nil => exact u
 | cons _ _ ih => exact .there ih⟩
instance (priority := 900) {b off : Nat} {v : Value} {T : TypeId} {l : List Value} {B B' C : List HP} [h : StC b off v T l B B'] : StC b off v T l (B ++ C) (B' ++ C) := ⟨by
 have u := h.get
 clear h
 induction u with
 | here => exact .here
 | there _ ih => exact .there ih⟩
instance (priority := 800) {b off : Nat} {v : Value} {T : TypeId} {l : List Value} {B C C' : List HP} [h : StC b off v T l C C'] : StC b off v T l (B ++ C) (B ++ C') := ⟨by
 have u := h.get
 clear h
 induction B with
 | nil => exact u
 | cons _ _ ih => exact .there ih⟩
instance (priority := 900) {b off : Nat} {vs : List Value} {T : TypeId} {l : List Value} {B B' C : List HP} [h : StsC b off vs T l B B'] : StsC b off vs T l (B ++ C) (B' ++ C) := ⟨by
 have u := h.get
 clear h
 induction u with
 | here => exact .here
 | there _ ih => exact .there ih⟩
instance (priority := 800) {b off : Nat} {vs : List Value} {T : TypeId} {l : List Value} {B C C' : List HP} [h : StsC b off vs T l C C'] : StsC b off vs T l (B ++ C) (B ++ C') := ⟨by
 have u := h.get
 clear h
 induction B with
 | nil => exact u
 | cons _ _ ih => exact .there ih⟩
instance (priority := 900) {A : HP} {B B' C : List HP} [h : PickC A B B'] : PickC A (B ++ C) (B' ++ C) := ⟨by
 have u := h.get
 clear h
 induction u with
 | here => exact .here
 | keep p => exact .keep p
 | there _ ih => exact .there ih⟩
instance (priority := 800) {A : HP} {B C C' : List HP} [h : PickC A C C'] : PickC A (B ++ C) (B ++ C') := ⟨by
 have u := h.get
 clear h
 induction B with
 | nil => exact u
 | cons _ _ ih => exact .there ih⟩
instance (priority := 900) {A : HP} {B C : List HP} [h : HasC A B] : HasC A (B ++ C) := ⟨by
 have u := h.get
 clear h
 induction u with
 | here => exact .here
 | there _ ih => exact .there ih⟩
instance (priority := 800) {A : HP} {B C : List HP} [h : HasC A C] : HasC A (B ++ C) := ⟨by
 have u := h.get
 clear h
 induction B with
 | nil => exact u
 | cons _ _ ih => exact .there ih⟩
theorem sl_ex {X : Type} {f : X → HP} {Hs : List HP} {M : Kn} {h : Res} (s : SL (Ex f :: Hs) M h) : ∃ x, SL (f x :: Hs) M h := by
 obtain ⟨h1, h2, d, e, ⟨x, a⟩, t⟩ := s
 exact ⟨x, h1, h2, d, e, a, t⟩
theorem sl_al {As Hs : List HP} {M : Kn} {h : Res} (s : SL (Al As :: Hs) M h) : SL (As ++ Hs) M h := by
 obtain ⟨h1, h2, d, e, a, t⟩ := s
 subst e
 exact SL.append d a t
theorem sl_pu {p : Prop} {Hs : List HP} {M : Kn} {h : Res} (s : SL (Pu p :: Hs) M h) : p ∧ SL Hs M h := by
 obtain ⟨h1, h2, d, e, a, t⟩ := s
 subst e
 exact ⟨a, SL.more d t⟩
/-! Shutting. -/
theorem ent_ex {X : Type} {f : X → HP} {Hs Rs : List HP} (x : X) (e : Ent Hs (f x :: Rs)) : Ent Hs (Ex f :: Rs) := ⟨fun s => by
 obtain ⟨h1, h2, d, e', a, t⟩ := e s
 exact ⟨h1, h2, d, e', ⟨x, a⟩, t⟩⟩
theorem ent_al {As Hs Rs Gs : List HP} [q : AppC As Rs Gs] (e : Ent Hs Gs) : Ent Hs (Al As :: Rs) := ⟨fun s => by
 have s2 := e s
 rw [← q.get] at s2
 obtain ⟨h1, h2, d, e', a, t⟩ := SL.split s2
 exact ⟨h1, h2, d, e', a, t⟩⟩
theorem ent_pu {p : Prop} {Hs Rs : List HP} (hp : p) (e : Ent Hs Rs) : Ent Hs (Pu p :: Rs) := ⟨fun {M h} s => ⟨Res.emp, h, Res.emp_dj _, rfl, hp, e s⟩⟩
/-- First what is picked; the rest out of what is left. -/
theorem ent_cons {A : HP} {Hs Rs Gs : List HP} [h : PickC A Hs Rs] (e : Ent Rs Gs) : Ent Hs (A :: Gs) := ⟨fun s => by
 obtain ⟨h1, h2, d, e', a, t⟩ := h.get.sat s
 exact ⟨h1, h2, d, e', a, e t⟩⟩
theorem ent_step {A : HP} {Hs Rs Gs : List HP} (e : Ent Hs (A :: Rs)) (k : Ent Rs Gs) : Ent Hs (A :: Gs) := ⟨fun s => by
 obtain ⟨h1, h2, d, e', a, t⟩ := e s
 exact ⟨h1, h2, d, e', a, k t⟩⟩
/-- What is there, in another shape. -/
theorem ent_left {X : Type} {f : X → HP} {Hs Gs : List HP} (e : ∀ x, Ent (f x :: Hs) Gs) : Ent (Ex f :: Hs) Gs := ⟨fun s => by
 obtain ⟨x, s⟩ := sl_ex s
 exact e x s⟩
theorem ent_leftAl {As Hs Rs Gs : List HP} [q : AppC As Hs Rs] (e : Ent Rs Gs) : Ent (Al As :: Hs) Gs := ⟨fun s => e (by rw [← q.get]; exact sl_al s)⟩
theorem ent_leftPu {p : Prop} {Hs Gs : List HP} (e : p → Ent Hs Gs) : Ent (Pu p :: Hs) Gs := ⟨fun s => let ⟨a, t⟩ := sl_pu s; e a t⟩
section
variable {r : Option Nat} {P : Program} {n : Nat} {ops : Array Oper} {os : List Oper} {L : Loc} {Hs : List HP} {Q : Out} {c : Code}
theorem wc_exi {X : Type} {f : X → HP} (k : ∀ x, wc r P n c L (f x :: Hs) Q) : wc r P n c L (Ex f :: Hs) Q := wc_ex sl_ex k
theorem wc_al {As Rs : List HP} [q : AppC As Hs Rs] (k : wc r P n c L Rs Q) : wc r P n c L (Al As :: Hs) Q := wc_ent' ⟨fun s => by rw [← q.get]; exact sl_al s⟩ k
theorem wo_al {As Rs : List HP} [q : AppC As Hs Rs] (k : wo r P n ops os L Rs Q) : wo r P n ops os L (Al As :: Hs) Q := wo_ent' ⟨fun s => by rw [← q.get]; exact sl_al s⟩ k
theorem wc_pu {p : Prop} (k : p → wc r P n c L Hs Q) : wc r P n c L (Pu p :: Hs) Q := by
 intro a M m s
 obtain ⟨g1, g2, dg, e, y, s2⟩ := s.2
 obtain ⟨hp, s3⟩ := sl_pu s2
 exact k hp a M m ⟨s.1, g1, g2, dg, e, y, s3⟩
theorem wc_front (A : HP) {Rs : List HP} [h : PickC A Hs Rs] (k : wc r P n c L (A :: Rs) Q) : wc r P n c L Hs Q := wc_ent' (Picks.ent (.cons h.get .nil)) k
/-- A block is given up for good: all may read it from now on. -/
theorem freeze_sat {b : Nat} {o : Obj} {w : World} {M : Kn} {h : Res} (d : (Res.one b o).dj h) (t : Sat w M ((Res.one b o).add h)) : ∃ M' : Kn, M.le M' ∧ M'.im b = some o ∧ Sat w M' h := by
 have hM : M.im b = none := by
  rcases t.dj b with e | e
  · exact e
  · simp [Res.add, Res.one] at e
 have hh : h b = none := by
  rcases d b with e | e
  · simp [Res.one] at e
  · exact e
 refine ⟨⟨fun i => if i = b then some o else M.im i, M.g⟩, ⟨fun i u e => ?_, rfl⟩, by simp, ⟨fun i u e => ?_, fun i u e => ?_, fun i => ?_, t.env⟩⟩
 · have : i ≠ b := fun x => by subst x; rw [hM] at e; cases e
   simp [this, e]
 · by_cases hi : i = b
   · subst hi; simp at e; subst e; exact t.ow _ _ (by simp [Res.add, Res.one])
   · simp only [hi, if_false] at e; exact t.im i u e
 · exact t.ow i u (Res.le_add_right d i u e)
 · by_cases hi : i = b
   · subst hi; exact .inr hh
   · rcases t.dj i with e | e
     · exact .inl (by simp [hi, e])
     · exact .inr (by simpa [Res.add, Res.one, hi] using e)
end
end
section
/-- What a round's jump is. -/
def jc : Option Nat → Code
 | none => .ret
 | some id => .exit id
/-- A value that one may call as yield: on each element: on, or no more. -/
def YSpec (P : Program) {α : Type} (y : Value) (enc : α → List Value) (ok : List α → α → Prop) (J Jx : List α → HP) : Prop :=
 ∃ l, y = .func (.yield l) #[] #[] ∧ ∀ (pre : List α) (x : α), ok pre x → ∀ (w : World) (M : Kn) (h hf : Res), h.dj hf → Sat w M (h.add hf) → (J pre).at_ M h →
  ∃ fn tmps assign body, (Instr.yield l (enc x).toArray).run P w = .ok (.round l fn tmps assign body) w ∧
   RoundIn (WF none) 0 P l fn tmps assign body w (fun e w' => ∃ (b : Bool) (M' : Kn) (h' : Res), e = .returned (.bool b) ∧ M.le M' ∧ h'.dj hf ∧ Sat w' M' (h'.add hf) ∧ (if b then J (pre ++ [x]) else Jx (pre ++ [x])).at_ M' h')
/-- What one has behind a walk: it went to its end, or was stopped. -/
def endsAt {α : Type} (J Jx : List α → HP) (all : List α) : Option (List α) → HP
 | none => J all
 | some pre => Jx pre
/-- What a function value does when it is ranged over. -/
def Iter (P : Program) {α : Type} (g : Nat) (lb : List Value) (enc : α → List Value) (ok : List α → α → Prop) (stopped : List α → Prop) (As Bs : List HP) (all : List α) (val : Option (List α) → Value) : Prop :=
 ∀ (y : Value) (J Jx : List α → HP), YSpec P y enc ok J Jx → Sp P g (y :: lb) (J [] :: As) (X := Option (List α)) val (fun x => ∀ pre, x = some pre → stopped pre) (fun x => endsAt J Jx all x :: Bs)
/-- The same, where the order is drawn on the way: what is known of it behind the walk. -/
def IterU (P : Program) {α : Type} (g : Nat) (lb : List Value) (enc : α → List Value) (ok : List α → α → Prop) (stopped : List α → Prop) (As Bs : List HP) (fin : List α → Prop) (val : Option (List α) → Value) : Prop :=
 ∀ (y : Value) (J Jx : List α → HP), YSpec P y enc ok J Jx → Sp P g (y :: lb) (J [] :: As) (X := Option (List α) × List α) (fun x => val x.1) (fun x => (∀ pre, x.1 = some pre → stopped pre) ∧ (x.1 = none → fin x.2)) (fun x => endsAt J Jx x.2 x.1 :: Bs)
theorem Iter.toU {P : Program} {α : Type} {g : Nat} {lb : List Value} {enc : α → List Value} {ok : List α → α → Prop} {stopped : List α → Prop} {As Bs : List HP} {all : List α} {val : Option (List α) → Value}
    (it : Iter P g lb enc ok stopped As Bs all val) : IterU P g lb enc ok stopped As Bs (fun l => l = all) val :=
 fun y J Jx ys => (it y J Jx ys).mono (Ent.refl _) fun x hx => ⟨(x, all), rfl, ⟨hx, fun _ => rfl⟩, Ent.refl _⟩
def bindL : List Tmp → List Value → Loc → Loc
 | p :: ps, v :: vs, L => bindL ps vs ((p, v) :: L)
 | _, _, L => L
/-- The ways out of a round. -/
def roundO {α : Type} (I : List α → List HP) (Ix : Option Nat → List α → List HP) (xs : List α) : Out
 | .normal => fun _ M h => SL (I xs) M h
 | .ret => fun _ M h => SL (Ix none xs) M h
 | .exit id => fun _ M h => SL (Ix (some id) xs) M h
 | _ => fun _ _ _ => False
def asgO (r : Option Nat) (P : Program) (y : Code) (Q : Out) : Out := thenO (wout r P y Q) (fun _ _ _ _ => False)
section
variable {r : Option Nat} {P : Program} {n : Nat} {ops : Array Oper} {os : List Oper} {A : List HP} {L : Loc} {Hs : List HP} {Q : Out} {ty : TypeId} {d : Nat} {pos : String} {after : Array Edge} {c : Code}
theorem q_asg {y : Code} (h : wc r P n y L Hs Q) : wo r P n ops [] L Hs (asgO r P y Q) := wo_nil (to_then h)
theorem to_round {α : Type} {I : List α → List HP} {Ix : Option Nat → List α → List HP} {xs : List α} (e : Ent Hs (I xs)) : tw n (roundO I Ix xs) .normal L Hs := by
 rintro a M h ⟨_, h1, h2, d, e', _, s⟩
 subst e'
 exact SL.more d (e s)
theorem to_round_ret {α : Type} {I : List α → List HP} {Ix : Option Nat → List α → List HP} {xs : List α} (e : Ent Hs (Ix none xs)) : tw n (roundO I Ix xs) .ret L Hs := by
 rintro a M h ⟨_, h1, h2, d, e', _, s⟩
 subst e'
 exact SL.more d (e s)
theorem to_round_exit {α : Type} {I : List α → List HP} {Ix : Option Nat → List α → List HP} {xs : List α} (id : Nat) (e : Ent Hs (Ix (some id) xs)) : tw n (roundO I Ix xs) (.exit id) L Hs := by
 rintro a M h ⟨_, h1, h2, d, e', _, s⟩
 subst e'
 exact SL.more d (e s)
theorem fr_bind : ∀ (ps : List Tmp) (vs : List Value) {L : Loc} {t : Array Value}, (∀ p ∈ ps, p < n) → (n ≤ t.size ∧ ∀ i v, lk L i = some v → t[i]? = some v) →
    (n ≤ ((ps.zip vs).foldl (fun t (p, v) => t.setIfInBounds p v) t).size ∧ ∀ i v, lk (bindL ps vs L) i = some v → ((ps.zip vs).foldl (fun t (p, v) => t.setIfInBounds p v) t)[i]? = some v) := by
 intro ps
 induction ps with
 | nil => intro vs L t _ h; simpa [bindL] using h
 | cons p ps ih =>
   intro vs L t hp h
   cases vs with
   | nil => simpa [bindL] using h
   | cons v vs =>
     simp only [bindL, List.zip_cons_cons, List.foldl_cons]
     refine ih vs (fun q hq => hp q (by simp [hq])) ?_
     have f : Fr n L { tmps := t, defers := [] } := h
     have := f.put (d := p) (v := v) (by simpa using hp p (by simp))
     simpa [Fr, Act.put] using this
/-- for .. := range f { .. } -/
theorem wc_rangeFunc {α : Type} {f : Operand} {ps : Array Tmp} {assign body : Code} {g : Nat} {lb : List Value} {enc : α → List Value} {ok : List α → α → Prop} {stopped : List α → Prop} {As Bs : List HP} {fin : List α → Prop} {val : Option (List α) → Value}
    (I : List α → List HP) (Ix : Option Nat → List α → List HP)
    (hf : ev L f = some (.func (.func g) #[] lb.toArray))
    (it : IterU P g lb enc ok stopped As Bs fin val)
    (hps : ∀ x, (enc x).length = ps.size) (hpn : ps.toList.all (fun p => Nat.blt p n) = true)
    (ha : Ent Hs (I [] ++ As))
    (round : ∀ (l : Nat) (pre : List α) (x : α), ok pre x → wc (some l) P n assign (bindL ps.toList (enc x) L) (I pre) (asgO (some l) P body (roundO I Ix (pre ++ [x]))))
    (done : ∀ all, fin all → tw n Q .normal L (I all ++ Bs))
    (stop : ∀ (j : Option Nat) (pre : List α), stopped pre → wc none P n (jc j) L (Ix j pre ++ Bs) Q) :
    wc none P n (.rangeFunc f ps assign body) L Hs Q := by
 intro a M h st w hfr dj t
 obtain ⟨fr, g1, g2, dg, e, sd, s2⟩ := st
 subst e
 obtain ⟨kI, kA, dIA, e, sI, sA⟩ := SL.split (ha s2)
 subst e
 refine wpIn_rangeFunc ?_
 intro fn hfn
 obtain ⟨rec, hrec⟩ : ∃ rec : LoopState → Option Code → Loop, rec = fun st pe => { state := st, pending := pe, fn, tmps := a.tmps, params := ps, assign, body, defers := w.heap.size } := ⟨_, rfl⟩
 obtain ⟨W1, hW1⟩ : ∃ W1, (w.alloc (.deferred (some []))).alloc (.loop (rec .ready none)) = W1 := ⟨_, rfl⟩
 have hsz : (w.alloc (.deferred (some []))).heap.size = w.heap.size + 1 := by simp
 have tD := t.alloc (.deferred (some []))
 have tL := tD.alloc (.loop (rec .ready none))
 obtain ⟨_, f1⟩ := fresh_none t
 obtain ⟨_, f2⟩ := fresh_none tD
 rw [hsz] at tL f2
 rw [hW1] at tL
 refine ⟨w.heap.size + 1, [{ target := .collected w.heap.size, args := #[] }], W1, { target := .fn (.func g) lb.toArray, args := #[.func (.yield (w.heap.size + 1)) #[] #[]] }, W1, g,
  #[.func (.yield (w.heap.size + 1)) #[] #[]] ++ lb.toArray, W1, ?_, ?_, fun _ _ => trivial, ?_, (fun e => by cases e), ?_⟩
 · rw [← hW1, hrec]; exact run_enterLoop_outer _ _ _ _ _
 · simp only [resolve, rangeCall]
   rw [fr.ev hf]
   simp [go_sem]
 · have := (it (.func (.yield (w.heap.size + 1)) #[] #[]) (fun _ => ⟨fun _ _ => False, fun _ e => e⟩) (fun _ => ⟨fun _ _ => False, fun _ e => e⟩) ⟨_, rfl, fun _ _ _ _ _ _ _ _ _ e => e.elim⟩).enters
   simp [invoke, go_sem]
   exact this _ _
 ·
  have ys : YSpec P (.func (.yield (w.heap.size + 1)) #[] #[]) enc ok (fun pre => Al (Blk (w.heap.size + 1) (.loop (rec .ready none)) :: I pre))
      (fun pre => Ex fun j : Option Nat => Al (Blk (w.heap.size + 1) (.loop (rec .done (some (jc j)))) :: Ix j pre)) := by
   refine ⟨_, rfl, fun pre x hok w' M' h' hf' dj' t' hj => ?_⟩
   obtain ⟨p1, p2, dp, e, hp1, sp2⟩ := hj
   have hp1' : p1 = Res.one _ _ := hp1
   subst hp1'
   subst e
   have hl : w'.heap[w.heap.size + 1]? = some (.loop (rec .ready none)) := t'.ow _ _ (by simp [Res.add, Res.one])
   have hy := run_yield (P := P) (args := (enc x).toArray) hl (by rw [hrec]; simpa using hps x)
   refine ⟨_, _, _, _, hy, roundIn_of_wpIn (F := WF none) trivial ?_⟩
   have e1 : (rec .ready none).assign = assign := by rw [hrec]
   have e2 : (rec .ready none).body = body := by rw [hrec]
   have e3 : (rec .ready none).tmps = a.tmps := by rw [hrec]
   have e4 : (rec .ready none).params = ps := by rw [hrec]
   rw [e1, e2, e3, e4]
   obtain ⟨dj1, dj2⟩ := Res.dj_add_left.1 dj'
   have hfold : (ps.zip (enc x).toArray).foldl (fun t (p, v) => t.setIfInBounds p v) a.tmps = (ps.toList.zip (enc x)).foldl (fun t (p, v) => t.setIfInBounds p v) a.tmps := by
    rw [← Array.foldl_toList]; simp
   rw [hfold]
   have hfr : Fr n (bindL ps.toList (enc x) L) { tmps := (ps.toList.zip (enc x)).foldl (fun t (p, v) => t.setIfInBounds p v) a.tmps, defers := [] } :=
    fr_bind ps.toList (enc x) (fun p hp => by have := List.all_eq_true.1 hpn p hp; simpa using this) fr
   have d2 : p2.dj ((Res.one (w.heap.size + 1) (.loop (rec .ready none))).add hf') := Res.dj_add_right.2 ⟨Res.dj_comm dp, dj2⟩
   have t2 : Sat w' M' (p2.add ((Res.one (w.heap.size + 1) (.loop (rec .ready none))).add hf')) := by
    rw [← Res.add_assoc, ← Res.add_comm dp]; exact t'
   have hw := round (w.heap.size + 1) pre x hok _ M' p2 ⟨hfr, Res.emp, p2, Res.emp_dj _, rfl, trivial, sp2⟩ w' _ d2 t2
   refine wpIn_mono (F := WF (some (w.heap.size + 1))) hw ?_
   rintro ex a1 w1 ⟨M1, h1, le1, dj3, t3, q1⟩
   cases ex with
   | normal =>
     have q1' : wout (some (w.heap.size + 1)) P body (roundO I Ix (pre ++ [x])) a1 M1 h1 := q1
     obtain ⟨y1, y2⟩ := Res.dj_add_right.1 dj3
     have hb : w1.heap[w.heap.size + 1]? = some (.loop (rec .ready none)) := t3.ow _ _ (Res.le_add_right dj3 _ _ (by simp [Res.add, Res.one]))
     refine ⟨_, run_beginRound hb (by rw [hrec]), ?_⟩
     have dA : (Res.one (w.heap.size + 1) (.loop (rec .ready none))).dj (h1.add hf') := Res.dj_add_right.2 ⟨Res.dj_comm y1, dj1⟩
     have hcomm : ∀ o : Obj, h1.dj (Res.one (w.heap.size + 1) o) → h1.add ((Res.one (w.heap.size + 1) o).add hf') = (Res.one (w.heap.size + 1) o).add (h1.add hf') := fun o dd => by
      rw [← Res.add_assoc, Res.add_comm dd, Res.add_assoc]
     rw [hcomm _ y1] at t3
     have t4 := Sat.putObj (o' := .loop { rec .ready none with state := .busy }) dA t3
     have dB : (Res.one (w.heap.size + 1) (.loop { rec .ready none with state := .busy })).dj (h1.add hf') := dj_one_any dA
     have dB1 := (Res.dj_add_right.1 dB).1
     rw [← hcomm _ (Res.dj_comm dB1)] at t4
     refine wpIn_mono (F := WF (some (w.heap.size + 1))) (q1' _ _ (Res.dj_add_right.2 ⟨Res.dj_comm dB1, y2⟩) t4) ?_
     have fin : ∀ (jump : Option Code) (M2 : Kn) (h2 : Res) (w2 : World), M1.le M2 → h2.dj ((Res.one (w.heap.size + 1) (.loop { rec .ready none with state := .busy })).add hf') → Sat w2 M2 (h2.add ((Res.one (w.heap.size + 1) (.loop { rec .ready none with state := .busy })).add hf')) →
         ∃ w3, (Instr.endRound (w.heap.size + 1) jump).run P w2 = .ok (.bool jump.isNone) w3 ∧ (Res.one (w.heap.size + 1) (.loop (rec (if jump.isNone then .ready else .done) jump))).dj h2 ∧
          ((Res.one (w.heap.size + 1) (.loop (rec (if jump.isNone then .ready else .done) jump))).add h2).dj hf' ∧ Sat w3 M2 (((Res.one (w.heap.size + 1) (.loop (rec (if jump.isNone then .ready else .done) jump))).add h2).add hf') := by
      intro jump M2 h2 w2 le2 dj5 t5
      have hb2 : w2.heap[w.heap.size + 1]? = some (.loop { rec .ready none with state := .busy }) := t5.ow _ _ (Res.le_add_right dj5 _ _ (by simp [Res.add, Res.one]))
      have hr := run_endRound (P := P) jump hb2
      obtain ⟨z1, z2⟩ := Res.dj_add_right.1 dj5
      have eqq : h2.add ((Res.one (w.heap.size + 1) (.loop { rec .ready none with state := .busy })).add hf') = (Res.one (w.heap.size + 1) (.loop { rec .ready none with state := .busy })).add (h2.add hf') := by
       rw [← Res.add_assoc, Res.add_comm z1, Res.add_assoc]
      rw [eqq] at t5
      have dC : (Res.one (w.heap.size + 1) (.loop { rec .ready none with state := .busy })).dj (h2.add hf') := Res.dj_add_right.2 ⟨Res.dj_comm z1, dj_one_any dj1⟩
      have t6 := Sat.putObj (o' := .loop (rec (if jump.isNone then .ready else .done) jump)) dC t5
      have dD : (Res.one (w.heap.size + 1) (.loop (rec (if jump.isNone then .ready else .done) jump))).dj (h2.add hf') := dj_one_any dC
      obtain ⟨v1, v2⟩ := Res.dj_add_right.1 dD
      refine ⟨_, ?_, v1, Res.dj_add_left.2 ⟨v2, z2⟩, by rw [Res.add_assoc]; exact t6⟩
      rw [hr, hrec]
     rintro e2 a2 w2 ⟨M2, h2, le2, dj5, t5, q2⟩
     cases e2 with
     | normal =>
       obtain ⟨w3, r1, r2, r3, r4⟩ := fin none M2 h2 w2 le2 dj5 t5
       exact ⟨_, w3, r1, true, M2, _, rfl, Kn.le_trans le1 le2, r3, r4, _, _, r2, rfl, rfl, q2⟩
     | ret =>
       obtain ⟨w3, r1, r2, r3, r4⟩ := fin (some .ret) M2 h2 w2 le2 dj5 t5
       exact ⟨_, w3, r1, false, M2, _, rfl, Kn.le_trans le1 le2, r3, r4, none, _, _, r2, rfl, rfl, q2⟩
     | exit id =>
       obtain ⟨w3, r1, r2, r3, r4⟩ := fin (some (.exit id)) M2 h2 w2 le2 dj5 t5
       exact ⟨_, w3, r1, false, M2, _, rfl, Kn.le_trans le1 le2, r3, r4, some id, _, _, r2, rfl, rfl, q2⟩
     | goto _ => exact q2.elim
     | panic _ => exact q2.elim
     | outgrown => exact q2.elim
   | ret => exact q1.elim
   | exit _ => exact q1.elim
   | goto _ => exact q1.elim
   | panic _ => exact q1.elim
   | outgrown => exact q1.elim
  have sp := it _ _ _ ys
  -- resources
  obtain ⟨dg1, dg2⟩ := Res.dj_add_right.1 dg
  obtain ⟨q1, q2⟩ := Res.dj_add_left.1 dj
  obtain ⟨q3, q4⟩ := Res.dj_add_left.1 q2
  let D : Res := Res.one w.heap.size (.deferred (some []))
  let Lp : Res := Res.one (w.heap.size + 1) (.loop (rec .ready none))
  have dLp : Lp.dj (D.add ((g1.add (kI.add kA)).add hfr)) := one_dj f2
  have dD : D.dj ((g1.add (kI.add kA)).add hfr) := one_dj f1
  obtain ⟨a1, a2⟩ := Res.dj_add_right.1 dLp
  obtain ⟨a3, a4⟩ := Res.dj_add_right.1 a2
  obtain ⟨a5, a6⟩ := Res.dj_add_right.1 a3
  obtain ⟨a7, a8⟩ := Res.dj_add_right.1 a6
  obtain ⟨b3, b4⟩ := Res.dj_add_right.1 dD
  obtain ⟨b5, b6⟩ := Res.dj_add_right.1 b3
  obtain ⟨b7, b8⟩ := Res.dj_add_right.1 b6
  have eqr : Lp.add (D.add ((g1.add (kI.add kA)).add hfr)) = ((Lp.add kI).add kA).add ((D.add g1).add hfr) := by
   funext i
   simp only [Res.add]
   have c1 := b7 i; have c2 := b8 i; have c3 := b5 i; have c4 := dg1 i; have c5 := dg2 i
   revert c1 c2 c3 c4 c5
   cases Lp i <;> cases D i <;> cases g1 i <;> cases kI i <;> cases kA i <;> simp
  have tL' : Sat W1 M (((Lp.add kI).add kA).add ((D.add g1).add hfr)) := by rw [← eqr]; exact tL
  have djr : ((Lp.add kI).add kA).dj ((D.add g1).add hfr) := by
   refine Res.dj_add_left.2 ⟨Res.dj_add_left.2 ⟨?_, ?_⟩, ?_⟩
   · exact Res.dj_add_right.2 ⟨Res.dj_add_right.2 ⟨a1, a5⟩, a4⟩
   · exact Res.dj_add_right.2 ⟨Res.dj_add_right.2 ⟨Res.dj_comm b7, Res.dj_comm dg1⟩, q3⟩
   · exact Res.dj_add_right.2 ⟨Res.dj_add_right.2 ⟨Res.dj_comm b8, Res.dj_comm dg2⟩, q4⟩
  have cc := sp.calls W1 M ((Lp.add kI).add kA) ((D.add g1).add hfr) djr tL' ⟨Lp.add kI, kA, Res.dj_add_left.2 ⟨a8, dIA⟩, rfl, ⟨Lp, kI, a7, rfl, rfl, sI⟩, sA⟩
  have hargs : (Value.func (.yield (w.heap.size + 1)) #[] #[] :: lb).toArray = #[.func (.yield (w.heap.size + 1)) #[] #[]] ++ lb.toArray := by simp
  rw [hargs] at cc
  refine CallsIn.mono (F := WF none) cc ?_
  rintro ee w3 ⟨x, M3, h3, rfl, hx, le3, dj3, t3, s3⟩
  have stN : ∀ (o : Obj) (Gs : List HP) (m : Res), (Res.one (w.heap.size + 1) o).dj m → ((Res.one (w.heap.size + 1) o).add m).dj ((D.add g1).add hfr) → Sat w3 M3 (((Res.one (w.heap.size + 1) o).add m).add ((D.add g1).add hfr)) → SL Gs M3 m → ∀ o' : Obj,
      St n L Gs { a with defers := [{ target := .collected w.heap.size, args := #[] }] ++ a.defers } M3 ((D.add g1).add m) ∧ ((D.add g1).add m).dj hfr ∧ Sat (w3.putObj (w.heap.size + 1) o') M3 (((D.add g1).add m).add hfr) := by
   intro o Gs m dom djm tm sm o'
   obtain ⟨u1, u2⟩ := Res.dj_add_left.1 djm
   obtain ⟨u3, u4⟩ := Res.dj_add_right.1 u2
   obtain ⟨u5, u6⟩ := Res.dj_add_right.1 u3
   obtain ⟨u7, u8⟩ := Res.dj_add_right.1 u1
   refine ⟨⟨fr, D.add g1, m, Res.dj_comm u3, rfl, ?_, sm⟩, Res.dj_add_left.2 ⟨Res.dj_add_left.2 ⟨b4, q1⟩, u4⟩, ?_⟩
   · refine ⟨D, g1, b5, rfl, ⟨w.heap.size, Res.emp, D, Res.emp_dj _, rfl, rfl, D, Res.emp, Res.dj_emp _, (Res.add_emp _).symm, rfl, trivial⟩, SL.mono le3 sd⟩
   · rw [Res.add_assoc] at tm
     have dX : (Res.one (w.heap.size + 1) o).dj (m.add ((D.add g1).add hfr)) := Res.dj_add_right.2 ⟨dom, u1⟩
     have t7 := Sat.putObj (o' := o') dX tm
     have eq7 : m.add ((D.add g1).add hfr) = ((D.add g1).add m).add hfr := by rw [← Res.add_assoc, Res.add_comm u3]
     rw [eq7] at t7
     exact t7.le (Res.le_add_right (by rw [← eq7]; exact dj_one_any dX))
  obtain ⟨x, all⟩ := x
  obtain ⟨hx, hfin⟩ := hx
  dsimp only at hx hfin s3 ⊢
  obtain ⟨m1, m2, dm, e, sm1, sm2⟩ := s3
  subst e
  cases x with
  | none =>
    obtain ⟨o1, o2, do12, e, ho1, so2⟩ := sm1
    have ho1' : o1 = Res.one _ _ := ho1
    subst ho1'
    subst e
    have hb : w3.heap[w.heap.size + 1]? = some (.loop (rec .ready none)) := t3.ow _ _ (by simp [Res.add, Res.one])
    refine ⟨none, _, by have := run_endLoop (P := P) hb (by rw [hrec]; simp); rw [hrec] at this; exact this, ?_⟩
    obtain ⟨v1, v2⟩ := Res.dj_add_left.1 dm
    rw [Res.add_assoc (Res.one _ _) o2 m2] at t3 dj3
    obtain ⟨w1, w2, w4⟩ := stN _ (I all ++ Bs) (o2.add m2) (Res.dj_add_right.2 ⟨do12, v1⟩) dj3 t3 (SL.append v2 so2 sm2) (.loop { rec .ready none with state := .exhausted })
    have := done all (hfin rfl) _ M3 _ w1
    rw [hrec] at w4
    exact ⟨M3, _, le3, w2, w4, this⟩
  | some pre =>
    obtain ⟨j, o1, o2, do12, e, ho1, so2⟩ := sm1
    have ho1' : o1 = Res.one _ _ := ho1
    subst ho1'
    subst e
    have hb : w3.heap[w.heap.size + 1]? = some (.loop (rec .done (some (jc j)))) := t3.ow _ _ (by simp [Res.add, Res.one])
    refine ⟨some (jc j), _, by have := run_endLoop (P := P) hb (by rw [hrec]; simp); rw [hrec] at this; exact this, ?_⟩
    obtain ⟨v1, v2⟩ := Res.dj_add_left.1 dm
    rw [Res.add_assoc (Res.one _ _) o2 m2] at t3 dj3
    obtain ⟨w1, w2, w4⟩ := stN _ (Ix j pre ++ Bs) (o2.add m2) (Res.dj_add_right.2 ⟨do12, v1⟩) dj3 t3 (SL.append v2 so2 sm2) (.loop { rec .done (some (jc j)) with state := .exhausted })
    rw [hrec] at w4
    exact wpIn_mono (stop j pre (hx pre rfl) _ M3 _ w1 _ _ w2 w4) (fun _ _ _ q => lift_le le3 q)
theorem p_rangeFunc {α : Type} {g : Nat} {lb : List Value} {enc : α → List Value} {ok : List α → α → Prop} {stopped : List α → Prop} {As Bs : List HP} {all : List α} {val : Option (List α) → Value}
    (I : List α → List HP) (Ix : Option Nat → List α → List HP) (hc : c = .rangeFunc (rF c) (rP c) (rA c) (rB c))
    (it : Iter P g lb enc ok stopped As Bs all val)
    (hf : ev L (rF c) = some (.func (.func g) #[] lb.toArray))
    (hps : ∀ x, (enc x).length = (rP c).size) (hpn : (rP c).toList.all (fun p => Nat.blt p n) = true)
    (ha : Ent Hs (I [] ++ As))
    (round : ∀ (l : Nat) (pre : List α) (x : α), ok pre x → wc (some l) P n (rA c) (bindL (rP c).toList (enc x) L) (I pre) (asgO (some l) P (rB c) (roundO I Ix (pre ++ [x]))))
    (done : tw n Q .normal L (I all ++ Bs))
    (stop : ∀ (j : Option Nat) (pre : List α), stopped pre → wc none P n (jc j) L (Ix j pre ++ Bs) Q) : wc none P n c L Hs Q := by
 rw [hc]; exact wc_rangeFunc I Ix hf it.toU hps hpn ha round (fun l e => by subst e; exact done) stop
theorem p_rangeFuncU {α : Type} {g : Nat} {lb : List Value} {enc : α → List Value} {ok : List α → α → Prop} {stopped : List α → Prop} {As Bs : List HP} {fin : List α → Prop} {val : Option (List α) → Value}
    (I : List α → List HP) (Ix : Option Nat → List α → List HP) (hc : c = .rangeFunc (rF c) (rP c) (rA c) (rB c))
    (it : IterU P g lb enc ok stopped As Bs fin val)
    (hf : ev L (rF c) = some (.func (.func g) #[] lb.toArray))
    (hps : ∀ x, (enc x).length = (rP c).size) (hpn : (rP c).toList.all (fun p => Nat.blt p n) = true)
    (ha : Ent Hs (I [] ++ As))
    (round : ∀ (l : Nat) (pre : List α) (x : α), ok pre x → wc (some l) P n (rA c) (bindL (rP c).toList (enc x) L) (I pre) (asgO (some l) P (rB c) (roundO I Ix (pre ++ [x]))))
    (done : ∀ all, fin all → tw n Q .normal L (I all ++ Bs))
    (stop : ∀ (j : Option Nat) (pre : List α), stopped pre → wc none P n (jc j) L (Ix j pre ++ Bs) Q) : wc none P n c L Hs Q := by
 rw [hc]; exact wc_rangeFunc I Ix hf it hps hpn ha round done stop
/-- A call of yield. -/
theorem opt_yield {α : Type} {y : Value} {enc : α → List Value} {ok : List α → α → Prop} {J Jx : List α → HP} (ys : YSpec P y enc ok J Jx) (pre : List α) (x : α) (hok : ok pre x) {dst : Option Tmp} {f : Operand} {args : Array Operand} {ts : Array TypeId} (hf : ev L f = some y) (ha : evs L args.toList = some (enc x)) :
    OpT r P n ⟨dst, .call ⟨.value f, args, ts⟩, ty, pos, after, none⟩ A L [J pre] (fun b : Bool => .bool b) (fun _ => True) (fun b => [if b then J (pre ++ [x]) else Jx (pre ++ [x])]) := by
 intro a fr w M h hA hfr dj dj' s sA t
 obtain ⟨l, rfl, hy⟩ := ys
 obtain ⟨k1, k2, dk, e, hj, _⟩ := s
 subst e
 obtain ⟨x1, x2⟩ := Res.dj_add_left.1 dj'
 obtain ⟨x3, x4⟩ := Res.dj_add_left.1 x1
 obtain ⟨y1, y2⟩ := Res.dj_add_left.1 dj
 have t2 : Sat w M (k1.add ((k2.add hA).add hfr)) := by
  have : ((k1.add k2).add hA).add hfr = k1.add ((k2.add hA).add hfr) := by simp only [Res.add_assoc]
  rw [← this]; exact t
 obtain ⟨fn, tmps, assign, body, h1, h2⟩ := hy pre x hok w M k1 ((k2.add hA).add hfr) (Res.dj_add_right.2 ⟨Res.dj_add_right.2 ⟨dk, y1⟩, x3⟩) t2 hj
 have hargs : args.map a.eval = (enc x).toArray := by
  have := fr.evs _ ha
  apply Array.ext'
  simp [this]
 have hrun : (execOp a.eval ⟨dst, .call ⟨.value f, args, ts⟩, ty, pos, after, none⟩).run P w = .ok (.round l fn tmps assign body) w := by
  simp only [execOp, resolve, fr.ev hf, Deferred.ofValue, hargs, Sem.run_bind, Sem.run_pure, Result.andThen_ok, invoke]
  simp [go_sem, h1]
 rw [hrun]
 refine RoundIn.mono (F := WF none) h2 ?_
 rintro e w' ⟨b, M', h', rfl, le, dj3, t3, hb⟩
 obtain ⟨z1, z2⟩ := Res.dj_add_right.1 dj3
 obtain ⟨z3, z4⟩ := Res.dj_add_right.1 z1
 refine ⟨_, rfl, b, M', h', rfl, trivial, le, z4, Res.dj_add_left.2 ⟨z2, x2⟩, ?_, h', Res.emp, Res.dj_emp _, (Res.add_emp _).symm, hb, trivial⟩
 refine t3.le ?_
 intro i o e
 have e1 : ((h'.add hA).add hfr) i = some o := e
 simp only [Res.add] at e1 ⊢
 cases c1 : h' i with
 | some u => rw [c1] at e1; simpa using e1
 | none =>
   rw [c1] at e1
   cases c2 : hA i with
   | some u =>
     rw [c2] at e1
     have := y2 i
     rw [c2] at this
     simp at this
     simp [this]; simpa using e1
   | none =>
     rw [c2] at e1
     have := x4 i
     simp at e1
     rw [e1] at this
     simp at this
     simp [this, e1]
theorem r_yield {α : Type} {y : Value} {enc : α → List Value} {ok : List α → α → Prop} {J Jx : List α → HP} (ys : YSpec P y enc ok J Jx) (pre : List α) (x : α) (hok : ok pre x) {f : Operand} {args : Array Operand} {ts : Array TypeId} (hf : ev L f = some y) (ha : evs L args.toList = some (enc x)) (hd : Nat.blt d n = true)
    {Rs : List HP} [hp : PickC (J pre) Hs Rs] (kt : wo r P n ops os ((d, .bool true) :: L) (J (pre ++ [x]) :: Rs) Q) (kf : wo r P n ops os ((d, .bool false) :: L) (Jx (pre ++ [x]) :: Rs) Q) :
    wo r P n ops (⟨some d, .call ⟨.value f, args, ts⟩, ty, pos, after, none⟩ :: os) L Hs Q := by
 haveI : PicksC [J pre] Hs Rs := ⟨.cons hp.get .nil⟩
 refine wo_opT (by intro c; simp) (opt_yield ys pre x hok hf ha) (by simpa [dstOk] using hd) (fun b _ => ?_)
 cases b
 · exact kf
 · exact kt
end
end
theorem ti3 : Tryz.prog.info? 3 = some Tryz.t3 := by kernel_rfl
instance ui3 : UndC Tryz.prog 3 Tryz.t3.desc := ⟨Tryz.underlying3⟩
instance ii3 : InfC Tryz.prog 3 Tryz.t3 := ⟨ti3⟩
theorem ti4 : Tryz.prog.info? 4 = some Tryz.t4 := by kernel_rfl
instance ui4 : UndC Tryz.prog 4 Tryz.t4.desc := ⟨Tryz.underlying4⟩
instance ii4 : InfC Tryz.prog 4 Tryz.t4 := ⟨ti4⟩
theorem ti5 : Tryz.prog.info? 5 = some Tryz.t5 := by kernel_rfl
instance ui5 : UndC Tryz.prog 5 Tryz.t5.desc := ⟨Tryz.underlying5⟩
instance ii5 : InfC Tryz.prog 5 Tryz.t5 := ⟨ti5⟩
theorem ti9 : Tryz.prog.info? 9 = some Tryz.t9 := by kernel_rfl
instance ui9 : UndC Tryz.prog 9 Tryz.t9.desc := ⟨Tryz.underlying9⟩
instance ii9 : InfC Tryz.prog 9 Tryz.t9 := ⟨ti9⟩
theorem ti20 : Tryz.prog.info? 20 = some Tryz.t20 := by kernel_rfl
instance ui20 : UndC Tryz.prog 20 Tryz.t20.desc := ⟨Tryz.underlying20⟩
instance ii20 : InfC Tryz.prog 20 Tryz.t20 := ⟨ti20⟩
theorem ti27 : Tryz.prog.info? 27 = some Tryz.t27 := by kernel_rfl
instance ui27 : UndC Tryz.prog 27 Tryz.t27.desc := ⟨Tryz.underlying27⟩
instance ii27 : InfC Tryz.prog 27 Tryz.t27 := ⟨ti27⟩
theorem ti33 : Tryz.prog.info? 33 = some Tryz.t33 := by kernel_rfl
instance ui33 : UndC Tryz.prog 33 Tryz.t32.desc := ⟨Tryz.underlying33⟩
instance ii33 : InfC Tryz.prog 33 Tryz.t33 := ⟨ti33⟩
theorem ti70 : Tryz.prog.info? 70 = some Tryz.t70 := by kernel_rfl
instance ui70 : UndC Tryz.prog 70 Tryz.t70.desc := ⟨Tryz.underlying70⟩
instance ii70 : InfC Tryz.prog 70 Tryz.t70 := ⟨ti70⟩
theorem ti72 : Tryz.prog.info? 72 = some Tryz.t72 := by kernel_rfl
instance ui72 : UndC Tryz.prog 72 Tryz.t72.desc := ⟨Tryz.underlying72⟩
instance ii72 : InfC Tryz.prog 72 Tryz.t72 := ⟨ti72⟩
theorem ti74 : Tryz.prog.info? 74 = some Tryz.t74 := by kernel_rfl
instance ui74 : UndC Tryz.prog 74 Tryz.t3.desc := ⟨Tryz.underlying74⟩
instance ii74 : InfC Tryz.prog 74 Tryz.t74 := ⟨ti74⟩
theorem ti77 : Tryz.prog.info? 77 = some Tryz.t77 := by kernel_rfl
instance ui77 : UndC Tryz.prog 77 Tryz.t76.desc := ⟨Tryz.underlying77⟩
instance ii77 : InfC Tryz.prog 77 Tryz.t77 := ⟨ti77⟩
theorem ti81 : Tryz.prog.info? 81 = some Tryz.t81 := by kernel_rfl
instance ui81 : UndC Tryz.prog 81 Tryz.t81.desc := ⟨Tryz.underlying81⟩
instance ii81 : InfC Tryz.prog 81 Tryz.t81 := ⟨ti81⟩
theorem ti89 : Tryz.prog.info? 89 = some Tryz.t89 := by kernel_rfl
instance ui89 : UndC Tryz.prog 89 Tryz.t89.desc := ⟨Tryz.underlying89⟩
instance ii89 : InfC Tryz.prog 89 Tryz.t89 := ⟨ti89⟩
theorem ti93 : Tryz.prog.info? 93 = some Tryz.t93 := by kernel_rfl
instance ui93 : UndC Tryz.prog 93 Tryz.t93.desc := ⟨Tryz.underlying93⟩
instance ii93 : InfC Tryz.prog 93 Tryz.t93 := ⟨ti93⟩
theorem ti102 : Tryz.prog.info? 102 = some Tryz.t102 := by kernel_rfl
instance ui102 : UndC Tryz.prog 102 Tryz.t102.desc := ⟨Tryz.underlying102⟩
instance ii102 : InfC Tryz.prog 102 Tryz.t102 := ⟨ti102⟩
theorem ti103 : Tryz.prog.info? 103 = some Tryz.t103 := by kernel_rfl
instance ui103 : UndC Tryz.prog 103 Tryz.t103.desc := ⟨Tryz.underlying103⟩
instance ii103 : InfC Tryz.prog 103 Tryz.t103 := ⟨ti103⟩
theorem ti104 : Tryz.prog.info? 104 = some Tryz.t104 := by kernel_rfl
instance ui104 : UndC Tryz.prog 104 Tryz.t104.desc := ⟨Tryz.underlying104⟩
instance ii104 : InfC Tryz.prog 104 Tryz.t104 := ⟨ti104⟩
theorem ti105 : Tryz.prog.info? 105 = some Tryz.t105 := by kernel_rfl
instance ui105 : UndC Tryz.prog 105 Tryz.t105.desc := ⟨Tryz.underlying105⟩
instance ii105 : InfC Tryz.prog 105 Tryz.t105 := ⟨ti105⟩
theorem ti112 : Tryz.prog.info? 112 = some Tryz.t112 := by kernel_rfl
instance ui112 : UndC Tryz.prog 112 Tryz.t112.desc := ⟨Tryz.underlying112⟩
instance ii112 : InfC Tryz.prog 112 Tryz.t112 := ⟨ti112⟩
theorem ti145 : Tryz.prog.info? 145 = some Tryz.t145 := by kernel_rfl
instance ui145 : UndC Tryz.prog 145 Tryz.t144.desc := ⟨Tryz.underlying145⟩
instance ii145 : InfC Tryz.prog 145 Tryz.t145 := ⟨ti145⟩
theorem ti146 : Tryz.prog.info? 146 = some Tryz.t146 := by kernel_rfl
instance ui146 : UndC Tryz.prog 146 Tryz.t146.desc := ⟨Tryz.underlying146⟩
instance ii146 : InfC Tryz.prog 146 Tryz.t146 := ⟨ti146⟩
theorem ti149 : Tryz.prog.info? 149 = some Tryz.t149 := by kernel_rfl
instance ui149 : UndC Tryz.prog 149 Tryz.t148.desc := ⟨Tryz.underlying149⟩
instance ii149 : InfC Tryz.prog 149 Tryz.t149 := ⟨ti149⟩
theorem ti156 : Tryz.prog.info? 156 = some Tryz.t156 := by kernel_rfl
instance ui156 : UndC Tryz.prog 156 Tryz.t156.desc := ⟨Tryz.underlying156⟩
instance ii156 : InfC Tryz.prog 156 Tryz.t156 := ⟨ti156⟩
theorem ti165 : Tryz.prog.info? 165 = some Tryz.t165 := by kernel_rfl
instance ui165 : UndC Tryz.prog 165 Tryz.t165.desc := ⟨Tryz.underlying165⟩
instance ii165 : InfC Tryz.prog 165 Tryz.t165 := ⟨ti165⟩
theorem ti172 : Tryz.prog.info? 172 = some Tryz.t172 := by kernel_rfl
instance ui172 : UndC Tryz.prog 172 Tryz.t172.desc := ⟨Tryz.underlying172⟩
instance ii172 : InfC Tryz.prog 172 Tryz.t172 := ⟨ti172⟩
theorem ti174 : Tryz.prog.info? 174 = some Tryz.t174 := by kernel_rfl
instance ui174 : UndC Tryz.prog 174 Tryz.t173.desc := ⟨Tryz.underlying174⟩
instance ii174 : InfC Tryz.prog 174 Tryz.t174 := ⟨ti174⟩
theorem ti191 : Tryz.prog.info? 191 = some Tryz.t191 := by kernel_rfl
instance ui191 : UndC Tryz.prog 191 Tryz.t190.desc := ⟨Tryz.underlying191⟩
instance ii191 : InfC Tryz.prog 191 Tryz.t191 := ⟨ti191⟩
theorem ti215 : Tryz.prog.info? 215 = some Tryz.t215 := by kernel_rfl
instance ui215 : UndC Tryz.prog 215 Tryz.t3.desc := ⟨Tryz.underlying215⟩
instance ii215 : InfC Tryz.prog 215 Tryz.t215 := ⟨ti215⟩
theorem ti224 : Tryz.prog.info? 224 = some Tryz.t224 := by kernel_rfl
instance ui224 : UndC Tryz.prog 224 Tryz.t224.desc := ⟨Tryz.underlying224⟩
instance ii224 : InfC Tryz.prog 224 Tryz.t224 := ⟨ti224⟩
theorem ti236 : Tryz.prog.info? 236 = some Tryz.t236 := by kernel_rfl
instance ui236 : UndC Tryz.prog 236 Tryz.t104.desc := ⟨Tryz.underlying236⟩
instance ii236 : InfC Tryz.prog 236 Tryz.t236 := ⟨ti236⟩
theorem ti240 : Tryz.prog.info? 240 = some Tryz.t240 := by kernel_rfl
instance ui240 : UndC Tryz.prog 240 Tryz.t240.desc := ⟨Tryz.underlying240⟩
instance ii240 : InfC Tryz.prog 240 Tryz.t240 := ⟨ti240⟩
theorem ti243 : Tryz.prog.info? 243 = some Tryz.t243 := by kernel_rfl
instance ui243 : UndC Tryz.prog 243 Tryz.t243.desc := ⟨Tryz.underlying243⟩
instance ii243 : InfC Tryz.prog 243 Tryz.t243 := ⟨ti243⟩
end Go.Proofs.YtibccdcemcgkeaaGreat
/- The library's contracts at this translation, printed by the kit's tools; remarks taken out. -/
namespace Go.Proofs
open Go.Shelf
def Tryz.lays125_ren : Go.Shelf.Ren := ⟨fun | 125 => 105 | 128 => 165 | 129 => 166 | n => n, fun | 46 => 105 | 3 => 3 | 51 => 102 | 53 => 104 | 4 => 4 | 5 => 5 | 9 => 9 | n => n, fun | n => n⟩
theorem Tryz.lays125 : Go.Proofs.Lays.n125 Tryz.prog Tryz.lays125_ren := {
 mixed := by kernel_rfl
 f125 := Tryz.func105.trans (congrArg some (by kernel_rfl))
 f128 := Tryz.func165.trans (congrArg some (by kernel_rfl))
 f129 := Tryz.func166.trans (congrArg some (by kernel_rfl))
 t3 := Tryz.underlying3
 a3 := Tryz.isAgg3
 z3 := Tryz.sizeOf3
 v3 := Tryz.zeroValue3
 t4 := Tryz.underlying4
 a4 := Tryz.isAgg4
 z4 := Tryz.sizeOf4
 v4 := Tryz.zeroValue4
 t5 := Tryz.underlying5
 a5 := Tryz.isAgg5
 z5 := Tryz.sizeOf5
 v5 := Tryz.zeroValue5
 t9 := Tryz.underlying9
 a9 := Tryz.isAgg9
 z9 := Tryz.sizeOf9
 v9 := Tryz.zeroValue9
 t46 := Tryz.underlying105
 a46 := Tryz.isAgg105
 z46 := Tryz.sizeOf105
 v46 := Tryz.zeroValue105
 t51 := Tryz.underlying102
 a51 := Tryz.isAgg102
 z51 := Tryz.sizeOf102
 v51 := Tryz.zeroValue102
 t53 := Tryz.underlying104
 a53 := Tryz.isAgg104
 z53 := Tryz.sizeOf104
 v53 := Tryz.zeroValue104 }
theorem Tryz.bits_Len (x : Int) (w : World) (h0 : 0 ≤ x) (h1 : x ≤ 18446744073709551615) :
    Calls Tryz.prog 105 #[.int .u64 x] w fun e w' => e = .returned (.int .i64 (Lib.bitLen x.toNat)) ∧ w' = w := Any.bits_Len Tryz.lays125 x w h0 h1
def Tryz.lays137_ren : Go.Shelf.Ren := ⟨fun | 137 => 147 | 217 => 185 | 266 => 204 | n => n, fun | 9 => 9 | 5 => 5 | 3 => 3 | n => n, fun | n => n⟩
theorem Tryz.lays137 : Go.Proofs.Lays.n137 Tryz.prog Tryz.lays137_ren := {
 mixed := by kernel_rfl
 f137 := Tryz.func147.trans (congrArg some (by kernel_rfl))
 f217 := Tryz.func185.trans (congrArg some (by kernel_rfl))
 f266 := Tryz.func204.trans (congrArg some (by kernel_rfl))
 t3 := Tryz.underlying3
 a3 := Tryz.isAgg3
 z3 := Tryz.sizeOf3
 v3 := Tryz.zeroValue3
 t5 := Tryz.underlying5
 a5 := Tryz.isAgg5
 z5 := Tryz.sizeOf5
 v5 := Tryz.zeroValue5
 t9 := Tryz.underlying9
 a9 := Tryz.isAgg9
 z9 := Tryz.sizeOf9
 v9 := Tryz.zeroValue9 }
open Go.RowKit in
theorem Tryz.strings_IndexByte (s : ByteArray) (c : Int) (w : World) :
    Calls Tryz.prog 147 #[.string s, .int .u8 c] w fun e w' => e = .returned (.int .i64 (Lib.indexByte s.data.toList c.toNat.toUInt8)) ∧ w' = w := Any.strings_IndexByte Tryz.lays137 s c w
def Tryz.lays103_ren : Go.Shelf.Ren := ⟨fun | 103 => 183 | 210 => 203 | 206 => 173 | n => n, fun | 9 => 9 | 4 => 4 | 24 => 79 | 3 => 3 | n => n, fun | n => n⟩
theorem Tryz.lays103 : Go.Proofs.Lays.n103 Tryz.prog Tryz.lays103_ren := {
 mixed := by kernel_rfl
 f103 := Tryz.func183.trans (congrArg some (by kernel_rfl))
 f206 := Tryz.func173.trans (congrArg some (by kernel_rfl))
 f210 := Tryz.func203.trans (congrArg some (by kernel_rfl))
 t3 := Tryz.underlying3
 a3 := Tryz.isAgg3
 z3 := Tryz.sizeOf3
 v3 := Tryz.zeroValue3
 t4 := Tryz.underlying4
 a4 := Tryz.isAgg4
 z4 := Tryz.sizeOf4
 v4 := Tryz.zeroValue4
 t9 := Tryz.underlying9
 a9 := Tryz.isAgg9
 z9 := Tryz.sizeOf9
 v9 := Tryz.zeroValue9
 t24 := Tryz.underlying79
 a24 := Tryz.isAgg79
 z24 := Tryz.sizeOf79
 v24 := Tryz.zeroValue79 }
open Go.RowKit in
theorem Tryz.strings_CutPrefix (s p : ByteArray) (w : World) :
    Calls Tryz.prog 183 #[.string s, .string p] w fun e w' => e = .returned (.tuple #[.string ⟨(Lib.trimPrefix s.data.toList p.data.toList).toArray⟩, .bool (Lib.hasPrefix s.data.toList p.data.toList)]) ∧ w' = w := Any.strings_CutPrefix Tryz.lays103 s p w
def Tryz.lays190_ren : Go.Shelf.Ren := ⟨fun | 190 => 55 | 125 => 105 | 258 => 104 | 128 => 165 | 129 => 166 | 302 => 156 | 303 => 157 | 304 => 158 | 305 => 159 | 306 => 160 | 307 => 161 | 308 => 162 | 309 => 163 | 310 => 164 | 333 => 191 | 329 => 192 | 330 => 193 | 334 => 194 | 335 => 195 | 336 => 196 | 344 => 207 | n => n, fun | 31 => 27 | 9 => 9 | 3 => 3 | 46 => 105 | 0 => 0 | 51 => 102 | 53 => 104 | 4 => 4 | 183 => 216 | 182 => 215 | 131 => 124 | 5 => 5 | 218 => 236 | 222 => 240 | 228 => 248 | 229 => 204 | n => n, fun | n => n⟩
theorem Tryz.lays190 : Go.Proofs.Lays.n190 Tryz.prog Tryz.lays190_ren := {
 mixed := by kernel_rfl
 f125 := Tryz.func105.trans (congrArg some (by kernel_rfl))
 f128 := Tryz.func165.trans (congrArg some (by kernel_rfl))
 f129 := Tryz.func166.trans (congrArg some (by kernel_rfl))
 f190 := Tryz.func55.trans (congrArg some (by kernel_rfl))
 f258 := Tryz.func104.trans (congrArg some (by kernel_rfl))
 f302 := Tryz.func156.trans (congrArg some (by kernel_rfl))
 f303 := Tryz.func157.trans (congrArg some (by kernel_rfl))
 f304 := Tryz.func158.trans (congrArg some (by kernel_rfl))
 f305 := Tryz.func159.trans (congrArg some (by kernel_rfl))
 f306 := Tryz.func160.trans (congrArg some (by kernel_rfl))
 f307 := Tryz.func161.trans (congrArg some (by kernel_rfl))
 f308 := Tryz.func162.trans (congrArg some (by kernel_rfl))
 f309 := Tryz.func163.trans (congrArg some (by kernel_rfl))
 f310 := Tryz.func164.trans (congrArg some (by kernel_rfl))
 f329 := Tryz.func192.trans (congrArg some (by kernel_rfl))
 f330 := Tryz.func193.trans (congrArg some (by kernel_rfl))
 f333 := Tryz.func191.trans (congrArg some (by kernel_rfl))
 f334 := Tryz.func194.trans (congrArg some (by kernel_rfl))
 f335 := Tryz.func195.trans (congrArg some (by kernel_rfl))
 f336 := Tryz.func196.trans (congrArg some (by kernel_rfl))
 f344 := Tryz.func207.trans (congrArg some (by kernel_rfl))
 t0 := Tryz.underlying0
 a0 := Tryz.isAgg0
 z0 := Tryz.sizeOf0
 v0 := Tryz.zeroValue0
 t3 := Tryz.underlying3
 a3 := Tryz.isAgg3
 z3 := Tryz.sizeOf3
 v3 := Tryz.zeroValue3
 t4 := Tryz.underlying4
 a4 := Tryz.isAgg4
 z4 := Tryz.sizeOf4
 v4 := Tryz.zeroValue4
 t5 := Tryz.underlying5
 a5 := Tryz.isAgg5
 z5 := Tryz.sizeOf5
 v5 := Tryz.zeroValue5
 t9 := Tryz.underlying9
 a9 := Tryz.isAgg9
 z9 := Tryz.sizeOf9
 v9 := Tryz.zeroValue9
 t31 := Tryz.underlying27
 a31 := Tryz.isAgg27
 z31 := Tryz.sizeOf27
 v31 := Tryz.zeroValue27
 t46 := Tryz.underlying105
 a46 := Tryz.isAgg105
 z46 := Tryz.sizeOf105
 v46 := Tryz.zeroValue105
 t51 := Tryz.underlying102
 a51 := Tryz.isAgg102
 z51 := Tryz.sizeOf102
 v51 := Tryz.zeroValue102
 t53 := Tryz.underlying104
 a53 := Tryz.isAgg104
 z53 := Tryz.sizeOf104
 v53 := Tryz.zeroValue104
 t131 := Tryz.underlying124
 a131 := Tryz.isAgg124
 z131 := Tryz.sizeOf124
 v131 := Tryz.zeroValue124
 t182 := Tryz.underlying215
 a182 := Tryz.isAgg215
 z182 := Tryz.sizeOf215
 v182 := Tryz.zeroValue215
 t183 := Tryz.underlying216
 a183 := Tryz.isAgg216
 z183 := Tryz.sizeOf216
 v183 := Tryz.zeroValue216
 t218 := Tryz.underlying236
 a218 := Tryz.isAgg236
 z218 := Tryz.sizeOf236
 v218 := Tryz.zeroValue236
 t222 := Tryz.underlying240
 a222 := Tryz.isAgg240
 z222 := Tryz.sizeOf240
 v222 := Tryz.zeroValue240
 t228 := Tryz.underlying248
 a228 := Tryz.isAgg248
 z228 := Tryz.sizeOf248
 v228 := Tryz.zeroValue248
 t229 := Tryz.underlying204
 a229 := Tryz.isAgg204
 z229 := Tryz.sizeOf204
 v229 := Tryz.zeroValue204 }
open Go.Sort Go.RowKit in
theorem Tryz.slices_Sort_string (blk off cap : Nat) (ss : List (List UInt8)) (w : World) (hH : Holds encStr w blk off ss.toArray) (hblk : blk < w.heap.size) (hsz : ss.length < 4611686018427387904) :
    Calls Tryz.prog 55 #[.slice (some ⟨blk, off, none⟩) ss.length cap] w fun e w' =>
     e = .returned (.tuple #[]) ∧ ∃ n os, w' = grow (putRow encStr (Sort.ahead w n) blk off (ss.mergeSort fun x y => decide (x ≤ y)).toArray) os := Any.slices_Sort_string Tryz.lays190 blk off cap ss w hH hblk hsz
def Tryz.lays99_ren : Go.Shelf.Ren := ⟨fun | 99 => 154 | 206 => 173 | n => n, fun | 9 => 9 | 4 => 4 | 3 => 3 | n => n, fun | n => n⟩
theorem Tryz.lays99 : Go.Proofs.Lays.n99 Tryz.prog Tryz.lays99_ren := {
 mixed := by kernel_rfl
 f99 := Tryz.func154.trans (congrArg some (by kernel_rfl))
 f206 := Tryz.func173.trans (congrArg some (by kernel_rfl))
 t3 := Tryz.underlying3
 a3 := Tryz.isAgg3
 z3 := Tryz.sizeOf3
 v3 := Tryz.zeroValue3
 t4 := Tryz.underlying4
 a4 := Tryz.isAgg4
 z4 := Tryz.sizeOf4
 v4 := Tryz.zeroValue4
 t9 := Tryz.underlying9
 a9 := Tryz.isAgg9
 z9 := Tryz.sizeOf9
 v9 := Tryz.zeroValue9 }
open Go.RowKit Go.Lib in
theorem Tryz.strings_HasPrefix (s p : ByteArray) (w : World) :
    Calls Tryz.prog 154 #[.string s, .string p] w fun e w' => e = .returned (.bool (Lib.hasPrefix s.data.toList p.data.toList)) ∧ w' = w := Any.strings_HasPrefix Tryz.lays99 s p w
def Tryz.lays212_ren : Go.Shelf.Ren := ⟨fun | 212 => 130 | 263 => 177 | 264 => 178 | n => n, fun | 46 => 105 | 51 => 102 | 146 => 199 | 53 => 104 | 148 => 228 | n => n, fun | n => n⟩
theorem Tryz.lays212 : Go.Proofs.Lays.n212 Tryz.prog Tryz.lays212_ren := {
 mixed := by kernel_rfl
 f212 := Tryz.func130.trans (congrArg some (by kernel_rfl))
 f263 := Tryz.func177.trans (congrArg some (by kernel_rfl))
 f264 := Tryz.func178.trans (congrArg some (by kernel_rfl))
 t46 := Tryz.underlying105
 a46 := Tryz.isAgg105
 z46 := Tryz.sizeOf105
 v46 := Tryz.zeroValue105
 t51 := Tryz.underlying102
 a51 := Tryz.isAgg102
 z51 := Tryz.sizeOf102
 v51 := Tryz.zeroValue102
 t53 := Tryz.underlying104
 a53 := Tryz.isAgg104
 z53 := Tryz.sizeOf104
 v53 := Tryz.zeroValue104
 t146 := Tryz.underlying199
 a146 := Tryz.isAgg199
 z146 := Tryz.sizeOf199
 v146 := Tryz.zeroValue199
 t148 := Tryz.underlying228
 a148 := Tryz.isAgg228
 z148 := Tryz.sizeOf228
 v148 := Tryz.zeroValue228 }
open Go.RowKit Go.Lib in
theorem Tryz.bits_Mul (x y : Nat) (hx : x < 18446744073709551616) (hy : y < 18446744073709551616) (w : World) :
    Calls Tryz.prog 130 #[.int .u64 x, .int .u64 y] w fun e w' => e = .returned (.tuple #[.int .u64 ((x * y / 18446744073709551616 : Nat) : Int), .int .u64 ((x * y % 18446744073709551616 : Nat) : Int)]) ∧ w' = w := Any.bits_Mul Tryz.lays212 x y hx hy w
def Tryz.lays105_ren : Go.Shelf.Ren := ⟨fun | 105 => 131 | 212 => 130 | 99 => 154 | 165 => 176 | 166 => 126 | 170 => 179 | 169 => 117 | 263 => 177 | 264 => 178 | 206 => 173 | 240 => 172 | 241 => 201 | 276 => 198 | 277 => 211 | n => n, fun | 9 => 9 | 3 => 3 | 4 => 4 | 20 => 20 | 0 => 0 | 46 => 105 | 109 => 187 | 5 => 5 | 72 => 174 | 76 => 183 | 51 => 102 | 146 => 199 | 53 => 104 | 148 => 228 | 70 => 172 | 37 => 89 | 75 => 176 | 127 => 224 | 164 => 243 | 80 => 46 | n => n, fun | n => n⟩
theorem Tryz.lays105 : Go.Proofs.Lays.n105 Tryz.prog Tryz.lays105_ren := {
 mixed := by kernel_rfl
 f99 := Tryz.func154.trans (congrArg some (by kernel_rfl))
 f105 := Tryz.func131.trans (congrArg some (by kernel_rfl))
 f165 := Tryz.func176.trans (congrArg some (by kernel_rfl))
 f166 := Tryz.func126.trans (congrArg some (by kernel_rfl))
 f169 := Tryz.func117.trans (congrArg some (by kernel_rfl))
 f170 := Tryz.func179.trans (congrArg some (by kernel_rfl))
 f206 := Tryz.func173.trans (congrArg some (by kernel_rfl))
 f212 := Tryz.func130.trans (congrArg some (by kernel_rfl))
 f240 := Tryz.func172.trans (congrArg some (by kernel_rfl))
 f241 := Tryz.func201.trans (congrArg some (by kernel_rfl))
 f263 := Tryz.func177.trans (congrArg some (by kernel_rfl))
 f264 := Tryz.func178.trans (congrArg some (by kernel_rfl))
 f276 := Tryz.func198.trans (congrArg some (by kernel_rfl))
 f277 := Tryz.func211.trans (congrArg some (by kernel_rfl))
 t0 := Tryz.underlying0
 a0 := Tryz.isAgg0
 z0 := Tryz.sizeOf0
 v0 := Tryz.zeroValue0
 t3 := Tryz.underlying3
 a3 := Tryz.isAgg3
 z3 := Tryz.sizeOf3
 v3 := Tryz.zeroValue3
 t4 := Tryz.underlying4
 a4 := Tryz.isAgg4
 z4 := Tryz.sizeOf4
 v4 := Tryz.zeroValue4
 t5 := Tryz.underlying5
 a5 := Tryz.isAgg5
 z5 := Tryz.sizeOf5
 v5 := Tryz.zeroValue5
 t9 := Tryz.underlying9
 a9 := Tryz.isAgg9
 z9 := Tryz.sizeOf9
 v9 := Tryz.zeroValue9
 t20 := Tryz.underlying20
 a20 := Tryz.isAgg20
 z20 := Tryz.sizeOf20
 v20 := Tryz.zeroValue20
 t37 := Tryz.underlying89
 a37 := Tryz.isAgg89
 z37 := Tryz.sizeOf89
 v37 := Tryz.zeroValue89
 t46 := Tryz.underlying105
 a46 := Tryz.isAgg105
 z46 := Tryz.sizeOf105
 v46 := Tryz.zeroValue105
 t51 := Tryz.underlying102
 a51 := Tryz.isAgg102
 z51 := Tryz.sizeOf102
 v51 := Tryz.zeroValue102
 t53 := Tryz.underlying104
 a53 := Tryz.isAgg104
 z53 := Tryz.sizeOf104
 v53 := Tryz.zeroValue104
 t70 := Tryz.underlying172
 a70 := Tryz.isAgg172
 z70 := Tryz.sizeOf172
 v70 := Tryz.zeroValue172
 t72 := Tryz.underlying174
 a72 := Tryz.isAgg174
 z72 := Tryz.sizeOf174
 v72 := Tryz.zeroValue174
 t75 := Tryz.underlying176
 a75 := Tryz.isAgg176
 z75 := Tryz.sizeOf176
 v75 := Tryz.zeroValue176
 t76 := Tryz.underlying183
 a76 := Tryz.isAgg183
 z76 := Tryz.sizeOf183
 v76 := Tryz.zeroValue183
 t109 := Tryz.underlying187
 a109 := Tryz.isAgg187
 z109 := Tryz.sizeOf187
 v109 := Tryz.zeroValue187
 t127 := Tryz.underlying224
 a127 := Tryz.isAgg224
 z127 := Tryz.sizeOf224
 v127 := Tryz.zeroValue224
 t146 := Tryz.underlying199
 a146 := Tryz.isAgg199
 z146 := Tryz.sizeOf199
 v146 := Tryz.zeroValue199
 t148 := Tryz.underlying228
 a148 := Tryz.isAgg228
 z148 := Tryz.sizeOf228
 v148 := Tryz.zeroValue228
 t164 := Tryz.underlying243
 a164 := Tryz.isAgg243
 z164 := Tryz.sizeOf243
 v164 := Tryz.zeroValue243 }
theorem Tryz.Builder_Extra_105 : Builder.Extra Tryz.prog Tryz.lays105_ren := {
 sizeBuilder := by kernel_rfl
 liesBuilder := by kernel_rfl
 t5 := Tryz.underlying5
 a5 := Tryz.isAgg5
 z5 := Tryz.sizeOf5
 v5 := Tryz.zeroValue5
 infoByte := by kernel_rfl
 cellsByte := by kernel_rfl
 sizeByte := by kernel_rfl
 neB5 := by decide }
open Go.RowKit Go.Lib in
theorem Tryz.strings_Repeat (s : ByteArray) (c : Nat) (w : World) (hc : c ≤ 9223372036854775807) (hlen : s.size * c ≤ 140737488355328) :
    Calls Tryz.prog 131 #[.string s, .int .i64 c] w fun e w' => e = .returned (.string ⟨(Lib.repeatL s.data.toList c).toArray⟩) ∧ Below w.heap.size w w' := Any.strings_Repeat Tryz.lays105 Tryz.Builder_Extra_105 s c w hc hlen
end Go.Proofs
namespace Go.Proofs.YtibccdcemcgkeaaGreat
section
open Go.RowKit (Below)
theorem SpF.of_same {P : Program} {f : FuncId} {args : List Value} {v : Value} (en : ∀ (args : Array Value) (w : World), (callFunc f args).run P w = .ok (.enter f args) w)
    (h : ∀ w, Calls P f args.toArray w fun e w' => e = .returned v ∧ w' = w) : SpF P f args v :=
 SpF.of_calls en fun w => (h w).mono fun e w' ⟨a, b⟩ => ⟨a, by rw [b]; exact Below.refl _ _⟩
theorem IndexByte_sp (l : List UInt8) (c : Int) : SpF Tryz.prog 147 [vS l, vU c] (vI (Lib.indexByte l c.toNat.toUInt8)) :=
 SpF.of_same Tryz.call147 fun w => Tryz.strings_IndexByte ⟨⟨l⟩⟩ c w
theorem CutPrefix_sp (l p : List UInt8) : SpF Tryz.prog 183 [vS l, vS p] (.tuple #[vS (Lib.trimPrefix l p), vB (Lib.hasPrefix l p)]) :=
 SpF.of_same Tryz.call183 fun w => Tryz.strings_CutPrefix ⟨⟨l⟩⟩ ⟨⟨p⟩⟩ w
theorem HasPrefix_sp (l p : List UInt8) : SpF Tryz.prog 154 [vS l, vS p] (vB (Lib.hasPrefix l p)) :=
 SpF.of_same Tryz.call154 fun w => Tryz.strings_HasPrefix ⟨⟨l⟩⟩ ⟨⟨p⟩⟩ w
theorem Repeat_sp (l : List UInt8) (c : Nat) (h : l.length * c ≤ 140737488355328) (hc : c ≤ 9223372036854775807) : SpF Tryz.prog 131 [vS l, vI c] (vS (Lib.repeatL l c)) :=
 SpF.of_calls Tryz.call131 fun w => Tryz.strings_Repeat ⟨⟨l⟩⟩ c w hc h
theorem repeat_one (b : UInt8) : ∀ c : Nat, Lib.repeatL [b] c = List.replicate c b := by
 intro c
 induction c with
 | zero => rfl
 | succ c ih => simp [Lib.repeatL, ih, List.replicate_succ]
end
end Go.Proofs.YtibccdcemcgkeaaGreat
