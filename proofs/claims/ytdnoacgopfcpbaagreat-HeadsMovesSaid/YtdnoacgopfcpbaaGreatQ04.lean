/- Texts of this proof, put together: Bridge, Struct, RangeF, Types, Shelf, Lib0. -/
import Derived.Below
import Derived.RangeFuncIn
import Derived.RangeFuncNested
import Derived.Test.YtdnoacgopfcpbaaGreatProg
import Derived.Shelf.Strings.Builder1
import Derived.Shelf.Strings.Builder2
import Derived.Shelf.Small.Bits
import Derived.Shelf.Small.Strs
import Derived.Shelf.Strings.BuilderF
import Derived.Shelf.Strconv.Itoa0
import Derived.Shelf.Strings.Search1
import Derived.Shelf.Strings.Search2
import Derived.Shelf.Strings.Search3
import Derived.Shelf.Strings.Cut
import Derived.Shelf.LaysM
import Derived.Shelf.Strings.Shaped
import Derived.Shelf.Sort.Plain
import Derived.Shelf.Strings.Prefix
import Derived.Shelf.Strings.Repeat
import Derived.Test.YtdnoacgopfcpbaaGreatQ03
set_option linter.unusedVariables false
set_option linter.unusedSimpArgs false
namespace Go.Proofs.YtdnoacgopfcpbaaGreat
section
open Go.RowKit (Below)
theorem SpF.of_same {P : Program} {f : FuncId} {args : List Value} {v : Value} (en : ∀ (args : Array Value) (w : World), (callFunc f args).run P w = .ok (.enter f args) w)
    (h : ∀ w, Calls P f args.toArray w fun e w' => e = .returned v ∧ w' = w) : SpF P f args v := by
 refine ⟨en, fun w M m hf d t s => callsIn_wide.2 ((h w).mono ?_)⟩
 rintro e w' ⟨rfl, rfl⟩
 exact ⟨(), M, m, rfl, trivial, Kn.le_refl _, d, t, trivial⟩
/-- A law's contract: all that there was is as it was. -/
theorem Sp.law {P : Program} {f : FuncId} {args : List Value} {As : List HP} {v : Value} {Bs : Unit → List HP} (sp : Sp P f args As (X := Unit) (fun _ => v) (fun _ => True) Bs) (w : World)
    (hA : SL As ⟨fun b => w.heap[b]?, w⟩ Res.emp) : Calls P f args.toArray w fun e w' => e = .returned v ∧ Below w.heap.size w w' := by
 have t : Sat w ⟨fun b => w.heap[b]?, w⟩ (Res.emp.add Res.emp) := ⟨fun _ _ e => e, fun _ _ e => by simp [Res.add, Res.emp] at e, fun _ => .inr rfl, Env.refl w⟩
 refine (callsIn_wide.1 (sp.calls w _ Res.emp Res.emp (Res.dj_emp _) t hA)).mono ?_
 rintro e w' ⟨x, M', h', rfl, _, l, _, t', _⟩
 have en := t'.env
 rw [← l.2] at en
 refine ⟨rfl, en.os, en.tape, en.output, en.size, fun k hk => ?_⟩
 have e1 : w.heap[k]? = some w.heap[k] := Array.getElem?_eq_getElem hk
 rw [e1]
 exact t'.im k _ (l.1 k _ e1)
end
section
open Go.RowKit (Below)
instance (priority := 900) {b : Nat} {l : List Value} {B C : List HP} [h : RdCe b l B] : RdCe b l (B ++ C) := ⟨by
 obtain ⟨A, s, p⟩ := h.get
 refine ⟨A, s, ?_⟩
 clear h s
 induction p with
 | here => exact .here
 | there _ ih => exact .there ih⟩
instance (priority := 800) {b : Nat} {l : List Value} {B C : List HP} [h : RdCe b l C] : RdCe b l (B ++ C) := ⟨by
 obtain ⟨A, s, p⟩ := h.get
 refine ⟨A, s, ?_⟩
 clear h s
 induction B with
 | nil => exact p
 | cons _ _ ih => exact .there ih⟩
instance (priority := 900) {b : Nat} {T : TypeId} {l l' : List Value} {B B' C : List HP} [h : UpCe b T l l' B B'] : UpCe b T l l' (B ++ C) (B' ++ C) := ⟨by
 have u := h.get
 clear h
 induction u with
 | here => exact .here
 | there _ ih => exact .there ih⟩
instance (priority := 800) {b : Nat} {T : TypeId} {l l' : List Value} {B C C' : List HP} [h : UpCe b T l l' C C'] : UpCe b T l l' (B ++ C) (B ++ C') := ⟨by
 have u := h.get
 clear h
 induction B with
 | nil => exact u
 | cons _ _ ih => exact .there ih⟩
instance (priority := 900) {b off : Nat} {v : Value} {T : TypeId} {l : List Value} {B B' C : List HP} [h : StC b off v T l B B'] : StC b off v T l (B ++ C) (B' ++ C) := ⟨by
 have u := h.get
 clear h
 induction u with
 | here => exact .here
 | there _ ih => exact .there ih⟩
instance (priority := 800) {b off : Nat} {v : Value} {T : TypeId} {l : List Value} {B C C' : List HP} [h : StC b off v T l C C'] : StC b off v T l (B ++ C) (B ++ C') := ⟨by
 have u := h.get
 clear h
 induction B with
 | nil => exact u
 | cons _ _ ih => exact .there ih⟩
instance (priority := 900) {b off : Nat} {vs : List Value} {T : TypeId} {l : List Value} {B B' C : List HP} [h : StsC b off vs T l B B'] : StsC b off vs T l (B ++ C) (B' ++ C) := ⟨by
 have u := h.get
 clear h
 induction u with
 | here => exact .here
 | there _ ih => exact .there ih⟩
instance (priority := 800) {b off : Nat} {vs : List Value} {T : TypeId} {l : List Value} {B C C' : List HP} [h : StsC b off vs T l C C'] : StsC b off vs T l (B ++ C) (B ++ C') := ⟨by
 have u := h.get
 clear h
 induction B with
 | nil => exact u
 | cons _ _ ih => exact .there ih⟩
instance (priority := 900) {A : HP} {B B' C : List HP} [h : PickC A B B'] : PickC A (B ++ C) (B' ++ C) := ⟨by
 have u := h.get
 clear h
 induction u with
 | here => exact .here
 | keep p => exact .keep p
 | there _ ih => exact .there ih⟩
instance (priority := 800) {A : HP} {B C C' : List HP} [h : PickC A C C'] : PickC A (B ++ C) (B ++ C') := ⟨by
 have u := h.get
 clear h
 induction B with
 | nil => exact u
 | cons _ _ ih => exact .there ih⟩
instance (priority := 900) {A : HP} {B C : List HP} [h : HasC A B] : HasC A (B ++ C) := ⟨by
 have u := h.get
 clear h
 induction u with
 | here => exact .here
 | there _ ih => exact .there ih⟩
instance (priority := 800) {A : HP} {B C : List HP} [h : HasC A C] : HasC A (B ++ C) := ⟨by
 have u := h.get
 clear h
 induction B with
 | nil => exact u
 | cons _ _ ih => exact .there ih⟩
theorem sl_ex {X : Type} {f : X → HP} {Hs : List HP} {M : Kn} {h : Res} (s : SL (Ex f :: Hs) M h) : ∃ x, SL (f x :: Hs) M h := by
 obtain ⟨h1, h2, d, e, ⟨x, a⟩, t⟩ := s
 exact ⟨x, h1, h2, d, e, a, t⟩
theorem sl_al {As Hs : List HP} {M : Kn} {h : Res} (s : SL (Al As :: Hs) M h) : SL (As ++ Hs) M h := by
 obtain ⟨h1, h2, d, e, a, t⟩ := s
 subst e
 exact SL.append d a t
theorem sl_pu {p : Prop} {Hs : List HP} {M : Kn} {h : Res} (s : SL (Pu p :: Hs) M h) : p ∧ SL Hs M h := by
 obtain ⟨h1, h2, d, e, a, t⟩ := s
 subst e
 exact ⟨a, SL.more d t⟩
/-! Shutting. -/
theorem ent_ex {X : Type} {f : X → HP} {Hs Rs : List HP} (x : X) (e : Ent Hs (f x :: Rs)) : Ent Hs (Ex f :: Rs) := ⟨fun s => by
 obtain ⟨h1, h2, d, e', a, t⟩ := e s
 exact ⟨h1, h2, d, e', ⟨x, a⟩, t⟩⟩
theorem ent_al {As Hs Rs Gs : List HP} [q : AppC As Rs Gs] (e : Ent Hs Gs) : Ent Hs (Al As :: Rs) := ⟨fun s => by
 have s2 := e s
 rw [← q.get] at s2
 obtain ⟨h1, h2, d, e', a, t⟩ := SL.split s2
 exact ⟨h1, h2, d, e', a, t⟩⟩
theorem ent_pu {p : Prop} {Hs Rs : List HP} (hp : p) (e : Ent Hs Rs) : Ent Hs (Pu p :: Rs) := ⟨fun {M h} s => ⟨Res.emp, h, Res.emp_dj _, rfl, hp, e s⟩⟩
/-- First what is picked; the rest out of what is left. -/
theorem ent_cons {A : HP} {Hs Rs Gs : List HP} [h : PickC A Hs Rs] (e : Ent Rs Gs) : Ent Hs (A :: Gs) := ⟨fun s => by
 obtain ⟨h1, h2, d, e', a, t⟩ := h.get.sat s
 exact ⟨h1, h2, d, e', a, e t⟩⟩
theorem ent_step {A : HP} {Hs Rs Gs : List HP} (e : Ent Hs (A :: Rs)) (k : Ent Rs Gs) : Ent Hs (A :: Gs) := ⟨fun s => by
 obtain ⟨h1, h2, d, e', a, t⟩ := e s
 exact ⟨h1, h2, d, e', a, k t⟩⟩
section
variable {r : Option Nat} {P : Program} {n : Nat} {ops : Array Oper} {os : List Oper} {L : Loc} {Hs : List HP} {Q : Out} {c : Code}
theorem wc_exi {X : Type} {f : X → HP} (k : ∀ x, wc r P n c L (f x :: Hs) Q) : wc r P n c L (Ex f :: Hs) Q := wc_ex sl_ex k
theorem wc_al {As Rs : List HP} [q : AppC As Hs Rs] (k : wc r P n c L Rs Q) : wc r P n c L (Al As :: Hs) Q := wc_ent' ⟨fun s => by rw [← q.get]; exact sl_al s⟩ k
theorem wc_pu {p : Prop} (k : p → wc r P n c L Hs Q) : wc r P n c L (Pu p :: Hs) Q := by
 intro a M m s
 obtain ⟨g1, g2, dg, e, y, s2⟩ := s.2
 obtain ⟨hp, s3⟩ := sl_pu s2
 exact k hp a M m ⟨s.1, g1, g2, dg, e, y, s3⟩
theorem wc_front (A : HP) {Rs : List HP} [h : PickC A Hs Rs] (k : wc r P n c L (A :: Rs) Q) : wc r P n c L Hs Q := wc_ent' (Picks.ent (.cons h.get .nil)) k
theorem wo_front (A : HP) {Rs : List HP} [h : PickC A Hs Rs] (k : wo r P n ops os L (A :: Rs) Q) : wo r P n ops os L Hs Q := wo_ent' (Picks.ent (.cons h.get .nil)) k
/-- A block is given up for good: all may read it from now on. -/
theorem freeze_sat {b : Nat} {o : Obj} {w : World} {M : Kn} {h : Res} (d : (Res.one b o).dj h) (t : Sat w M ((Res.one b o).add h)) : ∃ M' : Kn, M.le M' ∧ M'.im b = some o ∧ Sat w M' h := by
 have hM : M.im b = none := by
  rcases t.dj b with e | e
  · exact e
  · simp [Res.add, Res.one] at e
 have hh : h b = none := by
  rcases d b with e | e
  · simp [Res.one] at e
  · exact e
 refine ⟨⟨fun i => if i = b then some o else M.im i, M.g⟩, ⟨fun i u e => ?_, rfl⟩, by simp, ⟨fun i u e => ?_, fun i u e => ?_, fun i => ?_, t.env⟩⟩
 · have : i ≠ b := fun x => by subst x; rw [hM] at e; cases e
   simp [this, e]
 · by_cases hi : i = b
   · subst hi; simp at e; subst e; exact t.ow _ _ (by simp [Res.add, Res.one])
   · simp only [hi, if_false] at e; exact t.im i u e
 · exact t.ow i u (Res.le_add_right d i u e)
 · by_cases hi : i = b
   · subst hi; exact .inr hh
   · rcases t.dj i with e | e
     · exact .inl (by simp [hi, e])
     · exact .inr (by simpa [Res.add, Res.one, hi] using e)
end
end
section
/-- What a round's jump is. -/
def jc : Option Nat → Code
 | none => .ret
 | some id => .exit id
/-- A value that one may call as yield: on each element: on, or no more. -/
def YSpec (P : Program) {α : Type} (y : Value) (enc : α → List Value) (ok : List α → α → Prop) (J Jx : List α → HP) : Prop :=
 ∃ l, y = .func (.yield l) #[] #[] ∧ ∀ (pre : List α) (x : α), ok pre x → ∀ (w : World) (M : Kn) (h hf : Res), h.dj hf → Sat w M (h.add hf) → (J pre).at_ M h →
  ∃ fn tmps assign body, (Instr.yield l (enc x).toArray).run P w = .ok (.round l fn tmps assign body) w ∧
   RoundIn (WF none) 0 P l fn tmps assign body w (fun e w' => ∃ (b : Bool) (M' : Kn) (h' : Res), e = .returned (.bool b) ∧ M.le M' ∧ h'.dj hf ∧ Sat w' M' (h'.add hf) ∧ (if b then J (pre ++ [x]) else Jx (pre ++ [x])).at_ M' h')
/-- What one has behind a walk: it went to its end, or was stopped. -/
def endsAt {α : Type} (J Jx : List α → HP) (all : List α) : Option (List α) → HP
 | none => J all
 | some pre => Jx pre
/-- What a function value does when it is ranged over. -/
def Iter (P : Program) {α : Type} (g : Nat) (lb : List Value) (enc : α → List Value) (ok : List α → α → Prop) (stopped : List α → Prop) (As Bs : List HP) (all : List α) (val : Option (List α) → Value) : Prop :=
 ∀ (y : Value) (J Jx : List α → HP), YSpec P y enc ok J Jx → Sp P g (y :: lb) (J [] :: As) (X := Option (List α)) val (fun x => ∀ pre, x = some pre → stopped pre) (fun x => endsAt J Jx all x :: Bs)
/-- The same, where the order is drawn on the way: what is known of it behind the walk. -/
def IterU (P : Program) {α : Type} (g : Nat) (lb : List Value) (enc : α → List Value) (ok : List α → α → Prop) (stopped : List α → Prop) (As Bs : List HP) (fin : List α → Prop) (val : Option (List α) → Value) : Prop :=
 ∀ (y : Value) (J Jx : List α → HP), YSpec P y enc ok J Jx → Sp P g (y :: lb) (J [] :: As) (X := Option (List α) × List α) (fun x => val x.1) (fun x => (∀ pre, x.1 = some pre → stopped pre) ∧ (x.1 = none → fin x.2)) (fun x => endsAt J Jx x.2 x.1 :: Bs)
theorem Iter.toU {P : Program} {α : Type} {g : Nat} {lb : List Value} {enc : α → List Value} {ok : List α → α → Prop} {stopped : List α → Prop} {As Bs : List HP} {all : List α} {val : Option (List α) → Value}
    (it : Iter P g lb enc ok stopped As Bs all val) : IterU P g lb enc ok stopped As Bs (fun l => l = all) val :=
 fun y J Jx ys => (it y J Jx ys).mono (Ent.refl _) fun x hx => ⟨(x, all), rfl, ⟨hx, fun _ => rfl⟩, Ent.refl _⟩
def bindL : List Tmp → List Value → Loc → Loc
 | p :: ps, v :: vs, L => bindL ps vs ((p, v) :: L)
 | _, _, L => L
/-- The ways out of a round. -/
def roundO {α : Type} (I : List α → List HP) (Ix : Option Nat → List α → List HP) (xs : List α) : Out
 | .normal => fun _ M h => SL (I xs) M h
 | .ret => fun _ M h => SL (Ix none xs) M h
 | .exit id => fun _ M h => SL (Ix (some id) xs) M h
 | _ => fun _ _ _ => False
def asgO (r : Option Nat) (P : Program) (y : Code) (Q : Out) : Out := thenO (wout r P y Q) (fun _ _ _ _ => False)
section
variable {r : Option Nat} {P : Program} {n : Nat} {ops : Array Oper} {os : List Oper} {A : List HP} {L : Loc} {Hs : List HP} {Q : Out} {ty : TypeId} {d : Nat} {pos : String} {after : Array Edge} {c : Code}
theorem q_asg {y : Code} (h : wc r P n y L Hs Q) : wo r P n ops [] L Hs (asgO r P y Q) := wo_nil (to_then h)
theorem to_round {α : Type} {I : List α → List HP} {Ix : Option Nat → List α → List HP} {xs : List α} (e : Ent Hs (I xs)) : tw n (roundO I Ix xs) .normal L Hs := by
 rintro a M h ⟨_, h1, h2, d, e', _, s⟩
 subst e'
 exact SL.more d (e s)
theorem to_round_ret {α : Type} {I : List α → List HP} {Ix : Option Nat → List α → List HP} {xs : List α} (e : Ent Hs (Ix none xs)) : tw n (roundO I Ix xs) .ret L Hs := by
 rintro a M h ⟨_, h1, h2, d, e', _, s⟩
 subst e'
 exact SL.more d (e s)
theorem to_round_exit {α : Type} {I : List α → List HP} {Ix : Option Nat → List α → List HP} {xs : List α} (id : Nat) (e : Ent Hs (Ix (some id) xs)) : tw n (roundO I Ix xs) (.exit id) L Hs := by
 rintro a M h ⟨_, h1, h2, d, e', _, s⟩
 subst e'
 exact SL.more d (e s)
theorem fr_bind : ∀ (ps : List Tmp) (vs : List Value) {L : Loc} {t : Array Value}, (∀ p ∈ ps, p < n) → (n ≤ t.size ∧ ∀ i v, lk L i = some v → t[i]? = some v) →
    (n ≤ ((ps.zip vs).foldl (fun t (p, v) => t.setIfInBounds p v) t).size ∧ ∀ i v, lk (bindL ps vs L) i = some v → ((ps.zip vs).foldl (fun t (p, v) => t.setIfInBounds p v) t)[i]? = some v) := by
 intro ps
 induction ps with
 | nil => intro vs L t _ h; simpa [bindL] using h
 | cons p ps ih =>
   intro vs L t hp h
   cases vs with
   | nil => simpa [bindL] using h
   | cons v vs =>
     simp only [bindL, List.zip_cons_cons, List.foldl_cons]
     refine ih vs (fun q hq => hp q (by simp [hq])) ?_
     have f : Fr n L { tmps := t, defers := [] } := h
     have := f.put (d := p) (v := v) (by simpa using hp p (by simp))
     simpa [Fr, Act.put] using this
/-- for .. := range f { .. } -/
theorem wc_rangeFunc {α : Type} {f : Operand} {ps : Array Tmp} {assign body : Code} {g : Nat} {lb : List Value} {enc : α → List Value} {ok : List α → α → Prop} {stopped : List α → Prop} {As Bs : List HP} {fin : List α → Prop} {val : Option (List α) → Value}
    (I : List α → List HP) (Ix : Option Nat → List α → List HP)
    (hf : ev L f = some (.func (.func g) #[] lb.toArray))
    (it : IterU P g lb enc ok stopped As Bs fin val)
    (hps : ∀ x, (enc x).length = ps.size) (hpn : ps.toList.all (fun p => Nat.blt p n) = true)
    (ha : Ent Hs (I [] ++ As))
    (round : ∀ (l : Nat) (pre : List α) (x : α), ok pre x → wc (some l) P n assign (bindL ps.toList (enc x) L) (I pre) (asgO (some l) P body (roundO I Ix (pre ++ [x]))))
    (done : ∀ all, fin all → tw n Q .normal L (I all ++ Bs))
    (stop : ∀ (j : Option Nat) (pre : List α), stopped pre → wc none P n (jc j) L (Ix j pre ++ Bs) Q) :
    wc none P n (.rangeFunc f ps assign body) L Hs Q := by
 intro a M h st w hfr dj t
 obtain ⟨fr, g1, g2, dg, e, sd, s2⟩ := st
 subst e
 obtain ⟨kI, kA, dIA, e, sI, sA⟩ := SL.split (ha s2)
 subst e
 refine wpIn_rangeFunc ?_
 intro fn hfn
 obtain ⟨rec, hrec⟩ : ∃ rec : LoopState → Option Code → Loop, rec = fun st pe => { state := st, pending := pe, fn, tmps := a.tmps, params := ps, assign, body, defers := w.heap.size } := ⟨_, rfl⟩
 obtain ⟨W1, hW1⟩ : ∃ W1, (w.alloc (.deferred (some []))).alloc (.loop (rec .ready none)) = W1 := ⟨_, rfl⟩
 have hsz : (w.alloc (.deferred (some []))).heap.size = w.heap.size + 1 := by simp
 have tD := t.alloc (.deferred (some []))
 have tL := tD.alloc (.loop (rec .ready none))
 obtain ⟨_, f1⟩ := fresh_none t
 obtain ⟨_, f2⟩ := fresh_none tD
 rw [hsz] at tL f2
 rw [hW1] at tL
 refine ⟨w.heap.size + 1, [{ target := .collected w.heap.size, args := #[] }], W1, { target := .fn (.func g) lb.toArray, args := #[.func (.yield (w.heap.size + 1)) #[] #[]] }, W1, g,
  #[.func (.yield (w.heap.size + 1)) #[] #[]] ++ lb.toArray, W1, ?_, ?_, fun _ _ => trivial, ?_, (fun e => by cases e), ?_⟩
 · rw [← hW1, hrec]; exact run_enterLoop_outer _ _ _ _ _
 · simp only [resolve, rangeCall]
   rw [fr.ev hf]
   simp [go_sem]
 · have := (it (.func (.yield (w.heap.size + 1)) #[] #[]) (fun _ => ⟨fun _ _ => False, fun _ e => e⟩) (fun _ => ⟨fun _ _ => False, fun _ e => e⟩) ⟨_, rfl, fun _ _ _ _ _ _ _ _ _ e => e.elim⟩).enters
   simp [invoke, go_sem]
   exact this _ _
 ·
  have ys : YSpec P (.func (.yield (w.heap.size + 1)) #[] #[]) enc ok (fun pre => Al (Blk (w.heap.size + 1) (.loop (rec .ready none)) :: I pre))
      (fun pre => Ex fun j : Option Nat => Al (Blk (w.heap.size + 1) (.loop (rec .done (some (jc j)))) :: Ix j pre)) := by
   refine ⟨_, rfl, fun pre x hok w' M' h' hf' dj' t' hj => ?_⟩
   obtain ⟨p1, p2, dp, e, hp1, sp2⟩ := hj
   have hp1' : p1 = Res.one _ _ := hp1
   subst hp1'
   subst e
   have hl : w'.heap[w.heap.size + 1]? = some (.loop (rec .ready none)) := t'.ow _ _ (by simp [Res.add, Res.one])
   have hy := run_yield (P := P) (args := (enc x).toArray) hl (by rw [hrec]; simpa using hps x)
   refine ⟨_, _, _, _, hy, roundIn_of_wpIn (F := WF none) trivial ?_⟩
   have e1 : (rec .ready none).assign = assign := by rw [hrec]
   have e2 : (rec .ready none).body = body := by rw [hrec]
   have e3 : (rec .ready none).tmps = a.tmps := by rw [hrec]
   have e4 : (rec .ready none).params = ps := by rw [hrec]
   rw [e1, e2, e3, e4]
   obtain ⟨dj1, dj2⟩ := Res.dj_add_left.1 dj'
   have hfold : (ps.zip (enc x).toArray).foldl (fun t (p, v) => t.setIfInBounds p v) a.tmps = (ps.toList.zip (enc x)).foldl (fun t (p, v) => t.setIfInBounds p v) a.tmps := by
    rw [← Array.foldl_toList]; simp
   rw [hfold]
   have hfr : Fr n (bindL ps.toList (enc x) L) { tmps := (ps.toList.zip (enc x)).foldl (fun t (p, v) => t.setIfInBounds p v) a.tmps, defers := [] } :=
    fr_bind ps.toList (enc x) (fun p hp => by have := List.all_eq_true.1 hpn p hp; simpa using this) fr
   have d2 : p2.dj ((Res.one (w.heap.size + 1) (.loop (rec .ready none))).add hf') := Res.dj_add_right.2 ⟨Res.dj_comm dp, dj2⟩
   have t2 : Sat w' M' (p2.add ((Res.one (w.heap.size + 1) (.loop (rec .ready none))).add hf')) := by
    rw [← Res.add_assoc, ← Res.add_comm dp]; exact t'
   have hw := round (w.heap.size + 1) pre x hok _ M' p2 ⟨hfr, Res.emp, p2, Res.emp_dj _, rfl, trivial, sp2⟩ w' _ d2 t2
   refine wpIn_mono (F := WF (some (w.heap.size + 1))) hw ?_
   rintro ex a1 w1 ⟨M1, h1, le1, dj3, t3, q1⟩
   cases ex with
   | normal =>
     have q1' : wout (some (w.heap.size + 1)) P body (roundO I Ix (pre ++ [x])) a1 M1 h1 := q1
     obtain ⟨y1, y2⟩ := Res.dj_add_right.1 dj3
     have hb : w1.heap[w.heap.size + 1]? = some (.loop (rec .ready none)) := t3.ow _ _ (Res.le_add_right dj3 _ _ (by simp [Res.add, Res.one]))
     refine ⟨_, run_beginRound hb (by rw [hrec]), ?_⟩
     have dA : (Res.one (w.heap.size + 1) (.loop (rec .ready none))).dj (h1.add hf') := Res.dj_add_right.2 ⟨Res.dj_comm y1, dj1⟩
     have hcomm : ∀ o : Obj, h1.dj (Res.one (w.heap.size + 1) o) → h1.add ((Res.one (w.heap.size + 1) o).add hf') = (Res.one (w.heap.size + 1) o).add (h1.add hf') := fun o dd => by
      rw [← Res.add_assoc, Res.add_comm dd, Res.add_assoc]
     rw [hcomm _ y1] at t3
     have t4 := Sat.putObj (o' := .loop { rec .ready none with state := .busy }) dA t3
     have dB : (Res.one (w.heap.size + 1) (.loop { rec .ready none with state := .busy })).dj (h1.add hf') := dj_one_any dA
     have dB1 := (Res.dj_add_right.1 dB).1
     rw [← hcomm _ (Res.dj_comm dB1)] at t4
     refine wpIn_mono (F := WF (some (w.heap.size + 1))) (q1' _ _ (Res.dj_add_right.2 ⟨Res.dj_comm dB1, y2⟩) t4) ?_
     have fin : ∀ (jump : Option Code) (M2 : Kn) (h2 : Res) (w2 : World), M1.le M2 → h2.dj ((Res.one (w.heap.size + 1) (.loop { rec .ready none with state := .busy })).add hf') → Sat w2 M2 (h2.add ((Res.one (w.heap.size + 1) (.loop { rec .ready none with state := .busy })).add hf')) →
         ∃ w3, (Instr.endRound (w.heap.size + 1) jump).run P w2 = .ok (.bool jump.isNone) w3 ∧ (Res.one (w.heap.size + 1) (.loop (rec (if jump.isNone then .ready else .done) jump))).dj h2 ∧
          ((Res.one (w.heap.size + 1) (.loop (rec (if jump.isNone then .ready else .done) jump))).add h2).dj hf' ∧ Sat w3 M2 (((Res.one (w.heap.size + 1) (.loop (rec (if jump.isNone then .ready else .done) jump))).add h2).add hf') := by
      intro jump M2 h2 w2 le2 dj5 t5
      have hb2 : w2.heap[w.heap.size + 1]? = some (.loop { rec .ready none with state := .busy }) := t5.ow _ _ (Res.le_add_right dj5 _ _ (by simp [Res.add, Res.one]))
      have hr := run_endRound (P := P) jump hb2
      obtain ⟨z1, z2⟩ := Res.dj_add_right.1 dj5
      have eqq : h2.add ((Res.one (w.heap.size + 1) (.loop { rec .ready none with state := .busy })).add hf') = (Res.one (w.heap.size + 1) (.loop { rec .ready none with state := .busy })).add (h2.add hf') := by
       rw [← Res.add_assoc, Res.add_comm z1, Res.add_assoc]
      rw [eqq] at t5
      have dC : (Res.one (w.heap.size + 1) (.loop { rec .ready none with state := .busy })).dj (h2.add hf') := Res.dj_add_right.2 ⟨Res.dj_comm z1, dj_one_any dj1⟩
      have t6 := Sat.putObj (o' := .loop (rec (if jump.isNone then .ready else .done) jump)) dC t5
      have dD : (Res.one (w.heap.size + 1) (.loop (rec (if jump.isNone then .ready else .done) jump))).dj (h2.add hf') := dj_one_any dC
      obtain ⟨v1, v2⟩ := Res.dj_add_right.1 dD
      refine ⟨_, ?_, v1, Res.dj_add_left.2 ⟨v2, z2⟩, by rw [Res.add_assoc]; exact t6⟩
      rw [hr, hrec]
     rintro e2 a2 w2 ⟨M2, h2, le2, dj5, t5, q2⟩
     cases e2 with
     | normal =>
       obtain ⟨w3, r1, r2, r3, r4⟩ := fin none M2 h2 w2 le2 dj5 t5
       exact ⟨_, w3, r1, true, M2, _, rfl, Kn.le_trans le1 le2, r3, r4, _, _, r2, rfl, rfl, q2⟩
     | ret =>
       obtain ⟨w3, r1, r2, r3, r4⟩ := fin (some .ret) M2 h2 w2 le2 dj5 t5
       exact ⟨_, w3, r1, false, M2, _, rfl, Kn.le_trans le1 le2, r3, r4, none, _, _, r2, rfl, rfl, q2⟩
     | exit id =>
       obtain ⟨w3, r1, r2, r3, r4⟩ := fin (some (.exit id)) M2 h2 w2 le2 dj5 t5
       exact ⟨_, w3, r1, false, M2, _, rfl, Kn.le_trans le1 le2, r3, r4, some id, _, _, r2, rfl, rfl, q2⟩
     | goto _ => exact q2.elim
     | panic _ => exact q2.elim
     | outgrown => exact q2.elim
   | ret => exact q1.elim
   | exit _ => exact q1.elim
   | goto _ => exact q1.elim
   | panic _ => exact q1.elim
   | outgrown => exact q1.elim
  have sp := it _ _ _ ys
  -- resources
  obtain ⟨dg1, dg2⟩ := Res.dj_add_right.1 dg
  obtain ⟨q1, q2⟩ := Res.dj_add_left.1 dj
  obtain ⟨q3, q4⟩ := Res.dj_add_left.1 q2
  let D : Res := Res.one w.heap.size (.deferred (some []))
  let Lp : Res := Res.one (w.heap.size + 1) (.loop (rec .ready none))
  have dLp : Lp.dj (D.add ((g1.add (kI.add kA)).add hfr)) := one_dj f2
  have dD : D.dj ((g1.add (kI.add kA)).add hfr) := one_dj f1
  obtain ⟨a1, a2⟩ := Res.dj_add_right.1 dLp
  obtain ⟨a3, a4⟩ := Res.dj_add_right.1 a2
  obtain ⟨a5, a6⟩ := Res.dj_add_right.1 a3
  obtain ⟨a7, a8⟩ := Res.dj_add_right.1 a6
  obtain ⟨b3, b4⟩ := Res.dj_add_right.1 dD
  obtain ⟨b5, b6⟩ := Res.dj_add_right.1 b3
  obtain ⟨b7, b8⟩ := Res.dj_add_right.1 b6
  have eqr : Lp.add (D.add ((g1.add (kI.add kA)).add hfr)) = ((Lp.add kI).add kA).add ((D.add g1).add hfr) := by
   funext i
   simp only [Res.add]
   have c1 := b7 i; have c2 := b8 i; have c3 := b5 i; have c4 := dg1 i; have c5 := dg2 i
   revert c1 c2 c3 c4 c5
   cases Lp i <;> cases D i <;> cases g1 i <;> cases kI i <;> cases kA i <;> simp
  have tL' : Sat W1 M (((Lp.add kI).add kA).add ((D.add g1).add hfr)) := by rw [← eqr]; exact tL
  have djr : ((Lp.add kI).add kA).dj ((D.add g1).add hfr) := by
   refine Res.dj_add_left.2 ⟨Res.dj_add_left.2 ⟨?_, ?_⟩, ?_⟩
   · exact Res.dj_add_right.2 ⟨Res.dj_add_right.2 ⟨a1, a5⟩, a4⟩
   · exact Res.dj_add_right.2 ⟨Res.dj_add_right.2 ⟨Res.dj_comm b7, Res.dj_comm dg1⟩, q3⟩
   · exact Res.dj_add_right.2 ⟨Res.dj_add_right.2 ⟨Res.dj_comm b8, Res.dj_comm dg2⟩, q4⟩
  have cc := sp.calls W1 M ((Lp.add kI).add kA) ((D.add g1).add hfr) djr tL' ⟨Lp.add kI, kA, Res.dj_add_left.2 ⟨a8, dIA⟩, rfl, ⟨Lp, kI, a7, rfl, rfl, sI⟩, sA⟩
  have hargs : (Value.func (.yield (w.heap.size + 1)) #[] #[] :: lb).toArray = #[.func (.yield (w.heap.size + 1)) #[] #[]] ++ lb.toArray := by simp
  rw [hargs] at cc
  refine CallsIn.mono (F := WF none) cc ?_
  rintro ee w3 ⟨x, M3, h3, rfl, hx, le3, dj3, t3, s3⟩
  have stN : ∀ (o : Obj) (Gs : List HP) (m : Res), (Res.one (w.heap.size + 1) o).dj m → ((Res.one (w.heap.size + 1) o).add m).dj ((D.add g1).add hfr) → Sat w3 M3 (((Res.one (w.heap.size + 1) o).add m).add ((D.add g1).add hfr)) → SL Gs M3 m → ∀ o' : Obj,
      St n L Gs { a with defers := [{ target := .collected w.heap.size, args := #[] }] ++ a.defers } M3 ((D.add g1).add m) ∧ ((D.add g1).add m).dj hfr ∧ Sat (w3.putObj (w.heap.size + 1) o') M3 (((D.add g1).add m).add hfr) := by
   intro o Gs m dom djm tm sm o'
   obtain ⟨u1, u2⟩ := Res.dj_add_left.1 djm
   obtain ⟨u3, u4⟩ := Res.dj_add_right.1 u2
   obtain ⟨u5, u6⟩ := Res.dj_add_right.1 u3
   obtain ⟨u7, u8⟩ := Res.dj_add_right.1 u1
   refine ⟨⟨fr, D.add g1, m, Res.dj_comm u3, rfl, ?_, sm⟩, Res.dj_add_left.2 ⟨Res.dj_add_left.2 ⟨b4, q1⟩, u4⟩, ?_⟩
   · refine ⟨D, g1, b5, rfl, ⟨w.heap.size, Res.emp, D, Res.emp_dj _, rfl, rfl, D, Res.emp, Res.dj_emp _, (Res.add_emp _).symm, rfl, trivial⟩, SL.mono le3 sd⟩
   · rw [Res.add_assoc] at tm
     have dX : (Res.one (w.heap.size + 1) o).dj (m.add ((D.add g1).add hfr)) := Res.dj_add_right.2 ⟨dom, u1⟩
     have t7 := Sat.putObj (o' := o') dX tm
     have eq7 : m.add ((D.add g1).add hfr) = ((D.add g1).add m).add hfr := by rw [← Res.add_assoc, Res.add_comm u3]
     rw [eq7] at t7
     exact t7.le (Res.le_add_right (by rw [← eq7]; exact dj_one_any dX))
  obtain ⟨x, all⟩ := x
  obtain ⟨hx, hfin⟩ := hx
  dsimp only at hx hfin s3 ⊢
  obtain ⟨m1, m2, dm, e, sm1, sm2⟩ := s3
  subst e
  cases x with
  | none =>
    obtain ⟨o1, o2, do12, e, ho1, so2⟩ := sm1
    have ho1' : o1 = Res.one _ _ := ho1
    subst ho1'
    subst e
    have hb : w3.heap[w.heap.size + 1]? = some (.loop (rec .ready none)) := t3.ow _ _ (by simp [Res.add, Res.one])
    refine ⟨none, _, by have := run_endLoop (P := P) hb (by rw [hrec]; simp); rw [hrec] at this; exact this, ?_⟩
    obtain ⟨v1, v2⟩ := Res.dj_add_left.1 dm
    rw [Res.add_assoc (Res.one _ _) o2 m2] at t3 dj3
    obtain ⟨w1, w2, w4⟩ := stN _ (I all ++ Bs) (o2.add m2) (Res.dj_add_right.2 ⟨do12, v1⟩) dj3 t3 (SL.append v2 so2 sm2) (.loop { rec .ready none with state := .exhausted })
    have := done all (hfin rfl) _ M3 _ w1
    rw [hrec] at w4
    exact ⟨M3, _, le3, w2, w4, this⟩
  | some pre =>
    obtain ⟨j, o1, o2, do12, e, ho1, so2⟩ := sm1
    have ho1' : o1 = Res.one _ _ := ho1
    subst ho1'
    subst e
    have hb : w3.heap[w.heap.size + 1]? = some (.loop (rec .done (some (jc j)))) := t3.ow _ _ (by simp [Res.add, Res.one])
    refine ⟨some (jc j), _, by have := run_endLoop (P := P) hb (by rw [hrec]; simp); rw [hrec] at this; exact this, ?_⟩
    obtain ⟨v1, v2⟩ := Res.dj_add_left.1 dm
    rw [Res.add_assoc (Res.one _ _) o2 m2] at t3 dj3
    obtain ⟨w1, w2, w4⟩ := stN _ (Ix j pre ++ Bs) (o2.add m2) (Res.dj_add_right.2 ⟨do12, v1⟩) dj3 t3 (SL.append v2 so2 sm2) (.loop { rec .done (some (jc j)) with state := .exhausted })
    rw [hrec] at w4
    exact wpIn_mono (stop j pre (hx pre rfl) _ M3 _ w1 _ _ w2 w4) (fun _ _ _ q => lift_le le3 q)
theorem p_rangeFunc {α : Type} {g : Nat} {lb : List Value} {enc : α → List Value} {ok : List α → α → Prop} {stopped : List α → Prop} {As Bs : List HP} {all : List α} {val : Option (List α) → Value}
    (I : List α → List HP) (Ix : Option Nat → List α → List HP) (hc : c = .rangeFunc (rF c) (rP c) (rA c) (rB c))
    (it : Iter P g lb enc ok stopped As Bs all val)
    (hf : ev L (rF c) = some (.func (.func g) #[] lb.toArray))
    (hps : ∀ x, (enc x).length = (rP c).size) (hpn : (rP c).toList.all (fun p => Nat.blt p n) = true)
    (ha : Ent Hs (I [] ++ As))
    (round : ∀ (l : Nat) (pre : List α) (x : α), ok pre x → wc (some l) P n (rA c) (bindL (rP c).toList (enc x) L) (I pre) (asgO (some l) P (rB c) (roundO I Ix (pre ++ [x]))))
    (done : tw n Q .normal L (I all ++ Bs))
    (stop : ∀ (j : Option Nat) (pre : List α), stopped pre → wc none P n (jc j) L (Ix j pre ++ Bs) Q) : wc none P n c L Hs Q := by
 rw [hc]; exact wc_rangeFunc I Ix hf it.toU hps hpn ha round (fun l e => by subst e; exact done) stop
theorem p_rangeFuncU {α : Type} {g : Nat} {lb : List Value} {enc : α → List Value} {ok : List α → α → Prop} {stopped : List α → Prop} {As Bs : List HP} {fin : List α → Prop} {val : Option (List α) → Value}
    (I : List α → List HP) (Ix : Option Nat → List α → List HP) (hc : c = .rangeFunc (rF c) (rP c) (rA c) (rB c))
    (it : IterU P g lb enc ok stopped As Bs fin val)
    (hf : ev L (rF c) = some (.func (.func g) #[] lb.toArray))
    (hps : ∀ x, (enc x).length = (rP c).size) (hpn : (rP c).toList.all (fun p => Nat.blt p n) = true)
    (ha : Ent Hs (I [] ++ As))
    (round : ∀ (l : Nat) (pre : List α) (x : α), ok pre x → wc (some l) P n (rA c) (bindL (rP c).toList (enc x) L) (I pre) (asgO (some l) P (rB c) (roundO I Ix (pre ++ [x]))))
    (done : ∀ all, fin all → tw n Q .normal L (I all ++ Bs))
    (stop : ∀ (j : Option Nat) (pre : List α), stopped pre → wc none P n (jc j) L (Ix j pre ++ Bs) Q) : wc none P n c L Hs Q := by
 rw [hc]; exact wc_rangeFunc I Ix hf it hps hpn ha round done stop
/-- A call of yield. -/
theorem opt_yield {α : Type} {y : Value} {enc : α → List Value} {ok : List α → α → Prop} {J Jx : List α → HP} (ys : YSpec P y enc ok J Jx) (pre : List α) (x : α) (hok : ok pre x) {dst : Option Tmp} {f : Operand} {args : Array Operand} {ts : Array TypeId} (hf : ev L f = some y) (ha : evs L args.toList = some (enc x)) :
    OpT r P n ⟨dst, .call ⟨.value f, args, ts⟩, ty, pos, after, none⟩ A L [J pre] (fun b : Bool => .bool b) (fun _ => True) (fun b => [if b then J (pre ++ [x]) else Jx (pre ++ [x])]) := by
 intro a fr w M h hA hfr dj dj' s sA t
 obtain ⟨l, rfl, hy⟩ := ys
 obtain ⟨k1, k2, dk, e, hj, _⟩ := s
 subst e
 obtain ⟨x1, x2⟩ := Res.dj_add_left.1 dj'
 obtain ⟨x3, x4⟩ := Res.dj_add_left.1 x1
 obtain ⟨y1, y2⟩ := Res.dj_add_left.1 dj
 have t2 : Sat w M (k1.add ((k2.add hA).add hfr)) := by
  have : ((k1.add k2).add hA).add hfr = k1.add ((k2.add hA).add hfr) := by simp only [Res.add_assoc]
  rw [← this]; exact t
 obtain ⟨fn, tmps, assign, body, h1, h2⟩ := hy pre x hok w M k1 ((k2.add hA).add hfr) (Res.dj_add_right.2 ⟨Res.dj_add_right.2 ⟨dk, y1⟩, x3⟩) t2 hj
 have hargs : args.map a.eval = (enc x).toArray := by
  have := fr.evs _ ha
  apply Array.ext'
  simp [this]
 have hrun : (execOp a.eval ⟨dst, .call ⟨.value f, args, ts⟩, ty, pos, after, none⟩).run P w = .ok (.round l fn tmps assign body) w := by
  simp only [execOp, resolve, fr.ev hf, Deferred.ofValue, hargs, Sem.run_bind, Sem.run_pure, Result.andThen_ok, invoke]
  simp [go_sem, h1]
 rw [hrun]
 refine RoundIn.mono (F := WF none) h2 ?_
 rintro e w' ⟨b, M', h', rfl, le, dj3, t3, hb⟩
 obtain ⟨z1, z2⟩ := Res.dj_add_right.1 dj3
 obtain ⟨z3, z4⟩ := Res.dj_add_right.1 z1
 refine ⟨_, rfl, b, M', h', rfl, trivial, le, z4, Res.dj_add_left.2 ⟨z2, x2⟩, ?_, h', Res.emp, Res.dj_emp _, (Res.add_emp _).symm, hb, trivial⟩
 refine t3.le ?_
 intro i o e
 have e1 : ((h'.add hA).add hfr) i = some o := e
 simp only [Res.add] at e1 ⊢
 cases c1 : h' i with
 | some u => rw [c1] at e1; simpa using e1
 | none =>
   rw [c1] at e1
   cases c2 : hA i with
   | some u =>
     rw [c2] at e1
     have := y2 i
     rw [c2] at this
     simp at this
     simp [this]; simpa using e1
   | none =>
     rw [c2] at e1
     have := x4 i
     simp at e1
     rw [e1] at this
     simp at this
     simp [this, e1]
theorem r_yield {α : Type} {y : Value} {enc : α → List Value} {ok : List α → α → Prop} {J Jx : List α → HP} (ys : YSpec P y enc ok J Jx) (pre : List α) (x : α) (hok : ok pre x) {f : Operand} {args : Array Operand} {ts : Array TypeId} (hf : ev L f = some y) (ha : evs L args.toList = some (enc x)) (hd : Nat.blt d n = true)
    {Rs : List HP} [hp : PickC (J pre) Hs Rs] (kt : wo r P n ops os ((d, .bool true) :: L) (J (pre ++ [x]) :: Rs) Q) (kf : wo r P n ops os ((d, .bool false) :: L) (Jx (pre ++ [x]) :: Rs) Q) :
    wo r P n ops (⟨some d, .call ⟨.value f, args, ts⟩, ty, pos, after, none⟩ :: os) L Hs Q := by
 haveI : PicksC [J pre] Hs Rs := ⟨.cons hp.get .nil⟩
 refine wo_opT (by intro c; simp) (opt_yield ys pre x hok hf ha) (by simpa [dstOk] using hd) (fun b _ => ?_)
 cases b
 · exact kf
 · exact kt
end
end
theorem ti3 : Tryz.prog.info? 3 = some Tryz.t3 := by kernel_rfl
instance ui3 : UndC Tryz.prog 3 Tryz.t3.desc := ⟨Tryz.underlying3⟩
instance ii3 : InfC Tryz.prog 3 Tryz.t3 := ⟨ti3⟩
theorem ti4 : Tryz.prog.info? 4 = some Tryz.t4 := by kernel_rfl
instance ui4 : UndC Tryz.prog 4 Tryz.t4.desc := ⟨Tryz.underlying4⟩
instance ii4 : InfC Tryz.prog 4 Tryz.t4 := ⟨ti4⟩
theorem ti5 : Tryz.prog.info? 5 = some Tryz.t5 := by kernel_rfl
instance ui5 : UndC Tryz.prog 5 Tryz.t5.desc := ⟨Tryz.underlying5⟩
instance ii5 : InfC Tryz.prog 5 Tryz.t5 := ⟨ti5⟩
theorem ti9 : Tryz.prog.info? 9 = some Tryz.t9 := by kernel_rfl
instance ui9 : UndC Tryz.prog 9 Tryz.t9.desc := ⟨Tryz.underlying9⟩
instance ii9 : InfC Tryz.prog 9 Tryz.t9 := ⟨ti9⟩
theorem ti25 : Tryz.prog.info? 25 = some Tryz.t25 := by kernel_rfl
instance ui25 : UndC Tryz.prog 25 Tryz.t24.desc := ⟨Tryz.underlying25⟩
instance ii25 : InfC Tryz.prog 25 Tryz.t25 := ⟨ti25⟩
theorem ti26 : Tryz.prog.info? 26 = some Tryz.t26 := by kernel_rfl
instance ui26 : UndC Tryz.prog 26 Tryz.t26.desc := ⟨Tryz.underlying26⟩
instance ii26 : InfC Tryz.prog 26 Tryz.t26 := ⟨ti26⟩
theorem ti27 : Tryz.prog.info? 27 = some Tryz.t27 := by kernel_rfl
instance ui27 : UndC Tryz.prog 27 Tryz.t27.desc := ⟨Tryz.underlying27⟩
instance ii27 : InfC Tryz.prog 27 Tryz.t27 := ⟨ti27⟩
theorem ti28 : Tryz.prog.info? 28 = some Tryz.t28 := by kernel_rfl
instance ui28 : UndC Tryz.prog 28 Tryz.t28.desc := ⟨Tryz.underlying28⟩
instance ii28 : InfC Tryz.prog 28 Tryz.t28 := ⟨ti28⟩
theorem ti30 : Tryz.prog.info? 30 = some Tryz.t30 := by kernel_rfl
instance ui30 : UndC Tryz.prog 30 Tryz.t29.desc := ⟨Tryz.underlying30⟩
instance ii30 : InfC Tryz.prog 30 Tryz.t30 := ⟨ti30⟩
theorem ti31 : Tryz.prog.info? 31 = some Tryz.t31 := by kernel_rfl
instance ui31 : UndC Tryz.prog 31 Tryz.t31.desc := ⟨Tryz.underlying31⟩
instance ii31 : InfC Tryz.prog 31 Tryz.t31 := ⟨ti31⟩
theorem ti47 : Tryz.prog.info? 47 = some Tryz.t47 := by kernel_rfl
instance ui47 : UndC Tryz.prog 47 Tryz.t46.desc := ⟨Tryz.underlying47⟩
instance ii47 : InfC Tryz.prog 47 Tryz.t47 := ⟨ti47⟩
theorem ti56 : Tryz.prog.info? 56 = some Tryz.t56 := by kernel_rfl
instance ui56 : UndC Tryz.prog 56 Tryz.t56.desc := ⟨Tryz.underlying56⟩
instance ii56 : InfC Tryz.prog 56 Tryz.t56 := ⟨ti56⟩
theorem ti60 : Tryz.prog.info? 60 = some Tryz.t60 := by kernel_rfl
instance ui60 : UndC Tryz.prog 60 Tryz.t59.desc := ⟨Tryz.underlying60⟩
instance ii60 : InfC Tryz.prog 60 Tryz.t60 := ⟨ti60⟩
theorem ti63 : Tryz.prog.info? 63 = some Tryz.t63 := by kernel_rfl
instance ui63 : UndC Tryz.prog 63 Tryz.t62.desc := ⟨Tryz.underlying63⟩
instance ii63 : InfC Tryz.prog 63 Tryz.t63 := ⟨ti63⟩
theorem ti64 : Tryz.prog.info? 64 = some Tryz.t64 := by kernel_rfl
instance ui64 : UndC Tryz.prog 64 Tryz.t64.desc := ⟨Tryz.underlying64⟩
instance ii64 : InfC Tryz.prog 64 Tryz.t64 := ⟨ti64⟩
theorem ti70 : Tryz.prog.info? 70 = some Tryz.t70 := by kernel_rfl
instance ui70 : UndC Tryz.prog 70 Tryz.t69.desc := ⟨Tryz.underlying70⟩
instance ii70 : InfC Tryz.prog 70 Tryz.t70 := ⟨ti70⟩
theorem ti71 : Tryz.prog.info? 71 = some Tryz.t71 := by kernel_rfl
instance ui71 : UndC Tryz.prog 71 Tryz.t71.desc := ⟨Tryz.underlying71⟩
instance ii71 : InfC Tryz.prog 71 Tryz.t71 := ⟨ti71⟩
theorem ti87 : Tryz.prog.info? 87 = some Tryz.t87 := by kernel_rfl
instance ui87 : UndC Tryz.prog 87 Tryz.t87.desc := ⟨Tryz.underlying87⟩
instance ii87 : InfC Tryz.prog 87 Tryz.t87 := ⟨ti87⟩
theorem ti90 : Tryz.prog.info? 90 = some Tryz.t90 := by kernel_rfl
instance ui90 : UndC Tryz.prog 90 Tryz.t89.desc := ⟨Tryz.underlying90⟩
instance ii90 : InfC Tryz.prog 90 Tryz.t90 := ⟨ti90⟩
theorem ti94 : Tryz.prog.info? 94 = some Tryz.t94 := by kernel_rfl
instance ui94 : UndC Tryz.prog 94 Tryz.t94.desc := ⟨Tryz.underlying94⟩
instance ii94 : InfC Tryz.prog 94 Tryz.t94 := ⟨ti94⟩
theorem ti95 : Tryz.prog.info? 95 = some Tryz.t95 := by kernel_rfl
instance ui95 : UndC Tryz.prog 95 Tryz.t95.desc := ⟨Tryz.underlying95⟩
instance ii95 : InfC Tryz.prog 95 Tryz.t95 := ⟨ti95⟩
theorem ti96 : Tryz.prog.info? 96 = some Tryz.t96 := by kernel_rfl
instance ui96 : UndC Tryz.prog 96 Tryz.t96.desc := ⟨Tryz.underlying96⟩
instance ii96 : InfC Tryz.prog 96 Tryz.t96 := ⟨ti96⟩
theorem ti97 : Tryz.prog.info? 97 = some Tryz.t97 := by kernel_rfl
instance ui97 : UndC Tryz.prog 97 Tryz.t97.desc := ⟨Tryz.underlying97⟩
instance ii97 : InfC Tryz.prog 97 Tryz.t97 := ⟨ti97⟩
theorem ti99 : Tryz.prog.info? 99 = some Tryz.t99 := by kernel_rfl
instance ui99 : UndC Tryz.prog 99 Tryz.t99.desc := ⟨Tryz.underlying99⟩
instance ii99 : InfC Tryz.prog 99 Tryz.t99 := ⟨ti99⟩
theorem ti101 : Tryz.prog.info? 101 = some Tryz.t101 := by kernel_rfl
instance ui101 : UndC Tryz.prog 101 Tryz.t100.desc := ⟨Tryz.underlying101⟩
instance ii101 : InfC Tryz.prog 101 Tryz.t101 := ⟨ti101⟩
theorem ti125 : Tryz.prog.info? 125 = some Tryz.t125 := by kernel_rfl
instance ui125 : UndC Tryz.prog 125 Tryz.t124.desc := ⟨Tryz.underlying125⟩
instance ii125 : InfC Tryz.prog 125 Tryz.t125 := ⟨ti125⟩
theorem ti137 : Tryz.prog.info? 137 = some Tryz.t137 := by kernel_rfl
instance ui137 : UndC Tryz.prog 137 Tryz.t137.desc := ⟨Tryz.underlying137⟩
instance ii137 : InfC Tryz.prog 137 Tryz.t137 := ⟨ti137⟩
theorem ti138 : Tryz.prog.info? 138 = some Tryz.t138 := by kernel_rfl
instance ui138 : UndC Tryz.prog 138 Tryz.t138.desc := ⟨Tryz.underlying138⟩
instance ii138 : InfC Tryz.prog 138 Tryz.t138 := ⟨ti138⟩
theorem ti140 : Tryz.prog.info? 140 = some Tryz.t140 := by kernel_rfl
instance ui140 : UndC Tryz.prog 140 Tryz.t139.desc := ⟨Tryz.underlying140⟩
instance ii140 : InfC Tryz.prog 140 Tryz.t140 := ⟨ti140⟩
theorem ti144 : Tryz.prog.info? 144 = some Tryz.t144 := by kernel_rfl
instance ui144 : UndC Tryz.prog 144 Tryz.t144.desc := ⟨Tryz.underlying144⟩
instance ii144 : InfC Tryz.prog 144 Tryz.t144 := ⟨ti144⟩
theorem ti146 : Tryz.prog.info? 146 = some Tryz.t146 := by kernel_rfl
instance ui146 : UndC Tryz.prog 146 Tryz.t146.desc := ⟨Tryz.underlying146⟩
instance ii146 : InfC Tryz.prog 146 Tryz.t146 := ⟨ti146⟩
theorem ti162 : Tryz.prog.info? 162 = some Tryz.t162 := by kernel_rfl
instance ui162 : UndC Tryz.prog 162 Tryz.t162.desc := ⟨Tryz.underlying162⟩
instance ii162 : InfC Tryz.prog 162 Tryz.t162 := ⟨ti162⟩
theorem ti170 : Tryz.prog.info? 170 = some Tryz.t170 := by kernel_rfl
instance ui170 : UndC Tryz.prog 170 Tryz.t170.desc := ⟨Tryz.underlying170⟩
instance ii170 : InfC Tryz.prog 170 Tryz.t170 := ⟨ti170⟩
theorem ti192 : Tryz.prog.info? 192 = some Tryz.t192 := by kernel_rfl
instance ui192 : UndC Tryz.prog 192 Tryz.t191.desc := ⟨Tryz.underlying192⟩
instance ii192 : InfC Tryz.prog 192 Tryz.t192 := ⟨ti192⟩
theorem ti193 : Tryz.prog.info? 193 = some Tryz.t193 := by kernel_rfl
instance ui193 : UndC Tryz.prog 193 Tryz.t193.desc := ⟨Tryz.underlying193⟩
instance ii193 : InfC Tryz.prog 193 Tryz.t193 := ⟨ti193⟩
theorem ti206 : Tryz.prog.info? 206 = some Tryz.t206 := by kernel_rfl
instance ui206 : UndC Tryz.prog 206 Tryz.t3.desc := ⟨Tryz.underlying206⟩
instance ii206 : InfC Tryz.prog 206 Tryz.t206 := ⟨ti206⟩
theorem ti220 : Tryz.prog.info? 220 = some Tryz.t220 := by kernel_rfl
instance ui220 : UndC Tryz.prog 220 Tryz.t100.desc := ⟨Tryz.underlying220⟩
instance ii220 : InfC Tryz.prog 220 Tryz.t220 := ⟨ti220⟩
theorem ti223 : Tryz.prog.info? 223 = some Tryz.t223 := by kernel_rfl
instance ui223 : UndC Tryz.prog 223 Tryz.t223.desc := ⟨Tryz.underlying223⟩
instance ii223 : InfC Tryz.prog 223 Tryz.t223 := ⟨ti223⟩
theorem ti225 : Tryz.prog.info? 225 = some Tryz.t225 := by kernel_rfl
instance ui225 : UndC Tryz.prog 225 Tryz.t224.desc := ⟨Tryz.underlying225⟩
instance ii225 : InfC Tryz.prog 225 Tryz.t225 := ⟨ti225⟩
theorem ti253 : Tryz.prog.info? 253 = some Tryz.t253 := by kernel_rfl
instance ui253 : UndC Tryz.prog 253 Tryz.t96.desc := ⟨Tryz.underlying253⟩
instance ii253 : InfC Tryz.prog 253 Tryz.t253 := ⟨ti253⟩
theorem ti257 : Tryz.prog.info? 257 = some Tryz.t257 := by kernel_rfl
instance ui257 : UndC Tryz.prog 257 Tryz.t257.desc := ⟨Tryz.underlying257⟩
instance ii257 : InfC Tryz.prog 257 Tryz.t257 := ⟨ti257⟩
theorem ti263 : Tryz.prog.info? 263 = some Tryz.t263 := by kernel_rfl
instance ui263 : UndC Tryz.prog 263 Tryz.t263.desc := ⟨Tryz.underlying263⟩
instance ii263 : InfC Tryz.prog 263 Tryz.t263 := ⟨ti263⟩
theorem ti278 : Tryz.prog.info? 278 = some Tryz.t278 := by kernel_rfl
instance ui278 : UndC Tryz.prog 278 Tryz.t278.desc := ⟨Tryz.underlying278⟩
instance ii278 : InfC Tryz.prog 278 Tryz.t278 := ⟨ti278⟩
theorem ti280 : Tryz.prog.info? 280 = some Tryz.t280 := by kernel_rfl
instance ui280 : UndC Tryz.prog 280 Tryz.t280.desc := ⟨Tryz.underlying280⟩
instance ii280 : InfC Tryz.prog 280 Tryz.t280 := ⟨ti280⟩
end Go.Proofs.YtdnoacgopfcpbaaGreat
/- The library's contracts at this translation, printed by the kit's tools; remarks taken out. -/
namespace Go.Proofs
open Go.Shelf
def Tryz.lays125_ren : Go.Shelf.Ren := ⟨fun | 125 => 101 | 128 => 146 | 129 => 147 | n => n, fun | 46 => 97 | 3 => 3 | 51 => 94 | 53 => 96 | 4 => 4 | 5 => 5 | 9 => 9 | n => n, fun | n => n⟩
theorem Tryz.lays125 : Go.Proofs.Lays.n125 Tryz.prog Tryz.lays125_ren := {
 mixed := by kernel_rfl
 f125 := Tryz.func101.trans (congrArg some (by kernel_rfl))
 f128 := Tryz.func146.trans (congrArg some (by kernel_rfl))
 f129 := Tryz.func147.trans (congrArg some (by kernel_rfl))
 t3 := Tryz.underlying3
 a3 := Tryz.isAgg3
 z3 := Tryz.sizeOf3
 v3 := Tryz.zeroValue3
 t4 := Tryz.underlying4
 a4 := Tryz.isAgg4
 z4 := Tryz.sizeOf4
 v4 := Tryz.zeroValue4
 t5 := Tryz.underlying5
 a5 := Tryz.isAgg5
 z5 := Tryz.sizeOf5
 v5 := Tryz.zeroValue5
 t9 := Tryz.underlying9
 a9 := Tryz.isAgg9
 z9 := Tryz.sizeOf9
 v9 := Tryz.zeroValue9
 t46 := Tryz.underlying97
 a46 := Tryz.isAgg97
 z46 := Tryz.sizeOf97
 v46 := Tryz.zeroValue97
 t51 := Tryz.underlying94
 a51 := Tryz.isAgg94
 z51 := Tryz.sizeOf94
 v51 := Tryz.zeroValue94
 t53 := Tryz.underlying96
 a53 := Tryz.isAgg96
 z53 := Tryz.sizeOf96
 v53 := Tryz.zeroValue96 }
theorem Tryz.bits_Len (x : Int) (w : World) (h0 : 0 ≤ x) (h1 : x ≤ 18446744073709551615) :
    Calls Tryz.prog 101 #[.int .u64 x] w fun e w' => e = .returned (.int .i64 (Lib.bitLen x.toNat)) ∧ w' = w := Any.bits_Len Tryz.lays125 x w h0 h1
def Tryz.lays137_ren : Go.Shelf.Ren := ⟨fun | 137 => 229 | 217 => 237 | 266 => 245 | n => n, fun | 9 => 9 | 5 => 5 | 3 => 3 | n => n, fun | n => n⟩
theorem Tryz.lays137 : Go.Proofs.Lays.n137 Tryz.prog Tryz.lays137_ren := {
 mixed := by kernel_rfl
 f137 := Tryz.func229.trans (congrArg some (by kernel_rfl))
 f217 := Tryz.func237.trans (congrArg some (by kernel_rfl))
 f266 := Tryz.func245.trans (congrArg some (by kernel_rfl))
 t3 := Tryz.underlying3
 a3 := Tryz.isAgg3
 z3 := Tryz.sizeOf3
 v3 := Tryz.zeroValue3
 t5 := Tryz.underlying5
 a5 := Tryz.isAgg5
 z5 := Tryz.sizeOf5
 v5 := Tryz.zeroValue5
 t9 := Tryz.underlying9
 a9 := Tryz.isAgg9
 z9 := Tryz.sizeOf9
 v9 := Tryz.zeroValue9 }
open Go.RowKit in
theorem Tryz.strings_IndexByte (s : ByteArray) (c : Int) (w : World) :
    Calls Tryz.prog 229 #[.string s, .int .u8 c] w fun e w' => e = .returned (.int .i64 (Lib.indexByte s.data.toList c.toNat.toUInt8)) ∧ w' = w := Any.strings_IndexByte Tryz.lays137 s c w
def Tryz.lays219_ren : Go.Shelf.Ren := ⟨fun | 219 => 225 | 217 => 237 | 225 => 238 | 224 => 239 | 267 => 240 | 266 => 245 | 314 => 246 | n => n, fun | 9 => 9 | 3 => 3 | 4 => 4 | 5 => 5 | 46 => 97 | 146 => 287 | 51 => 94 | n => n, fun | 1 => 0 | n => n⟩
theorem Tryz.lays219 : Go.Proofs.Lays.n219 Tryz.prog Tryz.lays219_ren := {
 mixed := by kernel_rfl
 f217 := Tryz.func237.trans (congrArg some (by kernel_rfl))
 f219 := Tryz.func225.trans (congrArg some (by kernel_rfl))
 f224 := Tryz.func239.trans (congrArg some (by kernel_rfl))
 f225 := Tryz.func238.trans (congrArg some (by kernel_rfl))
 f266 := Tryz.func245.trans (congrArg some (by kernel_rfl))
 f267 := Tryz.func240.trans (congrArg some (by kernel_rfl))
 f314 := Tryz.func246.trans (congrArg some (by kernel_rfl))
 t3 := Tryz.underlying3
 a3 := Tryz.isAgg3
 z3 := Tryz.sizeOf3
 v3 := Tryz.zeroValue3
 t4 := Tryz.underlying4
 a4 := Tryz.isAgg4
 z4 := Tryz.sizeOf4
 v4 := Tryz.zeroValue4
 t5 := Tryz.underlying5
 a5 := Tryz.isAgg5
 z5 := Tryz.sizeOf5
 v5 := Tryz.zeroValue5
 t9 := Tryz.underlying9
 a9 := Tryz.isAgg9
 z9 := Tryz.sizeOf9
 v9 := Tryz.zeroValue9
 t46 := Tryz.underlying97
 a46 := Tryz.isAgg97
 z46 := Tryz.sizeOf97
 v46 := Tryz.zeroValue97
 t51 := Tryz.underlying94
 a51 := Tryz.isAgg94
 z51 := Tryz.sizeOf94
 v51 := Tryz.zeroValue94
 t146 := Tryz.underlying287
 a146 := Tryz.isAgg287
 z146 := Tryz.sizeOf287
 v146 := Tryz.zeroValue287
 g1 := by kernel_rfl }
open Go.RowKit Go.Lib in
theorem Tryz.stringslite_Index_one (s : ByteArray) (c : UInt8) (w : World) :
    Calls Tryz.prog 225 #[.string s, .string ⟨#[c]⟩] w fun e w' => e = .returned (.int .i64 (Lib.indexByte s.data.toList c)) ∧ w' = w := Any.stringslite_Index_one Tryz.lays219 s c w
def Tryz.lays144_ren : Go.Shelf.Ren := ⟨fun | 144 => 226 | 143 => 241 | 219 => 225 | 217 => 237 | 225 => 238 | 224 => 239 | 267 => 240 | 266 => 245 | 314 => 246 | n => n, fun | 9 => 9 | 4 => 4 | 3 => 3 | 5 => 5 | 46 => 97 | 146 => 287 | 51 => 94 | n => n, fun | 1 => 0 | n => n⟩
theorem Tryz.lays144 : Go.Proofs.Lays.n144 Tryz.prog Tryz.lays144_ren := {
 mixed := by kernel_rfl
 f143 := Tryz.func241.trans (congrArg some (by kernel_rfl))
 f144 := Tryz.func226.trans (congrArg some (by kernel_rfl))
 f217 := Tryz.func237.trans (congrArg some (by kernel_rfl))
 f219 := Tryz.func225.trans (congrArg some (by kernel_rfl))
 f224 := Tryz.func239.trans (congrArg some (by kernel_rfl))
 f225 := Tryz.func238.trans (congrArg some (by kernel_rfl))
 f266 := Tryz.func245.trans (congrArg some (by kernel_rfl))
 f267 := Tryz.func240.trans (congrArg some (by kernel_rfl))
 f314 := Tryz.func246.trans (congrArg some (by kernel_rfl))
 t3 := Tryz.underlying3
 a3 := Tryz.isAgg3
 z3 := Tryz.sizeOf3
 v3 := Tryz.zeroValue3
 t4 := Tryz.underlying4
 a4 := Tryz.isAgg4
 z4 := Tryz.sizeOf4
 v4 := Tryz.zeroValue4
 t5 := Tryz.underlying5
 a5 := Tryz.isAgg5
 z5 := Tryz.sizeOf5
 v5 := Tryz.zeroValue5
 t9 := Tryz.underlying9
 a9 := Tryz.isAgg9
 z9 := Tryz.sizeOf9
 v9 := Tryz.zeroValue9
 t46 := Tryz.underlying97
 a46 := Tryz.isAgg97
 z46 := Tryz.sizeOf97
 v46 := Tryz.zeroValue97
 t51 := Tryz.underlying94
 a51 := Tryz.isAgg94
 z51 := Tryz.sizeOf94
 v51 := Tryz.zeroValue94
 t146 := Tryz.underlying287
 a146 := Tryz.isAgg287
 z146 := Tryz.sizeOf287
 v146 := Tryz.zeroValue287
 g1 := by kernel_rfl }
open Go.RowKit Go.Lib in
theorem Tryz.strings_Contains_one (s : ByteArray) (c : UInt8) (w : World) :
    Calls Tryz.prog 226 #[.string s, .string ⟨#[c]⟩] w fun e w' => e = .returned (.bool (decide (0 ≤ Lib.indexByte s.data.toList c))) ∧ w' = w := Any.strings_Contains_one Tryz.lays144 s c w
def Tryz.lays190_ren : Go.Shelf.Ren := ⟨fun | 190 => 85 | 125 => 101 | 258 => 132 | 128 => 146 | 129 => 147 | 302 => 181 | 303 => 182 | 304 => 183 | 305 => 184 | 306 => 185 | 307 => 186 | 308 => 187 | 309 => 188 | 310 => 189 | 333 => 218 | 329 => 193 | 330 => 194 | 334 => 219 | 335 => 220 | 336 => 102 | 344 => 233 | n => n, fun | 31 => 27 | 9 => 9 | 3 => 3 | 46 => 97 | 0 => 0 | 51 => 94 | 53 => 96 | 4 => 4 | 183 => 207 | 182 => 206 | 131 => 167 | 5 => 5 | 218 => 253 | 222 => 257 | 228 => 273 | 229 => 274 | n => n, fun | n => n⟩
theorem Tryz.lays190 : Go.Proofs.Lays.n190 Tryz.prog Tryz.lays190_ren := {
 mixed := by kernel_rfl
 f125 := Tryz.func101.trans (congrArg some (by kernel_rfl))
 f128 := Tryz.func146.trans (congrArg some (by kernel_rfl))
 f129 := Tryz.func147.trans (congrArg some (by kernel_rfl))
 f190 := Tryz.func85.trans (congrArg some (by kernel_rfl))
 f258 := Tryz.func132.trans (congrArg some (by kernel_rfl))
 f302 := Tryz.func181.trans (congrArg some (by kernel_rfl))
 f303 := Tryz.func182.trans (congrArg some (by kernel_rfl))
 f304 := Tryz.func183.trans (congrArg some (by kernel_rfl))
 f305 := Tryz.func184.trans (congrArg some (by kernel_rfl))
 f306 := Tryz.func185.trans (congrArg some (by kernel_rfl))
 f307 := Tryz.func186.trans (congrArg some (by kernel_rfl))
 f308 := Tryz.func187.trans (congrArg some (by kernel_rfl))
 f309 := Tryz.func188.trans (congrArg some (by kernel_rfl))
 f310 := Tryz.func189.trans (congrArg some (by kernel_rfl))
 f329 := Tryz.func193.trans (congrArg some (by kernel_rfl))
 f330 := Tryz.func194.trans (congrArg some (by kernel_rfl))
 f333 := Tryz.func218.trans (congrArg some (by kernel_rfl))
 f334 := Tryz.func219.trans (congrArg some (by kernel_rfl))
 f335 := Tryz.func220.trans (congrArg some (by kernel_rfl))
 f336 := Tryz.func102.trans (congrArg some (by kernel_rfl))
 f344 := Tryz.func233.trans (congrArg some (by kernel_rfl))
 t0 := Tryz.underlying0
 a0 := Tryz.isAgg0
 z0 := Tryz.sizeOf0
 v0 := Tryz.zeroValue0
 t3 := Tryz.underlying3
 a3 := Tryz.isAgg3
 z3 := Tryz.sizeOf3
 v3 := Tryz.zeroValue3
 t4 := Tryz.underlying4
 a4 := Tryz.isAgg4
 z4 := Tryz.sizeOf4
 v4 := Tryz.zeroValue4
 t5 := Tryz.underlying5
 a5 := Tryz.isAgg5
 z5 := Tryz.sizeOf5
 v5 := Tryz.zeroValue5
 t9 := Tryz.underlying9
 a9 := Tryz.isAgg9
 z9 := Tryz.sizeOf9
 v9 := Tryz.zeroValue9
 t31 := Tryz.underlying27
 a31 := Tryz.isAgg27
 z31 := Tryz.sizeOf27
 v31 := Tryz.zeroValue27
 t46 := Tryz.underlying97
 a46 := Tryz.isAgg97
 z46 := Tryz.sizeOf97
 v46 := Tryz.zeroValue97
 t51 := Tryz.underlying94
 a51 := Tryz.isAgg94
 z51 := Tryz.sizeOf94
 v51 := Tryz.zeroValue94
 t53 := Tryz.underlying96
 a53 := Tryz.isAgg96
 z53 := Tryz.sizeOf96
 v53 := Tryz.zeroValue96
 t131 := Tryz.underlying167
 a131 := Tryz.isAgg167
 z131 := Tryz.sizeOf167
 v131 := Tryz.zeroValue167
 t182 := Tryz.underlying206
 a182 := Tryz.isAgg206
 z182 := Tryz.sizeOf206
 v182 := Tryz.zeroValue206
 t183 := Tryz.underlying207
 a183 := Tryz.isAgg207
 z183 := Tryz.sizeOf207
 v183 := Tryz.zeroValue207
 t218 := Tryz.underlying253
 a218 := Tryz.isAgg253
 z218 := Tryz.sizeOf253
 v218 := Tryz.zeroValue253
 t222 := Tryz.underlying257
 a222 := Tryz.isAgg257
 z222 := Tryz.sizeOf257
 v222 := Tryz.zeroValue257
 t228 := Tryz.underlying273
 a228 := Tryz.isAgg273
 z228 := Tryz.sizeOf273
 v228 := Tryz.zeroValue273
 t229 := Tryz.underlying274
 a229 := Tryz.isAgg274
 z229 := Tryz.sizeOf274
 v229 := Tryz.zeroValue274 }
open Go.Sort Go.RowKit in
theorem Tryz.slices_Sort_string (blk off cap : Nat) (ss : List (List UInt8)) (w : World) (hH : Holds encStr w blk off ss.toArray) (hblk : blk < w.heap.size) (hsz : ss.length < 4611686018427387904) :
    Calls Tryz.prog 85 #[.slice (some ⟨blk, off, none⟩) ss.length cap] w fun e w' =>
     e = .returned (.tuple #[]) ∧ ∃ n os, w' = grow (putRow encStr (Sort.ahead w n) blk off (ss.mergeSort fun x y => decide (x ≤ y)).toArray) os := Any.slices_Sort_string Tryz.lays190 blk off cap ss w hH hblk hsz
def Tryz.lays101_ren : Go.Shelf.Ren := ⟨fun | 101 => 108 | 208 => 158 | 206 => 205 | n => n, fun | 9 => 9 | 4 => 4 | 3 => 3 | n => n, fun | n => n⟩
theorem Tryz.lays101 : Go.Proofs.Lays.n101 Tryz.prog Tryz.lays101_ren := {
 mixed := by kernel_rfl
 f101 := Tryz.func108.trans (congrArg some (by kernel_rfl))
 f206 := Tryz.func205.trans (congrArg some (by kernel_rfl))
 f208 := Tryz.func158.trans (congrArg some (by kernel_rfl))
 t3 := Tryz.underlying3
 a3 := Tryz.isAgg3
 z3 := Tryz.sizeOf3
 v3 := Tryz.zeroValue3
 t4 := Tryz.underlying4
 a4 := Tryz.isAgg4
 z4 := Tryz.sizeOf4
 v4 := Tryz.zeroValue4
 t9 := Tryz.underlying9
 a9 := Tryz.isAgg9
 z9 := Tryz.sizeOf9
 v9 := Tryz.zeroValue9 }
open Go.RowKit Go.Lib in
theorem Tryz.strings_TrimPrefix (s p : ByteArray) (w : World) :
    Calls Tryz.prog 108 #[.string s, .string p] w fun e w' => e = .returned (.string ⟨(Lib.trimPrefix s.data.toList p.data.toList).toArray⟩) ∧ w' = w := Any.strings_TrimPrefix Tryz.lays101 s p w
end Go.Proofs
namespace Go.Proofs.YtdnoacgopfcpbaaGreat
section
open Go.RowKit (Below)
theorem IndexByte_sp (l : List UInt8) (c : Int) : SpF Tryz.prog 229 [vS l, vU c] (vI (Lib.indexByte l c.toNat.toUInt8)) :=
 SpF.of_same Tryz.call229 fun w => Tryz.strings_IndexByte ⟨⟨l⟩⟩ c w
end
end Go.Proofs.YtdnoacgopfcpbaaGreat
