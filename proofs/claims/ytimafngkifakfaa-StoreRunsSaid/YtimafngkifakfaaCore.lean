/- A small separation logic over the walk's predicates: resources, assertions, code. -/
import Derived.RangeFuncLeaves
import Derived.RangeFuncRecord
import Derived.KernelRfl
set_option linter.unusedVariables false
set_option linter.unusedSimpArgs false
namespace Go.Proofs.Ytimafngkifakfaa

theorem nbeq {a b : Nat} (h : a ≠ b) : Nat.beq a b = false := by
  cases e : Nat.beq a b with
  | false => rfl
  | true => exact absurd (Nat.eq_of_beq_eq_true e) h
theorem nbeq_self (a : Nat) : Nat.beq a a = true := Nat.beq_refl a

/-- Parts of memory. -/
abbrev Res := Nat → Option Obj
namespace Res
def emp : Res := fun _ => none
def one (b : Nat) (o : Obj) : Res := fun i => if i = b then some o else none
def add (h k : Res) : Res := fun i => match h i with | some o => some o | none => k i
def dj (h k : Res) : Prop := ∀ i, h i = none ∨ k i = none
def le (h k : Res) : Prop := ∀ i o, h i = some o → k i = some o

theorem le_refl (h : Res) : h.le h := fun _ _ e => e
theorem le_trans {a b c : Res} (h : a.le b) (k : b.le c) : a.le c := fun i o e => k i o (h i o e)
theorem dj_comm {h k : Res} (d : h.dj k) : k.dj h := fun i => (d i).symm
theorem dj_emp (h : Res) : h.dj emp := fun _ => .inr rfl
theorem emp_dj (h : Res) : emp.dj h := fun _ => .inl rfl
theorem add_emp (h : Res) : h.add emp = h := by funext i; simp only [add, emp]; cases h i <;> rfl
theorem emp_add (h : Res) : emp.add h = h := rfl
theorem add_comm {h k : Res} (d : h.dj k) : h.add k = k.add h := by
  funext i; rcases d i with e | e <;> simp only [add, e] <;> (try (cases k i <;> rfl)) <;> (cases h i <;> rfl)
theorem add_assoc (a b c : Res) : (a.add b).add c = a.add (b.add c) := by
  funext i; simp only [add]; cases a i <;> rfl
theorem add_none {h k : Res} {i : Nat} : h.add k i = none ↔ h i = none ∧ k i = none := by
  simp only [add]; cases e : h i <;> simp
theorem dj_add_left {a b c : Res} : (a.add b).dj c ↔ a.dj c ∧ b.dj c := by
  constructor
  · intro d; exact ⟨fun i => (d i).imp (fun e => (add_none.1 e).1) id, fun i => (d i).imp (fun e => (add_none.1 e).2) id⟩
  · rintro ⟨d, e⟩ i
    rcases d i with x | x
    · rcases e i with y | y
      · exact .inl (add_none.2 ⟨x, y⟩)
      · exact .inr y
    · exact .inr x
theorem dj_add_right {a b c : Res} : a.dj (b.add c) ↔ a.dj b ∧ a.dj c :=
  ⟨fun d => let ⟨x, y⟩ := dj_add_left.1 (dj_comm d); ⟨dj_comm x, dj_comm y⟩, fun ⟨x, y⟩ => dj_comm (dj_add_left.2 ⟨dj_comm x, dj_comm y⟩)⟩
theorem le_add_left (h k : Res) : h.le (h.add k) := fun i o e => by simp [add, e]
theorem le_add_right {h k : Res} (d : h.dj k) : k.le (h.add k) := fun i o e => by
  rcases d i with x | x
  · simp [add, x, e]
  · rw [x] at e; cases e
theorem one_same (b : Nat) (o : Obj) : one b o b = some o := by simp [one]
theorem one_other {b i : Nat} (o : Obj) (h : i ≠ b) : one b o i = none := by simp [one, h]
end Res

/-- What is known for good: blocks that never turn any more; the world in which it all began. -/
structure Kn where
  im : Res
  g : World
def Kn.le (M M' : Kn) : Prop := M.im.le M'.im ∧ M.g = M'.g
theorem Kn.le_refl (M : Kn) : M.le M := ⟨Res.le_refl _, rfl⟩
theorem Kn.le_trans {a b c : Kn} (h : a.le b) (k : b.le c) : a.le c := ⟨Res.le_trans h.1 k.1, h.2.trans k.2⟩

/-- An assertion: on what never turns any more (M), and on what one has for oneself (h). -/
structure HP where
  at_ : Kn → Res → Prop
  mono : ∀ {M M' : Kn} {h : Res}, M.le M' → at_ M h → at_ M' h

def SL : List HP → Kn → Res → Prop
  | [], _, _ => True
  | A :: r, M, h => ∃ h1 h2 : Res, h1.dj h2 ∧ h = h1.add h2 ∧ A.at_ M h1 ∧ SL r M h2

theorem SL.mono {Hs : List HP} {M M' : Kn} {h : Res} (le : M.le M') (s : SL Hs M h) : SL Hs M' h := by
  induction Hs generalizing h with
  | nil => trivial
  | cons A r ih => obtain ⟨h1, h2, d, e, a, t⟩ := s; exact ⟨h1, h2, d, e, A.mono le a, ih t⟩

def Pers (A : HP) : Prop := ∀ {M : Kn} {h : Res}, A.at_ M h → A.at_ M Res.emp

inductive Pick (A : HP) : List HP → List HP → Prop
  | here {r : List HP} : Pick A (A :: r) r
  | keep {r : List HP} (p : Pers A) : Pick A (A :: r) (A :: r)
  | there {B : HP} {r s : List HP} : Pick A r s → Pick A (B :: r) (B :: s)

theorem Pick.sat {A : HP} {Hs Rs : List HP} (p : Pick A Hs Rs) : ∀ {M : Kn} {h : Res}, SL Hs M h →
    ∃ h1 h2 : Res, h1.dj h2 ∧ h = h1.add h2 ∧ A.at_ M h1 ∧ SL Rs M h2 := by
  induction p with
  | here => intro M h s; exact s
  | keep p =>
    intro M h s
    have s' := s
    obtain ⟨h1, h2, d, e, a, t⟩ := s
    exact ⟨Res.emp, h, Res.emp_dj _, (Res.emp_add _).symm, p a, s'⟩
  | @there B r s' _ ih =>
    intro M h s
    obtain ⟨h1, h2, d, e, b, t⟩ := s
    obtain ⟨k1, k2, d', e', a, t'⟩ := ih t
    subst e'
    obtain ⟨d1, d2⟩ := Res.dj_add_right.1 d
    refine ⟨k1, h1.add k2, Res.dj_add_right.2 ⟨Res.dj_comm d1, d'⟩, ?_, a, h1, k2, d2, rfl, b, t'⟩
    rw [e, ← Res.add_assoc, Res.add_comm d1, Res.add_assoc]

inductive Picks : List HP → List HP → List HP → Prop
  | nil {Hs : List HP} : Picks [] Hs Hs
  | cons {A : HP} {As Hs R1 Rs : List HP} : Pick A Hs R1 → Picks As R1 Rs → Picks (A :: As) Hs Rs

theorem Picks.sat {As Hs Rs : List HP} (p : Picks As Hs Rs) : ∀ {M : Kn} {h : Res}, SL Hs M h →
    ∃ h1 h2 : Res, h1.dj h2 ∧ h = h1.add h2 ∧ SL As M h1 ∧ SL Rs M h2 := by
  induction p with
  | nil => intro M h s; exact ⟨Res.emp, h, Res.emp_dj _, (Res.emp_add _).symm, trivial, s⟩
  | cons p _ ih =>
    intro M h s
    obtain ⟨h1, h2, d, e, a, t⟩ := p.sat s
    obtain ⟨k1, k2, d', e', t1, t2⟩ := ih t
    subst e'
    obtain ⟨d1, d2⟩ := Res.dj_add_right.1 d
    exact ⟨h1.add k1, k2, Res.dj_add_left.2 ⟨d2, d'⟩, by rw [e, Res.add_assoc], ⟨h1, k1, d1, rfl, a, t1⟩, t2⟩

/-- More than is needed does no harm. -/
theorem SL.more {As : List HP} : ∀ {M : Kn} {h1 h2 : Res}, h1.dj h2 → SL As M h2 → SL As M (h1.add h2) := by
  induction As with
  | nil => intros; trivial
  | cons B r ih =>
    intro M h1 h2 d s
    obtain ⟨k1, k2, d', e', b, t'⟩ := s
    subst e'
    obtain ⟨d1, d2⟩ := Res.dj_add_right.1 d
    exact ⟨k1, h1.add k2, Res.dj_add_right.2 ⟨Res.dj_comm d1, d'⟩, by rw [← Res.add_assoc, Res.add_comm d1, Res.add_assoc], b, ih d2 t'⟩
theorem SL.append {As Bs : List HP} {M : Kn} {h1 h2 : Res} (d : h1.dj h2) (s : SL As M h1) (t : SL Bs M h2) : SL (As ++ Bs) M (h1.add h2) := by
  induction As generalizing h1 with
  | nil => exact SL.more d t
  | cons A r ih =>
    obtain ⟨k1, k2, d', e', a, t'⟩ := s
    subst e'
    obtain ⟨d1, d2⟩ := Res.dj_add_left.1 d
    exact ⟨k1, k2.add h2, Res.dj_add_right.2 ⟨d', d1⟩, by rw [Res.add_assoc], a, ih d2 t'⟩

/-- One list of assertions gives another. -/
structure Ent (Hs Gs : List HP) : Prop where
  go : ∀ {M : Kn} {h : Res}, SL Hs M h → SL Gs M h
instance {Hs Gs : List HP} : CoeFun (Ent Hs Gs) (fun _ => ∀ {M : Kn} {h : Res}, SL Hs M h → SL Gs M h) := ⟨fun e => e.go⟩

theorem Picks.ent {As Hs Rs : List HP} (p : Picks As Hs Rs) : Ent Hs (As ++ Rs) := ⟨fun s => by
  obtain ⟨h1, h2, d, e, a, t⟩ := p.sat s
  subst e
  exact SL.append d a t⟩
theorem Ent.refl (Hs : List HP) : Ent Hs Hs := ⟨fun s => s⟩
theorem Ent.trans {a b c : List HP} (h : Ent a b) (k : Ent b c) : Ent a c := ⟨fun s => k (h s)⟩
theorem SL.drop {As Rs : List HP} {M : Kn} {h : Res} (s : SL (As ++ Rs) M h) : SL As M h := by
  induction As generalizing h with
  | nil => trivial
  | cons A r ih => obtain ⟨h1, h2, d, e, a, t⟩ := s; exact ⟨h1, h2, d, e, a, ih t⟩
theorem Picks.drop {As Hs Rs : List HP} (p : Picks As Hs Rs) : Ent Hs As := ⟨fun s => SL.drop (p.ent s)⟩
theorem SL.split {As Bs : List HP} {M : Kn} {h : Res} (s : SL (As ++ Bs) M h) : ∃ h1 h2 : Res, h1.dj h2 ∧ h = h1.add h2 ∧ SL As M h1 ∧ SL Bs M h2 := by
  induction As generalizing h with
  | nil => exact ⟨Res.emp, h, Res.emp_dj _, rfl, trivial, s⟩
  | cons A r ih =>
    obtain ⟨h1, h2, d, e, a, t⟩ := s
    obtain ⟨k1, k2, d', e', t1, t2⟩ := ih t
    subst e'
    obtain ⟨d1, d2⟩ := Res.dj_add_right.1 d
    exact ⟨h1.add k1, k2, Res.dj_add_left.2 ⟨d2, d'⟩, by rw [e, Res.add_assoc], ⟨h1, k1, d1, rfl, a, t1⟩, t2⟩
theorem Ent.frame {As Bs : List HP} (h : Ent As Bs) (Rs : List HP) : Ent (As ++ Rs) (Bs ++ Rs) := ⟨fun s => by
  obtain ⟨h1, h2, d, e, a, t⟩ := SL.split s
  subst e
  exact SL.append d (h a) t⟩

/-! Assertions. -/
/-- A block that one has for oneself. -/
def Blk (b : Nat) (o : Obj) : HP := ⟨fun _ h => h = Res.one b o, fun _ e => e⟩
/-- A block that never turns any more. -/
def Im (b : Nat) (o : Obj) : HP := ⟨fun M _ => M.im b = some o, fun le e => le.1 _ _ e⟩
def Pu (p : Prop) : HP := ⟨fun _ _ => p, fun _ e => e⟩
def Ex {X : Type} (f : X → HP) : HP := ⟨fun M h => ∃ x, (f x).at_ M h, fun le ⟨x, e⟩ => ⟨x, (f x).mono le e⟩⟩
/-- Several as one. -/
def Al (Hs : List HP) : HP := ⟨SL Hs, fun le e => SL.mono le e⟩
theorem Im.pers (b : Nat) (o : Obj) : Pers (Im b o) := fun e => e
theorem Pu.pers (p : Prop) : Pers (Pu p) := fun e => e

/-- Nothing but memory has turned. -/
structure Env (g w : World) : Prop where
  os : w.os = g.os
  tape : w.tape = g.tape
  output : w.output = g.output
  size : g.heap.size ≤ w.heap.size
theorem Env.refl (w : World) : Env w w := ⟨rfl, rfl, rfl, Nat.le_refl _⟩
theorem Env.trans {a b c : World} (h : Env a b) (k : Env b c) : Env a c := ⟨k.os.trans h.os, k.tape.trans h.tape, k.output.trans h.output, Nat.le_trans h.size k.size⟩

/-- The world holds what is known, and what one has. -/
structure Sat (w : World) (M : Kn) (h : Res) : Prop where
  im : ∀ b o, M.im b = some o → w.heap[b]? = some o
  ow : ∀ b o, h b = some o → w.heap[b]? = some o
  dj : M.im.dj h
  env : Env M.g w

theorem Sat.le {w : World} {M : Kn} {h h' : Res} (s : Sat w M h) (l : h'.le h) : Sat w M h' :=
  ⟨s.im, fun b o e => s.ow b o (l b o e), fun i => (s.dj i).imp id (fun e => by
    cases e' : h' i with
    | none => rfl
    | some o => rw [l i o e'] at e; cases e), s.env⟩
theorem Sat.imle {w : World} {M M' : Kn} {h : Res} (s : Sat w M' h) (l : M.le M') : Sat w M h :=
  ⟨fun b o e => s.im b o (l.1 b o e), s.ow, fun i => (s.dj i).imp (fun e => by
    cases e' : M.im i with
    | none => rfl
    | some o => rw [l.1 i o e'] at e; cases e) id, by rw [l.2]; exact s.env⟩

/-! Frames: slots and what they hold, the newest first. -/
abbrev Loc := List (Nat × Value)
def lk : Loc → Nat → Option Value
  | [], _ => none
  | (j, v) :: r, i => bif Nat.beq j i then some v else lk r i

def Fr (n : Nat) (L : Loc) (a : Act) : Prop := n ≤ a.tmps.size ∧ ∀ i v, lk L i = some v → a.tmps[i]? = some v

theorem Fr.put {n : Nat} {L : Loc} {a : Act} {d : Nat} {v : Value} (f : Fr n L a) (h : Nat.blt d n = true) : Fr n ((d, v) :: L) (a.put (some d) v) := by
  have hd : d < n := by simpa using h
  refine ⟨by simp [Act.put]; exact f.1, fun i u e => ?_⟩
  simp only [lk] at e
  simp only [Act.put, Array.getElem?_setIfInBounds]
  by_cases hi : d = i
  · subst hi
    simp at e; subst e
    have := f.1
    simp; omega
  · have := nbeq hi
    simp only [this, cond_false] at e
    simp [hi, f.2 i u e]
theorem Fr.none {n : Nat} {L : Loc} {a : Act} {v : Value} (f : Fr n L a) : Fr n L (a.put none v) := f
theorem Fr.eval {n : Nat} {L : Loc} {a : Act} (f : Fr n L a) {t : Nat} {v : Value} (h : lk L t = some v) : a.eval (.tmp t) = v := by
  simp [Act.eval, f.2 t v h]

/-- Some slots of a frame. -/
def Cov (L : Loc) : Loc → Prop
  | [] => True
  | (k, v) :: r => lk L k = some v ∧ Cov L r
theorem Fr.cov {n : Nat} {L L' : Loc} {a : Act} (f : Fr n L a) (c : Cov L L') : Fr n L' a := by
  refine ⟨f.1, fun i v e => ?_⟩
  induction L' with
  | nil => simp [lk] at e
  | cons x r ih =>
    obtain ⟨k, u⟩ := x
    simp only [lk] at e
    by_cases hi : k = i
    · subst hi; simp at e; subst e; exact f.2 _ _ c.1
    · have := nbeq hi
      simp only [this, cond_false] at e
      exact ih c.2 e

/-- What an operand holds. -/
def ev (L : Loc) : Operand → Option Value
  | .tmp t => lk L t
  | .const v => some v
  | .global g => some (.pointer (some ⟨g, 0, none⟩))
  | .func f => some (.func (.func f) #[] #[])
theorem Fr.ev {n : Nat} {L : Loc} {a : Act} (f : Fr n L a) {x : Operand} {v : Value} (h : ev L x = some v) : a.eval x = v := by
  cases x with
  | tmp t => exact f.eval h
  | const u => simp [Go.Proofs.Ytimafngkifakfaa.ev] at h; simp [Act.eval, h]
  | global g => simp [Go.Proofs.Ytimafngkifakfaa.ev] at h; simp [Act.eval, h]
  | func g => simp [Go.Proofs.Ytimafngkifakfaa.ev] at h; simp [Act.eval, h]

/-! Marks of range-over-function loops among the deferred calls. -/
def DefH : List Deferred → List HP
  | [] => []
  | d :: ds => Ex (fun r : Nat => Al [Pu (d = { target := .collected r, args := #[] }), Blk r (.deferred (some []))]) :: DefH ds

def St (n : Nat) (L : Loc) (Hs : List HP) (a : Act) (M : Kn) (h : Res) : Prop := Fr n L a ∧ SL (Al (DefH a.defers) :: Hs) M h

abbrev WF (r : Option Nat) : Fence := { fn := fun _ => True, depth := none, alive := false, round := r }

/-- What is asked at the ends of a piece of code. -/
abbrev Out := Exit → Act → Kn → Res → Prop
def lift (M : Kn) (hf : Res) (Q : Out) : Exit → Act → World → Prop :=
  fun e a w => ∃ (M' : Kn) (h' : Res), M.le M' ∧ h'.dj hf ∧ Sat w M' (h'.add hf) ∧ Q e a M' h'
theorem lift_le {M M' : Kn} {hf : Res} {Q : Out} (l : M.le M') {e : Exit} {a : Act} {w : World} (h : lift M' hf Q e a w) : lift M hf Q e a w := by
  obtain ⟨M2, h2, l2, d, s, q⟩ := h; exact ⟨M2, h2, Kn.le_trans l l2, d, s, q⟩

def wout (r : Option Nat) (P : Program) (c : Code) (Q : Out) (a : Act) (M : Kn) (h : Res) : Prop :=
  ∀ (w : World) (hf : Res), h.dj hf → Sat w M (h.add hf) → c.wpIn (WF r) 0 P (lift M hf Q) a w

def wc (r : Option Nat) (P : Program) (n : Nat) (c : Code) (L : Loc) (Hs : List HP) (Q : Out) : Prop :=
  ∀ (a : Act) (M : Kn) (h : Res), St n L Hs a M h → wout r P c Q a M h

def thenO (K : Act → Kn → Res → Prop) (Q : Out) : Out
  | .normal => K
  | e => Q e
def blockO (id : Nat) (Q : Out) : Out
  | .exit id' => if Nat.beq id' id then Q .normal else Q (.exit id')
  | e => Q e

/-- From here the way out is served. -/
def tw (n : Nat) (Q : Out) (e : Exit) (L : Loc) (Hs : List HP) : Prop := ∀ (a : Act) (M : Kn) (h : Res), St n L Hs a M h → Q e a M h

section
variable {r : Option Nat} {P : Program} {n : Nat} {L : Loc} {Hs : List HP} {Q : Out}

theorem St.ent {L' : Loc} {Hs' : List HP} {a : Act} {M : Kn} {h : Res} (s : St n L Hs a M h) (c : Cov L L') (e : Ent Hs Hs') : St n L' Hs' a M h := by
  obtain ⟨f, s⟩ := s
  refine ⟨f.cov c, ?_⟩
  obtain ⟨h1, h2, d, e', x, t⟩ := s
  exact ⟨h1, h2, d, e', x, e t⟩

theorem wc_ent {c : Code} {L' : Loc} {Hs' : List HP} (hc : Cov L L') (e : Ent Hs Hs') (h : wc r P n c L' Hs' Q) : wc r P n c L Hs Q :=
  fun a M x s => h a M x (s.ent hc e)

theorem wout_of {c : Code} {a : Act} {M : Kn} {h : Res} (k : wout r P c Q a M h) {w : World} {M0 : Kn} {hf : Res} (l : M0.le M) (d : h.dj hf) (s : Sat w M (h.add hf)) :
    c.wpIn (WF r) 0 P (lift M0 hf Q) a w := wpIn_mono (k w hf d s) fun _ _ _ q => lift_le l q

theorem wc_seq {x y : Code} (h : wc r P n x L Hs (thenO (wout r P y Q) Q)) : wc r P n (.seq x y) L Hs Q := by
  intro a M m s w hf d t
  refine wpIn_seq (wpIn_mono (h a M m s w hf d t) ?_)
  rintro e a' w' ⟨M', h', l, d', t', q⟩
  cases e with
  | normal => exact wout_of q l d' t'
  | _ => exact ⟨M', h', l, d', t', q⟩
theorem to_then {y : Code} (h : wc r P n y L Hs Q) : tw n (thenO (wout r P y Q) Q) .normal L Hs := h
theorem to_then_exit {K : Act → Kn → Res → Prop} {id : Nat} (h : tw n Q (.exit id) L Hs) : tw n (thenO K Q) (.exit id) L Hs := h
theorem to_then_ret {K : Act → Kn → Res → Prop} (h : tw n Q .ret L Hs) : tw n (thenO K Q) .ret L Hs := h
theorem to_then_goto {K : Act → Kn → Res → Prop} {l : Nat} (h : tw n Q (.goto l) L Hs) : tw n (thenO K Q) (.goto l) L Hs := h

theorem of_to {c : Code} {e : Exit} (hc : ∀ (a : Act) (w : World) (Q' : Exit → Act → World → Prop), Q' e a w → c.wpIn (WF r) 0 P Q' a w) (h : tw n Q e L Hs) : wc r P n c L Hs Q :=
  fun a M m s w hf d t => hc a w _ ⟨M, m, Kn.le_refl _, d, t, h a M m s⟩
theorem wc_skip (h : tw n Q .normal L Hs) : wc r P n .skip L Hs Q := of_to (fun _ _ _ q => wpIn_skip q) h
theorem wc_label {l : Nat} (h : tw n Q .normal L Hs) : wc r P n (.label l) L Hs Q := of_to (fun _ _ _ q => wpIn_label q) h
theorem wc_exit {id : Nat} (h : tw n Q (.exit id) L Hs) : wc r P n (.exit id) L Hs Q := of_to (fun _ _ _ q => wpIn_exit q) h
theorem wc_ret (h : tw n Q .ret L Hs) : wc r P n .ret L Hs Q := of_to (fun _ _ _ q => wpIn_ret q) h
theorem wc_goto {l : Nat} (h : tw n Q (.goto l) L Hs) : wc r P n (.goto l) L Hs Q := of_to (fun _ _ _ q => wpIn_goto q) h

theorem wc_cond {c : Operand} {x y : Code} {b : Bool} (hc : ev L c = some (.bool b)) (ht : b = true → wc r P n x L Hs Q) (hf : b = false → wc r P n y L Hs Q) :
    wc r P n (.cond c x y) L Hs Q := by
  intro a M m s w h d t
  refine wpIn_cond_split (s.1.ev hc) (fun e => ht e a M m s w h d t) (fun e => hf e a M m s w h d t)
theorem wc_true {c : Operand} {x y : Code} (hc : ev L c = some (.bool true)) (h : wc r P n x L Hs Q) : wc r P n (.cond c x y) L Hs Q :=
  wc_cond hc (fun _ => h) (fun e => by cases e)
theorem wc_false {c : Operand} {x y : Code} (hc : ev L c = some (.bool false)) (h : wc r P n y L Hs Q) : wc r P n (.cond c x y) L Hs Q :=
  wc_cond hc (fun e => by cases e) (fun _ => h)

theorem wc_block {id : Nat} {c : Code} (h : wc r P n c L Hs (blockO id Q)) : wc r P n (.block id c) L Hs Q := by
  intro a M m s w hf d t
  refine wpIn_block (wpIn_mono (h a M m s w hf d t) ?_)
  rintro e a' w' ⟨M', h', l, d', t', q⟩
  cases e with
  | exit id' =>
    simp only [blockO] at q
    by_cases hid : id' = id
    · have : Nat.beq id' id = true := by simpa using hid
      simp only [this, if_true] at q
      simp only [Exit.inBlock, hid, if_true]
      exact ⟨M', h', l, d', t', q⟩
    · have := nbeq hid
      simp only [this] at q
      simp only [Exit.inBlock, hid, if_false]
      exact ⟨M', h', l, d', t', q⟩
  | _ => exact ⟨M', h', l, d', t', q⟩
theorem to_block {id : Nat} (h : tw n Q .normal L Hs) : tw n (blockO id Q) .normal L Hs := h
theorem to_block_here {id : Nat} (h : tw n Q .normal L Hs) : tw n (blockO id Q) (.exit id) L Hs := by
  intro a M m s
  have : Nat.beq id id = true := by simp
  simp only [blockO, this, if_true]
  exact h a M m s
theorem to_block_other {id id' : Nat} (hne : Nat.beq id' id = false) (h : tw n Q (.exit id') L Hs) : tw n (blockO id Q) (.exit id') L Hs := by
  intro a M m s
  simp only [blockO, hne]
  exact h a M m s
theorem to_block_ret {id : Nat} (h : tw n Q .ret L Hs) : tw n (blockO id Q) .ret L Hs := h

theorem wc_scope {c : Code} (hs : ∀ (a : Act) (w : World) (Q' : Exit → Act → World → Prop), (∀ l, Q' (.goto l) = fun _ _ => False) → c.wpIn (WF r) 0 P Q' a w → (Code.scope c).wpIn (WF r) 0 P Q' a w)
    (hg : ∀ l, Q (.goto l) = fun _ _ _ => False) (h : wc r P n c L Hs Q) : wc r P n (.scope c) L Hs Q := by
  intro a M m s w hf d t
  refine hs a w _ (fun l => ?_) (h a M m s w hf d t)
  funext a' w'
  simp [lift, hg]

/-- A loop: an invariant that hangs on a ghost i, and a measure of it. -/
def invO {ι : Type} (n : Nat) (Li : ι → Loc) (Hi : ι → List HP) (lt : ι → Prop) (Q : Out) : Out
  | .normal => fun a M h => ∃ j, lt j ∧ St n (Li j) (Hi j) a M h
  | e => Q e

theorem wc_loop {ι : Type} {c : Code} (Li : ι → Loc) (Hi : ι → List HP) (μ : ι → Nat)
    (round : ∀ i, wc r P n c (Li i) (Hi i) (invO n Li Hi (fun j => μ j < μ i) Q)) (i : ι) : wc r P n (.loop c) (Li i) (Hi i) Q := by
  intro a M m s w hf d t b k cs hro hb hr
  have key : ∀ (u : Nat) (i : ι), μ i = u → ∀ (a : Act) (M : Kn) (m : Res) (w : World), St n (Li i) (Hi i) a M m → m.dj hf → Sat w M (m.add hf) →
      ∃ e a' w', lift M hf Q e a' w' ∧ ArrivesIn (Machine.fenced P (WF r)) P (lone (b.atR a (.code c :: .inLoop c :: k)) cs w) b k cs e a' w' := by
    intro u
    induction u using Nat.strongRecOn with
    | _ u ih =>
      intro i hi a M m w s d t
      obtain ⟨e, a₁, w₁, hq, harr⟩ := round i a M m s w hf d t b (.inLoop c :: k) cs hro hb hr
      cases e with
      | normal =>
        obtain ⟨M', h', l, d', t', j, hj, sj⟩ := hq
        obtain ⟨e₂, a₂, w₂, hq₂, harr₂⟩ := ih (μ j) (hi ▸ hj) j rfl a₁ M' h' w₁ sj d' t'
        exact ⟨e₂, a₂, w₂, lift_le l hq₂, .of_steps (StepsIn.trans harr (.one (fenced_calm hb hr rfl) stepR_inLoop)) harr₂⟩
      | exit id => exact ⟨_, a₁, w₁, hq, .pass (x := .inLoop c) rfl (fun _ _ => .inl (by simp)) harr⟩
      | goto l => exact ⟨_, a₁, w₁, hq, .pass (x := .inLoop c) rfl (fun _ _ => .inl (by simp)) harr⟩
      | ret => exact ⟨_, a₁, w₁, hq, .pass (x := .inLoop c) rfl (fun _ _ => .inl (by simp)) harr⟩
      | panic ch => exact ⟨_, a₁, w₁, hq, .pass (x := .inLoop c) rfl (fun _ _ => .inl (by simp)) harr⟩
      | outgrown => exact ⟨_, a₁, w₁, hq, .pass (x := .inLoop c) rfl (fun _ _ => .inl (by simp)) harr⟩
  obtain ⟨e, a', w', hq, harr⟩ := key _ i rfl a M m w s d t
  exact ⟨e, a', w', hq, .of_steps (.one (fenced_calm hb hr rfl) stepR_loop) harr⟩
theorem to_inv {ι : Type} {Li : ι → Loc} {Hi : ι → List HP} {lt : ι → Prop} (j : ι) (hj : lt j) (hc : Cov L (Li j)) (e : Ent Hs (Hi j)) : tw n (invO n Li Hi lt Q) .normal L Hs :=
  fun a M h s => ⟨j, hj, s.ent hc e⟩
theorem to_inv_exit {ι : Type} {Li : ι → Loc} {Hi : ι → List HP} {lt : ι → Prop} {id : Nat} (h : tw n Q (.exit id) L Hs) : tw n (invO n Li Hi lt Q) (.exit id) L Hs := h
theorem to_inv_ret {ι : Type} {Li : ι → Loc} {Hi : ι → List HP} {lt : ι → Prop} (h : tw n Q .ret L Hs) : tw n (invO n Li Hi lt Q) .ret L Hs := h
end
end Go.Proofs.Ytimafngkifakfaa
