/- Texts of this proof, put together: Core, Ops, Pure, Heap, Auto, Walk1, Path, Build, Bridge. -/
import Derived.RangeFuncLeaves
import Derived.RangeFuncRecord
import Derived.KernelRfl
import Derived.WalkKit
import Derived.Laws.Tables
import Derived.Below
set_option linter.unusedVariables false
set_option linter.unusedSimpArgs false
/- A small separation logic over the walk's predicates: resources, assertions, code. -/
namespace Go.Proofs.Ytimafngkifakfaa

theorem nbeq {a b : Nat} (h : a ≠ b) : Nat.beq a b = false := by
  cases e : Nat.beq a b with
  | false => rfl
  | true => exact absurd (Nat.eq_of_beq_eq_true e) h
theorem nbeq_self (a : Nat) : Nat.beq a a = true := Nat.beq_refl a

/-- Parts of memory. -/
abbrev Res := Nat → Option Obj
namespace Res
def emp : Res := fun _ => none
def one (b : Nat) (o : Obj) : Res := fun i => if i = b then some o else none
def add (h k : Res) : Res := fun i => match h i with | some o => some o | none => k i
def dj (h k : Res) : Prop := ∀ i, h i = none ∨ k i = none
def le (h k : Res) : Prop := ∀ i o, h i = some o → k i = some o

theorem le_refl (h : Res) : h.le h := fun _ _ e => e
theorem le_trans {a b c : Res} (h : a.le b) (k : b.le c) : a.le c := fun i o e => k i o (h i o e)
theorem dj_comm {h k : Res} (d : h.dj k) : k.dj h := fun i => (d i).symm
theorem dj_emp (h : Res) : h.dj emp := fun _ => .inr rfl
theorem emp_dj (h : Res) : emp.dj h := fun _ => .inl rfl
theorem add_emp (h : Res) : h.add emp = h := by funext i; simp only [add, emp]; cases h i <;> rfl
theorem emp_add (h : Res) : emp.add h = h := rfl
theorem add_comm {h k : Res} (d : h.dj k) : h.add k = k.add h := by
  funext i; rcases d i with e | e <;> simp only [add, e] <;> (try (cases k i <;> rfl)) <;> (cases h i <;> rfl)
theorem add_assoc (a b c : Res) : (a.add b).add c = a.add (b.add c) := by
  funext i; simp only [add]; cases a i <;> rfl
theorem add_none {h k : Res} {i : Nat} : h.add k i = none ↔ h i = none ∧ k i = none := by
  simp only [add]; cases e : h i <;> simp
theorem dj_add_left {a b c : Res} : (a.add b).dj c ↔ a.dj c ∧ b.dj c := by
  constructor
  · intro d; exact ⟨fun i => (d i).imp (fun e => (add_none.1 e).1) id, fun i => (d i).imp (fun e => (add_none.1 e).2) id⟩
  · rintro ⟨d, e⟩ i
    rcases d i with x | x
    · rcases e i with y | y
      · exact .inl (add_none.2 ⟨x, y⟩)
      · exact .inr y
    · exact .inr x
theorem dj_add_right {a b c : Res} : a.dj (b.add c) ↔ a.dj b ∧ a.dj c :=
  ⟨fun d => let ⟨x, y⟩ := dj_add_left.1 (dj_comm d); ⟨dj_comm x, dj_comm y⟩, fun ⟨x, y⟩ => dj_comm (dj_add_left.2 ⟨dj_comm x, dj_comm y⟩)⟩
theorem le_add_left (h k : Res) : h.le (h.add k) := fun i o e => by simp [add, e]
theorem le_add_right {h k : Res} (d : h.dj k) : k.le (h.add k) := fun i o e => by
  rcases d i with x | x
  · simp [add, x, e]
  · rw [x] at e; cases e
theorem one_same (b : Nat) (o : Obj) : one b o b = some o := by simp [one]
theorem one_other {b i : Nat} (o : Obj) (h : i ≠ b) : one b o i = none := by simp [one, h]
end Res

/-- What is known for good: blocks that never turn any more; the world in which it all began. -/
structure Kn where
  im : Res
  g : World
def Kn.le (M M' : Kn) : Prop := M.im.le M'.im ∧ M.g = M'.g
theorem Kn.le_refl (M : Kn) : M.le M := ⟨Res.le_refl _, rfl⟩
theorem Kn.le_trans {a b c : Kn} (h : a.le b) (k : b.le c) : a.le c := ⟨Res.le_trans h.1 k.1, h.2.trans k.2⟩

/-- An assertion: on what never turns any more (M), and on what one has for oneself (h). -/
structure HP where
  at_ : Kn → Res → Prop
  mono : ∀ {M M' : Kn} {h : Res}, M.le M' → at_ M h → at_ M' h

def SL : List HP → Kn → Res → Prop
  | [], _, _ => True
  | A :: r, M, h => ∃ h1 h2 : Res, h1.dj h2 ∧ h = h1.add h2 ∧ A.at_ M h1 ∧ SL r M h2

theorem SL.mono {Hs : List HP} {M M' : Kn} {h : Res} (le : M.le M') (s : SL Hs M h) : SL Hs M' h := by
  induction Hs generalizing h with
  | nil => trivial
  | cons A r ih => obtain ⟨h1, h2, d, e, a, t⟩ := s; exact ⟨h1, h2, d, e, A.mono le a, ih t⟩

def Pers (A : HP) : Prop := ∀ {M : Kn} {h : Res}, A.at_ M h → A.at_ M Res.emp

inductive Pick (A : HP) : List HP → List HP → Prop
  | here {r : List HP} : Pick A (A :: r) r
  | keep {r : List HP} (p : Pers A) : Pick A (A :: r) (A :: r)
  | there {B : HP} {r s : List HP} : Pick A r s → Pick A (B :: r) (B :: s)

theorem Pick.sat {A : HP} {Hs Rs : List HP} (p : Pick A Hs Rs) : ∀ {M : Kn} {h : Res}, SL Hs M h →
    ∃ h1 h2 : Res, h1.dj h2 ∧ h = h1.add h2 ∧ A.at_ M h1 ∧ SL Rs M h2 := by
  induction p with
  | here => intro M h s; exact s
  | keep p =>
    intro M h s
    have s' := s
    obtain ⟨h1, h2, d, e, a, t⟩ := s
    exact ⟨Res.emp, h, Res.emp_dj _, (Res.emp_add _).symm, p a, s'⟩
  | @there B r s' _ ih =>
    intro M h s
    obtain ⟨h1, h2, d, e, b, t⟩ := s
    obtain ⟨k1, k2, d', e', a, t'⟩ := ih t
    subst e'
    obtain ⟨d1, d2⟩ := Res.dj_add_right.1 d
    refine ⟨k1, h1.add k2, Res.dj_add_right.2 ⟨Res.dj_comm d1, d'⟩, ?_, a, h1, k2, d2, rfl, b, t'⟩
    rw [e, ← Res.add_assoc, Res.add_comm d1, Res.add_assoc]

inductive Picks : List HP → List HP → List HP → Prop
  | nil {Hs : List HP} : Picks [] Hs Hs
  | cons {A : HP} {As Hs R1 Rs : List HP} : Pick A Hs R1 → Picks As R1 Rs → Picks (A :: As) Hs Rs

theorem Picks.sat {As Hs Rs : List HP} (p : Picks As Hs Rs) : ∀ {M : Kn} {h : Res}, SL Hs M h →
    ∃ h1 h2 : Res, h1.dj h2 ∧ h = h1.add h2 ∧ SL As M h1 ∧ SL Rs M h2 := by
  induction p with
  | nil => intro M h s; exact ⟨Res.emp, h, Res.emp_dj _, (Res.emp_add _).symm, trivial, s⟩
  | cons p _ ih =>
    intro M h s
    obtain ⟨h1, h2, d, e, a, t⟩ := p.sat s
    obtain ⟨k1, k2, d', e', t1, t2⟩ := ih t
    subst e'
    obtain ⟨d1, d2⟩ := Res.dj_add_right.1 d
    exact ⟨h1.add k1, k2, Res.dj_add_left.2 ⟨d2, d'⟩, by rw [e, Res.add_assoc], ⟨h1, k1, d1, rfl, a, t1⟩, t2⟩

/-- More than is needed does no harm. -/
theorem SL.more {As : List HP} : ∀ {M : Kn} {h1 h2 : Res}, h1.dj h2 → SL As M h2 → SL As M (h1.add h2) := by
  induction As with
  | nil => intros; trivial
  | cons B r ih =>
    intro M h1 h2 d s
    obtain ⟨k1, k2, d', e', b, t'⟩ := s
    subst e'
    obtain ⟨d1, d2⟩ := Res.dj_add_right.1 d
    exact ⟨k1, h1.add k2, Res.dj_add_right.2 ⟨Res.dj_comm d1, d'⟩, by rw [← Res.add_assoc, Res.add_comm d1, Res.add_assoc], b, ih d2 t'⟩
theorem SL.append {As Bs : List HP} {M : Kn} {h1 h2 : Res} (d : h1.dj h2) (s : SL As M h1) (t : SL Bs M h2) : SL (As ++ Bs) M (h1.add h2) := by
  induction As generalizing h1 with
  | nil => exact SL.more d t
  | cons A r ih =>
    obtain ⟨k1, k2, d', e', a, t'⟩ := s
    subst e'
    obtain ⟨d1, d2⟩ := Res.dj_add_left.1 d
    exact ⟨k1, k2.add h2, Res.dj_add_right.2 ⟨d', d1⟩, by rw [Res.add_assoc], a, ih d2 t'⟩

/-- One list of assertions gives another. -/
structure Ent (Hs Gs : List HP) : Prop where
  go : ∀ {M : Kn} {h : Res}, SL Hs M h → SL Gs M h
instance {Hs Gs : List HP} : CoeFun (Ent Hs Gs) (fun _ => ∀ {M : Kn} {h : Res}, SL Hs M h → SL Gs M h) := ⟨fun e => e.go⟩

theorem Picks.ent {As Hs Rs : List HP} (p : Picks As Hs Rs) : Ent Hs (As ++ Rs) := ⟨fun s => by
  obtain ⟨h1, h2, d, e, a, t⟩ := p.sat s
  subst e
  exact SL.append d a t⟩
theorem Ent.refl (Hs : List HP) : Ent Hs Hs := ⟨fun s => s⟩
theorem Ent.trans {a b c : List HP} (h : Ent a b) (k : Ent b c) : Ent a c := ⟨fun s => k (h s)⟩
theorem SL.drop {As Rs : List HP} {M : Kn} {h : Res} (s : SL (As ++ Rs) M h) : SL As M h := by
  induction As generalizing h with
  | nil => trivial
  | cons A r ih => obtain ⟨h1, h2, d, e, a, t⟩ := s; exact ⟨h1, h2, d, e, a, ih t⟩
theorem Picks.drop {As Hs Rs : List HP} (p : Picks As Hs Rs) : Ent Hs As := ⟨fun s => SL.drop (p.ent s)⟩
theorem SL.split {As Bs : List HP} {M : Kn} {h : Res} (s : SL (As ++ Bs) M h) : ∃ h1 h2 : Res, h1.dj h2 ∧ h = h1.add h2 ∧ SL As M h1 ∧ SL Bs M h2 := by
  induction As generalizing h with
  | nil => exact ⟨Res.emp, h, Res.emp_dj _, rfl, trivial, s⟩
  | cons A r ih =>
    obtain ⟨h1, h2, d, e, a, t⟩ := s
    obtain ⟨k1, k2, d', e', t1, t2⟩ := ih t
    subst e'
    obtain ⟨d1, d2⟩ := Res.dj_add_right.1 d
    exact ⟨h1.add k1, k2, Res.dj_add_left.2 ⟨d2, d'⟩, by rw [e, Res.add_assoc], ⟨h1, k1, d1, rfl, a, t1⟩, t2⟩
theorem Ent.frame {As Bs : List HP} (h : Ent As Bs) (Rs : List HP) : Ent (As ++ Rs) (Bs ++ Rs) := ⟨fun s => by
  obtain ⟨h1, h2, d, e, a, t⟩ := SL.split s
  subst e
  exact SL.append d (h a) t⟩

/-! Assertions. -/
/-- A block that one has for oneself. -/
def Blk (b : Nat) (o : Obj) : HP := ⟨fun _ h => h = Res.one b o, fun _ e => e⟩
/-- A block that never turns any more. -/
def Im (b : Nat) (o : Obj) : HP := ⟨fun M _ => M.im b = some o, fun le e => le.1 _ _ e⟩
def Pu (p : Prop) : HP := ⟨fun _ _ => p, fun _ e => e⟩
def Ex {X : Type} (f : X → HP) : HP := ⟨fun M h => ∃ x, (f x).at_ M h, fun le ⟨x, e⟩ => ⟨x, (f x).mono le e⟩⟩
/-- Several as one. -/
def Al (Hs : List HP) : HP := ⟨SL Hs, fun le e => SL.mono le e⟩
theorem Im.pers (b : Nat) (o : Obj) : Pers (Im b o) := fun e => e
theorem Pu.pers (p : Prop) : Pers (Pu p) := fun e => e

/-- Nothing but memory has turned. -/
structure Env (g w : World) : Prop where
  os : w.os = g.os
  tape : w.tape = g.tape
  output : w.output = g.output
  size : g.heap.size ≤ w.heap.size
theorem Env.refl (w : World) : Env w w := ⟨rfl, rfl, rfl, Nat.le_refl _⟩
theorem Env.trans {a b c : World} (h : Env a b) (k : Env b c) : Env a c := ⟨k.os.trans h.os, k.tape.trans h.tape, k.output.trans h.output, Nat.le_trans h.size k.size⟩

/-- The world holds what is known, and what one has. -/
structure Sat (w : World) (M : Kn) (h : Res) : Prop where
  im : ∀ b o, M.im b = some o → w.heap[b]? = some o
  ow : ∀ b o, h b = some o → w.heap[b]? = some o
  dj : M.im.dj h
  env : Env M.g w

theorem Sat.le {w : World} {M : Kn} {h h' : Res} (s : Sat w M h) (l : h'.le h) : Sat w M h' :=
  ⟨s.im, fun b o e => s.ow b o (l b o e), fun i => (s.dj i).imp id (fun e => by
    cases e' : h' i with
    | none => rfl
    | some o => rw [l i o e'] at e; cases e), s.env⟩
theorem Sat.imle {w : World} {M M' : Kn} {h : Res} (s : Sat w M' h) (l : M.le M') : Sat w M h :=
  ⟨fun b o e => s.im b o (l.1 b o e), s.ow, fun i => (s.dj i).imp (fun e => by
    cases e' : M.im i with
    | none => rfl
    | some o => rw [l.1 i o e'] at e; cases e) id, by rw [l.2]; exact s.env⟩

/-! Frames: slots and what they hold, the newest first. -/
abbrev Loc := List (Nat × Value)
def lk : Loc → Nat → Option Value
  | [], _ => none
  | (j, v) :: r, i => bif Nat.beq j i then some v else lk r i

def Fr (n : Nat) (L : Loc) (a : Act) : Prop := n ≤ a.tmps.size ∧ ∀ i v, lk L i = some v → a.tmps[i]? = some v

theorem Fr.put {n : Nat} {L : Loc} {a : Act} {d : Nat} {v : Value} (f : Fr n L a) (h : Nat.blt d n = true) : Fr n ((d, v) :: L) (a.put (some d) v) := by
  have hd : d < n := by simpa using h
  refine ⟨by simp [Act.put]; exact f.1, fun i u e => ?_⟩
  simp only [lk] at e
  simp only [Act.put, Array.getElem?_setIfInBounds]
  by_cases hi : d = i
  · subst hi
    simp at e; subst e
    have := f.1
    simp; omega
  · have := nbeq hi
    simp only [this, cond_false] at e
    simp [hi, f.2 i u e]
theorem Fr.none {n : Nat} {L : Loc} {a : Act} {v : Value} (f : Fr n L a) : Fr n L (a.put none v) := f
theorem Fr.eval {n : Nat} {L : Loc} {a : Act} (f : Fr n L a) {t : Nat} {v : Value} (h : lk L t = some v) : a.eval (.tmp t) = v := by
  simp [Act.eval, f.2 t v h]

/-- Some slots of a frame. -/
def Cov (L : Loc) : Loc → Prop
  | [] => True
  | (k, v) :: r => lk L k = some v ∧ Cov L r
theorem Fr.cov {n : Nat} {L L' : Loc} {a : Act} (f : Fr n L a) (c : Cov L L') : Fr n L' a := by
  refine ⟨f.1, fun i v e => ?_⟩
  induction L' with
  | nil => simp [lk] at e
  | cons x r ih =>
    obtain ⟨k, u⟩ := x
    simp only [lk] at e
    by_cases hi : k = i
    · subst hi; simp at e; subst e; exact f.2 _ _ c.1
    · have := nbeq hi
      simp only [this, cond_false] at e
      exact ih c.2 e

/-- What an operand holds. -/
def ev (L : Loc) : Operand → Option Value
  | .tmp t => lk L t
  | .const v => some v
  | .global g => some (.pointer (some ⟨g, 0, none⟩))
  | .func f => some (.func (.func f) #[] #[])
theorem Fr.ev {n : Nat} {L : Loc} {a : Act} (f : Fr n L a) {x : Operand} {v : Value} (h : ev L x = some v) : a.eval x = v := by
  cases x with
  | tmp t => exact f.eval h
  | const u => simp [Go.Proofs.Ytimafngkifakfaa.ev] at h; simp [Act.eval, h]
  | global g => simp [Go.Proofs.Ytimafngkifakfaa.ev] at h; simp [Act.eval, h]
  | func g => simp [Go.Proofs.Ytimafngkifakfaa.ev] at h; simp [Act.eval, h]

/-! Marks of range-over-function loops among the deferred calls. -/
def DefH : List Deferred → List HP
  | [] => []
  | d :: ds => Ex (fun r : Nat => Al [Pu (d = { target := .collected r, args := #[] }), Blk r (.deferred (some []))]) :: DefH ds

def St (n : Nat) (L : Loc) (Hs : List HP) (a : Act) (M : Kn) (h : Res) : Prop := Fr n L a ∧ SL (Al (DefH a.defers) :: Hs) M h

abbrev WF (r : Option Nat) : Fence := { fn := fun _ => True, depth := none, alive := false, round := r }

/-- What is asked at the ends of a piece of code. -/
abbrev Out := Exit → Act → Kn → Res → Prop
def lift (M : Kn) (hf : Res) (Q : Out) : Exit → Act → World → Prop :=
  fun e a w => ∃ (M' : Kn) (h' : Res), M.le M' ∧ h'.dj hf ∧ Sat w M' (h'.add hf) ∧ Q e a M' h'
theorem lift_le {M M' : Kn} {hf : Res} {Q : Out} (l : M.le M') {e : Exit} {a : Act} {w : World} (h : lift M' hf Q e a w) : lift M hf Q e a w := by
  obtain ⟨M2, h2, l2, d, s, q⟩ := h; exact ⟨M2, h2, Kn.le_trans l l2, d, s, q⟩

def wout (r : Option Nat) (P : Program) (c : Code) (Q : Out) (a : Act) (M : Kn) (h : Res) : Prop :=
  ∀ (w : World) (hf : Res), h.dj hf → Sat w M (h.add hf) → c.wpIn (WF r) 0 P (lift M hf Q) a w

def wc (r : Option Nat) (P : Program) (n : Nat) (c : Code) (L : Loc) (Hs : List HP) (Q : Out) : Prop :=
  ∀ (a : Act) (M : Kn) (h : Res), St n L Hs a M h → wout r P c Q a M h

def thenO (K : Act → Kn → Res → Prop) (Q : Out) : Out
  | .normal => K
  | e => Q e
def blockO (id : Nat) (Q : Out) : Out
  | .exit id' => if Nat.beq id' id then Q .normal else Q (.exit id')
  | e => Q e

/-- From here the way out is served. -/
def tw (n : Nat) (Q : Out) (e : Exit) (L : Loc) (Hs : List HP) : Prop := ∀ (a : Act) (M : Kn) (h : Res), St n L Hs a M h → Q e a M h

section
variable {r : Option Nat} {P : Program} {n : Nat} {L : Loc} {Hs : List HP} {Q : Out}

theorem St.ent {L' : Loc} {Hs' : List HP} {a : Act} {M : Kn} {h : Res} (s : St n L Hs a M h) (c : Cov L L') (e : Ent Hs Hs') : St n L' Hs' a M h := by
  obtain ⟨f, s⟩ := s
  refine ⟨f.cov c, ?_⟩
  obtain ⟨h1, h2, d, e', x, t⟩ := s
  exact ⟨h1, h2, d, e', x, e t⟩

theorem wc_ent {c : Code} {L' : Loc} {Hs' : List HP} (hc : Cov L L') (e : Ent Hs Hs') (h : wc r P n c L' Hs' Q) : wc r P n c L Hs Q :=
  fun a M x s => h a M x (s.ent hc e)

theorem wout_of {c : Code} {a : Act} {M : Kn} {h : Res} (k : wout r P c Q a M h) {w : World} {M0 : Kn} {hf : Res} (l : M0.le M) (d : h.dj hf) (s : Sat w M (h.add hf)) :
    c.wpIn (WF r) 0 P (lift M0 hf Q) a w := wpIn_mono (k w hf d s) fun _ _ _ q => lift_le l q

theorem wc_seq {x y : Code} (h : wc r P n x L Hs (thenO (wout r P y Q) Q)) : wc r P n (.seq x y) L Hs Q := by
  intro a M m s w hf d t
  refine wpIn_seq (wpIn_mono (h a M m s w hf d t) ?_)
  rintro e a' w' ⟨M', h', l, d', t', q⟩
  cases e with
  | normal => exact wout_of q l d' t'
  | _ => exact ⟨M', h', l, d', t', q⟩
theorem to_then {y : Code} (h : wc r P n y L Hs Q) : tw n (thenO (wout r P y Q) Q) .normal L Hs := h
theorem to_then_exit {K : Act → Kn → Res → Prop} {id : Nat} (h : tw n Q (.exit id) L Hs) : tw n (thenO K Q) (.exit id) L Hs := h
theorem to_then_ret {K : Act → Kn → Res → Prop} (h : tw n Q .ret L Hs) : tw n (thenO K Q) .ret L Hs := h
theorem to_then_goto {K : Act → Kn → Res → Prop} {l : Nat} (h : tw n Q (.goto l) L Hs) : tw n (thenO K Q) (.goto l) L Hs := h

theorem of_to {c : Code} {e : Exit} (hc : ∀ (a : Act) (w : World) (Q' : Exit → Act → World → Prop), Q' e a w → c.wpIn (WF r) 0 P Q' a w) (h : tw n Q e L Hs) : wc r P n c L Hs Q :=
  fun a M m s w hf d t => hc a w _ ⟨M, m, Kn.le_refl _, d, t, h a M m s⟩
theorem wc_skip (h : tw n Q .normal L Hs) : wc r P n .skip L Hs Q := of_to (fun _ _ _ q => wpIn_skip q) h
theorem wc_label {l : Nat} (h : tw n Q .normal L Hs) : wc r P n (.label l) L Hs Q := of_to (fun _ _ _ q => wpIn_label q) h
theorem wc_exit {id : Nat} (h : tw n Q (.exit id) L Hs) : wc r P n (.exit id) L Hs Q := of_to (fun _ _ _ q => wpIn_exit q) h
theorem wc_ret (h : tw n Q .ret L Hs) : wc r P n .ret L Hs Q := of_to (fun _ _ _ q => wpIn_ret q) h
theorem wc_goto {l : Nat} (h : tw n Q (.goto l) L Hs) : wc r P n (.goto l) L Hs Q := of_to (fun _ _ _ q => wpIn_goto q) h

theorem wc_cond {c : Operand} {x y : Code} {b : Bool} (hc : ev L c = some (.bool b)) (ht : b = true → wc r P n x L Hs Q) (hf : b = false → wc r P n y L Hs Q) :
    wc r P n (.cond c x y) L Hs Q := by
  intro a M m s w h d t
  refine wpIn_cond_split (s.1.ev hc) (fun e => ht e a M m s w h d t) (fun e => hf e a M m s w h d t)
theorem wc_true {c : Operand} {x y : Code} (hc : ev L c = some (.bool true)) (h : wc r P n x L Hs Q) : wc r P n (.cond c x y) L Hs Q :=
  wc_cond hc (fun _ => h) (fun e => by cases e)
theorem wc_false {c : Operand} {x y : Code} (hc : ev L c = some (.bool false)) (h : wc r P n y L Hs Q) : wc r P n (.cond c x y) L Hs Q :=
  wc_cond hc (fun e => by cases e) (fun _ => h)

theorem wc_block {id : Nat} {c : Code} (h : wc r P n c L Hs (blockO id Q)) : wc r P n (.block id c) L Hs Q := by
  intro a M m s w hf d t
  refine wpIn_block (wpIn_mono (h a M m s w hf d t) ?_)
  rintro e a' w' ⟨M', h', l, d', t', q⟩
  cases e with
  | exit id' =>
    simp only [blockO] at q
    by_cases hid : id' = id
    · have : Nat.beq id' id = true := by simpa using hid
      simp only [this, if_true] at q
      simp only [Exit.inBlock, hid, if_true]
      exact ⟨M', h', l, d', t', q⟩
    · have := nbeq hid
      simp only [this] at q
      simp only [Exit.inBlock, hid, if_false]
      exact ⟨M', h', l, d', t', q⟩
  | _ => exact ⟨M', h', l, d', t', q⟩
theorem to_block {id : Nat} (h : tw n Q .normal L Hs) : tw n (blockO id Q) .normal L Hs := h
theorem to_block_here {id : Nat} (h : tw n Q .normal L Hs) : tw n (blockO id Q) (.exit id) L Hs := by
  intro a M m s
  have : Nat.beq id id = true := by simp
  simp only [blockO, this, if_true]
  exact h a M m s
theorem to_block_other {id id' : Nat} (hne : Nat.beq id' id = false) (h : tw n Q (.exit id') L Hs) : tw n (blockO id Q) (.exit id') L Hs := by
  intro a M m s
  simp only [blockO, hne]
  exact h a M m s
theorem to_block_ret {id : Nat} (h : tw n Q .ret L Hs) : tw n (blockO id Q) .ret L Hs := h

theorem wc_scope {c : Code} (hs : ∀ (a : Act) (w : World) (Q' : Exit → Act → World → Prop), (∀ l, Q' (.goto l) = fun _ _ => False) → c.wpIn (WF r) 0 P Q' a w → (Code.scope c).wpIn (WF r) 0 P Q' a w)
    (hg : ∀ l, Q (.goto l) = fun _ _ _ => False) (h : wc r P n c L Hs Q) : wc r P n (.scope c) L Hs Q := by
  intro a M m s w hf d t
  refine hs a w _ (fun l => ?_) (h a M m s w hf d t)
  funext a' w'
  simp [lift, hg]

/-- A loop: an invariant that hangs on a ghost i, and a measure of it. -/
def invO {ι : Type} (n : Nat) (Li : ι → Loc) (Hi : ι → List HP) (lt : ι → Prop) (Q : Out) : Out
  | .normal => fun a M h => ∃ j, lt j ∧ St n (Li j) (Hi j) a M h
  | e => Q e

theorem wc_loop {ι : Type} {c : Code} (Li : ι → Loc) (Hi : ι → List HP) (μ : ι → Nat)
    (round : ∀ i, wc r P n c (Li i) (Hi i) (invO n Li Hi (fun j => μ j < μ i) Q)) (i : ι) : wc r P n (.loop c) (Li i) (Hi i) Q := by
  intro a M m s w hf d t b k cs hro hb hr
  have key : ∀ (u : Nat) (i : ι), μ i = u → ∀ (a : Act) (M : Kn) (m : Res) (w : World), St n (Li i) (Hi i) a M m → m.dj hf → Sat w M (m.add hf) →
      ∃ e a' w', lift M hf Q e a' w' ∧ ArrivesIn (Machine.fenced P (WF r)) P (lone (b.atR a (.code c :: .inLoop c :: k)) cs w) b k cs e a' w' := by
    intro u
    induction u using Nat.strongRecOn with
    | _ u ih =>
      intro i hi a M m w s d t
      obtain ⟨e, a₁, w₁, hq, harr⟩ := round i a M m s w hf d t b (.inLoop c :: k) cs hro hb hr
      cases e with
      | normal =>
        obtain ⟨M', h', l, d', t', j, hj, sj⟩ := hq
        obtain ⟨e₂, a₂, w₂, hq₂, harr₂⟩ := ih (μ j) (hi ▸ hj) j rfl a₁ M' h' w₁ sj d' t'
        exact ⟨e₂, a₂, w₂, lift_le l hq₂, .of_steps (StepsIn.trans harr (.one (fenced_calm hb hr rfl) stepR_inLoop)) harr₂⟩
      | exit id => exact ⟨_, a₁, w₁, hq, .pass (x := .inLoop c) rfl (fun _ _ => .inl (by simp)) harr⟩
      | goto l => exact ⟨_, a₁, w₁, hq, .pass (x := .inLoop c) rfl (fun _ _ => .inl (by simp)) harr⟩
      | ret => exact ⟨_, a₁, w₁, hq, .pass (x := .inLoop c) rfl (fun _ _ => .inl (by simp)) harr⟩
      | panic ch => exact ⟨_, a₁, w₁, hq, .pass (x := .inLoop c) rfl (fun _ _ => .inl (by simp)) harr⟩
      | outgrown => exact ⟨_, a₁, w₁, hq, .pass (x := .inLoop c) rfl (fun _ _ => .inl (by simp)) harr⟩
  obtain ⟨e, a', w', hq, harr⟩ := key _ i rfl a M m w s d t
  exact ⟨e, a', w', hq, .of_steps (.one (fenced_calm hb hr rfl) stepR_loop) harr⟩
theorem to_inv {ι : Type} {Li : ι → Loc} {Hi : ι → List HP} {lt : ι → Prop} (j : ι) (hj : lt j) (hc : Cov L (Li j)) (e : Ent Hs (Hi j)) : tw n (invO n Li Hi lt Q) .normal L Hs :=
  fun a M h s => ⟨j, hj, s.ent hc e⟩
theorem to_inv_exit {ι : Type} {Li : ι → Loc} {Hi : ι → List HP} {lt : ι → Prop} {id : Nat} (h : tw n Q (.exit id) L Hs) : tw n (invO n Li Hi lt Q) (.exit id) L Hs := h
theorem to_inv_ret {ι : Type} {Li : ι → Loc} {Hi : ι → List HP} {lt : ι → Prop} (h : tw n Q .ret L Hs) : tw n (invO n Li Hi lt Q) .ret L Hs := h
end
end Go.Proofs.Ytimafngkifakfaa

/- Regions in the order of the text, calls, contracts of functions. -/
namespace Go.Proofs.Ytimafngkifakfaa

def wpL (r : Option Nat) (P : Program) (ops : Array Oper) (Q : Exit → Act → World → Prop) : List Oper → Act → World → Prop
  | [], a, w => Q .normal a w
  | o :: os, a, w => if Region.wanted o (yielded ops a.tmps) then o.uponIn (WF r) 0 P a (wpL r P ops Q os) Q ((o.semAt r a.eval).run P w) else wpL r P ops Q os (a.put o.dst undef) w

theorem wpOps_of_wpL {r : Option Nat} {P : Program} {ops : Array Oper} {Q : Exit → Act → World → Prop} : ∀ (l : List Nat) (os : List Oper) (a : Act) (w : World),
    (∀ i ∈ l, i < ops.size) → os = l.filterMap (ops[·]?) → wpL r P ops Q os a w → wpOpsIn (WF r) 0 P ops Q l a w := by
  intro l
  induction l with
  | nil => intro os a w _ e h; subst e; exact h
  | cons i rest ih =>
    intro os a w hi e h
    have hlt := hi i (by simp)
    have ho : ops[i]? = some ops[i] := Array.getElem?_eq_getElem hlt
    have hrest : ∀ j ∈ rest, j < ops.size := fun j hj => hi j (by simp [hj])
    have e2 : os = ops[i] :: rest.filterMap (ops[·]?) := by rw [e, List.filterMap_cons]; simp [ho]
    subst e2
    simp only [wpL] at h
    simp only [wpOpsIn, ho]
    split
    · rename_i hw
      simp only [hw, if_true] at h
      refine ⟨fun _ _ => trivial, ?_⟩
      have : (wpL r P ops Q (rest.filterMap (ops[·]?))) = fun a w => wpL r P ops Q (rest.filterMap (ops[·]?)) a w := rfl
      revert h
      generalize (Oper.semAt (WF r).round a.eval ops[i]).run P w = res
      intro h
      have imp : ∀ a w, wpL r P ops Q (rest.filterMap (ops[·]?)) a w → wpOpsIn (WF r) 0 P ops Q rest a w := fun a w => ih _ a w hrest rfl
      unfold Oper.uponIn at h ⊢
      split at h
      · exact imp _ _ h
      · exact imp _ _ h
      · exact imp _ _ h
      · refine ⟨h.1, h.2.mono ?_⟩
        intro e w' q
        cases e with
        | returned v => exact imp _ _ q
        | panicked c => exact q
        | outgrown => exact q
      · exact ⟨h.1, h.2.mono fun v w' q => imp _ _ q⟩
      · refine ⟨h.1, h.2.mono ?_⟩
        intro e w' q
        cases e with
        | returned v => exact imp _ _ q
        | panicked c => exact q
        | outgrown => exact q
      · exact h
      · exact h.elim
    · rename_i hw
      simp only [hw, Bool.false_eq_true, if_false] at h
      exact ⟨fun _ _ => trivial, ih _ _ _ hrest rfl h⟩

theorem range_all {ops : Array Oper} : (List.range ops.size).filterMap (ops[·]?) = ops.toList := by
  apply List.ext_getElem?
  intro i
  have key : ∀ (l : List Oper), (List.range l.length).filterMap (l[·]?) = l := by
    intro l
    induction l with
    | nil => rfl
    | cons x r ih =>
      rw [List.length_cons, List.range_succ_eq_map, List.filterMap_cons]
      simp only [List.getElem?_cons_zero, List.filterMap_map]
      congr 1
  have := key ops.toList
  simp only [Array.length_toList, Array.getElem?_toList] at this
  rw [this]

/-- The rest of a region. -/
def wo (r : Option Nat) (P : Program) (n : Nat) (ops : Array Oper) (os : List Oper) (L : Loc) (Hs : List HP) (Q : Out) : Prop :=
  ∀ (a : Act) (M : Kn) (h : Res), St n L Hs a M h → ∀ (w : World) (hf : Res), h.dj hf → Sat w M (h.add hf) → wpL r P ops (lift M hf Q) os a w

section
variable {r : Option Nat} {P : Program} {n : Nat} {ops : Array Oper} {os : List Oper} {L : Loc} {Hs : List HP} {Q : Out}

theorem wc_region {id : Nat} {l : List Oper} (h : wo r P n l.toArray l L Hs Q) : wc r P n (.region id l.toArray false) L Hs Q := by
  intro a M m s w hf d t
  refine wpIn_region (wpOps_of_wpL _ _ a w (fun i hi => by simpa using hi) ?_ (h a M m s w hf d t))
  rw [range_all]

theorem wpL_mono {Q1 Q2 : Exit → Act → World → Prop} (hq : ∀ e a w, Q1 e a w → Q2 e a w) : ∀ (os : List Oper) (a : Act) (w : World), wpL r P ops Q1 os a w → wpL r P ops Q2 os a w := by
  intro os
  induction os with
  | nil => intro a w h; exact hq _ _ _ h
  | cons o os ih =>
    intro a w h
    simp only [wpL] at h ⊢
    split
    · rename_i hw
      simp only [hw, if_true] at h
      revert h
      generalize (Oper.semAt r a.eval o).run P w = res
      intro h
      unfold Oper.uponIn at h ⊢
      have lo : LetsOut Q1 → LetsOut Q2 := fun ⟨a, w, q⟩ => ⟨a, w, hq _ _ _ q⟩
      split at h
      · exact ih _ _ h
      · exact ih _ _ h
      · exact ih _ _ h
      · refine ⟨h.1, h.2.mono ?_⟩
        intro e w' q
        cases e with
        | returned v => exact ih _ _ q
        | panicked c => exact hq _ _ _ q
        | outgrown => exact lo q
      · exact ⟨h.1, h.2.mono fun v w' q => ih _ _ q⟩
      · refine ⟨h.1, h.2.mono ?_⟩
        intro e w' q
        cases e with
        | returned v => exact ih _ _ q
        | panicked c => exact hq _ _ _ q
        | outgrown => exact lo q
      · exact hq _ _ _ h
      · exact h.elim
    · rename_i hw
      simp only [hw, Bool.false_eq_true, if_false] at h
      exact ih _ _ h

/-- On with another frame, another world, more known. -/
theorem wo_on (k : wo r P n ops os L Hs Q) {a : Act} {M : Kn} {h : Res} (s : St n L Hs a M h) {w : World} {M0 : Kn} {hf : Res} (l : M0.le M) (d : h.dj hf) (t : Sat w M (h.add hf)) :
    wpL r P ops (lift M0 hf Q) os a w := wpL_mono (fun _ _ _ q => lift_le l q) _ _ _ (k a M h s w hf d t)

theorem wo_nil (h : tw n Q .normal L Hs) : wo r P n ops [] L Hs Q := fun a M m s w hf d t => ⟨M, m, Kn.le_refl _, d, t, h a M m s⟩
theorem wo_seq {y : Code} (h : wc r P n y L Hs Q) : wo r P n ops [] L Hs (thenO (wout r P y Q) Q) := wo_nil (to_then h)

theorem wo_ent {L' : Loc} {Hs' : List HP} (hc : Cov L L') (e : Ent Hs Hs') (h : wo r P n ops os L' Hs' Q) : wo r P n ops os L Hs Q :=
  fun a M x s => h a M x (s.ent hc e)

/-- What an operation gives that touches no memory. -/
structure PV (P : Program) (n : Nat) (L : Loc) (op : Op) (ty : TypeId) (v : Value) : Prop where
  nd : ∀ c, op ≠ .defer c
  run : ∀ (a : Act), Fr n L a → ∀ (w : World) (dst : Option Tmp) (pos : String) (after : Array Edge) (guard : Option (Nat × Bool)),
    (execOp a.eval ⟨dst, op, ty, pos, after, guard⟩).run P w = .ok (.value v) w

theorem wo_pv {op : Op} {ty : TypeId} {v : Value} {d : Nat} {pos : String} {after : Array Edge} (hv : PV P n L op ty v) (hd : Nat.blt d n = true)
    (k : wo r P n ops os ((d, v) :: L) Hs Q) : wo r P n ops (⟨some d, op, ty, pos, after, none⟩ :: os) L Hs Q := by
  intro a M m s w hf dj t
  simp only [wpL, Region.wanted, if_true]
  rw [Oper.semAt_eq _ _ _ hv.nd, hv.run a s.1 w]
  exact k _ M m ⟨s.1.put hd, s.2⟩ w hf dj t

/-- The yes or no that a guard hangs on. -/
def gd (ops : Array Oper) (L : Loc) (j : Nat) : Option Value := ((ops[j]?).bind (·.dst)).bind (lk L)
theorem gd_yielded {a : Act} (f : Fr n L a) {j : Nat} {b : Bool} (h : gd ops L j = some (.bool b)) : yielded ops a.tmps j = some b := by
  unfold gd at h
  unfold yielded
  cases e : (ops[j]?).bind (·.dst) with
  | none => rw [e] at h; cases h
  | some d => rw [e] at h; simp only [Option.bind_some] at h ⊢; rw [f.2 _ _ h]
theorem gd_wanted {a : Act} (f : Fr n L a) {j : Nat} {b want : Bool} (h : gd ops L j = some (.bool b)) {dst : Option Tmp} {op : Op} {ty : TypeId} {pos : String} {after : Array Edge} :
    Region.wanted ⟨dst, op, ty, pos, after, some (j, want)⟩ (yielded ops a.tmps) = (b == want) := by
  simp only [Region.wanted, gd_yielded f h]
  cases b <;> cases want <;> rfl

/-- A guarded operation that is let through goes as if it bore no guard. -/
theorem wo_in {j : Nat} {b : Bool} {dst : Option Tmp} {op : Op} {ty : TypeId} {pos : String} {after : Array Edge} (hj : gd ops L j = some (.bool b))
    (k : wo r P n ops (⟨dst, op, ty, pos, after, none⟩ :: os) L Hs Q) : wo r P n ops (⟨dst, op, ty, pos, after, some (j, b)⟩ :: os) L Hs Q := by
  intro a M m s w hf d t
  have h := k a M m s w hf d t
  simp only [wpL] at h ⊢
  rw [gd_wanted s.1 hj]
  simp only [Region.wanted, if_true, beq_self_eq_true] at h ⊢
  exact h
theorem wo_out {j : Nat} {b want : Bool} {d : Nat} {op : Op} {ty : TypeId} {pos : String} {after : Array Edge} (hj : gd ops L j = some (.bool b)) (hb : (b == want) = false) (hd : Nat.blt d n = true)
    (k : wo r P n ops os ((d, undef) :: L) Hs Q) : wo r P n ops (⟨some d, op, ty, pos, after, some (j, want)⟩ :: os) L Hs Q := by
  intro a M m s w hf dj t
  simp only [wpL]
  rw [gd_wanted s.1 hj, hb]
  simp only [Bool.false_eq_true, if_false]
  exact k _ M m ⟨s.1.put hd, s.2⟩ w hf dj t
/-- What lets nothing through. -/
def outv : Value → Bool → Bool
  | .bool b, w => !(b == w)
  | _, _ => true
theorem gd_outv {a : Act} (f : Fr n L a) {j : Nat} {u : Value} {want : Bool} (h : gd ops L j = some u) (hu : outv u want = true) : (yielded ops a.tmps j == some want) = false := by
  unfold gd at h
  unfold yielded
  cases e : (ops[j]?).bind (·.dst) with
  | none => rw [e] at h; cases h
  | some d =>
    rw [e] at h; simp only [Option.bind_some] at h ⊢
    rw [f.2 _ _ h]
    cases u with
    | bool b => cases b <;> cases want <;> simp_all [outv]
    | _ => rfl
theorem wo_outU {j : Nat} {want : Bool} {d : Nat} {op : Op} {ty : TypeId} {pos : String} {after : Array Edge} {u : Value} (hj : gd ops L j = some u) (hu : outv u want = true) (hd : Nat.blt d n = true)
    (k : wo r P n ops os ((d, undef) :: L) Hs Q) : wo r P n ops (⟨some d, op, ty, pos, after, some (j, want)⟩ :: os) L Hs Q := by
  intro a M m s w hf dj t
  have hw : Region.wanted ⟨some d, op, ty, pos, after, some (j, want)⟩ (yielded ops a.tmps) = false := gd_outv s.1 hj hu
  simp only [wpL]
  rw [hw]
  simp only [Bool.false_eq_true, if_false]
  exact k _ M m ⟨s.1.put hd, s.2⟩ w hf dj t
/-- Both ways of a yes or no. -/
theorem wo_split (b : Bool) (ht : b = true → wo r P n ops os L Hs Q) (hf : b = false → wo r P n ops os L Hs Q) : wo r P n ops os L Hs Q := by
  cases b
  · exact hf rfl
  · exact ht rfl

/-! Contracts. -/
/-- What is asked behind a call that answers v. -/
def ansR (M : Kn) (hf : Res) {X : Type} (val : X → Value) (φ : X → Prop) (Bs : X → List HP) : Ending → World → Prop :=
  fun e w' => ∃ (x : X) (M' : Kn) (h' : Res), e = .returned (val x) ∧ φ x ∧ M.le M' ∧ h'.dj hf ∧ Sat w' M' (h'.add hf) ∧ SL (Bs x) M' h'

structure Sp (P : Program) (f : FuncId) (args : List Value) (As : List HP) {X : Type} (val : X → Value) (φ : X → Prop) (Bs : X → List HP) : Prop where
  enters : ∀ (args : Array Value) (w : World), (callFunc f args).run P w = .ok (.enter f args) w
  calls : ∀ (w : World) (M : Kn) (h hf : Res), h.dj hf → Sat w M (h.add hf) → SL As M h → CallsIn (WF none) 0 P f args.toArray w (ansR M hf val φ Bs)

theorem Sp.mono {f : FuncId} {args : List Value} {As : List HP} {X Y : Type} {val : X → Value} {φ : X → Prop} {Bs : X → List HP} {val' : Y → Value} {φ' : Y → Prop} {Bs' : Y → List HP} {As' : List HP}
    (sp : Sp P f args As val φ Bs) (ha : Ent As' As) (hr : ∀ x, φ x → ∃ y, val x = val' y ∧ φ' y ∧ Ent (Bs x) (Bs' y)) : Sp P f args As' val' φ' Bs' := by
  refine ⟨sp.enters, fun w M h hf d t s => (sp.calls w M h hf d t (ha s)).mono ?_⟩
  rintro e w' ⟨x, M', h', rfl, p, l, d', t', s'⟩
  obtain ⟨y, e, p', en⟩ := hr x p
  exact ⟨y, M', h', by rw [e], p', l, d', t', en s'⟩

def locs : Nat → List Value → Loc
  | _, [] => []
  | i, v :: r => (i, v) :: locs (i + 1) r
theorem lk_locs : ∀ (vs : List Value) (i j : Nat), lk (locs i vs) j = if i ≤ j then vs[j - i]? else none := by
  intro vs
  induction vs with
  | nil => intro i j; simp [locs, lk]
  | cons v rest ih =>
    intro i j
    simp only [locs, lk]
    by_cases h : i = j
    · subst h; simp
    · rw [nbeq h, cond_false, ih]
      by_cases h2 : i ≤ j
      · rw [if_pos (by omega), if_pos h2]
        have : j - i = (j - (i + 1)) + 1 := by omega
        rw [this, List.getElem?_cons_succ]
      · rw [if_neg (by omega), if_neg h2]

/-- What the results read as. -/
def RV (P : Program) (fn : Func) (tmps : Array Value) (Cs : List HP) (v : Value) : Prop :=
  ∀ (w : World) (M : Kn) (h hf : Res), h.dj hf → Sat w M (h.add hf) → SL Cs M h → (results fn tmps).run P w = .ok v w

def finO (P : Program) (fn : Func) {X : Type} (val : X → Value) (φ : X → Prop) (Bs : X → List HP) : Out :=
  fun e a M h => (e = .normal ∨ e = .ret) ∧ ∃ (x : X) (Cs : List HP), φ x ∧ SL (Al (DefH a.defers) :: (Bs x ++ Cs)) M h ∧ RV P fn a.tmps Cs (val x)

theorem Sat.putObj {w : World} {M : Kn} {h : Res} {b : Nat} {o o' : Obj} (d : (Res.one b o).dj h) (t : Sat w M ((Res.one b o).add h)) : Sat (w.putObj b o') M ((Res.one b o').add h) := by
  have hb : w.heap[b]? = some o := t.ow b o (by simp [Res.add, Res.one])
  have hlt : b < w.heap.size := (Array.getElem?_eq_some_iff.1 hb).1
  have hM : M.im b = none := by
    rcases t.dj b with e | e
    · exact e
    · simp [Res.add, Res.one] at e
  have hh : h b = none := by
    rcases d b with e | e
    · simp [Res.one] at e
    · exact e
  refine ⟨fun i u e => ?_, fun i u e => ?_, fun i => ?_, ⟨t.env.os, t.env.tape, t.env.output, by simpa [World.putObj] using t.env.size⟩⟩
  · have hi : i ≠ b := fun x => by subst x; rw [hM] at e; cases e
    rw [World.putObj_heap_other hi]; exact t.im i u e
  · by_cases hi : i = b
    · subst hi
      simp [Res.add, Res.one] at e; subst e
      exact World.putObj_heap_same hlt
    · rw [World.putObj_heap_other hi]
      exact t.ow i u (by simpa [Res.add, Res.one, hi] using e)
  · by_cases hi : i = b
    · subst hi; exact .inl hM
    · rcases t.dj i with e | e
      · exact .inl e
      · exact .inr (by simpa [Res.add, Res.one, hi] using e)

theorem leaves {fn : Func} {tmps : Array Value} {X : Type} {val : X → Value} {φ : X → Prop} {Bs : X → List HP} {M0 : Kn} {hf : Res} {Cs : List HP} {x : X} (hx : φ x) (hv : RV P fn tmps Cs (val x)) :
    ∀ (ds : List Deferred) (M : Kn) (h : Res) (w : World), M0.le M → h.dj hf → Sat w M (h.add hf) → SL (Al (DefH ds) :: (Bs x ++ Cs)) M h →
      LeavesInM (WF none) 0 P fn tmps (ansR M0 hf val φ Bs) ds .returning w := by
  intro ds
  induction ds with
  | nil =>
    intro M h w l d t s
    obtain ⟨h1, h2, d12, e, _, s⟩ := s
    subst e
    obtain ⟨k1, k2, dk, e, sb, sc⟩ := SL.split s
    subst e
    obtain ⟨d1, d2⟩ := Res.dj_add_left.1 d
    obtain ⟨d3, d4⟩ := Res.dj_add_left.1 d2
    obtain ⟨d5, d6⟩ := Res.dj_add_right.1 d12
    refine ⟨val x, hv w M k2 ((h1.add k1).add hf) ?_ ?_ sc, x, M, h1.add k1, rfl, hx, l, Res.dj_add_left.2 ⟨d1, d3⟩, ?_, SL.more d5 sb⟩
    · exact Res.dj_add_right.2 ⟨Res.dj_add_right.2 ⟨Res.dj_comm d6, Res.dj_comm dk⟩, d4⟩
    · have : (h1.add (k1.add k2)).add hf = k2.add ((h1.add k1).add hf) := by
        rw [← Res.add_assoc h1 k1 k2, Res.add_comm (Res.dj_add_left.2 ⟨d6, dk⟩), Res.add_assoc]
      rw [← this]; exact t
    · refine t.le ?_
      intro i o e
      have : (h1.add (k1.add k2)).add hf = k2.add ((h1.add k1).add hf) := by
        rw [← Res.add_assoc h1 k1 k2, Res.add_comm (Res.dj_add_left.2 ⟨d6, dk⟩), Res.add_assoc]
      rw [this]
      exact Res.le_add_right (Res.dj_add_right.2 ⟨Res.dj_add_right.2 ⟨Res.dj_comm d6, Res.dj_comm dk⟩, d4⟩) i o e
  | cons dd ds ih =>
    intro M h w l d t s
    obtain ⟨h1, h2, d12, e, sd, s⟩ := s
    subst e
    obtain ⟨k1, k2, dk, e, ⟨rr, sr⟩, sds⟩ := sd
    subst e
    obtain ⟨p1, p2, dp, e, hp, sr⟩ := sr
    subst e
    obtain ⟨q1, q2, dq, e, hq, _⟩ := sr
    subst e
    have hp' : dd = { target := .collected rr, args := #[] } := hp
    have hq' : q1 = Res.one rr (.deferred (some [])) := hq
    subst hq'
    obtain ⟨dp1, dp2⟩ := Res.dj_add_right.1 dp
    -- the mark's block ahead of all the rest
    have eq : ((p1.add ((Res.one rr (.deferred (some []))).add q2)).add k2).add h2 = (Res.one rr (.deferred (some []))).add (((p1.add q2).add k2).add h2) := by
      rw [← Res.add_assoc p1, Res.add_comm dp1, Res.add_assoc, Res.add_assoc, Res.add_assoc, Res.add_assoc]
      simp only [Res.add_assoc]
    have dj1 : (Res.one rr (.deferred (some []))).dj (((p1.add q2).add k2).add h2) := by
      obtain ⟨a1, a2⟩ := Res.dj_add_left.1 d12
      obtain ⟨b1, b2⟩ := Res.dj_add_left.1 dk
      obtain ⟨c1, c2⟩ := Res.dj_add_left.1 a1
      exact Res.dj_add_right.2 ⟨Res.dj_add_right.2 ⟨Res.dj_add_right.2 ⟨Res.dj_comm dp1, dq⟩, (Res.dj_add_left.1 b2).1⟩, (Res.dj_add_left.1 c2).1⟩
    rw [eq] at d t
    obtain ⟨df1, df2⟩ := Res.dj_add_left.1 d
    rw [Res.add_assoc] at t
    have hblk : w.heap[rr]? = some (.deferred (some [])) := t.ow rr _ (by simp [Res.add, Res.one])
    refine ⟨by simp, .inl ⟨rr, w.putObj rr (.deferred none), by rw [hp'], run_takeDeferred hblk, ?_⟩⟩
    have t2 := Sat.putObj (o' := .deferred none) (Res.dj_add_right.2 ⟨dj1, df1⟩) t
    have dnew : (((p1.add q2).add k2).add h2).dj hf := df2
    refine ih M (((p1.add q2).add k2).add h2) _ l dnew (t2.le ?_) ?_
    · intro i o e
      by_cases hi : i = rr
      · subst hi
        rcases dj1 i with z | z
        · simp [Res.one] at z
        · rcases df1 i with z' | z'
          · simp [Res.one] at z'
          · have : ((((p1.add q2).add k2).add h2).add hf) i = none := Res.add_none.2 ⟨z, z'⟩
            rw [this] at e; cases e
      · simp only [Res.add, Res.one, hi, if_false] at e ⊢
        exact e
    · refine ⟨(p1.add q2).add k2, h2, ?_, rfl, SL.more ?_ sds, s⟩
      · obtain ⟨a1, a2⟩ := Res.dj_add_left.1 d12
        obtain ⟨c1, c2⟩ := Res.dj_add_left.1 a1
        exact Res.dj_add_left.2 ⟨Res.dj_add_left.2 ⟨c1, (Res.dj_add_left.1 c2).2⟩, a2⟩
      · obtain ⟨b1, b2⟩ := Res.dj_add_left.1 dk
        exact Res.dj_add_left.2 ⟨b1, (Res.dj_add_left.1 b2).2⟩

theorem Sp.of_body {f : FuncId} {fn : Func} {c : Code} {args : List Value} {As : List HP} {X : Type} {val : X → Value} {φ : X → Prop} {Bs : X → List HP}
    (en : ∀ (args : Array Value) (w : World), (callFunc f args).run P w = .ok (.enter f args) w)
    (hf : P.funcs[f]? = some fn) (hb : fn.body = some c) (hn : fn.ntmps = n) (hl : Nat.ble args.length n = true)
    (h : wc none P n c (locs 0 args) As (finO P fn val φ Bs)) : Sp P f args As val φ Bs := by
  refine ⟨en, fun w M m hfr d t s => ?_⟩
  refine callsIn_of_wp_marks hf hb trivial (wpIn_mono (h _ M m ⟨⟨?_, ?_⟩, ?_⟩ w hfr d t) ?_)
  · have := Nat.le_of_ble_eq_true hl
    simp [hn]; omega
  · intro i v e
    rw [lk_locs] at e
    simp at e
    have hlt : i < args.length := by
      rcases Nat.lt_or_ge i args.length with x | x
      · exact x
      · rw [List.getElem?_eq_none x] at e; cases e
    rw [Array.getElem?_append]
    have e2 := (List.getElem?_eq_getElem hlt).symm.trans e
    simp only [Option.some.injEq] at e2
    simp [hlt, e2]
  · exact ⟨Res.emp, m, Res.emp_dj _, rfl, trivial, s⟩
  · rintro e a' w' ⟨M', h', l, d', t', he, x, Cs, hx, sl, rv⟩
    rcases he with rfl | rfl
    · exact leaves hx rv _ M' h' w' l d' t' sl
    · exact leaves hx rv _ M' h' w' l d' t' sl

def evs (L : Loc) : List Operand → Option (List Value)
  | [] => some []
  | x :: xs => match ev L x with
    | some v => match evs L xs with
      | some vs => some (v :: vs)
      | none => none
    | none => none
theorem Fr.evs {a : Act} (f : Fr n L a) : ∀ (xs : List Operand) {vs : List Value}, evs L xs = some vs → xs.map a.eval = vs := by
  intro xs
  induction xs with
  | nil => intro vs h; simp [Go.Proofs.Ytimafngkifakfaa.evs] at h; simp [h]
  | cons x xs ih =>
    intro vs h
    simp only [Go.Proofs.Ytimafngkifakfaa.evs] at h
    split at h
    · rename_i v hv
      split at h
      · rename_i us hu
        simp at h; subst h
        simp [f.ev hv, ih hu]
      · cases h
    · cases h

/-- Behind a call that answers as a contract says. -/
theorem after_call {X : Type} {val : X → Value} {φ : X → Prop} {Bs : X → List HP} {Rs : List HP} {d : Nat}
    (hd : Nat.blt d n = true) (k : ∀ x, φ x → wo r P n ops os ((d, val x) :: L) (Bs x ++ Rs) Q)
    {a : Act} {M : Kn} {h1 h2 hf : Res} (f : Fr n L a) (sd : SL [Al (DefH a.defers)] M h1) (sr : SL Rs M h2) (d12 : h1.dj h2) (dhf : (h1.add h2).dj hf)
    {e : Ending} {w' : World} (ans : ansR M ((h1.add h2).add hf) val φ Bs e w') :
    ∃ v, e = .returned v ∧ wpL r P ops (lift M hf Q) os (a.put (some d) v) w' := by
  obtain ⟨x, M', h', rfl, p, l, dj', t', s'⟩ := ans
  refine ⟨_, rfl, ?_⟩
  obtain ⟨dj1, dj2⟩ := Res.dj_add_right.1 dj'
  refine wo_on (k x p) (a := a.put (some d) (val x)) (M := M') (h := h1.add (h'.add h2)) ⟨f.put hd, ?_⟩ l ?_ ?_
  · obtain ⟨dj3, dj4⟩ := Res.dj_add_right.1 dj1
    obtain ⟨g1, g2, e1, e2, y, _⟩ := sd
    subst e2
    have hdef : (a.put (some d) (val x)).defers = a.defers := rfl
    rw [hdef]
    obtain ⟨x1, x2⟩ := Res.dj_add_left.1 d12
    obtain ⟨y1, y2⟩ := Res.dj_add_right.1 dj3
    refine ⟨g1, g2.add (h'.add h2), ?_, by rw [Res.add_assoc], (Al _).mono l y, SL.more ?_ (SL.append dj4 s' (SL.mono l sr))⟩
    · exact Res.dj_add_right.2 ⟨e1, Res.dj_add_right.2 ⟨Res.dj_comm y1, x1⟩⟩
    · exact Res.dj_add_right.2 ⟨Res.dj_comm y2, x2⟩
  · obtain ⟨z1, z2⟩ := Res.dj_add_left.1 dhf
    exact Res.dj_add_left.2 ⟨z1, Res.dj_add_left.2 ⟨dj2, z2⟩⟩
  · obtain ⟨dj3, dj4⟩ := Res.dj_add_right.1 dj1
    have : (h1.add (h'.add h2)).add hf = h'.add ((h1.add h2).add hf) := by
      rw [← Res.add_assoc h1 h' h2, Res.add_comm (Res.dj_comm dj3)]
      simp only [Res.add_assoc]
    rw [this]; exact t'

theorem split_call {a : Act} {M : Kn} {h : Res} {As Rs : List HP} (s : SL (Al (DefH a.defers) :: Hs) M h) (hp : Picks As Hs Rs) :
    ∃ h1 h2 h3 : Res, h1.dj h2 ∧ h3.dj (h1.add h2) ∧ h = h3.add (h1.add h2) ∧ SL [Al (DefH a.defers)] M h1 ∧ SL Rs M h2 ∧ SL As M h3 := by
  obtain ⟨g1, g2, dg, e, x, s⟩ := s
  subst e
  obtain ⟨k1, k2, dk, e, sa, sr⟩ := hp.sat s
  subst e
  obtain ⟨d1, d2⟩ := Res.dj_add_right.1 dg
  refine ⟨g1, k2, k1, d2, Res.dj_add_right.2 ⟨Res.dj_comm d1, dk⟩, ?_, ⟨g1, Res.emp, Res.dj_emp _, (Res.add_emp _).symm, x, trivial⟩, sr, sa⟩
  rw [← Res.add_assoc, Res.add_comm d1, Res.add_assoc]

theorem wo_call {f : Operand} {args : Array Operand} {argTypes : Array TypeId} {ty : TypeId} {d g : Nat} {pos : String} {after : Array Edge} {vs cap : List Value}
    {As Rs : List HP} {X : Type} {val : X → Value} {φ : X → Prop} {Bs : X → List HP}
    (sp : Sp P g (vs ++ cap) As val φ Bs) (hf : ev L f = some (.func (.func g) #[] cap.toArray)) (ha : evs L args.toList = some vs) (hd : Nat.blt d n = true) (hp : Picks As Hs Rs)
    (k : ∀ x, φ x → wo r P n ops os ((d, val x) :: L) (Bs x ++ Rs) Q) :
    wo r P n ops (⟨some d, .call ⟨.value f, args, argTypes⟩, ty, pos, after, none⟩ :: os) L Hs Q := by
  intro a M m s w hfr dj t
  simp only [wpL, Region.wanted, if_true]
  rw [Oper.semAt_eq _ _ _ (by intro c; simp)]
  have hargs : args.map a.eval = vs.toArray := by
    have := s.1.evs _ ha
    apply Array.ext'
    simp [this]
  have hrun : (execOp a.eval ⟨some d, .call ⟨.value f, args, argTypes⟩, ty, pos, after, none⟩).run P w = .ok (.enter g (vs ++ cap).toArray) w := by
    simp only [execOp, resolve, s.1.ev hf, Deferred.ofValue, hargs, Sem.run_bind, Sem.run_pure, Result.andThen_ok, invoke]
    have := sp.enters (vs ++ cap).toArray w
    simpa using this
  rw [hrun]
  obtain ⟨h1, h2, h3, d12, d3, e, sd, sr, sa⟩ := split_call s.2 hp
  subst e
  obtain ⟨dj1, dj2⟩ := Res.dj_add_left.1 dj
  refine ⟨fun _ => by simp [WF] at *, (sp.calls w M h3 ((h1.add h2).add hfr) (Res.dj_add_right.2 ⟨d3, dj1⟩) (by rw [← Res.add_assoc]; exact t) sa).mono ?_⟩
  intro e w' ans
  obtain ⟨v, rfl, h⟩ := after_call hd k s.1 sd sr d12 dj2 ans
  exact h
end
end Go.Proofs.Ytimafngkifakfaa

/- Operations that touch no memory. -/
namespace Go.Proofs.Ytimafngkifakfaa

abbrev vI (n : Int) : Value := .int .i64 n
abbrev vU (n : Int) : Value := .int .u8 n
abbrev vB (b : Bool) : Value := .bool b
abbrev vS (l : List UInt8) : Value := .string ⟨⟨l⟩⟩
abbrev blt (l m : List UInt8) : Bool := Op.bytesLess l m

theorem mk_toList (l : List UInt8) : (ByteArray.mk ⟨l⟩).toList = l := by rw [ByteArray.toList_eq]
theorem lbeq (l m : List UInt8) : (l == m) = decide (l = m) := by by_cases h : l = m <;> simp [h]
theorem mk_append (l m : List UInt8) : (ByteArray.mk ⟨l⟩) ++ (ByteArray.mk ⟨m⟩) = ByteArray.mk ⟨l ++ m⟩ := by
  apply ByteArray.ext
  simp
theorem mk_size (l : List UInt8) : (ByteArray.mk ⟨l⟩).size = l.length := rfl
theorem mk_extract (l : List UInt8) (i j : Nat) : (ByteArray.mk ⟨l⟩).extract i j = ByteArray.mk ⟨(l.drop i).take (j - i)⟩ := by
  apply ByteArray.ext
  rw [ByteArray.data_extract]
  apply Array.ext'
  simp [Array.toList_extract, List.extract_eq_take_drop]
theorem mk_get (l : List UInt8) (i : Nat) : (ByteArray.mk ⟨l⟩)[i]? = l[i]? := by
  simp only [getElem?_def]
  simp only [mk_size]
  split <;> rfl
theorem mk_eq (l m : List UInt8) : (ByteArray.mk ⟨l⟩ == ByteArray.mk ⟨m⟩) = decide (l = m) := by
  rw [beq_toListBytes, mk_toList, mk_toList, lbeq]

section
variable {P : Program} {n : Nat} {L : Loc} {ty : TypeId}

theorem pv_move {x : Operand} {v : Value} (hx : ev L x = some v) : PV P n L (.move x) ty v :=
  ⟨by intro c; simp, fun a f w _ _ _ _ => by simp [execOp, f.ev hx]⟩
theorem pv_assign {x : Operand} {v : Value} (hx : ev L x = some v) : PV P n L (.assign x) ty v :=
  ⟨by intro c; simp, fun a f w _ _ _ _ => by simp [execOp, f.ev hx]⟩
theorem pv_pick_t {c x y : Operand} {v : Value} (hc : ev L c = some (.bool true)) (hx : ev L x = some v) : PV P n L (.pick c x y) ty v :=
  ⟨by intro c; simp, fun a f w _ _ _ _ => by simp [execOp, f.ev hc, f.ev hx, asBool]⟩
theorem pv_pick_f {c x y : Operand} {v : Value} (hc : ev L c = some (.bool false)) (hy : ev L y = some v) : PV P n L (.pick c x y) ty v :=
  ⟨by intro c; simp, fun a f w _ _ _ _ => by simp [execOp, f.ev hc, f.ev hy, asBool]⟩
theorem pv_pick_b {c x y : Operand} {b : Bool} {v u : Value} (hc : ev L c = some (.bool b)) (hx : ev L x = some v) (hy : ev L y = some u) : PV P n L (.pick c x y) ty (if b then v else u) :=
  ⟨by intro c; simp, fun a f w _ _ _ _ => by simp [execOp, f.ev hc, f.ev hx, f.ev hy, asBool]⟩
theorem pv_extract {x : Operand} {vs : Array Value} {i : Nat} {v : Value} (hx : ev L x = some (.tuple vs)) (hv : vs[i]? = some v) : PV P n L (.extract x i) ty v :=
  ⟨by intro c; simp, fun a f w _ _ _ _ => by simp [execOp, f.ev hx, Instr.extract, hv]⟩

/-! Whole numbers. -/
theorem pv_arith {x y : Operand} {k : IntKind} {i j : Int} {t yt : TypeId} {op : BinOp} {v : Value} (hx : ev L x = some (.int k i)) (hy : ev L y = some (.int k j))
    (h : ∀ w, (binOp op t (.int k i) (.int k j)).run P w = .ok v w) : PV P n L (.binOp op t x y yt) ty v :=
  ⟨by intro c; simp, fun a f w _ _ _ _ => by
    simp only [execOp, f.ev hx, f.ev hy, Sem.run_bind]
    have hg : (eqGuard op t x y (.int k i) (.int k j)).run P w = .ok () w := by
      unfold eqGuard
      split <;> rfl
    rw [hg]
    simp [h w]⟩
theorem i64_in' {m : Int} (h : -9223372036854775808 ≤ m ∧ m ≤ 9223372036854775807) : IntKind.i64.wrap m = m := IntWalk.i64_in m h

theorem pv_add {x y : Operand} {i j : Int} {t yt : TypeId} (hx : ev L x = some (vI i)) (hy : ev L y = some (vI j)) (h : -9223372036854775808 ≤ i + j ∧ i + j ≤ 9223372036854775807) :
    PV P n L (.binOp .add t x y yt) ty (vI (i + j)) := pv_arith hx hy fun w => by simp [binOp, Op.intArith, i64_in' h]
theorem pv_sub {x y : Operand} {i j : Int} {t yt : TypeId} (hx : ev L x = some (vI i)) (hy : ev L y = some (vI j)) (h : -9223372036854775808 ≤ i - j ∧ i - j ≤ 9223372036854775807) :
    PV P n L (.binOp .sub t x y yt) ty (vI (i - j)) := pv_arith hx hy fun w => by simp [binOp, Op.intArith, i64_in' h]
theorem pv_mul {x y : Operand} {i j : Int} {t yt : TypeId} (hx : ev L x = some (vI i)) (hy : ev L y = some (vI j)) (h : -9223372036854775808 ≤ i * j ∧ i * j ≤ 9223372036854775807) :
    PV P n L (.binOp .mul t x y yt) ty (vI (i * j)) := pv_arith hx hy fun w => by simp [binOp, Op.intArith, i64_in' h]
theorem pv_addw {x y : Operand} {k : IntKind} {i j : Int} {t yt : TypeId} (hx : ev L x = some (.int k i)) (hy : ev L y = some (.int k j)) :
    PV P n L (.binOp .add t x y yt) ty (.int k (k.wrap (i + j))) := pv_arith hx hy fun w => by simp [binOp, Op.intArith]
theorem pv_subw {x y : Operand} {k : IntKind} {i j : Int} {t yt : TypeId} (hx : ev L x = some (.int k i)) (hy : ev L y = some (.int k j)) :
    PV P n L (.binOp .sub t x y yt) ty (.int k (k.wrap (i - j))) := pv_arith hx hy fun w => by simp [binOp, Op.intArith]
theorem pv_mulw {x y : Operand} {k : IntKind} {i j : Int} {t yt : TypeId} (hx : ev L x = some (.int k i)) (hy : ev L y = some (.int k j)) :
    PV P n L (.binOp .mul t x y yt) ty (.int k (k.wrap (i * j))) := pv_arith hx hy fun w => by simp [binOp, Op.intArith]
theorem pv_quo {x y : Operand} {i j : Int} {t yt : TypeId} (hx : ev L x = some (vI i)) (hy : ev L y = some (vI j)) (h : 0 ≤ i ∧ i ≤ 9223372036854775807 ∧ 1 ≤ j) :
    PV P n L (.binOp .quo t x y yt) ty (vI (i / j)) := pv_arith hx hy fun w => by
      have hj : ¬ (j = 0) := by omega
      simp [binOp, Op.intDiv, hj, IntWalk.i64_quo _ _ h]
theorem pv_rem {x y : Operand} {k : IntKind} {i j : Int} {t yt : TypeId} (hx : ev L x = some (.int k i)) (hy : ev L y = some (.int k j)) (h : 0 ≤ i ∧ 1 ≤ j) :
    PV P n L (.binOp .rem t x y yt) ty (.int k (i % j)) := pv_arith hx hy fun w => by
      have hj : ¬ (j = 0) := by omega
      simp [binOp, Op.intDiv, hj, Int.tmod_eq_emod_of_nonneg h.1]
theorem pv_remt {x y : Operand} {k : IntKind} {i j : Int} {t yt : TypeId} (hx : ev L x = some (.int k i)) (hy : ev L y = some (.int k j)) (h : 1 ≤ j) :
    PV P n L (.binOp .rem t x y yt) ty (.int k (i.tmod j)) := pv_arith hx hy fun w => by
      have hj : ¬ (j = 0) := by omega
      simp [binOp, Op.intDiv, hj]
theorem pv_lss {x y : Operand} {k : IntKind} {i j : Int} {t yt : TypeId} (hx : ev L x = some (.int k i)) (hy : ev L y = some (.int k j)) :
    PV P n L (.binOp .lss t x y yt) ty (.bool (decide (i < j))) := pv_arith hx hy fun w => by simp [binOp, Op.intCmp]
theorem pv_leq {x y : Operand} {k : IntKind} {i j : Int} {t yt : TypeId} (hx : ev L x = some (.int k i)) (hy : ev L y = some (.int k j)) :
    PV P n L (.binOp .leq t x y yt) ty (.bool (decide (i ≤ j))) := pv_arith hx hy fun w => by simp [binOp, Op.intCmp]
theorem pv_gtr {x y : Operand} {k : IntKind} {i j : Int} {t yt : TypeId} (hx : ev L x = some (.int k i)) (hy : ev L y = some (.int k j)) :
    PV P n L (.binOp .gtr t x y yt) ty (.bool (decide (j < i))) := pv_arith hx hy fun w => by simp [binOp, Op.intCmp]
theorem pv_geq {x y : Operand} {k : IntKind} {i j : Int} {t yt : TypeId} (hx : ev L x = some (.int k i)) (hy : ev L y = some (.int k j)) :
    PV P n L (.binOp .geq t x y yt) ty (.bool (decide (j ≤ i))) := pv_arith hx hy fun w => by simp [binOp, Op.intCmp]
theorem pv_eql {x y : Operand} {k : IntKind} {i j : Int} {t yt : TypeId} (hx : ev L x = some (.int k i)) (hy : ev L y = some (.int k j)) :
    PV P n L (.binOp .eql t x y yt) ty (.bool (decide (i = j))) := pv_arith hx hy fun w => by
      simp only [binOp, ne_eq, not_true_eq_false, if_false, Op.intCmp, Sem.run_pure]; congr 2
theorem pv_neq {x y : Operand} {k : IntKind} {i j : Int} {t yt : TypeId} (hx : ev L x = some (.int k i)) (hy : ev L y = some (.int k j)) :
    PV P n L (.binOp .neq t x y yt) ty (.bool (decide (¬ i = j))) := pv_arith hx hy fun w => by
      simp only [binOp, ne_eq, not_true_eq_false, if_false, Op.intCmp, Sem.run_pure]; congr 2; by_cases h : i = j <;> simp [h]
theorem pv_shl {x y : Operand} {k k' : IntKind} {i : Int} {m : Nat} {t yt : TypeId} (hx : ev L x = some (.int k i)) (hy : ev L y = some (.int k' (m : Int))) :
    PV P n L (.binOp .shl t x y yt) ty (.int k (k.wrap (i * 2 ^ (min m k.bits)))) :=
  ⟨by intro c; simp, fun a f w _ _ _ _ => by simp [execOp, f.ev hx, f.ev hy, eqGuard, binOp, Op.shift]; omega⟩
theorem pv_shr {x y : Operand} {k k' : IntKind} {i : Int} {m : Nat} {t yt : TypeId} (hx : ev L x = some (.int k i)) (hy : ev L y = some (.int k' (m : Int))) :
    PV P n L (.binOp .shr t x y yt) ty (.int k (i.fdiv (2 ^ (min m k.bits)))) :=
  ⟨by intro c; simp, fun a f w _ _ _ _ => by simp [execOp, f.ev hx, f.ev hy, eqGuard, binOp, Op.shift]; omega⟩
theorem pv_not {x : Operand} {b : Bool} {t : TypeId} (hx : ev L x = some (.bool b)) : PV P n L (.unOp .not t x) ty (.bool (!b)) :=
  ⟨by intro c; simp, fun a f w _ _ _ _ => by simp [execOp, f.ev hx, Op.unary]⟩
theorem pv_notd {x : Operand} {p : Prop} [Decidable p] {t : TypeId} (hx : ev L x = some (.bool (decide p))) : PV P n L (.unOp .not t x) ty (.bool (decide (¬ p))) := by
  have : decide (¬ p) = !(decide p) := by simp
  rw [this]; exact pv_not hx
theorem pv_conv {x : Operand} {k k' : IntKind} {i : Int} {src dst : TypeId} {sd : TypeDesc} (hx : ev L x = some (.int k' i)) (hs : P.underlying src = some sd) (hd : P.underlying dst = some (.int k)) :
    PV P n L (.convert src dst x) ty (.int k (k.wrap i)) :=
  ⟨by intro c; simp, fun a f w _ _ _ _ => by simp [execOp, f.ev hx, convert, run_underlying hs, run_underlying hd, Conv.intToInt]⟩
theorem pv_conv_in {x : Operand} {k k' : IntKind} {i : Int} {src dst : TypeId} {sd : TypeDesc} (hx : ev L x = some (.int k' i)) (hs : P.underlying src = some sd) (hd : P.underlying dst = some (.int k))
    (hw : k.wrap i = i) : PV P n L (.convert src dst x) ty (.int k i) := by
  have := pv_conv (n := n) (ty := ty) hx hs hd; rw [hw] at this; exact this

/-! Texts. -/
theorem pv_sarith {x y : Operand} {l m : List UInt8} {t yt : TypeId} {op : BinOp} {v : Value} (hx : ev L x = some (vS l)) (hy : ev L y = some (vS m))
    (h : ∀ w, (binOp op t (vS l) (vS m)).run P w = .ok v w) : PV P n L (.binOp op t x y yt) ty v :=
  ⟨by intro c; simp, fun a f w _ _ _ _ => by
    simp only [execOp, f.ev hx, f.ev hy, Sem.run_bind]
    have hg : (eqGuard op t x y (vS l) (vS m)).run P w = .ok () w := by
      unfold eqGuard
      split <;> rfl
    rw [hg]
    simp [h w]⟩
theorem pv_cat {x y : Operand} {l m : List UInt8} {t yt : TypeId} (hx : ev L x = some (vS l)) (hy : ev L y = some (vS m)) (h : l.length + m.length ≤ 9223372036854775807) :
    PV P n L (.binOp .add t x y yt) ty (vS (l ++ m)) := pv_sarith hx hy fun w => by
      have : ¬ (IntKind.i64.max < (l.length : Int) + (m.length : Int)) := by
        have e : IntKind.i64.max = 9223372036854775807 := by decide
        rw [e]; omega
      simp [binOp, Op.stringOp, mk_size, mk_append, this]
      omega
theorem pv_seql {x y : Operand} {l m : List UInt8} {t yt : TypeId} (hx : ev L x = some (vS l)) (hy : ev L y = some (vS m)) :
    PV P n L (.binOp .eql t x y yt) ty (.bool (decide (l = m))) := pv_sarith hx hy fun w => by
      simp only [binOp, Op.stringOp, mk_toList, Sem.run_pure, lbeq]
theorem pv_sneq {x y : Operand} {l m : List UInt8} {t yt : TypeId} (hx : ev L x = some (vS l)) (hy : ev L y = some (vS m)) :
    PV P n L (.binOp .neq t x y yt) ty (.bool (decide (¬ l = m))) := pv_sarith hx hy fun w => by
      simp only [binOp, Op.stringOp, mk_toList, Sem.run_pure]; congr 2; by_cases h : l = m <;> simp [h]
theorem pv_slss {x y : Operand} {l m : List UInt8} {t yt : TypeId} (hx : ev L x = some (vS l)) (hy : ev L y = some (vS m)) :
    PV P n L (.binOp .lss t x y yt) ty (.bool (blt l m)) := pv_sarith hx hy fun w => by simp [binOp, Op.stringOp, mk_toList]
theorem pv_sleq {x y : Operand} {l m : List UInt8} {t yt : TypeId} (hx : ev L x = some (vS l)) (hy : ev L y = some (vS m)) :
    PV P n L (.binOp .leq t x y yt) ty (.bool (blt l m || decide (l = m))) := pv_sarith hx hy fun w => by
      simp only [binOp, Op.stringOp, mk_toList, Sem.run_pure, lbeq]
theorem pv_sgtr {x y : Operand} {l m : List UInt8} {t yt : TypeId} (hx : ev L x = some (vS l)) (hy : ev L y = some (vS m)) :
    PV P n L (.binOp .gtr t x y yt) ty (.bool (!(blt l m || decide (l = m)))) := pv_sarith hx hy fun w => by
      simp only [binOp, Op.stringOp, mk_toList, Sem.run_pure, lbeq]
theorem pv_sgeq {x y : Operand} {l m : List UInt8} {t yt : TypeId} (hx : ev L x = some (vS l)) (hy : ev L y = some (vS m)) :
    PV P n L (.binOp .geq t x y yt) ty (.bool (!(blt l m))) := pv_sarith hx hy fun w => by simp [binOp, Op.stringOp, mk_toList]
theorem pv_index {x y : Operand} {l : List UInt8} {k : IntKind} {i : Int} {t : TypeId} (ht : P.underlying t = some .string) (hx : ev L x = some (vS l)) (hy : ev L y = some (.int k i)) (h0 : 0 ≤ i) (h : i < l.length) :
    PV P n L (.index t x y) ty (vU ((l.getD i.toNat 0).toNat : Int)) :=
  ⟨by intro c; simp, fun a f w _ _ _ _ => by
    have hlt : i.toNat < l.length := by omega
    simp only [execOp, f.ev hx, f.ev hy, Instr.index, asIntOf, Sem.run_bind, Sem.run_pure, Result.andThen_ok, run_underlying ht, h0, if_true, mk_get]
    rw [List.getElem?_eq_getElem hlt]
    simp [hlt]⟩
theorem pv_slice_to {x y : Operand} {l : List UInt8} {k : IntKind} {i : Int} {t : TypeId} (ht : P.underlying t = some .string) (hx : ev L x = some (vS l)) (hy : ev L y = some (.int k i)) (h0 : 0 ≤ i) (h : i ≤ l.length) :
    PV P n L (.slice t x none (some y) none) ty (vS (l.take i.toNat)) :=
  ⟨by intro c; simp, fun a f w _ _ _ _ => by
    have h0' : 0 ≤ i := h0
    simp [execOp, f.ev hx, f.ev hy, Instr.sliceAt, Instr.slice, Instr.sliceBounds, run_underlying ht, mk_size, run_sliceBound w k i l.length .sliceAlen h0 h, mk_extract]⟩
theorem pv_slice_from {x y : Operand} {l : List UInt8} {k : IntKind} {i : Int} {t : TypeId} (ht : P.underlying t = some .string) (hx : ev L x = some (vS l)) (hy : ev L y = some (.int k i)) (h0 : 0 ≤ i) (h : i ≤ l.length) :
    PV P n L (.slice t x (some y) none none) ty (vS (l.drop i.toNat)) :=
  ⟨by intro c; simp, fun a f w _ _ _ _ => by
    simp [execOp, f.ev hx, f.ev hy, Instr.sliceAt, Instr.slice, Instr.sliceBounds, run_underlying ht, mk_size, run_sliceBound w k i l.length .sliceB h0 h, mk_extract]
    exact List.take_of_length_le (by simp)⟩
theorem pv_slice_in {x y z : Operand} {l : List UInt8} {k k' : IntKind} {i j : Int} {t : TypeId} (ht : P.underlying t = some .string) (hx : ev L x = some (vS l)) (hy : ev L y = some (.int k i)) (hz : ev L z = some (.int k' j))
    (h0 : 0 ≤ i) (h1 : i ≤ j) (h : j ≤ l.length) : PV P n L (.slice t x (some y) (some z) none) ty (vS ((l.drop i.toNat).take (j - i).toNat)) :=
  ⟨by intro c; simp, fun a f w _ _ _ _ => by
    have e : (j - i).toNat = j.toNat - i.toNat := by omega
    have hj : (j.toNat : Int) = j := by omega
    simp [execOp, f.ev hx, f.ev hy, f.ev hz, Instr.sliceAt, Instr.slice, Instr.sliceBounds, run_underlying ht, mk_size, run_sliceBound w k' j l.length .sliceAlen (by omega) h, run_sliceBound w k i j.toNat .sliceB h0 (by omega), mk_extract, e]⟩
theorem pv_call_len_s {x : Operand} {l : List UInt8} {t : TypeId} (ht : P.underlying t = some .string) (hx : ev L x = some (vS l)) : PV P n L (.call ⟨.builtin .len, #[x], #[t]⟩) ty (vI l.length) :=
  ⟨by intro c; simp, fun a f w _ _ _ _ => by simp [execOp, resolve, f.ev hx, invoke, builtin, Builtin.len_, run_underlying ht, mk_size, goInt]⟩
theorem pv_call_len_sl {x : Operand} {b : Option Addr} {len cap : Nat} {t e : TypeId} (ht : P.underlying t = some (.slice e)) (hx : ev L x = some (.slice b len cap)) : PV P n L (.call ⟨.builtin .len, #[x], #[t]⟩) ty (vI len) :=
  ⟨by intro c; simp, fun a f w _ _ _ _ => by simp [execOp, resolve, f.ev hx, invoke, builtin, Builtin.len_, run_underlying ht, goInt]⟩
theorem pv_call_cap_sl {x : Operand} {b : Option Addr} {len cap : Nat} {t e : TypeId} (ht : P.underlying t = some (.slice e)) (hx : ev L x = some (.slice b len cap)) : PV P n L (.call ⟨.builtin .cap, #[x], #[t]⟩) ty (vI cap) :=
  ⟨by intro c; simp, fun a f w _ _ _ _ => by simp [execOp, resolve, f.ev hx, invoke, builtin, Builtin.cap_, run_underlying ht, goInt]⟩
theorem pv_call_min {x y : Operand} {k : IntKind} {i j : Int} {ts : Array TypeId} (hx : ev L x = some (.int k i)) (hy : ev L y = some (.int k j)) : PV P n L (.call ⟨.builtin .min, #[x, y], ts⟩) ty (.int k (min i j)) :=
  ⟨by intro c; simp, fun a f w _ _ _ _ => by
    have : (if j < i then j else i) = min i j := by split <;> omega
    simp [execOp, resolve, f.ev hx, f.ev hy, invoke, builtin, Builtin.min_, Builtin.min2, this]⟩
theorem pv_call_max {x y : Operand} {k : IntKind} {i j : Int} {ts : Array TypeId} (hx : ev L x = some (.int k i)) (hy : ev L y = some (.int k j)) : PV P n L (.call ⟨.builtin .max, #[x, y], ts⟩) ty (.int k (max i j)) :=
  ⟨by intro c; simp, fun a f w _ _ _ _ => by
    have : (if i < j then j else i) = max i j := by split <;> omega
    simp [execOp, resolve, f.ev hx, f.ev hy, invoke, builtin, Builtin.max_, Builtin.max2, this]⟩
/-! Structs, addresses, functions. -/
theorem pv_build {t : TypeId} {ps : Array (Nat × Operand)} {vs : List (Nat × Value)} {v : Value} (hps : ∀ a : Act, Fr n L a → (ps.map fun (i, x) => (i, a.eval x)) = vs.toArray)
    (h : ∀ w, (Instr.build t vs.toArray).run P w = .ok v w) : PV P n L (.build t ps) ty v :=
  ⟨by intro c; simp, fun a f w _ _ _ _ => by
    have e := hps a f
    simp only [execOp]
    rw [show (Array.map (fun x => match x with | (i, x) => (i, a.eval x)) ps) = vs.toArray from e]
    simp [h w]⟩
theorem pv_field {t : TypeId} {x : Operand} {i : Nat} {v u : Value} (hx : ev L x = some u) (h : ∀ w, (Instr.field t u i).run P w = .ok v w) : PV P n L (.field t x i) ty v :=
  ⟨by intro c; simp, fun a f w _ _ _ _ => by simp [execOp, f.ev hx, h w]⟩
theorem pv_fieldAddr {t : TypeId} {x : Operand} {i b off : Nat} {fs : Array Field} {fd : Field} (ht : P.underlying t = some (.struct fs)) (hf : fs[i]? = some fd) {ti : TypeInfo} (hi : P.info? fd.type = some ti) (hz : Nat.beq ti.size 0 = false)
    (hx : ev L x = some (.pointer (some ⟨b, off, none⟩))) : PV P n L (.fieldAddr t x i) ty (.pointer (some ⟨b, off + fd.offset, none⟩)) :=
  ⟨by intro c; simp, fun a f w _ _ _ _ => by
    have hz' : ¬ (ti.size = 0) := fun e => by rw [e] at hz; cases hz
    have : (⟨b, off, none⟩ : Addr).add fd.offset = ⟨b, off + fd.offset, none⟩ := by
      unfold Addr.add; split <;> simp_all
    simp [execOp, f.ev hx, Instr.fieldAt, Instr.sureAddr, run_underlying ht, hf, fieldPlace, sizeOf, typeInfo, program, Sem.run, hi, hz', this]⟩
theorem pv_indexAddr {t e : TypeId} {x y : Operand} {k : IntKind} {i : Int} {b off len cap : Nat} {ti : TypeInfo} (ht : P.underlying t = some (.slice e)) (hi : P.info? e = some ti)
    (hx : ev L x = some (.slice (some ⟨b, off, none⟩) len cap)) (hy : ev L y = some (.int k i)) (h0 : 0 ≤ i) (h : i < len) : PV P n L (.indexAddr t x y) ty (.pointer (some ⟨b, off + i.toNat * ti.size, none⟩)) :=
  ⟨by intro c; simp, fun a f w _ _ _ _ => by
    have : (⟨b, off, none⟩ : Addr).add (i.toNat * ti.size) = ⟨b, off + i.toNat * ti.size, none⟩ := by
      unfold Addr.add; split <;> simp_all
    simp [execOp, f.ev hx, f.ev hy, Instr.indexAt, asIntOf, run_underlying ht, h0, h, sizeOf, typeInfo, program, Sem.run, hi, this]⟩
theorem pv_nilCheck_p {x : Operand} {b : Addr} (hx : ev L x = some (.pointer (some b))) : PV P n L (.nilCheck x) ty (.pointer (some b)) :=
  ⟨by intro c; simp, fun a f w _ _ _ _ => by simp [execOp, f.ev hx]⟩
theorem pv_nilCheck_f {x : Operand} {g : FuncId} {as cs : Array Value} (hx : ev L x = some (.func (.func g) as cs)) : PV P n L (.nilCheck x) ty (.func (.func g) as cs) :=
  ⟨by intro c; simp, fun a f w _ _ _ _ => by simp [execOp, f.ev hx]⟩
theorem pv_makeFunc {fn : Fn} {as cs : Array Operand} {avs cvs : List Value} (ha : evs L as.toList = some avs) (hc : evs L cs.toList = some cvs) : PV P n L (.makeFunc fn as cs) ty (.func fn avs.toArray cvs.toArray) :=
  ⟨by intro c; simp, fun a f w _ _ _ _ => by
    have e1 : as.map a.eval = avs.toArray := by apply Array.ext'; simp [f.evs _ ha]
    have e2 : cs.map a.eval = cvs.toArray := by apply Array.ext'; simp [f.evs _ hc]
    simp [execOp, Instr.makeFunc, e1, e2]⟩
theorem pv_slslice_to {x y : Operand} {b : Option Addr} {len cap : Nat} {k : IntKind} {i : Int} {t e : TypeId} {ti : TypeInfo} (ht : P.underlying t = some (.slice e)) (hi : P.info? e = some ti) (hx : ev L x = some (.slice b len cap)) (hy : ev L y = some (.int k i)) (h0 : 0 ≤ i) (h : i ≤ cap) :
    PV P n L (.slice t x none (some y) none) ty (.slice b i.toNat cap) :=
  ⟨by intro c; simp, fun a f w _ _ _ _ => by
    have e : (if cap = 0 then b else Option.map (fun x : Addr => x.add 0) b) = b := by
      split
      · rfl
      · cases b <;> simp [Addr.add]
    simp [execOp, f.ev hx, f.ev hy, Instr.sliceAt, Instr.slice, Instr.sliceBounds, run_underlying ht, run_sliceBound w k i cap .sliceAcap h0 h, sizeOf, typeInfo, program, Sem.run, hi, e]⟩
theorem pv_slslice_from {x y : Operand} {b : Option Addr} {len cap : Nat} {k : IntKind} {i : Int} {t e : TypeId} {ti : TypeInfo} (ht : P.underlying t = some (.slice e)) (hi : P.info? e = some ti) (hx : ev L x = some (.slice b len cap)) (hy : ev L y = some (.int k i)) (h0 : 0 ≤ i) (h : i ≤ len) :
    PV P n L (.slice t x (some y) none none) ty (.slice (if cap = i.toNat then b else b.map (·.add (i.toNat * ti.size))) (len - i.toNat) (cap - i.toNat)) :=
  ⟨by intro c; simp, fun a f w _ _ _ _ => by
    simp [execOp, f.ev hx, f.ev hy, Instr.sliceAt, Instr.slice, Instr.sliceBounds, run_underlying ht, run_sliceBound w k i len .sliceB h0 h, sizeOf, typeInfo, program, Sem.run, hi]⟩
end
end Go.Proofs.Ytimafngkifakfaa

/- Operations on memory. -/
namespace Go.Proofs.Ytimafngkifakfaa

/-- It stands among the assertions. -/
inductive Has (A : HP) : List HP → Prop
  | here {r : List HP} : Has A (A :: r)
  | there {B : HP} {r : List HP} : Has A r → Has A (B :: r)
theorem Has.sat {A : HP} {Hs : List HP} (p : Has A Hs) : ∀ {M : Kn} {h : Res}, SL Hs M h → ∃ h1 : Res, h1.le h ∧ A.at_ M h1 := by
  induction p with
  | here => rintro M h ⟨h1, h2, d, e, a, t⟩; exact ⟨h1, by rw [e]; exact Res.le_add_left _ _, a⟩
  | there _ ih =>
    rintro M h ⟨h1, h2, d, e, a, t⟩
    obtain ⟨k, l, x⟩ := ih t
    exact ⟨k, Res.le_trans l (by rw [e]; exact Res.le_add_right d), x⟩

/-- One assertion is replaced by another. -/
inductive Upd (A B : HP) : List HP → List HP → Prop
  | here {r : List HP} : Upd A B (A :: r) (B :: r)
  | there {C : HP} {r s : List HP} : Upd A B r s → Upd A B (C :: r) (C :: s)
theorem Upd.sat {A B : HP} {Hs Gs : List HP} (p : Upd A B Hs Gs) : ∀ {M : Kn} {h : Res}, SL Hs M h →
    ∃ h1 h2 : Res, h1.dj h2 ∧ h = h1.add h2 ∧ A.at_ M h1 ∧ ∀ (M' : Kn) (h1' : Res), M.le M' → h1'.dj h2 → B.at_ M' h1' → SL Gs M' (h1'.add h2) := by
  induction p with
  | here =>
    rintro M h ⟨h1, h2, d, e, a, t⟩
    exact ⟨h1, h2, d, e, a, fun M' h1' l d' b => ⟨h1', h2, d', rfl, b, SL.mono l t⟩⟩
  | @there C r s _ ih =>
    rintro M h ⟨h1, h2, d, e, c, t⟩
    obtain ⟨k1, k2, d', e', a, g⟩ := ih t
    subst e'; subst e
    obtain ⟨d1, d2⟩ := Res.dj_add_right.1 d
    refine ⟨k1, h1.add k2, Res.dj_add_right.2 ⟨Res.dj_comm d1, d'⟩, by rw [← Res.add_assoc, Res.add_comm d1, Res.add_assoc], a, ?_⟩
    intro M' h1' l dj b
    obtain ⟨x1, x2⟩ := Res.dj_add_right.1 dj
    refine ⟨h1, h1'.add k2, Res.dj_add_right.2 ⟨Res.dj_comm x1, d2⟩, ?_, C.mono l c, g M' h1' l x2 b⟩
    rw [← Res.add_assoc, Res.add_comm x1, Res.add_assoc]

/-- A block of cells that one has; that never turns. -/
def Ce (b : Nat) (T : TypeId) (l : List Value) : HP := Blk b (.cells l.toArray T (0, 0))
def ICe (b : Nat) (T : TypeId) (l : List Value) : HP := Im b (.cells l.toArray T (0, 0))

/-- What lets a block's cells be read. -/
def Shows (A : HP) (b : Nat) (l : List Value) : Prop := ∀ {M : Kn} {h : Res}, A.at_ M h → ∃ T fz, M.im b = some (.cells l.toArray T fz) ∨ h b = some (.cells l.toArray T fz)
theorem shows_ce {b : Nat} {T : TypeId} {l : List Value} : Shows (Ce b T l) b l := fun e => ⟨T, (0, 0), .inr (by have : _ = Res.one b _ := e; rw [this]; exact Res.one_same _ _)⟩
theorem shows_ice {b : Nat} {T : TypeId} {l : List Value} : Shows (ICe b T l) b l := fun e => ⟨T, (0, 0), .inl e⟩
theorem shows_im {b : Nat} {T : TypeId} {l : List Value} {fz : Nat × Nat} : Shows (Im b (.cells l.toArray T fz)) b l := fun e => ⟨T, fz, .inl e⟩
theorem shows_blk {b : Nat} {T : TypeId} {l : List Value} {fz : Nat × Nat} : Shows (Blk b (.cells l.toArray T fz)) b l := fun e => ⟨T, fz, .inr (by have : _ = Res.one b _ := e; rw [this]; exact Res.one_same _ _)⟩

theorem shows_cell {A : HP} {b : Nat} {l : List Value} (sh : Shows A b l) {w : World} {M : Kn} {h hf h1 : Res} (t : Sat w M (h.add hf)) (le : h1.le h) (x : A.at_ M h1) (off : Nat) :
    w.cell? ⟨b, off, none⟩ = l[off]? := by
  obtain ⟨T, fz, e⟩ := sh x
  have hb : w.heap[b]? = some (.cells l.toArray T fz) := by
    rcases e with e | e
    · exact t.im _ _ e
    · exact t.ow _ _ (Res.le_add_left _ _ _ _ (le _ _ e))
  simp [World.cell?, hb]

section
variable {r : Option Nat} {P : Program} {n : Nat} {ops : Array Oper} {os : List Oper} {L : Loc} {Hs : List HP} {Q : Out} {ty : TypeId} {d : Nat} {pos : String} {after : Array Edge}

/-- An operation that leaves the world as it is, with what it reads. -/
theorem wo_read {A : HP} {op : Op} {v : Value} (nd : ∀ c, op ≠ .defer c) (hA : Has A Hs) (hd : Nat.blt d n = true)
    (hrun : ∀ (a : Act), Fr n L a → ∀ (w : World) (M : Kn) (h h1 hf : Res), Sat w M (h.add hf) → h1.le h → A.at_ M h1 → ∀ (dst : Option Tmp) (pos : String) (after : Array Edge) (guard : Option (Nat × Bool)),
      (execOp a.eval ⟨dst, op, ty, pos, after, guard⟩).run P w = .ok (.value v) w)
    (k : wo r P n ops os ((d, v) :: L) Hs Q) : wo r P n ops (⟨some d, op, ty, pos, after, none⟩ :: os) L Hs Q := by
  intro a M m s w hf dj t
  simp only [wpL, Region.wanted, if_true]
  obtain ⟨g1, g2, dg, e, _, s2⟩ := s.2
  obtain ⟨h1, le, x⟩ := hA.sat s2
  rw [Oper.semAt_eq _ _ _ nd, hrun a s.1 w M m h1 hf t (Res.le_trans le (by rw [e]; exact Res.le_add_right dg)) x]
  exact k _ M m ⟨s.1.put hd, s.2⟩ w hf dj t

def flat : TypeDesc → Bool
  | .struct _ => false
  | .array _ _ => false
  | _ => true
theorem isAgg_flat {t : TypeId} {td : TypeDesc} (ht : P.underlying t = some td) (hfl : flat td = true) (w : World) : (isAgg t).run P w = .ok false w := by
  simp only [isAgg, Sem.run_bind, run_underlying ht, Result.andThen_ok]
  cases td <;> simp_all [flat]
theorem isAgg_agg {t : TypeId} {td : TypeDesc} (ht : P.underlying t = some td) (hfl : flat td = false) (w : World) : (isAgg t).run P w = .ok true w := by
  simp only [isAgg, Sem.run_bind, run_underlying ht, Result.andThen_ok]
  cases td <;> simp_all [flat]

theorem wo_load {A : HP} {t : TypeId} {td : TypeDesc} {x : Operand} {b off : Nat} {l : List Value} {v : Value} (ht : P.underlying t = some td) (hfl : flat td = true)
    (hx : ev L x = some (.pointer (some ⟨b, off, none⟩))) (sh : Shows A b l) (hA : Has A Hs) (hv : l[off]? = some v) (hd : Nat.blt d n = true)
    (k : wo r P n ops os ((d, v) :: L) Hs Q) : wo r P n ops (⟨some d, .load t x, ty, pos, after, none⟩ :: os) L Hs Q := by
  refine wo_read (by intro c; simp) hA hd (fun a f w M h h1 hf t' le y _ _ _ _ => ?_) k
  have hc := shows_cell sh t' le y off
  rw [hv] at hc
  simp [execOp, f.ev hx, Instr.loadAt, Instr.sureAddr, loadVar, isAgg_flat ht hfl, run_load, hc]

theorem drop_get (l : List Value) (off j : Nat) : (l.drop off)[j]? = l[off + j]? := List.getElem?_drop
theorem addr_add (b off j : Nat) : (⟨b, off, none⟩ : Addr).add j = ⟨b, off + j, none⟩ := by
  unfold Addr.add; split <;> simp_all

theorem run_loadCells_at {w : World} {b off sz : Nat} {l : List Value} (h : ∀ j, w.cell? ⟨b, off + j, none⟩ = l[off + j]?) (hl : off + sz ≤ l.length) :
    (loadCells ⟨b, off, none⟩ sz).run P w = .ok (((l.drop off).take sz).toArray) w := by
  have e : ((l.drop off).take sz).length = sz := by simp; omega
  have := run_loadCells_list (P := P) w ⟨b, off, none⟩ ((l.drop off).take sz) (fun j v hj => by
    rw [addr_add, h j, ← drop_get]
    have hlt : j < ((l.drop off).take sz).length := (List.getElem?_eq_some_iff.1 hj).1
    rw [e] at hlt
    rw [List.getElem?_take_of_lt hlt] at hj
    exact hj)
  rw [e] at this
  exact this

theorem wo_loada {A : HP} {t : TypeId} {td : TypeDesc} {x : Operand} {b off : Nat} {l vs : List Value} {ti : TypeInfo} (ht : P.underlying t = some td) (hfl : flat td = false) (hi : P.info? t = some ti)
    (hx : ev L x = some (.pointer (some ⟨b, off, none⟩))) (sh : Shows A b l) (hA : Has A Hs) (hl : off + ti.size ≤ l.length) (hv : (l.drop off).take ti.size = vs) (hd : Nat.blt d n = true)
    (k : wo r P n ops os ((d, .agg vs.toArray) :: L) Hs Q) : wo r P n ops (⟨some d, .load t x, ty, pos, after, none⟩ :: os) L Hs Q := by
  refine wo_read (by intro c; simp) hA hd (fun a f w M h h1 hf t' le y _ _ _ _ => ?_) k
  have hc := run_loadCells_at (P := P) (sz := ti.size) (fun j => shows_cell sh t' le y (off + j)) hl
  rw [hv] at hc
  simp [execOp, f.ev hx, Instr.loadAt, Instr.sureAddr, loadVar, isAgg_agg ht hfl, sizeOf, typeInfo, program, Sem.run, hi, hc]

/-- New memory. -/
theorem fresh_none {w : World} {M : Kn} {h : Res} (t : Sat w M h) : M.im w.heap.size = none ∧ h w.heap.size = none := by
  constructor
  · cases e : M.im w.heap.size with
    | none => rfl
    | some o => exact absurd (Array.getElem?_eq_some_iff.1 (t.im _ _ e)).1 (by omega)
  · cases e : h w.heap.size with
    | none => rfl
    | some o => exact absurd (Array.getElem?_eq_some_iff.1 (t.ow _ _ e)).1 (by omega)
theorem Sat.alloc {w : World} {M : Kn} {h : Res} (t : Sat w M h) (o : Obj) : Sat (w.alloc o) M ((Res.one w.heap.size o).add h) := by
  obtain ⟨f1, f2⟩ := fresh_none t
  have old : ∀ b u, w.heap[b]? = some u → (w.alloc o).heap[b]? = some u := fun b u e => by
    have hlt := (Array.getElem?_eq_some_iff.1 e).1
    rw [show (w.alloc o).heap[b]? = w.heap[b]? from heap_alloc_old w o hlt]; exact e
  refine ⟨fun b u e => old b u (t.im b u e), fun b u e => ?_, fun b => ?_, ⟨t.env.os, t.env.tape, t.env.output, by have := t.env.size; simp; omega⟩⟩
  · by_cases hb : b = w.heap.size
    · subst hb; simp [Res.add, Res.one] at e; subst e; exact World.alloc_heap_new w _
    · exact old b u (t.ow b u (by simpa [Res.add, Res.one, hb] using e))
  · by_cases hb : b = w.heap.size
    · subst hb; exact .inl f1
    · rcases t.dj b with e | e
      · exact .inl e
      · exact .inr (by simpa [Res.add, Res.one, hb] using e)
theorem one_dj {b : Nat} {o : Obj} {h : Res} (e : h b = none) : (Res.one b o).dj h := fun i => by
  by_cases hi : i = b
  · subst hi; exact .inr e
  · exact .inl (Res.one_other o hi)

/-- An operation that lays one new block. -/
theorem wo_new {op : Op} {o : Obj} {val : Nat → Value} (nd : ∀ c, op ≠ .defer c) (hd : Nat.blt d n = true)
    (hrun : ∀ (a : Act), Fr n L a → ∀ (w : World) (dst : Option Tmp) (pos : String) (after : Array Edge) (guard : Option (Nat × Bool)),
      (execOp a.eval ⟨dst, op, ty, pos, after, guard⟩).run P w = .ok (.value (val w.heap.size)) (w.alloc o))
    (k : ∀ b, wo r P n ops os ((d, val b) :: L) (Blk b o :: Hs) Q) : wo r P n ops (⟨some d, op, ty, pos, after, none⟩ :: os) L Hs Q := by
  intro a M m s w hf dj t
  simp only [wpL, Region.wanted, if_true]
  rw [Oper.semAt_eq _ _ _ nd, hrun a s.1 w]
  have t2 := t.alloc o
  obtain ⟨f1, f2⟩ := fresh_none t
  obtain ⟨f3, f4⟩ := Res.add_none.1 f2
  rw [← Res.add_assoc] at t2
  refine k w.heap.size _ M ((Res.one w.heap.size o).add m) ⟨s.1.put hd, ?_⟩ (w.alloc o) hf (Res.dj_add_left.2 ⟨one_dj f4, dj⟩) t2
  obtain ⟨g1, g2, dg, e, x, s2⟩ := s.2
  subst e
  obtain ⟨f5, f6⟩ := Res.add_none.1 f3
  exact ⟨g1, (Res.one w.heap.size o).add g2, Res.dj_add_right.2 ⟨Res.dj_comm (one_dj f5), dg⟩, by rw [← Res.add_assoc, Res.add_comm (one_dj f5), Res.add_assoc], x,
    Res.one w.heap.size o, g2, one_dj f6, rfl, rfl, s2⟩

theorem wo_alloc {t : TypeId} {ti : TypeInfo} {z : Value} {zs : List Value} (hi : P.info? t = some ti) (hz : ti.zero = some z) (hzs : z.cells.toList = zs) (hd : Nat.blt d n = true)
    (k : ∀ b, wo r P n ops os ((d, .pointer (some ⟨b, 0, none⟩)) :: L) (Ce b t zs :: Hs) Q) : wo r P n ops (⟨some d, .alloc t, ty, pos, after, none⟩ :: os) L Hs Q := by
  refine wo_new (o := .cells zs.toArray t (0, 0)) (val := fun b => .pointer (some ⟨b, 0, none⟩)) (by intro c; simp) hd (fun a f w _ _ _ _ => ?_) k
  subst hzs
  simp [execOp, Instr.alloc, zeroValue, typeInfo, program, Sem.run, hi, hz, newVar, newRow, newObj]
theorem wo_box {t : TypeId} {x : Operand} {v : Value} {vs : List Value} (hx : ev L x = some v) (hv : v.cells.toList = vs) (hd : Nat.blt d n = true)
    (k : ∀ b, wo r P n ops os ((d, .pointer (some ⟨b, 0, none⟩)) :: L) (Ce b t vs :: Hs) Q) : wo r P n ops (⟨some d, .box t x, ty, pos, after, none⟩ :: os) L Hs Q := by
  refine wo_new (o := .cells vs.toArray t (0, 0)) (val := fun b => .pointer (some ⟨b, 0, none⟩)) (by intro c; simp) hd (fun a f w _ _ _ _ => ?_) k
  subst hv
  simp [execOp, f.ev hx, Instr.box, newVar, newRow, newObj, Sem.run]
/-- A slice that is written out: its cells by a closed equation. -/
theorem wo_buildSlice {t e : TypeId} {len : Nat} {ps : Array (Nat × Operand)} {pv : List (Nat × Value)} {cs : List Value} (ht : P.underlying t = some (.slice e))
    (hps : ∀ a : Act, Fr n L a → (ps.map fun (i, x) => (i, a.eval x)) = pv.toArray)
    (h : ∀ w, (Instr.buildSlice t len pv.toArray).run P w = .ok (.slice (some ⟨w.heap.size, 0, none⟩) len len) (w.alloc (.cells cs.toArray e (0, 0)))) (hd : Nat.blt d n = true)
    (k : ∀ b, wo r P n ops os ((d, .slice (some ⟨b, 0, none⟩) len len) :: L) (Ce b e cs :: Hs) Q) : wo r P n ops (⟨some d, .buildSlice t len ps, ty, pos, after, none⟩ :: os) L Hs Q := by
  refine wo_new (o := .cells cs.toArray e (0, 0)) (val := fun b => .slice (some ⟨b, 0, none⟩) len len) (by intro c; simp) hd (fun a f w _ _ _ _ => ?_) k
  have e1 := hps a f
  simp only [execOp]
  rw [show (Array.map (fun x => match x with | (i, x) => (i, a.eval x)) ps) = pv.toArray from e1]
  simp [h w]
theorem wo_makeMap0 {t : TypeId} (hd : Nat.blt d n = true)
    (k : ∀ b, wo r P n ops os ((d, .map (some b)) :: L) (Blk b (.map #[] 0) :: Hs) Q) : wo r P n ops (⟨some d, .makeMap t none, ty, pos, after, none⟩ :: os) L Hs Q := by
  refine wo_new (val := fun b => .map (some b)) (by intro c; simp) hd (fun a f w _ _ _ _ => ?_) k
  simp [execOp, Instr.makeMap, newObj, Sem.run]

/-- Turn one block. -/
theorem wo_turn {A B : HP} {Gs : List HP} {op : Op} (nd : ∀ c, op ≠ .defer c) (hu : Upd A B Hs Gs)
    (hrun : ∀ (a : Act), Fr n L a → ∀ (w : World) (M : Kn) (h1 hf : Res), h1.dj hf → Sat w M (h1.add hf) → A.at_ M h1 → ∃ (w' : World) (M' : Kn) (h1' : Res), M.le M' ∧ h1'.dj hf ∧ Sat w' M' (h1'.add hf) ∧ B.at_ M' h1' ∧
      ∀ (dst : Option Tmp) (pos : String) (after : Array Edge) (guard : Option (Nat × Bool)), (execOp a.eval ⟨dst, op, ty, pos, after, guard⟩).run P w = .ok .skip w')
    (k : wo r P n ops os L Gs Q) : wo r P n ops (⟨none, op, ty, pos, after, none⟩ :: os) L Hs Q := by
  intro a M m s w hf dj t
  simp only [wpL, Region.wanted, if_true]
  obtain ⟨g1, g2, dg, e, x, s2⟩ := s.2
  subst e
  obtain ⟨h1, h2, d12, e, ha, upd⟩ := hu.sat s2
  subst e
  obtain ⟨dg1, dg2⟩ := Res.dj_add_right.1 dg
  obtain ⟨df1, df2⟩ := Res.dj_add_left.1 dj
  obtain ⟨df3, df4⟩ := Res.dj_add_left.1 df2
  have eq : (g1.add (h1.add h2)).add hf = h1.add ((g1.add h2).add hf) := by
    rw [← Res.add_assoc g1, Res.add_comm dg1]
    simp only [Res.add_assoc]
  rw [eq] at t
  obtain ⟨w', M', h1', le, dj', t', hb, hr⟩ := hrun a s.1 w M h1 ((g1.add h2).add hf) (Res.dj_add_right.2 ⟨Res.dj_add_right.2 ⟨Res.dj_comm dg1, d12⟩, df3⟩) t ha
  rw [Oper.semAt_eq _ _ _ nd, hr]
  obtain ⟨x1, x2⟩ := Res.dj_add_right.1 dj'
  obtain ⟨x3, x4⟩ := Res.dj_add_right.1 x1
  have eq2 : (g1.add (h1'.add h2)).add hf = h1'.add ((g1.add h2).add hf) := by
    rw [← Res.add_assoc g1, ← Res.add_comm x3]
    simp only [Res.add_assoc]
  refine wo_on k (a := a.put none undef) (M := M') (h := g1.add (h1'.add h2)) ⟨s.1.none, ?_⟩ le (Res.dj_add_left.2 ⟨df1, Res.dj_add_left.2 ⟨x2, df4⟩⟩) (by rw [eq2]; exact t')
  exact ⟨g1, h1'.add h2, Res.dj_add_right.2 ⟨Res.dj_comm x3, dg2⟩, rfl, (Al _).mono le x, upd M' h1' le x4 hb⟩

theorem Sat.setBlk {w : World} {M : Kn} {h : Res} {b : Nat} {o o' : Obj} (dj : (Res.one b o).dj h) (t : Sat w M ((Res.one b o).add h)) {w' : World} (hb : w'.heap[b]? = some o') (ho : ∀ i, i ≠ b → w'.heap[i]? = w.heap[i]?) (he : Env w w') :
    Sat w' M ((Res.one b o').add h) := by
  have hM : M.im b = none := by
    rcases t.dj b with e | e
    · exact e
    · simp [Res.add, Res.one] at e
  refine ⟨fun i u e => ?_, fun i u e => ?_, fun i => ?_, t.env.trans he⟩
  · have hi : i ≠ b := fun x => by subst x; rw [hM] at e; cases e
    rw [ho i hi]; exact t.im i u e
  · by_cases hi : i = b
    · subst hi; simp [Res.add, Res.one] at e; subst e; exact hb
    · rw [ho i hi]; exact t.ow i u (by simpa [Res.add, Res.one, hi] using e)
  · by_cases hi : i = b
    · subst hi; exact .inl hM
    · rcases t.dj i with e | e
      · exact .inl e
      · exact .inr (by simpa [Res.add, Res.one, hi] using e)
theorem dj_one_any {b : Nat} {o o' : Obj} {h : Res} (dj : (Res.one b o).dj h) : (Res.one b o').dj h := by
  refine one_dj ?_
  rcases dj b with e | e
  · simp [Res.one] at e
  · exact e

/-- The value of one cell. -/
def oneCell : Value → Bool
  | .agg _ => false
  | .tuple _ => false
  | _ => true
theorem run_store_ce {w : World} {b off : Nat} {T : TypeId} {l : List Value} {v : Value} (hb : w.heap[b]? = some (.cells l.toArray T (0, 0))) (h1 : oneCell v = true) (ho : off < l.length) :
    (store ⟨b, off, none⟩ v).run P w = .ok () (w.setCell ⟨b, off, none⟩ v) := by
  have hc : w.cell? ⟨b, off, none⟩ = some l[off] := by simp [World.cell?, hb, ho]
  have hf : w.frozen? ⟨b, off, none⟩ = false := by simp [World.frozen?, hb]
  cases v <;> simp_all [store, Sem.run, oneCell]
theorem setCell_at {w : World} {b off : Nat} {T : TypeId} {l : List Value} {v : Value} (hb : w.heap[b]? = some (.cells l.toArray T (0, 0))) :
    (w.setCell ⟨b, off, none⟩ v).heap[b]? = some (.cells (l.set off v).toArray T (0, 0)) := by
  simp [World.setCell, Array.getElem?_modify, hb]
theorem setCell_other {w : World} {b off : Nat} {v : Value} {i : Nat} (hi : i ≠ b) : (w.setCell ⟨b, off, none⟩ v).heap[i]? = w.heap[i]? := by
  simp [World.setCell, Array.getElem?_modify, Ne.symm hi]

theorem env_setCell (w : World) (a : Addr) (v : Value) : Env w (w.setCell a v) := ⟨rfl, rfl, rfl, by simp⟩
theorem wo_store {t : TypeId} {ti : TypeInfo} {x y : Operand} {b off : Nat} {T : TypeId} {l : List Value} {v : Value} {Gs : List HP} (hi : P.info? t = some ti) (hs : Nat.beq ti.size 1 = true)
    (hx : ev L x = some (.pointer (some ⟨b, off, none⟩))) (hy : ev L y = some v) (h1 : oneCell v = true) (ho : off < l.length) (hu : Upd (Ce b T l) (Ce b T (l.set off v)) Hs Gs)
    (k : wo r P n ops os L Gs Q) : wo r P n ops (⟨none, .store t x y, ty, pos, after, none⟩ :: os) L Hs Q := by
  refine wo_turn (by intro c; simp) hu (fun a f w M m hf dj s ha => ?_) k
  have ha' : m = Res.one b _ := ha
  subst ha'
  have hb : w.heap[b]? = some (.cells l.toArray T (0, 0)) := s.ow _ _ (by simp [Res.add, Res.one])
  refine ⟨w.setCell ⟨b, off, none⟩ v, M, Res.one b (.cells (l.set off v).toArray T (0, 0)), Kn.le_refl _, dj_one_any dj, Sat.setBlk dj s (setCell_at hb) (fun i hi => setCell_other hi) (env_setCell _ _ _), rfl, fun _ _ _ _ => ?_⟩
  have hsz : ti.size = 1 := Nat.eq_of_beq_eq_true hs
  have hvc : v.cells = #[v] := by cases v <;> simp_all [Value.cells, oneCell]
  have hst := run_store_ce (P := P) hb h1 ho
  simp [execOp, f.ev hx, f.ev hy, Instr.storeAt, Instr.sureAddr, storeVar, hvc, sizeOf, typeInfo, program, Sem.run, hi, hsz, storeCells, addr_add, hst]

def setAt (l : List Value) : Nat → List Value → List Value
  | _, [] => l
  | off, v :: vs => setAt (l.set off v) (off + 1) vs
theorem length_setAt : ∀ (vs l : List Value) (off : Nat), (setAt l off vs).length = l.length := by
  intro vs
  induction vs with
  | nil => intros; rfl
  | cons v vs ih => intro l off; simp [setAt, ih]
theorem run_storeCells_ce {b T : Nat} : ∀ (vs : List Value) (w : World) (l : List Value) (off i : Nat), w.heap[b]? = some (.cells l.toArray T (0, 0)) → vs.all oneCell = true → off + i + vs.length ≤ l.length →
    ∃ w', (storeCells ⟨b, off, none⟩ vs i).run P w = .ok () w' ∧ w'.heap[b]? = some (.cells (setAt l (off + i) vs).toArray T (0, 0)) ∧ (∀ j, j ≠ b → w'.heap[j]? = w.heap[j]?) ∧ Env w w' := by
  intro vs
  induction vs with
  | nil => intro w l off i hb _ _; exact ⟨w, by simp [storeCells], hb, fun _ _ => rfl, Env.refl w⟩
  | cons v vs ih =>
    intro w l off i hb h1 hl
    simp only [List.all_cons, Bool.and_eq_true] at h1
    simp only [List.length_cons] at hl
    have hst := run_store_ce (P := P) (off := off + i) hb h1.1 (by omega)
    obtain ⟨w', hr, hb', ho', he'⟩ := ih (w.setCell ⟨b, off + i, none⟩ v) (l.set (off + i) v) off (i + 1) (setCell_at hb) h1.2 (by simp; omega)
    refine ⟨w', ?_, hb', fun j hj => (ho' j hj).trans (setCell_other hj), (env_setCell _ _ _).trans he'⟩
    simp only [storeCells, Sem.run_bind, addr_add, hst, Result.andThen_ok]
    exact hr
theorem wo_storea {t : TypeId} {ti : TypeInfo} {x y : Operand} {b off : Nat} {T : TypeId} {l vs : List Value} {Gs : List HP} (hi : P.info? t = some ti) (hs : Nat.beq ti.size vs.length = true)
    (hx : ev L x = some (.pointer (some ⟨b, off, none⟩))) (hy : ev L y = some (.agg vs.toArray)) (h1 : vs.all oneCell = true) (ho : off + vs.length ≤ l.length) (hu : Upd (Ce b T l) (Ce b T (setAt l off vs)) Hs Gs)
    (k : wo r P n ops os L Gs Q) : wo r P n ops (⟨none, .store t x y, ty, pos, after, none⟩ :: os) L Hs Q := by
  refine wo_turn (by intro c; simp) hu (fun a f w M m hf dj s ha => ?_) k
  have ha' : m = Res.one b _ := ha
  subst ha'
  have hb : w.heap[b]? = some (.cells l.toArray T (0, 0)) := s.ow _ _ (by simp [Res.add, Res.one])
  obtain ⟨w', hr, hb', ho', he'⟩ := run_storeCells_ce (P := P) vs w l off 0 hb h1 ho
  refine ⟨w', M, Res.one b (.cells (setAt l off vs).toArray T (0, 0)), Kn.le_refl _, dj_one_any dj, Sat.setBlk dj s hb' ho' he', rfl, fun _ _ _ _ => ?_⟩
  have hsz : ti.size = vs.length := Nat.eq_of_beq_eq_true hs
  simp [execOp, f.ev hx, f.ev hy, Instr.storeAt, Instr.sureAddr, storeVar, Value.cells, sizeOf, typeInfo, program, Sem.run, hi, hsz, hr]
end
end Go.Proofs.Ytimafngkifakfaa

/- Search among the assertions by instances; rules as the printed walks use them. -/
namespace Go.Proofs.Ytimafngkifakfaa

/-- Cells of a block that can be read. -/
class RdCe (b : Nat) (l : outParam (List Value)) (Hs : List HP) : Prop where
  get : ∃ A, Shows A b l ∧ Has A Hs
instance (priority := 1000) {b : Nat} {T : TypeId} {l : List Value} {r : List HP} : RdCe b l (Ce b T l :: r) := ⟨⟨_, shows_ce, .here⟩⟩
instance (priority := 1000) {b : Nat} {T : TypeId} {l : List Value} {r : List HP} : RdCe b l (ICe b T l :: r) := ⟨⟨_, shows_ice, .here⟩⟩
instance (priority := 1000) {b : Nat} {T : TypeId} {l : List Value} {fz : Nat × Nat} {r : List HP} : RdCe b l (Im b (.cells l.toArray T fz) :: r) := ⟨⟨_, shows_im, .here⟩⟩
instance (priority := 1000) {b : Nat} {T : TypeId} {l : List Value} {fz : Nat × Nat} {r : List HP} : RdCe b l (Blk b (.cells l.toArray T fz) :: r) := ⟨⟨_, shows_blk, .here⟩⟩
instance (priority := 100) {b : Nat} {l : List Value} {B : HP} {r : List HP} [h : RdCe b l r] : RdCe b l (B :: r) := ⟨let ⟨A, s, p⟩ := h.get; ⟨A, s, .there p⟩⟩

class UpCe (b : Nat) (T : outParam TypeId) (l : outParam (List Value)) (l' : List Value) (Hs : List HP) (Gs : outParam (List HP)) : Prop where
  get : Upd (Ce b T l) (Ce b T l') Hs Gs
instance (priority := 1000) {b : Nat} {T : TypeId} {l l' : List Value} {r : List HP} : UpCe b T l l' (Ce b T l :: r) (Ce b T l' :: r) := ⟨.here⟩
instance (priority := 100) {b : Nat} {T : TypeId} {l l' : List Value} {B : HP} {r s : List HP} [h : UpCe b T l l' r s] : UpCe b T l l' (B :: r) (B :: s) := ⟨.there h.get⟩

/-- A list with one place, with some places set. -/
class SetC (l : List Value) (off : Nat) (v : Value) (l' : outParam (List Value)) : Prop where
  get : l.set off v = l'
instance (priority := 1000) {x v : Value} {l : List Value} : SetC (x :: l) 0 v (v :: l) := ⟨rfl⟩
instance (priority := 1000) {x v : Value} {l l' : List Value} {k : Nat} [h : SetC l k v l'] : SetC (x :: l) (k + 1) v (x :: l') := ⟨by rw [List.set_cons_succ, h.get]⟩
instance (priority := 10) {v : Value} {l : List Value} {k : Nat} : SetC l k v (l.set k v) := ⟨rfl⟩
class SetsC (l : List Value) (off : Nat) (vs : List Value) (l' : outParam (List Value)) : Prop where
  get : setAt l off vs = l'
instance (priority := 1000) {l : List Value} {off : Nat} : SetsC l off [] l := ⟨rfl⟩
instance (priority := 1000) {l l' l'' vs : List Value} {off : Nat} {v : Value} [h : SetC l off v l'] [k : SetsC l' (off + 1) vs l''] : SetsC l off (v :: vs) l'' := ⟨by rw [setAt, h.get, k.get]⟩
instance (priority := 10) {l vs : List Value} {off : Nat} : SetsC l off vs (setAt l off vs) := ⟨rfl⟩
/-- A block among the assertions, one place of it, some places of it set. -/
class StC (b off : Nat) (v : Value) (T : outParam TypeId) (l : outParam (List Value)) (Hs : List HP) (Gs : outParam (List HP)) : Prop where
  get : Upd (Ce b T l) (Ce b T (l.set off v)) Hs Gs
instance (priority := 1000) {b off : Nat} {v : Value} {T : TypeId} {l l' : List Value} {r : List HP} [h : SetC l off v l'] : StC b off v T l (Ce b T l :: r) (Ce b T l' :: r) := ⟨by rw [h.get]; exact .here⟩
instance (priority := 100) {b off : Nat} {v : Value} {T : TypeId} {l : List Value} {B : HP} {r s : List HP} [h : StC b off v T l r s] : StC b off v T l (B :: r) (B :: s) := ⟨.there h.get⟩
class StsC (b off : Nat) (vs : List Value) (T : outParam TypeId) (l : outParam (List Value)) (Hs : List HP) (Gs : outParam (List HP)) : Prop where
  get : Upd (Ce b T l) (Ce b T (setAt l off vs)) Hs Gs
instance (priority := 1000) {b off : Nat} {vs : List Value} {T : TypeId} {l l' : List Value} {r : List HP} [h : SetsC l off vs l'] : StsC b off vs T l (Ce b T l :: r) (Ce b T l' :: r) := ⟨by rw [h.get]; exact .here⟩
instance (priority := 100) {b off : Nat} {vs : List Value} {T : TypeId} {l : List Value} {B : HP} {r s : List HP} [h : StsC b off vs T l r s] : StsC b off vs T l (B :: r) (B :: s) := ⟨.there h.get⟩

class PersC (A : HP) : Prop where
  get : Pers A
instance {b : Nat} {o : Obj} : PersC (Im b o) := ⟨Im.pers b o⟩
instance {b : Nat} {T : TypeId} {l : List Value} : PersC (ICe b T l) := ⟨Im.pers _ _⟩
instance {p : Prop} : PersC (Pu p) := ⟨Pu.pers p⟩
theorem Ex.pers {X : Type} {f : X → HP} (h : ∀ x, Pers (f x)) : Pers (Ex f) := fun ⟨x, e⟩ => ⟨x, h x e⟩
theorem Al.pers : ∀ {Hs : List HP}, (∀ A ∈ Hs, Pers A) → Pers (Al Hs) := by
  intro Hs
  induction Hs with
  | nil => intro _ M h _; trivial
  | cons A r ih =>
    rintro hp M h ⟨h1, h2, d, e, a, t⟩
    exact ⟨Res.emp, Res.emp, Res.emp_dj _, rfl, hp A (by simp) a, ih (fun B hB => hp B (by simp [hB])) t⟩

class PickC (A : HP) (Hs : List HP) (Rs : outParam (List HP)) : Prop where
  get : Pick A Hs Rs
instance (priority := 1001) {A : HP} {r : List HP} [h : PersC A] : PickC A (A :: r) (A :: r) := ⟨.keep h.get⟩
instance (priority := 1000) {A : HP} {r : List HP} : PickC A (A :: r) r := ⟨.here⟩
instance (priority := 100) {A B : HP} {r s : List HP} [h : PickC A r s] : PickC A (B :: r) (B :: s) := ⟨.there h.get⟩
class PicksC (As Hs : List HP) (Rs : outParam (List HP)) : Prop where
  get : Picks As Hs Rs
instance {Hs : List HP} : PicksC [] Hs Hs := ⟨.nil⟩
instance {A : HP} {As Hs R1 Rs : List HP} [h : PickC A Hs R1] [k : PicksC As R1 Rs] : PicksC (A :: As) Hs Rs := ⟨.cons h.get k.get⟩
theorem picks_append {As Bs Hs R1 Rs : List HP} (h : Picks As Hs R1) (k : Picks Bs R1 Rs) : Picks (As ++ Bs) Hs Rs := by
  induction h with
  | nil => exact k
  | cons p _ ih => exact .cons p (ih k)
instance {As Bs Hs R1 Rs : List HP} [h : PicksC As Hs R1] [k : PicksC Bs R1 Rs] : PicksC (As ++ Bs) Hs Rs := ⟨picks_append h.get k.get⟩

/-- Two lists as one. -/
class AppC (As Hs : List HP) (Rs : outParam (List HP)) : Prop where
  get : As ++ Hs = Rs
instance (priority := 1000) {Hs : List HP} : AppC [] Hs Hs := ⟨rfl⟩
instance (priority := 1000) {A : HP} {As Hs Rs : List HP} [h : AppC As Hs Rs] : AppC (A :: As) Hs (A :: Rs) := ⟨by rw [List.cons_append, h.get]⟩
instance (priority := 10) {As Hs : List HP} : AppC As Hs (As ++ Hs) := ⟨rfl⟩
class HasC (A : HP) (Hs : List HP) : Prop where
  get : Has A Hs
instance (priority := 1000) {A : HP} {r : List HP} : HasC A (A :: r) := ⟨.here⟩
instance (priority := 100) {A B : HP} {r : List HP} [h : HasC A r] : HasC A (B :: r) := ⟨.there h.get⟩

section
variable {r : Option Nat} {P : Program} {n : Nat} {ops : Array Oper} {os : List Oper} {L : Loc} {Hs : List HP} {Q : Out} {ty : TypeId} {d : Nat} {pos : String} {after : Array Edge}

theorem r_load {t : TypeId} {td : TypeDesc} {x : Operand} {b off : Nat} {l : List Value} {v : Value} (ht : P.underlying t = some td) (hfl : flat td = true)
    (hx : ev L x = some (.pointer (some ⟨b, off, none⟩))) [hr : RdCe b l Hs] (hv : l[off]? = some v) (hd : Nat.blt d n = true)
    (k : wo r P n ops os ((d, v) :: L) Hs Q) : wo r P n ops (⟨some d, .load t x, ty, pos, after, none⟩ :: os) L Hs Q := by
  obtain ⟨A, sh, hA⟩ := hr.get
  exact wo_load ht hfl hx sh hA hv hd k
theorem r_loada {t : TypeId} {td : TypeDesc} {x : Operand} {b off : Nat} {l vs : List Value} {ti : TypeInfo} (ht : P.underlying t = some td) (hfl : flat td = false) (hi : P.info? t = some ti)
    (hx : ev L x = some (.pointer (some ⟨b, off, none⟩))) [hr : RdCe b l Hs] (hl : off + ti.size ≤ l.length) (hv : (l.drop off).take ti.size = vs) (hd : Nat.blt d n = true)
    (k : wo r P n ops os ((d, .agg vs.toArray) :: L) Hs Q) : wo r P n ops (⟨some d, .load t x, ty, pos, after, none⟩ :: os) L Hs Q := by
  obtain ⟨A, sh, hA⟩ := hr.get
  exact wo_loada ht hfl hi hx sh hA hl hv hd k
theorem r_store {t : TypeId} {ti : TypeInfo} {x y : Operand} {b off : Nat} {T : TypeId} {l : List Value} {v : Value} {Gs : List HP} (hi : P.info? t = some ti) (hs : Nat.beq ti.size 1 = true)
    (hx : ev L x = some (.pointer (some ⟨b, off, none⟩))) (hy : ev L y = some v) [hu : StC b off v T l Hs Gs] (h1 : oneCell v = true) (ho : off < l.length)
    (k : wo r P n ops os L Gs Q) : wo r P n ops (⟨none, .store t x y, ty, pos, after, none⟩ :: os) L Hs Q := wo_store hi hs hx hy h1 ho hu.get k
theorem r_storea {t : TypeId} {ti : TypeInfo} {x y : Operand} {b off : Nat} {T : TypeId} {l vs : List Value} {Gs : List HP} (hi : P.info? t = some ti) (hs : Nat.beq ti.size vs.length = true)
    (hx : ev L x = some (.pointer (some ⟨b, off, none⟩))) (hy : ev L y = some (.agg vs.toArray)) [hu : StsC b off vs T l Hs Gs] (h1 : vs.all oneCell = true) (ho : off + vs.length ≤ l.length)
    (k : wo r P n ops os L Gs Q) : wo r P n ops (⟨none, .store t x y, ty, pos, after, none⟩ :: os) L Hs Q := wo_storea hi hs hx hy h1 ho hu.get k
theorem r_call {f : Operand} {args : Array Operand} {argTypes : Array TypeId} {g : Nat} {vs cap : List Value}
    {As Rs : List HP} {X : Type} {val : X → Value} {φ : X → Prop} {Bs : X → List HP}
    (sp : Sp P g (vs ++ cap) As val φ Bs) (hf : ev L f = some (.func (.func g) #[] cap.toArray)) (ha : evs L args.toList = some vs) (hd : Nat.blt d n = true) [hp : PicksC As Hs Rs]
    (k : ∀ x, φ x → wo r P n ops os ((d, val x) :: L) (Bs x ++ Rs) Q) :
    wo r P n ops (⟨some d, .call ⟨.value f, args, argTypes⟩, ty, pos, after, none⟩ :: os) L Hs Q := wo_call sp hf ha hd hp.get k

/-- A function that only computes. -/
abbrev SpF (P : Program) (f : FuncId) (args : List Value) (v : Value) : Prop := Sp P f args [] (X := Unit) (fun _ => v) (fun _ => True) (fun _ => [])
theorem r_callF {f : Operand} {args : Array Operand} {argTypes : Array TypeId} {g : Nat} {vs : List Value} {v : Value}
    (sp : SpF P g vs v) (hf : ev L f = some (.func (.func g) #[] #[])) (ha : evs L args.toList = some vs) (hd : Nat.blt d n = true)
    (k : wo r P n ops os ((d, v) :: L) Hs Q) :
    wo r P n ops (⟨some d, .call ⟨.value f, args, argTypes⟩, ty, pos, after, none⟩ :: os) L Hs Q :=
  wo_call (cap := []) (by rw [List.append_nil]; exact sp) hf ha hd .nil (fun _ _ => k)
/-- One that has a result for each state, and gives back what it was given. -/
abbrev Sp1 (P : Program) (f : FuncId) (args : List Value) (As : List HP) (v : Value) (Bs : List HP) : Prop := Sp P f args As (X := Unit) (fun _ => v) (fun _ => True) (fun _ => Bs)
theorem r_call1 {f : Operand} {args : Array Operand} {argTypes : Array TypeId} {g : Nat} {vs : List Value} {v : Value} {As Bs Rs : List HP}
    (sp : Sp1 P g vs As v Bs) (hf : ev L f = some (.func (.func g) #[] #[])) (ha : evs L args.toList = some vs) (hd : Nat.blt d n = true) [hp : PicksC As Hs Rs]
    (k : wo r P n ops os ((d, v) :: L) (Bs ++ Rs) Q) :
    wo r P n ops (⟨some d, .call ⟨.value f, args, argTypes⟩, ty, pos, after, none⟩ :: os) L Hs Q :=
  wo_call (cap := []) (by rw [List.append_nil]; exact sp) hf ha hd hp.get (fun _ _ => k)

theorem wc_ite {c : Operand} {x y : Code} {p : Prop} [Decidable p] (hc : ev L c = some (.bool (decide p))) (ht : p → wc r P n x L Hs Q) (hf : ¬ p → wc r P n y L Hs Q) :
    wc r P n (.cond c x y) L Hs Q := wc_cond hc (fun h => ht (of_decide_eq_true h)) (fun h => hf (of_decide_eq_false h))
/-- A guard's yes or no is told apart; both the guard's slot and what is read of it are then known. -/
theorem wo_gsplit {j : Nat} {s : Nat} {b : Bool} (hj : (ops[j]?).bind (·.dst) = some s) (hs : lk L s = some (.bool b))
    (ht : b = true → wo r P n ops os ((s, .bool true) :: L) Hs Q) (hf : b = false → wo r P n ops os ((s, .bool false) :: L) Hs Q) : wo r P n ops os L Hs Q := by
  have key : ∀ u : Bool, b = u → wo r P n ops os ((s, .bool u) :: L) Hs Q → wo r P n ops os L Hs Q := by
    intro u e k a M h st
    refine k a M h ⟨⟨st.1.1, fun i v hv => ?_⟩, st.2⟩
    simp only [lk] at hv
    by_cases hi : s = i
    · subst hi
      simp at hv; subst hv; subst e
      exact st.1.2 _ _ hs
    · rw [nbeq hi, cond_false] at hv
      exact st.1.2 i v hv
  cases e : b with
  | true => exact key true e (ht e)
  | false => exact key false e (hf e)
theorem wo_gite {j : Nat} {s : Nat} {p : Prop} [Decidable p] (hj : (ops[j]?).bind (·.dst) = some s) (hs : lk L s = some (.bool (decide p)))
    (ht : p → wo r P n ops os ((s, .bool true) :: L) Hs Q) (hf : ¬ p → wo r P n ops os ((s, .bool false) :: L) Hs Q) : wo r P n ops os L Hs Q :=
  wo_gsplit hj hs (fun h => ht (of_decide_eq_true h)) (fun h => hf (of_decide_eq_false h))

/-! Ends. -/
def pack : List Value → Value
  | [v] => v
  | vs => .tuple vs.toArray
/-- What one result reads as: a slot; a cell of its own. -/
inductive RVs (P : Program) (L : Loc) : List ResultVar → List HP → List Value → Prop
  | nil : RVs P L [] [] []
  | tmp {t : Nat} {v : Value} {rs : List ResultVar} {Cs : List HP} {vs : List Value} (h : lk L t = some v) (k : RVs P L rs Cs vs) : RVs P L (.tmp t :: rs) Cs (v :: vs)
  | cell {t T : Nat} {b : Nat} {A : HP} {l us : List Value} {td : TypeDesc} {ti : TypeInfo} {rs : List ResultVar} {Cs : List HP} {vs : List Value} (h : lk L t = some (.pointer (some ⟨b, 0, none⟩))) (sh : Shows A b l)
      (ht : P.underlying T = some td) (hfl : flat td = false) (hi : P.info? T = some ti) (hl : ti.size ≤ l.length) (hv : l.take ti.size = us)
      (k : RVs P L rs Cs vs) : RVs P L (.cell t T :: rs) (A :: Cs) (.agg us.toArray :: vs)
  | cell1 {t T : Nat} {b : Nat} {A : HP} {l : List Value} {v : Value} {td : TypeDesc} {rs : List ResultVar} {Cs : List HP} {vs : List Value} (h : lk L t = some (.pointer (some ⟨b, 0, none⟩))) (sh : Shows A b l)
      (ht : P.underlying T = some td) (hfl : flat td = true) (hv : l[0]? = some v)
      (k : RVs P L rs Cs vs) : RVs P L (.cell t T :: rs) (A :: Cs) (v :: vs)

def rvOne (a : Act) : ResultVar → Sem Value
  | .tmp t => pure (a.tmps.getD t undef)
  | .cell c t => do loadVar t (← asAddr (a.tmps.getD c undef))
theorem RVs.run {rs : List ResultVar} {Cs : List HP} {vs : List Value} (q : RVs P L rs Cs vs) : ∀ {a : Act} (f : Fr n L a) (w : World) (M : Kn) (h hf h1 : Res), Sat w M (h.add hf) → h1.le h → SL Cs M h1 →
    (rs.mapM (rvOne a)).run P w = Result.ok vs w := by
  induction q with
  | nil => intros; rfl
  | @tmp t v rs Cs vs h k ih =>
    intro a f w M m hf h1 t' le s
    have e : a.tmps.getD t undef = v := f.eval h
    simp only [List.mapM_cons, rvOne, Sem.run_bind, Sem.run_pure, Result.andThen_ok, e, ih f w M m hf h1 t' le s]
  | @cell t T b A l us td ti rs Cs vs h sh ht hfl hi hl hv k ih =>
    intro a f w M m hf h1 t' le s
    have e : a.tmps.getD t undef = .pointer (some ⟨b, 0, none⟩) := f.eval h
    obtain ⟨k1, k2, dj, e2, x, s2⟩ := s
    subst e2
    have hc := run_loadCells_at (P := P) (b := b) (off := 0) (sz := ti.size) (l := l) (w := w) (fun j => shows_cell sh t' (Res.le_trans (Res.le_add_left _ _) le) x (0 + j)) (by omega)
    simp only [List.drop_zero, hv] at hc
    have := ih f w M m hf k2 t' (Res.le_trans (Res.le_add_right dj) le) s2
    simp only [List.mapM_cons, rvOne, Sem.run_bind, Sem.run_pure, Result.andThen_ok, e, asAddr, loadVar, isAgg_agg ht hfl, if_true, sizeOf, typeInfo, program, Sem.run, hi, hc, this]
  | @cell1 t T b A l v td rs Cs vs h sh ht hfl hv k ih =>
    intro a f w M m hf h1 t' le s
    have e : a.tmps.getD t undef = .pointer (some ⟨b, 0, none⟩) := f.eval h
    obtain ⟨k1, k2, dj, e2, x, s2⟩ := s
    subst e2
    have hc := shows_cell sh t' (Res.le_trans (Res.le_add_left _ _) le) x 0
    rw [hv] at hc
    have := ih f w M m hf k2 t' (Res.le_trans (Res.le_add_right dj) le) s2
    simp [List.mapM_cons, rvOne, e, asAddr, loadVar, isAgg_flat ht hfl, run_load, hc, this]

theorem RVs.rv {fn : Func} {rs : List ResultVar} {Cs : List HP} {vs : List Value} (hr : fn.results = rs.toArray) (q : RVs P L rs Cs vs) {a : Act} (f : Fr n L a) : RV P fn a.tmps Cs (pack vs) := by
  intro w M h hf dj t s
  have e := q.run f w M h hf h t (Res.le_refl _) s
  have e2 : results fn a.tmps = (do let vs ← (rs.toArray).mapM (rvOne a); pure (if h : vs.size = 1 then vs[0] else .tuple vs)) := by
    unfold results
    rw [hr]
    congr 1
    (try congr 1)
    (try (funext x; cases x <;> rfl))
  rw [e2, List.mapM_toArray]
  simp only [Sem.run_bind, Sem.run_map, e, Result.andThen_ok, Sem.run_pure]
  match vs with
  | [] => rfl
  | [v] => rfl
  | v :: u :: r => simp [pack]

theorem fin_ret {fn : Func} {X : Type} {val : X → Value} {φ : X → Prop} {Bs : X → List HP} (x : X) {rs : List ResultVar} {vs : List Value} {Cs : List HP}
    (hr : fn.results = rs.toArray) (q : RVs P L rs Cs vs) (hv : pack vs = val x) (hx : φ x) {Gs : List HP} [ac : AppC (Bs x) Cs Gs] (e : Ent Hs Gs) : tw n (finO P fn val φ Bs) .ret L Hs := by
  intro a M h s
  obtain ⟨g1, g2, dg, e1, y, s2⟩ := s.2
  refine ⟨.inr rfl, x, Cs, hx, ⟨g1, g2, dg, e1, y, by rw [ac.get]; exact e s2⟩, ?_⟩
  rw [← hv]; exact q.rv hr s.1
theorem fin_end {fn : Func} {X : Type} {val : X → Value} {φ : X → Prop} {Bs : X → List HP} (x : X) {rs : List ResultVar} {vs : List Value} {Cs : List HP}
    (hr : fn.results = rs.toArray) (q : RVs P L rs Cs vs) (hv : pack vs = val x) (hx : φ x) {Gs : List HP} [ac : AppC (Bs x) Cs Gs] (e : Ent Hs Gs) : tw n (finO P fn val φ Bs) .normal L Hs := by
  intro a M h s
  obtain ⟨g1, g2, dg, e1, y, s2⟩ := s.2
  refine ⟨.inl rfl, x, Cs, hx, ⟨g1, g2, dg, e1, y, by rw [ac.get]; exact e s2⟩, ?_⟩
  rw [← hv]; exact q.rv hr s.1
theorem ent_nil : Ent Hs [] := ⟨fun _ => trivial⟩
theorem ent_pick {As Rs : List HP} [h : PicksC As Hs Rs] : Ent Hs As := h.get.drop

/-! An assertion is opened; what follows of it is known. -/
theorem wo_know {A : HP} {p : Prop} (hA : Has A Hs) (hp : ∀ {M : Kn} {h : Res}, A.at_ M h → p) (k : p → wo r P n ops os L Hs Q) : wo r P n ops os L Hs Q := by
  intro a M m s w hf dj t
  obtain ⟨g1, g2, dg, e, _, s2⟩ := s.2
  obtain ⟨h1, _, x⟩ := hA.sat s2
  exact k (hp x) a M m s w hf dj t
theorem wc_know {c : Code} {A : HP} {p : Prop} (hA : Has A Hs) (hp : ∀ {M : Kn} {h : Res}, A.at_ M h → p) (k : p → wc r P n c L Hs Q) : wc r P n c L Hs Q := by
  intro a M m s
  obtain ⟨g1, g2, dg, e, _, s2⟩ := s.2
  obtain ⟨h1, _, x⟩ := hA.sat s2
  exact k (hp x) a M m s
theorem wc_ex {c : Code} {X : Type} {f : X → List HP} (e : ∀ {M : Kn} {h : Res}, SL Hs M h → ∃ x, SL (f x) M h) (k : ∀ x, wc r P n c L (f x) Q) : wc r P n c L Hs Q := by
  intro a M m s
  obtain ⟨g1, g2, dg, e1, y, s2⟩ := s.2
  obtain ⟨x, s3⟩ := e s2
  exact k x a M m ⟨s.1, g1, g2, dg, e1, y, s3⟩
theorem wo_ex {X : Type} {f : X → List HP} (e : ∀ {M : Kn} {h : Res}, SL Hs M h → ∃ x, SL (f x) M h) (k : ∀ x, wo r P n ops os L (f x) Q) : wo r P n ops os L Hs Q := by
  intro a M m s
  obtain ⟨g1, g2, dg, e1, y, s2⟩ := s.2
  obtain ⟨x, s3⟩ := e s2
  exact k x a M m ⟨s.1, g1, g2, dg, e1, y, s3⟩
theorem wo_ent' {Gs : List HP} (e : Ent Hs Gs) (k : wo r P n ops os L Gs Q) : wo r P n ops os L Hs Q := fun a M x s => k a M x ⟨s.1, by
  obtain ⟨g1, g2, dg, e1, y, s2⟩ := s.2
  exact ⟨g1, g2, dg, e1, y, e s2⟩⟩
theorem wc_ent' {c : Code} {Gs : List HP} (e : Ent Hs Gs) (k : wc r P n c L Gs Q) : wc r P n c L Hs Q := fun a M x s => k a M x ⟨s.1, by
  obtain ⟨g1, g2, dg, e1, y, s2⟩ := s.2
  exact ⟨g1, g2, dg, e1, y, e s2⟩⟩
theorem wc_keep {c : Code} (L' : Loc) (hc : Cov L L') (k : wc r P n c L' Hs Q) : wc r P n c L Hs Q := wc_ent hc (Ent.refl _) k
end
end Go.Proofs.Ytimafngkifakfaa

/- Rules with what they need computed. -/
namespace Go.Proofs.Ytimafngkifakfaa
theorem wrap_byte (c : UInt8) : IntKind.i64.wrap (c.toNat : Int) = (c.toNat : Int) := by
  have := c.toNat_lt
  exact IntWalk.i64_in _ (by omega)

def evps (L : Loc) : List (Nat × Operand) → Option (List (Nat × Value))
  | [] => some []
  | (i, x) :: xs => match ev L x with
    | some v => match evps L xs with
      | some vs => some ((i, v) :: vs)
      | none => none
    | none => none
section
variable {r : Option Nat} {P : Program} {n : Nat} {ops : Array Oper} {os : List Oper} {L : Loc} {Hs : List HP} {Q : Out} {ty : TypeId} {d : Nat} {pos : String} {after : Array Edge}
theorem Fr.evps {a : Act} (f : Fr n L a) : ∀ (xs : List (Nat × Operand)) {vs : List (Nat × Value)}, evps L xs = some vs → xs.map (fun (i, x) => (i, a.eval x)) = vs := by
  intro xs
  induction xs with
  | nil => intro vs h; simp [Go.Proofs.Ytimafngkifakfaa.evps] at h; simp [h]
  | cons x xs ih =>
    intro vs h
    obtain ⟨i, x⟩ := x
    simp only [Go.Proofs.Ytimafngkifakfaa.evps] at h
    split at h
    · rename_i v hv
      split at h
      · rename_i us hu
        simp at h; subst h
        simp [f.ev hv, ih hu]
      · cases h
    · cases h
theorem Fr.evpsa {a : Act} (f : Fr n L a) {xs : List (Nat × Operand)} {vs : List (Nat × Value)} (h : Go.Proofs.Ytimafngkifakfaa.evps L xs = some vs) : (xs.toArray.map fun (i, x) => (i, a.eval x)) = vs.toArray := by
  rw [← f.evps xs h]; simp
theorem pv_buildx {t : TypeId} {ps : List (Nat × Operand)} {pv : List (Nat × Value)} {v : Value} (hps : evps L ps = some pv)
    (h : ∀ w, (Instr.build t pv.toArray).run P w = .ok v w) : PV P n L (.build t ps.toArray) ty v := pv_build (fun a f => f.evpsa hps) h
theorem r_buildSlice {t e : TypeId} {len : Nat} {ps : List (Nat × Operand)} {pv : List (Nat × Value)} {cs : List Value} (ht : P.underlying t = some (.slice e)) (hps : evps L ps = some pv)
    (h : ∀ w, (Instr.buildSlice t len pv.toArray).run P w = .ok (.slice (some ⟨w.heap.size, 0, none⟩) len len) (w.alloc (.cells cs.toArray e (0, 0)))) (hd : Nat.blt d n = true)
    (k : ∀ b, wo r P n ops os ((d, .slice (some ⟨b, 0, none⟩) len len) :: L) (Ce b e cs :: Hs) Q) : wo r P n ops (⟨some d, .buildSlice t len ps.toArray, ty, pos, after, none⟩ :: os) L Hs Q :=
  wo_buildSlice ht (fun a f => f.evpsa hps) h hd k
theorem pv_fieldAddrk {t : TypeId} {x : Operand} {i b off : Nat} {fs : Array Field} {fd : Field} (ht : P.underlying t = some (.struct fs)) (hf : fs[i]? = some fd) {ti : TypeInfo} (hi : P.info? fd.type = some ti) (hz : Nat.beq ti.size 0 = false)
    (hx : ev L x = some (.pointer (some ⟨b, off, none⟩))) {k k' : Nat} (hk : fd.offset = k) (hk' : off + k = k') : PV P n L (.fieldAddr t x i) ty (.pointer (some ⟨b, k', none⟩)) := hk' ▸ hk ▸ pv_fieldAddr ht hf hi hz hx

/-- Bytes as values. -/
def vUs (l : List UInt8) : List Value := l.map fun c => vU (c.toNat : Int)
theorem push_all (l : List UInt8) : ∀ m : List UInt8, (l.map fun c => (c.toNat : Int)).foldl (fun r n => r.push (UInt8.ofNat n.toNat)) (ByteArray.mk ⟨m⟩) = ByteArray.mk ⟨m ++ l⟩ := by
  induction l with
  | nil => intro m; simp
  | cons c l ih =>
    intro m
    simp only [List.map_cons, List.foldl_cons]
    have e : (ByteArray.mk ⟨m⟩).push (UInt8.ofNat ((c.toNat : Int)).toNat) = ByteArray.mk ⟨m ++ [c]⟩ := by
      apply ByteArray.ext
      simp [ByteArray.push]
    rw [e, ih]
    simp
theorem run_b2s {w : World} {b len cap : Nat} {l : List UInt8} (h : ∀ j, j < l.length → w.cell? ⟨b, j, none⟩ = some (vU ((l.getD j 0).toNat : Int))) (hl : len = l.length) :
    (Conv.bytesToString (.slice (some ⟨b, 0, none⟩) len cap)).run P w = .ok (vS l) w := by
  subst hl
  have hc := run_loadCells_list (P := P) w ⟨b, 0, none⟩ (vUs l) (fun j v hj => by
    have hlt : j < l.length := by have := (List.getElem?_eq_some_iff.1 hj).1; simpa [vUs] using this
    rw [addr_add, Nat.zero_add, h j hlt, ← hj]
    simp [vUs, hlt])
  have e : (vUs l).length = l.length := by simp [vUs]
  rw [e] at hc
  rw [run_bytesToString (P := P) w ⟨b, 0, none⟩ l.length cap (l.map fun c => (c.toNat : Int)) (by rw [hc]; simp [vUs])]
  have := push_all l []
  simp only [List.nil_append] at this
  exact congrArg (fun x => Result.ok (Value.string x) w) this
/-- The text of a block's bytes. -/
theorem r_b2s {s t e : TypeId} {x : Operand} {b len cap : Nat} {l : List UInt8} {m : List Value} (hs : P.underlying s = some (.slice e)) (ht : P.underlying t = some .string) (he : P.underlying e = some (.int .u8))
    (hx : ev L x = some (.slice (some ⟨b, 0, none⟩) len cap)) [hr : RdCe b m Hs] (hm : m.take len = vUs l) (hl : len ≤ m.length) (hd : Nat.blt d n = true)
    (k : wo r P n ops os ((d, vS l) :: L) Hs Q) : wo r P n ops (⟨some d, .convert s t x, ty, pos, after, none⟩ :: os) L Hs Q := by
  obtain ⟨A, sh, hA⟩ := hr.get
  have hlen : l.length = len := by have := congrArg List.length hm; simp [vUs] at this; omega
  refine wo_read (by intro c; simp) hA hd (fun a f w M h h1 hf t' le y _ _ _ _ => ?_) k
  have hc : ∀ j, j < l.length → w.cell? ⟨b, j, none⟩ = some (vU ((l.getD j 0).toNat : Int)) := fun j hj => by
    rw [shows_cell sh t' le y j]
    have : (m.take len)[j]? = (vUs l)[j]? := by rw [hm]
    rw [List.getElem?_take_of_lt (by omega)] at this
    rw [this]; simp [vUs, hj]
  have hb := run_b2s (P := P) (cap := cap) hc hlen.symm
  simp [execOp, f.ev hx, convert, run_underlying hs, run_underlying ht, run_underlying he, hb]
end
end Go.Proofs.Ytimafngkifakfaa

/- Code by paths: a goal bears the way to a piece of code, not the code. -/
namespace Go.Proofs.Ytimafngkifakfaa

def bodyOf (f : Func) : Code := match f.body with | some c => c | none => .skip
def sA : Code → Code | .seq a _ => a | c => c
def sB : Code → Code | .seq _ b => b | c => c
def cX : Code → Operand | .cond x _ _ => x | _ => .func 0
def cT : Code → Code | .cond _ t _ => t | c => c
def cE : Code → Code | .cond _ _ e => e | c => c
def bB : Code → Code | .block _ b => b | .loop b => b | .scope b => b | c => c
def rF : Code → Operand | .rangeFunc f _ _ _ => f | _ => .func 0
def rP : Code → Array Tmp | .rangeFunc _ p _ _ => p | _ => #[]
def rA : Code → Code | .rangeFunc _ _ a _ => a | c => c
def rB : Code → Code | .rangeFunc _ _ _ b => b | c => c

/-- Behind a piece of code another one. -/
def seqO (r : Option Nat) (P : Program) (y : Code) (Q : Out) : Out := thenO (wout r P y Q) Q

section
variable {r : Option Nat} {P : Program} {n : Nat} {L : Loc} {Hs : List HP} {Q : Out} {c : Code}

theorem p_seq (h : c = .seq (sA c) (sB c)) (k : wc r P n (sA c) L Hs (seqO r P (sB c) Q)) : wc r P n c L Hs Q := by
  rw [h]; exact wc_seq k
theorem p_region {id : Nat} {l : List Oper} (h : c = .region id l.toArray false) (k : wo r P n l.toArray l L Hs Q) : wc r P n c L Hs Q := by
  rw [h]; exact wc_region k
theorem p_skip (h : c = .skip) (k : tw n Q .normal L Hs) : wc r P n c L Hs Q := by rw [h]; exact wc_skip k
theorem p_label {l : Nat} (h : c = .label l) (k : tw n Q .normal L Hs) : wc r P n c L Hs Q := by rw [h]; exact wc_label k
theorem p_exit (id : Nat) (h : c = .exit id) (k : tw n Q (.exit id) L Hs) : wc r P n c L Hs Q := by rw [h]; exact wc_exit k
theorem p_ret (h : c = .ret) (k : tw n Q .ret L Hs) : wc r P n c L Hs Q := by rw [h]; exact wc_ret k
theorem p_block (id : Nat) (h : c = .block id (bB c)) (k : wc r P n (bB c) L Hs (blockO id Q)) : wc r P n c L Hs Q := by rw [h]; exact wc_block k
theorem p_cond {b : Bool} (h : c = .cond (cX c) (cT c) (cE c)) (hc : ev L (cX c) = some (.bool b)) (ht : b = true → wc r P n (cT c) L Hs Q) (hf : b = false → wc r P n (cE c) L Hs Q) :
    wc r P n c L Hs Q := by rw [h]; exact wc_cond hc ht hf
theorem p_ite {p : Prop} [Decidable p] (h : c = .cond (cX c) (cT c) (cE c)) (hc : ev L (cX c) = some (.bool (decide p))) (ht : p → wc r P n (cT c) L Hs Q) (hf : ¬ p → wc r P n (cE c) L Hs Q) :
    wc r P n c L Hs Q := by rw [h]; exact wc_ite hc ht hf
theorem p_true (h : c = .cond (cX c) (cT c) (cE c)) (hc : ev L (cX c) = some (.bool true)) (k : wc r P n (cT c) L Hs Q) : wc r P n c L Hs Q := by rw [h]; exact wc_true hc k
theorem p_false (h : c = .cond (cX c) (cT c) (cE c)) (hc : ev L (cX c) = some (.bool false)) (k : wc r P n (cE c) L Hs Q) : wc r P n c L Hs Q := by rw [h]; exact wc_false hc k
theorem p_loop {ι : Type} (Li : ι → Loc) (Hi : ι → List HP) (μ : ι → Nat) (h : c = .loop (bB c)) (i : ι) (hL : Cov L (Li i)) (hH : Ent Hs (Hi i))
    (round : ∀ i, wc r P n (bB c) (Li i) (Hi i) (invO n Li Hi (fun j => μ j < μ i) Q)) : wc r P n c L Hs Q := by
  rw [h]; exact wc_ent hL hH (wc_loop Li Hi μ round i)
theorem p_scope (h : c = .scope (bB c)) (hg : ∀ l, Q (.goto l) = fun _ _ _ => False) (hs : ∀ (a : Act) (w : World) (Q' : Exit → Act → World → Prop), (∀ l, Q' (.goto l) = fun _ _ => False) → (bB c).wpIn (WF r) 0 P Q' a w → (Code.scope (bB c)).wpIn (WF r) 0 P Q' a w)
    (k : wc r P n (bB c) L Hs Q) : wc r P n c L Hs Q := by rw [h]; exact wc_scope hs hg k

theorem q_seq {ops : Array Oper} {y : Code} (h : wc r P n y L Hs Q) : wo r P n ops [] L Hs (seqO r P y Q) := wo_seq h
theorem t_seq {y : Code} (h : wc r P n y L Hs Q) : tw n (seqO r P y Q) .normal L Hs := to_then h
theorem t_seq_exit {y : Code} {id : Nat} (h : tw n Q (.exit id) L Hs) : tw n (seqO r P y Q) (.exit id) L Hs := h
theorem t_seq_ret {y : Code} (h : tw n Q .ret L Hs) : tw n (seqO r P y Q) .ret L Hs := h

theorem Sp.body {f : FuncId} {fn : Func} {args : List Value} {As : List HP} {X : Type} {val : X → Value} {φ : X → Prop} {Bs : X → List HP}
    (en : ∀ (args : Array Value) (w : World), (callFunc f args).run P w = .ok (.enter f args) w)
    (hf : P.funcs[f]? = some fn) (hb : fn.body = some (bodyOf fn)) (hn : fn.ntmps = n) (hl : Nat.ble args.length n = true)
    (h : wc none P n (bodyOf fn) (locs 0 args) As (finO P fn val φ Bs)) : Sp P f args As val φ Bs := Sp.of_body en hf hb hn hl h
end
end Go.Proofs.Ytimafngkifakfaa

/- Slices and structs that are written out. -/
namespace Go.Proofs.Ytimafngkifakfaa

theorem setAt_mid : ∀ (c d c0 r : List Value), c0.length = c.length → setAt (d ++ (c0 ++ r)) d.length c = d ++ (c ++ r) := by
  intro c
  induction c with
  | nil => intro d c0 r h; have : c0 = [] := List.eq_nil_of_length_eq_zero (by simpa using h); simp [setAt, this]
  | cons v c ih =>
    intro d c0 r h
    cases c0 with
    | nil => simp at h
    | cons u c0 =>
      simp only [List.length_cons, Nat.add_right_cancel_iff] at h
      simp only [setAt, List.cons_append]
      have e : (d ++ u :: (c0 ++ r)).set d.length v = (d ++ [v]) ++ (c0 ++ r) := by simp
      have := ih (d ++ [v]) c0 r h
      rw [e]
      simp only [List.length_append, List.length_singleton] at this
      rw [this]; simp
theorem foldl_setAt : ∀ (c : List Value) (j off : Nat) (cs : Array Value), (c.zipIdx j).foldl (fun cs x => cs.setIfInBounds (off + x.2) x.1) cs = (setAt cs.toList (off + j) c).toArray := by
  intro c
  induction c with
  | nil => intro j off cs; simp [setAt]
  | cons v c ih =>
    intro j off cs
    simp only [List.zipIdx_cons, List.foldl_cons, setAt]
    rw [ih (j + 1) off]
    simp [Nat.add_assoc]

/-- Parts in their order, all of one size. -/
def parts (k : Nat) : List Value → List (Nat × Value)
  | [] => []
  | v :: vs => (k, v) :: parts (k + 1) vs
theorem run_fill (sz : Nat) : ∀ (vs : List Value) (k : Nat) (done r : List Value), (∀ v ∈ vs, v.cells.size = sz) → done.length = k * sz → r.length = vs.length * sz →
    Instr.fill (fun i => some (i * sz, sz)) (done ++ r).toArray (parts k vs) = some (done ++ vs.flatMap (·.cells.toList)).toArray := by
  intro vs
  induction vs with
  | nil => intro k done r _ _ hr; have : r = [] := List.eq_nil_of_length_eq_zero (by simpa using hr); simp [parts, Instr.fill, this]
  | cons v vs ih =>
    intro k done r hv hd hr
    have hv0 := hv v (by simp)
    simp only [List.length_cons, Nat.add_mul, Nat.one_mul] at hr
    simp only [parts, Instr.fill]
    have hle : ¬ (v.cells.size ≠ sz ∨ k * sz + v.cells.size > (done ++ r).toArray.size) := by
      simp [hv0]; omega
    have e0 : (decide (v.cells.size ≠ sz) || decide (k * sz + v.cells.size > (done ++ r).toArray.size)) = false := by
      simp [hv0]; omega
    rw [if_neg (by simpa using hle)]
    have e1 : (v.cells.zipIdx.foldl (fun cs x => match x with | (c, j) => cs.setIfInBounds (k * sz + j) c) (done ++ r).toArray) = ((done ++ v.cells.toList) ++ r.drop sz).toArray := by
      have := foldl_setAt v.cells.toList 0 (k * sz) (done ++ r).toArray
      rw [← Array.foldl_toList, Array.toList_zipIdx]
      rw [show (fun (cs : Array Value) (x : Value × Nat) => match x with | (c, j) => cs.setIfInBounds (k * sz + j) c) = (fun cs x => cs.setIfInBounds (k * sz + x.2) x.1) from rfl, this]
      have e2 : r = r.take sz ++ r.drop sz := (List.take_append_drop _ _).symm
      have e3 := setAt_mid v.cells.toList done (r.take sz) (r.drop sz) (by simp [hv0]; omega)
      rw [← e2, hd] at e3
      simp only [Nat.add_zero]
      rw [e3]; simp
    rw [e1, ih (k + 1) (done ++ v.cells.toList) (r.drop sz) (fun u hu => hv u (by simp [hu])) (by simp [hd, hv0, Nat.add_mul]) (by simp; omega)]
    simp

section
variable {r : Option Nat} {P : Program} {n : Nat} {ops : Array Oper} {os : List Oper} {L : Loc} {Hs : List HP} {Q : Out} {ty : TypeId} {d : Nat} {pos : String} {after : Array Edge}
theorem run_buildSlice {t e : TypeId} {ti : TypeInfo} {z : Value} (ht : P.underlying t = some (.slice e)) (hi : P.info? e = some ti) (hz : ti.zero = some z) (hzs : z.cells.size = ti.size) {vs : List Value} (hv : ∀ v ∈ vs, v.cells.size = ti.size)
    (hsm : vs.length * ti.size ≤ 16777216) (w : World) :
    (Instr.buildSlice t vs.length (parts 0 vs).toArray).run P w = .ok (.slice (some ⟨w.heap.size, 0, none⟩) vs.length vs.length) (w.alloc (.cells (vs.flatMap (·.cells.toList)).toArray e (0, 0))) := by
  have hb : ¬ (2 ^ 24 < vs.length * ti.size) := by omega
  have key : ∀ a0 : Array Value, a0.size = vs.length * ti.size → Instr.fill (fun i => some (i * ti.size, ti.size)) a0 (parts 0 vs) = some (vs.flatMap (·.cells.toList)).toArray := by
    intro a0 ha
    have := run_fill ti.size vs 0 [] a0.toList hv (by simp) (by simp [ha])
    simpa using this
  unfold Instr.buildSlice
  simp only [Sem.run_bind, run_underlying ht, Result.andThen_ok, sizeOf, typeInfo, program, Sem.run, hi, gt_iff_lt, hb, if_false, Sem.run_pure, zeroValue, hz]
  by_cases h0 : vs.length * ti.size = 0
  · simp only [h0, if_true, Sem.run_bind, Sem.run_pure, Result.andThen_ok]
    rw [key _ (by simp [h0])]
    simp [newRow, newObj, Sem.run]
  · simp only [h0, if_false, Sem.run_bind, Sem.run_pure, Result.andThen_ok, typeInfo, program, Sem.run, hi, hz]
    rw [key _ (by simp)]
    simp [newRow, newObj, Sem.run]
/-- A slice literal. -/
theorem r_buildSliceL {t e : TypeId} {ti : TypeInfo} {z : Value} {len : Nat} {ps : List (Nat × Operand)} (vs : List Value) {cs : List Value} (ht : P.underlying t = some (.slice e)) (hi : P.info? e = some ti) (hz : ti.zero = some z) (hzs : Nat.beq z.cells.size ti.size = true)
    (hps : evps L ps = some (parts 0 vs)) (hlen : vs.length = len) (hv : vs.all (fun v => Nat.beq v.cells.size ti.size) = true) (hsm : Nat.ble (vs.length * ti.size) 16777216 = true) (hcs : vs.flatMap (·.cells.toList) = cs) (hd : Nat.blt d n = true)
    (k : ∀ b, wo r P n ops os ((d, .slice (some ⟨b, 0, none⟩) len len) :: L) (Ce b e cs :: Hs) Q) : wo r P n ops (⟨some d, .buildSlice t len ps.toArray, ty, pos, after, none⟩ :: os) L Hs Q := by
  subst hlen
  refine wo_buildSlice ht (fun a f => f.evpsa hps) (fun w => ?_) hd k
  rw [← hcs]
  exact run_buildSlice ht hi hz (Nat.eq_of_beq_eq_true hzs) (fun v hv' => Nat.eq_of_beq_eq_true (by have := List.all_eq_true.1 hv v hv'; simpa using this)) (Nat.le_of_ble_eq_true hsm) w
/-- A struct that is written out. -/
def fillL (place : Nat → Option (Nat × Nat)) : List Value → List (Nat × Value) → Option (List Value)
  | zs, [] => some zs
  | zs, (i, v) :: rest => match place i with
    | none => none
    | some (off, size) => bif Nat.beq v.cells.toList.length size && Nat.ble (off + size) zs.length then fillL place (setAt zs off v.cells.toList) rest else none
theorem fill_eq (place : Nat → Option (Nat × Nat)) : ∀ (ps : List (Nat × Value)) (zs vs : List Value), fillL place zs ps = some vs → Instr.fill place zs.toArray ps = some vs.toArray := by
  intro ps
  induction ps with
  | nil => intro zs vs h; simp only [fillL, Option.some.injEq] at h; subst h; rfl
  | cons p rest ih =>
    obtain ⟨i, v⟩ := p
    intro zs vs h
    simp only [fillL] at h
    simp only [Instr.fill]
    cases hp : place i with
    | none => rw [hp] at h; cases h
    | some q =>
      obtain ⟨off, size⟩ := q
      rw [hp] at h
      simp only at h ⊢
      cases hb : (Nat.beq v.cells.toList.length size && Nat.ble (off + size) zs.length) with
      | false => rw [hb] at h; cases h
      | true =>
        rw [hb, cond_true] at h
        simp only [Bool.and_eq_true] at hb
        have h1 : v.cells.size = size := by have := Nat.eq_of_beq_eq_true hb.1; simpa using this
        have h2 := Nat.le_of_ble_eq_true hb.2
        have e0 : (decide (v.cells.size ≠ size) || decide (off + v.cells.size > zs.toArray.size)) = false := by
          simp [h1]; omega
        rw [if_neg (by rw [e0]; simp)]
        have e1 : (v.cells.zipIdx.foldl (fun cs x => match x with | (c, j) => cs.setIfInBounds (off + j) c) zs.toArray) = (setAt zs off v.cells.toList).toArray := by
          have := foldl_setAt v.cells.toList 0 off zs.toArray
          rw [← Array.foldl_toList, Array.toList_zipIdx]
          rw [show (fun (cs : Array Value) (x : Value × Nat) => match x with | (c, j) => cs.setIfInBounds (off + j) c) = (fun cs x => cs.setIfInBounds (off + x.2) x.1) from rfl, this]
          simp
        rw [e1]
        exact ih _ _ h
theorem pv_buildS {t : TypeId} {ps : List (Nat × Operand)} {pv : List (Nat × Value)} {fields : Array Field} {ti : TypeInfo} {z : Value} {zs vs : List Value} {pl : List (Nat × Nat)} (ht : P.underlying t = some (.struct fields)) (hi : P.info? t = some ti) (hz : ti.zero = some z) (hzs : z.cells.toList = zs)
    (hpl : fields.toList.mapM (fun f => (P.info? f.type).map fun i => (f.offset, i.size)) = some pl) (hps : evps L ps = some pv) (hf : fillL (fun i => pl[i]?) zs pv = some vs) : PV P n L (.build t ps.toArray) ty (.agg vs.toArray) := by
  refine pv_buildx hps (fun w => run_build w t pv.toArray vs.toArray ?_)
  have e1 : z.cells = zs.toArray := by rw [← hzs]
  have := fill_eq _ pv zs vs hf
  simp only [Program.built, hi, ht, hz, hpl, e1]
  rw [← this]
  congr 1
  funext i
  simp
end
end Go.Proofs.Ytimafngkifakfaa

/- From the house's contracts, and to them. -/
namespace Go.Proofs.Ytimafngkifakfaa
open Go.RowKit (Below)

theorem Sat.below {w w' : World} {M : Kn} {h : Res} (t : Sat w M h) (b : Below w.heap.size w w') : Sat w' M h := by
  have old : ∀ i o, w.heap[i]? = some o → w'.heap[i]? = some o := fun i o e => by
    rw [b.block i (Array.getElem?_eq_some_iff.1 e).1]; exact e
  exact ⟨fun i o e => old i o (t.im i o e), fun i o e => old i o (t.ow i o e), t.dj, t.env.trans ⟨b.os, b.tape, b.output, b.size⟩⟩

theorem SpF.of_calls {P : Program} {f : FuncId} {args : List Value} {v : Value} (en : ∀ (args : Array Value) (w : World), (callFunc f args).run P w = .ok (.enter f args) w)
    (h : ∀ w, Calls P f args.toArray w fun e w' => e = .returned v ∧ Below w.heap.size w w') : SpF P f args v := by
  refine ⟨en, fun w M m hf d t s => callsIn_wide.2 ((h w).mono ?_)⟩
  rintro e w' ⟨rfl, b⟩
  exact ⟨(), M, m, rfl, trivial, Kn.le_refl _, d, t.below b, trivial⟩

/-- A law's contract: all that there was is as it was. -/
theorem Sp.law {P : Program} {f : FuncId} {args : List Value} {As : List HP} {v : Value} {Bs : Unit → List HP} (sp : Sp P f args As (X := Unit) (fun _ => v) (fun _ => True) Bs) (w : World)
    (hA : SL As ⟨fun b => w.heap[b]?, w⟩ Res.emp) : Calls P f args.toArray w fun e w' => e = .returned v ∧ Below w.heap.size w w' := by
  have t : Sat w ⟨fun b => w.heap[b]?, w⟩ (Res.emp.add Res.emp) := ⟨fun _ _ e => e, fun _ _ e => by simp [Res.add, Res.emp] at e, fun _ => .inr rfl, Env.refl w⟩
  refine (callsIn_wide.1 (sp.calls w _ Res.emp Res.emp (Res.dj_emp _) t hA)).mono ?_
  rintro e w' ⟨x, M', h', rfl, _, l, _, t', _⟩
  have en := t'.env
  rw [← l.2] at en
  refine ⟨rfl, en.os, en.tape, en.output, en.size, fun k hk => ?_⟩
  have e1 : w.heap[k]? = some w.heap[k] := Array.getElem?_eq_getElem hk
  rw [e1]
  exact t'.im k _ (l.1 k _ e1)
end Go.Proofs.Ytimafngkifakfaa
