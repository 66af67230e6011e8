/- Texts of this proof, put together: Core, Ops. -/
import Derived.RangeFuncLeaves
import Derived.RangeFuncRecord
import Derived.KernelRfl
set_option linter.unusedVariables false
set_option linter.unusedSimpArgs false
namespace Go.Proofs.YtdnoacgopfcpbaaGreat
section
theorem nbeq {a b : Nat} (h : a ≠ b) : Nat.beq a b = false := by
 cases e : Nat.beq a b with
 | false => rfl
 | true => exact absurd (Nat.eq_of_beq_eq_true e) h
theorem nbeq_self (a : Nat) : Nat.beq a a = true := Nat.beq_refl a
/-- Parts of memory. -/
abbrev Res := Nat → Option Obj
namespace Res
def emp : Res := fun _ => none
def one (b : Nat) (o : Obj) : Res := fun i => if i = b then some o else none
def add (h k : Res) : Res := fun i => match h i with | some o => some o | none => k i
def dj (h k : Res) : Prop := ∀ i, h i = none ∨ k i = none
def le (h k : Res) : Prop := ∀ i o, h i = some o → k i = some o
theorem le_refl (h : Res) : h.le h := fun _ _ e => e
theorem le_trans {a b c : Res} (h : a.le b) (k : b.le c) : a.le c := fun i o e => k i o (h i o e)
theorem dj_comm {h k : Res} (d : h.dj k) : k.dj h := fun i => (d i).symm
theorem dj_emp (h : Res) : h.dj emp := fun _ => .inr rfl
theorem emp_dj (h : Res) : emp.dj h := fun _ => .inl rfl
theorem add_emp (h : Res) : h.add emp = h := by funext i; simp only [add, emp]; cases h i <;> rfl
theorem emp_add (h : Res) : emp.add h = h := rfl
theorem add_comm {h k : Res} (d : h.dj k) : h.add k = k.add h := by
 funext i; rcases d i with e | e <;> simp only [add, e] <;> (try (cases k i <;> rfl)) <;> (cases h i <;> rfl)
theorem add_assoc (a b c : Res) : (a.add b).add c = a.add (b.add c) := by
 funext i; simp only [add]; cases a i <;> rfl
theorem add_none {h k : Res} {i : Nat} : h.add k i = none ↔ h i = none ∧ k i = none := by
 simp only [add]; cases e : h i <;> simp
theorem dj_add_left {a b c : Res} : (a.add b).dj c ↔ a.dj c ∧ b.dj c := by
 constructor
 · intro d; exact ⟨fun i => (d i).imp (fun e => (add_none.1 e).1) id, fun i => (d i).imp (fun e => (add_none.1 e).2) id⟩
 · rintro ⟨d, e⟩ i
   rcases d i with x | x
   · rcases e i with y | y
     · exact .inl (add_none.2 ⟨x, y⟩)
     · exact .inr y
   · exact .inr x
theorem dj_add_right {a b c : Res} : a.dj (b.add c) ↔ a.dj b ∧ a.dj c :=
 ⟨fun d => let ⟨x, y⟩ := dj_add_left.1 (dj_comm d); ⟨dj_comm x, dj_comm y⟩, fun ⟨x, y⟩ => dj_comm (dj_add_left.2 ⟨dj_comm x, dj_comm y⟩)⟩
theorem le_add_left (h k : Res) : h.le (h.add k) := fun i o e => by simp [add, e]
theorem le_add_right {h k : Res} (d : h.dj k) : k.le (h.add k) := fun i o e => by
 rcases d i with x | x
 · simp [add, x, e]
 · rw [x] at e; cases e
theorem one_same (b : Nat) (o : Obj) : one b o b = some o := by simp [one]
theorem one_other {b i : Nat} (o : Obj) (h : i ≠ b) : one b o i = none := by simp [one, h]
end Res
/-- What is known for good: blocks that never turn any more; the world in which it all began. -/
structure Kn where
 im : Res
 g : World
def Kn.le (M M' : Kn) : Prop := M.im.le M'.im ∧ M.g = M'.g
theorem Kn.le_refl (M : Kn) : M.le M := ⟨Res.le_refl _, rfl⟩
theorem Kn.le_trans {a b c : Kn} (h : a.le b) (k : b.le c) : a.le c := ⟨Res.le_trans h.1 k.1, h.2.trans k.2⟩
/-- An assertion: on what never turns any more (M), and on what one has for oneself (h). -/
structure HP where
 at_ : Kn → Res → Prop
 mono : ∀ {M M' : Kn} {h : Res}, M.le M' → at_ M h → at_ M' h
def SL : List HP → Kn → Res → Prop
 | [], _, _ => True
 | A :: r, M, h => ∃ h1 h2 : Res, h1.dj h2 ∧ h = h1.add h2 ∧ A.at_ M h1 ∧ SL r M h2
theorem SL.mono {Hs : List HP} {M M' : Kn} {h : Res} (le : M.le M') (s : SL Hs M h) : SL Hs M' h := by
 induction Hs generalizing h with
 | nil => trivial
 | cons A r ih => obtain ⟨h1, h2, d, e, a, t⟩ := s; exact ⟨h1, h2, d, e, A.mono le a, ih t⟩
def Pers (A : HP) : Prop := ∀ {M : Kn} {h : Res}, A.at_ M h → A.at_ M Res.emp
inductive Pick (A : HP) : List HP → List HP → Prop
 | here {r : List HP} : Pick A (A :: r) r
 | keep {r : List HP} (p : Pers A) : Pick A (A :: r) (A :: r)
 | there {B : HP} {r s : List HP} : Pick A r s → Pick A (B :: r) (B :: s)
theorem Pick.sat {A : HP} {Hs Rs : List HP} (p : Pick A Hs Rs) : ∀ {M : Kn} {h : Res}, SL Hs M h →
    ∃ h1 h2 : Res, h1.dj h2 ∧ h = h1.add h2 ∧ A.at_ M h1 ∧ SL Rs M h2 := by
 induction p with
 | here => intro M h s; exact s
 | keep p =>
   intro M h s
   have s' := s
   obtain ⟨h1, h2, d, e, a, t⟩ := s
   exact ⟨Res.emp, h, Res.emp_dj _, (Res.emp_add _).symm, p a, s'⟩
 | @there B r s' _ ih =>
   intro M h s
   obtain ⟨h1, h2, d, e, b, t⟩ := s
   obtain ⟨k1, k2, d', e', a, t'⟩ := ih t
   subst e'
   obtain ⟨d1, d2⟩ := Res.dj_add_right.1 d
   refine ⟨k1, h1.add k2, Res.dj_add_right.2 ⟨Res.dj_comm d1, d'⟩, ?_, a, h1, k2, d2, rfl, b, t'⟩
   rw [e, ← Res.add_assoc, Res.add_comm d1, Res.add_assoc]
inductive Picks : List HP → List HP → List HP → Prop
 | nil {Hs : List HP} : Picks [] Hs Hs
 | cons {A : HP} {As Hs R1 Rs : List HP} : Pick A Hs R1 → Picks As R1 Rs → Picks (A :: As) Hs Rs
theorem Picks.sat {As Hs Rs : List HP} (p : Picks As Hs Rs) : ∀ {M : Kn} {h : Res}, SL Hs M h →
    ∃ h1 h2 : Res, h1.dj h2 ∧ h = h1.add h2 ∧ SL As M h1 ∧ SL Rs M h2 := by
 induction p with
 | nil => intro M h s; exact ⟨Res.emp, h, Res.emp_dj _, (Res.emp_add _).symm, trivial, s⟩
 | cons p _ ih =>
   intro M h s
   obtain ⟨h1, h2, d, e, a, t⟩ := p.sat s
   obtain ⟨k1, k2, d', e', t1, t2⟩ := ih t
   subst e'
   obtain ⟨d1, d2⟩ := Res.dj_add_right.1 d
   exact ⟨h1.add k1, k2, Res.dj_add_left.2 ⟨d2, d'⟩, by rw [e, Res.add_assoc], ⟨h1, k1, d1, rfl, a, t1⟩, t2⟩
/-- More than is needed does no harm. -/
theorem SL.more {As : List HP} : ∀ {M : Kn} {h1 h2 : Res}, h1.dj h2 → SL As M h2 → SL As M (h1.add h2) := by
 induction As with
 | nil => intros; trivial
 | cons B r ih =>
   intro M h1 h2 d s
   obtain ⟨k1, k2, d', e', b, t'⟩ := s
   subst e'
   obtain ⟨d1, d2⟩ := Res.dj_add_right.1 d
   exact ⟨k1, h1.add k2, Res.dj_add_right.2 ⟨Res.dj_comm d1, d'⟩, by rw [← Res.add_assoc, Res.add_comm d1, Res.add_assoc], b, ih d2 t'⟩
theorem SL.append {As Bs : List HP} {M : Kn} {h1 h2 : Res} (d : h1.dj h2) (s : SL As M h1) (t : SL Bs M h2) : SL (As ++ Bs) M (h1.add h2) := by
 induction As generalizing h1 with
 | nil => exact SL.more d t
 | cons A r ih =>
   obtain ⟨k1, k2, d', e', a, t'⟩ := s
   subst e'
   obtain ⟨d1, d2⟩ := Res.dj_add_left.1 d
   exact ⟨k1, k2.add h2, Res.dj_add_right.2 ⟨d', d1⟩, by rw [Res.add_assoc], a, ih d2 t'⟩
/-- One list of assertions gives another. -/
structure Ent (Hs Gs : List HP) : Prop where
 go : ∀ {M : Kn} {h : Res}, SL Hs M h → SL Gs M h
instance {Hs Gs : List HP} : CoeFun (Ent Hs Gs) (fun _ => ∀ {M : Kn} {h : Res}, SL Hs M h → SL Gs M h) := ⟨fun e => e.go⟩
theorem Picks.ent {As Hs Rs : List HP} (p : Picks As Hs Rs) : Ent Hs (As ++ Rs) := ⟨fun s => by
 obtain ⟨h1, h2, d, e, a, t⟩ := p.sat s
 subst e
 exact SL.append d a t⟩
theorem Ent.refl (Hs : List HP) : Ent Hs Hs := ⟨fun s => s⟩
theorem Ent.trans {a b c : List HP} (h : Ent a b) (k : Ent b c) : Ent a c := ⟨fun s => k (h s)⟩
theorem SL.drop {As Rs : List HP} {M : Kn} {h : Res} (s : SL (As ++ Rs) M h) : SL As M h := by
 induction As generalizing h with
 | nil => trivial
 | cons A r ih => obtain ⟨h1, h2, d, e, a, t⟩ := s; exact ⟨h1, h2, d, e, a, ih t⟩
theorem Picks.drop {As Hs Rs : List HP} (p : Picks As Hs Rs) : Ent Hs As := ⟨fun s => SL.drop (p.ent s)⟩
theorem SL.split {As Bs : List HP} {M : Kn} {h : Res} (s : SL (As ++ Bs) M h) : ∃ h1 h2 : Res, h1.dj h2 ∧ h = h1.add h2 ∧ SL As M h1 ∧ SL Bs M h2 := by
 induction As generalizing h with
 | nil => exact ⟨Res.emp, h, Res.emp_dj _, rfl, trivial, s⟩
 | cons A r ih =>
   obtain ⟨h1, h2, d, e, a, t⟩ := s
   obtain ⟨k1, k2, d', e', t1, t2⟩ := ih t
   subst e'
   obtain ⟨d1, d2⟩ := Res.dj_add_right.1 d
   exact ⟨h1.add k1, k2, Res.dj_add_left.2 ⟨d2, d'⟩, by rw [e, Res.add_assoc], ⟨h1, k1, d1, rfl, a, t1⟩, t2⟩
theorem Ent.frame {As Bs : List HP} (h : Ent As Bs) (Rs : List HP) : Ent (As ++ Rs) (Bs ++ Rs) := ⟨fun s => by
 obtain ⟨h1, h2, d, e, a, t⟩ := SL.split s
 subst e
 exact SL.append d (h a) t⟩
/-! Assertions. -/
/-- A block that one has for oneself. -/
def Blk (b : Nat) (o : Obj) : HP := ⟨fun _ h => h = Res.one b o, fun _ e => e⟩
/-- A block that never turns any more. -/
def Im (b : Nat) (o : Obj) : HP := ⟨fun M _ => M.im b = some o, fun le e => le.1 _ _ e⟩
def Pu (p : Prop) : HP := ⟨fun _ _ => p, fun _ e => e⟩
def Ex {X : Type} (f : X → HP) : HP := ⟨fun M h => ∃ x, (f x).at_ M h, fun le ⟨x, e⟩ => ⟨x, (f x).mono le e⟩⟩
/-- Several as one. -/
def Al (Hs : List HP) : HP := ⟨SL Hs, fun le e => SL.mono le e⟩
theorem Im.pers (b : Nat) (o : Obj) : Pers (Im b o) := fun e => e
theorem Pu.pers (p : Prop) : Pers (Pu p) := fun e => e
/-- Draws never go back (in a seat without strings.Repeat, whose contract hides them). -/
abbrev Up (a b : Nat) : Prop := a ≤ b
theorem up_rfl {a : Nat} : Up a a := by first | exact Nat.le_refl _ | trivial
theorem up_tr {a b c : Nat} (h : Up a b) (k : Up b c) : Up a c := by first | exact Nat.le_trans h k | trivial
theorem up_add {a b : Nat} (n : Nat) (h : Up a b) : Up a (b + n) := by first | exact Nat.le_trans h (Nat.le_add_right _ _) | trivial
/-- Nothing but memory has turned. -/
structure Env (g w : World) : Prop where
 os : w.os = g.os
 tape : w.tape = g.tape
 output : w.output = g.output
 size : g.heap.size ≤ w.heap.size
 up : Up g.drawn w.drawn
theorem Env.refl (w : World) : Env w w := ⟨rfl, rfl, rfl, Nat.le_refl _, up_rfl⟩
theorem Env.trans {a b c : World} (h : Env a b) (k : Env b c) : Env a c := ⟨k.os.trans h.os, k.tape.trans h.tape, k.output.trans h.output, Nat.le_trans h.size k.size, up_tr h.up k.up⟩
/-- The world holds what is known, and what one has. -/
structure Sat (w : World) (M : Kn) (h : Res) : Prop where
 im : ∀ b o, M.im b = some o → w.heap[b]? = some o
 ow : ∀ b o, h b = some o → w.heap[b]? = some o
 dj : M.im.dj h
 env : Env M.g w
theorem Sat.le {w : World} {M : Kn} {h h' : Res} (s : Sat w M h) (l : h'.le h) : Sat w M h' :=
 ⟨s.im, fun b o e => s.ow b o (l b o e), fun i => (s.dj i).imp id (fun e => by
  cases e' : h' i with
  | none => rfl
  | some o => rw [l i o e'] at e; cases e), s.env⟩
/-! Frames: slots and what they hold, the newest first. -/
abbrev Loc := List (Nat × Value)
def lk : Loc → Nat → Option Value
 | [], _ => none
 | (j, v) :: r, i => bif Nat.beq j i then some v else lk r i
def Fr (n : Nat) (L : Loc) (a : Act) : Prop := n ≤ a.tmps.size ∧ ∀ i v, lk L i = some v → a.tmps[i]? = some v
theorem Fr.put {n : Nat} {L : Loc} {a : Act} {d : Nat} {v : Value} (f : Fr n L a) (h : Nat.blt d n = true) : Fr n ((d, v) :: L) (a.put (some d) v) := by
 have hd : d < n := by simpa using h
 refine ⟨by simp [Act.put]; exact f.1, fun i u e => ?_⟩
 simp only [lk] at e
 simp only [Act.put, Array.getElem?_setIfInBounds]
 by_cases hi : d = i
 · subst hi
   simp at e; subst e
   have := f.1
   simp; omega
 · have := nbeq hi
   simp only [this, cond_false] at e
   simp [hi, f.2 i u e]
theorem Fr.none {n : Nat} {L : Loc} {a : Act} {v : Value} (f : Fr n L a) : Fr n L (a.put none v) := f
theorem Fr.eval {n : Nat} {L : Loc} {a : Act} (f : Fr n L a) {t : Nat} {v : Value} (h : lk L t = some v) : a.eval (.tmp t) = v := by
 simp [Act.eval, f.2 t v h]
/-- Some slots of a frame. -/
def Cov (L : Loc) : Loc → Prop
 | [] => True
 | (k, v) :: r => lk L k = some v ∧ Cov L r
theorem Fr.cov {n : Nat} {L L' : Loc} {a : Act} (f : Fr n L a) (c : Cov L L') : Fr n L' a := by
 refine ⟨f.1, fun i v e => ?_⟩
 induction L' with
 | nil => simp [lk] at e
 | cons x r ih =>
   obtain ⟨k, u⟩ := x
   simp only [lk] at e
   by_cases hi : k = i
   · subst hi; simp at e; subst e; exact f.2 _ _ c.1
   · have := nbeq hi
     simp only [this, cond_false] at e
     exact ih c.2 e
/-- What an operand holds. -/
def ev (L : Loc) : Operand → Option Value
 | .tmp t => lk L t
 | .const v => some v
 | .global g => some (.pointer (some ⟨g, 0, none⟩))
 | .func f => some (.func (.func f) #[] #[])
theorem Fr.ev {n : Nat} {L : Loc} {a : Act} (f : Fr n L a) {x : Operand} {v : Value} (h : ev L x = some v) : a.eval x = v := by
 cases x with
 | tmp t => exact f.eval h
 | const u => simp [Go.Proofs.YtdnoacgopfcpbaaGreat.ev] at h; simp [Act.eval, h]
 | global g => simp [Go.Proofs.YtdnoacgopfcpbaaGreat.ev] at h; simp [Act.eval, h]
 | func g => simp [Go.Proofs.YtdnoacgopfcpbaaGreat.ev] at h; simp [Act.eval, h]
/-! Marks of range-over-function loops among the deferred calls. -/
def DefH : List Deferred → List HP
 | [] => []
 | d :: ds => Ex (fun r : Nat => Al [Pu (d = { target := .collected r, args := #[] }), Blk r (.deferred (some []))]) :: DefH ds
def St (n : Nat) (L : Loc) (Hs : List HP) (a : Act) (M : Kn) (h : Res) : Prop := Fr n L a ∧ SL (Al (DefH a.defers) :: Hs) M h
abbrev WF (r : Option Nat) : Fence := { fn := fun _ => True, depth := none, alive := false, round := r }
/-- What is asked at the ends of a piece of code. -/
abbrev Out := Exit → Act → Kn → Res → Prop
def lift (M : Kn) (hf : Res) (Q : Out) : Exit → Act → World → Prop :=
 fun e a w => ∃ (M' : Kn) (h' : Res), M.le M' ∧ h'.dj hf ∧ Sat w M' (h'.add hf) ∧ Q e a M' h'
theorem lift_le {M M' : Kn} {hf : Res} {Q : Out} (l : M.le M') {e : Exit} {a : Act} {w : World} (h : lift M' hf Q e a w) : lift M hf Q e a w := by
 obtain ⟨M2, h2, l2, d, s, q⟩ := h; exact ⟨M2, h2, Kn.le_trans l l2, d, s, q⟩
def wout (r : Option Nat) (P : Program) (c : Code) (Q : Out) (a : Act) (M : Kn) (h : Res) : Prop :=
 ∀ (w : World) (hf : Res), h.dj hf → Sat w M (h.add hf) → c.wpIn (WF r) 0 P (lift M hf Q) a w
def wc (r : Option Nat) (P : Program) (n : Nat) (c : Code) (L : Loc) (Hs : List HP) (Q : Out) : Prop :=
 ∀ (a : Act) (M : Kn) (h : Res), St n L Hs a M h → wout r P c Q a M h
def thenO (K : Act → Kn → Res → Prop) (Q : Out) : Out
 | .normal => K
 | e => Q e
def blockO (id : Nat) (Q : Out) : Out
 | .exit id' => if Nat.beq id' id then Q .normal else Q (.exit id')
 | e => Q e
/-- From here the way out is served. -/
def tw (n : Nat) (Q : Out) (e : Exit) (L : Loc) (Hs : List HP) : Prop := ∀ (a : Act) (M : Kn) (h : Res), St n L Hs a M h → Q e a M h
section
variable {r : Option Nat} {P : Program} {n : Nat} {L : Loc} {Hs : List HP} {Q : Out}
theorem St.ent {L' : Loc} {Hs' : List HP} {a : Act} {M : Kn} {h : Res} (s : St n L Hs a M h) (c : Cov L L') (e : Ent Hs Hs') : St n L' Hs' a M h := by
 obtain ⟨f, s⟩ := s
 refine ⟨f.cov c, ?_⟩
 obtain ⟨h1, h2, d, e', x, t⟩ := s
 exact ⟨h1, h2, d, e', x, e t⟩
theorem wc_ent {c : Code} {L' : Loc} {Hs' : List HP} (hc : Cov L L') (e : Ent Hs Hs') (h : wc r P n c L' Hs' Q) : wc r P n c L Hs Q :=
 fun a M x s => h a M x (s.ent hc e)
theorem wout_of {c : Code} {a : Act} {M : Kn} {h : Res} (k : wout r P c Q a M h) {w : World} {M0 : Kn} {hf : Res} (l : M0.le M) (d : h.dj hf) (s : Sat w M (h.add hf)) :
    c.wpIn (WF r) 0 P (lift M0 hf Q) a w := wpIn_mono (k w hf d s) fun _ _ _ q => lift_le l q
theorem wc_seq {x y : Code} (h : wc r P n x L Hs (thenO (wout r P y Q) Q)) : wc r P n (.seq x y) L Hs Q := by
 intro a M m s w hf d t
 refine wpIn_seq (wpIn_mono (h a M m s w hf d t) ?_)
 rintro e a' w' ⟨M', h', l, d', t', q⟩
 cases e with
 | normal => exact wout_of q l d' t'
 | _ => exact ⟨M', h', l, d', t', q⟩
theorem to_then {y : Code} (h : wc r P n y L Hs Q) : tw n (thenO (wout r P y Q) Q) .normal L Hs := h
theorem of_to {c : Code} {e : Exit} (hc : ∀ (a : Act) (w : World) (Q' : Exit → Act → World → Prop), Q' e a w → c.wpIn (WF r) 0 P Q' a w) (h : tw n Q e L Hs) : wc r P n c L Hs Q :=
 fun a M m s w hf d t => hc a w _ ⟨M, m, Kn.le_refl _, d, t, h a M m s⟩
theorem wc_skip (h : tw n Q .normal L Hs) : wc r P n .skip L Hs Q := of_to (fun _ _ _ q => wpIn_skip q) h
theorem wc_label {l : Nat} (h : tw n Q .normal L Hs) : wc r P n (.label l) L Hs Q := of_to (fun _ _ _ q => wpIn_label q) h
theorem wc_exit {id : Nat} (h : tw n Q (.exit id) L Hs) : wc r P n (.exit id) L Hs Q := of_to (fun _ _ _ q => wpIn_exit q) h
theorem wc_ret (h : tw n Q .ret L Hs) : wc r P n .ret L Hs Q := of_to (fun _ _ _ q => wpIn_ret q) h
theorem wc_cond {c : Operand} {x y : Code} {b : Bool} (hc : ev L c = some (.bool b)) (ht : b = true → wc r P n x L Hs Q) (hf : b = false → wc r P n y L Hs Q) :
    wc r P n (.cond c x y) L Hs Q := by
 intro a M m s w h d t
 refine wpIn_cond_split (s.1.ev hc) (fun e => ht e a M m s w h d t) (fun e => hf e a M m s w h d t)
theorem wc_true {c : Operand} {x y : Code} (hc : ev L c = some (.bool true)) (h : wc r P n x L Hs Q) : wc r P n (.cond c x y) L Hs Q :=
 wc_cond hc (fun _ => h) (fun e => by cases e)
theorem wc_false {c : Operand} {x y : Code} (hc : ev L c = some (.bool false)) (h : wc r P n y L Hs Q) : wc r P n (.cond c x y) L Hs Q :=
 wc_cond hc (fun e => by cases e) (fun _ => h)
theorem wc_block {id : Nat} {c : Code} (h : wc r P n c L Hs (blockO id Q)) : wc r P n (.block id c) L Hs Q := by
 intro a M m s w hf d t
 refine wpIn_block (wpIn_mono (h a M m s w hf d t) ?_)
 rintro e a' w' ⟨M', h', l, d', t', q⟩
 cases e with
 | exit id' =>
   simp only [blockO] at q
   by_cases hid : id' = id
   · have : Nat.beq id' id = true := by simpa using hid
     simp only [this, if_true] at q
     simp only [Exit.inBlock, hid, if_true]
     exact ⟨M', h', l, d', t', q⟩
   · have := nbeq hid
     simp only [this] at q
     simp only [Exit.inBlock, hid, if_false]
     exact ⟨M', h', l, d', t', q⟩
 | _ => exact ⟨M', h', l, d', t', q⟩
theorem to_block {id : Nat} (h : tw n Q .normal L Hs) : tw n (blockO id Q) .normal L Hs := h
theorem to_block_here {id : Nat} (h : tw n Q .normal L Hs) : tw n (blockO id Q) (.exit id) L Hs := by
 intro a M m s
 have : Nat.beq id id = true := by simp
 simp only [blockO, this, if_true]
 exact h a M m s
theorem to_block_other {id id' : Nat} (hne : Nat.beq id' id = false) (h : tw n Q (.exit id') L Hs) : tw n (blockO id Q) (.exit id') L Hs := by
 intro a M m s
 simp only [blockO, hne]
 exact h a M m s
/-- A loop: an invariant that hangs on a ghost i, and a measure of it. -/
def invO {ι : Type} (n : Nat) (Li : ι → Loc) (Hi : ι → List HP) (lt : ι → Prop) (Q : Out) : Out
 | .normal => fun a M h => ∃ j, lt j ∧ St n (Li j) (Hi j) a M h
 | e => Q e
theorem wc_loop {ι : Type} {c : Code} (Li : ι → Loc) (Hi : ι → List HP) (μ : ι → Nat)
    (round : ∀ i, wc r P n c (Li i) (Hi i) (invO n Li Hi (fun j => μ j < μ i) Q)) (i : ι) : wc r P n (.loop c) (Li i) (Hi i) Q := by
 intro a M m s w hf d t b k cs hro hb hr
 have key : ∀ (u : Nat) (i : ι), μ i = u → ∀ (a : Act) (M : Kn) (m : Res) (w : World), St n (Li i) (Hi i) a M m → m.dj hf → Sat w M (m.add hf) →
     ∃ e a' w', lift M hf Q e a' w' ∧ ArrivesIn (Machine.fenced P (WF r)) P (lone (b.atR a (.code c :: .inLoop c :: k)) cs w) b k cs e a' w' := by
  intro u
  induction u using Nat.strongRecOn with
  | _ u ih =>
    intro i hi a M m w s d t
    obtain ⟨e, a₁, w₁, hq, harr⟩ := round i a M m s w hf d t b (.inLoop c :: k) cs hro hb hr
    cases e with
    | normal =>
      obtain ⟨M', h', l, d', t', j, hj, sj⟩ := hq
      obtain ⟨e₂, a₂, w₂, hq₂, harr₂⟩ := ih (μ j) (hi ▸ hj) j rfl a₁ M' h' w₁ sj d' t'
      exact ⟨e₂, a₂, w₂, lift_le l hq₂, .of_steps (StepsIn.trans harr (.one (fenced_calm hb hr rfl) stepR_inLoop)) harr₂⟩
    | exit id => exact ⟨_, a₁, w₁, hq, .pass (x := .inLoop c) rfl (fun _ _ => .inl (by simp)) harr⟩
    | goto l => exact ⟨_, a₁, w₁, hq, .pass (x := .inLoop c) rfl (fun _ _ => .inl (by simp)) harr⟩
    | ret => exact ⟨_, a₁, w₁, hq, .pass (x := .inLoop c) rfl (fun _ _ => .inl (by simp)) harr⟩
    | panic ch => exact ⟨_, a₁, w₁, hq, .pass (x := .inLoop c) rfl (fun _ _ => .inl (by simp)) harr⟩
    | outgrown => exact ⟨_, a₁, w₁, hq, .pass (x := .inLoop c) rfl (fun _ _ => .inl (by simp)) harr⟩
 obtain ⟨e, a', w', hq, harr⟩ := key _ i rfl a M m w s d t
 exact ⟨e, a', w', hq, .of_steps (.one (fenced_calm hb hr rfl) stepR_loop) harr⟩
theorem to_inv {ι : Type} {Li : ι → Loc} {Hi : ι → List HP} {lt : ι → Prop} (j : ι) (hj : lt j) (hc : Cov L (Li j)) (e : Ent Hs (Hi j)) : tw n (invO n Li Hi lt Q) .normal L Hs :=
 fun a M h s => ⟨j, hj, s.ent hc e⟩
end
end
section
def wpL (r : Option Nat) (P : Program) (ops : Array Oper) (Q : Exit → Act → World → Prop) : List Oper → Act → World → Prop
 | [], a, w => Q .normal a w
 | o :: os, a, w => if Region.wanted o (yielded ops a.tmps) then o.uponIn (WF r) 0 P a (wpL r P ops Q os) Q ((o.semAt r a.eval).run P w) else wpL r P ops Q os (a.put o.dst undef) w
theorem wpOps_of_wpL {r : Option Nat} {P : Program} {ops : Array Oper} {Q : Exit → Act → World → Prop} : ∀ (l : List Nat) (os : List Oper) (a : Act) (w : World),
    (∀ i ∈ l, i < ops.size) → os = l.filterMap (ops[·]?) → wpL r P ops Q os a w → wpOpsIn (WF r) 0 P ops Q l a w := by
 intro l
 induction l with
 | nil => intro os a w _ e h; subst e; exact h
 | cons i rest ih =>
   intro os a w hi e h
   have hlt := hi i (by simp)
   have ho : ops[i]? = some ops[i] := Array.getElem?_eq_getElem hlt
   have hrest : ∀ j ∈ rest, j < ops.size := fun j hj => hi j (by simp [hj])
   have e2 : os = ops[i] :: rest.filterMap (ops[·]?) := by rw [e, List.filterMap_cons]; simp [ho]
   subst e2
   simp only [wpL] at h
   simp only [wpOpsIn, ho]
   split
   · rename_i hw
     simp only [hw, if_true] at h
     refine ⟨fun _ _ => trivial, ?_⟩
     have : (wpL r P ops Q (rest.filterMap (ops[·]?))) = fun a w => wpL r P ops Q (rest.filterMap (ops[·]?)) a w := rfl
     revert h
     generalize (Oper.semAt (WF r).round a.eval ops[i]).run P w = res
     intro h
     have imp : ∀ a w, wpL r P ops Q (rest.filterMap (ops[·]?)) a w → wpOpsIn (WF r) 0 P ops Q rest a w := fun a w => ih _ a w hrest rfl
     unfold Oper.uponIn at h ⊢
     split at h
     · exact imp _ _ h
     · exact imp _ _ h
     · exact imp _ _ h
     · refine ⟨h.1, h.2.mono ?_⟩
       intro e w' q
       cases e with
       | returned v => exact imp _ _ q
       | panicked c => exact q
       | outgrown => exact q
     · exact ⟨h.1, h.2.mono fun v w' q => imp _ _ q⟩
     · refine ⟨h.1, h.2.mono ?_⟩
       intro e w' q
       cases e with
       | returned v => exact imp _ _ q
       | panicked c => exact q
       | outgrown => exact q
     · exact h
     · exact h.elim
   · rename_i hw
     simp only [hw, Bool.false_eq_true, if_false] at h
     exact ⟨fun _ _ => trivial, ih _ _ _ hrest rfl h⟩
theorem range_all {ops : Array Oper} : (List.range ops.size).filterMap (ops[·]?) = ops.toList := by
 apply List.ext_getElem?
 intro i
 have key : ∀ (l : List Oper), (List.range l.length).filterMap (l[·]?) = l := by
  intro l
  induction l with
  | nil => rfl
  | cons x r ih =>
    rw [List.length_cons, List.range_succ_eq_map, List.filterMap_cons]
    simp only [List.getElem?_cons_zero, List.filterMap_map]
    congr 1
 have := key ops.toList
 simp only [Array.length_toList, Array.getElem?_toList] at this
 rw [this]
/-- The rest of a region. -/
def wo (r : Option Nat) (P : Program) (n : Nat) (ops : Array Oper) (os : List Oper) (L : Loc) (Hs : List HP) (Q : Out) : Prop :=
 ∀ (a : Act) (M : Kn) (h : Res), St n L Hs a M h → ∀ (w : World) (hf : Res), h.dj hf → Sat w M (h.add hf) → wpL r P ops (lift M hf Q) os a w
section
variable {r : Option Nat} {P : Program} {n : Nat} {ops : Array Oper} {os : List Oper} {L : Loc} {Hs : List HP} {Q : Out}
theorem wc_region {id : Nat} {l : List Oper} (h : wo r P n l.toArray l L Hs Q) : wc r P n (.region id l.toArray false) L Hs Q := by
 intro a M m s w hf d t
 refine wpIn_region (wpOps_of_wpL _ _ a w (fun i hi => by simpa using hi) ?_ (h a M m s w hf d t))
 rw [range_all]
theorem wpL_mono {Q1 Q2 : Exit → Act → World → Prop} (hq : ∀ e a w, Q1 e a w → Q2 e a w) : ∀ (os : List Oper) (a : Act) (w : World), wpL r P ops Q1 os a w → wpL r P ops Q2 os a w := by
 intro os
 induction os with
 | nil => intro a w h; exact hq _ _ _ h
 | cons o os ih =>
   intro a w h
   simp only [wpL] at h ⊢
   split
   · rename_i hw
     simp only [hw, if_true] at h
     revert h
     generalize (Oper.semAt r a.eval o).run P w = res
     intro h
     unfold Oper.uponIn at h ⊢
     have lo : LetsOut Q1 → LetsOut Q2 := fun ⟨a, w, q⟩ => ⟨a, w, hq _ _ _ q⟩
     split at h
     · exact ih _ _ h
     · exact ih _ _ h
     · exact ih _ _ h
     · refine ⟨h.1, h.2.mono ?_⟩
       intro e w' q
       cases e with
       | returned v => exact ih _ _ q
       | panicked c => exact hq _ _ _ q
       | outgrown => exact lo q
     · exact ⟨h.1, h.2.mono fun v w' q => ih _ _ q⟩
     · refine ⟨h.1, h.2.mono ?_⟩
       intro e w' q
       cases e with
       | returned v => exact ih _ _ q
       | panicked c => exact hq _ _ _ q
       | outgrown => exact lo q
     · exact hq _ _ _ h
     · exact h.elim
   · rename_i hw
     simp only [hw, Bool.false_eq_true, if_false] at h
     exact ih _ _ h
/-- On with another frame, another world, more known. -/
theorem wo_on (k : wo r P n ops os L Hs Q) {a : Act} {M : Kn} {h : Res} (s : St n L Hs a M h) {w : World} {M0 : Kn} {hf : Res} (l : M0.le M) (d : h.dj hf) (t : Sat w M (h.add hf)) :
    wpL r P ops (lift M0 hf Q) os a w := wpL_mono (fun _ _ _ q => lift_le l q) _ _ _ (k a M h s w hf d t)
theorem wo_nil (h : tw n Q .normal L Hs) : wo r P n ops [] L Hs Q := fun a M m s w hf d t => ⟨M, m, Kn.le_refl _, d, t, h a M m s⟩
theorem wo_seq {y : Code} (h : wc r P n y L Hs Q) : wo r P n ops [] L Hs (thenO (wout r P y Q) Q) := wo_nil (to_then h)
/-- What an operation gives that touches no memory. -/
structure PV (P : Program) (n : Nat) (L : Loc) (op : Op) (ty : TypeId) (v : Value) : Prop where
 nd : ∀ c, op ≠ .defer c
 run : ∀ (a : Act), Fr n L a → ∀ (w : World) (dst : Option Tmp) (pos : String) (after : Array Edge) (guard : Option (Nat × Bool)),
  (execOp a.eval ⟨dst, op, ty, pos, after, guard⟩).run P w = .ok (.value v) w
theorem wo_pv {op : Op} {ty : TypeId} {v : Value} {d : Nat} {pos : String} {after : Array Edge} (hv : PV P n L op ty v) (hd : Nat.blt d n = true)
    (k : wo r P n ops os ((d, v) :: L) Hs Q) : wo r P n ops (⟨some d, op, ty, pos, after, none⟩ :: os) L Hs Q := by
 intro a M m s w hf dj t
 simp only [wpL, Region.wanted, if_true]
 rw [Oper.semAt_eq _ _ _ hv.nd, hv.run a s.1 w]
 exact k _ M m ⟨s.1.put hd, s.2⟩ w hf dj t
/-- The yes or no that a guard hangs on. -/
def gd (ops : Array Oper) (L : Loc) (j : Nat) : Option Value := ((ops[j]?).bind (·.dst)).bind (lk L)
theorem gd_yielded {a : Act} (f : Fr n L a) {j : Nat} {b : Bool} (h : gd ops L j = some (.bool b)) : yielded ops a.tmps j = some b := by
 unfold gd at h
 unfold yielded
 cases e : (ops[j]?).bind (·.dst) with
 | none => rw [e] at h; cases h
 | some d => rw [e] at h; simp only [Option.bind_some] at h ⊢; rw [f.2 _ _ h]
theorem gd_wanted {a : Act} (f : Fr n L a) {j : Nat} {b want : Bool} (h : gd ops L j = some (.bool b)) {dst : Option Tmp} {op : Op} {ty : TypeId} {pos : String} {after : Array Edge} :
    Region.wanted ⟨dst, op, ty, pos, after, some (j, want)⟩ (yielded ops a.tmps) = (b == want) := by
 simp only [Region.wanted, gd_yielded f h]
 cases b <;> cases want <;> rfl
/-- A guarded operation that is let through goes as if it bore no guard. -/
theorem wo_in {j : Nat} {b : Bool} {dst : Option Tmp} {op : Op} {ty : TypeId} {pos : String} {after : Array Edge} (hj : gd ops L j = some (.bool b))
    (k : wo r P n ops (⟨dst, op, ty, pos, after, none⟩ :: os) L Hs Q) : wo r P n ops (⟨dst, op, ty, pos, after, some (j, b)⟩ :: os) L Hs Q := by
 intro a M m s w hf d t
 have h := k a M m s w hf d t
 simp only [wpL] at h ⊢
 rw [gd_wanted s.1 hj]
 simp only [Region.wanted, if_true, beq_self_eq_true] at h ⊢
 exact h
theorem wo_out {j : Nat} {b want : Bool} {d : Nat} {op : Op} {ty : TypeId} {pos : String} {after : Array Edge} (hj : gd ops L j = some (.bool b)) (hb : (b == want) = false) (hd : Nat.blt d n = true)
    (k : wo r P n ops os ((d, undef) :: L) Hs Q) : wo r P n ops (⟨some d, op, ty, pos, after, some (j, want)⟩ :: os) L Hs Q := by
 intro a M m s w hf dj t
 simp only [wpL]
 rw [gd_wanted s.1 hj, hb]
 simp only [Bool.false_eq_true, if_false]
 exact k _ M m ⟨s.1.put hd, s.2⟩ w hf dj t
/-- What lets nothing through. -/
def outv : Value → Bool → Bool
 | .bool b, w => !(b == w)
 | _, _ => true
theorem gd_outv {a : Act} (f : Fr n L a) {j : Nat} {u : Value} {want : Bool} (h : gd ops L j = some u) (hu : outv u want = true) : (yielded ops a.tmps j == some want) = false := by
 unfold gd at h
 unfold yielded
 cases e : (ops[j]?).bind (·.dst) with
 | none => rw [e] at h; cases h
 | some d =>
   rw [e] at h; simp only [Option.bind_some] at h ⊢
   rw [f.2 _ _ h]
   cases u with
   | bool b => cases b <;> cases want <;> simp_all [outv]
   | _ => rfl
theorem wo_outU {j : Nat} {want : Bool} {d : Nat} {op : Op} {ty : TypeId} {pos : String} {after : Array Edge} {u : Value} (hj : gd ops L j = some u) (hu : outv u want = true) (hd : Nat.blt d n = true)
    (k : wo r P n ops os ((d, undef) :: L) Hs Q) : wo r P n ops (⟨some d, op, ty, pos, after, some (j, want)⟩ :: os) L Hs Q := by
 intro a M m s w hf dj t
 have hw : Region.wanted ⟨some d, op, ty, pos, after, some (j, want)⟩ (yielded ops a.tmps) = false := gd_outv s.1 hj hu
 simp only [wpL]
 rw [hw]
 simp only [Bool.false_eq_true, if_false]
 exact k _ M m ⟨s.1.put hd, s.2⟩ w hf dj t
/-! Contracts. -/
/-- What is asked behind a call that answers v. -/
def ansR (M : Kn) (hf : Res) {X : Type} (val : X → Value) (φ : X → Prop) (Bs : X → List HP) : Ending → World → Prop :=
 fun e w' => ∃ (x : X) (M' : Kn) (h' : Res), e = .returned (val x) ∧ φ x ∧ M.le M' ∧ h'.dj hf ∧ Sat w' M' (h'.add hf) ∧ SL (Bs x) M' h'
structure Sp (P : Program) (f : FuncId) (args : List Value) (As : List HP) {X : Type} (val : X → Value) (φ : X → Prop) (Bs : X → List HP) : Prop where
 enters : ∀ (args : Array Value) (w : World), (callFunc f args).run P w = .ok (.enter f args) w
 calls : ∀ (w : World) (M : Kn) (h hf : Res), h.dj hf → Sat w M (h.add hf) → SL As M h → CallsIn (WF none) 0 P f args.toArray w (ansR M hf val φ Bs)
theorem Sp.mono {f : FuncId} {args : List Value} {As : List HP} {X Y : Type} {val : X → Value} {φ : X → Prop} {Bs : X → List HP} {val' : Y → Value} {φ' : Y → Prop} {Bs' : Y → List HP} {As' : List HP}
    (sp : Sp P f args As val φ Bs) (ha : Ent As' As) (hr : ∀ x, φ x → ∃ y, val x = val' y ∧ φ' y ∧ Ent (Bs x) (Bs' y)) : Sp P f args As' val' φ' Bs' := by
 refine ⟨sp.enters, fun w M h hf d t s => (sp.calls w M h hf d t (ha s)).mono ?_⟩
 rintro e w' ⟨x, M', h', rfl, p, l, d', t', s'⟩
 obtain ⟨y, e, p', en⟩ := hr x p
 exact ⟨y, M', h', by rw [e], p', l, d', t', en s'⟩
def locs : Nat → List Value → Loc
 | _, [] => []
 | i, v :: r => (i, v) :: locs (i + 1) r
theorem lk_locs : ∀ (vs : List Value) (i j : Nat), lk (locs i vs) j = if i ≤ j then vs[j - i]? else none := by
 intro vs
 induction vs with
 | nil => intro i j; simp [locs, lk]
 | cons v rest ih =>
   intro i j
   simp only [locs, lk]
   by_cases h : i = j
   · subst h; simp
   · rw [nbeq h, cond_false, ih]
     by_cases h2 : i ≤ j
     · rw [if_pos (by omega), if_pos h2]
       have : j - i = (j - (i + 1)) + 1 := by omega
       rw [this, List.getElem?_cons_succ]
     · rw [if_neg (by omega), if_neg h2]
/-- What the results read as. -/
def RV (P : Program) (fn : Func) (tmps : Array Value) (Cs : List HP) (v : Value) : Prop :=
 ∀ (w : World) (M : Kn) (h hf : Res), h.dj hf → Sat w M (h.add hf) → SL Cs M h → (results fn tmps).run P w = .ok v w
def finO (P : Program) (fn : Func) {X : Type} (val : X → Value) (φ : X → Prop) (Bs : X → List HP) : Out :=
 fun e a M h => (e = .normal ∨ e = .ret) ∧ ∃ (x : X) (Cs : List HP), φ x ∧ SL (Al (DefH a.defers) :: (Bs x ++ Cs)) M h ∧ RV P fn a.tmps Cs (val x)
theorem Sat.putObj {w : World} {M : Kn} {h : Res} {b : Nat} {o o' : Obj} (d : (Res.one b o).dj h) (t : Sat w M ((Res.one b o).add h)) : Sat (w.putObj b o') M ((Res.one b o').add h) := by
 have hb : w.heap[b]? = some o := t.ow b o (by simp [Res.add, Res.one])
 have hlt : b < w.heap.size := (Array.getElem?_eq_some_iff.1 hb).1
 have hM : M.im b = none := by
  rcases t.dj b with e | e
  · exact e
  · simp [Res.add, Res.one] at e
 have hh : h b = none := by
  rcases d b with e | e
  · simp [Res.one] at e
  · exact e
 refine ⟨fun i u e => ?_, fun i u e => ?_, fun i => ?_, ⟨t.env.os, t.env.tape, t.env.output, by simpa [World.putObj] using t.env.size, t.env.up⟩⟩
 · have hi : i ≠ b := fun x => by subst x; rw [hM] at e; cases e
   rw [World.putObj_heap_other hi]; exact t.im i u e
 · by_cases hi : i = b
   · subst hi
     simp [Res.add, Res.one] at e; subst e
     exact World.putObj_heap_same hlt
   · rw [World.putObj_heap_other hi]
     exact t.ow i u (by simpa [Res.add, Res.one, hi] using e)
 · by_cases hi : i = b
   · subst hi; exact .inl hM
   · rcases t.dj i with e | e
     · exact .inl e
     · exact .inr (by simpa [Res.add, Res.one, hi] using e)
theorem leaves {fn : Func} {tmps : Array Value} {X : Type} {val : X → Value} {φ : X → Prop} {Bs : X → List HP} {M0 : Kn} {hf : Res} {Cs : List HP} {x : X} (hx : φ x) (hv : RV P fn tmps Cs (val x)) :
    ∀ (ds : List Deferred) (M : Kn) (h : Res) (w : World), M0.le M → h.dj hf → Sat w M (h.add hf) → SL (Al (DefH ds) :: (Bs x ++ Cs)) M h →
     LeavesInM (WF none) 0 P fn tmps (ansR M0 hf val φ Bs) ds .returning w := by
 intro ds
 induction ds with
 | nil =>
   intro M h w l d t s
   obtain ⟨h1, h2, d12, e, _, s⟩ := s
   subst e
   obtain ⟨k1, k2, dk, e, sb, sc⟩ := SL.split s
   subst e
   obtain ⟨d1, d2⟩ := Res.dj_add_left.1 d
   obtain ⟨d3, d4⟩ := Res.dj_add_left.1 d2
   obtain ⟨d5, d6⟩ := Res.dj_add_right.1 d12
   refine ⟨val x, hv w M k2 ((h1.add k1).add hf) ?_ ?_ sc, x, M, h1.add k1, rfl, hx, l, Res.dj_add_left.2 ⟨d1, d3⟩, ?_, SL.more d5 sb⟩
   · exact Res.dj_add_right.2 ⟨Res.dj_add_right.2 ⟨Res.dj_comm d6, Res.dj_comm dk⟩, d4⟩
   · have : (h1.add (k1.add k2)).add hf = k2.add ((h1.add k1).add hf) := by
       rw [← Res.add_assoc h1 k1 k2, Res.add_comm (Res.dj_add_left.2 ⟨d6, dk⟩), Res.add_assoc]
     rw [← this]; exact t
   · refine t.le ?_
     intro i o e
     have : (h1.add (k1.add k2)).add hf = k2.add ((h1.add k1).add hf) := by
      rw [← Res.add_assoc h1 k1 k2, Res.add_comm (Res.dj_add_left.2 ⟨d6, dk⟩), Res.add_assoc]
     rw [this]
     exact Res.le_add_right (Res.dj_add_right.2 ⟨Res.dj_add_right.2 ⟨Res.dj_comm d6, Res.dj_comm dk⟩, d4⟩) i o e
 | cons dd ds ih =>
   intro M h w l d t s
   obtain ⟨h1, h2, d12, e, sd, s⟩ := s
   subst e
   obtain ⟨k1, k2, dk, e, ⟨rr, sr⟩, sds⟩ := sd
   subst e
   obtain ⟨p1, p2, dp, e, hp, sr⟩ := sr
   subst e
   obtain ⟨q1, q2, dq, e, hq, _⟩ := sr
   subst e
   have hp' : dd = { target := .collected rr, args := #[] } := hp
   have hq' : q1 = Res.one rr (.deferred (some [])) := hq
   subst hq'
   obtain ⟨dp1, dp2⟩ := Res.dj_add_right.1 dp
   -- the mark's block ahead of all the rest
   have eq : ((p1.add ((Res.one rr (.deferred (some []))).add q2)).add k2).add h2 = (Res.one rr (.deferred (some []))).add (((p1.add q2).add k2).add h2) := by
    rw [← Res.add_assoc p1, Res.add_comm dp1, Res.add_assoc, Res.add_assoc, Res.add_assoc, Res.add_assoc]
    simp only [Res.add_assoc]
   have dj1 : (Res.one rr (.deferred (some []))).dj (((p1.add q2).add k2).add h2) := by
    obtain ⟨a1, a2⟩ := Res.dj_add_left.1 d12
    obtain ⟨b1, b2⟩ := Res.dj_add_left.1 dk
    obtain ⟨c1, c2⟩ := Res.dj_add_left.1 a1
    exact Res.dj_add_right.2 ⟨Res.dj_add_right.2 ⟨Res.dj_add_right.2 ⟨Res.dj_comm dp1, dq⟩, (Res.dj_add_left.1 b2).1⟩, (Res.dj_add_left.1 c2).1⟩
   rw [eq] at d t
   obtain ⟨df1, df2⟩ := Res.dj_add_left.1 d
   rw [Res.add_assoc] at t
   have hblk : w.heap[rr]? = some (.deferred (some [])) := t.ow rr _ (by simp [Res.add, Res.one])
   refine ⟨by simp, .inl ⟨rr, w.putObj rr (.deferred none), by rw [hp'], run_takeDeferred hblk, ?_⟩⟩
   have t2 := Sat.putObj (o' := .deferred none) (Res.dj_add_right.2 ⟨dj1, df1⟩) t
   have dnew : (((p1.add q2).add k2).add h2).dj hf := df2
   refine ih M (((p1.add q2).add k2).add h2) _ l dnew (t2.le ?_) ?_
   · intro i o e
     by_cases hi : i = rr
     · subst hi
       rcases dj1 i with z | z
       · simp [Res.one] at z
       · rcases df1 i with z' | z'
         · simp [Res.one] at z'
         · have : ((((p1.add q2).add k2).add h2).add hf) i = none := Res.add_none.2 ⟨z, z'⟩
           rw [this] at e; cases e
     · simp only [Res.add, Res.one, hi, if_false] at e ⊢
       exact e
   · refine ⟨(p1.add q2).add k2, h2, ?_, rfl, SL.more ?_ sds, s⟩
     · obtain ⟨a1, a2⟩ := Res.dj_add_left.1 d12
       obtain ⟨c1, c2⟩ := Res.dj_add_left.1 a1
       exact Res.dj_add_left.2 ⟨Res.dj_add_left.2 ⟨c1, (Res.dj_add_left.1 c2).2⟩, a2⟩
     · obtain ⟨b1, b2⟩ := Res.dj_add_left.1 dk
       exact Res.dj_add_left.2 ⟨b1, (Res.dj_add_left.1 b2).2⟩
theorem Sp.of_body {f : FuncId} {fn : Func} {c : Code} {args : List Value} {As : List HP} {X : Type} {val : X → Value} {φ : X → Prop} {Bs : X → List HP}
    (en : ∀ (args : Array Value) (w : World), (callFunc f args).run P w = .ok (.enter f args) w)
    (hf : P.funcs[f]? = some fn) (hb : fn.body = some c) (hn : fn.ntmps = n) (hl : Nat.ble args.length n = true)
    (h : wc none P n c (locs 0 args) As (finO P fn val φ Bs)) : Sp P f args As val φ Bs := by
 refine ⟨en, fun w M m hfr d t s => ?_⟩
 refine callsIn_of_wp_marks hf hb trivial (wpIn_mono (h _ M m ⟨⟨?_, ?_⟩, ?_⟩ w hfr d t) ?_)
 · have := Nat.le_of_ble_eq_true hl
   simp [hn]; omega
 · intro i v e
   rw [lk_locs] at e
   simp at e
   have hlt : i < args.length := by
    rcases Nat.lt_or_ge i args.length with x | x
    · exact x
    · rw [List.getElem?_eq_none x] at e; cases e
   rw [Array.getElem?_append]
   have e2 := (List.getElem?_eq_getElem hlt).symm.trans e
   simp only [Option.some.injEq] at e2
   simp [hlt, e2]
 · exact ⟨Res.emp, m, Res.emp_dj _, rfl, trivial, s⟩
 · rintro e a' w' ⟨M', h', l, d', t', he, x, Cs, hx, sl, rv⟩
   rcases he with rfl | rfl
   · exact leaves hx rv _ M' h' w' l d' t' sl
   · exact leaves hx rv _ M' h' w' l d' t' sl
def evs (L : Loc) : List Operand → Option (List Value)
 | [] => some []
 | x :: xs => match ev L x with
   | some v => match evs L xs with
     | some vs => some (v :: vs)
     | none => none
   | none => none
theorem Fr.evs {a : Act} (f : Fr n L a) : ∀ (xs : List Operand) {vs : List Value}, evs L xs = some vs → xs.map a.eval = vs := by
 intro xs
 induction xs with
 | nil => intro vs h; simp [Go.Proofs.YtdnoacgopfcpbaaGreat.evs] at h; simp [h]
 | cons x xs ih =>
   intro vs h
   simp only [Go.Proofs.YtdnoacgopfcpbaaGreat.evs] at h
   split at h
   · rename_i v hv
     split at h
     · rename_i us hu
       simp at h; subst h
       simp [f.ev hv, ih hu]
     · cases h
   · cases h
/-- Behind a call that answers as a contract says. -/
theorem after_call {X : Type} {val : X → Value} {φ : X → Prop} {Bs : X → List HP} {Rs : List HP} {d : Nat}
    (hd : Nat.blt d n = true) (k : ∀ x, φ x → wo r P n ops os ((d, val x) :: L) (Bs x ++ Rs) Q)
    {a : Act} {M : Kn} {h1 h2 hf : Res} (f : Fr n L a) (sd : SL [Al (DefH a.defers)] M h1) (sr : SL Rs M h2) (d12 : h1.dj h2) (dhf : (h1.add h2).dj hf)
    {e : Ending} {w' : World} (ans : ansR M ((h1.add h2).add hf) val φ Bs e w') :
    ∃ v, e = .returned v ∧ wpL r P ops (lift M hf Q) os (a.put (some d) v) w' := by
 obtain ⟨x, M', h', rfl, p, l, dj', t', s'⟩ := ans
 refine ⟨_, rfl, ?_⟩
 obtain ⟨dj1, dj2⟩ := Res.dj_add_right.1 dj'
 refine wo_on (k x p) (a := a.put (some d) (val x)) (M := M') (h := h1.add (h'.add h2)) ⟨f.put hd, ?_⟩ l ?_ ?_
 · obtain ⟨dj3, dj4⟩ := Res.dj_add_right.1 dj1
   obtain ⟨g1, g2, e1, e2, y, _⟩ := sd
   subst e2
   have hdef : (a.put (some d) (val x)).defers = a.defers := rfl
   rw [hdef]
   obtain ⟨x1, x2⟩ := Res.dj_add_left.1 d12
   obtain ⟨y1, y2⟩ := Res.dj_add_right.1 dj3
   refine ⟨g1, g2.add (h'.add h2), ?_, by rw [Res.add_assoc], (Al _).mono l y, SL.more ?_ (SL.append dj4 s' (SL.mono l sr))⟩
   · exact Res.dj_add_right.2 ⟨e1, Res.dj_add_right.2 ⟨Res.dj_comm y1, x1⟩⟩
   · exact Res.dj_add_right.2 ⟨Res.dj_comm y2, x2⟩
 · obtain ⟨z1, z2⟩ := Res.dj_add_left.1 dhf
   exact Res.dj_add_left.2 ⟨z1, Res.dj_add_left.2 ⟨dj2, z2⟩⟩
 · obtain ⟨dj3, dj4⟩ := Res.dj_add_right.1 dj1
   have : (h1.add (h'.add h2)).add hf = h'.add ((h1.add h2).add hf) := by
    rw [← Res.add_assoc h1 h' h2, Res.add_comm (Res.dj_comm dj3)]
    simp only [Res.add_assoc]
   rw [this]; exact t'
theorem split_call {a : Act} {M : Kn} {h : Res} {As Rs : List HP} (s : SL (Al (DefH a.defers) :: Hs) M h) (hp : Picks As Hs Rs) :
    ∃ h1 h2 h3 : Res, h1.dj h2 ∧ h3.dj (h1.add h2) ∧ h = h3.add (h1.add h2) ∧ SL [Al (DefH a.defers)] M h1 ∧ SL Rs M h2 ∧ SL As M h3 := by
 obtain ⟨g1, g2, dg, e, x, s⟩ := s
 subst e
 obtain ⟨k1, k2, dk, e, sa, sr⟩ := hp.sat s
 subst e
 obtain ⟨d1, d2⟩ := Res.dj_add_right.1 dg
 refine ⟨g1, k2, k1, d2, Res.dj_add_right.2 ⟨Res.dj_comm d1, dk⟩, ?_, ⟨g1, Res.emp, Res.dj_emp _, (Res.add_emp _).symm, x, trivial⟩, sr, sa⟩
 rw [← Res.add_assoc, Res.add_comm d1, Res.add_assoc]
theorem wo_call {f : Operand} {args : Array Operand} {argTypes : Array TypeId} {ty : TypeId} {d g : Nat} {pos : String} {after : Array Edge} {vs cap : List Value}
    {As Rs : List HP} {X : Type} {val : X → Value} {φ : X → Prop} {Bs : X → List HP}
    (sp : Sp P g (vs ++ cap) As val φ Bs) (hf : ev L f = some (.func (.func g) #[] cap.toArray)) (ha : evs L args.toList = some vs) (hd : Nat.blt d n = true) (hp : Picks As Hs Rs)
    (k : ∀ x, φ x → wo r P n ops os ((d, val x) :: L) (Bs x ++ Rs) Q) :
    wo r P n ops (⟨some d, .call ⟨.value f, args, argTypes⟩, ty, pos, after, none⟩ :: os) L Hs Q := by
 intro a M m s w hfr dj t
 simp only [wpL, Region.wanted, if_true]
 rw [Oper.semAt_eq _ _ _ (by intro c; simp)]
 have hargs : args.map a.eval = vs.toArray := by
  have := s.1.evs _ ha
  apply Array.ext'
  simp [this]
 have hrun : (execOp a.eval ⟨some d, .call ⟨.value f, args, argTypes⟩, ty, pos, after, none⟩).run P w = .ok (.enter g (vs ++ cap).toArray) w := by
  simp only [execOp, resolve, s.1.ev hf, Deferred.ofValue, hargs, Sem.run_bind, Sem.run_pure, Result.andThen_ok, invoke]
  have := sp.enters (vs ++ cap).toArray w
  simpa using this
 rw [hrun]
 obtain ⟨h1, h2, h3, d12, d3, e, sd, sr, sa⟩ := split_call s.2 hp
 subst e
 obtain ⟨dj1, dj2⟩ := Res.dj_add_left.1 dj
 refine ⟨fun _ => by simp [WF] at *, (sp.calls w M h3 ((h1.add h2).add hfr) (Res.dj_add_right.2 ⟨d3, dj1⟩) (by rw [← Res.add_assoc]; exact t) sa).mono ?_⟩
 intro e w' ans
 obtain ⟨v, rfl, h⟩ := after_call hd k s.1 sd sr d12 dj2 ans
 exact h
end
end
end Go.Proofs.YtdnoacgopfcpbaaGreat
