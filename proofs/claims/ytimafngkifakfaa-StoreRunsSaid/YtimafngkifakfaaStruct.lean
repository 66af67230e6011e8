/- Opening and shutting assertions; the library's first contracts. -/
import Derived.Test.YtimafngkifakfaaRows0
import Derived.Test.YtimafngkifakfaaBridge
set_option linter.unusedVariables false
set_option linter.unusedSimpArgs false
namespace Go.Proofs.Ytimafngkifakfaa
open Go.RowKit (Below)

instance (priority := 900) {b : Nat} {l : List Value} {B C : List HP} [h : RdCe b l B] : RdCe b l (B ++ C) := ⟨by
  obtain ⟨A, s, p⟩ := h.get
  refine ⟨A, s, ?_⟩
  clear h s
  induction p with
  | here => exact .here
  | there _ ih => exact .there ih⟩
instance (priority := 800) {b : Nat} {l : List Value} {B C : List HP} [h : RdCe b l C] : RdCe b l (B ++ C) := ⟨by
  obtain ⟨A, s, p⟩ := h.get
  refine ⟨A, s, ?_⟩
  clear h s
  induction B with
  | nil => exact p
  | cons _ _ ih => exact .there ih⟩
instance (priority := 900) {b : Nat} {T : TypeId} {l l' : List Value} {B B' C : List HP} [h : UpCe b T l l' B B'] : UpCe b T l l' (B ++ C) (B' ++ C) := ⟨by
  have u := h.get
  clear h
  induction u with
  | here => exact .here
  | there _ ih => exact .there ih⟩
instance (priority := 800) {b : Nat} {T : TypeId} {l l' : List Value} {B C C' : List HP} [h : UpCe b T l l' C C'] : UpCe b T l l' (B ++ C) (B ++ C') := ⟨by
  have u := h.get
  clear h
  induction B with
  | nil => exact u
  | cons _ _ ih => exact .there ih⟩
instance (priority := 900) {b off : Nat} {v : Value} {T : TypeId} {l : List Value} {B B' C : List HP} [h : StC b off v T l B B'] : StC b off v T l (B ++ C) (B' ++ C) := ⟨by
  have u := h.get
  clear h
  induction u with
  | here => exact .here
  | there _ ih => exact .there ih⟩
instance (priority := 800) {b off : Nat} {v : Value} {T : TypeId} {l : List Value} {B C C' : List HP} [h : StC b off v T l C C'] : StC b off v T l (B ++ C) (B ++ C') := ⟨by
  have u := h.get
  clear h
  induction B with
  | nil => exact u
  | cons _ _ ih => exact .there ih⟩
instance (priority := 900) {b off : Nat} {vs : List Value} {T : TypeId} {l : List Value} {B B' C : List HP} [h : StsC b off vs T l B B'] : StsC b off vs T l (B ++ C) (B' ++ C) := ⟨by
  have u := h.get
  clear h
  induction u with
  | here => exact .here
  | there _ ih => exact .there ih⟩
instance (priority := 800) {b off : Nat} {vs : List Value} {T : TypeId} {l : List Value} {B C C' : List HP} [h : StsC b off vs T l C C'] : StsC b off vs T l (B ++ C) (B ++ C') := ⟨by
  have u := h.get
  clear h
  induction B with
  | nil => exact u
  | cons _ _ ih => exact .there ih⟩
instance (priority := 900) {A : HP} {B B' C : List HP} [h : PickC A B B'] : PickC A (B ++ C) (B' ++ C) := ⟨by
  have u := h.get
  clear h
  induction u with
  | here => exact .here
  | keep p => exact .keep p
  | there _ ih => exact .there ih⟩
instance (priority := 800) {A : HP} {B C C' : List HP} [h : PickC A C C'] : PickC A (B ++ C) (B ++ C') := ⟨by
  have u := h.get
  clear h
  induction B with
  | nil => exact u
  | cons _ _ ih => exact .there ih⟩
instance (priority := 900) {A : HP} {B C : List HP} [h : HasC A B] : HasC A (B ++ C) := ⟨by
  have u := h.get
  clear h
  induction u with
  | here => exact .here
  | there _ ih => exact .there ih⟩
instance (priority := 800) {A : HP} {B C : List HP} [h : HasC A C] : HasC A (B ++ C) := ⟨by
  have u := h.get
  clear h
  induction B with
  | nil => exact u
  | cons _ _ ih => exact .there ih⟩

theorem sl_ex {X : Type} {f : X → HP} {Hs : List HP} {M : Kn} {h : Res} (s : SL (Ex f :: Hs) M h) : ∃ x, SL (f x :: Hs) M h := by
  obtain ⟨h1, h2, d, e, ⟨x, a⟩, t⟩ := s
  exact ⟨x, h1, h2, d, e, a, t⟩
theorem sl_al {As Hs : List HP} {M : Kn} {h : Res} (s : SL (Al As :: Hs) M h) : SL (As ++ Hs) M h := by
  obtain ⟨h1, h2, d, e, a, t⟩ := s
  subst e
  exact SL.append d a t
theorem sl_pu {p : Prop} {Hs : List HP} {M : Kn} {h : Res} (s : SL (Pu p :: Hs) M h) : p ∧ SL Hs M h := by
  obtain ⟨h1, h2, d, e, a, t⟩ := s
  subst e
  exact ⟨a, SL.more d t⟩

/-! Shutting. -/
theorem ent_front {As Hs Rs : List HP} [h : PicksC As Hs Rs] : Ent Hs (As ++ Rs) := h.get.ent
theorem ent_ex {X : Type} {f : X → HP} {Hs Rs : List HP} (x : X) (e : Ent Hs (f x :: Rs)) : Ent Hs (Ex f :: Rs) := ⟨fun s => by
  obtain ⟨h1, h2, d, e', a, t⟩ := e s
  exact ⟨h1, h2, d, e', ⟨x, a⟩, t⟩⟩
theorem ent_al {As Hs Rs Gs : List HP} [q : AppC As Rs Gs] (e : Ent Hs Gs) : Ent Hs (Al As :: Rs) := ⟨fun s => by
  have s2 := e s
  rw [← q.get] at s2
  obtain ⟨h1, h2, d, e', a, t⟩ := SL.split s2
  exact ⟨h1, h2, d, e', a, t⟩⟩
theorem ent_pu {p : Prop} {Hs Rs : List HP} (hp : p) (e : Ent Hs Rs) : Ent Hs (Pu p :: Rs) := ⟨fun {M h} s => ⟨Res.emp, h, Res.emp_dj _, rfl, hp, e s⟩⟩
/-- First what is picked; the rest out of what is left. -/
theorem ent_cons {A : HP} {Hs Rs Gs : List HP} [h : PickC A Hs Rs] (e : Ent Rs Gs) : Ent Hs (A :: Gs) := ⟨fun s => by
  obtain ⟨h1, h2, d, e', a, t⟩ := h.get.sat s
  exact ⟨h1, h2, d, e', a, e t⟩⟩
theorem ent_step {A : HP} {Hs Rs Gs : List HP} (e : Ent Hs (A :: Rs)) (k : Ent Rs Gs) : Ent Hs (A :: Gs) := ⟨fun s => by
  obtain ⟨h1, h2, d, e', a, t⟩ := e s
  exact ⟨h1, h2, d, e', a, k t⟩⟩
/-- What is there, in another shape. -/
theorem ent_left {X : Type} {f : X → HP} {Hs Gs : List HP} (e : ∀ x, Ent (f x :: Hs) Gs) : Ent (Ex f :: Hs) Gs := ⟨fun s => by
  obtain ⟨x, s⟩ := sl_ex s
  exact e x s⟩
theorem ent_leftAl {As Hs Rs Gs : List HP} [q : AppC As Hs Rs] (e : Ent Rs Gs) : Ent (Al As :: Hs) Gs := ⟨fun s => e (by rw [← q.get]; exact sl_al s)⟩
theorem ent_leftPu {p : Prop} {Hs Gs : List HP} (e : p → Ent Hs Gs) : Ent (Pu p :: Hs) Gs := ⟨fun s => let ⟨a, t⟩ := sl_pu s; e a t⟩

section
variable {r : Option Nat} {P : Program} {n : Nat} {ops : Array Oper} {os : List Oper} {L : Loc} {Hs : List HP} {Q : Out} {c : Code}

theorem wc_exi {X : Type} {f : X → HP} (k : ∀ x, wc r P n c L (f x :: Hs) Q) : wc r P n c L (Ex f :: Hs) Q := wc_ex sl_ex k
theorem wo_exi {X : Type} {f : X → HP} (k : ∀ x, wo r P n ops os L (f x :: Hs) Q) : wo r P n ops os L (Ex f :: Hs) Q := wo_ex sl_ex k
theorem wc_al {As Rs : List HP} [q : AppC As Hs Rs] (k : wc r P n c L Rs Q) : wc r P n c L (Al As :: Hs) Q := wc_ent' ⟨fun s => by rw [← q.get]; exact sl_al s⟩ k
theorem wo_al {As Rs : List HP} [q : AppC As Hs Rs] (k : wo r P n ops os L Rs Q) : wo r P n ops os L (Al As :: Hs) Q := wo_ent' ⟨fun s => by rw [← q.get]; exact sl_al s⟩ k
theorem wc_pu {p : Prop} (k : p → wc r P n c L Hs Q) : wc r P n c L (Pu p :: Hs) Q := by
  intro a M m s
  obtain ⟨g1, g2, dg, e, y, s2⟩ := s.2
  obtain ⟨hp, s3⟩ := sl_pu s2
  exact k hp a M m ⟨s.1, g1, g2, dg, e, y, s3⟩
theorem wo_pu {p : Prop} (k : p → wo r P n ops os L Hs Q) : wo r P n ops os L (Pu p :: Hs) Q := by
  intro a M m s
  obtain ⟨g1, g2, dg, e, y, s2⟩ := s.2
  obtain ⟨hp, s3⟩ := sl_pu s2
  exact k hp a M m ⟨s.1, g1, g2, dg, e, y, s3⟩
theorem wc_front (A : HP) {Rs : List HP} [h : PickC A Hs Rs] (k : wc r P n c L (A :: Rs) Q) : wc r P n c L Hs Q := wc_ent' (Picks.ent (.cons h.get .nil)) k
theorem wo_front (A : HP) {Rs : List HP} [h : PickC A Hs Rs] (k : wo r P n ops os L (A :: Rs) Q) : wo r P n ops os L Hs Q := wo_ent' (Picks.ent (.cons h.get .nil)) k

/-- A block is given up for good: all may read it from now on. -/
theorem freeze_sat {b : Nat} {o : Obj} {w : World} {M : Kn} {h : Res} (d : (Res.one b o).dj h) (t : Sat w M ((Res.one b o).add h)) : ∃ M' : Kn, M.le M' ∧ M'.im b = some o ∧ Sat w M' h := by
  have hM : M.im b = none := by
    rcases t.dj b with e | e
    · exact e
    · simp [Res.add, Res.one] at e
  have hh : h b = none := by
    rcases d b with e | e
    · simp [Res.one] at e
    · exact e
  refine ⟨⟨fun i => if i = b then some o else M.im i, M.g⟩, ⟨fun i u e => ?_, rfl⟩, by simp, ⟨fun i u e => ?_, fun i u e => ?_, fun i => ?_, t.env⟩⟩
  · have : i ≠ b := fun x => by subst x; rw [hM] at e; cases e
    simp [this, e]
  · by_cases hi : i = b
    · subst hi; simp at e; subst e; exact t.ow _ _ (by simp [Res.add, Res.one])
    · simp only [hi, if_false] at e; exact t.im i u e
  · exact t.ow i u (Res.le_add_right d i u e)
  · by_cases hi : i = b
    · subst hi; exact .inr hh
    · rcases t.dj i with e | e
      · exact .inl (by simp [hi, e])
      · exact .inr (by simpa [Res.add, Res.one, hi] using e)
theorem wo_freeze {b : Nat} {o : Obj} {Rs : List HP} (hp : Pick (Blk b o) Hs Rs) (k : wo r P n ops os L (Im b o :: Rs) Q) : wo r P n ops os L Hs Q := by
  intro a M m s w hf dj t
  obtain ⟨g1, g2, dg, e, y, s2⟩ := s.2
  subst e
  obtain ⟨h1, h2, d12, e, hb, sr⟩ := hp.sat s2
  subst e
  have hb' : h1 = Res.one b o := hb
  subst hb'
  obtain ⟨d1, d2⟩ := Res.dj_add_right.1 dg
  obtain ⟨f1, f2⟩ := Res.dj_add_left.1 dj
  obtain ⟨f3, f4⟩ := Res.dj_add_left.1 f2
  have eq : (g1.add ((Res.one b o).add h2)).add hf = (Res.one b o).add ((g1.add h2).add hf) := by
    rw [← Res.add_assoc g1, Res.add_comm d1]
    simp only [Res.add_assoc]
  rw [eq] at t
  obtain ⟨M', le, hi, t'⟩ := freeze_sat (Res.dj_add_right.2 ⟨Res.dj_add_right.2 ⟨Res.dj_comm d1, d12⟩, f3⟩) t
  refine wo_on k (a := a) (M := M') (h := g1.add h2) ⟨s.1, g1, h2, d2, rfl, (Al _).mono le y, ?_⟩ le (Res.dj_add_left.2 ⟨f1, f4⟩) t'
  exact ⟨Res.emp, h2, Res.emp_dj _, rfl, hi, SL.mono le sr⟩
theorem wc_freeze {b : Nat} {o : Obj} {Rs : List HP} (hp : Pick (Blk b o) Hs Rs) (k : wc r P n c L (Im b o :: Rs) Q) : wc r P n c L Hs Q := by
  intro a M m s w hf dj t
  obtain ⟨g1, g2, dg, e, y, s2⟩ := s.2
  subst e
  obtain ⟨h1, h2, d12, e, hb, sr⟩ := hp.sat s2
  subst e
  have hb' : h1 = Res.one b o := hb
  subst hb'
  obtain ⟨d1, d2⟩ := Res.dj_add_right.1 dg
  obtain ⟨f1, f2⟩ := Res.dj_add_left.1 dj
  obtain ⟨f3, f4⟩ := Res.dj_add_left.1 f2
  have eq : (g1.add ((Res.one b o).add h2)).add hf = (Res.one b o).add ((g1.add h2).add hf) := by
    rw [← Res.add_assoc g1, Res.add_comm d1]
    simp only [Res.add_assoc]
  rw [eq] at t
  obtain ⟨M', le, hi, t'⟩ := freeze_sat (Res.dj_add_right.2 ⟨Res.dj_add_right.2 ⟨Res.dj_comm d1, d12⟩, f3⟩) t
  exact wout_of (k a M' (g1.add h2) ⟨s.1, g1, h2, d2, rfl, (Al _).mono le y, Res.emp, h2, Res.emp_dj _, rfl, hi, SL.mono le sr⟩) le (Res.dj_add_left.2 ⟨f1, f4⟩) t'
end
end Go.Proofs.Ytimafngkifakfaa
