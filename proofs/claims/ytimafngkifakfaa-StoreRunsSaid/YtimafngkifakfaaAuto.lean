/- Search among the assertions by instances; rules as the printed walks use them. -/
import Derived.Test.YtimafngkifakfaaHeap
set_option linter.unusedVariables false
set_option linter.unusedSimpArgs false
namespace Go.Proofs.Ytimafngkifakfaa

/-- Cells of a block that can be read. -/
class RdCe (b : Nat) (l : outParam (List Value)) (Hs : List HP) : Prop where
  get : ∃ A, Shows A b l ∧ Has A Hs
instance (priority := 1000) {b : Nat} {T : TypeId} {l : List Value} {r : List HP} : RdCe b l (Ce b T l :: r) := ⟨⟨_, shows_ce, .here⟩⟩
instance (priority := 1000) {b : Nat} {T : TypeId} {l : List Value} {r : List HP} : RdCe b l (ICe b T l :: r) := ⟨⟨_, shows_ice, .here⟩⟩
instance (priority := 1000) {b : Nat} {T : TypeId} {l : List Value} {fz : Nat × Nat} {r : List HP} : RdCe b l (Im b (.cells l.toArray T fz) :: r) := ⟨⟨_, shows_im, .here⟩⟩
instance (priority := 1000) {b : Nat} {T : TypeId} {l : List Value} {fz : Nat × Nat} {r : List HP} : RdCe b l (Blk b (.cells l.toArray T fz) :: r) := ⟨⟨_, shows_blk, .here⟩⟩
instance (priority := 100) {b : Nat} {l : List Value} {B : HP} {r : List HP} [h : RdCe b l r] : RdCe b l (B :: r) := ⟨let ⟨A, s, p⟩ := h.get; ⟨A, s, .there p⟩⟩

class UpCe (b : Nat) (T : outParam TypeId) (l : outParam (List Value)) (l' : List Value) (Hs : List HP) (Gs : outParam (List HP)) : Prop where
  get : Upd (Ce b T l) (Ce b T l') Hs Gs
instance (priority := 1000) {b : Nat} {T : TypeId} {l l' : List Value} {r : List HP} : UpCe b T l l' (Ce b T l :: r) (Ce b T l' :: r) := ⟨.here⟩
instance (priority := 100) {b : Nat} {T : TypeId} {l l' : List Value} {B : HP} {r s : List HP} [h : UpCe b T l l' r s] : UpCe b T l l' (B :: r) (B :: s) := ⟨.there h.get⟩

/-- A list with one place, with some places set. -/
class SetC (l : List Value) (off : Nat) (v : Value) (l' : outParam (List Value)) : Prop where
  get : l.set off v = l'
instance (priority := 1000) {x v : Value} {l : List Value} : SetC (x :: l) 0 v (v :: l) := ⟨rfl⟩
instance (priority := 1000) {x v : Value} {l l' : List Value} {k : Nat} [h : SetC l k v l'] : SetC (x :: l) (k + 1) v (x :: l') := ⟨by rw [List.set_cons_succ, h.get]⟩
instance (priority := 10) {v : Value} {l : List Value} {k : Nat} : SetC l k v (l.set k v) := ⟨rfl⟩
class SetsC (l : List Value) (off : Nat) (vs : List Value) (l' : outParam (List Value)) : Prop where
  get : setAt l off vs = l'
instance (priority := 1000) {l : List Value} {off : Nat} : SetsC l off [] l := ⟨rfl⟩
instance (priority := 1000) {l l' l'' vs : List Value} {off : Nat} {v : Value} [h : SetC l off v l'] [k : SetsC l' (off + 1) vs l''] : SetsC l off (v :: vs) l'' := ⟨by rw [setAt, h.get, k.get]⟩
instance (priority := 10) {l vs : List Value} {off : Nat} : SetsC l off vs (setAt l off vs) := ⟨rfl⟩
/-- A block among the assertions, one place of it, some places of it set. -/
class StC (b off : Nat) (v : Value) (T : outParam TypeId) (l : outParam (List Value)) (Hs : List HP) (Gs : outParam (List HP)) : Prop where
  get : Upd (Ce b T l) (Ce b T (l.set off v)) Hs Gs
instance (priority := 1000) {b off : Nat} {v : Value} {T : TypeId} {l l' : List Value} {r : List HP} [h : SetC l off v l'] : StC b off v T l (Ce b T l :: r) (Ce b T l' :: r) := ⟨by rw [h.get]; exact .here⟩
instance (priority := 100) {b off : Nat} {v : Value} {T : TypeId} {l : List Value} {B : HP} {r s : List HP} [h : StC b off v T l r s] : StC b off v T l (B :: r) (B :: s) := ⟨.there h.get⟩
class StsC (b off : Nat) (vs : List Value) (T : outParam TypeId) (l : outParam (List Value)) (Hs : List HP) (Gs : outParam (List HP)) : Prop where
  get : Upd (Ce b T l) (Ce b T (setAt l off vs)) Hs Gs
instance (priority := 1000) {b off : Nat} {vs : List Value} {T : TypeId} {l l' : List Value} {r : List HP} [h : SetsC l off vs l'] : StsC b off vs T l (Ce b T l :: r) (Ce b T l' :: r) := ⟨by rw [h.get]; exact .here⟩
instance (priority := 100) {b off : Nat} {vs : List Value} {T : TypeId} {l : List Value} {B : HP} {r s : List HP} [h : StsC b off vs T l r s] : StsC b off vs T l (B :: r) (B :: s) := ⟨.there h.get⟩

class PersC (A : HP) : Prop where
  get : Pers A
instance {b : Nat} {o : Obj} : PersC (Im b o) := ⟨Im.pers b o⟩
instance {b : Nat} {T : TypeId} {l : List Value} : PersC (ICe b T l) := ⟨Im.pers _ _⟩
instance {p : Prop} : PersC (Pu p) := ⟨Pu.pers p⟩
theorem Ex.pers {X : Type} {f : X → HP} (h : ∀ x, Pers (f x)) : Pers (Ex f) := fun ⟨x, e⟩ => ⟨x, h x e⟩
theorem Al.pers : ∀ {Hs : List HP}, (∀ A ∈ Hs, Pers A) → Pers (Al Hs) := by
  intro Hs
  induction Hs with
  | nil => intro _ M h _; trivial
  | cons A r ih =>
    rintro hp M h ⟨h1, h2, d, e, a, t⟩
    exact ⟨Res.emp, Res.emp, Res.emp_dj _, rfl, hp A (by simp) a, ih (fun B hB => hp B (by simp [hB])) t⟩

class PickC (A : HP) (Hs : List HP) (Rs : outParam (List HP)) : Prop where
  get : Pick A Hs Rs
instance (priority := 1001) {A : HP} {r : List HP} [h : PersC A] : PickC A (A :: r) (A :: r) := ⟨.keep h.get⟩
instance (priority := 1000) {A : HP} {r : List HP} : PickC A (A :: r) r := ⟨.here⟩
instance (priority := 100) {A B : HP} {r s : List HP} [h : PickC A r s] : PickC A (B :: r) (B :: s) := ⟨.there h.get⟩
class PicksC (As Hs : List HP) (Rs : outParam (List HP)) : Prop where
  get : Picks As Hs Rs
instance {Hs : List HP} : PicksC [] Hs Hs := ⟨.nil⟩
instance {A : HP} {As Hs R1 Rs : List HP} [h : PickC A Hs R1] [k : PicksC As R1 Rs] : PicksC (A :: As) Hs Rs := ⟨.cons h.get k.get⟩
theorem picks_append {As Bs Hs R1 Rs : List HP} (h : Picks As Hs R1) (k : Picks Bs R1 Rs) : Picks (As ++ Bs) Hs Rs := by
  induction h with
  | nil => exact k
  | cons p _ ih => exact .cons p (ih k)
instance {As Bs Hs R1 Rs : List HP} [h : PicksC As Hs R1] [k : PicksC Bs R1 Rs] : PicksC (As ++ Bs) Hs Rs := ⟨picks_append h.get k.get⟩

/-- Two lists as one. -/
class AppC (As Hs : List HP) (Rs : outParam (List HP)) : Prop where
  get : As ++ Hs = Rs
instance (priority := 1000) {Hs : List HP} : AppC [] Hs Hs := ⟨rfl⟩
instance (priority := 1000) {A : HP} {As Hs Rs : List HP} [h : AppC As Hs Rs] : AppC (A :: As) Hs (A :: Rs) := ⟨by rw [List.cons_append, h.get]⟩
instance (priority := 10) {As Hs : List HP} : AppC As Hs (As ++ Hs) := ⟨rfl⟩
class HasC (A : HP) (Hs : List HP) : Prop where
  get : Has A Hs
instance (priority := 1000) {A : HP} {r : List HP} : HasC A (A :: r) := ⟨.here⟩
instance (priority := 100) {A B : HP} {r : List HP} [h : HasC A r] : HasC A (B :: r) := ⟨.there h.get⟩

section
variable {r : Option Nat} {P : Program} {n : Nat} {ops : Array Oper} {os : List Oper} {L : Loc} {Hs : List HP} {Q : Out} {ty : TypeId} {d : Nat} {pos : String} {after : Array Edge}

theorem r_load {t : TypeId} {td : TypeDesc} {x : Operand} {b off : Nat} {l : List Value} {v : Value} (ht : P.underlying t = some td) (hfl : flat td = true)
    (hx : ev L x = some (.pointer (some ⟨b, off, none⟩))) [hr : RdCe b l Hs] (hv : l[off]? = some v) (hd : Nat.blt d n = true)
    (k : wo r P n ops os ((d, v) :: L) Hs Q) : wo r P n ops (⟨some d, .load t x, ty, pos, after, none⟩ :: os) L Hs Q := by
  obtain ⟨A, sh, hA⟩ := hr.get
  exact wo_load ht hfl hx sh hA hv hd k
theorem r_loada {t : TypeId} {td : TypeDesc} {x : Operand} {b off : Nat} {l vs : List Value} {ti : TypeInfo} (ht : P.underlying t = some td) (hfl : flat td = false) (hi : P.info? t = some ti)
    (hx : ev L x = some (.pointer (some ⟨b, off, none⟩))) [hr : RdCe b l Hs] (hl : off + ti.size ≤ l.length) (hv : (l.drop off).take ti.size = vs) (hd : Nat.blt d n = true)
    (k : wo r P n ops os ((d, .agg vs.toArray) :: L) Hs Q) : wo r P n ops (⟨some d, .load t x, ty, pos, after, none⟩ :: os) L Hs Q := by
  obtain ⟨A, sh, hA⟩ := hr.get
  exact wo_loada ht hfl hi hx sh hA hl hv hd k
theorem r_store {t : TypeId} {ti : TypeInfo} {x y : Operand} {b off : Nat} {T : TypeId} {l : List Value} {v : Value} {Gs : List HP} (hi : P.info? t = some ti) (hs : Nat.beq ti.size 1 = true)
    (hx : ev L x = some (.pointer (some ⟨b, off, none⟩))) (hy : ev L y = some v) [hu : StC b off v T l Hs Gs] (h1 : oneCell v = true) (ho : off < l.length)
    (k : wo r P n ops os L Gs Q) : wo r P n ops (⟨none, .store t x y, ty, pos, after, none⟩ :: os) L Hs Q := wo_store hi hs hx hy h1 ho hu.get k
theorem r_storea {t : TypeId} {ti : TypeInfo} {x y : Operand} {b off : Nat} {T : TypeId} {l vs : List Value} {Gs : List HP} (hi : P.info? t = some ti) (hs : Nat.beq ti.size vs.length = true)
    (hx : ev L x = some (.pointer (some ⟨b, off, none⟩))) (hy : ev L y = some (.agg vs.toArray)) [hu : StsC b off vs T l Hs Gs] (h1 : vs.all oneCell = true) (ho : off + vs.length ≤ l.length)
    (k : wo r P n ops os L Gs Q) : wo r P n ops (⟨none, .store t x y, ty, pos, after, none⟩ :: os) L Hs Q := wo_storea hi hs hx hy h1 ho hu.get k
theorem r_call {f : Operand} {args : Array Operand} {argTypes : Array TypeId} {g : Nat} {vs cap : List Value}
    {As Rs : List HP} {X : Type} {val : X → Value} {φ : X → Prop} {Bs : X → List HP}
    (sp : Sp P g (vs ++ cap) As val φ Bs) (hf : ev L f = some (.func (.func g) #[] cap.toArray)) (ha : evs L args.toList = some vs) (hd : Nat.blt d n = true) [hp : PicksC As Hs Rs]
    (k : ∀ x, φ x → wo r P n ops os ((d, val x) :: L) (Bs x ++ Rs) Q) :
    wo r P n ops (⟨some d, .call ⟨.value f, args, argTypes⟩, ty, pos, after, none⟩ :: os) L Hs Q := wo_call sp hf ha hd hp.get k

/-- A function that only computes. -/
abbrev SpF (P : Program) (f : FuncId) (args : List Value) (v : Value) : Prop := Sp P f args [] (X := Unit) (fun _ => v) (fun _ => True) (fun _ => [])
theorem r_callF {f : Operand} {args : Array Operand} {argTypes : Array TypeId} {g : Nat} {vs : List Value} {v : Value}
    (sp : SpF P g vs v) (hf : ev L f = some (.func (.func g) #[] #[])) (ha : evs L args.toList = some vs) (hd : Nat.blt d n = true)
    (k : wo r P n ops os ((d, v) :: L) Hs Q) :
    wo r P n ops (⟨some d, .call ⟨.value f, args, argTypes⟩, ty, pos, after, none⟩ :: os) L Hs Q :=
  wo_call (cap := []) (by rw [List.append_nil]; exact sp) hf ha hd .nil (fun _ _ => k)
/-- One that has a result for each state, and gives back what it was given. -/
abbrev Sp1 (P : Program) (f : FuncId) (args : List Value) (As : List HP) (v : Value) (Bs : List HP) : Prop := Sp P f args As (X := Unit) (fun _ => v) (fun _ => True) (fun _ => Bs)
theorem r_call1 {f : Operand} {args : Array Operand} {argTypes : Array TypeId} {g : Nat} {vs : List Value} {v : Value} {As Bs Rs : List HP}
    (sp : Sp1 P g vs As v Bs) (hf : ev L f = some (.func (.func g) #[] #[])) (ha : evs L args.toList = some vs) (hd : Nat.blt d n = true) [hp : PicksC As Hs Rs]
    (k : wo r P n ops os ((d, v) :: L) (Bs ++ Rs) Q) :
    wo r P n ops (⟨some d, .call ⟨.value f, args, argTypes⟩, ty, pos, after, none⟩ :: os) L Hs Q :=
  wo_call (cap := []) (by rw [List.append_nil]; exact sp) hf ha hd hp.get (fun _ _ => k)

theorem wc_ite {c : Operand} {x y : Code} {p : Prop} [Decidable p] (hc : ev L c = some (.bool (decide p))) (ht : p → wc r P n x L Hs Q) (hf : ¬ p → wc r P n y L Hs Q) :
    wc r P n (.cond c x y) L Hs Q := wc_cond hc (fun h => ht (of_decide_eq_true h)) (fun h => hf (of_decide_eq_false h))
/-- A guard's yes or no is told apart; both the guard's slot and what is read of it are then known. -/
theorem wo_gsplit {j : Nat} {s : Nat} {b : Bool} (hj : (ops[j]?).bind (·.dst) = some s) (hs : lk L s = some (.bool b))
    (ht : b = true → wo r P n ops os ((s, .bool true) :: L) Hs Q) (hf : b = false → wo r P n ops os ((s, .bool false) :: L) Hs Q) : wo r P n ops os L Hs Q := by
  have key : ∀ u : Bool, b = u → wo r P n ops os ((s, .bool u) :: L) Hs Q → wo r P n ops os L Hs Q := by
    intro u e k a M h st
    refine k a M h ⟨⟨st.1.1, fun i v hv => ?_⟩, st.2⟩
    simp only [lk] at hv
    by_cases hi : s = i
    · subst hi
      simp at hv; subst hv; subst e
      exact st.1.2 _ _ hs
    · rw [nbeq hi, cond_false] at hv
      exact st.1.2 i v hv
  cases e : b with
  | true => exact key true e (ht e)
  | false => exact key false e (hf e)
theorem wo_gite {j : Nat} {s : Nat} {p : Prop} [Decidable p] (hj : (ops[j]?).bind (·.dst) = some s) (hs : lk L s = some (.bool (decide p)))
    (ht : p → wo r P n ops os ((s, .bool true) :: L) Hs Q) (hf : ¬ p → wo r P n ops os ((s, .bool false) :: L) Hs Q) : wo r P n ops os L Hs Q :=
  wo_gsplit hj hs (fun h => ht (of_decide_eq_true h)) (fun h => hf (of_decide_eq_false h))

/-! Ends. -/
def pack : List Value → Value
  | [v] => v
  | vs => .tuple vs.toArray
/-- What one result reads as: a slot; a cell of its own. -/
inductive RVs (P : Program) (L : Loc) : List ResultVar → List HP → List Value → Prop
  | nil : RVs P L [] [] []
  | tmp {t : Nat} {v : Value} {rs : List ResultVar} {Cs : List HP} {vs : List Value} (h : lk L t = some v) (k : RVs P L rs Cs vs) : RVs P L (.tmp t :: rs) Cs (v :: vs)
  | cell {t T : Nat} {b : Nat} {A : HP} {l us : List Value} {td : TypeDesc} {ti : TypeInfo} {rs : List ResultVar} {Cs : List HP} {vs : List Value} (h : lk L t = some (.pointer (some ⟨b, 0, none⟩))) (sh : Shows A b l)
      (ht : P.underlying T = some td) (hfl : flat td = false) (hi : P.info? T = some ti) (hl : ti.size ≤ l.length) (hv : l.take ti.size = us)
      (k : RVs P L rs Cs vs) : RVs P L (.cell t T :: rs) (A :: Cs) (.agg us.toArray :: vs)
  | cell1 {t T : Nat} {b : Nat} {A : HP} {l : List Value} {v : Value} {td : TypeDesc} {rs : List ResultVar} {Cs : List HP} {vs : List Value} (h : lk L t = some (.pointer (some ⟨b, 0, none⟩))) (sh : Shows A b l)
      (ht : P.underlying T = some td) (hfl : flat td = true) (hv : l[0]? = some v)
      (k : RVs P L rs Cs vs) : RVs P L (.cell t T :: rs) (A :: Cs) (v :: vs)

def rvOne (a : Act) : ResultVar → Sem Value
  | .tmp t => pure (a.tmps.getD t undef)
  | .cell c t => do loadVar t (← asAddr (a.tmps.getD c undef))
theorem RVs.run {rs : List ResultVar} {Cs : List HP} {vs : List Value} (q : RVs P L rs Cs vs) : ∀ {a : Act} (f : Fr n L a) (w : World) (M : Kn) (h hf h1 : Res), Sat w M (h.add hf) → h1.le h → SL Cs M h1 →
    (rs.mapM (rvOne a)).run P w = Result.ok vs w := by
  induction q with
  | nil => intros; rfl
  | @tmp t v rs Cs vs h k ih =>
    intro a f w M m hf h1 t' le s
    have e : a.tmps.getD t undef = v := f.eval h
    simp only [List.mapM_cons, rvOne, Sem.run_bind, Sem.run_pure, Result.andThen_ok, e, ih f w M m hf h1 t' le s]
  | @cell t T b A l us td ti rs Cs vs h sh ht hfl hi hl hv k ih =>
    intro a f w M m hf h1 t' le s
    have e : a.tmps.getD t undef = .pointer (some ⟨b, 0, none⟩) := f.eval h
    obtain ⟨k1, k2, dj, e2, x, s2⟩ := s
    subst e2
    have hc := run_loadCells_at (P := P) (b := b) (off := 0) (sz := ti.size) (l := l) (w := w) (fun j => shows_cell sh t' (Res.le_trans (Res.le_add_left _ _) le) x (0 + j)) (by omega)
    simp only [List.drop_zero, hv] at hc
    have := ih f w M m hf k2 t' (Res.le_trans (Res.le_add_right dj) le) s2
    simp only [List.mapM_cons, rvOne, Sem.run_bind, Sem.run_pure, Result.andThen_ok, e, asAddr, loadVar, isAgg_agg ht hfl, if_true, sizeOf, typeInfo, program, Sem.run, hi, hc, this]
  | @cell1 t T b A l v td rs Cs vs h sh ht hfl hv k ih =>
    intro a f w M m hf h1 t' le s
    have e : a.tmps.getD t undef = .pointer (some ⟨b, 0, none⟩) := f.eval h
    obtain ⟨k1, k2, dj, e2, x, s2⟩ := s
    subst e2
    have hc := shows_cell sh t' (Res.le_trans (Res.le_add_left _ _) le) x 0
    rw [hv] at hc
    have := ih f w M m hf k2 t' (Res.le_trans (Res.le_add_right dj) le) s2
    simp [List.mapM_cons, rvOne, e, asAddr, loadVar, isAgg_flat ht hfl, run_load, hc, this]

theorem RVs.rv {fn : Func} {rs : List ResultVar} {Cs : List HP} {vs : List Value} (hr : fn.results = rs.toArray) (q : RVs P L rs Cs vs) {a : Act} (f : Fr n L a) : RV P fn a.tmps Cs (pack vs) := by
  intro w M h hf dj t s
  have e := q.run f w M h hf h t (Res.le_refl _) s
  have e2 : results fn a.tmps = (do let vs ← (rs.toArray).mapM (rvOne a); pure (if h : vs.size = 1 then vs[0] else .tuple vs)) := by
    unfold results
    rw [hr]
    congr 1
    (try congr 1)
    (try (funext x; cases x <;> rfl))
  rw [e2, List.mapM_toArray]
  simp only [Sem.run_bind, Sem.run_map, e, Result.andThen_ok, Sem.run_pure]
  match vs with
  | [] => rfl
  | [v] => rfl
  | v :: u :: r => simp [pack]

theorem fin_ret {fn : Func} {X : Type} {val : X → Value} {φ : X → Prop} {Bs : X → List HP} (x : X) {rs : List ResultVar} {vs : List Value} {Cs : List HP}
    (hr : fn.results = rs.toArray) (q : RVs P L rs Cs vs) (hv : pack vs = val x) (hx : φ x) {Gs : List HP} [ac : AppC (Bs x) Cs Gs] (e : Ent Hs Gs) : tw n (finO P fn val φ Bs) .ret L Hs := by
  intro a M h s
  obtain ⟨g1, g2, dg, e1, y, s2⟩ := s.2
  refine ⟨.inr rfl, x, Cs, hx, ⟨g1, g2, dg, e1, y, by rw [ac.get]; exact e s2⟩, ?_⟩
  rw [← hv]; exact q.rv hr s.1
theorem fin_end {fn : Func} {X : Type} {val : X → Value} {φ : X → Prop} {Bs : X → List HP} (x : X) {rs : List ResultVar} {vs : List Value} {Cs : List HP}
    (hr : fn.results = rs.toArray) (q : RVs P L rs Cs vs) (hv : pack vs = val x) (hx : φ x) {Gs : List HP} [ac : AppC (Bs x) Cs Gs] (e : Ent Hs Gs) : tw n (finO P fn val φ Bs) .normal L Hs := by
  intro a M h s
  obtain ⟨g1, g2, dg, e1, y, s2⟩ := s.2
  refine ⟨.inl rfl, x, Cs, hx, ⟨g1, g2, dg, e1, y, by rw [ac.get]; exact e s2⟩, ?_⟩
  rw [← hv]; exact q.rv hr s.1
theorem ent_nil : Ent Hs [] := ⟨fun _ => trivial⟩
theorem ent_pick {As Rs : List HP} [h : PicksC As Hs Rs] : Ent Hs As := h.get.drop

/-! An assertion is opened; what follows of it is known. -/
theorem wo_know {A : HP} {p : Prop} (hA : Has A Hs) (hp : ∀ {M : Kn} {h : Res}, A.at_ M h → p) (k : p → wo r P n ops os L Hs Q) : wo r P n ops os L Hs Q := by
  intro a M m s w hf dj t
  obtain ⟨g1, g2, dg, e, _, s2⟩ := s.2
  obtain ⟨h1, _, x⟩ := hA.sat s2
  exact k (hp x) a M m s w hf dj t
theorem wc_know {c : Code} {A : HP} {p : Prop} (hA : Has A Hs) (hp : ∀ {M : Kn} {h : Res}, A.at_ M h → p) (k : p → wc r P n c L Hs Q) : wc r P n c L Hs Q := by
  intro a M m s
  obtain ⟨g1, g2, dg, e, _, s2⟩ := s.2
  obtain ⟨h1, _, x⟩ := hA.sat s2
  exact k (hp x) a M m s
theorem wc_ex {c : Code} {X : Type} {f : X → List HP} (e : ∀ {M : Kn} {h : Res}, SL Hs M h → ∃ x, SL (f x) M h) (k : ∀ x, wc r P n c L (f x) Q) : wc r P n c L Hs Q := by
  intro a M m s
  obtain ⟨g1, g2, dg, e1, y, s2⟩ := s.2
  obtain ⟨x, s3⟩ := e s2
  exact k x a M m ⟨s.1, g1, g2, dg, e1, y, s3⟩
theorem wo_ex {X : Type} {f : X → List HP} (e : ∀ {M : Kn} {h : Res}, SL Hs M h → ∃ x, SL (f x) M h) (k : ∀ x, wo r P n ops os L (f x) Q) : wo r P n ops os L Hs Q := by
  intro a M m s
  obtain ⟨g1, g2, dg, e1, y, s2⟩ := s.2
  obtain ⟨x, s3⟩ := e s2
  exact k x a M m ⟨s.1, g1, g2, dg, e1, y, s3⟩
theorem wo_ent' {Gs : List HP} (e : Ent Hs Gs) (k : wo r P n ops os L Gs Q) : wo r P n ops os L Hs Q := fun a M x s => k a M x ⟨s.1, by
  obtain ⟨g1, g2, dg, e1, y, s2⟩ := s.2
  exact ⟨g1, g2, dg, e1, y, e s2⟩⟩
theorem wc_ent' {c : Code} {Gs : List HP} (e : Ent Hs Gs) (k : wc r P n c L Gs Q) : wc r P n c L Hs Q := fun a M x s => k a M x ⟨s.1, by
  obtain ⟨g1, g2, dg, e1, y, s2⟩ := s.2
  exact ⟨g1, g2, dg, e1, y, e s2⟩⟩
theorem wc_keep {c : Code} (L' : Loc) (hc : Cov L L') (k : wc r P n c L' Hs Q) : wc r P n c L Hs Q := wc_ent hc (Ent.refl _) k
end
end Go.Proofs.Ytimafngkifakfaa
