/- Texts of this proof, put together: Auto, Walk1, Path, Build. -/
import Derived.Laws.Tables
import Derived.Test.YtdnoacgopfcpbaaGreatQ01
set_option linter.unusedVariables false
set_option linter.unusedSimpArgs false
namespace Go.Proofs.YtdnoacgopfcpbaaGreat
section
/-- Cells of a block that can be read. -/
class RdCe (b : Nat) (l : outParam (List Value)) (Hs : List HP) : Prop where
 get : ∃ A, Shows A b l ∧ Has A Hs
instance (priority := 1000) {b : Nat} {T : TypeId} {l : List Value} {r : List HP} : RdCe b l (Ce b T l :: r) := ⟨⟨_, shows_ce, .here⟩⟩
instance (priority := 1000) {b : Nat} {T : TypeId} {l : List Value} {r : List HP} : RdCe b l (ICe b T l :: r) := ⟨⟨_, shows_ice, .here⟩⟩
instance (priority := 1000) {b : Nat} {T : TypeId} {l : List Value} {fz : Nat × Nat} {r : List HP} : RdCe b l (Im b (.cells l.toArray T fz) :: r) := ⟨⟨_, shows_im, .here⟩⟩
instance (priority := 1000) {b : Nat} {T : TypeId} {l : List Value} {fz : Nat × Nat} {r : List HP} : RdCe b l (Blk b (.cells l.toArray T fz) :: r) := ⟨⟨_, shows_blk, .here⟩⟩
instance (priority := 100) {b : Nat} {l : List Value} {B : HP} {r : List HP} [h : RdCe b l r] : RdCe b l (B :: r) := ⟨let ⟨A, s, p⟩ := h.get; ⟨A, s, .there p⟩⟩
class UpCe (b : Nat) (T : outParam TypeId) (l : outParam (List Value)) (l' : List Value) (Hs : List HP) (Gs : outParam (List HP)) : Prop where
 get : Upd (Ce b T l) (Ce b T l') Hs Gs
instance (priority := 1000) {b : Nat} {T : TypeId} {l l' : List Value} {r : List HP} : UpCe b T l l' (Ce b T l :: r) (Ce b T l' :: r) := ⟨.here⟩
instance (priority := 100) {b : Nat} {T : TypeId} {l l' : List Value} {B : HP} {r s : List HP} [h : UpCe b T l l' r s] : UpCe b T l l' (B :: r) (B :: s) := ⟨.there h.get⟩
/-- A list with one place, with some places set. -/
class SetC (l : List Value) (off : Nat) (v : Value) (l' : outParam (List Value)) : Prop where
 get : l.set off v = l'
instance (priority := 1000) {x v : Value} {l : List Value} : SetC (x :: l) 0 v (v :: l) := ⟨rfl⟩
instance (priority := 1000) {x v : Value} {l l' : List Value} {k : Nat} [h : SetC l k v l'] : SetC (x :: l) (k + 1) v (x :: l') := ⟨by rw [List.set_cons_succ, h.get]⟩
instance (priority := 10) {v : Value} {l : List Value} {k : Nat} : SetC l k v (l.set k v) := ⟨rfl⟩
class SetsC (l : List Value) (off : Nat) (vs : List Value) (l' : outParam (List Value)) : Prop where
 get : setAt l off vs = l'
instance (priority := 1000) {l : List Value} {off : Nat} : SetsC l off [] l := ⟨rfl⟩
instance (priority := 1000) {l l' l'' vs : List Value} {off : Nat} {v : Value} [h : SetC l off v l'] [k : SetsC l' (off + 1) vs l''] : SetsC l off (v :: vs) l'' := ⟨by rw [setAt, h.get, k.get]⟩
instance (priority := 10) {l vs : List Value} {off : Nat} : SetsC l off vs (setAt l off vs) := ⟨rfl⟩
/-- A block among the assertions, one place of it, some places of it set. -/
class StC (b off : Nat) (v : Value) (T : outParam TypeId) (l : outParam (List Value)) (Hs : List HP) (Gs : outParam (List HP)) : Prop where
 get : Upd (Ce b T l) (Ce b T (l.set off v)) Hs Gs
instance (priority := 1000) {b off : Nat} {v : Value} {T : TypeId} {l l' : List Value} {r : List HP} [h : SetC l off v l'] : StC b off v T l (Ce b T l :: r) (Ce b T l' :: r) := ⟨by rw [h.get]; exact .here⟩
instance (priority := 100) {b off : Nat} {v : Value} {T : TypeId} {l : List Value} {B : HP} {r s : List HP} [h : StC b off v T l r s] : StC b off v T l (B :: r) (B :: s) := ⟨.there h.get⟩
class StsC (b off : Nat) (vs : List Value) (T : outParam TypeId) (l : outParam (List Value)) (Hs : List HP) (Gs : outParam (List HP)) : Prop where
 get : Upd (Ce b T l) (Ce b T (setAt l off vs)) Hs Gs
instance (priority := 1000) {b off : Nat} {vs : List Value} {T : TypeId} {l l' : List Value} {r : List HP} [h : SetsC l off vs l'] : StsC b off vs T l (Ce b T l :: r) (Ce b T l' :: r) := ⟨by rw [h.get]; exact .here⟩
instance (priority := 100) {b off : Nat} {vs : List Value} {T : TypeId} {l : List Value} {B : HP} {r s : List HP} [h : StsC b off vs T l r s] : StsC b off vs T l (B :: r) (B :: s) := ⟨.there h.get⟩
class PersC (A : HP) : Prop where
 get : Pers A
instance {b : Nat} {o : Obj} : PersC (Im b o) := ⟨Im.pers b o⟩
instance {b : Nat} {T : TypeId} {l : List Value} : PersC (ICe b T l) := ⟨Im.pers _ _⟩
instance {p : Prop} : PersC (Pu p) := ⟨Pu.pers p⟩
theorem Ex.pers {X : Type} {f : X → HP} (h : ∀ x, Pers (f x)) : Pers (Ex f) := fun ⟨x, e⟩ => ⟨x, h x e⟩
theorem Al.pers : ∀ {Hs : List HP}, (∀ A ∈ Hs, Pers A) → Pers (Al Hs) := by
 intro Hs
 induction Hs with
 | nil => intro _ M h _; trivial
 | cons A r ih =>
   rintro hp M h ⟨h1, h2, d, e, a, t⟩
   exact ⟨Res.emp, Res.emp, Res.emp_dj _, rfl, hp A (by simp) a, ih (fun B hB => hp B (by simp [hB])) t⟩
class PickC (A : HP) (Hs : List HP) (Rs : outParam (List HP)) : Prop where
 get : Pick A Hs Rs
instance (priority := 1001) {A : HP} {r : List HP} [h : PersC A] : PickC A (A :: r) (A :: r) := ⟨.keep h.get⟩
instance (priority := 1000) {A : HP} {r : List HP} : PickC A (A :: r) r := ⟨.here⟩
instance (priority := 100) {A B : HP} {r s : List HP} [h : PickC A r s] : PickC A (B :: r) (B :: s) := ⟨.there h.get⟩
class PicksC (As Hs : List HP) (Rs : outParam (List HP)) : Prop where
 get : Picks As Hs Rs
instance {Hs : List HP} : PicksC [] Hs Hs := ⟨.nil⟩
instance {A : HP} {As Hs R1 Rs : List HP} [h : PickC A Hs R1] [k : PicksC As R1 Rs] : PicksC (A :: As) Hs Rs := ⟨.cons h.get k.get⟩
theorem picks_append {As Bs Hs R1 Rs : List HP} (h : Picks As Hs R1) (k : Picks Bs R1 Rs) : Picks (As ++ Bs) Hs Rs := by
 induction h with
 | nil => exact k
 | cons p _ ih => exact .cons p (ih k)
instance {As Bs Hs R1 Rs : List HP} [h : PicksC As Hs R1] [k : PicksC Bs R1 Rs] : PicksC (As ++ Bs) Hs Rs := ⟨picks_append h.get k.get⟩
/-- Two lists as one. -/
class AppC (As Hs : List HP) (Rs : outParam (List HP)) : Prop where
 get : As ++ Hs = Rs
instance (priority := 1000) {Hs : List HP} : AppC [] Hs Hs := ⟨rfl⟩
instance (priority := 1000) {A : HP} {As Hs Rs : List HP} [h : AppC As Hs Rs] : AppC (A :: As) Hs (A :: Rs) := ⟨by rw [List.cons_append, h.get]⟩
instance (priority := 10) {As Hs : List HP} : AppC As Hs (As ++ Hs) := ⟨rfl⟩
class HasC (A : HP) (Hs : List HP) : Prop where
 get : Has A Hs
instance (priority := 1000) {A : HP} {r : List HP} : HasC A (A :: r) := ⟨.here⟩
instance (priority := 100) {A B : HP} {r : List HP} [h : HasC A r] : HasC A (B :: r) := ⟨.there h.get⟩
section
variable {r : Option Nat} {P : Program} {n : Nat} {ops : Array Oper} {os : List Oper} {L : Loc} {Hs : List HP} {Q : Out} {ty : TypeId} {d : Nat} {pos : String} {after : Array Edge}
theorem r_load {t : TypeId} {td : TypeDesc} {x : Operand} {b off : Nat} {l : List Value} {v : Value} (ht : P.underlying t = some td) (hfl : flat td = true)
    (hx : ev L x = some (.pointer (some ⟨b, off, none⟩))) [hr : RdCe b l Hs] (hv : l[off]? = some v) (hd : Nat.blt d n = true)
    (k : wo r P n ops os ((d, v) :: L) Hs Q) : wo r P n ops (⟨some d, .load t x, ty, pos, after, none⟩ :: os) L Hs Q := by
 obtain ⟨A, sh, hA⟩ := hr.get
 exact wo_load ht hfl hx sh hA hv hd k
theorem r_loada {t : TypeId} {td : TypeDesc} {x : Operand} {b off : Nat} {l vs : List Value} {ti : TypeInfo} (ht : P.underlying t = some td) (hfl : flat td = false) (hi : P.info? t = some ti)
    (hx : ev L x = some (.pointer (some ⟨b, off, none⟩))) [hr : RdCe b l Hs] (hl : off + ti.size ≤ l.length) (hv : (l.drop off).take ti.size = vs) (hd : Nat.blt d n = true)
    (k : wo r P n ops os ((d, .agg vs.toArray) :: L) Hs Q) : wo r P n ops (⟨some d, .load t x, ty, pos, after, none⟩ :: os) L Hs Q := by
 obtain ⟨A, sh, hA⟩ := hr.get
 exact wo_loada ht hfl hi hx sh hA hl hv hd k
theorem r_store {t : TypeId} {ti : TypeInfo} {x y : Operand} {b off : Nat} {T : TypeId} {l : List Value} {v : Value} {Gs : List HP} (hi : P.info? t = some ti) (hs : Nat.beq ti.size 1 = true)
    (hx : ev L x = some (.pointer (some ⟨b, off, none⟩))) (hy : ev L y = some v) [hu : StC b off v T l Hs Gs] (h1 : oneCell v = true) (ho : off < l.length)
    (k : wo r P n ops os L Gs Q) : wo r P n ops (⟨none, .store t x y, ty, pos, after, none⟩ :: os) L Hs Q := wo_store hi hs hx hy h1 ho hu.get k
theorem r_storea {t : TypeId} {ti : TypeInfo} {x y : Operand} {b off : Nat} {T : TypeId} {l vs : List Value} {Gs : List HP} (hi : P.info? t = some ti) (hs : Nat.beq ti.size vs.length = true)
    (hx : ev L x = some (.pointer (some ⟨b, off, none⟩))) (hy : ev L y = some (.agg vs.toArray)) [hu : StsC b off vs T l Hs Gs] (h1 : vs.all oneCell = true) (ho : off + vs.length ≤ l.length)
    (k : wo r P n ops os L Gs Q) : wo r P n ops (⟨none, .store t x y, ty, pos, after, none⟩ :: os) L Hs Q := wo_storea hi hs hx hy h1 ho hu.get k
/-- A function that only computes. -/
abbrev SpF (P : Program) (f : FuncId) (args : List Value) (v : Value) : Prop := Sp P f args [] (X := Unit) (fun _ => v) (fun _ => True) (fun _ => [])
theorem r_callF {f : Operand} {args : Array Operand} {argTypes : Array TypeId} {g : Nat} {vs : List Value} {v : Value}
    (sp : SpF P g vs v) (hf : ev L f = some (.func (.func g) #[] #[])) (ha : evs L args.toList = some vs) (hd : Nat.blt d n = true)
    (k : wo r P n ops os ((d, v) :: L) Hs Q) :
    wo r P n ops (⟨some d, .call ⟨.value f, args, argTypes⟩, ty, pos, after, none⟩ :: os) L Hs Q :=
 wo_call (cap := []) (by rw [List.append_nil]; exact sp) hf ha hd .nil (fun _ _ => k)
/-- One that has a result for each state, and gives back what it was given. -/
abbrev Sp1 (P : Program) (f : FuncId) (args : List Value) (As : List HP) (v : Value) (Bs : List HP) : Prop := Sp P f args As (X := Unit) (fun _ => v) (fun _ => True) (fun _ => Bs)
theorem r_call1 {f : Operand} {args : Array Operand} {argTypes : Array TypeId} {g : Nat} {vs : List Value} {v : Value} {As Bs Rs : List HP}
    (sp : Sp1 P g vs As v Bs) (hf : ev L f = some (.func (.func g) #[] #[])) (ha : evs L args.toList = some vs) (hd : Nat.blt d n = true) [hp : PicksC As Hs Rs]
    (k : wo r P n ops os ((d, v) :: L) (Bs ++ Rs) Q) :
    wo r P n ops (⟨some d, .call ⟨.value f, args, argTypes⟩, ty, pos, after, none⟩ :: os) L Hs Q :=
 wo_call (cap := []) (by rw [List.append_nil]; exact sp) hf ha hd hp.get (fun _ _ => k)
/-- A guard's yes or no is told apart; both the guard's slot and what is read of it are then known. -/
theorem wo_gsplit {j : Nat} {s : Nat} {b : Bool} (hj : (ops[j]?).bind (·.dst) = some s) (hs : lk L s = some (.bool b))
    (ht : b = true → wo r P n ops os ((s, .bool true) :: L) Hs Q) (hf : b = false → wo r P n ops os ((s, .bool false) :: L) Hs Q) : wo r P n ops os L Hs Q := by
 have key : ∀ u : Bool, b = u → wo r P n ops os ((s, .bool u) :: L) Hs Q → wo r P n ops os L Hs Q := by
  intro u e k a M h st
  refine k a M h ⟨⟨st.1.1, fun i v hv => ?_⟩, st.2⟩
  simp only [lk] at hv
  by_cases hi : s = i
  · subst hi
    simp at hv; subst hv; subst e
    exact st.1.2 _ _ hs
  · rw [nbeq hi, cond_false] at hv
    exact st.1.2 i v hv
 cases e : b with
 | true => exact key true e (ht e)
 | false => exact key false e (hf e)
/-! Ends. -/
def pack : List Value → Value
 | [v] => v
 | vs => .tuple vs.toArray
/-- What one result reads as: a slot; a cell of its own. -/
inductive RVs (P : Program) (L : Loc) : List ResultVar → List HP → List Value → Prop
 | nil : RVs P L [] [] []
 | tmp {t : Nat} {v : Value} {rs : List ResultVar} {Cs : List HP} {vs : List Value} (h : lk L t = some v) (k : RVs P L rs Cs vs) : RVs P L (.tmp t :: rs) Cs (v :: vs)
 | cell {t T : Nat} {b : Nat} {A : HP} {l us : List Value} {td : TypeDesc} {ti : TypeInfo} {rs : List ResultVar} {Cs : List HP} {vs : List Value} (h : lk L t = some (.pointer (some ⟨b, 0, none⟩))) (sh : Shows A b l)
     (ht : P.underlying T = some td) (hfl : flat td = false) (hi : P.info? T = some ti) (hl : ti.size ≤ l.length) (hv : l.take ti.size = us)
     (k : RVs P L rs Cs vs) : RVs P L (.cell t T :: rs) (A :: Cs) (.agg us.toArray :: vs)
 | cell1 {t T : Nat} {b : Nat} {A : HP} {l : List Value} {v : Value} {td : TypeDesc} {rs : List ResultVar} {Cs : List HP} {vs : List Value} (h : lk L t = some (.pointer (some ⟨b, 0, none⟩))) (sh : Shows A b l)
     (ht : P.underlying T = some td) (hfl : flat td = true) (hv : l[0]? = some v)
     (k : RVs P L rs Cs vs) : RVs P L (.cell t T :: rs) (A :: Cs) (v :: vs)
def rvOne (a : Act) : ResultVar → Sem Value
 | .tmp t => pure (a.tmps.getD t undef)
 | .cell c t => do loadVar t (← asAddr (a.tmps.getD c undef))
theorem RVs.run {rs : List ResultVar} {Cs : List HP} {vs : List Value} (q : RVs P L rs Cs vs) : ∀ {a : Act} (f : Fr n L a) (w : World) (M : Kn) (h hf h1 : Res), Sat w M (h.add hf) → h1.le h → SL Cs M h1 →
    (rs.mapM (rvOne a)).run P w = Result.ok vs w := by
 induction q with
 | nil => intros; rfl
 | @tmp t v rs Cs vs h k ih =>
   intro a f w M m hf h1 t' le s
   have e : a.tmps.getD t undef = v := f.eval h
   simp only [List.mapM_cons, rvOne, Sem.run_bind, Sem.run_pure, Result.andThen_ok, e, ih f w M m hf h1 t' le s]
 | @cell t T b A l us td ti rs Cs vs h sh ht hfl hi hl hv k ih =>
   intro a f w M m hf h1 t' le s
   have e : a.tmps.getD t undef = .pointer (some ⟨b, 0, none⟩) := f.eval h
   obtain ⟨k1, k2, dj, e2, x, s2⟩ := s
   subst e2
   have hc := run_loadCells_at (P := P) (b := b) (off := 0) (sz := ti.size) (l := l) (w := w) (fun j => shows_cell sh t' (Res.le_trans (Res.le_add_left _ _) le) x (0 + j)) (by omega)
   simp only [List.drop_zero, hv] at hc
   have := ih f w M m hf k2 t' (Res.le_trans (Res.le_add_right dj) le) s2
   simp only [List.mapM_cons, rvOne, Sem.run_bind, Sem.run_pure, Result.andThen_ok, e, asAddr, loadVar, isAgg_agg ht hfl, if_true, sizeOf, typeInfo, program, Sem.run, hi, hc, this]
 | @cell1 t T b A l v td rs Cs vs h sh ht hfl hv k ih =>
   intro a f w M m hf h1 t' le s
   have e : a.tmps.getD t undef = .pointer (some ⟨b, 0, none⟩) := f.eval h
   obtain ⟨k1, k2, dj, e2, x, s2⟩ := s
   subst e2
   have hc := shows_cell sh t' (Res.le_trans (Res.le_add_left _ _) le) x 0
   rw [hv] at hc
   have := ih f w M m hf k2 t' (Res.le_trans (Res.le_add_right dj) le) s2
   simp [List.mapM_cons, rvOne, e, asAddr, loadVar, isAgg_flat ht hfl, run_load, hc, this]
theorem RVs.rv {fn : Func} {rs : List ResultVar} {Cs : List HP} {vs : List Value} (hr : fn.results = rs.toArray) (q : RVs P L rs Cs vs) {a : Act} (f : Fr n L a) : RV P fn a.tmps Cs (pack vs) := by
 intro w M h hf dj t s
 have e := q.run f w M h hf h t (Res.le_refl _) s
 have e2 : results fn a.tmps = (do let vs ← (rs.toArray).mapM (rvOne a); pure (if h : vs.size = 1 then vs[0] else .tuple vs)) := by
  unfold results
  rw [hr]
  congr 1
  (try congr 1)
  (try (funext x; cases x <;> rfl))
 rw [e2, List.mapM_toArray]
 simp only [Sem.run_bind, Sem.run_map, e, Result.andThen_ok, Sem.run_pure]
 match vs with
 | [] => rfl
 | [v] => rfl
 | v :: u :: r => simp [pack]
theorem fin_ret {fn : Func} {X : Type} {val : X → Value} {φ : X → Prop} {Bs : X → List HP} (x : X) {rs : List ResultVar} {vs : List Value} {Cs : List HP}
    (hr : fn.results = rs.toArray) (q : RVs P L rs Cs vs) (hv : pack vs = val x) (hx : φ x) {Gs : List HP} [ac : AppC (Bs x) Cs Gs] (e : Ent Hs Gs) : tw n (finO P fn val φ Bs) .ret L Hs := by
 intro a M h s
 obtain ⟨g1, g2, dg, e1, y, s2⟩ := s.2
 refine ⟨.inr rfl, x, Cs, hx, ⟨g1, g2, dg, e1, y, by rw [ac.get]; exact e s2⟩, ?_⟩
 rw [← hv]; exact q.rv hr s.1
theorem fin_end {fn : Func} {X : Type} {val : X → Value} {φ : X → Prop} {Bs : X → List HP} (x : X) {rs : List ResultVar} {vs : List Value} {Cs : List HP}
    (hr : fn.results = rs.toArray) (q : RVs P L rs Cs vs) (hv : pack vs = val x) (hx : φ x) {Gs : List HP} [ac : AppC (Bs x) Cs Gs] (e : Ent Hs Gs) : tw n (finO P fn val φ Bs) .normal L Hs := by
 intro a M h s
 obtain ⟨g1, g2, dg, e1, y, s2⟩ := s.2
 refine ⟨.inl rfl, x, Cs, hx, ⟨g1, g2, dg, e1, y, by rw [ac.get]; exact e s2⟩, ?_⟩
 rw [← hv]; exact q.rv hr s.1
theorem ent_nil : Ent Hs [] := ⟨fun _ => trivial⟩
theorem ent_pick {As Rs : List HP} [h : PicksC As Hs Rs] : Ent Hs As := h.get.drop
/-! An assertion is opened; what follows of it is known. -/
theorem wo_know {A : HP} {p : Prop} (hA : Has A Hs) (hp : ∀ {M : Kn} {h : Res}, A.at_ M h → p) (k : p → wo r P n ops os L Hs Q) : wo r P n ops os L Hs Q := by
 intro a M m s w hf dj t
 obtain ⟨g1, g2, dg, e, _, s2⟩ := s.2
 obtain ⟨h1, _, x⟩ := hA.sat s2
 exact k (hp x) a M m s w hf dj t
theorem wc_know {c : Code} {A : HP} {p : Prop} (hA : Has A Hs) (hp : ∀ {M : Kn} {h : Res}, A.at_ M h → p) (k : p → wc r P n c L Hs Q) : wc r P n c L Hs Q := by
 intro a M m s
 obtain ⟨g1, g2, dg, e, _, s2⟩ := s.2
 obtain ⟨h1, _, x⟩ := hA.sat s2
 exact k (hp x) a M m s
theorem wc_ex {c : Code} {X : Type} {f : X → List HP} (e : ∀ {M : Kn} {h : Res}, SL Hs M h → ∃ x, SL (f x) M h) (k : ∀ x, wc r P n c L (f x) Q) : wc r P n c L Hs Q := by
 intro a M m s
 obtain ⟨g1, g2, dg, e1, y, s2⟩ := s.2
 obtain ⟨x, s3⟩ := e s2
 exact k x a M m ⟨s.1, g1, g2, dg, e1, y, s3⟩
theorem wo_ent' {Gs : List HP} (e : Ent Hs Gs) (k : wo r P n ops os L Gs Q) : wo r P n ops os L Hs Q := fun a M x s => k a M x ⟨s.1, by
 obtain ⟨g1, g2, dg, e1, y, s2⟩ := s.2
 exact ⟨g1, g2, dg, e1, y, e s2⟩⟩
theorem wc_ent' {c : Code} {Gs : List HP} (e : Ent Hs Gs) (k : wc r P n c L Gs Q) : wc r P n c L Hs Q := fun a M x s => k a M x ⟨s.1, by
 obtain ⟨g1, g2, dg, e1, y, s2⟩ := s.2
 exact ⟨g1, g2, dg, e1, y, e s2⟩⟩
end
/-- What a type is, found by its number. -/
class UndC (P : Program) (t : TypeId) (d : outParam TypeDesc) : Prop where
 h : P.underlying t = some d
class InfC (P : Program) (t : TypeId) (i : outParam TypeInfo) : Prop where
 h : P.info? t = some i
/-- A yes or no, and what each says. -/
structure BP (b : Bool) (p q : Prop) : Prop where
 t : b = true → p
 f : b = false → q
theorem BP.dec {p : Prop} [Decidable p] : BP (decide p) p (¬ p) := ⟨of_decide_eq_true, of_decide_eq_false⟩
theorem BP.raw {b : Bool} : BP b (b = true) (b = false) := ⟨id, id⟩
end
section
theorem wrap_byte (c : UInt8) : IntKind.i64.wrap (c.toNat : Int) = (c.toNat : Int) := by
 have := c.toNat_lt
 exact IntWalk.i64_in _ (by omega)
def evps (L : Loc) : List (Nat × Operand) → Option (List (Nat × Value))
 | [] => some []
 | (i, x) :: xs => match ev L x with
   | some v => match evps L xs with
     | some vs => some ((i, v) :: vs)
     | none => none
   | none => none
section
variable {r : Option Nat} {P : Program} {n : Nat} {ops : Array Oper} {os : List Oper} {L : Loc} {Hs : List HP} {Q : Out} {ty : TypeId} {d : Nat} {pos : String} {after : Array Edge}
theorem Fr.evps {a : Act} (f : Fr n L a) : ∀ (xs : List (Nat × Operand)) {vs : List (Nat × Value)}, evps L xs = some vs → xs.map (fun (i, x) => (i, a.eval x)) = vs := by
 intro xs
 induction xs with
 | nil => intro vs h; simp [Go.Proofs.YtdnoacgopfcpbaaGreat.evps] at h; simp [h]
 | cons x xs ih =>
   intro vs h
   obtain ⟨i, x⟩ := x
   simp only [Go.Proofs.YtdnoacgopfcpbaaGreat.evps] at h
   split at h
   · rename_i v hv
     split at h
     · rename_i us hu
       simp at h; subst h
       simp [f.ev hv, ih hu]
     · cases h
   · cases h
theorem Fr.evpsa {a : Act} (f : Fr n L a) {xs : List (Nat × Operand)} {vs : List (Nat × Value)} (h : Go.Proofs.YtdnoacgopfcpbaaGreat.evps L xs = some vs) : (xs.toArray.map fun (i, x) => (i, a.eval x)) = vs.toArray := by
 rw [← f.evps xs h]; simp
theorem pv_buildx {t : TypeId} {ps : List (Nat × Operand)} {pv : List (Nat × Value)} {v : Value} (hps : evps L ps = some pv)
    (h : ∀ w, (Instr.build t pv.toArray).run P w = .ok v w) : PV P n L (.build t ps.toArray) ty v := pv_build (fun a f => f.evpsa hps) h
theorem pv_fieldAddrk {t : TypeId} {x : Operand} {i b off : Nat} {fs : Array Field} {fd : Field} (ht : P.underlying t = some (.struct fs)) (hf : fs[i]? = some fd) {ti : TypeInfo} (hi : P.info? fd.type = some ti) (hz : Nat.beq ti.size 0 = false)
    (hx : ev L x = some (.pointer (some ⟨b, off, none⟩))) {k k' : Nat} (hk : fd.offset = k) (hk' : off + k = k') : PV P n L (.fieldAddr t x i) ty (.pointer (some ⟨b, k', none⟩)) := hk' ▸ hk ▸ pv_fieldAddr ht hf hi hz hx
/-- Bytes as values. -/
def vUs (l : List UInt8) : List Value := l.map fun c => vU (c.toNat : Int)
theorem push_all (l : List UInt8) : ∀ m : List UInt8, (l.map fun c => (c.toNat : Int)).foldl (fun r n => r.push (UInt8.ofNat n.toNat)) (ByteArray.mk ⟨m⟩) = ByteArray.mk ⟨m ++ l⟩ := by
 induction l with
 | nil => intro m; simp
 | cons c l ih =>
   intro m
   simp only [List.map_cons, List.foldl_cons]
   have e : (ByteArray.mk ⟨m⟩).push (UInt8.ofNat ((c.toNat : Int)).toNat) = ByteArray.mk ⟨m ++ [c]⟩ := by
    apply ByteArray.ext
    simp [ByteArray.push]
   rw [e, ih]
   simp
theorem run_b2s {w : World} {b len cap : Nat} {l : List UInt8} (h : ∀ j, j < l.length → w.cell? ⟨b, j, none⟩ = some (vU ((l.getD j 0).toNat : Int))) (hl : len = l.length) :
    (Conv.bytesToString (.slice (some ⟨b, 0, none⟩) len cap)).run P w = .ok (vS l) w := by
 subst hl
 have hc := run_loadCells_list (P := P) w ⟨b, 0, none⟩ (vUs l) (fun j v hj => by
  have hlt : j < l.length := by have := (List.getElem?_eq_some_iff.1 hj).1; simpa [vUs] using this
  rw [addr_add, Nat.zero_add, h j hlt, ← hj]
  simp [vUs, hlt])
 have e : (vUs l).length = l.length := by simp [vUs]
 rw [e] at hc
 rw [run_bytesToString (P := P) w ⟨b, 0, none⟩ l.length cap (l.map fun c => (c.toNat : Int)) (by rw [hc]; simp [vUs])]
 have := push_all l []
 simp only [List.nil_append] at this
 exact congrArg (fun x => Result.ok (Value.string x) w) this
/-- The text of a block's bytes. -/
theorem r_b2s {s t e : TypeId} {x : Operand} {b len cap : Nat} {l : List UInt8} {m : List Value} (hs : P.underlying s = some (.slice e)) (ht : P.underlying t = some .string) (he : P.underlying e = some (.int .u8))
    (hx : ev L x = some (.slice (some ⟨b, 0, none⟩) len cap)) [hr : RdCe b m Hs] (hm : m.take len = vUs l) (hl : len ≤ m.length) (hd : Nat.blt d n = true)
    (k : wo r P n ops os ((d, vS l) :: L) Hs Q) : wo r P n ops (⟨some d, .convert s t x, ty, pos, after, none⟩ :: os) L Hs Q := by
 obtain ⟨A, sh, hA⟩ := hr.get
 have hlen : l.length = len := by have := congrArg List.length hm; simp [vUs] at this; omega
 refine wo_read (by intro c; simp) hA hd (fun a f w M h h1 hf t' le y _ _ _ _ => ?_) k
 have hc : ∀ j, j < l.length → w.cell? ⟨b, j, none⟩ = some (vU ((l.getD j 0).toNat : Int)) := fun j hj => by
  rw [shows_cell sh t' le y j]
  have : (m.take len)[j]? = (vUs l)[j]? := by rw [hm]
  rw [List.getElem?_take_of_lt (by omega)] at this
  rw [this]; simp [vUs, hj]
 have hb := run_b2s (P := P) (cap := cap) hc hlen.symm
 simp [execOp, f.ev hx, convert, run_underlying hs, run_underlying ht, run_underlying he, hb]
end
end
section
def bodyOf (f : Func) : Code := match f.body with | some c => c | none => .skip
def sA : Code → Code | .seq a _ => a | c => c
def sB : Code → Code | .seq _ b => b | c => c
def cX : Code → Operand | .cond x _ _ => x | _ => .func 0
def cT : Code → Code | .cond _ t _ => t | c => c
def cE : Code → Code | .cond _ _ e => e | c => c
def bB : Code → Code | .block _ b => b | .loop b => b | .scope b => b | c => c
def rF : Code → Operand | .rangeFunc f _ _ _ => f | _ => .func 0
def rP : Code → Array Tmp | .rangeFunc _ p _ _ => p | _ => #[]
def rA : Code → Code | .rangeFunc _ _ a _ => a | c => c
def rB : Code → Code | .rangeFunc _ _ _ b => b | c => c
/-- Behind a piece of code another one. -/
def seqO (r : Option Nat) (P : Program) (y : Code) (Q : Out) : Out := thenO (wout r P y Q) Q
section
variable {r : Option Nat} {P : Program} {n : Nat} {L : Loc} {Hs : List HP} {Q : Out} {c : Code}
theorem p_seq (h : c = .seq (sA c) (sB c)) (k : wc r P n (sA c) L Hs (seqO r P (sB c) Q)) : wc r P n c L Hs Q := by
 rw [h]; exact wc_seq k
theorem p_region {id : Nat} {l : List Oper} (h : c = .region id l.toArray false) (k : wo r P n l.toArray l L Hs Q) : wc r P n c L Hs Q := by
 rw [h]; exact wc_region k
theorem p_skip (h : c = .skip) (k : tw n Q .normal L Hs) : wc r P n c L Hs Q := by rw [h]; exact wc_skip k
theorem p_label {l : Nat} (h : c = .label l) (k : tw n Q .normal L Hs) : wc r P n c L Hs Q := by rw [h]; exact wc_label k
theorem p_exit (id : Nat) (h : c = .exit id) (k : tw n Q (.exit id) L Hs) : wc r P n c L Hs Q := by rw [h]; exact wc_exit k
theorem p_ret (h : c = .ret) (k : tw n Q .ret L Hs) : wc r P n c L Hs Q := by rw [h]; exact wc_ret k
theorem p_block (id : Nat) (h : c = .block id (bB c)) (k : wc r P n (bB c) L Hs (blockO id Q)) : wc r P n c L Hs Q := by rw [h]; exact wc_block k
theorem p_cond {b : Bool} (h : c = .cond (cX c) (cT c) (cE c)) (hc : ev L (cX c) = some (.bool b)) (ht : b = true → wc r P n (cT c) L Hs Q) (hf : b = false → wc r P n (cE c) L Hs Q) :
    wc r P n c L Hs Q := by rw [h]; exact wc_cond hc ht hf
theorem p_true (h : c = .cond (cX c) (cT c) (cE c)) (hc : ev L (cX c) = some (.bool true)) (k : wc r P n (cT c) L Hs Q) : wc r P n c L Hs Q := by rw [h]; exact wc_true hc k
theorem p_false (h : c = .cond (cX c) (cT c) (cE c)) (hc : ev L (cX c) = some (.bool false)) (k : wc r P n (cE c) L Hs Q) : wc r P n c L Hs Q := by rw [h]; exact wc_false hc k
theorem p_loop {ι : Type} (Li : ι → Loc) (Hi : ι → List HP) (μ : ι → Nat) (h : c = .loop (bB c)) (i : ι) (hL : Cov L (Li i)) (hH : Ent Hs (Hi i))
    (round : ∀ i, wc r P n (bB c) (Li i) (Hi i) (invO n Li Hi (fun j => μ j < μ i) Q)) : wc r P n c L Hs Q := by
 rw [h]; exact wc_ent hL hH (wc_loop Li Hi μ round i)
theorem q_seq {ops : Array Oper} {y : Code} (h : wc r P n y L Hs Q) : wo r P n ops [] L Hs (seqO r P y Q) := wo_seq h
theorem t_seq {y : Code} (h : wc r P n y L Hs Q) : tw n (seqO r P y Q) .normal L Hs := to_then h
theorem Sp.body {f : FuncId} {fn : Func} {args : List Value} {As : List HP} {X : Type} {val : X → Value} {φ : X → Prop} {Bs : X → List HP}
    (en : ∀ (args : Array Value) (w : World), (callFunc f args).run P w = .ok (.enter f args) w)
    (hf : P.funcs[f]? = some fn) (hb : fn.body = some (bodyOf fn)) (hn : fn.ntmps = n) (hl : Nat.ble args.length n = true)
    (h : wc none P n (bodyOf fn) (locs 0 args) As (finO P fn val φ Bs)) : Sp P f args As val φ Bs := Sp.of_body en hf hb hn hl h
end
end
section
theorem setAt_mid : ∀ (c d c0 r : List Value), c0.length = c.length → setAt (d ++ (c0 ++ r)) d.length c = d ++ (c ++ r) := by
 intro c
 induction c with
 | nil => intro d c0 r h; have : c0 = [] := List.eq_nil_of_length_eq_zero (by simpa using h); simp [setAt, this]
 | cons v c ih =>
   intro d c0 r h
   cases c0 with
   | nil => simp at h
   | cons u c0 =>
     simp only [List.length_cons, Nat.add_right_cancel_iff] at h
     simp only [setAt, List.cons_append]
     have e : (d ++ u :: (c0 ++ r)).set d.length v = (d ++ [v]) ++ (c0 ++ r) := by simp
     have := ih (d ++ [v]) c0 r h
     rw [e]
     simp only [List.length_append, List.length_singleton] at this
     rw [this]; simp
theorem foldl_setAt : ∀ (c : List Value) (j off : Nat) (cs : Array Value), (c.zipIdx j).foldl (fun cs x => cs.setIfInBounds (off + x.2) x.1) cs = (setAt cs.toList (off + j) c).toArray := by
 intro c
 induction c with
 | nil => intro j off cs; simp [setAt]
 | cons v c ih =>
   intro j off cs
   simp only [List.zipIdx_cons, List.foldl_cons, setAt]
   rw [ih (j + 1) off]
   simp [Nat.add_assoc]
/-- Parts in their order, all of one size. -/
def parts (k : Nat) : List Value → List (Nat × Value)
 | [] => []
 | v :: vs => (k, v) :: parts (k + 1) vs
theorem run_fill (sz : Nat) : ∀ (vs : List Value) (k : Nat) (done r : List Value), (∀ v ∈ vs, v.cells.size = sz) → done.length = k * sz → r.length = vs.length * sz →
    Instr.fill (fun i => some (i * sz, sz)) (done ++ r).toArray (parts k vs) = some (done ++ vs.flatMap (·.cells.toList)).toArray := by
 intro vs
 induction vs with
 | nil => intro k done r _ _ hr; have : r = [] := List.eq_nil_of_length_eq_zero (by simpa using hr); simp [parts, Instr.fill, this]
 | cons v vs ih =>
   intro k done r hv hd hr
   have hv0 := hv v (by simp)
   simp only [List.length_cons, Nat.add_mul, Nat.one_mul] at hr
   simp only [parts, Instr.fill]
   have hle : ¬ (v.cells.size ≠ sz ∨ k * sz + v.cells.size > (done ++ r).toArray.size) := by
    simp [hv0]; omega
   have e0 : (decide (v.cells.size ≠ sz) || decide (k * sz + v.cells.size > (done ++ r).toArray.size)) = false := by
    simp [hv0]; omega
   rw [if_neg (by simpa using hle)]
   have e1 : (v.cells.zipIdx.foldl (fun cs x => match x with | (c, j) => cs.setIfInBounds (k * sz + j) c) (done ++ r).toArray) = ((done ++ v.cells.toList) ++ r.drop sz).toArray := by
    have := foldl_setAt v.cells.toList 0 (k * sz) (done ++ r).toArray
    rw [← Array.foldl_toList, Array.toList_zipIdx]
    rw [show (fun (cs : Array Value) (x : Value × Nat) => match x with | (c, j) => cs.setIfInBounds (k * sz + j) c) = (fun cs x => cs.setIfInBounds (k * sz + x.2) x.1) from rfl, this]
    have e2 : r = r.take sz ++ r.drop sz := (List.take_append_drop _ _).symm
    have e3 := setAt_mid v.cells.toList done (r.take sz) (r.drop sz) (by simp [hv0]; omega)
    rw [← e2, hd] at e3
    simp only [Nat.add_zero]
    rw [e3]; simp
   rw [e1, ih (k + 1) (done ++ v.cells.toList) (r.drop sz) (fun u hu => hv u (by simp [hu])) (by simp [hd, hv0, Nat.add_mul]) (by simp; omega)]
   simp
section
variable {r : Option Nat} {P : Program} {n : Nat} {ops : Array Oper} {os : List Oper} {L : Loc} {Hs : List HP} {Q : Out} {ty : TypeId} {d : Nat} {pos : String} {after : Array Edge}
theorem run_buildSlice {t e : TypeId} {ti : TypeInfo} {z : Value} (ht : P.underlying t = some (.slice e)) (hi : P.info? e = some ti) (hz : ti.zero = some z) (hzs : z.cells.size = ti.size) {vs : List Value} (hv : ∀ v ∈ vs, v.cells.size = ti.size)
    (hsm : vs.length * ti.size ≤ 16777216) (w : World) :
    (Instr.buildSlice t vs.length (parts 0 vs).toArray).run P w = .ok (.slice (some ⟨w.heap.size, 0, none⟩) vs.length vs.length) (w.alloc (.cells (vs.flatMap (·.cells.toList)).toArray e (0, 0))) := by
 have hb : ¬ (2 ^ 24 < vs.length * ti.size) := by omega
 have key : ∀ a0 : Array Value, a0.size = vs.length * ti.size → Instr.fill (fun i => some (i * ti.size, ti.size)) a0 (parts 0 vs) = some (vs.flatMap (·.cells.toList)).toArray := by
  intro a0 ha
  have := run_fill ti.size vs 0 [] a0.toList hv (by simp) (by simp [ha])
  simpa using this
 unfold Instr.buildSlice
 simp only [Sem.run_bind, run_underlying ht, Result.andThen_ok, sizeOf, typeInfo, program, Sem.run, hi, gt_iff_lt, hb, if_false, Sem.run_pure, zeroValue, hz]
 by_cases h0 : vs.length * ti.size = 0
 · simp only [h0, if_true, Sem.run_bind, Sem.run_pure, Result.andThen_ok]
   rw [key _ (by simp [h0])]
   simp [newRow, newObj, Sem.run]
 · simp only [h0, if_false, Sem.run_bind, Sem.run_pure, Result.andThen_ok, typeInfo, program, Sem.run, hi, hz]
   rw [key _ (by simp)]
   simp [newRow, newObj, Sem.run]
/-- A slice literal. -/
theorem r_buildSliceL {t e : TypeId} {ti : TypeInfo} {z : Value} {len : Nat} {ps : List (Nat × Operand)} (vs : List Value) {cs : List Value} (ht : P.underlying t = some (.slice e)) (hi : P.info? e = some ti) (hz : ti.zero = some z) (hzs : Nat.beq z.cells.size ti.size = true)
    (hps : evps L ps = some (parts 0 vs)) (hlen : vs.length = len) (hv : vs.all (fun v => Nat.beq v.cells.size ti.size) = true) (hsm : Nat.ble (vs.length * ti.size) 16777216 = true) (hcs : vs.flatMap (·.cells.toList) = cs) (hd : Nat.blt d n = true)
    (k : ∀ b, wo r P n ops os ((d, .slice (some ⟨b, 0, none⟩) len len) :: L) (Ce b e cs :: Hs) Q) : wo r P n ops (⟨some d, .buildSlice t len ps.toArray, ty, pos, after, none⟩ :: os) L Hs Q := by
 subst hlen
 refine wo_buildSlice ht (fun a f => f.evpsa hps) (fun w => ?_) hd k
 rw [← hcs]
 exact run_buildSlice ht hi hz (Nat.eq_of_beq_eq_true hzs) (fun v hv' => Nat.eq_of_beq_eq_true (by have := List.all_eq_true.1 hv v hv'; simpa using this)) (Nat.le_of_ble_eq_true hsm) w
/-- A struct that is written out. -/
def fillL (place : Nat → Option (Nat × Nat)) : List Value → List (Nat × Value) → Option (List Value)
 | zs, [] => some zs
 | zs, (i, v) :: rest => match place i with
   | none => none
   | some (off, size) => bif Nat.beq v.cells.toList.length size && Nat.ble (off + size) zs.length then fillL place (setAt zs off v.cells.toList) rest else none
theorem fill_eq (place : Nat → Option (Nat × Nat)) : ∀ (ps : List (Nat × Value)) (zs vs : List Value), fillL place zs ps = some vs → Instr.fill place zs.toArray ps = some vs.toArray := by
 intro ps
 induction ps with
 | nil => intro zs vs h; simp only [fillL, Option.some.injEq] at h; subst h; rfl
 | cons p rest ih =>
   obtain ⟨i, v⟩ := p
   intro zs vs h
   simp only [fillL] at h
   simp only [Instr.fill]
   cases hp : place i with
   | none => rw [hp] at h; cases h
   | some q =>
     obtain ⟨off, size⟩ := q
     rw [hp] at h
     simp only at h ⊢
     cases hb : (Nat.beq v.cells.toList.length size && Nat.ble (off + size) zs.length) with
     | false => rw [hb] at h; cases h
     | true =>
       rw [hb, cond_true] at h
       simp only [Bool.and_eq_true] at hb
       have h1 : v.cells.size = size := by have := Nat.eq_of_beq_eq_true hb.1; simpa using this
       have h2 := Nat.le_of_ble_eq_true hb.2
       have e0 : (decide (v.cells.size ≠ size) || decide (off + v.cells.size > zs.toArray.size)) = false := by
        simp [h1]; omega
       rw [if_neg (by rw [e0]; simp)]
       have e1 : (v.cells.zipIdx.foldl (fun cs x => match x with | (c, j) => cs.setIfInBounds (off + j) c) zs.toArray) = (setAt zs off v.cells.toList).toArray := by
        have := foldl_setAt v.cells.toList 0 off zs.toArray
        rw [← Array.foldl_toList, Array.toList_zipIdx]
        rw [show (fun (cs : Array Value) (x : Value × Nat) => match x with | (c, j) => cs.setIfInBounds (off + j) c) = (fun cs x => cs.setIfInBounds (off + x.2) x.1) from rfl, this]
        simp
       rw [e1]
       exact ih _ _ h
theorem pv_buildS {t : TypeId} {ps : List (Nat × Operand)} {pv : List (Nat × Value)} {fields : Array Field} {ti : TypeInfo} {z : Value} {zs vs : List Value} {pl : List (Nat × Nat)} (ht : P.underlying t = some (.struct fields)) (hi : P.info? t = some ti) (hz : ti.zero = some z) (hzs : z.cells.toList = zs)
    (hpl : fields.toList.mapM (fun f => (P.info? f.type).map fun i => (f.offset, i.size)) = some pl) (hps : evps L ps = some pv) (hf : fillL (fun i => pl[i]?) zs pv = some vs) : PV P n L (.build t ps.toArray) ty (.agg vs.toArray) := by
 refine pv_buildx hps (fun w => run_build w t pv.toArray vs.toArray ?_)
 have e1 : z.cells = zs.toArray := by rw [← hzs]
 have := fill_eq _ pv zs vs hf
 simp only [Program.built, hi, ht, hz, hpl, e1]
 rw [← this]
 congr 1
 funext i
 simp
end
end
end Go.Proofs.YtdnoacgopfcpbaaGreat
