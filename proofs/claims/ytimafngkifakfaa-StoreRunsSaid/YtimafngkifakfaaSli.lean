/- Slices that are read. -/
import Derived.Test.YtimafngkifakfaaRangeF
import Derived.Test.YtimafngkifakfaaRow1
import Derived.Laws.MakeOwn
import Derived.Laws.CopyRow
set_option linter.unusedVariables false
set_option linter.unusedSimpArgs false
namespace Go.Proofs.Ytimafngkifakfaa

/-- An address, so many cells on. -/
def elemA (a : Option Addr) (k : Nat) : Option Addr := match a with | some ⟨b, off, _⟩ => some ⟨b, off + k, none⟩ | none => none

/-- What lets cells behind an address be read. -/
def SlA (A : HP) (a : Option Addr) (xs : List Value) : Prop :=
  ∀ {M : Kn} {h : Res}, A.at_ M h → xs = [] ∨ ∃ g off l T fz, a = some ⟨g, off, none⟩ ∧ (M.im g = some (.cells (List.toArray l) T fz) ∨ h g = some (.cells (List.toArray l) T fz)) ∧ (l.drop off).take xs.length = xs

def SlIAt (a : Option Addr) (xs : List Value) (M : Kn) (_ : Res) : Prop := xs = [] ∨ ∃ g off l T fz, a = some ⟨g, off, none⟩ ∧ M.im g = some (.cells (List.toArray l) T fz) ∧ (l.drop off).take xs.length = xs
/-- Cells that never turn any more. -/
def SlI (a : Option Addr) (xs : List Value) : HP := ⟨SlIAt a xs, fun le e => e.imp id fun ⟨g, off, l, T, fz, h1, h2, h3⟩ => ⟨g, off, l, T, fz, h1, le.1 _ _ h2, h3⟩⟩
theorem SlI.pers (a : Option Addr) (xs : List Value) : Pers (SlI a xs) := fun e => e
instance {a : Option Addr} {xs : List Value} : PersC (SlI a xs) := ⟨SlI.pers a xs⟩
theorem sla_sli {a : Option Addr} {xs : List Value} : SlA (SlI a xs) a xs := fun e => e.imp id fun ⟨g, off, l, T, fz, h1, h2, h3⟩ => ⟨g, off, l, T, fz, h1, .inl h2, h3⟩
theorem sla_row {e : TypeId} {sz k n c : Nat} {a : Option Addr} {xs : List Value} : SlA (Row e sz (.slice a n c) k xs) a xs := fun x => by
  rcases x with ⟨_, _, h⟩ | ⟨g, cap, cur, h1, h2, h3, h4, h5, h6, h7⟩
  · exact .inl h
  · cases h1
    refine .inr ⟨g, 0, cur, e, (0, 0), rfl, .inr (by rw [h7]; exact Res.one_same _ _), ?_⟩
    rw [List.drop_zero, h5]; exact h6
theorem sla_ce {b : Nat} {T : TypeId} {l : List Value} : SlA (Ce b T l) (some ⟨b, 0, none⟩) l := fun x => .inr ⟨b, 0, l, T, (0, 0), rfl, .inr (by have : _ = Res.one b _ := x; rw [this]; exact Res.one_same _ _), by simp⟩
theorem sla_ice {b : Nat} {T : TypeId} {l : List Value} : SlA (ICe b T l) (some ⟨b, 0, none⟩) l := fun x => .inr ⟨b, 0, l, T, (0, 0), rfl, .inl x, by simp⟩

class RdSl (a : Option Addr) (xs : outParam (List Value)) (Hs : List HP) : Prop where
  get : ∃ A : HP, SlA A a xs ∧ Has A Hs
instance (priority := 1000) {a : Option Addr} {xs : List Value} {r : List HP} : RdSl a xs (SlI a xs :: r) := ⟨⟨_, sla_sli, .here⟩⟩
instance (priority := 1000) {e : TypeId} {sz k n c : Nat} {a : Option Addr} {xs : List Value} {r : List HP} : RdSl a xs (Row e sz (.slice a n c) k xs :: r) := ⟨⟨_, sla_row, .here⟩⟩
instance (priority := 1000) {b : Nat} {T : TypeId} {l : List Value} {r : List HP} : RdSl (some ⟨b, 0, none⟩) l (Ce b T l :: r) := ⟨⟨_, sla_ce, .here⟩⟩
instance (priority := 1000) {b : Nat} {T : TypeId} {l : List Value} {r : List HP} : RdSl (some ⟨b, 0, none⟩) l (ICe b T l :: r) := ⟨⟨_, sla_ice, .here⟩⟩
instance (priority := 100) {a : Option Addr} {xs : List Value} {B : HP} {r : List HP} [h : RdSl a xs r] : RdSl a xs (B :: r) := ⟨let ⟨A, s, p⟩ := h.get; ⟨A, s, .there p⟩⟩
theorem has_left {A : HP} {B C : List HP} (h : Has A B) : Has A (B ++ C) := by
  induction h with
  | here => exact .here
  | there _ ih => exact .there ih
theorem has_right {A : HP} {B C : List HP} (h : Has A C) : Has A (B ++ C) := by
  induction B with
  | nil => exact h
  | cons _ _ ih => exact .there ih
instance (priority := 900) {a : Option Addr} {xs : List Value} {B C : List HP} [h : RdSl a xs B] : RdSl a xs (B ++ C) := ⟨let ⟨A, s, p⟩ := h.get; ⟨A, s, has_left p⟩⟩
instance (priority := 800) {a : Option Addr} {xs : List Value} {B C : List HP} [h : RdSl a xs C] : RdSl a xs (B ++ C) := ⟨let ⟨A, s, p⟩ := h.get; ⟨A, s, has_right p⟩⟩

theorem sla_cell {A : HP} {a : Option Addr} {xs : List Value} (sh : SlA A a xs) {w : World} {M : Kn} {h hf h1 : Res} (t : Sat w M (h.add hf)) (le : h1.le h) (x : A.at_ M h1) (hne : xs ≠ []) :
    ∃ g off, a = some ⟨g, off, none⟩ ∧ ∀ j, j < xs.length → w.cell? ⟨g, off + j, none⟩ = xs[j]? := by
  rcases sh x with e | ⟨g, off, l, T, fz, e1, e2, e3⟩
  · exact absurd e hne
  · have hb : w.heap[g]? = some (.cells l.toArray T fz) := by
      rcases e2 with e | e
      · exact t.im _ _ e
      · exact t.ow _ _ (Res.le_add_left _ _ _ _ (le _ _ e))
    refine ⟨g, off, e1, fun j hj => ?_⟩
    have h4 : ((l.drop off).take xs.length)[j]? = xs[j]? := by rw [e3]
    rw [List.getElem?_take_of_lt hj, List.getElem?_drop] at h4
    simp [World.cell?, hb, h4]

theorem get_map {α : Type} {f : α → Value} {l : List α} {m : Nat} (h : m < l.length) : (l.map f)[m]? = some (f l[m]) := by simp [h]
theorem flat_len {α : Type} {f : α → List Value} {sz : Nat} (hf : ∀ x, (f x).length = sz) (l : List α) : (l.flatMap f).length = l.length * sz := by
  induction l with
  | nil => simp
  | cons x l ih => simp [List.flatMap_cons, ih, hf, Nat.add_mul]; omega
theorem get_flat {α : Type} {f : α → List Value} {sz : Nat} (hf : ∀ x, (f x).length = sz) {l : List α} {m : Nat} (h : m < l.length) : ((l.flatMap f).drop (m * sz)).take sz = f l[m] := by
  induction l generalizing m with
  | nil => simp at h
  | cons x l ih =>
    cases m with
    | zero => simp only [List.flatMap_cons, Nat.zero_mul, List.drop_zero, List.getElem_cons_zero]; rw [← hf x]; exact List.take_left
    | succ m =>
      simp only [List.flatMap_cons, List.getElem_cons_succ]
      have e : (m + 1) * sz = (f x).length + m * sz := by rw [hf, Nat.add_mul]; omega
      rw [e, ← List.drop_drop, List.drop_left]
      exact ih (by simpa using h)

section
variable {r : Option Nat} {P : Program} {n : Nat} {ops : Array Oper} {os : List Oper} {A : List HP} {L : Loc} {Hs : List HP} {Q : Out} {ty : TypeId} {d : Nat} {pos : String} {after : Array Edge} {c : Code}

theorem run_elemAddr {t e : TypeId} {x y : Operand} {k : IntKind} {i : Int} {m len cap g off : Nat} {ti : TypeInfo} (ht : P.underlying t = some (.slice e)) (hi : P.info? e = some ti) {sz : Nat} (hsz : ti.size = sz)
    {a : Act} (f : Fr n L a) (hx : ev L x = some (.slice (some ⟨g, off, none⟩) len cap)) (hy : ev L y = some (.int k i)) (hm : i = (m : Int)) (h : m < len) (w : World) (dst : Option Tmp) (pos : String) (after : Array Edge) (guard : Option (Nat × Bool)) :
    (execOp a.eval ⟨dst, .indexAddr t x y, ty, pos, after, guard⟩).run P w = .ok (.value (.pointer (some ⟨g, off + m * sz, none⟩))) w := by
  subst hm
  have := (pv_indexAddr (n := n) (ty := ty) ht hi hx hy (by omega) (by omega)).run a f w dst pos after guard
  rw [this]; simp [hsz]
theorem r_elemAddr {t e : TypeId} {x y : Operand} {a : Option Addr} {k : IntKind} {i : Int} {m len cap kk : Nat} {ti : TypeInfo} {xs : List Value} {sz : Nat} (ht : P.underlying t = some (.slice e)) (hi : P.info? e = some ti) (hsz : ti.size = sz)
    (hx : ev L x = some (.slice a len cap)) (hy : ev L y = some (.int k i)) (hm : i = (m : Int)) (h : m < len) [hr : RdSl a xs Hs] (hne : 0 < xs.length) (hk : m * sz = kk) (hd : Nat.blt d n = true)
    (K : wo r P n ops os ((d, .pointer (elemA a kk)) :: L) Hs Q) : wo r P n ops (⟨some d, .indexAddr t x y, ty, pos, after, none⟩ :: os) L Hs Q := by
  obtain ⟨B, sh, hB⟩ := hr.get
  refine wo_read (by intro c; simp) hB hd (fun ac f w M h1 h2 hf t' le yy dst pos after guard => ?_) K
  obtain ⟨g, off, rfl, _⟩ := sla_cell sh t' le yy (fun e => by rw [e] at hne; exact absurd hne (by simp))
  rw [run_elemAddr ht hi hsz f hx hy hm h w dst pos after guard, hk]
  rfl
theorem r_eload {t : TypeId} {td : TypeDesc} {x : Operand} {a : Option Addr} {k : Nat} {xs : List Value} {v : Value} (ht : P.underlying t = some td) (hfl : flat td = true)
    (hx : ev L x = some (.pointer (elemA a k))) [hr : RdSl a xs Hs] (hv : xs[k]? = some v) (hd : Nat.blt d n = true)
    (K : wo r P n ops os ((d, v) :: L) Hs Q) : wo r P n ops (⟨some d, .load t x, ty, pos, after, none⟩ :: os) L Hs Q := by
  obtain ⟨B, sh, hB⟩ := hr.get
  have hlt := (List.getElem?_eq_some_iff.1 hv).1
  refine wo_read (by intro c; simp) hB hd (fun ac f w M h1 h2 hf t' le yy _ _ _ _ => ?_) K
  obtain ⟨g, off, rfl, hc⟩ := sla_cell sh t' le yy (fun e => by rw [e] at hlt; exact absurd hlt (by simp))
  have h3 := hc k hlt
  rw [hv] at h3
  simp [execOp, f.ev hx, elemA, Instr.loadAt, Instr.sureAddr, loadVar, isAgg_flat ht hfl, run_load, h3]
theorem run_ecells {w : World} {g off k sz : Nat} {xs vs : List Value} (hc : ∀ j, j < xs.length → w.cell? ⟨g, off + j, none⟩ = xs[j]?) (hl : k + sz ≤ xs.length) (hv : (xs.drop k).take sz = vs) :
    (loadCells ⟨g, off + k, none⟩ sz).run P w = .ok vs.toArray w := by
  subst hv
  have e : ((xs.drop k).take sz).length = sz := by simp; omega
  have := run_loadCells_list (P := P) w ⟨g, off + k, none⟩ ((xs.drop k).take sz) (fun j v hj => by
    have hlt : j < ((xs.drop k).take sz).length := (List.getElem?_eq_some_iff.1 hj).1
    rw [e] at hlt
    rw [addr_add, Nat.add_assoc, hc (k + j) (by omega), ← List.getElem?_drop]
    rw [List.getElem?_take_of_lt hlt] at hj
    exact hj)
  rw [e] at this
  exact this
theorem r_eloada {t : TypeId} {td : TypeDesc} {x : Operand} {a : Option Addr} {k : Nat} {xs vs : List Value} {ti : TypeInfo} {sz : Nat} (ht : P.underlying t = some td) (hfl : flat td = false) (hi : P.info? t = some ti) (hsz : ti.size = sz)
    (hx : ev L x = some (.pointer (elemA a k))) [hr : RdSl a xs Hs] (hl : k + sz ≤ xs.length) (hs0 : Nat.blt 0 sz = true) (hv : (xs.drop k).take sz = vs) (hd : Nat.blt d n = true)
    (K : wo r P n ops os ((d, .agg vs.toArray) :: L) Hs Q) : wo r P n ops (⟨some d, .load t x, ty, pos, after, none⟩ :: os) L Hs Q := by
  obtain ⟨B, sh, hB⟩ := hr.get
  have hpos : 0 < sz := by simpa using hs0
  refine wo_read (by intro c; simp) hB hd (fun ac f w M h1 h2 hf t' le yy _ _ _ _ => ?_) K
  obtain ⟨g, off, rfl, hc⟩ := sla_cell sh t' le yy (fun e => by rw [e] at hl; simp at hl; omega)
  have h3 := run_ecells (P := P) hc hl hv
  simp [execOp, f.ev hx, elemA, Instr.loadAt, Instr.sureAddr, loadVar, isAgg_agg ht hfl, sizeOf, typeInfo, program, Sem.run, hi, hsz, h3]
/-- A field of an element. -/
theorem r_efield {t : TypeId} {x : Operand} {i : Nat} {a : Option Addr} {k : Nat} {fs : Array Field} {fd : Field} {xs : List Value} (ht : P.underlying t = some (.struct fs)) (hf : fs[i]? = some fd) {ti : TypeInfo} (hi : P.info? fd.type = some ti) (hz : Nat.beq ti.size 0 = false)
    (hx : ev L x = some (.pointer (elemA a k))) {o kk : Nat} (ho : fd.offset = o) (hk : k + o = kk) [hr : RdSl a xs Hs] (hne : 0 < xs.length) (hd : Nat.blt d n = true)
    (K : wo r P n ops os ((d, .pointer (elemA a kk)) :: L) Hs Q) : wo r P n ops (⟨some d, .fieldAddr t x i, ty, pos, after, none⟩ :: os) L Hs Q := by
  obtain ⟨B, sh, hB⟩ := hr.get
  refine wo_read (by intro c; simp) hB hd (fun ac f w M h1 h2 hfr t' le yy dst pos after guard => ?_) K
  obtain ⟨g, off, rfl, _⟩ := sla_cell sh t' le yy (fun e => by rw [e] at hne; exact absurd hne (by simp))
  have := (pv_fieldAddr (n := n) (ty := ty) ht hf hi hz hx).run ac f w dst pos after guard
  rw [this, ho, Nat.add_assoc, hk]
  rfl
/-! The same in regions that draw. -/
theorem tl_elemAddr {t e : TypeId} {x y : Operand} {a : Option Addr} {k : IntKind} {i : Int} {m len cap kk : Nat} {ti : TypeInfo} {xs : List Value} {sz : Nat} {dst : Option Tmp} (ht : P.underlying t = some (.slice e)) (hi : P.info? e = some ti) (hsz : ti.size = sz)
    (hx : ev L x = some (.slice a len cap)) (hy : ev L y = some (.int k i)) (hm : i = (m : Int)) (h : m < len) [hr : RdSl a xs A] (hne : 0 < xs.length) (hk : m * sz = kk) : Tells P n ops ⟨dst, .indexAddr t x y, ty, pos, after, none⟩ A L (.pointer (elemA a kk)) := by
  obtain ⟨B, sh, hB⟩ := hr.get
  refine .inr ⟨.inl rfl, fun ac f w M hA hf dj s t' => ?_⟩
  obtain ⟨h1, le, yy⟩ := hB.sat s
  obtain ⟨g, off, rfl, _⟩ := sla_cell sh t' le yy (fun e => by rw [e] at hne; exact absurd hne (by simp))
  rw [run_elemAddr ht hi hsz f hx hy hm h w dst pos after none, hk]
  rfl
theorem tl_eload {t : TypeId} {td : TypeDesc} {x : Operand} {a : Option Addr} {k : Nat} {xs : List Value} {v : Value} {dst : Option Tmp} (ht : P.underlying t = some td) (hfl : flat td = true)
    (hx : ev L x = some (.pointer (elemA a k))) [hr : RdSl a xs A] (hv : xs[k]? = some v) : Tells P n ops ⟨dst, .load t x, ty, pos, after, none⟩ A L v := by
  obtain ⟨B, sh, hB⟩ := hr.get
  have hlt := (List.getElem?_eq_some_iff.1 hv).1
  refine .inr ⟨.inl rfl, fun ac f w M hA hf dj s t' => ?_⟩
  obtain ⟨h1, le, yy⟩ := hB.sat s
  obtain ⟨g, off, rfl, hc⟩ := sla_cell sh t' le yy (fun e => by rw [e] at hlt; exact absurd hlt (by simp))
  have h3 := hc k hlt
  rw [hv] at h3
  simp [execOp, f.ev hx, elemA, Instr.loadAt, Instr.sureAddr, loadVar, isAgg_flat ht hfl, run_load, h3]
theorem tl_eloada {t : TypeId} {td : TypeDesc} {x : Operand} {a : Option Addr} {k : Nat} {xs vs : List Value} {ti : TypeInfo} {sz : Nat} {dst : Option Tmp} (ht : P.underlying t = some td) (hfl : flat td = false) (hi : P.info? t = some ti) (hsz : ti.size = sz)
    (hx : ev L x = some (.pointer (elemA a k))) [hr : RdSl a xs A] (hl : k + sz ≤ xs.length) (hs0 : Nat.blt 0 sz = true) (hv : (xs.drop k).take sz = vs) : Tells P n ops ⟨dst, .load t x, ty, pos, after, none⟩ A L (.agg vs.toArray) := by
  obtain ⟨B, sh, hB⟩ := hr.get
  have hpos : 0 < sz := by simpa using hs0
  refine .inr ⟨.inl rfl, fun ac f w M hA hf dj s t' => ?_⟩
  obtain ⟨h1, le, yy⟩ := hB.sat s
  obtain ⟨g, off, rfl, hc⟩ := sla_cell sh t' le yy (fun e => by rw [e] at hl; simp at hl; omega)
  have h3 := run_ecells (P := P) hc hl hv
  simp [execOp, f.ev hx, elemA, Instr.loadAt, Instr.sureAddr, loadVar, isAgg_agg ht hfl, sizeOf, typeInfo, program, Sem.run, hi, hsz, h3]
theorem tl_efield {t : TypeId} {x : Operand} {i : Nat} {a : Option Addr} {k : Nat} {fs : Array Field} {fd : Field} {xs : List Value} {dst : Option Tmp} (ht : P.underlying t = some (.struct fs)) (hf : fs[i]? = some fd) {ti : TypeInfo} (hi : P.info? fd.type = some ti) (hz : Nat.beq ti.size 0 = false)
    (hx : ev L x = some (.pointer (elemA a k))) {o kk : Nat} (ho : fd.offset = o) (hk : k + o = kk) [hr : RdSl a xs A] (hne : 0 < xs.length) : Tells P n ops ⟨dst, .fieldAddr t x i, ty, pos, after, none⟩ A L (.pointer (elemA a kk)) := by
  obtain ⟨B, sh, hB⟩ := hr.get
  refine .inr ⟨.inl rfl, fun ac f w M hA hfr dj s t' => ?_⟩
  obtain ⟨h1, le, yy⟩ := hB.sat s
  obtain ⟨g, off, rfl, _⟩ := sla_cell sh t' le yy (fun e => by rw [e] at hne; exact absurd hne (by simp))
  have := (pv_fieldAddr (n := n) (ty := ty) ht hf hi hz hx).run ac f w dst pos after none
  rw [this, ho, Nat.add_assoc, hk]
  rfl

/-- One's own row is given up for good. -/
theorem row_freeze {e : TypeId} {sz k n' c' : Nat} {a : Option Addr} {xs : List Value} {w : World} {M : Kn} {h1 h : Res} (x : RowAt e sz (.slice a n' c') k xs M h1) (d : h1.dj h) (t : Sat w M (h1.add h)) :
    ∃ M' : Kn, M.le M' ∧ SlIAt a xs M' Res.emp ∧ Sat w M' h := by
  rcases x with ⟨_, _, e1⟩ | ⟨g, cap, cur, e1, e2, e3, e4, e5, e6, e7⟩
  · exact ⟨M, Kn.le_refl _, .inl e1, t.le (Res.le_add_right d)⟩
  · cases e1
    subst e7
    obtain ⟨M', le, hi, t'⟩ := freeze_sat d t
    exact ⟨M', le, .inr ⟨g, 0, cur, e, (0, 0), rfl, hi, by rw [List.drop_zero, e5]; exact e6⟩, t'⟩
theorem wo_freezeRow {e : TypeId} {sz k n' c' : Nat} {a : Option Addr} {xs : List Value} {Rs : List HP} (hp : Pick (Row e sz (.slice a n' c') k xs) Hs Rs) (K : wo r P n ops os L (SlI a xs :: Rs) Q) : wo r P n ops os L Hs Q := by
  intro ac M m s w hf dj t
  obtain ⟨g1, g2, dg, e, y, s2⟩ := s.2
  subst e
  obtain ⟨h1, h2, d12, e, hb, sr⟩ := hp.sat s2
  subst e
  obtain ⟨d1, d2⟩ := Res.dj_add_right.1 dg
  obtain ⟨f1, f2⟩ := Res.dj_add_left.1 dj
  obtain ⟨f3, f4⟩ := Res.dj_add_left.1 f2
  have eq : (g1.add (h1.add h2)).add hf = h1.add ((g1.add h2).add hf) := by
    rw [← Res.add_assoc g1, Res.add_comm d1]
    simp only [Res.add_assoc]
  rw [eq] at t
  obtain ⟨M', le, hi, t'⟩ := row_freeze hb (Res.dj_add_right.2 ⟨Res.dj_add_right.2 ⟨Res.dj_comm d1, d12⟩, f3⟩) t
  exact wo_on K (a := ac) (M := M') (h := g1.add h2) ⟨s.1, g1, h2, d2, rfl, (Al _).mono le y, Res.emp, h2, Res.emp_dj _, rfl, hi, SL.mono le sr⟩ le (Res.dj_add_left.2 ⟨f1, f4⟩) t'
theorem wc_freezeRow {e : TypeId} {sz k n' c' : Nat} {a : Option Addr} {xs : List Value} {Rs : List HP} (hp : Pick (Row e sz (.slice a n' c') k xs) Hs Rs) (K : wc r P n c L (SlI a xs :: Rs) Q) : wc r P n c L Hs Q := by
  intro ac M m s w hf dj t
  obtain ⟨g1, g2, dg, e, y, s2⟩ := s.2
  subst e
  obtain ⟨h1, h2, d12, e, hb, sr⟩ := hp.sat s2
  subst e
  obtain ⟨d1, d2⟩ := Res.dj_add_right.1 dg
  obtain ⟨f1, f2⟩ := Res.dj_add_left.1 dj
  obtain ⟨f3, f4⟩ := Res.dj_add_left.1 f2
  have eq : (g1.add (h1.add h2)).add hf = h1.add ((g1.add h2).add hf) := by
    rw [← Res.add_assoc g1, Res.add_comm d1]
    simp only [Res.add_assoc]
  rw [eq] at t
  obtain ⟨M', le, hi, t'⟩ := row_freeze hb (Res.dj_add_right.2 ⟨Res.dj_add_right.2 ⟨Res.dj_comm d1, d12⟩, f3⟩) t
  exact wout_of (K ac M' (g1.add h2) ⟨s.1, g1, h2, d2, rfl, (Al _).mono le y, Res.emp, h2, Res.emp_dj _, rfl, hi, SL.mono le sr⟩) le (Res.dj_add_left.2 ⟨f1, f4⟩) t'

/-- append(s, x...), whatever lets x be read. -/
theorem opt_appendA {dst : Option Tmp} {t e : TypeId} {x y : Operand} {i : TypeInfo} {z : Value} (ht : P.underlying t = some (.slice e)) (hi : P.info? e = some i) (hz : i.zero = some z) (hzs : Nat.beq z.cells.size i.size = true) {sz : Nat} (hsz : i.size = sz) (hs0 : Nat.blt 0 sz = true) {bytes : Nat} (hby : i.bytes = bytes)
    {v : Value} {k : Nat} {xs : List Value} {a : Option Addr} {m c : Nat} {news : List Value} {B : HP} (hx : ev L x = some v) (hy : ev L y = some (.slice a m c)) (sh : SlA B a news)
    (hl : news.length = m * sz) (h1 : news.all oneCell = true) (hbytes : (k + m) * bytes ≤ 140737488355328) (h63 : k + m ≤ maxLen) :
    OpT r P n ⟨dst, .call ⟨.builtin .append, #[x, y], #[t, t]⟩, ty, pos, after, none⟩ A L [Row e sz v k xs, B] (fun v' => v') (fun v' => ∃ a c, v' = .slice a (k + m) c) (fun v' => [Row e sz v' (k + m) (xs ++ news), B]) := by
  subst hsz; subst hby
  have hpos : 0 < i.size := by simpa using hs0
  intro ac f w M h hA hf dj dj' s sA t'
  obtain ⟨g1, g2, dg, e1, hrow, s2⟩ := s
  obtain ⟨g3, g4, dg2, e2, hB, _⟩ := s2
  subst e2; subst e1
  obtain ⟨d1, d2⟩ := Res.dj_add_right.1 dg
  obtain ⟨d3, d4⟩ := Res.dj_add_left.1 dj
  obtain ⟨d5, d6⟩ := Res.dj_add_left.1 dj'
  obtain ⟨d7, d8⟩ := Res.dj_add_left.1 d5
  have eq : ((g1.add (g3.add g4)).add hA).add hf = g1.add (((g3.add g4).add hA).add hf) := by simp only [Res.add_assoc]
  by_cases hne : news = []
  · subst hne
    have hm : m = 0 := by
      rcases Nat.mul_eq_zero.1 hl.symm with h | h
      · exact h
      · omega
    subst hm
    have hr : (Builtin.append_ #[t, t] ty #[v, .slice a 0 c]).run P w = .ok v w := by
      have hl0 : ∀ b : Addr, (loadCells b 0).run P w = .ok #[] w := fun b => by simpa using run_loadCells_list (P := P) w b [] (by simp)
      rcases hrow with ⟨rfl, rfl, _⟩ | ⟨g, cap, cur, rfl, hkc, _, _, _, _, _⟩
      · cases a <;> simp [Builtin.append_, run_underlying ht, sizeOf, typeInfo, hi, Builtin.lenOf, Builtin.firstCells, hl0]
      · cases a <;> simp [Builtin.append_, run_underlying ht, sizeOf, typeInfo, hi, Builtin.lenOf, Builtin.firstCells, hl0, hkc, storeCells]
    have hrun : (execOp ac.eval ⟨dst, .call ⟨.builtin .append, #[x, y], #[t, t]⟩, ty, pos, after, none⟩).run P w = .ok (.value v) w := by
      simp [execOp, resolve, f.ev hx, f.ev hy, invoke, builtin, hr]
    rw [hrun]
    refine ⟨v, M, g1.add (g3.add g4), rfl, RowAt.slice (M := M) hrow, Kn.le_refl _, dj, dj', t', g1, g3.add g4, dg, rfl, ?_, g3, g4, dg2, rfl, hB, trivial⟩
    simpa using hrow
  · have hle : g3.le (g1.add (g3.add g4)) := Res.le_trans (Res.le_add_left g3 g4) (Res.le_add_right dg)
    have t3 : Sat w M ((g1.add (g3.add g4)).add (hA.add hf)) := by rw [← Res.add_assoc]; exact t'
    obtain ⟨g, off, rfl, hc⟩ := sla_cell sh t3 hle hB hne
    rw [eq] at t'
    obtain ⟨v', w', h', hr, djn, sn, rn⟩ := run_append_row (P := P) ht hi hz (Nat.eq_of_beq_eq_true hzs) hpos (hf := ((g3.add g4).add hA).add hf) (Res.dj_add_right.2 ⟨Res.dj_add_right.2 ⟨dg, d3⟩, d7⟩) t' hrow hl (fun j u hj => by
      rw [addr_add, hc j (List.getElem?_eq_some_iff.1 hj).1]; exact hj) (fun u hu => List.all_eq_true.1 h1 u hu) hbytes h63 (ty := ty) (c := c)
    have hrun : (execOp ac.eval ⟨dst, .call ⟨.builtin .append, #[x, y], #[t, t]⟩, ty, pos, after, none⟩).run P w = .ok (.value v') w' := by
      simp [execOp, resolve, f.ev hx, f.ev hy, invoke, builtin, hr]
    rw [hrun]
    obtain ⟨y1, y2⟩ := Res.dj_add_right.1 djn
    obtain ⟨y3, y4⟩ := Res.dj_add_right.1 y1
    refine ⟨v', M, h'.add (g3.add g4), rfl, rn.slice, Kn.le_refl _, Res.dj_add_left.2 ⟨y4, d4⟩, Res.dj_add_left.2 ⟨Res.dj_add_left.2 ⟨y2, d8⟩, d6⟩, ?_, h', g3.add g4, y3, rfl, rn, g3, g4, dg2, rfl, hB, trivial⟩
    have eq2 : ((h'.add (g3.add g4)).add hA).add hf = h'.add (((g3.add g4).add hA).add hf) := by simp only [Res.add_assoc]
    rw [eq2]; exact sn
end
end Go.Proofs.Ytimafngkifakfaa
