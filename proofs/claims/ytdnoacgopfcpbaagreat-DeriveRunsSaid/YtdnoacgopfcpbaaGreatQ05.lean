/- Texts of this proof, put together: Row1, Sli, Scope, MapS, Eqs. -/
import Derived.Laws.MakeOwn
import Derived.Laws.CopyRow
import Derived.Maps.RangeRun
import Derived.Test.YtdnoacgopfcpbaaGreatQ04
set_option linter.unusedVariables false
set_option linter.unusedSimpArgs false
namespace Go.Proofs.YtdnoacgopfcpbaaGreat
section
theorem sl_row {e : TypeId} {sz : Nat} {v : Value} {k : Nat} {xs : List Value} {Hs : List HP} {M : Kn} {h : Res} (s : SL (Row e sz v k xs :: Hs) M h) :
    (v = .slice none 0 0 ∧ k = 0 ∧ xs = [] ∧ SL Hs M h) ∨ ∃ g cap cur, v = .slice (some ⟨g, 0, none⟩) k cap ∧ k ≤ cap ∧ cap ≤ maxLen ∧ List.length cur = cap * sz ∧ xs.length = k * sz ∧ cur.take (k * sz) = xs ∧ SL (Ce g e cur :: Hs) M h := by
 obtain ⟨h1, h2, d, e', a, t⟩ := s
 rcases a with ⟨a, b, c⟩ | ⟨g, cap, cur, a, b, c, d', f, i, j⟩
 · refine .inl ⟨a, b, c, ?_⟩
   subst e'
   exact SL.more d t
 · exact .inr ⟨g, cap, cur, a, b, c, d', f, i, h1, h2, d, e', j, t⟩
theorem pick_left {A : HP} {B B' C : List HP} (u : Pick A B B') : Pick A (B ++ C) (B' ++ C) := by
 induction u with
 | here => exact .here
 | keep p => exact .keep p
 | there _ ih => exact .there ih
theorem pick_right {A : HP} {B C C' : List HP} (u : Pick A C C') : Pick A (B ++ C) (B ++ C') := by
 induction B with
 | nil => exact u
 | cons _ _ ih => exact .there ih
/-- A block that one has, found by its number; a row, by its slice. -/
class OwnC (b : Nat) (T : outParam TypeId) (l : outParam (List Value)) (Hs : List HP) (Rs : outParam (List HP)) : Prop where
 get : Pick (Ce b T l) Hs Rs
instance (priority := 1000) {b : Nat} {T : TypeId} {l : List Value} {r : List HP} : OwnC b T l (Ce b T l :: r) r := ⟨.here⟩
instance (priority := 100) {b : Nat} {T : TypeId} {l : List Value} {B : HP} {r s : List HP} [h : OwnC b T l r s] : OwnC b T l (B :: r) (B :: s) := ⟨.there h.get⟩
instance (priority := 900) {b : Nat} {T : TypeId} {l : List Value} {B B' C : List HP} [h : OwnC b T l B B'] : OwnC b T l (B ++ C) (B' ++ C) := ⟨pick_left h.get⟩
instance (priority := 800) {b : Nat} {T : TypeId} {l : List Value} {B C C' : List HP} [h : OwnC b T l C C'] : OwnC b T l (B ++ C) (B ++ C') := ⟨pick_right h.get⟩
class RowC (v : Value) (e : outParam TypeId) (sz : outParam Nat) (n : outParam Nat) (xs : outParam (List Value)) (Hs : List HP) (Rs : outParam (List HP)) : Prop where
 get : Pick (Row e sz v n xs) Hs Rs
instance (priority := 1000) {v : Value} {e : TypeId} {sz n : Nat} {xs : List Value} {r : List HP} : RowC v e sz n xs (Row e sz v n xs :: r) r := ⟨.here⟩
instance (priority := 100) {v : Value} {e : TypeId} {sz n : Nat} {xs : List Value} {B : HP} {r s : List HP} [h : RowC v e sz n xs r s] : RowC v e sz n xs (B :: r) (B :: s) := ⟨.there h.get⟩
instance (priority := 900) {v : Value} {e : TypeId} {sz n : Nat} {xs : List Value} {B B' C : List HP} [h : RowC v e sz n xs B B'] : RowC v e sz n xs (B ++ C) (B' ++ C) := ⟨pick_left h.get⟩
instance (priority := 800) {v : Value} {e : TypeId} {sz n : Nat} {xs : List Value} {B C C' : List HP} [h : RowC v e sz n xs C C'] : RowC v e sz n xs (B ++ C) (B ++ C') := ⟨pick_right h.get⟩
theorem ent_pick1 {A : HP} {Hs Rs : List HP} (h : Pick A Hs Rs) : Ent Hs (A :: Rs) := Picks.ent (.cons h .nil)
theorem row_norm {v : Value} {e sz n n' : Nat} {xs xs' : List Value} {Hs Rs : List HP} [q : RowC v e sz n xs Hs Rs] (hn : n = n') (hx : xs = xs') : Ent Hs (Row e sz v n' xs' :: Rs) := by
 subst hn; subst hx; exact ent_pick1 q.get
theorem row_norm1 {v : Value} {e sz n n' : Nat} {xs xs' : List Value} {Hs Rs : List HP} [q : RowC v e sz n xs Hs Rs] (hn : n = n') (hx : xs = xs') : Ent Hs [Row e sz v n' xs'] := (row_norm hn hx).trans ⟨fun ⟨h1, h2, d, e, a, t⟩ => ⟨h1, h2, d, e, a, trivial⟩⟩
section
variable {r : Option Nat} {P : Program} {n : Nat} {ops : Array Oper} {os : List Oper} {A : List HP} {L : Loc} {Hs : List HP} {Q : Out} {ty : TypeId} {d : Nat} {pos : String} {after : Array Edge} {c : Code}
theorem wc_row {e : TypeId} {sz : Nat} {v : Value} {k : Nat} {xs : List Value} (hn : v = .slice none 0 0 → k = 0 → xs = [] → wc r P n c L Hs Q)
    (ho : ∀ g cap cur, v = .slice (some ⟨g, 0, none⟩) k cap → k ≤ cap → cap ≤ maxLen → List.length cur = cap * sz → xs.length = k * sz → cur.take (k * sz) = xs → wc r P n c L (Ce g e cur :: Hs) Q) : wc r P n c L (Row e sz v k xs :: Hs) Q := by
 intro a M m s
 obtain ⟨g1, g2, dg, e1, y, s2⟩ := s.2
 rcases sl_row s2 with ⟨x1, x2, x3, s3⟩ | ⟨g, cap, cur, x1, x2, x3, x4, x5, x6, s3⟩
 · exact hn x1 x2 x3 a M m ⟨s.1, g1, g2, dg, e1, y, s3⟩
 · exact ho g cap cur x1 x2 x3 x4 x5 x6 a M m ⟨s.1, g1, g2, dg, e1, y, s3⟩
theorem wo_row {e : TypeId} {sz : Nat} {v : Value} {k : Nat} {xs : List Value} (hn : v = .slice none 0 0 → k = 0 → xs = [] → wo r P n ops os L Hs Q)
    (ho : ∀ g cap cur, v = .slice (some ⟨g, 0, none⟩) k cap → k ≤ cap → cap ≤ maxLen → List.length cur = cap * sz → xs.length = k * sz → cur.take (k * sz) = xs → wo r P n ops os L (Ce g e cur :: Hs) Q) : wo r P n ops os L (Row e sz v k xs :: Hs) Q := by
 intro a M m s
 obtain ⟨g1, g2, dg, e1, y, s2⟩ := s.2
 rcases sl_row s2 with ⟨x1, x2, x3, s3⟩ | ⟨g, cap, cur, x1, x2, x3, x4, x5, x6, s3⟩
 · exact hn x1 x2 x3 a M m ⟨s.1, g1, g2, dg, e1, y, s3⟩
 · exact ho g cap cur x1 x2 x3 x4 x5 x6 a M m ⟨s.1, g1, g2, dg, e1, y, s3⟩
theorem ent_row {e : TypeId} {sz g k cap : Nat} {xs cur : List Value} {Rs : List HP} [p : PickC (Ce g e cur) Hs Rs] (hk : k ≤ cap) (hc : cap ≤ maxLen) (hl : cur.length = cap * sz) (hx : xs.length = k * sz) (ht : cur.take (k * sz) = xs) : Ent Hs (Row e sz (.slice (some ⟨g, 0, none⟩) k cap) k xs :: Rs) := ⟨fun s => by
 obtain ⟨h1, h2, d, e', a, t⟩ := p.get.sat s
 exact ⟨h1, h2, d, e', .inr ⟨g, cap, cur, rfl, hk, hc, hl, hx, ht, a⟩, t⟩⟩
theorem pv_usd_row {x : Operand} {ts : Array TypeId} {a : Addr} {k c : Nat} (hx : ev L x = some (.slice (some a) k c)) (hc : c ≠ 0) : PV P n L (.call ⟨.builtin .unsafeSliceData, #[x], ts⟩) ty (.pointer (some a)) :=
 ⟨by intro c; simp, fun ac f w _ _ _ _ => by
  simp [execOp, resolve, f.ev hx, invoke, builtin, Lib.run_unsafeSliceData_row (P := P) w ts ty a k c hc]⟩
theorem pv_usd_nil {x : Operand} {ts : Array TypeId} {k c : Nat} (hx : ev L x = some (.slice none k c)) : PV P n L (.call ⟨.builtin .unsafeSliceData, #[x], ts⟩) ty (.pointer none) :=
 ⟨by intro c; simp, fun ac f w _ _ _ _ => by
  simp [execOp, resolve, f.ev hx, invoke, builtin, Lib.run_unsafeSliceData_nil (P := P) w ts ty k c]⟩
theorem pv_us_none {x y : Operand} {pt it : TypeId} {p : Option Addr} (hx : ev L x = some (.pointer p)) (hy : ev L y = some (vI 0)) : PV P n L (.call ⟨.builtin .unsafeString, #[x, y], #[pt, it]⟩) ty (vS []) :=
 ⟨by intro c; simp, fun ac f w _ _ _ _ => by
  simp [execOp, resolve, f.ev hx, f.ev hy, invoke, builtin, Lib.run_unsafeString_none (P := P) w pt it ty p]; rfl⟩
theorem opt_us_row {dst : Option Tmp} {x y : Operand} {pt it e : TypeId} {g : Nat} {cur : List Value} {l : List UInt8} (hp : P.underlying pt = some (.pointer e)) (hc : P.cellsOf e = 1) (hx : ev L x = some (.pointer (some ⟨g, 0, none⟩))) (hy : ev L y = some (vI l.length))
    (h0 : l ≠ []) (h63 : l.length ≤ 9223372036854775807) (hcur : cur.take l.length = vUs l) :
    OpT r P n ⟨dst, .call ⟨.builtin .unsafeString, #[x, y], #[pt, it]⟩, ty, pos, after, none⟩ A L [Ce g e cur] (fun _ : Unit => vS l) (fun _ => True) (fun _ => []) := by
 intro a f w M h hA hf dj dj' s sA t'
 obtain ⟨g1, g2, dg, e1, hce, _⟩ := s
 have hce' : g1 = Res.one g _ := hce
 subst hce'
 subst e1
 have hb : w.heap[g]? = some (.cells cur.toArray e (0, 0)) := t'.ow _ _ (by simp [Res.add, Res.one])
 have hll : l.length ≤ cur.length := by have := congrArg List.length hcur; simp [vUs] at this; omega
 have hr := Lib.run_unsafeString_row (P := P) w pt it ty e hp hc g cur.length (by simp [World.shape?, hb]) l h0 hll h63 (fun j u hj => by
  have hlt := (List.getElem?_eq_some_iff.1 hj).1
  rw [addr_add, Nat.zero_add]
  have e2 : (cur.take l.length)[j]? = (vUs l)[j]? := by rw [hcur]
  rw [List.getElem?_take_of_lt hlt] at e2
  simp only [World.cell?, hb]
  simp only [List.getElem?_toArray, e2, vUs, List.getElem?_map, hj]
  rfl)
 have hrun : (execOp a.eval ⟨dst, .call ⟨.builtin .unsafeString, #[x, y], #[pt, it]⟩, ty, pos, after, none⟩).run P w = .ok (.value (vS l)) (w.freeze ⟨g, 0, none⟩ l.length) := by
  simp [execOp, resolve, f.ev hx, f.ev hy, invoke, builtin, hr]
 rw [hrun]
 obtain ⟨d3, d4⟩ := Res.dj_add_left.1 dj
 obtain ⟨d5, d6⟩ := Res.dj_add_left.1 dj'
 obtain ⟨d7, d8⟩ := Res.dj_add_left.1 d5
 have eq : (((Res.one g (.cells cur.toArray e (0, 0))).add g2).add hA).add hf = (Res.one g (.cells cur.toArray e (0, 0))).add ((g2.add hA).add hf) := by simp only [Res.add_assoc]
 rw [eq] at t'
 have djx : (Res.one g (.cells cur.toArray e (0, 0))).dj ((g2.add hA).add hf) := Res.dj_add_right.2 ⟨Res.dj_add_right.2 ⟨dg, d3⟩, d7⟩
 have hl0 : l.length ≠ 0 := by simpa using h0
 have t2 : Sat (w.freeze ⟨g, 0, none⟩ l.length) M ((Res.one g (.cells cur.toArray e (0, l.length))).add ((g2.add hA).add hf)) := by
  refine Sat.setBlk djx t' ?_ (fun i hi => ?_) ⟨?_, ?_, ?_, ?_, ?_⟩
  · simp [World.freeze, hl0, Array.getElem?_modify, hb]
  · simp [World.freeze, hl0, Array.getElem?_modify, Ne.symm hi]
  all_goals simp [World.freeze, hl0]
 refine ⟨(), M, g2, rfl, trivial, Kn.le_refl _, d4, Res.dj_add_left.2 ⟨d8, d6⟩, t2.le (Res.le_add_right ?_), trivial⟩
 exact dj_one_any djx
end
end
section
/-- An address, so many cells on. -/
def elemA (a : Option Addr) (k : Nat) : Option Addr := match a with | some ⟨b, off, _⟩ => some ⟨b, off + k, none⟩ | none => none
/-- What lets cells behind an address be read. -/
def SlA (A : HP) (a : Option Addr) (xs : List Value) : Prop :=
 ∀ {M : Kn} {h : Res}, A.at_ M h → xs = [] ∨ ∃ g off l T fz, a = some ⟨g, off, none⟩ ∧ (M.im g = some (.cells (List.toArray l) T fz) ∨ h g = some (.cells (List.toArray l) T fz)) ∧ (l.drop off).take xs.length = xs
def SlIAt (a : Option Addr) (xs : List Value) (M : Kn) (_ : Res) : Prop := xs = [] ∨ ∃ g off l T fz, a = some ⟨g, off, none⟩ ∧ M.im g = some (.cells (List.toArray l) T fz) ∧ (l.drop off).take xs.length = xs
/-- Cells that never turn any more. -/
def SlI (a : Option Addr) (xs : List Value) : HP := ⟨SlIAt a xs, fun le e => e.imp id fun ⟨g, off, l, T, fz, h1, h2, h3⟩ => ⟨g, off, l, T, fz, h1, le.1 _ _ h2, h3⟩⟩
theorem SlI.pers (a : Option Addr) (xs : List Value) : Pers (SlI a xs) := fun e => e
instance {a : Option Addr} {xs : List Value} : PersC (SlI a xs) := ⟨SlI.pers a xs⟩
theorem sla_sli {a : Option Addr} {xs : List Value} : SlA (SlI a xs) a xs := fun e => e.imp id fun ⟨g, off, l, T, fz, h1, h2, h3⟩ => ⟨g, off, l, T, fz, h1, .inl h2, h3⟩
theorem sla_row {e : TypeId} {sz k n c : Nat} {a : Option Addr} {xs : List Value} : SlA (Row e sz (.slice a n c) k xs) a xs := fun x => by
 rcases x with ⟨_, _, h⟩ | ⟨g, cap, cur, h1, h2, h3, h4, h5, h6, h7⟩
 · exact .inl h
 · cases h1
   refine .inr ⟨g, 0, cur, e, (0, 0), rfl, .inr (by rw [h7]; exact Res.one_same _ _), ?_⟩
   rw [List.drop_zero, h5]; exact h6
theorem sla_ce {b : Nat} {T : TypeId} {l : List Value} : SlA (Ce b T l) (some ⟨b, 0, none⟩) l := fun x => .inr ⟨b, 0, l, T, (0, 0), rfl, .inr (by have : _ = Res.one b _ := x; rw [this]; exact Res.one_same _ _), by simp⟩
theorem sla_ice {b : Nat} {T : TypeId} {l : List Value} : SlA (ICe b T l) (some ⟨b, 0, none⟩) l := fun x => .inr ⟨b, 0, l, T, (0, 0), rfl, .inl x, by simp⟩
class RdSl (a : Option Addr) (xs : outParam (List Value)) (Hs : List HP) : Prop where
 get : ∃ A : HP, SlA A a xs ∧ Has A Hs
instance (priority := 1000) {a : Option Addr} {xs : List Value} {r : List HP} : RdSl a xs (SlI a xs :: r) := ⟨⟨_, sla_sli, .here⟩⟩
instance (priority := 1000) {e : TypeId} {sz k n c : Nat} {a : Option Addr} {xs : List Value} {r : List HP} : RdSl a xs (Row e sz (.slice a n c) k xs :: r) := ⟨⟨_, sla_row, .here⟩⟩
instance (priority := 1000) {b : Nat} {T : TypeId} {l : List Value} {r : List HP} : RdSl (some ⟨b, 0, none⟩) l (Ce b T l :: r) := ⟨⟨_, sla_ce, .here⟩⟩
instance (priority := 1000) {b : Nat} {T : TypeId} {l : List Value} {r : List HP} : RdSl (some ⟨b, 0, none⟩) l (ICe b T l :: r) := ⟨⟨_, sla_ice, .here⟩⟩
instance (priority := 100) {a : Option Addr} {xs : List Value} {B : HP} {r : List HP} [h : RdSl a xs r] : RdSl a xs (B :: r) := ⟨let ⟨A, s, p⟩ := h.get; ⟨A, s, .there p⟩⟩
theorem has_left {A : HP} {B C : List HP} (h : Has A B) : Has A (B ++ C) := by
 induction h with
 | here => exact .here
 | there _ ih => exact .there ih
theorem has_right {A : HP} {B C : List HP} (h : Has A C) : Has A (B ++ C) := by
 induction B with
 | nil => exact h
 | cons _ _ ih => exact .there ih
instance (priority := 900) {a : Option Addr} {xs : List Value} {B C : List HP} [h : RdSl a xs B] : RdSl a xs (B ++ C) := ⟨let ⟨A, s, p⟩ := h.get; ⟨A, s, has_left p⟩⟩
instance (priority := 800) {a : Option Addr} {xs : List Value} {B C : List HP} [h : RdSl a xs C] : RdSl a xs (B ++ C) := ⟨let ⟨A, s, p⟩ := h.get; ⟨A, s, has_right p⟩⟩
theorem sla_cell {A : HP} {a : Option Addr} {xs : List Value} (sh : SlA A a xs) {w : World} {M : Kn} {h hf h1 : Res} (t : Sat w M (h.add hf)) (le : h1.le h) (x : A.at_ M h1) (hne : xs ≠ []) :
    ∃ g off, a = some ⟨g, off, none⟩ ∧ ∀ j, j < xs.length → w.cell? ⟨g, off + j, none⟩ = xs[j]? := by
 rcases sh x with e | ⟨g, off, l, T, fz, e1, e2, e3⟩
 · exact absurd e hne
 · have hb : w.heap[g]? = some (.cells l.toArray T fz) := by
     rcases e2 with e | e
     · exact t.im _ _ e
     · exact t.ow _ _ (Res.le_add_left _ _ _ _ (le _ _ e))
   refine ⟨g, off, e1, fun j hj => ?_⟩
   have h4 : ((l.drop off).take xs.length)[j]? = xs[j]? := by rw [e3]
   rw [List.getElem?_take_of_lt hj, List.getElem?_drop] at h4
   simp [World.cell?, hb, h4]
theorem get_map {α : Type} {f : α → Value} {l : List α} {m : Nat} (h : m < l.length) : (l.map f)[m]? = some (f l[m]) := by simp [h]
theorem flat_len {α : Type} {f : α → List Value} {sz : Nat} (hf : ∀ x, (f x).length = sz) (l : List α) : (l.flatMap f).length = l.length * sz := by
 induction l with
 | nil => simp
 | cons x l ih => simp [List.flatMap_cons, ih, hf, Nat.add_mul]; omega
theorem get_flat {α : Type} {f : α → List Value} {sz : Nat} (hf : ∀ x, (f x).length = sz) {l : List α} {m : Nat} (h : m < l.length) : ((l.flatMap f).drop (m * sz)).take sz = f l[m] := by
 induction l generalizing m with
 | nil => simp at h
 | cons x l ih =>
   cases m with
   | zero => simp only [List.flatMap_cons, Nat.zero_mul, List.drop_zero, List.getElem_cons_zero]; rw [← hf x]; exact List.take_left
   | succ m =>
     simp only [List.flatMap_cons, List.getElem_cons_succ]
     have e : (m + 1) * sz = (f x).length + m * sz := by rw [hf, Nat.add_mul]; omega
     rw [e, ← List.drop_drop, List.drop_left]
     exact ih (by simpa using h)
section
variable {r : Option Nat} {P : Program} {n : Nat} {ops : Array Oper} {os : List Oper} {A : List HP} {L : Loc} {Hs : List HP} {Q : Out} {ty : TypeId} {d : Nat} {pos : String} {after : Array Edge} {c : Code}
theorem run_elemAddr {t e : TypeId} {x y : Operand} {k : IntKind} {i : Int} {m len cap g off : Nat} {ti : TypeInfo} (ht : P.underlying t = some (.slice e)) (hi : P.info? e = some ti) {sz : Nat} (hsz : ti.size = sz)
    {a : Act} (f : Fr n L a) (hx : ev L x = some (.slice (some ⟨g, off, none⟩) len cap)) (hy : ev L y = some (.int k i)) (hm : i = (m : Int)) (h : m < len) (w : World) (dst : Option Tmp) (pos : String) (after : Array Edge) (guard : Option (Nat × Bool)) :
    (execOp a.eval ⟨dst, .indexAddr t x y, ty, pos, after, guard⟩).run P w = .ok (.value (.pointer (some ⟨g, off + m * sz, none⟩))) w := by
 subst hm
 have := (pv_indexAddr (n := n) (ty := ty) ht hi hx hy (by omega) (by omega)).run a f w dst pos after guard
 rw [this]; simp [hsz]
theorem r_elemAddr {t e : TypeId} {x y : Operand} {a : Option Addr} {k : IntKind} {i : Int} {m len cap kk : Nat} {ti : TypeInfo} {xs : List Value} {sz : Nat} (ht : P.underlying t = some (.slice e)) (hi : P.info? e = some ti) (hsz : ti.size = sz)
    (hx : ev L x = some (.slice a len cap)) (hy : ev L y = some (.int k i)) (hm : i = (m : Int)) (h : m < len) [hr : RdSl a xs Hs] (hne : 0 < xs.length) (hk : m * sz = kk) (hd : Nat.blt d n = true)
    (K : wo r P n ops os ((d, .pointer (elemA a kk)) :: L) Hs Q) : wo r P n ops (⟨some d, .indexAddr t x y, ty, pos, after, none⟩ :: os) L Hs Q := by
 obtain ⟨B, sh, hB⟩ := hr.get
 refine wo_read (by intro c; simp) hB hd (fun ac f w M h1 h2 hf t' le yy dst pos after guard => ?_) K
 obtain ⟨g, off, rfl, _⟩ := sla_cell sh t' le yy (fun e => by rw [e] at hne; exact absurd hne (by simp))
 rw [run_elemAddr ht hi hsz f hx hy hm h w dst pos after guard, hk]
 rfl
theorem r_eload {t : TypeId} {td : TypeDesc} {x : Operand} {a : Option Addr} {k : Nat} {xs : List Value} {v : Value} (ht : P.underlying t = some td) (hfl : flat td = true)
    (hx : ev L x = some (.pointer (elemA a k))) [hr : RdSl a xs Hs] (hv : xs[k]? = some v) (hd : Nat.blt d n = true)
    (K : wo r P n ops os ((d, v) :: L) Hs Q) : wo r P n ops (⟨some d, .load t x, ty, pos, after, none⟩ :: os) L Hs Q := by
 obtain ⟨B, sh, hB⟩ := hr.get
 have hlt := (List.getElem?_eq_some_iff.1 hv).1
 refine wo_read (by intro c; simp) hB hd (fun ac f w M h1 h2 hf t' le yy _ _ _ _ => ?_) K
 obtain ⟨g, off, rfl, hc⟩ := sla_cell sh t' le yy (fun e => by rw [e] at hlt; exact absurd hlt (by simp))
 have h3 := hc k hlt
 rw [hv] at h3
 simp [execOp, f.ev hx, elemA, Instr.loadAt, Instr.sureAddr, loadVar, isAgg_flat ht hfl, run_load, h3]
theorem run_ecells {w : World} {g off k sz : Nat} {xs vs : List Value} (hc : ∀ j, j < xs.length → w.cell? ⟨g, off + j, none⟩ = xs[j]?) (hl : k + sz ≤ xs.length) (hv : (xs.drop k).take sz = vs) :
    (loadCells ⟨g, off + k, none⟩ sz).run P w = .ok vs.toArray w := by
 subst hv
 have e : ((xs.drop k).take sz).length = sz := by simp; omega
 have := run_loadCells_list (P := P) w ⟨g, off + k, none⟩ ((xs.drop k).take sz) (fun j v hj => by
  have hlt : j < ((xs.drop k).take sz).length := (List.getElem?_eq_some_iff.1 hj).1
  rw [e] at hlt
  rw [addr_add, Nat.add_assoc, hc (k + j) (by omega), ← List.getElem?_drop]
  rw [List.getElem?_take_of_lt hlt] at hj
  exact hj)
 rw [e] at this
 exact this
theorem r_eloada {t : TypeId} {td : TypeDesc} {x : Operand} {a : Option Addr} {k : Nat} {xs vs : List Value} {ti : TypeInfo} {sz : Nat} (ht : P.underlying t = some td) (hfl : flat td = false) (hi : P.info? t = some ti) (hsz : ti.size = sz)
    (hx : ev L x = some (.pointer (elemA a k))) [hr : RdSl a xs Hs] (hl : k + sz ≤ xs.length) (hs0 : Nat.blt 0 sz = true) (hv : (xs.drop k).take sz = vs) (hd : Nat.blt d n = true)
    (K : wo r P n ops os ((d, .agg vs.toArray) :: L) Hs Q) : wo r P n ops (⟨some d, .load t x, ty, pos, after, none⟩ :: os) L Hs Q := by
 obtain ⟨B, sh, hB⟩ := hr.get
 have hpos : 0 < sz := by simpa using hs0
 refine wo_read (by intro c; simp) hB hd (fun ac f w M h1 h2 hf t' le yy _ _ _ _ => ?_) K
 obtain ⟨g, off, rfl, hc⟩ := sla_cell sh t' le yy (fun e => by rw [e] at hl; simp at hl; omega)
 have h3 := run_ecells (P := P) hc hl hv
 simp [execOp, f.ev hx, elemA, Instr.loadAt, Instr.sureAddr, loadVar, isAgg_agg ht hfl, sizeOf, typeInfo, program, Sem.run, hi, hsz, h3]
/-- A field of an element. -/
theorem r_efield {t : TypeId} {x : Operand} {i : Nat} {a : Option Addr} {k : Nat} {fs : Array Field} {fd : Field} {xs : List Value} (ht : P.underlying t = some (.struct fs)) (hf : fs[i]? = some fd) {ti : TypeInfo} (hi : P.info? fd.type = some ti) (hz : Nat.beq ti.size 0 = false)
    (hx : ev L x = some (.pointer (elemA a k))) {o kk : Nat} (ho : fd.offset = o) (hk : k + o = kk) [hr : RdSl a xs Hs] (hne : 0 < xs.length) (hd : Nat.blt d n = true)
    (K : wo r P n ops os ((d, .pointer (elemA a kk)) :: L) Hs Q) : wo r P n ops (⟨some d, .fieldAddr t x i, ty, pos, after, none⟩ :: os) L Hs Q := by
 obtain ⟨B, sh, hB⟩ := hr.get
 refine wo_read (by intro c; simp) hB hd (fun ac f w M h1 h2 hfr t' le yy dst pos after guard => ?_) K
 obtain ⟨g, off, rfl, _⟩ := sla_cell sh t' le yy (fun e => by rw [e] at hne; exact absurd hne (by simp))
 have := (pv_fieldAddr (n := n) (ty := ty) ht hf hi hz hx).run ac f w dst pos after guard
 rw [this, ho, Nat.add_assoc, hk]
 rfl
/-! The same in regions that draw. -/
theorem tl_elemAddr {t e : TypeId} {x y : Operand} {a : Option Addr} {k : IntKind} {i : Int} {m len cap kk : Nat} {ti : TypeInfo} {xs : List Value} {sz : Nat} {dst : Option Tmp} (ht : P.underlying t = some (.slice e)) (hi : P.info? e = some ti) (hsz : ti.size = sz)
    (hx : ev L x = some (.slice a len cap)) (hy : ev L y = some (.int k i)) (hm : i = (m : Int)) (h : m < len) [hr : RdSl a xs A] (hne : 0 < xs.length) (hk : m * sz = kk) : Tells P n ops ⟨dst, .indexAddr t x y, ty, pos, after, none⟩ A L (.pointer (elemA a kk)) := by
 obtain ⟨B, sh, hB⟩ := hr.get
 refine .inr ⟨.inl rfl, fun ac f w M hA hf dj s t' => ?_⟩
 obtain ⟨h1, le, yy⟩ := hB.sat s
 obtain ⟨g, off, rfl, _⟩ := sla_cell sh t' le yy (fun e => by rw [e] at hne; exact absurd hne (by simp))
 rw [run_elemAddr ht hi hsz f hx hy hm h w dst pos after none, hk]
 rfl
theorem tl_eload {t : TypeId} {td : TypeDesc} {x : Operand} {a : Option Addr} {k : Nat} {xs : List Value} {v : Value} {dst : Option Tmp} (ht : P.underlying t = some td) (hfl : flat td = true)
    (hx : ev L x = some (.pointer (elemA a k))) [hr : RdSl a xs A] (hv : xs[k]? = some v) : Tells P n ops ⟨dst, .load t x, ty, pos, after, none⟩ A L v := by
 obtain ⟨B, sh, hB⟩ := hr.get
 have hlt := (List.getElem?_eq_some_iff.1 hv).1
 refine .inr ⟨.inl rfl, fun ac f w M hA hf dj s t' => ?_⟩
 obtain ⟨h1, le, yy⟩ := hB.sat s
 obtain ⟨g, off, rfl, hc⟩ := sla_cell sh t' le yy (fun e => by rw [e] at hlt; exact absurd hlt (by simp))
 have h3 := hc k hlt
 rw [hv] at h3
 simp [execOp, f.ev hx, elemA, Instr.loadAt, Instr.sureAddr, loadVar, isAgg_flat ht hfl, run_load, h3]
theorem tl_eloada {t : TypeId} {td : TypeDesc} {x : Operand} {a : Option Addr} {k : Nat} {xs vs : List Value} {ti : TypeInfo} {sz : Nat} {dst : Option Tmp} (ht : P.underlying t = some td) (hfl : flat td = false) (hi : P.info? t = some ti) (hsz : ti.size = sz)
    (hx : ev L x = some (.pointer (elemA a k))) [hr : RdSl a xs A] (hl : k + sz ≤ xs.length) (hs0 : Nat.blt 0 sz = true) (hv : (xs.drop k).take sz = vs) : Tells P n ops ⟨dst, .load t x, ty, pos, after, none⟩ A L (.agg vs.toArray) := by
 obtain ⟨B, sh, hB⟩ := hr.get
 have hpos : 0 < sz := by simpa using hs0
 refine .inr ⟨.inl rfl, fun ac f w M hA hf dj s t' => ?_⟩
 obtain ⟨h1, le, yy⟩ := hB.sat s
 obtain ⟨g, off, rfl, hc⟩ := sla_cell sh t' le yy (fun e => by rw [e] at hl; simp at hl; omega)
 have h3 := run_ecells (P := P) hc hl hv
 simp [execOp, f.ev hx, elemA, Instr.loadAt, Instr.sureAddr, loadVar, isAgg_agg ht hfl, sizeOf, typeInfo, program, Sem.run, hi, hsz, h3]
theorem tl_efield {t : TypeId} {x : Operand} {i : Nat} {a : Option Addr} {k : Nat} {fs : Array Field} {fd : Field} {xs : List Value} {dst : Option Tmp} (ht : P.underlying t = some (.struct fs)) (hf : fs[i]? = some fd) {ti : TypeInfo} (hi : P.info? fd.type = some ti) (hz : Nat.beq ti.size 0 = false)
    (hx : ev L x = some (.pointer (elemA a k))) {o kk : Nat} (ho : fd.offset = o) (hk : k + o = kk) [hr : RdSl a xs A] (hne : 0 < xs.length) : Tells P n ops ⟨dst, .fieldAddr t x i, ty, pos, after, none⟩ A L (.pointer (elemA a kk)) := by
 obtain ⟨B, sh, hB⟩ := hr.get
 refine .inr ⟨.inl rfl, fun ac f w M hA hfr dj s t' => ?_⟩
 obtain ⟨h1, le, yy⟩ := hB.sat s
 obtain ⟨g, off, rfl, _⟩ := sla_cell sh t' le yy (fun e => by rw [e] at hne; exact absurd hne (by simp))
 have := (pv_fieldAddr (n := n) (ty := ty) ht hf hi hz hx).run ac f w dst pos after none
 rw [this, ho, Nat.add_assoc, hk]
 rfl
/-- One's own row is given up for good. -/
theorem row_freeze {e : TypeId} {sz k n' c' : Nat} {a : Option Addr} {xs : List Value} {w : World} {M : Kn} {h1 h : Res} (x : RowAt e sz (.slice a n' c') k xs M h1) (d : h1.dj h) (t : Sat w M (h1.add h)) :
    ∃ M' : Kn, M.le M' ∧ SlIAt a xs M' Res.emp ∧ Sat w M' h := by
 rcases x with ⟨_, _, e1⟩ | ⟨g, cap, cur, e1, e2, e3, e4, e5, e6, e7⟩
 · exact ⟨M, Kn.le_refl _, .inl e1, t.le (Res.le_add_right d)⟩
 · cases e1
   subst e7
   obtain ⟨M', le, hi, t'⟩ := freeze_sat d t
   exact ⟨M', le, .inr ⟨g, 0, cur, e, (0, 0), rfl, hi, by rw [List.drop_zero, e5]; exact e6⟩, t'⟩
theorem wo_freezeRow {e : TypeId} {sz k n' c' : Nat} {a : Option Addr} {xs : List Value} {Rs : List HP} (hp : Pick (Row e sz (.slice a n' c') k xs) Hs Rs) (K : wo r P n ops os L (SlI a xs :: Rs) Q) : wo r P n ops os L Hs Q := by
 intro ac M m s w hf dj t
 obtain ⟨g1, g2, dg, e, y, s2⟩ := s.2
 subst e
 obtain ⟨h1, h2, d12, e, hb, sr⟩ := hp.sat s2
 subst e
 obtain ⟨d1, d2⟩ := Res.dj_add_right.1 dg
 obtain ⟨f1, f2⟩ := Res.dj_add_left.1 dj
 obtain ⟨f3, f4⟩ := Res.dj_add_left.1 f2
 have eq : (g1.add (h1.add h2)).add hf = h1.add ((g1.add h2).add hf) := by
  rw [← Res.add_assoc g1, Res.add_comm d1]
  simp only [Res.add_assoc]
 rw [eq] at t
 obtain ⟨M', le, hi, t'⟩ := row_freeze hb (Res.dj_add_right.2 ⟨Res.dj_add_right.2 ⟨Res.dj_comm d1, d12⟩, f3⟩) t
 exact wo_on K (a := ac) (M := M') (h := g1.add h2) ⟨s.1, g1, h2, d2, rfl, (Al _).mono le y, Res.emp, h2, Res.emp_dj _, rfl, hi, SL.mono le sr⟩ le (Res.dj_add_left.2 ⟨f1, f4⟩) t'
theorem wc_freezeRow {e : TypeId} {sz k n' c' : Nat} {a : Option Addr} {xs : List Value} {Rs : List HP} (hp : Pick (Row e sz (.slice a n' c') k xs) Hs Rs) (K : wc r P n c L (SlI a xs :: Rs) Q) : wc r P n c L Hs Q := by
 intro ac M m s w hf dj t
 obtain ⟨g1, g2, dg, e, y, s2⟩ := s.2
 subst e
 obtain ⟨h1, h2, d12, e, hb, sr⟩ := hp.sat s2
 subst e
 obtain ⟨d1, d2⟩ := Res.dj_add_right.1 dg
 obtain ⟨f1, f2⟩ := Res.dj_add_left.1 dj
 obtain ⟨f3, f4⟩ := Res.dj_add_left.1 f2
 have eq : (g1.add (h1.add h2)).add hf = h1.add ((g1.add h2).add hf) := by
  rw [← Res.add_assoc g1, Res.add_comm d1]
  simp only [Res.add_assoc]
 rw [eq] at t
 obtain ⟨M', le, hi, t'⟩ := row_freeze hb (Res.dj_add_right.2 ⟨Res.dj_add_right.2 ⟨Res.dj_comm d1, d12⟩, f3⟩) t
 exact wout_of (K ac M' (g1.add h2) ⟨s.1, g1, h2, d2, rfl, (Al _).mono le y, Res.emp, h2, Res.emp_dj _, rfl, hi, SL.mono le sr⟩) le (Res.dj_add_left.2 ⟨f1, f4⟩) t'
/-- append(s, x...), whatever lets x be read. -/
theorem opt_appendA {dst : Option Tmp} {t e : TypeId} {x y : Operand} {i : TypeInfo} {z : Value} (ht : P.underlying t = some (.slice e)) (hi : P.info? e = some i) (hz : i.zero = some z) (hzs : Nat.beq z.cells.size i.size = true) {sz : Nat} (hsz : i.size = sz) (hs0 : Nat.blt 0 sz = true) {bytes : Nat} (hby : i.bytes = bytes)
    {v : Value} {k : Nat} {xs : List Value} {a : Option Addr} {m c : Nat} {news : List Value} {B : HP} (hx : ev L x = some v) (hy : ev L y = some (.slice a m c)) (sh : SlA B a news)
    (hl : news.length = m * sz) (h1 : news.all oneCell = true) (hbytes : (k + m) * bytes ≤ 140737488355328) (h63 : k + m ≤ maxLen) :
    OpT r P n ⟨dst, .call ⟨.builtin .append, #[x, y], #[t, t]⟩, ty, pos, after, none⟩ A L [Row e sz v k xs, B] (fun v' => v') (fun v' => ∃ a c, v' = .slice a (k + m) c) (fun v' => [Row e sz v' (k + m) (xs ++ news), B]) := by
 subst hsz; subst hby
 have hpos : 0 < i.size := by simpa using hs0
 intro ac f w M h hA hf dj dj' s sA t'
 obtain ⟨g1, g2, dg, e1, hrow, s2⟩ := s
 obtain ⟨g3, g4, dg2, e2, hB, _⟩ := s2
 subst e2; subst e1
 obtain ⟨d1, d2⟩ := Res.dj_add_right.1 dg
 obtain ⟨d3, d4⟩ := Res.dj_add_left.1 dj
 obtain ⟨d5, d6⟩ := Res.dj_add_left.1 dj'
 obtain ⟨d7, d8⟩ := Res.dj_add_left.1 d5
 have eq : ((g1.add (g3.add g4)).add hA).add hf = g1.add (((g3.add g4).add hA).add hf) := by simp only [Res.add_assoc]
 by_cases hne : news = []
 · subst hne
   have hm : m = 0 := by
    rcases Nat.mul_eq_zero.1 hl.symm with h | h
    · exact h
    · omega
   subst hm
   have hr : (Builtin.append_ #[t, t] ty #[v, .slice a 0 c]).run P w = .ok v w := by
    have hl0 : ∀ b : Addr, (loadCells b 0).run P w = .ok #[] w := fun b => by simpa using run_loadCells_list (P := P) w b [] (by simp)
    rcases hrow with ⟨rfl, rfl, _⟩ | ⟨g, cap, cur, rfl, hkc, _, _, _, _, _⟩
    · cases a <;> simp [Builtin.append_, run_underlying ht, sizeOf, typeInfo, hi, Builtin.lenOf, Builtin.firstCells, hl0]
    · cases a <;> simp [Builtin.append_, run_underlying ht, sizeOf, typeInfo, hi, Builtin.lenOf, Builtin.firstCells, hl0, hkc, storeCells]
   have hrun : (execOp ac.eval ⟨dst, .call ⟨.builtin .append, #[x, y], #[t, t]⟩, ty, pos, after, none⟩).run P w = .ok (.value v) w := by
    simp [execOp, resolve, f.ev hx, f.ev hy, invoke, builtin, hr]
   rw [hrun]
   refine ⟨v, M, g1.add (g3.add g4), rfl, RowAt.slice (M := M) hrow, Kn.le_refl _, dj, dj', t', g1, g3.add g4, dg, rfl, ?_, g3, g4, dg2, rfl, hB, trivial⟩
   simpa using hrow
 · have hle : g3.le (g1.add (g3.add g4)) := Res.le_trans (Res.le_add_left g3 g4) (Res.le_add_right dg)
   have t3 : Sat w M ((g1.add (g3.add g4)).add (hA.add hf)) := by rw [← Res.add_assoc]; exact t'
   obtain ⟨g, off, rfl, hc⟩ := sla_cell sh t3 hle hB hne
   rw [eq] at t'
   obtain ⟨v', w', h', hr, djn, sn, rn⟩ := run_append_row (P := P) ht hi hz (Nat.eq_of_beq_eq_true hzs) hpos (hf := ((g3.add g4).add hA).add hf) (Res.dj_add_right.2 ⟨Res.dj_add_right.2 ⟨dg, d3⟩, d7⟩) t' hrow hl (fun j u hj => by
    rw [addr_add, hc j (List.getElem?_eq_some_iff.1 hj).1]; exact hj) (fun u hu => List.all_eq_true.1 h1 u hu) hbytes h63 (ty := ty) (c := c)
   have hrun : (execOp ac.eval ⟨dst, .call ⟨.builtin .append, #[x, y], #[t, t]⟩, ty, pos, after, none⟩).run P w = .ok (.value v') w' := by
    simp [execOp, resolve, f.ev hx, f.ev hy, invoke, builtin, hr]
   rw [hrun]
   obtain ⟨y1, y2⟩ := Res.dj_add_right.1 djn
   obtain ⟨y3, y4⟩ := Res.dj_add_right.1 y1
   refine ⟨v', M, h'.add (g3.add g4), rfl, rn.slice, Kn.le_refl _, Res.dj_add_left.2 ⟨y4, d4⟩, Res.dj_add_left.2 ⟨Res.dj_add_left.2 ⟨y2, d8⟩, d6⟩, ?_, h', g3.add g4, y3, rfl, rn, g3, g4, dg2, rfl, hB, trivial⟩
   have eq2 : ((h'.add (g3.add g4)).add hA).add hf = h'.add (((g3.add g4).add hA).add hf) := by simp only [Res.add_assoc]
   rw [eq2]; exact sn
end
end
section
section
variable {r : Option Nat} {P : Program} {n : Nat} {L : Loc} {Hs : List HP} {Q : Out} {c : Code}
variable {b : Frame} {a : Act} {k : List Item} {cs : List Frame} {w : World}
theorem stepR_scope {c : Code} : step P (lone (b.atR a (.code (.scope c) :: k)) cs w) = .next (lone (b.atR a (.code c :: .inScope c :: k)) cs w) :=
 step_lone_go (by simp [stepG, stepG.exec, Frame.atR])
theorem stepR_inScope {c : Code} : step P (lone (b.atR a (.inScope c :: k)) cs w) = .next (lone (b.atR a k) cs w) :=
 step_lone_go (by simp [stepG, stepG.exec, Frame.atR])
def scopeO (Q : Out) : Out
 | .goto _ => fun _ _ _ => False
 | e => Q e
theorem wc_scope2 {c : Code} (h : wc r P n c L Hs (scopeO Q)) : wc r P n (.scope c) L Hs Q := by
 intro a M m s w hf d t b k cs hro hb hr
 have h0 : (lone (b.atR a (.code (.scope c) :: k)) cs w).fenced P (WF r) := fenced_calm hb hr rfl
 obtain ⟨e, a₁, w₁, ⟨M', h', l, d', t', q⟩, harr⟩ := h a M m s w hf d t b (.inScope c :: k) cs hro hb hr
 cases e with
 | normal => exact ⟨.normal, a₁, w₁, ⟨M', h', l, d', t', q⟩, .head h0 stepR_scope (StepsIn.trans harr (.one (fenced_calm hb hr rfl) stepR_inScope))⟩
 | exit id =>
   have hx : exitTo id (.inScope c :: k) = exitTo id k := by simp [exitTo]
   exact ⟨.exit id, a₁, w₁, ⟨M', h', l, d', t', q⟩, fun k' hk => .head h0 stepR_scope (harr.1 k' (by rw [hx]; exact hk)),
    fun hr' hk => let ⟨k₁, h1, h2⟩ := harr.2 hr' (by rw [hx]; exact hk); ⟨k₁, h1, .head h0 stepR_scope h2⟩⟩
 | goto l => exact q.elim
 | ret => exact ⟨_, a₁, w₁, ⟨M', h', l, d', t', q⟩, .of_steps (.one h0 stepR_scope) harr⟩
 | panic ch => exact ⟨_, a₁, w₁, ⟨M', h', l, d', t', q⟩, .of_steps (.one h0 stepR_scope) harr⟩
 | outgrown => exact ⟨_, a₁, w₁, ⟨M', h', l, d', t', q⟩, .of_steps (.one h0 stepR_scope) harr⟩
theorem p_scope2 (h : c = .scope (bB c)) (k : wc r P n (bB c) L Hs (scopeO Q)) : wc r P n c L Hs Q := by rw [h]; exact wc_scope2 k
end
end
section
abbrev Ks := List (List UInt8 × Value)
def mlook : Ks → List UInt8 → Option Value
 | [], _ => none
 | p :: r, k => if p.1 = k then some p.2 else mlook r k
def mput : Ks → List UInt8 → Value → Ks
 | [], k, v => [(k, v)]
 | p :: r, k, v => if p.1 = k then (k, v) :: r else p :: mput r k v
def mdel : Ks → List UInt8 → Ks
 | [], _ => []
 | p :: r, k => if p.1 = k then r else p :: mdel r k
def mfind : Ks → List UInt8 → Nat → Option (Nat × Value)
 | [], _, _ => none
 | p :: r, k, i => if p.1 = k then some (i, p.2) else mfind r k (i + 1)
theorem mfind_none {ks : Ks} {k : List UInt8} : ∀ {i : Nat}, mfind ks k i = none → mlook ks k = none ∧ (∀ v, mput ks k v = ks ++ [(k, v)]) ∧ mdel ks k = ks ∧ k ∉ ks.map (·.1) := by
 induction ks with
 | nil => intro i h; exact ⟨rfl, fun v => rfl, rfl, by simp⟩
 | cons p r ih =>
   intro i h
   simp only [mfind] at h
   split at h
   · cases h
   · rename_i hp
     obtain ⟨h1, h2, h3, h4⟩ := ih h
     simp only [mlook, mput, mdel, hp, if_false, h1, h2, h3, true_and]
     refine ⟨fun v => by simp, ?_⟩
     simp only [List.map_cons, List.mem_cons, not_or]
     exact ⟨fun e => hp e.symm, h4⟩
theorem mfind_some {ks : Ks} {k : List UInt8} {v : Value} : ∀ {i j : Nat}, mfind ks k i = some (j, v) → ∃ m, j = i + m ∧ m < ks.length ∧ mlook ks k = some v ∧ ks[m]? = some (k, v) ∧ (∀ u, mput ks k u = ks.set m (k, u)) ∧ mdel ks k = ks.eraseIdx m := by
 induction ks with
 | nil => intro i j h; simp [mfind] at h
 | cons p r ih =>
   intro i j h
   simp only [mfind] at h
   split at h
   · rename_i hp
     simp only [Option.some.injEq, Prod.mk.injEq] at h
     obtain ⟨rfl, rfl⟩ := h
     refine ⟨0, rfl, by simp, by simp [mlook, hp], by simp [← hp], fun u => by simp [mput, hp], by simp [mdel, hp]⟩
   · rename_i hp
     obtain ⟨m, rfl, h2, h3, h4, h5, h6⟩ := ih h
     refine ⟨m + 1, by omega, by simp; omega, by simp [mlook, hp, h3], by simpa using h4, fun u => by simp [mput, hp, h5], by simp [mdel, hp, h6]⟩
/-- A map's entries, and what they are taken for. -/
structure MapG (es : Array MapEntry) (clock : Nat) (ks : Ks) : Prop where
 eq : es.toList.map (fun e => (e.key, e.val)) = ks.map (fun p => (vS p.1, p.2))
 old : ∀ e ∈ es.toList, e.born < clock
 born : (es.toList.map (·.born)).Nodup
 keys : (ks.map (·.1)).Nodup
 can : True → es.toList.map (·.born) = List.range es.size ∧ clock = es.size
theorem MapG.nil : MapG #[] 0 [] := ⟨rfl, by simp, by simp, by simp, fun _ => ⟨rfl, rfl⟩⟩
theorem MapG.size {es : Array MapEntry} {clock : Nat} {ks : Ks} (g : MapG es clock ks) : es.size = ks.length := by
 have := congrArg List.length g.eq
 simpa using this
def MapS (b : Nat) (ks : Ks) : HP := ⟨fun _ h => ∃ es clock, h = Res.one b (.map es clock) ∧ MapG es clock ks, fun _ e => e⟩
theorem findNow_eq (k : List UInt8) : ∀ (es : List MapEntry) (ks : Ks) (i : Nat), es.map (fun e => (e.key, e.val)) = ks.map (fun p => (vS p.1, p.2)) → Instr.findNow .string (vS k) es i = some (mfind ks k i) := by
 intro es
 induction es with
 | nil => intro ks i h; cases ks with
   | nil => rfl
   | cons _ _ => simp at h
 | cons e es ih =>
   intro ks i h
   cases ks with
   | nil => simp at h
   | cons p r =>
     simp only [List.map_cons, List.cons.injEq, Prod.mk.injEq] at h
     obtain ⟨⟨h1, h2⟩, h3⟩ := h
     have e1 : Instr.sameNow .string (vS k) e.key = some (decide (k = p.1)) := by rw [h1]; simp [Instr.sameNow, mk_eq]
     simp only [Instr.findNow, e1, mfind]
     by_cases hk : p.1 = k
     · simp [hk, h2]
     · have : k ≠ p.1 := fun e => hk e.symm
       simp only [this, decide_false, hk, if_false]
       exact ih r (i + 1) h3
theorem run_checkKey {P : Program} {kt : TypeId} (hk : P.underlying kt = some .string) (b : Bool) (k : List UInt8) (w : World) : ∀ d : Nat, (Instr.checkKey b (d + 1) kt (vS k)).run P w = .ok () w := fun d => by
 simp [Instr.checkKey, run_underlying hk]
theorem run_findKey {P : Program} {kt : TypeId} (hk : P.underlying kt = some .string) {es : Array MapEntry} {clock : Nat} {ks : Ks} (g : MapG es clock ks) (k : List UInt8) (w : World) : (Instr.findKey kt (vS k) es.toList).run P w = .ok (mfind ks k 0) w := by
 simp [Instr.findKey, run_underlying hk, findNow_eq k es.toList ks 0 g.eq]
theorem run_keyStays {P : Program} (k : List UInt8) (w : World) : (Instr.keyThatStays (vS k) (vS k)).run P w = .ok (vS k) w := by
 have h : ∀ d, Instr.sameBits d (vS k) (vS k) = true := fun d => by cases d <;> simp [Instr.sameBits, mk_eq]
 simp [Instr.keyThatStays, h 10000]
theorem MapG.put {es : Array MapEntry} {clock : Nat} {ks : Ks} (g : MapG es clock ks) (k : List UInt8) (v : Value) (h : mfind ks k 0 = none) : MapG (es.push { key := vS k, val := v, born := clock }) (clock + 1) (mput ks k v) := by
 obtain ⟨_, h2, _, h4⟩ := mfind_none h
 rw [h2]
 refine ⟨by simp [g.eq], ?_, ?_, ?_, fun hc => by
  obtain ⟨h1, h5⟩ := g.can hc
  rw [Array.toList_push, List.map_append, h1, Array.size_push, List.range_succ, ← h5]
  exact ⟨rfl, rfl⟩⟩
 · intro e he
   simp only [Array.toList_push, List.mem_append, List.mem_singleton] at he
   rcases he with he | rfl
   · have := g.old e he; omega
   · simp
 · simp only [Array.toList_push, List.map_append, List.map_cons, List.map_nil]
   rw [List.nodup_append]
   refine ⟨g.born, by simp, ?_⟩
   intro a ha c hc
   simp only [List.mem_singleton] at hc
   obtain ⟨e, he, rfl⟩ := List.mem_map.1 ha
   have := g.old e he
   omega
 · rw [List.map_append, List.nodup_append]
   refine ⟨g.keys, by simp, ?_⟩
   intro a ha c hc e
   simp at hc
   subst hc; subst e
   exact h4 ha
theorem MapG.set {es : Array MapEntry} {clock : Nat} {ks : Ks} (g : MapG es clock ks) {k : List UInt8} {u : Value} {j : Nat} (v : Value) (h : mfind ks k 0 = some (j, u)) : MapG (es.modify j fun e => { e with key := vS k, val := v }) clock (mput ks k v) := by
 obtain ⟨m, hj, hm, _, h4, h5, _⟩ := mfind_some h
 simp only [Nat.zero_add] at hj
 subst hj
 rw [h5]
 have hsz := g.size
 have hlt : j < es.toList.length := by rw [Array.length_toList, hsz]; exact hm
 have e1 : (es.modify j fun e => { e with key := vS k, val := v }).toList = es.toList.set j ⟨vS k, v, es.toList[j].born⟩ := by
  rw [Array.toList_modify]
  apply List.ext_getElem?
  intro i
  rw [List.getElem?_modify, List.getElem?_set]
  by_cases hi : j = i
  · subst hi
    have h6 : es.toList[j]? = some es.toList[j] := List.getElem?_eq_getElem hlt
    simp [h6, hlt]
    simpa using hlt
  · simp [hi]
 have hbn : (es.modify j fun e => { e with key := vS k, val := v }).toList.map (·.born) = es.toList.map (·.born) := by
  rw [e1, List.map_set]
  apply List.ext_getElem?
  intro i
  rw [List.getElem?_set]
  by_cases hi : j = i
  · subst hi
    have h6 : es.toList[j]? = some es.toList[j] := List.getElem?_eq_getElem hlt
    rw [List.getElem?_map, h6]; simp
    simpa using hlt
  · simp [hi]
 refine ⟨?_, ?_, ?_, ?_, fun hc => by rw [hbn, Array.size_modify]; exact g.can hc⟩
 · rw [e1, List.map_set, g.eq, List.map_set]
 · intro e he
   rw [e1] at he
   rcases List.mem_or_eq_of_mem_set he with he | rfl
   · exact g.old e he
   · show es.toList[j].born < clock
     exact g.old _ (List.getElem_mem hlt)
 · rw [e1, List.map_set]
   have : (es.toList.map (·.born)).set j es.toList[j].born = es.toList.map (·.born) := by
    apply List.ext_getElem?
    intro i
    rw [List.getElem?_set]
    by_cases hi : j = i
    · subst hi
      have h6 : es.toList[j]? = some es.toList[j] := List.getElem?_eq_getElem hlt
      rw [List.getElem?_map, h6]; simp
      simpa using hlt
    · simp [hi]
   rw [this]; exact g.born
 · rw [List.map_set]
   have : (ks.map (·.1)).set j k = ks.map (·.1) := by
    apply List.ext_getElem?
    intro i
    rw [List.getElem?_set]
    by_cases hi : j = i
    · subst hi; rw [List.getElem?_map, h4]; simp [hm]
    · simp [hi]
   rw [this]; exact g.keys
class RdMap (b : Nat) (ks : outParam Ks) (Hs : List HP) : Prop where
 get : Has (MapS b ks) Hs
instance (priority := 1000) {b : Nat} {ks : Ks} {r : List HP} : RdMap b ks (MapS b ks :: r) := ⟨.here⟩
instance (priority := 100) {b : Nat} {ks : Ks} {B : HP} {r : List HP} [h : RdMap b ks r] : RdMap b ks (B :: r) := ⟨.there h.get⟩
instance (priority := 900) {b : Nat} {ks : Ks} {B C : List HP} [h : RdMap b ks B] : RdMap b ks (B ++ C) := ⟨has_left h.get⟩
instance (priority := 800) {b : Nat} {ks : Ks} {B C : List HP} [h : RdMap b ks C] : RdMap b ks (B ++ C) := ⟨has_right h.get⟩
theorem maps_at {b : Nat} {ks : Ks} {w : World} {M : Kn} {h hf h1 : Res} (t : Sat w M (h.add hf)) (le : h1.le h) (x : (MapS b ks).at_ M h1) : ∃ es clock, w.heap[b]? = some (.map es clock) ∧ MapG es clock ks := by
 obtain ⟨es, clock, e, g⟩ := x
 exact ⟨es, clock, t.ow _ _ (Res.le_add_left _ _ _ _ (le _ _ (by rw [e]; exact Res.one_same _ _))), g⟩
section
variable {r : Option Nat} {P : Program} {n : Nat} {ops : Array Oper} {os : List Oper} {A : List HP} {L : Loc} {Hs : List HP} {Q : Out} {ty : TypeId} {d : Nat} {pos : String} {after : Array Edge} {c : Code}
theorem run_mlook {t kt e : TypeId} {i : TypeInfo} {z : Value} (ht : P.underlying t = some (.map kt e)) (hk : P.underlying kt = some .string) (hi : P.info? e = some i) (hz : i.zero = some z) {w : World} {b : Nat} {es : Array MapEntry} {clock : Nat} {ks : Ks} (hb : w.heap[b]? = some (.map es clock)) (g : MapG es clock ks) (k : List UInt8) (ok : Bool) :
    (Instr.lookup t (.map (some b)) (vS k) ok).run P w = .ok (if ok then .tuple #[(mlook ks k).getD z, .bool (mlook ks k).isSome] else (mlook ks k).getD z) w := by
 have hc := run_checkKey (P := P) hk es.isEmpty k w 9999
 have hf := run_findKey (P := P) hk g k w
 have hzv : (zeroValue e).run P w = .ok z w := by simp [zeroValue, typeInfo, program, Sem.run, hi, hz]
 cases hm : mfind ks k 0 with
 | none =>
   obtain ⟨h1, _⟩ := mfind_none hm
   rw [hm] at hf
   simp only [Instr.lookup, run_underlying ht, Sem.run_bind, Result.andThen_ok, MapKept.run_getObj_map hb, hc, hf, h1, hzv, Sem.run_pure]
   cases ok <;> rfl
 | some p =>
   obtain ⟨j, u⟩ := p
   obtain ⟨m, _, _, h3, _⟩ := mfind_some hm
   rw [hm] at hf
   simp only [Instr.lookup, run_underlying ht, Sem.run_bind, Result.andThen_ok, MapKept.run_getObj_map hb, hc, hf, h3, Sem.run_pure]
   cases ok <;> rfl
theorem r_lookup {t kt e : TypeId} {i : TypeInfo} {z : Value} {x y : Operand} {b : Nat} {ks : Ks} {k : List UInt8} {ok : Bool} {v : Value} (ht : P.underlying t = some (.map kt e)) (hk : P.underlying kt = some .string) (hi : P.info? e = some i) (hz : i.zero = some z)
    (hx : ev L x = some (.map (some b))) (hy : ev L y = some (vS k)) [hr : RdMap b ks Hs] (hv : (if ok then Value.tuple #[(mlook ks k).getD z, .bool (mlook ks k).isSome] else (mlook ks k).getD z) = v) (hd : Nat.blt d n = true)
    (K : wo r P n ops os ((d, v) :: L) Hs Q) : wo r P n ops (⟨some d, .lookup t x y ok, ty, pos, after, none⟩ :: os) L Hs Q := by
 subst hv
 refine wo_read (by intro c; simp) hr.get hd (fun a f w M h h1 hf t' le yy _ _ _ _ => ?_) K
 obtain ⟨es, clock, hb, g⟩ := maps_at t' le yy
 simp [execOp, f.ev hx, f.ev hy, run_mlook ht hk hi hz hb g k ok]
theorem r_mlen {t kt e : TypeId} {x : Operand} {b : Nat} {ks : Ks} (ht : P.underlying t = some (.map kt e)) (hx : ev L x = some (.map (some b))) [hr : RdMap b ks Hs] (hd : Nat.blt d n = true)
    (K : wo r P n ops os ((d, vI ks.length) :: L) Hs Q) : wo r P n ops (⟨some d, .call ⟨.builtin .len, #[x], #[t]⟩, ty, pos, after, none⟩ :: os) L Hs Q := by
 refine wo_read (by intro c; simp) hr.get hd (fun a f w M h h1 hf t' le yy _ _ _ _ => ?_) K
 obtain ⟨es, clock, hb, g⟩ := maps_at t' le yy
 have := g.size
 simp [execOp, resolve, f.ev hx, invoke, builtin, Builtin.len_, run_underlying ht, MapKept.run_getObj_map hb, goInt, this]
/-- What a triple of an operation that turns one block comes down to. -/
theorem opt_turn {dst : Option Tmp} {op : Op} {B C : HP} {u : Value} (hrun : ∀ (a : Act), Fr n L a → ∀ (w : World) (M : Kn) (h1 hf : Res), h1.dj hf → Sat w M (h1.add hf) → B.at_ M h1 → ∃ (w' : World) (h1' : Res), h1'.dj hf ∧ Sat w' M (h1'.add hf) ∧ C.at_ M h1' ∧
      ((execOp a.eval ⟨dst, op, ty, pos, after, none⟩).run P w = .ok (.value u) w' ∨ (execOp a.eval ⟨dst, op, ty, pos, after, none⟩).run P w = .ok .skip w' ∧ u = undef)) :
    OpT r P n ⟨dst, op, ty, pos, after, none⟩ A L [B] (fun _ : Unit => u) (fun _ => True) (fun _ => [C]) := by
 intro a f w M h hA hf dj dj' s sA t
 obtain ⟨k1, k2, dk, e, hb, _⟩ := s
 subst e
 obtain ⟨x1, x2⟩ := Res.dj_add_left.1 dj'
 obtain ⟨x3, x4⟩ := Res.dj_add_left.1 x1
 obtain ⟨y1, y2⟩ := Res.dj_add_left.1 dj
 have t2 : Sat w M (k1.add ((k2.add hA).add hf)) := by
  have : ((k1.add k2).add hA).add hf = k1.add ((k2.add hA).add hf) := by simp only [Res.add_assoc]
  rw [← this]; exact t
 obtain ⟨w', h', dj3, t3, hc, hr⟩ := hrun a f w M k1 ((k2.add hA).add hf) (Res.dj_add_right.2 ⟨Res.dj_add_right.2 ⟨dk, y1⟩, x3⟩) t2 hb
 obtain ⟨z1, z2⟩ := Res.dj_add_right.1 dj3
 obtain ⟨z3, z4⟩ := Res.dj_add_right.1 z1
 have fin : ∃ (x : Unit) (M' : Kn) (h'' : Res), u = u ∧ True ∧ M.le M' ∧ h''.dj hA ∧ (h''.add hA).dj hf ∧ Sat w' M' ((h''.add hA).add hf) ∧ SL [C] M' h'' := by
  refine ⟨(), M, h'.add k2, rfl, trivial, Kn.le_refl _, Res.dj_add_left.2 ⟨z4, y2⟩, Res.dj_add_left.2 ⟨Res.dj_add_left.2 ⟨z2, x4⟩, x2⟩, ?_, h', k2, z3, rfl, hc, trivial⟩
  have : ((h'.add k2).add hA).add hf = h'.add ((k2.add hA).add hf) := by simp only [Res.add_assoc]
  rw [this]; exact t3
 rcases hr with hr | ⟨hr, hu⟩
 · rw [hr]; exact fin
 · rw [hr]
   show ∃ (x : Unit) (M' : Kn) (h'' : Res), undef = u ∧ _
   rw [hu] at fin ⊢
   exact fin
theorem sat_setBlock {w : World} {M : Kn} {h : Res} {b : Nat} {o : Obj} (o' : Obj) (dj : (Res.one b o).dj h) (t : Sat w M ((Res.one b o).add h)) : Sat { w with heap := w.heap.setIfInBounds b o' } M ((Res.one b o').add h) := by
 have hb : w.heap[b]? = some o := t.ow _ _ (by simp [Res.add, Res.one])
 have hlt : b < w.heap.size := (Array.getElem?_eq_some_iff.1 hb).1
 refine Sat.setBlk dj t ?_ (fun i hi => ?_) ⟨rfl, rfl, rfl, by simp, up_rfl⟩
 · simp [Array.getElem?_setIfInBounds, hlt]
 · simp [Array.getElem?_setIfInBounds, Ne.symm hi]
theorem opt_mapUpdate {t kt e : TypeId} {x y z : Operand} {b : Nat} {ks : Ks} {k : List UInt8} {v : Value} (ht : P.underlying t = some (.map kt e)) (hk : P.underlying kt = some .string)
    (hx : ev L x = some (.map (some b))) (hy : ev L y = some (vS k)) (hz : ev L z = some v) :
    OpT r P n ⟨none, .mapUpdate t x y z, ty, pos, after, none⟩ A L [MapS b ks] (fun _ : Unit => undef) (fun _ => True) (fun _ => [MapS b (mput ks k v)]) := by
 refine opt_turn (fun a f w M h1 hf dj tt hm => ?_)
 obtain ⟨es, clock, e1, g⟩ := hm
 subst e1
 have hb : w.heap[b]? = some (.map es clock) := tt.ow _ _ (by simp [Res.add, Res.one])
 have hc := run_checkKey (P := P) hk false k w 9999
 have hfk := run_findKey (P := P) hk g k w
 cases hm : mfind ks k 0 with
 | none =>
   rw [hm] at hfk
   refine ⟨_, Res.one b (.map (es.push { key := vS k, val := v, born := clock }) (clock + 1)), dj_one_any dj, sat_setBlock _ dj tt, ⟨_, _, rfl, g.put k v hm⟩, .inr ⟨?_, rfl⟩⟩
   simp [execOp, f.ev hx, f.ev hy, f.ev hz, Instr.mapUpdate, run_underlying ht, MapKept.run_getObj_map hb, hc, hfk, MapKept.run_setObj_map _ hb]
 | some p =>
   obtain ⟨j, u⟩ := p
   rw [hm] at hfk
   obtain ⟨m, hj, hlt, _, h4, _⟩ := mfind_some hm
   simp only [Nat.zero_add] at hj
   subst hj
   have hkey : ((es[j]?).map (·.key)).getD (vS k) = vS k := by
    have h5 : (es.toList.map (fun e => (e.key, e.val)))[j]? = (ks.map (fun p => (vS p.1, p.2)))[j]? := by rw [g.eq]
    simp only [List.getElem?_map, h4, Option.map_some, Array.getElem?_toList] at h5
    cases h6 : es[j]? with
    | none => rw [h6] at h5; simp at h5
    | some e0 => rw [h6] at h5; simp at h5; simp [h5]
   have hst := run_keyStays (P := P) k w
   refine ⟨_, Res.one b (.map (es.modify j fun e => { e with key := vS k, val := v }) clock), dj_one_any dj, sat_setBlock _ dj tt, ⟨_, _, rfl, g.set v hm⟩, .inr ⟨?_, rfl⟩⟩
   simp [execOp, f.ev hx, f.ev hy, f.ev hz, Instr.mapUpdate, run_underlying ht, MapKept.run_getObj_map hb, hc, hfk, hkey, hst, MapKept.run_setObj_map _ hb]
theorem r_mkmap {t : TypeId} (hd : Nat.blt d n = true) (K : ∀ b, wo r P n ops os ((d, .map (some b)) :: L) (MapS b [] :: Hs) Q) : wo r P n ops (⟨some d, .makeMap t none, ty, pos, after, none⟩ :: os) L Hs Q := by
 refine wo_makeMap0 hd (fun b => wo_ent' ⟨fun s => ?_⟩ (K b))
 obtain ⟨h1, h2, d1, e, hb, s2⟩ := s
 exact ⟨h1, h2, d1, e, ⟨_, _, hb, MapG.nil⟩, s2⟩
/-! Making slices. -/
theorem madeCells_one (z : Value) (h : z.cells = #[z]) (m : Nat) : (madeCells z.cells m).toList = List.replicate m z := by
 apply List.ext_getElem
 · simp [madeCells]
 · intro i h1 h2
   simp [madeCells, h, Nat.mod_one]
theorem r_makeSlice {t e : TypeId} {x y : Operand} {i : TypeInfo} {z : Value} {m : Nat} (ht : P.underlying t = some (.slice e)) (hi : P.info? e = some i) (hz : i.zero = some z) (hz1 : z.cells = #[z]) (hsz : Nat.beq i.size 1 = true)
    (hx : ev L x = some (vI (m : Int))) (hy : ev L y = some (vI (m : Int))) (hm : m ≤ 9223372036854775807) (hb : (i.bytes : Int) * (m : Int) ≤ 281474976710656) (hd : Nat.blt d n = true)
    (K : ∀ b, wo r P n ops os ((d, .slice (some ⟨b, 0, none⟩) m m) :: L) (Ce b e (List.replicate m z) :: Hs) Q) : wo r P n ops (⟨some d, .makeSlice t x y, ty, pos, after, none⟩ :: os) L Hs Q := by
 have hs : i.size = 1 := Nat.eq_of_beq_eq_true hsz
 refine wo_new (o := .cells (List.replicate m z).toArray e (0, 0)) (val := fun b => .slice (some ⟨b, 0, none⟩) m m) (by intro c; simp) hd (fun a f w _ _ _ _ => ?_) K
 have hr := run_make (P := P) w t e i z ht hi hz .i64 .i64 m m (by omega) (Int.le_refl _) hb (by omega)
 have e1 : madeCells z.cells ((m : Int).toNat * i.size) = (List.replicate m z).toArray := by
  rw [hs, Nat.mul_one, Int.toNat_natCast, ← madeCells_one z hz1 m]
 rw [e1] at hr
 simp [execOp, f.ev hx, f.ev hy, hr]
end
end
section
section
variable {r : Option Nat} {P : Program} {n : Nat} {ops : Array Oper} {os : List Oper} {A : List HP} {L : Loc} {Hs : List HP} {Q : Out} {ty : TypeId} {d : Nat} {pos : String} {after : Array Edge} {c : Code}
theorem pv_vv {x y : Operand} {a b : Value} {t yt : TypeId} {op : BinOp} {v : Value} (hx : ev L x = some a) (hy : ev L y = some b) (hg : ∀ w, (eqGuard op t x y a b).run P w = .ok () w)
    (h : ∀ w, (binOp op t a b).run P w = .ok v w) : PV P n L (.binOp op t x y yt) ty v :=
 ⟨by intro c; simp, fun ac f w _ _ _ _ => by
  simp only [execOp, f.ev hx, f.ev hy, Sem.run_bind]
  rw [hg w]
  simp [h w]⟩
theorem pv_sleql_nil {x y : Operand} {a : Option Addr} {m c : Nat} {t yt e : TypeId} (ht : P.underlying t = some (.slice e)) (hx : ev L x = some (.slice a m c)) (hy : ev L y = some (.slice none 0 0)) : PV P n L (.binOp .eql t x y yt) ty (.bool a.isNone) :=
 pv_vv hx hy (fun w => by unfold eqGuard; split <;> first | rfl | (simp_all; done)) fun w => by
  have h : ∀ d : Nat, (Op.equalIn (d + 1) t (.slice a m c) (.slice none 0 0)).run P w = .ok a.isNone w := fun d => by
   cases a <;> simp [Op.equalIn, run_underlying ht]
  simp only [binOp]
  simp [Op.equal, Op.maxDepth, h 9999]
theorem pv_meql_nil {x y : Operand} {b : Option Nat} {t yt k e : TypeId} (ht : P.underlying t = some (.map k e)) (hx : ev L x = some (.map b)) (hy : ev L y = some (.map none)) : PV P n L (.binOp .eql t x y yt) ty (.bool b.isNone) :=
 pv_vv hx hy (fun w => by unfold eqGuard; split <;> first | rfl | (simp_all; done)) fun w => by
  have h : ∀ d : Nat, (Op.equalIn (d + 1) t (.map b) (.map none)).run P w = .ok b.isNone w := fun d => by
   cases b <;> simp [Op.equalIn, run_underlying ht]
  simp only [binOp]
  simp [Op.equal, Op.maxDepth, h 9999]
theorem wrap_u8 (x : Int) : IntKind.i64.wrap (IntKind.u8.wrap x) = IntKind.u8.wrap x := by
 have h : IntKind.u8.wrap x = x % 256 := by simp [IntKind.wrap_u8]
 exact i64_in' (by rw [h]; omega)
theorem u8_in' {m : Int} (h : 0 ≤ m ∧ m ≤ 255) : IntKind.u8.wrap m = m := IntWalk.u8_in m h
theorem pv_subu {x y : Operand} {i j : Int} {t yt : TypeId} (hx : ev L x = some (vU i)) (hy : ev L y = some (vU j)) (h : 0 ≤ i - j ∧ i - j ≤ 255) :
    PV P n L (.binOp .sub t x y yt) ty (vU (i - j)) := by have := pv_subw (P := P) (n := n) (ty := ty) (t := t) (yt := yt) hx hy; rw [u8_in' h] at this; exact this
theorem pv_indexm {x y : Operand} {l : List UInt8} {k : IntKind} {i : Int} {m : Nat} {t : TypeId} (ht : P.underlying t = some .string) (hx : ev L x = some (vS l)) (hy : ev L y = some (.int k i)) (hm : i = (m : Int)) (h : m < l.length) : PV P n L (.index t x y) ty (vU ((l.getD m 0).toNat : Int)) := by
 subst hm
 have := pv_index (P := P) (n := n) (ty := ty) ht hx hy (by omega) (by omega)
 simpa using this
theorem pv_slice_tom {x y : Operand} {l : List UInt8} {k : IntKind} {i : Int} {m : Nat} {t : TypeId} (ht : P.underlying t = some .string) (hx : ev L x = some (vS l)) (hy : ev L y = some (.int k i)) (hm : i = (m : Int)) (h : m ≤ l.length) :
    PV P n L (.slice t x none (some y) none) ty (vS (l.take m)) := by
 subst hm
 have := pv_slice_to (P := P) (n := n) (ty := ty) ht hx hy (by omega) (by omega)
 simpa using this
theorem pv_slice_fromm {x y : Operand} {l : List UInt8} {k : IntKind} {i : Int} {m : Nat} {t : TypeId} (ht : P.underlying t = some .string) (hx : ev L x = some (vS l)) (hy : ev L y = some (.int k i)) (hm : i = (m : Int)) (h : m ≤ l.length) :
    PV P n L (.slice t x (some y) none none) ty (vS (l.drop m)) := by
 subst hm
 have := pv_slice_from (P := P) (n := n) (ty := ty) ht hx hy (by omega) (by omega)
 simpa using this
theorem pv_slice_inm {x y z : Operand} {l : List UInt8} {k k' : IntKind} {i j : Int} {m o : Nat} {t : TypeId} (ht : P.underlying t = some .string) (hx : ev L x = some (vS l)) (hy : ev L y = some (.int k i)) (hz : ev L z = some (.int k' j)) (hm : i = (m : Int)) (ho : j = (o : Int)) (h1 : m ≤ o) (h : o ≤ l.length) :
    PV P n L (.slice t x (some y) (some z) none) ty (vS ((l.drop m).take (o - m))) := by
 subst hm; subst ho
 have := pv_slice_in (P := P) (n := n) (ty := ty) ht hx hy hz (by omega) (by omega) (by omega)
 have e : ((o : Int) - (m : Int)).toNat = o - m := by omega
 rw [e] at this
 simpa using this
theorem pv_slslice_fromm {x y : Operand} {a : Option Addr} {len cap m kk : Nat} {k : IntKind} {i : Int} {t e : TypeId} {ti : TypeInfo} {sz : Nat} (ht : P.underlying t = some (.slice e)) (hi : P.info? e = some ti) (hsz : ti.size = sz) (hx : ev L x = some (.slice a len cap)) (hy : ev L y = some (.int k i)) (hm : i = (m : Int)) (hk : m * sz = kk) (h : m ≤ len) (hc : m < cap) (ha : ∀ b, a = some b → b.spot = none) :
    PV P n L (.slice t x (some y) none none) ty (.slice (elemA a kk) (len - m) (cap - m)) := by
 subst hm
 have := pv_slslice_from (P := P) (n := n) (ty := ty) ht hi hx hy (by omega) (by omega)
 rw [Int.toNat_natCast, if_neg (by omega), hsz, hk] at this
 have e1 : Option.map (fun x : Addr => x.add kk) a = elemA a kk := by
  cases a with
  | none => rfl
  | some b =>
    obtain ⟨b, o, s⟩ := b
    have : s = none := ha _ rfl
    subst this
    simp [elemA, addr_add]
 rw [e1] at this
 exact this
theorem pv_slslice_tom {x y : Operand} {b : Option Addr} {len cap m : Nat} {k : IntKind} {i : Int} {t e : TypeId} {ti : TypeInfo} (ht : P.underlying t = some (.slice e)) (hi : P.info? e = some ti) (hx : ev L x = some (.slice b len cap)) (hy : ev L y = some (.int k i)) (hm : i = (m : Int)) (h : m ≤ cap) :
    PV P n L (.slice t x none (some y) none) ty (.slice b m cap) := by
 subst hm
 have := pv_slslice_to (P := P) (n := n) (ty := ty) ht hi hx hy (by omega) (by omega)
 simpa using this
theorem vI_eq {a b : Int} (h : a = b) : some (vI a) = some (vI b) := by rw [h]
end
end
end Go.Proofs.YtdnoacgopfcpbaaGreat
