/- Rows opened and shut; the text over a row of bytes. -/
import Derived.Test.YtimafngkifakfaaLibB
set_option linter.unusedVariables false
set_option linter.unusedSimpArgs false
namespace Go.Proofs.Ytimafngkifakfaa

theorem sl_row {e : TypeId} {sz : Nat} {v : Value} {k : Nat} {xs : List Value} {Hs : List HP} {M : Kn} {h : Res} (s : SL (Row e sz v k xs :: Hs) M h) :
    (v = .slice none 0 0 ∧ k = 0 ∧ xs = [] ∧ SL Hs M h) ∨ ∃ g cap cur, v = .slice (some ⟨g, 0, none⟩) k cap ∧ k ≤ cap ∧ cap ≤ maxLen ∧ List.length cur = cap * sz ∧ xs.length = k * sz ∧ cur.take (k * sz) = xs ∧ SL (Ce g e cur :: Hs) M h := by
  obtain ⟨h1, h2, d, e', a, t⟩ := s
  rcases a with ⟨a, b, c⟩ | ⟨g, cap, cur, a, b, c, d', f, i, j⟩
  · refine .inl ⟨a, b, c, ?_⟩
    subst e'
    exact SL.more d t
  · exact .inr ⟨g, cap, cur, a, b, c, d', f, i, h1, h2, d, e', j, t⟩

theorem pick_left {A : HP} {B B' C : List HP} (u : Pick A B B') : Pick A (B ++ C) (B' ++ C) := by
  induction u with
  | here => exact .here
  | keep p => exact .keep p
  | there _ ih => exact .there ih
theorem pick_right {A : HP} {B C C' : List HP} (u : Pick A C C') : Pick A (B ++ C) (B ++ C') := by
  induction B with
  | nil => exact u
  | cons _ _ ih => exact .there ih
/-- A block that one has, found by its number; a row, by its slice. -/
class OwnC (b : Nat) (T : outParam TypeId) (l : outParam (List Value)) (Hs : List HP) (Rs : outParam (List HP)) : Prop where
  get : Pick (Ce b T l) Hs Rs
instance (priority := 1000) {b : Nat} {T : TypeId} {l : List Value} {r : List HP} : OwnC b T l (Ce b T l :: r) r := ⟨.here⟩
instance (priority := 100) {b : Nat} {T : TypeId} {l : List Value} {B : HP} {r s : List HP} [h : OwnC b T l r s] : OwnC b T l (B :: r) (B :: s) := ⟨.there h.get⟩
instance (priority := 900) {b : Nat} {T : TypeId} {l : List Value} {B B' C : List HP} [h : OwnC b T l B B'] : OwnC b T l (B ++ C) (B' ++ C) := ⟨pick_left h.get⟩
instance (priority := 800) {b : Nat} {T : TypeId} {l : List Value} {B C C' : List HP} [h : OwnC b T l C C'] : OwnC b T l (B ++ C) (B ++ C') := ⟨pick_right h.get⟩
class RowC (v : Value) (e : outParam TypeId) (sz : outParam Nat) (n : outParam Nat) (xs : outParam (List Value)) (Hs : List HP) (Rs : outParam (List HP)) : Prop where
  get : Pick (Row e sz v n xs) Hs Rs
instance (priority := 1000) {v : Value} {e : TypeId} {sz n : Nat} {xs : List Value} {r : List HP} : RowC v e sz n xs (Row e sz v n xs :: r) r := ⟨.here⟩
instance (priority := 100) {v : Value} {e : TypeId} {sz n : Nat} {xs : List Value} {B : HP} {r s : List HP} [h : RowC v e sz n xs r s] : RowC v e sz n xs (B :: r) (B :: s) := ⟨.there h.get⟩
instance (priority := 900) {v : Value} {e : TypeId} {sz n : Nat} {xs : List Value} {B B' C : List HP} [h : RowC v e sz n xs B B'] : RowC v e sz n xs (B ++ C) (B' ++ C) := ⟨pick_left h.get⟩
instance (priority := 800) {v : Value} {e : TypeId} {sz n : Nat} {xs : List Value} {B C C' : List HP} [h : RowC v e sz n xs C C'] : RowC v e sz n xs (B ++ C) (B ++ C') := ⟨pick_right h.get⟩
theorem ent_pick1 {A : HP} {Hs Rs : List HP} (h : Pick A Hs Rs) : Ent Hs (A :: Rs) := Picks.ent (.cons h .nil)

theorem row_norm {v : Value} {e sz n n' : Nat} {xs xs' : List Value} {Hs Rs : List HP} [q : RowC v e sz n xs Hs Rs] (hn : n = n') (hx : xs = xs') : Ent Hs (Row e sz v n' xs' :: Rs) := by
  subst hn; subst hx; exact ent_pick1 q.get
theorem row_norm1 {v : Value} {e sz n n' : Nat} {xs xs' : List Value} {Hs Rs : List HP} [q : RowC v e sz n xs Hs Rs] (hn : n = n') (hx : xs = xs') : Ent Hs [Row e sz v n' xs'] := (row_norm hn hx).trans ⟨fun ⟨h1, h2, d, e, a, t⟩ => ⟨h1, h2, d, e, a, trivial⟩⟩

section
variable {r : Option Nat} {P : Program} {n : Nat} {ops : Array Oper} {os : List Oper} {A : List HP} {L : Loc} {Hs : List HP} {Q : Out} {ty : TypeId} {d : Nat} {pos : String} {after : Array Edge} {c : Code}
theorem wc_row {e : TypeId} {sz : Nat} {v : Value} {k : Nat} {xs : List Value} (hn : v = .slice none 0 0 → k = 0 → xs = [] → wc r P n c L Hs Q)
    (ho : ∀ g cap cur, v = .slice (some ⟨g, 0, none⟩) k cap → k ≤ cap → cap ≤ maxLen → List.length cur = cap * sz → xs.length = k * sz → cur.take (k * sz) = xs → wc r P n c L (Ce g e cur :: Hs) Q) : wc r P n c L (Row e sz v k xs :: Hs) Q := by
  intro a M m s
  obtain ⟨g1, g2, dg, e1, y, s2⟩ := s.2
  rcases sl_row s2 with ⟨x1, x2, x3, s3⟩ | ⟨g, cap, cur, x1, x2, x3, x4, x5, x6, s3⟩
  · exact hn x1 x2 x3 a M m ⟨s.1, g1, g2, dg, e1, y, s3⟩
  · exact ho g cap cur x1 x2 x3 x4 x5 x6 a M m ⟨s.1, g1, g2, dg, e1, y, s3⟩
theorem wo_row {e : TypeId} {sz : Nat} {v : Value} {k : Nat} {xs : List Value} (hn : v = .slice none 0 0 → k = 0 → xs = [] → wo r P n ops os L Hs Q)
    (ho : ∀ g cap cur, v = .slice (some ⟨g, 0, none⟩) k cap → k ≤ cap → cap ≤ maxLen → List.length cur = cap * sz → xs.length = k * sz → cur.take (k * sz) = xs → wo r P n ops os L (Ce g e cur :: Hs) Q) : wo r P n ops os L (Row e sz v k xs :: Hs) Q := by
  intro a M m s
  obtain ⟨g1, g2, dg, e1, y, s2⟩ := s.2
  rcases sl_row s2 with ⟨x1, x2, x3, s3⟩ | ⟨g, cap, cur, x1, x2, x3, x4, x5, x6, s3⟩
  · exact hn x1 x2 x3 a M m ⟨s.1, g1, g2, dg, e1, y, s3⟩
  · exact ho g cap cur x1 x2 x3 x4 x5 x6 a M m ⟨s.1, g1, g2, dg, e1, y, s3⟩
theorem ent_row {e : TypeId} {sz g k cap : Nat} {xs cur : List Value} {Rs : List HP} [p : PickC (Ce g e cur) Hs Rs] (hk : k ≤ cap) (hc : cap ≤ maxLen) (hl : cur.length = cap * sz) (hx : xs.length = k * sz) (ht : cur.take (k * sz) = xs) : Ent Hs (Row e sz (.slice (some ⟨g, 0, none⟩) k cap) k xs :: Rs) := ⟨fun s => by
  obtain ⟨h1, h2, d, e', a, t⟩ := p.get.sat s
  exact ⟨h1, h2, d, e', .inr ⟨g, cap, cur, rfl, hk, hc, hl, hx, ht, a⟩, t⟩⟩

theorem pv_usd_row {x : Operand} {ts : Array TypeId} {a : Addr} {k c : Nat} (hx : ev L x = some (.slice (some a) k c)) (hc : c ≠ 0) : PV P n L (.call ⟨.builtin .unsafeSliceData, #[x], ts⟩) ty (.pointer (some a)) :=
  ⟨by intro c; simp, fun ac f w _ _ _ _ => by
    simp [execOp, resolve, f.ev hx, invoke, builtin, Lib.run_unsafeSliceData_row (P := P) w ts ty a k c hc]⟩
theorem pv_usd_nil {x : Operand} {ts : Array TypeId} {k c : Nat} (hx : ev L x = some (.slice none k c)) : PV P n L (.call ⟨.builtin .unsafeSliceData, #[x], ts⟩) ty (.pointer none) :=
  ⟨by intro c; simp, fun ac f w _ _ _ _ => by
    simp [execOp, resolve, f.ev hx, invoke, builtin, Lib.run_unsafeSliceData_nil (P := P) w ts ty k c]⟩
theorem pv_us_none {x y : Operand} {pt it : TypeId} {p : Option Addr} (hx : ev L x = some (.pointer p)) (hy : ev L y = some (vI 0)) : PV P n L (.call ⟨.builtin .unsafeString, #[x, y], #[pt, it]⟩) ty (vS []) :=
  ⟨by intro c; simp, fun ac f w _ _ _ _ => by
    simp [execOp, resolve, f.ev hx, f.ev hy, invoke, builtin, Lib.run_unsafeString_none (P := P) w pt it ty p]; rfl⟩
theorem opt_us_row {dst : Option Tmp} {x y : Operand} {pt it e : TypeId} {g : Nat} {cur : List Value} {l : List UInt8} (hp : P.underlying pt = some (.pointer e)) (hc : P.cellsOf e = 1) (hx : ev L x = some (.pointer (some ⟨g, 0, none⟩))) (hy : ev L y = some (vI l.length))
    (h0 : l ≠ []) (h63 : l.length ≤ 9223372036854775807) (hcur : cur.take l.length = vUs l) :
    OpT r P n ⟨dst, .call ⟨.builtin .unsafeString, #[x, y], #[pt, it]⟩, ty, pos, after, none⟩ A L [Ce g e cur] (fun _ : Unit => vS l) (fun _ => True) (fun _ => []) := by
  intro a f w M h hA hf dj dj' s sA t'
  obtain ⟨g1, g2, dg, e1, hce, _⟩ := s
  have hce' : g1 = Res.one g _ := hce
  subst hce'
  subst e1
  have hb : w.heap[g]? = some (.cells cur.toArray e (0, 0)) := t'.ow _ _ (by simp [Res.add, Res.one])
  have hll : l.length ≤ cur.length := by have := congrArg List.length hcur; simp [vUs] at this; omega
  have hr := Lib.run_unsafeString_row (P := P) w pt it ty e hp hc g cur.length (by simp [World.shape?, hb]) l h0 hll h63 (fun j u hj => by
    have hlt := (List.getElem?_eq_some_iff.1 hj).1
    rw [addr_add, Nat.zero_add]
    have e2 : (cur.take l.length)[j]? = (vUs l)[j]? := by rw [hcur]
    rw [List.getElem?_take_of_lt hlt] at e2
    simp only [World.cell?, hb]
    simp only [List.getElem?_toArray, e2, vUs, List.getElem?_map, hj]
    rfl)
  have hrun : (execOp a.eval ⟨dst, .call ⟨.builtin .unsafeString, #[x, y], #[pt, it]⟩, ty, pos, after, none⟩).run P w = .ok (.value (vS l)) (w.freeze ⟨g, 0, none⟩ l.length) := by
    simp [execOp, resolve, f.ev hx, f.ev hy, invoke, builtin, hr]
  rw [hrun]
  obtain ⟨d3, d4⟩ := Res.dj_add_left.1 dj
  obtain ⟨d5, d6⟩ := Res.dj_add_left.1 dj'
  obtain ⟨d7, d8⟩ := Res.dj_add_left.1 d5
  have eq : (((Res.one g (.cells cur.toArray e (0, 0))).add g2).add hA).add hf = (Res.one g (.cells cur.toArray e (0, 0))).add ((g2.add hA).add hf) := by simp only [Res.add_assoc]
  rw [eq] at t'
  have djx : (Res.one g (.cells cur.toArray e (0, 0))).dj ((g2.add hA).add hf) := Res.dj_add_right.2 ⟨Res.dj_add_right.2 ⟨dg, d3⟩, d7⟩
  have hl0 : l.length ≠ 0 := by simpa using h0
  have t2 : Sat (w.freeze ⟨g, 0, none⟩ l.length) M ((Res.one g (.cells cur.toArray e (0, l.length))).add ((g2.add hA).add hf)) := by
    refine Sat.setBlk djx t' ?_ (fun i hi => ?_) ⟨?_, ?_, ?_, ?_⟩
    · simp [World.freeze, hl0, Array.getElem?_modify, hb]
    · simp [World.freeze, hl0, Array.getElem?_modify, Ne.symm hi]
    all_goals simp [World.freeze, hl0]
  refine ⟨(), M, g2, rfl, trivial, Kn.le_refl _, d4, Res.dj_add_left.2 ⟨d8, d6⟩, t2.le (Res.le_add_right ?_), trivial⟩
  exact dj_one_any djx
end
end Go.Proofs.Ytimafngkifakfaa
