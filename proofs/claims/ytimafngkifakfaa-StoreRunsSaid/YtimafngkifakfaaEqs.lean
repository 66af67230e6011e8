/- A few more operations. -/
import Derived.Test.YtimafngkifakfaaMapS
set_option linter.unusedVariables false
set_option linter.unusedSimpArgs false
namespace Go.Proofs.Ytimafngkifakfaa
section
variable {r : Option Nat} {P : Program} {n : Nat} {ops : Array Oper} {os : List Oper} {A : List HP} {L : Loc} {Hs : List HP} {Q : Out} {ty : TypeId} {d : Nat} {pos : String} {after : Array Edge} {c : Code}
theorem pv_vv {x y : Operand} {a b : Value} {t yt : TypeId} {op : BinOp} {v : Value} (hx : ev L x = some a) (hy : ev L y = some b) (hg : ∀ w, (eqGuard op t x y a b).run P w = .ok () w)
    (h : ∀ w, (binOp op t a b).run P w = .ok v w) : PV P n L (.binOp op t x y yt) ty v :=
  ⟨by intro c; simp, fun ac f w _ _ _ _ => by
    simp only [execOp, f.ev hx, f.ev hy, Sem.run_bind]
    rw [hg w]
    simp [h w]⟩
theorem pv_sleql_nil {x y : Operand} {a : Option Addr} {m c : Nat} {t yt e : TypeId} (ht : P.underlying t = some (.slice e)) (hx : ev L x = some (.slice a m c)) (hy : ev L y = some (.slice none 0 0)) : PV P n L (.binOp .eql t x y yt) ty (.bool a.isNone) :=
  pv_vv hx hy (fun w => by unfold eqGuard; split <;> first | rfl | (simp_all; done)) fun w => by
    have h : ∀ d : Nat, (Op.equalIn (d + 1) t (.slice a m c) (.slice none 0 0)).run P w = .ok a.isNone w := fun d => by
      cases a <;> simp [Op.equalIn, run_underlying ht]
    simp only [binOp]
    simp [Op.equal, Op.maxDepth, h 9999]
theorem pv_slneq_nil {x y : Operand} {a : Option Addr} {m c : Nat} {t yt e : TypeId} (ht : P.underlying t = some (.slice e)) (hx : ev L x = some (.slice a m c)) (hy : ev L y = some (.slice none 0 0)) : PV P n L (.binOp .neq t x y yt) ty (.bool a.isSome) :=
  pv_vv hx hy (fun w => by unfold eqGuard; split <;> first | rfl | (simp_all; done)) fun w => by
    have h : ∀ d : Nat, (Op.equalIn (d + 1) t (.slice a m c) (.slice none 0 0)).run P w = .ok a.isNone w := fun d => by
      cases a <;> simp [Op.equalIn, run_underlying ht]
    simp only [binOp]
    cases a <;> simp [Op.equal, Op.maxDepth, h 9999]
theorem pv_meql_nil {x y : Operand} {b : Option Nat} {t yt k e : TypeId} (ht : P.underlying t = some (.map k e)) (hx : ev L x = some (.map b)) (hy : ev L y = some (.map none)) : PV P n L (.binOp .eql t x y yt) ty (.bool b.isNone) :=
  pv_vv hx hy (fun w => by unfold eqGuard; split <;> first | rfl | (simp_all; done)) fun w => by
    have h : ∀ d : Nat, (Op.equalIn (d + 1) t (.map b) (.map none)).run P w = .ok b.isNone w := fun d => by
      cases b <;> simp [Op.equalIn, run_underlying ht]
    simp only [binOp]
    simp [Op.equal, Op.maxDepth, h 9999]
theorem pv_beql {x y : Operand} {a b : Bool} {t yt : TypeId} (ht : P.underlying t = some .bool) (hx : ev L x = some (.bool a)) (hy : ev L y = some (.bool b)) : PV P n L (.binOp .eql t x y yt) ty (.bool (a == b)) :=
  pv_vv hx hy (fun w => by unfold eqGuard; split <;> first | rfl | (simp_all; done)) fun w => by
    have h : ∀ d : Nat, (Op.equalIn (d + 1) t (.bool a) (.bool b)).run P w = .ok (a == b) w := fun d => by simp [Op.equalIn, run_underlying ht]
    simp only [binOp]
    simp [Op.equal, Op.maxDepth, h 9999]
theorem pv_bneq {x y : Operand} {a b : Bool} {t yt : TypeId} (ht : P.underlying t = some .bool) (hx : ev L x = some (.bool a)) (hy : ev L y = some (.bool b)) : PV P n L (.binOp .neq t x y yt) ty (.bool (!(a == b))) :=
  pv_vv hx hy (fun w => by unfold eqGuard; split <;> first | rfl | (simp_all; done)) fun w => by
    have h : ∀ d : Nat, (Op.equalIn (d + 1) t (.bool a) (.bool b)).run P w = .ok (a == b) w := fun d => by simp [Op.equalIn, run_underlying ht]
    simp only [binOp]
    simp [Op.equal, Op.maxDepth, h 9999]

/-- Copying between blocks, or within one: one's own the one that is written. -/
theorem opt_copy {dst : Option Tmp} {x y : Operand} {dT sT e : TypeId} {g o dLen dCap b off sLen sCap T : Nat} {cur cs l : List Value} (hu : P.underlying dT = some (.slice e)) (hs : (P.info? e).map (·.size) = some 1)
    (hx : ev L x = some (.slice (some ⟨g, o, none⟩) dLen dCap)) (hy : ev L y = some (.slice (some ⟨b, off, none⟩) sLen sCap)) {B : HP} (hb : (b = g ∧ l = cur ∧ B = Pu True) ∨ Shows B b l)
    {q : Nat} (hq : Nat.min sLen dLen = q) (hcs : (l.drop off).take (q) = cs) (hl : off + q ≤ l.length) (hfit : o + q ≤ cur.length) (h1 : cs.all oneCell = true) :
    OpT r P n ⟨dst, .call ⟨.builtin .copy, #[x, y], #[dT, sT]⟩, ty, pos, after, none⟩ A L [Ce g T cur, B] (fun _ : Unit => vI (q)) (fun _ => True) (fun _ => [Ce g T (cur.take o ++ cs ++ cur.drop (o + q)), B]) := by
  subst hq
  have hlen : cs.length = Nat.min sLen dLen := by rw [← hcs]; simp only [List.length_take, List.length_drop]; omega
  intro a f w M h hA hf dj dj' s sA t'
  obtain ⟨g1, g2, dg, e1, hrow, s2⟩ := s
  obtain ⟨g3, g4, dg2, e2, hB, _⟩ := s2
  subst e2; subst e1
  have hrow' : g1 = Res.one g _ := hrow
  subst hrow'
  obtain ⟨d1, d2⟩ := Res.dj_add_right.1 dg
  obtain ⟨d3, d4⟩ := Res.dj_add_left.1 dj
  obtain ⟨d5, d6⟩ := Res.dj_add_left.1 dj'
  obtain ⟨d7, d8⟩ := Res.dj_add_left.1 d5
  have hg : w.heap[g]? = some (.cells cur.toArray T (0, 0)) := t'.ow _ _ (by simp [Res.add, Res.one])
  have hsrc : ∀ j v, cs[j]? = some v → w.cell? ((⟨b, off, none⟩ : Addr).add j) = some v := by
    intro j v hj
    have hlt := (List.getElem?_eq_some_iff.1 hj).1
    rw [addr_add]
    have hlj : l[off + j]? = some v := by rw [← hcs, List.getElem?_take_of_lt (by omega), List.getElem?_drop] at hj; exact hj
    rcases hb with ⟨rfl, rfl, _⟩ | sh
    · simp [World.cell?, hg, hlj]
    · have hle : g3.le ((((Res.one g (.cells cur.toArray T (0, 0))).add (g3.add g4)).add hA)) := Res.le_trans (Res.le_trans (Res.le_add_left g3 g4) (Res.le_add_right dg)) (Res.le_add_left _ _)
      rw [shows_cell sh t' hle hB (off + j)]; exact hlj
  have hr := run_copy_row (P := P) w dT sT ty e g o dLen dCap ⟨b, off, none⟩ sLen sCap cur.toArray T cs hu hs hg hlen hsrc (by simp only [List.size_toArray]; omega) (fun v hv => oneCell_iff.1 (List.all_eq_true.1 h1 v hv))
  have hrun : (execOp a.eval ⟨dst, .call ⟨.builtin .copy, #[x, y], #[dT, sT]⟩, ty, pos, after, none⟩).run P w = .ok (.value (vI (Nat.min sLen dLen))) (w.setRow g (cur.take o ++ cs ++ cur.drop (o + Nat.min sLen dLen)).toArray) := by
    simp only [execOp, resolve, Array.map, f.ev hx, f.ev hy, invoke, builtin]
    simp [execOp, resolve, f.ev hx, f.ev hy, invoke, builtin, hr, goInt, hlen]
  rw [hrun]
  have eq : (((Res.one g (.cells cur.toArray T (0, 0))).add (g3.add g4)).add hA).add hf = (Res.one g (.cells cur.toArray T (0, 0))).add (((g3.add g4).add hA).add hf) := by simp only [Res.add_assoc]
  rw [eq] at t'
  have djx : (Res.one g (.cells cur.toArray T (0, 0))).dj (((g3.add g4).add hA).add hf) := Res.dj_add_right.2 ⟨Res.dj_add_right.2 ⟨dg, d3⟩, d7⟩
  have t2 : Sat (w.setRow g (cur.take o ++ cs ++ cur.drop (o + Nat.min sLen dLen)).toArray) M ((Res.one g (.cells (cur.take o ++ cs ++ cur.drop (o + Nat.min sLen dLen)).toArray T (0, 0))).add (((g3.add g4).add hA).add hf)) :=
    Sat.setBlk djx t' (setRow_heap w g cur.toArray _ T _ hg) (fun j hj => setRow_other w g j _ (fun x => hj x)) ⟨rfl, rfl, rfl, by simp [World.setRow]⟩
  have djn := dj_one_any (o' := .cells (cur.take o ++ cs ++ cur.drop (o + Nat.min sLen dLen)).toArray T (0, 0)) djx
  obtain ⟨y1, y2⟩ := Res.dj_add_right.1 djn
  obtain ⟨y3, y4⟩ := Res.dj_add_right.1 y1
  refine ⟨(), M, (Res.one g (.cells (cur.take o ++ cs ++ cur.drop (o + Nat.min sLen dLen)).toArray T (0, 0))).add (g3.add g4), rfl, trivial, Kn.le_refl _, Res.dj_add_left.2 ⟨y4, d4⟩, Res.dj_add_left.2 ⟨Res.dj_add_left.2 ⟨y2, d8⟩, d6⟩, ?_, _, g3.add g4, y3, rfl, rfl, g3, g4, dg2, rfl, hB, trivial⟩
  have eq2 : (((Res.one g (.cells (cur.take o ++ cs ++ cur.drop (o + Nat.min sLen dLen)).toArray T (0, 0))).add (g3.add g4)).add hA).add hf = (Res.one g (.cells (cur.take o ++ cs ++ cur.drop (o + Nat.min sLen dLen)).toArray T (0, 0))).add (((g3.add g4).add hA).add hf) := by simp only [Res.add_assoc]
  rw [eq2]; exact t2
theorem wrap_u8 (x : Int) : IntKind.i64.wrap (IntKind.u8.wrap x) = IntKind.u8.wrap x := by
  have h : IntKind.u8.wrap x = x % 256 := by simp [IntKind.wrap_u8]
  exact i64_in' (by rw [h]; omega)
theorem u8_in' {m : Int} (h : 0 ≤ m ∧ m ≤ 255) : IntKind.u8.wrap m = m := IntWalk.u8_in m h
theorem pv_addu {x y : Operand} {i j : Int} {t yt : TypeId} (hx : ev L x = some (vU i)) (hy : ev L y = some (vU j)) (h : 0 ≤ i + j ∧ i + j ≤ 255) :
    PV P n L (.binOp .add t x y yt) ty (vU (i + j)) := by have := pv_addw (P := P) (n := n) (ty := ty) (t := t) (yt := yt) hx hy; rw [u8_in' h] at this; exact this
theorem pv_subu {x y : Operand} {i j : Int} {t yt : TypeId} (hx : ev L x = some (vU i)) (hy : ev L y = some (vU j)) (h : 0 ≤ i - j ∧ i - j ≤ 255) :
    PV P n L (.binOp .sub t x y yt) ty (vU (i - j)) := by have := pv_subw (P := P) (n := n) (ty := ty) (t := t) (yt := yt) hx hy; rw [u8_in' h] at this; exact this
theorem pv_indexm {x y : Operand} {l : List UInt8} {k : IntKind} {i : Int} {m : Nat} {t : TypeId} (ht : P.underlying t = some .string) (hx : ev L x = some (vS l)) (hy : ev L y = some (.int k i)) (hm : i = (m : Int)) (h : m < l.length) : PV P n L (.index t x y) ty (vU ((l.getD m 0).toNat : Int)) := by
  subst hm
  have := pv_index (P := P) (n := n) (ty := ty) ht hx hy (by omega) (by omega)
  simpa using this
theorem pv_slice_tom {x y : Operand} {l : List UInt8} {k : IntKind} {i : Int} {m : Nat} {t : TypeId} (ht : P.underlying t = some .string) (hx : ev L x = some (vS l)) (hy : ev L y = some (.int k i)) (hm : i = (m : Int)) (h : m ≤ l.length) :
    PV P n L (.slice t x none (some y) none) ty (vS (l.take m)) := by
  subst hm
  have := pv_slice_to (P := P) (n := n) (ty := ty) ht hx hy (by omega) (by omega)
  simpa using this
theorem pv_slice_fromm {x y : Operand} {l : List UInt8} {k : IntKind} {i : Int} {m : Nat} {t : TypeId} (ht : P.underlying t = some .string) (hx : ev L x = some (vS l)) (hy : ev L y = some (.int k i)) (hm : i = (m : Int)) (h : m ≤ l.length) :
    PV P n L (.slice t x (some y) none none) ty (vS (l.drop m)) := by
  subst hm
  have := pv_slice_from (P := P) (n := n) (ty := ty) ht hx hy (by omega) (by omega)
  simpa using this
theorem pv_slice_inm {x y z : Operand} {l : List UInt8} {k k' : IntKind} {i j : Int} {m o : Nat} {t : TypeId} (ht : P.underlying t = some .string) (hx : ev L x = some (vS l)) (hy : ev L y = some (.int k i)) (hz : ev L z = some (.int k' j)) (hm : i = (m : Int)) (ho : j = (o : Int)) (h1 : m ≤ o) (h : o ≤ l.length) :
    PV P n L (.slice t x (some y) (some z) none) ty (vS ((l.drop m).take (o - m))) := by
  subst hm; subst ho
  have := pv_slice_in (P := P) (n := n) (ty := ty) ht hx hy hz (by omega) (by omega) (by omega)
  have e : ((o : Int) - (m : Int)).toNat = o - m := by omega
  rw [e] at this
  simpa using this
theorem pv_slslice_fromm {x y : Operand} {a : Option Addr} {len cap m kk : Nat} {k : IntKind} {i : Int} {t e : TypeId} {ti : TypeInfo} {sz : Nat} (ht : P.underlying t = some (.slice e)) (hi : P.info? e = some ti) (hsz : ti.size = sz) (hx : ev L x = some (.slice a len cap)) (hy : ev L y = some (.int k i)) (hm : i = (m : Int)) (hk : m * sz = kk) (h : m ≤ len) (hc : m < cap) (ha : ∀ b, a = some b → b.spot = none) :
    PV P n L (.slice t x (some y) none none) ty (.slice (elemA a kk) (len - m) (cap - m)) := by
  subst hm
  have := pv_slslice_from (P := P) (n := n) (ty := ty) ht hi hx hy (by omega) (by omega)
  rw [Int.toNat_natCast, if_neg (by omega), hsz, hk] at this
  have e1 : Option.map (fun x : Addr => x.add kk) a = elemA a kk := by
    cases a with
    | none => rfl
    | some b =>
      obtain ⟨b, o, s⟩ := b
      have : s = none := ha _ rfl
      subst this
      simp [elemA, addr_add]
  rw [e1] at this
  exact this
theorem pv_slslice_tom {x y : Operand} {b : Option Addr} {len cap m : Nat} {k : IntKind} {i : Int} {t e : TypeId} {ti : TypeInfo} (ht : P.underlying t = some (.slice e)) (hi : P.info? e = some ti) (hx : ev L x = some (.slice b len cap)) (hy : ev L y = some (.int k i)) (hm : i = (m : Int)) (h : m ≤ cap) :
    PV P n L (.slice t x none (some y) none) ty (.slice b m cap) := by
  subst hm
  have := pv_slslice_to (P := P) (n := n) (ty := ty) ht hi hx hy (by omega) (by omega)
  simpa using this
theorem vI_eq {a b : Int} (h : a = b) : some (vI a) = some (vI b) := by rw [h]
theorem ent_true : Ent Hs (Pu True :: Hs) := ⟨fun {M h} s => ⟨Res.emp, h, Res.emp_dj _, rfl, trivial, s⟩⟩
end
end Go.Proofs.Ytimafngkifakfaa
