/- Slices and structs that are written out. -/
import Derived.Test.YtimafngkifakfaaPath
import Derived.Laws.Tables
set_option linter.unusedVariables false
set_option linter.unusedSimpArgs false
namespace Go.Proofs.Ytimafngkifakfaa

theorem setAt_mid : ∀ (c d c0 r : List Value), c0.length = c.length → setAt (d ++ (c0 ++ r)) d.length c = d ++ (c ++ r) := by
  intro c
  induction c with
  | nil => intro d c0 r h; have : c0 = [] := List.eq_nil_of_length_eq_zero (by simpa using h); simp [setAt, this]
  | cons v c ih =>
    intro d c0 r h
    cases c0 with
    | nil => simp at h
    | cons u c0 =>
      simp only [List.length_cons, Nat.add_right_cancel_iff] at h
      simp only [setAt, List.cons_append]
      have e : (d ++ u :: (c0 ++ r)).set d.length v = (d ++ [v]) ++ (c0 ++ r) := by simp
      have := ih (d ++ [v]) c0 r h
      rw [e]
      simp only [List.length_append, List.length_singleton] at this
      rw [this]; simp
theorem foldl_setAt : ∀ (c : List Value) (j off : Nat) (cs : Array Value), (c.zipIdx j).foldl (fun cs x => cs.setIfInBounds (off + x.2) x.1) cs = (setAt cs.toList (off + j) c).toArray := by
  intro c
  induction c with
  | nil => intro j off cs; simp [setAt]
  | cons v c ih =>
    intro j off cs
    simp only [List.zipIdx_cons, List.foldl_cons, setAt]
    rw [ih (j + 1) off]
    simp [Nat.add_assoc]

/-- Parts in their order, all of one size. -/
def parts (k : Nat) : List Value → List (Nat × Value)
  | [] => []
  | v :: vs => (k, v) :: parts (k + 1) vs
theorem run_fill (sz : Nat) : ∀ (vs : List Value) (k : Nat) (done r : List Value), (∀ v ∈ vs, v.cells.size = sz) → done.length = k * sz → r.length = vs.length * sz →
    Instr.fill (fun i => some (i * sz, sz)) (done ++ r).toArray (parts k vs) = some (done ++ vs.flatMap (·.cells.toList)).toArray := by
  intro vs
  induction vs with
  | nil => intro k done r _ _ hr; have : r = [] := List.eq_nil_of_length_eq_zero (by simpa using hr); simp [parts, Instr.fill, this]
  | cons v vs ih =>
    intro k done r hv hd hr
    have hv0 := hv v (by simp)
    simp only [List.length_cons, Nat.add_mul, Nat.one_mul] at hr
    simp only [parts, Instr.fill]
    have hle : ¬ (v.cells.size ≠ sz ∨ k * sz + v.cells.size > (done ++ r).toArray.size) := by
      simp [hv0]; omega
    have e0 : (decide (v.cells.size ≠ sz) || decide (k * sz + v.cells.size > (done ++ r).toArray.size)) = false := by
      simp [hv0]; omega
    rw [if_neg (by simpa using hle)]
    have e1 : (v.cells.zipIdx.foldl (fun cs x => match x with | (c, j) => cs.setIfInBounds (k * sz + j) c) (done ++ r).toArray) = ((done ++ v.cells.toList) ++ r.drop sz).toArray := by
      have := foldl_setAt v.cells.toList 0 (k * sz) (done ++ r).toArray
      rw [← Array.foldl_toList, Array.toList_zipIdx]
      rw [show (fun (cs : Array Value) (x : Value × Nat) => match x with | (c, j) => cs.setIfInBounds (k * sz + j) c) = (fun cs x => cs.setIfInBounds (k * sz + x.2) x.1) from rfl, this]
      have e2 : r = r.take sz ++ r.drop sz := (List.take_append_drop _ _).symm
      have e3 := setAt_mid v.cells.toList done (r.take sz) (r.drop sz) (by simp [hv0]; omega)
      rw [← e2, hd] at e3
      simp only [Nat.add_zero]
      rw [e3]; simp
    rw [e1, ih (k + 1) (done ++ v.cells.toList) (r.drop sz) (fun u hu => hv u (by simp [hu])) (by simp [hd, hv0, Nat.add_mul]) (by simp; omega)]
    simp

section
variable {r : Option Nat} {P : Program} {n : Nat} {ops : Array Oper} {os : List Oper} {L : Loc} {Hs : List HP} {Q : Out} {ty : TypeId} {d : Nat} {pos : String} {after : Array Edge}
theorem run_buildSlice {t e : TypeId} {ti : TypeInfo} {z : Value} (ht : P.underlying t = some (.slice e)) (hi : P.info? e = some ti) (hz : ti.zero = some z) (hzs : z.cells.size = ti.size) {vs : List Value} (hv : ∀ v ∈ vs, v.cells.size = ti.size)
    (hsm : vs.length * ti.size ≤ 16777216) (w : World) :
    (Instr.buildSlice t vs.length (parts 0 vs).toArray).run P w = .ok (.slice (some ⟨w.heap.size, 0, none⟩) vs.length vs.length) (w.alloc (.cells (vs.flatMap (·.cells.toList)).toArray e (0, 0))) := by
  have hb : ¬ (2 ^ 24 < vs.length * ti.size) := by omega
  have key : ∀ a0 : Array Value, a0.size = vs.length * ti.size → Instr.fill (fun i => some (i * ti.size, ti.size)) a0 (parts 0 vs) = some (vs.flatMap (·.cells.toList)).toArray := by
    intro a0 ha
    have := run_fill ti.size vs 0 [] a0.toList hv (by simp) (by simp [ha])
    simpa using this
  unfold Instr.buildSlice
  simp only [Sem.run_bind, run_underlying ht, Result.andThen_ok, sizeOf, typeInfo, program, Sem.run, hi, gt_iff_lt, hb, if_false, Sem.run_pure, zeroValue, hz]
  by_cases h0 : vs.length * ti.size = 0
  · simp only [h0, if_true, Sem.run_bind, Sem.run_pure, Result.andThen_ok]
    rw [key _ (by simp [h0])]
    simp [newRow, newObj, Sem.run]
  · simp only [h0, if_false, Sem.run_bind, Sem.run_pure, Result.andThen_ok, typeInfo, program, Sem.run, hi, hz]
    rw [key _ (by simp)]
    simp [newRow, newObj, Sem.run]
/-- A slice literal. -/
theorem r_buildSliceL {t e : TypeId} {ti : TypeInfo} {z : Value} {len : Nat} {ps : List (Nat × Operand)} (vs : List Value) {cs : List Value} (ht : P.underlying t = some (.slice e)) (hi : P.info? e = some ti) (hz : ti.zero = some z) (hzs : Nat.beq z.cells.size ti.size = true)
    (hps : evps L ps = some (parts 0 vs)) (hlen : vs.length = len) (hv : vs.all (fun v => Nat.beq v.cells.size ti.size) = true) (hsm : Nat.ble (vs.length * ti.size) 16777216 = true) (hcs : vs.flatMap (·.cells.toList) = cs) (hd : Nat.blt d n = true)
    (k : ∀ b, wo r P n ops os ((d, .slice (some ⟨b, 0, none⟩) len len) :: L) (Ce b e cs :: Hs) Q) : wo r P n ops (⟨some d, .buildSlice t len ps.toArray, ty, pos, after, none⟩ :: os) L Hs Q := by
  subst hlen
  refine wo_buildSlice ht (fun a f => f.evpsa hps) (fun w => ?_) hd k
  rw [← hcs]
  exact run_buildSlice ht hi hz (Nat.eq_of_beq_eq_true hzs) (fun v hv' => Nat.eq_of_beq_eq_true (by have := List.all_eq_true.1 hv v hv'; simpa using this)) (Nat.le_of_ble_eq_true hsm) w
/-- A struct that is written out. -/
def fillL (place : Nat → Option (Nat × Nat)) : List Value → List (Nat × Value) → Option (List Value)
  | zs, [] => some zs
  | zs, (i, v) :: rest => match place i with
    | none => none
    | some (off, size) => bif Nat.beq v.cells.toList.length size && Nat.ble (off + size) zs.length then fillL place (setAt zs off v.cells.toList) rest else none
theorem fill_eq (place : Nat → Option (Nat × Nat)) : ∀ (ps : List (Nat × Value)) (zs vs : List Value), fillL place zs ps = some vs → Instr.fill place zs.toArray ps = some vs.toArray := by
  intro ps
  induction ps with
  | nil => intro zs vs h; simp only [fillL, Option.some.injEq] at h; subst h; rfl
  | cons p rest ih =>
    obtain ⟨i, v⟩ := p
    intro zs vs h
    simp only [fillL] at h
    simp only [Instr.fill]
    cases hp : place i with
    | none => rw [hp] at h; cases h
    | some q =>
      obtain ⟨off, size⟩ := q
      rw [hp] at h
      simp only at h ⊢
      cases hb : (Nat.beq v.cells.toList.length size && Nat.ble (off + size) zs.length) with
      | false => rw [hb] at h; cases h
      | true =>
        rw [hb, cond_true] at h
        simp only [Bool.and_eq_true] at hb
        have h1 : v.cells.size = size := by have := Nat.eq_of_beq_eq_true hb.1; simpa using this
        have h2 := Nat.le_of_ble_eq_true hb.2
        have e0 : (decide (v.cells.size ≠ size) || decide (off + v.cells.size > zs.toArray.size)) = false := by
          simp [h1]; omega
        rw [if_neg (by rw [e0]; simp)]
        have e1 : (v.cells.zipIdx.foldl (fun cs x => match x with | (c, j) => cs.setIfInBounds (off + j) c) zs.toArray) = (setAt zs off v.cells.toList).toArray := by
          have := foldl_setAt v.cells.toList 0 off zs.toArray
          rw [← Array.foldl_toList, Array.toList_zipIdx]
          rw [show (fun (cs : Array Value) (x : Value × Nat) => match x with | (c, j) => cs.setIfInBounds (off + j) c) = (fun cs x => cs.setIfInBounds (off + x.2) x.1) from rfl, this]
          simp
        rw [e1]
        exact ih _ _ h
theorem pv_buildS {t : TypeId} {ps : List (Nat × Operand)} {pv : List (Nat × Value)} {fields : Array Field} {ti : TypeInfo} {z : Value} {zs vs : List Value} {pl : List (Nat × Nat)} (ht : P.underlying t = some (.struct fields)) (hi : P.info? t = some ti) (hz : ti.zero = some z) (hzs : z.cells.toList = zs)
    (hpl : fields.toList.mapM (fun f => (P.info? f.type).map fun i => (f.offset, i.size)) = some pl) (hps : evps L ps = some pv) (hf : fillL (fun i => pl[i]?) zs pv = some vs) : PV P n L (.build t ps.toArray) ty (.agg vs.toArray) := by
  refine pv_buildx hps (fun w => run_build w t pv.toArray vs.toArray ?_)
  have e1 : z.cells = zs.toArray := by rw [← hzs]
  have := fill_eq _ pv zs vs hf
  simp only [Program.built, hi, ht, hz, hpl, e1]
  rw [← this]
  congr 1
  funext i
  simp
end
end Go.Proofs.Ytimafngkifakfaa
