/- Rules with what they need computed. -/
import Derived.Test.YtimafngkifakfaaAuto
set_option linter.unusedVariables false
set_option linter.unusedSimpArgs false
namespace Go.Proofs.Ytimafngkifakfaa
theorem wrap_byte (c : UInt8) : IntKind.i64.wrap (c.toNat : Int) = (c.toNat : Int) := by
  have := c.toNat_lt
  exact IntWalk.i64_in _ (by omega)

def evps (L : Loc) : List (Nat × Operand) → Option (List (Nat × Value))
  | [] => some []
  | (i, x) :: xs => match ev L x with
    | some v => match evps L xs with
      | some vs => some ((i, v) :: vs)
      | none => none
    | none => none
section
variable {r : Option Nat} {P : Program} {n : Nat} {ops : Array Oper} {os : List Oper} {L : Loc} {Hs : List HP} {Q : Out} {ty : TypeId} {d : Nat} {pos : String} {after : Array Edge}
theorem Fr.evps {a : Act} (f : Fr n L a) : ∀ (xs : List (Nat × Operand)) {vs : List (Nat × Value)}, evps L xs = some vs → xs.map (fun (i, x) => (i, a.eval x)) = vs := by
  intro xs
  induction xs with
  | nil => intro vs h; simp [Go.Proofs.Ytimafngkifakfaa.evps] at h; simp [h]
  | cons x xs ih =>
    intro vs h
    obtain ⟨i, x⟩ := x
    simp only [Go.Proofs.Ytimafngkifakfaa.evps] at h
    split at h
    · rename_i v hv
      split at h
      · rename_i us hu
        simp at h; subst h
        simp [f.ev hv, ih hu]
      · cases h
    · cases h
theorem Fr.evpsa {a : Act} (f : Fr n L a) {xs : List (Nat × Operand)} {vs : List (Nat × Value)} (h : Go.Proofs.Ytimafngkifakfaa.evps L xs = some vs) : (xs.toArray.map fun (i, x) => (i, a.eval x)) = vs.toArray := by
  rw [← f.evps xs h]; simp
theorem pv_buildx {t : TypeId} {ps : List (Nat × Operand)} {pv : List (Nat × Value)} {v : Value} (hps : evps L ps = some pv)
    (h : ∀ w, (Instr.build t pv.toArray).run P w = .ok v w) : PV P n L (.build t ps.toArray) ty v := pv_build (fun a f => f.evpsa hps) h
theorem r_buildSlice {t e : TypeId} {len : Nat} {ps : List (Nat × Operand)} {pv : List (Nat × Value)} {cs : List Value} (ht : P.underlying t = some (.slice e)) (hps : evps L ps = some pv)
    (h : ∀ w, (Instr.buildSlice t len pv.toArray).run P w = .ok (.slice (some ⟨w.heap.size, 0, none⟩) len len) (w.alloc (.cells cs.toArray e (0, 0)))) (hd : Nat.blt d n = true)
    (k : ∀ b, wo r P n ops os ((d, .slice (some ⟨b, 0, none⟩) len len) :: L) (Ce b e cs :: Hs) Q) : wo r P n ops (⟨some d, .buildSlice t len ps.toArray, ty, pos, after, none⟩ :: os) L Hs Q :=
  wo_buildSlice ht (fun a f => f.evpsa hps) h hd k
theorem pv_fieldAddrk {t : TypeId} {x : Operand} {i b off : Nat} {fs : Array Field} {fd : Field} (ht : P.underlying t = some (.struct fs)) (hf : fs[i]? = some fd) {ti : TypeInfo} (hi : P.info? fd.type = some ti) (hz : Nat.beq ti.size 0 = false)
    (hx : ev L x = some (.pointer (some ⟨b, off, none⟩))) {k k' : Nat} (hk : fd.offset = k) (hk' : off + k = k') : PV P n L (.fieldAddr t x i) ty (.pointer (some ⟨b, k', none⟩)) := hk' ▸ hk ▸ pv_fieldAddr ht hf hi hz hx

/-- Bytes as values. -/
def vUs (l : List UInt8) : List Value := l.map fun c => vU (c.toNat : Int)
theorem push_all (l : List UInt8) : ∀ m : List UInt8, (l.map fun c => (c.toNat : Int)).foldl (fun r n => r.push (UInt8.ofNat n.toNat)) (ByteArray.mk ⟨m⟩) = ByteArray.mk ⟨m ++ l⟩ := by
  induction l with
  | nil => intro m; simp
  | cons c l ih =>
    intro m
    simp only [List.map_cons, List.foldl_cons]
    have e : (ByteArray.mk ⟨m⟩).push (UInt8.ofNat ((c.toNat : Int)).toNat) = ByteArray.mk ⟨m ++ [c]⟩ := by
      apply ByteArray.ext
      simp [ByteArray.push]
    rw [e, ih]
    simp
theorem run_b2s {w : World} {b len cap : Nat} {l : List UInt8} (h : ∀ j, j < l.length → w.cell? ⟨b, j, none⟩ = some (vU ((l.getD j 0).toNat : Int))) (hl : len = l.length) :
    (Conv.bytesToString (.slice (some ⟨b, 0, none⟩) len cap)).run P w = .ok (vS l) w := by
  subst hl
  have hc := run_loadCells_list (P := P) w ⟨b, 0, none⟩ (vUs l) (fun j v hj => by
    have hlt : j < l.length := by have := (List.getElem?_eq_some_iff.1 hj).1; simpa [vUs] using this
    rw [addr_add, Nat.zero_add, h j hlt, ← hj]
    simp [vUs, hlt])
  have e : (vUs l).length = l.length := by simp [vUs]
  rw [e] at hc
  rw [run_bytesToString (P := P) w ⟨b, 0, none⟩ l.length cap (l.map fun c => (c.toNat : Int)) (by rw [hc]; simp [vUs])]
  have := push_all l []
  simp only [List.nil_append] at this
  exact congrArg (fun x => Result.ok (Value.string x) w) this
/-- The text of a block's bytes. -/
theorem r_b2s {s t e : TypeId} {x : Operand} {b len cap : Nat} {l : List UInt8} {m : List Value} (hs : P.underlying s = some (.slice e)) (ht : P.underlying t = some .string) (he : P.underlying e = some (.int .u8))
    (hx : ev L x = some (.slice (some ⟨b, 0, none⟩) len cap)) [hr : RdCe b m Hs] (hm : m.take len = vUs l) (hl : len ≤ m.length) (hd : Nat.blt d n = true)
    (k : wo r P n ops os ((d, vS l) :: L) Hs Q) : wo r P n ops (⟨some d, .convert s t x, ty, pos, after, none⟩ :: os) L Hs Q := by
  obtain ⟨A, sh, hA⟩ := hr.get
  have hlen : l.length = len := by have := congrArg List.length hm; simp [vUs] at this; omega
  refine wo_read (by intro c; simp) hA hd (fun a f w M h h1 hf t' le y _ _ _ _ => ?_) k
  have hc : ∀ j, j < l.length → w.cell? ⟨b, j, none⟩ = some (vU ((l.getD j 0).toNat : Int)) := fun j hj => by
    rw [shows_cell sh t' le y j]
    have : (m.take len)[j]? = (vUs l)[j]? := by rw [hm]
    rw [List.getElem?_take_of_lt (by omega)] at this
    rw [this]; simp [vUs, hj]
  have hb := run_b2s (P := P) (cap := cap) hc hlen.symm
  simp [execOp, f.ev hx, convert, run_underlying hs, run_underlying ht, run_underlying he, hb]
end
end Go.Proofs.Ytimafngkifakfaa
