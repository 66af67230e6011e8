/- Texts of this proof, put together: Walk1, Path, Build, Draw. -/
import Derived.Laws.Tables
import Derived.OrdersIn
import Derived.Test.YtdnoacgopfcpbaaGreatQ01
set_option linter.unusedVariables false
set_option linter.unusedSimpArgs false
namespace Go.Proofs.YtdnoacgopfcpbaaGreat
section
theorem wrap_byte (c : UInt8) : IntKind.i64.wrap (c.toNat : Int) = (c.toNat : Int) := by
 have := c.toNat_lt
 exact IntWalk.i64_in _ (by omega)
def evps (L : Loc) : List (Nat × Operand) → Option (List (Nat × Value))
 | [] => some []
 | (i, x) :: xs => match ev L x with
   | some v => match evps L xs with
     | some vs => some ((i, v) :: vs)
     | none => none
   | none => none
section
variable {r : Option Nat} {P : Program} {n : Nat} {ops : Array Oper} {os : List Oper} {L : Loc} {Hs : List HP} {Q : Out} {ty : TypeId} {d : Nat} {pos : String} {after : Array Edge}
theorem Fr.evps {a : Act} (f : Fr n L a) : ∀ (xs : List (Nat × Operand)) {vs : List (Nat × Value)}, evps L xs = some vs → xs.map (fun (i, x) => (i, a.eval x)) = vs := by
 intro xs
 induction xs with
 | nil => intro vs h; simp [Go.Proofs.YtdnoacgopfcpbaaGreat.evps] at h; simp [h]
 | cons x xs ih =>
   intro vs h
   obtain ⟨i, x⟩ := x
   simp only [Go.Proofs.YtdnoacgopfcpbaaGreat.evps] at h
   split at h
   · rename_i v hv
     split at h
     · rename_i us hu
       simp at h; subst h
       simp [f.ev hv, ih hu]
     · cases h
   · cases h
theorem Fr.evpsa {a : Act} (f : Fr n L a) {xs : List (Nat × Operand)} {vs : List (Nat × Value)} (h : Go.Proofs.YtdnoacgopfcpbaaGreat.evps L xs = some vs) : (xs.toArray.map fun (i, x) => (i, a.eval x)) = vs.toArray := by
 rw [← f.evps xs h]; simp
theorem pv_buildx {t : TypeId} {ps : List (Nat × Operand)} {pv : List (Nat × Value)} {v : Value} (hps : evps L ps = some pv)
    (h : ∀ w, (Instr.build t pv.toArray).run P w = .ok v w) : PV P n L (.build t ps.toArray) ty v := pv_build (fun a f => f.evpsa hps) h
theorem pv_fieldAddrk {t : TypeId} {x : Operand} {i b off : Nat} {fs : Array Field} {fd : Field} (ht : P.underlying t = some (.struct fs)) (hf : fs[i]? = some fd) {ti : TypeInfo} (hi : P.info? fd.type = some ti) (hz : Nat.beq ti.size 0 = false)
    (hx : ev L x = some (.pointer (some ⟨b, off, none⟩))) {k k' : Nat} (hk : fd.offset = k) (hk' : off + k = k') : PV P n L (.fieldAddr t x i) ty (.pointer (some ⟨b, k', none⟩)) := hk' ▸ hk ▸ pv_fieldAddr ht hf hi hz hx
/-- Bytes as values. -/
def vUs (l : List UInt8) : List Value := l.map fun c => vU (c.toNat : Int)
theorem push_all (l : List UInt8) : ∀ m : List UInt8, (l.map fun c => (c.toNat : Int)).foldl (fun r n => r.push (UInt8.ofNat n.toNat)) (ByteArray.mk ⟨m⟩) = ByteArray.mk ⟨m ++ l⟩ := by
 induction l with
 | nil => intro m; simp
 | cons c l ih =>
   intro m
   simp only [List.map_cons, List.foldl_cons]
   have e : (ByteArray.mk ⟨m⟩).push (UInt8.ofNat ((c.toNat : Int)).toNat) = ByteArray.mk ⟨m ++ [c]⟩ := by
    apply ByteArray.ext
    simp [ByteArray.push]
   rw [e, ih]
   simp
theorem run_b2s {w : World} {b len cap : Nat} {l : List UInt8} (h : ∀ j, j < l.length → w.cell? ⟨b, j, none⟩ = some (vU ((l.getD j 0).toNat : Int))) (hl : len = l.length) :
    (Conv.bytesToString (.slice (some ⟨b, 0, none⟩) len cap)).run P w = .ok (vS l) w := by
 subst hl
 have hc := run_loadCells_list (P := P) w ⟨b, 0, none⟩ (vUs l) (fun j v hj => by
  have hlt : j < l.length := by have := (List.getElem?_eq_some_iff.1 hj).1; simpa [vUs] using this
  rw [addr_add, Nat.zero_add, h j hlt, ← hj]
  simp [vUs, hlt])
 have e : (vUs l).length = l.length := by simp [vUs]
 rw [e] at hc
 rw [run_bytesToString (P := P) w ⟨b, 0, none⟩ l.length cap (l.map fun c => (c.toNat : Int)) (by rw [hc]; simp [vUs])]
 have := push_all l []
 simp only [List.nil_append] at this
 exact congrArg (fun x => Result.ok (Value.string x) w) this
/-- The text of a block's bytes. -/
theorem r_b2s {s t e : TypeId} {x : Operand} {b len cap : Nat} {l : List UInt8} {m : List Value} (hs : P.underlying s = some (.slice e)) (ht : P.underlying t = some .string) (he : P.underlying e = some (.int .u8))
    (hx : ev L x = some (.slice (some ⟨b, 0, none⟩) len cap)) [hr : RdCe b m Hs] (hm : m.take len = vUs l) (hl : len ≤ m.length) (hd : Nat.blt d n = true)
    (k : wo r P n ops os ((d, vS l) :: L) Hs Q) : wo r P n ops (⟨some d, .convert s t x, ty, pos, after, none⟩ :: os) L Hs Q := by
 obtain ⟨A, sh, hA⟩ := hr.get
 have hlen : l.length = len := by have := congrArg List.length hm; simp [vUs] at this; omega
 refine wo_read (by intro c; simp) hA hd (fun a f w M h h1 hf t' le y _ _ _ _ => ?_) k
 have hc : ∀ j, j < l.length → w.cell? ⟨b, j, none⟩ = some (vU ((l.getD j 0).toNat : Int)) := fun j hj => by
  rw [shows_cell sh t' le y j]
  have : (m.take len)[j]? = (vUs l)[j]? := by rw [hm]
  rw [List.getElem?_take_of_lt (by omega)] at this
  rw [this]; simp [vUs, hj]
 have hb := run_b2s (P := P) (cap := cap) hc hlen.symm
 simp [execOp, f.ev hx, convert, run_underlying hs, run_underlying ht, run_underlying he, hb]
end
end
section
def bodyOf (f : Func) : Code := match f.body with | some c => c | none => .skip
def sA : Code → Code | .seq a _ => a | c => c
def sB : Code → Code | .seq _ b => b | c => c
def cX : Code → Operand | .cond x _ _ => x | _ => .func 0
def cT : Code → Code | .cond _ t _ => t | c => c
def cE : Code → Code | .cond _ _ e => e | c => c
def bB : Code → Code | .block _ b => b | .loop b => b | .scope b => b | c => c
def rF : Code → Operand | .rangeFunc f _ _ _ => f | _ => .func 0
def rP : Code → Array Tmp | .rangeFunc _ p _ _ => p | _ => #[]
def rA : Code → Code | .rangeFunc _ _ a _ => a | c => c
def rB : Code → Code | .rangeFunc _ _ _ b => b | c => c
/-- Behind a piece of code another one. -/
def seqO (r : Option Nat) (P : Program) (y : Code) (Q : Out) : Out := thenO (wout r P y Q) Q
section
variable {r : Option Nat} {P : Program} {n : Nat} {L : Loc} {Hs : List HP} {Q : Out} {c : Code}
theorem p_seq (h : c = .seq (sA c) (sB c)) (k : wc r P n (sA c) L Hs (seqO r P (sB c) Q)) : wc r P n c L Hs Q := by
 rw [h]; exact wc_seq k
theorem p_region {id : Nat} {l : List Oper} (h : c = .region id l.toArray false) (k : wo r P n l.toArray l L Hs Q) : wc r P n c L Hs Q := by
 rw [h]; exact wc_region k
theorem p_skip (h : c = .skip) (k : tw n Q .normal L Hs) : wc r P n c L Hs Q := by rw [h]; exact wc_skip k
theorem p_label {l : Nat} (h : c = .label l) (k : tw n Q .normal L Hs) : wc r P n c L Hs Q := by rw [h]; exact wc_label k
theorem p_exit (id : Nat) (h : c = .exit id) (k : tw n Q (.exit id) L Hs) : wc r P n c L Hs Q := by rw [h]; exact wc_exit k
theorem p_ret (h : c = .ret) (k : tw n Q .ret L Hs) : wc r P n c L Hs Q := by rw [h]; exact wc_ret k
theorem p_block (id : Nat) (h : c = .block id (bB c)) (k : wc r P n (bB c) L Hs (blockO id Q)) : wc r P n c L Hs Q := by rw [h]; exact wc_block k
theorem p_cond {b : Bool} (h : c = .cond (cX c) (cT c) (cE c)) (hc : ev L (cX c) = some (.bool b)) (ht : b = true → wc r P n (cT c) L Hs Q) (hf : b = false → wc r P n (cE c) L Hs Q) :
    wc r P n c L Hs Q := by rw [h]; exact wc_cond hc ht hf
theorem p_true (h : c = .cond (cX c) (cT c) (cE c)) (hc : ev L (cX c) = some (.bool true)) (k : wc r P n (cT c) L Hs Q) : wc r P n c L Hs Q := by rw [h]; exact wc_true hc k
theorem p_false (h : c = .cond (cX c) (cT c) (cE c)) (hc : ev L (cX c) = some (.bool false)) (k : wc r P n (cE c) L Hs Q) : wc r P n c L Hs Q := by rw [h]; exact wc_false hc k
theorem p_loop {ι : Type} (Li : ι → Loc) (Hi : ι → List HP) (μ : ι → Nat) (h : c = .loop (bB c)) (i : ι) (hL : Cov L (Li i)) (hH : Ent Hs (Hi i))
    (round : ∀ i, wc r P n (bB c) (Li i) (Hi i) (invO n Li Hi (fun j => μ j < μ i) Q)) : wc r P n c L Hs Q := by
 rw [h]; exact wc_ent hL hH (wc_loop Li Hi μ round i)
theorem q_seq {ops : Array Oper} {y : Code} (h : wc r P n y L Hs Q) : wo r P n ops [] L Hs (seqO r P y Q) := wo_seq h
theorem t_seq {y : Code} (h : wc r P n y L Hs Q) : tw n (seqO r P y Q) .normal L Hs := to_then h
theorem Sp.body {f : FuncId} {fn : Func} {args : List Value} {As : List HP} {X : Type} {val : X → Value} {φ : X → Prop} {Bs : X → List HP}
    (en : ∀ (args : Array Value) (w : World), (callFunc f args).run P w = .ok (.enter f args) w)
    (hf : P.funcs[f]? = some fn) (hb : fn.body = some (bodyOf fn)) (hn : fn.ntmps = n) (hl : Nat.ble args.length n = true)
    (h : wc none P n (bodyOf fn) (locs 0 args) As (finO P fn val φ Bs)) : Sp P f args As val φ Bs := Sp.of_body en hf hb hn hl h
end
end
section
theorem setAt_mid : ∀ (c d c0 r : List Value), c0.length = c.length → setAt (d ++ (c0 ++ r)) d.length c = d ++ (c ++ r) := by
 intro c
 induction c with
 | nil => intro d c0 r h; have : c0 = [] := List.eq_nil_of_length_eq_zero (by simpa using h); simp [setAt, this]
 | cons v c ih =>
   intro d c0 r h
   cases c0 with
   | nil => simp at h
   | cons u c0 =>
     simp only [List.length_cons, Nat.add_right_cancel_iff] at h
     simp only [setAt, List.cons_append]
     have e : (d ++ u :: (c0 ++ r)).set d.length v = (d ++ [v]) ++ (c0 ++ r) := by simp
     have := ih (d ++ [v]) c0 r h
     rw [e]
     simp only [List.length_append, List.length_singleton] at this
     rw [this]; simp
theorem foldl_setAt : ∀ (c : List Value) (j off : Nat) (cs : Array Value), (c.zipIdx j).foldl (fun cs x => cs.setIfInBounds (off + x.2) x.1) cs = (setAt cs.toList (off + j) c).toArray := by
 intro c
 induction c with
 | nil => intro j off cs; simp [setAt]
 | cons v c ih =>
   intro j off cs
   simp only [List.zipIdx_cons, List.foldl_cons, setAt]
   rw [ih (j + 1) off]
   simp [Nat.add_assoc]
/-- Parts in their order, all of one size. -/
def parts (k : Nat) : List Value → List (Nat × Value)
 | [] => []
 | v :: vs => (k, v) :: parts (k + 1) vs
theorem run_fill (sz : Nat) : ∀ (vs : List Value) (k : Nat) (done r : List Value), (∀ v ∈ vs, v.cells.size = sz) → done.length = k * sz → r.length = vs.length * sz →
    Instr.fill (fun i => some (i * sz, sz)) (done ++ r).toArray (parts k vs) = some (done ++ vs.flatMap (·.cells.toList)).toArray := by
 intro vs
 induction vs with
 | nil => intro k done r _ _ hr; have : r = [] := List.eq_nil_of_length_eq_zero (by simpa using hr); simp [parts, Instr.fill, this]
 | cons v vs ih =>
   intro k done r hv hd hr
   have hv0 := hv v (by simp)
   simp only [List.length_cons, Nat.add_mul, Nat.one_mul] at hr
   simp only [parts, Instr.fill]
   have hle : ¬ (v.cells.size ≠ sz ∨ k * sz + v.cells.size > (done ++ r).toArray.size) := by
    simp [hv0]; omega
   have e0 : (decide (v.cells.size ≠ sz) || decide (k * sz + v.cells.size > (done ++ r).toArray.size)) = false := by
    simp [hv0]; omega
   rw [if_neg (by simpa using hle)]
   have e1 : (v.cells.zipIdx.foldl (fun cs x => match x with | (c, j) => cs.setIfInBounds (k * sz + j) c) (done ++ r).toArray) = ((done ++ v.cells.toList) ++ r.drop sz).toArray := by
    have := foldl_setAt v.cells.toList 0 (k * sz) (done ++ r).toArray
    rw [← Array.foldl_toList, Array.toList_zipIdx]
    rw [show (fun (cs : Array Value) (x : Value × Nat) => match x with | (c, j) => cs.setIfInBounds (k * sz + j) c) = (fun cs x => cs.setIfInBounds (k * sz + x.2) x.1) from rfl, this]
    have e2 : r = r.take sz ++ r.drop sz := (List.take_append_drop _ _).symm
    have e3 := setAt_mid v.cells.toList done (r.take sz) (r.drop sz) (by simp [hv0]; omega)
    rw [← e2, hd] at e3
    simp only [Nat.add_zero]
    rw [e3]; simp
   rw [e1, ih (k + 1) (done ++ v.cells.toList) (r.drop sz) (fun u hu => hv u (by simp [hu])) (by simp [hd, hv0, Nat.add_mul]) (by simp; omega)]
   simp
section
variable {r : Option Nat} {P : Program} {n : Nat} {ops : Array Oper} {os : List Oper} {L : Loc} {Hs : List HP} {Q : Out} {ty : TypeId} {d : Nat} {pos : String} {after : Array Edge}
theorem run_buildSlice {t e : TypeId} {ti : TypeInfo} {z : Value} (ht : P.underlying t = some (.slice e)) (hi : P.info? e = some ti) (hz : ti.zero = some z) (hzs : z.cells.size = ti.size) {vs : List Value} (hv : ∀ v ∈ vs, v.cells.size = ti.size)
    (hsm : vs.length * ti.size ≤ 16777216) (w : World) :
    (Instr.buildSlice t vs.length (parts 0 vs).toArray).run P w = .ok (.slice (some ⟨w.heap.size, 0, none⟩) vs.length vs.length) (w.alloc (.cells (vs.flatMap (·.cells.toList)).toArray e (0, 0))) := by
 have hb : ¬ (2 ^ 24 < vs.length * ti.size) := by omega
 have key : ∀ a0 : Array Value, a0.size = vs.length * ti.size → Instr.fill (fun i => some (i * ti.size, ti.size)) a0 (parts 0 vs) = some (vs.flatMap (·.cells.toList)).toArray := by
  intro a0 ha
  have := run_fill ti.size vs 0 [] a0.toList hv (by simp) (by simp [ha])
  simpa using this
 unfold Instr.buildSlice
 simp only [Sem.run_bind, run_underlying ht, Result.andThen_ok, sizeOf, typeInfo, program, Sem.run, hi, gt_iff_lt, hb, if_false, Sem.run_pure, zeroValue, hz]
 by_cases h0 : vs.length * ti.size = 0
 · simp only [h0, if_true, Sem.run_bind, Sem.run_pure, Result.andThen_ok]
   rw [key _ (by simp [h0])]
   simp [newRow, newObj, Sem.run]
 · simp only [h0, if_false, Sem.run_bind, Sem.run_pure, Result.andThen_ok, typeInfo, program, Sem.run, hi, hz]
   rw [key _ (by simp)]
   simp [newRow, newObj, Sem.run]
/-- A slice literal. -/
theorem r_buildSliceL {t e : TypeId} {ti : TypeInfo} {z : Value} {len : Nat} {ps : List (Nat × Operand)} (vs : List Value) {cs : List Value} (ht : P.underlying t = some (.slice e)) (hi : P.info? e = some ti) (hz : ti.zero = some z) (hzs : Nat.beq z.cells.size ti.size = true)
    (hps : evps L ps = some (parts 0 vs)) (hlen : vs.length = len) (hv : vs.all (fun v => Nat.beq v.cells.size ti.size) = true) (hsm : Nat.ble (vs.length * ti.size) 16777216 = true) (hcs : vs.flatMap (·.cells.toList) = cs) (hd : Nat.blt d n = true)
    (k : ∀ b, wo r P n ops os ((d, .slice (some ⟨b, 0, none⟩) len len) :: L) (Ce b e cs :: Hs) Q) : wo r P n ops (⟨some d, .buildSlice t len ps.toArray, ty, pos, after, none⟩ :: os) L Hs Q := by
 subst hlen
 refine wo_buildSlice ht (fun a f => f.evpsa hps) (fun w => ?_) hd k
 rw [← hcs]
 exact run_buildSlice ht hi hz (Nat.eq_of_beq_eq_true hzs) (fun v hv' => Nat.eq_of_beq_eq_true (by have := List.all_eq_true.1 hv v hv'; simpa using this)) (Nat.le_of_ble_eq_true hsm) w
/-- A struct that is written out. -/
def fillL (place : Nat → Option (Nat × Nat)) : List Value → List (Nat × Value) → Option (List Value)
 | zs, [] => some zs
 | zs, (i, v) :: rest => match place i with
   | none => none
   | some (off, size) => bif Nat.beq v.cells.toList.length size && Nat.ble (off + size) zs.length then fillL place (setAt zs off v.cells.toList) rest else none
theorem fill_eq (place : Nat → Option (Nat × Nat)) : ∀ (ps : List (Nat × Value)) (zs vs : List Value), fillL place zs ps = some vs → Instr.fill place zs.toArray ps = some vs.toArray := by
 intro ps
 induction ps with
 | nil => intro zs vs h; simp only [fillL, Option.some.injEq] at h; subst h; rfl
 | cons p rest ih =>
   obtain ⟨i, v⟩ := p
   intro zs vs h
   simp only [fillL] at h
   simp only [Instr.fill]
   cases hp : place i with
   | none => rw [hp] at h; cases h
   | some q =>
     obtain ⟨off, size⟩ := q
     rw [hp] at h
     simp only at h ⊢
     cases hb : (Nat.beq v.cells.toList.length size && Nat.ble (off + size) zs.length) with
     | false => rw [hb] at h; cases h
     | true =>
       rw [hb, cond_true] at h
       simp only [Bool.and_eq_true] at hb
       have h1 : v.cells.size = size := by have := Nat.eq_of_beq_eq_true hb.1; simpa using this
       have h2 := Nat.le_of_ble_eq_true hb.2
       have e0 : (decide (v.cells.size ≠ size) || decide (off + v.cells.size > zs.toArray.size)) = false := by
        simp [h1]; omega
       rw [if_neg (by rw [e0]; simp)]
       have e1 : (v.cells.zipIdx.foldl (fun cs x => match x with | (c, j) => cs.setIfInBounds (off + j) c) zs.toArray) = (setAt zs off v.cells.toList).toArray := by
        have := foldl_setAt v.cells.toList 0 off zs.toArray
        rw [← Array.foldl_toList, Array.toList_zipIdx]
        rw [show (fun (cs : Array Value) (x : Value × Nat) => match x with | (c, j) => cs.setIfInBounds (off + j) c) = (fun cs x => cs.setIfInBounds (off + x.2) x.1) from rfl, this]
        simp
       rw [e1]
       exact ih _ _ h
theorem pv_buildS {t : TypeId} {ps : List (Nat × Operand)} {pv : List (Nat × Value)} {fields : Array Field} {ti : TypeInfo} {z : Value} {zs vs : List Value} {pl : List (Nat × Nat)} (ht : P.underlying t = some (.struct fields)) (hi : P.info? t = some ti) (hz : ti.zero = some z) (hzs : z.cells.toList = zs)
    (hpl : fields.toList.mapM (fun f => (P.info? f.type).map fun i => (f.offset, i.size)) = some pl) (hps : evps L ps = some pv) (hf : fillL (fun i => pl[i]?) zs pv = some vs) : PV P n L (.build t ps.toArray) ty (.agg vs.toArray) := by
 refine pv_buildx hps (fun w => run_build w t pv.toArray vs.toArray ?_)
 have e1 : z.cells = zs.toArray := by rw [← hzs]
 have := fill_eq _ pv zs vs hf
 simp only [Program.built, hi, ht, hz, hpl, e1]
 rw [← this]
 congr 1
 funext i
 simp
end
end
section
/-- What an operation comes to: a value, and a world of which R holds. -/
def opV (r : Option Nat) (P : Program) (R : Value → World → Prop) : Result Next → Prop
 | .ok (.value v) w' => R v w'
 | .ok .skip w' => R undef w'
 | .ok (.enter f args) w' => CallsIn (WF r) 0 P f args w' fun e w'' => ∃ v, e = .returned v ∧ R v w''
 | .ok (.round l f tmps assign body) w' => RoundIn (WF r) 0 P l f tmps assign body w' fun e w'' => ∃ v, e = .returned v ∧ R v w''
 | _ => False
theorem upon_of_opV {r : Option Nat} {P : Program} {o : Oper} {a : Act} {K : Act → World → Prop} {Q : Exit → Act → World → Prop} {R : Value → World → Prop} (h : ∀ v w, R v w → K (a.put o.dst v) w) :
    ∀ res, opV r P R res → o.uponIn (WF r) 0 P a K Q res := by
 intro res q
 unfold opV at q
 unfold Oper.uponIn
 split at q
 · exact h _ _ q
 · exact h _ _ q
 · refine ⟨fun _ => by simp [WF] at *, q.mono ?_⟩
   rintro e w'' ⟨v, rfl, x⟩
   exact h _ _ x
 · refine ⟨fun _ => by simp [WF] at *, q.mono ?_⟩
   rintro e w'' ⟨v, rfl, x⟩
   exact h _ _ x
 · exact q.elim
def putL : Option Tmp → Value → Loc → Loc
 | some d, v, L => (d, v) :: L
 | none, _, L => L
def dstOk (n : Nat) : Option Tmp → Bool
 | some d => Nat.blt d n
 | none => true
theorem Fr.putL {n : Nat} {L : Loc} {a : Act} (f : Fr n L a) {o : Option Tmp} {v : Value} (h : dstOk n o = true) : Fr n (putL o v L) (a.put o v) := by
 cases o with
 | none => exact f
 | some d => exact f.put h
def noDefer (ops : Array Oper) : Bool := ops.toList.all fun o => match o.op with | .defer _ => false | .select _ _ => false | _ => true
theorem noDefer_at {ops : Array Oper} (h : noDefer ops = true) {i : Nat} {o : Oper} (ho : ops[i]? = some o) : (∀ c, o.op ≠ .defer c) ∧ ∀ cs b, o.op ≠ .select cs b := by
 have hm : o ∈ ops.toList := by
  have := Array.mem_of_getElem? ho
  exact Array.mem_toList_iff.2 this
 have := List.all_eq_true.1 h o hm
 constructor
 · intro c e; simp [e] at this
 · intro cs b e; simp [e] at this
section
variable {r : Option Nat} {P : Program} {n : Nat} {ops : Array Oper} {A : List HP} {L : Loc} {Hs : List HP} {Q : Out}
/-- One operation, with what it takes and what it gives; what lies in A is there for reading. -/
def OpT (r : Option Nat) (P : Program) (n : Nat) (o : Oper) (A : List HP) (L : Loc) (As : List HP) {X : Type} (val : X → Value) (φ : X → Prop) (Bs : X → List HP) : Prop :=
 ∀ (a : Act), Fr n L a → ∀ (w : World) (M : Kn) (h hA hf : Res), h.dj hA → (h.add hA).dj hf → SL As M h → SL A M hA → Sat w M ((h.add hA).add hf) →
  opV r P (fun v w' => ∃ (x : X) (M' : Kn) (h' : Res), v = val x ∧ φ x ∧ M.le M' ∧ h'.dj hA ∧ (h'.add hA).dj hf ∧ Sat w' M' ((h'.add hA).add hf) ∧ SL (Bs x) M' h') ((execOp a.eval o).run P w)
def AnOp (r : Option Nat) (P : Program) (n : Nat) (ops : Array Oper) (A : List HP) (o : Oper) (K : Loc → List HP → Prop) (L : Loc) (Hs : List HP) : Prop :=
 dstOk n o.dst = true ∧
 ((∃ j want u, o.guard = some (j, want) ∧ gd ops L j = some u ∧ outv u want = true ∧ K (putL o.dst undef L) Hs) ∨
  ((o.guard = none ∨ ∃ j b, o.guard = some (j, b) ∧ gd ops L j = some (.bool b)) ∧
   ∃ (X : Type) (val : X → Value) (φ : X → Prop) (As Rs : List HP) (Bs : X → List HP), Ent Hs (As ++ Rs) ∧ OpT r P n o A L As val φ Bs ∧ ∀ x, φ x → K (putL o.dst (val x) L) (Bs x ++ Rs)))
/-- The operation that comes behind all others. -/
def lastOp (ops : Array Oper) (i : Nat) (o : Oper) : Bool := ops.toList.zipIdx.all fun (_, j) => Nat.beq j i || o.after.any (fun e => Region.binds .any e && Nat.beq e.on j)
def An (r : Option Nat) (P : Program) (n : Nat) (ops : Array Oper) (A : List HP) (Q : Out) : Nat → Array Bool → Loc → List HP → Prop
 | 0, ls, L, Hs => Region.ready .any ops ls = [] ∧ tw n Q .normal L (A ++ Hs)
 | k + 1, ls, L, Hs => (Region.ready .any ops ls = [] → tw n Q .normal L (A ++ Hs)) ∧
     ∀ i ∈ Region.ready .any ops ls, ∃ o, ops[i]? = some o ∧ (AnOp r P n ops A o (fun L' Hs' => An r P n ops A Q k (ls.setIfInBounds i true) L' Hs') L Hs ∨
      (lastOp ops i o = true ∧ k = 0 ∧ AnOp r P n ops [] o (fun L' Hs' => Region.ready .any ops (ls.setIfInBounds i true) = [] ∧ tw n Q .normal L' Hs') L (A ++ Hs)))
theorem semAt_nd {o : Oper} (h : ∀ c, o.op ≠ .defer c) (ρ : Operand → Value) : o.semAt (WF r).round ρ = execOp ρ o := Oper.semAt_eq _ _ _ h
theorem An.sound (hnd : noDefer ops = true) : ∀ (k : Nat) (ls : Array Bool) (L : Loc) (Hs : List HP), An r P n ops A Q k ls L Hs → ∀ (a : Act) (M : Kn) (h : Res), St n L (A ++ Hs) a M h →
    ∀ (M0 : Kn) (w : World) (hf : Res), M0.le M → h.dj hf → Sat w M (h.add hf) → wpAnyIn (WF r) 0 P .any ops (lift M0 hf Q) k ls a w := by
 intro k
 induction k with
 | zero =>
   intro ls L Hs an a M h s M0 w hf l dj t
   exact ⟨an.1, M, h, l, dj, t, an.2 a M h s⟩
 | succ k ih =>
   intro ls L Hs an a M h s M0 w hf l dj t
   refine ⟨fun e => ⟨M, h, l, dj, t, an.1 e a M h s⟩, fun i hi => ?_⟩
   obtain ⟨o, ho, hop⟩ := an.2 i hi
   obtain ⟨nd, _⟩ := noDefer_at hnd ho
   have step : ∀ (A : List HP) (Hs : List HP) (K : Loc → List HP → Prop), AnOp r P n ops A o K L Hs → (∀ (L' : Loc) (Gs : List HP), K L' Gs → ∀ (a : Act) (M : Kn) (h : Res), St n L' (A ++ Gs) a M h →
       ∀ (M0 : Kn) (w : World) (hf : Res), M0.le M → h.dj hf → Sat w M (h.add hf) → wpAnyIn (WF r) 0 P .any ops (lift M0 hf Q) k (ls.setIfInBounds i true) a w) → St n L (A ++ Hs) a M h → wpOpIn (WF r) 0 P ops (lift M0 hf Q) i (wpAnyIn (WF r) 0 P .any ops (lift M0 hf Q) k (ls.setIfInBounds i true)) a w := by
    intro A Hs K hop ih' s'
    obtain ⟨hd, hop⟩ := hop
    unfold wpOpIn
    simp only [ho]
    rcases hop with ⟨j, want, b, hg, hgd, hne, k'⟩ | ⟨hg, X, val, φ, As, Rs, Bs, he, ht, hk⟩
    · have hw : Region.wanted o (yielded ops a.tmps) = false := by
        simp only [Region.wanted, hg]
        exact gd_outv s'.1 hgd hne
      rw [hw]
      simp only [Bool.false_eq_true, if_false]
      refine ⟨fun _ _ => trivial, ih' _ _ k' _ M h ⟨s'.1.putL hd, ?_⟩ M0 w hf l dj t⟩
      have e : (a.put o.dst undef).defers = a.defers := by cases o.dst <;> rfl
      rw [e]; exact s'.2
    · have hw : Region.wanted o (yielded ops a.tmps) = true := by
        rcases hg with hg | ⟨j, b, hg, hgd⟩
        · simp [Region.wanted, hg]
        · simp only [Region.wanted, hg, gd_yielded s'.1 hgd]
          cases b <;> rfl
      rw [hw]
      simp only [if_true, Oper.wpIn]
      refine ⟨fun _ _ => trivial, ?_⟩
      rw [semAt_nd nd]
      -- the resources: the marks, A, what is taken, the rest
      obtain ⟨g1, g2, dg, e, sd, s2⟩ := s'.2
      subst e
      obtain ⟨hA, h2, dA, e, sA, s3⟩ := SL.split s2
      subst e
      obtain ⟨h3, h4, d34, e, sAs, sRs⟩ := SL.split (he s3)
      subst e
      obtain ⟨dgA, dg2⟩ := Res.dj_add_right.1 dg
      obtain ⟨dg3, dg4⟩ := Res.dj_add_right.1 dg2
      obtain ⟨dA3, dA4⟩ := Res.dj_add_right.1 dA
      obtain ⟨df1, df2⟩ := Res.dj_add_left.1 dj
      obtain ⟨dfA, df3⟩ := Res.dj_add_left.1 df2
      obtain ⟨df4, df5⟩ := Res.dj_add_left.1 df3
      have eq : (g1.add (hA.add (h3.add h4))).add hf = (h3.add hA).add ((g1.add h4).add hf) := by
       have e1 : g1.add (hA.add (h3.add h4)) = (h3.add hA).add (g1.add h4) := by
        rw [← Res.add_assoc hA, Res.add_comm dA3, Res.add_assoc h3, ← Res.add_assoc g1, Res.add_comm dg3, Res.add_assoc h3, ← Res.add_assoc g1, Res.add_comm dgA]
        simp only [Res.add_assoc]
       rw [e1, Res.add_assoc]
      rw [eq] at t
      refine upon_of_opV ?_ _ (ht a s'.1 w M h3 hA ((g1.add h4).add hf) (Res.dj_comm dA3) ?_ sAs sA t)
      · rintro v w' ⟨x, M', h', rfl, p, l', dj', djf, t', sB⟩
        obtain ⟨y1, y2⟩ := Res.dj_add_left.1 djf
        obtain ⟨y3, y4⟩ := Res.dj_add_right.1 y1
        obtain ⟨y5, y6⟩ := Res.dj_add_right.1 y3
        refine ih' _ _ (hk x p) _ M' (g1.add (hA.add (h'.add h4))) ⟨s'.1.putL hd, ?_⟩ M0 w' hf (Kn.le_trans l l') ?_ ?_
        · have e : (a.put o.dst (val x)).defers = a.defers := by cases o.dst <;> rfl
          rw [e]
          refine ⟨g1, hA.add (h'.add h4), ?_, rfl, (Al _).mono l' sd, ?_⟩
          · exact Res.dj_add_right.2 ⟨dgA, Res.dj_add_right.2 ⟨Res.dj_comm y5, dg4⟩⟩
          · exact SL.append (Res.dj_add_right.2 ⟨Res.dj_comm dj', dA4⟩) (SL.mono l' sA) (SL.append y6 sB (SL.mono l' sRs))
        · exact Res.dj_add_left.2 ⟨df1, Res.dj_add_left.2 ⟨dfA, Res.dj_add_left.2 ⟨y4, df5⟩⟩⟩
        · have e1 : (g1.add (hA.add (h'.add h4))).add hf = (h'.add hA).add ((g1.add h4).add hf) := by
            have e1 : g1.add (hA.add (h'.add h4)) = (h'.add hA).add (g1.add h4) := by
             rw [← Res.add_assoc hA, Res.add_comm (Res.dj_comm dj'), Res.add_assoc h', ← Res.add_assoc g1, Res.add_comm (Res.dj_comm y5), Res.add_assoc h', ← Res.add_assoc g1, Res.add_comm dgA]
             simp only [Res.add_assoc]
            rw [e1, Res.add_assoc]
          rw [e1]; exact t'
      · refine Res.dj_add_left.2 ⟨Res.dj_add_right.2 ⟨Res.dj_add_right.2 ⟨Res.dj_comm dg3, d34⟩, df4⟩, Res.dj_add_right.2 ⟨Res.dj_add_right.2 ⟨Res.dj_comm dgA, dA4⟩, dfA⟩⟩
   rcases hop with hop | ⟨_, hk0, hop⟩
   · exact step A Hs _ hop (fun L' Gs x => ih _ _ _ x) s
   · subst hk0
     exact step [] (A ++ Hs) _ hop (fun L' Gs x a M h s' M0 w hf l dj t => ⟨x.1, M, h, l, dj, t, x.2 a M h s'⟩) s
/-- The rule. -/
theorem p_draw {c : Code} {id : Nat} {l : List Oper} (hc : c = .region id l.toArray true) (hm : P.follows .mixedOrders = true) (hnd : noDefer l.toArray = true) (A Rs : List HP) (hp : Ent Hs (A ++ Rs))
    (h : An r P n l.toArray A Q l.length (Array.replicate l.length false) L Rs) : wc r P n c L Hs Q := by
 rw [hc]
 intro a M m s w hf d t
 refine wpIn_region_any hm ?_
 have hsz : l.toArray.size = l.length := by simp
 rw [hsz]
 refine An.sound hnd _ _ L Rs h a M m ⟨s.1, ?_⟩ M _ hf (Kn.le_refl _) d ?_
 · obtain ⟨g1, g2, dg, e, sd, s2⟩ := s.2
   exact ⟨g1, g2, dg, e, sd, hp s2⟩
 · exact ⟨t.im, t.ow, t.dj, ⟨t.env.os, t.env.tape, t.env.output, t.env.size, up_add 1 t.env.up⟩⟩
/-! More is known of a frame. -/
def Leq (L L' : Loc) : Prop := ∀ i v, lk L i = some v → lk L' i = some v
theorem Fr.leq {L L' : Loc} {a : Act} (f : Fr n L' a) (l : Leq L L') : Fr n L a := ⟨f.1, fun i v e => f.2 i v (l i v e)⟩
theorem Leq.cons {L L' : Loc} (l : Leq L L') (d : Nat) (v : Value) : Leq ((d, v) :: L) ((d, v) :: L') := fun i u e => by
 simp only [lk] at e ⊢
 cases h : Nat.beq d i with
 | true => rw [h] at e; exact e
 | false => rw [h] at e; exact l i u e
theorem Leq.putL {L L' : Loc} (l : Leq L L') (o : Option Tmp) (v : Value) : Leq (putL o v L) (putL o v L') := by
 cases o with
 | none => exact l
 | some d => exact l.cons d v
theorem gd_leq {L L' : Loc} (l : Leq L L') {j : Nat} {v : Value} (h : gd ops L j = some v) : gd ops L' j = some v := by
 unfold gd at h ⊢
 cases e : (ops[j]?).bind (·.dst) with
 | none => rw [e] at h; cases h
 | some d => rw [e] at h; exact l _ _ h
theorem AnOp.leq {A : List HP} {o : Oper} {K K' : Loc → List HP → Prop} {L L' : Loc} {Hs : List HP} (l : Leq L L') (hK : ∀ v Gs, K (putL o.dst v L) Gs → K' (putL o.dst v L') Gs) (h : AnOp r P n ops A o K L Hs) : AnOp r P n ops A o K' L' Hs := by
 obtain ⟨hd, hop⟩ := h
 refine ⟨hd, ?_⟩
 rcases hop with ⟨j, want, b, hg, hgd, hne, k'⟩ | ⟨hg, X, val, φ, As, Rs, Bs, he, ht, hk⟩
 · exact .inl ⟨j, want, b, hg, gd_leq l hgd, hne, hK _ _ k'⟩
 · refine .inr ⟨?_, X, val, φ, As, Rs, Bs, he, fun a f => ht a (f.leq l), fun x p => hK _ _ (hk x p)⟩
   rcases hg with hg | ⟨j, b, hg, hgd⟩
   · exact .inl hg
   · exact .inr ⟨j, b, hg, gd_leq l hgd⟩
theorem An.leq : ∀ (k : Nat) (ls : Array Bool) (L L' : Loc) (Hs : List HP), Leq L L' → An r P n ops A Q k ls L Hs → An r P n ops A Q k ls L' Hs := by
 intro k
 induction k with
 | zero => intro ls L L' Hs l an; exact ⟨an.1, fun a M h s => an.2 a M h ⟨s.1.leq l, s.2⟩⟩
 | succ k ih =>
   intro ls L L' Hs l an
   refine ⟨fun e a M h s => an.1 e a M h ⟨s.1.leq l, s.2⟩, fun i hi => ?_⟩
   obtain ⟨o, ho, hop⟩ := an.2 i hi
   refine ⟨o, ho, ?_⟩
   rcases hop with hop | ⟨h1, h2, hop⟩
   · exact .inl (hop.leq l fun v Gs x => ih _ _ _ _ (l.putL _ _) x)
   · exact .inr ⟨h1, h2, hop.leq l fun v Gs x => ⟨x.1, fun a M h s => x.2 a M h ⟨s.1.leq (l.putL _ _), s.2⟩⟩⟩
/-! An operation that only tells something is taken first. -/
/-- It tells v, whenever it runs. -/
def Tells (P : Program) (n : Nat) (ops : Array Oper) (o : Oper) (A : List HP) (L : Loc) (v : Value) : Prop :=
 (∃ j want u, o.guard = some (j, want) ∧ gd ops L j = some u ∧ outv u want = true ∧ v = undef) ∨
 ((o.guard = none ∨ ∃ j b, o.guard = some (j, b) ∧ gd ops L j = some (.bool b)) ∧
  ∀ (a : Act), Fr n L a → ∀ (w : World) (M : Kn) (hA hf : Res), hA.dj hf → SL A M hA → Sat w M (hA.add hf) → (execOp a.eval o).run P w = .ok (.value v) w)
def free (ops : Array Oper) (ls : Array Bool) (i : Nat) (oi : Oper) : Bool :=
 ops.toList.zipIdx.all fun (oj, j) => Nat.beq j i || ls.getD j false || oi.apart ops oj || oj.after.any (fun e => Region.binds .any e && Nat.beq e.on i)
theorem ready_iff {ls : Array Bool} {i : Nat} : i ∈ Region.ready .any ops ls ↔ i < ops.size ∧ ls.getD i true = false ∧ ∃ o, ops[i]? = some o ∧ ∀ e ∈ o.after, Region.binds .any e = true → ls.getD e.on false = true := by
 unfold Region.ready
 rw [List.mem_filter, List.mem_range]
 constructor
 · rintro ⟨h1, h2⟩
   simp only [Bool.and_eq_true, Bool.not_eq_true'] at h2
   refine ⟨h1, h2.1, ops[i], Array.getElem?_eq_getElem h1, fun e he hb => ?_⟩
   have h3 := h2.2
   rw [Array.getElem?_eq_getElem h1] at h3
   simp only [Option.map_some, Option.getD_some, Array.all_eq_true'] at h3
   have := h3 e he
   simpa [hb] using this
 · rintro ⟨h1, h2, o, ho, h3⟩
   refine ⟨h1, ?_⟩
   simp only [h2, Bool.not_false, Bool.true_and, ho, Option.map_some, Option.getD_some, Array.all_eq_true']
   intro e he
   cases hb : Region.binds .any e with
   | false => rfl
   | true => simpa using h3 e he hb
theorem getD_set_self {ls : Array Bool} {i : Nat} (h : i < ls.size) (d : Bool) : (ls.setIfInBounds i true).getD i d = true := by simp [Array.getD, h]
theorem getD_set_other {ls : Array Bool} {i j : Nat} (h : j ≠ i) (d : Bool) : (ls.setIfInBounds i true).getD j d = ls.getD j d := by
 simp only [Array.getD_eq_getD_getElem?]
 rw [Array.getElem?_setIfInBounds_ne (Ne.symm h)]
theorem unlisted_lt {ls : Array Bool} {i : Nat} (h : ls.getD i true = false) : i < ls.size := by
 rcases Nat.lt_or_ge i ls.size with x | x
 · exact x
 · simp [Array.getD, Nat.not_lt.2 x] at h
/-- The slot's elder value put back. -/
theorem back {L : Loc} {a : Act} {d : Nat} {u : Value} (f : Fr n ((d, u) :: L) a) : ∃ v, Fr n L (a.put (some d) v) := by
 refine ⟨(lk L d).getD ((a.tmps[d]?).getD undef), by simp [Act.put]; exact f.1, fun i x e => ?_⟩
 simp only [Act.put, Array.getElem?_setIfInBounds]
 by_cases hi : d = i
 · subst hi
   have : lk ((d, u) :: L) d = some u := by simp [lk, nbeq_self]
   have h2 := f.2 d u this
   have hlt := (Array.getElem?_eq_some_iff.1 h2).1
   simp [hlt, e]
 · rw [if_neg hi]
   exact f.2 i x (by simp only [lk, nbeq hi, cond_false]; exact e)
theorem Tells.later {o o' : Oper} {v u : Value} (hs : ∀ cs b, o.op ≠ .select cs b) (ap : o.apart ops o' = true) (t : Tells P n ops o A L v) : Tells P n ops o A (putL o'.dst u L) v := by
 obtain ⟨_, _, h3⟩ := Oper.apart_spec ap
 have hgd : ∀ {j : Nat} {want : Bool} {x : Value}, o.guard = some (j, want) → gd ops L j = some x → gd ops (putL o'.dst u L) j = some x := by
  intro j want x hg h
  cases hd : o'.dst with
  | none => exact h
  | some d =>
    have hno := h3 d hd
    unfold gd at h ⊢
    cases e : (ops[j]?).bind (·.dst) with
    | none => rw [e] at h; cases h
    | some s =>
      rw [e] at h
      have hne : d ≠ s := fun x => hno (List.mem_append_right _ (by simp [hg, e, x]))
      simp only [Option.bind_some, putL, lk, nbeq hne, cond_false] at h ⊢
      exact h
 rcases t with ⟨j, want, b, hg, hg2, hne, hv⟩ | ⟨hg, run⟩
 · exact .inl ⟨j, want, b, hg, hgd hg hg2, hne, hv⟩
 · refine .inr ⟨?_, ?_⟩
   · rcases hg with hg | ⟨j, b, hg, hg2⟩
     · exact .inl hg
     · exact .inr ⟨j, b, hg, hgd hg hg2⟩
   · intro a f w M hA hf dj s t
     cases hd : o'.dst with
     | none => rw [hd] at f; exact run a f w M hA hf dj s t
     | some d =>
       rw [hd] at f
       obtain ⟨x, f2⟩ := back f
       have := run _ f2 w M hA hf dj s t
       rw [execOp_put (ops := ops) o hs a (some d) x (fun e he => by cases he; exact h3 d hd)] at this
       exact this
theorem putL_swap {L : Loc} {d : Option Tmp} {e : Option Tmp} (h : ∀ x, d = some x → e ≠ some x) (v u : Value) : Leq (putL d v (putL e u L)) (putL e u (putL d v L)) := by
 cases d with
 | none => intro i x y; exact y
 | some d =>
   cases e with
   | none => intro i x y; exact y
   | some e =>
     have hne : d ≠ e := fun x => h d rfl (by rw [x])
     intro i x y
     simp only [putL, lk] at y ⊢
     by_cases h1 : d = i
     · subst h1
       rw [nbeq_self, cond_true] at y
       rw [nbeq (Ne.symm hne), cond_false, nbeq_self, cond_true]; exact y
     · rw [nbeq h1, cond_false] at y
       by_cases h2 : e = i
       · subst h2; rw [nbeq_self, cond_true] at y ⊢; exact y
       · rw [nbeq h2, cond_false] at y ⊢
         rw [nbeq h1, cond_false]; exact y
theorem An.first (hnd : noDefer ops = true) {i : Nat} {o : Oper} {v : Value} (ho : ops[i]? = some o) (hd : dstOk n o.dst = true) : ∀ (k : Nat) (ls : Array Bool) (L : Loc) (Hs : List HP),
    i ∈ Region.ready .any ops ls → free ops ls i o = true → Tells P n ops o A L v → An r P n ops A Q k (ls.setIfInBounds i true) (putL o.dst v L) Hs → An r P n ops A Q (k + 1) ls L Hs := by
 obtain ⟨_, nsel⟩ := noDefer_at hnd ho
 intro k
 induction k with
 | zero =>
   intro ls L Hs hi hfr ht an
   refine ⟨(fun e => by rw [e] at hi; cases hi), fun j hj => ?_⟩
   by_cases hji : j = i
   · subst hji
     refine ⟨o, ho, .inl ⟨hd, ?_⟩⟩
     rcases ht with ⟨j', want, b, hg, hg2, hne, hv⟩ | ⟨hg, run⟩
     · exact .inl ⟨j', want, b, hg, hg2, hne, by rw [← hv]; exact an⟩
     · refine .inr ⟨hg, Unit, fun _ => v, fun _ => True, [], Hs, fun _ => [], Ent.refl _, ?_, fun _ _ => an⟩
       intro a f w M h hA hf dj dj' s sA t
       have e1 : (h.add hA).add hf = hA.add (h.add hf) := by rw [Res.add_comm dj, Res.add_assoc]
       have := run a f w M hA (h.add hf) (Res.dj_add_right.2 ⟨Res.dj_comm dj, (Res.dj_add_left.1 dj').2⟩) sA (by rw [← e1]; exact t)
       rw [this]
       exact ⟨(), M, h, rfl, trivial, Kn.le_refl _, dj, dj', t, trivial⟩
   · exfalso
     have hr : j ∈ Region.ready .any ops (ls.setIfInBounds i true) := by
      obtain ⟨h1, h2, oj, hoj, h3⟩ := ready_iff.1 hj
      refine ready_iff.2 ⟨h1, by rw [getD_set_other hji]; exact h2, oj, hoj, fun e he hb => ?_⟩
      by_cases hei : e.on = i
      · rw [hei]; exact getD_set_self (unlisted_lt (ready_iff.1 hi).2.1) _
      · rw [getD_set_other hei]; exact h3 e he hb
     rw [an.1] at hr; cases hr
 | succ k ih =>
   intro ls L Hs hi hfr ht an
   refine ⟨(fun e => by rw [e] at hi; cases hi), fun j hj => ?_⟩
   by_cases hji : j = i
   · subst hji
     refine ⟨o, ho, .inl ⟨hd, ?_⟩⟩
     rcases ht with ⟨j', want, b, hg, hg2, hne, hv⟩ | ⟨hg, run⟩
     · exact .inl ⟨j', want, b, hg, hg2, hne, by rw [← hv]; exact an⟩
     · refine .inr ⟨hg, Unit, fun _ => v, fun _ => True, [], Hs, fun _ => [], Ent.refl _, ?_, fun _ _ => an⟩
       intro a f w M h hA hf dj dj' s sA t
       have e1 : (h.add hA).add hf = hA.add (h.add hf) := by rw [Res.add_comm dj, Res.add_assoc]
       have := run a f w M hA (h.add hf) (Res.dj_add_right.2 ⟨Res.dj_comm dj, (Res.dj_add_left.1 dj').2⟩) sA (by rw [← e1]; exact t)
       rw [this]
       exact ⟨(), M, h, rfl, trivial, Kn.le_refl _, dj, dj', t, trivial⟩
   · obtain ⟨h1, h2, oj, hoj, h3⟩ := ready_iff.1 hj
     obtain ⟨i1, i2, oi, hoi, i3⟩ := ready_iff.1 hi
     have hisz := unlisted_lt i2
     have hjsz := unlisted_lt h2
     have hr : j ∈ Region.ready .any ops (ls.setIfInBounds i true) := by
      refine ready_iff.2 ⟨h1, by rw [getD_set_other hji]; exact h2, oj, hoj, fun e he hb => ?_⟩
      by_cases hei : e.on = i
      · rw [hei]; exact getD_set_self hisz _
      · rw [getD_set_other hei]; exact h3 e he hb
     obtain ⟨oj', hoj', hop⟩ := an.2 j hr
     have e0 : oj' = oj := by rw [hoj] at hoj'; injection hoj' with e; exact e.symm
     subst e0
     obtain ⟨_, nselj⟩ := noDefer_at hnd hoj
     replace hop := hop.resolve_right (fun hl => by
      have hm : (oi, i) ∈ ops.toList.zipIdx := by
       rw [List.mem_zipIdx_iff_getElem?]
       simpa using hoi
      have := List.all_eq_true.1 hl.1 _ hm
      simp only [Bool.or_eq_true] at this
      rcases this with h | h
      · exact hji (Nat.eq_of_beq_eq_true h).symm
      · rw [Array.any_eq_true'] at h
        obtain ⟨e, he, hb⟩ := h
        simp only [Bool.and_eq_true] at hb
        have := h3 e he hb.1
        rw [Nat.eq_of_beq_eq_true hb.2] at this
        have i2' : ls.getD i false = false := by
         simp only [Array.getD, hisz, dif_pos] at i2 ⊢; exact i2
        rw [i2'] at this; cases this)
     obtain ⟨hdj, hop⟩ := hop
     -- they are apart
     have ap : o.apart ops oj' = true := by
      have hm : (oj', j) ∈ ops.toList.zipIdx := by
       rw [List.mem_zipIdx_iff_getElem?]
       simpa using hoj
      have := List.all_eq_true.1 hfr _ hm
      simp only [Bool.or_eq_true] at this
      rcases this with ((h | h) | h) | h
      · exact absurd (Nat.eq_of_beq_eq_true h) hji
      · exfalso
        have : ls.getD j true = true := by
         simp only [Array.getD, hjsz, dif_pos] at h ⊢; exact h
        rw [h2] at this; cases this
      · exact h
      · exfalso
        rw [Array.any_eq_true'] at h
        obtain ⟨e, he, hb⟩ := h
        simp only [Bool.and_eq_true] at hb
        have := h3 e he hb.1
        rw [Nat.eq_of_beq_eq_true hb.2] at this
        have i2' : ls.getD i false = false := by
         simp only [Array.getD, hisz, dif_pos] at i2 ⊢; exact i2
        rw [i2'] at this; cases this
     obtain ⟨a1, a2, a3⟩ := Oper.apart_spec ap
     have hfr' : free ops (ls.setIfInBounds j true) i o = true := by
      unfold free at hfr ⊢
      rw [List.all_eq_true] at hfr ⊢
      rintro ⟨oq, q⟩ hq
      have := hfr _ hq
      simp only [Bool.or_eq_true] at this ⊢
      rcases this with ((h | h) | h) | h
      · exact .inl (.inl (.inl h))
      · by_cases hqj : q = j
        · subst hqj; exact .inl (.inl (.inr (getD_set_self hjsz _)))
        · exact .inl (.inl (.inr (by rw [getD_set_other hqj]; exact h)))
      · exact .inl (.inr h)
      · exact .inr h
     have hi' : i ∈ Region.ready .any ops (ls.setIfInBounds j true) := by
      refine ready_iff.2 ⟨i1, by rw [getD_set_other (Ne.symm hji)]; exact i2, oi, hoi, fun e he hb => ?_⟩
      by_cases hej : e.on = j
      · rw [hej]; exact getD_set_self hjsz _
      · rw [getD_set_other hej]; exact i3 e he hb
     have hcomm : (ls.setIfInBounds i true).setIfInBounds j true = (ls.setIfInBounds j true).setIfInBounds i true := by
      apply Array.ext_getElem?
      intro q
      simp only [Array.getElem?_setIfInBounds, Array.size_setIfInBounds]
      by_cases hqi : i = q <;> by_cases hqj : j = q <;> simp [hqi, hqj]
      all_goals (subst hqi; try subst hqj; simp_all)
     refine ⟨oj', hoj, .inl ⟨hdj, ?_⟩⟩
     have gback : ∀ {q : Nat} {want : Bool} {x : Value}, oj'.guard = some (q, want) → gd ops (putL o.dst v L) q = some x → gd ops L q = some x := by
      intro q want x hg h
      cases hdo : o.dst with
      | none => rw [hdo] at h; exact h
      | some d =>
        have hno := a1 d hdo
        rw [hdo] at h
        unfold gd at h ⊢
        cases e : (ops[q]?).bind (·.dst) with
        | none => rw [e] at h; cases h
        | some s =>
          rw [e] at h
          have hne : d ≠ s := fun x => hno (List.mem_append_right _ (by simp [hg, e, x]))
          simp only [Option.bind_some, putL, lk, nbeq hne, cond_false] at h ⊢
          exact h
     have go : ∀ (u : Value) (Gs : List HP), An r P n ops A Q k ((ls.setIfInBounds i true).setIfInBounds j true) (putL oj'.dst u (putL o.dst v L)) Gs → An r P n ops A Q (k + 1) (ls.setIfInBounds j true) (putL oj'.dst u L) Gs := by
      intro u Gs x
      refine ih _ _ _ hi' hfr' (ht.later nsel ap) ?_
      rw [← hcomm]
      refine An.leq _ _ _ _ _ (putL_swap (fun y hy hz => a2 y hz hy) u v) x
     rcases hop with ⟨q, want, b, hg, hgd, hne, k'⟩ | ⟨hg, X, val, φ, As, Rs, Bs, he, htt, hk⟩
     · exact .inl ⟨q, want, b, hg, gback hg hgd, hne, go _ _ k'⟩
     · refine .inr ⟨?_, X, val, φ, As, Rs, Bs, he, ?_, fun x p => go _ _ (hk x p)⟩
       · rcases hg with hg | ⟨q, b, hg, hgd⟩
         · exact .inl hg
         · exact .inr ⟨q, b, hg, gback hg hgd⟩
       · intro a f w M h hA hf dj dj' s sA t
         have := htt (a.put o.dst v) (f.putL hd) w M h hA hf dj dj' s sA t
         rw [execOp_put (ops := ops) oj' nselj a o.dst v (fun d hdd => a1 d hdd)] at this
         exact this
end
end
end Go.Proofs.YtdnoacgopfcpbaaGreat
