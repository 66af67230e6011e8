/- Texts of this proof, put together: Pure, Heap, Auto. -/
import Derived.WalkKit
import Derived.Test.YtdnoacgopfcpbaaGreatQ00
set_option linter.unusedVariables false
set_option linter.unusedSimpArgs false
namespace Go.Proofs.YtdnoacgopfcpbaaGreat
section
abbrev vI (n : Int) : Value := .int .i64 n
abbrev vU (n : Int) : Value := .int .u8 n
abbrev vB (b : Bool) : Value := .bool b
abbrev vS (l : List UInt8) : Value := .string ⟨⟨l⟩⟩
abbrev blt (l m : List UInt8) : Bool := Op.bytesLess l m
theorem mk_toList (l : List UInt8) : (ByteArray.mk ⟨l⟩).toList = l := by rw [ByteArray.toList_eq]
theorem lbeq (l m : List UInt8) : (l == m) = decide (l = m) := by by_cases h : l = m <;> simp [h]
theorem mk_append (l m : List UInt8) : (ByteArray.mk ⟨l⟩) ++ (ByteArray.mk ⟨m⟩) = ByteArray.mk ⟨l ++ m⟩ := by
 apply ByteArray.ext
 simp
theorem mk_size (l : List UInt8) : (ByteArray.mk ⟨l⟩).size = l.length := rfl
theorem mk_extract (l : List UInt8) (i j : Nat) : (ByteArray.mk ⟨l⟩).extract i j = ByteArray.mk ⟨(l.drop i).take (j - i)⟩ := by
 apply ByteArray.ext
 rw [ByteArray.data_extract]
 apply Array.ext'
 simp [Array.toList_extract, List.extract_eq_take_drop]
theorem mk_get (l : List UInt8) (i : Nat) : (ByteArray.mk ⟨l⟩)[i]? = l[i]? := by
 simp only [getElem?_def]
 simp only [mk_size]
 split <;> rfl
theorem mk_eq (l m : List UInt8) : (ByteArray.mk ⟨l⟩ == ByteArray.mk ⟨m⟩) = decide (l = m) := by
 rw [beq_toListBytes, mk_toList, mk_toList, lbeq]
section
variable {P : Program} {n : Nat} {L : Loc} {ty : TypeId}
theorem pv_move {x : Operand} {v : Value} (hx : ev L x = some v) : PV P n L (.move x) ty v :=
 ⟨by intro c; simp, fun a f w _ _ _ _ => by simp [execOp, f.ev hx]⟩
theorem pv_assign {x : Operand} {v : Value} (hx : ev L x = some v) : PV P n L (.assign x) ty v :=
 ⟨by intro c; simp, fun a f w _ _ _ _ => by simp [execOp, f.ev hx]⟩
theorem pv_pick_t {c x y : Operand} {v : Value} (hc : ev L c = some (.bool true)) (hx : ev L x = some v) : PV P n L (.pick c x y) ty v :=
 ⟨by intro c; simp, fun a f w _ _ _ _ => by simp [execOp, f.ev hc, f.ev hx, asBool]⟩
theorem pv_pick_f {c x y : Operand} {v : Value} (hc : ev L c = some (.bool false)) (hy : ev L y = some v) : PV P n L (.pick c x y) ty v :=
 ⟨by intro c; simp, fun a f w _ _ _ _ => by simp [execOp, f.ev hc, f.ev hy, asBool]⟩
theorem pv_extract {x : Operand} {vs : Array Value} {i : Nat} {v : Value} (hx : ev L x = some (.tuple vs)) (hv : vs[i]? = some v) : PV P n L (.extract x i) ty v :=
 ⟨by intro c; simp, fun a f w _ _ _ _ => by simp [execOp, f.ev hx, Instr.extract, hv]⟩
/-! Whole numbers. -/
theorem pv_arith {x y : Operand} {k : IntKind} {i j : Int} {t yt : TypeId} {op : BinOp} {v : Value} (hx : ev L x = some (.int k i)) (hy : ev L y = some (.int k j))
    (h : ∀ w, (binOp op t (.int k i) (.int k j)).run P w = .ok v w) : PV P n L (.binOp op t x y yt) ty v :=
 ⟨by intro c; simp, fun a f w _ _ _ _ => by
  simp only [execOp, f.ev hx, f.ev hy, Sem.run_bind]
  have hg : (eqGuard op t x y (.int k i) (.int k j)).run P w = .ok () w := by
   unfold eqGuard
   split <;> rfl
  rw [hg]
  simp [h w]⟩
theorem i64_in' {m : Int} (h : -9223372036854775808 ≤ m ∧ m ≤ 9223372036854775807) : IntKind.i64.wrap m = m := IntWalk.i64_in m h
theorem pv_add {x y : Operand} {i j : Int} {t yt : TypeId} (hx : ev L x = some (vI i)) (hy : ev L y = some (vI j)) (h : -9223372036854775808 ≤ i + j ∧ i + j ≤ 9223372036854775807) :
    PV P n L (.binOp .add t x y yt) ty (vI (i + j)) := pv_arith hx hy fun w => by simp [binOp, Op.intArith, i64_in' h]
theorem pv_sub {x y : Operand} {i j : Int} {t yt : TypeId} (hx : ev L x = some (vI i)) (hy : ev L y = some (vI j)) (h : -9223372036854775808 ≤ i - j ∧ i - j ≤ 9223372036854775807) :
    PV P n L (.binOp .sub t x y yt) ty (vI (i - j)) := pv_arith hx hy fun w => by simp [binOp, Op.intArith, i64_in' h]
theorem pv_mul {x y : Operand} {i j : Int} {t yt : TypeId} (hx : ev L x = some (vI i)) (hy : ev L y = some (vI j)) (h : -9223372036854775808 ≤ i * j ∧ i * j ≤ 9223372036854775807) :
    PV P n L (.binOp .mul t x y yt) ty (vI (i * j)) := pv_arith hx hy fun w => by simp [binOp, Op.intArith, i64_in' h]
theorem pv_addw {x y : Operand} {k : IntKind} {i j : Int} {t yt : TypeId} (hx : ev L x = some (.int k i)) (hy : ev L y = some (.int k j)) :
    PV P n L (.binOp .add t x y yt) ty (.int k (k.wrap (i + j))) := pv_arith hx hy fun w => by simp [binOp, Op.intArith]
theorem pv_subw {x y : Operand} {k : IntKind} {i j : Int} {t yt : TypeId} (hx : ev L x = some (.int k i)) (hy : ev L y = some (.int k j)) :
    PV P n L (.binOp .sub t x y yt) ty (.int k (k.wrap (i - j))) := pv_arith hx hy fun w => by simp [binOp, Op.intArith]
theorem pv_mulw {x y : Operand} {k : IntKind} {i j : Int} {t yt : TypeId} (hx : ev L x = some (.int k i)) (hy : ev L y = some (.int k j)) :
    PV P n L (.binOp .mul t x y yt) ty (.int k (k.wrap (i * j))) := pv_arith hx hy fun w => by simp [binOp, Op.intArith]
theorem pv_quo {x y : Operand} {i j : Int} {t yt : TypeId} (hx : ev L x = some (vI i)) (hy : ev L y = some (vI j)) (h : 0 ≤ i ∧ i ≤ 9223372036854775807 ∧ 1 ≤ j) :
    PV P n L (.binOp .quo t x y yt) ty (vI (i / j)) := pv_arith hx hy fun w => by
     have hj : ¬ (j = 0) := by omega
     simp [binOp, Op.intDiv, hj, IntWalk.i64_quo _ _ h]
theorem pv_rem {x y : Operand} {k : IntKind} {i j : Int} {t yt : TypeId} (hx : ev L x = some (.int k i)) (hy : ev L y = some (.int k j)) (h : 0 ≤ i ∧ 1 ≤ j) :
    PV P n L (.binOp .rem t x y yt) ty (.int k (i % j)) := pv_arith hx hy fun w => by
     have hj : ¬ (j = 0) := by omega
     simp [binOp, Op.intDiv, hj, Int.tmod_eq_emod_of_nonneg h.1]
theorem pv_lss {x y : Operand} {k : IntKind} {i j : Int} {t yt : TypeId} (hx : ev L x = some (.int k i)) (hy : ev L y = some (.int k j)) :
    PV P n L (.binOp .lss t x y yt) ty (.bool (decide (i < j))) := pv_arith hx hy fun w => by simp [binOp, Op.intCmp]
theorem pv_leq {x y : Operand} {k : IntKind} {i j : Int} {t yt : TypeId} (hx : ev L x = some (.int k i)) (hy : ev L y = some (.int k j)) :
    PV P n L (.binOp .leq t x y yt) ty (.bool (decide (i ≤ j))) := pv_arith hx hy fun w => by simp [binOp, Op.intCmp]
theorem pv_gtr {x y : Operand} {k : IntKind} {i j : Int} {t yt : TypeId} (hx : ev L x = some (.int k i)) (hy : ev L y = some (.int k j)) :
    PV P n L (.binOp .gtr t x y yt) ty (.bool (decide (j < i))) := pv_arith hx hy fun w => by simp [binOp, Op.intCmp]
theorem pv_geq {x y : Operand} {k : IntKind} {i j : Int} {t yt : TypeId} (hx : ev L x = some (.int k i)) (hy : ev L y = some (.int k j)) :
    PV P n L (.binOp .geq t x y yt) ty (.bool (decide (j ≤ i))) := pv_arith hx hy fun w => by simp [binOp, Op.intCmp]
theorem pv_eql {x y : Operand} {k : IntKind} {i j : Int} {t yt : TypeId} (hx : ev L x = some (.int k i)) (hy : ev L y = some (.int k j)) :
    PV P n L (.binOp .eql t x y yt) ty (.bool (decide (i = j))) := pv_arith hx hy fun w => by
     simp only [binOp, ne_eq, not_true_eq_false, if_false, Op.intCmp, Sem.run_pure]; congr 2
theorem pv_neq {x y : Operand} {k : IntKind} {i j : Int} {t yt : TypeId} (hx : ev L x = some (.int k i)) (hy : ev L y = some (.int k j)) :
    PV P n L (.binOp .neq t x y yt) ty (.bool (decide (¬ i = j))) := pv_arith hx hy fun w => by
     simp only [binOp, ne_eq, not_true_eq_false, if_false, Op.intCmp, Sem.run_pure]; congr 2; by_cases h : i = j <;> simp [h]
theorem pv_shl {x y : Operand} {k k' : IntKind} {i : Int} {m : Nat} {t yt : TypeId} (hx : ev L x = some (.int k i)) (hy : ev L y = some (.int k' (m : Int))) :
    PV P n L (.binOp .shl t x y yt) ty (.int k (k.wrap (i * 2 ^ (min m k.bits)))) :=
 ⟨by intro c; simp, fun a f w _ _ _ _ => by simp [execOp, f.ev hx, f.ev hy, eqGuard, binOp, Op.shift]; omega⟩
theorem pv_shr {x y : Operand} {k k' : IntKind} {i : Int} {m : Nat} {t yt : TypeId} (hx : ev L x = some (.int k i)) (hy : ev L y = some (.int k' (m : Int))) :
    PV P n L (.binOp .shr t x y yt) ty (.int k (i.fdiv (2 ^ (min m k.bits)))) :=
 ⟨by intro c; simp, fun a f w _ _ _ _ => by simp [execOp, f.ev hx, f.ev hy, eqGuard, binOp, Op.shift]; omega⟩
theorem pv_not {x : Operand} {b : Bool} {t : TypeId} (hx : ev L x = some (.bool b)) : PV P n L (.unOp .not t x) ty (.bool (!b)) :=
 ⟨by intro c; simp, fun a f w _ _ _ _ => by simp [execOp, f.ev hx, Op.unary]⟩
theorem pv_notd {x : Operand} {p : Prop} [Decidable p] {t : TypeId} (hx : ev L x = some (.bool (decide p))) : PV P n L (.unOp .not t x) ty (.bool (decide (¬ p))) := by
 have : decide (¬ p) = !(decide p) := by simp
 rw [this]; exact pv_not hx
theorem pv_conv {x : Operand} {k k' : IntKind} {i : Int} {src dst : TypeId} {sd : TypeDesc} (hx : ev L x = some (.int k' i)) (hs : P.underlying src = some sd) (hd : P.underlying dst = some (.int k)) :
    PV P n L (.convert src dst x) ty (.int k (k.wrap i)) :=
 ⟨by intro c; simp, fun a f w _ _ _ _ => by simp [execOp, f.ev hx, convert, run_underlying hs, run_underlying hd, Conv.intToInt]⟩
theorem pv_conv_in {x : Operand} {k k' : IntKind} {i : Int} {src dst : TypeId} {sd : TypeDesc} (hx : ev L x = some (.int k' i)) (hs : P.underlying src = some sd) (hd : P.underlying dst = some (.int k))
    (hw : k.wrap i = i) : PV P n L (.convert src dst x) ty (.int k i) := by
 have := pv_conv (n := n) (ty := ty) hx hs hd; rw [hw] at this; exact this
/-! Texts. -/
theorem pv_sarith {x y : Operand} {l m : List UInt8} {t yt : TypeId} {op : BinOp} {v : Value} (hx : ev L x = some (vS l)) (hy : ev L y = some (vS m))
    (h : ∀ w, (binOp op t (vS l) (vS m)).run P w = .ok v w) : PV P n L (.binOp op t x y yt) ty v :=
 ⟨by intro c; simp, fun a f w _ _ _ _ => by
  simp only [execOp, f.ev hx, f.ev hy, Sem.run_bind]
  have hg : (eqGuard op t x y (vS l) (vS m)).run P w = .ok () w := by
   unfold eqGuard
   split <;> rfl
  rw [hg]
  simp [h w]⟩
theorem pv_cat {x y : Operand} {l m : List UInt8} {t yt : TypeId} (hx : ev L x = some (vS l)) (hy : ev L y = some (vS m)) (h : l.length + m.length ≤ 9223372036854775807) :
    PV P n L (.binOp .add t x y yt) ty (vS (l ++ m)) := pv_sarith hx hy fun w => by
     have : ¬ (IntKind.i64.max < (l.length : Int) + (m.length : Int)) := by
      have e : IntKind.i64.max = 9223372036854775807 := by decide
      rw [e]; omega
     simp [binOp, Op.stringOp, mk_size, mk_append, this]
     omega
theorem pv_seql {x y : Operand} {l m : List UInt8} {t yt : TypeId} (hx : ev L x = some (vS l)) (hy : ev L y = some (vS m)) :
    PV P n L (.binOp .eql t x y yt) ty (.bool (decide (l = m))) := pv_sarith hx hy fun w => by
     simp only [binOp, Op.stringOp, mk_toList, Sem.run_pure, lbeq]
theorem pv_sneq {x y : Operand} {l m : List UInt8} {t yt : TypeId} (hx : ev L x = some (vS l)) (hy : ev L y = some (vS m)) :
    PV P n L (.binOp .neq t x y yt) ty (.bool (decide (¬ l = m))) := pv_sarith hx hy fun w => by
     simp only [binOp, Op.stringOp, mk_toList, Sem.run_pure]; congr 2; by_cases h : l = m <;> simp [h]
theorem pv_slss {x y : Operand} {l m : List UInt8} {t yt : TypeId} (hx : ev L x = some (vS l)) (hy : ev L y = some (vS m)) :
    PV P n L (.binOp .lss t x y yt) ty (.bool (blt l m)) := pv_sarith hx hy fun w => by simp [binOp, Op.stringOp, mk_toList]
theorem pv_sleq {x y : Operand} {l m : List UInt8} {t yt : TypeId} (hx : ev L x = some (vS l)) (hy : ev L y = some (vS m)) :
    PV P n L (.binOp .leq t x y yt) ty (.bool (blt l m || decide (l = m))) := pv_sarith hx hy fun w => by
     simp only [binOp, Op.stringOp, mk_toList, Sem.run_pure, lbeq]
theorem pv_sgtr {x y : Operand} {l m : List UInt8} {t yt : TypeId} (hx : ev L x = some (vS l)) (hy : ev L y = some (vS m)) :
    PV P n L (.binOp .gtr t x y yt) ty (.bool (!(blt l m || decide (l = m)))) := pv_sarith hx hy fun w => by
     simp only [binOp, Op.stringOp, mk_toList, Sem.run_pure, lbeq]
theorem pv_sgeq {x y : Operand} {l m : List UInt8} {t yt : TypeId} (hx : ev L x = some (vS l)) (hy : ev L y = some (vS m)) :
    PV P n L (.binOp .geq t x y yt) ty (.bool (!(blt l m))) := pv_sarith hx hy fun w => by simp [binOp, Op.stringOp, mk_toList]
theorem pv_index {x y : Operand} {l : List UInt8} {k : IntKind} {i : Int} {t : TypeId} (ht : P.underlying t = some .string) (hx : ev L x = some (vS l)) (hy : ev L y = some (.int k i)) (h0 : 0 ≤ i) (h : i < l.length) :
    PV P n L (.index t x y) ty (vU ((l.getD i.toNat 0).toNat : Int)) :=
 ⟨by intro c; simp, fun a f w _ _ _ _ => by
  have hlt : i.toNat < l.length := by omega
  simp only [execOp, f.ev hx, f.ev hy, Instr.index, asIntOf, Sem.run_bind, Sem.run_pure, Result.andThen_ok, run_underlying ht, h0, if_true, mk_get]
  rw [List.getElem?_eq_getElem hlt]
  simp [hlt]⟩
theorem pv_slice_to {x y : Operand} {l : List UInt8} {k : IntKind} {i : Int} {t : TypeId} (ht : P.underlying t = some .string) (hx : ev L x = some (vS l)) (hy : ev L y = some (.int k i)) (h0 : 0 ≤ i) (h : i ≤ l.length) :
    PV P n L (.slice t x none (some y) none) ty (vS (l.take i.toNat)) :=
 ⟨by intro c; simp, fun a f w _ _ _ _ => by
  have h0' : 0 ≤ i := h0
  simp [execOp, f.ev hx, f.ev hy, Instr.sliceAt, Instr.slice, Instr.sliceBounds, run_underlying ht, mk_size, run_sliceBound w k i l.length .sliceAlen h0 h, mk_extract]⟩
theorem pv_slice_from {x y : Operand} {l : List UInt8} {k : IntKind} {i : Int} {t : TypeId} (ht : P.underlying t = some .string) (hx : ev L x = some (vS l)) (hy : ev L y = some (.int k i)) (h0 : 0 ≤ i) (h : i ≤ l.length) :
    PV P n L (.slice t x (some y) none none) ty (vS (l.drop i.toNat)) :=
 ⟨by intro c; simp, fun a f w _ _ _ _ => by
  simp [execOp, f.ev hx, f.ev hy, Instr.sliceAt, Instr.slice, Instr.sliceBounds, run_underlying ht, mk_size, run_sliceBound w k i l.length .sliceB h0 h, mk_extract]
  exact List.take_of_length_le (by simp)⟩
theorem pv_slice_in {x y z : Operand} {l : List UInt8} {k k' : IntKind} {i j : Int} {t : TypeId} (ht : P.underlying t = some .string) (hx : ev L x = some (vS l)) (hy : ev L y = some (.int k i)) (hz : ev L z = some (.int k' j))
    (h0 : 0 ≤ i) (h1 : i ≤ j) (h : j ≤ l.length) : PV P n L (.slice t x (some y) (some z) none) ty (vS ((l.drop i.toNat).take (j - i).toNat)) :=
 ⟨by intro c; simp, fun a f w _ _ _ _ => by
  have e : (j - i).toNat = j.toNat - i.toNat := by omega
  have hj : (j.toNat : Int) = j := by omega
  simp [execOp, f.ev hx, f.ev hy, f.ev hz, Instr.sliceAt, Instr.slice, Instr.sliceBounds, run_underlying ht, mk_size, run_sliceBound w k' j l.length .sliceAlen (by omega) h, run_sliceBound w k i j.toNat .sliceB h0 (by omega), mk_extract, e]⟩
theorem pv_call_len_s {x : Operand} {l : List UInt8} {t : TypeId} (ht : P.underlying t = some .string) (hx : ev L x = some (vS l)) : PV P n L (.call ⟨.builtin .len, #[x], #[t]⟩) ty (vI l.length) :=
 ⟨by intro c; simp, fun a f w _ _ _ _ => by simp [execOp, resolve, f.ev hx, invoke, builtin, Builtin.len_, run_underlying ht, mk_size, goInt]⟩
theorem pv_call_len_sl {x : Operand} {b : Option Addr} {len cap : Nat} {t e : TypeId} (ht : P.underlying t = some (.slice e)) (hx : ev L x = some (.slice b len cap)) : PV P n L (.call ⟨.builtin .len, #[x], #[t]⟩) ty (vI len) :=
 ⟨by intro c; simp, fun a f w _ _ _ _ => by simp [execOp, resolve, f.ev hx, invoke, builtin, Builtin.len_, run_underlying ht, goInt]⟩
theorem pv_call_cap_sl {x : Operand} {b : Option Addr} {len cap : Nat} {t e : TypeId} (ht : P.underlying t = some (.slice e)) (hx : ev L x = some (.slice b len cap)) : PV P n L (.call ⟨.builtin .cap, #[x], #[t]⟩) ty (vI cap) :=
 ⟨by intro c; simp, fun a f w _ _ _ _ => by simp [execOp, resolve, f.ev hx, invoke, builtin, Builtin.cap_, run_underlying ht, goInt]⟩
theorem pv_call_min {x y : Operand} {k : IntKind} {i j : Int} {ts : Array TypeId} (hx : ev L x = some (.int k i)) (hy : ev L y = some (.int k j)) : PV P n L (.call ⟨.builtin .min, #[x, y], ts⟩) ty (.int k (min i j)) :=
 ⟨by intro c; simp, fun a f w _ _ _ _ => by
  have : (if j < i then j else i) = min i j := by split <;> omega
  simp [execOp, resolve, f.ev hx, f.ev hy, invoke, builtin, Builtin.min_, Builtin.min2, this]⟩
theorem pv_call_max {x y : Operand} {k : IntKind} {i j : Int} {ts : Array TypeId} (hx : ev L x = some (.int k i)) (hy : ev L y = some (.int k j)) : PV P n L (.call ⟨.builtin .max, #[x, y], ts⟩) ty (.int k (max i j)) :=
 ⟨by intro c; simp, fun a f w _ _ _ _ => by
  have : (if i < j then j else i) = max i j := by split <;> omega
  simp [execOp, resolve, f.ev hx, f.ev hy, invoke, builtin, Builtin.max_, Builtin.max2, this]⟩
/-! Structs, addresses, functions. -/
theorem pv_build {t : TypeId} {ps : Array (Nat × Operand)} {vs : List (Nat × Value)} {v : Value} (hps : ∀ a : Act, Fr n L a → (ps.map fun (i, x) => (i, a.eval x)) = vs.toArray)
    (h : ∀ w, (Instr.build t vs.toArray).run P w = .ok v w) : PV P n L (.build t ps) ty v :=
 ⟨by intro c; simp, fun a f w _ _ _ _ => by
  have e := hps a f
  simp only [execOp]
  rw [show (Array.map (fun x => match x with | (i, x) => (i, a.eval x)) ps) = vs.toArray from e]
  simp [h w]⟩
theorem pv_fieldAddr {t : TypeId} {x : Operand} {i b off : Nat} {fs : Array Field} {fd : Field} (ht : P.underlying t = some (.struct fs)) (hf : fs[i]? = some fd) {ti : TypeInfo} (hi : P.info? fd.type = some ti) (hz : Nat.beq ti.size 0 = false)
    (hx : ev L x = some (.pointer (some ⟨b, off, none⟩))) : PV P n L (.fieldAddr t x i) ty (.pointer (some ⟨b, off + fd.offset, none⟩)) :=
 ⟨by intro c; simp, fun a f w _ _ _ _ => by
  have hz' : ¬ (ti.size = 0) := fun e => by rw [e] at hz; cases hz
  have : (⟨b, off, none⟩ : Addr).add fd.offset = ⟨b, off + fd.offset, none⟩ := by
   unfold Addr.add; split <;> simp_all
  simp [execOp, f.ev hx, Instr.fieldAt, Instr.sureAddr, run_underlying ht, hf, fieldPlace, sizeOf, typeInfo, program, Sem.run, hi, hz', this]⟩
theorem pv_indexAddr {t e : TypeId} {x y : Operand} {k : IntKind} {i : Int} {b off len cap : Nat} {ti : TypeInfo} (ht : P.underlying t = some (.slice e)) (hi : P.info? e = some ti)
    (hx : ev L x = some (.slice (some ⟨b, off, none⟩) len cap)) (hy : ev L y = some (.int k i)) (h0 : 0 ≤ i) (h : i < len) : PV P n L (.indexAddr t x y) ty (.pointer (some ⟨b, off + i.toNat * ti.size, none⟩)) :=
 ⟨by intro c; simp, fun a f w _ _ _ _ => by
  have : (⟨b, off, none⟩ : Addr).add (i.toNat * ti.size) = ⟨b, off + i.toNat * ti.size, none⟩ := by
   unfold Addr.add; split <;> simp_all
  simp [execOp, f.ev hx, f.ev hy, Instr.indexAt, asIntOf, run_underlying ht, h0, h, sizeOf, typeInfo, program, Sem.run, hi, this]⟩
theorem pv_nilCheck_p {x : Operand} {b : Addr} (hx : ev L x = some (.pointer (some b))) : PV P n L (.nilCheck x) ty (.pointer (some b)) :=
 ⟨by intro c; simp, fun a f w _ _ _ _ => by simp [execOp, f.ev hx]⟩
theorem pv_nilCheck_f {x : Operand} {g : FuncId} {as cs : Array Value} (hx : ev L x = some (.func (.func g) as cs)) : PV P n L (.nilCheck x) ty (.func (.func g) as cs) :=
 ⟨by intro c; simp, fun a f w _ _ _ _ => by simp [execOp, f.ev hx]⟩
theorem pv_makeFunc {fn : Fn} {as cs : Array Operand} {avs cvs : List Value} (ha : evs L as.toList = some avs) (hc : evs L cs.toList = some cvs) : PV P n L (.makeFunc fn as cs) ty (.func fn avs.toArray cvs.toArray) :=
 ⟨by intro c; simp, fun a f w _ _ _ _ => by
  have e1 : as.map a.eval = avs.toArray := by apply Array.ext'; simp [f.evs _ ha]
  have e2 : cs.map a.eval = cvs.toArray := by apply Array.ext'; simp [f.evs _ hc]
  simp [execOp, Instr.makeFunc, e1, e2]⟩
theorem pv_slslice_to {x y : Operand} {b : Option Addr} {len cap : Nat} {k : IntKind} {i : Int} {t e : TypeId} {ti : TypeInfo} (ht : P.underlying t = some (.slice e)) (hi : P.info? e = some ti) (hx : ev L x = some (.slice b len cap)) (hy : ev L y = some (.int k i)) (h0 : 0 ≤ i) (h : i ≤ cap) :
    PV P n L (.slice t x none (some y) none) ty (.slice b i.toNat cap) :=
 ⟨by intro c; simp, fun a f w _ _ _ _ => by
  have e : (if cap = 0 then b else Option.map (fun x : Addr => x.add 0) b) = b := by
   split
   · rfl
   · cases b <;> simp [Addr.add]
  simp [execOp, f.ev hx, f.ev hy, Instr.sliceAt, Instr.slice, Instr.sliceBounds, run_underlying ht, run_sliceBound w k i cap .sliceAcap h0 h, sizeOf, typeInfo, program, Sem.run, hi, e]⟩
theorem pv_slslice_from {x y : Operand} {b : Option Addr} {len cap : Nat} {k : IntKind} {i : Int} {t e : TypeId} {ti : TypeInfo} (ht : P.underlying t = some (.slice e)) (hi : P.info? e = some ti) (hx : ev L x = some (.slice b len cap)) (hy : ev L y = some (.int k i)) (h0 : 0 ≤ i) (h : i ≤ len) :
    PV P n L (.slice t x (some y) none none) ty (.slice (if cap = i.toNat then b else b.map (·.add (i.toNat * ti.size))) (len - i.toNat) (cap - i.toNat)) :=
 ⟨by intro c; simp, fun a f w _ _ _ _ => by
  simp [execOp, f.ev hx, f.ev hy, Instr.sliceAt, Instr.slice, Instr.sliceBounds, run_underlying ht, run_sliceBound w k i len .sliceB h0 h, sizeOf, typeInfo, program, Sem.run, hi]⟩
end
end
section
/-- It stands among the assertions. -/
inductive Has (A : HP) : List HP → Prop
 | here {r : List HP} : Has A (A :: r)
 | there {B : HP} {r : List HP} : Has A r → Has A (B :: r)
theorem Has.sat {A : HP} {Hs : List HP} (p : Has A Hs) : ∀ {M : Kn} {h : Res}, SL Hs M h → ∃ h1 : Res, h1.le h ∧ A.at_ M h1 := by
 induction p with
 | here => rintro M h ⟨h1, h2, d, e, a, t⟩; exact ⟨h1, by rw [e]; exact Res.le_add_left _ _, a⟩
 | there _ ih =>
   rintro M h ⟨h1, h2, d, e, a, t⟩
   obtain ⟨k, l, x⟩ := ih t
   exact ⟨k, Res.le_trans l (by rw [e]; exact Res.le_add_right d), x⟩
/-- One assertion is replaced by another. -/
inductive Upd (A B : HP) : List HP → List HP → Prop
 | here {r : List HP} : Upd A B (A :: r) (B :: r)
 | there {C : HP} {r s : List HP} : Upd A B r s → Upd A B (C :: r) (C :: s)
theorem Upd.sat {A B : HP} {Hs Gs : List HP} (p : Upd A B Hs Gs) : ∀ {M : Kn} {h : Res}, SL Hs M h →
    ∃ h1 h2 : Res, h1.dj h2 ∧ h = h1.add h2 ∧ A.at_ M h1 ∧ ∀ (M' : Kn) (h1' : Res), M.le M' → h1'.dj h2 → B.at_ M' h1' → SL Gs M' (h1'.add h2) := by
 induction p with
 | here =>
   rintro M h ⟨h1, h2, d, e, a, t⟩
   exact ⟨h1, h2, d, e, a, fun M' h1' l d' b => ⟨h1', h2, d', rfl, b, SL.mono l t⟩⟩
 | @there C r s _ ih =>
   rintro M h ⟨h1, h2, d, e, c, t⟩
   obtain ⟨k1, k2, d', e', a, g⟩ := ih t
   subst e'; subst e
   obtain ⟨d1, d2⟩ := Res.dj_add_right.1 d
   refine ⟨k1, h1.add k2, Res.dj_add_right.2 ⟨Res.dj_comm d1, d'⟩, by rw [← Res.add_assoc, Res.add_comm d1, Res.add_assoc], a, ?_⟩
   intro M' h1' l dj b
   obtain ⟨x1, x2⟩ := Res.dj_add_right.1 dj
   refine ⟨h1, h1'.add k2, Res.dj_add_right.2 ⟨Res.dj_comm x1, d2⟩, ?_, C.mono l c, g M' h1' l x2 b⟩
   rw [← Res.add_assoc, Res.add_comm x1, Res.add_assoc]
/-- A block of cells that one has; that never turns. -/
def Ce (b : Nat) (T : TypeId) (l : List Value) : HP := Blk b (.cells l.toArray T (0, 0))
def ICe (b : Nat) (T : TypeId) (l : List Value) : HP := Im b (.cells l.toArray T (0, 0))
/-- What lets a block's cells be read. -/
def Shows (A : HP) (b : Nat) (l : List Value) : Prop := ∀ {M : Kn} {h : Res}, A.at_ M h → ∃ T fz, M.im b = some (.cells l.toArray T fz) ∨ h b = some (.cells l.toArray T fz)
theorem shows_ce {b : Nat} {T : TypeId} {l : List Value} : Shows (Ce b T l) b l := fun e => ⟨T, (0, 0), .inr (by have : _ = Res.one b _ := e; rw [this]; exact Res.one_same _ _)⟩
theorem shows_ice {b : Nat} {T : TypeId} {l : List Value} : Shows (ICe b T l) b l := fun e => ⟨T, (0, 0), .inl e⟩
theorem shows_im {b : Nat} {T : TypeId} {l : List Value} {fz : Nat × Nat} : Shows (Im b (.cells l.toArray T fz)) b l := fun e => ⟨T, fz, .inl e⟩
theorem shows_blk {b : Nat} {T : TypeId} {l : List Value} {fz : Nat × Nat} : Shows (Blk b (.cells l.toArray T fz)) b l := fun e => ⟨T, fz, .inr (by have : _ = Res.one b _ := e; rw [this]; exact Res.one_same _ _)⟩
theorem shows_cell {A : HP} {b : Nat} {l : List Value} (sh : Shows A b l) {w : World} {M : Kn} {h hf h1 : Res} (t : Sat w M (h.add hf)) (le : h1.le h) (x : A.at_ M h1) (off : Nat) :
    w.cell? ⟨b, off, none⟩ = l[off]? := by
 obtain ⟨T, fz, e⟩ := sh x
 have hb : w.heap[b]? = some (.cells l.toArray T fz) := by
  rcases e with e | e
  · exact t.im _ _ e
  · exact t.ow _ _ (Res.le_add_left _ _ _ _ (le _ _ e))
 simp [World.cell?, hb]
section
variable {r : Option Nat} {P : Program} {n : Nat} {ops : Array Oper} {os : List Oper} {L : Loc} {Hs : List HP} {Q : Out} {ty : TypeId} {d : Nat} {pos : String} {after : Array Edge}
/-- An operation that leaves the world as it is, with what it reads. -/
theorem wo_read {A : HP} {op : Op} {v : Value} (nd : ∀ c, op ≠ .defer c) (hA : Has A Hs) (hd : Nat.blt d n = true)
    (hrun : ∀ (a : Act), Fr n L a → ∀ (w : World) (M : Kn) (h h1 hf : Res), Sat w M (h.add hf) → h1.le h → A.at_ M h1 → ∀ (dst : Option Tmp) (pos : String) (after : Array Edge) (guard : Option (Nat × Bool)),
     (execOp a.eval ⟨dst, op, ty, pos, after, guard⟩).run P w = .ok (.value v) w)
    (k : wo r P n ops os ((d, v) :: L) Hs Q) : wo r P n ops (⟨some d, op, ty, pos, after, none⟩ :: os) L Hs Q := by
 intro a M m s w hf dj t
 simp only [wpL, Region.wanted, if_true]
 obtain ⟨g1, g2, dg, e, _, s2⟩ := s.2
 obtain ⟨h1, le, x⟩ := hA.sat s2
 rw [Oper.semAt_eq _ _ _ nd, hrun a s.1 w M m h1 hf t (Res.le_trans le (by rw [e]; exact Res.le_add_right dg)) x]
 exact k _ M m ⟨s.1.put hd, s.2⟩ w hf dj t
def flat : TypeDesc → Bool
 | .struct _ => false
 | .array _ _ => false
 | _ => true
theorem isAgg_flat {t : TypeId} {td : TypeDesc} (ht : P.underlying t = some td) (hfl : flat td = true) (w : World) : (isAgg t).run P w = .ok false w := by
 simp only [isAgg, Sem.run_bind, run_underlying ht, Result.andThen_ok]
 cases td <;> simp_all [flat]
theorem isAgg_agg {t : TypeId} {td : TypeDesc} (ht : P.underlying t = some td) (hfl : flat td = false) (w : World) : (isAgg t).run P w = .ok true w := by
 simp only [isAgg, Sem.run_bind, run_underlying ht, Result.andThen_ok]
 cases td <;> simp_all [flat]
theorem wo_load {A : HP} {t : TypeId} {td : TypeDesc} {x : Operand} {b off : Nat} {l : List Value} {v : Value} (ht : P.underlying t = some td) (hfl : flat td = true)
    (hx : ev L x = some (.pointer (some ⟨b, off, none⟩))) (sh : Shows A b l) (hA : Has A Hs) (hv : l[off]? = some v) (hd : Nat.blt d n = true)
    (k : wo r P n ops os ((d, v) :: L) Hs Q) : wo r P n ops (⟨some d, .load t x, ty, pos, after, none⟩ :: os) L Hs Q := by
 refine wo_read (by intro c; simp) hA hd (fun a f w M h h1 hf t' le y _ _ _ _ => ?_) k
 have hc := shows_cell sh t' le y off
 rw [hv] at hc
 simp [execOp, f.ev hx, Instr.loadAt, Instr.sureAddr, loadVar, isAgg_flat ht hfl, run_load, hc]
theorem drop_get (l : List Value) (off j : Nat) : (l.drop off)[j]? = l[off + j]? := List.getElem?_drop
theorem addr_add (b off j : Nat) : (⟨b, off, none⟩ : Addr).add j = ⟨b, off + j, none⟩ := by
 unfold Addr.add; split <;> simp_all
theorem run_loadCells_at {w : World} {b off sz : Nat} {l : List Value} (h : ∀ j, w.cell? ⟨b, off + j, none⟩ = l[off + j]?) (hl : off + sz ≤ l.length) :
    (loadCells ⟨b, off, none⟩ sz).run P w = .ok (((l.drop off).take sz).toArray) w := by
 have e : ((l.drop off).take sz).length = sz := by simp; omega
 have := run_loadCells_list (P := P) w ⟨b, off, none⟩ ((l.drop off).take sz) (fun j v hj => by
  rw [addr_add, h j, ← drop_get]
  have hlt : j < ((l.drop off).take sz).length := (List.getElem?_eq_some_iff.1 hj).1
  rw [e] at hlt
  rw [List.getElem?_take_of_lt hlt] at hj
  exact hj)
 rw [e] at this
 exact this
theorem wo_loada {A : HP} {t : TypeId} {td : TypeDesc} {x : Operand} {b off : Nat} {l vs : List Value} {ti : TypeInfo} (ht : P.underlying t = some td) (hfl : flat td = false) (hi : P.info? t = some ti)
    (hx : ev L x = some (.pointer (some ⟨b, off, none⟩))) (sh : Shows A b l) (hA : Has A Hs) (hl : off + ti.size ≤ l.length) (hv : (l.drop off).take ti.size = vs) (hd : Nat.blt d n = true)
    (k : wo r P n ops os ((d, .agg vs.toArray) :: L) Hs Q) : wo r P n ops (⟨some d, .load t x, ty, pos, after, none⟩ :: os) L Hs Q := by
 refine wo_read (by intro c; simp) hA hd (fun a f w M h h1 hf t' le y _ _ _ _ => ?_) k
 have hc := run_loadCells_at (P := P) (sz := ti.size) (fun j => shows_cell sh t' le y (off + j)) hl
 rw [hv] at hc
 simp [execOp, f.ev hx, Instr.loadAt, Instr.sureAddr, loadVar, isAgg_agg ht hfl, sizeOf, typeInfo, program, Sem.run, hi, hc]
/-- New memory. -/
theorem fresh_none {w : World} {M : Kn} {h : Res} (t : Sat w M h) : M.im w.heap.size = none ∧ h w.heap.size = none := by
 constructor
 · cases e : M.im w.heap.size with
   | none => rfl
   | some o => exact absurd (Array.getElem?_eq_some_iff.1 (t.im _ _ e)).1 (by omega)
 · cases e : h w.heap.size with
   | none => rfl
   | some o => exact absurd (Array.getElem?_eq_some_iff.1 (t.ow _ _ e)).1 (by omega)
theorem Sat.alloc {w : World} {M : Kn} {h : Res} (t : Sat w M h) (o : Obj) : Sat (w.alloc o) M ((Res.one w.heap.size o).add h) := by
 obtain ⟨f1, f2⟩ := fresh_none t
 have old : ∀ b u, w.heap[b]? = some u → (w.alloc o).heap[b]? = some u := fun b u e => by
  have hlt := (Array.getElem?_eq_some_iff.1 e).1
  rw [show (w.alloc o).heap[b]? = w.heap[b]? from heap_alloc_old w o hlt]; exact e
 refine ⟨fun b u e => old b u (t.im b u e), fun b u e => ?_, fun b => ?_, ⟨t.env.os, t.env.tape, t.env.output, by have := t.env.size; simp; omega, t.env.up⟩⟩
 · by_cases hb : b = w.heap.size
   · subst hb; simp [Res.add, Res.one] at e; subst e; exact World.alloc_heap_new w _
   · exact old b u (t.ow b u (by simpa [Res.add, Res.one, hb] using e))
 · by_cases hb : b = w.heap.size
   · subst hb; exact .inl f1
   · rcases t.dj b with e | e
     · exact .inl e
     · exact .inr (by simpa [Res.add, Res.one, hb] using e)
theorem one_dj {b : Nat} {o : Obj} {h : Res} (e : h b = none) : (Res.one b o).dj h := fun i => by
 by_cases hi : i = b
 · subst hi; exact .inr e
 · exact .inl (Res.one_other o hi)
/-- An operation that lays one new block. -/
theorem wo_new {op : Op} {o : Obj} {val : Nat → Value} (nd : ∀ c, op ≠ .defer c) (hd : Nat.blt d n = true)
    (hrun : ∀ (a : Act), Fr n L a → ∀ (w : World) (dst : Option Tmp) (pos : String) (after : Array Edge) (guard : Option (Nat × Bool)),
     (execOp a.eval ⟨dst, op, ty, pos, after, guard⟩).run P w = .ok (.value (val w.heap.size)) (w.alloc o))
    (k : ∀ b, wo r P n ops os ((d, val b) :: L) (Blk b o :: Hs) Q) : wo r P n ops (⟨some d, op, ty, pos, after, none⟩ :: os) L Hs Q := by
 intro a M m s w hf dj t
 simp only [wpL, Region.wanted, if_true]
 rw [Oper.semAt_eq _ _ _ nd, hrun a s.1 w]
 have t2 := t.alloc o
 obtain ⟨f1, f2⟩ := fresh_none t
 obtain ⟨f3, f4⟩ := Res.add_none.1 f2
 rw [← Res.add_assoc] at t2
 refine k w.heap.size _ M ((Res.one w.heap.size o).add m) ⟨s.1.put hd, ?_⟩ (w.alloc o) hf (Res.dj_add_left.2 ⟨one_dj f4, dj⟩) t2
 obtain ⟨g1, g2, dg, e, x, s2⟩ := s.2
 subst e
 obtain ⟨f5, f6⟩ := Res.add_none.1 f3
 exact ⟨g1, (Res.one w.heap.size o).add g2, Res.dj_add_right.2 ⟨Res.dj_comm (one_dj f5), dg⟩, by rw [← Res.add_assoc, Res.add_comm (one_dj f5), Res.add_assoc], x,
  Res.one w.heap.size o, g2, one_dj f6, rfl, rfl, s2⟩
theorem wo_alloc {t : TypeId} {ti : TypeInfo} {z : Value} {zs : List Value} (hi : P.info? t = some ti) (hz : ti.zero = some z) (hzs : z.cells.toList = zs) (hd : Nat.blt d n = true)
    (k : ∀ b, wo r P n ops os ((d, .pointer (some ⟨b, 0, none⟩)) :: L) (Ce b t zs :: Hs) Q) : wo r P n ops (⟨some d, .alloc t, ty, pos, after, none⟩ :: os) L Hs Q := by
 refine wo_new (o := .cells zs.toArray t (0, 0)) (val := fun b => .pointer (some ⟨b, 0, none⟩)) (by intro c; simp) hd (fun a f w _ _ _ _ => ?_) k
 subst hzs
 simp [execOp, Instr.alloc, zeroValue, typeInfo, program, Sem.run, hi, hz, newVar, newRow, newObj]
theorem wo_box {t : TypeId} {x : Operand} {v : Value} {vs : List Value} (hx : ev L x = some v) (hv : v.cells.toList = vs) (hd : Nat.blt d n = true)
    (k : ∀ b, wo r P n ops os ((d, .pointer (some ⟨b, 0, none⟩)) :: L) (Ce b t vs :: Hs) Q) : wo r P n ops (⟨some d, .box t x, ty, pos, after, none⟩ :: os) L Hs Q := by
 refine wo_new (o := .cells vs.toArray t (0, 0)) (val := fun b => .pointer (some ⟨b, 0, none⟩)) (by intro c; simp) hd (fun a f w _ _ _ _ => ?_) k
 subst hv
 simp [execOp, f.ev hx, Instr.box, newVar, newRow, newObj, Sem.run]
/-- A slice that is written out: its cells by a closed equation. -/
theorem wo_buildSlice {t e : TypeId} {len : Nat} {ps : Array (Nat × Operand)} {pv : List (Nat × Value)} {cs : List Value} (ht : P.underlying t = some (.slice e))
    (hps : ∀ a : Act, Fr n L a → (ps.map fun (i, x) => (i, a.eval x)) = pv.toArray)
    (h : ∀ w, (Instr.buildSlice t len pv.toArray).run P w = .ok (.slice (some ⟨w.heap.size, 0, none⟩) len len) (w.alloc (.cells cs.toArray e (0, 0)))) (hd : Nat.blt d n = true)
    (k : ∀ b, wo r P n ops os ((d, .slice (some ⟨b, 0, none⟩) len len) :: L) (Ce b e cs :: Hs) Q) : wo r P n ops (⟨some d, .buildSlice t len ps, ty, pos, after, none⟩ :: os) L Hs Q := by
 refine wo_new (o := .cells cs.toArray e (0, 0)) (val := fun b => .slice (some ⟨b, 0, none⟩) len len) (by intro c; simp) hd (fun a f w _ _ _ _ => ?_) k
 have e1 := hps a f
 simp only [execOp]
 rw [show (Array.map (fun x => match x with | (i, x) => (i, a.eval x)) ps) = pv.toArray from e1]
 simp [h w]
theorem wo_makeMap0 {t : TypeId} (hd : Nat.blt d n = true)
    (k : ∀ b, wo r P n ops os ((d, .map (some b)) :: L) (Blk b (.map #[] 0) :: Hs) Q) : wo r P n ops (⟨some d, .makeMap t none, ty, pos, after, none⟩ :: os) L Hs Q := by
 refine wo_new (val := fun b => .map (some b)) (by intro c; simp) hd (fun a f w _ _ _ _ => ?_) k
 simp [execOp, Instr.makeMap, newObj, Sem.run]
/-- Turn one block. -/
theorem wo_turn {A B : HP} {Gs : List HP} {op : Op} (nd : ∀ c, op ≠ .defer c) (hu : Upd A B Hs Gs)
    (hrun : ∀ (a : Act), Fr n L a → ∀ (w : World) (M : Kn) (h1 hf : Res), h1.dj hf → Sat w M (h1.add hf) → A.at_ M h1 → ∃ (w' : World) (M' : Kn) (h1' : Res), M.le M' ∧ h1'.dj hf ∧ Sat w' M' (h1'.add hf) ∧ B.at_ M' h1' ∧
     ∀ (dst : Option Tmp) (pos : String) (after : Array Edge) (guard : Option (Nat × Bool)), (execOp a.eval ⟨dst, op, ty, pos, after, guard⟩).run P w = .ok .skip w')
    (k : wo r P n ops os L Gs Q) : wo r P n ops (⟨none, op, ty, pos, after, none⟩ :: os) L Hs Q := by
 intro a M m s w hf dj t
 simp only [wpL, Region.wanted, if_true]
 obtain ⟨g1, g2, dg, e, x, s2⟩ := s.2
 subst e
 obtain ⟨h1, h2, d12, e, ha, upd⟩ := hu.sat s2
 subst e
 obtain ⟨dg1, dg2⟩ := Res.dj_add_right.1 dg
 obtain ⟨df1, df2⟩ := Res.dj_add_left.1 dj
 obtain ⟨df3, df4⟩ := Res.dj_add_left.1 df2
 have eq : (g1.add (h1.add h2)).add hf = h1.add ((g1.add h2).add hf) := by
  rw [← Res.add_assoc g1, Res.add_comm dg1]
  simp only [Res.add_assoc]
 rw [eq] at t
 obtain ⟨w', M', h1', le, dj', t', hb, hr⟩ := hrun a s.1 w M h1 ((g1.add h2).add hf) (Res.dj_add_right.2 ⟨Res.dj_add_right.2 ⟨Res.dj_comm dg1, d12⟩, df3⟩) t ha
 rw [Oper.semAt_eq _ _ _ nd, hr]
 obtain ⟨x1, x2⟩ := Res.dj_add_right.1 dj'
 obtain ⟨x3, x4⟩ := Res.dj_add_right.1 x1
 have eq2 : (g1.add (h1'.add h2)).add hf = h1'.add ((g1.add h2).add hf) := by
  rw [← Res.add_assoc g1, ← Res.add_comm x3]
  simp only [Res.add_assoc]
 refine wo_on k (a := a.put none undef) (M := M') (h := g1.add (h1'.add h2)) ⟨s.1.none, ?_⟩ le (Res.dj_add_left.2 ⟨df1, Res.dj_add_left.2 ⟨x2, df4⟩⟩) (by rw [eq2]; exact t')
 exact ⟨g1, h1'.add h2, Res.dj_add_right.2 ⟨Res.dj_comm x3, dg2⟩, rfl, (Al _).mono le x, upd M' h1' le x4 hb⟩
theorem Sat.setBlk {w : World} {M : Kn} {h : Res} {b : Nat} {o o' : Obj} (dj : (Res.one b o).dj h) (t : Sat w M ((Res.one b o).add h)) {w' : World} (hb : w'.heap[b]? = some o') (ho : ∀ i, i ≠ b → w'.heap[i]? = w.heap[i]?) (he : Env w w') :
    Sat w' M ((Res.one b o').add h) := by
 have hM : M.im b = none := by
  rcases t.dj b with e | e
  · exact e
  · simp [Res.add, Res.one] at e
 refine ⟨fun i u e => ?_, fun i u e => ?_, fun i => ?_, t.env.trans he⟩
 · have hi : i ≠ b := fun x => by subst x; rw [hM] at e; cases e
   rw [ho i hi]; exact t.im i u e
 · by_cases hi : i = b
   · subst hi; simp [Res.add, Res.one] at e; subst e; exact hb
   · rw [ho i hi]; exact t.ow i u (by simpa [Res.add, Res.one, hi] using e)
 · by_cases hi : i = b
   · subst hi; exact .inl hM
   · rcases t.dj i with e | e
     · exact .inl e
     · exact .inr (by simpa [Res.add, Res.one, hi] using e)
theorem dj_one_any {b : Nat} {o o' : Obj} {h : Res} (dj : (Res.one b o).dj h) : (Res.one b o').dj h := by
 refine one_dj ?_
 rcases dj b with e | e
 · simp [Res.one] at e
 · exact e
/-- The value of one cell. -/
def oneCell : Value → Bool
 | .agg _ => false
 | .tuple _ => false
 | _ => true
theorem run_store_ce {w : World} {b off : Nat} {T : TypeId} {l : List Value} {v : Value} (hb : w.heap[b]? = some (.cells l.toArray T (0, 0))) (h1 : oneCell v = true) (ho : off < l.length) :
    (store ⟨b, off, none⟩ v).run P w = .ok () (w.setCell ⟨b, off, none⟩ v) := by
 have hc : w.cell? ⟨b, off, none⟩ = some l[off] := by simp [World.cell?, hb, ho]
 have hf : w.frozen? ⟨b, off, none⟩ = false := by simp [World.frozen?, hb]
 cases v <;> simp_all [store, Sem.run, oneCell]
theorem setCell_at {w : World} {b off : Nat} {T : TypeId} {l : List Value} {v : Value} (hb : w.heap[b]? = some (.cells l.toArray T (0, 0))) :
    (w.setCell ⟨b, off, none⟩ v).heap[b]? = some (.cells (l.set off v).toArray T (0, 0)) := by
 simp [World.setCell, Array.getElem?_modify, hb]
theorem setCell_other {w : World} {b off : Nat} {v : Value} {i : Nat} (hi : i ≠ b) : (w.setCell ⟨b, off, none⟩ v).heap[i]? = w.heap[i]? := by
 simp [World.setCell, Array.getElem?_modify, Ne.symm hi]
theorem env_setCell (w : World) (a : Addr) (v : Value) : Env w (w.setCell a v) := ⟨rfl, rfl, rfl, by simp, up_rfl⟩
theorem wo_store {t : TypeId} {ti : TypeInfo} {x y : Operand} {b off : Nat} {T : TypeId} {l : List Value} {v : Value} {Gs : List HP} (hi : P.info? t = some ti) (hs : Nat.beq ti.size 1 = true)
    (hx : ev L x = some (.pointer (some ⟨b, off, none⟩))) (hy : ev L y = some v) (h1 : oneCell v = true) (ho : off < l.length) (hu : Upd (Ce b T l) (Ce b T (l.set off v)) Hs Gs)
    (k : wo r P n ops os L Gs Q) : wo r P n ops (⟨none, .store t x y, ty, pos, after, none⟩ :: os) L Hs Q := by
 refine wo_turn (by intro c; simp) hu (fun a f w M m hf dj s ha => ?_) k
 have ha' : m = Res.one b _ := ha
 subst ha'
 have hb : w.heap[b]? = some (.cells l.toArray T (0, 0)) := s.ow _ _ (by simp [Res.add, Res.one])
 refine ⟨w.setCell ⟨b, off, none⟩ v, M, Res.one b (.cells (l.set off v).toArray T (0, 0)), Kn.le_refl _, dj_one_any dj, Sat.setBlk dj s (setCell_at hb) (fun i hi => setCell_other hi) (env_setCell _ _ _), rfl, fun _ _ _ _ => ?_⟩
 have hsz : ti.size = 1 := Nat.eq_of_beq_eq_true hs
 have hvc : v.cells = #[v] := by cases v <;> simp_all [Value.cells, oneCell]
 have hst := run_store_ce (P := P) hb h1 ho
 simp [execOp, f.ev hx, f.ev hy, Instr.storeAt, Instr.sureAddr, storeVar, hvc, sizeOf, typeInfo, program, Sem.run, hi, hsz, storeCells, addr_add, hst]
def setAt (l : List Value) : Nat → List Value → List Value
 | _, [] => l
 | off, v :: vs => setAt (l.set off v) (off + 1) vs
theorem length_setAt : ∀ (vs l : List Value) (off : Nat), (setAt l off vs).length = l.length := by
 intro vs
 induction vs with
 | nil => intros; rfl
 | cons v vs ih => intro l off; simp [setAt, ih]
theorem run_storeCells_ce {b T : Nat} : ∀ (vs : List Value) (w : World) (l : List Value) (off i : Nat), w.heap[b]? = some (.cells l.toArray T (0, 0)) → vs.all oneCell = true → off + i + vs.length ≤ l.length →
    ∃ w', (storeCells ⟨b, off, none⟩ vs i).run P w = .ok () w' ∧ w'.heap[b]? = some (.cells (setAt l (off + i) vs).toArray T (0, 0)) ∧ (∀ j, j ≠ b → w'.heap[j]? = w.heap[j]?) ∧ Env w w' := by
 intro vs
 induction vs with
 | nil => intro w l off i hb _ _; exact ⟨w, by simp [storeCells], hb, fun _ _ => rfl, Env.refl w⟩
 | cons v vs ih =>
   intro w l off i hb h1 hl
   simp only [List.all_cons, Bool.and_eq_true] at h1
   simp only [List.length_cons] at hl
   have hst := run_store_ce (P := P) (off := off + i) hb h1.1 (by omega)
   obtain ⟨w', hr, hb', ho', he'⟩ := ih (w.setCell ⟨b, off + i, none⟩ v) (l.set (off + i) v) off (i + 1) (setCell_at hb) h1.2 (by simp; omega)
   refine ⟨w', ?_, hb', fun j hj => (ho' j hj).trans (setCell_other hj), (env_setCell _ _ _).trans he'⟩
   simp only [storeCells, Sem.run_bind, addr_add, hst, Result.andThen_ok]
   exact hr
theorem wo_storea {t : TypeId} {ti : TypeInfo} {x y : Operand} {b off : Nat} {T : TypeId} {l vs : List Value} {Gs : List HP} (hi : P.info? t = some ti) (hs : Nat.beq ti.size vs.length = true)
    (hx : ev L x = some (.pointer (some ⟨b, off, none⟩))) (hy : ev L y = some (.agg vs.toArray)) (h1 : vs.all oneCell = true) (ho : off + vs.length ≤ l.length) (hu : Upd (Ce b T l) (Ce b T (setAt l off vs)) Hs Gs)
    (k : wo r P n ops os L Gs Q) : wo r P n ops (⟨none, .store t x y, ty, pos, after, none⟩ :: os) L Hs Q := by
 refine wo_turn (by intro c; simp) hu (fun a f w M m hf dj s ha => ?_) k
 have ha' : m = Res.one b _ := ha
 subst ha'
 have hb : w.heap[b]? = some (.cells l.toArray T (0, 0)) := s.ow _ _ (by simp [Res.add, Res.one])
 obtain ⟨w', hr, hb', ho', he'⟩ := run_storeCells_ce (P := P) vs w l off 0 hb h1 ho
 refine ⟨w', M, Res.one b (.cells (setAt l off vs).toArray T (0, 0)), Kn.le_refl _, dj_one_any dj, Sat.setBlk dj s hb' ho' he', rfl, fun _ _ _ _ => ?_⟩
 have hsz : ti.size = vs.length := Nat.eq_of_beq_eq_true hs
 simp [execOp, f.ev hx, f.ev hy, Instr.storeAt, Instr.sureAddr, storeVar, Value.cells, sizeOf, typeInfo, program, Sem.run, hi, hsz, hr]
end
end
section
/-- Cells of a block that can be read. -/
class RdCe (b : Nat) (l : outParam (List Value)) (Hs : List HP) : Prop where
 get : ∃ A, Shows A b l ∧ Has A Hs
instance (priority := 1000) {b : Nat} {T : TypeId} {l : List Value} {r : List HP} : RdCe b l (Ce b T l :: r) := ⟨⟨_, shows_ce, .here⟩⟩
instance (priority := 1000) {b : Nat} {T : TypeId} {l : List Value} {r : List HP} : RdCe b l (ICe b T l :: r) := ⟨⟨_, shows_ice, .here⟩⟩
instance (priority := 1000) {b : Nat} {T : TypeId} {l : List Value} {fz : Nat × Nat} {r : List HP} : RdCe b l (Im b (.cells l.toArray T fz) :: r) := ⟨⟨_, shows_im, .here⟩⟩
instance (priority := 1000) {b : Nat} {T : TypeId} {l : List Value} {fz : Nat × Nat} {r : List HP} : RdCe b l (Blk b (.cells l.toArray T fz) :: r) := ⟨⟨_, shows_blk, .here⟩⟩
instance (priority := 100) {b : Nat} {l : List Value} {B : HP} {r : List HP} [h : RdCe b l r] : RdCe b l (B :: r) := ⟨let ⟨A, s, p⟩ := h.get; ⟨A, s, .there p⟩⟩
class UpCe (b : Nat) (T : outParam TypeId) (l : outParam (List Value)) (l' : List Value) (Hs : List HP) (Gs : outParam (List HP)) : Prop where
 get : Upd (Ce b T l) (Ce b T l') Hs Gs
instance (priority := 1000) {b : Nat} {T : TypeId} {l l' : List Value} {r : List HP} : UpCe b T l l' (Ce b T l :: r) (Ce b T l' :: r) := ⟨.here⟩
instance (priority := 100) {b : Nat} {T : TypeId} {l l' : List Value} {B : HP} {r s : List HP} [h : UpCe b T l l' r s] : UpCe b T l l' (B :: r) (B :: s) := ⟨.there h.get⟩
/-- A list with one place, with some places set. -/
class SetC (l : List Value) (off : Nat) (v : Value) (l' : outParam (List Value)) : Prop where
 get : l.set off v = l'
instance (priority := 1000) {x v : Value} {l : List Value} : SetC (x :: l) 0 v (v :: l) := ⟨rfl⟩
instance (priority := 1000) {x v : Value} {l l' : List Value} {k : Nat} [h : SetC l k v l'] : SetC (x :: l) (k + 1) v (x :: l') := ⟨by rw [List.set_cons_succ, h.get]⟩
instance (priority := 10) {v : Value} {l : List Value} {k : Nat} : SetC l k v (l.set k v) := ⟨rfl⟩
class SetsC (l : List Value) (off : Nat) (vs : List Value) (l' : outParam (List Value)) : Prop where
 get : setAt l off vs = l'
instance (priority := 1000) {l : List Value} {off : Nat} : SetsC l off [] l := ⟨rfl⟩
instance (priority := 1000) {l l' l'' vs : List Value} {off : Nat} {v : Value} [h : SetC l off v l'] [k : SetsC l' (off + 1) vs l''] : SetsC l off (v :: vs) l'' := ⟨by rw [setAt, h.get, k.get]⟩
instance (priority := 10) {l vs : List Value} {off : Nat} : SetsC l off vs (setAt l off vs) := ⟨rfl⟩
/-- A block among the assertions, one place of it, some places of it set. -/
class StC (b off : Nat) (v : Value) (T : outParam TypeId) (l : outParam (List Value)) (Hs : List HP) (Gs : outParam (List HP)) : Prop where
 get : Upd (Ce b T l) (Ce b T (l.set off v)) Hs Gs
instance (priority := 1000) {b off : Nat} {v : Value} {T : TypeId} {l l' : List Value} {r : List HP} [h : SetC l off v l'] : StC b off v T l (Ce b T l :: r) (Ce b T l' :: r) := ⟨by rw [h.get]; exact .here⟩
instance (priority := 100) {b off : Nat} {v : Value} {T : TypeId} {l : List Value} {B : HP} {r s : List HP} [h : StC b off v T l r s] : StC b off v T l (B :: r) (B :: s) := ⟨.there h.get⟩
class StsC (b off : Nat) (vs : List Value) (T : outParam TypeId) (l : outParam (List Value)) (Hs : List HP) (Gs : outParam (List HP)) : Prop where
 get : Upd (Ce b T l) (Ce b T (setAt l off vs)) Hs Gs
instance (priority := 1000) {b off : Nat} {vs : List Value} {T : TypeId} {l l' : List Value} {r : List HP} [h : SetsC l off vs l'] : StsC b off vs T l (Ce b T l :: r) (Ce b T l' :: r) := ⟨by rw [h.get]; exact .here⟩
instance (priority := 100) {b off : Nat} {vs : List Value} {T : TypeId} {l : List Value} {B : HP} {r s : List HP} [h : StsC b off vs T l r s] : StsC b off vs T l (B :: r) (B :: s) := ⟨.there h.get⟩
class PersC (A : HP) : Prop where
 get : Pers A
instance {b : Nat} {o : Obj} : PersC (Im b o) := ⟨Im.pers b o⟩
instance {b : Nat} {T : TypeId} {l : List Value} : PersC (ICe b T l) := ⟨Im.pers _ _⟩
instance {p : Prop} : PersC (Pu p) := ⟨Pu.pers p⟩
theorem Ex.pers {X : Type} {f : X → HP} (h : ∀ x, Pers (f x)) : Pers (Ex f) := fun ⟨x, e⟩ => ⟨x, h x e⟩
theorem Al.pers : ∀ {Hs : List HP}, (∀ A ∈ Hs, Pers A) → Pers (Al Hs) := by
 intro Hs
 induction Hs with
 | nil => intro _ M h _; trivial
 | cons A r ih =>
   rintro hp M h ⟨h1, h2, d, e, a, t⟩
   exact ⟨Res.emp, Res.emp, Res.emp_dj _, rfl, hp A (by simp) a, ih (fun B hB => hp B (by simp [hB])) t⟩
class PickC (A : HP) (Hs : List HP) (Rs : outParam (List HP)) : Prop where
 get : Pick A Hs Rs
instance (priority := 1001) {A : HP} {r : List HP} [h : PersC A] : PickC A (A :: r) (A :: r) := ⟨.keep h.get⟩
instance (priority := 1000) {A : HP} {r : List HP} : PickC A (A :: r) r := ⟨.here⟩
instance (priority := 100) {A B : HP} {r s : List HP} [h : PickC A r s] : PickC A (B :: r) (B :: s) := ⟨.there h.get⟩
class PicksC (As Hs : List HP) (Rs : outParam (List HP)) : Prop where
 get : Picks As Hs Rs
instance {Hs : List HP} : PicksC [] Hs Hs := ⟨.nil⟩
instance {A : HP} {As Hs R1 Rs : List HP} [h : PickC A Hs R1] [k : PicksC As R1 Rs] : PicksC (A :: As) Hs Rs := ⟨.cons h.get k.get⟩
theorem picks_append {As Bs Hs R1 Rs : List HP} (h : Picks As Hs R1) (k : Picks Bs R1 Rs) : Picks (As ++ Bs) Hs Rs := by
 induction h with
 | nil => exact k
 | cons p _ ih => exact .cons p (ih k)
instance {As Bs Hs R1 Rs : List HP} [h : PicksC As Hs R1] [k : PicksC Bs R1 Rs] : PicksC (As ++ Bs) Hs Rs := ⟨picks_append h.get k.get⟩
/-- Two lists as one. -/
class AppC (As Hs : List HP) (Rs : outParam (List HP)) : Prop where
 get : As ++ Hs = Rs
instance (priority := 1000) {Hs : List HP} : AppC [] Hs Hs := ⟨rfl⟩
instance (priority := 1000) {A : HP} {As Hs Rs : List HP} [h : AppC As Hs Rs] : AppC (A :: As) Hs (A :: Rs) := ⟨by rw [List.cons_append, h.get]⟩
instance (priority := 10) {As Hs : List HP} : AppC As Hs (As ++ Hs) := ⟨rfl⟩
class HasC (A : HP) (Hs : List HP) : Prop where
 get : Has A Hs
instance (priority := 1000) {A : HP} {r : List HP} : HasC A (A :: r) := ⟨.here⟩
instance (priority := 100) {A B : HP} {r : List HP} [h : HasC A r] : HasC A (B :: r) := ⟨.there h.get⟩
section
variable {r : Option Nat} {P : Program} {n : Nat} {ops : Array Oper} {os : List Oper} {L : Loc} {Hs : List HP} {Q : Out} {ty : TypeId} {d : Nat} {pos : String} {after : Array Edge}
theorem r_load {t : TypeId} {td : TypeDesc} {x : Operand} {b off : Nat} {l : List Value} {v : Value} (ht : P.underlying t = some td) (hfl : flat td = true)
    (hx : ev L x = some (.pointer (some ⟨b, off, none⟩))) [hr : RdCe b l Hs] (hv : l[off]? = some v) (hd : Nat.blt d n = true)
    (k : wo r P n ops os ((d, v) :: L) Hs Q) : wo r P n ops (⟨some d, .load t x, ty, pos, after, none⟩ :: os) L Hs Q := by
 obtain ⟨A, sh, hA⟩ := hr.get
 exact wo_load ht hfl hx sh hA hv hd k
theorem r_loada {t : TypeId} {td : TypeDesc} {x : Operand} {b off : Nat} {l vs : List Value} {ti : TypeInfo} (ht : P.underlying t = some td) (hfl : flat td = false) (hi : P.info? t = some ti)
    (hx : ev L x = some (.pointer (some ⟨b, off, none⟩))) [hr : RdCe b l Hs] (hl : off + ti.size ≤ l.length) (hv : (l.drop off).take ti.size = vs) (hd : Nat.blt d n = true)
    (k : wo r P n ops os ((d, .agg vs.toArray) :: L) Hs Q) : wo r P n ops (⟨some d, .load t x, ty, pos, after, none⟩ :: os) L Hs Q := by
 obtain ⟨A, sh, hA⟩ := hr.get
 exact wo_loada ht hfl hi hx sh hA hl hv hd k
theorem r_store {t : TypeId} {ti : TypeInfo} {x y : Operand} {b off : Nat} {T : TypeId} {l : List Value} {v : Value} {Gs : List HP} (hi : P.info? t = some ti) (hs : Nat.beq ti.size 1 = true)
    (hx : ev L x = some (.pointer (some ⟨b, off, none⟩))) (hy : ev L y = some v) [hu : StC b off v T l Hs Gs] (h1 : oneCell v = true) (ho : off < l.length)
    (k : wo r P n ops os L Gs Q) : wo r P n ops (⟨none, .store t x y, ty, pos, after, none⟩ :: os) L Hs Q := wo_store hi hs hx hy h1 ho hu.get k
theorem r_storea {t : TypeId} {ti : TypeInfo} {x y : Operand} {b off : Nat} {T : TypeId} {l vs : List Value} {Gs : List HP} (hi : P.info? t = some ti) (hs : Nat.beq ti.size vs.length = true)
    (hx : ev L x = some (.pointer (some ⟨b, off, none⟩))) (hy : ev L y = some (.agg vs.toArray)) [hu : StsC b off vs T l Hs Gs] (h1 : vs.all oneCell = true) (ho : off + vs.length ≤ l.length)
    (k : wo r P n ops os L Gs Q) : wo r P n ops (⟨none, .store t x y, ty, pos, after, none⟩ :: os) L Hs Q := wo_storea hi hs hx hy h1 ho hu.get k
/-- A function that only computes. -/
abbrev SpF (P : Program) (f : FuncId) (args : List Value) (v : Value) : Prop := Sp P f args [] (X := Unit) (fun _ => v) (fun _ => True) (fun _ => [])
theorem r_callF {f : Operand} {args : Array Operand} {argTypes : Array TypeId} {g : Nat} {vs : List Value} {v : Value}
    (sp : SpF P g vs v) (hf : ev L f = some (.func (.func g) #[] #[])) (ha : evs L args.toList = some vs) (hd : Nat.blt d n = true)
    (k : wo r P n ops os ((d, v) :: L) Hs Q) :
    wo r P n ops (⟨some d, .call ⟨.value f, args, argTypes⟩, ty, pos, after, none⟩ :: os) L Hs Q :=
 wo_call (cap := []) (by rw [List.append_nil]; exact sp) hf ha hd .nil (fun _ _ => k)
/-- One that has a result for each state, and gives back what it was given. -/
abbrev Sp1 (P : Program) (f : FuncId) (args : List Value) (As : List HP) (v : Value) (Bs : List HP) : Prop := Sp P f args As (X := Unit) (fun _ => v) (fun _ => True) (fun _ => Bs)
theorem r_call1 {f : Operand} {args : Array Operand} {argTypes : Array TypeId} {g : Nat} {vs : List Value} {v : Value} {As Bs Rs : List HP}
    (sp : Sp1 P g vs As v Bs) (hf : ev L f = some (.func (.func g) #[] #[])) (ha : evs L args.toList = some vs) (hd : Nat.blt d n = true) [hp : PicksC As Hs Rs]
    (k : wo r P n ops os ((d, v) :: L) (Bs ++ Rs) Q) :
    wo r P n ops (⟨some d, .call ⟨.value f, args, argTypes⟩, ty, pos, after, none⟩ :: os) L Hs Q :=
 wo_call (cap := []) (by rw [List.append_nil]; exact sp) hf ha hd hp.get (fun _ _ => k)
/-- A guard's yes or no is told apart; both the guard's slot and what is read of it are then known. -/
theorem wo_gsplit {j : Nat} {s : Nat} {b : Bool} (hj : (ops[j]?).bind (·.dst) = some s) (hs : lk L s = some (.bool b))
    (ht : b = true → wo r P n ops os ((s, .bool true) :: L) Hs Q) (hf : b = false → wo r P n ops os ((s, .bool false) :: L) Hs Q) : wo r P n ops os L Hs Q := by
 have key : ∀ u : Bool, b = u → wo r P n ops os ((s, .bool u) :: L) Hs Q → wo r P n ops os L Hs Q := by
  intro u e k a M h st
  refine k a M h ⟨⟨st.1.1, fun i v hv => ?_⟩, st.2⟩
  simp only [lk] at hv
  by_cases hi : s = i
  · subst hi
    simp at hv; subst hv; subst e
    exact st.1.2 _ _ hs
  · rw [nbeq hi, cond_false] at hv
    exact st.1.2 i v hv
 cases e : b with
 | true => exact key true e (ht e)
 | false => exact key false e (hf e)
/-! Ends. -/
def pack : List Value → Value
 | [v] => v
 | vs => .tuple vs.toArray
/-- What one result reads as: a slot; a cell of its own. -/
inductive RVs (P : Program) (L : Loc) : List ResultVar → List HP → List Value → Prop
 | nil : RVs P L [] [] []
 | tmp {t : Nat} {v : Value} {rs : List ResultVar} {Cs : List HP} {vs : List Value} (h : lk L t = some v) (k : RVs P L rs Cs vs) : RVs P L (.tmp t :: rs) Cs (v :: vs)
 | cell {t T : Nat} {b : Nat} {A : HP} {l us : List Value} {td : TypeDesc} {ti : TypeInfo} {rs : List ResultVar} {Cs : List HP} {vs : List Value} (h : lk L t = some (.pointer (some ⟨b, 0, none⟩))) (sh : Shows A b l)
     (ht : P.underlying T = some td) (hfl : flat td = false) (hi : P.info? T = some ti) (hl : ti.size ≤ l.length) (hv : l.take ti.size = us)
     (k : RVs P L rs Cs vs) : RVs P L (.cell t T :: rs) (A :: Cs) (.agg us.toArray :: vs)
 | cell1 {t T : Nat} {b : Nat} {A : HP} {l : List Value} {v : Value} {td : TypeDesc} {rs : List ResultVar} {Cs : List HP} {vs : List Value} (h : lk L t = some (.pointer (some ⟨b, 0, none⟩))) (sh : Shows A b l)
     (ht : P.underlying T = some td) (hfl : flat td = true) (hv : l[0]? = some v)
     (k : RVs P L rs Cs vs) : RVs P L (.cell t T :: rs) (A :: Cs) (v :: vs)
def rvOne (a : Act) : ResultVar → Sem Value
 | .tmp t => pure (a.tmps.getD t undef)
 | .cell c t => do loadVar t (← asAddr (a.tmps.getD c undef))
theorem RVs.run {rs : List ResultVar} {Cs : List HP} {vs : List Value} (q : RVs P L rs Cs vs) : ∀ {a : Act} (f : Fr n L a) (w : World) (M : Kn) (h hf h1 : Res), Sat w M (h.add hf) → h1.le h → SL Cs M h1 →
    (rs.mapM (rvOne a)).run P w = Result.ok vs w := by
 induction q with
 | nil => intros; rfl
 | @tmp t v rs Cs vs h k ih =>
   intro a f w M m hf h1 t' le s
   have e : a.tmps.getD t undef = v := f.eval h
   simp only [List.mapM_cons, rvOne, Sem.run_bind, Sem.run_pure, Result.andThen_ok, e, ih f w M m hf h1 t' le s]
 | @cell t T b A l us td ti rs Cs vs h sh ht hfl hi hl hv k ih =>
   intro a f w M m hf h1 t' le s
   have e : a.tmps.getD t undef = .pointer (some ⟨b, 0, none⟩) := f.eval h
   obtain ⟨k1, k2, dj, e2, x, s2⟩ := s
   subst e2
   have hc := run_loadCells_at (P := P) (b := b) (off := 0) (sz := ti.size) (l := l) (w := w) (fun j => shows_cell sh t' (Res.le_trans (Res.le_add_left _ _) le) x (0 + j)) (by omega)
   simp only [List.drop_zero, hv] at hc
   have := ih f w M m hf k2 t' (Res.le_trans (Res.le_add_right dj) le) s2
   simp only [List.mapM_cons, rvOne, Sem.run_bind, Sem.run_pure, Result.andThen_ok, e, asAddr, loadVar, isAgg_agg ht hfl, if_true, sizeOf, typeInfo, program, Sem.run, hi, hc, this]
 | @cell1 t T b A l v td rs Cs vs h sh ht hfl hv k ih =>
   intro a f w M m hf h1 t' le s
   have e : a.tmps.getD t undef = .pointer (some ⟨b, 0, none⟩) := f.eval h
   obtain ⟨k1, k2, dj, e2, x, s2⟩ := s
   subst e2
   have hc := shows_cell sh t' (Res.le_trans (Res.le_add_left _ _) le) x 0
   rw [hv] at hc
   have := ih f w M m hf k2 t' (Res.le_trans (Res.le_add_right dj) le) s2
   simp [List.mapM_cons, rvOne, e, asAddr, loadVar, isAgg_flat ht hfl, run_load, hc, this]
theorem RVs.rv {fn : Func} {rs : List ResultVar} {Cs : List HP} {vs : List Value} (hr : fn.results = rs.toArray) (q : RVs P L rs Cs vs) {a : Act} (f : Fr n L a) : RV P fn a.tmps Cs (pack vs) := by
 intro w M h hf dj t s
 have e := q.run f w M h hf h t (Res.le_refl _) s
 have e2 : results fn a.tmps = (do let vs ← (rs.toArray).mapM (rvOne a); pure (if h : vs.size = 1 then vs[0] else .tuple vs)) := by
  unfold results
  rw [hr]
  congr 1
  (try congr 1)
  (try (funext x; cases x <;> rfl))
 rw [e2, List.mapM_toArray]
 simp only [Sem.run_bind, Sem.run_map, e, Result.andThen_ok, Sem.run_pure]
 match vs with
 | [] => rfl
 | [v] => rfl
 | v :: u :: r => simp [pack]
theorem fin_ret {fn : Func} {X : Type} {val : X → Value} {φ : X → Prop} {Bs : X → List HP} (x : X) {rs : List ResultVar} {vs : List Value} {Cs : List HP}
    (hr : fn.results = rs.toArray) (q : RVs P L rs Cs vs) (hv : pack vs = val x) (hx : φ x) {Gs : List HP} [ac : AppC (Bs x) Cs Gs] (e : Ent Hs Gs) : tw n (finO P fn val φ Bs) .ret L Hs := by
 intro a M h s
 obtain ⟨g1, g2, dg, e1, y, s2⟩ := s.2
 refine ⟨.inr rfl, x, Cs, hx, ⟨g1, g2, dg, e1, y, by rw [ac.get]; exact e s2⟩, ?_⟩
 rw [← hv]; exact q.rv hr s.1
theorem fin_end {fn : Func} {X : Type} {val : X → Value} {φ : X → Prop} {Bs : X → List HP} (x : X) {rs : List ResultVar} {vs : List Value} {Cs : List HP}
    (hr : fn.results = rs.toArray) (q : RVs P L rs Cs vs) (hv : pack vs = val x) (hx : φ x) {Gs : List HP} [ac : AppC (Bs x) Cs Gs] (e : Ent Hs Gs) : tw n (finO P fn val φ Bs) .normal L Hs := by
 intro a M h s
 obtain ⟨g1, g2, dg, e1, y, s2⟩ := s.2
 refine ⟨.inl rfl, x, Cs, hx, ⟨g1, g2, dg, e1, y, by rw [ac.get]; exact e s2⟩, ?_⟩
 rw [← hv]; exact q.rv hr s.1
theorem ent_nil : Ent Hs [] := ⟨fun _ => trivial⟩
theorem ent_pick {As Rs : List HP} [h : PicksC As Hs Rs] : Ent Hs As := h.get.drop
/-! An assertion is opened; what follows of it is known. -/
theorem wo_know {A : HP} {p : Prop} (hA : Has A Hs) (hp : ∀ {M : Kn} {h : Res}, A.at_ M h → p) (k : p → wo r P n ops os L Hs Q) : wo r P n ops os L Hs Q := by
 intro a M m s w hf dj t
 obtain ⟨g1, g2, dg, e, _, s2⟩ := s.2
 obtain ⟨h1, _, x⟩ := hA.sat s2
 exact k (hp x) a M m s w hf dj t
theorem wc_know {c : Code} {A : HP} {p : Prop} (hA : Has A Hs) (hp : ∀ {M : Kn} {h : Res}, A.at_ M h → p) (k : p → wc r P n c L Hs Q) : wc r P n c L Hs Q := by
 intro a M m s
 obtain ⟨g1, g2, dg, e, _, s2⟩ := s.2
 obtain ⟨h1, _, x⟩ := hA.sat s2
 exact k (hp x) a M m s
theorem wc_ex {c : Code} {X : Type} {f : X → List HP} (e : ∀ {M : Kn} {h : Res}, SL Hs M h → ∃ x, SL (f x) M h) (k : ∀ x, wc r P n c L (f x) Q) : wc r P n c L Hs Q := by
 intro a M m s
 obtain ⟨g1, g2, dg, e1, y, s2⟩ := s.2
 obtain ⟨x, s3⟩ := e s2
 exact k x a M m ⟨s.1, g1, g2, dg, e1, y, s3⟩
theorem wo_ent' {Gs : List HP} (e : Ent Hs Gs) (k : wo r P n ops os L Gs Q) : wo r P n ops os L Hs Q := fun a M x s => k a M x ⟨s.1, by
 obtain ⟨g1, g2, dg, e1, y, s2⟩ := s.2
 exact ⟨g1, g2, dg, e1, y, e s2⟩⟩
theorem wc_ent' {c : Code} {Gs : List HP} (e : Ent Hs Gs) (k : wc r P n c L Gs Q) : wc r P n c L Hs Q := fun a M x s => k a M x ⟨s.1, by
 obtain ⟨g1, g2, dg, e1, y, s2⟩ := s.2
 exact ⟨g1, g2, dg, e1, y, e s2⟩⟩
end
/-- What a type is, found by its number. -/
class UndC (P : Program) (t : TypeId) (d : outParam TypeDesc) : Prop where
 h : P.underlying t = some d
class InfC (P : Program) (t : TypeId) (i : outParam TypeInfo) : Prop where
 h : P.info? t = some i
/-- A yes or no, and what each says. -/
structure BP (b : Bool) (p q : Prop) : Prop where
 t : b = true → p
 f : b = false → q
theorem BP.dec {p : Prop} [Decidable p] : BP (decide p) p (¬ p) := ⟨of_decide_eq_true, of_decide_eq_false⟩
theorem BP.raw {b : Bool} : BP b (b = true) (b = false) := ⟨id, id⟩
end
end Go.Proofs.YtdnoacgopfcpbaaGreat
