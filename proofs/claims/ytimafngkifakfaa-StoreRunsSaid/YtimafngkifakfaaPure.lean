/- Operations that touch no memory. -/
import Derived.Test.YtimafngkifakfaaOps
import Derived.WalkKit
set_option linter.unusedVariables false
set_option linter.unusedSimpArgs false
namespace Go.Proofs.Ytimafngkifakfaa

abbrev vI (n : Int) : Value := .int .i64 n
abbrev vU (n : Int) : Value := .int .u8 n
abbrev vB (b : Bool) : Value := .bool b
abbrev vS (l : List UInt8) : Value := .string ⟨⟨l⟩⟩
abbrev blt (l m : List UInt8) : Bool := Op.bytesLess l m

theorem mk_toList (l : List UInt8) : (ByteArray.mk ⟨l⟩).toList = l := by rw [ByteArray.toList_eq]
theorem lbeq (l m : List UInt8) : (l == m) = decide (l = m) := by by_cases h : l = m <;> simp [h]
theorem mk_append (l m : List UInt8) : (ByteArray.mk ⟨l⟩) ++ (ByteArray.mk ⟨m⟩) = ByteArray.mk ⟨l ++ m⟩ := by
  apply ByteArray.ext
  simp
theorem mk_size (l : List UInt8) : (ByteArray.mk ⟨l⟩).size = l.length := rfl
theorem mk_extract (l : List UInt8) (i j : Nat) : (ByteArray.mk ⟨l⟩).extract i j = ByteArray.mk ⟨(l.drop i).take (j - i)⟩ := by
  apply ByteArray.ext
  rw [ByteArray.data_extract]
  apply Array.ext'
  simp [Array.toList_extract, List.extract_eq_take_drop]
theorem mk_get (l : List UInt8) (i : Nat) : (ByteArray.mk ⟨l⟩)[i]? = l[i]? := by
  simp only [getElem?_def]
  simp only [mk_size]
  split <;> rfl
theorem mk_eq (l m : List UInt8) : (ByteArray.mk ⟨l⟩ == ByteArray.mk ⟨m⟩) = decide (l = m) := by
  rw [beq_toListBytes, mk_toList, mk_toList, lbeq]

section
variable {P : Program} {n : Nat} {L : Loc} {ty : TypeId}

theorem pv_move {x : Operand} {v : Value} (hx : ev L x = some v) : PV P n L (.move x) ty v :=
  ⟨by intro c; simp, fun a f w _ _ _ _ => by simp [execOp, f.ev hx]⟩
theorem pv_assign {x : Operand} {v : Value} (hx : ev L x = some v) : PV P n L (.assign x) ty v :=
  ⟨by intro c; simp, fun a f w _ _ _ _ => by simp [execOp, f.ev hx]⟩
theorem pv_pick_t {c x y : Operand} {v : Value} (hc : ev L c = some (.bool true)) (hx : ev L x = some v) : PV P n L (.pick c x y) ty v :=
  ⟨by intro c; simp, fun a f w _ _ _ _ => by simp [execOp, f.ev hc, f.ev hx, asBool]⟩
theorem pv_pick_f {c x y : Operand} {v : Value} (hc : ev L c = some (.bool false)) (hy : ev L y = some v) : PV P n L (.pick c x y) ty v :=
  ⟨by intro c; simp, fun a f w _ _ _ _ => by simp [execOp, f.ev hc, f.ev hy, asBool]⟩
theorem pv_pick_b {c x y : Operand} {b : Bool} {v u : Value} (hc : ev L c = some (.bool b)) (hx : ev L x = some v) (hy : ev L y = some u) : PV P n L (.pick c x y) ty (if b then v else u) :=
  ⟨by intro c; simp, fun a f w _ _ _ _ => by simp [execOp, f.ev hc, f.ev hx, f.ev hy, asBool]⟩
theorem pv_extract {x : Operand} {vs : Array Value} {i : Nat} {v : Value} (hx : ev L x = some (.tuple vs)) (hv : vs[i]? = some v) : PV P n L (.extract x i) ty v :=
  ⟨by intro c; simp, fun a f w _ _ _ _ => by simp [execOp, f.ev hx, Instr.extract, hv]⟩

/-! Whole numbers. -/
theorem pv_arith {x y : Operand} {k : IntKind} {i j : Int} {t yt : TypeId} {op : BinOp} {v : Value} (hx : ev L x = some (.int k i)) (hy : ev L y = some (.int k j))
    (h : ∀ w, (binOp op t (.int k i) (.int k j)).run P w = .ok v w) : PV P n L (.binOp op t x y yt) ty v :=
  ⟨by intro c; simp, fun a f w _ _ _ _ => by
    simp only [execOp, f.ev hx, f.ev hy, Sem.run_bind]
    have hg : (eqGuard op t x y (.int k i) (.int k j)).run P w = .ok () w := by
      unfold eqGuard
      split <;> rfl
    rw [hg]
    simp [h w]⟩
theorem i64_in' {m : Int} (h : -9223372036854775808 ≤ m ∧ m ≤ 9223372036854775807) : IntKind.i64.wrap m = m := IntWalk.i64_in m h

theorem pv_add {x y : Operand} {i j : Int} {t yt : TypeId} (hx : ev L x = some (vI i)) (hy : ev L y = some (vI j)) (h : -9223372036854775808 ≤ i + j ∧ i + j ≤ 9223372036854775807) :
    PV P n L (.binOp .add t x y yt) ty (vI (i + j)) := pv_arith hx hy fun w => by simp [binOp, Op.intArith, i64_in' h]
theorem pv_sub {x y : Operand} {i j : Int} {t yt : TypeId} (hx : ev L x = some (vI i)) (hy : ev L y = some (vI j)) (h : -9223372036854775808 ≤ i - j ∧ i - j ≤ 9223372036854775807) :
    PV P n L (.binOp .sub t x y yt) ty (vI (i - j)) := pv_arith hx hy fun w => by simp [binOp, Op.intArith, i64_in' h]
theorem pv_mul {x y : Operand} {i j : Int} {t yt : TypeId} (hx : ev L x = some (vI i)) (hy : ev L y = some (vI j)) (h : -9223372036854775808 ≤ i * j ∧ i * j ≤ 9223372036854775807) :
    PV P n L (.binOp .mul t x y yt) ty (vI (i * j)) := pv_arith hx hy fun w => by simp [binOp, Op.intArith, i64_in' h]
theorem pv_addw {x y : Operand} {k : IntKind} {i j : Int} {t yt : TypeId} (hx : ev L x = some (.int k i)) (hy : ev L y = some (.int k j)) :
    PV P n L (.binOp .add t x y yt) ty (.int k (k.wrap (i + j))) := pv_arith hx hy fun w => by simp [binOp, Op.intArith]
theorem pv_subw {x y : Operand} {k : IntKind} {i j : Int} {t yt : TypeId} (hx : ev L x = some (.int k i)) (hy : ev L y = some (.int k j)) :
    PV P n L (.binOp .sub t x y yt) ty (.int k (k.wrap (i - j))) := pv_arith hx hy fun w => by simp [binOp, Op.intArith]
theorem pv_mulw {x y : Operand} {k : IntKind} {i j : Int} {t yt : TypeId} (hx : ev L x = some (.int k i)) (hy : ev L y = some (.int k j)) :
    PV P n L (.binOp .mul t x y yt) ty (.int k (k.wrap (i * j))) := pv_arith hx hy fun w => by simp [binOp, Op.intArith]
theorem pv_quo {x y : Operand} {i j : Int} {t yt : TypeId} (hx : ev L x = some (vI i)) (hy : ev L y = some (vI j)) (h : 0 ≤ i ∧ i ≤ 9223372036854775807 ∧ 1 ≤ j) :
    PV P n L (.binOp .quo t x y yt) ty (vI (i / j)) := pv_arith hx hy fun w => by
      have hj : ¬ (j = 0) := by omega
      simp [binOp, Op.intDiv, hj, IntWalk.i64_quo _ _ h]
theorem pv_rem {x y : Operand} {k : IntKind} {i j : Int} {t yt : TypeId} (hx : ev L x = some (.int k i)) (hy : ev L y = some (.int k j)) (h : 0 ≤ i ∧ 1 ≤ j) :
    PV P n L (.binOp .rem t x y yt) ty (.int k (i % j)) := pv_arith hx hy fun w => by
      have hj : ¬ (j = 0) := by omega
      simp [binOp, Op.intDiv, hj, Int.tmod_eq_emod_of_nonneg h.1]
theorem pv_remt {x y : Operand} {k : IntKind} {i j : Int} {t yt : TypeId} (hx : ev L x = some (.int k i)) (hy : ev L y = some (.int k j)) (h : 1 ≤ j) :
    PV P n L (.binOp .rem t x y yt) ty (.int k (i.tmod j)) := pv_arith hx hy fun w => by
      have hj : ¬ (j = 0) := by omega
      simp [binOp, Op.intDiv, hj]
theorem pv_lss {x y : Operand} {k : IntKind} {i j : Int} {t yt : TypeId} (hx : ev L x = some (.int k i)) (hy : ev L y = some (.int k j)) :
    PV P n L (.binOp .lss t x y yt) ty (.bool (decide (i < j))) := pv_arith hx hy fun w => by simp [binOp, Op.intCmp]
theorem pv_leq {x y : Operand} {k : IntKind} {i j : Int} {t yt : TypeId} (hx : ev L x = some (.int k i)) (hy : ev L y = some (.int k j)) :
    PV P n L (.binOp .leq t x y yt) ty (.bool (decide (i ≤ j))) := pv_arith hx hy fun w => by simp [binOp, Op.intCmp]
theorem pv_gtr {x y : Operand} {k : IntKind} {i j : Int} {t yt : TypeId} (hx : ev L x = some (.int k i)) (hy : ev L y = some (.int k j)) :
    PV P n L (.binOp .gtr t x y yt) ty (.bool (decide (j < i))) := pv_arith hx hy fun w => by simp [binOp, Op.intCmp]
theorem pv_geq {x y : Operand} {k : IntKind} {i j : Int} {t yt : TypeId} (hx : ev L x = some (.int k i)) (hy : ev L y = some (.int k j)) :
    PV P n L (.binOp .geq t x y yt) ty (.bool (decide (j ≤ i))) := pv_arith hx hy fun w => by simp [binOp, Op.intCmp]
theorem pv_eql {x y : Operand} {k : IntKind} {i j : Int} {t yt : TypeId} (hx : ev L x = some (.int k i)) (hy : ev L y = some (.int k j)) :
    PV P n L (.binOp .eql t x y yt) ty (.bool (decide (i = j))) := pv_arith hx hy fun w => by
      simp only [binOp, ne_eq, not_true_eq_false, if_false, Op.intCmp, Sem.run_pure]; congr 2
theorem pv_neq {x y : Operand} {k : IntKind} {i j : Int} {t yt : TypeId} (hx : ev L x = some (.int k i)) (hy : ev L y = some (.int k j)) :
    PV P n L (.binOp .neq t x y yt) ty (.bool (decide (¬ i = j))) := pv_arith hx hy fun w => by
      simp only [binOp, ne_eq, not_true_eq_false, if_false, Op.intCmp, Sem.run_pure]; congr 2; by_cases h : i = j <;> simp [h]
theorem pv_shl {x y : Operand} {k k' : IntKind} {i : Int} {m : Nat} {t yt : TypeId} (hx : ev L x = some (.int k i)) (hy : ev L y = some (.int k' (m : Int))) :
    PV P n L (.binOp .shl t x y yt) ty (.int k (k.wrap (i * 2 ^ (min m k.bits)))) :=
  ⟨by intro c; simp, fun a f w _ _ _ _ => by simp [execOp, f.ev hx, f.ev hy, eqGuard, binOp, Op.shift]; omega⟩
theorem pv_shr {x y : Operand} {k k' : IntKind} {i : Int} {m : Nat} {t yt : TypeId} (hx : ev L x = some (.int k i)) (hy : ev L y = some (.int k' (m : Int))) :
    PV P n L (.binOp .shr t x y yt) ty (.int k (i.fdiv (2 ^ (min m k.bits)))) :=
  ⟨by intro c; simp, fun a f w _ _ _ _ => by simp [execOp, f.ev hx, f.ev hy, eqGuard, binOp, Op.shift]; omega⟩
theorem pv_not {x : Operand} {b : Bool} {t : TypeId} (hx : ev L x = some (.bool b)) : PV P n L (.unOp .not t x) ty (.bool (!b)) :=
  ⟨by intro c; simp, fun a f w _ _ _ _ => by simp [execOp, f.ev hx, Op.unary]⟩
theorem pv_notd {x : Operand} {p : Prop} [Decidable p] {t : TypeId} (hx : ev L x = some (.bool (decide p))) : PV P n L (.unOp .not t x) ty (.bool (decide (¬ p))) := by
  have : decide (¬ p) = !(decide p) := by simp
  rw [this]; exact pv_not hx
theorem pv_conv {x : Operand} {k k' : IntKind} {i : Int} {src dst : TypeId} {sd : TypeDesc} (hx : ev L x = some (.int k' i)) (hs : P.underlying src = some sd) (hd : P.underlying dst = some (.int k)) :
    PV P n L (.convert src dst x) ty (.int k (k.wrap i)) :=
  ⟨by intro c; simp, fun a f w _ _ _ _ => by simp [execOp, f.ev hx, convert, run_underlying hs, run_underlying hd, Conv.intToInt]⟩
theorem pv_conv_in {x : Operand} {k k' : IntKind} {i : Int} {src dst : TypeId} {sd : TypeDesc} (hx : ev L x = some (.int k' i)) (hs : P.underlying src = some sd) (hd : P.underlying dst = some (.int k))
    (hw : k.wrap i = i) : PV P n L (.convert src dst x) ty (.int k i) := by
  have := pv_conv (n := n) (ty := ty) hx hs hd; rw [hw] at this; exact this

/-! Texts. -/
theorem pv_sarith {x y : Operand} {l m : List UInt8} {t yt : TypeId} {op : BinOp} {v : Value} (hx : ev L x = some (vS l)) (hy : ev L y = some (vS m))
    (h : ∀ w, (binOp op t (vS l) (vS m)).run P w = .ok v w) : PV P n L (.binOp op t x y yt) ty v :=
  ⟨by intro c; simp, fun a f w _ _ _ _ => by
    simp only [execOp, f.ev hx, f.ev hy, Sem.run_bind]
    have hg : (eqGuard op t x y (vS l) (vS m)).run P w = .ok () w := by
      unfold eqGuard
      split <;> rfl
    rw [hg]
    simp [h w]⟩
theorem pv_cat {x y : Operand} {l m : List UInt8} {t yt : TypeId} (hx : ev L x = some (vS l)) (hy : ev L y = some (vS m)) (h : l.length + m.length ≤ 9223372036854775807) :
    PV P n L (.binOp .add t x y yt) ty (vS (l ++ m)) := pv_sarith hx hy fun w => by
      have : ¬ (IntKind.i64.max < (l.length : Int) + (m.length : Int)) := by
        have e : IntKind.i64.max = 9223372036854775807 := by decide
        rw [e]; omega
      simp [binOp, Op.stringOp, mk_size, mk_append, this]
      omega
theorem pv_seql {x y : Operand} {l m : List UInt8} {t yt : TypeId} (hx : ev L x = some (vS l)) (hy : ev L y = some (vS m)) :
    PV P n L (.binOp .eql t x y yt) ty (.bool (decide (l = m))) := pv_sarith hx hy fun w => by
      simp only [binOp, Op.stringOp, mk_toList, Sem.run_pure, lbeq]
theorem pv_sneq {x y : Operand} {l m : List UInt8} {t yt : TypeId} (hx : ev L x = some (vS l)) (hy : ev L y = some (vS m)) :
    PV P n L (.binOp .neq t x y yt) ty (.bool (decide (¬ l = m))) := pv_sarith hx hy fun w => by
      simp only [binOp, Op.stringOp, mk_toList, Sem.run_pure]; congr 2; by_cases h : l = m <;> simp [h]
theorem pv_slss {x y : Operand} {l m : List UInt8} {t yt : TypeId} (hx : ev L x = some (vS l)) (hy : ev L y = some (vS m)) :
    PV P n L (.binOp .lss t x y yt) ty (.bool (blt l m)) := pv_sarith hx hy fun w => by simp [binOp, Op.stringOp, mk_toList]
theorem pv_sleq {x y : Operand} {l m : List UInt8} {t yt : TypeId} (hx : ev L x = some (vS l)) (hy : ev L y = some (vS m)) :
    PV P n L (.binOp .leq t x y yt) ty (.bool (blt l m || decide (l = m))) := pv_sarith hx hy fun w => by
      simp only [binOp, Op.stringOp, mk_toList, Sem.run_pure, lbeq]
theorem pv_sgtr {x y : Operand} {l m : List UInt8} {t yt : TypeId} (hx : ev L x = some (vS l)) (hy : ev L y = some (vS m)) :
    PV P n L (.binOp .gtr t x y yt) ty (.bool (!(blt l m || decide (l = m)))) := pv_sarith hx hy fun w => by
      simp only [binOp, Op.stringOp, mk_toList, Sem.run_pure, lbeq]
theorem pv_sgeq {x y : Operand} {l m : List UInt8} {t yt : TypeId} (hx : ev L x = some (vS l)) (hy : ev L y = some (vS m)) :
    PV P n L (.binOp .geq t x y yt) ty (.bool (!(blt l m))) := pv_sarith hx hy fun w => by simp [binOp, Op.stringOp, mk_toList]
theorem pv_index {x y : Operand} {l : List UInt8} {k : IntKind} {i : Int} {t : TypeId} (ht : P.underlying t = some .string) (hx : ev L x = some (vS l)) (hy : ev L y = some (.int k i)) (h0 : 0 ≤ i) (h : i < l.length) :
    PV P n L (.index t x y) ty (vU ((l.getD i.toNat 0).toNat : Int)) :=
  ⟨by intro c; simp, fun a f w _ _ _ _ => by
    have hlt : i.toNat < l.length := by omega
    simp only [execOp, f.ev hx, f.ev hy, Instr.index, asIntOf, Sem.run_bind, Sem.run_pure, Result.andThen_ok, run_underlying ht, h0, if_true, mk_get]
    rw [List.getElem?_eq_getElem hlt]
    simp [hlt]⟩
theorem pv_slice_to {x y : Operand} {l : List UInt8} {k : IntKind} {i : Int} {t : TypeId} (ht : P.underlying t = some .string) (hx : ev L x = some (vS l)) (hy : ev L y = some (.int k i)) (h0 : 0 ≤ i) (h : i ≤ l.length) :
    PV P n L (.slice t x none (some y) none) ty (vS (l.take i.toNat)) :=
  ⟨by intro c; simp, fun a f w _ _ _ _ => by
    have h0' : 0 ≤ i := h0
    simp [execOp, f.ev hx, f.ev hy, Instr.sliceAt, Instr.slice, Instr.sliceBounds, run_underlying ht, mk_size, run_sliceBound w k i l.length .sliceAlen h0 h, mk_extract]⟩
theorem pv_slice_from {x y : Operand} {l : List UInt8} {k : IntKind} {i : Int} {t : TypeId} (ht : P.underlying t = some .string) (hx : ev L x = some (vS l)) (hy : ev L y = some (.int k i)) (h0 : 0 ≤ i) (h : i ≤ l.length) :
    PV P n L (.slice t x (some y) none none) ty (vS (l.drop i.toNat)) :=
  ⟨by intro c; simp, fun a f w _ _ _ _ => by
    simp [execOp, f.ev hx, f.ev hy, Instr.sliceAt, Instr.slice, Instr.sliceBounds, run_underlying ht, mk_size, run_sliceBound w k i l.length .sliceB h0 h, mk_extract]
    exact List.take_of_length_le (by simp)⟩
theorem pv_slice_in {x y z : Operand} {l : List UInt8} {k k' : IntKind} {i j : Int} {t : TypeId} (ht : P.underlying t = some .string) (hx : ev L x = some (vS l)) (hy : ev L y = some (.int k i)) (hz : ev L z = some (.int k' j))
    (h0 : 0 ≤ i) (h1 : i ≤ j) (h : j ≤ l.length) : PV P n L (.slice t x (some y) (some z) none) ty (vS ((l.drop i.toNat).take (j - i).toNat)) :=
  ⟨by intro c; simp, fun a f w _ _ _ _ => by
    have e : (j - i).toNat = j.toNat - i.toNat := by omega
    have hj : (j.toNat : Int) = j := by omega
    simp [execOp, f.ev hx, f.ev hy, f.ev hz, Instr.sliceAt, Instr.slice, Instr.sliceBounds, run_underlying ht, mk_size, run_sliceBound w k' j l.length .sliceAlen (by omega) h, run_sliceBound w k i j.toNat .sliceB h0 (by omega), mk_extract, e]⟩
theorem pv_call_len_s {x : Operand} {l : List UInt8} {t : TypeId} (ht : P.underlying t = some .string) (hx : ev L x = some (vS l)) : PV P n L (.call ⟨.builtin .len, #[x], #[t]⟩) ty (vI l.length) :=
  ⟨by intro c; simp, fun a f w _ _ _ _ => by simp [execOp, resolve, f.ev hx, invoke, builtin, Builtin.len_, run_underlying ht, mk_size, goInt]⟩
theorem pv_call_len_sl {x : Operand} {b : Option Addr} {len cap : Nat} {t e : TypeId} (ht : P.underlying t = some (.slice e)) (hx : ev L x = some (.slice b len cap)) : PV P n L (.call ⟨.builtin .len, #[x], #[t]⟩) ty (vI len) :=
  ⟨by intro c; simp, fun a f w _ _ _ _ => by simp [execOp, resolve, f.ev hx, invoke, builtin, Builtin.len_, run_underlying ht, goInt]⟩
theorem pv_call_cap_sl {x : Operand} {b : Option Addr} {len cap : Nat} {t e : TypeId} (ht : P.underlying t = some (.slice e)) (hx : ev L x = some (.slice b len cap)) : PV P n L (.call ⟨.builtin .cap, #[x], #[t]⟩) ty (vI cap) :=
  ⟨by intro c; simp, fun a f w _ _ _ _ => by simp [execOp, resolve, f.ev hx, invoke, builtin, Builtin.cap_, run_underlying ht, goInt]⟩
theorem pv_call_min {x y : Operand} {k : IntKind} {i j : Int} {ts : Array TypeId} (hx : ev L x = some (.int k i)) (hy : ev L y = some (.int k j)) : PV P n L (.call ⟨.builtin .min, #[x, y], ts⟩) ty (.int k (min i j)) :=
  ⟨by intro c; simp, fun a f w _ _ _ _ => by
    have : (if j < i then j else i) = min i j := by split <;> omega
    simp [execOp, resolve, f.ev hx, f.ev hy, invoke, builtin, Builtin.min_, Builtin.min2, this]⟩
theorem pv_call_max {x y : Operand} {k : IntKind} {i j : Int} {ts : Array TypeId} (hx : ev L x = some (.int k i)) (hy : ev L y = some (.int k j)) : PV P n L (.call ⟨.builtin .max, #[x, y], ts⟩) ty (.int k (max i j)) :=
  ⟨by intro c; simp, fun a f w _ _ _ _ => by
    have : (if i < j then j else i) = max i j := by split <;> omega
    simp [execOp, resolve, f.ev hx, f.ev hy, invoke, builtin, Builtin.max_, Builtin.max2, this]⟩
/-! Structs, addresses, functions. -/
theorem pv_build {t : TypeId} {ps : Array (Nat × Operand)} {vs : List (Nat × Value)} {v : Value} (hps : ∀ a : Act, Fr n L a → (ps.map fun (i, x) => (i, a.eval x)) = vs.toArray)
    (h : ∀ w, (Instr.build t vs.toArray).run P w = .ok v w) : PV P n L (.build t ps) ty v :=
  ⟨by intro c; simp, fun a f w _ _ _ _ => by
    have e := hps a f
    simp only [execOp]
    rw [show (Array.map (fun x => match x with | (i, x) => (i, a.eval x)) ps) = vs.toArray from e]
    simp [h w]⟩
theorem pv_field {t : TypeId} {x : Operand} {i : Nat} {v u : Value} (hx : ev L x = some u) (h : ∀ w, (Instr.field t u i).run P w = .ok v w) : PV P n L (.field t x i) ty v :=
  ⟨by intro c; simp, fun a f w _ _ _ _ => by simp [execOp, f.ev hx, h w]⟩
theorem pv_fieldAddr {t : TypeId} {x : Operand} {i b off : Nat} {fs : Array Field} {fd : Field} (ht : P.underlying t = some (.struct fs)) (hf : fs[i]? = some fd) {ti : TypeInfo} (hi : P.info? fd.type = some ti) (hz : Nat.beq ti.size 0 = false)
    (hx : ev L x = some (.pointer (some ⟨b, off, none⟩))) : PV P n L (.fieldAddr t x i) ty (.pointer (some ⟨b, off + fd.offset, none⟩)) :=
  ⟨by intro c; simp, fun a f w _ _ _ _ => by
    have hz' : ¬ (ti.size = 0) := fun e => by rw [e] at hz; cases hz
    have : (⟨b, off, none⟩ : Addr).add fd.offset = ⟨b, off + fd.offset, none⟩ := by
      unfold Addr.add; split <;> simp_all
    simp [execOp, f.ev hx, Instr.fieldAt, Instr.sureAddr, run_underlying ht, hf, fieldPlace, sizeOf, typeInfo, program, Sem.run, hi, hz', this]⟩
theorem pv_indexAddr {t e : TypeId} {x y : Operand} {k : IntKind} {i : Int} {b off len cap : Nat} {ti : TypeInfo} (ht : P.underlying t = some (.slice e)) (hi : P.info? e = some ti)
    (hx : ev L x = some (.slice (some ⟨b, off, none⟩) len cap)) (hy : ev L y = some (.int k i)) (h0 : 0 ≤ i) (h : i < len) : PV P n L (.indexAddr t x y) ty (.pointer (some ⟨b, off + i.toNat * ti.size, none⟩)) :=
  ⟨by intro c; simp, fun a f w _ _ _ _ => by
    have : (⟨b, off, none⟩ : Addr).add (i.toNat * ti.size) = ⟨b, off + i.toNat * ti.size, none⟩ := by
      unfold Addr.add; split <;> simp_all
    simp [execOp, f.ev hx, f.ev hy, Instr.indexAt, asIntOf, run_underlying ht, h0, h, sizeOf, typeInfo, program, Sem.run, hi, this]⟩
theorem pv_nilCheck_p {x : Operand} {b : Addr} (hx : ev L x = some (.pointer (some b))) : PV P n L (.nilCheck x) ty (.pointer (some b)) :=
  ⟨by intro c; simp, fun a f w _ _ _ _ => by simp [execOp, f.ev hx]⟩
theorem pv_nilCheck_f {x : Operand} {g : FuncId} {as cs : Array Value} (hx : ev L x = some (.func (.func g) as cs)) : PV P n L (.nilCheck x) ty (.func (.func g) as cs) :=
  ⟨by intro c; simp, fun a f w _ _ _ _ => by simp [execOp, f.ev hx]⟩
theorem pv_makeFunc {fn : Fn} {as cs : Array Operand} {avs cvs : List Value} (ha : evs L as.toList = some avs) (hc : evs L cs.toList = some cvs) : PV P n L (.makeFunc fn as cs) ty (.func fn avs.toArray cvs.toArray) :=
  ⟨by intro c; simp, fun a f w _ _ _ _ => by
    have e1 : as.map a.eval = avs.toArray := by apply Array.ext'; simp [f.evs _ ha]
    have e2 : cs.map a.eval = cvs.toArray := by apply Array.ext'; simp [f.evs _ hc]
    simp [execOp, Instr.makeFunc, e1, e2]⟩
theorem pv_slslice_to {x y : Operand} {b : Option Addr} {len cap : Nat} {k : IntKind} {i : Int} {t e : TypeId} {ti : TypeInfo} (ht : P.underlying t = some (.slice e)) (hi : P.info? e = some ti) (hx : ev L x = some (.slice b len cap)) (hy : ev L y = some (.int k i)) (h0 : 0 ≤ i) (h : i ≤ cap) :
    PV P n L (.slice t x none (some y) none) ty (.slice b i.toNat cap) :=
  ⟨by intro c; simp, fun a f w _ _ _ _ => by
    have e : (if cap = 0 then b else Option.map (fun x : Addr => x.add 0) b) = b := by
      split
      · rfl
      · cases b <;> simp [Addr.add]
    simp [execOp, f.ev hx, f.ev hy, Instr.sliceAt, Instr.slice, Instr.sliceBounds, run_underlying ht, run_sliceBound w k i cap .sliceAcap h0 h, sizeOf, typeInfo, program, Sem.run, hi, e]⟩
theorem pv_slslice_from {x y : Operand} {b : Option Addr} {len cap : Nat} {k : IntKind} {i : Int} {t e : TypeId} {ti : TypeInfo} (ht : P.underlying t = some (.slice e)) (hi : P.info? e = some ti) (hx : ev L x = some (.slice b len cap)) (hy : ev L y = some (.int k i)) (h0 : 0 ≤ i) (h : i ≤ len) :
    PV P n L (.slice t x (some y) none none) ty (.slice (if cap = i.toNat then b else b.map (·.add (i.toNat * ti.size))) (len - i.toNat) (cap - i.toNat)) :=
  ⟨by intro c; simp, fun a f w _ _ _ _ => by
    simp [execOp, f.ev hx, f.ev hy, Instr.sliceAt, Instr.slice, Instr.sliceBounds, run_underlying ht, run_sliceBound w k i len .sliceB h0 h, sizeOf, typeInfo, program, Sem.run, hi]⟩
end
end Go.Proofs.Ytimafngkifakfaa
