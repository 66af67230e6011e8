/- Texts of this proof, put together: Types, Shelf, Lib0, LibB, Row1, LibS. -/
import Derived.Shelf.Strings.Builder1
import Derived.Shelf.Strings.Builder2
import Derived.Shelf.Small.Bits
import Derived.Shelf.Small.Strs
import Derived.Shelf.Small.Wraps
import Derived.Shelf.Strings.BuilderF
import Derived.Shelf.Strconv.Itoa0
import Derived.Shelf.Strings.Search1
import Derived.Shelf.Sort.Plain
import Derived.Shelf.Strings.Prefix
import Derived.Shelf.Bits.Mul64
import Derived.Shelf.Strings.Repeat
import Derived.Ground.Names2Prog
import Derived.Shelf.Slices.Clone
import Derived.Ground.SlgnProg
import Derived.Shelf.SlicesE.Clone
import Derived.Lib.Builder
import Derived.Lib.UnsafeStr
import Derived.Lib.AppendStr
import Derived.Test.YtimafngkifakfaaQA1
import Derived.Test.YtimafngkifakfaaProg
import Derived.Test.YtimafngkifakfaaQA2
set_option linter.unusedVariables false
set_option linter.unusedSimpArgs false
/- The types of the translation, by number. Printed by a program of this session. -/
namespace Go.Proofs.Ytimafngkifakfaa
theorem ti0 : Try.prog.info? 0 = some Try.t0 := by kernel_rfl
theorem ti1 : Try.prog.info? 1 = some Try.t1 := by kernel_rfl
theorem ti2 : Try.prog.info? 2 = some Try.t2 := by kernel_rfl
theorem ti3 : Try.prog.info? 3 = some Try.t3 := by kernel_rfl
theorem ti4 : Try.prog.info? 4 = some Try.t4 := by kernel_rfl
theorem ti5 : Try.prog.info? 5 = some Try.t5 := by kernel_rfl
theorem ti6 : Try.prog.info? 6 = some Try.t6 := by kernel_rfl
theorem ti7 : Try.prog.info? 7 = some Try.t7 := by kernel_rfl
theorem ti8 : Try.prog.info? 8 = some Try.t8 := by kernel_rfl
theorem ti9 : Try.prog.info? 9 = some Try.t9 := by kernel_rfl
theorem ti10 : Try.prog.info? 10 = some Try.t10 := by kernel_rfl
theorem ti11 : Try.prog.info? 11 = some Try.t11 := by kernel_rfl
theorem ti12 : Try.prog.info? 12 = some Try.t12 := by kernel_rfl
theorem ti13 : Try.prog.info? 13 = some Try.t13 := by kernel_rfl
theorem ti14 : Try.prog.info? 14 = some Try.t14 := by kernel_rfl
theorem ti15 : Try.prog.info? 15 = some Try.t15 := by kernel_rfl
theorem ti16 : Try.prog.info? 16 = some Try.t16 := by kernel_rfl
theorem ti17 : Try.prog.info? 17 = some Try.t17 := by kernel_rfl
theorem ti18 : Try.prog.info? 18 = some Try.t18 := by kernel_rfl
theorem ti19 : Try.prog.info? 19 = some Try.t19 := by kernel_rfl
theorem ti20 : Try.prog.info? 20 = some Try.t20 := by kernel_rfl
theorem ti21 : Try.prog.info? 21 = some Try.t21 := by kernel_rfl
theorem ti22 : Try.prog.info? 22 = some Try.t22 := by kernel_rfl
theorem ti23 : Try.prog.info? 23 = some Try.t23 := by kernel_rfl
theorem ti24 : Try.prog.info? 24 = some Try.t24 := by kernel_rfl
theorem ti25 : Try.prog.info? 25 = some Try.t25 := by kernel_rfl
theorem ti26 : Try.prog.info? 26 = some Try.t26 := by kernel_rfl
theorem ti27 : Try.prog.info? 27 = some Try.t27 := by kernel_rfl
theorem ti28 : Try.prog.info? 28 = some Try.t28 := by kernel_rfl
theorem ti29 : Try.prog.info? 29 = some Try.t29 := by kernel_rfl
theorem ti30 : Try.prog.info? 30 = some Try.t30 := by kernel_rfl
theorem ti31 : Try.prog.info? 31 = some Try.t31 := by kernel_rfl
theorem ti32 : Try.prog.info? 32 = some Try.t32 := by kernel_rfl
theorem ti33 : Try.prog.info? 33 = some Try.t33 := by kernel_rfl
theorem ti34 : Try.prog.info? 34 = some Try.t34 := by kernel_rfl
theorem ti35 : Try.prog.info? 35 = some Try.t35 := by kernel_rfl
theorem ti36 : Try.prog.info? 36 = some Try.t36 := by kernel_rfl
theorem ti37 : Try.prog.info? 37 = some Try.t37 := by kernel_rfl
theorem ti38 : Try.prog.info? 38 = some Try.t38 := by kernel_rfl
theorem ti39 : Try.prog.info? 39 = some Try.t39 := by kernel_rfl
theorem ti40 : Try.prog.info? 40 = some Try.t40 := by kernel_rfl
theorem ti41 : Try.prog.info? 41 = some Try.t41 := by kernel_rfl
theorem ti42 : Try.prog.info? 42 = some Try.t42 := by kernel_rfl
theorem ti43 : Try.prog.info? 43 = some Try.t43 := by kernel_rfl
theorem ti44 : Try.prog.info? 44 = some Try.t44 := by kernel_rfl
theorem ti45 : Try.prog.info? 45 = some Try.t45 := by kernel_rfl
theorem ti46 : Try.prog.info? 46 = some Try.t46 := by kernel_rfl
theorem ti47 : Try.prog.info? 47 = some Try.t47 := by kernel_rfl
theorem ti48 : Try.prog.info? 48 = some Try.t48 := by kernel_rfl
theorem ti49 : Try.prog.info? 49 = some Try.t49 := by kernel_rfl
theorem ti50 : Try.prog.info? 50 = some Try.t50 := by kernel_rfl
theorem ti51 : Try.prog.info? 51 = some Try.t51 := by kernel_rfl
theorem ti52 : Try.prog.info? 52 = some Try.t52 := by kernel_rfl
theorem ti53 : Try.prog.info? 53 = some Try.t53 := by kernel_rfl
theorem ti54 : Try.prog.info? 54 = some Try.t54 := by kernel_rfl
theorem ti55 : Try.prog.info? 55 = some Try.t55 := by kernel_rfl
theorem ti56 : Try.prog.info? 56 = some Try.t56 := by kernel_rfl
theorem ti57 : Try.prog.info? 57 = some Try.t57 := by kernel_rfl
theorem ti58 : Try.prog.info? 58 = some Try.t58 := by kernel_rfl
theorem ti59 : Try.prog.info? 59 = some Try.t59 := by kernel_rfl
theorem ti60 : Try.prog.info? 60 = some Try.t60 := by kernel_rfl
theorem ti61 : Try.prog.info? 61 = some Try.t61 := by kernel_rfl
theorem ti62 : Try.prog.info? 62 = some Try.t62 := by kernel_rfl
theorem ti63 : Try.prog.info? 63 = some Try.t63 := by kernel_rfl
theorem ti64 : Try.prog.info? 64 = some Try.t64 := by kernel_rfl
theorem ti65 : Try.prog.info? 65 = some Try.t65 := by kernel_rfl
theorem ti66 : Try.prog.info? 66 = some Try.t66 := by kernel_rfl
theorem ti67 : Try.prog.info? 67 = some Try.t67 := by kernel_rfl
theorem ti68 : Try.prog.info? 68 = some Try.t68 := by kernel_rfl
theorem ti69 : Try.prog.info? 69 = some Try.t69 := by kernel_rfl
theorem ti70 : Try.prog.info? 70 = some Try.t70 := by kernel_rfl
theorem ti71 : Try.prog.info? 71 = some Try.t71 := by kernel_rfl
theorem ti72 : Try.prog.info? 72 = some Try.t72 := by kernel_rfl
theorem ti73 : Try.prog.info? 73 = some Try.t73 := by kernel_rfl
theorem ti74 : Try.prog.info? 74 = some Try.t74 := by kernel_rfl
theorem ti75 : Try.prog.info? 75 = some Try.t75 := by kernel_rfl
theorem ti76 : Try.prog.info? 76 = some Try.t76 := by kernel_rfl
theorem ti77 : Try.prog.info? 77 = some Try.t77 := by kernel_rfl
theorem ti78 : Try.prog.info? 78 = some Try.t78 := by kernel_rfl
theorem ti79 : Try.prog.info? 79 = some Try.t79 := by kernel_rfl
theorem ti80 : Try.prog.info? 80 = some Try.t80 := by kernel_rfl
theorem ti81 : Try.prog.info? 81 = some Try.t81 := by kernel_rfl
theorem ti82 : Try.prog.info? 82 = some Try.t82 := by kernel_rfl
theorem ti83 : Try.prog.info? 83 = some Try.t83 := by kernel_rfl
theorem ti84 : Try.prog.info? 84 = some Try.t84 := by kernel_rfl
theorem ti85 : Try.prog.info? 85 = some Try.t85 := by kernel_rfl
theorem ti86 : Try.prog.info? 86 = some Try.t86 := by kernel_rfl
theorem ti87 : Try.prog.info? 87 = some Try.t87 := by kernel_rfl
theorem ti88 : Try.prog.info? 88 = some Try.t88 := by kernel_rfl
theorem ti89 : Try.prog.info? 89 = some Try.t89 := by kernel_rfl
theorem ti90 : Try.prog.info? 90 = some Try.t90 := by kernel_rfl
theorem ti91 : Try.prog.info? 91 = some Try.t91 := by kernel_rfl
theorem ti92 : Try.prog.info? 92 = some Try.t92 := by kernel_rfl
theorem ti93 : Try.prog.info? 93 = some Try.t93 := by kernel_rfl
theorem ti94 : Try.prog.info? 94 = some Try.t94 := by kernel_rfl
theorem ti95 : Try.prog.info? 95 = some Try.t95 := by kernel_rfl
theorem ti96 : Try.prog.info? 96 = some Try.t96 := by kernel_rfl
theorem ti97 : Try.prog.info? 97 = some Try.t97 := by kernel_rfl
theorem ti98 : Try.prog.info? 98 = some Try.t98 := by kernel_rfl
theorem ti99 : Try.prog.info? 99 = some Try.t99 := by kernel_rfl
theorem ti100 : Try.prog.info? 100 = some Try.t100 := by kernel_rfl
theorem ti101 : Try.prog.info? 101 = some Try.t101 := by kernel_rfl
theorem ti102 : Try.prog.info? 102 = some Try.t102 := by kernel_rfl
theorem ti103 : Try.prog.info? 103 = some Try.t103 := by kernel_rfl
theorem ti104 : Try.prog.info? 104 = some Try.t104 := by kernel_rfl
theorem ti105 : Try.prog.info? 105 = some Try.t105 := by kernel_rfl
theorem ti106 : Try.prog.info? 106 = some Try.t106 := by kernel_rfl
theorem ti107 : Try.prog.info? 107 = some Try.t107 := by kernel_rfl
theorem ti108 : Try.prog.info? 108 = some Try.t108 := by kernel_rfl
theorem ti109 : Try.prog.info? 109 = some Try.t109 := by kernel_rfl
theorem ti110 : Try.prog.info? 110 = some Try.t110 := by kernel_rfl
theorem ti111 : Try.prog.info? 111 = some Try.t111 := by kernel_rfl
theorem ti112 : Try.prog.info? 112 = some Try.t112 := by kernel_rfl
theorem ti113 : Try.prog.info? 113 = some Try.t113 := by kernel_rfl
theorem ti114 : Try.prog.info? 114 = some Try.t114 := by kernel_rfl
theorem ti115 : Try.prog.info? 115 = some Try.t115 := by kernel_rfl
theorem ti116 : Try.prog.info? 116 = some Try.t116 := by kernel_rfl
theorem ti117 : Try.prog.info? 117 = some Try.t117 := by kernel_rfl
theorem ti118 : Try.prog.info? 118 = some Try.t118 := by kernel_rfl
theorem ti119 : Try.prog.info? 119 = some Try.t119 := by kernel_rfl
theorem ti120 : Try.prog.info? 120 = some Try.t120 := by kernel_rfl
theorem ti121 : Try.prog.info? 121 = some Try.t121 := by kernel_rfl
theorem ti122 : Try.prog.info? 122 = some Try.t122 := by kernel_rfl
theorem ti123 : Try.prog.info? 123 = some Try.t123 := by kernel_rfl
theorem ti124 : Try.prog.info? 124 = some Try.t124 := by kernel_rfl
theorem ti125 : Try.prog.info? 125 = some Try.t125 := by kernel_rfl
theorem ti126 : Try.prog.info? 126 = some Try.t126 := by kernel_rfl
theorem ti127 : Try.prog.info? 127 = some Try.t127 := by kernel_rfl
theorem ti128 : Try.prog.info? 128 = some Try.t128 := by kernel_rfl
theorem ti129 : Try.prog.info? 129 = some Try.t129 := by kernel_rfl
theorem ti130 : Try.prog.info? 130 = some Try.t130 := by kernel_rfl
theorem ti131 : Try.prog.info? 131 = some Try.t131 := by kernel_rfl
theorem ti132 : Try.prog.info? 132 = some Try.t132 := by kernel_rfl
theorem ti133 : Try.prog.info? 133 = some Try.t133 := by kernel_rfl
theorem ti134 : Try.prog.info? 134 = some Try.t134 := by kernel_rfl
theorem ti135 : Try.prog.info? 135 = some Try.t135 := by kernel_rfl
theorem ti136 : Try.prog.info? 136 = some Try.t136 := by kernel_rfl
theorem ti137 : Try.prog.info? 137 = some Try.t137 := by kernel_rfl
theorem ti138 : Try.prog.info? 138 = some Try.t138 := by kernel_rfl
theorem ti139 : Try.prog.info? 139 = some Try.t139 := by kernel_rfl
theorem ti140 : Try.prog.info? 140 = some Try.t140 := by kernel_rfl
theorem ti141 : Try.prog.info? 141 = some Try.t141 := by kernel_rfl
theorem ti142 : Try.prog.info? 142 = some Try.t142 := by kernel_rfl
theorem ti143 : Try.prog.info? 143 = some Try.t143 := by kernel_rfl
theorem ti144 : Try.prog.info? 144 = some Try.t144 := by kernel_rfl
theorem ti145 : Try.prog.info? 145 = some Try.t145 := by kernel_rfl
theorem ti146 : Try.prog.info? 146 = some Try.t146 := by kernel_rfl
theorem ti147 : Try.prog.info? 147 = some Try.t147 := by kernel_rfl
theorem ti148 : Try.prog.info? 148 = some Try.t148 := by kernel_rfl
theorem ti149 : Try.prog.info? 149 = some Try.t149 := by kernel_rfl
theorem ti150 : Try.prog.info? 150 = some Try.t150 := by kernel_rfl
theorem ti151 : Try.prog.info? 151 = some Try.t151 := by kernel_rfl
theorem ti152 : Try.prog.info? 152 = some Try.t152 := by kernel_rfl
theorem ti153 : Try.prog.info? 153 = some Try.t153 := by kernel_rfl
theorem ti154 : Try.prog.info? 154 = some Try.t154 := by kernel_rfl
theorem ti155 : Try.prog.info? 155 = some Try.t155 := by kernel_rfl
theorem ti156 : Try.prog.info? 156 = some Try.t156 := by kernel_rfl
theorem ti157 : Try.prog.info? 157 = some Try.t157 := by kernel_rfl
theorem ti158 : Try.prog.info? 158 = some Try.t158 := by kernel_rfl
theorem ti159 : Try.prog.info? 159 = some Try.t159 := by kernel_rfl
theorem ti160 : Try.prog.info? 160 = some Try.t160 := by kernel_rfl
theorem ti161 : Try.prog.info? 161 = some Try.t161 := by kernel_rfl
theorem ti162 : Try.prog.info? 162 = some Try.t162 := by kernel_rfl
theorem ti163 : Try.prog.info? 163 = some Try.t163 := by kernel_rfl
theorem ti164 : Try.prog.info? 164 = some Try.t164 := by kernel_rfl
theorem ti165 : Try.prog.info? 165 = some Try.t165 := by kernel_rfl
theorem ti166 : Try.prog.info? 166 = some Try.t166 := by kernel_rfl
theorem ti167 : Try.prog.info? 167 = some Try.t167 := by kernel_rfl
theorem ti168 : Try.prog.info? 168 = some Try.t168 := by kernel_rfl
theorem ti169 : Try.prog.info? 169 = some Try.t169 := by kernel_rfl
theorem ti170 : Try.prog.info? 170 = some Try.t170 := by kernel_rfl
end Go.Proofs.Ytimafngkifakfaa

/- The library's contracts at this translation, printed by the kit's tools; remarks taken out. -/
namespace Go.Proofs
open Go.Shelf
def Try.lays170_ren : Go.Shelf.Ren := ⟨fun | 170 => 74 | n => n, fun | 70 => 86 | 3 => 3 | 0 => 0 | 72 => 88 | 37 => 44 | 5 => 5 | n => n, fun | n => n⟩
theorem Try.lays170 : Go.Proofs.Lays.n170 Try.prog Try.lays170_ren := {
  mixed := by kernel_rfl
  f170 := Try.func74.trans (congrArg some (by kernel_rfl))
  t0 := Try.underlying0
  a0 := Try.isAgg0
  z0 := Try.sizeOf0
  v0 := Try.zeroValue0
  t3 := Try.underlying3
  a3 := Try.isAgg3
  z3 := Try.sizeOf3
  v3 := Try.zeroValue3
  t37 := Try.underlying44
  a37 := Try.isAgg44
  z37 := Try.sizeOf44
  v37 := Try.zeroValue44
  t70 := Try.underlying86
  a70 := Try.isAgg86
  z70 := Try.sizeOf86
  v70 := Try.zeroValue86
  t72 := Try.underlying88
  a72 := Try.isAgg88
  z72 := Try.sizeOf88
  v72 := Try.zeroValue88 }
open Go.RowKit in

theorem Try.Builder_Len (B b : Nat) (bs : List Value) (w : World) (h : Lib.IsBuilder 88 5 B b bs w) :
    Calls Try.prog 74 #[.pointer (some ⟨b, 0, none⟩)] w fun e w' => e = .returned (.int .i64 bs.length) ∧ w' = w := Any.Builder_Len Try.lays170 B b bs w h
def Try.lays169_ren : Go.Shelf.Ren := ⟨fun | 169 => 42 | n => n, fun | 70 => 86 | 9 => 9 | 0 => 0 | 72 => 88 | 37 => 44 | 127 => 117 | 3 => 3 | 5 => 5 | n => n, fun | n => n⟩
theorem Try.lays169 : Go.Proofs.Lays.n169 Try.prog Try.lays169_ren := {
  mixed := by kernel_rfl
  f169 := Try.func42.trans (congrArg some (by kernel_rfl))
  t0 := Try.underlying0
  a0 := Try.isAgg0
  z0 := Try.sizeOf0
  v0 := Try.zeroValue0
  t3 := Try.underlying3
  a3 := Try.isAgg3
  z3 := Try.sizeOf3
  v3 := Try.zeroValue3
  t9 := Try.underlying9
  a9 := Try.isAgg9
  z9 := Try.sizeOf9
  v9 := Try.zeroValue9
  t37 := Try.underlying44
  a37 := Try.isAgg44
  z37 := Try.sizeOf44
  v37 := Try.zeroValue44
  t70 := Try.underlying86
  a70 := Try.isAgg86
  z70 := Try.sizeOf86
  v70 := Try.zeroValue86
  t72 := Try.underlying88
  a72 := Try.isAgg88
  z72 := Try.sizeOf88
  v72 := Try.zeroValue88
  t127 := Try.underlying117
  a127 := Try.isAgg117
  z127 := Try.sizeOf117
  v127 := Try.zeroValue117 }
theorem Try.Builder_Extra_169 : Builder.Extra Try.prog Try.lays169_ren := {
  sizeBuilder := by kernel_rfl
  liesBuilder := by kernel_rfl
  t5 := Try.underlying5
  a5 := Try.isAgg5
  z5 := Try.sizeOf5
  v5 := Try.zeroValue5
  infoByte := by kernel_rfl
  cellsByte := by kernel_rfl
  sizeByte := by kernel_rfl
  neB5 := by decide }
open Go.RowKit in

theorem Try.Builder_String (B b : Nat) (l : List UInt8) (w : World) (h : Lib.IsBuilder 88 5 B b (Lib.byteCells l) w) (h0 : l ≠ []) :
    Calls Try.prog 42 #[.pointer (some ⟨b, 0, none⟩)] w fun e w' => e = .returned (.string ⟨l.toArray⟩) ∧ Below B w w' := Any.Builder_String Try.lays169 Try.Builder_Extra_169 B b l w h h0
open Go.RowKit in

theorem Try.Builder_String_empty (B b : Nat) (w : World) (h : Lib.IsBuilder 88 5 B b [] w) (hBw : B ≤ w.heap.size) :
    Calls Try.prog 42 #[.pointer (some ⟨b, 0, none⟩)] w fun e w' => e = .returned (.string ⟨#[]⟩) ∧ Below B w w' := Any.Builder_String_empty Try.lays169 Try.Builder_Extra_169 B b w h hBw
open Go.RowKit in

theorem Try.Builder_String_any (B b : Nat) (l : List UInt8) (w : World) (h : Lib.IsBuilder 88 5 B b (Lib.byteCells l) w) (hBw : B ≤ w.heap.size) :
    Calls Try.prog 42 #[.pointer (some ⟨b, 0, none⟩)] w fun e w' => e = .returned (.string ⟨l.toArray⟩) ∧ Below B w w' := Any.Builder_String_any Try.lays169 Try.Builder_Extra_169 B b l w h hBw
def Try.lays241_ren : Go.Shelf.Ren := ⟨fun | 241 => 85 | 277 => 99 | n => n, fun | 70 => 86 | 3 => 3 | 0 => 0 | 72 => 88 | 37 => 44 | 5 => 5 | n => n, fun | n => n⟩
theorem Try.lays241 : Go.Proofs.Lays.n241 Try.prog Try.lays241_ren := {
  mixed := by kernel_rfl
  f241 := Try.func85.trans (congrArg some (by kernel_rfl))
  f277 := Try.func99.trans (congrArg some (by kernel_rfl))
  t0 := Try.underlying0
  a0 := Try.isAgg0
  z0 := Try.sizeOf0
  v0 := Try.zeroValue0
  t3 := Try.underlying3
  a3 := Try.isAgg3
  z3 := Try.sizeOf3
  v3 := Try.zeroValue3
  t37 := Try.underlying44
  a37 := Try.isAgg44
  z37 := Try.sizeOf44
  v37 := Try.zeroValue44
  t70 := Try.underlying86
  a70 := Try.isAgg86
  z70 := Try.sizeOf86
  v70 := Try.zeroValue86
  t72 := Try.underlying88
  a72 := Try.isAgg88
  z72 := Try.sizeOf88
  v72 := Try.zeroValue88 }
theorem Try.Builder_Extra_241 : Builder.Extra Try.prog Try.lays241_ren := {
  sizeBuilder := by kernel_rfl
  liesBuilder := by kernel_rfl
  t5 := Try.underlying5
  a5 := Try.isAgg5
  z5 := Try.sizeOf5
  v5 := Try.zeroValue5
  infoByte := by kernel_rfl
  cellsByte := by kernel_rfl
  sizeByte := by kernel_rfl
  neB5 := by decide }
open Go.RowKit in

theorem Try.Builder_grow_fresh (B b n : Nat) (w : World) (hB : B ≤ b) (hbk : w.heap[b]? = some (.cells #[.pointer (some ⟨b, 0, none⟩), .slice none 0 0] 88 (0, 0))) (hBw : B ≤ w.heap.size) (hn : n ≤ 281474976710656) :
    Calls Try.prog 85 #[.pointer (some ⟨b, 0, none⟩), .int .i64 n] w fun e w' => e = .returned (.tuple #[]) ∧ (Lib.BuilderAt 88 5 B b (.pointer (some ⟨b, 0, none⟩)) [] w' ∧ Below B w w') := Any.Builder_grow_fresh Try.lays241 Try.Builder_Extra_241 B b n w hB hbk hBw hn
def Try.lays165_ren : Go.Shelf.Ren := ⟨fun | 165 => 73 | 240 => 61 | 241 => 85 | 276 => 78 | 277 => 99 | n => n, fun | 70 => 86 | 3 => 3 | 0 => 0 | 4 => 4 | 9 => 9 | 20 => 20 | 72 => 88 | 37 => 44 | 164 => 133 | 5 => 5 | n => n, fun | n => n⟩
theorem Try.lays165 : Go.Proofs.Lays.n165 Try.prog Try.lays165_ren := {
  mixed := by kernel_rfl
  f165 := Try.func73.trans (congrArg some (by kernel_rfl))
  f240 := Try.func61.trans (congrArg some (by kernel_rfl))
  f241 := Try.func85.trans (congrArg some (by kernel_rfl))
  f276 := Try.func78.trans (congrArg some (by kernel_rfl))
  f277 := Try.func99.trans (congrArg some (by kernel_rfl))
  t0 := Try.underlying0
  a0 := Try.isAgg0
  z0 := Try.sizeOf0
  v0 := Try.zeroValue0
  t3 := Try.underlying3
  a3 := Try.isAgg3
  z3 := Try.sizeOf3
  v3 := Try.zeroValue3
  t4 := Try.underlying4
  a4 := Try.isAgg4
  z4 := Try.sizeOf4
  v4 := Try.zeroValue4
  t9 := Try.underlying9
  a9 := Try.isAgg9
  z9 := Try.sizeOf9
  v9 := Try.zeroValue9
  t20 := Try.underlying20
  a20 := Try.isAgg20
  z20 := Try.sizeOf20
  v20 := Try.zeroValue20
  t37 := Try.underlying44
  a37 := Try.isAgg44
  z37 := Try.sizeOf44
  v37 := Try.zeroValue44
  t70 := Try.underlying86
  a70 := Try.isAgg86
  z70 := Try.sizeOf86
  v70 := Try.zeroValue86
  t72 := Try.underlying88
  a72 := Try.isAgg88
  z72 := Try.sizeOf88
  v72 := Try.zeroValue88
  t164 := Try.underlying133
  a164 := Try.isAgg133
  z164 := Try.sizeOf133
  v164 := Try.zeroValue133 }
theorem Try.Builder_Extra_165 : Builder.Extra Try.prog Try.lays165_ren := {
  sizeBuilder := by kernel_rfl
  liesBuilder := by kernel_rfl
  t5 := Try.underlying5
  a5 := Try.isAgg5
  z5 := Try.sizeOf5
  v5 := Try.zeroValue5
  infoByte := by kernel_rfl
  cellsByte := by kernel_rfl
  sizeByte := by kernel_rfl
  neB5 := by decide }
open Go.RowKit in

theorem Try.Builder_Grow_fresh (B b n : Nat) (w : World) (hB : B ≤ b) (hbk : w.heap[b]? = some (.cells #[.pointer none, .slice none 0 0] 88 (0, 0))) (hBw : B ≤ w.heap.size) (hn : n ≤ 281474976710656) :
    Calls Try.prog 73 #[.pointer (some ⟨b, 0, none⟩), .int .i64 n] w fun e w' => e = .returned (.tuple #[]) ∧ (Lib.BuilderAt 88 5 B b (.pointer (some ⟨b, 0, none⟩)) [] w' ∧ Below B w w') := Any.Builder_Grow_fresh Try.lays165 Try.Builder_Extra_165 B b n w hB hbk hBw hn
def Try.lays128_ren : Go.Shelf.Ren := ⟨fun | 128 => 97 | n => n, fun | 51 => 124 | 3 => 3 | 4 => 4 | 46 => 106 | 5 => 5 | 9 => 9 | n => n, fun | n => n⟩
theorem Try.lays128 : Go.Proofs.Lays.n128 Try.prog Try.lays128_ren := {
  mixed := by kernel_rfl
  f128 := Try.func97.trans (congrArg some (by kernel_rfl))
  t3 := Try.underlying3
  a3 := Try.isAgg3
  z3 := Try.sizeOf3
  v3 := Try.zeroValue3
  t4 := Try.underlying4
  a4 := Try.isAgg4
  z4 := Try.sizeOf4
  v4 := Try.zeroValue4
  t5 := Try.underlying5
  a5 := Try.isAgg5
  z5 := Try.sizeOf5
  v5 := Try.zeroValue5
  t9 := Try.underlying9
  a9 := Try.isAgg9
  z9 := Try.sizeOf9
  v9 := Try.zeroValue9
  t46 := Try.underlying106
  a46 := Try.isAgg106
  z46 := Try.sizeOf106
  v46 := Try.zeroValue106
  t51 := Try.underlying124
  a51 := Try.isAgg124
  z51 := Try.sizeOf124
  v51 := Try.zeroValue124 }

theorem Try.bits_Len32 (x : Int) (w : World) (h0 : 0 ≤ x) (h1 : x ≤ 4294967295) :
    Calls Try.prog 97 #[.int .u32 x] w fun e w' => e = .returned (.int .i64 (Lib.bitLen x.toNat)) ∧ w' = w := Any.bits_Len32 Try.lays128 x w h0 h1
def Try.lays125_ren : Go.Shelf.Ren := ⟨fun | 125 => 84 | 128 => 97 | 129 => 98 | n => n, fun | 46 => 106 | 3 => 3 | 51 => 124 | 53 => 127 | 4 => 4 | 5 => 5 | 9 => 9 | n => n, fun | n => n⟩
theorem Try.lays125 : Go.Proofs.Lays.n125 Try.prog Try.lays125_ren := {
  mixed := by kernel_rfl
  f125 := Try.func84.trans (congrArg some (by kernel_rfl))
  f128 := Try.func97.trans (congrArg some (by kernel_rfl))
  f129 := Try.func98.trans (congrArg some (by kernel_rfl))
  t3 := Try.underlying3
  a3 := Try.isAgg3
  z3 := Try.sizeOf3
  v3 := Try.zeroValue3
  t4 := Try.underlying4
  a4 := Try.isAgg4
  z4 := Try.sizeOf4
  v4 := Try.zeroValue4
  t5 := Try.underlying5
  a5 := Try.isAgg5
  z5 := Try.sizeOf5
  v5 := Try.zeroValue5
  t9 := Try.underlying9
  a9 := Try.isAgg9
  z9 := Try.sizeOf9
  v9 := Try.zeroValue9
  t46 := Try.underlying106
  a46 := Try.isAgg106
  z46 := Try.sizeOf106
  v46 := Try.zeroValue106
  t51 := Try.underlying124
  a51 := Try.isAgg124
  z51 := Try.sizeOf124
  v51 := Try.zeroValue124
  t53 := Try.underlying127
  a53 := Try.isAgg127
  z53 := Try.sizeOf127
  v53 := Try.zeroValue127 }

theorem Try.bits_Len (x : Int) (w : World) (h0 : 0 ≤ x) (h1 : x ≤ 18446744073709551615) :
    Calls Try.prog 84 #[.int .u64 x] w fun e w' => e = .returned (.int .i64 (Lib.bitLen x.toNat)) ∧ w' = w := Any.bits_Len Try.lays125 x w h0 h1
def Try.lays137_ren : Go.Shelf.Ren := ⟨fun | 137 => 79 | 217 => 87 | 266 => 100 | n => n, fun | 9 => 9 | 5 => 5 | 3 => 3 | n => n, fun | n => n⟩
theorem Try.lays137 : Go.Proofs.Lays.n137 Try.prog Try.lays137_ren := {
  mixed := by kernel_rfl
  f137 := Try.func79.trans (congrArg some (by kernel_rfl))
  f217 := Try.func87.trans (congrArg some (by kernel_rfl))
  f266 := Try.func100.trans (congrArg some (by kernel_rfl))
  t3 := Try.underlying3
  a3 := Try.isAgg3
  z3 := Try.sizeOf3
  v3 := Try.zeroValue3
  t5 := Try.underlying5
  a5 := Try.isAgg5
  z5 := Try.sizeOf5
  v5 := Try.zeroValue5
  t9 := Try.underlying9
  a9 := Try.isAgg9
  z9 := Try.sizeOf9
  v9 := Try.zeroValue9 }
open Go.RowKit in

theorem Try.strings_IndexByte (s : ByteArray) (c : Int) (w : World) :
    Calls Try.prog 79 #[.string s, .int .u8 c] w fun e w' => e = .returned (.int .i64 (Lib.indexByte s.data.toList c.toNat.toUInt8)) ∧ w' = w := Any.strings_IndexByte Try.lays137 s c w
def Try.lays210_ren : Go.Shelf.Ren := ⟨fun | 210 => 81 | 206 => 70 | n => n, fun | 9 => 9 | 4 => 4 | 3 => 3 | n => n, fun | n => n⟩
theorem Try.lays210 : Go.Proofs.Lays.n210 Try.prog Try.lays210_ren := {
  mixed := by kernel_rfl
  f206 := Try.func70.trans (congrArg some (by kernel_rfl))
  f210 := Try.func81.trans (congrArg some (by kernel_rfl))
  t3 := Try.underlying3
  a3 := Try.isAgg3
  z3 := Try.sizeOf3
  v3 := Try.zeroValue3
  t4 := Try.underlying4
  a4 := Try.isAgg4
  z4 := Try.sizeOf4
  v4 := Try.zeroValue4
  t9 := Try.underlying9
  a9 := Try.isAgg9
  z9 := Try.sizeOf9
  v9 := Try.zeroValue9 }
open Go.RowKit in

theorem Try.stringslite_CutPrefix (s p : ByteArray) (w : World) :
    Calls Try.prog 81 #[.string s, .string p] w fun e w' => e = .returned (.tuple #[.string ⟨(Lib.trimPrefix s.data.toList p.data.toList).toArray⟩, .bool (Lib.hasPrefix s.data.toList p.data.toList)]) ∧ w' = w := Any.stringslite_CutPrefix Try.lays210 s p w
def Try.lays103_ren : Go.Shelf.Ren := ⟨fun | 103 => 64 | 210 => 81 | 206 => 70 | n => n, fun | 9 => 9 | 4 => 4 | 24 => 30 | 3 => 3 | n => n, fun | n => n⟩
theorem Try.lays103 : Go.Proofs.Lays.n103 Try.prog Try.lays103_ren := {
  mixed := by kernel_rfl
  f103 := Try.func64.trans (congrArg some (by kernel_rfl))
  f206 := Try.func70.trans (congrArg some (by kernel_rfl))
  f210 := Try.func81.trans (congrArg some (by kernel_rfl))
  t3 := Try.underlying3
  a3 := Try.isAgg3
  z3 := Try.sizeOf3
  v3 := Try.zeroValue3
  t4 := Try.underlying4
  a4 := Try.isAgg4
  z4 := Try.sizeOf4
  v4 := Try.zeroValue4
  t9 := Try.underlying9
  a9 := Try.isAgg9
  z9 := Try.sizeOf9
  v9 := Try.zeroValue9
  t24 := Try.underlying30
  a24 := Try.isAgg30
  z24 := Try.sizeOf30
  v24 := Try.zeroValue30 }
open Go.RowKit in

theorem Try.strings_CutPrefix (s p : ByteArray) (w : World) :
    Calls Try.prog 64 #[.string s, .string p] w fun e w' => e = .returned (.tuple #[.string ⟨(Lib.trimPrefix s.data.toList p.data.toList).toArray⟩, .bool (Lib.hasPrefix s.data.toList p.data.toList)]) ∧ w' = w := Any.strings_CutPrefix Try.lays103 s p w
open Go.RowKit in

theorem Try.Builder_Len_f (B b : Nat) (bs : List Value) (w : World) (h : Lib.IsBuilderF 88 5 B b bs w) :
    Calls Try.prog 74 #[.pointer (some ⟨b, 0, none⟩)] w fun e w' => e = .returned (.int .i64 bs.length) ∧ w' = w := Any.Builder_Len_f Try.lays170 B b bs w h
open Go.RowKit in

theorem Try.Builder_String_f (B b : Nat) (l : List UInt8) (w : World) (h : Lib.IsBuilderF 88 5 B b (Lib.byteCells l) w) (h0 : l ≠ []) :
    Calls Try.prog 42 #[.pointer (some ⟨b, 0, none⟩)] w fun e w' => e = .returned (.string ⟨l.toArray⟩) ∧ (Lib.IsBuilderF 88 5 B b (Lib.byteCells l) w' ∧ Below B w w') := Any.Builder_String_f Try.lays169 Try.Builder_Extra_169 B b l w h h0
open Go.RowKit in

theorem Try.Builder_String_empty_f (B b : Nat) (w : World) (h : Lib.IsBuilderF 88 5 B b [] w) (hBw : B ≤ w.heap.size) :
    Calls Try.prog 42 #[.pointer (some ⟨b, 0, none⟩)] w fun e w' => e = .returned (.string ⟨#[]⟩) ∧ (Lib.IsBuilderF 88 5 B b [] w' ∧ Below B w w') := Any.Builder_String_empty_f Try.lays169 Try.Builder_Extra_169 B b w h hBw
open Go.RowKit in

theorem Try.Builder_String_any_f (B b : Nat) (l : List UInt8) (w : World) (h : Lib.IsBuilderF 88 5 B b (Lib.byteCells l) w) (hBw : B ≤ w.heap.size) :
    Calls Try.prog 42 #[.pointer (some ⟨b, 0, none⟩)] w fun e w' => e = .returned (.string ⟨l.toArray⟩) ∧ (Lib.IsBuilderF 88 5 B b (Lib.byteCells l) w' ∧ Below B w w') := Any.Builder_String_any_f Try.lays169 Try.Builder_Extra_169 B b l w h hBw
def Try.lays129_ren : Go.Shelf.Ren := ⟨fun | 129 => 98 | n => n, fun | 53 => 127 | 3 => 3 | 4 => 4 | 46 => 106 | 5 => 5 | 9 => 9 | n => n, fun | n => n⟩
theorem Try.lays129 : Go.Proofs.Lays.n129 Try.prog Try.lays129_ren := {
  mixed := by kernel_rfl
  f129 := Try.func98.trans (congrArg some (by kernel_rfl))
  t3 := Try.underlying3
  a3 := Try.isAgg3
  z3 := Try.sizeOf3
  v3 := Try.zeroValue3
  t4 := Try.underlying4
  a4 := Try.isAgg4
  z4 := Try.sizeOf4
  v4 := Try.zeroValue4
  t5 := Try.underlying5
  a5 := Try.isAgg5
  z5 := Try.sizeOf5
  v5 := Try.zeroValue5
  t9 := Try.underlying9
  a9 := Try.isAgg9
  z9 := Try.sizeOf9
  v9 := Try.zeroValue9
  t46 := Try.underlying106
  a46 := Try.isAgg106
  z46 := Try.sizeOf106
  v46 := Try.zeroValue106
  t53 := Try.underlying127
  a53 := Try.isAgg127
  z53 := Try.sizeOf127
  v53 := Try.zeroValue127 }

theorem Try.bits_Len64 (x : Int) (w : World) (h0 : 0 ≤ x) (h1 : x ≤ 18446744073709551615) :
    Calls Try.prog 98 #[.int .u64 x] w fun e w' => e = .returned (.int .i64 (Lib.bitLen x.toNat)) ∧ w' = w := Any.bits_Len64 Try.lays129 x w h0 h1
def Try.lays217_ren : Go.Shelf.Ren := ⟨fun | 217 => 87 | 266 => 100 | n => n, fun | 9 => 9 | 5 => 5 | 3 => 3 | n => n, fun | n => n⟩
theorem Try.lays217 : Go.Proofs.Lays.n217 Try.prog Try.lays217_ren := {
  mixed := by kernel_rfl
  f217 := Try.func87.trans (congrArg some (by kernel_rfl))
  f266 := Try.func100.trans (congrArg some (by kernel_rfl))
  t3 := Try.underlying3
  a3 := Try.isAgg3
  z3 := Try.sizeOf3
  v3 := Try.zeroValue3
  t5 := Try.underlying5
  a5 := Try.isAgg5
  z5 := Try.sizeOf5
  v5 := Try.zeroValue5
  t9 := Try.underlying9
  a9 := Try.isAgg9
  z9 := Try.sizeOf9
  v9 := Try.zeroValue9 }
open Go.RowKit Go.Lib in

theorem Try.stringslite_IndexByte (s : ByteArray) (c : Int) (w : World) :
    Calls Try.prog 87 #[.string s, .int .u8 c] w fun e w' => e = .returned (.int .i64 (Lib.indexByte s.data.toList c.toNat.toUInt8)) ∧ w' = w := Any.stringslite_IndexByte Try.lays217 s c w
def Try.lays190_ren : Go.Shelf.Ren := ⟨fun | 190 => 68 | 125 => 84 | 258 => 83 | 128 => 97 | 129 => 98 | 302 => 88 | 303 => 89 | 304 => 90 | 305 => 91 | 306 => 92 | 307 => 93 | 308 => 94 | 309 => 95 | 310 => 96 | 333 => 101 | 329 => 102 | 330 => 103 | 334 => 104 | 335 => 105 | 336 => 106 | 344 => 107 | n => n, fun | 31 => 46 | 9 => 9 | 3 => 3 | 46 => 106 | 0 => 0 | 51 => 124 | 53 => 127 | 4 => 4 | 183 => 143 | 182 => 142 | 131 => 136 | 5 => 5 | 218 => 151 | 222 => 155 | 228 => 157 | 229 => 97 | n => n, fun | n => n⟩
theorem Try.lays190 : Go.Proofs.Lays.n190 Try.prog Try.lays190_ren := {
  mixed := by kernel_rfl
  f125 := Try.func84.trans (congrArg some (by kernel_rfl))
  f128 := Try.func97.trans (congrArg some (by kernel_rfl))
  f129 := Try.func98.trans (congrArg some (by kernel_rfl))
  f190 := Try.func68.trans (congrArg some (by kernel_rfl))
  f258 := Try.func83.trans (congrArg some (by kernel_rfl))
  f302 := Try.func88.trans (congrArg some (by kernel_rfl))
  f303 := Try.func89.trans (congrArg some (by kernel_rfl))
  f304 := Try.func90.trans (congrArg some (by kernel_rfl))
  f305 := Try.func91.trans (congrArg some (by kernel_rfl))
  f306 := Try.func92.trans (congrArg some (by kernel_rfl))
  f307 := Try.func93.trans (congrArg some (by kernel_rfl))
  f308 := Try.func94.trans (congrArg some (by kernel_rfl))
  f309 := Try.func95.trans (congrArg some (by kernel_rfl))
  f310 := Try.func96.trans (congrArg some (by kernel_rfl))
  f329 := Try.func102.trans (congrArg some (by kernel_rfl))
  f330 := Try.func103.trans (congrArg some (by kernel_rfl))
  f333 := Try.func101.trans (congrArg some (by kernel_rfl))
  f334 := Try.func104.trans (congrArg some (by kernel_rfl))
  f335 := Try.func105.trans (congrArg some (by kernel_rfl))
  f336 := Try.func106.trans (congrArg some (by kernel_rfl))
  f344 := Try.func107.trans (congrArg some (by kernel_rfl))
  t0 := Try.underlying0
  a0 := Try.isAgg0
  z0 := Try.sizeOf0
  v0 := Try.zeroValue0
  t3 := Try.underlying3
  a3 := Try.isAgg3
  z3 := Try.sizeOf3
  v3 := Try.zeroValue3
  t4 := Try.underlying4
  a4 := Try.isAgg4
  z4 := Try.sizeOf4
  v4 := Try.zeroValue4
  t5 := Try.underlying5
  a5 := Try.isAgg5
  z5 := Try.sizeOf5
  v5 := Try.zeroValue5
  t9 := Try.underlying9
  a9 := Try.isAgg9
  z9 := Try.sizeOf9
  v9 := Try.zeroValue9
  t31 := Try.underlying46
  a31 := Try.isAgg46
  z31 := Try.sizeOf46
  v31 := Try.zeroValue46
  t46 := Try.underlying106
  a46 := Try.isAgg106
  z46 := Try.sizeOf106
  v46 := Try.zeroValue106
  t51 := Try.underlying124
  a51 := Try.isAgg124
  z51 := Try.sizeOf124
  v51 := Try.zeroValue124
  t53 := Try.underlying127
  a53 := Try.isAgg127
  z53 := Try.sizeOf127
  v53 := Try.zeroValue127
  t131 := Try.underlying136
  a131 := Try.isAgg136
  z131 := Try.sizeOf136
  v131 := Try.zeroValue136
  t182 := Try.underlying142
  a182 := Try.isAgg142
  z182 := Try.sizeOf142
  v182 := Try.zeroValue142
  t183 := Try.underlying143
  a183 := Try.isAgg143
  z183 := Try.sizeOf143
  v183 := Try.zeroValue143
  t218 := Try.underlying151
  a218 := Try.isAgg151
  z218 := Try.sizeOf151
  v218 := Try.zeroValue151
  t222 := Try.underlying155
  a222 := Try.isAgg155
  z222 := Try.sizeOf155
  v222 := Try.zeroValue155
  t228 := Try.underlying157
  a228 := Try.isAgg157
  z228 := Try.sizeOf157
  v228 := Try.zeroValue157
  t229 := Try.underlying97
  a229 := Try.isAgg97
  z229 := Try.sizeOf97
  v229 := Try.zeroValue97 }
open Go.Sort Go.RowKit in
theorem Try.slices_Sort_string (blk off cap : Nat) (ss : List (List UInt8)) (w : World) (hH : Holds encStr w blk off ss.toArray) (hblk : blk < w.heap.size) (hsz : ss.length < 4611686018427387904) :
    Calls Try.prog 68 #[.slice (some ⟨blk, off, none⟩) ss.length cap] w fun e w' =>
      e = .returned (.tuple #[]) ∧ ∃ n os, w' = grow (putRow encStr (Sort.ahead w n) blk off (ss.mergeSort fun x y => decide (x ≤ y)).toArray) os := Any.slices_Sort_string Try.lays190 blk off cap ss w hH hblk hsz
def Try.lays206_ren : Go.Shelf.Ren := ⟨fun | 206 => 70 | n => n, fun | 9 => 9 | 4 => 4 | 3 => 3 | n => n, fun | n => n⟩
theorem Try.lays206 : Go.Proofs.Lays.n206 Try.prog Try.lays206_ren := {
  mixed := by kernel_rfl
  f206 := Try.func70.trans (congrArg some (by kernel_rfl))
  t3 := Try.underlying3
  a3 := Try.isAgg3
  z3 := Try.sizeOf3
  v3 := Try.zeroValue3
  t4 := Try.underlying4
  a4 := Try.isAgg4
  z4 := Try.sizeOf4
  v4 := Try.zeroValue4
  t9 := Try.underlying9
  a9 := Try.isAgg9
  z9 := Try.sizeOf9
  v9 := Try.zeroValue9 }
open Go.RowKit Go.Lib in

theorem Try.stringslite_HasPrefix (s p : ByteArray) (w : World) :
    Calls Try.prog 70 #[.string s, .string p] w fun e w' => e = .returned (.bool (Lib.hasPrefix s.data.toList p.data.toList)) ∧ w' = w := Any.stringslite_HasPrefix Try.lays206 s p w
def Try.lays99_ren : Go.Shelf.Ren := ⟨fun | 99 => 52 | 206 => 70 | n => n, fun | 9 => 9 | 4 => 4 | 3 => 3 | n => n, fun | n => n⟩
theorem Try.lays99 : Go.Proofs.Lays.n99 Try.prog Try.lays99_ren := {
  mixed := by kernel_rfl
  f99 := Try.func52.trans (congrArg some (by kernel_rfl))
  f206 := Try.func70.trans (congrArg some (by kernel_rfl))
  t3 := Try.underlying3
  a3 := Try.isAgg3
  z3 := Try.sizeOf3
  v3 := Try.zeroValue3
  t4 := Try.underlying4
  a4 := Try.isAgg4
  z4 := Try.sizeOf4
  v4 := Try.zeroValue4
  t9 := Try.underlying9
  a9 := Try.isAgg9
  z9 := Try.sizeOf9
  v9 := Try.zeroValue9 }
open Go.RowKit Go.Lib in

theorem Try.strings_HasPrefix (s p : ByteArray) (w : World) :
    Calls Try.prog 52 #[.string s, .string p] w fun e w' => e = .returned (.bool (Lib.hasPrefix s.data.toList p.data.toList)) ∧ w' = w := Any.strings_HasPrefix Try.lays99 s p w
def Try.lays264_ren : Go.Shelf.Ren := ⟨fun | 264 => 72 | n => n, fun | 53 => 127 | 46 => 106 | n => n, fun | n => n⟩
theorem Try.lays264 : Go.Proofs.Lays.n264 Try.prog Try.lays264_ren := {
  mixed := by kernel_rfl
  f264 := Try.func72.trans (congrArg some (by kernel_rfl))
  t46 := Try.underlying106
  a46 := Try.isAgg106
  z46 := Try.sizeOf106
  v46 := Try.zeroValue106
  t53 := Try.underlying127
  a53 := Try.isAgg127
  z53 := Try.sizeOf127
  v53 := Try.zeroValue127 }
open Go.RowKit Go.Lib in
theorem Try.bits_Mul64 (x y : Nat) (hx : x < 18446744073709551616) (hy : y < 18446744073709551616) (w : World) :
    Calls Try.prog 72 #[.int .u64 x, .int .u64 y] w fun e w' => e = .returned (.tuple #[.int .u64 ((x * y / 18446744073709551616 : Nat) : Int), .int .u64 ((x * y % 18446744073709551616 : Nat) : Int)]) ∧ w' = w := Any.bits_Mul64 Try.lays264 x y hx hy w
def Try.lays212_ren : Go.Shelf.Ren := ⟨fun | 212 => 54 | 263 => 71 | 264 => 72 | n => n, fun | 46 => 106 | 51 => 124 | 146 => 125 | 53 => 127 | 148 => 128 | n => n, fun | n => n⟩
theorem Try.lays212 : Go.Proofs.Lays.n212 Try.prog Try.lays212_ren := {
  mixed := by kernel_rfl
  f212 := Try.func54.trans (congrArg some (by kernel_rfl))
  f263 := Try.func71.trans (congrArg some (by kernel_rfl))
  f264 := Try.func72.trans (congrArg some (by kernel_rfl))
  t46 := Try.underlying106
  a46 := Try.isAgg106
  z46 := Try.sizeOf106
  v46 := Try.zeroValue106
  t51 := Try.underlying124
  a51 := Try.isAgg124
  z51 := Try.sizeOf124
  v51 := Try.zeroValue124
  t53 := Try.underlying127
  a53 := Try.isAgg127
  z53 := Try.sizeOf127
  v53 := Try.zeroValue127
  t146 := Try.underlying125
  a146 := Try.isAgg125
  z146 := Try.sizeOf125
  v146 := Try.zeroValue125
  t148 := Try.underlying128
  a148 := Try.isAgg128
  z148 := Try.sizeOf128
  v148 := Try.zeroValue128 }
open Go.RowKit Go.Lib in

theorem Try.bits_Mul (x y : Nat) (hx : x < 18446744073709551616) (hy : y < 18446744073709551616) (w : World) :
    Calls Try.prog 54 #[.int .u64 x, .int .u64 y] w fun e w' => e = .returned (.tuple #[.int .u64 ((x * y / 18446744073709551616 : Nat) : Int), .int .u64 ((x * y % 18446744073709551616 : Nat) : Int)]) ∧ w' = w := Any.bits_Mul Try.lays212 x y hx hy w
def Try.lays105_ren : Go.Shelf.Ren := ⟨fun | 105 => 55 | 212 => 54 | 99 => 52 | 165 => 73 | 166 => 40 | 170 => 74 | 169 => 42 | 263 => 71 | 264 => 72 | 206 => 70 | 240 => 61 | 241 => 85 | 276 => 78 | 277 => 99 | n => n, fun | 9 => 9 | 3 => 3 | 4 => 4 | 20 => 20 | 0 => 0 | 46 => 106 | 109 => 107 | 5 => 5 | 72 => 88 | 76 => 91 | 51 => 124 | 146 => 125 | 53 => 127 | 148 => 128 | 70 => 86 | 37 => 44 | 75 => 90 | 127 => 117 | 164 => 133 | 80 => 94 | n => n, fun | n => n⟩
theorem Try.lays105 : Go.Proofs.Lays.n105 Try.prog Try.lays105_ren := {
  mixed := by kernel_rfl
  f99 := Try.func52.trans (congrArg some (by kernel_rfl))
  f105 := Try.func55.trans (congrArg some (by kernel_rfl))
  f165 := Try.func73.trans (congrArg some (by kernel_rfl))
  f166 := Try.func40.trans (congrArg some (by kernel_rfl))
  f169 := Try.func42.trans (congrArg some (by kernel_rfl))
  f170 := Try.func74.trans (congrArg some (by kernel_rfl))
  f206 := Try.func70.trans (congrArg some (by kernel_rfl))
  f212 := Try.func54.trans (congrArg some (by kernel_rfl))
  f240 := Try.func61.trans (congrArg some (by kernel_rfl))
  f241 := Try.func85.trans (congrArg some (by kernel_rfl))
  f263 := Try.func71.trans (congrArg some (by kernel_rfl))
  f264 := Try.func72.trans (congrArg some (by kernel_rfl))
  f276 := Try.func78.trans (congrArg some (by kernel_rfl))
  f277 := Try.func99.trans (congrArg some (by kernel_rfl))
  t0 := Try.underlying0
  a0 := Try.isAgg0
  z0 := Try.sizeOf0
  v0 := Try.zeroValue0
  t3 := Try.underlying3
  a3 := Try.isAgg3
  z3 := Try.sizeOf3
  v3 := Try.zeroValue3
  t4 := Try.underlying4
  a4 := Try.isAgg4
  z4 := Try.sizeOf4
  v4 := Try.zeroValue4
  t5 := Try.underlying5
  a5 := Try.isAgg5
  z5 := Try.sizeOf5
  v5 := Try.zeroValue5
  t9 := Try.underlying9
  a9 := Try.isAgg9
  z9 := Try.sizeOf9
  v9 := Try.zeroValue9
  t20 := Try.underlying20
  a20 := Try.isAgg20
  z20 := Try.sizeOf20
  v20 := Try.zeroValue20
  t37 := Try.underlying44
  a37 := Try.isAgg44
  z37 := Try.sizeOf44
  v37 := Try.zeroValue44
  t46 := Try.underlying106
  a46 := Try.isAgg106
  z46 := Try.sizeOf106
  v46 := Try.zeroValue106
  t51 := Try.underlying124
  a51 := Try.isAgg124
  z51 := Try.sizeOf124
  v51 := Try.zeroValue124
  t53 := Try.underlying127
  a53 := Try.isAgg127
  z53 := Try.sizeOf127
  v53 := Try.zeroValue127
  t70 := Try.underlying86
  a70 := Try.isAgg86
  z70 := Try.sizeOf86
  v70 := Try.zeroValue86
  t72 := Try.underlying88
  a72 := Try.isAgg88
  z72 := Try.sizeOf88
  v72 := Try.zeroValue88
  t75 := Try.underlying90
  a75 := Try.isAgg90
  z75 := Try.sizeOf90
  v75 := Try.zeroValue90
  t76 := Try.underlying91
  a76 := Try.isAgg91
  z76 := Try.sizeOf91
  v76 := Try.zeroValue91
  t109 := Try.underlying107
  a109 := Try.isAgg107
  z109 := Try.sizeOf107
  v109 := Try.zeroValue107
  t127 := Try.underlying117
  a127 := Try.isAgg117
  z127 := Try.sizeOf117
  v127 := Try.zeroValue117
  t146 := Try.underlying125
  a146 := Try.isAgg125
  z146 := Try.sizeOf125
  v146 := Try.zeroValue125
  t148 := Try.underlying128
  a148 := Try.isAgg128
  z148 := Try.sizeOf128
  v148 := Try.zeroValue128
  t164 := Try.underlying133
  a164 := Try.isAgg133
  z164 := Try.sizeOf133
  v164 := Try.zeroValue133 }
theorem Try.Builder_Extra_105 : Builder.Extra Try.prog Try.lays105_ren := {
  sizeBuilder := by kernel_rfl
  liesBuilder := by kernel_rfl
  t5 := Try.underlying5
  a5 := Try.isAgg5
  z5 := Try.sizeOf5
  v5 := Try.zeroValue5
  infoByte := by kernel_rfl
  cellsByte := by kernel_rfl
  sizeByte := by kernel_rfl
  neB5 := by decide }
open Go.RowKit Go.Lib in

theorem Try.strings_Repeat_main (s : ByteArray) (c : Nat) (w : World) (hc2 : 2 ≤ c) (hc : c ≤ 9223372036854775807) (hlen : s.size * c ≤ 140737488355328) (h0 : 0 < s.size) :
    Calls Try.prog 55 #[.string s, .int .i64 c] w fun e w' => e = .returned (.string ⟨(Lib.repeatL s.data.toList c).toArray⟩) ∧ Below w.heap.size w w' := Any.strings_Repeat_main Try.lays105 Try.Builder_Extra_105 s c w hc2 hc hlen h0
open Go.RowKit Go.Lib in
theorem Try.strings_Repeat_zero (s : ByteArray) (w : World) :
    Calls Try.prog 55 #[.string s, .int .i64 0] w fun e w' => e = .returned (.string ⟨#[]⟩) ∧ w' = w := Any.strings_Repeat_zero Try.lays105 s w
open Go.RowKit Go.Lib in
theorem Try.strings_Repeat_one (s : ByteArray) (w : World) :
    Calls Try.prog 55 #[.string s, .int .i64 1] w fun e w' => e = .returned (.string s) ∧ w' = w := Any.strings_Repeat_one Try.lays105 s w
open Go.RowKit Go.Lib in

theorem Try.strings_Repeat_empty (s : ByteArray) (c : Nat) (w : World) (hc2 : 2 ≤ c) (hc : c ≤ 9223372036854775807) (h0 : s.size = 0) :
    Calls Try.prog 55 #[.string s, .int .i64 c] w fun e w' => e = .returned (.string ⟨#[]⟩) ∧ w' = w := Any.strings_Repeat_empty Try.lays105 s c w hc2 hc h0
open Go.RowKit Go.Lib in

theorem Try.strings_Repeat_negative (s : ByteArray) (c : Int) (w : World) (hc : c < 0) :
    Calls Try.prog 55 #[.string s, .int .i64 c] w fun e w' => e = .panicked [{ v := repeatPanic Try.lays105_ren "strings: negative Repeat count", recovered := false }] ∧ w' = w := Any.strings_Repeat_negative Try.lays105 s c w hc
open Go.RowKit Go.Lib in

theorem Try.strings_Repeat_overflow (s : ByteArray) (c : Nat) (w : World) (hc : c ≤ 9223372036854775807) (hs : s.size ≤ 9223372036854775807) (hbig : 9223372036854775807 < s.size * c) :
    Calls Try.prog 55 #[.string s, .int .i64 c] w fun e w' => e = .panicked [{ v := repeatPanic Try.lays105_ren "strings: Repeat output length overflow", recovered := false }] ∧ w' = w := Any.strings_Repeat_overflow Try.lays105 s c w hc hs hbig
open Go.RowKit Go.Lib in

theorem Try.strings_Repeat (s : ByteArray) (c : Nat) (w : World) (hc : c ≤ 9223372036854775807) (hlen : s.size * c ≤ 140737488355328) :
    Calls Try.prog 55 #[.string s, .int .i64 c] w fun e w' => e = .returned (.string ⟨(Lib.repeatL s.data.toList c).toArray⟩) ∧ Below w.heap.size w w' := Any.strings_Repeat Try.lays105 Try.Builder_Extra_105 s c w hc hlen
def Try.laysNm216_ren : Go.Shelf.Ren := ⟨fun | 16 => 53 | n => n, fun | 24 => 46 | 9 => 9 | 4 => 4 | n => n, fun | n => n⟩
theorem Try.laysNm216 : Go.Proofs.Lays2.n16 Try.prog Try.laysNm216_ren := {
  mixed := by kernel_rfl
  f16 := Try.func53.trans (congrArg some (by kernel_rfl))
  t4 := Try.underlying4
  a4 := Try.isAgg4
  z4 := Try.sizeOf4
  v4 := Try.zeroValue4
  t9 := Try.underlying9
  a9 := Try.isAgg9
  z9 := Try.sizeOf9
  v9 := Try.zeroValue9
  t24 := Try.underlying46
  a24 := Try.isAgg46
  z24 := Try.sizeOf46
  v24 := Try.zeroValue46
  i9 := by kernel_rfl }
open Go.RowKit Go.Lib in

theorem Try.slices_Clone_string (b off n c : Nat) (zs : List ByteArray) (w : World) (hz : n ≤ zs.length) (hbig : n * 16 ≤ 140737488355328) (hc : ∀ j, j < zs.length → w.cell? ⟨b, off + j, none⟩ = some (.string (zs.getD j ByteArray.empty))) :
    Calls Try.prog 53 #[.slice (some ⟨b, off, none⟩) n c] w fun e w' => ∃ v', e = .returned v' ∧ w'.ownsRow w.heap.size 9 1 v' n ((zs.take n).map (Value.string)) ∧ v' ≠ .slice none 0 0 ∧ Below w.heap.size w w' := Any.slices_Clone_string Try.laysNm216 b off n c zs w hz hbig hc
open Go.RowKit Go.Lib in

theorem Try.slices_Clone_string_nil (n c : Nat) (w : World) :
    Calls Try.prog 53 #[.slice none n c] w fun e w' => e = .returned (.slice none 0 0) ∧ w' = w := Any.slices_Clone_string_nil Try.laysNm216 n c w
open Go.RowKit Go.Lib in

theorem Try.slices_Clone_string_zero (a : Addr) (c : Nat) (w : World) :
    Calls Try.prog 53 #[.slice (some a) 0 c] w fun e w' => ∃ v', e = .returned v' ∧ w'.ownsRow w.heap.size 9 1 v' 0 [] ∧ v' ≠ .slice none 0 0 ∧ Below w.heap.size w w' := Any.slices_Clone_string_zero Try.laysNm216 a c w
def Try.laysSlE041_f53_ren : Go.Shelf.Ren := ⟨fun | 41 => 53 | n => n, fun | 22 => 46 | 23 => 9 | 4 => 4 | n => n, fun | n => n⟩
theorem Try.laysSlE041_f53 : Go.Proofs.SlLaysE0.n41 Try.prog Try.laysSlE041_f53_ren := {
  mixed := by kernel_rfl
  f41 := ⟨Try.f53.name, by decide, Try.func53.trans (congrArg some (by kernel_rfl))⟩
  t4 := Try.underlying4
  a4 := Try.isAgg4
  z4 := Try.sizeOf4
  v4 := Try.zeroValue4
  t22 := Try.underlying46
  a22 := Try.isAgg46
  z22 := Try.sizeOf46
  v22 := Try.zeroValue46 }
open Go.RowKit Go.Lib in

theorem Try.slices_Clone (i0 : TypeInfo) (z : Value) (size bytes : Nat) (hi : Try.prog.info? 9 = some i0) (hz0 : i0.zero = some z) (hz1 : i0.size = size) (hz2 : i0.bytes = bytes) (hzs : z.cells.size = size) (hsz : 0 < size) (z23 : ∀ w, (Go.sizeOf 9).run Try.prog w = .ok size w) (b off n c : Nat) (news : List Value) (w : World) (hl : news.length = n * size) (hn : n ≤ maxLen) (hbig : n * bytes ≤ 140737488355328) (hc : ∀ j u, news[j]? = some u → w.cell? ⟨b, off + j, none⟩ = some u) (h1 : ∀ u ∈ news, u.oneCell' = true) :
    Calls Try.prog 53 #[.slice (some ⟨b, off, none⟩) n c] w fun e w' => ∃ v', e = .returned v' ∧ w'.ownsRow w.heap.size 9 size v' n news ∧ v' ≠ .slice none 0 0 ∧ Below w.heap.size w w' := AnyE.slices_Clone Try.laysSlE041_f53 i0 z size bytes hi hz0 hz1 hz2 hzs hsz z23 b off n c news w hl hn hbig hc h1
open Go.RowKit Go.Lib in

theorem Try.slices_Clone_nil (n c : Nat) (w : World) :
    Calls Try.prog 53 #[.slice none n c] w fun e w' => e = .returned (.slice none 0 0) ∧ w' = w := AnyE.slices_Clone_nil Try.laysSlE041_f53 n c w
end Go.Proofs

/- The library's plain functions. -/
namespace Go.Proofs.Ytimafngkifakfaa
open Go.RowKit (Below)
theorem SpF.of_same {P : Program} {f : FuncId} {args : List Value} {v : Value} (en : ∀ (args : Array Value) (w : World), (callFunc f args).run P w = .ok (.enter f args) w)
    (h : ∀ w, Calls P f args.toArray w fun e w' => e = .returned v ∧ w' = w) : SpF P f args v :=
  SpF.of_calls en fun w => (h w).mono fun e w' ⟨a, b⟩ => ⟨a, by rw [b]; exact Below.refl _ _⟩

theorem IndexByte_sp (l : List UInt8) (c : Int) : SpF Try.prog 79 [vS l, vU c] (vI (Lib.indexByte l c.toNat.toUInt8)) :=
  SpF.of_same Try.call79 fun w => Try.strings_IndexByte ⟨⟨l⟩⟩ c w
theorem CutPrefix_sp (l p : List UInt8) : SpF Try.prog 64 [vS l, vS p] (.tuple #[vS (Lib.trimPrefix l p), vB (Lib.hasPrefix l p)]) :=
  SpF.of_same Try.call64 fun w => Try.strings_CutPrefix ⟨⟨l⟩⟩ ⟨⟨p⟩⟩ w
theorem HasPrefix_sp (l p : List UInt8) : SpF Try.prog 52 [vS l, vS p] (vB (Lib.hasPrefix l p)) :=
  SpF.of_same Try.call52 fun w => Try.strings_HasPrefix ⟨⟨l⟩⟩ ⟨⟨p⟩⟩ w
theorem Repeat_sp (l : List UInt8) (c : Nat) (h : l.length * c ≤ 140737488355328) (hc : c ≤ 9223372036854775807) : SpF Try.prog 55 [vS l, vI c] (vS (Lib.repeatL l c)) :=
  SpF.of_calls Try.call55 fun w => Try.strings_Repeat ⟨⟨l⟩⟩ c w hc h
theorem repeat_one (b : UInt8) : ∀ c : Nat, Lib.repeatL [b] c = List.replicate c b := by
  intro c
  induction c with
  | zero => rfl
  | succ c ih => simp [Lib.repeatL, ih, List.replicate_succ]
end Go.Proofs.Ytimafngkifakfaa

/- strings.Builder. -/
set_option maxRecDepth 100000
namespace Go.Proofs.Ytimafngkifakfaa
section
variable {r : Option Nat} {P : Program} {n : Nat} {ops : Array Oper} {os : List Oper} {A : List HP} {L : Loc} {Hs : List HP} {Q : Out} {ty : TypeId} {d : Nat} {pos : String} {after : Array Edge} {c : Code}

theorem pv_ptr {x y : Operand} {a b : Option Addr} {t yt : TypeId} {op : BinOp} {v : Value} (hx : ev L x = some (.pointer a)) (hy : ev L y = some (.pointer b))
    (h : ∀ w, (binOp op t (.pointer a) (.pointer b)).run P w = .ok v w) : PV P n L (.binOp op t x y yt) ty v :=
  ⟨by intro c; simp, fun ac f w _ _ _ _ => by
    simp only [execOp, f.ev hx, f.ev hy, Sem.run_bind]
    have hg : (eqGuard op t x y (.pointer a) (.pointer b)).run P w = .ok () w := by
      unfold eqGuard
      split <;> rfl
    rw [hg]
    simp [h w]⟩
theorem pv_peql_nil {x y : Operand} {a : Option Addr} {t yt e : TypeId} (ht : P.underlying t = some (.pointer e)) (hx : ev L x = some (.pointer a)) (hy : ev L y = some (.pointer none)) : PV P n L (.binOp .eql t x y yt) ty (.bool a.isNone) :=
  pv_ptr hx hy fun w => by
    have h : ∀ d : Nat, (Op.equalIn (d + 1) t (.pointer a) (.pointer none)).run P w = .ok a.isNone w := fun d => by
      cases a <;> simp [Op.equalIn, run_underlying ht]
    simp only [binOp]
    simp [Op.equal, Op.maxDepth, h 9999]
theorem pv_pneq_nil {x y : Operand} {a : Option Addr} {t yt e : TypeId} (ht : P.underlying t = some (.pointer e)) (hx : ev L x = some (.pointer a)) (hy : ev L y = some (.pointer none)) : PV P n L (.binOp .neq t x y yt) ty (.bool a.isSome) :=
  pv_ptr hx hy fun w => by
    have h : ∀ d : Nat, (Op.equalIn (d + 1) t (.pointer a) (.pointer none)).run P w = .ok a.isNone w := fun d => by
      cases a <;> simp [Op.equalIn, run_underlying ht]
    simp only [binOp]
    cases a <;> simp [Op.equal, Op.maxDepth, h 9999]
theorem pv_pneq_same {x y : Operand} {a : Addr} {t yt e : TypeId} {j : TypeInfo} (ht : P.underlying t = some (.pointer e)) (he : P.info? e = some j) (hx : ev L x = some (.pointer (some a))) (hy : ev L y = some (.pointer (some a))) : PV P n L (.binOp .neq t x y yt) ty (.bool false) :=
  pv_ptr hx hy fun w => Lib.run_neq_ptr_same w a ht he
theorem pv_extern {f : FuncId} {fn : Func} {e : Array Value → Sem Value} {args : Array Operand} {ats : Array TypeId} {vs : List Value} {v : Value} (hf : P.funcs[f]? = some fn) (hname : (fn.name == "runtime.NumGoroutine") = false)
    (hb : fn.body.isNone = true) (hn : Extern.findNext fn = none) (he : Extern.find fn = some e) (ha : evs L args.toList = some vs) (h : ∀ w, (e vs.toArray).run P w = .ok v w) : PV P n L (.call ⟨.value (.func f), args, ats⟩) ty v :=
  ⟨by intro c; simp, fun a fr w _ _ _ _ => by
    have hargs : args.map a.eval = vs.toArray := by
      have := fr.evs _ ha
      apply Array.ext'
      simp [this]
    simp only [execOp, resolve, Act.eval, Deferred.ofValue, Sem.run_bind, Sem.run_pure, Result.andThen_ok, invoke]
    have := run_callFunc_extern hf hname hb hn he vs.toArray w
    rw [show (Array.map (fun x => a.eval x) args) = vs.toArray from hargs]
    simp only [Array.append_empty, Array.empty_append]
    rw [this, h w]
    rfl⟩

theorem shows_shape {A : HP} {b : Nat} {l : List Value} (sh : Shows A b l) {w : World} {M : Kn} {h hf h1 : Res} (t : Sat w M (h.add hf)) (le : h1.le h) (x : A.at_ M h1) : ∃ T, w.shape? b = some (T, l.length) := by
  obtain ⟨T, fz, e⟩ := sh x
  have hb : w.heap[b]? = some (.cells l.toArray T fz) := by
    rcases e with e | e
    · exact t.im _ _ e
    · exact t.ow _ _ (Res.le_add_left _ _ _ _ (le _ _ e))
  exact ⟨T, by simp [World.shape?, hb]⟩
theorem ce_shape {b T : Nat} {l : List Value} {w : World} {M : Kn} {h hf h1 : Res} (t : Sat w M (h.add hf)) (le : h1.le h) (x : (Ce b T l).at_ M h1) : w.shape? b = some (T, l.length) := by
  have e : h1 = Res.one b _ := x
  have hb : w.heap[b]? = some (.cells l.toArray T (0, 0)) := t.ow _ _ (Res.le_add_left _ _ _ _ (le _ _ (by rw [e]; exact Res.one_same _ _)))
  simp [World.shape?, hb]
theorem r_toUnsafe {src dst t T : TypeId} {j : TypeInfo} {x : Operand} {b : Nat} {l : List Value} (hs : P.underlying src = some (.pointer t)) (hd' : P.underlying dst = some .unsafePointer) (ht : P.info? t = some j) (hj : Nat.beq j.size 0 = false)
    (hx : ev L x = some (.pointer (some ⟨b, 0, none⟩))) (hA : Has (Ce b T l) Hs) (hl : Nat.blt 0 l.length = true) (hd : Nat.blt d n = true)
    (k : wo r P n ops os ((d, .pointer (some ⟨b, 0, none⟩)) :: L) Hs Q) : wo r P n ops (⟨some d, .convert src dst x, ty, pos, after, none⟩ :: os) L Hs Q := by
  refine wo_read (by intro c; simp) hA hd (fun a f w M h h1 hf t' le y _ _ _ _ => ?_) k
  have hsh := ce_shape t' le y
  have := Lib.run_to_unsafe (P := P) w ⟨b, 0, none⟩ hs hd' ht (fun e => by rw [e] at hj; cases hj) hsh (by simpa using hl)
  simp [execOp, f.ev hx, this]
theorem r_fromUnsafe {src dst u T : TypeId} {j : TypeInfo} {x : Operand} {b : Nat} {l : List Value} {len : Nat} (hs : P.underlying src = some .unsafePointer) (hd' : P.underlying dst = some (.pointer u)) (hu : P.info? u = some j) (hlen : l.length = len)
    (hlies : liesAt P P.depth T (len / P.cellsOf T) 0 u 1 = true)
    (hx : ev L x = some (.pointer (some ⟨b, 0, none⟩))) (hA : Has (Ce b T l) Hs) (hd : Nat.blt d n = true)
    (k : wo r P n ops os ((d, .pointer (some ⟨b, 0, none⟩)) :: L) Hs Q) : wo r P n ops (⟨some d, .convert src dst x, ty, pos, after, none⟩ :: os) L Hs Q := by
  refine wo_read (by intro c; simp) hA hd (fun a f w M h h1 hf t' le y _ _ _ _ => ?_) k
  have hsh := ce_shape t' le y
  have := Lib.run_from_unsafe (P := P) w ⟨b, 0, none⟩ hs hd' hu hsh (by rw [hlen]; exact hlies)
  simp [execOp, f.ev hx, this]

/-- append(b, s...), s a text. -/
theorem opt_appendS {dst : Option Tmp} {t u e : TypeId} {x y : Operand} {i : TypeInfo} (ht : P.underlying t = some (.slice e)) (hu : P.underlying u = some .string) (hi : P.info? e = some i) (hz : i.zero = some (.int .u8 0)) (hs1 : i.size = 1) (hb1 : i.bytes = 1)
    {v : Value} {k : Nat} {xs : List Value} {l : List UInt8} (hx : ev L x = some v) (hy : ev L y = some (vS l)) (h63 : k + l.length ≤ 140737488355328) :
    OpT r P n ⟨dst, .call ⟨.builtin .append, #[x, y], #[t, u]⟩, ty, pos, after, none⟩ A L [Row e 1 v k xs] (fun v' => v') (fun v' => (∃ a c, v' = .slice a (k + l.length) c) ∧ (k + l.length = 0 → v = .slice none 0 0 → v' = .slice none 0 0)) (fun v' => [Row e 1 v' (k + l.length) (xs ++ vUs l)]) := by
  intro a f w M h hA hf dj dj' s sA t'
  obtain ⟨g1, g2, dg, e1, hrow, _⟩ := s
  subst e1
  obtain ⟨d3, d4⟩ := Res.dj_add_left.1 dj
  obtain ⟨d5, d6⟩ := Res.dj_add_left.1 dj'
  obtain ⟨d7, d8⟩ := Res.dj_add_left.1 d5
  have eq : ((g1.add g2).add hA).add hf = g1.add ((g2.add hA).add hf) := by simp only [Res.add_assoc]
  rw [eq] at t'
  have djx : g1.dj ((g2.add hA).add hf) := Res.dj_add_right.2 ⟨Res.dj_add_right.2 ⟨dg, d3⟩, d7⟩
  have hmx : k + l.length ≤ maxLen := by simp only [maxLen]; omega
  have fin : ∀ v' w' h', (k + l.length = 0 → v = .slice none 0 0 → v' = .slice none 0 0) → (Builtin.append_ #[t, u] ty #[v, vS l]).run P w = .ok v' w' → h'.dj ((g2.add hA).add hf) → Sat w' M (h'.add ((g2.add hA).add hf)) → RowAt e 1 v' (k + l.length) (xs ++ vUs l) M h' →
      opV r P (fun u' w' => ∃ (x : Value) (M' : Kn) (h' : Res), u' = x ∧ ((∃ a c, x = .slice a (k + l.length) c) ∧ (k + l.length = 0 → v = Value.slice none 0 0 → x = .slice none 0 0)) ∧ M.le M' ∧ h'.dj hA ∧ (h'.add hA).dj hf ∧ Sat w' M' ((h'.add hA).add hf) ∧ SL [Row e 1 x (k + l.length) (xs ++ vUs l)] M' h')
        ((execOp a.eval ⟨dst, .call ⟨.builtin .append, #[x, y], #[t, u]⟩, ty, pos, after, none⟩).run P w) := by
    intro v' w' h' hz' hr djn sn rn
    have hrun : (execOp a.eval ⟨dst, .call ⟨.builtin .append, #[x, y], #[t, u]⟩, ty, pos, after, none⟩).run P w = .ok (.value v') w' := by
      simp [execOp, resolve, f.ev hx, f.ev hy, invoke, builtin, hr]
    rw [hrun]
    obtain ⟨y1, y2⟩ := Res.dj_add_right.1 djn
    obtain ⟨y3, y4⟩ := Res.dj_add_right.1 y1
    refine ⟨v', M, h'.add g2, rfl, ⟨rn.slice, hz'⟩, Kn.le_refl _, Res.dj_add_left.2 ⟨y4, d4⟩, Res.dj_add_left.2 ⟨Res.dj_add_left.2 ⟨y2, d8⟩, d6⟩, ?_, h', g2, y3, rfl, rn, trivial⟩
    have eq2 : ((h'.add g2).add hA).add hf = h'.add ((g2.add hA).add hf) := by simp only [Res.add_assoc]
    rw [eq2]; exact sn
  have hsl : Lib.strCells ⟨⟨l⟩⟩ = vUs l := rfl
  have hlen : (vUs l).length = l.length := by simp [vUs]
  have grown : ∀ (old : Nat), old < k + l.length → xs.length = k → ∃ h', h'.dj ((g2.add hA).add hf) ∧ Sat (w.drew.alloc (.cells (xs.toArray ++ (vUs l).toArray ++ Builtin.zeroCells (Value.int .u8 0).cells (grownCap w (k + l.length) old e - (k + l.length))) e)) M (h'.add ((g2.add hA).add hf)) ∧
      RowAt e 1 (.slice (some ⟨w.heap.size, 0, none⟩) (k + l.length) (grownCap w (k + l.length) old e)) (k + l.length) (xs ++ vUs l) M h' := by
    intro old ho hxl
    have hge := grownCap_ge w (k + l.length) old e
    have hcm : grownCap w (k + l.length) old e ≤ maxLen := grownCap_le_maxLen w (k + l.length) old e hmx
    have s2 := t'.drew.alloc (.cells (xs.toArray ++ (vUs l).toArray ++ Builtin.zeroCells (Value.int .u8 0).cells (grownCap w (k + l.length) old e - (k + l.length))) e)
    obtain ⟨f1, f2⟩ := fresh_none t'.drew
    obtain ⟨f3, f4⟩ := Res.add_none.1 f2
    refine ⟨Res.one w.heap.size (.cells (xs.toArray ++ (vUs l).toArray ++ Builtin.zeroCells (Value.int .u8 0).cells (grownCap w (k + l.length) old e - (k + l.length))) e), one_dj f4, s2.le ?_, .inr ⟨w.heap.size, _, xs ++ vUs l ++ (Builtin.zeroCells (Value.int .u8 0).cells (grownCap w (k + l.length) old e - (k + l.length))).toList, rfl, hge, hcm, ?_, ?_, ?_, ?_⟩⟩
    · intro b o e
      simp only [Res.add] at e ⊢
      show (match Res.one w.heap.size _ b with | some o => some o | none => _) = _
      cases eb : Res.one w.heap.size (Obj.cells (xs.toArray ++ (vUs l).toArray ++ Builtin.zeroCells (Value.int .u8 0).cells (grownCap w (k + l.length) old _ - (k + l.length))) _) b with
      | some u => rw [eb] at e; simpa using e
      | none =>
        rw [eb] at e
        rcases djx b with x | x
        · simpa [x] using e
        · have e' : ((g2.add hA).add hf) b = some o := e
          rw [x] at e'; cases e'
    · simp only [List.length_append, Array.length_toList, size_zeroCells, hxl, hlen]
      simp [Value.cells]
      omega
    · simp [hxl, hlen]
    · have : (xs ++ vUs l).length = (k + l.length) * 1 := by simp [hxl, hlen]
      rw [← this]
      exact List.take_left
    · congr 2
      apply Array.ext'
      simp
  rcases hrow with ⟨rfl, rfl, rfl⟩ | ⟨g, cap, cur, rfl, hkc, hcm, hcl, hxl, htake, rfl⟩
  · by_cases hm : l = []
    · subst hm
      refine fin (.slice none 0 0) w g1 (fun _ _ => rfl) ?_ djx t' (.inl ⟨rfl, rfl, rfl⟩)
      simp [Builtin.append_, run_underlying ht, run_underlying hu, sizeOf, typeInfo, hi, Builtin.lenOf, Builtin.firstCells, mk_size]
    · have hpos : 0 < l.length := List.length_pos_iff.2 hm
      have hr := run_append_nil_string (P := P) w t u ty e i (.int .u8 0) ht hu hi hz ⟨⟨l⟩⟩ (by rw [mk_size]; omega) (by rw [mk_size]; omega) (by rw [mk_size, hb1]; omega)
      obtain ⟨h', d', s', r'⟩ := grown 0 (by omega) (by simp)
      have hsl2 : Array.map (fun b : UInt8 => Value.int .u8 (b.toNat : Int)) ⟨l⟩ = (vUs l).toArray := by simp [vUs]
      simp only [Nat.zero_add, List.nil_append, Array.empty_append, mk_size, hsl2] at d' s' r' hr
      exact fin _ _ h' (fun e _ => by omega) hr d' s' (by simpa using r')
  · have hg : w.heap[g]? = some (.cells cur.toArray e (0, 0)) := t'.ow _ _ (by simp [Res.add, Res.one])
    simp only [Nat.mul_one] at hcl hxl htake
    by_cases hroom : k + l.length ≤ cap
    · have hr := Lib.run_append_room_string (P := P) w t u ty e i ht hu hi hs1 g k cap cur.toArray hg ⟨⟨l⟩⟩ hroom (by simp [mk_size, hcl]; exact hroom)
      rw [mk_size, hsl] at hr
      refine fin _ _ (Res.one g (.cells (cur.take k ++ vUs l ++ cur.drop (k + l.length)).toArray e (0, 0))) (fun _ e => by cases e) hr (dj_one_any djx) (Sat.setBlk djx t' ?_ (fun j hj => ?_) ⟨rfl, rfl, rfl, by simp [World.setRow]⟩) (.inr ⟨g, cap, cur.take k ++ vUs l ++ cur.drop (k + l.length), rfl, hroom, hcm, ?_, ?_, ?_, rfl⟩)
      · exact setRow_heap w g cur.toArray _ e _ hg
      · exact setRow_other w g j _ (fun x => hj x)
      · simp only [List.length_append, List.length_take, List.length_drop, hlen]
        omega
      · simp [hxl, hlen]
      · rw [htake]
        have : (xs ++ vUs l).length = (k + l.length) * 1 := by simp [hxl, hlen]
        rw [← this]
        exact List.take_left
    · have holds : ∀ j u, xs[j]? = some u → w.cell? ((⟨g, 0, none⟩ : Addr).add j) = some u := by
        intro j u hj
        have hlt := (List.getElem?_eq_some_iff.1 hj).1
        rw [addr_add, Nat.zero_add]
        simp only [World.cell?, hg]
        rw [← htake, List.getElem?_take_of_lt (by omega)] at hj
        simpa using hj
      have hr := Lib.run_append_grow_string (P := P) w t u ty e i (.int .u8 0) ht hu hi hz ⟨g, 0, none⟩ k cap xs (by rw [hs1]; omega) holds ⟨⟨l⟩⟩ (by rw [mk_size]; omega) (by rw [mk_size]; omega) (by rw [mk_size]; exact growslice_fits (by omega) (by rw [hb1]; omega))
      obtain ⟨h', d', s', r'⟩ := grown cap (by omega) hxl
      rw [mk_size, hsl] at hr
      exact fin _ _ h' (fun _ e => by cases e) hr d' s' r'
end

end Go.Proofs.Ytimafngkifakfaa

/- Rows opened and shut; the text over a row of bytes. -/
namespace Go.Proofs.Ytimafngkifakfaa

theorem sl_row {e : TypeId} {sz : Nat} {v : Value} {k : Nat} {xs : List Value} {Hs : List HP} {M : Kn} {h : Res} (s : SL (Row e sz v k xs :: Hs) M h) :
    (v = .slice none 0 0 ∧ k = 0 ∧ xs = [] ∧ SL Hs M h) ∨ ∃ g cap cur, v = .slice (some ⟨g, 0, none⟩) k cap ∧ k ≤ cap ∧ cap ≤ maxLen ∧ List.length cur = cap * sz ∧ xs.length = k * sz ∧ cur.take (k * sz) = xs ∧ SL (Ce g e cur :: Hs) M h := by
  obtain ⟨h1, h2, d, e', a, t⟩ := s
  rcases a with ⟨a, b, c⟩ | ⟨g, cap, cur, a, b, c, d', f, i, j⟩
  · refine .inl ⟨a, b, c, ?_⟩
    subst e'
    exact SL.more d t
  · exact .inr ⟨g, cap, cur, a, b, c, d', f, i, h1, h2, d, e', j, t⟩

theorem pick_left {A : HP} {B B' C : List HP} (u : Pick A B B') : Pick A (B ++ C) (B' ++ C) := by
  induction u with
  | here => exact .here
  | keep p => exact .keep p
  | there _ ih => exact .there ih
theorem pick_right {A : HP} {B C C' : List HP} (u : Pick A C C') : Pick A (B ++ C) (B ++ C') := by
  induction B with
  | nil => exact u
  | cons _ _ ih => exact .there ih
/-- A block that one has, found by its number; a row, by its slice. -/
class OwnC (b : Nat) (T : outParam TypeId) (l : outParam (List Value)) (Hs : List HP) (Rs : outParam (List HP)) : Prop where
  get : Pick (Ce b T l) Hs Rs
instance (priority := 1000) {b : Nat} {T : TypeId} {l : List Value} {r : List HP} : OwnC b T l (Ce b T l :: r) r := ⟨.here⟩
instance (priority := 100) {b : Nat} {T : TypeId} {l : List Value} {B : HP} {r s : List HP} [h : OwnC b T l r s] : OwnC b T l (B :: r) (B :: s) := ⟨.there h.get⟩
instance (priority := 900) {b : Nat} {T : TypeId} {l : List Value} {B B' C : List HP} [h : OwnC b T l B B'] : OwnC b T l (B ++ C) (B' ++ C) := ⟨pick_left h.get⟩
instance (priority := 800) {b : Nat} {T : TypeId} {l : List Value} {B C C' : List HP} [h : OwnC b T l C C'] : OwnC b T l (B ++ C) (B ++ C') := ⟨pick_right h.get⟩
class RowC (v : Value) (e : outParam TypeId) (sz : outParam Nat) (n : outParam Nat) (xs : outParam (List Value)) (Hs : List HP) (Rs : outParam (List HP)) : Prop where
  get : Pick (Row e sz v n xs) Hs Rs
instance (priority := 1000) {v : Value} {e : TypeId} {sz n : Nat} {xs : List Value} {r : List HP} : RowC v e sz n xs (Row e sz v n xs :: r) r := ⟨.here⟩
instance (priority := 100) {v : Value} {e : TypeId} {sz n : Nat} {xs : List Value} {B : HP} {r s : List HP} [h : RowC v e sz n xs r s] : RowC v e sz n xs (B :: r) (B :: s) := ⟨.there h.get⟩
instance (priority := 900) {v : Value} {e : TypeId} {sz n : Nat} {xs : List Value} {B B' C : List HP} [h : RowC v e sz n xs B B'] : RowC v e sz n xs (B ++ C) (B' ++ C) := ⟨pick_left h.get⟩
instance (priority := 800) {v : Value} {e : TypeId} {sz n : Nat} {xs : List Value} {B C C' : List HP} [h : RowC v e sz n xs C C'] : RowC v e sz n xs (B ++ C) (B ++ C') := ⟨pick_right h.get⟩
theorem ent_pick1 {A : HP} {Hs Rs : List HP} (h : Pick A Hs Rs) : Ent Hs (A :: Rs) := Picks.ent (.cons h .nil)

theorem row_norm {v : Value} {e sz n n' : Nat} {xs xs' : List Value} {Hs Rs : List HP} [q : RowC v e sz n xs Hs Rs] (hn : n = n') (hx : xs = xs') : Ent Hs (Row e sz v n' xs' :: Rs) := by
  subst hn; subst hx; exact ent_pick1 q.get
theorem row_norm1 {v : Value} {e sz n n' : Nat} {xs xs' : List Value} {Hs Rs : List HP} [q : RowC v e sz n xs Hs Rs] (hn : n = n') (hx : xs = xs') : Ent Hs [Row e sz v n' xs'] := (row_norm hn hx).trans ⟨fun ⟨h1, h2, d, e, a, t⟩ => ⟨h1, h2, d, e, a, trivial⟩⟩

section
variable {r : Option Nat} {P : Program} {n : Nat} {ops : Array Oper} {os : List Oper} {A : List HP} {L : Loc} {Hs : List HP} {Q : Out} {ty : TypeId} {d : Nat} {pos : String} {after : Array Edge} {c : Code}
theorem wc_row {e : TypeId} {sz : Nat} {v : Value} {k : Nat} {xs : List Value} (hn : v = .slice none 0 0 → k = 0 → xs = [] → wc r P n c L Hs Q)
    (ho : ∀ g cap cur, v = .slice (some ⟨g, 0, none⟩) k cap → k ≤ cap → cap ≤ maxLen → List.length cur = cap * sz → xs.length = k * sz → cur.take (k * sz) = xs → wc r P n c L (Ce g e cur :: Hs) Q) : wc r P n c L (Row e sz v k xs :: Hs) Q := by
  intro a M m s
  obtain ⟨g1, g2, dg, e1, y, s2⟩ := s.2
  rcases sl_row s2 with ⟨x1, x2, x3, s3⟩ | ⟨g, cap, cur, x1, x2, x3, x4, x5, x6, s3⟩
  · exact hn x1 x2 x3 a M m ⟨s.1, g1, g2, dg, e1, y, s3⟩
  · exact ho g cap cur x1 x2 x3 x4 x5 x6 a M m ⟨s.1, g1, g2, dg, e1, y, s3⟩
theorem wo_row {e : TypeId} {sz : Nat} {v : Value} {k : Nat} {xs : List Value} (hn : v = .slice none 0 0 → k = 0 → xs = [] → wo r P n ops os L Hs Q)
    (ho : ∀ g cap cur, v = .slice (some ⟨g, 0, none⟩) k cap → k ≤ cap → cap ≤ maxLen → List.length cur = cap * sz → xs.length = k * sz → cur.take (k * sz) = xs → wo r P n ops os L (Ce g e cur :: Hs) Q) : wo r P n ops os L (Row e sz v k xs :: Hs) Q := by
  intro a M m s
  obtain ⟨g1, g2, dg, e1, y, s2⟩ := s.2
  rcases sl_row s2 with ⟨x1, x2, x3, s3⟩ | ⟨g, cap, cur, x1, x2, x3, x4, x5, x6, s3⟩
  · exact hn x1 x2 x3 a M m ⟨s.1, g1, g2, dg, e1, y, s3⟩
  · exact ho g cap cur x1 x2 x3 x4 x5 x6 a M m ⟨s.1, g1, g2, dg, e1, y, s3⟩
theorem ent_row {e : TypeId} {sz g k cap : Nat} {xs cur : List Value} {Rs : List HP} [p : PickC (Ce g e cur) Hs Rs] (hk : k ≤ cap) (hc : cap ≤ maxLen) (hl : cur.length = cap * sz) (hx : xs.length = k * sz) (ht : cur.take (k * sz) = xs) : Ent Hs (Row e sz (.slice (some ⟨g, 0, none⟩) k cap) k xs :: Rs) := ⟨fun s => by
  obtain ⟨h1, h2, d, e', a, t⟩ := p.get.sat s
  exact ⟨h1, h2, d, e', .inr ⟨g, cap, cur, rfl, hk, hc, hl, hx, ht, a⟩, t⟩⟩

theorem pv_usd_row {x : Operand} {ts : Array TypeId} {a : Addr} {k c : Nat} (hx : ev L x = some (.slice (some a) k c)) (hc : c ≠ 0) : PV P n L (.call ⟨.builtin .unsafeSliceData, #[x], ts⟩) ty (.pointer (some a)) :=
  ⟨by intro c; simp, fun ac f w _ _ _ _ => by
    simp [execOp, resolve, f.ev hx, invoke, builtin, Lib.run_unsafeSliceData_row (P := P) w ts ty a k c hc]⟩
theorem pv_usd_nil {x : Operand} {ts : Array TypeId} {k c : Nat} (hx : ev L x = some (.slice none k c)) : PV P n L (.call ⟨.builtin .unsafeSliceData, #[x], ts⟩) ty (.pointer none) :=
  ⟨by intro c; simp, fun ac f w _ _ _ _ => by
    simp [execOp, resolve, f.ev hx, invoke, builtin, Lib.run_unsafeSliceData_nil (P := P) w ts ty k c]⟩
theorem pv_us_none {x y : Operand} {pt it : TypeId} {p : Option Addr} (hx : ev L x = some (.pointer p)) (hy : ev L y = some (vI 0)) : PV P n L (.call ⟨.builtin .unsafeString, #[x, y], #[pt, it]⟩) ty (vS []) :=
  ⟨by intro c; simp, fun ac f w _ _ _ _ => by
    simp [execOp, resolve, f.ev hx, f.ev hy, invoke, builtin, Lib.run_unsafeString_none (P := P) w pt it ty p]; rfl⟩
theorem opt_us_row {dst : Option Tmp} {x y : Operand} {pt it e : TypeId} {g : Nat} {cur : List Value} {l : List UInt8} (hp : P.underlying pt = some (.pointer e)) (hc : P.cellsOf e = 1) (hx : ev L x = some (.pointer (some ⟨g, 0, none⟩))) (hy : ev L y = some (vI l.length))
    (h0 : l ≠ []) (h63 : l.length ≤ 9223372036854775807) (hcur : cur.take l.length = vUs l) :
    OpT r P n ⟨dst, .call ⟨.builtin .unsafeString, #[x, y], #[pt, it]⟩, ty, pos, after, none⟩ A L [Ce g e cur] (fun _ : Unit => vS l) (fun _ => True) (fun _ => []) := by
  intro a f w M h hA hf dj dj' s sA t'
  obtain ⟨g1, g2, dg, e1, hce, _⟩ := s
  have hce' : g1 = Res.one g _ := hce
  subst hce'
  subst e1
  have hb : w.heap[g]? = some (.cells cur.toArray e (0, 0)) := t'.ow _ _ (by simp [Res.add, Res.one])
  have hll : l.length ≤ cur.length := by have := congrArg List.length hcur; simp [vUs] at this; omega
  have hr := Lib.run_unsafeString_row (P := P) w pt it ty e hp hc g cur.length (by simp [World.shape?, hb]) l h0 hll h63 (fun j u hj => by
    have hlt := (List.getElem?_eq_some_iff.1 hj).1
    rw [addr_add, Nat.zero_add]
    have e2 : (cur.take l.length)[j]? = (vUs l)[j]? := by rw [hcur]
    rw [List.getElem?_take_of_lt hlt] at e2
    simp only [World.cell?, hb]
    simp only [List.getElem?_toArray, e2, vUs, List.getElem?_map, hj]
    rfl)
  have hrun : (execOp a.eval ⟨dst, .call ⟨.builtin .unsafeString, #[x, y], #[pt, it]⟩, ty, pos, after, none⟩).run P w = .ok (.value (vS l)) (w.freeze ⟨g, 0, none⟩ l.length) := by
    simp [execOp, resolve, f.ev hx, f.ev hy, invoke, builtin, hr]
  rw [hrun]
  obtain ⟨d3, d4⟩ := Res.dj_add_left.1 dj
  obtain ⟨d5, d6⟩ := Res.dj_add_left.1 dj'
  obtain ⟨d7, d8⟩ := Res.dj_add_left.1 d5
  have eq : (((Res.one g (.cells cur.toArray e (0, 0))).add g2).add hA).add hf = (Res.one g (.cells cur.toArray e (0, 0))).add ((g2.add hA).add hf) := by simp only [Res.add_assoc]
  rw [eq] at t'
  have djx : (Res.one g (.cells cur.toArray e (0, 0))).dj ((g2.add hA).add hf) := Res.dj_add_right.2 ⟨Res.dj_add_right.2 ⟨dg, d3⟩, d7⟩
  have hl0 : l.length ≠ 0 := by simpa using h0
  have t2 : Sat (w.freeze ⟨g, 0, none⟩ l.length) M ((Res.one g (.cells cur.toArray e (0, l.length))).add ((g2.add hA).add hf)) := by
    refine Sat.setBlk djx t' ?_ (fun i hi => ?_) ⟨?_, ?_, ?_, ?_⟩
    · simp [World.freeze, hl0, Array.getElem?_modify, hb]
    · simp [World.freeze, hl0, Array.getElem?_modify, Ne.symm hi]
    all_goals simp [World.freeze, hl0]
  refine ⟨(), M, g2, rfl, trivial, Kn.le_refl _, d4, Res.dj_add_left.2 ⟨d8, d6⟩, t2.le (Res.le_add_right ?_), trivial⟩
  exact dj_one_any djx
end
end Go.Proofs.Ytimafngkifakfaa

/- strings.Builder: its functions. -/
set_option maxRecDepth 100000
namespace Go.Proofs.Ytimafngkifakfaa
/-- A Builder that one has, with what it holds. -/
def IsB (p : Nat) (l : List UInt8) : HP := Ex fun q1 : Value => Ex fun q2 : Value => Al [Pu ((q1 = .pointer none ∨ q1 = .pointer (some ⟨p, 0, none⟩)) ∧ (l.length = 0 → q2 = .slice none 0 0)), Ce p 88 [q1, q2], Row 5 1 q2 l.length (vUs l)]

theorem copyCheck_nil (p : Nat) (v : Value) : Sp1 Try.prog 61 [.pointer (some ⟨p, 0, none⟩)] [Ce p 88 [.pointer none, v]] (.tuple #[]) [Ce p 88 [.pointer (some ⟨p, 0, none⟩), v]] := by
  refine Sp.body (n := 20) Try.call61 Try.func61 rfl rfl rfl ?_
  refine p_seq rfl ?_
  refine p_region rfl ?_
  refine wo_pv (pv_move rfl) rfl ?_
  refine wo_pv (by first | exact pv_nilCheck_p rfl | exact pv_nilCheck_f rfl) rfl ?_
  refine wo_pv (pv_fieldAddrk Try.underlying88 rfl ti86 rfl rfl (k := 0) rfl (by first | exact Nat.zero_add _ | exact Nat.add_zero _ | exact rfl)) rfl ?_
  refine r_load Try.underlying86 rfl rfl rfl rfl ?_
  refine wo_pv (pv_peql_nil Try.underlying86 rfl rfl) rfl ?_
  refine q_seq ?_
  first | refine p_ite rfl rfl (fun h6 => ?_) (fun h6 => ?_) | refine p_cond rfl rfl (fun h6 => ?_) (fun h6 => ?_)
  · -- t6 True
    refine p_region rfl ?_
    refine wo_pv (pv_move rfl) rfl ?_
    refine wo_pv (pv_move rfl) rfl ?_
    refine r_toUnsafe Try.underlying86 Try.underlying133 ti88 rfl rfl .here rfl rfl ?_
    refine wo_pv (pv_extern Try.func78 (by kernel_rfl) (by kernel_rfl) (by kernel_rfl) (e := Extern.AbiNoEscape.same) (by kernel_rfl) rfl (fun w => rfl)) rfl ?_
    refine r_fromUnsafe Try.underlying133 Try.underlying86 ti88 rfl (by kernel_rfl) rfl .here rfl ?_
    refine wo_pv (by first | exact pv_nilCheck_p rfl | exact pv_nilCheck_f rfl) rfl ?_
    refine wo_pv (pv_fieldAddrk Try.underlying88 rfl ti86 rfl rfl (k := 0) rfl (by first | exact Nat.zero_add _ | exact Nat.add_zero _ | exact rfl)) rfl ?_
    refine r_store ti86 rfl rfl rfl rfl (by simp; try omega) ?_
    refine wo_nil ?_
    refine fin_end () (vs := []) (Cs := []) rfl .nil rfl trivial ?_
    exact ent_pick
  · -- t6 False
    simp at h6
    --done
theorem copyCheck_own (p : Nat) (v : Value) : Sp1 Try.prog 61 [.pointer (some ⟨p, 0, none⟩)] [Ce p 88 [.pointer (some ⟨p, 0, none⟩), v]] (.tuple #[]) [Ce p 88 [.pointer (some ⟨p, 0, none⟩), v]] := by
  refine Sp.body (n := 20) Try.call61 Try.func61 rfl rfl rfl ?_
  refine p_seq rfl ?_
  refine p_region rfl ?_
  refine wo_pv (pv_move rfl) rfl ?_
  refine wo_pv (by first | exact pv_nilCheck_p rfl | exact pv_nilCheck_f rfl) rfl ?_
  refine wo_pv (pv_fieldAddrk Try.underlying88 rfl ti86 rfl rfl (k := 0) rfl (by first | exact Nat.zero_add _ | exact Nat.add_zero _ | exact rfl)) rfl ?_
  refine r_load Try.underlying86 rfl rfl rfl rfl ?_
  refine wo_pv (pv_peql_nil Try.underlying86 rfl rfl) rfl ?_
  refine q_seq ?_
  first | refine p_ite rfl rfl (fun h6 => ?_) (fun h6 => ?_) | refine p_cond rfl rfl (fun h6 => ?_) (fun h6 => ?_)
  · -- t6 True
    simp at h6
    --done
  · -- t6 False
    refine p_seq rfl ?_
    refine p_region rfl ?_
    refine wo_pv (pv_move rfl) rfl ?_
    refine wo_pv (by first | exact pv_nilCheck_p rfl | exact pv_nilCheck_f rfl) rfl ?_
    refine wo_pv (pv_fieldAddrk Try.underlying88 rfl ti86 rfl rfl (k := 0) rfl (by first | exact Nat.zero_add _ | exact Nat.add_zero _ | exact rfl)) rfl ?_
    refine r_load Try.underlying86 rfl rfl rfl rfl ?_
    refine wo_pv (pv_move rfl) rfl ?_
    refine wo_pv (pv_pneq_same Try.underlying86 ti88 rfl rfl) rfl ?_
    refine q_seq ?_
    first | refine p_ite rfl rfl (fun h19 => ?_) (fun h19 => ?_) | refine p_cond rfl rfl (fun h19 => ?_) (fun h19 => ?_)
    · -- t19 True
      cases h19
      --done
    · -- t19 False
      refine p_skip rfl ?_
      refine fin_end () (vs := []) (Cs := []) rfl .nil rfl trivial ?_
      exact ent_pick
theorem copyCheck_sp (p : Nat) (q v : Value) (hq : q = .pointer none ∨ q = .pointer (some ⟨p, 0, none⟩)) : Sp1 Try.prog 61 [.pointer (some ⟨p, 0, none⟩)] [Ce p 88 [q, v]] (.tuple #[]) [Ce p 88 [.pointer (some ⟨p, 0, none⟩), v]] := by
  rcases hq with rfl | rfl
  · exact copyCheck_nil p v
  · exact copyCheck_own p v

theorem WriteString_sp (p : Nat) (l s : List UInt8) (h : l.length + s.length ≤ 140737488355328) : Sp1 Try.prog 40 [.pointer (some ⟨p, 0, none⟩), vS s] [IsB p l] (.tuple #[vI s.length, .nilIface]) [IsB p (l ++ s)] := by
  refine Sp.body (n := 19) Try.call40 Try.func40 rfl rfl rfl ?_
  refine wc_exi fun q1 => wc_exi fun q2 => wc_al (wc_pu fun hq => ?_)
  refine p_seq rfl ?_
  refine p_region rfl ?_
  refine wo_pv (pv_assign rfl) rfl ?_
  refine wo_pv (pv_assign rfl) rfl ?_
  refine q_seq ?_
  refine p_seq rfl ?_
  refine p_region rfl ?_
  refine wo_pv (pv_move rfl) rfl ?_
  refine r_call1 (copyCheck_sp p q1 q2 hq.1) rfl rfl rfl ?_
  refine q_seq ?_
  refine p_seq rfl ?_
  refine p_region rfl ?_
  refine wo_pv (pv_move rfl) rfl ?_
  refine wo_pv (pv_move rfl) rfl ?_
  refine wo_pv (by first | exact pv_nilCheck_p rfl | exact pv_nilCheck_f rfl) rfl ?_
  refine wo_pv (pv_fieldAddrk Try.underlying88 rfl ti44 rfl rfl (k := 1) rfl (by first | exact Nat.zero_add _ | exact Nat.add_zero _ | exact rfl)) rfl ?_
  refine r_load Try.underlying44 rfl rfl rfl rfl ?_
  refine wo_pv (pv_move rfl) rfl ?_
  refine wo_opT (by intro c; simp) (opt_appendS Try.underlying44 Try.underlying9 ti5 rfl rfl rfl rfl rfl h (xs := vUs l)) rfl (fun x14 hx14 => ?_)
  obtain ⟨⟨a14, c14, rfl⟩, hx14⟩ := hx14
  refine wo_pv (by first | exact pv_nilCheck_p rfl | exact pv_nilCheck_f rfl) rfl ?_
  refine wo_pv (pv_fieldAddrk Try.underlying88 rfl ti44 rfl rfl (k := 1) rfl (by first | exact Nat.zero_add _ | exact Nat.add_zero _ | exact rfl)) rfl ?_
  refine r_store ti44 rfl rfl rfl rfl (by simp) ?_
  refine q_seq ?_
  refine p_seq rfl ?_
  refine p_region rfl ?_
  refine wo_pv (pv_move rfl) rfl ?_
  refine wo_pv (pv_call_len_s Try.underlying9 rfl) rfl ?_
  refine wo_pv (pv_assign rfl) rfl ?_
  refine wo_pv (pv_assign rfl) rfl ?_
  refine q_seq ?_
  refine p_ret rfl ?_
  refine fin_ret () (vs := [_, _]) (Cs := []) rfl (.tmp rfl (.tmp rfl .nil)) rfl trivial ?_
  refine ent_ex (.pointer (some ⟨p, 0, none⟩)) ?_
  refine ent_ex (.slice a14 (l.length + s.length) c14) ?_
  refine ent_al ?_
  have e1 : (l ++ s).length = l.length + s.length := List.length_append
  have e2 : vUs (l ++ s) = vUs l ++ vUs s := by simp [vUs]
  rw [e1, e2]
  refine ent_pu ⟨.inr rfl, fun e => hx14 e (hq.2 (by omega))⟩ ent_pick

theorem String_nil (p : Nat) (q1 : Value) : wc none Try.prog 14 (bodyOf Try.f42) (locs 0 [.pointer (some ⟨p, 0, none⟩)]) [Ce p 88 [q1, .slice none 0 0]] (finO Try.prog Try.f42 (fun _ : Unit => vS []) (fun _ => True) (fun _ => [])) := by
  refine p_seq rfl ?_
  refine p_region rfl ?_
  refine wo_pv (pv_assign rfl) rfl ?_
  refine q_seq ?_
  refine p_seq rfl ?_
  refine d_draw rfl rfl rfl [Ce p 88 [q1, .slice none 0 0]] ?_
  refine d_first 0 rfl rfl rfl (by kernel_rfl) (by kernel_rfl) (tl_pv (pv_move rfl)) ?_
  refine d_first 1 rfl rfl rfl (by kernel_rfl) (by kernel_rfl) (tl_pv (by first | exact pv_nilCheck_p rfl | exact pv_nilCheck_f rfl)) ?_
  refine d_first 2 rfl rfl rfl (by kernel_rfl) (by kernel_rfl) (tl_pv (pv_fieldAddrk Try.underlying88 rfl ti44 rfl rfl (k := 1) rfl (by first | exact Nat.zero_add _ | exact Nat.add_zero _ | exact rfl))) ?_
  refine d_first 3 rfl rfl rfl (by kernel_rfl) (by kernel_rfl) (tl_load Try.underlying44 rfl rfl rfl) ?_
  refine d_first 4 rfl rfl rfl (by kernel_rfl) (by kernel_rfl) (tl_pv (pv_usd_nil rfl)) ?_
  refine d_first 5 rfl rfl rfl (by kernel_rfl) (by kernel_rfl) (tl_pv (pv_move rfl)) ?_
  refine d_first 6 rfl rfl rfl (by kernel_rfl) (by kernel_rfl) (tl_pv (by first | exact pv_nilCheck_p rfl | exact pv_nilCheck_f rfl)) ?_
  refine d_first 7 rfl rfl rfl (by kernel_rfl) (by kernel_rfl) (tl_pv (pv_fieldAddrk Try.underlying88 rfl ti44 rfl rfl (k := 1) rfl (by first | exact Nat.zero_add _ | exact Nat.add_zero _ | exact rfl))) ?_
  refine d_first 8 rfl rfl rfl (by kernel_rfl) (by kernel_rfl) (tl_load Try.underlying44 rfl rfl rfl) ?_
  refine d_first 9 rfl rfl rfl (by kernel_rfl) (by kernel_rfl) (tl_pv (pv_call_len_sl Try.underlying44 rfl)) ?_
  refine d_first 10 rfl rfl rfl (by kernel_rfl) (by kernel_rfl) (tl_pv (pv_us_none rfl rfl)) ?_
  refine d_first 11 rfl rfl rfl (by kernel_rfl) (by kernel_rfl) (tl_pv (pv_assign rfl)) ?_
  refine d_done (by kernel_rfl) ?_
  refine t_seq ?_
  refine p_ret rfl ?_
  exact fin_ret () (vs := [_]) (Cs := []) rfl (.tmp rfl .nil) rfl trivial ent_nil
theorem String_own (p : Nat) (q1 : Value) (g cap : Nat) (cur : List Value) (l : List UInt8) (h0 : l ≠ []) (hc : l.length ≤ cap) (hcur : cur.take l.length = vUs l) (h : l.length ≤ 140737488355328) :
    wc none Try.prog 14 (bodyOf Try.f42) (locs 0 [.pointer (some ⟨p, 0, none⟩)]) [Ce g 5 cur, Ce p 88 [q1, .slice (some ⟨g, 0, none⟩) l.length cap]] (finO Try.prog Try.f42 (fun _ : Unit => vS l) (fun _ => True) (fun _ => [])) := by
  have hl0 : l.length ≠ 0 := by simpa using h0
  refine p_seq rfl ?_
  refine p_region rfl ?_
  refine wo_pv (pv_assign rfl) rfl ?_
  refine q_seq ?_
  refine p_seq rfl ?_
  refine d_draw rfl rfl rfl [Ce p 88 [q1, .slice (some ⟨g, 0, none⟩) l.length cap]] ?_
  refine d_first 0 rfl rfl rfl (by kernel_rfl) (by kernel_rfl) (tl_pv (pv_move rfl)) ?_
  refine d_first 1 rfl rfl rfl (by kernel_rfl) (by kernel_rfl) (tl_pv (by first | exact pv_nilCheck_p rfl | exact pv_nilCheck_f rfl)) ?_
  refine d_first 2 rfl rfl rfl (by kernel_rfl) (by kernel_rfl) (tl_pv (pv_fieldAddrk Try.underlying88 rfl ti44 rfl rfl (k := 1) rfl (by first | exact Nat.zero_add _ | exact Nat.add_zero _ | exact rfl))) ?_
  refine d_first 3 rfl rfl rfl (by kernel_rfl) (by kernel_rfl) (tl_load Try.underlying44 rfl rfl rfl) ?_
  refine d_first 4 rfl rfl rfl (by kernel_rfl) (by kernel_rfl) (tl_pv (pv_usd_row rfl (by omega))) ?_
  refine d_first 5 rfl rfl rfl (by kernel_rfl) (by kernel_rfl) (tl_pv (pv_move rfl)) ?_
  refine d_first 6 rfl rfl rfl (by kernel_rfl) (by kernel_rfl) (tl_pv (by first | exact pv_nilCheck_p rfl | exact pv_nilCheck_f rfl)) ?_
  refine d_first 7 rfl rfl rfl (by kernel_rfl) (by kernel_rfl) (tl_pv (pv_fieldAddrk Try.underlying88 rfl ti44 rfl rfl (k := 1) rfl (by first | exact Nat.zero_add _ | exact Nat.add_zero _ | exact rfl))) ?_
  refine d_first 8 rfl rfl rfl (by kernel_rfl) (by kernel_rfl) (tl_load Try.underlying44 rfl rfl rfl) ?_
  refine d_first 9 rfl rfl rfl (by kernel_rfl) (by kernel_rfl) (tl_pv (pv_call_len_sl Try.underlying44 rfl)) ?_
  refine d_next 10 (by kernel_rfl) rfl ?_
  refine an_opT (opt_us_row Try.underlying117 (by kernel_rfl) rfl rfl h0 (by omega) hcur) rfl (fun _ _ => ?_)
  refine d_first 11 rfl rfl rfl (by kernel_rfl) (by kernel_rfl) (tl_pv (pv_assign rfl)) ?_
  refine d_done (by kernel_rfl) ?_
  refine t_seq ?_
  refine p_ret rfl ?_
  exact fin_ret () (vs := [_]) (Cs := []) rfl (.tmp rfl .nil) rfl trivial ent_nil

theorem String_sp (p : Nat) (l : List UInt8) (h : l.length ≤ 140737488355328) : Sp1 Try.prog 42 [.pointer (some ⟨p, 0, none⟩)] [IsB p l] (vS l) [] := by
  refine Sp.body (n := 14) Try.call42 Try.func42 rfl rfl rfl ?_
  refine wc_exi fun q1 => wc_exi fun q2 => wc_al (wc_pu fun hq => ?_)
  refine wc_front (Row 5 1 q2 l.length (vUs l)) (wc_row (fun e1 e2 e3 => ?_) (fun g cap cur e1 e2 e3 e4 e5 e6 => ?_))
  · subst e1
    have e4 : l = [] := List.eq_nil_of_length_eq_zero e2
    subst e4
    exact String_nil p q1
  · subst e1
    have h0 : l ≠ [] := fun x => by have := hq.2 (by rw [x]; rfl); cases this
    exact String_own p q1 g cap cur l h0 e2 (by simpa using e6) h
end Go.Proofs.Ytimafngkifakfaa
