/- Texts of this proof, put together: P19L, P19G, P19H, P19M, SSameS, SSameLf, MapIns, SChain18, LawHeadsRuns, MapXL, SBook, LawHeadsGrow. -/
import Derived.Test.YtdnoacgopfcpbaaGreatQ21
set_option linter.unusedVariables false
set_option linter.unusedSimpArgs false
namespace Go.Proofs.YtdnoacgopfcpbaaGreat
section
set_option maxRecDepth 100000
/-- A line of check-ins. -/
def gwX : Nat → Bs
 | 0 => shaB (ckB (ckMe [] [] me 0))
 | i + 1 => shaB (ckB (ckMe [gwX i] [] me ((i + 1 : Nat) : Int)))
def gwT : List Tg := [⟨42, brB, [42], [97]⟩]
/-- One more, from any of them. -/
def gzC (own : Bool) (i : Nat) : Ck := ckMe [gwX i] (if own then gwT else []) me 50
def gzX (own : Bool) (i : Nat) : Bs := shaB (ckB (gzC own i))
theorem gw0_b : bodyB (ckCards (ckMe [] [] me 0)) = [67, 32, 46, 10, 68, 32, 48, 10, 85, 32, 109, 101, 10] := by decide +kernel
theorem gw0_s : shaN [67, 32, 46, 10, 68, 32, 48, 10, 85, 32, 109, 101, 10] = [49, 51, 48, 53, 97, 52, 97, 102, 101, 100, 51, 53, 49, 99, 54, 55, 52, 54, 52, 101, 56, 49, 52, 50, 49, 55, 56, 51, 101, 97, 98, 50, 55, 52, 97, 48, 97, 56, 57, 56] := by decide +kernel
theorem gw0_t : ckB (ckMe [] [] me 0) = [67, 32, 46, 10, 68, 32, 48, 10, 85, 32, 109, 101, 10, 90, 32, 49, 51, 48, 53, 97, 52, 97, 102, 101, 100, 51, 53, 49, 99, 54, 55, 52, 54, 52, 101, 56, 49, 52, 50, 49, 55, 56, 51, 101, 97, 98, 50, 55, 52, 97, 48, 97, 56, 57, 56, 10] := by rw [ckB, printB, gw0_b, sealB, ← shaN_eq, gw0_s]; rfl
theorem gw0_x : shaB (ckB (ckMe [] [] me 0)) = [99, 52, 97, 54, 54, 52, 54, 99, 49, 57, 48, 48, 98, 101, 100, 51, 101, 54, 48, 50, 52, 53, 100, 56, 51, 52, 50, 56, 100, 97, 100, 50, 97, 52, 50, 53, 55, 51, 48, 53] := by rw [gw0_t, ← shaN_eq]; decide +kernel
theorem gwX_0 : gwX 0 = [99, 52, 97, 54, 54, 52, 54, 99, 49, 57, 48, 48, 98, 101, 100, 51, 101, 54, 48, 50, 52, 53, 100, 56, 51, 52, 50, 56, 100, 97, 100, 50, 97, 52, 50, 53, 55, 51, 48, 53] := gw0_x
theorem gw1_b : bodyB (ckCards (ckMe [[99, 52, 97, 54, 54, 52, 54, 99, 49, 57, 48, 48, 98, 101, 100, 51, 101, 54, 48, 50, 52, 53, 100, 56, 51, 52, 50, 56, 100, 97, 100, 50, 97, 52, 50, 53, 55, 51, 48, 53]] [] me 1)) = [67, 32, 46, 10, 68, 32, 49, 10, 80, 32, 99, 52, 97, 54, 54, 52, 54, 99, 49, 57, 48, 48, 98, 101, 100, 51, 101, 54, 48, 50, 52, 53, 100, 56, 51, 52, 50, 56, 100, 97, 100, 50, 97, 52, 50, 53, 55, 51, 48, 53, 10, 85, 32, 109, 101, 10] := by decide +kernel
theorem gw1_s : shaN [67, 32, 46, 10, 68, 32, 49, 10, 80, 32, 99, 52, 97, 54, 54, 52, 54, 99, 49, 57, 48, 48, 98, 101, 100, 51, 101, 54, 48, 50, 52, 53, 100, 56, 51, 52, 50, 56, 100, 97, 100, 50, 97, 52, 50, 53, 55, 51, 48, 53, 10, 85, 32, 109, 101, 10] = [100, 52, 55, 98, 53, 53, 102, 102, 50, 52, 98, 51, 55, 56, 56, 49, 100, 57, 48, 101, 53, 102, 51, 51, 97, 50, 53, 101, 51, 56, 102, 52, 100, 97, 51, 53, 48, 48, 51, 56] := by decide +kernel
theorem gw1_t : ckB (ckMe [[99, 52, 97, 54, 54, 52, 54, 99, 49, 57, 48, 48, 98, 101, 100, 51, 101, 54, 48, 50, 52, 53, 100, 56, 51, 52, 50, 56, 100, 97, 100, 50, 97, 52, 50, 53, 55, 51, 48, 53]] [] me 1) = [67, 32, 46, 10, 68, 32, 49, 10, 80, 32, 99, 52, 97, 54, 54, 52, 54, 99, 49, 57, 48, 48, 98, 101, 100, 51, 101, 54, 48, 50, 52, 53, 100, 56, 51, 52, 50, 56, 100, 97, 100, 50, 97, 52, 50, 53, 55, 51, 48, 53, 10, 85, 32, 109, 101, 10, 90, 32, 100, 52, 55, 98, 53, 53, 102, 102, 50, 52, 98, 51, 55, 56, 56, 49, 100, 57, 48, 101, 53, 102, 51, 51, 97, 50, 53, 101, 51, 56, 102, 52, 100, 97, 51, 53, 48, 48, 51, 56, 10] := by rw [ckB, printB, gw1_b, sealB, ← shaN_eq, gw1_s]; rfl
theorem gw1_x : shaB (ckB (ckMe [[99, 52, 97, 54, 54, 52, 54, 99, 49, 57, 48, 48, 98, 101, 100, 51, 101, 54, 48, 50, 52, 53, 100, 56, 51, 52, 50, 56, 100, 97, 100, 50, 97, 52, 50, 53, 55, 51, 48, 53]] [] me 1)) = [98, 54, 99, 53, 101, 53, 49, 101, 102, 48, 99, 52, 100, 100, 52, 97, 101, 53, 49, 98, 53, 49, 51, 50, 51, 49, 100, 48, 55, 57, 49, 99, 48, 57, 52, 57, 99, 98, 48, 55] := by rw [gw1_t, ← shaN_eq]; decide +kernel
theorem gwX_1 : gwX 1 = [98, 54, 99, 53, 101, 53, 49, 101, 102, 48, 99, 52, 100, 100, 52, 97, 101, 53, 49, 98, 53, 49, 51, 50, 51, 49, 100, 48, 55, 57, 49, 99, 48, 57, 52, 57, 99, 98, 48, 55] := by
 rw [show gwX 1 = shaB (ckB (ckMe [gwX 0] [] me 1)) from rfl, gwX_0]; exact gw1_x
theorem gw2_b : bodyB (ckCards (ckMe [[98, 54, 99, 53, 101, 53, 49, 101, 102, 48, 99, 52, 100, 100, 52, 97, 101, 53, 49, 98, 53, 49, 51, 50, 51, 49, 100, 48, 55, 57, 49, 99, 48, 57, 52, 57, 99, 98, 48, 55]] [] me 2)) = [67, 32, 46, 10, 68, 32, 50, 10, 80, 32, 98, 54, 99, 53, 101, 53, 49, 101, 102, 48, 99, 52, 100, 100, 52, 97, 101, 53, 49, 98, 53, 49, 51, 50, 51, 49, 100, 48, 55, 57, 49, 99, 48, 57, 52, 57, 99, 98, 48, 55, 10, 85, 32, 109, 101, 10] := by decide +kernel
theorem gw2_s : shaN [67, 32, 46, 10, 68, 32, 50, 10, 80, 32, 98, 54, 99, 53, 101, 53, 49, 101, 102, 48, 99, 52, 100, 100, 52, 97, 101, 53, 49, 98, 53, 49, 51, 50, 51, 49, 100, 48, 55, 57, 49, 99, 48, 57, 52, 57, 99, 98, 48, 55, 10, 85, 32, 109, 101, 10] = [50, 53, 97, 52, 56, 99, 53, 53, 49, 100, 57, 97, 56, 54, 54, 54, 56, 49, 49, 57, 56, 100, 51, 102, 51, 98, 52, 55, 53, 101, 55, 97, 98, 50, 54, 99, 97, 52, 51, 100] := by decide +kernel
theorem gw2_t : ckB (ckMe [[98, 54, 99, 53, 101, 53, 49, 101, 102, 48, 99, 52, 100, 100, 52, 97, 101, 53, 49, 98, 53, 49, 51, 50, 51, 49, 100, 48, 55, 57, 49, 99, 48, 57, 52, 57, 99, 98, 48, 55]] [] me 2) = [67, 32, 46, 10, 68, 32, 50, 10, 80, 32, 98, 54, 99, 53, 101, 53, 49, 101, 102, 48, 99, 52, 100, 100, 52, 97, 101, 53, 49, 98, 53, 49, 51, 50, 51, 49, 100, 48, 55, 57, 49, 99, 48, 57, 52, 57, 99, 98, 48, 55, 10, 85, 32, 109, 101, 10, 90, 32, 50, 53, 97, 52, 56, 99, 53, 53, 49, 100, 57, 97, 56, 54, 54, 54, 56, 49, 49, 57, 56, 100, 51, 102, 51, 98, 52, 55, 53, 101, 55, 97, 98, 50, 54, 99, 97, 52, 51, 100, 10] := by rw [ckB, printB, gw2_b, sealB, ← shaN_eq, gw2_s]; rfl
theorem gw2_x : shaB (ckB (ckMe [[98, 54, 99, 53, 101, 53, 49, 101, 102, 48, 99, 52, 100, 100, 52, 97, 101, 53, 49, 98, 53, 49, 51, 50, 51, 49, 100, 48, 55, 57, 49, 99, 48, 57, 52, 57, 99, 98, 48, 55]] [] me 2)) = [56, 99, 57, 97, 50, 54, 53, 56, 50, 99, 99, 99, 102, 52, 100, 48, 54, 51, 98, 49, 98, 51, 51, 52, 50, 51, 52, 100, 102, 50, 97, 57, 102, 56, 98, 51, 55, 101, 49, 57] := by rw [gw2_t, ← shaN_eq]; decide +kernel
theorem gwX_2 : gwX 2 = [56, 99, 57, 97, 50, 54, 53, 56, 50, 99, 99, 99, 102, 52, 100, 48, 54, 51, 98, 49, 98, 51, 51, 52, 50, 51, 52, 100, 102, 50, 97, 57, 102, 56, 98, 51, 55, 101, 49, 57] := by
 rw [show gwX 2 = shaB (ckB (ckMe [gwX 1] [] me 2)) from rfl, gwX_1]; exact gw2_x
theorem gw3_b : bodyB (ckCards (ckMe [[56, 99, 57, 97, 50, 54, 53, 56, 50, 99, 99, 99, 102, 52, 100, 48, 54, 51, 98, 49, 98, 51, 51, 52, 50, 51, 52, 100, 102, 50, 97, 57, 102, 56, 98, 51, 55, 101, 49, 57]] [] me 3)) = [67, 32, 46, 10, 68, 32, 51, 10, 80, 32, 56, 99, 57, 97, 50, 54, 53, 56, 50, 99, 99, 99, 102, 52, 100, 48, 54, 51, 98, 49, 98, 51, 51, 52, 50, 51, 52, 100, 102, 50, 97, 57, 102, 56, 98, 51, 55, 101, 49, 57, 10, 85, 32, 109, 101, 10] := by decide +kernel
theorem gw3_s : shaN [67, 32, 46, 10, 68, 32, 51, 10, 80, 32, 56, 99, 57, 97, 50, 54, 53, 56, 50, 99, 99, 99, 102, 52, 100, 48, 54, 51, 98, 49, 98, 51, 51, 52, 50, 51, 52, 100, 102, 50, 97, 57, 102, 56, 98, 51, 55, 101, 49, 57, 10, 85, 32, 109, 101, 10] = [99, 56, 56, 56, 48, 101, 100, 101, 100, 98, 99, 56, 53, 50, 49, 49, 99, 48, 53, 55, 52, 100, 57, 102, 49, 48, 98, 100, 50, 51, 99, 55, 49, 56, 98, 53, 101, 57, 98, 97] := by decide +kernel
theorem gw3_t : ckB (ckMe [[56, 99, 57, 97, 50, 54, 53, 56, 50, 99, 99, 99, 102, 52, 100, 48, 54, 51, 98, 49, 98, 51, 51, 52, 50, 51, 52, 100, 102, 50, 97, 57, 102, 56, 98, 51, 55, 101, 49, 57]] [] me 3) = [67, 32, 46, 10, 68, 32, 51, 10, 80, 32, 56, 99, 57, 97, 50, 54, 53, 56, 50, 99, 99, 99, 102, 52, 100, 48, 54, 51, 98, 49, 98, 51, 51, 52, 50, 51, 52, 100, 102, 50, 97, 57, 102, 56, 98, 51, 55, 101, 49, 57, 10, 85, 32, 109, 101, 10, 90, 32, 99, 56, 56, 56, 48, 101, 100, 101, 100, 98, 99, 56, 53, 50, 49, 49, 99, 48, 53, 55, 52, 100, 57, 102, 49, 48, 98, 100, 50, 51, 99, 55, 49, 56, 98, 53, 101, 57, 98, 97, 10] := by rw [ckB, printB, gw3_b, sealB, ← shaN_eq, gw3_s]; rfl
theorem gw3_x : shaB (ckB (ckMe [[56, 99, 57, 97, 50, 54, 53, 56, 50, 99, 99, 99, 102, 52, 100, 48, 54, 51, 98, 49, 98, 51, 51, 52, 50, 51, 52, 100, 102, 50, 97, 57, 102, 56, 98, 51, 55, 101, 49, 57]] [] me 3)) = [48, 50, 49, 99, 54, 102, 49, 55, 56, 97, 100, 54, 49, 98, 52, 49, 54, 48, 99, 48, 99, 50, 98, 100, 53, 100, 53, 55, 53, 98, 57, 50, 55, 52, 52, 97, 100, 52, 97, 48] := by rw [gw3_t, ← shaN_eq]; decide +kernel
theorem gwX_3 : gwX 3 = [48, 50, 49, 99, 54, 102, 49, 55, 56, 97, 100, 54, 49, 98, 52, 49, 54, 48, 99, 48, 99, 50, 98, 100, 53, 100, 53, 55, 53, 98, 57, 50, 55, 52, 52, 97, 100, 52, 97, 48] := by
 rw [show gwX 3 = shaB (ckB (ckMe [gwX 2] [] me 3)) from rfl, gwX_2]; exact gw3_x
theorem gw4_b : bodyB (ckCards (ckMe [[48, 50, 49, 99, 54, 102, 49, 55, 56, 97, 100, 54, 49, 98, 52, 49, 54, 48, 99, 48, 99, 50, 98, 100, 53, 100, 53, 55, 53, 98, 57, 50, 55, 52, 52, 97, 100, 52, 97, 48]] [] me 4)) = [67, 32, 46, 10, 68, 32, 52, 10, 80, 32, 48, 50, 49, 99, 54, 102, 49, 55, 56, 97, 100, 54, 49, 98, 52, 49, 54, 48, 99, 48, 99, 50, 98, 100, 53, 100, 53, 55, 53, 98, 57, 50, 55, 52, 52, 97, 100, 52, 97, 48, 10, 85, 32, 109, 101, 10] := by decide +kernel
theorem gw4_s : shaN [67, 32, 46, 10, 68, 32, 52, 10, 80, 32, 48, 50, 49, 99, 54, 102, 49, 55, 56, 97, 100, 54, 49, 98, 52, 49, 54, 48, 99, 48, 99, 50, 98, 100, 53, 100, 53, 55, 53, 98, 57, 50, 55, 52, 52, 97, 100, 52, 97, 48, 10, 85, 32, 109, 101, 10] = [49, 53, 102, 53, 57, 50, 50, 50, 97, 97, 99, 54, 49, 99, 56, 100, 99, 53, 97, 102, 48, 52, 48, 54, 57, 49, 53, 49, 49, 102, 102, 55, 57, 55, 52, 53, 53, 53, 50, 52] := by decide +kernel
theorem gw4_t : ckB (ckMe [[48, 50, 49, 99, 54, 102, 49, 55, 56, 97, 100, 54, 49, 98, 52, 49, 54, 48, 99, 48, 99, 50, 98, 100, 53, 100, 53, 55, 53, 98, 57, 50, 55, 52, 52, 97, 100, 52, 97, 48]] [] me 4) = [67, 32, 46, 10, 68, 32, 52, 10, 80, 32, 48, 50, 49, 99, 54, 102, 49, 55, 56, 97, 100, 54, 49, 98, 52, 49, 54, 48, 99, 48, 99, 50, 98, 100, 53, 100, 53, 55, 53, 98, 57, 50, 55, 52, 52, 97, 100, 52, 97, 48, 10, 85, 32, 109, 101, 10, 90, 32, 49, 53, 102, 53, 57, 50, 50, 50, 97, 97, 99, 54, 49, 99, 56, 100, 99, 53, 97, 102, 48, 52, 48, 54, 57, 49, 53, 49, 49, 102, 102, 55, 57, 55, 52, 53, 53, 53, 50, 52, 10] := by rw [ckB, printB, gw4_b, sealB, ← shaN_eq, gw4_s]; rfl
theorem gw4_x : shaB (ckB (ckMe [[48, 50, 49, 99, 54, 102, 49, 55, 56, 97, 100, 54, 49, 98, 52, 49, 54, 48, 99, 48, 99, 50, 98, 100, 53, 100, 53, 55, 53, 98, 57, 50, 55, 52, 52, 97, 100, 52, 97, 48]] [] me 4)) = [102, 52, 97, 101, 55, 50, 48, 101, 100, 49, 50, 52, 101, 52, 99, 98, 100, 57, 49, 48, 101, 97, 53, 55, 50, 52, 51, 54, 57, 57, 49, 53, 52, 57, 99, 52, 99, 100, 55, 56] := by rw [gw4_t, ← shaN_eq]; decide +kernel
theorem gwX_4 : gwX 4 = [102, 52, 97, 101, 55, 50, 48, 101, 100, 49, 50, 52, 101, 52, 99, 98, 100, 57, 49, 48, 101, 97, 53, 55, 50, 52, 51, 54, 57, 57, 49, 53, 52, 57, 99, 52, 99, 100, 55, 56] := by
 rw [show gwX 4 = shaB (ckB (ckMe [gwX 3] [] me 4)) from rfl, gwX_3]; exact gw4_x
theorem gw5_b : bodyB (ckCards (ckMe [[102, 52, 97, 101, 55, 50, 48, 101, 100, 49, 50, 52, 101, 52, 99, 98, 100, 57, 49, 48, 101, 97, 53, 55, 50, 52, 51, 54, 57, 57, 49, 53, 52, 57, 99, 52, 99, 100, 55, 56]] [] me 5)) = [67, 32, 46, 10, 68, 32, 53, 10, 80, 32, 102, 52, 97, 101, 55, 50, 48, 101, 100, 49, 50, 52, 101, 52, 99, 98, 100, 57, 49, 48, 101, 97, 53, 55, 50, 52, 51, 54, 57, 57, 49, 53, 52, 57, 99, 52, 99, 100, 55, 56, 10, 85, 32, 109, 101, 10] := by decide +kernel
theorem gw5_s : shaN [67, 32, 46, 10, 68, 32, 53, 10, 80, 32, 102, 52, 97, 101, 55, 50, 48, 101, 100, 49, 50, 52, 101, 52, 99, 98, 100, 57, 49, 48, 101, 97, 53, 55, 50, 52, 51, 54, 57, 57, 49, 53, 52, 57, 99, 52, 99, 100, 55, 56, 10, 85, 32, 109, 101, 10] = [100, 102, 56, 97, 101, 100, 55, 101, 53, 54, 57, 49, 97, 57, 48, 54, 56, 49, 99, 48, 97, 49, 54, 102, 55, 100, 102, 51, 52, 98, 102, 97, 101, 102, 49, 49, 52, 102, 50, 101] := by decide +kernel
theorem gw5_t : ckB (ckMe [[102, 52, 97, 101, 55, 50, 48, 101, 100, 49, 50, 52, 101, 52, 99, 98, 100, 57, 49, 48, 101, 97, 53, 55, 50, 52, 51, 54, 57, 57, 49, 53, 52, 57, 99, 52, 99, 100, 55, 56]] [] me 5) = [67, 32, 46, 10, 68, 32, 53, 10, 80, 32, 102, 52, 97, 101, 55, 50, 48, 101, 100, 49, 50, 52, 101, 52, 99, 98, 100, 57, 49, 48, 101, 97, 53, 55, 50, 52, 51, 54, 57, 57, 49, 53, 52, 57, 99, 52, 99, 100, 55, 56, 10, 85, 32, 109, 101, 10, 90, 32, 100, 102, 56, 97, 101, 100, 55, 101, 53, 54, 57, 49, 97, 57, 48, 54, 56, 49, 99, 48, 97, 49, 54, 102, 55, 100, 102, 51, 52, 98, 102, 97, 101, 102, 49, 49, 52, 102, 50, 101, 10] := by rw [ckB, printB, gw5_b, sealB, ← shaN_eq, gw5_s]; rfl
theorem gw5_x : shaB (ckB (ckMe [[102, 52, 97, 101, 55, 50, 48, 101, 100, 49, 50, 52, 101, 52, 99, 98, 100, 57, 49, 48, 101, 97, 53, 55, 50, 52, 51, 54, 57, 57, 49, 53, 52, 57, 99, 52, 99, 100, 55, 56]] [] me 5)) = [99, 98, 52, 56, 49, 55, 99, 98, 98, 55, 102, 98, 98, 100, 51, 52, 51, 102, 56, 50, 48, 100, 98, 97, 102, 97, 55, 57, 102, 102, 101, 55, 55, 51, 50, 99, 100, 57, 50, 101] := by rw [gw5_t, ← shaN_eq]; decide +kernel
theorem gwX_5 : gwX 5 = [99, 98, 52, 56, 49, 55, 99, 98, 98, 55, 102, 98, 98, 100, 51, 52, 51, 102, 56, 50, 48, 100, 98, 97, 102, 97, 55, 57, 102, 102, 101, 55, 55, 51, 50, 99, 100, 57, 50, 101] := by
 rw [show gwX 5 = shaB (ckB (ckMe [gwX 4] [] me 5)) from rfl, gwX_4]; exact gw5_x
theorem gw_nodup : ((List.range 6).map gwX).Nodup := by
 rw [show (List.range 6).map gwX = [gwX 0, gwX 1, gwX 2, gwX 3, gwX 4, gwX 5] from rfl, gwX_0, gwX_1, gwX_2, gwX_3, gwX_4, gwX_5]; decide +kernel
end
section
def gwC (i : Nat) : Ck := ckMe (if i = 0 then [] else [gwX (i - 1)]) [] me (i : Int)
theorem gwX_eq (i : Nat) : gwX i = shaB (ckB (gwC i)) := by
 cases i with
 | zero => rw [gwX, gwC, if_pos rfl]; rfl
 | succ i => rw [gwX, gwC, if_neg (by omega), Nat.add_sub_cancel]
theorem gwX_n (i : Nat) : isN (gwX i) = true := by rw [gwX_eq]; exact isN_sha _
theorem gwX_len (i : Nat) : (gwX i).length = 40 := isN_len (gwX_n i)
theorem gwX_ne {s : Bs} (h : s.length ≠ 40) (i : Nat) : gwX i ≠ s := fun e => h (by rw [← e]; exact gwX_len i)
theorem gw_inj {i j : Nat} (hi : i < 6) (hj : j < 6) (h : gwX i = gwX j) : i = j := by
 have h1 : i < ((List.range 6).map gwX).length := by simpa using hi
 have h2 : j < ((List.range 6).map gwX).length := by simpa using hj
 exact nodup_inj gw_nodup h1 h2 (by simpa using h)
theorem gwC_right {i : Nat} (h : i < 6) : RightK (gwC i) := by
 unfold gwC
 refine right_me ?_ ?_ ?_ right_t0 me_word (by omega)
 · intro p hp
   split at hp
   · cases hp
   · rw [List.mem_singleton.1 hp]; exact gwX_n _
 · split <;> simp
 · split <;> simp
theorem gwC_first0 : firstB (gwC 0) = [] := rfl
theorem gwC_first (i : Nat) : firstB (gwC (i + 1)) = gwX i := by rw [gwC, if_neg (by omega), Nat.add_sub_cancel]; rfl
def gL (k : Nat) : List (Bs × Bs) := (List.range k).map fun i => (gwX i, ckB (gwC i))
theorem gL_succ (k : Nat) : gL (k + 1) = gL k ++ [(gwX k, ckB (gwC k))] := by simp [gL, List.range_succ]
theorem gL_mem {k : Nat} {p : Bs × Bs} : p ∈ gL k ↔ ∃ i, i < k ∧ p = (gwX i, ckB (gwC i)) := by
 unfold gL
 rw [List.mem_map]
 exact ⟨fun ⟨i, hi, e⟩ => ⟨i, List.mem_range.1 hi, e.symm⟩, fun ⟨i, hi, e⟩ => ⟨i, List.mem_range.2 hi, e.symm⟩⟩
theorem gL_names (k : Nat) : (gL k).map (·.1) = (List.range k).map gwX := by simp [gL]
theorem gL_put {K : Ks} {k : Nat} (h : HeldP K (gL k)) (hk : k < 6) : HeldP (mput K (gwX k) (vS (ckB (gwC k)))) (gL (k + 1)) := by
 rw [gL_succ]
 refine h.put ?_ (Nat.le_trans (ckB_len (gwC_right hk)) (by decide))
 rw [gL_names]
 intro hm
 obtain ⟨i, hi, e⟩ := List.mem_map.1 hm
 have hi := List.mem_range.1 hi
 have := gw_inj (by omega) hk e
 omega
/-- The check-ins that are held are the line's. -/
structure GwH (K : Ks) (k : Nat) : Prop where
 hk : k ≤ 6
 ck : ∀ x, x ∈ cksL K ↔ ∃ i, i < k ∧ x = (gwX i, gwC i)
 nd : ((cksL K).map (·.1)).Nodup
theorem gw_read {i : Nat} (h : i < 6) : readK (ckB (gwC i)) = some (gwC i) := right_read (gwC_right h)
theorem gwH_of {K : Ks} {k : Nat} {R : List (Bs × Bs)} (hk : k ≤ 6) (h : HeldP K (gL k ++ R)) (hR : ∀ p ∈ R, readK p.2 = none) : GwH K k := by
 refine ⟨hk, fun x => ?_, h.cnd⟩
 rw [h.cks]
 constructor
 · rintro ⟨p, hp, e1, e2⟩
   rcases List.mem_append.1 hp with hp | hp
   · obtain ⟨i, hi, rfl⟩ := gL_mem.1 hp
     rw [gw_read (by omega)] at e2
     exact ⟨i, hi, Prod.ext e1.symm (Option.some.inj e2).symm⟩
   · rw [hR p hp] at e2; cases e2
 · rintro ⟨i, hi, rfl⟩
   exact ⟨(gwX i, ckB (gwC i)), List.mem_append_left _ (gL_mem.2 ⟨i, hi, rfl⟩), rfl, gw_read (by omega)⟩
theorem clook_mem {C : List (Bs × Ck)} (hn : (C.map (·.1)).Nodup) {n : Bs} {c : Ck} : clook C n = some c ↔ (n, c) ∈ C := by
 induction C with
 | nil => simp [clook]
 | cons a r ih =>
   simp only [List.map_cons, List.nodup_cons] at hn
   rw [clook, List.mem_cons]
   by_cases h : a.1 = n
   · rw [if_pos h]
     constructor
     · intro e
       left
       exact Prod.ext h.symm (Option.some.inj e).symm
     · rintro (e | e)
       · rw [← e]
       · exact absurd (by rw [h]; exact List.mem_map_of_mem (f := fun p : Bs × Ck => p.1) e) hn.1
   · rw [if_neg h, ih hn.2]
     exact ⟨.inr, fun e => e.resolve_left (fun e => h (by rw [← e]))⟩
section
variable {K : Ks} {k : Nat} (h : GwH K k)
include h
theorem GwH.look {i : Nat} (hi : i < k) : clook (cksL K) (gwX i) = some (gwC i) := (clook_mem h.nd).2 ((h.ck _).2 ⟨i, hi, rfl⟩)
theorem GwH.look0 {n : Bs} (hn : n.length ≠ 40) : clook (cksL K) n = none := by
 cases e : clook (cksL K) n with
 | none => rfl
 | some c =>
   obtain ⟨i, hi, e2⟩ := (h.ck _).1 ((clook_mem h.nd).1 e)
   exact absurd (congrArg Prod.fst e2).symm (gwX_ne hn i)
theorem GwH.len : (cksL K).length = k := by
 have h1 : ((cksL K).map (·.1)).Perm ((List.range k).map gwX) := by
  refine (List.perm_ext_iff_of_nodup h.nd ?_).2 fun n => ?_
  · refine List.Nodup.sublist ?_ gw_nodup
    have : (List.range k).Sublist (List.range 6) := List.range_sublist.2 h.hk
    exact this.map _
  · constructor
    · intro hm
      obtain ⟨x, hx, rfl⟩ := List.mem_map.1 hm
      obtain ⟨i, hi, rfl⟩ := (h.ck x).1 hx
      exact List.mem_map_of_mem (List.mem_range.2 hi)
    · intro hm
      obtain ⟨i, hi, rfl⟩ := List.mem_map.1 hm
      exact List.mem_map.2 ⟨(gwX i, gwC i), (h.ck _).2 ⟨i, List.mem_range.1 hi, rfl⟩, rfl⟩
 have := h1.length_eq
 simpa using this
theorem GwH.inner {i : Nat} (hi : i < k) (hb : ∀ j, j < k → brH K (gwX j) = brH K (gwX j)) : (∀ z ∈ cksL K, ¬ inC (brH K) (gwX i) z) ↔ (i + 1 < k → brH K (gwX i) ≠ brH K (gwX (i + 1))) := by
 have hk := h.hk
 constructor
 · intro hz hi2 e
   refine hz (gwX (i + 1), gwC (i + 1)) ((h.ck _).2 ⟨i + 1, hi2, rfl⟩) ⟨gwC_first i, ?_, ?_⟩
   · rw [gwC_first]
     intro e2
     have := gw_inj (by omega) (by omega) e2
     omega
   · rw [gwC_first]; exact e
 · intro hz z hm hc
   obtain ⟨j, hj, rfl⟩ := (h.ck z).1 hm
   obtain ⟨h1, h2, h3⟩ := hc
   dsimp only at h1 h2 h3
   cases j with
   | zero => rw [gwC_first0] at h1; exact gwX_ne (s := []) (by decide) i h1.symm
   | succ j =>
     rw [gwC_first] at h1 h3
     have := gw_inj (by omega) (by omega) h1
     subst this
     exact hz hj h3
theorem GwH.lv (y : Lf) : y ∈ lvL K ↔ ∃ i, i < k ∧ (i + 1 < k → brH K (gwX i) ≠ brH K (gwX (i + 1))) ∧ y = ⟨brH K (gwX i), gwX i⟩ := by
 rw [mem_lvL]
 constructor
 · rintro ⟨x, hx, hz, rfl⟩
   obtain ⟨i, hi, rfl⟩ := (h.ck x).1 hx
   exact ⟨i, hi, (h.inner hi (fun _ _ => rfl)).1 hz, rfl⟩
 · rintro ⟨i, hi, hz, rfl⟩
   exact ⟨(gwX i, gwC i), (h.ck _).2 ⟨i, hi, rfl⟩, (h.inner hi (fun _ _ => rfl)).2 hz, rfl⟩
/-- Nothing is said of the branch of those below the j-th one. -/
theorem GwH.low {j : Nat} (hl : ∀ i, i < j → llook (lastL K) (brB, gwX i) = none) (h0 : llook (lastL K) (brB, []) = none) {i : Nat} (hi : i < j) (hj : j ≤ k) : brH K (gwX i) = trB := by
 have hk := h.hk
 refine brH_no (fun n => n = [] ∨ ∃ i, i < j ∧ n = gwX i) (fun n hn => ?_) (fun n c hn hc => ?_) (.inr ⟨i, hi, rfl⟩)
 · rcases hn with rfl | ⟨i, hi, rfl⟩
   · exact h0
   · exact hl i hi
 · rcases hn with rfl | ⟨i, hi, rfl⟩
   · rw [h.look0 (by decide)] at hc; cases hc
   · rw [h.look (by omega)] at hc
     cases hc
     cases i with
     | zero => exact .inl gwC_first0
     | succ i => exact .inr ⟨i, by omega, gwC_first i⟩
/-- What is said of the j-th one is handed on. -/
theorem GwH.high {j : Nat} {s : Sd} (hj : j < k) (hs : llook (lastL K) (brB, gwX j) = some s) (h42 : s.op.kind = 42) (hv : s.op.value ≠ []) (hl : ∀ i, i ≠ j → i < k → llook (lastL K) (brB, gwX i) = none) {i : Nat} (hi : j ≤ i) (hik : i < k) : brH K (gwX i) = s.op.value := by
 have hk := h.hk
 have key : ∀ d, j + d < k → ∀ m, d < m → ∀ nm, ∃ b, wayF (cksL K) (lastL K) brB nm m (gwX (j + d)) = some ⟨brB, nm, s.op.value, s.src, true, b⟩ := by
  intro d
  induction d with
  | zero =>
    intro hd m hm nm
    obtain ⟨m', rfl⟩ : ∃ m', m = m' + 1 := ⟨m - 1, by omega⟩
    exact ⟨_, wayF_hit (h.look (by omega)) hs h42⟩
  | succ d ih =>
    intro hd m hm nm
    obtain ⟨m', rfl⟩ : ∃ m', m = m' + 1 := ⟨m - 1, by omega⟩
    rw [wayF_step (h.look (by omega)) (hl _ (by omega) (by omega)), show j + (d + 1) = (j + d) + 1 from rfl, gwC_first]
    exact ih (by omega) m' (by omega) nm
 obtain ⟨b, hb⟩ := key (i - j) (by omega) (cksL K).length (by rw [h.len]; omega) (gwX i)
 rw [show j + (i - j) = i by omega] at hb
 have : ofT (cksL K) (lastL K) brB (gwX i) = some ⟨brB, gwX i, s.op.value, s.src, true, b⟩ := hb
 exact brF_some this hv
end
end
section
theorem gL_sd {K : Ks} {k : Nat} {R : List (Bs × Bs)} (hk : k ≤ 6) (h : HeldP K (gL k ++ R)) {s : Sd} : s ∈ sdL K ↔ ∃ p ∈ R, ∃ t ∈ (opsB p.1 p.2).1, s = ⟨t, (opsB p.1 p.2).2, p.1⟩ := by
 rw [h.sd]
 constructor
 · rintro ⟨p, hp, t, ht, e⟩
   rcases List.mem_append.1 hp with hp | hp
   · obtain ⟨i, hi, rfl⟩ := gL_mem.1 hp
     rw [opsB_ck (gwC_right (by omega))] at ht
     simp [gwC, ckMe] at ht
   · exact ⟨p, hp, t, ht, e⟩
 · rintro ⟨p, hp, t, ht, e⟩
   exact ⟨p, List.mem_append_right _ hp, t, ht, e⟩
section
variable {K : Ks} {k a : Nat} {own : Bool} (hk : k ≤ 6) (ha : a < k) (h : HeldP K (gL k ++ [(gzX own a, ckB (gzC own a))]))
end
end
section
theorem wayF_no2 {C : List (Bs × Ck)} {l : Ls} {tag name : Bs} (P : Bs → Prop) (h1 : ∀ n, P n → llook l (tag, n) = none ∨ ∃ s, llook l (tag, n) = some s ∧ s.op.kind = 45) (h2 : ∀ n c, P n → clook C n = some c → P (firstB c)) : ∀ (k : Nat) (n : Bs), P n → wayF C l tag name k n = none := by
 intro k
 induction k with
 | zero => intro n _; rfl
 | succ k ih =>
   intro n hn
   rw [wayF]
   cases e : clook C n with
   | none => rfl
   | some c =>
     dsimp only
     rcases h1 n hn with h | ⟨s, h, h45⟩
     · rw [h]
       exact ih _ (h2 n c hn e)
     · rw [h]
       dsimp only
       rw [if_pos (.inl h45)]
def hm1 (j : Nat) : Ct := ⟨50, [⟨42, brB, gwX j, [98]⟩], me⟩
def hm2 (j : Nat) : Ct := ⟨60, [⟨45, brB, gwX j, []⟩], me⟩
theorem hm1_right (j : Nat) : RightCt (hm1 j) := ⟨by show (0 : Int) ≤ 50 ∧ (50 : Int) ≤ 1073741824; decide, Nat.zero_lt_one, right_one (.inr (.inl (by decide))) (by decide) (by decide) (gwX_n j), me_word⟩
theorem hm2_right (j : Nat) : RightCt (hm2 j) := ⟨by show (0 : Int) ≤ 60 ∧ (60 : Int) ≤ 1073741824; decide, Nat.zero_lt_one, right_one (.inr (.inr ⟨by decide, rfl⟩)) (by decide) (by decide) (gwX_n j), me_word⟩
def hmR (back : Bool) (j : Nat) : List (Bs × Bs) := [([116], ctB (hm1 j))] ++ if back then [([117], ctB (hm2 j))] else []
theorem hm_put1 {K : Ks} {k : Nat} (j : Nat) (h : HeldP K (gL k)) : HeldP (mput K [116] (vS (ctB (hm1 j)))) (gL k ++ hmR false j) := by
 refine h.put ?_ (Nat.le_trans (ctB_len (hm1_right j)) (by decide))
 rw [gL_names]
 intro hm
 obtain ⟨i, _, e⟩ := List.mem_map.1 hm
 exact gwX_ne (by decide) i e
theorem hm_put2 {K : Ks} {k : Nat} (j : Nat) (h : HeldP K (gL k ++ hmR false j)) : HeldP (mput K [117] (vS (ctB (hm2 j)))) (gL k ++ hmR true j) := by
 have : gL k ++ hmR true j = gL k ++ hmR false j ++ [([117], ctB (hm2 j))] := by simp [hmR]
 rw [this]
 refine h.put ?_ (Nat.le_trans (ctB_len (hm2_right j)) (by decide))
 rw [List.map_append, gL_names]
 intro hm
 rcases List.mem_append.1 hm with hm | hm
 · obtain ⟨i, _, e⟩ := List.mem_map.1 hm
   exact gwX_ne (by decide) i e
 · simp [hmR] at hm
def hmB (back : Bool) (j i : Nat) : Bs := if j ≤ i ∧ back = false then [98] else trB
def hmE (back : Bool) (j k : Nat) : List Lf := if back then [⟨trB, gwX (k - 1)⟩] else [⟨[98], gwX (k - 1)⟩, ⟨trB, gwX (j - 1)⟩]
section
variable {K : Ks} {k j : Nat} {back : Bool} (hk : k ≤ 6) (h1 : 1 ≤ j) (hj : j < k) (h : HeldP K (gL k ++ hmR back j))
include hk h1 hj h
theorem hm_gw : GwH K k := by
 have _ := h1
 have _ := hj
 refine gwH_of hk h fun p hp => ?_
 have e1 := (ct_read (hm1_right j)).2
 have e2 := (ct_read (hm2_right j)).2
 cases back
 · simp only [hmR, Bool.false_eq_true, if_false, List.append_nil, List.mem_singleton] at hp
   rw [hp]; exact e1
 · simp only [hmR, if_true, List.cons_append, List.nil_append, List.mem_cons, List.not_mem_nil, or_false] at hp
   rcases hp with rfl | rfl
   · exact e1
   · exact e2
theorem hm_sd (s : Sd) : s ∈ sdL K ↔ s = ⟨⟨42, brB, gwX j, [98]⟩, 50, [116]⟩ ∨ (back = true ∧ s = ⟨⟨45, brB, gwX j, []⟩, 60, [117]⟩) := by
 have _ := h1
 have _ := hj
 rw [gL_sd hk h]
 have e1 := opsB_ct (hm1_right j) [116]
 have e2 := opsB_ct (hm2_right j) [117]
 cases back
 · simp only [hmR, Bool.false_eq_true, if_false, List.append_nil, List.mem_singleton, exists_eq_left, e1]
   simp [hm1]
 · simp only [hmR, if_true, List.cons_append, List.nil_append, List.mem_cons, List.not_mem_nil, or_false, exists_eq_or_imp, exists_eq_left, e1, e2]
   simp [hm1, hm2]
theorem hm_none {n : Bs} (hn : n ≠ gwX j) : llook (lastL K) (brB, n) = none := lastF_none fun s hs e => by
 rcases (hm_sd hk h1 hj h s).1 hs with rfl | ⟨_, rfl⟩
 · exact hn (congrArg Prod.snd e).symm
 · exact hn (congrArg Prod.snd e).symm
theorem hm_some : ∃ s, llook (lastL K) (brB, gwX j) = some s ∧ s = if back then ⟨⟨45, brB, gwX j, []⟩, 60, [117]⟩ else ⟨⟨42, brB, gwX j, [98]⟩, 50, [116]⟩ := by
 cases hb : back with
 | false =>
   refine ⟨_, lastF_one ((hm_sd hk h1 hj h _).2 (.inl rfl)) rfl fun o ho _ => ?_, by simp⟩
   rcases (hm_sd hk h1 hj h o).1 ho with rfl | ⟨e, _⟩
   · rfl
   · rw [hb] at e; cases e
 | true =>
   have hu : (⟨⟨45, brB, gwX j, []⟩, 60, [117]⟩ : Sd) ∈ sdL K := (hm_sd hk h1 hj h _).2 (.inr ⟨hb, rfl⟩)
   cases e : llook (lastL K) (brB, gwX j) with
   | none => exact absurd rfl ((lastF_ok (sdL K)).2.1 _ e _ hu)
   | some s =>
     refine ⟨s, rfl, ?_⟩
     obtain ⟨hkey, l1, l2, hl, h3, h4⟩ := (lastF_ok (sdL K)).2.2 _ _ e
     have hs : s ∈ sdL K := by rw [hl]; simp
     rcases (hm_sd hk h1 hj h s).1 hs with rfl | ⟨_, rfl⟩
     · exfalso
       rw [hl] at hu
       rcases List.mem_append.1 hu with hu | hu
       · have : (60 : Int) ≤ 50 := h3 _ hu rfl
         omega
       · rcases List.mem_cons.1 hu with hu | hu
         · have : (60 : Int) = 50 := congrArg Sd.date hu
           omega
         · have : (60 : Int) < 50 := h4 _ hu rfl
           omega
     · simp
theorem hm_br {i : Nat} (hi : i < k) : brH K (gwX i) = hmB back j i := by
 have g := hm_gw hk h1 hj h
 obtain ⟨s, hs, hse⟩ := hm_some hk h1 hj h
 unfold hmB
 cases hb : back with
 | false =>
   rw [hb] at hse
   by_cases hij : j ≤ i
   · rw [if_pos ⟨hij, rfl⟩]
     have := g.high hj hs (by rw [hse]; rfl) (by rw [hse]; simp) (fun i hne hik => hm_none hk h1 hj h fun e => hne (gw_inj (by omega) (by omega) e)) hij hi
     rw [this, hse]; rfl
   · rw [if_neg (by simp [hij])]
     exact g.low (j := j) (fun i hi => hm_none hk h1 hj h fun e => by have := gw_inj (by omega) (by omega) e; omega) (hm_none hk h1 hj h (gwX_ne (by decide) j).symm) (by omega) (by omega)
 | true =>
   rw [hb] at hse
   rw [if_neg (by simp)]
   refine brF_none (wayF_no2 (fun n => n = [] ∨ ∃ i, i < k ∧ n = gwX i) (fun n hn => ?_) (fun n c hn hc => ?_) _ _ (.inr ⟨i, hi, rfl⟩))
   · by_cases e : n = gwX j
     · right
       rw [e]
       exact ⟨s, hs, by rw [hse]; rfl⟩
     · exact .inl (hm_none hk h1 hj h e)
   · rcases hn with rfl | ⟨i, hi, rfl⟩
     · rw [g.look0 (by decide)] at hc; cases hc
     · rw [g.look (by omega)] at hc
       cases hc
       cases i with
       | zero => exact .inl gwC_first0
       | succ i => exact .inr ⟨i, by omega, gwC_first i⟩
theorem hm_leaves {q : List Lf} (hq : q.Perm (lvL K) ∧ q.Pairwise fun x y => ltOf (fun x y => cmp2 (lfKey x) (lfKey y)) y x = false) : q = hmE back j k := by
 have g := hm_gw hk h1 hj h
 have hb := fun i (hi : i < k) => hm_br hk h1 hj h hi
 have hbt : ([98] : Bs) ≠ trB := by decide
 refine leaves_eq g.nd ?_ (fun y => ?_) hq
 · unfold hmE
   cases back
   · refine List.Pairwise.cons (fun y hy => ?_) (List.pairwise_singleton _ _)
     rw [List.mem_singleton.1 hy]
     refine .inl ?_
     show ([98] : Bs) < trB
     decide
   · exact List.pairwise_singleton _ _
 · rw [g.lv]
   have key : ∀ i, i < k → ((i + 1 < k → brH K (gwX i) ≠ brH K (gwX (i + 1))) ↔ (i = k - 1 ∨ (back = false ∧ i = j - 1))) := fun i hi => by
    constructor
    · intro hz
      refine Classical.byContradiction fun hno => ?_
      refine hz (by omega) ?_
      rw [hb i hi, hb (i + 1) (by omega), hmB, hmB]
      cases back
      · by_cases hij : j ≤ i
        · rw [if_pos ⟨hij, rfl⟩, if_pos ⟨by omega, rfl⟩]
        · rw [if_neg (fun e => hij e.1), if_neg (fun e => hno (.inr ⟨rfl, by omega⟩))]
      · rw [if_neg (by simp), if_neg (by simp)]
    · rintro (rfl | ⟨hbk, rfl⟩) hlt
      · omega
      · rw [hb _ (by omega), hb _ (by omega), hmB, hmB, if_neg (by omega), if_pos ⟨by omega, hbk⟩]
        exact hbt.symm
   unfold hmE
   cases hbk : back with
   | true =>
     simp only [if_true, List.mem_singleton]
     constructor
     · rintro rfl
       exact ⟨k - 1, by omega, (key _ (by omega)).2 (.inl rfl), by rw [hb _ (by omega), hmB, hbk, if_neg (by simp)]⟩
     · rintro ⟨i, hi, hz, rfl⟩
       rcases (key i hi).1 hz with rfl | ⟨e, _⟩
       · rw [hb _ (by omega), hmB, hbk, if_neg (by simp)]
       · rw [hbk] at e; cases e
   | false =>
     simp only [Bool.false_eq_true, if_false, List.mem_cons, List.not_mem_nil, or_false]
     constructor
     · rintro (rfl | rfl)
       · exact ⟨k - 1, by omega, (key _ (by omega)).2 (.inl rfl), by rw [hb _ (by omega), hmB, if_pos ⟨by omega, hbk⟩]⟩
       · exact ⟨j - 1, by omega, (key _ (by omega)).2 (.inr ⟨hbk, rfl⟩), by rw [hb _ (by omega), hmB, if_neg (by omega)]⟩
     · rintro ⟨i, hi, hz, rfl⟩
       rcases (key i hi).1 hz with rfl | ⟨_, rfl⟩
       · left; rw [hb _ (by omega), hmB, if_pos ⟨by omega, hbk⟩]
       · right; rw [hb _ (by omega), hmB, if_neg (by omega)]
end
end
section
set_option maxRecDepth 100000
theorem picksSelf : ∀ As : List HP, Picks As As []
 | [] => .nil
 | A :: r => .cons .here (picksSelf r)
theorem takeStep {α : Type} {l l' : List α} {j : Nat} (h : j < l.length) (h' : j < l'.length) (e : l.take j = l'.take j) (x : l[j] = l'[j]) : l.take (j + 1) = l'.take (j + 1) := by
 rw [List.take_succ_eq_append_getElem h, List.take_succ_eq_append_getElem h', e, x]
end
section
set_option maxRecDepth 100000
theorem eqLf (a b : Lf) : eqCells [vS a.branch, vS a.name] [vS b.branch, vS b.name] = decide (a = b) := by
 obtain ⟨a0, a1⟩ := a
 obtain ⟨b0, b1⟩ := b
 simp only [eqCells, eqCell_s, Bool.and_true, Lf.mk.injEq, Bool.decide_and]
set_option maxHeartbeats 2000000 in
theorem book_SameLf_sp {As : List HP} {a a' : Option Addr} (n n' c c' : Nat) (l l' : List Lf) [h1 : RdSl a (l.flatMap lfCells) As] [h2 : RdSl a' (l'.flatMap lfCells) As] (hn : l.length = n) (hn' : l'.length = n') (hb : n ≤ 140737488355328) :
    Sp1 Tryz.prog 31 [.slice a n c, .slice a' n' c'] As (vB (decide (l = l'))) As := by
 subst hn; subst hn'
 haveI : PicksC As As [] := ⟨picksSelf As⟩
 refine Sp.body (n := 26) Tryz.call31 Tryz.func31 rfl rfl rfl ?_
 refine Qc (k:=Vv (k:=Wq (Za (k:=Qc (k:=Qv (k:=Qv (k:=Vv (k:=?_))))))))
 refine Wq (Zi (t:=fun h10 => ?_) (f:=fun h10 => ?_))
 ·
  refine Qc (k:=Vv (k:=Wq (Zt (k:=Va ?_))))
  have hn : ¬ l = l' := fun e => h10 (by rw [e])
  exact fin_ret () (vs := [_]) (Cs := []) rfl (.tmp rfl .nil) (by rw [decide_eq_false hn]; rfl) trivial (by rw [List.append_nil]; exact Ent.refl _)
 ·
  refine Zk (k:=Ya (Za (k:=Qc (k:=Vv (k:=Wq (Zb (k:=?_)))))))
  refine p_loop (fun (i : { j : Nat // j ≤ l.length ∧ l.take j = l'.take j }) => [(0, .slice a l.length c), (1, .slice a' l'.length c'), (5, vI i.1)]) (fun (i : { j : Nat // j ≤ l.length ∧ l.take j = l'.take j }) => As) (fun (i : { j : Nat // j ≤ l.length ∧ l.take j = l'.take j }) => l.length - i.1) rfl (⟨0, Nat.zero_le _, rfl⟩) ?_ ?_ (fun i => ?_)
  · exact ⟨rfl, rfl, rfl, trivial⟩
  ·
   exact Ent.refl _
  obtain ⟨j, hj, hw⟩ := i
  try dsimp only
  refine Za (k:=Qc (k:=Qv (k:=Qv (k:=Wq (Zi (t:=fun h14 => ?_) (f:=fun h14 => ?_))))))
  ·
   refine Zk (k:=Ya (Za (k:=Zb (k:=Za (k:=?_)))))
   have hjl : j < l.length := by omega
   have hjl' : j < l'.length := by omega
   have hq := eqLf l[j] l'[j]
   refine d_draw rfl rfl rfl As ?_
   refine Dv 0 (k:=Dv 1 (k:=?_))
   refine d_first 2 rfl rfl rfl (by kernel_rfl) (by kernel_rfl) (tl_elemAddr (sz := 2) Tryz.underlying64 ti63 rfl rfl rfl rfl (by omega) (by first | (rw [List.length_map]; omega) | (rw [flat_len (sz := 2) (fun _ => rfl)]; omega) | (simp; omega)) rfl) ?_
   refine d_first 3 rfl rfl rfl (by kernel_rfl) (by kernel_rfl) (tl_eloada (vs := [_, _]) (sz := 2) Tryz.underlying63 rfl ti63 rfl rfl (by rw [flat_len (sz := 2) (fun _ => rfl)]; omega) rfl (by refine get_flat (fun x => ?_) ?_ <;> first | rfl | omega)) ?_
   refine Dv 4 (k:=Dv 5 (k:=?_))
   refine d_first 6 rfl rfl rfl (by kernel_rfl) (by kernel_rfl) (tl_elemAddr (sz := 2) Tryz.underlying64 ti63 rfl rfl rfl rfl (by omega) (by first | (rw [List.length_map]; omega) | (rw [flat_len (sz := 2) (fun _ => rfl)]; omega) | (simp; omega)) rfl) ?_
   refine d_first 7 rfl rfl rfl (by kernel_rfl) (by kernel_rfl) (tl_eloada (vs := [_, _]) (sz := 2) Tryz.underlying63 rfl ti63 rfl rfl (by rw [flat_len (sz := 2) (fun _ => rfl)]; omega) rfl (by refine get_flat (fun x => ?_) ?_ <;> first | rfl | omega)) ?_
   refine d_first 8 rfl rfl rfl (by kernel_rfl) (by kernel_rfl) (tl_pv (pv_aneq [.string, .string] Tryz.underlying63 (by kernel_rfl) (by kernel_rfl) (by kernel_rfl) rfl rfl rfl)) ?_
   refine Dd (k:=?_)
   rw [hq]
   refine Ya (Zi (t:=fun h25 => ?_) (f:=fun h25 => ?_))
   ·
    refine Qc (k:=Vv (k:=Wq (Zt (k:=Vb (Va (Vi (Vb (Va ?_))))))))
    have hn : ¬ l = l' := fun e => by subst e; simp at h25
    exact fin_ret () (vs := [_]) (Cs := []) rfl (.tmp rfl .nil) (by rw [decide_eq_false hn]; rfl) trivial (by rw [List.append_nil]; exact Ent.refl _)
   ·
    refine Zk (k:=Yb (Ya (Zr (k:=Qv (k:=Vv (k:=Wn ?_))))))
    have hx : l[j] = l'[j] := by simpa using h25
    exact to_inv ⟨j + 1, by omega, takeStep hjl hjl' hw hx⟩ (by dsimp only; omega) ⟨rfl, rfl, rfl, trivial⟩ (by rw [List.append_nil]; exact Ent.refl _)
  ·
   refine Ze (k:=Xa (Xi (Xb (Ya (Qc (k:=Vv (k:=Wq (Zt (k:=?_)))))))))
   have hjl : j = l.length := by omega
   subst hjl
   have he : l = l' := by
    have e1 : l'.length = l.length := by omega
    rw [List.take_length, ← e1, List.take_length] at hw
    exact hw
   exact fin_ret () (vs := [_]) (Cs := []) rfl (.tmp rfl .nil) (by rw [decide_eq_true he]; rfl) trivial (by rw [List.append_nil]; exact Ent.refl _)
end
section
section
variable {r : Option Nat} {P : Program} {n : Nat} {ops : Array Oper} {os : List Oper} {A : List HP} {L : Loc} {Hs : List HP} {Q : Out} {ty : TypeId} {d : Nat} {pos : String} {after : Array Edge} {c : Code}
theorem opt_insert {t kt e : TypeId} {x y z : Operand} {b : Nat} {ks : Ks} {k : List UInt8} {v : Value} (ht : P.underlying t = some (.map kt e)) (hk : P.underlying kt = some .string)
    (hx : ev L x = some (.map (some b))) (hy : ev L y = some (vS k)) (hz : ev L z = some v) :
    OpT r P n ⟨none, .insert t x y z, ty, pos, after, none⟩ A L [MapS b ks] (fun _ : Unit => undef) (fun _ => True) (fun _ => [MapS b (mput ks k v)]) :=
 opt_mapUpdate (pos := pos) (after := after) (ty := ty) ht hk hx hy hz
theorem r_insert {os : List Oper} {Q : Out} {t kt e : TypeId} {x y z : Operand} {b : Nat} {ks : Ks} {k : List UInt8} {v : Value} {Rs : List HP} (ht : P.underlying t = some (.map kt e)) (hk : P.underlying kt = some .string)
    (hx : ev L x = some (.map (some b))) (hy : ev L y = some (vS k)) (hz : ev L z = some v) [h : MapPC b ks Hs Rs] (K : wo r P n ops os L (MapS b (mput ks k v) :: Rs) Q) : wo r P n ops (⟨none, .insert t x y z, ty, pos, after, none⟩ :: os) L Hs Q := by
 haveI : PicksC [MapS b ks] Hs Rs := ⟨.cons h.get .nil⟩
 exact wo_opT (by intro c; simp) (opt_insert ht hk hx hy hz (ks := ks)) rfl (fun _ _ => K)
end
section
variable {α : Type} (a b c : α)
end
end
section
set_option maxRecDepth 100000
/-- ref10.Checkin of a check-in that has no files. -/
theorem ref10_me_sp {Bt : HP} (pa : Option Addr) (pc : Nat) (ta : Option Addr) (tc : Nat) {ps : List Bs} {ts : List Tg} {u : Bs} {d : Int} (h : RightK (ckMe ps ts u d)) (hpc : ps.length ≤ pc) (sht : SlA Bt ta (ts.flatMap tgCells)) :
    Sp1 Tryz.prog 16 [.agg #[vS [], vS [], vI d, .slice none 0 0, .slice pa ps.length pc, .slice ta ts.length tc, vS u]] [SlI none [], SlI pa (ps.map vS), Bt] (vS (ckB (ckMe ps ts u d))) [SlI none [], Bt] :=
 ref10_Checkin_sp (Bf := SlI none []) ⟨none, 0, pa, pc, ta, tc⟩ (ckMe ps ts u d) (right_z h) h.date (Nat.le_trans (ck_small h) (by decide)) sla_sli sht hpc
theorem ref10_ct_sp {Bt : HP} (ta : Option Addr) (tc : Nat) {c : Ct} (h : RightCt c) (sht : SlA Bt ta (c.tags.flatMap tgCells)) (zt : TgZ c.tags) :
    Sp1 Tryz.prog 35 [.agg #[vI c.date, .slice ta c.tags.length tc, vS c.user]] [Bt] (vS (ctB c)) [Bt] :=
 ref10_Control_sp ta tc c zt h.date (Nat.le_trans (ct_small h) (by decide)) sht
theorem tgZ_one {k : UInt8} {nm tgt v : Bs} (hn : nm.length ≤ 12) (ht : tgt.length ≤ 40) (hv : v.length ≤ 12) : TgZ [⟨k, nm, tgt, v⟩] := ⟨by simp, fun t h => by rw [List.mem_singleton.1 h]; dsimp only; omega⟩
end
section
set_option maxRecDepth 100000
def hE : List Lf := [⟨[98], [98]⟩, ⟨trB, [99]⟩]
set_option maxHeartbeats 8000000 in
theorem HeadsRuns_sp : Sp1 Tryz.prog 6 [] [] (vB true) [] := by
 have hCa := ref10_me_sp (Bt := SlI none []) none 0 none 0 hA_right (Nat.le_refl _) sla_sli
 simp only [List.map_nil, List.length_nil] at hCa
 rw [show ckB (ckMe [] [] me 0) = ckB hA from rfl] at hCa
 have hS := ref1_Sum_sp (ckB hA) (Nat.le_trans (ckB_len hA_right) (by decide))
 rw [show shaB (ckB hA) = hX from rfl] at hS
 have hCb : ∀ p t, Sp1 Tryz.prog 16 [.agg #[vS [], vS [], vI 0, .slice none 0 0, .slice (some ⟨p, 0, none⟩) 1 1, .slice (some ⟨t, 0, none⟩) 1 1, vS me]] [SlI none [], SlI (some ⟨p, 0, none⟩) [vS hX], Ce t 60 (hT.flatMap tgCells)] (vS (ckB hB)) [SlI none [], Ce t 60 (hT.flatMap tgCells)] := fun p t =>
  ref10_me_sp (Bt := Ce t 60 (hT.flatMap tgCells)) (some ⟨p, 0, none⟩) 1 (some ⟨t, 0, none⟩) 1 hB_right (Nat.le_refl _) sla_ce
 have hCc : ∀ p, Sp1 Tryz.prog 16 [.agg #[vS [], vS [], vI 0, .slice none 0 0, .slice (some ⟨p, 0, none⟩) 1 1, .slice none 0 0, vS me]] [SlI none [], SlI (some ⟨p, 0, none⟩) [vS hX], SlI none []] (vS (ckB hC)) [SlI none [], SlI none []] := fun p =>
  ref10_me_sp (Bt := SlI none []) (some ⟨p, 0, none⟩) 1 none 0 hC_right (Nat.le_refl _) sla_sli
 have hk : mput (mput (mput [] hX (vS (ckB hA))) [98] (vS (ckB hB))) [99] (vS (ckB hC)) = hK := rfl
 have hlen : hK.length = 3 := by rw [h_held.len]; rfl
 have hLv := fun b => heads_Leaves_sp b hK h_held.txt h_held.knd (by rw [hlen]; omega)
 have hBr := fun b => heads_Branch_sp b hK h_held.txt h_held.knd (by rw [hlen]; omega)
 have hIl := fun b => heads_IsLeaf_sp b hK h_held.txt h_held.knd (by rw [hlen]; omega) hX
 have hBb := fun b => hBr b [98]
 have hBc := fun b => hBr b [99]
 rw [h_bb] at hBb
 rw [h_bx.2] at hBc
 rw [h_isLf] at hIl
 have hq := fun q => h_leaves (q := q)
 rw [show ([⟨[98], [98]⟩, ⟨trB, [99]⟩] : List Lf) = hE from rfl] at hq
 have hEc : ([vS [98], vS [98], vS [116, 114, 117, 110, 107], vS [99]] : List Value) = hE.flatMap lfCells := rfl
 have hEl : hE.length = 2 := rfl
 clear hBr
 generalize hK = H at *
 generalize hX = x at *
 generalize ckB hA = ca at *
 generalize ckB hB = cb at *
 generalize ckB hC = cc at *
 generalize hE = E at *
 refine Sp.body (n := 46) Tryz.call6 Tryz.func6 rfl rfl rfl ?_
 refine Qc (k:=Vv (k:=Wq (Qc (k:=Vx (Ps [vS [], vS [], .int .i64 0, .slice none 0 0, .slice none 0 0, .slice none 0 0, _]) (k:=?_)))))
 refine wo_ent' sli_nil ?_
 refine r_call1 hCa rfl rfl rfl ?_
 refine Vv (k:=Wq (Qc (k:=Vv (k:=?_))))
 refine r_callF hS rfl rfl rfl ?_
 refine Vv (k:=Wq (Qc (k:=?_)))
 refine r_mkmap rfl (fun b8 => ?_)
 refine Qv (k:=?_)
 refine r_insert Tryz.underlying31 Tryz.underlying9 rfl rfl rfl ?_
 refine Qv (k:=Wq (Qc (k:=Qv (k:=Zv [_] (cs := [_]) (k:=fun b14 => Vx (Ps [_, _, _, _]) (k:=Zv [_] (cs := [_, _, _, _]) (k:=fun b16 => Vx (Ps [vS [], vS [], .int .i64 0, .slice none 0 0, _, _, _]) (k:=?_))))))))
 refine wo_frzC b14 ?_
 refine wo_ent' (ce_norm (b := b16) (T := 60) (l' := hT.flatMap tgCells) (by rfl) (by rfl)) ?_
 refine r_call1 (hCb b14 b16) rfl rfl rfl ?_
 refine r_mapUpdate Tryz.underlying31 Tryz.underlying9 rfl rfl rfl ?_
 refine Wq (Qc (k:=Qv (k:=Zv [_] (cs := [_]) (k:=fun b21 => Vx (Ps [vS [], vS [], .int .i64 0, .slice none 0 0, _, .slice none 0 0, _]) (k:=?_)))))
 refine wo_frzC b21 ?_
 refine r_call1 (hCc b21) rfl rfl rfl ?_
 refine r_mapUpdate Tryz.underlying31 Tryz.underlying9 rfl rfl rfl ?_
 refine Wq (Qc (k:=?_))
 rw [hk]
 refine Vv (k:=?_)
 refine r_callX (hLv b8) rfl rfl rfl (fun xp hxp => ?_)
 obtain ⟨⟨pa, pc⟩, q⟩ := xp
 dsimp only at hxp ⊢
 obtain rfl := hq q hxp
 refine Vx (Ps [_, _]) (k:=Vx (Ps [_, _]) (k:=Zv [_, _] (cs := [_, _, _, _]) (k:=fun b28 => ?_)))
 refine wo_ent' (ce_norm (b := b28) (T := 63) (l' := q.flatMap lfCells) (by rfl) hEc) ?_
 refine r_call1 (book_SameLf_sp (As := [Row 63 2 (.slice pa q.length pc) q.length (q.flatMap lfCells), Ce b28 63 (q.flatMap lfCells)]) q.length 2 pc 2 q q rfl hEl (by omega)) rfl rfl rfl ?_
 refine Vv (k:=Gi 6 (t:=fun h30 => ?_) (f:=fun h30 => ?_))
 ·
  refine J1 (k:=I1 (k:=?_))
  refine r_call1 (hBc b8) rfl rfl rfl ?_
  refine J1 (k:=P1 (k:=Vv (k:=Gi 11 (t:=fun h35 => ?_) (f:=fun h35 => ?_))))
  ·
   refine J1 (k:=I1 (k:=?_))
   refine r_call1 (hBb b8) rfl rfl rfl ?_
   refine J1 (k:=P1 (k:=Vv (k:=Gi 16 (t:=fun h40 => ?_) (f:=fun h40 => ?_))))
   ·
    refine J1 (k:=J1 (k:=I1 (k:=?_)))
    refine r_call1 (hIl b8) rfl rfl rfl ?_
    refine J1 (k:=P1 (k:=Vv (k:=Wq (Zt (k:=?_)))))
    exact fin_ret () (vs := [_]) (Cs := []) rfl (.tmp rfl .nil) rfl trivial ent_nil
   ·
    exact absurd rfl h40
    --done
  ·
   exact absurd rfl h35
   --done
 ·
  simp at h30
  --done
end
end Go.Proofs.YtdnoacgopfcpbaaGreat
/- Map literals of other keys. -/
namespace Go.Proofs.YtdnoacgopfcpbaaGreat.MX
section
variable {α : Type} {r : Option Nat} {P : Program} {n : Nat} {ops : Array Oper} {os : List Oper} {A : List HP} {L : Loc} {Hs : List HP} {Q : Out} {ty : TypeId} {d : Nat} {pos : String} {after : Array Edge} {c : Code}
theorem opt_insert [DecidableEq α] {E : KeyE α} {t kt e : TypeId} {x y z : Operand} {b : Nat} {ks : Ks α} {k : α} {v : Value} (ht : P.underlying t = some (.map kt e)) (hk : KeyP P kt E)
    (hx : ev L x = some (.map (some b))) (hy : ev L y = some (E.enc k)) (hz : ev L z = some v) :
    OpT r P n ⟨none, .insert t x y z, ty, pos, after, none⟩ A L [MapS E b ks] (fun _ : Unit => undef) (fun _ => True) (fun _ => [MapS E b (mput ks k v)]) :=
 opt_mapUpdate (pos := pos) (after := after) (ty := ty) ht hk hx hy hz
theorem r_insert [DecidableEq α] {E : KeyE α} {t kt e : TypeId} {x y z : Operand} {b : Nat} {ks : Ks α} {k : α} {v : Value} {Rs : List HP} (ht : P.underlying t = some (.map kt e)) (hk : KeyP P kt E)
    (hx : ev L x = some (.map (some b))) (hy : ev L y = some (E.enc k)) (hz : ev L z = some v) [h : MapPC E b ks Hs Rs] (K : wo r P n ops os L (MapS E b (mput ks k v) :: Rs) Q) : wo r P n ops (⟨none, .insert t x y z, ty, pos, after, none⟩ :: os) L Hs Q := by
 haveI : PicksC [MapS E b ks] Hs Rs := ⟨.cons h.get .nil⟩
 exact wo_opT (by intro c; simp) (opt_insert ht hk hx hy hz (ks := ks)) rfl (fun _ _ => K)
end
end Go.Proofs.YtdnoacgopfcpbaaGreat.MX
namespace Go.Proofs.YtdnoacgopfcpbaaGreat
section
set_option maxRecDepth 100000
def withinI (n lo hi : Int) : Int := lo + n % (hi - lo + 1)
theorem withinI_in {n lo hi : Int} (h : lo ≤ hi) : lo ≤ withinI n lo hi ∧ withinI n lo hi ≤ hi := by
 have h1 := Int.emod_nonneg n (show hi - lo + 1 ≠ 0 by omega)
 have h2 := Int.emod_lt_of_pos n (show 0 < hi - lo + 1 by omega)
 unfold withinI; omega
theorem tmod_cases (n m : Int) (hm : 1 ≤ m) : (0 ≤ n.tmod m ∧ n.tmod m = n % m ∨ n.tmod m < 0 ∧ n.tmod m + m = n % m) ∧ -m < n.tmod m ∧ n.tmod m < m := by
 have e1 := Int.emod_nonneg n (show m ≠ 0 by omega)
 have e2 := Int.emod_lt_of_pos n (show 0 < m by omega)
 have hd := Int.emod_emod_of_dvd n (Int.dvd_refl m)
 rcases Int.lt_or_le n 0 with h | h
 · have h2 : n.tmod m = -((-n) % m) := by
     have : n = -(-n) := by omega
     conv => lhs; rw [this]
     rw [Int.neg_tmod, Int.tmod_eq_emod_of_nonneg (by omega)]
   have e3 := Int.emod_nonneg (-n) (show m ≠ 0 by omega)
   have e4 := Int.emod_lt_of_pos (-n) (show 0 < m by omega)
   have hs : (n % m + (-n) % m) % m = 0 := by
    rw [← Int.add_emod, Int.add_right_neg, Int.zero_emod]
   by_cases hz : (-n) % m = 0
   · have : n % m = 0 := by
       rw [hz, Int.add_zero, Int.emod_emod_of_dvd n (Int.dvd_refl m)] at hs; exact hs
     rw [h2, hz, this]; omega
   · have hsum : n % m + (-n) % m = m := by
       have hpos : 0 < n % m + (-n) % m := by omega
       have hlt : n % m + (-n) % m < m + m := by omega
       have hge : m ≤ n % m + (-n) % m := by
        apply Classical.byContradiction; intro hc
        rw [Int.emod_eq_of_lt (by omega) (by omega)] at hs
        omega
       have : (n % m + (-n) % m - m) % m = 0 := by rw [Int.sub_emod, hs]; simp
       rw [Int.emod_eq_of_lt (by omega) (by omega)] at this
       omega
     rw [h2]; omega
 · rw [Int.tmod_eq_emod_of_nonneg h]; omega
theorem zb26ret {G : Prop} (h : G := by exact fin_ret () (vs := [_]) rfl (.tmp rfl .nil) (by rw [hw]; exact congrArg vI (by omega)) trivial ent_nil) : G := h
theorem book_Within_sp (n lo hi : Int) (h1 : -1099511627776 ≤ lo) (h2 : lo ≤ hi) (h3 : hi ≤ 1099511627776) : SpF Tryz.prog 26 [vI n, vI lo, vI hi] (vI (withinI n lo hi)) := by
 have hc := tmod_cases n (hi - lo + 1) (by omega)
 have hw : withinI n lo hi = lo + n % (hi - lo + 1) := rfl
 refine Sp.body (n := 24) Tryz.call26 Tryz.func26 rfl rfl rfl ?_
 refine Qc (k:=Vv (k:=Wq (Qc (k:=Qv (k:=Qv (k:=Vv (k:=?_)))))))
 refine wo_pv (pv_remt rfl rfl (by omega)) rfl ?_
 refine Vv (k:=Wq (Za (k:=Qc (k:=Qv (k:=Wq (Zi (t:=fun h14 => ?_) (f:=fun h14 => ?_)))))))
 ·
  refine Zr (k:=Qv (k:=Qv (k:=Qv (k:=Vv (k:=Wq (Qc (k:=Vv (k:=?_))))))))
  refine Qv (k:=Vv (k:=Wq (Zt (k:=?_))))
  exact zb26ret
 ·
  refine Zk (k:=Ya (Qc (k:=Qv (k:=Qv (k:=Wq (Zt (k:=?_)))))))
  exact zb26ret
end
section
set_option maxRecDepth 100000
theorem book_SameLf_same {As : List HP} {a a' : Option Addr} (n n' c c' : Nat) (l : List Lf) [h1 : RdSl a (l.flatMap lfCells) As] [h2 : RdSl a' (l.flatMap lfCells) As] (hn : l.length = n) (hn' : l.length = n') (hb : n ≤ 140737488355328) :
    Sp1 Tryz.prog 31 [.slice a n c, .slice a' n' c'] As (vB true) As := by
 have := book_SameLf_sp (As := As) (a := a) (a' := a') n n' c c' l l hn hn' hb
 rwa [decide_eq_true rfl] at this
def gwN (k : Nat) : List Bs := (List.range k).map gwX
theorem gwN_succ (k : Nat) : gwN (k + 1) = gwN k ++ [gwX k] := by simp [gwN, List.range_succ]
theorem gwN_len (k : Nat) : (gwN k).length = k := by simp [gwN]
theorem gwN_get {k i : Nat} (h : i < k) : ((gwN k).map vS)[i]? = some (vS (gwX i)) := by simp [gwN, h]
theorem gwN_get1 {k : Nat} : ((gwN k).map vS ++ [vS (gwX k)])[k]? = some (vS (gwX k)) := by
 rw [List.getElem?_append_right (by simp [gwN])]
 simp [gwN]
end
end Go.Proofs.YtdnoacgopfcpbaaGreat
