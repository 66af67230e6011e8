/- Texts of this proof, put together: HxC1. -/
import Derived.Test.YtdnoacgopfcpbaaGreatQ21
set_option linter.unusedVariables false
set_option linter.unusedSimpArgs false
namespace Go.Proofs.YtdnoacgopfcpbaaGreat
theorem lp_0 : lpChk 67 0 = true := by kernel_rfl
theorem lp_1 : lpChk 67 67 = true := by kernel_rfl
theorem lp_2 : lpChk 67 134 = true := by kernel_rfl
theorem lp_all {a : Nat} (h : a ≤ 200) : LpD a := by
 by_cases h0 : a < 67
 · exact lpChk_ok 67 0 lp_0 a (by omega) (by omega)
 by_cases h1 : a < 134
 · exact lpChk_ok 67 67 lp_1 a (by omega) (by omega)
 · exact lpChk_ok 67 134 lp_2 a (by omega) (by omega)
end Go.Proofs.YtdnoacgopfcpbaaGreat
