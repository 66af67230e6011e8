/- Texts of this proof, put together: ChC2. -/
import Derived.Test.YtibccdcemcgkeaaGreatQ17
set_option linter.unusedVariables false
set_option linter.unusedSimpArgs false
namespace Go.Proofs.YtibccdcemcgkeaaGreat
theorem chs8 : chks 64 8 = true := by kernel_rfl
theorem chs9 : chks 72 8 = true := by kernel_rfl
theorem chs10 : chks 80 8 = true := by kernel_rfl
theorem chs11 : chks 88 8 = true := by kernel_rfl
end Go.Proofs.YtibccdcemcgkeaaGreat
