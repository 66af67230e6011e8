/- Texts of this proof, put together: ChC1. -/
import Derived.Test.YtibccdcemcgkeaaGreatQ17
set_option linter.unusedVariables false
set_option linter.unusedSimpArgs false
namespace Go.Proofs.YtibccdcemcgkeaaGreat
theorem chs4 : chks 32 8 = true := by kernel_rfl
theorem chs5 : chks 40 8 = true := by kernel_rfl
theorem chs6 : chks 48 8 = true := by kernel_rfl
theorem chs7 : chks 56 8 = true := by kernel_rfl
end Go.Proofs.YtibccdcemcgkeaaGreat
