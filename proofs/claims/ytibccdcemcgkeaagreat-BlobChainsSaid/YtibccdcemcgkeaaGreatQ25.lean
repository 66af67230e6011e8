/- Texts of this proof, put together: ChC7. -/
import Derived.Test.YtibccdcemcgkeaaGreatQ17
set_option linter.unusedVariables false
set_option linter.unusedSimpArgs false
namespace Go.Proofs.YtibccdcemcgkeaaGreat
theorem chs28 : chks 224 8 = true := by kernel_rfl
theorem chs29 : chks 232 8 = true := by kernel_rfl
theorem chs30 : chks 240 8 = true := by kernel_rfl
theorem chs31 : chks 248 8 = true := by kernel_rfl
end Go.Proofs.YtibccdcemcgkeaaGreat
