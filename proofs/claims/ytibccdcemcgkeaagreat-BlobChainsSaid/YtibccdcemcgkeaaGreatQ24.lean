/- Texts of this proof, put together: ChC6. -/
import Derived.Test.YtibccdcemcgkeaaGreatQ17
set_option linter.unusedVariables false
set_option linter.unusedSimpArgs false
namespace Go.Proofs.YtibccdcemcgkeaaGreat
theorem chs24 : chks 192 8 = true := by kernel_rfl
theorem chs25 : chks 200 8 = true := by kernel_rfl
theorem chs26 : chks 208 8 = true := by kernel_rfl
theorem chs27 : chks 216 8 = true := by kernel_rfl
end Go.Proofs.YtibccdcemcgkeaaGreat
