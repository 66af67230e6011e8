/- Texts of this proof, put together: ChC5. -/
import Derived.Test.YtibccdcemcgkeaaGreatQ17
set_option linter.unusedVariables false
set_option linter.unusedSimpArgs false
namespace Go.Proofs.YtibccdcemcgkeaaGreat
theorem chs20 : chks 160 8 = true := by kernel_rfl
theorem chs21 : chks 168 8 = true := by kernel_rfl
theorem chs22 : chks 176 8 = true := by kernel_rfl
theorem chs23 : chks 184 8 = true := by kernel_rfl
end Go.Proofs.YtibccdcemcgkeaaGreat
