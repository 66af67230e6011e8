/- Texts of this proof, put together: ChC4. -/
import Derived.Test.YtibccdcemcgkeaaGreatQ17
set_option linter.unusedVariables false
set_option linter.unusedSimpArgs false
namespace Go.Proofs.YtibccdcemcgkeaaGreat
theorem chs16 : chks 128 8 = true := by kernel_rfl
theorem chs17 : chks 136 8 = true := by kernel_rfl
theorem chs18 : chks 144 8 = true := by kernel_rfl
theorem chs19 : chks 152 8 = true := by kernel_rfl
end Go.Proofs.YtibccdcemcgkeaaGreat
