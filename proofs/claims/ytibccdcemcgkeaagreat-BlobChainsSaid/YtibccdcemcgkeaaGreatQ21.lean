/- Texts of this proof, put together: ChC3. -/
import Derived.Test.YtibccdcemcgkeaaGreatQ17
set_option linter.unusedVariables false
set_option linter.unusedSimpArgs false
namespace Go.Proofs.YtibccdcemcgkeaaGreat
theorem chs12 : chks 96 8 = true := by kernel_rfl
theorem chs13 : chks 104 8 = true := by kernel_rfl
theorem chs14 : chks 112 8 = true := by kernel_rfl
theorem chs15 : chks 120 8 = true := by kernel_rfl
end Go.Proofs.YtibccdcemcgkeaaGreat
