/- Texts of this proof, put together: ChC0. -/
import Derived.Test.YtibccdcemcgkeaaGreatQ17
set_option linter.unusedVariables false
set_option linter.unusedSimpArgs false
namespace Go.Proofs.YtibccdcemcgkeaaGreat
theorem chs0 : chks 0 8 = true := by kernel_rfl
theorem chs1 : chks 8 8 = true := by kernel_rfl
theorem chs2 : chks 16 8 = true := by kernel_rfl
theorem chs3 : chks 24 8 = true := by kernel_rfl
end Go.Proofs.YtibccdcemcgkeaaGreat
