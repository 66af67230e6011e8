/- Texts of this proof, put together: ChAll. -/
import Derived.Test.YtibccdcemcgkeaaGreatQ18
import Derived.Test.YtibccdcemcgkeaaGreatQ19
import Derived.Test.YtibccdcemcgkeaaGreatQ20
import Derived.Test.YtibccdcemcgkeaaGreatQ21
import Derived.Test.YtibccdcemcgkeaaGreatQ22
import Derived.Test.YtibccdcemcgkeaaGreatQ23
import Derived.Test.YtibccdcemcgkeaaGreatQ24
import Derived.Test.YtibccdcemcgkeaaGreatQ25
set_option linter.unusedVariables false
set_option linter.unusedSimpArgs false
namespace Go.Proofs.YtibccdcemcgkeaaGreat
theorem chN_all (c : UInt8) : ChN c := by
 have hc : c.toNat < 256 := c.toNat_lt
 have e : UInt8.ofNat c.toNat = c := by simp
 rw [← e]
 generalize c.toNat = n at hc
 by_cases h0 : n < 8
 · exact chks_ok chs0 n (by omega) (by omega)
 by_cases h1 : n < 16
 · exact chks_ok chs1 n (by omega) (by omega)
 by_cases h2 : n < 24
 · exact chks_ok chs2 n (by omega) (by omega)
 by_cases h3 : n < 32
 · exact chks_ok chs3 n (by omega) (by omega)
 by_cases h4 : n < 40
 · exact chks_ok chs4 n (by omega) (by omega)
 by_cases h5 : n < 48
 · exact chks_ok chs5 n (by omega) (by omega)
 by_cases h6 : n < 56
 · exact chks_ok chs6 n (by omega) (by omega)
 by_cases h7 : n < 64
 · exact chks_ok chs7 n (by omega) (by omega)
 by_cases h8 : n < 72
 · exact chks_ok chs8 n (by omega) (by omega)
 by_cases h9 : n < 80
 · exact chks_ok chs9 n (by omega) (by omega)
 by_cases h10 : n < 88
 · exact chks_ok chs10 n (by omega) (by omega)
 by_cases h11 : n < 96
 · exact chks_ok chs11 n (by omega) (by omega)
 by_cases h12 : n < 104
 · exact chks_ok chs12 n (by omega) (by omega)
 by_cases h13 : n < 112
 · exact chks_ok chs13 n (by omega) (by omega)
 by_cases h14 : n < 120
 · exact chks_ok chs14 n (by omega) (by omega)
 by_cases h15 : n < 128
 · exact chks_ok chs15 n (by omega) (by omega)
 by_cases h16 : n < 136
 · exact chks_ok chs16 n (by omega) (by omega)
 by_cases h17 : n < 144
 · exact chks_ok chs17 n (by omega) (by omega)
 by_cases h18 : n < 152
 · exact chks_ok chs18 n (by omega) (by omega)
 by_cases h19 : n < 160
 · exact chks_ok chs19 n (by omega) (by omega)
 by_cases h20 : n < 168
 · exact chks_ok chs20 n (by omega) (by omega)
 by_cases h21 : n < 176
 · exact chks_ok chs21 n (by omega) (by omega)
 by_cases h22 : n < 184
 · exact chks_ok chs22 n (by omega) (by omega)
 by_cases h23 : n < 192
 · exact chks_ok chs23 n (by omega) (by omega)
 by_cases h24 : n < 200
 · exact chks_ok chs24 n (by omega) (by omega)
 by_cases h25 : n < 208
 · exact chks_ok chs25 n (by omega) (by omega)
 by_cases h26 : n < 216
 · exact chks_ok chs26 n (by omega) (by omega)
 by_cases h27 : n < 224
 · exact chks_ok chs27 n (by omega) (by omega)
 by_cases h28 : n < 232
 · exact chks_ok chs28 n (by omega) (by omega)
 by_cases h29 : n < 240
 · exact chks_ok chs29 n (by omega) (by omega)
 by_cases h30 : n < 248
 · exact chks_ok chs30 n (by omega) (by omega)
 by_cases h31 : n < 256
 · exact chks_ok chs31 n (by omega) (by omega)
 omega
end Go.Proofs.YtibccdcemcgkeaaGreat
