/- Chapter 7's closed sentence, counted out. -/
import Derived.Test.YtimafngkifakfaaSStore6
import Derived.Test.YtimafngkifakfaaFuel
set_option linter.unusedVariables false
set_option linter.unusedSimpArgs false
set_option maxRecDepth 100000
namespace Go.Proofs.Ytimafngkifakfaa
abbrev R1 : List Rw := [⟨[97], [49], false⟩, ⟨[98], [50], false⟩]
abbrev R2 : List Rw := [⟨[97], [], true⟩]
abbrev R3 : List Rw := [⟨[97], [49], false⟩]
theorem decN_1 : decN 1 = [49] := decF_eq 2 1 (by decide)
theorem text1 : textOf R1 = [49, 32, 49, 32, 97, 49, 49, 32, 49, 32, 98, 50] := by
  simp [textOf, rowText, decN_1]
theorem text2 : textOf R2 = [49, 32, 45, 97] := by simp [textOf, rowText, decN_1]
theorem text3 : textOf R3 = [49, 32, 49, 32, 97, 49] := by simp [textOf, rowText, decN_1]
theorem pieces1 : piecesS (textOf R1) = [pieceS [49, 32, 49, 32, 97, 49, 49, 32, 49, 32, 98, 50] 2] := by
  rw [text1, piecesS_last (by decide)]
theorem pieces2 : piecesS (textOf R2) = [pieceS [49, 32, 45, 97] 2] := by
  rw [text2, piecesS_last (by decide)]
abbrev D1r : Dk := ((newD 20).write 0 (pieceS [49, 32, 49, 32, 97, 49, 49, 32, 49, 32, 98, 50] 2)).1
abbrev J1r : Jn := ⟨[[49, 32, 49, 32, 97, 49, 49, 32, 49, 32, 98, 50]], 1, false⟩
abbrev K1r : Ks := [([97], vS [49]), ([98], vS [50])]
theorem commit1 : commitS (openJ (newD 20)) (openK (openJ (newD 20)).l) (newD 20) R1 = (J1r, K1r, D1r, 0) := by
  rw [commitS, if_neg (by decide), commitJ, pieces1, text1]
  rfl
abbrev D2r : Dk := (D1r.write 1 (pieceS [49, 32, 45, 97] 2)).1
abbrev J2r : Jn := ⟨[[49, 32, 49, 32, 97, 49, 49, 32, 49, 32, 98, 50], [49, 32, 45, 97]], 2, false⟩
abbrev K2r : Ks := [([98], vS [50])]
theorem commit2 : commitS J1r K1r D1r R2 = (J2r, K2r, D2r, 0) := by
  rw [commitS, if_neg (by decide), commitJ, pieces2, text2]
  rfl
theorem open2 : openJ D2r = J2r := rfl
theorem numR_1 (t : Bs) : numR (49 :: 32 :: t) = (1, t, true) := by
  have e : readDec [49] = some 1 := by simp [readDec, dn, decP, decN_1]
  simp [numR, List.findIdx?_cons, e]
theorem read1 : readR [49, 32, 49, 32, 97, 49, 49, 32, 49, 32, 98, 50] = some R1 := by
  rw [readF_eq 13 _ (by decide)]
  simp [readF, rowR, numR_1]
theorem read2 : readR [49, 32, 45, 97] = some R2 := by
  rw [readF_eq 5 _ (by decide)]
  simp [readF, rowR, numR_1]
theorem open2k : openK J2r.l = K2r := by
  simp only [openK, J2r, List.foldl_cons, List.foldl_nil, read1, read2]
  rfl
end Go.Proofs.Ytimafngkifakfaa
