/- The recursions with fuel, so that the kernel can count. -/
import Derived.Test.YtimafngkifakfaaMDisk
set_option linter.unusedVariables false
set_option linter.unusedSimpArgs false
namespace Go.Proofs.Ytimafngkifakfaa
def decF : Nat → Nat → List UInt8
  | 0, n => []
  | f + 1, n => if n < 10 then [dgt n] else decF f (n / 10) ++ [dgt n]
theorem decF_eq : ∀ (f n : Nat), n < f → decN n = decF f n := by
  intro f
  induction f with
  | zero => intro n h; omega
  | succ f ih =>
    intro n h
    rw [decN, decF]
    split
    · rfl
    · rw [ih (n / 10) (by omega)]
def piecesF : Nat → Bs → List Bs
  | 0, _ => []
  | f + 1, s => if 30 < s.length then pieceS (s.take 30) 1 :: piecesF f (s.drop 30) else [pieceS s 2]
theorem piecesF_eq : ∀ (f : Nat) (s : Bs), s.length < f → piecesS s = piecesF f s := by
  intro f
  induction f with
  | zero => intro s h; omega
  | succ f ih =>
    intro s h
    rw [piecesS, piecesF]
    split
    · rw [ih _ (by rw [List.length_drop]; omega)]
    · rfl
def readF : Nat → Bs → Option (List Rw)
  | 0, _ => none
  | f + 1, s => if s = [] then some [] else match rowR s with
    | none => none
    | some (r, t) => match readF f t with
      | none => none
      | some l => some (r :: l)
theorem readF_eq : ∀ (f : Nat) (s : Bs), s.length < f → readR s = readF f s := by
  intro f
  induction f with
  | zero => intro s h; omega
  | succ f ih =>
    intro s h
    by_cases hs : s = []
    · subst hs; rw [readR_nil, readF, if_pos rfl]
    · rw [readF, if_neg hs]
      cases hr : rowR s with
      | none => rw [readR_none hs hr]
      | some q =>
        obtain ⟨r, t⟩ := q
        rw [readR_some hs hr, ih t (by have := rowR_lt hr; omega)]
        dsimp only
        cases readF f t <;> rfl
end Go.Proofs.Ytimafngkifakfaa
