/- Chapter 7's texts, as functions on lists. -/
import Derived.Test.YtimafngkifakfaaMDec
set_option linter.unusedVariables false
set_option linter.unusedSimpArgs false
namespace Go.Proofs.Ytimafngkifakfaa
abbrev Bs := List UInt8

/-- Decimals, read on. -/
def dn : Bs → Nat → Option Nat
  | [], n => some n
  | c :: r, n => if c.toNat < 48 ∨ 57 < c.toNat ∨ 1073741824 < n then none else dn r (10 * n + (c.toNat - 48))
def decP (n : Nat) : Bs := if n ≤ 1073741824 then decN n else []
def readDec (s : Bs) : Option Nat := match dn s 0 with
  | none => none
  | some n => if s = [] ∨ ¬ decP n = s then none else some n
theorem dn_le : ∀ (s : Bs) (n m : Nat), dn s n = some m → n ≤ 10737418249 → m ≤ 10737418249 := by
  intro s
  induction s with
  | nil => intro n m h hn; simp [dn] at h; omega
  | cons c r ih =>
    intro n m h hn
    simp only [dn] at h
    split at h
    · cases h
    · rename_i hc
      exact ih _ _ h (by omega)
theorem dn_step {s : Bs} {i : Nat} (h : i < s.length) (n : Nat) : dn (s.drop i) n = if (s.getD i 0).toNat < 48 ∨ 57 < (s.getD i 0).toNat ∨ 1073741824 < n then none else dn (s.drop (i + 1)) (10 * n + ((s.getD i 0).toNat - 48)) := by
  have e : s.drop i = s.getD i 0 :: s.drop (i + 1) := by
    rw [List.drop_eq_getElem_cons h]; simp [h]
  rw [e, dn]

structure Rw where
  key : Bs
  val : Bs
  gone : Bool
  deriving DecidableEq, Repr
def rowText (r : Rw) : Bs := decN r.key.length ++ [32] ++ (if r.gone then [45] ++ r.key else decN r.val.length ++ [32] ++ r.key ++ r.val)
def textOf (l : List Rw) : Bs := l.flatMap rowText
/-- Where a byte stands. -/
def numR (s : Bs) : Nat × Bs × Bool := match s.findIdx? (· == 32) with
  | none => (0, [], false)
  | some i => match readDec (s.take i) with
    | none => (0, s.drop (i + 1), false)
    | some n => (n, s.drop (i + 1), true)
def rowR (s : Bs) : Option (Rw × Bs) :=
  match numR s with
  | (_, _, false) => none
  | (k, s, true) =>
    if k < 1 ∨ 60 < k then none else
    if s.take 1 = [45] then
      (if (s.drop 1).length < k then none else some (⟨(s.drop 1).take k, [], true⟩, (s.drop 1).drop k))
    else match numR s with
      | (_, _, false) => none
      | (v, s, true) => if s.length < k ∨ s.length - k < v then none else some (⟨s.take k, (s.drop k).take v, false⟩, s.drop (k + v))
theorem numR_len (s : Bs) : (numR s).2.1.length ≤ s.length := by
  simp only [numR]
  split
  · simp
  · split <;> simp
theorem numR_lt (s : Bs) : s ≠ [] → (numR s).2.1.length < s.length := by
  intro h
  have hp := List.length_pos_iff.2 h
  simp only [numR]
  split
  · simpa using hp
  · rename_i i hi
    have := (List.findIdx?_eq_some_iff_getElem.1 hi).1
    split <;> simp <;> omega
theorem rowR_lt {s : Bs} {r : Rw} {t : Bs} (h : rowR s = some (r, t)) : t.length < s.length := by
  have hs : s ≠ [] := by
    intro e; subst e
    simp [rowR, numR] at h
  have h1 := numR_lt s hs
  simp only [rowR] at h
  split at h
  · cases h
  · rename_i k s1 e1
    rw [e1] at h1
    split at h
    · cases h
    · split at h
      · split at h
        · cases h
        · simp only [Option.some.injEq, Prod.mk.injEq] at h
          obtain ⟨_, rfl⟩ := h
          simp at h1 ⊢; omega
      · have h2 := numR_len s1
        split at h
        · cases h
        · rename_i v s2 e2
          rw [e2] at h2
          split at h
          · cases h
          · simp only [Option.some.injEq, Prod.mk.injEq] at h
            obtain ⟨_, rfl⟩ := h
            simp at h1 h2 ⊢; omega
def readR (s : Bs) : Option (List Rw) :=
  if s = [] then some [] else match h : rowR s with
    | none => none
    | some (r, t) => have := rowR_lt h; match readR t with
      | none => none
      | some l => some (r :: l)
termination_by s.length
theorem readR_nil : readR [] = some [] := by rw [readR]; simp
theorem readR_none {s : Bs} (h : s ≠ []) (hr : rowR s = none) : readR s = none := by
  rw [readR, if_neg h]
  split
  · rfl
  · rename_i r t e; rw [hr] at e; cases e
theorem readR_some {s t : Bs} {r : Rw} (h : s ≠ []) (hr : rowR s = some (r, t)) : readR s = (readR t).map (r :: ·) := by
  rw [readR, if_neg h]
  split
  · rename_i e; rw [hr] at e; cases e
  · rename_i r' t' e
    rw [hr] at e
    simp only [Option.some.injEq, Prod.mk.injEq] at e
    obtain ⟨rfl, rfl⟩ := e
    split <;> simp_all
end Go.Proofs.Ytimafngkifakfaa
