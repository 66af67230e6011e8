/- Decimals. -/
set_option linter.unusedVariables false
set_option linter.unusedSimpArgs false
namespace Go.Proofs.Ytimafngkifakfaa

/-- The last digit of a number, as a byte. -/
def dgt (n : Nat) : UInt8 := UInt8.ofNat (48 + n % 10)
def decN (n : Nat) : List UInt8 := if n < 10 then [dgt n] else decN (n / 10) ++ [dgt n]
termination_by n
/-- What stands ahead of the last digits. -/
def preN (n : Nat) : List UInt8 := if n = 0 then [] else decN n
theorem dgt_toNat (n : Nat) : (dgt n).toNat = 48 + n % 10 := by
  have : 48 + n % 10 < 256 := by omega
  simp [dgt, UInt8.toNat_ofNat, Nat.mod_eq_of_lt this]
theorem decN_split (n : Nat) : decN n = preN (n / 10) ++ [dgt n] := by
  rw [decN, preN]
  by_cases h : n < 10
  · have : n / 10 = 0 := by omega
    simp [h, this]
  · have : ¬ (n / 10 = 0) := by omega
    simp [h, this]
theorem preN_pos {n : Nat} (h : 0 < n) : preN n = preN (n / 10) ++ [dgt n] := by
  rw [preN, if_neg (by omega)]; exact decN_split n
theorem decN_len (n : Nat) : (decN n).length ≤ n + 1 := by
  induction n using Nat.strongRecOn with
  | _ n ih =>
    rw [decN]
    split
    · simp
    · have := ih (n / 10) (by omega)
      simp only [List.length_append, List.length_singleton]
      omega
end Go.Proofs.Ytimafngkifakfaa
