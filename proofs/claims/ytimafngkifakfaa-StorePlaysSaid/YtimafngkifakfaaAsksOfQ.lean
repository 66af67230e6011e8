/- Asks of chapter 7 among the arguments. -/
import Derived.Test.YtimafngkifakfaaQB6
import Derived.Test.YtimafngkifakfaaLawPlaysQ
set_option linter.unusedVariables false
set_option linter.unusedSimpArgs false
namespace Go.Proofs.Ytimafngkifakfaa
theorem asks_of {H : Type} {enc : TypeId × Value → H} {w : World} {spare : Nat → Bool} {held : Bool} {fuel : Nat} {cs : List Value} {x : DataW H × List MemPlace}
    (h : DataW.trod enc Try.prog w 0 spare held fuel 52 cs = some x) : ∃ (a : Option Addr) (c : Nat) (qs : List AskV), cs = [.slice a qs.length c] ∧ qs.length ≤ 9223372036854775807 ∧ At w (SlI a (qs.flatMap AskV.cells)) ∧ At w (AskM qs) ∧ ∀ q ∈ qs, q.keys.length ≤ 9223372036854775807 ∧ q.vals.length ≤ 9223372036854775807 := by
  have e5 : Try.prog.cellsOf 37 = 5 := by kernel_rfl
  obtain ⟨a, c, qs, h1, h2, h3, h4⟩ := od_list AskV.cells (fun q => (q.keys.length ≤ 9223372036854775807 ∧ q.vals.length ≤ 9223372036854775807) ∧ At w (SlI q.ka (q.keys.map vI)) ∧ At w (SlI q.va (q.vals.map vI))) Try.underlying52 (by rw [e5]; decide) (fun _ hy => by
    obtain ⟨q, g1, g2, g3, g4, g5⟩ := ask_of hy
    exact ⟨q, g1, ⟨g2, g3⟩, g4, g5⟩) h
  exact ⟨a, c, qs, h1, h2, h3, fun q hq => (h4 q hq).2, fun q hq => (h4 q hq).1⟩
end Go.Proofs.Ytimafngkifakfaa
