/- The library's plain functions. -/
import Derived.Test.YtimafngkifakfaaStruct
import Derived.Test.YtimafngkifakfaaTypes
import Derived.Test.YtimafngkifakfaaShelf
set_option linter.unusedVariables false
set_option linter.unusedSimpArgs false
namespace Go.Proofs.Ytimafngkifakfaa
open Go.RowKit (Below)
theorem SpF.of_same {P : Program} {f : FuncId} {args : List Value} {v : Value} (en : ∀ (args : Array Value) (w : World), (callFunc f args).run P w = .ok (.enter f args) w)
    (h : ∀ w, Calls P f args.toArray w fun e w' => e = .returned v ∧ w' = w) : SpF P f args v :=
  SpF.of_calls en fun w => (h w).mono fun e w' ⟨a, b⟩ => ⟨a, by rw [b]; exact Below.refl _ _⟩

theorem IndexByte_sp (l : List UInt8) (c : Int) : SpF Try.prog 79 [vS l, vU c] (vI (Lib.indexByte l c.toNat.toUInt8)) :=
  SpF.of_same Try.call79 fun w => Try.strings_IndexByte ⟨⟨l⟩⟩ c w
theorem CutPrefix_sp (l p : List UInt8) : SpF Try.prog 64 [vS l, vS p] (.tuple #[vS (Lib.trimPrefix l p), vB (Lib.hasPrefix l p)]) :=
  SpF.of_same Try.call64 fun w => Try.strings_CutPrefix ⟨⟨l⟩⟩ ⟨⟨p⟩⟩ w
theorem HasPrefix_sp (l p : List UInt8) : SpF Try.prog 52 [vS l, vS p] (vB (Lib.hasPrefix l p)) :=
  SpF.of_same Try.call52 fun w => Try.strings_HasPrefix ⟨⟨l⟩⟩ ⟨⟨p⟩⟩ w
theorem Repeat_sp (l : List UInt8) (c : Nat) (h : l.length * c ≤ 140737488355328) (hc : c ≤ 9223372036854775807) : SpF Try.prog 55 [vS l, vI c] (vS (Lib.repeatL l c)) :=
  SpF.of_calls Try.call55 fun w => Try.strings_Repeat ⟨⟨l⟩⟩ c w hc h
theorem repeat_one (b : UInt8) : ∀ c : Nat, Lib.repeatL [b] c = List.replicate c b := by
  intro c
  induction c with
  | zero => rfl
  | succ c ih => simp [Lib.repeatL, ih, List.replicate_succ]
end Go.Proofs.Ytimafngkifakfaa
