/-
  No cell of these rows narrows 'for every input' (looked for: loops, veiled, ifaces, maps, wideKeys, modest, calm, conditions, laid).
  DERIVED. THE GIVEN ROWS OF THIS SEAT. 5 by the template 'for every input the law returns true; each argument reads behind the call as it read before'; 0 by the template 'total and deterministic' (their statements: YtimafngkifakfaaTotals.lean).
  GIVEN WITH THE SEED: the statements are not yours to turn. If you find one false, say at which input.
  Laid BY PROGRAM, IN A SANDBOX (cutbox-rows.mjs): the forced cells as the released guide's own fill.sh prints them over the translation 730fcc2b3595e252… (all of the seat's roots in one cut). By AI agents, Wed Nov 11 2026. No macro, syntax, notation, axiom, sorry.
-/
import Derived.Test.YtimafngkifakfaaChecked
import GoSem.Claim
import GoSem.ClaimJoined
import GoSem.ClaimMapViews
import Derived.JoinedTies
import Derived.KernelRfl
namespace Go.Proofs.Ytimafngkifakfaa
/- THE CELL 'sum', in the pinned program and in every row, IS THE sha256 OF THE DUMP (.gsa) THAT YtimafngkifakfaaProg.lean LOADS. Nothing in Lean hashes anything: it is a label: what it is worth is what the hold of that sum in a sandbox is worth. -/
noncomputable def Try.pinned : Pinned := { name := "ytimafngkifakfaa", sum := "730fcc2b3595e252273b0e587b4cc349648fed0c6b9c2d0c24e8bc3924ba3c67", checked := Try.checked }
namespace Rows
def none {H : Type} : Left H := { results := [], args := [] }

/-- 'ammonitelaw7.StoreRuns': WHATEVER THE INPUT: true; the input reads as it did. -/
def storeRunsSpec : ChangeSpec := { name := "storeRuns", fn := fun _ => fun
  | [] => { results := [.lit (.bool true)], args := [] }
  | _ => none }
def storeRunsRow : OpenClaim := { program := "ytimafngkifakfaa", sum := "730fcc2b3595e252273b0e587b4cc349648fed0c6b9c2d0c24e8bc3924ba3c67", func := "ammonite/ammonitelaw7.StoreRuns", spec := "storeRuns", inPlace := ["internal/abi.NoEscape", "internal/bytealg.MakeNoZero", "internal/bytealg.IndexByteString"], unfollowed := true, recurses := true, apart := false }
def StoreRunsSaid : Prop := storeRunsRow.holds Try.pinned (OpenSpec.ofChange storeRunsSpec)

/-- ITS FALSE NEIGHBOUR: 'it returns false'. Refute it at one input. -/
def storeRunsWrong : ChangeSpec := { name := "storeRuns", fn := fun _ => fun
  | [] => { results := [.lit (.bool false)], args := [] }
  | _ => none }
def StoreRunsWrongFalsely : Prop := storeRunsRow.holds Try.pinned (OpenSpec.ofChange storeRunsWrong)

/-- 'ammonitelaw7.StoreTexts': WHATEVER THE INPUT: true; the input reads as it did. -/
def storeTextsSpec : ChangeSpec := { name := "storeTexts", fn := fun _ => fun
  | [d1, d2, d3, d4, d5, d6] => { results := [.lit (.bool true)], args := [d1, d2, d3, d4, d5, d6] }
  | _ => none }
def storeTextsRow : OpenClaim := { program := "ytimafngkifakfaa", sum := "730fcc2b3595e252273b0e587b4cc349648fed0c6b9c2d0c24e8bc3924ba3c67", func := "ammonite/ammonitelaw7.StoreTexts", spec := "storeTexts", inPlace := ["internal/abi.NoEscape", "internal/bytealg.IndexByteString", "internal/bytealg.MakeNoZero"], unfollowed := true, recurses := true, apart := false }
def StoreTextsSaid : Prop := storeTextsRow.holds Try.pinned (OpenSpec.ofChange storeTextsSpec)

/-- ITS FALSE NEIGHBOUR: 'it returns false'. Refute it at one input. -/
def storeTextsWrong : ChangeSpec := { name := "storeTexts", fn := fun _ => fun
  | [d1, d2, d3, d4, d5, d6] => { results := [.lit (.bool false)], args := [d1, d2, d3, d4, d5, d6] }
  | _ => none }
def StoreTextsWrongFalsely : Prop := storeTextsRow.holds Try.pinned (OpenSpec.ofChange storeTextsWrong)

/-- 'ammonitelaw7.StoreKeys': WHATEVER THE INPUT: true; the input reads as it did. -/
def storeKeysSpec : ChangeSpec := { name := "storeKeys", fn := fun _ => fun
  | [d1, d2] => { results := [.lit (.bool true)], args := [d1, d2] }
  | _ => none }
def storeKeysRow : OpenClaim := { program := "ytimafngkifakfaa", sum := "730fcc2b3595e252273b0e587b4cc349648fed0c6b9c2d0c24e8bc3924ba3c67", func := "ammonite/ammonitelaw7.StoreKeys", spec := "storeKeys", inPlace := ["internal/abi.NoEscape", "internal/bytealg.MakeNoZero", "internal/bytealg.IndexByteString", "maps.clone"], unfollowed := true, recurses := true, apart := false }
def StoreKeysSaid : Prop := storeKeysRow.holds Try.pinned (OpenSpec.ofChange storeKeysSpec)

/-- ITS FALSE NEIGHBOUR: 'it returns false'. Refute it at one input. -/
def storeKeysWrong : ChangeSpec := { name := "storeKeys", fn := fun _ => fun
  | [d1, d2] => { results := [.lit (.bool false)], args := [d1, d2] }
  | _ => none }
def StoreKeysWrongFalsely : Prop := storeKeysRow.holds Try.pinned (OpenSpec.ofChange storeKeysWrong)

/-- 'ammonitelaw7.StorePlays': WHATEVER THE INPUT: true; the input reads as it did. -/
def storePlaysSpec : ChangeSpec := { name := "storePlays", fn := fun _ => fun
  | [d] => { results := [.lit (.bool true)], args := [d] }
  | _ => none }
def storePlaysRow : OpenClaim := { program := "ytimafngkifakfaa", sum := "730fcc2b3595e252273b0e587b4cc349648fed0c6b9c2d0c24e8bc3924ba3c67", func := "ammonite/ammonitelaw7.StorePlays", spec := "storePlays", inPlace := ["internal/abi.NoEscape", "internal/bytealg.MakeNoZero", "internal/bytealg.IndexByteString", "maps.clone"], unfollowed := true, recurses := true, apart := false }
def StorePlaysSaid : Prop := storePlaysRow.holds Try.pinned (OpenSpec.ofChange storePlaysSpec)

/-- ITS FALSE NEIGHBOUR: 'it returns false'. Refute it at one input. -/
def storePlaysWrong : ChangeSpec := { name := "storePlays", fn := fun _ => fun
  | [d] => { results := [.lit (.bool false)], args := [d] }
  | _ => none }
def StorePlaysWrongFalsely : Prop := storePlaysRow.holds Try.pinned (OpenSpec.ofChange storePlaysWrong)

/-- 'ammonitelaw7.StoreWhole': WHATEVER THE INPUT: true; the input reads as it did. -/
def storeWholeSpec : ChangeSpec := { name := "storeWhole", fn := fun _ => fun
  | [d1, d2, d3, d4] => { results := [.lit (.bool true)], args := [d1, d2, d3, d4] }
  | _ => none }
def storeWholeRow : OpenClaim := { program := "ytimafngkifakfaa", sum := "730fcc2b3595e252273b0e587b4cc349648fed0c6b9c2d0c24e8bc3924ba3c67", func := "ammonite/ammonitelaw7.StoreWhole", spec := "storeWhole", inPlace := ["internal/abi.NoEscape", "internal/bytealg.MakeNoZero", "internal/bytealg.IndexByteString", "maps.clone"], unfollowed := true, recurses := true, apart := false }
def StoreWholeSaid : Prop := storeWholeRow.holds Try.pinned (OpenSpec.ofChange storeWholeSpec)

/-- ITS FALSE NEIGHBOUR: 'it returns false'. Refute it at one input. -/
def storeWholeWrong : ChangeSpec := { name := "storeWhole", fn := fun _ => fun
  | [d1, d2, d3, d4] => { results := [.lit (.bool false)], args := [d1, d2, d3, d4] }
  | _ => none }
def StoreWholeWrongFalsely : Prop := storeWholeRow.holds Try.pinned (OpenSpec.ofChange storeWholeWrong)

/- THE SECOND FORM. 'bulk': how many values and letters a reading holds, each counted each time it is reached (what is shared counts as often as it is met; a slice's spare places count too). A statement '..UptoSaid' is the law's where the arguments, and the package variables that the reading takes, are together of bulk at most 1048576: NARROWER than '..Said'. Prove '..Said' where nothing that the law and all that it calls make is longer than what came in: it says more and counts as full. Else prove '..UptoSaid'. A law counts once. -/
mutual
def uptoBulk {H : Type} : DataW H → Nat
  | .lit (.string bytes) => bytes.length + 1
  | .lit _ => 1
  | .nil => 1
  | .ptr d => uptoBulk d + 1
  | .slice elems spare => uptoBulkAll elems + uptoBulkAll spare + 1
  | .agg parts => uptoBulkAll parts + 1
  | .iface _ d => uptoBulk d + 1
  | .map entries => uptoBulkEntries entries + 1
  | .held _ => 1
def uptoBulkAll {H : Type} : List (DataW H) → Nat
  | [] => 0
  | d :: r => uptoBulk d + uptoBulkAll r
def uptoBulkEntries {H : Type} : List (Lit × DataW H) → Nat
  | [] => 0
  | x :: r => uptoBulkEntry x + uptoBulkEntries r
def uptoBulkEntry {H : Type} : Lit × DataW H → Nat
  | (.string bytes, d) => bytes.length + uptoBulk d + 1
  | (_, d) => uptoBulk d + 1
 end
def uptoSmall : (H : Type) → List (DataW H) → Bool := fun _ ds => decide (uptoBulkAll ds ≤ 1048576)
def OpenSpec.upto (s : _root_.Go.ChangeSpec) : _root_.Go.OpenSpec := { _root_.Go.OpenSpec.ofChange s with cond := some uptoSmall }

/-- 'ammonitelaw7.StoreRuns', WHERE WHAT IT READS IS OF BULK AT MOST 1048576: true; the input reads as it did. -/
def storeRunsUptoRow : OpenClaim := { program := "ytimafngkifakfaa", sum := "730fcc2b3595e252273b0e587b4cc349648fed0c6b9c2d0c24e8bc3924ba3c67", func := "ammonite/ammonitelaw7.StoreRuns", spec := "storeRuns", inPlace := ["internal/abi.NoEscape", "internal/bytealg.MakeNoZero", "internal/bytealg.IndexByteString"], unfollowed := true, recurses := true, apart := false, narrowed := true }
def StoreRunsUptoSaid : Prop := storeRunsUptoRow.holds Try.pinned (OpenSpec.upto storeRunsSpec)

/-- 'ammonitelaw7.StoreTexts', WHERE WHAT IT READS IS OF BULK AT MOST 1048576: true; the input reads as it did. -/
def storeTextsUptoRow : OpenClaim := { program := "ytimafngkifakfaa", sum := "730fcc2b3595e252273b0e587b4cc349648fed0c6b9c2d0c24e8bc3924ba3c67", func := "ammonite/ammonitelaw7.StoreTexts", spec := "storeTexts", inPlace := ["internal/abi.NoEscape", "internal/bytealg.IndexByteString", "internal/bytealg.MakeNoZero"], unfollowed := true, recurses := true, apart := false, narrowed := true }
def StoreTextsUptoSaid : Prop := storeTextsUptoRow.holds Try.pinned (OpenSpec.upto storeTextsSpec)

/-- 'ammonitelaw7.StoreKeys', WHERE WHAT IT READS IS OF BULK AT MOST 1048576: true; the input reads as it did. -/
def storeKeysUptoRow : OpenClaim := { program := "ytimafngkifakfaa", sum := "730fcc2b3595e252273b0e587b4cc349648fed0c6b9c2d0c24e8bc3924ba3c67", func := "ammonite/ammonitelaw7.StoreKeys", spec := "storeKeys", inPlace := ["internal/abi.NoEscape", "internal/bytealg.MakeNoZero", "internal/bytealg.IndexByteString", "maps.clone"], unfollowed := true, recurses := true, apart := false, narrowed := true }
def StoreKeysUptoSaid : Prop := storeKeysUptoRow.holds Try.pinned (OpenSpec.upto storeKeysSpec)

/-- 'ammonitelaw7.StorePlays', WHERE WHAT IT READS IS OF BULK AT MOST 1048576: true; the input reads as it did. -/
def storePlaysUptoRow : OpenClaim := { program := "ytimafngkifakfaa", sum := "730fcc2b3595e252273b0e587b4cc349648fed0c6b9c2d0c24e8bc3924ba3c67", func := "ammonite/ammonitelaw7.StorePlays", spec := "storePlays", inPlace := ["internal/abi.NoEscape", "internal/bytealg.MakeNoZero", "internal/bytealg.IndexByteString", "maps.clone"], unfollowed := true, recurses := true, apart := false, narrowed := true }
def StorePlaysUptoSaid : Prop := storePlaysUptoRow.holds Try.pinned (OpenSpec.upto storePlaysSpec)

/-- 'ammonitelaw7.StoreWhole', WHERE WHAT IT READS IS OF BULK AT MOST 1048576: true; the input reads as it did. -/
def storeWholeUptoRow : OpenClaim := { program := "ytimafngkifakfaa", sum := "730fcc2b3595e252273b0e587b4cc349648fed0c6b9c2d0c24e8bc3924ba3c67", func := "ammonite/ammonitelaw7.StoreWhole", spec := "storeWhole", inPlace := ["internal/abi.NoEscape", "internal/bytealg.MakeNoZero", "internal/bytealg.IndexByteString", "maps.clone"], unfollowed := true, recurses := true, apart := false, narrowed := true }
def StoreWholeUptoSaid : Prop := storeWholeUptoRow.holds Try.pinned (OpenSpec.upto storeWholeSpec)

end Rows
end Go.Proofs.Ytimafngkifakfaa
