/-
  No cell of these rows narrows 'for every input' (looked for: loops, veiled, ifaces, maps, wideKeys, modest, calm, conditions, laid).
  DERIVED. THE GIVEN ROWS OF THIS SEAT. 10 by the template 'for every input the law returns true; each argument reads behind the call as it read before'; 0 by the template 'total and deterministic' (their statements: YtibccdcemcgkeaaGreatTotals.lean).
  GIVEN WITH THE SEED: the statements are not yours to turn. If you find one false, say at which input.
  Laid BY PROGRAM, IN A SANDBOX (cutbox-rows.mjs): the forced cells as the released guide's own fill.sh prints them over the translation 4e80efa353b6051b… (all of the seat's roots in one cut). By AI agents, Wed Nov 11 2026. No macro, syntax, notation, axiom, sorry.
-/
import Derived.Test.YtibccdcemcgkeaaGreatChecked
import GoSem.Claim
import GoSem.ClaimJoined
import GoSem.ClaimMapViews
import Derived.JoinedTies
import Derived.KernelRfl
namespace Go.Proofs.YtibccdcemcgkeaaGreat
/- THE CELL 'sum', in the pinned program and in every row, IS THE sha256 OF THE DUMP (.gsa) THAT YtibccdcemcgkeaaGreatProg.lean LOADS. Nothing in Lean hashes anything: it is a label: what it is worth is what the hold of that sum in a sandbox is worth. -/
noncomputable def Tryz.pinned : Pinned := { name := "ytibccdcemcgkeaagreat", sum := "4e80efa353b6051b49fec87abdfadd792bed3b8bfafc44888ee649814d6bcf85", checked := Tryz.checked }
namespace Rows
def none {H : Type} : Left H := { results := [], args := [] }

/-- 'ammonitelaw15.KindRuns': WHATEVER THE INPUT: true; the input reads as it did. -/
def kindRunsSpec : ChangeSpec := { name := "kindRuns", fn := fun _ => fun
  | [] => { results := [.lit (.bool true)], args := [] }
  | _ => none }
def kindRunsRow : OpenClaim := { program := "ytibccdcemcgkeaagreat", sum := "4e80efa353b6051b49fec87abdfadd792bed3b8bfafc44888ee649814d6bcf85", func := "ammonite/ammonitelaw15.KindRuns", spec := "kindRuns", inPlace := ["internal/bytealg.IndexByteString", "internal/bytealg.IndexString", "internal/abi.NoEscape", "internal/bytealg.MakeNoZero"], unfollowed := true, recurses := true, named := ["internal/bytealg.MaxLen"], apart := false }
def KindRunsSaid : Prop := kindRunsRow.holds Tryz.pinned (OpenSpec.ofChange kindRunsSpec)

/-- ITS FALSE NEIGHBOUR: 'it returns false'. Refute it at one input. -/
def kindRunsWrong : ChangeSpec := { name := "kindRuns", fn := fun _ => fun
  | [] => { results := [.lit (.bool false)], args := [] }
  | _ => none }
def KindRunsWrongFalsely : Prop := kindRunsRow.holds Tryz.pinned (OpenSpec.ofChange kindRunsWrong)

/-- 'ammonitelaw15.KindTells': WHATEVER THE INPUT: true; the input reads as it did. -/
def kindTellsSpec : ChangeSpec := { name := "kindTells", fn := fun _ => fun
  | [d1, d2, d3, d4, d5, d6] => { results := [.lit (.bool true)], args := [d1, d2, d3, d4, d5, d6] }
  | _ => none }
def kindTellsRow : OpenClaim := { program := "ytibccdcemcgkeaagreat", sum := "4e80efa353b6051b49fec87abdfadd792bed3b8bfafc44888ee649814d6bcf85", func := "ammonite/ammonitelaw15.KindTells", spec := "kindTells", inPlace := ["internal/bytealg.IndexByteString", "internal/bytealg.IndexString", "internal/abi.NoEscape", "internal/bytealg.MakeNoZero"], unfollowed := true, recurses := true, named := ["internal/bytealg.MaxLen"], apart := false }
def KindTellsSaid : Prop := kindTellsRow.holds Tryz.pinned (OpenSpec.ofChange kindTellsSpec)

/-- ITS FALSE NEIGHBOUR: 'it returns false'. Refute it at one input. -/
def kindTellsWrong : ChangeSpec := { name := "kindTells", fn := fun _ => fun
  | [d1, d2, d3, d4, d5, d6] => { results := [.lit (.bool false)], args := [d1, d2, d3, d4, d5, d6] }
  | _ => none }
def KindTellsWrongFalsely : Prop := kindTellsRow.holds Tryz.pinned (OpenSpec.ofChange kindTellsWrong)

/-- 'ammonitelaw15.KindOne': WHATEVER THE INPUT: true; the input reads as it did. -/
def kindOneSpec : ChangeSpec := { name := "kindOne", fn := fun _ => fun
  | [d1, d2, d3, d4] => { results := [.lit (.bool true)], args := [d1, d2, d3, d4] }
  | _ => none }
def kindOneRow : OpenClaim := { program := "ytibccdcemcgkeaagreat", sum := "4e80efa353b6051b49fec87abdfadd792bed3b8bfafc44888ee649814d6bcf85", func := "ammonite/ammonitelaw15.KindOne", spec := "kindOne", inPlace := ["internal/bytealg.IndexByteString", "internal/bytealg.IndexString", "internal/abi.NoEscape", "internal/bytealg.MakeNoZero"], unfollowed := true, recurses := true, named := ["internal/bytealg.MaxLen"], apart := false }
def KindOneSaid : Prop := kindOneRow.holds Tryz.pinned (OpenSpec.ofChange kindOneSpec)

/-- ITS FALSE NEIGHBOUR: 'it returns false'. Refute it at one input. -/
def kindOneWrong : ChangeSpec := { name := "kindOne", fn := fun _ => fun
  | [d1, d2, d3, d4] => { results := [.lit (.bool false)], args := [d1, d2, d3, d4] }
  | _ => none }
def KindOneWrongFalsely : Prop := kindOneRow.holds Tryz.pinned (OpenSpec.ofChange kindOneWrong)

/-- 'ammonitelaw15.KindSpeaks': WHATEVER THE INPUT: true; the input reads as it did. -/
def kindSpeaksSpec : ChangeSpec := { name := "kindSpeaks", fn := fun _ => fun
  | [d1, d2] => { results := [.lit (.bool true)], args := [d1, d2] }
  | _ => none }
def kindSpeaksRow : OpenClaim := { program := "ytibccdcemcgkeaagreat", sum := "4e80efa353b6051b49fec87abdfadd792bed3b8bfafc44888ee649814d6bcf85", func := "ammonite/ammonitelaw15.KindSpeaks", spec := "kindSpeaks", inPlace := ["internal/bytealg.IndexByteString", "internal/abi.NoEscape", "internal/bytealg.IndexString", "internal/bytealg.MakeNoZero"], unfollowed := true, recurses := true, named := ["internal/bytealg.MaxLen"], apart := false }
def KindSpeaksSaid : Prop := kindSpeaksRow.holds Tryz.pinned (OpenSpec.ofChange kindSpeaksSpec)

/-- ITS FALSE NEIGHBOUR: 'it returns false'. Refute it at one input. -/
def kindSpeaksWrong : ChangeSpec := { name := "kindSpeaks", fn := fun _ => fun
  | [d1, d2] => { results := [.lit (.bool false)], args := [d1, d2] }
  | _ => none }
def KindSpeaksWrongFalsely : Prop := kindSpeaksRow.holds Tryz.pinned (OpenSpec.ofChange kindSpeaksWrong)

/-- 'ammonitelaw15.KindControl': WHATEVER THE INPUT: true; the input reads as it did. -/
def kindControlSpec : ChangeSpec := { name := "kindControl", fn := fun _ => fun
  | [d1, d2] => { results := [.lit (.bool true)], args := [d1, d2] }
  | _ => none }
def kindControlRow : OpenClaim := { program := "ytibccdcemcgkeaagreat", sum := "4e80efa353b6051b49fec87abdfadd792bed3b8bfafc44888ee649814d6bcf85", func := "ammonite/ammonitelaw15.KindControl", spec := "kindControl", inPlace := ["internal/bytealg.IndexByteString", "internal/abi.NoEscape", "internal/bytealg.IndexString", "internal/bytealg.MakeNoZero"], unfollowed := true, recurses := true, named := ["internal/bytealg.MaxLen"], apart := false }
def KindControlSaid : Prop := kindControlRow.holds Tryz.pinned (OpenSpec.ofChange kindControlSpec)

/-- ITS FALSE NEIGHBOUR: 'it returns false'. Refute it at one input. -/
def kindControlWrong : ChangeSpec := { name := "kindControl", fn := fun _ => fun
  | [d1, d2] => { results := [.lit (.bool false)], args := [d1, d2] }
  | _ => none }
def KindControlWrongFalsely : Prop := kindControlRow.holds Tryz.pinned (OpenSpec.ofChange kindControlWrong)

/-- 'ammonitelaw8.BlobRuns': WHATEVER THE INPUT: true; the input reads as it did. -/
def blobRunsSpec : ChangeSpec := { name := "blobRuns", fn := fun _ => fun
  | [] => { results := [.lit (.bool true)], args := [] }
  | _ => none }
def blobRunsRow : OpenClaim := { program := "ytibccdcemcgkeaagreat", sum := "4e80efa353b6051b49fec87abdfadd792bed3b8bfafc44888ee649814d6bcf85", func := "ammonite/ammonitelaw8.BlobRuns", spec := "blobRuns", inPlace := ["internal/abi.NoEscape", "internal/bytealg.MakeNoZero", "internal/bytealg.IndexByteString", "maps.clone"], unfollowed := true, recurses := true, apart := false }
def BlobRunsSaid : Prop := blobRunsRow.holds Tryz.pinned (OpenSpec.ofChange blobRunsSpec)

/-- ITS FALSE NEIGHBOUR: 'it returns false'. Refute it at one input. -/
def blobRunsWrong : ChangeSpec := { name := "blobRuns", fn := fun _ => fun
  | [] => { results := [.lit (.bool false)], args := [] }
  | _ => none }
def BlobRunsWrongFalsely : Prop := blobRunsRow.holds Tryz.pinned (OpenSpec.ofChange blobRunsWrong)

/-- 'ammonitelaw8.BlobSays': WHATEVER THE INPUT: true; the input reads as it did. -/
def blobSaysSpec : ChangeSpec := { name := "blobSays", fn := fun _ => fun
  | [d1, d2] => { results := [.lit (.bool true)], args := [d1, d2] }
  | _ => none }
def blobSaysRow : OpenClaim := { program := "ytibccdcemcgkeaagreat", sum := "4e80efa353b6051b49fec87abdfadd792bed3b8bfafc44888ee649814d6bcf85", func := "ammonite/ammonitelaw8.BlobSays", spec := "blobSays", inPlace := ["internal/abi.NoEscape", "internal/bytealg.MakeNoZero", "internal/bytealg.IndexByteString", "maps.clone"], unfollowed := true, recurses := true, apart := false }
def BlobSaysSaid : Prop := blobSaysRow.holds Tryz.pinned (OpenSpec.ofChange blobSaysSpec)

/-- ITS FALSE NEIGHBOUR: 'it returns false'. Refute it at one input. -/
def blobSaysWrong : ChangeSpec := { name := "blobSays", fn := fun _ => fun
  | [d1, d2] => { results := [.lit (.bool false)], args := [d1, d2] }
  | _ => none }
def BlobSaysWrongFalsely : Prop := blobSaysRow.holds Tryz.pinned (OpenSpec.ofChange blobSaysWrong)

/-- 'ammonitelaw8.BlobChains': WHATEVER THE INPUT: true; the input reads as it did. -/
def blobChainsSpec : ChangeSpec := { name := "blobChains", fn := fun _ => fun
  | [d1, d2] => { results := [.lit (.bool true)], args := [d1, d2] }
  | _ => none }
def blobChainsRow : OpenClaim := { program := "ytibccdcemcgkeaagreat", sum := "4e80efa353b6051b49fec87abdfadd792bed3b8bfafc44888ee649814d6bcf85", func := "ammonite/ammonitelaw8.BlobChains", spec := "blobChains", inPlace := ["internal/abi.NoEscape", "internal/bytealg.MakeNoZero", "internal/bytealg.IndexByteString", "maps.clone"], unfollowed := true, recurses := true, apart := false }
def BlobChainsSaid : Prop := blobChainsRow.holds Tryz.pinned (OpenSpec.ofChange blobChainsSpec)

/-- ITS FALSE NEIGHBOUR: 'it returns false'. Refute it at one input. -/
def blobChainsWrong : ChangeSpec := { name := "blobChains", fn := fun _ => fun
  | [d1, d2] => { results := [.lit (.bool false)], args := [d1, d2] }
  | _ => none }
def BlobChainsWrongFalsely : Prop := blobChainsRow.holds Tryz.pinned (OpenSpec.ofChange blobChainsWrong)

/-- 'ammonitelaw8.BlobBases': WHATEVER THE INPUT: true; the input reads as it did. -/
def blobBasesSpec : ChangeSpec := { name := "blobBases", fn := fun _ => fun
  | [d1, d2] => { results := [.lit (.bool true)], args := [d1, d2] }
  | _ => none }
def blobBasesRow : OpenClaim := { program := "ytibccdcemcgkeaagreat", sum := "4e80efa353b6051b49fec87abdfadd792bed3b8bfafc44888ee649814d6bcf85", func := "ammonite/ammonitelaw8.BlobBases", spec := "blobBases", inPlace := ["internal/abi.NoEscape", "internal/bytealg.MakeNoZero", "internal/bytealg.IndexByteString", "maps.clone"], unfollowed := true, recurses := true, apart := false }
def BlobBasesSaid : Prop := blobBasesRow.holds Tryz.pinned (OpenSpec.ofChange blobBasesSpec)

/-- ITS FALSE NEIGHBOUR: 'it returns false'. Refute it at one input. -/
def blobBasesWrong : ChangeSpec := { name := "blobBases", fn := fun _ => fun
  | [d1, d2] => { results := [.lit (.bool false)], args := [d1, d2] }
  | _ => none }
def BlobBasesWrongFalsely : Prop := blobBasesRow.holds Tryz.pinned (OpenSpec.ofChange blobBasesWrong)

/-- 'ammonitelaw8.BlobPlays': WHATEVER THE INPUT: true; the input reads as it did. -/
def blobPlaysSpec : ChangeSpec := { name := "blobPlays", fn := fun _ => fun
  | [d] => { results := [.lit (.bool true)], args := [d] }
  | _ => none }
def blobPlaysRow : OpenClaim := { program := "ytibccdcemcgkeaagreat", sum := "4e80efa353b6051b49fec87abdfadd792bed3b8bfafc44888ee649814d6bcf85", func := "ammonite/ammonitelaw8.BlobPlays", spec := "blobPlays", inPlace := ["internal/abi.NoEscape", "internal/bytealg.MakeNoZero", "internal/bytealg.IndexByteString", "maps.clone"], unfollowed := true, recurses := true, apart := false }
def BlobPlaysSaid : Prop := blobPlaysRow.holds Tryz.pinned (OpenSpec.ofChange blobPlaysSpec)

/-- ITS FALSE NEIGHBOUR: 'it returns false'. Refute it at one input. -/
def blobPlaysWrong : ChangeSpec := { name := "blobPlays", fn := fun _ => fun
  | [d] => { results := [.lit (.bool false)], args := [d] }
  | _ => none }
def BlobPlaysWrongFalsely : Prop := blobPlaysRow.holds Tryz.pinned (OpenSpec.ofChange blobPlaysWrong)

/- THE SECOND FORM. 'bulk': how many values and letters a reading holds, each counted each time it is reached (what is shared counts as often as it is met; a slice's spare places count too). A statement '..UptoSaid' is the law's where the arguments, and the package variables that the reading takes, are together of bulk at most 1048576: NARROWER than '..Said'. Prove '..Said' where nothing that the law and all that it calls make is longer than what came in: it says more and counts as full. Else prove '..UptoSaid'. A law counts once. -/
mutual
def uptoBulk {H : Type} : DataW H → Nat
  | .lit (.string bytes) => bytes.length + 1
  | .lit _ => 1
  | .nil => 1
  | .ptr d => uptoBulk d + 1
  | .slice elems spare => uptoBulkAll elems + uptoBulkAll spare + 1
  | .agg parts => uptoBulkAll parts + 1
  | .iface _ d => uptoBulk d + 1
  | .map entries => uptoBulkEntries entries + 1
  | .held _ => 1
def uptoBulkAll {H : Type} : List (DataW H) → Nat
  | [] => 0
  | d :: r => uptoBulk d + uptoBulkAll r
def uptoBulkEntries {H : Type} : List (Lit × DataW H) → Nat
  | [] => 0
  | x :: r => uptoBulkEntry x + uptoBulkEntries r
def uptoBulkEntry {H : Type} : Lit × DataW H → Nat
  | (.string bytes, d) => bytes.length + uptoBulk d + 1
  | (_, d) => uptoBulk d + 1
 end
def uptoSmall : (H : Type) → List (DataW H) → Bool := fun _ ds => decide (uptoBulkAll ds ≤ 1048576)
def OpenSpec.upto (s : _root_.Go.ChangeSpec) : _root_.Go.OpenSpec := { _root_.Go.OpenSpec.ofChange s with cond := some uptoSmall }

/-- 'ammonitelaw15.KindRuns', WHERE WHAT IT READS IS OF BULK AT MOST 1048576: true; the input reads as it did. -/
def kindRunsUptoRow : OpenClaim := { program := "ytibccdcemcgkeaagreat", sum := "4e80efa353b6051b49fec87abdfadd792bed3b8bfafc44888ee649814d6bcf85", func := "ammonite/ammonitelaw15.KindRuns", spec := "kindRuns", inPlace := ["internal/bytealg.IndexByteString", "internal/bytealg.IndexString", "internal/abi.NoEscape", "internal/bytealg.MakeNoZero"], unfollowed := true, recurses := true, named := ["internal/bytealg.MaxLen"], apart := false, narrowed := true }
def KindRunsUptoSaid : Prop := kindRunsUptoRow.holds Tryz.pinned (OpenSpec.upto kindRunsSpec)

/-- 'ammonitelaw15.KindTells', WHERE WHAT IT READS IS OF BULK AT MOST 1048576: true; the input reads as it did. -/
def kindTellsUptoRow : OpenClaim := { program := "ytibccdcemcgkeaagreat", sum := "4e80efa353b6051b49fec87abdfadd792bed3b8bfafc44888ee649814d6bcf85", func := "ammonite/ammonitelaw15.KindTells", spec := "kindTells", inPlace := ["internal/bytealg.IndexByteString", "internal/bytealg.IndexString", "internal/abi.NoEscape", "internal/bytealg.MakeNoZero"], unfollowed := true, recurses := true, named := ["internal/bytealg.MaxLen"], apart := false, narrowed := true }
def KindTellsUptoSaid : Prop := kindTellsUptoRow.holds Tryz.pinned (OpenSpec.upto kindTellsSpec)

/-- 'ammonitelaw15.KindOne', WHERE WHAT IT READS IS OF BULK AT MOST 1048576: true; the input reads as it did. -/
def kindOneUptoRow : OpenClaim := { program := "ytibccdcemcgkeaagreat", sum := "4e80efa353b6051b49fec87abdfadd792bed3b8bfafc44888ee649814d6bcf85", func := "ammonite/ammonitelaw15.KindOne", spec := "kindOne", inPlace := ["internal/bytealg.IndexByteString", "internal/bytealg.IndexString", "internal/abi.NoEscape", "internal/bytealg.MakeNoZero"], unfollowed := true, recurses := true, named := ["internal/bytealg.MaxLen"], apart := false, narrowed := true }
def KindOneUptoSaid : Prop := kindOneUptoRow.holds Tryz.pinned (OpenSpec.upto kindOneSpec)

/-- 'ammonitelaw15.KindSpeaks', WHERE WHAT IT READS IS OF BULK AT MOST 1048576: true; the input reads as it did. -/
def kindSpeaksUptoRow : OpenClaim := { program := "ytibccdcemcgkeaagreat", sum := "4e80efa353b6051b49fec87abdfadd792bed3b8bfafc44888ee649814d6bcf85", func := "ammonite/ammonitelaw15.KindSpeaks", spec := "kindSpeaks", inPlace := ["internal/bytealg.IndexByteString", "internal/abi.NoEscape", "internal/bytealg.IndexString", "internal/bytealg.MakeNoZero"], unfollowed := true, recurses := true, named := ["internal/bytealg.MaxLen"], apart := false, narrowed := true }
def KindSpeaksUptoSaid : Prop := kindSpeaksUptoRow.holds Tryz.pinned (OpenSpec.upto kindSpeaksSpec)

/-- 'ammonitelaw15.KindControl', WHERE WHAT IT READS IS OF BULK AT MOST 1048576: true; the input reads as it did. -/
def kindControlUptoRow : OpenClaim := { program := "ytibccdcemcgkeaagreat", sum := "4e80efa353b6051b49fec87abdfadd792bed3b8bfafc44888ee649814d6bcf85", func := "ammonite/ammonitelaw15.KindControl", spec := "kindControl", inPlace := ["internal/bytealg.IndexByteString", "internal/abi.NoEscape", "internal/bytealg.IndexString", "internal/bytealg.MakeNoZero"], unfollowed := true, recurses := true, named := ["internal/bytealg.MaxLen"], apart := false, narrowed := true }
def KindControlUptoSaid : Prop := kindControlUptoRow.holds Tryz.pinned (OpenSpec.upto kindControlSpec)

/-- 'ammonitelaw8.BlobRuns', WHERE WHAT IT READS IS OF BULK AT MOST 1048576: true; the input reads as it did. -/
def blobRunsUptoRow : OpenClaim := { program := "ytibccdcemcgkeaagreat", sum := "4e80efa353b6051b49fec87abdfadd792bed3b8bfafc44888ee649814d6bcf85", func := "ammonite/ammonitelaw8.BlobRuns", spec := "blobRuns", inPlace := ["internal/abi.NoEscape", "internal/bytealg.MakeNoZero", "internal/bytealg.IndexByteString", "maps.clone"], unfollowed := true, recurses := true, apart := false, narrowed := true }
def BlobRunsUptoSaid : Prop := blobRunsUptoRow.holds Tryz.pinned (OpenSpec.upto blobRunsSpec)

/-- 'ammonitelaw8.BlobSays', WHERE WHAT IT READS IS OF BULK AT MOST 1048576: true; the input reads as it did. -/
def blobSaysUptoRow : OpenClaim := { program := "ytibccdcemcgkeaagreat", sum := "4e80efa353b6051b49fec87abdfadd792bed3b8bfafc44888ee649814d6bcf85", func := "ammonite/ammonitelaw8.BlobSays", spec := "blobSays", inPlace := ["internal/abi.NoEscape", "internal/bytealg.MakeNoZero", "internal/bytealg.IndexByteString", "maps.clone"], unfollowed := true, recurses := true, apart := false, narrowed := true }
def BlobSaysUptoSaid : Prop := blobSaysUptoRow.holds Tryz.pinned (OpenSpec.upto blobSaysSpec)

/-- 'ammonitelaw8.BlobChains', WHERE WHAT IT READS IS OF BULK AT MOST 1048576: true; the input reads as it did. -/
def blobChainsUptoRow : OpenClaim := { program := "ytibccdcemcgkeaagreat", sum := "4e80efa353b6051b49fec87abdfadd792bed3b8bfafc44888ee649814d6bcf85", func := "ammonite/ammonitelaw8.BlobChains", spec := "blobChains", inPlace := ["internal/abi.NoEscape", "internal/bytealg.MakeNoZero", "internal/bytealg.IndexByteString", "maps.clone"], unfollowed := true, recurses := true, apart := false, narrowed := true }
def BlobChainsUptoSaid : Prop := blobChainsUptoRow.holds Tryz.pinned (OpenSpec.upto blobChainsSpec)

/-- 'ammonitelaw8.BlobBases', WHERE WHAT IT READS IS OF BULK AT MOST 1048576: true; the input reads as it did. -/
def blobBasesUptoRow : OpenClaim := { program := "ytibccdcemcgkeaagreat", sum := "4e80efa353b6051b49fec87abdfadd792bed3b8bfafc44888ee649814d6bcf85", func := "ammonite/ammonitelaw8.BlobBases", spec := "blobBases", inPlace := ["internal/abi.NoEscape", "internal/bytealg.MakeNoZero", "internal/bytealg.IndexByteString", "maps.clone"], unfollowed := true, recurses := true, apart := false, narrowed := true }
def BlobBasesUptoSaid : Prop := blobBasesUptoRow.holds Tryz.pinned (OpenSpec.upto blobBasesSpec)

/-- 'ammonitelaw8.BlobPlays', WHERE WHAT IT READS IS OF BULK AT MOST 1048576: true; the input reads as it did. -/
def blobPlaysUptoRow : OpenClaim := { program := "ytibccdcemcgkeaagreat", sum := "4e80efa353b6051b49fec87abdfadd792bed3b8bfafc44888ee649814d6bcf85", func := "ammonite/ammonitelaw8.BlobPlays", spec := "blobPlays", inPlace := ["internal/abi.NoEscape", "internal/bytealg.MakeNoZero", "internal/bytealg.IndexByteString", "maps.clone"], unfollowed := true, recurses := true, apart := false, narrowed := true }
def BlobPlaysUptoSaid : Prop := blobPlaysUptoRow.holds Tryz.pinned (OpenSpec.upto blobPlaysSpec)

end Rows
end Go.Proofs.YtibccdcemcgkeaaGreat
