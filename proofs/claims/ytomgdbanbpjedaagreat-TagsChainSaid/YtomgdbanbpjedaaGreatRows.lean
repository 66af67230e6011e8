/-
  No cell of these rows narrows 'for every input' (looked for: loops, veiled, ifaces, maps, wideKeys, modest, calm, conditions, laid).
  DERIVED. THE GIVEN ROWS OF THIS SEAT. 9 by the template 'for every input the law returns true; each argument reads behind the call as it read before'; 0 by the template 'total and deterministic' (their statements: YtomgdbanbpjedaaGreatTotals.lean).
  GIVEN WITH THE SEED: the statements are not yours to turn. If you find one false, say at which input.
  Laid BY PROGRAM, IN A SANDBOX (cutbox-rows.mjs): the forced cells as the released guide's own fill.sh prints them over the translation 61ab5b8fcb8d699f… (all of the seat's roots in one cut). By AI agents, Wed Nov 11 2026. No macro, syntax, notation, axiom, sorry.
-/
import Derived.Test.YtomgdbanbpjedaaGreatChecked
import GoSem.Claim
import GoSem.ClaimJoined
import GoSem.ClaimMapViews
import Derived.JoinedTies
import Derived.KernelRfl
namespace Go.Proofs.YtomgdbanbpjedaaGreat
/- THE CELL 'sum', in the pinned program and in every row, IS THE sha256 OF THE DUMP (.gsa) THAT YtomgdbanbpjedaaGreatProg.lean LOADS. Nothing in Lean hashes anything: it is a label: what it is worth is what the hold of that sum in a sandbox is worth. -/
noncomputable def Tryz.pinned : Pinned := { name := "ytomgdbanbpjedaagreat", sum := "61ab5b8fcb8d699f98aaa749f822c42c20ada3ef320f0269b200827d2806e90a", checked := Tryz.checked }
namespace Rows
def none {H : Type} : Left H := { results := [], args := [] }

/-- 'ammonitelaw18.TagsRuns': WHATEVER THE INPUT: true; the input reads as it did. -/
def tagsRunsSpec : ChangeSpec := { name := "tagsRuns", fn := fun _ => fun
  | [] => { results := [.lit (.bool true)], args := [] }
  | _ => none }
def tagsRunsRow : OpenClaim := { program := "ytomgdbanbpjedaagreat", sum := "61ab5b8fcb8d699f98aaa749f822c42c20ada3ef320f0269b200827d2806e90a", func := "ammonite/ammonitelaw18.TagsRuns", spec := "tagsRuns", inPlace := ["internal/bytealg.IndexByteString", "internal/bytealg.IndexString", "internal/abi.NoEscape", "internal/bytealg.MakeNoZero"], unfollowed := true, recurses := true, named := ["internal/bytealg.MaxLen"], plainKeys := false, apart := false }
def TagsRunsSaid : Prop := tagsRunsRow.holds Tryz.pinned (OpenSpec.ofChange tagsRunsSpec)

/-- ITS FALSE NEIGHBOUR: 'it returns false'. Refute it at one input. -/
def tagsRunsWrong : ChangeSpec := { name := "tagsRuns", fn := fun _ => fun
  | [] => { results := [.lit (.bool false)], args := [] }
  | _ => none }
def TagsRunsWrongFalsely : Prop := tagsRunsRow.holds Tryz.pinned (OpenSpec.ofChange tagsRunsWrong)

/-- 'ammonitelaw18.TagsChain': WHATEVER THE INPUT: true; the input reads as it did. -/
def tagsChainSpec : ChangeSpec := { name := "tagsChain", fn := fun _ => fun
  | [d1, d2] => { results := [.lit (.bool true)], args := [d1, d2] }
  | _ => none }
def tagsChainRow : OpenClaim := { program := "ytomgdbanbpjedaagreat", sum := "61ab5b8fcb8d699f98aaa749f822c42c20ada3ef320f0269b200827d2806e90a", func := "ammonite/ammonitelaw18.TagsChain", spec := "tagsChain", inPlace := ["internal/bytealg.IndexByteString", "internal/bytealg.IndexString", "internal/abi.NoEscape", "internal/bytealg.MakeNoZero"], unfollowed := true, recurses := true, named := ["internal/bytealg.MaxLen"], plainKeys := false, apart := false }
def TagsChainSaid : Prop := tagsChainRow.holds Tryz.pinned (OpenSpec.ofChange tagsChainSpec)

/-- ITS FALSE NEIGHBOUR: 'it returns false'. Refute it at one input. -/
def tagsChainWrong : ChangeSpec := { name := "tagsChain", fn := fun _ => fun
  | [d1, d2] => { results := [.lit (.bool false)], args := [d1, d2] }
  | _ => none }
def TagsChainWrongFalsely : Prop := tagsChainRow.holds Tryz.pinned (OpenSpec.ofChange tagsChainWrong)

/-- 'ammonitelaw18.TagsRings': WHATEVER THE INPUT: true; the input reads as it did. -/
def tagsRingsSpec : ChangeSpec := { name := "tagsRings", fn := fun _ => fun
  | [d1, d2] => { results := [.lit (.bool true)], args := [d1, d2] }
  | _ => none }
def tagsRingsRow : OpenClaim := { program := "ytomgdbanbpjedaagreat", sum := "61ab5b8fcb8d699f98aaa749f822c42c20ada3ef320f0269b200827d2806e90a", func := "ammonite/ammonitelaw18.TagsRings", spec := "tagsRings", inPlace := ["internal/bytealg.IndexByteString", "internal/bytealg.IndexString", "internal/abi.NoEscape", "internal/bytealg.MakeNoZero"], unfollowed := true, recurses := true, named := ["internal/bytealg.MaxLen"], plainKeys := false, apart := false }
def TagsRingsSaid : Prop := tagsRingsRow.holds Tryz.pinned (OpenSpec.ofChange tagsRingsSpec)

/-- ITS FALSE NEIGHBOUR: 'it returns false'. Refute it at one input. -/
def tagsRingsWrong : ChangeSpec := { name := "tagsRings", fn := fun _ => fun
  | [d1, d2] => { results := [.lit (.bool false)], args := [d1, d2] }
  | _ => none }
def TagsRingsWrongFalsely : Prop := tagsRingsRow.holds Tryz.pinned (OpenSpec.ofChange tagsRingsWrong)

/-- 'ammonitelaw18.TagsMerge': WHATEVER THE INPUT: true; the input reads as it did. -/
def tagsMergeSpec : ChangeSpec := { name := "tagsMerge", fn := fun _ => fun
  | [d1, d2] => { results := [.lit (.bool true)], args := [d1, d2] }
  | _ => none }
def tagsMergeRow : OpenClaim := { program := "ytomgdbanbpjedaagreat", sum := "61ab5b8fcb8d699f98aaa749f822c42c20ada3ef320f0269b200827d2806e90a", func := "ammonite/ammonitelaw18.TagsMerge", spec := "tagsMerge", inPlace := ["internal/bytealg.IndexByteString", "internal/bytealg.IndexString", "internal/abi.NoEscape", "internal/bytealg.MakeNoZero"], unfollowed := true, recurses := true, named := ["internal/bytealg.MaxLen"], plainKeys := false, apart := false }
def TagsMergeSaid : Prop := tagsMergeRow.holds Tryz.pinned (OpenSpec.ofChange tagsMergeSpec)

/-- ITS FALSE NEIGHBOUR: 'it returns false'. Refute it at one input. -/
def tagsMergeWrong : ChangeSpec := { name := "tagsMerge", fn := fun _ => fun
  | [d1, d2] => { results := [.lit (.bool false)], args := [d1, d2] }
  | _ => none }
def TagsMergeWrongFalsely : Prop := tagsMergeRow.holds Tryz.pinned (OpenSpec.ofChange tagsMergeWrong)

/-- 'ammonitelaw18.TagsMore': WHATEVER THE INPUT: true; the input reads as it did. -/
def tagsMoreSpec : ChangeSpec := { name := "tagsMore", fn := fun _ => fun
  | [d1, d2, d3] => { results := [.lit (.bool true)], args := [d1, d2, d3] }
  | _ => none }
def tagsMoreRow : OpenClaim := { program := "ytomgdbanbpjedaagreat", sum := "61ab5b8fcb8d699f98aaa749f822c42c20ada3ef320f0269b200827d2806e90a", func := "ammonite/ammonitelaw18.TagsMore", spec := "tagsMore", inPlace := ["internal/bytealg.IndexByteString", "internal/bytealg.IndexString", "internal/abi.NoEscape", "internal/bytealg.MakeNoZero"], unfollowed := true, recurses := true, named := ["internal/bytealg.MaxLen"], plainKeys := false, apart := false }
def TagsMoreSaid : Prop := tagsMoreRow.holds Tryz.pinned (OpenSpec.ofChange tagsMoreSpec)

/-- ITS FALSE NEIGHBOUR: 'it returns false'. Refute it at one input. -/
def tagsMoreWrong : ChangeSpec := { name := "tagsMore", fn := fun _ => fun
  | [d1, d2, d3] => { results := [.lit (.bool false)], args := [d1, d2, d3] }
  | _ => none }
def TagsMoreWrongFalsely : Prop := tagsMoreRow.holds Tryz.pinned (OpenSpec.ofChange tagsMoreWrong)

/-- 'ammonitelaw17.LinksRuns': WHATEVER THE INPUT: true; the input reads as it did. -/
def linksRunsSpec : ChangeSpec := { name := "linksRuns", fn := fun _ => fun
  | [] => { results := [.lit (.bool true)], args := [] }
  | _ => none }
def linksRunsRow : OpenClaim := { program := "ytomgdbanbpjedaagreat", sum := "61ab5b8fcb8d699f98aaa749f822c42c20ada3ef320f0269b200827d2806e90a", func := "ammonite/ammonitelaw17.LinksRuns", spec := "linksRuns", inPlace := ["internal/bytealg.IndexByteString", "internal/bytealg.IndexString", "internal/abi.NoEscape", "internal/bytealg.MakeNoZero", "internal/bytealg.abigen_runtime_cmpstring"], unfollowed := true, recurses := true, named := ["internal/bytealg.MaxLen"], plainKeys := false, apart := false }
def LinksRunsSaid : Prop := linksRunsRow.holds Tryz.pinned (OpenSpec.ofChange linksRunsSpec)

/-- ITS FALSE NEIGHBOUR: 'it returns false'. Refute it at one input. -/
def linksRunsWrong : ChangeSpec := { name := "linksRuns", fn := fun _ => fun
  | [] => { results := [.lit (.bool false)], args := [] }
  | _ => none }
def LinksRunsWrongFalsely : Prop := linksRunsRow.holds Tryz.pinned (OpenSpec.ofChange linksRunsWrong)

/-- 'ammonitelaw17.LinksTells': WHATEVER THE INPUT: true; the input reads as it did. -/
def linksTellsSpec : ChangeSpec := { name := "linksTells", fn := fun _ => fun
  | [d1, d2] => { results := [.lit (.bool true)], args := [d1, d2] }
  | _ => none }
def linksTellsRow : OpenClaim := { program := "ytomgdbanbpjedaagreat", sum := "61ab5b8fcb8d699f98aaa749f822c42c20ada3ef320f0269b200827d2806e90a", func := "ammonite/ammonitelaw17.LinksTells", spec := "linksTells", inPlace := ["internal/bytealg.IndexByteString", "internal/bytealg.IndexString", "internal/abi.NoEscape", "internal/bytealg.MakeNoZero", "internal/bytealg.abigen_runtime_cmpstring"], unfollowed := true, recurses := true, named := ["internal/bytealg.MaxLen"], plainKeys := false, apart := false }
def LinksTellsSaid : Prop := linksTellsRow.holds Tryz.pinned (OpenSpec.ofChange linksTellsSpec)

/-- ITS FALSE NEIGHBOUR: 'it returns false'. Refute it at one input. -/
def linksTellsWrong : ChangeSpec := { name := "linksTells", fn := fun _ => fun
  | [d1, d2] => { results := [.lit (.bool false)], args := [d1, d2] }
  | _ => none }
def LinksTellsWrongFalsely : Prop := linksTellsRow.holds Tryz.pinned (OpenSpec.ofChange linksTellsWrong)

/-- 'ammonitelaw17.LinksWhole': WHATEVER THE INPUT: true; the input reads as it did. -/
def linksWholeSpec : ChangeSpec := { name := "linksWhole", fn := fun _ => fun
  | [d1, d2] => { results := [.lit (.bool true)], args := [d1, d2] }
  | _ => none }
def linksWholeRow : OpenClaim := { program := "ytomgdbanbpjedaagreat", sum := "61ab5b8fcb8d699f98aaa749f822c42c20ada3ef320f0269b200827d2806e90a", func := "ammonite/ammonitelaw17.LinksWhole", spec := "linksWhole", inPlace := ["internal/bytealg.IndexByteString", "internal/bytealg.IndexString", "internal/abi.NoEscape", "internal/bytealg.MakeNoZero", "internal/bytealg.abigen_runtime_cmpstring"], unfollowed := true, recurses := true, named := ["internal/bytealg.MaxLen"], plainKeys := false, apart := false }
def LinksWholeSaid : Prop := linksWholeRow.holds Tryz.pinned (OpenSpec.ofChange linksWholeSpec)

/-- ITS FALSE NEIGHBOUR: 'it returns false'. Refute it at one input. -/
def linksWholeWrong : ChangeSpec := { name := "linksWhole", fn := fun _ => fun
  | [d1, d2] => { results := [.lit (.bool false)], args := [d1, d2] }
  | _ => none }
def LinksWholeWrongFalsely : Prop := linksWholeRow.holds Tryz.pinned (OpenSpec.ofChange linksWholeWrong)

/-- 'ammonitelaw17.LinksPrimary': WHATEVER THE INPUT: true; the input reads as it did. -/
def linksPrimarySpec : ChangeSpec := { name := "linksPrimary", fn := fun _ => fun
  | [d1, d2] => { results := [.lit (.bool true)], args := [d1, d2] }
  | _ => none }
def linksPrimaryRow : OpenClaim := { program := "ytomgdbanbpjedaagreat", sum := "61ab5b8fcb8d699f98aaa749f822c42c20ada3ef320f0269b200827d2806e90a", func := "ammonite/ammonitelaw17.LinksPrimary", spec := "linksPrimary", inPlace := ["internal/bytealg.IndexByteString", "internal/bytealg.IndexString", "internal/abi.NoEscape", "internal/bytealg.MakeNoZero", "internal/bytealg.abigen_runtime_cmpstring"], unfollowed := true, recurses := true, named := ["internal/bytealg.MaxLen"], plainKeys := false, apart := false }
def LinksPrimarySaid : Prop := linksPrimaryRow.holds Tryz.pinned (OpenSpec.ofChange linksPrimarySpec)

/-- ITS FALSE NEIGHBOUR: 'it returns false'. Refute it at one input. -/
def linksPrimaryWrong : ChangeSpec := { name := "linksPrimary", fn := fun _ => fun
  | [d1, d2] => { results := [.lit (.bool false)], args := [d1, d2] }
  | _ => none }
def LinksPrimaryWrongFalsely : Prop := linksPrimaryRow.holds Tryz.pinned (OpenSpec.ofChange linksPrimaryWrong)

/- THE SECOND FORM. 'bulk': how many values and letters a reading holds, each counted each time it is reached (what is shared counts as often as it is met; a slice's spare places count too). A statement '..UptoSaid' is the law's where the arguments, and the package variables that the reading takes, are together of bulk at most 1048576: NARROWER than '..Said'. Prove '..Said' where nothing that the law and all that it calls make is longer than what came in: it says more and counts as full. Else prove '..UptoSaid'. A law counts once. -/
mutual
def uptoBulk {H : Type} : DataW H → Nat
  | .lit (.string bytes) => bytes.length + 1
  | .lit _ => 1
  | .nil => 1
  | .ptr d => uptoBulk d + 1
  | .slice elems spare => uptoBulkAll elems + uptoBulkAll spare + 1
  | .agg parts => uptoBulkAll parts + 1
  | .iface _ d => uptoBulk d + 1
  | .map entries => uptoBulkEntries entries + 1
  | .held _ => 1
def uptoBulkAll {H : Type} : List (DataW H) → Nat
  | [] => 0
  | d :: r => uptoBulk d + uptoBulkAll r
def uptoBulkEntries {H : Type} : List (Lit × DataW H) → Nat
  | [] => 0
  | x :: r => uptoBulkEntry x + uptoBulkEntries r
def uptoBulkEntry {H : Type} : Lit × DataW H → Nat
  | (.string bytes, d) => bytes.length + uptoBulk d + 1
  | (_, d) => uptoBulk d + 1
 end
def uptoSmall : (H : Type) → List (DataW H) → Bool := fun _ ds => decide (uptoBulkAll ds ≤ 1048576)
def OpenSpec.upto (s : _root_.Go.ChangeSpec) : _root_.Go.OpenSpec := { _root_.Go.OpenSpec.ofChange s with cond := some uptoSmall }

/-- 'ammonitelaw18.TagsRuns', WHERE WHAT IT READS IS OF BULK AT MOST 1048576: true; the input reads as it did. -/
def tagsRunsUptoRow : OpenClaim := { program := "ytomgdbanbpjedaagreat", sum := "61ab5b8fcb8d699f98aaa749f822c42c20ada3ef320f0269b200827d2806e90a", func := "ammonite/ammonitelaw18.TagsRuns", spec := "tagsRuns", inPlace := ["internal/bytealg.IndexByteString", "internal/bytealg.IndexString", "internal/abi.NoEscape", "internal/bytealg.MakeNoZero"], unfollowed := true, recurses := true, named := ["internal/bytealg.MaxLen"], plainKeys := false, apart := false, narrowed := true }
def TagsRunsUptoSaid : Prop := tagsRunsUptoRow.holds Tryz.pinned (OpenSpec.upto tagsRunsSpec)

/-- 'ammonitelaw18.TagsChain', WHERE WHAT IT READS IS OF BULK AT MOST 1048576: true; the input reads as it did. -/
def tagsChainUptoRow : OpenClaim := { program := "ytomgdbanbpjedaagreat", sum := "61ab5b8fcb8d699f98aaa749f822c42c20ada3ef320f0269b200827d2806e90a", func := "ammonite/ammonitelaw18.TagsChain", spec := "tagsChain", inPlace := ["internal/bytealg.IndexByteString", "internal/bytealg.IndexString", "internal/abi.NoEscape", "internal/bytealg.MakeNoZero"], unfollowed := true, recurses := true, named := ["internal/bytealg.MaxLen"], plainKeys := false, apart := false, narrowed := true }
def TagsChainUptoSaid : Prop := tagsChainUptoRow.holds Tryz.pinned (OpenSpec.upto tagsChainSpec)

/-- 'ammonitelaw18.TagsRings', WHERE WHAT IT READS IS OF BULK AT MOST 1048576: true; the input reads as it did. -/
def tagsRingsUptoRow : OpenClaim := { program := "ytomgdbanbpjedaagreat", sum := "61ab5b8fcb8d699f98aaa749f822c42c20ada3ef320f0269b200827d2806e90a", func := "ammonite/ammonitelaw18.TagsRings", spec := "tagsRings", inPlace := ["internal/bytealg.IndexByteString", "internal/bytealg.IndexString", "internal/abi.NoEscape", "internal/bytealg.MakeNoZero"], unfollowed := true, recurses := true, named := ["internal/bytealg.MaxLen"], plainKeys := false, apart := false, narrowed := true }
def TagsRingsUptoSaid : Prop := tagsRingsUptoRow.holds Tryz.pinned (OpenSpec.upto tagsRingsSpec)

/-- 'ammonitelaw18.TagsMerge', WHERE WHAT IT READS IS OF BULK AT MOST 1048576: true; the input reads as it did. -/
def tagsMergeUptoRow : OpenClaim := { program := "ytomgdbanbpjedaagreat", sum := "61ab5b8fcb8d699f98aaa749f822c42c20ada3ef320f0269b200827d2806e90a", func := "ammonite/ammonitelaw18.TagsMerge", spec := "tagsMerge", inPlace := ["internal/bytealg.IndexByteString", "internal/bytealg.IndexString", "internal/abi.NoEscape", "internal/bytealg.MakeNoZero"], unfollowed := true, recurses := true, named := ["internal/bytealg.MaxLen"], plainKeys := false, apart := false, narrowed := true }
def TagsMergeUptoSaid : Prop := tagsMergeUptoRow.holds Tryz.pinned (OpenSpec.upto tagsMergeSpec)

/-- 'ammonitelaw18.TagsMore', WHERE WHAT IT READS IS OF BULK AT MOST 1048576: true; the input reads as it did. -/
def tagsMoreUptoRow : OpenClaim := { program := "ytomgdbanbpjedaagreat", sum := "61ab5b8fcb8d699f98aaa749f822c42c20ada3ef320f0269b200827d2806e90a", func := "ammonite/ammonitelaw18.TagsMore", spec := "tagsMore", inPlace := ["internal/bytealg.IndexByteString", "internal/bytealg.IndexString", "internal/abi.NoEscape", "internal/bytealg.MakeNoZero"], unfollowed := true, recurses := true, named := ["internal/bytealg.MaxLen"], plainKeys := false, apart := false, narrowed := true }
def TagsMoreUptoSaid : Prop := tagsMoreUptoRow.holds Tryz.pinned (OpenSpec.upto tagsMoreSpec)

/-- 'ammonitelaw17.LinksRuns', WHERE WHAT IT READS IS OF BULK AT MOST 1048576: true; the input reads as it did. -/
def linksRunsUptoRow : OpenClaim := { program := "ytomgdbanbpjedaagreat", sum := "61ab5b8fcb8d699f98aaa749f822c42c20ada3ef320f0269b200827d2806e90a", func := "ammonite/ammonitelaw17.LinksRuns", spec := "linksRuns", inPlace := ["internal/bytealg.IndexByteString", "internal/bytealg.IndexString", "internal/abi.NoEscape", "internal/bytealg.MakeNoZero", "internal/bytealg.abigen_runtime_cmpstring"], unfollowed := true, recurses := true, named := ["internal/bytealg.MaxLen"], plainKeys := false, apart := false, narrowed := true }
def LinksRunsUptoSaid : Prop := linksRunsUptoRow.holds Tryz.pinned (OpenSpec.upto linksRunsSpec)

/-- 'ammonitelaw17.LinksTells', WHERE WHAT IT READS IS OF BULK AT MOST 1048576: true; the input reads as it did. -/
def linksTellsUptoRow : OpenClaim := { program := "ytomgdbanbpjedaagreat", sum := "61ab5b8fcb8d699f98aaa749f822c42c20ada3ef320f0269b200827d2806e90a", func := "ammonite/ammonitelaw17.LinksTells", spec := "linksTells", inPlace := ["internal/bytealg.IndexByteString", "internal/bytealg.IndexString", "internal/abi.NoEscape", "internal/bytealg.MakeNoZero", "internal/bytealg.abigen_runtime_cmpstring"], unfollowed := true, recurses := true, named := ["internal/bytealg.MaxLen"], plainKeys := false, apart := false, narrowed := true }
def LinksTellsUptoSaid : Prop := linksTellsUptoRow.holds Tryz.pinned (OpenSpec.upto linksTellsSpec)

/-- 'ammonitelaw17.LinksWhole', WHERE WHAT IT READS IS OF BULK AT MOST 1048576: true; the input reads as it did. -/
def linksWholeUptoRow : OpenClaim := { program := "ytomgdbanbpjedaagreat", sum := "61ab5b8fcb8d699f98aaa749f822c42c20ada3ef320f0269b200827d2806e90a", func := "ammonite/ammonitelaw17.LinksWhole", spec := "linksWhole", inPlace := ["internal/bytealg.IndexByteString", "internal/bytealg.IndexString", "internal/abi.NoEscape", "internal/bytealg.MakeNoZero", "internal/bytealg.abigen_runtime_cmpstring"], unfollowed := true, recurses := true, named := ["internal/bytealg.MaxLen"], plainKeys := false, apart := false, narrowed := true }
def LinksWholeUptoSaid : Prop := linksWholeUptoRow.holds Tryz.pinned (OpenSpec.upto linksWholeSpec)

/-- 'ammonitelaw17.LinksPrimary', WHERE WHAT IT READS IS OF BULK AT MOST 1048576: true; the input reads as it did. -/
def linksPrimaryUptoRow : OpenClaim := { program := "ytomgdbanbpjedaagreat", sum := "61ab5b8fcb8d699f98aaa749f822c42c20ada3ef320f0269b200827d2806e90a", func := "ammonite/ammonitelaw17.LinksPrimary", spec := "linksPrimary", inPlace := ["internal/bytealg.IndexByteString", "internal/bytealg.IndexString", "internal/abi.NoEscape", "internal/bytealg.MakeNoZero", "internal/bytealg.abigen_runtime_cmpstring"], unfollowed := true, recurses := true, named := ["internal/bytealg.MaxLen"], plainKeys := false, apart := false, narrowed := true }
def LinksPrimaryUptoSaid : Prop := linksPrimaryUptoRow.holds Tryz.pinned (OpenSpec.upto linksPrimarySpec)

end Rows
end Go.Proofs.YtomgdbanbpjedaaGreat
