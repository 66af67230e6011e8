/-
  No cell of these rows narrows 'for every input' (looked for: loops, veiled, ifaces, maps, wideKeys, modest, calm, conditions, laid).
  DERIVED. THE GIVEN ROWS OF THIS SEAT. 12 by the template 'for every input the law returns true; each argument reads behind the call as it read before'; 0 by the template 'total and deterministic' (their statements: YtdnoacgopfcpbaaGreatTotals.lean).
  GIVEN WITH THE SEED: the statements are not yours to turn. If you find one false, say at which input.
  Laid BY PROGRAM, IN A SANDBOX (cutbox-rows.mjs): the forced cells as the released guide's own fill.sh prints them over the translation d63d6e5adf32495b… (all of the seat's roots in one cut). By AI agents, Wed Nov 11 2026. No macro, syntax, notation, axiom, sorry.
-/
import Derived.Test.YtdnoacgopfcpbaaGreatChecked
import GoSem.Claim
import GoSem.ClaimJoined
import GoSem.ClaimMapViews
import Derived.JoinedTies
import Derived.KernelRfl
namespace Go.Proofs.YtdnoacgopfcpbaaGreat
/- THE CELL 'sum', in the pinned program and in every row, IS THE sha256 OF THE DUMP (.gsa) THAT YtdnoacgopfcpbaaGreatProg.lean LOADS. Nothing in Lean hashes anything: it is a label: what it is worth is what the hold of that sum in a sandbox is worth. -/
noncomputable def Tryz.pinned : Pinned := { name := "ytdnoacgopfcpbaagreat", sum := "d63d6e5adf32495b4e08329f572af7958c2962896b90e975c9635ac43d06e9ab", checked := Tryz.checked }
namespace Rows
def none {H : Type} : Left H := { results := [], args := [] }

/-- 'ammonitelaw17.LinksRuns': WHATEVER THE INPUT: true; the input reads as it did. -/
def linksRunsSpec : ChangeSpec := { name := "linksRuns", fn := fun _ => fun
  | [] => { results := [.lit (.bool true)], args := [] }
  | _ => none }
def linksRunsRow : OpenClaim := { program := "ytdnoacgopfcpbaagreat", sum := "d63d6e5adf32495b4e08329f572af7958c2962896b90e975c9635ac43d06e9ab", func := "ammonite/ammonitelaw17.LinksRuns", spec := "linksRuns", inPlace := ["internal/bytealg.IndexByteString", "internal/bytealg.IndexString", "internal/abi.NoEscape", "internal/bytealg.MakeNoZero", "internal/bytealg.abigen_runtime_cmpstring"], unfollowed := true, recurses := true, named := ["internal/bytealg.MaxLen"], plainKeys := false, apart := false }
def LinksRunsSaid : Prop := linksRunsRow.holds Tryz.pinned (OpenSpec.ofChange linksRunsSpec)

/-- ITS FALSE NEIGHBOUR: 'it returns false'. Refute it at one input. -/
def linksRunsWrong : ChangeSpec := { name := "linksRuns", fn := fun _ => fun
  | [] => { results := [.lit (.bool false)], args := [] }
  | _ => none }
def LinksRunsWrongFalsely : Prop := linksRunsRow.holds Tryz.pinned (OpenSpec.ofChange linksRunsWrong)

/-- 'ammonitelaw17.LinksTells': WHATEVER THE INPUT: true; the input reads as it did. -/
def linksTellsSpec : ChangeSpec := { name := "linksTells", fn := fun _ => fun
  | [d1, d2] => { results := [.lit (.bool true)], args := [d1, d2] }
  | _ => none }
def linksTellsRow : OpenClaim := { program := "ytdnoacgopfcpbaagreat", sum := "d63d6e5adf32495b4e08329f572af7958c2962896b90e975c9635ac43d06e9ab", func := "ammonite/ammonitelaw17.LinksTells", spec := "linksTells", inPlace := ["internal/bytealg.IndexByteString", "internal/bytealg.IndexString", "internal/abi.NoEscape", "internal/bytealg.MakeNoZero", "internal/bytealg.abigen_runtime_cmpstring"], unfollowed := true, recurses := true, named := ["internal/bytealg.MaxLen"], plainKeys := false, apart := false }
def LinksTellsSaid : Prop := linksTellsRow.holds Tryz.pinned (OpenSpec.ofChange linksTellsSpec)

/-- ITS FALSE NEIGHBOUR: 'it returns false'. Refute it at one input. -/
def linksTellsWrong : ChangeSpec := { name := "linksTells", fn := fun _ => fun
  | [d1, d2] => { results := [.lit (.bool false)], args := [d1, d2] }
  | _ => none }
def LinksTellsWrongFalsely : Prop := linksTellsRow.holds Tryz.pinned (OpenSpec.ofChange linksTellsWrong)

/-- 'ammonitelaw17.LinksPrimary': WHATEVER THE INPUT: true; the input reads as it did. -/
def linksPrimarySpec : ChangeSpec := { name := "linksPrimary", fn := fun _ => fun
  | [d1, d2] => { results := [.lit (.bool true)], args := [d1, d2] }
  | _ => none }
def linksPrimaryRow : OpenClaim := { program := "ytdnoacgopfcpbaagreat", sum := "d63d6e5adf32495b4e08329f572af7958c2962896b90e975c9635ac43d06e9ab", func := "ammonite/ammonitelaw17.LinksPrimary", spec := "linksPrimary", inPlace := ["internal/bytealg.IndexByteString", "internal/bytealg.IndexString", "internal/abi.NoEscape", "internal/bytealg.MakeNoZero", "internal/bytealg.abigen_runtime_cmpstring"], unfollowed := true, recurses := true, named := ["internal/bytealg.MaxLen"], plainKeys := false, apart := false }
def LinksPrimarySaid : Prop := linksPrimaryRow.holds Tryz.pinned (OpenSpec.ofChange linksPrimarySpec)

/-- ITS FALSE NEIGHBOUR: 'it returns false'. Refute it at one input. -/
def linksPrimaryWrong : ChangeSpec := { name := "linksPrimary", fn := fun _ => fun
  | [d1, d2] => { results := [.lit (.bool false)], args := [d1, d2] }
  | _ => none }
def LinksPrimaryWrongFalsely : Prop := linksPrimaryRow.holds Tryz.pinned (OpenSpec.ofChange linksPrimaryWrong)

/-- 'ammonitelaw19.HeadsRuns': WHATEVER THE INPUT: true; the input reads as it did. -/
def headsRunsSpec : ChangeSpec := { name := "headsRuns", fn := fun _ => fun
  | [] => { results := [.lit (.bool true)], args := [] }
  | _ => none }
def headsRunsRow : OpenClaim := { program := "ytdnoacgopfcpbaagreat", sum := "d63d6e5adf32495b4e08329f572af7958c2962896b90e975c9635ac43d06e9ab", func := "ammonite/ammonitelaw19.HeadsRuns", spec := "headsRuns", inPlace := ["internal/bytealg.IndexByteString", "internal/bytealg.IndexString", "internal/abi.NoEscape", "internal/bytealg.MakeNoZero"], unfollowed := true, recurses := true, named := ["internal/bytealg.MaxLen"], plainKeys := false, apart := false }
def HeadsRunsSaid : Prop := headsRunsRow.holds Tryz.pinned (OpenSpec.ofChange headsRunsSpec)

/-- ITS FALSE NEIGHBOUR: 'it returns false'. Refute it at one input. -/
def headsRunsWrong : ChangeSpec := { name := "headsRuns", fn := fun _ => fun
  | [] => { results := [.lit (.bool false)], args := [] }
  | _ => none }
def HeadsRunsWrongFalsely : Prop := headsRunsRow.holds Tryz.pinned (OpenSpec.ofChange headsRunsWrong)

/-- 'ammonitelaw19.HeadsGrow': WHATEVER THE INPUT: true; the input reads as it did. -/
def headsGrowSpec : ChangeSpec := { name := "headsGrow", fn := fun _ => fun
  | [d1, d2, d3] => { results := [.lit (.bool true)], args := [d1, d2, d3] }
  | _ => none }
def headsGrowRow : OpenClaim := { program := "ytdnoacgopfcpbaagreat", sum := "d63d6e5adf32495b4e08329f572af7958c2962896b90e975c9635ac43d06e9ab", func := "ammonite/ammonitelaw19.HeadsGrow", spec := "headsGrow", inPlace := ["internal/bytealg.IndexByteString", "internal/bytealg.IndexString", "internal/abi.NoEscape", "internal/bytealg.MakeNoZero"], unfollowed := true, recurses := true, named := ["internal/bytealg.MaxLen"], plainKeys := false, apart := false }
def HeadsGrowSaid : Prop := headsGrowRow.holds Tryz.pinned (OpenSpec.ofChange headsGrowSpec)

/-- ITS FALSE NEIGHBOUR: 'it returns false'. Refute it at one input. -/
def headsGrowWrong : ChangeSpec := { name := "headsGrow", fn := fun _ => fun
  | [d1, d2, d3] => { results := [.lit (.bool false)], args := [d1, d2, d3] }
  | _ => none }
def HeadsGrowWrongFalsely : Prop := headsGrowRow.holds Tryz.pinned (OpenSpec.ofChange headsGrowWrong)

/-- 'ammonitelaw19.HeadsMoves': WHATEVER THE INPUT: true; the input reads as it did. -/
def headsMovesSpec : ChangeSpec := { name := "headsMoves", fn := fun _ => fun
  | [d1, d2, d3] => { results := [.lit (.bool true)], args := [d1, d2, d3] }
  | _ => none }
def headsMovesRow : OpenClaim := { program := "ytdnoacgopfcpbaagreat", sum := "d63d6e5adf32495b4e08329f572af7958c2962896b90e975c9635ac43d06e9ab", func := "ammonite/ammonitelaw19.HeadsMoves", spec := "headsMoves", inPlace := ["internal/bytealg.IndexByteString", "internal/bytealg.IndexString", "internal/abi.NoEscape", "internal/bytealg.MakeNoZero"], unfollowed := true, recurses := true, named := ["internal/bytealg.MaxLen"], plainKeys := false, apart := false }
def HeadsMovesSaid : Prop := headsMovesRow.holds Tryz.pinned (OpenSpec.ofChange headsMovesSpec)

/-- ITS FALSE NEIGHBOUR: 'it returns false'. Refute it at one input. -/
def headsMovesWrong : ChangeSpec := { name := "headsMoves", fn := fun _ => fun
  | [d1, d2, d3] => { results := [.lit (.bool false)], args := [d1, d2, d3] }
  | _ => none }
def HeadsMovesWrongFalsely : Prop := headsMovesRow.holds Tryz.pinned (OpenSpec.ofChange headsMovesWrong)

/-- 'ammonitelaw19.HeadsTells': WHATEVER THE INPUT: true; the input reads as it did. -/
def headsTellsSpec : ChangeSpec := { name := "headsTells", fn := fun _ => fun
  | [d1, d2] => { results := [.lit (.bool true)], args := [d1, d2] }
  | _ => none }
def headsTellsRow : OpenClaim := { program := "ytdnoacgopfcpbaagreat", sum := "d63d6e5adf32495b4e08329f572af7958c2962896b90e975c9635ac43d06e9ab", func := "ammonite/ammonitelaw19.HeadsTells", spec := "headsTells", inPlace := ["internal/bytealg.IndexByteString", "internal/bytealg.IndexString", "internal/abi.NoEscape", "internal/bytealg.MakeNoZero"], unfollowed := true, recurses := true, named := ["internal/bytealg.MaxLen"], plainKeys := false, apart := false }
def HeadsTellsSaid : Prop := headsTellsRow.holds Tryz.pinned (OpenSpec.ofChange headsTellsSpec)

/-- ITS FALSE NEIGHBOUR: 'it returns false'. Refute it at one input. -/
def headsTellsWrong : ChangeSpec := { name := "headsTells", fn := fun _ => fun
  | [d1, d2] => { results := [.lit (.bool false)], args := [d1, d2] }
  | _ => none }
def HeadsTellsWrongFalsely : Prop := headsTellsRow.holds Tryz.pinned (OpenSpec.ofChange headsTellsWrong)

/-- 'ammonitelaw19.HeadsAll': WHATEVER THE INPUT: true; the input reads as it did. -/
def headsAllSpec : ChangeSpec := { name := "headsAll", fn := fun _ => fun
  | [d] => { results := [.lit (.bool true)], args := [d] }
  | _ => none }
def headsAllRow : OpenClaim := { program := "ytdnoacgopfcpbaagreat", sum := "d63d6e5adf32495b4e08329f572af7958c2962896b90e975c9635ac43d06e9ab", func := "ammonite/ammonitelaw19.HeadsAll", spec := "headsAll", inPlace := ["internal/bytealg.IndexByteString", "internal/bytealg.IndexString", "internal/abi.NoEscape", "internal/bytealg.MakeNoZero"], unfollowed := true, recurses := true, named := ["internal/bytealg.MaxLen"], plainKeys := false, apart := false }
def HeadsAllSaid : Prop := headsAllRow.holds Tryz.pinned (OpenSpec.ofChange headsAllSpec)

/-- ITS FALSE NEIGHBOUR: 'it returns false'. Refute it at one input. -/
def headsAllWrong : ChangeSpec := { name := "headsAll", fn := fun _ => fun
  | [d] => { results := [.lit (.bool false)], args := [d] }
  | _ => none }
def HeadsAllWrongFalsely : Prop := headsAllRow.holds Tryz.pinned (OpenSpec.ofChange headsAllWrong)

/-- 'ammonitelaw20.DeriveRuns': WHATEVER THE INPUT: true; the input reads as it did. -/
def deriveRunsSpec : ChangeSpec := { name := "deriveRuns", fn := fun _ => fun
  | [] => { results := [.lit (.bool true)], args := [] }
  | _ => none }
def deriveRunsRow : OpenClaim := { program := "ytdnoacgopfcpbaagreat", sum := "d63d6e5adf32495b4e08329f572af7958c2962896b90e975c9635ac43d06e9ab", func := "ammonite/ammonitelaw20.DeriveRuns", spec := "deriveRuns", inPlace := ["internal/bytealg.IndexByteString", "internal/bytealg.IndexString", "internal/abi.NoEscape", "internal/bytealg.MakeNoZero", "internal/bytealg.abigen_runtime_cmpstring", "maps.clone"], unfollowed := true, recurses := true, named := ["internal/bytealg.MaxLen"], plainKeys := false, apart := false }
def DeriveRunsSaid : Prop := deriveRunsRow.holds Tryz.pinned (OpenSpec.ofChange deriveRunsSpec)

/-- ITS FALSE NEIGHBOUR: 'it returns false'. Refute it at one input. -/
def deriveRunsWrong : ChangeSpec := { name := "deriveRuns", fn := fun _ => fun
  | [] => { results := [.lit (.bool false)], args := [] }
  | _ => none }
def DeriveRunsWrongFalsely : Prop := deriveRunsRow.holds Tryz.pinned (OpenSpec.ofChange deriveRunsWrong)

/-- 'ammonitelaw20.DeriveTexts': WHATEVER THE INPUT: true; the input reads as it did. -/
def deriveTextsSpec : ChangeSpec := { name := "deriveTexts", fn := fun _ => fun
  | [d1, d2, d3] => { results := [.lit (.bool true)], args := [d1, d2, d3] }
  | _ => none }
def deriveTextsRow : OpenClaim := { program := "ytdnoacgopfcpbaagreat", sum := "d63d6e5adf32495b4e08329f572af7958c2962896b90e975c9635ac43d06e9ab", func := "ammonite/ammonitelaw20.DeriveTexts", spec := "deriveTexts", inPlace := ["internal/bytealg.IndexByteString", "internal/bytealg.IndexString", "internal/abi.NoEscape", "internal/bytealg.MakeNoZero", "internal/bytealg.abigen_runtime_cmpstring", "maps.clone"], unfollowed := true, recurses := true, named := ["internal/bytealg.MaxLen"], plainKeys := false, apart := false }
def DeriveTextsSaid : Prop := deriveTextsRow.holds Tryz.pinned (OpenSpec.ofChange deriveTextsSpec)

/-- ITS FALSE NEIGHBOUR: 'it returns false'. Refute it at one input. -/
def deriveTextsWrong : ChangeSpec := { name := "deriveTexts", fn := fun _ => fun
  | [d1, d2, d3] => { results := [.lit (.bool false)], args := [d1, d2, d3] }
  | _ => none }
def DeriveTextsWrongFalsely : Prop := deriveTextsRow.holds Tryz.pinned (OpenSpec.ofChange deriveTextsWrong)

/-- 'ammonitelaw20.DeriveTells': WHATEVER THE INPUT: true; the input reads as it did. -/
def deriveTellsSpec : ChangeSpec := { name := "deriveTells", fn := fun _ => fun
  | [d1, d2, d3] => { results := [.lit (.bool true)], args := [d1, d2, d3] }
  | _ => none }
def deriveTellsRow : OpenClaim := { program := "ytdnoacgopfcpbaagreat", sum := "d63d6e5adf32495b4e08329f572af7958c2962896b90e975c9635ac43d06e9ab", func := "ammonite/ammonitelaw20.DeriveTells", spec := "deriveTells", inPlace := ["internal/bytealg.IndexByteString", "internal/bytealg.IndexString", "internal/abi.NoEscape", "internal/bytealg.MakeNoZero", "internal/bytealg.abigen_runtime_cmpstring", "maps.clone"], unfollowed := true, recurses := true, named := ["internal/bytealg.MaxLen"], plainKeys := false, apart := false }
def DeriveTellsSaid : Prop := deriveTellsRow.holds Tryz.pinned (OpenSpec.ofChange deriveTellsSpec)

/-- ITS FALSE NEIGHBOUR: 'it returns false'. Refute it at one input. -/
def deriveTellsWrong : ChangeSpec := { name := "deriveTells", fn := fun _ => fun
  | [d1, d2, d3] => { results := [.lit (.bool false)], args := [d1, d2, d3] }
  | _ => none }
def DeriveTellsWrongFalsely : Prop := deriveTellsRow.holds Tryz.pinned (OpenSpec.ofChange deriveTellsWrong)

/-- 'ammonitelaw20.DeriveDrop': WHATEVER THE INPUT: true; the input reads as it did. -/
def deriveDropSpec : ChangeSpec := { name := "deriveDrop", fn := fun _ => fun
  | [d1, d2] => { results := [.lit (.bool true)], args := [d1, d2] }
  | _ => none }
def deriveDropRow : OpenClaim := { program := "ytdnoacgopfcpbaagreat", sum := "d63d6e5adf32495b4e08329f572af7958c2962896b90e975c9635ac43d06e9ab", func := "ammonite/ammonitelaw20.DeriveDrop", spec := "deriveDrop", inPlace := ["internal/bytealg.IndexByteString", "internal/bytealg.IndexString", "internal/abi.NoEscape", "internal/bytealg.MakeNoZero", "internal/bytealg.abigen_runtime_cmpstring", "maps.clone"], unfollowed := true, recurses := true, named := ["internal/bytealg.MaxLen"], plainKeys := false, apart := false }
def DeriveDropSaid : Prop := deriveDropRow.holds Tryz.pinned (OpenSpec.ofChange deriveDropSpec)

/-- ITS FALSE NEIGHBOUR: 'it returns false'. Refute it at one input. -/
def deriveDropWrong : ChangeSpec := { name := "deriveDrop", fn := fun _ => fun
  | [d1, d2] => { results := [.lit (.bool false)], args := [d1, d2] }
  | _ => none }
def DeriveDropWrongFalsely : Prop := deriveDropRow.holds Tryz.pinned (OpenSpec.ofChange deriveDropWrong)

/- THE SECOND FORM. 'bulk': how many values and letters a reading holds, each counted each time it is reached (what is shared counts as often as it is met; a slice's spare places count too). A statement '..UptoSaid' is the law's where the arguments, and the package variables that the reading takes, are together of bulk at most 1048576: NARROWER than '..Said'. Prove '..Said' where nothing that the law and all that it calls make is longer than what came in: it says more and counts as full. Else prove '..UptoSaid'. A law counts once. -/
mutual
def uptoBulk {H : Type} : DataW H → Nat
  | .lit (.string bytes) => bytes.length + 1
  | .lit _ => 1
  | .nil => 1
  | .ptr d => uptoBulk d + 1
  | .slice elems spare => uptoBulkAll elems + uptoBulkAll spare + 1
  | .agg parts => uptoBulkAll parts + 1
  | .iface _ d => uptoBulk d + 1
  | .map entries => uptoBulkEntries entries + 1
  | .held _ => 1
def uptoBulkAll {H : Type} : List (DataW H) → Nat
  | [] => 0
  | d :: r => uptoBulk d + uptoBulkAll r
def uptoBulkEntries {H : Type} : List (Lit × DataW H) → Nat
  | [] => 0
  | x :: r => uptoBulkEntry x + uptoBulkEntries r
def uptoBulkEntry {H : Type} : Lit × DataW H → Nat
  | (.string bytes, d) => bytes.length + uptoBulk d + 1
  | (_, d) => uptoBulk d + 1
 end
def uptoSmall : (H : Type) → List (DataW H) → Bool := fun _ ds => decide (uptoBulkAll ds ≤ 1048576)
def OpenSpec.upto (s : _root_.Go.ChangeSpec) : _root_.Go.OpenSpec := { _root_.Go.OpenSpec.ofChange s with cond := some uptoSmall }

/-- 'ammonitelaw17.LinksRuns', WHERE WHAT IT READS IS OF BULK AT MOST 1048576: true; the input reads as it did. -/
def linksRunsUptoRow : OpenClaim := { program := "ytdnoacgopfcpbaagreat", sum := "d63d6e5adf32495b4e08329f572af7958c2962896b90e975c9635ac43d06e9ab", func := "ammonite/ammonitelaw17.LinksRuns", spec := "linksRuns", inPlace := ["internal/bytealg.IndexByteString", "internal/bytealg.IndexString", "internal/abi.NoEscape", "internal/bytealg.MakeNoZero", "internal/bytealg.abigen_runtime_cmpstring"], unfollowed := true, recurses := true, named := ["internal/bytealg.MaxLen"], plainKeys := false, apart := false, narrowed := true }
def LinksRunsUptoSaid : Prop := linksRunsUptoRow.holds Tryz.pinned (OpenSpec.upto linksRunsSpec)

/-- 'ammonitelaw17.LinksTells', WHERE WHAT IT READS IS OF BULK AT MOST 1048576: true; the input reads as it did. -/
def linksTellsUptoRow : OpenClaim := { program := "ytdnoacgopfcpbaagreat", sum := "d63d6e5adf32495b4e08329f572af7958c2962896b90e975c9635ac43d06e9ab", func := "ammonite/ammonitelaw17.LinksTells", spec := "linksTells", inPlace := ["internal/bytealg.IndexByteString", "internal/bytealg.IndexString", "internal/abi.NoEscape", "internal/bytealg.MakeNoZero", "internal/bytealg.abigen_runtime_cmpstring"], unfollowed := true, recurses := true, named := ["internal/bytealg.MaxLen"], plainKeys := false, apart := false, narrowed := true }
def LinksTellsUptoSaid : Prop := linksTellsUptoRow.holds Tryz.pinned (OpenSpec.upto linksTellsSpec)

/-- 'ammonitelaw17.LinksPrimary', WHERE WHAT IT READS IS OF BULK AT MOST 1048576: true; the input reads as it did. -/
def linksPrimaryUptoRow : OpenClaim := { program := "ytdnoacgopfcpbaagreat", sum := "d63d6e5adf32495b4e08329f572af7958c2962896b90e975c9635ac43d06e9ab", func := "ammonite/ammonitelaw17.LinksPrimary", spec := "linksPrimary", inPlace := ["internal/bytealg.IndexByteString", "internal/bytealg.IndexString", "internal/abi.NoEscape", "internal/bytealg.MakeNoZero", "internal/bytealg.abigen_runtime_cmpstring"], unfollowed := true, recurses := true, named := ["internal/bytealg.MaxLen"], plainKeys := false, apart := false, narrowed := true }
def LinksPrimaryUptoSaid : Prop := linksPrimaryUptoRow.holds Tryz.pinned (OpenSpec.upto linksPrimarySpec)

/-- 'ammonitelaw19.HeadsRuns', WHERE WHAT IT READS IS OF BULK AT MOST 1048576: true; the input reads as it did. -/
def headsRunsUptoRow : OpenClaim := { program := "ytdnoacgopfcpbaagreat", sum := "d63d6e5adf32495b4e08329f572af7958c2962896b90e975c9635ac43d06e9ab", func := "ammonite/ammonitelaw19.HeadsRuns", spec := "headsRuns", inPlace := ["internal/bytealg.IndexByteString", "internal/bytealg.IndexString", "internal/abi.NoEscape", "internal/bytealg.MakeNoZero"], unfollowed := true, recurses := true, named := ["internal/bytealg.MaxLen"], plainKeys := false, apart := false, narrowed := true }
def HeadsRunsUptoSaid : Prop := headsRunsUptoRow.holds Tryz.pinned (OpenSpec.upto headsRunsSpec)

/-- 'ammonitelaw19.HeadsGrow', WHERE WHAT IT READS IS OF BULK AT MOST 1048576: true; the input reads as it did. -/
def headsGrowUptoRow : OpenClaim := { program := "ytdnoacgopfcpbaagreat", sum := "d63d6e5adf32495b4e08329f572af7958c2962896b90e975c9635ac43d06e9ab", func := "ammonite/ammonitelaw19.HeadsGrow", spec := "headsGrow", inPlace := ["internal/bytealg.IndexByteString", "internal/bytealg.IndexString", "internal/abi.NoEscape", "internal/bytealg.MakeNoZero"], unfollowed := true, recurses := true, named := ["internal/bytealg.MaxLen"], plainKeys := false, apart := false, narrowed := true }
def HeadsGrowUptoSaid : Prop := headsGrowUptoRow.holds Tryz.pinned (OpenSpec.upto headsGrowSpec)

/-- 'ammonitelaw19.HeadsMoves', WHERE WHAT IT READS IS OF BULK AT MOST 1048576: true; the input reads as it did. -/
def headsMovesUptoRow : OpenClaim := { program := "ytdnoacgopfcpbaagreat", sum := "d63d6e5adf32495b4e08329f572af7958c2962896b90e975c9635ac43d06e9ab", func := "ammonite/ammonitelaw19.HeadsMoves", spec := "headsMoves", inPlace := ["internal/bytealg.IndexByteString", "internal/bytealg.IndexString", "internal/abi.NoEscape", "internal/bytealg.MakeNoZero"], unfollowed := true, recurses := true, named := ["internal/bytealg.MaxLen"], plainKeys := false, apart := false, narrowed := true }
def HeadsMovesUptoSaid : Prop := headsMovesUptoRow.holds Tryz.pinned (OpenSpec.upto headsMovesSpec)

/-- 'ammonitelaw19.HeadsTells', WHERE WHAT IT READS IS OF BULK AT MOST 1048576: true; the input reads as it did. -/
def headsTellsUptoRow : OpenClaim := { program := "ytdnoacgopfcpbaagreat", sum := "d63d6e5adf32495b4e08329f572af7958c2962896b90e975c9635ac43d06e9ab", func := "ammonite/ammonitelaw19.HeadsTells", spec := "headsTells", inPlace := ["internal/bytealg.IndexByteString", "internal/bytealg.IndexString", "internal/abi.NoEscape", "internal/bytealg.MakeNoZero"], unfollowed := true, recurses := true, named := ["internal/bytealg.MaxLen"], plainKeys := false, apart := false, narrowed := true }
def HeadsTellsUptoSaid : Prop := headsTellsUptoRow.holds Tryz.pinned (OpenSpec.upto headsTellsSpec)

/-- 'ammonitelaw19.HeadsAll', WHERE WHAT IT READS IS OF BULK AT MOST 1048576: true; the input reads as it did. -/
def headsAllUptoRow : OpenClaim := { program := "ytdnoacgopfcpbaagreat", sum := "d63d6e5adf32495b4e08329f572af7958c2962896b90e975c9635ac43d06e9ab", func := "ammonite/ammonitelaw19.HeadsAll", spec := "headsAll", inPlace := ["internal/bytealg.IndexByteString", "internal/bytealg.IndexString", "internal/abi.NoEscape", "internal/bytealg.MakeNoZero"], unfollowed := true, recurses := true, named := ["internal/bytealg.MaxLen"], plainKeys := false, apart := false, narrowed := true }
def HeadsAllUptoSaid : Prop := headsAllUptoRow.holds Tryz.pinned (OpenSpec.upto headsAllSpec)

/-- 'ammonitelaw20.DeriveRuns', WHERE WHAT IT READS IS OF BULK AT MOST 1048576: true; the input reads as it did. -/
def deriveRunsUptoRow : OpenClaim := { program := "ytdnoacgopfcpbaagreat", sum := "d63d6e5adf32495b4e08329f572af7958c2962896b90e975c9635ac43d06e9ab", func := "ammonite/ammonitelaw20.DeriveRuns", spec := "deriveRuns", inPlace := ["internal/bytealg.IndexByteString", "internal/bytealg.IndexString", "internal/abi.NoEscape", "internal/bytealg.MakeNoZero", "internal/bytealg.abigen_runtime_cmpstring", "maps.clone"], unfollowed := true, recurses := true, named := ["internal/bytealg.MaxLen"], plainKeys := false, apart := false, narrowed := true }
def DeriveRunsUptoSaid : Prop := deriveRunsUptoRow.holds Tryz.pinned (OpenSpec.upto deriveRunsSpec)

/-- 'ammonitelaw20.DeriveTexts', WHERE WHAT IT READS IS OF BULK AT MOST 1048576: true; the input reads as it did. -/
def deriveTextsUptoRow : OpenClaim := { program := "ytdnoacgopfcpbaagreat", sum := "d63d6e5adf32495b4e08329f572af7958c2962896b90e975c9635ac43d06e9ab", func := "ammonite/ammonitelaw20.DeriveTexts", spec := "deriveTexts", inPlace := ["internal/bytealg.IndexByteString", "internal/bytealg.IndexString", "internal/abi.NoEscape", "internal/bytealg.MakeNoZero", "internal/bytealg.abigen_runtime_cmpstring", "maps.clone"], unfollowed := true, recurses := true, named := ["internal/bytealg.MaxLen"], plainKeys := false, apart := false, narrowed := true }
def DeriveTextsUptoSaid : Prop := deriveTextsUptoRow.holds Tryz.pinned (OpenSpec.upto deriveTextsSpec)

/-- 'ammonitelaw20.DeriveTells', WHERE WHAT IT READS IS OF BULK AT MOST 1048576: true; the input reads as it did. -/
def deriveTellsUptoRow : OpenClaim := { program := "ytdnoacgopfcpbaagreat", sum := "d63d6e5adf32495b4e08329f572af7958c2962896b90e975c9635ac43d06e9ab", func := "ammonite/ammonitelaw20.DeriveTells", spec := "deriveTells", inPlace := ["internal/bytealg.IndexByteString", "internal/bytealg.IndexString", "internal/abi.NoEscape", "internal/bytealg.MakeNoZero", "internal/bytealg.abigen_runtime_cmpstring", "maps.clone"], unfollowed := true, recurses := true, named := ["internal/bytealg.MaxLen"], plainKeys := false, apart := false, narrowed := true }
def DeriveTellsUptoSaid : Prop := deriveTellsUptoRow.holds Tryz.pinned (OpenSpec.upto deriveTellsSpec)

/-- 'ammonitelaw20.DeriveDrop', WHERE WHAT IT READS IS OF BULK AT MOST 1048576: true; the input reads as it did. -/
def deriveDropUptoRow : OpenClaim := { program := "ytdnoacgopfcpbaagreat", sum := "d63d6e5adf32495b4e08329f572af7958c2962896b90e975c9635ac43d06e9ab", func := "ammonite/ammonitelaw20.DeriveDrop", spec := "deriveDrop", inPlace := ["internal/bytealg.IndexByteString", "internal/bytealg.IndexString", "internal/abi.NoEscape", "internal/bytealg.MakeNoZero", "internal/bytealg.abigen_runtime_cmpstring", "maps.clone"], unfollowed := true, recurses := true, named := ["internal/bytealg.MaxLen"], plainKeys := false, apart := false, narrowed := true }
def DeriveDropUptoSaid : Prop := deriveDropUptoRow.holds Tryz.pinned (OpenSpec.upto deriveDropSpec)

end Rows
end Go.Proofs.YtdnoacgopfcpbaaGreat
