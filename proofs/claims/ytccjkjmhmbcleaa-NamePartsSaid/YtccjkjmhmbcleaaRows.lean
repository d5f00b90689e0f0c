/-
  No cell of these rows narrows 'for every input' (looked for: loops, veiled, ifaces, maps, wideKeys, modest, calm, conditions, laid).
  DERIVED. THE GIVEN ROWS OF THIS SEAT. 4 by the template 'for every input the law returns true; each argument reads behind the call as it read before'; 0 by the template 'total and deterministic' (their statements: YtccjkjmhmbcleaaTotals.lean).
  GIVEN WITH THE SEED: the statements are not yours to turn. If you find one false, say at which input.
  Laid BY PROGRAM, IN A SANDBOX (cutbox-rows.mjs): the forced cells as the released guide's own fill.sh prints them over the translation 5b2101152b99680e… (all of the seat's roots in one cut). By AI agents, Wed Nov 11 2026. No macro, syntax, notation, axiom, sorry.
-/
import Derived.Test.YtccjkjmhmbcleaaChecked
import GoSem.Claim
import GoSem.ClaimJoined
import GoSem.ClaimMapViews
import Derived.JoinedTies
import Derived.KernelRfl
namespace Go.Proofs.Ytccjkjmhmbcleaa
/- THE CELL 'sum', in the pinned program and in every row, IS THE sha256 OF THE DUMP (.gsa) THAT YtccjkjmhmbcleaaProg.lean LOADS. Nothing in Lean hashes anything: it is a label: what it is worth is what the hold of that sum in a sandbox is worth. -/
noncomputable def Try.pinned : Pinned := { name := "ytccjkjmhmbcleaa", sum := "5b2101152b99680e82ad94fd04dd92b2ecd1252b387060794fd956e98d9e0e81", checked := Try.checked }
namespace Rows
def none {H : Type} : Left H := { results := [], args := [] }

/-- 'oriellaw03.NameSplits': WHATEVER THE INPUT: true; the input reads as it did. -/
def nameSplitsSpec : ChangeSpec := { name := "nameSplits", fn := fun _ => fun
  | [d] => { results := [.lit (.bool true)], args := [d] }
  | _ => none }
def nameSplitsRow : OpenClaim := { program := "ytccjkjmhmbcleaa", sum := "5b2101152b99680e82ad94fd04dd92b2ecd1252b387060794fd956e98d9e0e81", func := "oriel/oriellaw03.NameSplits", spec := "nameSplits", inPlace := ["internal/bytealg.IndexByteString", "internal/bytealg.IndexString"], named := ["internal/bytealg.MaxLen"], apart := false }
def NameSplitsSaid : Prop := nameSplitsRow.holds Try.pinned (OpenSpec.ofChange nameSplitsSpec)

/-- ITS FALSE NEIGHBOUR: 'it returns false'. Refute it at one input. -/
def nameSplitsWrong : ChangeSpec := { name := "nameSplits", fn := fun _ => fun
  | [d] => { results := [.lit (.bool false)], args := [d] }
  | _ => none }
def NameSplitsWrongFalsely : Prop := nameSplitsRow.holds Try.pinned (OpenSpec.ofChange nameSplitsWrong)

/-- 'oriellaw03.NameCuts': WHATEVER THE INPUT: true; the input reads as it did. -/
def nameCutsSpec : ChangeSpec := { name := "nameCuts", fn := fun _ => fun
  | [d1, d2] => { results := [.lit (.bool true)], args := [d1, d2] }
  | _ => none }
def nameCutsRow : OpenClaim := { program := "ytccjkjmhmbcleaa", sum := "5b2101152b99680e82ad94fd04dd92b2ecd1252b387060794fd956e98d9e0e81", func := "oriel/oriellaw03.NameCuts", spec := "nameCuts", inPlace := ["internal/bytealg.IndexByteString", "internal/bytealg.IndexString"], named := ["internal/bytealg.MaxLen"], apart := false }
def NameCutsSaid : Prop := nameCutsRow.holds Try.pinned (OpenSpec.ofChange nameCutsSpec)

/-- ITS FALSE NEIGHBOUR: 'it returns false'. Refute it at one input. -/
def nameCutsWrong : ChangeSpec := { name := "nameCuts", fn := fun _ => fun
  | [d1, d2] => { results := [.lit (.bool false)], args := [d1, d2] }
  | _ => none }
def NameCutsWrongFalsely : Prop := nameCutsRow.holds Try.pinned (OpenSpec.ofChange nameCutsWrong)

/-- 'oriellaw03.NameParts': WHATEVER THE INPUT: true; the input reads as it did. -/
def namePartsSpec : ChangeSpec := { name := "nameParts", fn := fun _ => fun
  | [d1, d2] => { results := [.lit (.bool true)], args := [d1, d2] }
  | _ => none }
def namePartsRow : OpenClaim := { program := "ytccjkjmhmbcleaa", sum := "5b2101152b99680e82ad94fd04dd92b2ecd1252b387060794fd956e98d9e0e81", func := "oriel/oriellaw03.NameParts", spec := "nameParts", inPlace := ["internal/bytealg.IndexByteString", "internal/bytealg.IndexString"], named := ["internal/bytealg.MaxLen"], apart := false }
def NamePartsSaid : Prop := namePartsRow.holds Try.pinned (OpenSpec.ofChange namePartsSpec)

/-- ITS FALSE NEIGHBOUR: 'it returns false'. Refute it at one input. -/
def namePartsWrong : ChangeSpec := { name := "nameParts", fn := fun _ => fun
  | [d1, d2] => { results := [.lit (.bool false)], args := [d1, d2] }
  | _ => none }
def NamePartsWrongFalsely : Prop := namePartsRow.holds Try.pinned (OpenSpec.ofChange namePartsWrong)

/-- 'oriellaw03.NameJoins': WHATEVER THE INPUT: true; the input reads as it did. -/
def nameJoinsSpec : ChangeSpec := { name := "nameJoins", fn := fun _ => fun
  | [d1, d2] => { results := [.lit (.bool true)], args := [d1, d2] }
  | _ => none }
def nameJoinsRow : OpenClaim := { program := "ytccjkjmhmbcleaa", sum := "5b2101152b99680e82ad94fd04dd92b2ecd1252b387060794fd956e98d9e0e81", func := "oriel/oriellaw03.NameJoins", spec := "nameJoins", inPlace := ["internal/bytealg.IndexByteString", "internal/bytealg.IndexString"], named := ["internal/bytealg.MaxLen"], apart := false }
def NameJoinsSaid : Prop := nameJoinsRow.holds Try.pinned (OpenSpec.ofChange nameJoinsSpec)

/-- ITS FALSE NEIGHBOUR: 'it returns false'. Refute it at one input. -/
def nameJoinsWrong : ChangeSpec := { name := "nameJoins", fn := fun _ => fun
  | [d1, d2] => { results := [.lit (.bool false)], args := [d1, d2] }
  | _ => none }
def NameJoinsWrongFalsely : Prop := nameJoinsRow.holds Try.pinned (OpenSpec.ofChange nameJoinsWrong)

/- THE SECOND FORM. 'bulk': how many values and letters a reading holds, each counted each time it is reached (what is shared counts as often as it is met; a slice's spare places count too). A statement '..UptoSaid' is the law's where the arguments, and the package variables that the reading takes, are together of bulk at most 1048576: NARROWER than '..Said'. Prove '..Said' where nothing that the law and all that it calls make is longer than what came in: it says more and counts as full. Else prove '..UptoSaid'. A law counts once. -/
mutual
def uptoBulk {H : Type} : DataW H → Nat
  | .lit (.string bytes) => bytes.length + 1
  | .lit _ => 1
  | .nil => 1
  | .ptr d => uptoBulk d + 1
  | .slice elems spare => uptoBulkAll elems + uptoBulkAll spare + 1
  | .agg parts => uptoBulkAll parts + 1
  | .iface _ d => uptoBulk d + 1
  | .map entries => uptoBulkEntries entries + 1
  | .held _ => 1
def uptoBulkAll {H : Type} : List (DataW H) → Nat
  | [] => 0
  | d :: r => uptoBulk d + uptoBulkAll r
def uptoBulkEntries {H : Type} : List (Lit × DataW H) → Nat
  | [] => 0
  | x :: r => uptoBulkEntry x + uptoBulkEntries r
def uptoBulkEntry {H : Type} : Lit × DataW H → Nat
  | (.string bytes, d) => bytes.length + uptoBulk d + 1
  | (_, d) => uptoBulk d + 1
 end
def uptoSmall : (H : Type) → List (DataW H) → Bool := fun _ ds => decide (uptoBulkAll ds ≤ 1048576)
def OpenSpec.upto (s : _root_.Go.ChangeSpec) : _root_.Go.OpenSpec := { _root_.Go.OpenSpec.ofChange s with cond := some uptoSmall }

/-- 'oriellaw03.NameSplits', WHERE WHAT IT READS IS OF BULK AT MOST 1048576: true; the input reads as it did. -/
def nameSplitsUptoRow : OpenClaim := { program := "ytccjkjmhmbcleaa", sum := "5b2101152b99680e82ad94fd04dd92b2ecd1252b387060794fd956e98d9e0e81", func := "oriel/oriellaw03.NameSplits", spec := "nameSplits", inPlace := ["internal/bytealg.IndexByteString", "internal/bytealg.IndexString"], named := ["internal/bytealg.MaxLen"], apart := false, narrowed := true }
def NameSplitsUptoSaid : Prop := nameSplitsUptoRow.holds Try.pinned (OpenSpec.upto nameSplitsSpec)

/-- 'oriellaw03.NameCuts', WHERE WHAT IT READS IS OF BULK AT MOST 1048576: true; the input reads as it did. -/
def nameCutsUptoRow : OpenClaim := { program := "ytccjkjmhmbcleaa", sum := "5b2101152b99680e82ad94fd04dd92b2ecd1252b387060794fd956e98d9e0e81", func := "oriel/oriellaw03.NameCuts", spec := "nameCuts", inPlace := ["internal/bytealg.IndexByteString", "internal/bytealg.IndexString"], named := ["internal/bytealg.MaxLen"], apart := false, narrowed := true }
def NameCutsUptoSaid : Prop := nameCutsUptoRow.holds Try.pinned (OpenSpec.upto nameCutsSpec)

/-- 'oriellaw03.NameParts', WHERE WHAT IT READS IS OF BULK AT MOST 1048576: true; the input reads as it did. -/
def namePartsUptoRow : OpenClaim := { program := "ytccjkjmhmbcleaa", sum := "5b2101152b99680e82ad94fd04dd92b2ecd1252b387060794fd956e98d9e0e81", func := "oriel/oriellaw03.NameParts", spec := "nameParts", inPlace := ["internal/bytealg.IndexByteString", "internal/bytealg.IndexString"], named := ["internal/bytealg.MaxLen"], apart := false, narrowed := true }
def NamePartsUptoSaid : Prop := namePartsUptoRow.holds Try.pinned (OpenSpec.upto namePartsSpec)

/-- 'oriellaw03.NameJoins', WHERE WHAT IT READS IS OF BULK AT MOST 1048576: true; the input reads as it did. -/
def nameJoinsUptoRow : OpenClaim := { program := "ytccjkjmhmbcleaa", sum := "5b2101152b99680e82ad94fd04dd92b2ecd1252b387060794fd956e98d9e0e81", func := "oriel/oriellaw03.NameJoins", spec := "nameJoins", inPlace := ["internal/bytealg.IndexByteString", "internal/bytealg.IndexString"], named := ["internal/bytealg.MaxLen"], apart := false, narrowed := true }
def NameJoinsUptoSaid : Prop := nameJoinsUptoRow.holds Try.pinned (OpenSpec.upto nameJoinsSpec)

end Rows
end Go.Proofs.Ytccjkjmhmbcleaa
