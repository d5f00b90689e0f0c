/-
  NARROWER THAN 'FOR EVERY INPUT', by the rows' own cells (each row's printed sentence says how): PathRights: loops · PathSpeaks: loops · PathKeeps: loops · PathSpells: loops.
  DERIVED. THE GIVEN ROWS OF THIS SEAT. 4 by the template 'for every input the law returns true; each argument reads behind the call as it read before'; 0 by the template 'total and deterministic' (their statements: YtfogiadkbdogcaaTotals.lean).
  GIVEN WITH THE SEED: the statements are not yours to turn. If you find one false, say at which input.
  Laid BY PROGRAM, IN A SANDBOX (cutbox-rows.mjs): the forced cells as the released guide's own fill.sh prints them over the translation d0d04beb4922e48c… (all of the seat's roots in one cut). By AI agents, Wed Nov 11 2026. No macro, syntax, notation, axiom, sorry.
-/
import Derived.Test.YtfogiadkbdogcaaChecked
import GoSem.Claim
import GoSem.ClaimJoined
import GoSem.ClaimMapViews
import Derived.JoinedTies
import Derived.KernelRfl
namespace Go.Proofs.Ytfogiadkbdogcaa
/- THE CELL 'sum', in the pinned program and in every row, IS THE sha256 OF THE DUMP (.gsa) THAT YtfogiadkbdogcaaProg.lean LOADS. Nothing in Lean hashes anything: it is a label: what it is worth is what the hold of that sum in a sandbox is worth. -/
noncomputable def Try.pinned : Pinned := { name := "ytfogiadkbdogcaa", sum := "d0d04beb4922e48c5d8e5f82becc7eeaa89dd8fd976f22990ee20fa65819626f", checked := Try.checked }
namespace Rows
def none {H : Type} : Left H := { results := [], args := [] }

/-- 'oriellaw12.PathRights': WHATEVER THE INPUT: true; the input reads as it did. -/
def pathRightsSpec : ChangeSpec := { name := "pathRights", fn := fun _ => fun
  | [d1, d2] => { results := [.lit (.bool true)], args := [d1, d2] }
  | _ => none }
def pathRightsRow : OpenClaim := { program := "ytfogiadkbdogcaa", sum := "d0d04beb4922e48c5d8e5f82becc7eeaa89dd8fd976f22990ee20fa65819626f", func := "oriel/oriellaw12.PathRights", spec := "pathRights", inPlace := ["internal/bytealg.IndexByteString", "internal/bytealg.IndexString"], unfollowed := true, recurses := true, named := ["internal/bytealg.MaxLen"], loops := true, apart := false }
def PathRightsSaid : Prop := pathRightsRow.holds Try.pinned (OpenSpec.ofChange pathRightsSpec)

/-- ITS FALSE NEIGHBOUR: 'it returns false'. Refute it at one input. -/
def pathRightsWrong : ChangeSpec := { name := "pathRights", fn := fun _ => fun
  | [d1, d2] => { results := [.lit (.bool false)], args := [d1, d2] }
  | _ => none }
def PathRightsWrongFalsely : Prop := pathRightsRow.holds Try.pinned (OpenSpec.ofChange pathRightsWrong)

/-- 'oriellaw12.PathSpeaks': WHATEVER THE INPUT: true; the input reads as it did. -/
def pathSpeaksSpec : ChangeSpec := { name := "pathSpeaks", fn := fun _ => fun
  | [d1, d2] => { results := [.lit (.bool true)], args := [d1, d2] }
  | _ => none }
def pathSpeaksRow : OpenClaim := { program := "ytfogiadkbdogcaa", sum := "d0d04beb4922e48c5d8e5f82becc7eeaa89dd8fd976f22990ee20fa65819626f", func := "oriel/oriellaw12.PathSpeaks", spec := "pathSpeaks", inPlace := ["internal/bytealg.IndexByteString", "internal/bytealg.IndexString"], unfollowed := true, recurses := true, named := ["internal/bytealg.MaxLen"], loops := true, apart := false }
def PathSpeaksSaid : Prop := pathSpeaksRow.holds Try.pinned (OpenSpec.ofChange pathSpeaksSpec)

/-- ITS FALSE NEIGHBOUR: 'it returns false'. Refute it at one input. -/
def pathSpeaksWrong : ChangeSpec := { name := "pathSpeaks", fn := fun _ => fun
  | [d1, d2] => { results := [.lit (.bool false)], args := [d1, d2] }
  | _ => none }
def PathSpeaksWrongFalsely : Prop := pathSpeaksRow.holds Try.pinned (OpenSpec.ofChange pathSpeaksWrong)

/-- 'oriellaw12.PathKeeps': WHATEVER THE INPUT: true; the input reads as it did. -/
def pathKeepsSpec : ChangeSpec := { name := "pathKeeps", fn := fun _ => fun
  | [d] => { results := [.lit (.bool true)], args := [d] }
  | _ => none }
def pathKeepsRow : OpenClaim := { program := "ytfogiadkbdogcaa", sum := "d0d04beb4922e48c5d8e5f82becc7eeaa89dd8fd976f22990ee20fa65819626f", func := "oriel/oriellaw12.PathKeeps", spec := "pathKeeps", inPlace := ["internal/bytealg.IndexByteString", "internal/bytealg.IndexString"], unfollowed := true, recurses := true, named := ["internal/bytealg.MaxLen"], loops := true, apart := false }
def PathKeepsSaid : Prop := pathKeepsRow.holds Try.pinned (OpenSpec.ofChange pathKeepsSpec)

/-- ITS FALSE NEIGHBOUR: 'it returns false'. Refute it at one input. -/
def pathKeepsWrong : ChangeSpec := { name := "pathKeeps", fn := fun _ => fun
  | [d] => { results := [.lit (.bool false)], args := [d] }
  | _ => none }
def PathKeepsWrongFalsely : Prop := pathKeepsRow.holds Try.pinned (OpenSpec.ofChange pathKeepsWrong)

/-- 'oriellaw12.PathSpells': WHATEVER THE INPUT: true; the input reads as it did. -/
def pathSpellsSpec : ChangeSpec := { name := "pathSpells", fn := fun _ => fun
  | [d1, d2] => { results := [.lit (.bool true)], args := [d1, d2] }
  | _ => none }
def pathSpellsRow : OpenClaim := { program := "ytfogiadkbdogcaa", sum := "d0d04beb4922e48c5d8e5f82becc7eeaa89dd8fd976f22990ee20fa65819626f", func := "oriel/oriellaw12.PathSpells", spec := "pathSpells", inPlace := ["internal/bytealg.IndexByteString", "internal/bytealg.IndexString"], unfollowed := true, recurses := true, named := ["internal/bytealg.MaxLen"], loops := true, apart := false }
def PathSpellsSaid : Prop := pathSpellsRow.holds Try.pinned (OpenSpec.ofChange pathSpellsSpec)

/-- ITS FALSE NEIGHBOUR: 'it returns false'. Refute it at one input. -/
def pathSpellsWrong : ChangeSpec := { name := "pathSpells", fn := fun _ => fun
  | [d1, d2] => { results := [.lit (.bool false)], args := [d1, d2] }
  | _ => none }
def PathSpellsWrongFalsely : Prop := pathSpellsRow.holds Try.pinned (OpenSpec.ofChange pathSpellsWrong)

/- THE SECOND FORM. 'bulk': how many values and letters a reading holds, each counted each time it is reached (what is shared counts as often as it is met; a slice's spare places count too). A statement '..UptoSaid' is the law's where the arguments, and the package variables that the reading takes, are together of bulk at most 1048576: NARROWER than '..Said'. Prove '..Said' where nothing that the law and all that it calls make is longer than what came in: it says more and counts as full. Else prove '..UptoSaid'. A law counts once. -/
mutual
def uptoBulk {H : Type} : DataW H → Nat
  | .lit (.string bytes) => bytes.length + 1
  | .lit _ => 1
  | .nil => 1
  | .ptr d => uptoBulk d + 1
  | .slice elems spare => uptoBulkAll elems + uptoBulkAll spare + 1
  | .agg parts => uptoBulkAll parts + 1
  | .iface _ d => uptoBulk d + 1
  | .map entries => uptoBulkEntries entries + 1
  | .held _ => 1
def uptoBulkAll {H : Type} : List (DataW H) → Nat
  | [] => 0
  | d :: r => uptoBulk d + uptoBulkAll r
def uptoBulkEntries {H : Type} : List (Lit × DataW H) → Nat
  | [] => 0
  | x :: r => uptoBulkEntry x + uptoBulkEntries r
def uptoBulkEntry {H : Type} : Lit × DataW H → Nat
  | (.string bytes, d) => bytes.length + uptoBulk d + 1
  | (_, d) => uptoBulk d + 1
 end
def uptoSmall : (H : Type) → List (DataW H) → Bool := fun _ ds => decide (uptoBulkAll ds ≤ 1048576)
def OpenSpec.upto (s : _root_.Go.ChangeSpec) : _root_.Go.OpenSpec := { _root_.Go.OpenSpec.ofChange s with cond := some uptoSmall }

/-- 'oriellaw12.PathRights', WHERE WHAT IT READS IS OF BULK AT MOST 1048576: true; the input reads as it did. -/
def pathRightsUptoRow : OpenClaim := { program := "ytfogiadkbdogcaa", sum := "d0d04beb4922e48c5d8e5f82becc7eeaa89dd8fd976f22990ee20fa65819626f", func := "oriel/oriellaw12.PathRights", spec := "pathRights", inPlace := ["internal/bytealg.IndexByteString", "internal/bytealg.IndexString"], unfollowed := true, recurses := true, named := ["internal/bytealg.MaxLen"], loops := true, apart := false, narrowed := true }
def PathRightsUptoSaid : Prop := pathRightsUptoRow.holds Try.pinned (OpenSpec.upto pathRightsSpec)

/-- 'oriellaw12.PathSpeaks', WHERE WHAT IT READS IS OF BULK AT MOST 1048576: true; the input reads as it did. -/
def pathSpeaksUptoRow : OpenClaim := { program := "ytfogiadkbdogcaa", sum := "d0d04beb4922e48c5d8e5f82becc7eeaa89dd8fd976f22990ee20fa65819626f", func := "oriel/oriellaw12.PathSpeaks", spec := "pathSpeaks", inPlace := ["internal/bytealg.IndexByteString", "internal/bytealg.IndexString"], unfollowed := true, recurses := true, named := ["internal/bytealg.MaxLen"], loops := true, apart := false, narrowed := true }
def PathSpeaksUptoSaid : Prop := pathSpeaksUptoRow.holds Try.pinned (OpenSpec.upto pathSpeaksSpec)

/-- 'oriellaw12.PathKeeps', WHERE WHAT IT READS IS OF BULK AT MOST 1048576: true; the input reads as it did. -/
def pathKeepsUptoRow : OpenClaim := { program := "ytfogiadkbdogcaa", sum := "d0d04beb4922e48c5d8e5f82becc7eeaa89dd8fd976f22990ee20fa65819626f", func := "oriel/oriellaw12.PathKeeps", spec := "pathKeeps", inPlace := ["internal/bytealg.IndexByteString", "internal/bytealg.IndexString"], unfollowed := true, recurses := true, named := ["internal/bytealg.MaxLen"], loops := true, apart := false, narrowed := true }
def PathKeepsUptoSaid : Prop := pathKeepsUptoRow.holds Try.pinned (OpenSpec.upto pathKeepsSpec)

/-- 'oriellaw12.PathSpells', WHERE WHAT IT READS IS OF BULK AT MOST 1048576: true; the input reads as it did. -/
def pathSpellsUptoRow : OpenClaim := { program := "ytfogiadkbdogcaa", sum := "d0d04beb4922e48c5d8e5f82becc7eeaa89dd8fd976f22990ee20fa65819626f", func := "oriel/oriellaw12.PathSpells", spec := "pathSpells", inPlace := ["internal/bytealg.IndexByteString", "internal/bytealg.IndexString"], unfollowed := true, recurses := true, named := ["internal/bytealg.MaxLen"], loops := true, apart := false, narrowed := true }
def PathSpellsUptoSaid : Prop := pathSpellsUptoRow.holds Try.pinned (OpenSpec.upto pathSpellsSpec)

end Rows
end Go.Proofs.Ytfogiadkbdogcaa
