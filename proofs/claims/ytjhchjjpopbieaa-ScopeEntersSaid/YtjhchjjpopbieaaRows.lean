/-
  No cell of these rows narrows 'for every input' (looked for: loops, veiled, ifaces, maps, wideKeys, modest, calm, conditions, laid).
  DERIVED. THE GIVEN ROWS OF THIS SEAT. 5 by the template 'for every input the law returns true; each argument reads behind the call as it read before'; 0 by the template 'total and deterministic' (their statements: YtjhchjjpopbieaaTotals.lean).
  GIVEN WITH THE SEED: the statements are not yours to turn. If you find one false, say at which input.
  Laid BY PROGRAM, IN A SANDBOX (cutbox-rows.mjs): the forced cells as the released guide's own fill.sh prints them over the translation 473d122d9d100a50… (all of the seat's roots in one cut). By AI agents, Wed Nov 11 2026. No macro, syntax, notation, axiom, sorry.
-/
import Derived.Test.YtjhchjjpopbieaaChecked
import GoSem.Claim
import GoSem.ClaimJoined
import GoSem.ClaimMapViews
import Derived.JoinedTies
import Derived.KernelRfl
namespace Go.Proofs.Ytjhchjjpopbieaa
/- THE CELL 'sum', in the pinned program and in every row, IS THE sha256 OF THE DUMP (.gsa) THAT YtjhchjjpopbieaaProg.lean LOADS. Nothing in Lean hashes anything: it is a label: what it is worth is what the hold of that sum in a sandbox is worth. -/
noncomputable def Try.pinned : Pinned := { name := "ytjhchjjpopbieaa", sum := "473d122d9d100a509c1a1997f246cd3592a8592b848ba0e2d2c2225e76a13691", checked := Try.checked }
namespace Rows
def none {H : Type} : Left H := { results := [], args := [] }

/-- 'oriellaw07.ScopeEnters': WHATEVER THE INPUT: true; the input reads as it did. -/
def scopeEntersSpec : ChangeSpec := { name := "scopeEnters", fn := fun _ => fun
  | [d1, d2, d3] => { results := [.lit (.bool true)], args := [d1, d2, d3] }
  | _ => none }
def scopeEntersRow : OpenClaim := { program := "ytjhchjjpopbieaa", sum := "473d122d9d100a509c1a1997f246cd3592a8592b848ba0e2d2c2225e76a13691", func := "oriel/oriellaw07.ScopeEnters", spec := "scopeEnters", inPlace := ["internal/bytealg.IndexByteString", "internal/bytealg.IndexString"], unfollowed := true, recurses := true, named := ["internal/bytealg.MaxLen"], apart := false }
def ScopeEntersSaid : Prop := scopeEntersRow.holds Try.pinned (OpenSpec.ofChange scopeEntersSpec)

/-- ITS FALSE NEIGHBOUR: 'it returns false'. Refute it at one input. -/
def scopeEntersWrong : ChangeSpec := { name := "scopeEnters", fn := fun _ => fun
  | [d1, d2, d3] => { results := [.lit (.bool false)], args := [d1, d2, d3] }
  | _ => none }
def ScopeEntersWrongFalsely : Prop := scopeEntersRow.holds Try.pinned (OpenSpec.ofChange scopeEntersWrong)

/-- 'oriellaw07.ScopeFinds': WHATEVER THE INPUT: true; the input reads as it did. -/
def scopeFindsSpec : ChangeSpec := { name := "scopeFinds", fn := fun _ => fun
  | [d1, d2, d3, d4] => { results := [.lit (.bool true)], args := [d1, d2, d3, d4] }
  | _ => none }
def scopeFindsRow : OpenClaim := { program := "ytjhchjjpopbieaa", sum := "473d122d9d100a509c1a1997f246cd3592a8592b848ba0e2d2c2225e76a13691", func := "oriel/oriellaw07.ScopeFinds", spec := "scopeFinds", inPlace := ["internal/bytealg.IndexByteString", "internal/bytealg.IndexString"], unfollowed := true, recurses := true, named := ["internal/bytealg.MaxLen"], apart := false }
def ScopeFindsSaid : Prop := scopeFindsRow.holds Try.pinned (OpenSpec.ofChange scopeFindsSpec)

/-- ITS FALSE NEIGHBOUR: 'it returns false'. Refute it at one input. -/
def scopeFindsWrong : ChangeSpec := { name := "scopeFinds", fn := fun _ => fun
  | [d1, d2, d3, d4] => { results := [.lit (.bool false)], args := [d1, d2, d3, d4] }
  | _ => none }
def ScopeFindsWrongFalsely : Prop := scopeFindsRow.holds Try.pinned (OpenSpec.ofChange scopeFindsWrong)

/-- 'oriellaw07.ScopeKeeps': WHATEVER THE INPUT: true; the input reads as it did. -/
def scopeKeepsSpec : ChangeSpec := { name := "scopeKeeps", fn := fun _ => fun
  | [d1, d2] => { results := [.lit (.bool true)], args := [d1, d2] }
  | _ => none }
def scopeKeepsRow : OpenClaim := { program := "ytjhchjjpopbieaa", sum := "473d122d9d100a509c1a1997f246cd3592a8592b848ba0e2d2c2225e76a13691", func := "oriel/oriellaw07.ScopeKeeps", spec := "scopeKeeps", inPlace := ["internal/bytealg.IndexByteString", "internal/bytealg.IndexString"], unfollowed := true, recurses := true, named := ["internal/bytealg.MaxLen"], apart := false }
def ScopeKeepsSaid : Prop := scopeKeepsRow.holds Try.pinned (OpenSpec.ofChange scopeKeepsSpec)

/-- ITS FALSE NEIGHBOUR: 'it returns false'. Refute it at one input. -/
def scopeKeepsWrong : ChangeSpec := { name := "scopeKeeps", fn := fun _ => fun
  | [d1, d2] => { results := [.lit (.bool false)], args := [d1, d2] }
  | _ => none }
def ScopeKeepsWrongFalsely : Prop := scopeKeepsRow.holds Try.pinned (OpenSpec.ofChange scopeKeepsWrong)

/-- 'oriellaw07.ScopeAttrs': WHATEVER THE INPUT: true; the input reads as it did. -/
def scopeAttrsSpec : ChangeSpec := { name := "scopeAttrs", fn := fun _ => fun
  | [d1, d2] => { results := [.lit (.bool true)], args := [d1, d2] }
  | _ => none }
def scopeAttrsRow : OpenClaim := { program := "ytjhchjjpopbieaa", sum := "473d122d9d100a509c1a1997f246cd3592a8592b848ba0e2d2c2225e76a13691", func := "oriel/oriellaw07.ScopeAttrs", spec := "scopeAttrs", inPlace := ["internal/bytealg.IndexByteString", "internal/bytealg.IndexString"], unfollowed := true, recurses := true, named := ["internal/bytealg.MaxLen"], apart := false }
def ScopeAttrsSaid : Prop := scopeAttrsRow.holds Try.pinned (OpenSpec.ofChange scopeAttrsSpec)

/-- ITS FALSE NEIGHBOUR: 'it returns false'. Refute it at one input. -/
def scopeAttrsWrong : ChangeSpec := { name := "scopeAttrs", fn := fun _ => fun
  | [d1, d2] => { results := [.lit (.bool false)], args := [d1, d2] }
  | _ => none }
def ScopeAttrsWrongFalsely : Prop := scopeAttrsRow.holds Try.pinned (OpenSpec.ofChange scopeAttrsWrong)

/-- 'oriellaw07.ScopeNames': WHATEVER THE INPUT: true; the input reads as it did. -/
def scopeNamesSpec : ChangeSpec := { name := "scopeNames", fn := fun _ => fun
  | [d1, d2, d3] => { results := [.lit (.bool true)], args := [d1, d2, d3] }
  | _ => none }
def scopeNamesRow : OpenClaim := { program := "ytjhchjjpopbieaa", sum := "473d122d9d100a509c1a1997f246cd3592a8592b848ba0e2d2c2225e76a13691", func := "oriel/oriellaw07.ScopeNames", spec := "scopeNames", inPlace := ["internal/bytealg.IndexByteString", "internal/bytealg.IndexString"], unfollowed := true, recurses := true, named := ["internal/bytealg.MaxLen"], apart := false }
def ScopeNamesSaid : Prop := scopeNamesRow.holds Try.pinned (OpenSpec.ofChange scopeNamesSpec)

/-- ITS FALSE NEIGHBOUR: 'it returns false'. Refute it at one input. -/
def scopeNamesWrong : ChangeSpec := { name := "scopeNames", fn := fun _ => fun
  | [d1, d2, d3] => { results := [.lit (.bool false)], args := [d1, d2, d3] }
  | _ => none }
def ScopeNamesWrongFalsely : Prop := scopeNamesRow.holds Try.pinned (OpenSpec.ofChange scopeNamesWrong)

/- THE SECOND FORM. 'bulk': how many values and letters a reading holds, each counted each time it is reached (what is shared counts as often as it is met; a slice's spare places count too). A statement '..UptoSaid' is the law's where the arguments, and the package variables that the reading takes, are together of bulk at most 1048576: NARROWER than '..Said'. Prove '..Said' where nothing that the law and all that it calls make is longer than what came in: it says more and counts as full. Else prove '..UptoSaid'. A law counts once. -/
mutual
def uptoBulk {H : Type} : DataW H → Nat
  | .lit (.string bytes) => bytes.length + 1
  | .lit _ => 1
  | .nil => 1
  | .ptr d => uptoBulk d + 1
  | .slice elems spare => uptoBulkAll elems + uptoBulkAll spare + 1
  | .agg parts => uptoBulkAll parts + 1
  | .iface _ d => uptoBulk d + 1
  | .map entries => uptoBulkEntries entries + 1
  | .held _ => 1
def uptoBulkAll {H : Type} : List (DataW H) → Nat
  | [] => 0
  | d :: r => uptoBulk d + uptoBulkAll r
def uptoBulkEntries {H : Type} : List (Lit × DataW H) → Nat
  | [] => 0
  | x :: r => uptoBulkEntry x + uptoBulkEntries r
def uptoBulkEntry {H : Type} : Lit × DataW H → Nat
  | (.string bytes, d) => bytes.length + uptoBulk d + 1
  | (_, d) => uptoBulk d + 1
 end
def uptoSmall : (H : Type) → List (DataW H) → Bool := fun _ ds => decide (uptoBulkAll ds ≤ 1048576)
def OpenSpec.upto (s : _root_.Go.ChangeSpec) : _root_.Go.OpenSpec := { _root_.Go.OpenSpec.ofChange s with cond := some uptoSmall }

/-- 'oriellaw07.ScopeEnters', WHERE WHAT IT READS IS OF BULK AT MOST 1048576: true; the input reads as it did. -/
def scopeEntersUptoRow : OpenClaim := { program := "ytjhchjjpopbieaa", sum := "473d122d9d100a509c1a1997f246cd3592a8592b848ba0e2d2c2225e76a13691", func := "oriel/oriellaw07.ScopeEnters", spec := "scopeEnters", inPlace := ["internal/bytealg.IndexByteString", "internal/bytealg.IndexString"], unfollowed := true, recurses := true, named := ["internal/bytealg.MaxLen"], apart := false, narrowed := true }
def ScopeEntersUptoSaid : Prop := scopeEntersUptoRow.holds Try.pinned (OpenSpec.upto scopeEntersSpec)

/-- 'oriellaw07.ScopeFinds', WHERE WHAT IT READS IS OF BULK AT MOST 1048576: true; the input reads as it did. -/
def scopeFindsUptoRow : OpenClaim := { program := "ytjhchjjpopbieaa", sum := "473d122d9d100a509c1a1997f246cd3592a8592b848ba0e2d2c2225e76a13691", func := "oriel/oriellaw07.ScopeFinds", spec := "scopeFinds", inPlace := ["internal/bytealg.IndexByteString", "internal/bytealg.IndexString"], unfollowed := true, recurses := true, named := ["internal/bytealg.MaxLen"], apart := false, narrowed := true }
def ScopeFindsUptoSaid : Prop := scopeFindsUptoRow.holds Try.pinned (OpenSpec.upto scopeFindsSpec)

/-- 'oriellaw07.ScopeKeeps', WHERE WHAT IT READS IS OF BULK AT MOST 1048576: true; the input reads as it did. -/
def scopeKeepsUptoRow : OpenClaim := { program := "ytjhchjjpopbieaa", sum := "473d122d9d100a509c1a1997f246cd3592a8592b848ba0e2d2c2225e76a13691", func := "oriel/oriellaw07.ScopeKeeps", spec := "scopeKeeps", inPlace := ["internal/bytealg.IndexByteString", "internal/bytealg.IndexString"], unfollowed := true, recurses := true, named := ["internal/bytealg.MaxLen"], apart := false, narrowed := true }
def ScopeKeepsUptoSaid : Prop := scopeKeepsUptoRow.holds Try.pinned (OpenSpec.upto scopeKeepsSpec)

/-- 'oriellaw07.ScopeAttrs', WHERE WHAT IT READS IS OF BULK AT MOST 1048576: true; the input reads as it did. -/
def scopeAttrsUptoRow : OpenClaim := { program := "ytjhchjjpopbieaa", sum := "473d122d9d100a509c1a1997f246cd3592a8592b848ba0e2d2c2225e76a13691", func := "oriel/oriellaw07.ScopeAttrs", spec := "scopeAttrs", inPlace := ["internal/bytealg.IndexByteString", "internal/bytealg.IndexString"], unfollowed := true, recurses := true, named := ["internal/bytealg.MaxLen"], apart := false, narrowed := true }
def ScopeAttrsUptoSaid : Prop := scopeAttrsUptoRow.holds Try.pinned (OpenSpec.upto scopeAttrsSpec)

/-- 'oriellaw07.ScopeNames', WHERE WHAT IT READS IS OF BULK AT MOST 1048576: true; the input reads as it did. -/
def scopeNamesUptoRow : OpenClaim := { program := "ytjhchjjpopbieaa", sum := "473d122d9d100a509c1a1997f246cd3592a8592b848ba0e2d2c2225e76a13691", func := "oriel/oriellaw07.ScopeNames", spec := "scopeNames", inPlace := ["internal/bytealg.IndexByteString", "internal/bytealg.IndexString"], unfollowed := true, recurses := true, named := ["internal/bytealg.MaxLen"], apart := false, narrowed := true }
def ScopeNamesUptoSaid : Prop := scopeNamesUptoRow.holds Try.pinned (OpenSpec.upto scopeNamesSpec)

end Rows
end Go.Proofs.Ytjhchjjpopbieaa
