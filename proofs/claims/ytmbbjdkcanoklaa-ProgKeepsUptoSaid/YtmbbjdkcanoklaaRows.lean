/-
  NARROWER THAN 'FOR EVERY INPUT', by the rows' own cells (each row's printed sentence says how): ProgCompiles: loops · ProgMoves: loops · ProgLeads: loops · ProgKeeps: loops · ProgShapes: loops.
  DERIVED. THE GIVEN ROWS OF THIS SEAT. 5 by the template 'for every input the law returns true; each argument reads behind the call as it read before'; 0 by the template 'total and deterministic' (their statements: YtmbbjdkcanoklaaTotals.lean).
  GIVEN WITH THE SEED: the statements are not yours to turn. If you find one false, say at which input.
  Laid BY PROGRAM, IN A SANDBOX (cutbox-rows.mjs): the forced cells as the released guide's own fill.sh prints them over the translation d91bf55d6ab9b91d… (all of the seat's roots in one cut). By AI agents, Wed Nov 11 2026. No macro, syntax, notation, axiom, sorry.
-/
import Derived.Test.YtmbbjdkcanoklaaChecked
import GoSem.Claim
import GoSem.ClaimJoined
import GoSem.ClaimMapViews
import Derived.JoinedTies
import Derived.KernelRfl
namespace Go.Proofs.Ytmbbjdkcanoklaa
/- THE CELL 'sum', in the pinned program and in every row, IS THE sha256 OF THE DUMP (.gsa) THAT YtmbbjdkcanoklaaProg.lean LOADS. Nothing in Lean hashes anything: it is a label: what it is worth is what the hold of that sum in a sandbox is worth. -/
noncomputable def Try.pinned : Pinned := { name := "ytmbbjdkcanoklaa", sum := "d91bf55d6ab9b91d4545ce86686d755ac450d75728cf03fbea1e72962ed4f718", checked := Try.checked }
namespace Rows
def none {H : Type} : Left H := { results := [], args := [] }

/-- 'oriellaw17.ProgCompiles': WHATEVER THE INPUT: true; the input reads as it did. -/
def progCompilesSpec : ChangeSpec := { name := "progCompiles", fn := fun _ => fun
  | [d] => { results := [.lit (.bool true)], args := [d] }
  | _ => none }
def progCompilesRow : OpenClaim := { program := "ytmbbjdkcanoklaa", sum := "d91bf55d6ab9b91d4545ce86686d755ac450d75728cf03fbea1e72962ed4f718", func := "oriel/oriellaw17.ProgCompiles", spec := "progCompiles", recurses := true, loops := true, apart := false }
def ProgCompilesSaid : Prop := progCompilesRow.holds Try.pinned (OpenSpec.ofChange progCompilesSpec)

/-- ITS FALSE NEIGHBOUR: 'it returns false'. Refute it at one input. -/
def progCompilesWrong : ChangeSpec := { name := "progCompiles", fn := fun _ => fun
  | [d] => { results := [.lit (.bool false)], args := [d] }
  | _ => none }
def ProgCompilesWrongFalsely : Prop := progCompilesRow.holds Try.pinned (OpenSpec.ofChange progCompilesWrong)

/-- 'oriellaw17.ProgMoves': WHATEVER THE INPUT: true; the input reads as it did. -/
def progMovesSpec : ChangeSpec := { name := "progMoves", fn := fun _ => fun
  | [d1, d2, d3, d4] => { results := [.lit (.bool true)], args := [d1, d2, d3, d4] }
  | _ => none }
def progMovesRow : OpenClaim := { program := "ytmbbjdkcanoklaa", sum := "d91bf55d6ab9b91d4545ce86686d755ac450d75728cf03fbea1e72962ed4f718", func := "oriel/oriellaw17.ProgMoves", spec := "progMoves", recurses := true, loops := true, apart := false }
def ProgMovesSaid : Prop := progMovesRow.holds Try.pinned (OpenSpec.ofChange progMovesSpec)

/-- ITS FALSE NEIGHBOUR: 'it returns false'. Refute it at one input. -/
def progMovesWrong : ChangeSpec := { name := "progMoves", fn := fun _ => fun
  | [d1, d2, d3, d4] => { results := [.lit (.bool false)], args := [d1, d2, d3, d4] }
  | _ => none }
def ProgMovesWrongFalsely : Prop := progMovesRow.holds Try.pinned (OpenSpec.ofChange progMovesWrong)

/-- 'oriellaw17.ProgLeads': WHATEVER THE INPUT: true; the input reads as it did. -/
def progLeadsSpec : ChangeSpec := { name := "progLeads", fn := fun _ => fun
  | [d1, d2] => { results := [.lit (.bool true)], args := [d1, d2] }
  | _ => none }
def progLeadsRow : OpenClaim := { program := "ytmbbjdkcanoklaa", sum := "d91bf55d6ab9b91d4545ce86686d755ac450d75728cf03fbea1e72962ed4f718", func := "oriel/oriellaw17.ProgLeads", spec := "progLeads", recurses := true, loops := true, apart := false }
def ProgLeadsSaid : Prop := progLeadsRow.holds Try.pinned (OpenSpec.ofChange progLeadsSpec)

/-- ITS FALSE NEIGHBOUR: 'it returns false'. Refute it at one input. -/
def progLeadsWrong : ChangeSpec := { name := "progLeads", fn := fun _ => fun
  | [d1, d2] => { results := [.lit (.bool false)], args := [d1, d2] }
  | _ => none }
def ProgLeadsWrongFalsely : Prop := progLeadsRow.holds Try.pinned (OpenSpec.ofChange progLeadsWrong)

/-- 'oriellaw17.ProgKeeps': WHATEVER THE INPUT: true; the input reads as it did. -/
def progKeepsSpec : ChangeSpec := { name := "progKeeps", fn := fun _ => fun
  | [d1, d2] => { results := [.lit (.bool true)], args := [d1, d2] }
  | _ => none }
def progKeepsRow : OpenClaim := { program := "ytmbbjdkcanoklaa", sum := "d91bf55d6ab9b91d4545ce86686d755ac450d75728cf03fbea1e72962ed4f718", func := "oriel/oriellaw17.ProgKeeps", spec := "progKeeps", recurses := true, loops := true, apart := false }
def ProgKeepsSaid : Prop := progKeepsRow.holds Try.pinned (OpenSpec.ofChange progKeepsSpec)

/-- ITS FALSE NEIGHBOUR: 'it returns false'. Refute it at one input. -/
def progKeepsWrong : ChangeSpec := { name := "progKeeps", fn := fun _ => fun
  | [d1, d2] => { results := [.lit (.bool false)], args := [d1, d2] }
  | _ => none }
def ProgKeepsWrongFalsely : Prop := progKeepsRow.holds Try.pinned (OpenSpec.ofChange progKeepsWrong)

/-- 'oriellaw17.ProgShapes': WHATEVER THE INPUT: true; the input reads as it did. -/
def progShapesSpec : ChangeSpec := { name := "progShapes", fn := fun _ => fun
  | [d] => { results := [.lit (.bool true)], args := [d] }
  | _ => none }
def progShapesRow : OpenClaim := { program := "ytmbbjdkcanoklaa", sum := "d91bf55d6ab9b91d4545ce86686d755ac450d75728cf03fbea1e72962ed4f718", func := "oriel/oriellaw17.ProgShapes", spec := "progShapes", recurses := true, loops := true, apart := false }
def ProgShapesSaid : Prop := progShapesRow.holds Try.pinned (OpenSpec.ofChange progShapesSpec)

/-- ITS FALSE NEIGHBOUR: 'it returns false'. Refute it at one input. -/
def progShapesWrong : ChangeSpec := { name := "progShapes", fn := fun _ => fun
  | [d] => { results := [.lit (.bool false)], args := [d] }
  | _ => none }
def ProgShapesWrongFalsely : Prop := progShapesRow.holds Try.pinned (OpenSpec.ofChange progShapesWrong)

/- THE SECOND FORM. 'bulk': how many values and letters a reading holds, each counted each time it is reached (what is shared counts as often as it is met; a slice's spare places count too). A statement '..UptoSaid' is the law's where the arguments, and the package variables that the reading takes, are together of bulk at most 1048576: NARROWER than '..Said'. Prove '..Said' where nothing that the law and all that it calls make is longer than what came in: it says more and counts as full. Else prove '..UptoSaid'. A law counts once. -/
mutual
def uptoBulk {H : Type} : DataW H → Nat
  | .lit (.string bytes) => bytes.length + 1
  | .lit _ => 1
  | .nil => 1
  | .ptr d => uptoBulk d + 1
  | .slice elems spare => uptoBulkAll elems + uptoBulkAll spare + 1
  | .agg parts => uptoBulkAll parts + 1
  | .iface _ d => uptoBulk d + 1
  | .map entries => uptoBulkEntries entries + 1
  | .held _ => 1
def uptoBulkAll {H : Type} : List (DataW H) → Nat
  | [] => 0
  | d :: r => uptoBulk d + uptoBulkAll r
def uptoBulkEntries {H : Type} : List (Lit × DataW H) → Nat
  | [] => 0
  | x :: r => uptoBulkEntry x + uptoBulkEntries r
def uptoBulkEntry {H : Type} : Lit × DataW H → Nat
  | (.string bytes, d) => bytes.length + uptoBulk d + 1
  | (_, d) => uptoBulk d + 1
 end
def uptoSmall : (H : Type) → List (DataW H) → Bool := fun _ ds => decide (uptoBulkAll ds ≤ 1048576)
def OpenSpec.upto (s : _root_.Go.ChangeSpec) : _root_.Go.OpenSpec := { _root_.Go.OpenSpec.ofChange s with cond := some uptoSmall }

/-- 'oriellaw17.ProgCompiles', WHERE WHAT IT READS IS OF BULK AT MOST 1048576: true; the input reads as it did. -/
def progCompilesUptoRow : OpenClaim := { program := "ytmbbjdkcanoklaa", sum := "d91bf55d6ab9b91d4545ce86686d755ac450d75728cf03fbea1e72962ed4f718", func := "oriel/oriellaw17.ProgCompiles", spec := "progCompiles", recurses := true, loops := true, apart := false, narrowed := true }
def ProgCompilesUptoSaid : Prop := progCompilesUptoRow.holds Try.pinned (OpenSpec.upto progCompilesSpec)

/-- 'oriellaw17.ProgMoves', WHERE WHAT IT READS IS OF BULK AT MOST 1048576: true; the input reads as it did. -/
def progMovesUptoRow : OpenClaim := { program := "ytmbbjdkcanoklaa", sum := "d91bf55d6ab9b91d4545ce86686d755ac450d75728cf03fbea1e72962ed4f718", func := "oriel/oriellaw17.ProgMoves", spec := "progMoves", recurses := true, loops := true, apart := false, narrowed := true }
def ProgMovesUptoSaid : Prop := progMovesUptoRow.holds Try.pinned (OpenSpec.upto progMovesSpec)

/-- 'oriellaw17.ProgLeads', WHERE WHAT IT READS IS OF BULK AT MOST 1048576: true; the input reads as it did. -/
def progLeadsUptoRow : OpenClaim := { program := "ytmbbjdkcanoklaa", sum := "d91bf55d6ab9b91d4545ce86686d755ac450d75728cf03fbea1e72962ed4f718", func := "oriel/oriellaw17.ProgLeads", spec := "progLeads", recurses := true, loops := true, apart := false, narrowed := true }
def ProgLeadsUptoSaid : Prop := progLeadsUptoRow.holds Try.pinned (OpenSpec.upto progLeadsSpec)

/-- 'oriellaw17.ProgKeeps', WHERE WHAT IT READS IS OF BULK AT MOST 1048576: true; the input reads as it did. -/
def progKeepsUptoRow : OpenClaim := { program := "ytmbbjdkcanoklaa", sum := "d91bf55d6ab9b91d4545ce86686d755ac450d75728cf03fbea1e72962ed4f718", func := "oriel/oriellaw17.ProgKeeps", spec := "progKeeps", recurses := true, loops := true, apart := false, narrowed := true }
def ProgKeepsUptoSaid : Prop := progKeepsUptoRow.holds Try.pinned (OpenSpec.upto progKeepsSpec)

/-- 'oriellaw17.ProgShapes', WHERE WHAT IT READS IS OF BULK AT MOST 1048576: true; the input reads as it did. -/
def progShapesUptoRow : OpenClaim := { program := "ytmbbjdkcanoklaa", sum := "d91bf55d6ab9b91d4545ce86686d755ac450d75728cf03fbea1e72962ed4f718", func := "oriel/oriellaw17.ProgShapes", spec := "progShapes", recurses := true, loops := true, apart := false, narrowed := true }
def ProgShapesUptoSaid : Prop := progShapesUptoRow.holds Try.pinned (OpenSpec.upto progShapesSpec)

end Rows
end Go.Proofs.Ytmbbjdkcanoklaa
