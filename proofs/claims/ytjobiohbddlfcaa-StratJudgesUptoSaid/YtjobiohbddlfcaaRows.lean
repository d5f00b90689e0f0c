/-
  NARROWER THAN 'FOR EVERY INPUT', by the rows' own cells (each row's printed sentence says how): StratHolds: loops · StratOrder: loops · StratJudges: loops · StratKeeps: loops.
  DERIVED. THE GIVEN ROWS OF THIS SEAT. 4 by the template 'for every input the law returns true; each argument reads behind the call as it read before'; 0 by the template 'total and deterministic' (their statements: YtjobiohbddlfcaaTotals.lean).
  GIVEN WITH THE SEED: the statements are not yours to turn. If you find one false, say at which input.
  Laid BY PROGRAM, IN A SANDBOX (cutbox-rows.mjs): the forced cells as the released guide's own fill.sh prints them over the translation a424fbb0c01af4e0… (all of the seat's roots in one cut). By AI agents, Wed Nov 11 2026. No macro, syntax, notation, axiom, sorry.
-/
import Derived.Test.YtjobiohbddlfcaaChecked
import GoSem.Claim
import GoSem.ClaimJoined
import GoSem.ClaimMapViews
import Derived.JoinedTies
import Derived.KernelRfl
namespace Go.Proofs.Ytjobiohbddlfcaa
/- THE CELL 'sum', in the pinned program and in every row, IS THE sha256 OF THE DUMP (.gsa) THAT YtjobiohbddlfcaaProg.lean LOADS. Nothing in Lean hashes anything: it is a label: what it is worth is what the hold of that sum in a sandbox is worth. -/
noncomputable def Try.pinned : Pinned := { name := "ytjobiohbddlfcaa", sum := "a424fbb0c01af4e00224304b909ba1eb38cfc5d97775d838a3bc8321acbc98fb", checked := Try.checked }
namespace Rows
def none {H : Type} : Left H := { results := [], args := [] }

/-- 'oriellaw18.StratHolds': WHATEVER THE INPUT: true; the input reads as it did. -/
def stratHoldsSpec : ChangeSpec := { name := "stratHolds", fn := fun _ => fun
  | [d1, d2, d3] => { results := [.lit (.bool true)], args := [d1, d2, d3] }
  | _ => none }
def stratHoldsRow : OpenClaim := { program := "ytjobiohbddlfcaa", sum := "a424fbb0c01af4e00224304b909ba1eb38cfc5d97775d838a3bc8321acbc98fb", func := "oriel/oriellaw18.StratHolds", spec := "stratHolds", unfollowed := true, recurses := true, loops := true, apart := false }
def StratHoldsSaid : Prop := stratHoldsRow.holds Try.pinned (OpenSpec.ofChange stratHoldsSpec)

/-- ITS FALSE NEIGHBOUR: 'it returns false'. Refute it at one input. -/
def stratHoldsWrong : ChangeSpec := { name := "stratHolds", fn := fun _ => fun
  | [d1, d2, d3] => { results := [.lit (.bool false)], args := [d1, d2, d3] }
  | _ => none }
def StratHoldsWrongFalsely : Prop := stratHoldsRow.holds Try.pinned (OpenSpec.ofChange stratHoldsWrong)

/-- 'oriellaw18.StratOrder': WHATEVER THE INPUT: true; the input reads as it did. -/
def stratOrderSpec : ChangeSpec := { name := "stratOrder", fn := fun _ => fun
  | [d] => { results := [.lit (.bool true)], args := [d] }
  | _ => none }
def stratOrderRow : OpenClaim := { program := "ytjobiohbddlfcaa", sum := "a424fbb0c01af4e00224304b909ba1eb38cfc5d97775d838a3bc8321acbc98fb", func := "oriel/oriellaw18.StratOrder", spec := "stratOrder", unfollowed := true, recurses := true, loops := true, apart := false }
def StratOrderSaid : Prop := stratOrderRow.holds Try.pinned (OpenSpec.ofChange stratOrderSpec)

/-- ITS FALSE NEIGHBOUR: 'it returns false'. Refute it at one input. -/
def stratOrderWrong : ChangeSpec := { name := "stratOrder", fn := fun _ => fun
  | [d] => { results := [.lit (.bool false)], args := [d] }
  | _ => none }
def StratOrderWrongFalsely : Prop := stratOrderRow.holds Try.pinned (OpenSpec.ofChange stratOrderWrong)

/-- 'oriellaw18.StratJudges': WHATEVER THE INPUT: true; the input reads as it did. -/
def stratJudgesSpec : ChangeSpec := { name := "stratJudges", fn := fun _ => fun
  | [d1, d2, d3] => { results := [.lit (.bool true)], args := [d1, d2, d3] }
  | _ => none }
def stratJudgesRow : OpenClaim := { program := "ytjobiohbddlfcaa", sum := "a424fbb0c01af4e00224304b909ba1eb38cfc5d97775d838a3bc8321acbc98fb", func := "oriel/oriellaw18.StratJudges", spec := "stratJudges", unfollowed := true, recurses := true, loops := true, apart := false }
def StratJudgesSaid : Prop := stratJudgesRow.holds Try.pinned (OpenSpec.ofChange stratJudgesSpec)

/-- ITS FALSE NEIGHBOUR: 'it returns false'. Refute it at one input. -/
def stratJudgesWrong : ChangeSpec := { name := "stratJudges", fn := fun _ => fun
  | [d1, d2, d3] => { results := [.lit (.bool false)], args := [d1, d2, d3] }
  | _ => none }
def StratJudgesWrongFalsely : Prop := stratJudgesRow.holds Try.pinned (OpenSpec.ofChange stratJudgesWrong)

/-- 'oriellaw18.StratKeeps': WHATEVER THE INPUT: true; the input reads as it did. -/
def stratKeepsSpec : ChangeSpec := { name := "stratKeeps", fn := fun _ => fun
  | [d] => { results := [.lit (.bool true)], args := [d] }
  | _ => none }
def stratKeepsRow : OpenClaim := { program := "ytjobiohbddlfcaa", sum := "a424fbb0c01af4e00224304b909ba1eb38cfc5d97775d838a3bc8321acbc98fb", func := "oriel/oriellaw18.StratKeeps", spec := "stratKeeps", unfollowed := true, recurses := true, loops := true, apart := false }
def StratKeepsSaid : Prop := stratKeepsRow.holds Try.pinned (OpenSpec.ofChange stratKeepsSpec)

/-- ITS FALSE NEIGHBOUR: 'it returns false'. Refute it at one input. -/
def stratKeepsWrong : ChangeSpec := { name := "stratKeeps", fn := fun _ => fun
  | [d] => { results := [.lit (.bool false)], args := [d] }
  | _ => none }
def StratKeepsWrongFalsely : Prop := stratKeepsRow.holds Try.pinned (OpenSpec.ofChange stratKeepsWrong)

/- THE SECOND FORM. 'bulk': how many values and letters a reading holds, each counted each time it is reached (what is shared counts as often as it is met; a slice's spare places count too). A statement '..UptoSaid' is the law's where the arguments, and the package variables that the reading takes, are together of bulk at most 1048576: NARROWER than '..Said'. Prove '..Said' where nothing that the law and all that it calls make is longer than what came in: it says more and counts as full. Else prove '..UptoSaid'. A law counts once. -/
mutual
def uptoBulk {H : Type} : DataW H → Nat
  | .lit (.string bytes) => bytes.length + 1
  | .lit _ => 1
  | .nil => 1
  | .ptr d => uptoBulk d + 1
  | .slice elems spare => uptoBulkAll elems + uptoBulkAll spare + 1
  | .agg parts => uptoBulkAll parts + 1
  | .iface _ d => uptoBulk d + 1
  | .map entries => uptoBulkEntries entries + 1
  | .held _ => 1
def uptoBulkAll {H : Type} : List (DataW H) → Nat
  | [] => 0
  | d :: r => uptoBulk d + uptoBulkAll r
def uptoBulkEntries {H : Type} : List (Lit × DataW H) → Nat
  | [] => 0
  | x :: r => uptoBulkEntry x + uptoBulkEntries r
def uptoBulkEntry {H : Type} : Lit × DataW H → Nat
  | (.string bytes, d) => bytes.length + uptoBulk d + 1
  | (_, d) => uptoBulk d + 1
 end
def uptoSmall : (H : Type) → List (DataW H) → Bool := fun _ ds => decide (uptoBulkAll ds ≤ 1048576)
def OpenSpec.upto (s : _root_.Go.ChangeSpec) : _root_.Go.OpenSpec := { _root_.Go.OpenSpec.ofChange s with cond := some uptoSmall }

/-- 'oriellaw18.StratHolds', WHERE WHAT IT READS IS OF BULK AT MOST 1048576: true; the input reads as it did. -/
def stratHoldsUptoRow : OpenClaim := { program := "ytjobiohbddlfcaa", sum := "a424fbb0c01af4e00224304b909ba1eb38cfc5d97775d838a3bc8321acbc98fb", func := "oriel/oriellaw18.StratHolds", spec := "stratHolds", unfollowed := true, recurses := true, loops := true, apart := false, narrowed := true }
def StratHoldsUptoSaid : Prop := stratHoldsUptoRow.holds Try.pinned (OpenSpec.upto stratHoldsSpec)

/-- 'oriellaw18.StratOrder', WHERE WHAT IT READS IS OF BULK AT MOST 1048576: true; the input reads as it did. -/
def stratOrderUptoRow : OpenClaim := { program := "ytjobiohbddlfcaa", sum := "a424fbb0c01af4e00224304b909ba1eb38cfc5d97775d838a3bc8321acbc98fb", func := "oriel/oriellaw18.StratOrder", spec := "stratOrder", unfollowed := true, recurses := true, loops := true, apart := false, narrowed := true }
def StratOrderUptoSaid : Prop := stratOrderUptoRow.holds Try.pinned (OpenSpec.upto stratOrderSpec)

/-- 'oriellaw18.StratJudges', WHERE WHAT IT READS IS OF BULK AT MOST 1048576: true; the input reads as it did. -/
def stratJudgesUptoRow : OpenClaim := { program := "ytjobiohbddlfcaa", sum := "a424fbb0c01af4e00224304b909ba1eb38cfc5d97775d838a3bc8321acbc98fb", func := "oriel/oriellaw18.StratJudges", spec := "stratJudges", unfollowed := true, recurses := true, loops := true, apart := false, narrowed := true }
def StratJudgesUptoSaid : Prop := stratJudgesUptoRow.holds Try.pinned (OpenSpec.upto stratJudgesSpec)

/-- 'oriellaw18.StratKeeps', WHERE WHAT IT READS IS OF BULK AT MOST 1048576: true; the input reads as it did. -/
def stratKeepsUptoRow : OpenClaim := { program := "ytjobiohbddlfcaa", sum := "a424fbb0c01af4e00224304b909ba1eb38cfc5d97775d838a3bc8321acbc98fb", func := "oriel/oriellaw18.StratKeeps", spec := "stratKeeps", unfollowed := true, recurses := true, loops := true, apart := false, narrowed := true }
def StratKeepsUptoSaid : Prop := stratKeepsUptoRow.holds Try.pinned (OpenSpec.upto stratKeepsSpec)

end Rows
end Go.Proofs.Ytjobiohbddlfcaa
