/-
  NARROWER THAN 'FOR EVERY INPUT', by the rows' own cells (each row's printed sentence says how): KindSteps: loops · KindWholes: loops · KindArrives: loops · KindTells: loops · KindLike: loops.
  DERIVED. THE GIVEN ROWS OF THIS SEAT. 5 by the template 'for every input the law returns true; each argument reads behind the call as it read before'; 0 by the template 'total and deterministic' (their statements: YtkdlhnmidbnpkaaTotals.lean).
  GIVEN WITH THE SEED: the statements are not yours to turn. If you find one false, say at which input.
  Laid BY PROGRAM, IN A SANDBOX (cutbox-rows.mjs): the forced cells as the released guide's own fill.sh prints them over the translation a3d613a2e86ee633… (all of the seat's roots in one cut). By AI agents, Wed Nov 11 2026. No macro, syntax, notation, axiom, sorry.
-/
import Derived.Test.YtkdlhnmidbnpkaaChecked
import GoSem.Claim
import GoSem.ClaimJoined
import GoSem.ClaimMapViews
import Derived.JoinedTies
import Derived.KernelRfl
namespace Go.Proofs.Ytkdlhnmidbnpkaa
/- THE CELL 'sum', in the pinned program and in every row, IS THE sha256 OF THE DUMP (.gsa) THAT YtkdlhnmidbnpkaaProg.lean LOADS. Nothing in Lean hashes anything: it is a label: what it is worth is what the hold of that sum in a sandbox is worth. -/
noncomputable def Try.pinned : Pinned := { name := "ytkdlhnmidbnpkaa", sum := "a3d613a2e86ee6337038e79c8c5f37fcfd668fd17e58254a9fbc2fef1e554d53", checked := Try.checked }
namespace Rows
def none {H : Type} : Left H := { results := [], args := [] }

/-- 'oriellaw20.KindSteps': WHATEVER THE INPUT: true; the input reads as it did. -/
def kindStepsSpec : ChangeSpec := { name := "kindSteps", fn := fun _ => fun
  | [d1, d2, d3, d4, d5] => { results := [.lit (.bool true)], args := [d1, d2, d3, d4, d5] }
  | _ => none }
def kindStepsRow : OpenClaim := { program := "ytkdlhnmidbnpkaa", sum := "a3d613a2e86ee6337038e79c8c5f37fcfd668fd17e58254a9fbc2fef1e554d53", func := "oriel/oriellaw20.KindSteps", spec := "kindSteps", unfollowed := true, recurses := true, loops := true, plainKeys := false, apart := false }
def KindStepsSaid : Prop := kindStepsRow.holds Try.pinned (OpenSpec.ofChange kindStepsSpec)

/-- ITS FALSE NEIGHBOUR: 'it returns false'. Refute it at one input. -/
def kindStepsWrong : ChangeSpec := { name := "kindSteps", fn := fun _ => fun
  | [d1, d2, d3, d4, d5] => { results := [.lit (.bool false)], args := [d1, d2, d3, d4, d5] }
  | _ => none }
def KindStepsWrongFalsely : Prop := kindStepsRow.holds Try.pinned (OpenSpec.ofChange kindStepsWrong)

/-- 'oriellaw20.KindWholes': WHATEVER THE INPUT: true; the input reads as it did. -/
def kindWholesSpec : ChangeSpec := { name := "kindWholes", fn := fun _ => fun
  | [d1, d2] => { results := [.lit (.bool true)], args := [d1, d2] }
  | _ => none }
def kindWholesRow : OpenClaim := { program := "ytkdlhnmidbnpkaa", sum := "a3d613a2e86ee6337038e79c8c5f37fcfd668fd17e58254a9fbc2fef1e554d53", func := "oriel/oriellaw20.KindWholes", spec := "kindWholes", unfollowed := true, recurses := true, loops := true, plainKeys := false, apart := false }
def KindWholesSaid : Prop := kindWholesRow.holds Try.pinned (OpenSpec.ofChange kindWholesSpec)

/-- ITS FALSE NEIGHBOUR: 'it returns false'. Refute it at one input. -/
def kindWholesWrong : ChangeSpec := { name := "kindWholes", fn := fun _ => fun
  | [d1, d2] => { results := [.lit (.bool false)], args := [d1, d2] }
  | _ => none }
def KindWholesWrongFalsely : Prop := kindWholesRow.holds Try.pinned (OpenSpec.ofChange kindWholesWrong)

/-- 'oriellaw20.KindArrives': WHATEVER THE INPUT: true; the input reads as it did. -/
def kindArrivesSpec : ChangeSpec := { name := "kindArrives", fn := fun _ => fun
  | [d1, d2, d3, d4] => { results := [.lit (.bool true)], args := [d1, d2, d3, d4] }
  | _ => none }
def kindArrivesRow : OpenClaim := { program := "ytkdlhnmidbnpkaa", sum := "a3d613a2e86ee6337038e79c8c5f37fcfd668fd17e58254a9fbc2fef1e554d53", func := "oriel/oriellaw20.KindArrives", spec := "kindArrives", unfollowed := true, recurses := true, loops := true, plainKeys := false, apart := false }
def KindArrivesSaid : Prop := kindArrivesRow.holds Try.pinned (OpenSpec.ofChange kindArrivesSpec)

/-- ITS FALSE NEIGHBOUR: 'it returns false'. Refute it at one input. -/
def kindArrivesWrong : ChangeSpec := { name := "kindArrives", fn := fun _ => fun
  | [d1, d2, d3, d4] => { results := [.lit (.bool false)], args := [d1, d2, d3, d4] }
  | _ => none }
def KindArrivesWrongFalsely : Prop := kindArrivesRow.holds Try.pinned (OpenSpec.ofChange kindArrivesWrong)

/-- 'oriellaw20.KindTells': WHATEVER THE INPUT: true; the input reads as it did. -/
def kindTellsSpec : ChangeSpec := { name := "kindTells", fn := fun _ => fun
  | [d1, d2] => { results := [.lit (.bool true)], args := [d1, d2] }
  | _ => none }
def kindTellsRow : OpenClaim := { program := "ytkdlhnmidbnpkaa", sum := "a3d613a2e86ee6337038e79c8c5f37fcfd668fd17e58254a9fbc2fef1e554d53", func := "oriel/oriellaw20.KindTells", spec := "kindTells", unfollowed := true, recurses := true, loops := true, plainKeys := false, apart := false }
def KindTellsSaid : Prop := kindTellsRow.holds Try.pinned (OpenSpec.ofChange kindTellsSpec)

/-- ITS FALSE NEIGHBOUR: 'it returns false'. Refute it at one input. -/
def kindTellsWrong : ChangeSpec := { name := "kindTells", fn := fun _ => fun
  | [d1, d2] => { results := [.lit (.bool false)], args := [d1, d2] }
  | _ => none }
def KindTellsWrongFalsely : Prop := kindTellsRow.holds Try.pinned (OpenSpec.ofChange kindTellsWrong)

/-- 'oriellaw20.KindLike': WHATEVER THE INPUT: true; the input reads as it did. -/
def kindLikeSpec : ChangeSpec := { name := "kindLike", fn := fun _ => fun
  | [d1, d2, d3, d4, d5, d6] => { results := [.lit (.bool true)], args := [d1, d2, d3, d4, d5, d6] }
  | _ => none }
def kindLikeRow : OpenClaim := { program := "ytkdlhnmidbnpkaa", sum := "a3d613a2e86ee6337038e79c8c5f37fcfd668fd17e58254a9fbc2fef1e554d53", func := "oriel/oriellaw20.KindLike", spec := "kindLike", unfollowed := true, recurses := true, loops := true, plainKeys := false, apart := false }
def KindLikeSaid : Prop := kindLikeRow.holds Try.pinned (OpenSpec.ofChange kindLikeSpec)

/-- ITS FALSE NEIGHBOUR: 'it returns false'. Refute it at one input. -/
def kindLikeWrong : ChangeSpec := { name := "kindLike", fn := fun _ => fun
  | [d1, d2, d3, d4, d5, d6] => { results := [.lit (.bool false)], args := [d1, d2, d3, d4, d5, d6] }
  | _ => none }
def KindLikeWrongFalsely : Prop := kindLikeRow.holds Try.pinned (OpenSpec.ofChange kindLikeWrong)

/- THE SECOND FORM. 'bulk': how many values and letters a reading holds, each counted each time it is reached (what is shared counts as often as it is met; a slice's spare places count too). A statement '..UptoSaid' is the law's where the arguments, and the package variables that the reading takes, are together of bulk at most 1048576: NARROWER than '..Said'. Prove '..Said' where nothing that the law and all that it calls make is longer than what came in: it says more and counts as full. Else prove '..UptoSaid'. A law counts once. -/
mutual
def uptoBulk {H : Type} : DataW H → Nat
  | .lit (.string bytes) => bytes.length + 1
  | .lit _ => 1
  | .nil => 1
  | .ptr d => uptoBulk d + 1
  | .slice elems spare => uptoBulkAll elems + uptoBulkAll spare + 1
  | .agg parts => uptoBulkAll parts + 1
  | .iface _ d => uptoBulk d + 1
  | .map entries => uptoBulkEntries entries + 1
  | .held _ => 1
def uptoBulkAll {H : Type} : List (DataW H) → Nat
  | [] => 0
  | d :: r => uptoBulk d + uptoBulkAll r
def uptoBulkEntries {H : Type} : List (Lit × DataW H) → Nat
  | [] => 0
  | x :: r => uptoBulkEntry x + uptoBulkEntries r
def uptoBulkEntry {H : Type} : Lit × DataW H → Nat
  | (.string bytes, d) => bytes.length + uptoBulk d + 1
  | (_, d) => uptoBulk d + 1
 end
def uptoSmall : (H : Type) → List (DataW H) → Bool := fun _ ds => decide (uptoBulkAll ds ≤ 1048576)
def OpenSpec.upto (s : _root_.Go.ChangeSpec) : _root_.Go.OpenSpec := { _root_.Go.OpenSpec.ofChange s with cond := some uptoSmall }

/-- 'oriellaw20.KindSteps', WHERE WHAT IT READS IS OF BULK AT MOST 1048576: true; the input reads as it did. -/
def kindStepsUptoRow : OpenClaim := { program := "ytkdlhnmidbnpkaa", sum := "a3d613a2e86ee6337038e79c8c5f37fcfd668fd17e58254a9fbc2fef1e554d53", func := "oriel/oriellaw20.KindSteps", spec := "kindSteps", unfollowed := true, recurses := true, loops := true, plainKeys := false, apart := false, narrowed := true }
def KindStepsUptoSaid : Prop := kindStepsUptoRow.holds Try.pinned (OpenSpec.upto kindStepsSpec)

/-- 'oriellaw20.KindWholes', WHERE WHAT IT READS IS OF BULK AT MOST 1048576: true; the input reads as it did. -/
def kindWholesUptoRow : OpenClaim := { program := "ytkdlhnmidbnpkaa", sum := "a3d613a2e86ee6337038e79c8c5f37fcfd668fd17e58254a9fbc2fef1e554d53", func := "oriel/oriellaw20.KindWholes", spec := "kindWholes", unfollowed := true, recurses := true, loops := true, plainKeys := false, apart := false, narrowed := true }
def KindWholesUptoSaid : Prop := kindWholesUptoRow.holds Try.pinned (OpenSpec.upto kindWholesSpec)

/-- 'oriellaw20.KindArrives', WHERE WHAT IT READS IS OF BULK AT MOST 1048576: true; the input reads as it did. -/
def kindArrivesUptoRow : OpenClaim := { program := "ytkdlhnmidbnpkaa", sum := "a3d613a2e86ee6337038e79c8c5f37fcfd668fd17e58254a9fbc2fef1e554d53", func := "oriel/oriellaw20.KindArrives", spec := "kindArrives", unfollowed := true, recurses := true, loops := true, plainKeys := false, apart := false, narrowed := true }
def KindArrivesUptoSaid : Prop := kindArrivesUptoRow.holds Try.pinned (OpenSpec.upto kindArrivesSpec)

/-- 'oriellaw20.KindTells', WHERE WHAT IT READS IS OF BULK AT MOST 1048576: true; the input reads as it did. -/
def kindTellsUptoRow : OpenClaim := { program := "ytkdlhnmidbnpkaa", sum := "a3d613a2e86ee6337038e79c8c5f37fcfd668fd17e58254a9fbc2fef1e554d53", func := "oriel/oriellaw20.KindTells", spec := "kindTells", unfollowed := true, recurses := true, loops := true, plainKeys := false, apart := false, narrowed := true }
def KindTellsUptoSaid : Prop := kindTellsUptoRow.holds Try.pinned (OpenSpec.upto kindTellsSpec)

/-- 'oriellaw20.KindLike', WHERE WHAT IT READS IS OF BULK AT MOST 1048576: true; the input reads as it did. -/
def kindLikeUptoRow : OpenClaim := { program := "ytkdlhnmidbnpkaa", sum := "a3d613a2e86ee6337038e79c8c5f37fcfd668fd17e58254a9fbc2fef1e554d53", func := "oriel/oriellaw20.KindLike", spec := "kindLike", unfollowed := true, recurses := true, loops := true, plainKeys := false, apart := false, narrowed := true }
def KindLikeUptoSaid : Prop := kindLikeUptoRow.holds Try.pinned (OpenSpec.upto kindLikeSpec)

end Rows
end Go.Proofs.Ytkdlhnmidbnpkaa
