/- Given functions. -/
import Derived.Shelf.Strings.Builder1
import Derived.Shelf.Strings.Builder2
import Derived.Shelf.Strings.OnBuilder
import Derived.Shelf.Utf8.RuneCount
import Derived.Shelf.Strings.Search1
import Derived.Shelf.Strings.Search2
import Derived.Shelf.Strings.Search3
import Derived.Shelf.Strings.Count
import Derived.Shelf.LaysM
import Derived.Shelf.Strings.Shaped
import Derived.Shelf.Strings.Split
import Derived.Shelf.Strings.Replace
import Derived.Shelf.Strings.SplitShaped
import Derived.Shelf.Unicode.Decode
import Derived.Shelf.Strings.RuneCount
import Derived.Shelf.Unicode.DecodeSlow
import Derived.Shelf.Unicode.DecodeAny
import Derived.Test.YtljhnhodcgilaaaDoorProg
import Derived.Test.YtljhnhodcgilaaaDoorVmThree
/-
  DERIVED: THE SHELF's CONTRACTS AT THIS DUMP, IN PLAIN WORDS (tools/lay-plain.mjs out of 'TrydShelf.lean', which tools/lay-shelf.mjs wrote): THE SAME DECLARATIONS UNDER THE SAME NAMES: 'import', 'namespace', 'open', 'def', 'theorem' AND NOTHING ELSE: no command of the shelf's: FOR A HAND-IN. Each laying: the table of numbers ('.._ren') and one theorem, a field a fact of the dump's own or the kernel's comparison; each contract: ONE APPLICATION.
-/
namespace Go.Proofs
open Go.Shelf
def Tryd.lays156_ren : Go.Shelf.Ren := ⟨fun | 156 => 28 | 165 => 35 | 166 => 36 | 169 => 37 | 240 => 44 | 241 => 45 | 276 => 53 | 277 => 54 | n => n, fun | 31 => 43 | 9 => 9 | 3 => 3 | 4 => 4 | 0 => 0 | 20 => 20 | 72 => 62 | 76 => 66 | 70 => 59 | 37 => 60 | 75 => 65 | 127 => 76 | 164 => 82 | 5 => 5 | 80 => 68 | n => n, fun | n => n⟩
theorem Tryd.lays156 : Go.Proofs.Lays.n156 Tryd.prog Tryd.lays156_ren := {
  mixed := by kernel_rfl
  f156 := Tryd.func28.trans (congrArg some (by kernel_rfl))
  f165 := Tryd.func35.trans (congrArg some (by kernel_rfl))
  f166 := Tryd.func36.trans (congrArg some (by kernel_rfl))
  f169 := Tryd.func37.trans (congrArg some (by kernel_rfl))
  f240 := Tryd.func44.trans (congrArg some (by kernel_rfl))
  f241 := Tryd.func45.trans (congrArg some (by kernel_rfl))
  f276 := Tryd.func53.trans (congrArg some (by kernel_rfl))
  f277 := Tryd.func54.trans (congrArg some (by kernel_rfl))
  t0 := Tryd.underlying0
  a0 := Tryd.isAgg0
  z0 := Tryd.sizeOf0
  v0 := Tryd.zeroValue0
  t3 := Tryd.underlying3
  a3 := Tryd.isAgg3
  z3 := Tryd.sizeOf3
  v3 := Tryd.zeroValue3
  t4 := Tryd.underlying4
  a4 := Tryd.isAgg4
  z4 := Tryd.sizeOf4
  v4 := Tryd.zeroValue4
  t9 := Tryd.underlying9
  a9 := Tryd.isAgg9
  z9 := Tryd.sizeOf9
  v9 := Tryd.zeroValue9
  t20 := Tryd.underlying20
  a20 := Tryd.isAgg20
  z20 := Tryd.sizeOf20
  v20 := Tryd.zeroValue20
  t31 := Tryd.underlying43
  a31 := Tryd.isAgg43
  z31 := Tryd.sizeOf43
  v31 := Tryd.zeroValue43
  t37 := Tryd.underlying60
  a37 := Tryd.isAgg60
  z37 := Tryd.sizeOf60
  v37 := Tryd.zeroValue60
  t70 := Tryd.underlying59
  a70 := Tryd.isAgg59
  z70 := Tryd.sizeOf59
  v70 := Tryd.zeroValue59
  t72 := Tryd.underlying62
  a72 := Tryd.isAgg62
  z72 := Tryd.sizeOf62
  v72 := Tryd.zeroValue62
  t75 := Tryd.underlying65
  a75 := Tryd.isAgg65
  z75 := Tryd.sizeOf65
  v75 := Tryd.zeroValue65
  t76 := Tryd.underlying66
  a76 := Tryd.isAgg66
  z76 := Tryd.sizeOf66
  v76 := Tryd.zeroValue66
  t127 := Tryd.underlying76
  a127 := Tryd.isAgg76
  z127 := Tryd.sizeOf76
  v127 := Tryd.zeroValue76
  t164 := Tryd.underlying82
  a164 := Tryd.isAgg82
  z164 := Tryd.sizeOf82
  v164 := Tryd.zeroValue82 }
theorem Tryd.Builder_Extra_156 : Builder.Extra Tryd.prog Tryd.lays156_ren := {
  sizeBuilder := by kernel_rfl
  liesBuilder := by kernel_rfl
  t5 := Tryd.underlying5
  a5 := Tryd.isAgg5
  z5 := Tryd.sizeOf5
  v5 := Tryd.zeroValue5
  infoByte := by kernel_rfl
  cellsByte := by kernel_rfl
  sizeByte := by kernel_rfl
  neB5 := by decide }
open Go.RowKit in
/-- No element: the empty string; the world is as it was. (Whatever the slice's address and capacity: a nil slice too.) (LAID: no walk: one application.) -/
theorem Tryd.strings_Join_none (a : Option Addr) (c : Nat) (sep : ByteArray) (w : World) :
    Calls Tryd.prog 28 #[.slice a 0 c, .string sep] w fun e w' => e = .returned (.string ⟨#[]⟩) ∧ w' = w := Any.strings_Join_none Tryd.lays156 Tryd.Builder_Extra_156 a c sep w
open Go.RowKit in
/-- strings.Join: "Join concatenates the elements of its first argument to create a single string. The separator string sep is placed between elements in the resulting string.": HOWEVER MANY ELEMENTS. Below the heap's end the world is as it was. (LAID: no walk: one application.) -/
theorem Tryd.strings_Join (bk o c : Nat) (xs : List ByteArray) (sep : ByteArray) (w : World) (hcells : ∀ (j : Nat) x, xs[j]? = some x → w.cell? ⟨bk, o + j, none⟩ = some (.string x)) (hbk : bk < w.heap.size) (hN : xs.length ≤ 140737488355328) (hcap : xs.length ≤ c) (hlen : (Lib.join (xs.map (·.data.toList)) sep.data.toList).length ≤ 140737488355328) :
    Calls Tryd.prog 28 #[.slice (some ⟨bk, o, none⟩) xs.length c, .string sep] w fun e w' => e = .returned (.string ⟨(Lib.join (xs.map (·.data.toList)) sep.data.toList).toArray⟩) ∧ Below w.heap.size w w' := Any.strings_Join Tryd.lays156 Tryd.Builder_Extra_156 bk o c xs sep w hcells hbk hN hcap hlen
def Tryd.lays155_ren : Go.Shelf.Ren := ⟨fun | 155 => 33 | 154 => 42 | 138 => 50 | 165 => 35 | 143 => 51 | 166 => 36 | 197 => 52 | 169 => 37 | 195 => 59 | 218 => 60 | 240 => 44 | 241 => 45 | 219 => 61 | 260 => 62 | 276 => 53 | 277 => 54 | 217 => 63 | 225 => 64 | 224 => 65 | 267 => 66 | 266 => 67 | 314 => 68 | n => n, fun | 9 => 9 | 3 => 3 | 4 => 4 | 72 => 62 | 0 => 0 | 76 => 66 | 105 => 80 | 21 => 21 | 5 => 5 | 70 => 59 | 20 => 20 | 37 => 60 | 75 => 65 | 127 => 76 | 164 => 82 | 46 => 91 | 119 => 92 | 139 => 95 | 138 => 94 | 146 => 97 | 51 => 96 | 80 => 68 | n => n, fun | 1 => 0 | 3 => 1 | 4 => 2 | n => n⟩
theorem Tryd.lays155 : Go.Proofs.Lays.n155 Tryd.prog Tryd.lays155_ren := {
  mixed := by kernel_rfl
  f138 := Tryd.func50.trans (congrArg some (by kernel_rfl))
  f143 := Tryd.func51.trans (congrArg some (by kernel_rfl))
  f154 := Tryd.func42.trans (congrArg some (by kernel_rfl))
  f155 := Tryd.func33.trans (congrArg some (by kernel_rfl))
  f165 := Tryd.func35.trans (congrArg some (by kernel_rfl))
  f166 := Tryd.func36.trans (congrArg some (by kernel_rfl))
  f169 := Tryd.func37.trans (congrArg some (by kernel_rfl))
  f195 := Tryd.func59.trans (congrArg some (by kernel_rfl))
  f197 := Tryd.func52.trans (congrArg some (by kernel_rfl))
  f217 := Tryd.func63.trans (congrArg some (by kernel_rfl))
  f218 := Tryd.func60.trans (congrArg some (by kernel_rfl))
  f219 := Tryd.func61.trans (congrArg some (by kernel_rfl))
  f224 := Tryd.func65.trans (congrArg some (by kernel_rfl))
  f225 := Tryd.func64.trans (congrArg some (by kernel_rfl))
  f240 := Tryd.func44.trans (congrArg some (by kernel_rfl))
  f241 := Tryd.func45.trans (congrArg some (by kernel_rfl))
  f260 := Tryd.func62.trans (congrArg some (by kernel_rfl))
  f266 := Tryd.func67.trans (congrArg some (by kernel_rfl))
  f267 := Tryd.func66.trans (congrArg some (by kernel_rfl))
  f276 := Tryd.func53.trans (congrArg some (by kernel_rfl))
  f277 := Tryd.func54.trans (congrArg some (by kernel_rfl))
  f314 := Tryd.func68.trans (congrArg some (by kernel_rfl))
  t0 := Tryd.underlying0
  a0 := Tryd.isAgg0
  z0 := Tryd.sizeOf0
  v0 := Tryd.zeroValue0
  t3 := Tryd.underlying3
  a3 := Tryd.isAgg3
  z3 := Tryd.sizeOf3
  v3 := Tryd.zeroValue3
  t4 := Tryd.underlying4
  a4 := Tryd.isAgg4
  z4 := Tryd.sizeOf4
  v4 := Tryd.zeroValue4
  t5 := Tryd.underlying5
  a5 := Tryd.isAgg5
  z5 := Tryd.sizeOf5
  v5 := Tryd.zeroValue5
  t9 := Tryd.underlying9
  a9 := Tryd.isAgg9
  z9 := Tryd.sizeOf9
  v9 := Tryd.zeroValue9
  t20 := Tryd.underlying20
  a20 := Tryd.isAgg20
  z20 := Tryd.sizeOf20
  v20 := Tryd.zeroValue20
  t21 := Tryd.underlying21
  a21 := Tryd.isAgg21
  z21 := Tryd.sizeOf21
  v21 := Tryd.zeroValue21
  t37 := Tryd.underlying60
  a37 := Tryd.isAgg60
  z37 := Tryd.sizeOf60
  v37 := Tryd.zeroValue60
  t46 := Tryd.underlying91
  a46 := Tryd.isAgg91
  z46 := Tryd.sizeOf91
  v46 := Tryd.zeroValue91
  t51 := Tryd.underlying96
  a51 := Tryd.isAgg96
  z51 := Tryd.sizeOf96
  v51 := Tryd.zeroValue96
  t70 := Tryd.underlying59
  a70 := Tryd.isAgg59
  z70 := Tryd.sizeOf59
  v70 := Tryd.zeroValue59
  t72 := Tryd.underlying62
  a72 := Tryd.isAgg62
  z72 := Tryd.sizeOf62
  v72 := Tryd.zeroValue62
  t75 := Tryd.underlying65
  a75 := Tryd.isAgg65
  z75 := Tryd.sizeOf65
  v75 := Tryd.zeroValue65
  t76 := Tryd.underlying66
  a76 := Tryd.isAgg66
  z76 := Tryd.sizeOf66
  v76 := Tryd.zeroValue66
  t105 := Tryd.underlying80
  a105 := Tryd.isAgg80
  z105 := Tryd.sizeOf80
  v105 := Tryd.zeroValue80
  t119 := Tryd.underlying92
  a119 := Tryd.isAgg92
  z119 := Tryd.sizeOf92
  t127 := Tryd.underlying76
  a127 := Tryd.isAgg76
  z127 := Tryd.sizeOf76
  v127 := Tryd.zeroValue76
  t138 := Tryd.underlying94
  a138 := Tryd.isAgg94
  z138 := Tryd.sizeOf94
  v138 := Tryd.zeroValue94
  t139 := Tryd.underlying95
  a139 := Tryd.isAgg95
  z139 := Tryd.sizeOf95
  v139 := Tryd.zeroValue95
  t146 := Tryd.underlying97
  a146 := Tryd.isAgg97
  z146 := Tryd.sizeOf97
  v146 := Tryd.zeroValue97
  t164 := Tryd.underlying82
  a164 := Tryd.isAgg82
  z164 := Tryd.sizeOf82
  v164 := Tryd.zeroValue82
  g1 := by kernel_rfl
  g3 := by kernel_rfl
  g4 := by kernel_rfl }
theorem Tryd.Builder_Extra_155 : Builder.Extra Tryd.prog Tryd.lays155_ren := {
  sizeBuilder := by kernel_rfl
  liesBuilder := by kernel_rfl
  t5 := Tryd.underlying5
  a5 := Tryd.isAgg5
  z5 := Tryd.sizeOf5
  v5 := Tryd.zeroValue5
  infoByte := by kernel_rfl
  cellsByte := by kernel_rfl
  sizeByte := by kernel_rfl
  neB5 := by decide }
open Go.RowKit Go.Lib in
/-- strings.ReplaceAll: "ReplaceAll returns a copy of the string s with all non-overlapping instances of old replaced by new.": AT AN old THAT IS NOT EMPTY: 'Lib.replaceAll s old new'. (LAID: no walk: one application.) -/
theorem Tryd.strings_ReplaceAll (s old new : ByteArray) (m : Int) (w : World) (hs : s.size < 4294967281) (hm : w.cell? ⟨0, 0, none⟩ = some (.int .i64 m)) (h1 : 1 ≤ old.size) (hlen : s.size + Lib.countB s old * new.size ≤ 140737488355328) :
    Calls Tryd.prog 33 #[.string s, .string old, .string new] w fun e w' =>
      e = .returned (.string ⟨(Lib.replaceAll s.data.toList old.data.toList new.data.toList).toArray⟩) ∧ Below w.heap.size w w' := Any.strings_ReplaceAll Tryd.lays155 Tryd.Builder_Extra_155 s old new m w hs hm h1 hlen
def Tryd.laysM155_ren : Go.Shelf.Ren := ⟨fun | 155 => 33 | 154 => 42 | 138 => 50 | 165 => 35 | 143 => 51 | 166 => 36 | 197 => 52 | 169 => 37 | 195 => 59 | 218 => 60 | 240 => 44 | 241 => 45 | 219 => 61 | 260 => 62 | 276 => 53 | 277 => 54 | 217 => 63 | 225 => 64 | 224 => 65 | 267 => 66 | 266 => 67 | 314 => 68 | n => n, fun | 9 => 9 | 3 => 3 | 4 => 4 | 72 => 62 | 0 => 0 | 76 => 66 | 105 => 80 | 21 => 21 | 5 => 5 | 70 => 59 | 20 => 20 | 37 => 60 | 75 => 65 | 127 => 76 | 164 => 82 | 46 => 91 | 119 => 92 | 139 => 95 | 138 => 94 | 146 => 97 | 51 => 96 | 80 => 68 | n => n, fun | 1 => 0 | 3 => 1 | 4 => 2 | n => n⟩
theorem Tryd.laysM155 : Go.Proofs.LaysM.n155 Tryd.prog Tryd.laysM155_ren := {
  mixed := by kernel_rfl
  f138 := Tryd.func50.trans (congrArg some (by kernel_rfl))
  f143 := Tryd.func51.trans (congrArg some (by kernel_rfl))
  f154 := Tryd.func42.trans (congrArg some (by kernel_rfl))
  f155 := Tryd.func33.trans (congrArg some (by kernel_rfl))
  f165 := Tryd.func35.trans (congrArg some (by kernel_rfl))
  f166 := Tryd.func36.trans (congrArg some (by kernel_rfl))
  f169 := Tryd.func37.trans (congrArg some (by kernel_rfl))
  f195 := Tryd.func59.trans (congrArg some (by kernel_rfl))
  f197 := Tryd.func52.trans (congrArg some (by kernel_rfl))
  f217 := Tryd.func63.trans (congrArg some (by kernel_rfl))
  f218 := Tryd.func60.trans (congrArg some (by kernel_rfl))
  f219 := Tryd.func61.trans (congrArg some (by kernel_rfl))
  f224 := Tryd.func65.trans (congrArg some (by kernel_rfl))
  f225 := Tryd.func64.trans (congrArg some (by kernel_rfl))
  f240 := Tryd.func44.trans (congrArg some (by kernel_rfl))
  f241 := Tryd.func45.trans (congrArg some (by kernel_rfl))
  f260 := Tryd.func62.trans (congrArg some (by kernel_rfl))
  f266 := Tryd.func67.trans (congrArg some (by kernel_rfl))
  f267 := Tryd.func66.trans (congrArg some (by kernel_rfl))
  f276 := Tryd.func53.trans (congrArg some (by kernel_rfl))
  f277 := Tryd.func54.trans (congrArg some (by kernel_rfl))
  f314 := Tryd.func68.trans (congrArg some (by kernel_rfl))
  t0 := Tryd.underlying0
  a0 := Tryd.isAgg0
  z0 := Tryd.sizeOf0
  v0 := Tryd.zeroValue0
  t3 := Tryd.underlying3
  a3 := Tryd.isAgg3
  z3 := Tryd.sizeOf3
  v3 := Tryd.zeroValue3
  t4 := Tryd.underlying4
  a4 := Tryd.isAgg4
  z4 := Tryd.sizeOf4
  v4 := Tryd.zeroValue4
  t5 := Tryd.underlying5
  a5 := Tryd.isAgg5
  z5 := Tryd.sizeOf5
  v5 := Tryd.zeroValue5
  t9 := Tryd.underlying9
  a9 := Tryd.isAgg9
  z9 := Tryd.sizeOf9
  v9 := Tryd.zeroValue9
  t20 := Tryd.underlying20
  a20 := Tryd.isAgg20
  z20 := Tryd.sizeOf20
  v20 := Tryd.zeroValue20
  t21 := Tryd.underlying21
  a21 := Tryd.isAgg21
  z21 := Tryd.sizeOf21
  v21 := Tryd.zeroValue21
  t37 := Tryd.underlying60
  a37 := Tryd.isAgg60
  z37 := Tryd.sizeOf60
  v37 := Tryd.zeroValue60
  t46 := Tryd.underlying91
  a46 := Tryd.isAgg91
  z46 := Tryd.sizeOf91
  v46 := Tryd.zeroValue91
  t51 := Tryd.underlying96
  a51 := Tryd.isAgg96
  z51 := Tryd.sizeOf96
  v51 := Tryd.zeroValue96
  t70 := Tryd.underlying59
  a70 := Tryd.isAgg59
  z70 := Tryd.sizeOf59
  v70 := Tryd.zeroValue59
  t72 := Tryd.underlying62
  a72 := Tryd.isAgg62
  z72 := Tryd.sizeOf62
  v72 := Tryd.zeroValue62
  t75 := Tryd.underlying65
  a75 := Tryd.isAgg65
  z75 := Tryd.sizeOf65
  v75 := Tryd.zeroValue65
  t76 := Tryd.underlying66
  a76 := Tryd.isAgg66
  z76 := Tryd.sizeOf66
  v76 := Tryd.zeroValue66
  t105 := Tryd.underlying80
  a105 := Tryd.isAgg80
  z105 := Tryd.sizeOf80
  v105 := Tryd.zeroValue80
  t119 := Tryd.underlying92
  a119 := Tryd.isAgg92
  z119 := Tryd.sizeOf92
  t127 := Tryd.underlying76
  a127 := Tryd.isAgg76
  z127 := Tryd.sizeOf76
  v127 := Tryd.zeroValue76
  t138 := Tryd.underlying94
  a138 := Tryd.isAgg94
  z138 := Tryd.sizeOf94
  v138 := Tryd.zeroValue94
  t139 := Tryd.underlying95
  a139 := Tryd.isAgg95
  z139 := Tryd.sizeOf95
  v139 := Tryd.zeroValue95
  t146 := Tryd.underlying97
  a146 := Tryd.isAgg97
  z146 := Tryd.sizeOf97
  v146 := Tryd.zeroValue97
  t164 := Tryd.underlying82
  a164 := Tryd.isAgg82
  z164 := Tryd.sizeOf82
  v164 := Tryd.zeroValue82
  g1 := by kernel_rfl
  g3 := by kernel_rfl
  g4 := by kernel_rfl
  t80 := Tryd.underlying68
  a80 := Tryd.isAgg68
  z80 := Tryd.sizeOf68
  v80 := Tryd.zeroValue68
  i0 := by kernel_rfl
  i3 := by kernel_rfl
  i4 := by kernel_rfl
  i5 := by kernel_rfl
  i9 := by kernel_rfl
  i20 := by kernel_rfl
  i21 := by kernel_rfl
  i37 := by kernel_rfl
  i46 := by kernel_rfl
  i51 := by kernel_rfl
  i70 := by kernel_rfl
  i72 := by kernel_rfl
  i75 := by kernel_rfl
  i76 := by kernel_rfl
  i80 := by kernel_rfl
  i105 := by kernel_rfl
  i127 := by kernel_rfl
  i138 := by kernel_rfl
  i139 := by kernel_rfl
  i146 := by kernel_rfl
  i164 := by kernel_rfl
  m1 := by kernel_rfl
  s1_3 := fun w h => Go.Proofs.cell_of_shapedOpen_int (zero := #[.int .i64 0]) (t := 3) h (of_decide_eq_true (by kernel_rfl)) (by kernel_rfl) rfl (by kernel_rfl) (by kernel_rfl) Tryd.underlying3
  m3 := by kernel_rfl
  m4 := by kernel_rfl }
theorem Tryd.Builder_Extra_M155 : Builder.Extra Tryd.prog Tryd.laysM155_ren := {
  sizeBuilder := by kernel_rfl
  liesBuilder := by kernel_rfl
  t5 := Tryd.underlying5
  a5 := Tryd.isAgg5
  z5 := Tryd.sizeOf5
  v5 := Tryd.zeroValue5
  infoByte := by kernel_rfl
  cellsByte := by kernel_rfl
  sizeByte := by kernel_rfl
  neB5 := by decide }
open Go.RowKit Go.Lib in
/-- strings.ReplaceAll, old not empty. (LAID: no walk: one application.) -/
theorem Tryd.strings_ReplaceAll_shaped (s old new : ByteArray) (w : World) (h : w.ShapedOpen Tryd.prog) (hs : s.size < 4294967281) (h1 : 1 ≤ old.size) (hlen : s.size + Lib.countB s old * new.size ≤ 140737488355328) :
    Calls Tryd.prog 33 #[.string s, .string old, .string new] w fun e w' =>
      e = .returned (.string ⟨(Lib.replaceAll s.data.toList old.data.toList new.data.toList).toArray⟩) ∧ Below w.heap.size w w' := Any.strings_ReplaceAll_shaped Tryd.laysM155 Tryd.Builder_Extra_M155 s old new w h hs h1 hlen
end Go.Proofs
/- strings.Join and strings.ReplaceAll, as the machine is given them. -/
set_option linter.unusedVariables false
namespace Go.Vm.T
open Go Go.Vm Go.Proofs Go.RowKit
def joinV (l : List (List C)) (sep : ByteArray) : Option ByteArray :=
  cond (decide (l.length ≤ 140737488355328) && decide ((Lib.join (l.map fun r => (gs r 0).data.toList) sep.data.toList).length ≤ 140737488355328)) (some ⟨(Lib.join (l.map fun r => (gs r 0).data.toList) sep.data.toList).toArray⟩) none
def replV (s old new : ByteArray) : Option ByteArray :=
  cond (decide (s.size < 4294967281) && decide (1 ≤ old.size) && decide (s.size + Lib.countB s old * new.size ≤ 140737488355328)) (some ⟨(Lib.replaceAll s.data.toList old.data.toList new.data.toList).toArray⟩) none
theorem below_out {P : Program} {W W' : World} {Z : Addr → Prop} {M : Nat → Prop} {r : ByteArray} (hz : ∀ A, Z A → A.block < W.heap.size) (h : Below W.heap.size W W') : ResOut P W Z M [] ⟨.one (.d (.str r)), []⟩ (.string r) W' Z [] [] := by
  obtain ⟨h1, h2, h3, h4, h5⟩ := h
  exact { res := .of (.one (.d (.str r) .nil)), refs := .nil, nodup := List.nodup_nil, own := (fun g hg => by simp at hg), zz := fun _ h => h, z := fun A hA => .inl hA, zlt := fun A hA => Nat.lt_of_lt_of_le (hz A hA) h4, frame := fun k hk _ => h5 k hk, size := h4, os := h1, tape := h2, output := h3 }
theorem str_arg {P : Program} {W : World} {Z : Addr → Prop} {s : ByteArray} {v : Value} (h : CRep P W Z (.str s) v) : v = .string s := by cases h; rfl
theorem join_ok (a : LL × ByteArray) (v : ByteArray) (h : joinV a.1 a.2 = some v) : CallOK Tryd.prog 28 [.v (.one (.c (C.row 9 a.1))), .v (.one (.c (C.str a.2)))] ⟨.one (.d (.str v)), []⟩ := by
  obtain ⟨l, sep⟩ := a
  unfold joinV at h
  cases hc : (decide (l.length ≤ 140737488355328) && decide ((Lib.join (l.map fun r => (gs r 0).data.toList) sep.data.toList).length ≤ 140737488355328)) with
  | false => simp only [hc, cond_false] at h; cases h
  | true =>
    simp only [hc, cond_true] at h
    cases h
    rw [Bool.and_eq_true, decide_eq_true_eq, decide_eq_true_eq] at hc
    refine ⟨⟨Tryd.f28, _, Tryd.func28, by kernel_rfl, rfl⟩, fun vals W Z M tgs pls hood hargs _ _ hz => ?_⟩
    cases hargs with
    | one h1 h2 =>
      cases h2 with
      | one h3 h4 =>
        cases h4
        rw [str_arg h3]
        have fin : ∀ (e : Ending) (W' : World), (e = .returned (.string ⟨(Lib.join (l.map fun r => (gs r 0).data.toList) sep.data.toList).toArray⟩) ∧ Below W.heap.size W W') → ∃ v Z' p1 p2, e = .returned v ∧ ResOut Tryd.prog W Z M [] ⟨.one (.d (.str ⟨(Lib.join (l.map fun r => (gs r 0).data.toList) sep.data.toList).toArray⟩)), []⟩ v W' Z' p1 p2 := fun e W' ⟨he, hb⟩ => ⟨_, Z, [], [], he, below_out hz hb⟩
        cases h1 with
        | row _ _ ks A c vs hk hcl hm ht hs hA hr =>
          by_cases hl : l = []
          · subst hl
            exact (Tryd.strings_Join_none A c sep W).mono fun e W' ⟨he, hw⟩ => fin e W' ⟨he, hw ▸ Below.refl _ _⟩
          · have hks : ks = [.str] := by
              have := hk hl
              have e2 : kinds Tryd.prog 9 = some [.str] := by kernel_rfl
              rw [e2] at this
              exact (Option.some.inj this).symm
            have hcell9 : Tryd.prog.cellsOf 9 = 1 := by kernel_rfl
            have hrow : ∀ j r, l[j]? = some r → r = [C.str (gs r 0)] := fun j r hj => by
              have := ht r (List.mem_of_getElem? hj)
              rw [hks] at this
              match r, this with
              | [C.str s], _ => rfl
            have hcell : ∀ j r ad, l[j]? = some r → A = some ad → W.cell? (ad.add j) = some (.string (gs r 0)) := fun j r ad hj ha => by
              have e1 := hrow j r hj
              have h0 : r[0]? = some (.str (gs r 0)) := by rw [e1]; rfl
              obtain ⟨_, h5⟩ := hA j r 0 _ ad hj h0 ha
              have h6 := hr j r 0 _ hj h0
              rw [hcell9, Nat.mul_one, Nat.add_zero, str_arg h6] at h5
              exact h5
            obtain ⟨ad, rfl⟩ := Option.isSome_iff_exists.1 (hs hl)
            obtain ⟨r0, hr0⟩ : ∃ r, l[0]? = some r := by cases l with
              | nil => exact absurd rfl hl
              | cons r l => exact ⟨r, rfl⟩
            have hc0 := hcell 0 r0 ad hr0 rfl
            rw [show ad.add 0 = ad from by simp [Addr.add]] at hc0
            have hsp := World.cell?_spot hc0
            have hbk := World.block_lt_of_cell? _ _ hc0
            obtain ⟨bk, o, sp⟩ := ad
            simp only at hsp
            subst hsp
            have key := Tryd.strings_Join bk o c (l.map fun r => gs r 0) sep W (fun j x hj => by
              rw [List.getElem?_map, Option.map_eq_some_iff] at hj
              obtain ⟨r, hj, rfl⟩ := hj
              have := hcell j r _ hj rfl
              rwa [add_lit'] at this) hbk (by simpa using hc.1) (by simpa using hcl) (by simpa [List.map_map, Function.comp_def] using hc.2)
            rw [List.length_map, List.map_map] at key
            exact key.mono fun e W' h => fin e W' h
theorem repl_ok (a : ByteArray × ByteArray × ByteArray) (v : ByteArray) (h : replV a.1 a.2.1 a.2.2 = some v) : CallOK Tryd.prog 33 [.v (.one (.c (C.str a.1))), .v (.one (.c (C.str a.2.1))), .v (.one (.c (C.str a.2.2)))] ⟨.one (.d (.str v)), []⟩ := by
  obtain ⟨s, old, new⟩ := a
  unfold replV at h
  simp only at h
  cases hc : (decide (s.size < 4294967281) && decide (1 ≤ old.size) && decide (s.size + Lib.countB s old * new.size ≤ 140737488355328)) with
  | false => rw [hc] at h; cases h
  | true =>
    rw [hc] at h
    cases h
    simp only [Bool.and_eq_true, decide_eq_true_eq] at hc
    refine ⟨⟨Tryd.f33, _, Tryd.func33, by kernel_rfl, rfl⟩, fun vals W Z M tgs pls hood hargs _ _ hz => ?_⟩
    cases hargs with
    | one h1 h2 =>
      cases h2 with
      | one h3 h4 =>
        cases h4 with
        | one h5 h6 =>
          cases h6
          rw [str_arg h1, str_arg h3, str_arg h5]
          obtain ⟨Ws, hsh, hg⟩ := hood.sh
          obtain ⟨m, hm⟩ := Tryd.laysM155.s1_3 Ws hsh
          have hm' : W.cell? ⟨0, 0, none⟩ = some (.int .i64 m) := by
            have hm : Ws.cell? ⟨0, 0, none⟩ = some (.int .i64 m) := hm
            rw [← hm]
            exact World.cell?_of_block (hg 0 (show 0 < Tryd.prog.globals.size from Nat.lt_of_lt_of_eq (Nat.succ_pos _) (show Nat.succ (Tryd.prog.globals.size - 1) = Tryd.prog.globals.size by kernel_rfl)))
          exact (Tryd.strings_ReplaceAll s old new m W hc.1.1 hm' hc.1.2 hc.2).mono fun e W' ⟨he, hb⟩ => ⟨_, Z, [], [], he, below_out hz hb⟩
end Go.Vm.T
