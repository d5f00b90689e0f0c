/- Given functions. -/
import Derived.Shelf.Strings.Builder1
import Derived.Shelf.Strings.Builder2
import Derived.Shelf.Strings.Trim
import Derived.Shelf.Small.Utf8
import Derived.Shelf.Small.Strs
import Derived.Shelf.Small.Wraps
import Derived.Shelf.Strings.BuilderF
import Derived.Shelf.Strings.BuilderK
import Derived.Shelf.Utf8.RuneCount
import Derived.Shelf.Strings.Builder2Cap
import Derived.Shelf.Strings.Search1
import Derived.Shelf.Strings.Search2
import Derived.Shelf.Strings.Search3
import Derived.Shelf.Strings.Cut
import Derived.Shelf.Strings.Count
import Derived.Shelf.LaysM
import Derived.Shelf.Strings.Shaped
import Derived.Shelf.Strings.Prefix
import Derived.Shelf.Strings.Split
import Derived.Shelf.Strings.Replace
import Derived.Shelf.Strings.SplitShaped
import Derived.Shelf.Unicode.Decode
import Derived.Shelf.Strings.Runes
import Derived.Shelf.Strings.RuneCount
import Derived.Shelf.Strings.IndexAny
import Derived.Shelf.Strings.AsciiSet
import Derived.Shelf.Strings.IndexAnyAll
import Derived.Shelf.Unicode.DecodeSlow
import Derived.Shelf.Unicode.DecodeAny
import Derived.Shelf.Strings.BuilderCap
import Derived.Test.YtmolhfmiihignaaDoorProg
import Derived.Test.YtmolhfmiihignaaDoorVmThree
import Derived.Lib.RuneCountTail
import Derived.Laws.Runes
import Derived.Deep.LoopGhost
import Derived.Shelf.Strings.SlTrimAscii
import Derived.WalkSmall
/-
  DERIVED: THE SHELF's CONTRACTS AT THIS DUMP, IN PLAIN WORDS (tools/lay-plain.mjs out of 'TrydShelf.lean', which tools/lay-shelf.mjs wrote): THE SAME DECLARATIONS UNDER THE SAME NAMES: 'import', 'namespace', 'open', 'def', 'theorem' AND NOTHING ELSE: no command of the shelf's: FOR A HAND-IN. Each laying: the table of numbers ('.._ren') and one theorem, a field a fact of the dump's own or the kernel's comparison; each contract: ONE APPLICATION.
-/
namespace Go.Proofs
open Go.Shelf
def Tryd.lays161_ren : Go.Shelf.Ren := ⟨fun | 161 => 12 | 231 => 23 | 227 => 24 | 233 => 25 | 235 => 26 | 228 => 39 | 197 => 40 | 151 => 41 | 260 => 53 | 152 => 46 | 137 => 55 | 119 => 56 | 224 => 57 | 225 => 58 | 217 => 59 | 266 => 65 | n => n, fun | 9 => 9 | 4 => 4 | 3 => 3 | 5 => 5 | 117 => 55 | 116 => 54 | 0 => 0 | 124 => 58 | 105 => 70 | 21 => 21 | 119 => 92 | 46 => 66 | 139 => 95 | 138 => 94 | n => n, fun | 3 => 1 | 4 => 2 | n => n⟩
theorem Tryd.lays161 : Go.Proofs.Lays.n161 Tryd.prog Tryd.lays161_ren := {
  mixed := by kernel_rfl
  f119 := Tryd.func56.trans (congrArg some (by kernel_rfl))
  f137 := Tryd.func55.trans (congrArg some (by kernel_rfl))
  f151 := Tryd.func41.trans (congrArg some (by kernel_rfl))
  f152 := Tryd.func46.trans (congrArg some (by kernel_rfl))
  f161 := Tryd.func12.trans (congrArg some (by kernel_rfl))
  f197 := Tryd.func40.trans (congrArg some (by kernel_rfl))
  f217 := Tryd.func59.trans (congrArg some (by kernel_rfl))
  f224 := Tryd.func57.trans (congrArg some (by kernel_rfl))
  f225 := Tryd.func58.trans (congrArg some (by kernel_rfl))
  f227 := Tryd.func24.trans (congrArg some (by kernel_rfl))
  f228 := Tryd.func39.trans (congrArg some (by kernel_rfl))
  f231 := Tryd.func23.trans (congrArg some (by kernel_rfl))
  f233 := Tryd.func25.trans (congrArg some (by kernel_rfl))
  f235 := Tryd.func26.trans (congrArg some (by kernel_rfl))
  f260 := Tryd.func53.trans (congrArg some (by kernel_rfl))
  f266 := Tryd.func65.trans (congrArg some (by kernel_rfl))
  t0 := Tryd.underlying0
  a0 := Tryd.isAgg0
  z0 := Tryd.sizeOf0
  v0 := Tryd.zeroValue0
  t3 := Tryd.underlying3
  a3 := Tryd.isAgg3
  z3 := Tryd.sizeOf3
  v3 := Tryd.zeroValue3
  t4 := Tryd.underlying4
  a4 := Tryd.isAgg4
  z4 := Tryd.sizeOf4
  v4 := Tryd.zeroValue4
  t5 := Tryd.underlying5
  a5 := Tryd.isAgg5
  z5 := Tryd.sizeOf5
  v5 := Tryd.zeroValue5
  t9 := Tryd.underlying9
  a9 := Tryd.isAgg9
  z9 := Tryd.sizeOf9
  v9 := Tryd.zeroValue9
  t21 := Tryd.underlying21
  a21 := Tryd.isAgg21
  z21 := Tryd.sizeOf21
  v21 := Tryd.zeroValue21
  t46 := Tryd.underlying66
  a46 := Tryd.isAgg66
  z46 := Tryd.sizeOf66
  v46 := Tryd.zeroValue66
  t105 := Tryd.underlying70
  a105 := Tryd.isAgg70
  z105 := Tryd.sizeOf70
  v105 := Tryd.zeroValue70
  t116 := Tryd.underlying54
  a116 := Tryd.isAgg54
  z116 := Tryd.sizeOf54
  t117 := Tryd.underlying55
  a117 := Tryd.isAgg55
  z117 := Tryd.sizeOf55
  v117 := Tryd.zeroValue55
  t119 := Tryd.underlying92
  a119 := Tryd.isAgg92
  z119 := Tryd.sizeOf92
  t124 := Tryd.underlying58
  a124 := Tryd.isAgg58
  z124 := Tryd.sizeOf58
  v124 := Tryd.zeroValue58
  t138 := Tryd.underlying94
  a138 := Tryd.isAgg94
  z138 := Tryd.sizeOf94
  v138 := Tryd.zeroValue94
  t139 := Tryd.underlying95
  a139 := Tryd.isAgg95
  z139 := Tryd.sizeOf95
  v139 := Tryd.zeroValue95
  g3 := by kernel_rfl
  g4 := by kernel_rfl }
def Tryd.lays217_ren : Go.Shelf.Ren := ⟨fun | 217 => 59 | 266 => 65 | n => n, fun | 9 => 9 | 5 => 5 | 3 => 3 | n => n, fun | n => n⟩
theorem Tryd.lays217 : Go.Proofs.Lays.n217 Tryd.prog Tryd.lays217_ren := {
  mixed := by kernel_rfl
  f217 := Tryd.func59.trans (congrArg some (by kernel_rfl))
  f266 := Tryd.func65.trans (congrArg some (by kernel_rfl))
  t3 := Tryd.underlying3
  a3 := Tryd.isAgg3
  z3 := Tryd.sizeOf3
  v3 := Tryd.zeroValue3
  t5 := Tryd.underlying5
  a5 := Tryd.isAgg5
  z5 := Tryd.sizeOf5
  v5 := Tryd.zeroValue5
  t9 := Tryd.underlying9
  a9 := Tryd.isAgg9
  z9 := Tryd.sizeOf9
  v9 := Tryd.zeroValue9 }
open Go.RowKit Go.Lib in
/-- internal/stringslite.IndexByte (what strings.IndexByte calls): IT RETURNS 'Lib.indexByte s c'; the world is as it was. (LAID: no walk: one application.) -/
theorem Tryd.stringslite_IndexByte (s : ByteArray) (c : Int) (w : World) :
    Calls Tryd.prog 59 #[.string s, .int .u8 c] w fun e w' => e = .returned (.int .i64 (Lib.indexByte s.data.toList c.toNat.toUInt8)) ∧ w' = w := Any.stringslite_IndexByte Tryd.lays217 s c w
def Tryd.lays144_ren : Go.Shelf.Ren := ⟨fun | 144 => 18 | 143 => 35 | 219 => 48 | 217 => 59 | 225 => 58 | 224 => 57 | 267 => 60 | 266 => 65 | 314 => 66 | n => n, fun | 9 => 9 | 4 => 4 | 3 => 3 | 5 => 5 | 46 => 66 | 146 => 97 | 51 => 96 | n => n, fun | 1 => 0 | n => n⟩
theorem Tryd.lays144 : Go.Proofs.Lays.n144 Tryd.prog Tryd.lays144_ren := {
  mixed := by kernel_rfl
  f143 := Tryd.func35.trans (congrArg some (by kernel_rfl))
  f144 := Tryd.func18.trans (congrArg some (by kernel_rfl))
  f217 := Tryd.func59.trans (congrArg some (by kernel_rfl))
  f219 := Tryd.func48.trans (congrArg some (by kernel_rfl))
  f224 := Tryd.func57.trans (congrArg some (by kernel_rfl))
  f225 := Tryd.func58.trans (congrArg some (by kernel_rfl))
  f266 := Tryd.func65.trans (congrArg some (by kernel_rfl))
  f267 := Tryd.func60.trans (congrArg some (by kernel_rfl))
  f314 := Tryd.func66.trans (congrArg some (by kernel_rfl))
  t3 := Tryd.underlying3
  a3 := Tryd.isAgg3
  z3 := Tryd.sizeOf3
  v3 := Tryd.zeroValue3
  t4 := Tryd.underlying4
  a4 := Tryd.isAgg4
  z4 := Tryd.sizeOf4
  v4 := Tryd.zeroValue4
  t5 := Tryd.underlying5
  a5 := Tryd.isAgg5
  z5 := Tryd.sizeOf5
  v5 := Tryd.zeroValue5
  t9 := Tryd.underlying9
  a9 := Tryd.isAgg9
  z9 := Tryd.sizeOf9
  v9 := Tryd.zeroValue9
  t46 := Tryd.underlying66
  a46 := Tryd.isAgg66
  z46 := Tryd.sizeOf66
  v46 := Tryd.zeroValue66
  t51 := Tryd.underlying96
  a51 := Tryd.isAgg96
  z51 := Tryd.sizeOf96
  v51 := Tryd.zeroValue96
  t146 := Tryd.underlying97
  a146 := Tryd.isAgg97
  z146 := Tryd.sizeOf97
  v146 := Tryd.zeroValue97
  g1 := by kernel_rfl }
open Go.RowKit Go.Lib in
/-- strings.Contains: "Contains reports whether substr is within s.": IT RETURNS 'Lib.contains s substr'; the world is as it was. (LAID: no walk: one application.) -/
theorem Tryd.strings_Contains (s sub : ByteArray) (m : Int) (w : World) (hs : s.size < 4294967281) (hm : w.cell? ⟨0, 0, none⟩ = some (.int .i64 m)) :
    Calls Tryd.prog 18 #[.string s, .string sub] w fun e w' => e = .returned (.bool (Lib.contains s.data.toList sub.data.toList)) ∧ w' = w := Any.strings_Contains Tryd.lays144 s sub m w hs hm
def Tryd.lays145_ren : Go.Shelf.Ren := ⟨fun | 145 => 31 | 220 => 45 | 219 => 48 | 217 => 59 | 225 => 58 | 224 => 57 | 267 => 60 | 266 => 65 | 314 => 66 | n => n, fun | 9 => 9 | 4 => 4 | 59 => 42 | 3 => 3 | 5 => 5 | 46 => 66 | 146 => 97 | 51 => 96 | n => n, fun | 1 => 0 | n => n⟩
theorem Tryd.lays145 : Go.Proofs.Lays.n145 Tryd.prog Tryd.lays145_ren := {
  mixed := by kernel_rfl
  f145 := Tryd.func31.trans (congrArg some (by kernel_rfl))
  f217 := Tryd.func59.trans (congrArg some (by kernel_rfl))
  f219 := Tryd.func48.trans (congrArg some (by kernel_rfl))
  f220 := Tryd.func45.trans (congrArg some (by kernel_rfl))
  f224 := Tryd.func57.trans (congrArg some (by kernel_rfl))
  f225 := Tryd.func58.trans (congrArg some (by kernel_rfl))
  f266 := Tryd.func65.trans (congrArg some (by kernel_rfl))
  f267 := Tryd.func60.trans (congrArg some (by kernel_rfl))
  f314 := Tryd.func66.trans (congrArg some (by kernel_rfl))
  t3 := Tryd.underlying3
  a3 := Tryd.isAgg3
  z3 := Tryd.sizeOf3
  v3 := Tryd.zeroValue3
  t4 := Tryd.underlying4
  a4 := Tryd.isAgg4
  z4 := Tryd.sizeOf4
  v4 := Tryd.zeroValue4
  t5 := Tryd.underlying5
  a5 := Tryd.isAgg5
  z5 := Tryd.sizeOf5
  v5 := Tryd.zeroValue5
  t9 := Tryd.underlying9
  a9 := Tryd.isAgg9
  z9 := Tryd.sizeOf9
  v9 := Tryd.zeroValue9
  t46 := Tryd.underlying66
  a46 := Tryd.isAgg66
  z46 := Tryd.sizeOf66
  v46 := Tryd.zeroValue66
  t51 := Tryd.underlying96
  a51 := Tryd.isAgg96
  z51 := Tryd.sizeOf96
  v51 := Tryd.zeroValue96
  t59 := Tryd.underlying42
  a59 := Tryd.isAgg42
  z59 := Tryd.sizeOf42
  v59 := Tryd.zeroValue42
  t146 := Tryd.underlying97
  a146 := Tryd.isAgg97
  z146 := Tryd.sizeOf97
  v146 := Tryd.zeroValue97
  g1 := by kernel_rfl }
open Go.RowKit Go.Lib in
/-- strings.Cut: "Cut slices s around the first instance of sep, returning the text before and after sep. The found result reports whether sep appears in s. If sep does not appear in s, cut returns s, "", false.": IT RETURNS 'Lib.cut s sep'; the world is as it was but for the count of draws. (LAID: no walk: one application.) -/
theorem Tryd.strings_Cut (s sep : ByteArray) (m : Int) (w : World) (hs : s.size < 4294967281) (hm : w.cell? ⟨0, 0, none⟩ = some (.int .i64 m)) :
    Calls Tryd.prog 31 #[.string s, .string sep] w fun e w' => e = .returned (.tuple #[.string ⟨(Lib.cut s.data.toList sep.data.toList).1.toArray⟩, .string ⟨(Lib.cut s.data.toList sep.data.toList).2.1.toArray⟩, .bool (Lib.cut s.data.toList sep.data.toList).2.2]) ∧ ∃ n, w' = w.drewN n := Any.strings_Cut Tryd.lays145 s sep m w hs hm
def Tryd.lays155_ren : Go.Shelf.Ren := ⟨fun | 155 => 19 | 154 => 36 | 138 => 49 | 165 => 50 | 143 => 35 | 166 => 51 | 197 => 40 | 169 => 52 | 195 => 61 | 218 => 62 | 240 => 63 | 241 => 64 | 219 => 48 | 260 => 53 | 276 => 67 | 277 => 68 | 217 => 59 | 225 => 58 | 224 => 57 | 267 => 60 | 266 => 65 | 314 => 66 | n => n, fun | 9 => 9 | 3 => 3 | 4 => 4 | 72 => 81 | 0 => 0 | 76 => 85 | 105 => 70 | 21 => 21 | 5 => 5 | 70 => 78 | 20 => 20 | 37 => 79 | 75 => 84 | 127 => 91 | 164 => 99 | 46 => 66 | 119 => 92 | 139 => 95 | 138 => 94 | 146 => 97 | 51 => 96 | 80 => 87 | n => n, fun | 1 => 0 | 3 => 1 | 4 => 2 | n => n⟩
theorem Tryd.lays155 : Go.Proofs.Lays.n155 Tryd.prog Tryd.lays155_ren := {
  mixed := by kernel_rfl
  f138 := Tryd.func49.trans (congrArg some (by kernel_rfl))
  f143 := Tryd.func35.trans (congrArg some (by kernel_rfl))
  f154 := Tryd.func36.trans (congrArg some (by kernel_rfl))
  f155 := Tryd.func19.trans (congrArg some (by kernel_rfl))
  f165 := Tryd.func50.trans (congrArg some (by kernel_rfl))
  f166 := Tryd.func51.trans (congrArg some (by kernel_rfl))
  f169 := Tryd.func52.trans (congrArg some (by kernel_rfl))
  f195 := Tryd.func61.trans (congrArg some (by kernel_rfl))
  f197 := Tryd.func40.trans (congrArg some (by kernel_rfl))
  f217 := Tryd.func59.trans (congrArg some (by kernel_rfl))
  f218 := Tryd.func62.trans (congrArg some (by kernel_rfl))
  f219 := Tryd.func48.trans (congrArg some (by kernel_rfl))
  f224 := Tryd.func57.trans (congrArg some (by kernel_rfl))
  f225 := Tryd.func58.trans (congrArg some (by kernel_rfl))
  f240 := Tryd.func63.trans (congrArg some (by kernel_rfl))
  f241 := Tryd.func64.trans (congrArg some (by kernel_rfl))
  f260 := Tryd.func53.trans (congrArg some (by kernel_rfl))
  f266 := Tryd.func65.trans (congrArg some (by kernel_rfl))
  f267 := Tryd.func60.trans (congrArg some (by kernel_rfl))
  f276 := Tryd.func67.trans (congrArg some (by kernel_rfl))
  f277 := Tryd.func68.trans (congrArg some (by kernel_rfl))
  f314 := Tryd.func66.trans (congrArg some (by kernel_rfl))
  t0 := Tryd.underlying0
  a0 := Tryd.isAgg0
  z0 := Tryd.sizeOf0
  v0 := Tryd.zeroValue0
  t3 := Tryd.underlying3
  a3 := Tryd.isAgg3
  z3 := Tryd.sizeOf3
  v3 := Tryd.zeroValue3
  t4 := Tryd.underlying4
  a4 := Tryd.isAgg4
  z4 := Tryd.sizeOf4
  v4 := Tryd.zeroValue4
  t5 := Tryd.underlying5
  a5 := Tryd.isAgg5
  z5 := Tryd.sizeOf5
  v5 := Tryd.zeroValue5
  t9 := Tryd.underlying9
  a9 := Tryd.isAgg9
  z9 := Tryd.sizeOf9
  v9 := Tryd.zeroValue9
  t20 := Tryd.underlying20
  a20 := Tryd.isAgg20
  z20 := Tryd.sizeOf20
  v20 := Tryd.zeroValue20
  t21 := Tryd.underlying21
  a21 := Tryd.isAgg21
  z21 := Tryd.sizeOf21
  v21 := Tryd.zeroValue21
  t37 := Tryd.underlying79
  a37 := Tryd.isAgg79
  z37 := Tryd.sizeOf79
  v37 := Tryd.zeroValue79
  t46 := Tryd.underlying66
  a46 := Tryd.isAgg66
  z46 := Tryd.sizeOf66
  v46 := Tryd.zeroValue66
  t51 := Tryd.underlying96
  a51 := Tryd.isAgg96
  z51 := Tryd.sizeOf96
  v51 := Tryd.zeroValue96
  t70 := Tryd.underlying78
  a70 := Tryd.isAgg78
  z70 := Tryd.sizeOf78
  v70 := Tryd.zeroValue78
  t72 := Tryd.underlying81
  a72 := Tryd.isAgg81
  z72 := Tryd.sizeOf81
  v72 := Tryd.zeroValue81
  t75 := Tryd.underlying84
  a75 := Tryd.isAgg84
  z75 := Tryd.sizeOf84
  v75 := Tryd.zeroValue84
  t76 := Tryd.underlying85
  a76 := Tryd.isAgg85
  z76 := Tryd.sizeOf85
  v76 := Tryd.zeroValue85
  t105 := Tryd.underlying70
  a105 := Tryd.isAgg70
  z105 := Tryd.sizeOf70
  v105 := Tryd.zeroValue70
  t119 := Tryd.underlying92
  a119 := Tryd.isAgg92
  z119 := Tryd.sizeOf92
  t127 := Tryd.underlying91
  a127 := Tryd.isAgg91
  z127 := Tryd.sizeOf91
  v127 := Tryd.zeroValue91
  t138 := Tryd.underlying94
  a138 := Tryd.isAgg94
  z138 := Tryd.sizeOf94
  v138 := Tryd.zeroValue94
  t139 := Tryd.underlying95
  a139 := Tryd.isAgg95
  z139 := Tryd.sizeOf95
  v139 := Tryd.zeroValue95
  t146 := Tryd.underlying97
  a146 := Tryd.isAgg97
  z146 := Tryd.sizeOf97
  v146 := Tryd.zeroValue97
  t164 := Tryd.underlying99
  a164 := Tryd.isAgg99
  z164 := Tryd.sizeOf99
  v164 := Tryd.zeroValue99
  g1 := by kernel_rfl
  g3 := by kernel_rfl
  g4 := by kernel_rfl }
theorem Tryd.Builder_Extra_155 : Builder.Extra Tryd.prog Tryd.lays155_ren := {
  sizeBuilder := by kernel_rfl
  liesBuilder := by kernel_rfl
  t5 := Tryd.underlying5
  a5 := Tryd.isAgg5
  z5 := Tryd.sizeOf5
  v5 := Tryd.zeroValue5
  infoByte := by kernel_rfl
  cellsByte := by kernel_rfl
  sizeByte := by kernel_rfl
  neB5 := by decide }
open Go.RowKit Go.Lib in
/-- strings.ReplaceAll: "ReplaceAll returns a copy of the string s with all non-overlapping instances of old replaced by new.": AT AN old THAT IS NOT EMPTY: 'Lib.replaceAll s old new'. (LAID: no walk: one application.) -/
theorem Tryd.strings_ReplaceAll (s old new : ByteArray) (m : Int) (w : World) (hs : s.size < 4294967281) (hm : w.cell? ⟨0, 0, none⟩ = some (.int .i64 m)) (h1 : 1 ≤ old.size) (hlen : s.size + Lib.countB s old * new.size ≤ 140737488355328) :
    Calls Tryd.prog 19 #[.string s, .string old, .string new] w fun e w' =>
      e = .returned (.string ⟨(Lib.replaceAll s.data.toList old.data.toList new.data.toList).toArray⟩) ∧ Below w.heap.size w w' := Any.strings_ReplaceAll Tryd.lays155 Tryd.Builder_Extra_155 s old new m w hs hm h1 hlen
def Tryd.laysM155_ren : Go.Shelf.Ren := ⟨fun | 155 => 19 | 154 => 36 | 138 => 49 | 165 => 50 | 143 => 35 | 166 => 51 | 197 => 40 | 169 => 52 | 195 => 61 | 218 => 62 | 240 => 63 | 241 => 64 | 219 => 48 | 260 => 53 | 276 => 67 | 277 => 68 | 217 => 59 | 225 => 58 | 224 => 57 | 267 => 60 | 266 => 65 | 314 => 66 | n => n, fun | 9 => 9 | 3 => 3 | 4 => 4 | 72 => 81 | 0 => 0 | 76 => 85 | 105 => 70 | 21 => 21 | 5 => 5 | 70 => 78 | 20 => 20 | 37 => 79 | 75 => 84 | 127 => 91 | 164 => 99 | 46 => 66 | 119 => 92 | 139 => 95 | 138 => 94 | 146 => 97 | 51 => 96 | 80 => 87 | n => n, fun | 1 => 0 | 3 => 1 | 4 => 2 | n => n⟩
theorem Tryd.laysM155 : Go.Proofs.LaysM.n155 Tryd.prog Tryd.laysM155_ren := {
  mixed := by kernel_rfl
  f138 := Tryd.func49.trans (congrArg some (by kernel_rfl))
  f143 := Tryd.func35.trans (congrArg some (by kernel_rfl))
  f154 := Tryd.func36.trans (congrArg some (by kernel_rfl))
  f155 := Tryd.func19.trans (congrArg some (by kernel_rfl))
  f165 := Tryd.func50.trans (congrArg some (by kernel_rfl))
  f166 := Tryd.func51.trans (congrArg some (by kernel_rfl))
  f169 := Tryd.func52.trans (congrArg some (by kernel_rfl))
  f195 := Tryd.func61.trans (congrArg some (by kernel_rfl))
  f197 := Tryd.func40.trans (congrArg some (by kernel_rfl))
  f217 := Tryd.func59.trans (congrArg some (by kernel_rfl))
  f218 := Tryd.func62.trans (congrArg some (by kernel_rfl))
  f219 := Tryd.func48.trans (congrArg some (by kernel_rfl))
  f224 := Tryd.func57.trans (congrArg some (by kernel_rfl))
  f225 := Tryd.func58.trans (congrArg some (by kernel_rfl))
  f240 := Tryd.func63.trans (congrArg some (by kernel_rfl))
  f241 := Tryd.func64.trans (congrArg some (by kernel_rfl))
  f260 := Tryd.func53.trans (congrArg some (by kernel_rfl))
  f266 := Tryd.func65.trans (congrArg some (by kernel_rfl))
  f267 := Tryd.func60.trans (congrArg some (by kernel_rfl))
  f276 := Tryd.func67.trans (congrArg some (by kernel_rfl))
  f277 := Tryd.func68.trans (congrArg some (by kernel_rfl))
  f314 := Tryd.func66.trans (congrArg some (by kernel_rfl))
  t0 := Tryd.underlying0
  a0 := Tryd.isAgg0
  z0 := Tryd.sizeOf0
  v0 := Tryd.zeroValue0
  t3 := Tryd.underlying3
  a3 := Tryd.isAgg3
  z3 := Tryd.sizeOf3
  v3 := Tryd.zeroValue3
  t4 := Tryd.underlying4
  a4 := Tryd.isAgg4
  z4 := Tryd.sizeOf4
  v4 := Tryd.zeroValue4
  t5 := Tryd.underlying5
  a5 := Tryd.isAgg5
  z5 := Tryd.sizeOf5
  v5 := Tryd.zeroValue5
  t9 := Tryd.underlying9
  a9 := Tryd.isAgg9
  z9 := Tryd.sizeOf9
  v9 := Tryd.zeroValue9
  t20 := Tryd.underlying20
  a20 := Tryd.isAgg20
  z20 := Tryd.sizeOf20
  v20 := Tryd.zeroValue20
  t21 := Tryd.underlying21
  a21 := Tryd.isAgg21
  z21 := Tryd.sizeOf21
  v21 := Tryd.zeroValue21
  t37 := Tryd.underlying79
  a37 := Tryd.isAgg79
  z37 := Tryd.sizeOf79
  v37 := Tryd.zeroValue79
  t46 := Tryd.underlying66
  a46 := Tryd.isAgg66
  z46 := Tryd.sizeOf66
  v46 := Tryd.zeroValue66
  t51 := Tryd.underlying96
  a51 := Tryd.isAgg96
  z51 := Tryd.sizeOf96
  v51 := Tryd.zeroValue96
  t70 := Tryd.underlying78
  a70 := Tryd.isAgg78
  z70 := Tryd.sizeOf78
  v70 := Tryd.zeroValue78
  t72 := Tryd.underlying81
  a72 := Tryd.isAgg81
  z72 := Tryd.sizeOf81
  v72 := Tryd.zeroValue81
  t75 := Tryd.underlying84
  a75 := Tryd.isAgg84
  z75 := Tryd.sizeOf84
  v75 := Tryd.zeroValue84
  t76 := Tryd.underlying85
  a76 := Tryd.isAgg85
  z76 := Tryd.sizeOf85
  v76 := Tryd.zeroValue85
  t105 := Tryd.underlying70
  a105 := Tryd.isAgg70
  z105 := Tryd.sizeOf70
  v105 := Tryd.zeroValue70
  t119 := Tryd.underlying92
  a119 := Tryd.isAgg92
  z119 := Tryd.sizeOf92
  t127 := Tryd.underlying91
  a127 := Tryd.isAgg91
  z127 := Tryd.sizeOf91
  v127 := Tryd.zeroValue91
  t138 := Tryd.underlying94
  a138 := Tryd.isAgg94
  z138 := Tryd.sizeOf94
  v138 := Tryd.zeroValue94
  t139 := Tryd.underlying95
  a139 := Tryd.isAgg95
  z139 := Tryd.sizeOf95
  v139 := Tryd.zeroValue95
  t146 := Tryd.underlying97
  a146 := Tryd.isAgg97
  z146 := Tryd.sizeOf97
  v146 := Tryd.zeroValue97
  t164 := Tryd.underlying99
  a164 := Tryd.isAgg99
  z164 := Tryd.sizeOf99
  v164 := Tryd.zeroValue99
  g1 := by kernel_rfl
  g3 := by kernel_rfl
  g4 := by kernel_rfl
  t80 := Tryd.underlying87
  a80 := Tryd.isAgg87
  z80 := Tryd.sizeOf87
  v80 := Tryd.zeroValue87
  i0 := by kernel_rfl
  i3 := by kernel_rfl
  i4 := by kernel_rfl
  i5 := by kernel_rfl
  i9 := by kernel_rfl
  i20 := by kernel_rfl
  i21 := by kernel_rfl
  i37 := by kernel_rfl
  i46 := by kernel_rfl
  i51 := by kernel_rfl
  i70 := by kernel_rfl
  i72 := by kernel_rfl
  i75 := by kernel_rfl
  i76 := by kernel_rfl
  i80 := by kernel_rfl
  i105 := by kernel_rfl
  i127 := by kernel_rfl
  i138 := by kernel_rfl
  i139 := by kernel_rfl
  i146 := by kernel_rfl
  i164 := by kernel_rfl
  m1 := by kernel_rfl
  s1_3 := fun w h => Go.Proofs.cell_of_shapedOpen_int (zero := #[.int .i64 0]) (t := 3) h (of_decide_eq_true (by kernel_rfl)) (by kernel_rfl) rfl (by kernel_rfl) (by kernel_rfl) Tryd.underlying3
  m3 := by kernel_rfl
  m4 := by kernel_rfl }
def Tryd.lays153_ren : Go.Shelf.Ren := ⟨fun | 153 => 34 | 152 => 46 | 226 => 47 | 227 => 24 | 228 => 39 | 137 => 55 | 119 => 56 | 224 => 57 | 225 => 58 | 217 => 59 | 266 => 65 | n => n, fun | 9 => 9 | 3 => 3 | 4 => 4 | 5 => 5 | 21 => 21 | 117 => 55 | 116 => 54 | 0 => 0 | 46 => 66 | 124 => 58 | n => n, fun | n => n⟩
theorem Tryd.lays153 : Go.Proofs.Lays.n153 Tryd.prog Tryd.lays153_ren := {
  mixed := by kernel_rfl
  f119 := Tryd.func56.trans (congrArg some (by kernel_rfl))
  f137 := Tryd.func55.trans (congrArg some (by kernel_rfl))
  f152 := Tryd.func46.trans (congrArg some (by kernel_rfl))
  f153 := Tryd.func34.trans (congrArg some (by kernel_rfl))
  f217 := Tryd.func59.trans (congrArg some (by kernel_rfl))
  f224 := Tryd.func57.trans (congrArg some (by kernel_rfl))
  f225 := Tryd.func58.trans (congrArg some (by kernel_rfl))
  f226 := Tryd.func47.trans (congrArg some (by kernel_rfl))
  f227 := Tryd.func24.trans (congrArg some (by kernel_rfl))
  f228 := Tryd.func39.trans (congrArg some (by kernel_rfl))
  f266 := Tryd.func65.trans (congrArg some (by kernel_rfl))
  t0 := Tryd.underlying0
  a0 := Tryd.isAgg0
  z0 := Tryd.sizeOf0
  v0 := Tryd.zeroValue0
  t3 := Tryd.underlying3
  a3 := Tryd.isAgg3
  z3 := Tryd.sizeOf3
  v3 := Tryd.zeroValue3
  t4 := Tryd.underlying4
  a4 := Tryd.isAgg4
  z4 := Tryd.sizeOf4
  v4 := Tryd.zeroValue4
  t5 := Tryd.underlying5
  a5 := Tryd.isAgg5
  z5 := Tryd.sizeOf5
  v5 := Tryd.zeroValue5
  t9 := Tryd.underlying9
  a9 := Tryd.isAgg9
  z9 := Tryd.sizeOf9
  v9 := Tryd.zeroValue9
  t21 := Tryd.underlying21
  a21 := Tryd.isAgg21
  z21 := Tryd.sizeOf21
  v21 := Tryd.zeroValue21
  t46 := Tryd.underlying66
  a46 := Tryd.isAgg66
  z46 := Tryd.sizeOf66
  v46 := Tryd.zeroValue66
  t116 := Tryd.underlying54
  a116 := Tryd.isAgg54
  z116 := Tryd.sizeOf54
  t117 := Tryd.underlying55
  a117 := Tryd.isAgg55
  z117 := Tryd.sizeOf55
  v117 := Tryd.zeroValue55
  t124 := Tryd.underlying58
  a124 := Tryd.isAgg58
  z124 := Tryd.sizeOf58
  v124 := Tryd.zeroValue58 }
def Tryd.lays150_ren : Go.Shelf.Ren := ⟨fun | 150 => 17 | 153 => 34 | 152 => 46 | 226 => 47 | 227 => 24 | 228 => 39 | 137 => 55 | 119 => 56 | 224 => 57 | 225 => 58 | 217 => 59 | 266 => 65 | n => n, fun | 9 => 9 | 4 => 4 | 3 => 3 | 5 => 5 | 21 => 21 | 117 => 55 | 116 => 54 | 0 => 0 | 46 => 66 | 124 => 58 | n => n, fun | n => n⟩
theorem Tryd.lays150 : Go.Proofs.Lays.n150 Tryd.prog Tryd.lays150_ren := {
  mixed := by kernel_rfl
  f119 := Tryd.func56.trans (congrArg some (by kernel_rfl))
  f137 := Tryd.func55.trans (congrArg some (by kernel_rfl))
  f150 := Tryd.func17.trans (congrArg some (by kernel_rfl))
  f152 := Tryd.func46.trans (congrArg some (by kernel_rfl))
  f153 := Tryd.func34.trans (congrArg some (by kernel_rfl))
  f217 := Tryd.func59.trans (congrArg some (by kernel_rfl))
  f224 := Tryd.func57.trans (congrArg some (by kernel_rfl))
  f225 := Tryd.func58.trans (congrArg some (by kernel_rfl))
  f226 := Tryd.func47.trans (congrArg some (by kernel_rfl))
  f227 := Tryd.func24.trans (congrArg some (by kernel_rfl))
  f228 := Tryd.func39.trans (congrArg some (by kernel_rfl))
  f266 := Tryd.func65.trans (congrArg some (by kernel_rfl))
  t0 := Tryd.underlying0
  a0 := Tryd.isAgg0
  z0 := Tryd.sizeOf0
  v0 := Tryd.zeroValue0
  t3 := Tryd.underlying3
  a3 := Tryd.isAgg3
  z3 := Tryd.sizeOf3
  v3 := Tryd.zeroValue3
  t4 := Tryd.underlying4
  a4 := Tryd.isAgg4
  z4 := Tryd.sizeOf4
  v4 := Tryd.zeroValue4
  t5 := Tryd.underlying5
  a5 := Tryd.isAgg5
  z5 := Tryd.sizeOf5
  v5 := Tryd.zeroValue5
  t9 := Tryd.underlying9
  a9 := Tryd.isAgg9
  z9 := Tryd.sizeOf9
  v9 := Tryd.zeroValue9
  t21 := Tryd.underlying21
  a21 := Tryd.isAgg21
  z21 := Tryd.sizeOf21
  v21 := Tryd.zeroValue21
  t46 := Tryd.underlying66
  a46 := Tryd.isAgg66
  z46 := Tryd.sizeOf66
  v46 := Tryd.zeroValue66
  t116 := Tryd.underlying54
  a116 := Tryd.isAgg54
  z116 := Tryd.sizeOf54
  t117 := Tryd.underlying55
  a117 := Tryd.isAgg55
  z117 := Tryd.sizeOf55
  v117 := Tryd.zeroValue55
  t124 := Tryd.underlying58
  a124 := Tryd.isAgg58
  z124 := Tryd.sizeOf58
  v124 := Tryd.zeroValue58 }
end Go.Proofs
/- stringslite.IndexByte, as the machine is given it. -/
set_option linter.unusedVariables false
namespace Go.Vm.U
open Go Go.Vm Go.Proofs Go.RowKit
def ibV (s : ByteArray) (c : Int) : Option Int := some (Lib.indexByte s.data.toList c.toNat.toUInt8)
theorem below_int {P : Program} {W W' : World} {Z : Addr → Prop} {M : Nat → Prop} {r : Int} (hz : ∀ A, Z A → A.block < W.heap.size) (h : Below W.heap.size W W') : ResOut P W Z M [] ⟨.one (.d (.int .i64 r)), []⟩ (.int .i64 r) W' Z [] [] := by
  obtain ⟨h1, h2, h3, h4, h5⟩ := h
  exact { res := .of (.one (.d (.int .i64 r) .nil)), refs := .nil, nodup := List.nodup_nil, own := (fun g hg => by simp at hg), zz := fun _ h => h, z := fun A hA => .inl hA, zlt := fun A hA => Nat.lt_of_lt_of_le (hz A hA) h4, frame := fun k hk _ => h5 k hk, size := h4, os := h1, tape := h2, output := h3 }
theorem below_bool {P : Program} {W W' : World} {Z : Addr → Prop} {M : Nat → Prop} {r : Bool} (hz : ∀ A, Z A → A.block < W.heap.size) (h : Below W.heap.size W W') : ResOut P W Z M [] ⟨.one (.d (.bool r)), []⟩ (.bool r) W' Z [] [] := by
  obtain ⟨h1, h2, h3, h4, h5⟩ := h
  exact { res := .of (.one (.d (.bool r) .nil)), refs := .nil, nodup := List.nodup_nil, own := (fun g hg => by simp at hg), zz := fun _ h => h, z := fun A hA => .inl hA, zlt := fun A hA => Nat.lt_of_lt_of_le (hz A hA) h4, frame := fun k hk _ => h5 k hk, size := h4, os := h1, tape := h2, output := h3 }
theorem str_arg {P : Program} {W : World} {Z : Addr → Prop} {s : ByteArray} {v : Value} (h : CRep P W Z (.str s) v) : v = .string s := by cases h; rfl
theorem int_arg {P : Program} {W : World} {Z : Addr → Prop} {k : IntKind} {n : Int} {v : Value} (h : CRep P W Z (.int k n) v) : v = .int k n := by cases h; rfl
theorem ib_ok (a : ByteArray × Int) (v : Int) (h : ibV a.1 a.2 = some v) : CallOK Tryd.prog 59 [.v (.one (.c (C.str a.1))), .v (.one (.c (C.int .u8 a.2)))] ⟨.one (.d (.int .i64 v)), []⟩ := by
  obtain ⟨s, c⟩ := a
  cases h
  refine ⟨⟨Tryd.f59, _, Tryd.func59, by kernel_rfl, rfl⟩, fun vals W Z M tgs pls hood hargs _ _ hz => ?_⟩
  cases hargs with
  | one h1 h2 =>
    cases h2 with
    | one h3 h4 =>
      cases h4
      rw [str_arg h1, int_arg h3]
      exact (Tryd.stringslite_IndexByte s c W).mono fun e W' ⟨he, hw⟩ => ⟨_, Z, [], [], he, below_int hz (hw ▸ Below.refl _ _)⟩
end Go.Vm.U
set_option linter.unusedVariables false
set_option maxHeartbeats 4000000
set_option maxRecDepth 100000
namespace Go.Vm.U
open Go Go.Vm Go.Proofs
noncomputable def kl : List (Nat × List (Nat × List Nat)) := [(34, [(12, [0, 6, 8]), (18, [1, 45])]), (46, [(5, [0, 7, 8, 9]), (12, [0, 7, 8, 9, 12]), (25, [0, 7, 8, 9, 14, 15]), (29, [0, 7, 8, 9, 14, 15, 16]), (38, [175])])]
noncomputable def kp := tabKeep2 kl
structure Lv where
  strings_ContainsAny : ByteArray → ByteArray → Option Bool
  strings_IndexAny : ByteArray → ByteArray → Option Int
  strings_IndexRune : ByteArray → Int → Option Int
  strings_shouldUseASCIISet : Int → Option Bool
  strings_IndexByte : ByteArray → Int → Option Int
  utf8_ValidRune : Int → Option Bool
noncomputable def strings_ContainsAny_a : List Arg → Option (ByteArray × ByteArray)
  | [.v (.one (.c (.str x0))), .v (.one (.c (.str x1)))] => some (x0, x1)
  | _ => none
noncomputable def strings_ContainsAny_e (a : ByteArray × ByteArray) : List Arg := [.v (.one (.c (C.str a.1))), .v (.one (.c (C.str a.2)))]
theorem strings_ContainsAny_ae {l : List Arg} {a : ByteArray × ByteArray} (h : strings_ContainsAny_a l = some a) : l = strings_ContainsAny_e a := by
  unfold strings_ContainsAny_a at h
  split at h
  · cases h; rfl
  · cases h
noncomputable def strings_ContainsAny_d : Res → Option Bool
  | ⟨.one (.d (.bool y0)), []⟩ => some y0
  | _ => none
noncomputable def strings_ContainsAny_r (r : Bool) : Res := ⟨.one (.d (.bool r)), []⟩
theorem strings_ContainsAny_dr {R : Res} {r : Bool} (h : strings_ContainsAny_d R = some r) : R = strings_ContainsAny_r r := by
  unfold strings_ContainsAny_d at h
  split at h
  · cases h; rfl
  · cases h
noncomputable def strings_ContainsAny_o (L : Lv) {Ω : Type} (f : FuncId) (l : List Arg) (K : Res → Option Ω) (next : Option Ω) : Option Ω := rowO 17 strings_ContainsAny_a (fun a => L.strings_ContainsAny a.1 a.2) strings_ContainsAny_r f l K next
noncomputable def strings_IndexAny_a : List Arg → Option (ByteArray × ByteArray)
  | [.v (.one (.c (.str x0))), .v (.one (.c (.str x1)))] => some (x0, x1)
  | _ => none
noncomputable def strings_IndexAny_e (a : ByteArray × ByteArray) : List Arg := [.v (.one (.c (C.str a.1))), .v (.one (.c (C.str a.2)))]
theorem strings_IndexAny_ae {l : List Arg} {a : ByteArray × ByteArray} (h : strings_IndexAny_a l = some a) : l = strings_IndexAny_e a := by
  unfold strings_IndexAny_a at h
  split at h
  · cases h; rfl
  · cases h
noncomputable def strings_IndexAny_d : Res → Option Int
  | ⟨.one (.d (.int .i64 y0)), []⟩ => some y0
  | _ => none
noncomputable def strings_IndexAny_r (r : Int) : Res := ⟨.one (.d (.int .i64 r)), []⟩
theorem strings_IndexAny_dr {R : Res} {r : Int} (h : strings_IndexAny_d R = some r) : R = strings_IndexAny_r r := by
  unfold strings_IndexAny_d at h
  split at h
  · cases h; rfl
  · cases h
noncomputable def strings_IndexAny_o (L : Lv) {Ω : Type} (f : FuncId) (l : List Arg) (K : Res → Option Ω) (next : Option Ω) : Option Ω := rowO 34 strings_IndexAny_a (fun a => L.strings_IndexAny a.1 a.2) strings_IndexAny_r f l K next
noncomputable def strings_IndexRune_a : List Arg → Option (ByteArray × Int)
  | [.v (.one (.c (.str x0))), .v (.one (.c (.int .i32 x1)))] => some (x0, x1)
  | _ => none
noncomputable def strings_IndexRune_e (a : ByteArray × Int) : List Arg := [.v (.one (.c (C.str a.1))), .v (.one (.c (C.int .i32 a.2)))]
theorem strings_IndexRune_ae {l : List Arg} {a : ByteArray × Int} (h : strings_IndexRune_a l = some a) : l = strings_IndexRune_e a := by
  unfold strings_IndexRune_a at h
  split at h
  · cases h; rfl
  · cases h
noncomputable def strings_IndexRune_d : Res → Option Int
  | ⟨.one (.d (.int .i64 y0)), []⟩ => some y0
  | _ => none
noncomputable def strings_IndexRune_r (r : Int) : Res := ⟨.one (.d (.int .i64 r)), []⟩
theorem strings_IndexRune_dr {R : Res} {r : Int} (h : strings_IndexRune_d R = some r) : R = strings_IndexRune_r r := by
  unfold strings_IndexRune_d at h
  split at h
  · cases h; rfl
  · cases h
noncomputable def strings_IndexRune_o (L : Lv) {Ω : Type} (f : FuncId) (l : List Arg) (K : Res → Option Ω) (next : Option Ω) : Option Ω := rowO 46 strings_IndexRune_a (fun a => L.strings_IndexRune a.1 a.2) strings_IndexRune_r f l K next
noncomputable def strings_shouldUseASCIISet_a : List Arg → Option Int
  | [.v (.one (.c (.int .i64 x0)))] => some x0
  | _ => none
noncomputable def strings_shouldUseASCIISet_e (a : Int) : List Arg := [.v (.one (.c (C.int .i64 a)))]
theorem strings_shouldUseASCIISet_ae {l : List Arg} {a : Int} (h : strings_shouldUseASCIISet_a l = some a) : l = strings_shouldUseASCIISet_e a := by
  unfold strings_shouldUseASCIISet_a at h
  split at h
  · cases h; rfl
  · cases h
noncomputable def strings_shouldUseASCIISet_d : Res → Option Bool
  | ⟨.one (.d (.bool y0)), []⟩ => some y0
  | _ => none
noncomputable def strings_shouldUseASCIISet_r (r : Bool) : Res := ⟨.one (.d (.bool r)), []⟩
theorem strings_shouldUseASCIISet_dr {R : Res} {r : Bool} (h : strings_shouldUseASCIISet_d R = some r) : R = strings_shouldUseASCIISet_r r := by
  unfold strings_shouldUseASCIISet_d at h
  split at h
  · cases h; rfl
  · cases h
noncomputable def strings_shouldUseASCIISet_o (L : Lv) {Ω : Type} (f : FuncId) (l : List Arg) (K : Res → Option Ω) (next : Option Ω) : Option Ω := rowO 47 strings_shouldUseASCIISet_a (fun a => L.strings_shouldUseASCIISet a) strings_shouldUseASCIISet_r f l K next
noncomputable def strings_IndexByte_a : List Arg → Option (ByteArray × Int)
  | [.v (.one (.c (.str x0))), .v (.one (.c (.int .u8 x1)))] => some (x0, x1)
  | _ => none
noncomputable def strings_IndexByte_e (a : ByteArray × Int) : List Arg := [.v (.one (.c (C.str a.1))), .v (.one (.c (C.int .u8 a.2)))]
theorem strings_IndexByte_ae {l : List Arg} {a : ByteArray × Int} (h : strings_IndexByte_a l = some a) : l = strings_IndexByte_e a := by
  unfold strings_IndexByte_a at h
  split at h
  · cases h; rfl
  · cases h
noncomputable def strings_IndexByte_d : Res → Option Int
  | ⟨.one (.d (.int .i64 y0)), []⟩ => some y0
  | _ => none
noncomputable def strings_IndexByte_r (r : Int) : Res := ⟨.one (.d (.int .i64 r)), []⟩
theorem strings_IndexByte_dr {R : Res} {r : Int} (h : strings_IndexByte_d R = some r) : R = strings_IndexByte_r r := by
  unfold strings_IndexByte_d at h
  split at h
  · cases h; rfl
  · cases h
noncomputable def strings_IndexByte_o (L : Lv) {Ω : Type} (f : FuncId) (l : List Arg) (K : Res → Option Ω) (next : Option Ω) : Option Ω := rowO 55 strings_IndexByte_a (fun a => L.strings_IndexByte a.1 a.2) strings_IndexByte_r f l K next
noncomputable def utf8_ValidRune_a : List Arg → Option Int
  | [.v (.one (.c (.int .i32 x0)))] => some x0
  | _ => none
noncomputable def utf8_ValidRune_e (a : Int) : List Arg := [.v (.one (.c (C.int .i32 a)))]
theorem utf8_ValidRune_ae {l : List Arg} {a : Int} (h : utf8_ValidRune_a l = some a) : l = utf8_ValidRune_e a := by
  unfold utf8_ValidRune_a at h
  split at h
  · cases h; rfl
  · cases h
noncomputable def utf8_ValidRune_d : Res → Option Bool
  | ⟨.one (.d (.bool y0)), []⟩ => some y0
  | _ => none
noncomputable def utf8_ValidRune_r (r : Bool) : Res := ⟨.one (.d (.bool r)), []⟩
theorem utf8_ValidRune_dr {R : Res} {r : Bool} (h : utf8_ValidRune_d R = some r) : R = utf8_ValidRune_r r := by
  unfold utf8_ValidRune_d at h
  split at h
  · cases h; rfl
  · cases h
noncomputable def utf8_ValidRune_o (L : Lv) {Ω : Type} (f : FuncId) (l : List Arg) (K : Res → Option Ω) (next : Option Ω) : Option Ω := rowO 56 utf8_ValidRune_a (fun a => L.utf8_ValidRune a) utf8_ValidRune_r f l K next
noncomputable def stringslite_IndexByte_a : List Arg → Option (ByteArray × Int)
  | [.v (.one (.c (.str x0))), .v (.one (.c (.int .u8 x1)))] => some (x0, x1)
  | _ => none
noncomputable def stringslite_IndexByte_e (a : ByteArray × Int) : List Arg := [.v (.one (.c (C.str a.1))), .v (.one (.c (C.int .u8 a.2)))]
theorem stringslite_IndexByte_ae {l : List Arg} {a : ByteArray × Int} (h : stringslite_IndexByte_a l = some a) : l = stringslite_IndexByte_e a := by
  unfold stringslite_IndexByte_a at h
  split at h
  · cases h; rfl
  · cases h
noncomputable def stringslite_IndexByte_d : Res → Option Int
  | ⟨.one (.d (.int .i64 y0)), []⟩ => some y0
  | _ => none
noncomputable def stringslite_IndexByte_r (r : Int) : Res := ⟨.one (.d (.int .i64 r)), []⟩
theorem stringslite_IndexByte_dr {R : Res} {r : Int} (h : stringslite_IndexByte_d R = some r) : R = stringslite_IndexByte_r r := by
  unfold stringslite_IndexByte_d at h
  split at h
  · cases h; rfl
  · cases h
noncomputable def stringslite_IndexByte_o (L : Lv) {Ω : Type} (f : FuncId) (l : List Arg) (K : Res → Option Ω) (next : Option Ω) : Option Ω := rowO 59 stringslite_IndexByte_a (fun a => ibV a.1 a.2) stringslite_IndexByte_r f l K next
/-- functions of the library that are given -/
noncomputable def extG (f : FuncId) (l : List Arg) : Option Res := (rowO 59 stringslite_IndexByte_a (fun a => ibV a.1 a.2) stringslite_IndexByte_r f l some none)
theorem extG_ok (h0 : ∀ a v, (fun a => ibV a.1 a.2) a = some v → CallOK Tryd.prog 59 (stringslite_IndexByte_e a) (stringslite_IndexByte_r v)) : CallsOK Tryd.prog extG := fun f l R h => by
  unfold extG at h
  rcases rowG_ok (ea := stringslite_IndexByte_e) (fun _ _ h => stringslite_IndexByte_ae h) h0 h with h | h
  · exact h
  cases h
noncomputable def orK (L : Lv) {Ω : Type} (f : FuncId) (l : List Arg) (K : Res → Option Ω) : Option Ω := strings_ContainsAny_o L f l K (strings_IndexAny_o L f l K (strings_IndexRune_o L f l K (strings_shouldUseASCIISet_o L f l K (strings_IndexByte_o L f l K (utf8_ValidRune_o L f l K (stringslite_IndexByte_o L f l K (none)))))))
noncomputable def strings_ContainsAny_b (L : Lv) (k : Nat) (x0 x1 : ByteArray) : Option Bool := bodyK noEq Tryd.prog (orK L) kp k 17 [.v (.one (.c (C.str x0))), .v (.one (.c (C.str x1)))] strings_ContainsAny_d
noncomputable def strings_IndexAny_b (L : Lv) (k : Nat) (x0 x1 : ByteArray) : Option Int := bodyK noEq Tryd.prog (orK L) kp k 34 [.v (.one (.c (C.str x0))), .v (.one (.c (C.str x1)))] strings_IndexAny_d
noncomputable def strings_IndexAny_l0 (L : Lv) (k : Nat) (x0 x1 : ByteArray) (m0 v2 : Nat) : Option Int := headK noEq Tryd.prog (orK L) kp k 34 [.v (.one (.c (C.str x0))), .v (.one (.c (C.str x1)))] [1, 1, 1, 1, 0, 1, 0] [m0] ⟨[(1, .one (.c (C.str x1))), (45, .itr 128)], [(128, .iter x0 v2)], 130, 55⟩ strings_IndexAny_d
noncomputable def strings_IndexRune_b (L : Lv) (k : Nat) (x0 : ByteArray) (x1 : Int) : Option Int := bodyK noEq Tryd.prog (orK L) kp k 46 [.v (.one (.c (C.str x0))), .v (.one (.c (C.int .i32 x1)))] strings_IndexRune_d
noncomputable def strings_IndexRune_l0 (L : Lv) (k : Nat) (x0 : ByteArray) (x1 : Int) (m0 v1 : Nat) : Option Int := headK noEq Tryd.prog (orK L) kp k 46 [.v (.one (.c (C.str x0))), .v (.one (.c (C.int .i32 x1)))] [1, 0, 1, 1, 1, 0, 0, 1, 0] [m0] ⟨[(175, .itr 128)], [(128, .iter x0 v1)], 130, 187⟩ strings_IndexRune_d
noncomputable def strings_IndexRune_l1 (L : Lv) (k : Nat) (x0 : ByteArray) (x1 : Int) (m0 : Nat) : Option Int := headK noEq Tryd.prog (orK L) kp k 46 [.v (.one (.c (C.str x0))), .v (.one (.c (C.int .i32 x1)))] [1, 0, 1, 1, 1, 1, 1, 1, 0, 1, 1, 1, 1, 0, 0] [m0] ⟨[(0, .one (.c (C.str x0))), (7, .one (.c (C.str (Utf8.encode (x1))))), (8, .one (.c (C.int .i64 (IntKind.i64.wrap (((Utf8.encode (x1)).size : Int) - 1))))), (9, .one (.c (C.int .i64 (IntKind.i64.wrap (((Utf8.encode (x1)).size : Int) - 1)))))], [], 129, 187⟩ strings_IndexRune_d
noncomputable def strings_IndexRune_l2 (L : Lv) (k : Nat) (x0 : ByteArray) (x1 : Int) (m0 m1 : Nat) (v3 v4 : Int) : Option Int := headK noEq Tryd.prog (orK L) kp k 46 [.v (.one (.c (C.str x0))), .v (.one (.c (C.int .i32 x1)))] [1, 0, 1, 1, 1, 1, 1, 1, 0, 1, 1, 1, 1, 0, 0, 0, 1, 0, 0, 1, 0, 1, 0] [m0, m1] ⟨[(0, .one (.c (C.str x0))), (7, .one (.c (C.str (Utf8.encode (x1))))), (8, .one (.c (C.int .i64 (IntKind.i64.wrap (((Utf8.encode (x1)).size : Int) - 1))))), (9, .one (.c (C.int .i64 v3))), (12, .one (.c (C.int .i64 v4)))], [], 129, 187⟩ strings_IndexRune_d
noncomputable def strings_shouldUseASCIISet_b (L : Lv) (k : Nat) (x0 : Int) : Option Bool := bodyK noEq Tryd.prog (orK L) kp k 47 [.v (.one (.c (C.int .i64 x0)))] strings_shouldUseASCIISet_d
noncomputable def strings_IndexByte_b (L : Lv) (k : Nat) (x0 : ByteArray) (x1 : Int) : Option Int := bodyK noEq Tryd.prog (orK L) kp k 55 [.v (.one (.c (C.str x0))), .v (.one (.c (C.int .u8 x1)))] strings_IndexByte_d
noncomputable def utf8_ValidRune_b (L : Lv) (k : Nat) (x0 : Int) : Option Bool := bodyK noEq Tryd.prog (orK L) kp k 56 [.v (.one (.c (C.int .i32 x0)))] utf8_ValidRune_d
noncomputable def lv : Nat → Lv
  | 0 => { strings_ContainsAny := fun _ _ => none, strings_IndexAny := fun _ _ => none, strings_IndexRune := fun _ _ => none, strings_shouldUseASCIISet := fun _ => none, strings_IndexByte := fun _ _ => none, utf8_ValidRune := fun _ => none }
  | n + 1 => { strings_ContainsAny := strings_ContainsAny_b (lv n) n, strings_IndexAny := strings_IndexAny_b (lv n) n, strings_IndexRune := strings_IndexRune_b (lv n) n, strings_shouldUseASCIISet := strings_shouldUseASCIISet_b (lv n) n, strings_IndexByte := strings_IndexByte_b (lv n) n, utf8_ValidRune := utf8_ValidRune_b (lv n) n }
noncomputable abbrev CL (n : Nat) : FuncId → List Arg → Option Res := call Tryd.prog extG kp n
def OKo (n : Nat) (o : Lv → {Ω : Type} → FuncId → List Arg → (Res → Option Ω) → Option Ω → Option Ω) : Prop := (∀ m, n = m + 1 → ∀ {Ω : Type}, TabOK (Ω := Ω) (CL m) (orK (lv m))) → ∀ {Ω : Type} {f : FuncId} {l : List Arg} {K : Res → Option Ω} {next : Option Ω} {r : Ω}, o (lv n) f l K next = some r → (∃ R, CL n f l = some R ∧ K R = some r) ∨ next = some r
theorem stringslite_IndexByte_ok (n : Nat) : OKo n stringslite_IndexByte_o := fun ih {_ _ _ _ _ _} h => by
  refine rowO_ok (cl := CL n) (ea := stringslite_IndexByte_e) (dr := stringslite_IndexByte_d) (fun _ _ h => stringslite_IndexByte_ae h) (fun _ _ h => stringslite_IndexByte_dr h) (fun a v h => ⟨stringslite_IndexByte_r v, ext_call (by
    have h : ibV a.1 a.2 = some v := h
    unfold extG
    simp only [rowO, stringslite_IndexByte_e, stringslite_IndexByte_a, h, Option.bind_some]
    rfl), rfl⟩) h
theorem strings_ContainsAny_lv (n : Nat) : (lv (n + 1)).strings_ContainsAny = strings_ContainsAny_b (lv n) n := by kernel_rfl
theorem strings_ContainsAny_up (x0 x1 : ByteArray) {Q : Bool → Prop} (h : Tot (fun n _ _ => strings_ContainsAny_b (lv n) n x0 x1) Q) : Tot (fun n _ _ => (lv n).strings_ContainsAny x0 x1) Q := Tot.up (fun n => by rw [strings_ContainsAny_lv]) h
theorem strings_ContainsAny_ok (n : Nat) : OKo n strings_ContainsAny_o := fun ih {_ _ _ _ _ _} h => by
  refine rowO_ok (cl := CL n) (ea := strings_ContainsAny_e) (dr := strings_ContainsAny_d) (fun _ _ h => strings_ContainsAny_ae h) (fun _ _ h => strings_ContainsAny_dr h) (fun a v h => ?_) h
  cases n with
  | zero => cases h
  | succ n =>
    rw [strings_ContainsAny_lv] at h
    exact bodyK_ok noEq_ok (ih n rfl) (by kernel_rfl) (fun _ _ h => strings_ContainsAny_dr h) h
theorem strings_IndexAny_lv (n : Nat) : (lv (n + 1)).strings_IndexAny = strings_IndexAny_b (lv n) n := by kernel_rfl
theorem strings_IndexAny_up (x0 x1 : ByteArray) {Q : Int → Prop} (h : Tot (fun n _ _ => strings_IndexAny_b (lv n) n x0 x1) Q) : Tot (fun n _ _ => (lv n).strings_IndexAny x0 x1) Q := Tot.up (fun n => by rw [strings_IndexAny_lv]) h
theorem strings_IndexAny_ok (n : Nat) : OKo n strings_IndexAny_o := fun ih {_ _ _ _ _ _} h => by
  refine rowO_ok (cl := CL n) (ea := strings_IndexAny_e) (dr := strings_IndexAny_d) (fun _ _ h => strings_IndexAny_ae h) (fun _ _ h => strings_IndexAny_dr h) (fun a v h => ?_) h
  cases n with
  | zero => cases h
  | succ n =>
    rw [strings_IndexAny_lv] at h
    exact bodyK_ok noEq_ok (ih n rfl) (by kernel_rfl) (fun _ _ h => strings_IndexAny_dr h) h
theorem strings_IndexRune_lv (n : Nat) : (lv (n + 1)).strings_IndexRune = strings_IndexRune_b (lv n) n := by kernel_rfl
theorem strings_IndexRune_up (x0 : ByteArray) (x1 : Int) {Q : Int → Prop} (h : Tot (fun n _ _ => strings_IndexRune_b (lv n) n x0 x1) Q) : Tot (fun n _ _ => (lv n).strings_IndexRune x0 x1) Q := Tot.up (fun n => by rw [strings_IndexRune_lv]) h
theorem strings_IndexRune_ok (n : Nat) : OKo n strings_IndexRune_o := fun ih {_ _ _ _ _ _} h => by
  refine rowO_ok (cl := CL n) (ea := strings_IndexRune_e) (dr := strings_IndexRune_d) (fun _ _ h => strings_IndexRune_ae h) (fun _ _ h => strings_IndexRune_dr h) (fun a v h => ?_) h
  cases n with
  | zero => cases h
  | succ n =>
    rw [strings_IndexRune_lv] at h
    exact bodyK_ok noEq_ok (ih n rfl) (by kernel_rfl) (fun _ _ h => strings_IndexRune_dr h) h
theorem strings_shouldUseASCIISet_lv (n : Nat) : (lv (n + 1)).strings_shouldUseASCIISet = strings_shouldUseASCIISet_b (lv n) n := by kernel_rfl
theorem strings_shouldUseASCIISet_up (x0 : Int) {Q : Bool → Prop} (h : Tot (fun n _ _ => strings_shouldUseASCIISet_b (lv n) n x0) Q) : Tot (fun n _ _ => (lv n).strings_shouldUseASCIISet x0) Q := Tot.up (fun n => by rw [strings_shouldUseASCIISet_lv]) h
theorem strings_shouldUseASCIISet_ok (n : Nat) : OKo n strings_shouldUseASCIISet_o := fun ih {_ _ _ _ _ _} h => by
  refine rowO_ok (cl := CL n) (ea := strings_shouldUseASCIISet_e) (dr := strings_shouldUseASCIISet_d) (fun _ _ h => strings_shouldUseASCIISet_ae h) (fun _ _ h => strings_shouldUseASCIISet_dr h) (fun a v h => ?_) h
  cases n with
  | zero => cases h
  | succ n =>
    rw [strings_shouldUseASCIISet_lv] at h
    exact bodyK_ok noEq_ok (ih n rfl) (by kernel_rfl) (fun _ _ h => strings_shouldUseASCIISet_dr h) h
theorem strings_IndexByte_lv (n : Nat) : (lv (n + 1)).strings_IndexByte = strings_IndexByte_b (lv n) n := by kernel_rfl
theorem strings_IndexByte_up (x0 : ByteArray) (x1 : Int) {Q : Int → Prop} (h : Tot (fun n _ _ => strings_IndexByte_b (lv n) n x0 x1) Q) : Tot (fun n _ _ => (lv n).strings_IndexByte x0 x1) Q := Tot.up (fun n => by rw [strings_IndexByte_lv]) h
theorem strings_IndexByte_ok (n : Nat) : OKo n strings_IndexByte_o := fun ih {_ _ _ _ _ _} h => by
  refine rowO_ok (cl := CL n) (ea := strings_IndexByte_e) (dr := strings_IndexByte_d) (fun _ _ h => strings_IndexByte_ae h) (fun _ _ h => strings_IndexByte_dr h) (fun a v h => ?_) h
  cases n with
  | zero => cases h
  | succ n =>
    rw [strings_IndexByte_lv] at h
    exact bodyK_ok noEq_ok (ih n rfl) (by kernel_rfl) (fun _ _ h => strings_IndexByte_dr h) h
theorem utf8_ValidRune_lv (n : Nat) : (lv (n + 1)).utf8_ValidRune = utf8_ValidRune_b (lv n) n := by kernel_rfl
theorem utf8_ValidRune_up (x0 : Int) {Q : Bool → Prop} (h : Tot (fun n _ _ => utf8_ValidRune_b (lv n) n x0) Q) : Tot (fun n _ _ => (lv n).utf8_ValidRune x0) Q := Tot.up (fun n => by rw [utf8_ValidRune_lv]) h
theorem utf8_ValidRune_ok (n : Nat) : OKo n utf8_ValidRune_o := fun ih {_ _ _ _ _ _} h => by
  refine rowO_ok (cl := CL n) (ea := utf8_ValidRune_e) (dr := utf8_ValidRune_d) (fun _ _ h => utf8_ValidRune_ae h) (fun _ _ h => utf8_ValidRune_dr h) (fun a v h => ?_) h
  cases n with
  | zero => cases h
  | succ n =>
    rw [utf8_ValidRune_lv] at h
    exact bodyK_ok noEq_ok (ih n rfl) (by kernel_rfl) (fun _ _ h => utf8_ValidRune_dr h) h
theorem lv_ok : ∀ n, ∀ {Ω : Type}, TabOK (Ω := Ω) (call Tryd.prog extG kp n) (orK (lv n)) := by
  intro n
  induction n with
  | zero =>
    intro Ω f l K r h
    have ih : ∀ m, 0 = m + 1 → ∀ {Ω : Type}, TabOK (Ω := Ω) (call Tryd.prog extG kp m) (orK (lv m)) := fun m e => by cases e
    rcases strings_ContainsAny_ok _ ih h with h | h
    · exact h
    rcases strings_IndexAny_ok _ ih h with h | h
    · exact h
    rcases strings_IndexRune_ok _ ih h with h | h
    · exact h
    rcases strings_shouldUseASCIISet_ok _ ih h with h | h
    · exact h
    rcases strings_IndexByte_ok _ ih h with h | h
    · exact h
    rcases utf8_ValidRune_ok _ ih h with h | h
    · exact h
    rcases stringslite_IndexByte_ok _ ih h with h | h
    · exact h
    cases h
  | succ n ih0 =>
    intro Ω f l K r h
    have ih : ∀ m, n + 1 = m + 1 → ∀ {Ω : Type}, TabOK (Ω := Ω) (call Tryd.prog extG kp m) (orK (lv m)) := fun m e => by cases e; exact ih0
    rcases strings_ContainsAny_ok _ ih h with h | h
    · exact h
    rcases strings_IndexAny_ok _ ih h with h | h
    · exact h
    rcases strings_IndexRune_ok _ ih h with h | h
    · exact h
    rcases strings_shouldUseASCIISet_ok _ ih h with h | h
    · exact h
    rcases strings_IndexByte_ok _ ih h with h | h
    · exact h
    rcases utf8_ValidRune_ok _ ih h with h | h
    · exact h
    rcases stringslite_IndexByte_ok _ ih h with h | h
    · exact h
    cases h
end Go.Vm.U
set_option linter.unusedVariables false
set_option maxHeartbeats 4000000
set_option maxRecDepth 100000
namespace Go.Vm.U
open Go Go.Vm Go.Proofs
theorem strings_ContainsAny_q (L : Lv) (k : Nat) (x0 x1 : ByteArray) : strings_ContainsAny_b L k x0 x1 = (L.strings_IndexAny x0 x1).bind fun r1 => some (decide (r1 ≥ (0 : Int))) := by kernel_rfl
theorem strings_IndexAny_q (L : Lv) (k : Nat) (x0 x1 : ByteArray) : strings_IndexAny_b L k x0 x1 = cond (x1.toList == (⟨#[]⟩ : ByteArray).toList) (some (-1)) (cond ((x1.size : Int) == (1 : Int)) (cond (decide ((0 : Int) < (x1.size : Int))) (cond (decide (IntKind.i32.wrap (((x1.data.getD 0 0).toNat : Int)) ≥ (128 : Int))) ((L.strings_IndexRune x0 65533).bind fun r1 => some r1) ((L.strings_IndexRune x0 (IntKind.i32.wrap (((x1.data.getD 0 0).toNat : Int)))).bind fun r2 => some r2)) none) ((L.strings_shouldUseASCIISet (x0.size : Int)).bind fun r3 => cond r3 none (strings_IndexAny_l0 L k x0 x1 k 0))) := by kernel_rfl
theorem strings_IndexAny_l0_q (L : Lv) (k : Nat) (x0 x1 : ByteArray) (m0 v2 : Nat) : strings_IndexAny_l0 L k x0 x1 (m0 + 1) v2 = cond (decide (v2 < x0.size)) ((L.strings_IndexRune x1 ((Utf8.decode x0 v2).1 : Int)).bind fun r1 => cond (decide (r1 ≥ (0 : Int))) (some (v2 : Int)) (strings_IndexAny_l0 L k x0 x1 m0 (v2 + (Utf8.decode x0 v2).2))) (some (-1)) := by kernel_rfl
theorem strings_IndexRune_q (L : Lv) (k : Nat) (x0 : ByteArray) (x1 : Int) : strings_IndexRune_b L k x0 x1 = cond (decide ((0 : Int) ≤ x1)) (cond (decide (x1 < (128 : Int))) ((L.strings_IndexByte x0 (IntKind.u8.wrap (x1))).bind fun r1 => some r1) (cond (x1 == (65533 : Int)) (strings_IndexRune_l0 L k x0 x1 k 0) ((L.utf8_ValidRune x1).bind fun r2 => cond (!r2) (some (-1)) (strings_IndexRune_l1 L k x0 x1 k)))) (cond (x1 == (65533 : Int)) (strings_IndexRune_l0 L k x0 x1 k 0) ((L.utf8_ValidRune x1).bind fun r3 => cond (!r3) (some (-1)) (strings_IndexRune_l1 L k x0 x1 k))) := by kernel_rfl
theorem strings_IndexRune_l0_q (L : Lv) (k : Nat) (x0 : ByteArray) (x1 : Int) (m0 v1 : Nat) : strings_IndexRune_l0 L k x0 x1 (m0 + 1) v1 = cond (decide (v1 < x0.size)) (cond (((Utf8.decode x0 v1).1 : Int) == (65533 : Int)) (some (v1 : Int)) (strings_IndexRune_l0 L k x0 x1 m0 (v1 + (Utf8.decode x0 v1).2))) (some (-1)) := by kernel_rfl
theorem strings_IndexRune_l1_q (L : Lv) (k : Nat) (x0 : ByteArray) (x1 : Int) (m0 : Nat) : strings_IndexRune_l1 L k x0 x1 (m0 + 1) = cond (decide (IntKind.i64.wrap (((Utf8.encode (x1)).size : Int) - 1) < (x0.size : Int))) (cond (decide ((0 : Int) ≤ IntKind.i64.wrap (((Utf8.encode (x1)).size : Int) - 1))) (cond (decide (IntKind.i64.wrap (((Utf8.encode (x1)).size : Int) - 1) < (x0.size : Int))) (cond (decide ((0 : Int) ≤ IntKind.i64.wrap (((Utf8.encode (x1)).size : Int) - 1))) (cond (decide (IntKind.i64.wrap (((Utf8.encode (x1)).size : Int) - 1) < ((Utf8.encode (x1)).size : Int))) (cond (!(((x0.data.getD ((IntKind.i64.wrap (((Utf8.encode (x1)).size : Int) - 1)).toNat) 0).toNat : Int) == (((Utf8.encode (x1)).data.getD ((IntKind.i64.wrap (((Utf8.encode (x1)).size : Int) - 1)).toNat) 0).toNat : Int))) (cond (decide ((0 : Int) ≤ (x0.size : Int))) (cond (decide ((x0.size : Int) ≤ (x0.size : Int))) (cond (decide ((0 : Int) ≤ IntKind.i64.wrap (IntKind.i64.wrap (((Utf8.encode (x1)).size : Int) - 1) + 1))) (cond (decide (IntKind.i64.wrap (IntKind.i64.wrap (((Utf8.encode (x1)).size : Int) - 1) + 1) ≤ (x0.size : Int))) (cond (decide ((0 : Int) ≤ IntKind.i64.wrap (((Utf8.encode (x1)).size : Int) - 1))) (cond (decide (IntKind.i64.wrap (((Utf8.encode (x1)).size : Int) - 1) < ((Utf8.encode (x1)).size : Int))) ((L.strings_IndexByte (x0.extract ((IntKind.i64.wrap (IntKind.i64.wrap (((Utf8.encode (x1)).size : Int) - 1) + 1)).toNat) ((x0.size : Int).toNat)) (((Utf8.encode (x1)).data.getD ((IntKind.i64.wrap (((Utf8.encode (x1)).size : Int) - 1)).toNat) 0).toNat : Int)).bind fun r1 => cond (decide (r1 < (0 : Int))) (some (-1)) (strings_IndexRune_l2 L k x0 x1 m0 k (IntKind.i64.wrap (IntKind.i64.wrap (((Utf8.encode (x1)).size : Int) - 1) + IntKind.i64.wrap (r1 + 1))) 1)) none) none) none) none) none) none) (strings_IndexRune_l2 L k x0 x1 m0 k (IntKind.i64.wrap (((Utf8.encode (x1)).size : Int) - 1)) 1)) none) none) none) none) (some (-1)) := by kernel_rfl
theorem strings_IndexRune_l2_q (L : Lv) (k : Nat) (x0 : ByteArray) (x1 : Int) (m0 m1 : Nat) (v3 v4 : Int) : strings_IndexRune_l2 L k x0 x1 m0 (m1 + 1) v3 v4 = cond (decide (v4 < ((Utf8.encode (x1)).size : Int))) (cond (decide ((0 : Int) ≤ IntKind.i64.wrap (v3 - v4))) (cond (decide (IntKind.i64.wrap (v3 - v4) < (x0.size : Int))) (cond (decide ((0 : Int) ≤ IntKind.i64.wrap (IntKind.i64.wrap (((Utf8.encode (x1)).size : Int) - 1) - v4))) (cond (decide (IntKind.i64.wrap (IntKind.i64.wrap (((Utf8.encode (x1)).size : Int) - 1) - v4) < ((Utf8.encode (x1)).size : Int))) (cond (!(((x0.data.getD ((IntKind.i64.wrap (v3 - v4)).toNat) 0).toNat : Int) == (((Utf8.encode (x1)).data.getD ((IntKind.i64.wrap (IntKind.i64.wrap (((Utf8.encode (x1)).size : Int) - 1) - v4)).toNat) 0).toNat : Int))) none (strings_IndexRune_l2 L k x0 x1 m0 m1 v3 (IntKind.i64.wrap (v4 + 1)))) none) none) none) none) (some (IntKind.i64.wrap (v3 - IntKind.i64.wrap (((Utf8.encode (x1)).size : Int) - 1)))) := by kernel_rfl
theorem strings_shouldUseASCIISet_q (L : Lv) (k : Nat) (x0 : Int) : strings_shouldUseASCIISet_b L k x0 = some (decide (x0 > (8 : Int))) := by kernel_rfl
theorem strings_IndexByte_q (L : Lv) (k : Nat) (x0 : ByteArray) (x1 : Int) : strings_IndexByte_b L k x0 x1 = (ibV x0 x1).bind fun r1 => some r1 := by kernel_rfl
theorem utf8_ValidRune_q (L : Lv) (k : Nat) (x0 : Int) : utf8_ValidRune_b L k x0 = cond (decide ((0 : Int) ≤ x0)) (cond (decide (x0 < (55296 : Int))) (some true) (cond (decide ((57343 : Int) < x0)) (cond (decide (x0 ≤ (1114111 : Int))) (some true) (some false)) (some false))) (cond (decide ((57343 : Int) < x0)) (cond (decide (x0 ≤ (1114111 : Int))) (some true) (some false)) (some false)) := by kernel_rfl
end Go.Vm.U
/- strings.ContainsAny of a short text, by the machine. -/
set_option linter.unusedVariables false
set_option linter.unusedSimpArgs false
namespace Go.Vm.U
open Go Go.Vm Go.Proofs
attribute [local irreducible] lv strings_ContainsAny_b strings_IndexAny_b strings_IndexAny_l0 strings_IndexRune_b strings_IndexRune_l0 strings_IndexRune_l1 strings_IndexRune_l2 strings_shouldUseASCIISet_b strings_IndexByte_b utf8_ValidRune_b
def cs : ByteArray := ⟨#[123, 125]⟩
def hit (c : UInt8) : Prop := c = 123 ∨ c = 125
def by_ (s : ByteArray) (i : Nat) : Nat := (s.get! i).toNat
theorem by_eq (s : ByteArray) (i : Nat) : by_ s i = (s.data.getD i 0).toNat := by
  show (s.data[i]!).toNat = _
  rw [getElem!_def, Array.getD_eq_getD_getElem?]
  cases s.data[i]? <;> rfl
theorem dec_at (s : ByteArray) (p : Nat) : Utf8.decode s p = Lib.decodeN (s.size - p) (by_ s p) (by_ s (p + 1)) (by_ s (p + 2)) (by_ s (p + 3)) := Lib.decode_at s p
theorem decodeN_le (n b0 b1 b2 b3 : Nat) (hn : 1 ≤ n) : (Lib.decodeN n b0 b1 b2 b3).2 ≤ n := by
  unfold Lib.decodeN
  repeat' split
  all_goals (simp only; omega)
theorem decode_fits (s : ByteArray) (p : Nat) (h : p < s.size) : p + (Utf8.decode s p).2 ≤ s.size := by
  have := decodeN_le (s.size - p) (by_ s p) (by_ s (p + 1)) (by_ s (p + 2)) (by_ s (p + 3)) (by omega)
  rw [← dec_at] at this
  omega
set_option maxHeartbeats 4000000 in
theorem decN_ascii (n b0 b1 b2 b3 : Nat) : (1 < (Lib.decodeN n b0 b1 b2 b3).2 → 128 ≤ b1) ∧ (2 < (Lib.decodeN n b0 b1 b2 b3).2 → 128 ≤ b2) ∧ (3 < (Lib.decodeN n b0 b1 b2 b3).2 → 128 ≤ b3) ∧ (Lib.decodeN n b0 b1 b2 b3).2 ≤ 4 := by
  unfold Lib.decodeN
  repeat' split
  all_goals (simp only; omega)
set_option maxHeartbeats 4000000 in
theorem decN_low (n b0 b1 b2 b3 : Nat) : (b0 < 128 → (Lib.decodeN n b0 b1 b2 b3).1 = b0) ∧ (128 ≤ b0 → 128 ≤ (Lib.decodeN n b0 b1 b2 b3).1) ∧ ((Lib.decodeN n b0 b1 b2 b3).1 < 55296 ∨ (57343 < (Lib.decodeN n b0 b1 b2 b3).1 ∧ (Lib.decodeN n b0 b1 b2 b3).1 ≤ 1114111) ∨ b0 < 128) := by
  by_cases h : b0 < 128
  · have e : Lib.decodeN n b0 b1 b2 b3 = (b0, 1) := by unfold Lib.decodeN; rw [if_pos h]
    rw [e]
    exact ⟨fun _ => rfl, fun h' => by omega, .inr (.inr h)⟩
  · refine ⟨fun h' => absurd h' h, fun _ => ?_, ?_⟩ <;> (unfold Lib.decodeN; rw [if_neg h]; repeat' split) <;> (simp only; omega)
theorem wd_ascii (s : ByteArray) (p j : Nat) (h : by_ s j < 128) (hp : p < j) : p + (Utf8.decode s p).2 ≤ j := by
  have := decN_ascii (s.size - p) (by_ s p) (by_ s (p + 1)) (by_ s (p + 2)) (by_ s (p + 3))
  rw [← dec_at] at this
  obtain ⟨h1, h2, h3, h4⟩ := this
  by_cases c : p + (Utf8.decode s p).2 ≤ j
  · exact c
  · exfalso
    rcases (show j = p + 1 ∨ j = p + 2 ∨ j = p + 3 by omega) with e | e | e <;> subst e
    · have := h1 (by omega); omega
    · have := h2 (by omega); omega
    · have := h3 (by omega); omega
set_option maxRecDepth 100000 in
theorem indexRune_tot (r : Nat) (hr : r < 55296 ∨ (57343 < r ∧ r ≤ 1114111)) : Tot (fun k _ _ => (lv k).strings_IndexRune cs (r : Int)) (fun x => x ≥ 0 ↔ r = 123 ∨ r = 125) := by
  refine strings_IndexRune_up _ _ (Tot.congr ?_ (fun k _ _ => strings_IndexRune_q (lv k) k cs (r : Int)))
  have neg : ¬ (r = 123 ∨ r = 125) → Tot (fun _ _ _ => some (-1 : Int)) (fun x => x ≥ 0 ↔ r = 123 ∨ r = 125) := fun h => Tot.ret ⟨fun e => by omega, fun e => absurd e h⟩
  have loop : r ≥ 128 → Tot (fun k p q => strings_IndexRune_l0 (lv k) k cs (r : Int) k 0) (fun x => x ≥ 0 ↔ r = 123 ∨ r = 125) := fun h => by
    refine Tot.in0 (g := fun k p q => strings_IndexRune_l0 (lv k) k cs (r : Int) p 0) ?_
    refine Tot.step0 (fun k p_ q_ => strings_IndexRune_l0_q (lv k) k cs (r : Int) p_ 0) ?_
    refine Tot.t (by rfl) (Tot.f (by rfl) ?_)
    rw [show 0 + (Utf8.decode cs 0).2 = 1 from rfl]
    refine Tot.step0 (fun k p_ q_ => strings_IndexRune_l0_q (lv k) k cs (r : Int) p_ 1) ?_
    refine Tot.t (by rfl) (Tot.f (by rfl) ?_)
    rw [show 1 + (Utf8.decode cs 1).2 = 2 from rfl]
    refine Tot.step0 (fun k p_ q_ => strings_IndexRune_l0_q (lv k) k cs (r : Int) p_ 2) ?_
    exact Tot.f (by rfl) (neg (by omega))
  have l1 : r ≥ 128 → Tot (fun k p q => strings_IndexRune_l1 (lv k) k cs (r : Int) k) (fun x => x ≥ 0 ↔ r = 123 ∨ r = 125) := fun h => by
    have hv : Utf8.valid (r : Int) = true := by unfold Utf8.valid; simp; omega
    obtain ⟨e1, e2, e3⟩ := encode_facts (r : Int) hv (by omega)
    have hz : cs.size = 2 := rfl
    refine Tot.in0 (g := fun k p q => strings_IndexRune_l1 (lv k) k cs (r : Int) p) ?_
    refine Tot.step0 (fun k p_ q_ => strings_IndexRune_l1_q (lv k) k cs (r : Int) p_ ) ?_
    generalize Utf8.encode (r : Int) = E at e1 e2 e3 ⊢
    rw [wrap_id (x := (E.size : Int) - 1) (by omega) (by omega), hz]
    refine Tot.cond (fun c => ?_) (fun _ => neg (by omega))
    have c := of_decide_eq_true c
    have hs2 : E.size = 2 := by omega
    have h1s : 1 < E.size := Nat.lt_of_lt_of_eq (by decide : 1 < 2) hs2.symm
    have hlast : 128 ≤ (E.data.getD 1 0).toNat := by
      have := e3 (Nat.sub_lt (Nat.lt_of_lt_of_le (by decide : 0 < 2) e1) (by decide))
      rw [Array.getD_eq_getD_getElem?, Array.getElem?_eq_getElem (show 1 < E.data.size from h1s)]
      have e : ∀ (j : Nat) (hj : j < E.size), j = 1 → (E[j]'hj).toNat = (E[1]'h1s).toNat := fun j hj e => by subst e; rfl
      rw [e _ _ (by rw [hs2])] at this
      exact this
    rw [hs2, show (((2 : Nat) : Int) - 1) = 1 from rfl, show IntKind.i64.wrap ((1 : Int) + 1) = 2 from rfl, show (1 : Int).toNat = 1 from rfl, show (2 : Int).toNat = 2 from rfl, show ((2 : Nat) : Int) = 2 from rfl, show (2 : Int).toNat = 2 from rfl]
    have hne : (!(((cs.data.getD 1 0).toNat : Int) == ((E.data.getD 1 0).toNat : Int))) = true := by
      rw [show (cs.data.getD 1 0).toNat = 125 from rfl, Bool.not_eq_true', beq_eq_false_iff_ne]
      omega
    refine Tot.t (by rfl) (Tot.t (by rfl) (Tot.t (by rfl) (Tot.t (by rfl) (Tot.t hne (Tot.t (by rfl) (Tot.t (by rfl) (Tot.t (by rfl) (Tot.t (by rfl) (Tot.t (by rfl) (Tot.t (by rfl) ?_))))))))))
    refine Tot.bind (R := fun x => x = -1) ?_ fun x hx => Tot.t (decide_eq_true (by omega)) (neg (by omega))
    refine strings_IndexByte_up _ _ (Tot.congr ?_ (fun k _ _ => strings_IndexByte_q (lv k) k (cs.extract 2 2) ((E.data.getD 1 0).toNat : Int)))
    exact Tot.bind (R := fun x => x = -1) (Tot.ret rfl) fun x hx => Tot.ret hx
  have val : r ≥ 128 → Tot (fun k p q => ((lv k).utf8_ValidRune (r : Int)).bind fun r2 => cond (!r2) (some (-1)) (strings_IndexRune_l1 (lv k) k cs (r : Int) k)) (fun x => x ≥ 0 ↔ r = 123 ∨ r = 125) := fun h => by
    refine Tot.bind (R := fun _ => True) ?_ fun b _ => Tot.cond (fun _ => neg (by omega)) (fun _ => l1 h)
    refine utf8_ValidRune_up _ (Tot.congr ?_ (fun k _ _ => utf8_ValidRune_q (lv k) k (r : Int)))
    repeat' first
      | refine Tot.cond (fun _ => ?_) (fun _ => ?_)
      | exact Tot.ret trivial
  refine Tot.t (decide_eq_true (by omega)) (Tot.cond (fun c => ?_) (fun c => Tot.cond (fun _ => loop ?_) (fun _ => val ?_)))
  · have c := of_decide_eq_true c
    refine Tot.bind (R := fun x => x ≥ 0 ↔ r = 123 ∨ r = 125) ?_ fun x hx => Tot.ret hx
    rw [show IntKind.u8.wrap (r : Int) = (r : Int) from wraps_u8 _ (by omega) (by omega)]
    refine strings_IndexByte_up _ _ (Tot.congr ?_ (fun k _ _ => strings_IndexByte_q (lv k) k cs (r : Int)))
    refine Tot.bind (R := fun x => x ≥ 0 ↔ r = 123 ∨ r = 125) (Tot.ret ?_) fun x hx => Tot.ret hx
    have key : ∀ n : Fin 128, (Lib.indexByte cs.data.toList ((n.val : Int)).toNat.toUInt8 ≥ 0 ↔ n.val = 123 ∨ n.val = 125) := by decide +kernel
    exact key ⟨r, by omega⟩
  · have := of_decide_eq_false c; omega
  · have := of_decide_eq_false c; omega
/-- does a brace stand in a text? -/
def anyB (s : ByteArray) : Prop := ∃ j, j < s.size ∧ hit (s.data.getD j 0)
theorem indexAny_tot (s : ByteArray) (hs : s.size ≤ 8) : Tot (fun k _ _ => (lv k).strings_IndexAny s cs) (fun x => x ≥ 0 ↔ anyB s) := by
  have loop : ∀ (b i : Nat), s.size - i ≤ b → i ≤ s.size → (∀ j, j < i → ¬ hit (s.data.getD j 0)) → Tot (fun k p q => strings_IndexAny_l0 (lv k) k s cs p i) (fun x => x ≥ 0 ↔ anyB s) := by
    intro b
    induction b with
    | zero =>
      intro i hb hi hn
      refine Tot.step0 (fun k p_ q_ => strings_IndexAny_l0_q (lv k) k s cs p_ i) ?_
      exact Tot.f (decide_eq_false (by omega)) (Tot.ret ⟨fun e => by omega, fun ⟨j, hj, hh⟩ => absurd hh (hn j (by omega))⟩)
    | succ b ih =>
      intro i hb hi hn
      refine Tot.step0 (fun k p_ q_ => strings_IndexAny_l0_q (lv k) k s cs p_ i) ?_
      refine Tot.cond (fun c => ?_) (fun c => Tot.ret ⟨fun e => by omega, fun ⟨j, hj, hh⟩ => absurd hh (hn j (by have := of_decide_eq_false c; omega))⟩)
      have c := of_decide_eq_true c
      have hw := Lib.decode_width_pos s i c
      have hfit : i + (Utf8.decode s i).2 ≤ s.size := decode_fits s i c
      obtain ⟨d1, d2, d3⟩ := decN_low (s.size - i) (by_ s i) (by_ s (i + 1)) (by_ s (i + 2)) (by_ s (i + 3))
      rw [← dec_at] at d1 d2 d3
      have hby := by_eq s i
      refine Tot.bind (indexRune_tot (Utf8.decode s i).1 (by rcases d3 with h | h | h <;> first | omega | (have := d1 h; omega))) fun r hr => Tot.cond (fun e => Tot.ret ?_) (fun e => ?_)
      · have h1 := hr.1 (of_decide_eq_true e)
        refine ⟨fun _ => ⟨i, c, ?_⟩, fun _ => by omega⟩
        have h2 : (s.data.getD i 0).toNat = 123 ∨ (s.data.getD i 0).toNat = 125 := by
          by_cases h : by_ s i < 128
          · have := d1 h; omega
          · have := d2 (by omega); omega
        rcases h2 with h2 | h2
        · exact .inl (UInt8.toNat_inj.1 (by rw [h2]; rfl))
        · exact .inr (UInt8.toNat_inj.1 (by rw [h2]; rfl))
      · have hnr : ¬ ((Utf8.decode s i).1 = 123 ∨ (Utf8.decode s i).1 = 125) := fun h => of_decide_eq_false e (hr.2 h)
        refine ih _ (by omega) hfit (fun j hj hh => ?_)
        rcases Nat.lt_or_ge j i with h2 | h2
        · exact hn j h2 hh
        · have hj128 : by_ s j < 128 := by
            rw [by_eq]
            rcases hh with h | h <;> rw [h] <;> decide
          rcases Nat.lt_or_ge i j with h3 | h3
          · have := wd_ascii s i j hj128 h3; omega
          · have : j = i := by omega
            subst this
            apply hnr
            rw [d1 hj128, hby]
            rcases hh with h | h <;> rw [h]
            · exact .inl rfl
            · exact .inr rfl
  refine strings_IndexAny_up _ _ (Tot.congr ?_ (fun k _ _ => strings_IndexAny_q (lv k) k s cs))
  refine Tot.f (by rw [Bool.eq_false_iff, ne_eq, str_eq]; exact fun e => absurd (congrArg ByteArray.size e) (by decide)) (Tot.f (by rfl) (Tot.bind (R := fun b => b = false) ?_ fun b hb => ?_))
  · refine strings_shouldUseASCIISet_up _ (Tot.congr ?_ (fun k _ _ => strings_shouldUseASCIISet_q (lv k) k (s.size : Int)))
    exact Tot.ret (decide_eq_false (by omega))
  · subst hb
    exact Tot.f rfl (Tot.in0 (loop s.size 0 (by omega) (by omega) (fun j hj => by omega)))
theorem containsAny_tot (s : ByteArray) (hs : s.size ≤ 8) : Tot (fun k _ _ => (lv k).strings_ContainsAny s cs) (fun x => x = true ↔ anyB s) := by
  refine strings_ContainsAny_up _ _ (Tot.congr ?_ (fun k _ _ => strings_ContainsAny_q (lv k) k s cs))
  exact Tot.bind (indexAny_tot s hs) fun x hx => Tot.ret (by rw [decide_eq_true_eq]; exact hx)
end Go.Vm.U
/- strings.ContainsAny(s, "{}"), as the machine is given it. -/
set_option linter.unusedVariables false
namespace Go.Vm.U
open Go Go.Vm Go.Proofs Go.Shelf Go.RowKit Go.Lib
variable {P : Program} {ρ : Go.Shelf.Ren}
theorem ascii_cs : ∀ (j : Nat) b, cs.data.toList[j]? = some b → b.toNat < 128 := fun j b h => by
  have : b ∈ cs.data.toList := List.mem_of_getElem? h
  have : b ∈ ([123, 125] : List UInt8) := this
  rcases List.mem_cons.1 this with rfl | h
  · decide
  · rcases List.mem_cons.1 h with rfl | h
    · decide
    · cases h
set_option maxHeartbeats 1000000 in
theorem containsAny_long (L : Lays.n150 P ρ) (h116 : (P.info? (ρ.t 116)).map (fun i => (i.zero, i.size)) = some (some (.agg (Array.replicate 256 (.bool false))), 256)) (s : ByteArray) (w : World) (h8 : 8 < s.size) (hs : s.size < 4294967281) :
    Calls P (ρ.f 150) #[.string s, .string cs] w fun e w' => e = .returned (.bool (Lib.containsAny s.data.toList cs.data.toList)) ∧ Below w.heap.size w w' := by
  have c : Calls P (ρ.f 153) #[.string s, .string cs] w fun e w' => e = .returned (.int .i64 (Lib.indexAny s.data.toList cs.data.toList)) ∧ Below w.heap.size w w' :=
    (Any.strings_IndexAny_long { L with } (zero_of_info h116).1 (zero_of_info h116).2 s cs w (by decide) h8 hs (by decide) ascii_cs).mono fun e w' ⟨h1, h2⟩ => ⟨h1, by
      rw [h2]
      exact ((Below.refl _ _).alloc (Nat.le_refl _) _).alloc (by simp) _⟩
  have t3 := L.t3; have a3 := L.a3; have z3 := L.z3; have v3 := L.v3
  have t4 := L.t4; have a4 := L.a4; have z4 := L.z4; have v4 := L.v4
  have t9 := L.t9; have a9 := L.a9; have z9 := L.z9; have v9 := L.v9
  have e153 : ∀ args w, (callFunc (ρ.f 153) args).run P w = .ok (.enter (ρ.f 153) args) w := enters_of L.f153 (by kernel_rfl) rfl
  go_enter L.f150, Body.n150_ntmps ρ
  go_wp2_with (go_at_fn (ρ.f 153); refine c.mono ?_; rintro e w' ⟨rfl, hw⟩)
  go_ret
  exact ⟨rfl, hw⟩
def hasB (s : ByteArray) : Bool := s.data.toList.any fun c => c == 123 || c == 125
theorem hasB_lib (l : List UInt8) : Lib.containsAny l cs.data.toList = l.any fun c => c == 123 || c == 125 := by
  unfold Lib.containsAny
  induction l with
  | nil => rfl
  | cons b l ih =>
    have hc : cs.data.toList.contains b = (b == 123 || b == 125) := by
      show ([123, 125] : List UInt8).contains b = _
      simp
      rfl
    have hg := Lib.indexAny_ge cs.data.toList l
    rw [Lib.indexAny, hc, List.any_cons, ← ih]
    cases hb : (b == 123 || b == 125) with
    | true => simp
    | false =>
      simp only [Bool.false_eq_true, if_false, Bool.false_or]
      by_cases h1 : Lib.indexAny l cs.data.toList = -1
      · rw [if_pos (by rw [h1]; rfl), h1]
      · rw [if_neg (fun e => h1 (eq_of_beq e))]
        rw [decide_eq_decide]
        omega
theorem hasB_iff (s : ByteArray) : hasB s = true ↔ anyB s := by
  unfold hasB anyB hit
  rw [List.any_eq_true]
  constructor
  · rintro ⟨c, hc, h⟩
    obtain ⟨j, hj, rfl⟩ := List.getElem_of_mem hc
    have hj' : j < s.data.size := by simpa using hj
    refine ⟨j, hj', ?_⟩
    rw [Array.getD_eq_getD_getElem?, Array.getElem?_eq_getElem hj']
    simpa [Bool.or_eq_true] using h
  · rintro ⟨j, hj, h⟩
    have hj' : j < s.data.size := hj
    rw [Array.getD_eq_getD_getElem?, Array.getElem?_eq_getElem hj'] at h
    refine ⟨s.data[j], by simp, ?_⟩
    simpa [Bool.or_eq_true] using h
theorem mixedU : Tryd.prog.follows .mixedOrders = true := by kernel_rfl
theorem namedU : (Tryd.prog.funcs.toList.all fun fn => !(fn.name == "runtime.NumGoroutine")) = true := by kernel_rfl
theorem noGorU (f : FuncId) (fn : Func) (c : Code) (h : Tryd.prog.funcs[f]? = some fn) (_ : fn.body = some c) : (fn.name == "runtime.NumGoroutine") = false := by
  have := List.all_eq_true.1 namedU fn (by
    have := Array.mem_of_getElem? h
    simpa using this)
  simpa using this
theorem runU (n : Nat) (s c : ByteArray) {r : Bool} (h : (lv n).strings_ContainsAny s c = some r) : call Tryd.prog extG kp n 17 [.v (.one (.c (C.str s))), .v (.one (.c (C.str c)))] = some (strings_ContainsAny_r r) := by
  cases n with
  | zero => cases h
  | succ n =>
    rw [strings_ContainsAny_lv] at h
    obtain ⟨R, h1, h2⟩ := bodyK_ok noEq_ok (lv_ok n) (by kernel_rfl) (fun _ _ h => strings_ContainsAny_dr h) h
    rw [strings_ContainsAny_dr h2] at h1
    exact h1
theorem extU_ok : CallsOK Tryd.prog extG := extG_ok ib_ok
end Go.Vm.U
namespace Go.Vm.T
open Go Go.Vm Go.Proofs
def anyV (s chars : ByteArray) : Option Bool := cond ((chars.toList == Go.Vm.U.cs.toList) && decide (s.size ≤ 1048576)) (some (Go.Vm.U.hasB s)) none
theorem any_ok (a : ByteArray × ByteArray) (v : Bool) (h : anyV a.1 a.2 = some v) : CallOK Tryd.prog 17 [.v (.one (.c (C.str a.1))), .v (.one (.c (C.str a.2)))] ⟨.one (.d (.bool v)), []⟩ := by
  obtain ⟨s, c⟩ := a
  unfold anyV at h
  simp only at h
  cases hc : ((c.toList == Go.Vm.U.cs.toList) && decide (s.size ≤ 1048576)) with
  | false => rw [hc] at h; cases h
  | true =>
    rw [hc] at h
    cases h
    rw [Bool.and_eq_true, decide_eq_true_eq] at hc
    have e : c = Go.Vm.U.cs := str_eq.1 hc.1
    subst e
    by_cases h8 : s.size ≤ 8
    · obtain ⟨n, r, q1, q2⟩ := (Go.Vm.U.containsAny_tot s h8).get
      have := call_sound Go.Vm.U.mixedU Go.Vm.U.noGorU Go.Vm.U.extU_ok n _ _ _ (Go.Vm.U.runU n s Go.Vm.U.cs q2)
      have e : r = Go.Vm.U.hasB s := by
        have h1 := Go.Vm.U.hasB_iff s
        cases r <;> cases hb : Go.Vm.U.hasB s
        · rfl
        · exact absurd (q1.2 (h1.1 hb)) (by decide)
        · rw [h1.2 (q1.1 rfl)] at hb; cases hb
        · rfl
      subst e
      exact this
    · refine ⟨⟨Tryd.f17, _, Tryd.func17, by kernel_rfl, rfl⟩, fun vals W Z M tgs pls hood hargs _ _ hz => ?_⟩
      cases hargs with
      | one h1 h2 =>
        cases h2 with
        | one h3 h4 =>
          cases h4
          rw [Go.Vm.U.str_arg h1, Go.Vm.U.str_arg h3]
          have key := Go.Vm.U.containsAny_long Tryd.lays150 (by kernel_rfl) s W (by omega) (by omega)
          rw [Go.Vm.U.hasB_lib] at key
          exact key.mono fun e W' ⟨he, hb⟩ => ⟨_, Z, [], [], he, Go.Vm.U.below_bool hz hb⟩
end Go.Vm.T
/- strings.TrimLeft, Cut, Contains, ReplaceAll, as the machine is given them. -/
set_option linter.unusedVariables false
namespace Go.Vm.T
open Go Go.Vm Go.Proofs Go.RowKit
theorem below_str {P : Program} {W W' : World} {Z : Addr → Prop} {M : Nat → Prop} {r : ByteArray} (hz : ∀ A, Z A → A.block < W.heap.size) (h : Below W.heap.size W W') : ResOut P W Z M [] ⟨.one (.d (.str r)), []⟩ (.string r) W' Z [] [] := by
  obtain ⟨h1, h2, h3, h4, h5⟩ := h
  exact { res := .of (.one (.d (.str r) .nil)), refs := .nil, nodup := List.nodup_nil, own := (fun g hg => by simp at hg), zz := fun _ h => h, z := fun A hA => .inl hA, zlt := fun A hA => Nat.lt_of_lt_of_le (hz A hA) h4, frame := fun k hk _ => h5 k hk, size := h4, os := h1, tape := h2, output := h3 }
def bl (l : List UInt8) : ByteArray := ⟨l.toArray⟩
def blanks : ByteArray := ⟨#[9, 10, 13, 32]⟩
def trimV (s c : ByteArray) : Option ByteArray := cond (c.toList == blanks.toList) (some (bl (Lib.trimLeftS s.data.toList blanks.data.toList))) none
def contV (s c : ByteArray) : Option Bool := cond (decide (s.size < 4294967281)) (some (Lib.contains s.data.toList c.data.toList)) none
def cutV (s c : ByteArray) : Option (ByteArray × ByteArray × Bool) := cond (decide (s.size < 4294967281)) (some (bl (Lib.cut s.data.toList c.data.toList).1, bl (Lib.cut s.data.toList c.data.toList).2.1, (Lib.cut s.data.toList c.data.toList).2.2)) none
def replV (s old new : ByteArray) : Option ByteArray :=
  cond (decide (s.size < 4294967281) && decide (1 ≤ old.size) && decide (s.size + Lib.countB s old * new.size ≤ 140737488355328)) (some (bl (Lib.replaceAll s.data.toList old.data.toList new.data.toList))) none
theorem ascii_blanks : ∀ (j : Nat) b, blanks.data.toList[j]? = some b → b.toNat < 128 := fun j b h => by
  have : b ∈ blanks.data.toList := List.mem_of_getElem? h
  have : b ∈ ([9, 10, 13, 32] : List UInt8) := this
  simp only [List.mem_cons, List.not_mem_nil, or_false] at this
  rcases this with rfl | rfl | rfl | rfl <;> decide
/-- the runtime's number that Index asks for -/
theorem lenCell {W : World} {M : Nat → Prop} (hood : Hood Tryd.prog W M) : ∃ m, W.cell? ⟨0, 0, none⟩ = some (.int .i64 m) := by
  obtain ⟨Ws, hsh, hg⟩ := hood.sh
  obtain ⟨m, hm⟩ := Tryd.laysM155.s1_3 Ws hsh
  refine ⟨m, ?_⟩
  have hm : Ws.cell? ⟨0, 0, none⟩ = some (.int .i64 m) := hm
  rw [← hm]
  exact World.cell?_of_block (hg 0 (show 0 < Tryd.prog.globals.size from Nat.lt_of_lt_of_eq (Nat.succ_pos _) (show Nat.succ (Tryd.prog.globals.size - 1) = Tryd.prog.globals.size by kernel_rfl)))
theorem trim_ok (a : ByteArray × ByteArray) (v : ByteArray) (h : trimV a.1 a.2 = some v) : CallOK Tryd.prog 12 [.v (.one (.c (C.str a.1))), .v (.one (.c (C.str a.2)))] ⟨.one (.d (.str v)), []⟩ := by
  obtain ⟨s, c⟩ := a
  unfold trimV at h
  simp only at h
  cases hc : (c.toList == blanks.toList) with
  | false => rw [hc] at h; cases h
  | true =>
    rw [hc] at h
    cases h
    obtain rfl : c = blanks := str_eq.1 hc
    refine ⟨⟨Tryd.f12, _, Tryd.func12, by kernel_rfl, rfl⟩, fun vals W Z M tgs pls hood hargs _ _ hz => ?_⟩
    cases hargs with
    | one h1 h2 =>
      cases h2 with
      | one h3 h4 =>
        cases h4
        rw [Go.Vm.U.str_arg h1, Go.Vm.U.str_arg h3]
        exact (Any.strings_TrimLeft_laid Tryd.lays161 (by kernel_rfl) s blanks W (of_decide_eq_true (by kernel_rfl)) ascii_blanks).mono fun e W' ⟨he, hb⟩ => ⟨_, Z, [], [], he, below_str hz hb⟩
theorem cont_ok (a : ByteArray × ByteArray) (v : Bool) (h : contV a.1 a.2 = some v) : CallOK Tryd.prog 18 [.v (.one (.c (C.str a.1))), .v (.one (.c (C.str a.2)))] ⟨.one (.d (.bool v)), []⟩ := by
  obtain ⟨s, c⟩ := a
  unfold contV at h
  simp only at h
  cases hc : decide (s.size < 4294967281) with
  | false => rw [hc] at h; cases h
  | true =>
    rw [hc] at h
    cases h
    refine ⟨⟨Tryd.f18, _, Tryd.func18, by kernel_rfl, rfl⟩, fun vals W Z M tgs pls hood hargs _ _ hz => ?_⟩
    cases hargs with
    | one h1 h2 =>
      cases h2 with
      | one h3 h4 =>
        cases h4
        rw [Go.Vm.U.str_arg h1, Go.Vm.U.str_arg h3]
        obtain ⟨m, hm⟩ := lenCell hood
        exact (Tryd.strings_Contains s c m W (of_decide_eq_true hc) hm).mono fun e W' ⟨he, hb⟩ => ⟨_, Z, [], [], he, Go.Vm.U.below_bool hz (hb ▸ Below.refl _ _)⟩
theorem cut_ok (a : ByteArray × ByteArray) (v : ByteArray × ByteArray × Bool) (h : cutV a.1 a.2 = some v) : CallOK Tryd.prog 31 [.v (.one (.c (C.str a.1))), .v (.one (.c (C.str a.2)))] ⟨.tup [.one (.d (.str v.1)), .one (.d (.str v.2.1)), .one (.d (.bool v.2.2))], []⟩ := by
  obtain ⟨s, c⟩ := a
  unfold cutV at h
  simp only at h
  cases hc : decide (s.size < 4294967281) with
  | false => rw [hc] at h; cases h
  | true =>
    rw [hc] at h
    cases h
    refine ⟨⟨Tryd.f31, _, Tryd.func31, by kernel_rfl, rfl⟩, fun vals W Z M tgs pls hood hargs _ _ hz => ?_⟩
    cases hargs with
    | one h1 h2 =>
      cases h2 with
      | one h3 h4 =>
        cases h4
        rw [Go.Vm.U.str_arg h1, Go.Vm.U.str_arg h3]
        obtain ⟨m, hm⟩ := lenCell hood
        refine (Tryd.strings_Cut s c m W (of_decide_eq_true hc) hm).mono fun e W' ⟨he, n, hb⟩ => ⟨_, Z, [], [], he, ?_⟩
        obtain ⟨h1, h2, h3, h4, h5⟩ := below_drewN (Below.refl W.heap.size W) n
        subst hb
        exact { res := .tup (.cons (.one (.d (.str _) .nil)) (.cons (.one (.d (.str _) .nil)) (.cons (.one (.d (.bool _) .nil)) .nil))), refs := .nil, nodup := List.nodup_nil, own := (fun g hg => by simp at hg), zz := fun _ h => h, z := fun A hA => .inl hA, zlt := fun A hA => Nat.lt_of_lt_of_le (hz A hA) h4, frame := fun k hk _ => h5 k hk, size := h4, os := h1, tape := h2, output := h3 }
theorem repl_ok (a : ByteArray × ByteArray × ByteArray) (v : ByteArray) (h : replV a.1 a.2.1 a.2.2 = some v) : CallOK Tryd.prog 19 [.v (.one (.c (C.str a.1))), .v (.one (.c (C.str a.2.1))), .v (.one (.c (C.str a.2.2)))] ⟨.one (.d (.str v)), []⟩ := by
  obtain ⟨s, old, new⟩ := a
  unfold replV at h
  simp only at h
  cases hc : (decide (s.size < 4294967281) && decide (1 ≤ old.size) && decide (s.size + Lib.countB s old * new.size ≤ 140737488355328)) with
  | false => rw [hc] at h; cases h
  | true =>
    rw [hc] at h
    cases h
    simp only [Bool.and_eq_true, decide_eq_true_eq] at hc
    refine ⟨⟨Tryd.f19, _, Tryd.func19, by kernel_rfl, rfl⟩, fun vals W Z M tgs pls hood hargs _ _ hz => ?_⟩
    cases hargs with
    | one h1 h2 =>
      cases h2 with
      | one h3 h4 =>
        cases h4 with
        | one h5 h6 =>
          cases h6
          rw [Go.Vm.U.str_arg h1, Go.Vm.U.str_arg h3, Go.Vm.U.str_arg h5]
          obtain ⟨m, hm⟩ := lenCell hood
          exact (Tryd.strings_ReplaceAll s old new m W hc.1.1 hm hc.1.2 hc.2).mono fun e W' ⟨he, hb⟩ => ⟨_, Z, [], [], he, below_str hz hb⟩
end Go.Vm.T
