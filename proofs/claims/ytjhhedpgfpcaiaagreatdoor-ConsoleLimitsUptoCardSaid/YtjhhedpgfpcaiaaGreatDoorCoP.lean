/-
  DERIVED: THE SHELF's CONTRACTS AT THIS DUMP, IN PLAIN WORDS (tools/lay-plain.mjs out of 'TzS.lean', which tools/lay-shelf.mjs wrote): THE SAME DECLARATIONS UNDER THE SAME NAMES: 'import', 'namespace', 'open', 'def', 'theorem' AND NOTHING ELSE: no command of the shelf's: FOR A HAND-IN. Each laying: the table of numbers ('.._ren') and one theorem, a field a fact of the dump's own or the kernel's comparison; each contract: ONE APPLICATION.
-/
import Derived.Shelf.Strings.OnBuilder
import Derived.Shelf.Strings.BuilderK
import Derived.Shelf.LaysM
import Derived.Shelf.Strings.Repeat
import Derived.Shelf.Strings.Replace
import Derived.Shelf.Strings.SplitShaped
import Derived.Ground.NamesProg
import Derived.Test.YtjhhedpgfpcaiaaGreatDoorProg
import Derived.Test.YtjhhedpgfpcaiaaGreatDoorCoS
import Derived.Test.YtjhhedpgfpcaiaaGreatDoorRows
import Derived.Test.YtjhhedpgfpcaiaaGreatDoorChecked
import Derived.Lib.SplitLaws
import Derived.Lib.Split
import Derived.Lib.IndexBytes
import Derived.Lib.Join
namespace Go.Proofs
set_option linter.constructorNameAsVariable false
set_option linter.unusedSimpArgs false
set_option linter.unusedVariables false
open Go.Shelf
def Tryz.lays169_ren : Go.Shelf.Ren := ⟨fun | 169 => 13 | n => n, fun | 70 => 31 | 9 => 9 | 0 => 0 | 72 => 34 | 37 => 32 | 127 => 78 | 3 => 3 | 5 => 5 | n => n, fun | n => n⟩
theorem Tryz.lays169 : Go.Proofs.Lays.n169 Tryz.prog Tryz.lays169_ren := {
  mixed := by kernel_rfl
  f169 := Tryz.func13.trans (congrArg some (by kernel_rfl))
  t0 := Tryz.underlying0
  a0 := Tryz.isAgg0
  z0 := Tryz.sizeOf0
  v0 := Tryz.zeroValue0
  t3 := Tryz.underlying3
  a3 := Tryz.isAgg3
  z3 := Tryz.sizeOf3
  v3 := Tryz.zeroValue3
  t9 := Tryz.underlying9
  a9 := Tryz.isAgg9
  z9 := Tryz.sizeOf9
  v9 := Tryz.zeroValue9
  t37 := Tryz.underlying32
  a37 := Tryz.isAgg32
  z37 := Tryz.sizeOf32
  v37 := Tryz.zeroValue32
  t70 := Tryz.underlying31
  a70 := Tryz.isAgg31
  z70 := Tryz.sizeOf31
  v70 := Tryz.zeroValue31
  t72 := Tryz.underlying34
  a72 := Tryz.isAgg34
  z72 := Tryz.sizeOf34
  v72 := Tryz.zeroValue34
  t127 := Tryz.underlying78
  a127 := Tryz.isAgg78
  z127 := Tryz.sizeOf78
  v127 := Tryz.zeroValue78 }
theorem Tryz.Builder_Extra_169 : Builder.Extra Tryz.prog Tryz.lays169_ren := {
  sizeBuilder := by kernel_rfl
  liesBuilder := by kernel_rfl
  t5 := Tryz.underlying5
  a5 := Tryz.isAgg5
  z5 := Tryz.sizeOf5
  v5 := Tryz.zeroValue5
  infoByte := by kernel_rfl
  cellsByte := by kernel_rfl
  sizeByte := by kernel_rfl
  neB5 := by decide }
def Tryz.lays156_ren : Go.Shelf.Ren := ⟨fun | 156 => 82 | 165 => 10 | 166 => 11 | 169 => 13 | 240 => 24 | 241 => 25 | 276 => 37 | 277 => 38 | n => n, fun | 31 => 42 | 9 => 9 | 3 => 3 | 4 => 4 | 0 => 0 | 20 => 20 | 72 => 34 | 76 => 38 | 70 => 31 | 37 => 32 | 75 => 37 | 127 => 78 | 164 => 83 | 5 => 5 | 80 => 41 | n => n, fun | n => n⟩
theorem Tryz.lays156 : Go.Proofs.Lays.n156 Tryz.prog Tryz.lays156_ren := {
  mixed := by kernel_rfl
  f156 := Tryz.func82.trans (congrArg some (by kernel_rfl))
  f165 := Tryz.func10.trans (congrArg some (by kernel_rfl))
  f166 := Tryz.func11.trans (congrArg some (by kernel_rfl))
  f169 := Tryz.func13.trans (congrArg some (by kernel_rfl))
  f240 := Tryz.func24.trans (congrArg some (by kernel_rfl))
  f241 := Tryz.func25.trans (congrArg some (by kernel_rfl))
  f276 := Tryz.func37.trans (congrArg some (by kernel_rfl))
  f277 := Tryz.func38.trans (congrArg some (by kernel_rfl))
  t0 := Tryz.underlying0
  a0 := Tryz.isAgg0
  z0 := Tryz.sizeOf0
  v0 := Tryz.zeroValue0
  t3 := Tryz.underlying3
  a3 := Tryz.isAgg3
  z3 := Tryz.sizeOf3
  v3 := Tryz.zeroValue3
  t4 := Tryz.underlying4
  a4 := Tryz.isAgg4
  z4 := Tryz.sizeOf4
  v4 := Tryz.zeroValue4
  t9 := Tryz.underlying9
  a9 := Tryz.isAgg9
  z9 := Tryz.sizeOf9
  v9 := Tryz.zeroValue9
  t20 := Tryz.underlying20
  a20 := Tryz.isAgg20
  z20 := Tryz.sizeOf20
  v20 := Tryz.zeroValue20
  t31 := Tryz.underlying42
  a31 := Tryz.isAgg42
  z31 := Tryz.sizeOf42
  v31 := Tryz.zeroValue42
  t37 := Tryz.underlying32
  a37 := Tryz.isAgg32
  z37 := Tryz.sizeOf32
  v37 := Tryz.zeroValue32
  t70 := Tryz.underlying31
  a70 := Tryz.isAgg31
  z70 := Tryz.sizeOf31
  v70 := Tryz.zeroValue31
  t72 := Tryz.underlying34
  a72 := Tryz.isAgg34
  z72 := Tryz.sizeOf34
  v72 := Tryz.zeroValue34
  t75 := Tryz.underlying37
  a75 := Tryz.isAgg37
  z75 := Tryz.sizeOf37
  v75 := Tryz.zeroValue37
  t76 := Tryz.underlying38
  a76 := Tryz.isAgg38
  z76 := Tryz.sizeOf38
  v76 := Tryz.zeroValue38
  t127 := Tryz.underlying78
  a127 := Tryz.isAgg78
  z127 := Tryz.sizeOf78
  v127 := Tryz.zeroValue78
  t164 := Tryz.underlying83
  a164 := Tryz.isAgg83
  z164 := Tryz.sizeOf83
  v164 := Tryz.zeroValue83 }
theorem Tryz.Builder_Extra_156 : Builder.Extra Tryz.prog Tryz.lays156_ren := {
  sizeBuilder := by kernel_rfl
  liesBuilder := by kernel_rfl
  t5 := Tryz.underlying5
  a5 := Tryz.isAgg5
  z5 := Tryz.sizeOf5
  v5 := Tryz.zeroValue5
  infoByte := by kernel_rfl
  cellsByte := by kernel_rfl
  sizeByte := by kernel_rfl
  neB5 := by decide }
def Tryz.lays155_ren : Go.Shelf.Ren := ⟨fun | 155 => 45 | 154 => 66 | 138 => 40 | 165 => 10 | 143 => 41 | 166 => 11 | 197 => 55 | 169 => 13 | 195 => 54 | 218 => 56 | 240 => 24 | 241 => 25 | 219 => 43 | 260 => 92 | 276 => 37 | 277 => 38 | 217 => 58 | 225 => 59 | 224 => 60 | 267 => 61 | 266 => 97 | 314 => 98 | n => n, fun | 9 => 9 | 3 => 3 | 4 => 4 | 72 => 34 | 0 => 0 | 76 => 38 | 105 => 122 | 21 => 21 | 5 => 5 | 70 => 31 | 20 => 20 | 37 => 32 | 75 => 37 | 127 => 78 | 164 => 83 | 46 => 23 | 119 => 271 | 139 => 274 | 138 => 273 | 146 => 73 | 51 => 72 | 80 => 41 | n => n, fun | 1 => 0 | 3 => 1 | 4 => 2 | n => n⟩
theorem Tryz.lays155 : Go.Proofs.Lays.n155 Tryz.prog Tryz.lays155_ren := {
  mixed := by kernel_rfl
  f138 := Tryz.func40.trans (congrArg some (by kernel_rfl))
  f143 := Tryz.func41.trans (congrArg some (by kernel_rfl))
  f154 := Tryz.func66.trans (congrArg some (by kernel_rfl))
  f155 := Tryz.func45.trans (congrArg some (by kernel_rfl))
  f165 := Tryz.func10.trans (congrArg some (by kernel_rfl))
  f166 := Tryz.func11.trans (congrArg some (by kernel_rfl))
  f169 := Tryz.func13.trans (congrArg some (by kernel_rfl))
  f195 := Tryz.func54.trans (congrArg some (by kernel_rfl))
  f197 := Tryz.func55.trans (congrArg some (by kernel_rfl))
  f217 := Tryz.func58.trans (congrArg some (by kernel_rfl))
  f218 := Tryz.func56.trans (congrArg some (by kernel_rfl))
  f219 := Tryz.func43.trans (congrArg some (by kernel_rfl))
  f224 := Tryz.func60.trans (congrArg some (by kernel_rfl))
  f225 := Tryz.func59.trans (congrArg some (by kernel_rfl))
  f240 := Tryz.func24.trans (congrArg some (by kernel_rfl))
  f241 := Tryz.func25.trans (congrArg some (by kernel_rfl))
  f260 := Tryz.func92.trans (congrArg some (by kernel_rfl))
  f266 := Tryz.func97.trans (congrArg some (by kernel_rfl))
  f267 := Tryz.func61.trans (congrArg some (by kernel_rfl))
  f276 := Tryz.func37.trans (congrArg some (by kernel_rfl))
  f277 := Tryz.func38.trans (congrArg some (by kernel_rfl))
  f314 := Tryz.func98.trans (congrArg some (by kernel_rfl))
  t0 := Tryz.underlying0
  a0 := Tryz.isAgg0
  z0 := Tryz.sizeOf0
  v0 := Tryz.zeroValue0
  t3 := Tryz.underlying3
  a3 := Tryz.isAgg3
  z3 := Tryz.sizeOf3
  v3 := Tryz.zeroValue3
  t4 := Tryz.underlying4
  a4 := Tryz.isAgg4
  z4 := Tryz.sizeOf4
  v4 := Tryz.zeroValue4
  t5 := Tryz.underlying5
  a5 := Tryz.isAgg5
  z5 := Tryz.sizeOf5
  v5 := Tryz.zeroValue5
  t9 := Tryz.underlying9
  a9 := Tryz.isAgg9
  z9 := Tryz.sizeOf9
  v9 := Tryz.zeroValue9
  t20 := Tryz.underlying20
  a20 := Tryz.isAgg20
  z20 := Tryz.sizeOf20
  v20 := Tryz.zeroValue20
  t21 := Tryz.underlying21
  a21 := Tryz.isAgg21
  z21 := Tryz.sizeOf21
  v21 := Tryz.zeroValue21
  t37 := Tryz.underlying32
  a37 := Tryz.isAgg32
  z37 := Tryz.sizeOf32
  v37 := Tryz.zeroValue32
  t46 := Tryz.underlying23
  a46 := Tryz.isAgg23
  z46 := Tryz.sizeOf23
  v46 := Tryz.zeroValue23
  t51 := Tryz.underlying72
  a51 := Tryz.isAgg72
  z51 := Tryz.sizeOf72
  v51 := Tryz.zeroValue72
  t70 := Tryz.underlying31
  a70 := Tryz.isAgg31
  z70 := Tryz.sizeOf31
  v70 := Tryz.zeroValue31
  t72 := Tryz.underlying34
  a72 := Tryz.isAgg34
  z72 := Tryz.sizeOf34
  v72 := Tryz.zeroValue34
  t75 := Tryz.underlying37
  a75 := Tryz.isAgg37
  z75 := Tryz.sizeOf37
  v75 := Tryz.zeroValue37
  t76 := Tryz.underlying38
  a76 := Tryz.isAgg38
  z76 := Tryz.sizeOf38
  v76 := Tryz.zeroValue38
  t105 := Tryz.underlying122
  a105 := Tryz.isAgg122
  z105 := Tryz.sizeOf122
  v105 := Tryz.zeroValue122
  t119 := Tryz.underlying271
  a119 := Tryz.isAgg271
  z119 := Tryz.sizeOf271
  t127 := Tryz.underlying78
  a127 := Tryz.isAgg78
  z127 := Tryz.sizeOf78
  v127 := Tryz.zeroValue78
  t138 := Tryz.underlying273
  a138 := Tryz.isAgg273
  z138 := Tryz.sizeOf273
  v138 := Tryz.zeroValue273
  t139 := Tryz.underlying274
  a139 := Tryz.isAgg274
  z139 := Tryz.sizeOf274
  v139 := Tryz.zeroValue274
  t146 := Tryz.underlying73
  a146 := Tryz.isAgg73
  z146 := Tryz.sizeOf73
  v146 := Tryz.zeroValue73
  t164 := Tryz.underlying83
  a164 := Tryz.isAgg83
  z164 := Tryz.sizeOf83
  v164 := Tryz.zeroValue83
  g1 := by kernel_rfl
  g3 := by kernel_rfl
  g4 := by kernel_rfl }
theorem Tryz.Builder_Extra_155 : Builder.Extra Tryz.prog Tryz.lays155_ren := {
  sizeBuilder := by kernel_rfl
  liesBuilder := by kernel_rfl
  t5 := Tryz.underlying5
  a5 := Tryz.isAgg5
  z5 := Tryz.sizeOf5
  v5 := Tryz.zeroValue5
  infoByte := by kernel_rfl
  cellsByte := by kernel_rfl
  sizeByte := by kernel_rfl
  neB5 := by decide }
def Tryz.lays105_ren : Go.Shelf.Ren := ⟨fun | 105 => 5 | 212 => 8 | 99 => 9 | 165 => 10 | 166 => 11 | 170 => 12 | 169 => 13 | 263 => 21 | 264 => 22 | 206 => 23 | 240 => 24 | 241 => 25 | 276 => 37 | 277 => 38 | n => n, fun | 9 => 9 | 3 => 3 | 4 => 4 | 20 => 20 | 0 => 0 | 46 => 23 | 109 => 28 | 5 => 5 | 72 => 34 | 76 => 38 | 51 => 72 | 146 => 73 | 53 => 75 | 148 => 76 | 70 => 31 | 37 => 32 | 75 => 37 | 127 => 78 | 164 => 83 | 80 => 41 | n => n, fun | n => n⟩
theorem Tryz.lays105 : Go.Proofs.Lays.n105 Tryz.prog Tryz.lays105_ren := {
  mixed := by kernel_rfl
  f99 := Tryz.func9.trans (congrArg some (by kernel_rfl))
  f105 := Tryz.func5.trans (congrArg some (by kernel_rfl))
  f165 := Tryz.func10.trans (congrArg some (by kernel_rfl))
  f166 := Tryz.func11.trans (congrArg some (by kernel_rfl))
  f169 := Tryz.func13.trans (congrArg some (by kernel_rfl))
  f170 := Tryz.func12.trans (congrArg some (by kernel_rfl))
  f206 := Tryz.func23.trans (congrArg some (by kernel_rfl))
  f212 := Tryz.func8.trans (congrArg some (by kernel_rfl))
  f240 := Tryz.func24.trans (congrArg some (by kernel_rfl))
  f241 := Tryz.func25.trans (congrArg some (by kernel_rfl))
  f263 := Tryz.func21.trans (congrArg some (by kernel_rfl))
  f264 := Tryz.func22.trans (congrArg some (by kernel_rfl))
  f276 := Tryz.func37.trans (congrArg some (by kernel_rfl))
  f277 := Tryz.func38.trans (congrArg some (by kernel_rfl))
  t0 := Tryz.underlying0
  a0 := Tryz.isAgg0
  z0 := Tryz.sizeOf0
  v0 := Tryz.zeroValue0
  t3 := Tryz.underlying3
  a3 := Tryz.isAgg3
  z3 := Tryz.sizeOf3
  v3 := Tryz.zeroValue3
  t4 := Tryz.underlying4
  a4 := Tryz.isAgg4
  z4 := Tryz.sizeOf4
  v4 := Tryz.zeroValue4
  t5 := Tryz.underlying5
  a5 := Tryz.isAgg5
  z5 := Tryz.sizeOf5
  v5 := Tryz.zeroValue5
  t9 := Tryz.underlying9
  a9 := Tryz.isAgg9
  z9 := Tryz.sizeOf9
  v9 := Tryz.zeroValue9
  t20 := Tryz.underlying20
  a20 := Tryz.isAgg20
  z20 := Tryz.sizeOf20
  v20 := Tryz.zeroValue20
  t37 := Tryz.underlying32
  a37 := Tryz.isAgg32
  z37 := Tryz.sizeOf32
  v37 := Tryz.zeroValue32
  t46 := Tryz.underlying23
  a46 := Tryz.isAgg23
  z46 := Tryz.sizeOf23
  v46 := Tryz.zeroValue23
  t51 := Tryz.underlying72
  a51 := Tryz.isAgg72
  z51 := Tryz.sizeOf72
  v51 := Tryz.zeroValue72
  t53 := Tryz.underlying75
  a53 := Tryz.isAgg75
  z53 := Tryz.sizeOf75
  v53 := Tryz.zeroValue75
  t70 := Tryz.underlying31
  a70 := Tryz.isAgg31
  z70 := Tryz.sizeOf31
  v70 := Tryz.zeroValue31
  t72 := Tryz.underlying34
  a72 := Tryz.isAgg34
  z72 := Tryz.sizeOf34
  v72 := Tryz.zeroValue34
  t75 := Tryz.underlying37
  a75 := Tryz.isAgg37
  z75 := Tryz.sizeOf37
  v75 := Tryz.zeroValue37
  t76 := Tryz.underlying38
  a76 := Tryz.isAgg38
  z76 := Tryz.sizeOf38
  v76 := Tryz.zeroValue38
  t109 := Tryz.underlying28
  a109 := Tryz.isAgg28
  z109 := Tryz.sizeOf28
  v109 := Tryz.zeroValue28
  t127 := Tryz.underlying78
  a127 := Tryz.isAgg78
  z127 := Tryz.sizeOf78
  v127 := Tryz.zeroValue78
  t146 := Tryz.underlying73
  a146 := Tryz.isAgg73
  z146 := Tryz.sizeOf73
  v146 := Tryz.zeroValue73
  t148 := Tryz.underlying76
  a148 := Tryz.isAgg76
  z148 := Tryz.sizeOf76
  v148 := Tryz.zeroValue76
  t164 := Tryz.underlying83
  a164 := Tryz.isAgg83
  z164 := Tryz.sizeOf83
  v164 := Tryz.zeroValue83 }
theorem Tryz.Builder_Extra_105 : Builder.Extra Tryz.prog Tryz.lays105_ren := {
  sizeBuilder := by kernel_rfl
  liesBuilder := by kernel_rfl
  t5 := Tryz.underlying5
  a5 := Tryz.isAgg5
  z5 := Tryz.sizeOf5
  v5 := Tryz.zeroValue5
  infoByte := by kernel_rfl
  cellsByte := by kernel_rfl
  sizeByte := by kernel_rfl
  neB5 := by decide }
def Tryz.laysM146_ren : Go.Shelf.Ren := ⟨fun | 146 => 14 | 221 => 26 | 268 => 39 | 138 => 40 | 143 => 41 | 195 => 54 | 197 => 55 | 218 => 56 | 219 => 43 | 260 => 92 | 217 => 58 | 225 => 59 | 224 => 60 | 267 => 61 | 266 => 97 | 314 => 98 | n => n, fun | 9 => 9 | 31 => 42 | 3 => 3 | 4 => 4 | 0 => 0 | 105 => 122 | 21 => 21 | 5 => 5 | 46 => 23 | 119 => 271 | 139 => 274 | 138 => 273 | 146 => 73 | 51 => 72 | n => n, fun | 1 => 0 | 3 => 1 | 4 => 2 | n => n⟩
theorem Tryz.laysM146 : Go.Proofs.LaysM.n146 Tryz.prog Tryz.laysM146_ren := {
  mixed := by kernel_rfl
  f138 := Tryz.func40.trans (congrArg some (by kernel_rfl))
  f143 := Tryz.func41.trans (congrArg some (by kernel_rfl))
  f146 := Tryz.func14.trans (congrArg some (by kernel_rfl))
  f195 := Tryz.func54.trans (congrArg some (by kernel_rfl))
  f197 := Tryz.func55.trans (congrArg some (by kernel_rfl))
  f217 := Tryz.func58.trans (congrArg some (by kernel_rfl))
  f218 := Tryz.func56.trans (congrArg some (by kernel_rfl))
  f219 := Tryz.func43.trans (congrArg some (by kernel_rfl))
  f221 := Tryz.func26.trans (congrArg some (by kernel_rfl))
  f224 := Tryz.func60.trans (congrArg some (by kernel_rfl))
  f225 := Tryz.func59.trans (congrArg some (by kernel_rfl))
  f260 := Tryz.func92.trans (congrArg some (by kernel_rfl))
  f266 := Tryz.func97.trans (congrArg some (by kernel_rfl))
  f267 := Tryz.func61.trans (congrArg some (by kernel_rfl))
  f268 := Tryz.func39.trans (congrArg some (by kernel_rfl))
  f314 := Tryz.func98.trans (congrArg some (by kernel_rfl))
  t0 := Tryz.underlying0
  a0 := Tryz.isAgg0
  z0 := Tryz.sizeOf0
  v0 := Tryz.zeroValue0
  t3 := Tryz.underlying3
  a3 := Tryz.isAgg3
  z3 := Tryz.sizeOf3
  v3 := Tryz.zeroValue3
  t4 := Tryz.underlying4
  a4 := Tryz.isAgg4
  z4 := Tryz.sizeOf4
  v4 := Tryz.zeroValue4
  t5 := Tryz.underlying5
  a5 := Tryz.isAgg5
  z5 := Tryz.sizeOf5
  v5 := Tryz.zeroValue5
  t9 := Tryz.underlying9
  a9 := Tryz.isAgg9
  z9 := Tryz.sizeOf9
  v9 := Tryz.zeroValue9
  t21 := Tryz.underlying21
  a21 := Tryz.isAgg21
  z21 := Tryz.sizeOf21
  v21 := Tryz.zeroValue21
  t31 := Tryz.underlying42
  a31 := Tryz.isAgg42
  z31 := Tryz.sizeOf42
  v31 := Tryz.zeroValue42
  t46 := Tryz.underlying23
  a46 := Tryz.isAgg23
  z46 := Tryz.sizeOf23
  v46 := Tryz.zeroValue23
  t51 := Tryz.underlying72
  a51 := Tryz.isAgg72
  z51 := Tryz.sizeOf72
  v51 := Tryz.zeroValue72
  t105 := Tryz.underlying122
  a105 := Tryz.isAgg122
  z105 := Tryz.sizeOf122
  v105 := Tryz.zeroValue122
  t119 := Tryz.underlying271
  a119 := Tryz.isAgg271
  z119 := Tryz.sizeOf271
  t138 := Tryz.underlying273
  a138 := Tryz.isAgg273
  z138 := Tryz.sizeOf273
  v138 := Tryz.zeroValue273
  t139 := Tryz.underlying274
  a139 := Tryz.isAgg274
  z139 := Tryz.sizeOf274
  v139 := Tryz.zeroValue274
  t146 := Tryz.underlying73
  a146 := Tryz.isAgg73
  z146 := Tryz.sizeOf73
  v146 := Tryz.zeroValue73
  g1 := by kernel_rfl
  g3 := by kernel_rfl
  g4 := by kernel_rfl
  i0 := by kernel_rfl
  i3 := by kernel_rfl
  i4 := by kernel_rfl
  i5 := by kernel_rfl
  i9 := by kernel_rfl
  i21 := by kernel_rfl
  i31 := by kernel_rfl
  i46 := by kernel_rfl
  i51 := by kernel_rfl
  i105 := by kernel_rfl
  i138 := by kernel_rfl
  i139 := by kernel_rfl
  i146 := by kernel_rfl
  m1 := by kernel_rfl
  s1_3 := fun w h => Go.Proofs.cell_of_shapedOpen_int (zero := #[.int .i64 0]) (t := 3) h (of_decide_eq_true (by kernel_rfl)) (by kernel_rfl) rfl (by kernel_rfl) (by kernel_rfl) Tryz.underlying3
  m3 := by kernel_rfl
  m4 := by kernel_rfl }
def Tryz.lays145_ren : Go.Shelf.Ren := ⟨fun | 145 => 18 | 220 => 28 | 219 => 43 | 217 => 58 | 225 => 59 | 224 => 60 | 267 => 61 | 266 => 97 | 314 => 98 | n => n, fun | 9 => 9 | 4 => 4 | 59 => 48 | 3 => 3 | 5 => 5 | 46 => 23 | 146 => 73 | 51 => 72 | n => n, fun | 1 => 0 | n => n⟩
theorem Tryz.lays145 : Go.Proofs.Lays.n145 Tryz.prog Tryz.lays145_ren := {
  mixed := by kernel_rfl
  f145 := Tryz.func18.trans (congrArg some (by kernel_rfl))
  f217 := Tryz.func58.trans (congrArg some (by kernel_rfl))
  f219 := Tryz.func43.trans (congrArg some (by kernel_rfl))
  f220 := Tryz.func28.trans (congrArg some (by kernel_rfl))
  f224 := Tryz.func60.trans (congrArg some (by kernel_rfl))
  f225 := Tryz.func59.trans (congrArg some (by kernel_rfl))
  f266 := Tryz.func97.trans (congrArg some (by kernel_rfl))
  f267 := Tryz.func61.trans (congrArg some (by kernel_rfl))
  f314 := Tryz.func98.trans (congrArg some (by kernel_rfl))
  t3 := Tryz.underlying3
  a3 := Tryz.isAgg3
  z3 := Tryz.sizeOf3
  v3 := Tryz.zeroValue3
  t4 := Tryz.underlying4
  a4 := Tryz.isAgg4
  z4 := Tryz.sizeOf4
  v4 := Tryz.zeroValue4
  t5 := Tryz.underlying5
  a5 := Tryz.isAgg5
  z5 := Tryz.sizeOf5
  v5 := Tryz.zeroValue5
  t9 := Tryz.underlying9
  a9 := Tryz.isAgg9
  z9 := Tryz.sizeOf9
  v9 := Tryz.zeroValue9
  t46 := Tryz.underlying23
  a46 := Tryz.isAgg23
  z46 := Tryz.sizeOf23
  v46 := Tryz.zeroValue23
  t51 := Tryz.underlying72
  a51 := Tryz.isAgg72
  z51 := Tryz.sizeOf72
  v51 := Tryz.zeroValue72
  t59 := Tryz.underlying48
  a59 := Tryz.isAgg48
  z59 := Tryz.sizeOf48
  v59 := Tryz.zeroValue48
  t146 := Tryz.underlying73
  a146 := Tryz.isAgg73
  z146 := Tryz.sizeOf73
  v146 := Tryz.zeroValue73
  g1 := by kernel_rfl }
def Tryz.laysM284_ren : Go.Shelf.Ren := ⟨fun | 284 => 94 | 129 => 136 | 317 => 135 | 318 => 137 | n => n, fun | 53 => 75 | 3 => 3 | 212 => 276 | 0 => 0 | 4 => 4 | 46 => 23 | 5 => 5 | 9 => 9 | n => n, fun | 17 => 3 | n => n⟩
theorem Tryz.laysM284 : Go.Proofs.LaysM.n284 Tryz.prog Tryz.laysM284_ren := {
  mixed := by kernel_rfl
  f129 := Tryz.func136.trans (congrArg some (by kernel_rfl))
  f284 := Tryz.func94.trans (congrArg some (by kernel_rfl))
  f317 := Tryz.func135.trans (congrArg some (by kernel_rfl))
  f318 := Tryz.func137.trans (congrArg some (by kernel_rfl))
  t0 := Tryz.underlying0
  a0 := Tryz.isAgg0
  z0 := Tryz.sizeOf0
  v0 := Tryz.zeroValue0
  t3 := Tryz.underlying3
  a3 := Tryz.isAgg3
  z3 := Tryz.sizeOf3
  v3 := Tryz.zeroValue3
  t4 := Tryz.underlying4
  a4 := Tryz.isAgg4
  z4 := Tryz.sizeOf4
  v4 := Tryz.zeroValue4
  t5 := Tryz.underlying5
  a5 := Tryz.isAgg5
  z5 := Tryz.sizeOf5
  v5 := Tryz.zeroValue5
  t9 := Tryz.underlying9
  a9 := Tryz.isAgg9
  z9 := Tryz.sizeOf9
  v9 := Tryz.zeroValue9
  t46 := Tryz.underlying23
  a46 := Tryz.isAgg23
  z46 := Tryz.sizeOf23
  v46 := Tryz.zeroValue23
  t53 := Tryz.underlying75
  a53 := Tryz.isAgg75
  z53 := Tryz.sizeOf75
  v53 := Tryz.zeroValue75
  t212 := Tryz.underlying276
  a212 := Tryz.isAgg276
  z212 := Tryz.sizeOf276
  v212 := Tryz.zeroValue276
  g17 := by kernel_rfl
  i0 := by kernel_rfl
  i3 := by kernel_rfl
  i4 := by kernel_rfl
  i5 := by kernel_rfl
  i9 := by kernel_rfl
  i46 := by kernel_rfl
  i53 := by kernel_rfl
  i212 := by kernel_rfl
  m17 := by kernel_rfl }
end Go.Proofs
/- The library's functions over this program: the builder's, strings.Split, Cut, ReplaceAll, Repeat, Join, how many digits a number has. -/
namespace Go.Proofs
set_option linter.constructorNameAsVariable false
set_option linter.unusedSimpArgs false
set_option linter.unusedVariables false
open Go.Shelf Go.RowKit
set_option linter.unusedVariables false
def Tryz.lays167_ren : Go.Shelf.Ren := ⟨fun | 167 => 17 | 240 => 24 | 276 => 37 | n => n, Tryz.lays156_ren.t, Tryz.lays156_ren.g⟩
theorem Tryz.lays167 : Go.Proofs.Lays.n167 Tryz.prog Tryz.lays167_ren := {
  mixed := by kernel_rfl
  f167 := Tryz.func17.trans (congrArg some (by kernel_rfl))
  f240 := Tryz.func24.trans (congrArg some (by kernel_rfl))
  f276 := Tryz.func37.trans (congrArg some (by kernel_rfl))
  t0 := Tryz.underlying0
  a0 := Tryz.isAgg0
  z0 := Tryz.sizeOf0
  v0 := Tryz.zeroValue0
  t4 := Tryz.underlying4
  a4 := Tryz.isAgg4
  z4 := Tryz.sizeOf4
  v4 := Tryz.zeroValue4
  t9 := Tryz.underlying9
  a9 := Tryz.isAgg9
  z9 := Tryz.sizeOf9
  v9 := Tryz.zeroValue9
  t20 := Tryz.underlying20
  a20 := Tryz.isAgg20
  z20 := Tryz.sizeOf20
  v20 := Tryz.zeroValue20
  t37 := Tryz.underlying32
  a37 := Tryz.isAgg32
  z37 := Tryz.sizeOf32
  v37 := Tryz.zeroValue32
  t70 := Tryz.underlying31
  a70 := Tryz.isAgg31
  z70 := Tryz.sizeOf31
  v70 := Tryz.zeroValue31
  t72 := Tryz.underlying34
  a72 := Tryz.isAgg34
  z72 := Tryz.sizeOf34
  v72 := Tryz.zeroValue34
  t75 := Tryz.underlying37
  a75 := Tryz.isAgg37
  z75 := Tryz.sizeOf37
  v75 := Tryz.zeroValue37
  t164 := Tryz.underlying83
  a164 := Tryz.isAgg83
  z164 := Tryz.sizeOf83
  v164 := Tryz.zeroValue83
  t5 := Tryz.underlying5
  a5 := Tryz.isAgg5
  z5 := Tryz.sizeOf5
  v5 := Tryz.zeroValue5 }
theorem Tryz.Builder_Extra_167 : Builder.Extra Tryz.prog Tryz.lays167_ren := {
  sizeBuilder := by kernel_rfl
  liesBuilder := by kernel_rfl
  t5 := Tryz.underlying5
  a5 := Tryz.isAgg5
  z5 := Tryz.sizeOf5
  v5 := Tryz.zeroValue5
  infoByte := by kernel_rfl
  cellsByte := by kernel_rfl
  sizeByte := by kernel_rfl
  neB5 := by decide }
end Go.Proofs
namespace Go.Proofs.YtjhhedpgfpcaiaaGreatDoor
open Go Go.Ab Go.RowKit
theorem join_ev {xs : List ByteArray} {sep r : ByteArray} (h : strings_Join_s xs sep = some r) : PureEv Tryz.prog 82 [.sl false 1 (List.map avS xs), .str sep] (.str r) := join_gen Tryz.lays156 Tryz.Builder_Extra_156 h
theorem split_ev {s sep : ByteArray} {r : List ByteArray} (h : strings_Split_s s sep = some r) : PureEv Tryz.prog 14 [.str s, .str sep] (.sl false 1 (List.map avS r)) := split_gen h (b := 0) rfl rfl { Tryz.laysM146 with } (by kernel_rfl)
theorem cut_ev (s sep : ByteArray) (hs : s.size < 4294967281) : PureEv Tryz.prog 18 [.str s, .str sep] (.tup [.str ⟨(Lib.cut s.data.toList sep.data.toList).1.toArray⟩, .str ⟨(Lib.cut s.data.toList sep.data.toList).2.1.toArray⟩, .bool (Lib.cut s.data.toList sep.data.toList).2.2]) := cut_gen s sep hs (b := 0) rfl rfl Tryz.lays145
theorem replaceAll_ev (s old new : ByteArray) (hs : s.size < 4294967281) (h1 : 1 ≤ old.size) (hlen : s.size + Lib.countB s old * new.size ≤ 140737488355328) : PureEv Tryz.prog 45 [.str s, .str old, .str new] (.str ⟨(Lib.replaceAll s.data.toList old.data.toList new.data.toList).toArray⟩) := replaceAll_gen s old new hs h1 hlen (b := 0) rfl rfl Tryz.lays155 Tryz.Builder_Extra_155
theorem repeat_ev (s : ByteArray) (c : Nat) (hc : c ≤ 9223372036854775807) (hlen : s.size * c ≤ 140737488355328) : PureEv Tryz.prog 5 [.str s, .int .i64 c] (.str ⟨(Lib.repeatL s.data.toList c).toArray⟩) := repeat_gen s c hc hlen Tryz.lays105 Tryz.Builder_Extra_105
theorem digits_ev (u : Nat) (h1 : 1 ≤ u) (h2 : u < 18446744073709551616) : PureEv Tryz.prog 94 [.int .u64 u] (.int .i64 (Lib.nDigits u)) := digits_gen u h1 h2 (b := 3) (by kernel_rfl) rfl Tryz.laysM284
theorem bc_str (s : ByteArray) : BC Tryz.prog 34 5 11 (.string s) s.data.toList (.tuple #[.int .i64 s.size, .nilIface]) := by
  intro N0 v bs w hB hl hN
  have h := bs_str (ρ := Tryz.lays156_ren) { Tryz.lays156 with } Tryz.Builder_Extra_156 N0 N0 v bs s w hB (by rw [Lib.size_eq]; exact hl) hN
  rw [Lib.strCells_eq] at h
  exact h
theorem bc_byte : BC Tryz.prog 34 5 17 (.int .u8 10) [10] .nilIface := by
  intro N0 v bs w hB hl hN
  exact bs_byte (ρ := Tryz.lays167_ren) Tryz.lays167 Tryz.Builder_Extra_167 N0 N0 v bs 10 w hB hl hN
theorem se_str : SEb Tryz.prog 34 5 13 := by
  intro N0 v l w hB
  have h := Go.Proofs.Any.Builder_String_any_k (ρ := Tryz.lays156_ren) { Tryz.lays156 with } Tryz.Builder_Extra_156 N0 N0 l w hB.F (by have := hB.lt; omega)
  exact h.mono fun e w' ⟨h1, _, h2, _⟩ => ⟨h1, h2⟩
end Go.Proofs.YtjhhedpgfpcaiaaGreatDoor
/- Plain laws of pieces of texts. -/
namespace Go.Ab
set_option linter.constructorNameAsVariable false
set_option linter.unusedSimpArgs false
set_option linter.unusedVariables false
open Go

/-- Pieces between single bytes. -/
def splitL (c : UInt8) : List UInt8 → List (List UInt8)
  | [] => [[]]
  | x :: r => if x = c then [] :: splitL c r else match splitL c r with
    | w :: ws => (x :: w) :: ws
    | [] => [[x]]
theorem splitL_ne (c : UInt8) (l : List UInt8) : splitL c l ≠ [] := by
  cases l with
  | nil => simp [splitL]
  | cons x r =>
    unfold splitL
    split
    · simp
    · split <;> simp
theorem splitL_app (c : UInt8) (a : List UInt8) (h : c ∉ a) (b : List UInt8) : splitL c (a ++ c :: b) = a :: splitL c b := by
  induction a with
  | nil => rw [List.nil_append, splitL, if_pos rfl]
  | cons x a ih =>
    have h1 : x ≠ c := fun e => h (by rw [e]; simp)
    rw [List.cons_append, splitL, if_neg h1, ih (fun hm => h (by simp [hm]))]
theorem splitL_none (c : UInt8) (a : List UInt8) (h : c ∉ a) : splitL c a = [a] := by
  induction a with
  | nil => rfl
  | cons x a ih =>
    have h1 : x ≠ c := fun e => h (by rw [e]; simp)
    rw [splitL, if_neg h1, ih (fun hm => h (by simp [hm]))]
theorem splitL_join (c : UInt8) (l : List UInt8) : Lib.join (splitL c l) [c] = l := by
  induction l with
  | nil => rfl
  | cons x r ih =>
    unfold splitL
    split
    · rename_i e
      subst e
      have : splitL x r ≠ [] := splitL_ne x r
      obtain ⟨w, ws, e⟩ := List.exists_cons_of_ne_nil this
      rw [e] at ih ⊢
      rw [Lib.join_cons] at ih ⊢
      simp only [Lib.joinTail, List.map_cons, List.flatten_cons, List.nil_append, List.cons_append] at ih ⊢
      rw [ih]
    · split
      · rename_i w ws e
        rw [e, Lib.join_cons] at ih
        rw [Lib.join_cons, List.cons_append, ih]
      · rename_i e
        exact (splitL_ne c r e).elim
theorem splitL_free (c : UInt8) (l : List UInt8) : ∀ w ∈ splitL c l, c ∉ w := by
  induction l with
  | nil => intro w hw; simp [splitL] at hw; subst hw; simp
  | cons x r ih =>
    intro w hw
    unfold splitL at hw
    split at hw
    · rcases List.mem_cons.1 hw with rfl | hw
      · simp
      · exact ih w hw
    · rename_i hx
      split at hw
      · rename_i u us e
        rcases List.mem_cons.1 hw with rfl | hw
        · intro hm
          rcases List.mem_cons.1 hm with q | q
          · exact hx q.symm
          · exact ih u (by rw [e]; simp) q
        · exact ih w (by rw [e]; simp [hw])
      · rename_i e; exact (splitL_ne c r e).elim

theorem indexByte_cases (c : UInt8) (s : List UInt8) : (Lib.indexByte s c = -1 ∧ c ∉ s) ∨ ∃ a b, s = a ++ c :: b ∧ c ∉ a ∧ Lib.indexByte s c = a.length := by
  induction s with
  | nil => left; exact ⟨rfl, by simp⟩
  | cons x r ih =>
    by_cases hx : x = c
    · right
      exact ⟨[], r, by rw [hx]; rfl, by simp, by unfold Lib.indexByte; rw [if_pos (by simpa using hx)]; rfl⟩
    · rcases ih with ⟨h1, h2⟩ | ⟨a, b, h1, h2, h3⟩
      · left
        refine ⟨?_, ?_⟩
        · unfold Lib.indexByte
          rw [if_neg (by simpa using hx), if_pos (by simpa using h1)]
        · intro hm
          rcases List.mem_cons.1 hm with q | q
          · exact hx q.symm
          · exact h2 q
      · right
        refine ⟨x :: a, b, by rw [h1]; rfl, ?_, ?_⟩
        · intro hm
          rcases List.mem_cons.1 hm with q | q
          · exact hx q.symm
          · exact h2 q
        · unfold Lib.indexByte
          rw [if_neg (by simpa using hx), h3, if_neg (by simp)]
          simp

theorem splitK_ge (c : UInt8) : ∀ (k : Nat) (s : List UInt8), s.count c ≤ k → Lib.splitK [c] 0 k s = splitL c s
  | 0, s, h => by
    have : c ∉ s := by
      intro hm
      have := List.count_pos_iff.2 hm
      omega
    rw [splitL_none c s this]; rfl
  | k + 1, s, h => by
    unfold Lib.splitK
    rw [Lib.index_one]
    rcases indexByte_cases c s with ⟨h1, h2⟩ | ⟨a, b, h1, h2, h3⟩
    · rw [h1, if_pos (by rfl), splitL_none c s h2]
    · rw [h3, if_neg (by simp)]
      subst h1
      rw [splitL_app c a h2]
      have hc : b.count c ≤ k := by
        rw [List.count_append, List.count_cons_self] at h
        omega
      simp only [Int.toNat_natCast, Nat.add_zero, List.length_singleton]
      have e1 : (a ++ c :: b).take a.length = a := by simp
      have e2 : (a ++ c :: b).drop (a.length + 1) = b := by
        rw [← List.drop_drop, List.drop_left]; rfl
      rw [e1, e2, splitK_ge c k b hc]

def bsl (l : List UInt8) : ByteArray := ⟨l.toArray⟩
theorem bsl_data (l : List UInt8) : (bsl l).data.toList = l := by simp [bsl]
theorem bsl_size (l : List UInt8) : (bsl l).size = l.length := by simp [bsl, ByteArray.size]
theorem bsl_inj {a b : ByteArray} (h : a.data.toList = b.data.toList) : a = b := by
  cases a; cases b; simp only [ByteArray.mk.injEq]; exact Array.toList_inj.1 h
theorem bsl_eq (b : ByteArray) : b = bsl b.data.toList := bsl_inj (by rw [bsl_data])
theorem TSplit_eq (c : UInt8) (l : List UInt8) (hl : l.length ≤ 28400000) : strings_Split_s (bsl l) (bsl [c]) = some ((splitL c l).map bsl) := by
  unfold strings_Split_s
  rw [if_pos ⟨by rw [bsl_size]; omega, by rw [bsl_size]; simp⟩]
  congr 1
  have h1 := Lib.splitB_data (bsl [c]) 0 (Lib.countB (bsl l) (bsl [c])) (bsl l)
  have h2 : Lib.countB (bsl l) (bsl [c]) = l.count c := by
    show Lib.count (bsl l).data.toList (bsl [c]).data.toList = _
    rw [bsl_data, bsl_data, Lib.count_one]
  rw [bsl_data, bsl_data, splitK_ge c _ l (by rw [h2]; exact Nat.le_refl _)] at h1
  rw [← h1, List.map_map]
  show _ = List.map (bsl ∘ fun (x : ByteArray) => x.data.toList) _
  rw [show (bsl ∘ fun (x : ByteArray) => x.data.toList) = id from funext fun x => (bsl_eq x).symm, List.map_id]


theorem index_none (c : UInt8) : ∀ (l : List UInt8), c ∉ l → Lib.index l [c] = -1
  | [], _ => rfl
  | b :: l, h => by
    have h1 : b ≠ c := fun e => h (by rw [e]; simp)
    have ih := index_none c l (fun hm => h (by simp [hm]))
    unfold Lib.index
    have : ¬ ([c].isPrefixOf (b :: l) = true) := by simp [List.isPrefixOf, Ne.symm h1]
    rw [if_neg this, ih]
    rfl
theorem cut_none (c : UInt8) (l : List UInt8) (h : c ∉ l) : Lib.cut l [c] = (l, [], false) := by
  unfold Lib.cut
  rw [index_none c l h]
  rfl
theorem cut_t1 : Lib.cut [116, 101, 120, 116, 32, 102, 117, 110, 99, 32, 48, 32, 45, 32, 48, 32, 45, 59, 99, 111, 110, 115, 116, 32, 55, 59, 111, 117, 116, 59, 114, 101, 116] [32] = ([116, 101, 120, 116], [102, 117, 110, 99, 32, 48, 32, 45, 32, 48, 32, 45, 59, 99, 111, 110, 115, 116, 32, 55, 59, 111, 117, 116, 59, 114, 101, 116], true) := by decide +kernel
theorem rep_t1 : Lib.replaceAll [102, 117, 110, 99, 32, 48, 32, 45, 32, 48, 32, 45, 59, 99, 111, 110, 115, 116, 32, 55, 59, 111, 117, 116, 59, 114, 101, 116] [59] [10] = [102, 117, 110, 99, 32, 48, 32, 45, 32, 48, 32, 45, 10, 99, 111, 110, 115, 116, 32, 55, 10, 111, 117, 116, 10, 114, 101, 116] := by decide +kernel
end Go.Ab
