/- Contracts and laws that the claim's row leans on (8 texts, joined): strings.Split, ReplaceAll, Cut, FieldsFunc, Fields, slices.DeleteFunc, strconv.Itoa, Atoi by the shelf's contracts, laid at this program; conditions: the variables of the library that these read. Split, ReplaceAll, DeleteFunc, FieldsFunc, Index as the readers of policies call them; conditions: the lengths, the variables of the library. The words that are still to be read: is, list, beginsPart, number of package policy; conditions: the memory. Numbers and words of acts as package policy reads them; conditions: the sizes, the library's table. slices.Index of strings (the place itself), the words of acts in both packages, policy.acts, policy.hours; conditions: the memory, the library's variables. Results that lie in memory, with others beside them; no condition. policy.hours and policy.readRule; conditions: the memory, the library's variables. What stands in memory while a rule is read; plain laws of it; no condition. -/
import Derived.Test.YthfddfgncolnbaaGreatDoorJ3
import Derived.Shelf.LaysM
import Derived.Shelf.LaysC
import Derived.Shelf.SlLaysH
import Derived.Shelf.Strconv.Itoa3
import Derived.Shelf.Strconv.AtoiAll
import Derived.Shelf.Strings.Cut
import Derived.Shelf.Strings.Split
import Derived.Shelf.Strings.SplitShaped
import Derived.Shelf.Strings.Replace
import Derived.Shelf.Strings.FieldsFuncAny
import Derived.Shelf.SlicesE.DeleteFunc
import Derived.Lib.AppendIntMem
import Derived.Lib.LaidTab
import Derived.Laws.Runes
import Derived.Laws.ResultCell
import Derived.Deep.DeepCutAuto
import Derived.Deep.CutBlock
namespace Go.Proofs.YthfddfgncolnbaaGreatDoor
section
open Go Go.RowKit Go.Shelf

def cutLay_ren : Go.Shelf.Ren := ⟨fun | 145 => 17 | 217 => 106 | 219 => 82 | 220 => 37 | 224 => 108 | 225 => 107 | 266 => 125 | 267 => 109 | 314 => 126 | n => n, fun | 3 => 3 | 4 => 4 | 5 => 5 | 9 => 9 | 46 => 66 | 51 => 131 | 59 => 44 | 146 => 156 | n => n, fun | 1 => 0 | n => n⟩
theorem cutLay : Go.Proofs.Lays.n145 Tryz.prog cutLay_ren where
  mixed := by kernel_rfl
  f145 := Tryz.func17.trans (congrArg some (by kernel_rfl))
  f217 := Tryz.func106.trans (congrArg some (by kernel_rfl))
  f219 := Tryz.func82.trans (congrArg some (by kernel_rfl))
  f220 := Tryz.func37.trans (congrArg some (by kernel_rfl))
  f224 := Tryz.func108.trans (congrArg some (by kernel_rfl))
  f225 := Tryz.func107.trans (congrArg some (by kernel_rfl))
  f266 := Tryz.func125.trans (congrArg some (by kernel_rfl))
  f267 := Tryz.func109.trans (congrArg some (by kernel_rfl))
  f314 := Tryz.func126.trans (congrArg some (by kernel_rfl))
  t3 := Tryz.underlying3
  a3 := Tryz.isAgg3
  z3 := Tryz.sizeOf3
  v3 := Tryz.zeroValue3
  t4 := Tryz.underlying4
  a4 := Tryz.isAgg4
  z4 := Tryz.sizeOf4
  v4 := Tryz.zeroValue4
  t5 := Tryz.underlying5
  a5 := Tryz.isAgg5
  z5 := Tryz.sizeOf5
  v5 := Tryz.zeroValue5
  t9 := Tryz.underlying9
  a9 := Tryz.isAgg9
  z9 := Tryz.sizeOf9
  v9 := Tryz.zeroValue9
  t46 := Tryz.underlying66
  a46 := Tryz.isAgg66
  z46 := Tryz.sizeOf66
  v46 := Tryz.zeroValue66
  t51 := Tryz.underlying131
  a51 := Tryz.isAgg131
  z51 := Tryz.sizeOf131
  v51 := Tryz.zeroValue131
  t59 := Tryz.underlying44
  a59 := Tryz.isAgg44
  z59 := Tryz.sizeOf44
  v59 := Tryz.zeroValue44
  t146 := Tryz.underlying156
  a146 := Tryz.isAgg156
  z146 := Tryz.sizeOf156
  v146 := Tryz.zeroValue156
  g1 := by kernel_rfl
def itoaL_ren : Go.Shelf.Ren := ⟨fun | 129 => 149 | 171 => 64 | 243 => 96 | 246 => 120 | 283 => 138 | 284 => 139 | 285 => 140 | 286 => 141 | 317 => 148 | 318 => 150 | 319 => 151 | 320 => 152 | 337 => 161 | 338 => 162 | n => n, fun | 0 => 0 | 2 => 2 | 3 => 3 | 4 => 4 | 5 => 5 | 9 => 9 | 20 => 20 | 37 => 39 | 46 => 66 | 51 => 131 | 53 => 153 | 171 => 170 | 173 => 173 | 212 => 186 | 213 => 187 | 232 => 34 | 233 => 64 | n => n, fun | 17 => 7 | 18 => 8 | 19 => 9 | n => n⟩
theorem itoaL : Go.Proofs.LaysM.n171 Tryz.prog itoaL_ren where
  mixed := by kernel_rfl
  f129 := Tryz.func149.trans (congrArg some (by kernel_rfl))
  f171 := Tryz.func64.trans (congrArg some (by kernel_rfl))
  f243 := Tryz.func96.trans (congrArg some (by kernel_rfl))
  f246 := Tryz.func120.trans (congrArg some (by kernel_rfl))
  f283 := Tryz.func138.trans (congrArg some (by kernel_rfl))
  f284 := Tryz.func139.trans (congrArg some (by kernel_rfl))
  f285 := Tryz.func140.trans (congrArg some (by kernel_rfl))
  f286 := Tryz.func141.trans (congrArg some (by kernel_rfl))
  f317 := Tryz.func148.trans (congrArg some (by kernel_rfl))
  f318 := Tryz.func150.trans (congrArg some (by kernel_rfl))
  f319 := Tryz.func151.trans (congrArg some (by kernel_rfl))
  f320 := Tryz.func152.trans (congrArg some (by kernel_rfl))
  f337 := Tryz.func161.trans (congrArg some (by kernel_rfl))
  f338 := Tryz.func162.trans (congrArg some (by kernel_rfl))
  t0 := Tryz.underlying0
  a0 := Tryz.isAgg0
  z0 := Tryz.sizeOf0
  v0 := Tryz.zeroValue0
  t2 := Tryz.underlying2
  a2 := Tryz.isAgg2
  z2 := Tryz.sizeOf2
  v2 := Tryz.zeroValue2
  t3 := Tryz.underlying3
  a3 := Tryz.isAgg3
  z3 := Tryz.sizeOf3
  v3 := Tryz.zeroValue3
  t4 := Tryz.underlying4
  a4 := Tryz.isAgg4
  z4 := Tryz.sizeOf4
  v4 := Tryz.zeroValue4
  t5 := Tryz.underlying5
  a5 := Tryz.isAgg5
  z5 := Tryz.sizeOf5
  v5 := Tryz.zeroValue5
  t9 := Tryz.underlying9
  a9 := Tryz.isAgg9
  z9 := Tryz.sizeOf9
  v9 := Tryz.zeroValue9
  t20 := Tryz.underlying20
  a20 := Tryz.isAgg20
  z20 := Tryz.sizeOf20
  v20 := Tryz.zeroValue20
  t37 := Tryz.underlying39
  a37 := Tryz.isAgg39
  z37 := Tryz.sizeOf39
  v37 := Tryz.zeroValue39
  t46 := Tryz.underlying66
  a46 := Tryz.isAgg66
  z46 := Tryz.sizeOf66
  v46 := Tryz.zeroValue66
  t51 := Tryz.underlying131
  a51 := Tryz.isAgg131
  z51 := Tryz.sizeOf131
  v51 := Tryz.zeroValue131
  t53 := Tryz.underlying153
  a53 := Tryz.isAgg153
  z53 := Tryz.sizeOf153
  v53 := Tryz.zeroValue153
  t171 := Tryz.underlying170
  a171 := Tryz.isAgg170
  z171 := Tryz.sizeOf170
  v171 := Tryz.zeroValue170
  t173 := Tryz.underlying173
  a173 := Tryz.isAgg173
  z173 := Tryz.sizeOf173
  v173 := Tryz.zeroValue173
  t212 := Tryz.underlying186
  a212 := Tryz.isAgg186
  z212 := Tryz.sizeOf186
  v212 := Tryz.zeroValue186
  t213 := Tryz.underlying187
  a213 := Tryz.isAgg187
  z213 := Tryz.sizeOf187
  t232 := Tryz.underlying34
  a232 := Tryz.isAgg34
  z232 := Tryz.sizeOf34
  v232 := Tryz.zeroValue34
  t233 := Tryz.underlying64
  a233 := Tryz.isAgg64
  z233 := Tryz.sizeOf64
  v233 := Tryz.zeroValue64
  g17 := by kernel_rfl
  g18 := by kernel_rfl
  g19 := by kernel_rfl
  i0 := by kernel_rfl
  i2 := by kernel_rfl
  i3 := by kernel_rfl
  i4 := by kernel_rfl
  i5 := by kernel_rfl
  i9 := by kernel_rfl
  i20 := by kernel_rfl
  i37 := by kernel_rfl
  i46 := by kernel_rfl
  i51 := by kernel_rfl
  i53 := by kernel_rfl
  i171 := by kernel_rfl
  i173 := by kernel_rfl
  i212 := by kernel_rfl
  i232 := by kernel_rfl
  i233 := by kernel_rfl
  m17 := by kernel_rfl
  m18 := by kernel_rfl
  m19 := by kernel_rfl
def atoiLay_ren : Go.Shelf.Ren := ⟨fun | 129 => 149 | 171 => 64 | 172 => 88 | 205 => 147 | 243 => 96 | 244 => 113 | 245 => 114 | 246 => 120 | 247 => 129 | 279 => 130 | 280 => 131 | 281 => 132 | 282 => 133 | 283 => 138 | 284 => 139 | 285 => 140 | 286 => 141 | 287 => 145 | 316 => 146 | 317 => 148 | 318 => 150 | 319 => 151 | 320 => 152 | 321 => 159 | 322 => 160 | 337 => 161 | 338 => 162 | n => n, fun | 0 => 0 | 2 => 2 | 3 => 3 | 4 => 4 | 5 => 5 | 9 => 9 | 20 => 20 | 21 => 21 | 37 => 39 | 46 => 66 | 51 => 131 | 53 => 153 | 75 => 94 | 76 => 95 | 80 => 99 | 85 => 163 | 127 => 124 | 143 => 203 | 145 => 205 | 167 => 162 | 168 => 165 | 171 => 170 | 173 => 173 | 175 => 179 | 210 => 183 | 212 => 186 | 213 => 187 | 232 => 34 | 233 => 64 | n => n, fun | 15 => 5 | 16 => 6 | 17 => 7 | 18 => 8 | 19 => 9 | n => n⟩
theorem atoiLay : Go.Proofs.LaysC.n172 Tryz.prog atoiLay_ren where
  mixed := by kernel_rfl
  f129 := Tryz.func149.trans (congrArg some (by kernel_rfl))
  f171 := Tryz.func64.trans (congrArg some (by kernel_rfl))
  f172 := Tryz.func88.trans (congrArg some (by kernel_rfl))
  f205 := Tryz.func147.trans (congrArg some (by kernel_rfl))
  f243 := Tryz.func96.trans (congrArg some (by kernel_rfl))
  f244 := Tryz.func113.trans (congrArg some (by kernel_rfl))
  f245 := Tryz.func114.trans (congrArg some (by kernel_rfl))
  f246 := Tryz.func120.trans (congrArg some (by kernel_rfl))
  f247 := Tryz.func129.trans (congrArg some (by kernel_rfl))
  f279 := Tryz.func130.trans (congrArg some (by kernel_rfl))
  f280 := Tryz.func131.trans (congrArg some (by kernel_rfl))
  f281 := Tryz.func132.trans (congrArg some (by kernel_rfl))
  f282 := Tryz.func133.trans (congrArg some (by kernel_rfl))
  f283 := Tryz.func138.trans (congrArg some (by kernel_rfl))
  f284 := Tryz.func139.trans (congrArg some (by kernel_rfl))
  f285 := Tryz.func140.trans (congrArg some (by kernel_rfl))
  f286 := Tryz.func141.trans (congrArg some (by kernel_rfl))
  f287 := Tryz.func145.trans (congrArg some (by kernel_rfl))
  f316 := Tryz.func146.trans (congrArg some (by kernel_rfl))
  f317 := Tryz.func148.trans (congrArg some (by kernel_rfl))
  f318 := Tryz.func150.trans (congrArg some (by kernel_rfl))
  f319 := Tryz.func151.trans (congrArg some (by kernel_rfl))
  f320 := Tryz.func152.trans (congrArg some (by kernel_rfl))
  f321 := Tryz.func159.trans (congrArg some (by kernel_rfl))
  f322 := Tryz.func160.trans (congrArg some (by kernel_rfl))
  f337 := Tryz.func161.trans (congrArg some (by kernel_rfl))
  f338 := Tryz.func162.trans (congrArg some (by kernel_rfl))
  t0 := Tryz.underlying0
  a0 := Tryz.isAgg0
  z0 := Tryz.sizeOf0
  v0 := Tryz.zeroValue0
  t2 := Tryz.underlying2
  a2 := Tryz.isAgg2
  z2 := Tryz.sizeOf2
  v2 := Tryz.zeroValue2
  t3 := Tryz.underlying3
  a3 := Tryz.isAgg3
  z3 := Tryz.sizeOf3
  v3 := Tryz.zeroValue3
  t4 := Tryz.underlying4
  a4 := Tryz.isAgg4
  z4 := Tryz.sizeOf4
  v4 := Tryz.zeroValue4
  t5 := Tryz.underlying5
  a5 := Tryz.isAgg5
  z5 := Tryz.sizeOf5
  v5 := Tryz.zeroValue5
  t9 := Tryz.underlying9
  a9 := Tryz.isAgg9
  z9 := Tryz.sizeOf9
  v9 := Tryz.zeroValue9
  t20 := Tryz.underlying20
  a20 := Tryz.isAgg20
  z20 := Tryz.sizeOf20
  v20 := Tryz.zeroValue20
  t21 := Tryz.underlying21
  a21 := Tryz.isAgg21
  z21 := Tryz.sizeOf21
  v21 := Tryz.zeroValue21
  t37 := Tryz.underlying39
  a37 := Tryz.isAgg39
  z37 := Tryz.sizeOf39
  v37 := Tryz.zeroValue39
  t46 := Tryz.underlying66
  a46 := Tryz.isAgg66
  z46 := Tryz.sizeOf66
  v46 := Tryz.zeroValue66
  t51 := Tryz.underlying131
  a51 := Tryz.isAgg131
  z51 := Tryz.sizeOf131
  v51 := Tryz.zeroValue131
  t53 := Tryz.underlying153
  a53 := Tryz.isAgg153
  z53 := Tryz.sizeOf153
  v53 := Tryz.zeroValue153
  t75 := Tryz.underlying94
  a75 := Tryz.isAgg94
  z75 := Tryz.sizeOf94
  v75 := Tryz.zeroValue94
  t76 := Tryz.underlying95
  a76 := Tryz.isAgg95
  z76 := Tryz.sizeOf95
  v76 := Tryz.zeroValue95
  t85 := Tryz.underlying163
  a85 := Tryz.isAgg163
  z85 := Tryz.sizeOf163
  v85 := Tryz.zeroValue163
  t127 := Tryz.underlying124
  a127 := Tryz.isAgg124
  z127 := Tryz.sizeOf124
  v127 := Tryz.zeroValue124
  t143 := Tryz.underlying203
  a143 := Tryz.isAgg203
  z143 := Tryz.sizeOf203
  v143 := Tryz.zeroValue203
  t145 := Tryz.underlying205
  a145 := Tryz.isAgg205
  z145 := Tryz.sizeOf205
  v145 := Tryz.zeroValue205
  t167 := Tryz.underlying162
  a167 := Tryz.isAgg162
  z167 := Tryz.sizeOf162
  v167 := Tryz.zeroValue162
  t168 := Tryz.underlying165
  a168 := Tryz.isAgg165
  z168 := Tryz.sizeOf165
  v168 := Tryz.zeroValue165
  t171 := Tryz.underlying170
  a171 := Tryz.isAgg170
  z171 := Tryz.sizeOf170
  v171 := Tryz.zeroValue170
  t173 := Tryz.underlying173
  a173 := Tryz.isAgg173
  z173 := Tryz.sizeOf173
  v173 := Tryz.zeroValue173
  t175 := Tryz.underlying179
  a175 := Tryz.isAgg179
  z175 := Tryz.sizeOf179
  v175 := Tryz.zeroValue179
  t210 := Tryz.underlying183
  a210 := Tryz.isAgg183
  z210 := Tryz.sizeOf183
  v210 := Tryz.zeroValue183
  t212 := Tryz.underlying186
  a212 := Tryz.isAgg186
  z212 := Tryz.sizeOf186
  v212 := Tryz.zeroValue186
  t213 := Tryz.underlying187
  a213 := Tryz.isAgg187
  z213 := Tryz.sizeOf187
  t232 := Tryz.underlying34
  a232 := Tryz.isAgg34
  z232 := Tryz.sizeOf34
  v232 := Tryz.zeroValue34
  t233 := Tryz.underlying64
  a233 := Tryz.isAgg64
  z233 := Tryz.sizeOf64
  v233 := Tryz.zeroValue64
  g15 := by kernel_rfl
  g16 := by kernel_rfl
  g17 := by kernel_rfl
  g18 := by kernel_rfl
  g19 := by kernel_rfl
  t80 := Tryz.underlying99
  a80 := Tryz.isAgg99
  z80 := Tryz.sizeOf99
  v80 := Tryz.zeroValue99
  i0 := by kernel_rfl
  i2 := by kernel_rfl
  i3 := by kernel_rfl
  i4 := by kernel_rfl
  i5 := by kernel_rfl
  i9 := by kernel_rfl
  i20 := by kernel_rfl
  i21 := by kernel_rfl
  i37 := by kernel_rfl
  i46 := by kernel_rfl
  i51 := by kernel_rfl
  i53 := by kernel_rfl
  i75 := by kernel_rfl
  i76 := by kernel_rfl
  i80 := by kernel_rfl
  i85 := by kernel_rfl
  i127 := by kernel_rfl
  i143 := by kernel_rfl
  i145 := by kernel_rfl
  i167 := by kernel_rfl
  i168 := by kernel_rfl
  i171 := by kernel_rfl
  i173 := by kernel_rfl
  i175 := by kernel_rfl
  i210 := by kernel_rfl
  i212 := by kernel_rfl
  i232 := by kernel_rfl
  i233 := by kernel_rfl
  m15 := by kernel_rfl
  m16 := by kernel_rfl
  m17 := by kernel_rfl
  m18 := by kernel_rfl
  m19 := by kernel_rfl
  c0 := by kernel_rfl
  c2 := by kernel_rfl
  c3 := by kernel_rfl
  c4 := by kernel_rfl
  c5 := by kernel_rfl
  c9 := by kernel_rfl
  c20 := by kernel_rfl
  c21 := by kernel_rfl
  c37 := by kernel_rfl
  c46 := by kernel_rfl
  c51 := by kernel_rfl
  c53 := by kernel_rfl
  c75 := by kernel_rfl
  c76 := by kernel_rfl
  c80 := by kernel_rfl
  c85 := by kernel_rfl
  c127 := by kernel_rfl
  c143 := by kernel_rfl
  c145 := by kernel_rfl
  c167 := by kernel_rfl
  c168 := by kernel_rfl
  c171 := by kernel_rfl
  c173 := by kernel_rfl
  c175 := by kernel_rfl
  c210 := by kernel_rfl
  c212 := by kernel_rfl
  c213 := by kernel_rfl
  c232 := by kernel_rfl
  c233 := by kernel_rfl

def splitL_ren : Go.Shelf.Ren := ⟨fun | 138 => 80 | 143 => 81 | 146 => 16 | 195 => 104 | 197 => 84 | 217 => 106 | 218 => 105 | 219 => 82 | 221 => 36 | 224 => 108 | 225 => 107 | 260 => 111 | 266 => 125 | 267 => 109 | 268 => 79 | 314 => 126 | n => n, fun | 0 => 0 | 3 => 3 | 4 => 4 | 5 => 5 | 9 => 9 | 21 => 21 | 31 => 42 | 46 => 66 | 51 => 131 | 105 => 114 | 119 => 158 | 138 => 160 | 139 => 161 | 146 => 156 | n => n, fun | 1 => 0 | 3 => 1 | 4 => 2 | n => n⟩
theorem splitL : Go.Proofs.Lays.n146 Tryz.prog splitL_ren where
  mixed := by kernel_rfl
  f138 := Tryz.func80.trans (congrArg some (by kernel_rfl))
  f143 := Tryz.func81.trans (congrArg some (by kernel_rfl))
  f146 := Tryz.func16.trans (congrArg some (by kernel_rfl))
  f195 := Tryz.func104.trans (congrArg some (by kernel_rfl))
  f197 := Tryz.func84.trans (congrArg some (by kernel_rfl))
  f217 := Tryz.func106.trans (congrArg some (by kernel_rfl))
  f218 := Tryz.func105.trans (congrArg some (by kernel_rfl))
  f219 := Tryz.func82.trans (congrArg some (by kernel_rfl))
  f221 := Tryz.func36.trans (congrArg some (by kernel_rfl))
  f224 := Tryz.func108.trans (congrArg some (by kernel_rfl))
  f225 := Tryz.func107.trans (congrArg some (by kernel_rfl))
  f260 := Tryz.func111.trans (congrArg some (by kernel_rfl))
  f266 := Tryz.func125.trans (congrArg some (by kernel_rfl))
  f267 := Tryz.func109.trans (congrArg some (by kernel_rfl))
  f268 := Tryz.func79.trans (congrArg some (by kernel_rfl))
  f314 := Tryz.func126.trans (congrArg some (by kernel_rfl))
  t0 := Tryz.underlying0
  a0 := Tryz.isAgg0
  z0 := Tryz.sizeOf0
  v0 := Tryz.zeroValue0
  t3 := Tryz.underlying3
  a3 := Tryz.isAgg3
  z3 := Tryz.sizeOf3
  v3 := Tryz.zeroValue3
  t4 := Tryz.underlying4
  a4 := Tryz.isAgg4
  z4 := Tryz.sizeOf4
  v4 := Tryz.zeroValue4
  t5 := Tryz.underlying5
  a5 := Tryz.isAgg5
  z5 := Tryz.sizeOf5
  v5 := Tryz.zeroValue5
  t9 := Tryz.underlying9
  a9 := Tryz.isAgg9
  z9 := Tryz.sizeOf9
  v9 := Tryz.zeroValue9
  t21 := Tryz.underlying21
  a21 := Tryz.isAgg21
  z21 := Tryz.sizeOf21
  v21 := Tryz.zeroValue21
  t31 := Tryz.underlying42
  a31 := Tryz.isAgg42
  z31 := Tryz.sizeOf42
  v31 := Tryz.zeroValue42
  t46 := Tryz.underlying66
  a46 := Tryz.isAgg66
  z46 := Tryz.sizeOf66
  v46 := Tryz.zeroValue66
  t51 := Tryz.underlying131
  a51 := Tryz.isAgg131
  z51 := Tryz.sizeOf131
  v51 := Tryz.zeroValue131
  t105 := Tryz.underlying114
  a105 := Tryz.isAgg114
  z105 := Tryz.sizeOf114
  v105 := Tryz.zeroValue114
  t119 := Tryz.underlying158
  a119 := Tryz.isAgg158
  z119 := Tryz.sizeOf158
  t138 := Tryz.underlying160
  a138 := Tryz.isAgg160
  z138 := Tryz.sizeOf160
  v138 := Tryz.zeroValue160
  t139 := Tryz.underlying161
  a139 := Tryz.isAgg161
  z139 := Tryz.sizeOf161
  v139 := Tryz.zeroValue161
  t146 := Tryz.underlying156
  a146 := Tryz.isAgg156
  z146 := Tryz.sizeOf156
  v146 := Tryz.zeroValue156
  g1 := by kernel_rfl
  g3 := by kernel_rfl
  g4 := by kernel_rfl
def replN_ren : Go.Shelf.Ren := ⟨fun | 138 => 80 | 143 => 81 | 154 => 39 | 155 => 19 | 165 => 83 | 166 => 59 | 169 => 62 | 195 => 104 | 197 => 84 | 217 => 106 | 218 => 105 | 219 => 82 | 224 => 108 | 225 => 107 | 240 => 95 | 241 => 110 | 260 => 111 | 266 => 125 | 267 => 109 | 276 => 119 | 277 => 127 | 314 => 126 | n => n, fun | 0 => 0 | 3 => 3 | 4 => 4 | 5 => 5 | 9 => 9 | 20 => 20 | 21 => 21 | 37 => 39 | 46 => 66 | 51 => 131 | 70 => 90 | 72 => 92 | 75 => 94 | 76 => 95 | 80 => 99 | 105 => 114 | 119 => 158 | 127 => 124 | 138 => 160 | 139 => 161 | 146 => 156 | 164 => 144 | n => n, fun | 1 => 0 | 3 => 1 | 4 => 2 | n => n⟩
theorem replN : Go.Proofs.Lays.n155 Tryz.prog replN_ren where
  mixed := by kernel_rfl
  f138 := Tryz.func80.trans (congrArg some (by kernel_rfl))
  f143 := Tryz.func81.trans (congrArg some (by kernel_rfl))
  f154 := Tryz.func39.trans (congrArg some (by kernel_rfl))
  f155 := Tryz.func19.trans (congrArg some (by kernel_rfl))
  f165 := Tryz.func83.trans (congrArg some (by kernel_rfl))
  f166 := Tryz.func59.trans (congrArg some (by kernel_rfl))
  f169 := Tryz.func62.trans (congrArg some (by kernel_rfl))
  f195 := Tryz.func104.trans (congrArg some (by kernel_rfl))
  f197 := Tryz.func84.trans (congrArg some (by kernel_rfl))
  f217 := Tryz.func106.trans (congrArg some (by kernel_rfl))
  f218 := Tryz.func105.trans (congrArg some (by kernel_rfl))
  f219 := Tryz.func82.trans (congrArg some (by kernel_rfl))
  f224 := Tryz.func108.trans (congrArg some (by kernel_rfl))
  f225 := Tryz.func107.trans (congrArg some (by kernel_rfl))
  f240 := Tryz.func95.trans (congrArg some (by kernel_rfl))
  f241 := Tryz.func110.trans (congrArg some (by kernel_rfl))
  f260 := Tryz.func111.trans (congrArg some (by kernel_rfl))
  f266 := Tryz.func125.trans (congrArg some (by kernel_rfl))
  f267 := Tryz.func109.trans (congrArg some (by kernel_rfl))
  f276 := Tryz.func119.trans (congrArg some (by kernel_rfl))
  f277 := Tryz.func127.trans (congrArg some (by kernel_rfl))
  f314 := Tryz.func126.trans (congrArg some (by kernel_rfl))
  t0 := Tryz.underlying0
  a0 := Tryz.isAgg0
  z0 := Tryz.sizeOf0
  v0 := Tryz.zeroValue0
  t3 := Tryz.underlying3
  a3 := Tryz.isAgg3
  z3 := Tryz.sizeOf3
  v3 := Tryz.zeroValue3
  t4 := Tryz.underlying4
  a4 := Tryz.isAgg4
  z4 := Tryz.sizeOf4
  v4 := Tryz.zeroValue4
  t5 := Tryz.underlying5
  a5 := Tryz.isAgg5
  z5 := Tryz.sizeOf5
  v5 := Tryz.zeroValue5
  t9 := Tryz.underlying9
  a9 := Tryz.isAgg9
  z9 := Tryz.sizeOf9
  v9 := Tryz.zeroValue9
  t20 := Tryz.underlying20
  a20 := Tryz.isAgg20
  z20 := Tryz.sizeOf20
  v20 := Tryz.zeroValue20
  t21 := Tryz.underlying21
  a21 := Tryz.isAgg21
  z21 := Tryz.sizeOf21
  v21 := Tryz.zeroValue21
  t37 := Tryz.underlying39
  a37 := Tryz.isAgg39
  z37 := Tryz.sizeOf39
  v37 := Tryz.zeroValue39
  t46 := Tryz.underlying66
  a46 := Tryz.isAgg66
  z46 := Tryz.sizeOf66
  v46 := Tryz.zeroValue66
  t51 := Tryz.underlying131
  a51 := Tryz.isAgg131
  z51 := Tryz.sizeOf131
  v51 := Tryz.zeroValue131
  t70 := Tryz.underlying90
  a70 := Tryz.isAgg90
  z70 := Tryz.sizeOf90
  v70 := Tryz.zeroValue90
  t72 := Tryz.underlying92
  a72 := Tryz.isAgg92
  z72 := Tryz.sizeOf92
  v72 := Tryz.zeroValue92
  t75 := Tryz.underlying94
  a75 := Tryz.isAgg94
  z75 := Tryz.sizeOf94
  v75 := Tryz.zeroValue94
  t76 := Tryz.underlying95
  a76 := Tryz.isAgg95
  z76 := Tryz.sizeOf95
  v76 := Tryz.zeroValue95
  t105 := Tryz.underlying114
  a105 := Tryz.isAgg114
  z105 := Tryz.sizeOf114
  v105 := Tryz.zeroValue114
  t119 := Tryz.underlying158
  a119 := Tryz.isAgg158
  z119 := Tryz.sizeOf158
  t127 := Tryz.underlying124
  a127 := Tryz.isAgg124
  z127 := Tryz.sizeOf124
  v127 := Tryz.zeroValue124
  t138 := Tryz.underlying160
  a138 := Tryz.isAgg160
  z138 := Tryz.sizeOf160
  v138 := Tryz.zeroValue160
  t139 := Tryz.underlying161
  a139 := Tryz.isAgg161
  z139 := Tryz.sizeOf161
  v139 := Tryz.zeroValue161
  t146 := Tryz.underlying156
  a146 := Tryz.isAgg156
  z146 := Tryz.sizeOf156
  v146 := Tryz.zeroValue156
  t164 := Tryz.underlying144
  a164 := Tryz.isAgg144
  z164 := Tryz.sizeOf144
  v164 := Tryz.zeroValue144
  g1 := by kernel_rfl
  g3 := by kernel_rfl
  g4 := by kernel_rfl
def ffL_ren : Go.Shelf.Ren := ⟨fun | 229 => 22 | n => n, fun | 0 => 0 | 3 => 3 | 4 => 4 | 9 => 9 | 21 => 21 | 31 => 42 | 40 => 55 | 152 => 77 | 154 => 79 | n => n, fun | n => n⟩
theorem ffL : Go.Proofs.Lays.n229 Tryz.prog ffL_ren where
  mixed := by kernel_rfl
  f229 := Tryz.func22.trans (congrArg some (by kernel_rfl))
  t0 := Tryz.underlying0
  a0 := Tryz.isAgg0
  z0 := Tryz.sizeOf0
  v0 := Tryz.zeroValue0
  t3 := Tryz.underlying3
  a3 := Tryz.isAgg3
  z3 := Tryz.sizeOf3
  v3 := Tryz.zeroValue3
  t4 := Tryz.underlying4
  a4 := Tryz.isAgg4
  z4 := Tryz.sizeOf4
  v4 := Tryz.zeroValue4
  t9 := Tryz.underlying9
  a9 := Tryz.isAgg9
  z9 := Tryz.sizeOf9
  v9 := Tryz.zeroValue9
  t21 := Tryz.underlying21
  a21 := Tryz.isAgg21
  z21 := Tryz.sizeOf21
  v21 := Tryz.zeroValue21
  t31 := Tryz.underlying42
  a31 := Tryz.isAgg42
  z31 := Tryz.sizeOf42
  v31 := Tryz.zeroValue42
  t40 := Tryz.underlying55
  a40 := Tryz.isAgg55
  z40 := Tryz.sizeOf55
  v40 := Tryz.zeroValue55
  t152 := Tryz.underlying77
  a152 := Tryz.isAgg77
  z152 := Tryz.sizeOf77
  v152 := Tryz.zeroValue77
  t154 := Tryz.underlying79
  a154 := Tryz.isAgg79
  z154 := Tryz.sizeOf79
  v154 := Tryz.zeroValue79
def fieldsL_ren : Go.Shelf.Ren := ⟨fun | 157 => 112 | 199 => 128 | 229 => 22 | 261 => 144 | 311 => 157 | 312 => 158 | n => n, fun | 0 => 0 | 3 => 3 | 4 => 4 | 5 => 5 | 9 => 9 | 21 => 21 | 31 => 42 | 40 => 55 | 46 => 66 | 49 => 195 | 51 => 131 | 119 => 158 | 141 => 178 | 152 => 77 | 154 => 79 | 193 => 191 | 194 => 192 | 196 => 194 | 198 => 197 | 201 => 200 | 226 => 208 | 227 => 209 | n => n, fun | 0 => 3 | 6 => 4 | n => n⟩
theorem fieldsL : Go.Proofs.LaysM.n157 Tryz.prog fieldsL_ren where
  mixed := by kernel_rfl
  f157 := Tryz.func112.trans (congrArg some (by kernel_rfl))
  f199 := Tryz.func128.trans (congrArg some (by kernel_rfl))
  f229 := Tryz.func22.trans (congrArg some (by kernel_rfl))
  f261 := Tryz.func144.trans (congrArg some (by kernel_rfl))
  f311 := Tryz.func157.trans (congrArg some (by kernel_rfl))
  f312 := Tryz.func158.trans (congrArg some (by kernel_rfl))
  t0 := Tryz.underlying0
  a0 := Tryz.isAgg0
  z0 := Tryz.sizeOf0
  v0 := Tryz.zeroValue0
  t3 := Tryz.underlying3
  a3 := Tryz.isAgg3
  z3 := Tryz.sizeOf3
  v3 := Tryz.zeroValue3
  t4 := Tryz.underlying4
  a4 := Tryz.isAgg4
  z4 := Tryz.sizeOf4
  v4 := Tryz.zeroValue4
  t5 := Tryz.underlying5
  a5 := Tryz.isAgg5
  z5 := Tryz.sizeOf5
  v5 := Tryz.zeroValue5
  t9 := Tryz.underlying9
  a9 := Tryz.isAgg9
  z9 := Tryz.sizeOf9
  v9 := Tryz.zeroValue9
  t21 := Tryz.underlying21
  a21 := Tryz.isAgg21
  z21 := Tryz.sizeOf21
  v21 := Tryz.zeroValue21
  t31 := Tryz.underlying42
  a31 := Tryz.isAgg42
  z31 := Tryz.sizeOf42
  v31 := Tryz.zeroValue42
  t40 := Tryz.underlying55
  a40 := Tryz.isAgg55
  z40 := Tryz.sizeOf55
  v40 := Tryz.zeroValue55
  t46 := Tryz.underlying66
  a46 := Tryz.isAgg66
  z46 := Tryz.sizeOf66
  v46 := Tryz.zeroValue66
  t49 := Tryz.underlying195
  a49 := Tryz.isAgg195
  z49 := Tryz.sizeOf195
  v49 := Tryz.zeroValue195
  t51 := Tryz.underlying131
  a51 := Tryz.isAgg131
  z51 := Tryz.sizeOf131
  v51 := Tryz.zeroValue131
  t119 := Tryz.underlying158
  a119 := Tryz.isAgg158
  z119 := Tryz.sizeOf158
  t141 := Tryz.underlying178
  a141 := Tryz.isAgg178
  z141 := Tryz.sizeOf178
  v141 := Tryz.zeroValue178
  t152 := Tryz.underlying77
  a152 := Tryz.isAgg77
  z152 := Tryz.sizeOf77
  v152 := Tryz.zeroValue77
  t154 := Tryz.underlying79
  a154 := Tryz.isAgg79
  z154 := Tryz.sizeOf79
  v154 := Tryz.zeroValue79
  t193 := Tryz.underlying191
  a193 := Tryz.isAgg191
  z193 := Tryz.sizeOf191
  v193 := Tryz.zeroValue191
  t194 := Tryz.underlying192
  a194 := Tryz.isAgg192
  z194 := Tryz.sizeOf192
  v194 := Tryz.zeroValue192
  t196 := Tryz.underlying194
  a196 := Tryz.isAgg194
  z196 := Tryz.sizeOf194
  v196 := Tryz.zeroValue194
  t198 := Tryz.underlying197
  a198 := Tryz.isAgg197
  z198 := Tryz.sizeOf197
  v198 := Tryz.zeroValue197
  t201 := Tryz.underlying200
  a201 := Tryz.isAgg200
  z201 := Tryz.sizeOf200
  v201 := Tryz.zeroValue200
  t226 := Tryz.underlying208
  a226 := Tryz.isAgg208
  z226 := Tryz.sizeOf208
  v226 := Tryz.zeroValue208
  t227 := Tryz.underlying209
  a227 := Tryz.isAgg209
  z227 := Tryz.sizeOf209
  v227 := Tryz.zeroValue209
  g0 := by kernel_rfl
  g6 := by kernel_rfl
  i0 := by kernel_rfl
  i3 := by kernel_rfl
  i4 := by kernel_rfl
  i5 := by kernel_rfl
  i9 := by kernel_rfl
  i21 := by kernel_rfl
  i31 := by kernel_rfl
  i40 := by kernel_rfl
  i46 := by kernel_rfl
  i49 := by kernel_rfl
  i51 := by kernel_rfl
  i141 := by kernel_rfl
  i152 := by kernel_rfl
  i154 := by kernel_rfl
  i193 := by kernel_rfl
  i194 := by kernel_rfl
  i196 := by kernel_rfl
  i198 := by kernel_rfl
  i201 := by kernel_rfl
  i226 := by kernel_rfl
  i227 := by kernel_rfl
  m0 := by kernel_rfl
  m6 := by kernel_rfl
def delL_ren : Go.Shelf.Ren := ⟨fun | 6 => 38 | 10 => 18 | n => n, fun | 0 => 0 | 3 => 3 | 4 => 4 | 22 => 42 | 23 => 9 | 25 => 30 | n => n, fun | n => n⟩
theorem delL : Go.Proofs.SlLaysH.n10 Tryz.prog delL_ren where
  mixed := by kernel_rfl
  f6 := ⟨Tryz.f38.name, by decide, Tryz.func38.trans (congrArg some (by kernel_rfl))⟩
  f10 := ⟨Tryz.f18.name, by decide, Tryz.func18.trans (congrArg some (by kernel_rfl))⟩
  t0 := Tryz.underlying0
  a0 := Tryz.isAgg0
  z0 := Tryz.sizeOf0
  v0 := Tryz.zeroValue0
  t3 := Tryz.underlying3
  a3 := Tryz.isAgg3
  z3 := Tryz.sizeOf3
  v3 := Tryz.zeroValue3
  t4 := Tryz.underlying4
  a4 := Tryz.isAgg4
  z4 := Tryz.sizeOf4
  v4 := Tryz.zeroValue4
  t22 := Tryz.underlying42
  a22 := Tryz.isAgg42
  z22 := Tryz.sizeOf42
  v22 := Tryz.zeroValue42
  a23 := Tryz.isAgg9
  z23 := Tryz.sizeOf9
  t25 := Tryz.underlying30
  a25 := Tryz.isAgg30
  z25 := Tryz.sizeOf30
  v25 := Tryz.zeroValue30
theorem extraL : Go.Proofs.Builder.Extra Tryz.prog replN_ren where
  sizeBuilder := by kernel_rfl
  liesBuilder := by kernel_rfl
  t5 := Tryz.underlying5
  a5 := Tryz.isAgg5
  z5 := Tryz.sizeOf5
  v5 := Tryz.zeroValue5
  infoByte := by kernel_rfl
  cellsByte := by kernel_rfl
  sizeByte := by kernel_rfl
  neB5 := by decide

/-- what of the library's variables the texts read -/
structure LibW (w : World) : Prop where
  ml : ∃ m, w.cell? ⟨0, 0, none⟩ = some (.int .i64 m)
  pw : Lib.TabIs Tryz.prog w "internal/strconv.uint64pow10" .u64 Lib.pow10Tab
  sy : ∃ te pe, w.cell? ⟨5, 0, none⟩ = some (.iface te pe)
  ra : ∃ te pe, w.cell? ⟨6, 0, none⟩ = some (.iface te pe)
theorem cell_ext {w w' : World} {p : Addr} {v : Value} (h : w.cell? p = some v) (e : Ext w w') : w'.cell? p = some v := by
  rw [e.cell (block_lt_of_cell h)]; exact h
theorem tab_ext {w w' : World} {name : String} {k : IntKind} {zs : List Int} {g : Nat} (h : Lib.TabIs Tryz.prog w name k zs) (hg : Tryz.prog.globalNamed name = some g) (e : Ext w w') : Lib.TabIs Tryz.prog w' name k zs := by
  unfold Lib.TabIs World.var? at h ⊢
  rw [hg] at h ⊢
  simp only [Option.bind_some] at h ⊢
  have hlt : g < w.heap.size := by
    by_cases hg2 : g < w.heap.size
    · exact hg2
    · rw [Array.getElem?_eq_none (by omega)] at h
      cases h
  rw [e.block g hlt]
  exact h
theorem LibW.ext {w w' : World} (h : LibW w) (e : Ext w w') : LibW w' := by
  obtain ⟨⟨m, h1⟩, h2, ⟨t3, p3, h3⟩, ⟨t4, p4, h4⟩⟩ := h
  exact ⟨⟨m, cell_ext h1 e⟩, tab_ext (g := 7) h2 (by kernel_rfl) e, ⟨t3, p3, cell_ext h3 e⟩, ⟨t4, p4, cell_ext h4 e⟩⟩

theorem toList_strOf (l : List UInt8) : (strOf l).data.toList = l := by simp [strOf]
theorem size_strOf (l : List UInt8) : (strOf l).size = l.length := by show l.toArray.size = _; simp
theorem cutS_c (l sep : List UInt8) (w : World) (hl : l.length < 4294967281) (hm : ∃ m, w.cell? ⟨0, 0, none⟩ = some (.int .i64 m)) :
    Calls Tryz.prog 17 #[.string (strOf l), .string (strOf sep)] w fun e w' => e = .returned (.tuple #[.string (strOf (Lib.cut l sep).1), .string (strOf (Lib.cut l sep).2.1), .bool (Lib.cut l sep).2.2]) ∧ Ext w w' := by
  obtain ⟨m, hm⟩ := hm
  have h := Any.strings_Cut cutLay (strOf l) (strOf sep) m w (by rw [size_strOf]; exact hl) hm
  rw [toList_strOf, toList_strOf] at h
  refine h.mono ?_
  rintro e w' ⟨rfl, n, rfl⟩
  exact ⟨rfl, (Ext.refl w).drewN n⟩
theorem itoa_c (n : Int) (w : World) (h0 : -9223372036854775808 ≤ n) (h1 : n ≤ 9223372036854775807) (ht : Lib.TabIs Tryz.prog w "internal/strconv.uint64pow10" .u64 Lib.pow10Tab) :
    Calls Tryz.prog 64 #[.int .i64 n] w fun e w' => e = .returned (.string (strOf (Lib.itoa n))) ∧ Ext w w' := by
  refine (Any.strconv_Itoa itoaL n h0 h1 w ht).mono ?_
  rintro e w' ⟨rfl, k, os, rfl⟩
  exact ⟨rfl, Lib.below_grow _ w (Nat.le_refl _) k os⟩
theorem atoi_ok (l : List UInt8) (w : World) (hl : l.length ≤ 281474976710656) (h : numOk l = true) :
    Calls Tryz.prog 88 #[.string (strOf l)] w fun e w' => e = .returned (.tuple #[.int .i64 (numOf l), .nilIface]) ∧ Ext w w' := by
  unfold numOk at h
  cases ha : Lib.atoiAll l with
  | range => rw [ha] at h; cases h
  | ok v =>
    have e1 : numOf l = v := by unfold numOf; rw [ha]
    rw [e1]
    refine (Any.strconv_Atoi_ok atoiLay (strOf l) (by rw [size_strOf]; omega) v (by rw [toList_strOf]; exact ha) w).mono ?_
    rintro e w' ⟨rfl, rfl | ⟨t, rfl⟩⟩
    · exact ⟨rfl, Ext.refl _⟩
    · exact ⟨rfl, Lib.bytesWorld_below _ _ _⟩
  | _ => rw [ha] at h; cases h
theorem atoi_no (l : List UInt8) (w : World) (hl : l.length ≤ 281474976710656) (h : numOk l = false) (hw : LibW w) :
    Calls Tryz.prog 88 #[.string (strOf l)] w fun e w' => ∃ N, e = .returned (.tuple #[.int .i64 (numOf l), .iface 165 (.pointer (some ⟨N, 0, none⟩))]) ∧ Ext w w' := by
  obtain ⟨_, _, ⟨t3, p3, h3⟩, ⟨t4, p4, h4⟩⟩ := hw
  unfold numOk at h
  cases ha : Lib.atoiAll l with
  | ok v => rw [ha] at h; cases h
  | range =>
    have e1 : numOf l = Lib.atoiSat l := by unfold numOf; rw [ha]
    rw [e1]
    have h5 := Any.strconv_Atoi_range atoiLay (strOf l) (by rw [size_strOf]; omega) (by rw [toList_strOf]; exact ha) _ w h4 (.inr ⟨_, _, rfl⟩)
    rw [toList_strOf] at h5
    refine h5.mono ?_
    rintro e w' ⟨N, rfl, -, -, hb⟩
    exact ⟨N, rfl, hb⟩
  | _ =>
    have e1 : numOf l = 0 := by unfold numOf; rw [ha]
    rw [e1]
    refine (Any.strconv_Atoi_syntax atoiLay (strOf l) (by rw [size_strOf]; omega) (by rw [toList_strOf]; exact ha) _ w h3 (.inr ⟨_, _, rfl⟩)).mono ?_
    rintro e w' ⟨N, rfl, -, -, hb⟩
    exact ⟨N, rfl, hb⟩
end

section
open Go Go.RowKit Go.Shelf Go.Sort

theorem strOf_back (b : ByteArray) : strOf b.data.toList = b := by
  cases b with
  | mk d => simp [strOf]
theorem map_strOf_back (bs : List ByteArray) : (bs.map fun b => b.data.toList).map strOf = bs := by
  rw [List.map_map]
  conv => rhs; rw [← List.map_id bs]
  exact List.map_congr_left fun b _ => strOf_back b
theorem splitB_strOf (l : List UInt8) (c : UInt8) : Lib.splitB (strOf [c]) 0 (Lib.countB (strOf l) (strOf [c])) (strOf l) = (splitR c l).map strOf := by
  have h := Lib.splitB_data (strOf [c]) 0 (Lib.countB (strOf l) (strOf [c])) (strOf l)
  have hc : Lib.countB (strOf l) (strOf [c]) = Lib.count l [c] := by
    show Lib.count (strOf l).data.toList (strOf [c]).data.toList = _
    rw [toList_strOf, toList_strOf]
  rw [toList_strOf, toList_strOf, hc, splitR_of] at h
  rw [hc, ← h, map_strOf_back]
theorem split_c (l : List UInt8) (c : UInt8) (w : World) (hl : l.length < 4294967281) (hm : ∃ m, w.cell? ⟨0, 0, none⟩ = some (.int .i64 m)) :
    Calls Tryz.prog 16 #[.string (strOf l), .string (strOf [c])] w fun e w' => e = .returned (.slice (some ⟨w.heap.size, 0, none⟩) (splitR c l).length (splitR c l).length) ∧ Blk w' w.heap.size (((splitR c l).map strOf).map encStr) 9 ∧ Ext w w' := by
  obtain ⟨m, hm⟩ := hm
  have h := Any.strings_Split splitL (by kernel_rfl) (strOf l) (strOf [c]) m w (by rw [size_strOf]; exact hl) hm (by rw [size_strOf]; simp)
  have h2 := splitB_strOf l c
  have h3 : Lib.countB (strOf l) (strOf [c]) + 1 = (splitR c l).length := by
    have := Lib.splitB_all (strOf [c]) (by rw [size_strOf]; simp) 0 _ (strOf l) rfl
    rw [h2, List.length_map] at this
    exact this.symm
  rw [h2, h3] at h
  refine h.mono ?_
  rintro e w' ⟨rfl, rfl⟩
  exact ⟨rfl, Blk.alloc_new w _ _, (Ext.refl w).alloc _⟩
theorem repl_c (l : List UInt8) (w : World) (hl : l.length < 4294967281) (hm : ∃ m, w.cell? ⟨0, 0, none⟩ = some (.int .i64 m)) :
    Calls Tryz.prog 19 #[.string (strOf l), .string (strOf [9]), .string (strOf [32])] w fun e w' => e = .returned (.string (strOf (Lib.replaceAll l [9] [32]))) ∧ Ext w w' := by
  obtain ⟨m, hm⟩ := hm
  have hc := Lib.countB_le (strOf [9]) (by rw [size_strOf]; simp) _ (strOf l) (Nat.le_refl _)
  have h := Any.strings_ReplaceAll replN extraL (strOf l) (strOf [9]) (strOf [32]) m w (by rw [size_strOf]; exact hl) hm (by rw [size_strOf]; simp) (by rw [size_strOf] at hc ⊢; rw [size_strOf]; simp only [List.length_cons, List.length_nil]; omega)
  rw [toList_strOf, toList_strOf, toList_strOf] at h
  exact h
theorem onlyEmpty (x : ByteArray) (w : World) : Calls Tryz.prog 20 #[.string x] w fun e w' => e = .returned (.bool (emptyB x)) ∧ ∃ q, w' = w.drewN q := by
  have he : (x.toList == ([] : List UInt8)) = emptyB x := by
    unfold emptyB
    cases x.toList <;> rfl
  go_enter Tryz.func20, Tryz.ntmps20
  go_wp2
  go_ret
  exact ⟨by first | rfl | rw [← he]; rfl | simp [emptyB], 0, rfl⟩
theorem holds_blk {w : World} {g : Nat} {ls : List ByteArray} {T : TypeId} (h : Blk w g (ls.map encStr) T) : Holds encStr w g 0 ls.toArray := by
  intro j hj
  have hj2 : j < ls.length := by simpa using hj
  refine ⟨?_, h.frozen _⟩
  rw [Nat.zero_add]
  refine h.cell' ?_
  rw [List.getElem?_map, List.getElem?_eq_getElem hj2, getElem!_pos ls.toArray j hj]
  simp
theorem blk_mapBlock {w : World} {g : Nat} {vs vs' : List Value} {T : TypeId} {f : Array Value → Array Value} (h : Blk w g vs T) (hf : f vs.toArray = vs'.toArray) : Blk (Sort.mapBlock w g f) g vs' T ∧ Upd w g (Sort.mapBlock w g f) := by
  refine ⟨?_, ⟨rfl, rfl, rfl, by simp [Sort.mapBlock], fun k hk => ?_⟩⟩
  · unfold Blk at h ⊢
    simp only [Sort.mapBlock, Array.getElem?_modify, if_pos, h, Option.map_some]
    simp [Sort.onCells, hf]
  · simp only [Sort.mapBlock, Array.getElem?_modify]
    rw [if_neg (fun e => hk e.symm)]
theorem put_all (ls ks : List ByteArray) (h : ks.length = ls.length) : Sort.putCells encStr 0 ks.toArray (ls.map encStr).toArray = (ks.map encStr).toArray := by
  apply Array.ext_getElem?
  intro i
  simp only [Sort.putCells, Array.getElem?_mapIdx]
  by_cases hi : i < ls.length
  · rw [show (ls.map encStr).toArray[i]? = some (encStr ls[i]) by simp [hi]]
    have hk : i < ks.length := by omega
    rw [Option.map_some, if_pos ⟨by omega, by simp; omega⟩]
    simp [hk]
  · rw [show (ls.map encStr).toArray[i]? = none by simp; omega, show (ks.map encStr).toArray[i]? = none by simp; omega]
    rfl
theorem del_c (ls : List ByteArray) (g cap : Nat) (w : World) (hb : Blk w g (ls.map encStr) 9) (hn : ls.length ≤ 4611686018427387904) (hc : ls.length ≤ cap) :
    Calls Tryz.prog 18 #[.slice (some ⟨g, 0, none⟩) ls.length cap, .func (.func 20) #[] #[]] w fun e w' =>
      e = .returned (.slice (some ⟨g, 0, none⟩) (ls.filter fun s => !emptyB s).length cap) ∧ (∃ vs, Blk w' g ((ls.filter fun s => !emptyB s).map encStr ++ vs) 9) ∧ Upd w g w' := by
  have hFn : ∀ (W : World) (x : ByteArray), FnGives Tryz.prog 20 #[] #[encStr x] (.bool (emptyB x)) W := fun W x => onlyEmpty x W
  have h := AnyE.slices_DeleteFunc delL encStr (fun _ => rfl) emptyB 20 #[] (enters_ofU Tryz.func20 (by kernel_rfl) rfl) ByteArray.empty Tryz.zeroValue9 g 0 cap ls.toArray w (fun W x _ => hFn W x) (fun n os dk x _ => hFn _ x) (holds_blk hb) (by simp; omega) (by simpa using hc)
  rw [show ls.toArray.size = ls.length from rfl, show ls.toArray.toList = ls from rfl] at h
  refine h.mono ?_
  rintro e w' ⟨rfl, q, rfl⟩
  refine ⟨rfl, ?_⟩
  obtain ⟨k1, k2⟩ := blk_mapBlock (w := Sort.ahead w q) (f := Sort.putCells encStr 0 ((ls.filter fun s => !emptyB s) ++ List.replicate (ls.length - (ls.filter fun s => !emptyB s).length) ByteArray.empty).toArray) (show Blk (Sort.ahead w q) g (ls.map encStr) 9 from hb) (put_all ls _ (by
    have := List.length_filter_le (fun s => !emptyB s) ls
    rw [List.length_append, List.length_replicate]; omega))
  rw [List.map_append] at k1
  exact ⟨⟨_, k1⟩, ⟨k2.os, k2.tape, k2.output, k2.size, k2.block⟩⟩
end

section
open Go Go.RowKit

section
variable {P : Program} {ops : Array Oper} {rest : List Oper} {o : Oper} {a : Act} {w : World} {Q : Exit → Act → World → Prop}
theorem shift_block {p : Option Addr} {c k : Nat} {A : Addr} (h : p = some A) : ∃ A', shift p c k = some A' ∧ A'.block = A.block := by
  subst h
  unfold shift
  split
  · exact ⟨A, rfl, rfl⟩
  · refine ⟨A.add k, rfl, ?_⟩
    unfold Addr.add
    split <;> rfl
theorem addr_a0 (A : Addr) : A.add 0 = A := by unfold Addr.add; split <;> simp_all
theorem shift_0 (p : Option Addr) (c : Nat) : shift p c 0 = p := by
  unfold shift
  split
  · rfl
  · cases p with
    | none => rfl
    | some A =>
      show some (A.add 0) = some A
      rw [show A.add 0 = A by unfold Addr.add; split <;> simp_all]
theorem exec_slLow {t e : TypeId} {x y : Operand} {p : Option Addr} {n c k : Nat} (ho : o.op = .slice t x (some y) none none) (hx : a.eval x = .slice p n c) (hy : a.eval y = .int .i64 (k : Int)) (hu : P.underlying t = some (.slice e)) (hs : (P.info? e).map (·.size) = some 1) (hk : k ≤ n) (w : World) :
    (execOp a.eval o).run P w = .ok (.value (.slice (shift p c k) (n - k) (c - k))) w := by
  cases hq : P.info? e with
  | none => simp [hq] at hs
  | some i =>
    have hi : i.size = 1 := by simpa [hq] using hs
    have h1 : (0 : Int) ≤ k ∧ (k : Int) ≤ n := by omega
    unfold execOp
    simp [ho, hx, hy, Instr.sliceAt, Instr.slice, Instr.sliceBounds, Instr.sliceBound, asIntOf, run_underlying hu, sizeOf, typeInfo, hq, hi, h1.1, hk, shift]
theorem exec_slHigh {t e : TypeId} {x y : Operand} {p : Option Addr} {n c k : Nat} (ho : o.op = .slice t x none (some y) none) (hx : a.eval x = .slice p n c) (hy : a.eval y = .int .i64 (k : Int)) (hu : P.underlying t = some (.slice e)) (hs : (P.info? e).map (·.size) = some 1) (hk : k ≤ c) (w : World) :
    (execOp a.eval o).run P w = .ok (.value (.slice p k c)) w := by
  cases hq : P.info? e with
  | none => simp [hq] at hs
  | some i =>
    have hi : i.size = 1 := by simpa [hq] using hs
    have h1 : (0 : Int) ≤ k ∧ (k : Int) ≤ c := by omega
    have ha : p.map (fun x => x.add 0) = p := by
      cases p with
      | none => rfl
      | some A =>
        show some (A.add 0) = some A
        rw [show A.add 0 = A by unfold Addr.add; split <;> simp_all]
    unfold execOp
    simp [ho, hx, hy, Instr.sliceAt, Instr.slice, Instr.sliceBounds, Instr.sliceBound, asIntOf, run_underlying hu, sizeOf, typeInfo, hq, hi, hk, ha]
theorem exec_slTop {t e : TypeId} {x y z : Operand} {p : Option Addr} {n c k : Nat} (ho : o.op = .slice t x none (some y) (some z)) (hx : a.eval x = .slice p n c) (hy : a.eval y = .int .i64 (k : Int)) (hz : a.eval z = .int .i64 (k : Int)) (hu : P.underlying t = some (.slice e)) (hs : (P.info? e).map (·.size) = some 1) (hk : k ≤ c) (w : World) :
    (execOp a.eval o).run P w = .ok (.value (.slice p k k)) w := by
  cases hq : P.info? e with
  | none => simp [hq] at hs
  | some i =>
    have hi : i.size = 1 := by simpa [hq] using hs
    have h1 : (0 : Int) ≤ k ∧ (k : Int) ≤ c := by omega
    have ha : p.map (fun x => x.add 0) = p := by
      cases p with
      | none => rfl
      | some A =>
        show some (A.add 0) = some A
        rw [show A.add 0 = A by unfold Addr.add; split <;> simp_all]
    unfold execOp
    simp [ho, hx, hy, hz, Instr.sliceAt, Instr.slice, Instr.sliceBounds, Instr.sliceBound, asIntOf, run_underlying hu, sizeOf, typeInfo, hq, hi, hk, ha]
end

theorem gbw_self (w : World) (r : Option Nat) : w.grownBy w r := ⟨rfl, rfl, rfl, Nat.le_refl _, fun _ _ _ => rfl⟩
theorem gbw_ext {w w1 w2 : World} {r : Option Nat} (h : w.grownBy w1 r) (e : Ext w1 w2) : w.grownBy w2 r :=
  ⟨e.os.trans h.os, e.tape.trans h.tape, e.output.trans h.output, Nat.le_trans h.size e.size, fun i hi hr => (e.block i (Nat.lt_of_lt_of_le hi h.size)).trans (h.block i hi hr)⟩
theorem gbw_upd {w w1 w2 : World} {g : Nat} (h : w.grownBy w1 (some g)) (u : Upd w1 g w2) : w.grownBy w2 (some g) :=
  ⟨u.os.trans h.os, u.tape.trans h.tape, u.output.trans h.output, Nat.le_trans h.size (Nat.le_of_eq u.size.symm), fun i hi hr => (u.block i (fun e => hr (by rw [e]))).trans (h.block i hi hr)⟩
theorem gbw_trans {a b c : World} {r : Option Nat} (h : a.grownBy b r) (k : b.grownBy c r) : a.grownBy c r :=
  ⟨k.os.trans h.os, k.tape.trans h.tape, k.output.trans h.output, Nat.le_trans h.size k.size, fun i hi hr => (k.block i (Nat.lt_of_lt_of_le hi h.size) hr).trans (h.block i hi hr)⟩

/-- the address is at block B or behind, or there is nothing -/
def HiA (B : Nat) (a : Option Addr) (n : Nat) : Prop := n = 0 ∨ ∃ A, a = some A ∧ B ≤ A.block
/-- words in memory -/
structure Wds (w : World) (B : Nat) (a : Option Addr) (n c : Nat) (ws : List ByteArray) : Prop where
  hl : ws.length = n
  hnc : n ≤ c
  hm : n ≤ 1000000
  hs : ∀ s ∈ ws, s.size ≤ 1000000
  hi : HiA B a n
  cell : Cells w a (ws.map encStr)
theorem Wds.nil (w : World) (B : Nat) : Wds w B none 0 0 [] := ⟨rfl, Nat.le_refl _, by omega, (fun _ h => by cases h), .inl rfl, .inl rfl⟩
theorem Wds.ext {w w' : World} {B : Nat} {a : Option Addr} {n c : Nat} {ws : List ByteArray} (h : Wds w B a n c ws) (e : Ext w w') : Wds w' B a n c ws := ⟨h.hl, h.hnc, h.hm, h.hs, h.hi, h.cell.ext e⟩
theorem Wds.drop {w : World} {B : Nat} {a : Option Addr} {n c : Nat} {ws : List ByteArray} (h : Wds w B a n c ws) {k : Nat} (hk : k ≤ n) : Wds w B (shift a c k) (n - k) (c - k) (ws.drop k) := by
  have hl := h.hl
  have hnc := h.hnc
  have hm := h.hm
  refine ⟨by rw [List.length_drop, hl], by omega, by omega, fun s hs => h.hs s (List.mem_of_mem_drop hs), ?_, ?_⟩
  · rcases h.hi with h0 | ⟨A, h1, h2⟩
    · exact .inl (by omega)
    · obtain ⟨A', h3, h4⟩ := shift_block (c := c) (k := k) h1
      exact .inr ⟨A', h3, by rw [h4]; exact h2⟩
  · have := h.cell.shift c k (n - k) (by omega)
    rw [← List.map_drop, ← List.map_take, List.take_of_length_le (by rw [List.length_drop, hl]; exact Nat.le_refl _)] at this
    exact this
theorem Wds.take {w : World} {B : Nat} {a : Option Addr} {n c : Nat} {ws : List ByteArray} (h : Wds w B a n c ws) {k c' : Nat} (hk : k ≤ n) (hc : k ≤ c') : Wds w B a k c' (ws.take k) := by
  have hl := h.hl
  have hm := h.hm
  refine ⟨by rw [List.length_take, hl]; omega, hc, by omega, fun s hs => h.hs s (List.mem_of_mem_take hs), ?_, ?_⟩
  · rcases h.hi with h0 | h1
    · exact .inl (by omega)
    · exact .inr h1
  · have := h.cell.take k
    rw [← List.map_take] at this
    exact this
theorem Wds.at {w : World} {B : Nat} {a : Option Addr} {n c : Nat} {ws : List ByteArray} (h : Wds w B a n c ws) {k : Nat} {x : ByteArray} (hx : ws[k]? = some x) : ∃ A, a = some A ∧ w.cell? (A.add k) = some (.string x) := by
  have hk := (List.getElem?_eq_some_iff.1 hx).1
  obtain ⟨b, o, rfl, hc⟩ := h.cell.some_of (by rw [List.length_map]; omega)
  refine ⟨_, rfl, ?_⟩
  rw [addr_add]
  exact hc k _ (by rw [List.getElem?_map, hx]; rfl)

theorem bytes_eqW (x y : ByteArray) : (x.toList == y.toList) = decide (x = y) := by
  by_cases h : x = y
  · subst h; simp
  · rw [decide_eq_false h]
    exact Bool.eq_false_iff.2 fun e => h (by
      have e2 := beq_iff_eq.1 e
      rw [ByteArray.toList_eq, ByteArray.toList_eq] at e2
      cases x; cases y
      simpa using e2)

theorem lit_role (x : ByteArray) : (x.toList == [114, 111, 108, 101]) = decide (x = wdRole) := by
  rw [← bytes_eqW, show wdRole.toList = [114, 111, 108, 101] by rw [ByteArray.toList_eq]; rfl]
theorem lit_act (x : ByteArray) : (x.toList == [97, 99, 116]) = decide (x = wdAct) := by
  rw [← bytes_eqW, show wdAct.toList = [97, 99, 116] by rw [ByteArray.toList_eq]; rfl]
theorem lit_on (x : ByteArray) : (x.toList == [111, 110]) = decide (x = wdOn) := by
  rw [← bytes_eqW, show wdOn.toList = [111, 110] by rw [ByteArray.toList_eq]; rfl]
theorem lit_at (x : ByteArray) : (x.toList == [97, 116]) = decide (x = wdAt) := by
  rw [← bytes_eqW, show wdAt.toList = [97, 116] by rw [ByteArray.toList_eq]; rfl]
theorem lit_need (x : ByteArray) : (x.toList == [110, 101, 101, 100]) = decide (x = wdNeed) := by
  rw [← bytes_eqW, show wdNeed.toList = [110, 101, 101, 100] by rw [ByteArray.toList_eq]; rfl]
theorem lit_deny (x : ByteArray) : (x.toList == [100, 101, 110, 121]) = decide (x = wdDeny) := by
  rw [← bytes_eqW, show wdDeny.toList = [100, 101, 110, 121] by rw [ByteArray.toList_eq]; rfl]
theorem lit_allow (x : ByteArray) : (x.toList == [97, 108, 108, 111, 119]) = decide (x = wdAllow) := by
  rw [← bytes_eqW, show wdAllow.toList = [97, 108, 108, 111, 119] by rw [ByteArray.toList_eq]; rfl]
set_option maxHeartbeats 1000000 in
theorem beginsPart_c (x : ByteArray) (w : World) : Calls Tryz.prog 85 #[.string x] w fun e w' => e = .returned (.bool (partB x)) ∧ w = w' := by
  have q1 := lit_role x
  have q2 := lit_act x
  have q3 := lit_on x
  have q4 := lit_at x
  have q5 := lit_need x
  unfold partB
  generalize decide (x = wdRole) = b1 at *
  generalize decide (x = wdAct) = b2 at *
  generalize decide (x = wdOn) = b3 at *
  generalize decide (x = wdAt) = b4 at *
  generalize decide (x = wdNeed) = b5 at *
  cases b1 with
  | true =>
    go_enter Tryz.func85, Tryz.ntmps85
    go_wp2
    go_ret
    exact ⟨by first | rfl | simp, rfl⟩
  | false =>
    cases b2 with
    | true =>
      go_enter Tryz.func85, Tryz.ntmps85
      go_wp2
      go_ret
      exact ⟨by first | rfl | simp, rfl⟩
    | false =>
      cases b3 with
      | true =>
        go_enter Tryz.func85, Tryz.ntmps85
        go_wp2
        go_ret
        exact ⟨by first | rfl | simp, rfl⟩
      | false =>
        cases b4 with
        | true =>
          go_enter Tryz.func85, Tryz.ntmps85
          go_wp2
          go_ret
          exact ⟨by first | rfl | simp, rfl⟩
        | false =>
          cases b5 with
          | true =>
            go_enter Tryz.func85, Tryz.ntmps85
            go_wp2
            go_ret
            exact ⟨by first | rfl | simp, rfl⟩
          | false =>
            go_enter Tryz.func85, Tryz.ntmps85
            go_wp2
            go_ret
            exact ⟨by first | rfl | simp, rfl⟩
theorem size_str1 : (Tryz.prog.info? 9).map (·.size) = some 1 := by kernel_rfl
theorem one_words : OneT Tryz.prog 46 := ⟨⟨_, Tryz.underlying46, rfl⟩, by kernel_rfl⟩

set_option maxHeartbeats 1000000 in
theorem is_c (G B : Nat) (T : TypeId) (a : Option Addr) (n c : Nat) (ws : List ByteArray) (nm : ByteArray) (w : World) (hG : Blk w G [.slice a n c] T) (hw : Wds w B a n c ws) :
    Calls Tryz.prog 40 #[.pointer (some ⟨G, 0, none⟩), .string nm] w fun e w' => e = .returned (.bool (secB nm ws)) ∧ ∃ a' n' c', Blk w' G [.slice a' n' c'] T ∧
      (∀ W, Wds W B a n c ws → Wds W B a' n' c' (if secB nm ws then ws.tail else ws)) ∧ Upd w G w' := by
  have c0 := hG.cell' (i := 0) rfl
  have f0 := hG.frozen 0
  have HG := hid hG
  cases ws with
  | nil =>
    obtain rfl : n = 0 := hw.hl.symm
    clear hw hG
    go_enter Tryz.func40, Tryz.ntmps40
    go_wp2
    go_ret
    exact ⟨rfl, a, 0, c, HG.out, fun _ h => h, Upd.refl _ _⟩
  | cons x r =>
    have hn : n = r.length + 1 := hw.hl.symm
    have hnc := hw.hnc
    have hm := hw.hm
    obtain ⟨A, rfl, hca⟩ := hw.at (k := 0) (x := x) rfl
    rw [addr_a0] at hca
    have N3 := hid (show 1 ≤ n by omega)
    have n0 : ((n : Int) == 0) = false := by simp; omega
    have n1 : decide ((n : Int) = 0) = false := by simp; omega
    have n2 : decide (n = 0) = false := by simp; omega
    have hq := bytes_eqW x nm
    have hsec : secB nm (x :: r) = decide (x = nm) := rfl
    have HD := hid (fun (W : World) (h : Wds W B (some A) n c (x :: r)) => h.drop (k := 1) (by omega))
    rw [hsec]
    clear hw hG hsec hn hnc hm
    generalize decide (x = nm) = b at *
    cases b with
    | false =>
      go_enter Tryz.func40, Tryz.ntmps40
      go_wp2
      go_ret
      exact ⟨rfl, some A, n, c, HG.out, fun _ h => h, Upd.refl _ _⟩
    | true =>
      go_enter Tryz.func40, Tryz.ntmps40
      go_wp2_with (refine wpl_run rfl (exec_slLow (p := some A) (n := n) (c := c) (k := 1) rfl rfl rfl Tryz.underlying46 size_str1 N3.out _) ?_)
      go_ret
      exact ⟨rfl, _, _, _, HG.out.set 0 _, fun W h => HD.out W h, Upd.setCell _⟩

set_option maxRecDepth 100000 in
set_option maxHeartbeats 2000000 in
theorem list_c (G B : Nat) (T : TypeId) (a : Option Addr) (n c : Nat) (ws : List ByteArray) (w : World) (hG : Blk w G [.slice a n c] T) (hw : Wds w B a n c ws) :
    Calls Tryz.prog 41 #[.pointer (some ⟨G, 0, none⟩)] w fun e w' => ∃ m, e = .returned (.slice a m m) ∧ Blk w' G [.slice (shift a c m) (n - m) (c - m)] T ∧ m = upN ws ∧ m ≤ n ∧ Upd w G w' := by
  have c0 := hG.cell' (i := 0) rfl
  have f0 := hG.frozen 0
  have HG := hid hG
  have HW := hid hw
  have hnc := hw.hnc
  have hm := hw.hm
  have hbp := hid (fun x w => beginsPart_c x w)
  clear hw hG
  go_enter Tryz.func41, Tryz.ntmps41
  go_wp2
  go_loop [3] (fun i => ∃ k : Nat, k ≤ n ∧ i = .int .i64 (k : Int) ∧ Hid (∀ x ∈ ws.take k, partB x = false)) (fun i => n - (intOf i).toNat)
  case atStart => exact ⟨0, by omega, rfl, hid (by simp)⟩
  case round =>
    obtain ⟨k, hk, rfl, hpre⟩ := hrel
    by_cases hlt : k < n
    · have d1 : decide ((k : Int) < (n : Int)) = true := decide_eq_true (by omega)
      have d2 : decide (k < n) = true := decide_eq_true hlt
      obtain ⟨x, hx⟩ : ∃ x, ws[k]? = some x := ⟨ws[k]'(by rw [HW.out.hl]; exact hlt), by simp⟩
      obtain ⟨A, rfl, hca⟩ := HW.out.at hx
      have HX := hid hx
      have hp := hbp.out x w
      obtain ⟨b, hb⟩ : ∃ b, partB x = b := ⟨_, rfl⟩
      rw [hb] at hp
      have HB := hid hb
      have HP := hid hp
      clear hx hb hp
      cases b with
      | false =>
        go_wp2_with (refine HP.out.mono ?_; rintro e w1 ⟨rfl, rfl⟩)
        go_round
        case rel =>
          refine ⟨k + 1, by omega, by go_num, hid (fun y hy => ?_)⟩
          rw [List.take_add_one, HX.out, List.mem_append] at hy
          rcases hy with hy | hy
          · exact hpre.out y hy
          · simp at hy; rw [hy]; exact HB.out
        case measure => simp [intOf]; omega
      | true =>
        have hu : k = upN ws := (upN_of (by rw [HW.out.hl]; exact hk) hpre.out (fun y hy => by rw [HX.out] at hy; injection hy with hy; rw [← hy]; exact HB.out)).symm
        have HU := hid hu
        clear hu hpre
        go_upto_region 4 with (refine HP.out.mono ?_; rintro e w1 ⟨rfl, rfl⟩)
        have HLT := hid hlt
        have HNC := hid hnc
        clear hlt d1 d2 hnc hm hk
        go_wp2_with (first | (refine wpl_run rfl (exec_slTop (p := some A) (n := n) (c := c) (k := k) rfl rfl rfl rfl Tryz.underlying46 size_str1 (by have := HLT.out; have := HNC.out; omega) _) ?_) | (refine wpl_run rfl (exec_slLow (p := some A) (n := n) (c := c) (k := k) rfl rfl rfl Tryz.underlying46 size_str1 (by have := HLT.out; omega) _) ?_))
        go_ret
        exact ⟨k, rfl, HG.out.set 0 _, HU.out, Nat.le_of_lt HLT.out, Upd.setCell _⟩
    · obtain rfl : k = n := by omega
      have hu : k = upN ws := (upN_of (by rw [HW.out.hl]; exact hk) hpre.out (fun y hy => by
        have := (List.getElem?_eq_some_iff.1 hy).1
        rw [HW.out.hl] at this
        omega)).symm
      have HU := hid hu
      clear hu hpre hbp
      go_upto_region 4 with fail
      have HNC := hid hnc
      clear hnc hm hk
      go_wp2_with (first | (refine wpl_run rfl (exec_slTop (p := a) (n := k) (c := c) (k := k) rfl rfl rfl rfl Tryz.underlying46 size_str1 HNC.out _) ?_) | (refine wpl_run rfl (exec_slLow (p := a) (n := k) (c := c) (k := k) rfl rfl rfl Tryz.underlying46 size_str1 (Nat.le_refl _) _) ?_))
      go_ret
      exact ⟨k, rfl, by rw [Nat.sub_self]; exact HG.out.set 0 _, HU.out, Nat.le_refl _, Upd.setCell _⟩
end

section
open Go Go.RowKit

theorem numV_fold : ∀ (l : List UInt8) (acc : Nat), l.all digB = true → l.foldl (fun n b => 10 * n + (b.toNat - 48)) acc < (acc + 1) * 10 ^ l.length
  | [], acc, _ => by simp
  | b :: l, acc, h => by
    rw [List.all_cons, Bool.and_eq_true] at h
    have h1 := numV_fold l (10 * acc + (b.toNat - 48)) h.2
    have h2 := dig_lt h.1
    rw [List.foldl_cons, List.length_cons, Nat.pow_succ]
    have h3 : (10 * acc + (b.toNat - 48) + 1) * 10 ^ l.length ≤ (acc + 1) * (10 ^ l.length * 10) := by
      rw [Nat.mul_comm (10 ^ l.length) 10, ← Nat.mul_assoc]
      exact Nat.mul_le_mul_right _ (by omega)
    omega
theorem numV_pow (l : List UInt8) (h : l.all digB = true) : numV l < 10 ^ l.length := by
  have := numV_fold l 0 h
  unfold numV
  omega
theorem str_lit48 (s : ByteArray) : (s.toList == [48]) = decide (s.data.toList = [48]) := by
  rw [ByteArray.toList_eq]
  by_cases h : s.data.toList = [48]
  · simp [h]
  · rw [decide_eq_false h]
    exact beq_eq_false_iff_ne.2 h
theorem str_lit0 (s : ByteArray) : (s.toList == []) = decide (s.data.toList = []) := by
  rw [ByteArray.toList_eq]
  by_cases h : s.data.toList = []
  · simp [h]
  · rw [decide_eq_false h]
    exact beq_eq_false_iff_ne.2 h

set_option maxRecDepth 100000 in
set_option maxHeartbeats 2000000 in
theorem number_c (s : ByteArray) (w : World) (hn : s.size ≤ 140737488355328) :
    Calls Tryz.prog 44 #[.string s] w fun e w' => e = .returned (.tuple #[.int .i64 (if numB s.data.toList then (numV s.data.toList : Int) else 0), .bool (numB s.data.toList)]) ∧ w = w' := by
  obtain ⟨n, hsn⟩ : ∃ n, s.size = n := ⟨_, rfl⟩
  have hll : s.data.toList.length = n := by rw [← hsn, Array.length_toList]; rfl
  have q0 := str_lit0 s
  have q48 := str_lit48 s
  have hat := hid (fun i c (h : s.data.toList[i]? = some c) w => run_stringAt s i c (by rw [← Array.getElem?_toList]; exact h) w)
  obtain ⟨l, hl⟩ : ∃ l, s.data.toList = l := ⟨_, rfl⟩
  rw [hl] at q0 q48 hll hat ⊢
  clear hl
  by_cases h0 : l = []
  · have hB : numB l = false := by rw [h0]; rfl
    rw [hB]
    rw [decide_eq_true h0] at q0
    clear hat hll h0 hB
    go_enter Tryz.func44, Tryz.ntmps44
    go_wp2
    go_ret2
    exact ⟨rfl, rfl⟩
  rw [decide_eq_false h0] at q0
  obtain ⟨c0, t0, hl0⟩ : ∃ c0 t0, l = c0 :: t0 := by
    cases l with
    | nil => exact absurd rfl h0
    | cons x r => exact ⟨x, r, rfl⟩
  by_cases h3 : 3 < n
  · have hB : numB l = false := by
      unfold numB
      rw [decide_eq_false (show ¬ l.length ≤ 3 by omega)]
      simp
    rw [hB]
    have d1 : decide ((3 : Int) < (n : Int)) = true := decide_eq_true (by omega)
    have d2 : decide (3 < n) = true := decide_eq_true h3
    clear hat hll h0 hB hl0
    go_enter Tryz.func44, Tryz.ntmps44
    go_wp2
    go_ret2
    exact ⟨rfl, rfl⟩
  have d1 : decide ((3 : Int) < (n : Int)) = false := decide_eq_false (by omega)
  have d2 : decide (3 < n) = false := decide_eq_false h3
  have ix0 := hat.out 0 c0 (by rw [hl0]; rfl)
  simp only [show ((0 : Nat) : Int) = 0 from rfl] at ix0
  have hc48 : (c0 = 48) ↔ c0.toNat = 48 := by rw [← UInt8.toNat_inj]; rfl
  by_cases hbad : c0 = 48 ∧ l ≠ [48]
  · have hB : numB l = false := by
      unfold numB
      rw [decide_eq_false hbad.2, hl0, show (c0 :: t0).headD 0 = c0 from rfl, decide_eq_true hbad.1]
      simp
    rw [hB]
    rw [decide_eq_false hbad.2] at q48
    have e48 : c0.toNat = 48 := hc48.1 hbad.1
    rw [e48] at ix0
    clear hat hll h0 hB hl0 hbad hc48 e48
    go_enter Tryz.func44, Tryz.ntmps44
    go_wp2
    go_ret2
    exact ⟨rfl, rfl⟩
  have hBall : numB l = l.all digB := by
    unfold numB
    have : (decide (l.headD 0 = 48) && !decide (l = [48])) = false := by
      rw [hl0] at hbad ⊢
      by_cases hx : c0 = 48
      · have : (c0 :: t0) = [48] := Classical.byContradiction fun e => hbad ⟨hx, e⟩
        rw [this]; rfl
      · simp [hx]
    rw [this, decide_eq_true (show l.length ≤ 3 by omega), hl0]
    rfl
  have HB := hid hBall
  have HLL := hid hll
  have hout := hid (fun (a b c : Int) w => outsideP_c a b c w)
  have HN3 := hid (show n ≤ 3 by omega)
  have loop : ∀ (K : Prop), True := fun _ => trivial
  clear loop
  have hcase : (c0.toNat = 48 ∧ l = [48]) ∨ c0.toNat ≠ 48 := by
    by_cases hx : c0 = 48
    · exact .inl ⟨hc48.1 hx, Classical.byContradiction fun e => hbad ⟨hx, e⟩⟩
    · exact .inr fun e => hx (hc48.2 e)
  have hnn : 0 < n := by rw [← hll, hl0]; simp
  clear hbad hBall hll h0 hl0 hc48 h3
  have hbody : ∀ W : World, True := fun _ => trivial
  clear hbody
  obtain ⟨b48, hb48, hq48⟩ : ∃ b : Bool, (decide ((c0.toNat : Int) = 48) = b) ∧ (b = true → decide (l = [48]) = true) := by
    rcases hcase with ⟨h1, h2⟩ | h1
    · exact ⟨true, decide_eq_true (by omega), fun _ => decide_eq_true h2⟩
    · exact ⟨false, decide_eq_false (by omega), fun h => by cases h⟩
  have hb48n : decide (c0.toNat = 48) = b48 := by rw [← hb48]; congr 1; exact propext ⟨fun h => by omega, fun h => by omega⟩
  have hbq : ((c0.toNat : Int) == 48) = b48 := by rw [← hb48]; rfl
  clear hcase
  generalize c0.toNat = C0 at *
  have HC0 := hid hnn
  clear hnn
  obtain ⟨R, hR⟩ : ∃ R, Value.tuple #[.int .i64 (if numB l then (numV l : Int) else 0), .bool (numB l)] = R := ⟨_, rfl⟩
  rw [hR]
  have HR := hid hR
  clear hR
  cases b48
  all_goals (
    try rw [hq48 rfl] at q48
    clear hq48
    go_enter Tryz.func44, Tryz.ntmps44
    go_wp2
    clear ix0 q0 q48 d1 d2 hb48 hb48n hbq
    go_loop [4, 5] (fun s4 s5 => ∃ i v : Nat, i ≤ n ∧ s4 = .int .i64 (v : Int) ∧ s5 = .int .i64 (i : Int) ∧ Hid (v = numV (l.take i)) ∧ Hid ((l.take i).all digB = true)) (fun _ s5 => n - (intOf s5).toNat)
    case atStart => exact ⟨0, 0, by omega, rfl, rfl, hid rfl, hid rfl⟩
    case round =>
      obtain ⟨i, v, hi, rfl, rfl, hv, hd⟩ := hrel
      by_cases hlt : i < n
      · have e1 : decide ((i : Int) < (n : Int)) = true := decide_eq_true (by omega)
        have e2 : decide (i < n) = true := decide_eq_true hlt
        obtain ⟨c, hc⟩ : ∃ c, l[i]? = some c := ⟨l[i]'(by rw [HLL.out]; exact hlt), by simp⟩
        have hix := hat.out i c hc
        have hcn := c.toNat_lt
        have hv100 : v < 100 := by
          rw [hv.out]
          have h1 := numV_pow _ hd.out
          have h2 := HN3.out
          rw [List.length_take] at h1
          have h3 : (10 : Nat) ^ min i l.length ≤ 10 ^ 2 := Nat.pow_le_pow_right (by omega) (by omega)
          omega
        have htk : l.take (i + 1) = l.take i ++ [c] := by rw [List.take_add_one, hc]; rfl
        have HV1 := hid (show numV (l.take (i + 1)) = 10 * v + (c.toNat - 48) by rw [htk, numV_snoc, ← hv.out])
        have HD1 := hid (show (l.take (i + 1)).all digB = digB c by rw [htk, List.all_append, hd.out]; simp)
        have HBD := hid (show digB c = false → numB l = false from fun h => by
          rw [HB.out, List.all_eq_false]
          exact ⟨c, List.mem_of_getElem? hc, by rw [h]; simp⟩)
        have HDC := hid (show digB c = (decide (48 ≤ c.toNat) && decide (c.toNat ≤ 57)) from rfl)
        clear hc htk
        generalize hC : c.toNat = C at *
        have ho := hout.out (C : Int) 48 57
        by_cases hdg : 48 ≤ C ∧ C ≤ 57
        · have g1 : decide ((C : Int) < 48) = false := decide_eq_false (by omega)
          have g2 : decide ((57 : Int) < (C : Int)) = false := decide_eq_false (by omega)
          have HDT := hid (show digB c = true by rw [HDC.out, decide_eq_true hdg.1, decide_eq_true hdg.2]; rfl)
          rw [g1, g2] at ho
          have HO := hid ho
          have w1 : IntKind.u8.wrap ((C : Int) - 48) = (C : Int) - 48 := by simp [IntKind.wrap, IntKind.bits, IntKind.signed]; omega
          have w2 : IntKind.i64.wrap (10 * (v : Int)) = 10 * (v : Int) := Go.wrap_small _ (by omega) (by omega)
          have w3 : IntKind.i64.wrap ((C : Int) - 48) = (C : Int) - 48 := Go.wrap_small _ (by omega) (by omega)
          have w4 : IntKind.i64.wrap (C : Int) = (C : Int) := Go.wrap_small _ (by omega) (by omega)
          clear ho g1 g2
          go_wp2_with (refine (HO.out _).mono ?_; rintro e w1 ⟨rfl, rfl⟩)
          go_round
          case rel => exact ⟨i + 1, 10 * v + (C - 48), by omega, by go_num, by go_num, hid HV1.out.symm, hid (by rw [HD1.out]; exact HDT.out)⟩
          case measure => simp [intOf]; omega
        · have hdf : digB c = false := by
            rw [HDC.out]
            by_cases h1 : 48 ≤ C
            · rw [decide_eq_false (show ¬ C ≤ 57 from fun h => hdg ⟨h1, h⟩)]; simp
            · rw [decide_eq_false h1]; rfl
          have HRB := hid (HBD.out hdf)
          have g1 : (decide ((C : Int) < 48) || decide ((57 : Int) < (C : Int))) = true := by
            rw [Bool.or_eq_true, decide_eq_true_eq, decide_eq_true_eq]
            omega
          rw [g1] at ho
          have HO := hid ho
          have w4 : IntKind.i64.wrap (C : Int) = (C : Int) := Go.wrap_small _ (by omega) (by omega)
          clear ho g1 hdf HDC HBD HD1 HV1
          go_wp2_with (refine (HO.out _).mono ?_; rintro e w1 ⟨rfl, rfl⟩)
          go_ret2
          refine ⟨?_, rfl⟩
          rw [← HR.out, HRB.out]
          rfl
      · obtain rfl : i = n := by omega
        have e1 : decide ((i : Int) < (i : Int)) = false := decide_eq_false (by omega)
        have hl2 := hd.out
        have hv2 := hv.out
        rw [List.take_of_length_le (by rw [HLL.out]; exact Nat.le_refl _)] at hl2 hv2
        have HRB := hid (HB.out.trans hl2)
        have HRV := hid hv2
        clear hl2 hv2 hv hd
        go_wp2
        go_ret2
        refine ⟨?_, rfl⟩
        rw [← HR.out, HRB.out, ← HRV.out]
        rfl)
end

section
open Go Go.RowKit Go.Shelf

set_option maxHeartbeats 1000000 in
theorem idxS_c (x : ByteArray) (ls : List ByteArray) (a : Option Addr) (n c : Nat) (w : World) (hn : ls.length = n) (hb63 : n ≤ 4611686018427387904) (hx : Cells w a (ls.map encStr)) :
    Calls Tryz.prog 47 #[.slice a n c, .string x] w fun e w' => e = .returned (.int .i64 (idxI x ls)) ∧ w = w' := by
  have HN := hid hn
  have HX := hid hx
  obtain ⟨R, hR⟩ : ∃ R, idxI x ls = R := ⟨_, rfl⟩
  rw [hR]
  have HR := hid hR
  clear hn hx hR
  go_enter Tryz.func47, Tryz.ntmps47
  go_wp2
  go_loop [5, 8] (fun _ i => ∃ k : Nat, k ≤ n ∧ i = .int .i64 (k : Int) ∧ Hid (x ∉ ls.take k)) (fun _ i => n - (intOf i).toNat)
  case atStart => exact ⟨0, by omega, rfl, hid (by simp)⟩
  case round =>
    obtain ⟨k, hk, rfl, hpre⟩ := hrel
    by_cases hlt : k < n
    · obtain ⟨y, hyk⟩ : ∃ y, ls[k]? = some y := ⟨ls[k]'(by rw [HN.out]; exact hlt), by simp⟩
      obtain ⟨A, rfl, hca⟩ : ∃ A, a = some A ∧ w.cell? (A.add k) = some (.string y) := by
        obtain ⟨g, o, rfl, h⟩ := HX.out.some_of (by rw [List.length_map, HN.out]; omega)
        exact ⟨_, rfl, by rw [addr_add]; exact h k _ (encs_getS hyk)⟩
      have hstep : y ≠ x → x ∉ ls.take (k + 1) := by
        intro h hm
        rw [List.take_add_one, hyk, List.mem_append] at hm
        rcases hm with hm | hm
        · exact hpre.out hm
        · simp at hm; exact h hm.symm
      have HS := hid hstep
      have HYK := hid hyk
      have heq := (show ((x.toList == y.toList) = true ↔ y = x) from (bytes_beqU x y).trans eq_comm)
      clear hyk hstep
      by_cases hxy : y = x
      · have q := heq.2 hxy
        have hRk := HYK.out
        rw [hxy] at hRk
        have HRK := hid (show R = (k : Int) by rw [← HR.out]; unfold idxI; rw [idxN_some hRk hpre.out])
        clear heq hRk HS hpre
        go_wp2
        go_ret
        exact ⟨by rw [HRK.out]; rfl, rfl⟩
      · have q : _ = false := Bool.eq_false_iff.2 fun h => hxy (heq.1 h)
        have HS2 := hid (HS.out hxy)
        clear heq hxy HS
        go_wp2
        go_round
        case rel => exact ⟨k + 1, by omega, by go_num, HS2⟩
        case measure => simp [intOf]; omega
    · obtain rfl : k = n := by omega
      have hres := hpre.out
      rw [List.take_of_length_le (by rw [HN.out]; exact Nat.le_refl _)] at hres
      have HRK := hid (show R = -1 by rw [← HR.out]; unfold idxI; rw [idxN_none.2 hres])
      clear hres hpre
      go_wp2
      go_ret
      exact ⟨by rw [HRK.out]; rfl, rfl⟩

def actText : List UInt8 := [112, 111, 108, 105, 99, 121, 32, 101, 110, 114, 111, 108, 108, 32, 100, 105, 115, 109, 105, 115, 115, 32, 99, 114, 101, 97, 116, 101, 32, 114, 111, 116, 97, 116, 101, 32, 117, 115, 101, 32, 114, 101, 118, 111, 107, 101, 32, 97, 112, 112, 114, 111, 118, 101, 32, 101, 115, 99, 114, 111, 119, 32, 114, 101, 99, 111, 118, 101, 114, 32, 98, 97, 99, 107, 117, 112, 32, 114, 101, 115, 116, 111, 114, 101]
theorem act_fields : (Lib.fields actText).map strOf = actW := by decide
theorem act_ascii : ∀ b ∈ actText, b.toNat < 128 := by decide
theorem fieldsA_c (w : World) (ht : Lib.TabIs Tryz.prog w "strings.asciiSpace" .u8 Lib.asciiSpaceTab) :
    Calls Tryz.prog 112 #[.string (strOf actText)] w fun e w' => e = .returned (.slice (some ⟨w.heap.size, 0, none⟩) 12 12) ∧ Cells w' (some ⟨w.heap.size, 0, none⟩) (actW.map encStr) ∧ Ext w w' := by
  have h := Any.strings_Fields_laid fieldsL (strOf actText) w (by rw [size_strOf]; decide) (fun j b hb => act_ascii b (by rw [toList_strOf] at hb; exact List.mem_of_getElem? hb)) ht
  rw [toList_strOf] at h
  have hl : (Lib.fields actText).length = 12 := by
    have := congrArg List.length act_fields
    rw [List.length_map] at this
    exact this
  have hc : ((Lib.fields actText).map fun l => Value.string ⟨l.toArray⟩) = actW.map encStr := by
    rw [← act_fields, List.map_map]; rfl
  rw [hl, hc] at h
  refine h.mono ?_
  rintro e w' ⟨rfl, rfl⟩
  exact ⟨rfl, Cells.of_blk0 (Blk.alloc_new w _ _), (Ext.refl w).alloc _⟩
theorem actWordsP_c (w : World) (ht : Lib.TabIs Tryz.prog w "strings.asciiSpace" .u8 Lib.asciiSpaceTab) :
    Calls Tryz.prog 86 #[] w fun e w' => e = .returned (.slice (some ⟨w.heap.size, 0, none⟩) 12 12) ∧ Cells w' (some ⟨w.heap.size, 0, none⟩) (actW.map encStr) ∧ Ext w w' := by
  have h := hid (fieldsA_c w ht)
  go_enter Tryz.func86, Tryz.ntmps86
  go_wp2_with fail
  refine h.out.mono ?_
  rintro e w1 ⟨rfl, h1, h2⟩
  have H1 := hid h1
  have H2 := hid h2
  clear h1 h2
  go_wp2_with fail
  go_ret
  exact ⟨rfl, H1.out, H2.out⟩
theorem actWordsR_c (w : World) :
    Calls Tryz.prog 48 #[] w fun e w' => e = .returned (.slice (some ⟨w.heap.size, 0, none⟩) 13 13) ∧ Cells w' (some ⟨w.heap.size, 0, none⟩) (((⟨#[]⟩ : ByteArray) :: actW).map encStr) ∧ Ext w w' := by
  go_enter Tryz.func48, Tryz.ntmps48
  go_wp2
  go_ret
  exact ⟨rfl, Cells.of_blk0 (Blk.mk_alloc rfl rfl), (Ext.refl w).alloc _⟩

theorem elem_intP : ElemT Tryz.prog 49 3 1 8 := ⟨Tryz.underlying49, ⟨_, _, (info_parts (show (Tryz.prog.info? 3).map (fun i => (i.zero, i.size, i.bytes)) = some (some (.int .i64 0), 1, 8) by kernel_rfl)).choose_spec.1, (info_parts (show (Tryz.prog.info? 3).map (fun i => (i.zero, i.size, i.bytes)) = some (some (.int .i64 0), 1, 8) by kernel_rfl)).choose_spec.2.1, (info_parts (show (Tryz.prog.info? 3).map (fun i => (i.zero, i.size, i.bytes)) = some (some (.int .i64 0), 1, 8) by kernel_rfl)).choose_spec.2.2.1, (info_parts (show (Tryz.prog.info? 3).map (fun i => (i.zero, i.size, i.bytes)) = some (some (.int .i64 0), 1, 8) by kernel_rfl)).choose_spec.2.2.2, rfl⟩, by decide⟩
theorem own_extP {w w' : World} {e : TypeId} {z n B : Nat} {v : Value} {xs : List Value} (h : w.ownsRow B e z v n xs) (k : Ext w w') : w'.ownsRow B e z v n xs := own_beside h (r := none) ⟨k.os, k.tape, k.output, k.size, fun i hi _ => k.block i hi⟩ (fun _ _ h => by cases h)
theorem size_allocP (w : World) (o : Obj) : (w.alloc o).heap.size = w.heap.size + 1 := Array.size_push ..
def actsVs (ws : List ByteArray) : List Int := if actsB ws then ws.map actI else []
theorem actI_wrap (x : ByteArray) : IntKind.i64.wrap (idxI x actW + 1) = actI x := by
  have := actI_b x
  exact Go.wrap_small _ this.1 (by have := this.2; unfold actI at this; omega)

set_option maxRecDepth 100000 in
set_option maxHeartbeats 2000000 in
theorem acts_c (B : Nat) (a : Option Addr) (n c : Nat) (ws : List ByteArray) (w : World) (hw : Wds w B a n c ws) (ht : Lib.TabIs Tryz.prog w "strings.asciiSpace" .u8 Lib.asciiSpaceTab) :
    Calls Tryz.prog 42 #[.slice a n c] w fun e w' => ∃ v, e = .returned (.tuple #[v, .bool (actsB ws)]) ∧ w'.ownsRow w.heap.size 3 1 v (actsVs ws).length ((actsVs ws).map encI) ∧ Ext w w' := by
  have HW := hid hw
  have HT := hid ht
  have HTE := hid elem_intP
  have hm := hw.hm
  obtain ⟨R, hR⟩ : ∃ R, actsB ws = R := ⟨_, rfl⟩
  obtain ⟨V, hV⟩ : ∃ V, actsVs ws = V := ⟨_, rfl⟩
  rw [hR, hV]
  have HR := hid hR
  have HV := hid hV
  clear hw ht hR hV
  go_enter Tryz.func42, Tryz.ntmps42
  go_wp2
  go_loopw [4, 10] (fun v i wr => ∃ (k : Nat) (ad : Option Addr) (cd : Nat), k ≤ n ∧ i = .int .i64 (k : Int) ∧ v = .slice ad k cd ∧ wr.ownsRow w.heap.size 3 1 (.slice ad k cd) k (((ws.take k).map actI).map encI) ∧ (∀ x ∈ ws.take k, actI x ≠ 0) ∧ Ext w wr) (fun _ i _ => n - (intOf i).toNat)
  case atStart => exact ⟨0, none, 0, by omega, rfl, rfl, ⟨rfl, .inl ⟨rfl, rfl⟩⟩, (fun _ h => by simp at h), Ext.refl w⟩
  case round =>
    obtain ⟨k, ad, cd, hk, rfl, rfl, hown, hpre, e1⟩ := hrel
    have E1 := hid e1
    have HO := hid hown
    have HP := hid hpre
    clear e1 hown hpre
    by_cases hlt : k < n
    · have d1 : decide ((k : Int) < (n : Int)) = true := decide_eq_true (by omega)
      have d2 : decide (k < n) = true := decide_eq_true hlt
      obtain ⟨x, hx⟩ : ∃ x, ws[k]? = some x := ⟨ws[k]'(by rw [HW.out.hl]; exact hlt), by simp⟩
      obtain ⟨A, rfl, hca⟩ := (HW.out.ext E1.out).at hx
      have HX := hid hx
      have hi := hid (fun w1 a1 (h : Cells w1 a1 (actW.map encStr)) => idxS_c x actW a1 12 12 w1 rfl (by omega) h)
      have hwr := hid (actI_wrap x)
      have hb := actI_b x
      have hai := hid (show idxI x actW = actI x - 1 by unfold actI; omega)
      have htk : ws.take (k + 1) = ws.take k ++ [x] := by rw [List.take_add_one, hx]; rfl
      have HTK := hid htk
      clear hx htk
      go_upto_region 5 with fail
      go_wp2_with fail
      refine (actWordsP_c wr (tab_ext (g := 3) HT.out (by kernel_rfl) E1.out)).mono ?_
      rintro e w1 ⟨rfl, hc1, e2⟩
      have HC1 := hid hc1
      have E2 := hid e2
      clear hc1 e2
      go_wp2_with fail
      refine (hi.out w1 _ HC1.out).mono ?_
      rintro e w2 ⟨rfl, rfl⟩
      rw [hai.out] at hwr ⊢
      by_cases h0 : actI x = 0
      · have g1 : decide (actI x - 1 < 0) = true := decide_eq_true (by omega)
        have HRF := hid (show R = false by
          rw [← HR.out]
          unfold actsB
          rw [List.all_eq_false]
          exact ⟨x, List.mem_of_getElem? HX.out, by simp [h0]⟩)
        have EE := hid (E1.out.ext E2.out)
        clear hb hwr hai h0 HO HP
        generalize actI x = z at *
        go_wp2
        go_ret2
        refine ⟨.slice none 0 0, ?_, ?_, EE.out⟩
        · rw [HRF.out]
          rfl
        · have hv : V = [] := by rw [← HV.out]; unfold actsVs; rw [HR.out, HRF.out]; rfl
          rw [hv]
          exact ⟨rfl, .inl ⟨rfl, rfl⟩⟩
      · have g1 : decide (actI x - 1 < 0) = false := decide_eq_false (by omega)
        have H0 := hid h0
        have hw2 := hwr.out
        have hw3 : IntKind.i64.wrap (actI x) = actI x := Go.wrap_small _ hb.1 (by have := hb.2; omega)
        clear h0
        obtain ⟨z, hz⟩ : ∃ z, actI x = z := ⟨_, rfl⟩
        rw [hz] at g1 hw2 hw3 ⊢
        have HZ := hid hz
        clear hz hb hwr hai
        have HO2 := hid (own_extP HO.out E2.out)
        have EE := hid (E1.out.ext E2.out)
        clear HO
        go_upto_region 8 with fail
        go_wp2_with (refine wpl_appendA (n := k) (m := 1) (c := 1) (news := [.int .i64 z]) HTE.out rfl _ _ rfl w.heap.size rfl rfl (own_extP HO2.out ((Ext.refl _).alloc _)) rfl (Nat.le_refl _) (fun h => by cases h) (Cells.of_blk0 (Blk.mk_alloc rfl rfl)) (fun u hu => by simp at hu; rw [hu]; rfl) (by omega) (by omega) (Nat.le_trans EE.out.size (by rw [size_allocP]; omega)) ?_)
        intro v' w3 hown3 hgrow hnil
        obtain ⟨ad3, cd3, rfl, _, _, _⟩ := own_cellsA hown3
        have e3 : Ext w w3 := (EE.out.alloc _).grown hgrow (fun g hg => (HO2.out.lt g hg).1)
        have HO3 : Hid (w3.ownsRow w.heap.size 3 1 (.slice ad3 (k + 1) cd3) (k + 1) (((ws.take (k + 1)).map actI).map encI)) := hid (by
          rw [HTK.out, List.map_append, List.map_append]
          have : [encI (actI x)] = [Value.int .i64 z] := by rw [HZ.out]; rfl
          rw [show (List.map encI (List.map actI [x])) = [encI (actI x)] from rfl, this]
          simpa using hown3)
        have E3 := hid e3
        clear hown3 hgrow hnil e3
        go_wp2
        go_roundw
        case rel =>
          refine ⟨k + 1, ad3, cd3, by omega, by go_num, rfl, HO3.out, fun y hy => ?_, E3.out⟩
          rw [HTK.out, List.mem_append] at hy
          rcases hy with hy | hy
          · exact HP.out y hy
          · simp at hy; rw [hy]; exact H0.out
        case measure => simp [intOf]; omega
    · obtain rfl : k = n := by omega
      have d1 : decide ((k : Int) < (k : Int)) = false := decide_eq_false (by omega)
      have hp := HP.out
      have ho := HO.out
      rw [List.take_of_length_le (by rw [HW.out.hl]; exact Nat.le_refl _)] at hp ho
      have HRT := hid (show R = true by
        rw [← HR.out]
        unfold actsB
        rw [List.all_eq_true]
        intro y hy
        simp [hp y hy])
      have HO2 := hid ho
      clear hp ho HO HP
      go_wp2
      go_ret2
      refine ⟨.slice ad k cd, ?_, ?_, E1.out⟩
      · rw [HRT.out]; rfl
      · have hv : V = ws.map actI := by rw [← HV.out]; unfold actsVs; rw [HR.out, HRT.out]; rfl
        rw [hv, List.length_map, HW.out.hl]
        exact HO2.out
end

section
open Go Go.RowKit

theorem ret_row2 {P : Program} {fn : Func} {R : Ending → World → Prop} {a : Act} {w : World} {p u : Tmp} {ty : TypeId} {g : Nat} {vs : List Value} {T : TypeId}
    (hres : fn.results = #[.cell p ty, .tmp u]) (hp : a.tmps.getD p undef = .pointer (some ⟨g, 0, none⟩)) (hb : Blk w g vs T)
    {n : Nat} (ht : AggT P ty n) (hn : vs.length = n)
    (hdef : a.defers = []) (hR : R (.returned (.tuple #[.agg vs.toArray, a.tmps.getD u undef])) w) : bodyPost P fn R .ret a w := by
  have h1 := run_load_sub (P := P) (off := 0) hb ht (by omega)
  have h2 : (vs.drop 0).take n = vs := by simp [← hn]
  rw [h2] at h1
  refine bodyPost_ret ?_ hdef hR
  rw [results_cell_tmp hres, hp]
  simp [asAddr, h1]

theorem ret_row3 {P : Program} {fn : Func} {R : Ending → World → Prop} {a : Act} {w : World} {p u q : Tmp} {ty : TypeId} {g : Nat} {vs : List Value} {T : TypeId}
    (hres : fn.results = #[.cell p ty, .tmp u, .tmp q]) (hp : a.tmps.getD p undef = .pointer (some ⟨g, 0, none⟩)) (hb : Blk w g vs T)
    {n : Nat} (ht : AggT P ty n) (hn : vs.length = n)
    (hdef : a.defers = []) (hR : R (.returned (.tuple #[.agg vs.toArray, a.tmps.getD u undef, a.tmps.getD q undef])) w) : bodyPost P fn R .ret a w := by
  have h1 := run_load_sub (P := P) (off := 0) hb ht (by omega)
  have h2 : (vs.drop 0).take n = vs := by simp [← hn]
  rw [h2] at h1
  refine bodyPost_ret (v := .tuple #[.agg vs.toArray, a.tmps.getD u undef, a.tmps.getD q undef]) ?_ hdef hR
  simp only [Array.getD_eq_getD_getElem?] at hp
  simp [results, hres, hp, asAddr, h1]
end

section
open Go Go.RowKit

/-- what of the library's variables both readers read -/
structure LibP (w : World) : Prop where
  lw : LibW w
  sp : Lib.TabIs Tryz.prog w "strings.asciiSpace" .u8 Lib.asciiSpaceTab
theorem LibP.ext {w w' : World} (h : LibP w) (e : Ext w w') : LibP w' := ⟨h.lw.ext e, tab_ext (g := 3) h.sp (by kernel_rfl) e⟩
def nval (l : List UInt8) : Int := if numB l then (numV l : Int) else 0
theorem cut_lens (l s : List UInt8) : (Lib.cut l s).1.length ≤ l.length ∧ (Lib.cut l s).2.1.length ≤ l.length := by
  unfold Lib.cut
  split
  · refine ⟨?_, ?_⟩
    · first | (rw [List.length_take]; omega) | simp
    · first | (rw [List.length_drop]; omega) | simp
  · exact ⟨Nat.le_refl _, Nat.zero_le _⟩
theorem nd_size (l : List UInt8) : (strOf l).data.toList = l := by simp [strOf]

set_option maxRecDepth 100000 in
set_option maxHeartbeats 2000000 in
theorem hours_c (s : ByteArray) (r : RuleR) (G : Nat) (w : World) (hs : s.size < 4294967281) (hb : Blk w G r.v 51) (hm : ∃ m, w.cell? ⟨0, 0, none⟩ = some (.int .i64 m)) :
    Calls Tryz.prog 43 #[.string s, .pointer (some ⟨G, 0, none⟩)] w fun e w' => e = .returned (.bool (hrB s)) ∧ Blk w' G ({ r with fr := nval (cutA s).1, tt := nval (cutA s).2.1 } : RuleR).v 51 ∧ w.grownBy w' (some G) := by
  have HB := hid hb
  have hsl : s.data.toList.length < 4294967281 := by rw [Array.length_toList]; exact hs
  have hcut := hid (cutS_c s.data.toList [45] w hsl hm)
  rw [strOf_back] at hcut
  have hcl := cut_lens s.data.toList [45]
  have hA : Lib.cut s.data.toList [45] = cutA s := rfl
  rw [hA] at hcut hcl
  clear hA
  have hR : hrB s = ((cutA s).2.2 && numB (cutA s).1 && numB (cutA s).2.1) := rfl
  rw [hR]
  clear hR hb hm
  generalize cutA s = ct at *
  obtain ⟨a, b, ok⟩ := ct
  dsimp only at *
  have na := hid (fun w => number_c (strOf a) w (by rw [size_strOf]; omega))
  have nb := hid (fun w => number_c (strOf b) w (by rw [size_strOf]; omega))
  rw [nd_size] at na nb
  have ea : (if numB a = true then (numV a : Int) else 0) = nval a := rfl
  have eb : (if numB b = true then (numV b : Int) else 0) = nval b := rfl
  rw [ea] at na
  rw [eb] at nb
  clear ea eb hcl hsl
  generalize nval a = va at *
  generalize nval b = vb at *
  generalize numB a = oa at *
  generalize numB b = ob at *
  go_enter Tryz.func43, Tryz.ntmps43
  go_upto_region 1 with fail
  go_wp2_with fail
  refine hcut.out.mono ?_
  rintro e w1 ⟨rfl, e1⟩
  have E1 := hid e1
  have B1 := hid (HB.out.ext e1)
  clear e1
  go_wp2_with fail
  refine (na.out _).mono ?_
  rintro e w2 ⟨rfl, rfl⟩
  go_wp2_with fail
  refine (nb.out _).mono ?_
  rintro e w2 ⟨rfl, rfl⟩
  have c4 := B1.out.cell' (i := 4) rfl
  have f4 := B1.out.frozen 4
  have c5 := B1.out.cell' (i := 5) rfl
  have f5 := B1.out.frozen 5
  clear na nb hcut
  cases ok <;> cases oa <;> cases ob
  all_goals (
    go_wp2
    go_ret
    exact ⟨rfl, (B1.out.set 4 _).set 5 _, gbw_upd (gbw_ext (gbw_self w _) E1.out) ((Upd.setCell _).trans (Upd.setCell _))⟩)
end

section
open Go Go.RowKit

/-- a rule without its places -/
def RuleR.bare (r : RuleR) : RuleR := { r with ra := none, rc := 0, aa := none, ac := 0, la := none, lc := 0 }
def x0R (d : Bool) : RuleR := { deny := d, ra := none, rn := 0, rc := 0, roles := [], aa := none, an := 0, ac := 0, acts := [], la := none, ln := 0, lc := 0, labels := [], fr := 0, tt := 0, nd := 0, ow := ⟨#[]⟩ }
def x1R (d : Bool) (ws : List ByteArray) : RuleR := { x0R d with rn := (rolesL ws).length, roles := rolesL ws }
def x2R (d : Bool) (ws : List ByteArray) : RuleR := { x1R d ws with an := (actsL ws).length, acts := (actsL ws).map actI }
def x3R (d : Bool) (ws : List ByteArray) : RuleR := { x2R d ws with ln := (labsL ws).length, labels := labsL ws }
def x4R (d : Bool) (ws : List ByteArray) : RuleR := { x3R d ws with fr := frV (atL ws), tt := toV (atL ws) }
def x5R (d : Bool) (ws : List ByteArray) : RuleR := { x4R d ws with nd := ndV (needL ws), ow := ofV (needL ws) }
theorem x5R_eq (ws : List ByteArray) : x5R (secB wdDeny ws) ws = ruleOf ws := rfl
theorem x1R_no {d : Bool} {ws : List ByteArray} (h : rolesL ws = []) : x1R d ws = x0R d := by
  show ({ x0R d with rn := (rolesL ws).length, roles := rolesL ws } : RuleR) = x0R d
  rw [h]; rfl
theorem x2R_no {d : Bool} {ws : List ByteArray} (h : actsL ws = []) : x2R d ws = x1R d ws := by
  show ({ x1R d ws with an := (actsL ws).length, acts := (actsL ws).map actI } : RuleR) = x1R d ws
  rw [h]; rfl
theorem x3R_no {d : Bool} {ws : List ByteArray} (h : labsL ws = []) : x3R d ws = x2R d ws := by
  show ({ x2R d ws with ln := (labsL ws).length, labels := labsL ws } : RuleR) = x2R d ws
  rw [h]; rfl
theorem x4R_no {d : Bool} {ws : List ByteArray} (h : atL ws = []) : x4R d ws = x3R d ws := by
  show ({ x3R d ws with fr := frV (atL ws), tt := toV (atL ws) } : RuleR) = x3R d ws
  rw [h]; rfl
theorem x5R_no {d : Bool} {ws : List ByteArray} (h : needL ws = []) : x5R d ws = x4R d ws := by
  show ({ x4R d ws with nd := ndV (needL ws), ow := ofV (needL ws) } : RuleR) = x4R d ws
  rw [h]; rfl
theorem x4R_yes {d : Bool} {ws : List ByteArray} {x : ByteArray} (h : atL ws = [x]) (h1 : numB (cutA x).1 = true) (h2 : numB (cutA x).2.1 = true) : { x3R d ws with fr := nval (cutA x).1, tt := nval (cutA x).2.1 } = x4R d ws := by
  show _ = ({ x3R d ws with fr := frV (atL ws), tt := toV (atL ws) } : RuleR)
  rw [h]
  unfold nval
  rw [if_pos h1, if_pos h2]
  rfl
theorem x5R_yes {d : Bool} {ws : List ByteArray} {x y : ByteArray} {nv : Int} (h : needL ws = [x, y]) (h1 : nv = ndV [x, y]) : { x4R d ws with nd := nv, ow := y } = x5R d ws := by
  show _ = ({ x4R d ws with nd := ndV (needL ws), ow := ofV (needL ws) } : RuleR)
  rw [h, h1]
  rfl
structure RuleR.Hi (B : Nat) (r : RuleR) : Prop where
  r1 : HiA B r.ra r.rn
  r2 : HiA B r.aa r.an
  r3 : HiA B r.la r.ln
/-- a rule that is being made in block G, of words of the world w -/
structure RSt (w W : World) (B G : Nat) (r x : RuleR) : Prop where
  q : r.bare = x
  ro : Wds w B r.ra r.rn r.rc r.roles
  la : Wds w B r.la r.ln r.lc r.labels
  al : r.acts.length = r.an
  anc : r.an ≤ r.ac
  am : r.an ≤ 1000000
  acell : Cells W r.aa (r.acts.map encI)
  ahi : r.an = 0 ∨ ∃ A, r.aa = some A ∧ G < A.block
  awf : ∀ z ∈ r.acts, (Lit.int .i64 z).wf = true
  os : r.ow.size ≤ 140737488355328
theorem RSt.zero (w W : World) (B G : Nat) (d : Bool) : RSt w W B G (x0R d) (x0R d) := ⟨rfl, Wds.nil _ _, Wds.nil _ _, rfl, Nat.le_refl _, by show 0 ≤ _; omega, .inl rfl, .inl rfl, (fun _ h => by cases h), by show (⟨#[]⟩ : ByteArray).size ≤ _; decide⟩
variable {w W W' : World} {B G : Nat} {r x : RuleR}
theorem RSt.ext (h : RSt w W B G r x) (e : Ext W W') : RSt w W' B G r x := { h with acell := h.acell.ext e }
theorem RSt.upd {g : Nat} (h : RSt w W B G r x) (u : Upd W g W') (hg : g ≤ G) : RSt w W' B G r x := by
  refine { h with acell := ?_ }
  rcases h.ahi with h0 | ⟨A, hA, hb⟩
  · have : r.acts = [] := List.length_eq_zero_iff.1 (by rw [h.al]; exact h0)
    rw [this]
    exact .inl rfl
  · refine h.acell.grown (r := some g) ⟨u.os, u.tape, u.output, by rw [u.size]; exact Nat.le_refl _, fun i _ hne => u.block i (fun e => hne (by rw [e]))⟩ (fun y hy => ?_)
    rw [hA] at hy
    injection hy with hy
    rw [← hy]
    intro e
    injection e with e
    omega
theorem RSt.gro {g : Nat} (h : RSt w W B G r x) (u : W.grownBy W' (some g)) (hg : g ≤ G) : RSt w W' B G r x := by
  refine { h with acell := ?_ }
  rcases h.ahi with h0 | ⟨A, hA, hb⟩
  · have : r.acts = [] := List.length_eq_zero_iff.1 (by rw [h.al]; exact h0)
    rw [this]
    exact .inl rfl
  · refine h.acell.grown (r := some g) u (fun y hy => ?_)
    rw [hA] at hy
    injection hy with hy
    rw [← hy]
    intro e
    injection e with e
    omega
theorem RSt.ok (h : RSt w W B G r x) (e : Ext w W) : r.Ok W :=
  ⟨h.ro.hl, h.ro.hnc, Nat.le_trans h.ro.hm (by omega), h.ro.cell.ext e, (fun s hs => Nat.le_trans (h.ro.hs s hs) (by omega)), h.al, h.anc, Nat.le_trans h.am (by omega), h.acell, h.awf, h.la.hl, h.la.hnc, Nat.le_trans h.la.hm (by omega), h.la.cell.ext e, (fun s hs => Nat.le_trans (h.la.hs s hs) (by omega)), h.os⟩
theorem RSt.hi (h : RSt w W B G r x) (hB : B ≤ G) : r.Hi B :=
  ⟨h.ro.hi, h.ahi.imp id (fun ⟨A, h1, h2⟩ => ⟨A, h1, by omega⟩), h.la.hi⟩
theorem RSt.roles {a : Option Addr} {n c : Nat} {ws : List ByteArray} (h : RSt w W B G r x) (k : Wds w B a n c ws) :
    RSt w W B G { r with ra := a, rn := n, rc := c, roles := ws } { x with rn := ws.length, roles := ws } :=
  { h with ro := k, q := by rw [← h.q, k.hl]; rfl }
theorem RSt.labels {a : Option Addr} {n c : Nat} {ws : List ByteArray} (h : RSt w W B G r x) (k : Wds w B a n c ws) :
    RSt w W B G { r with la := a, ln := n, lc := c, labels := ws } { x with ln := ws.length, labels := ws } :=
  { h with la := k, q := by rw [← h.q, k.hl]; rfl }
theorem RSt.hours (h : RSt w W B G r x) (f t : Int) : RSt w W B G { r with fr := f, tt := t } { x with fr := f, tt := t } :=
  { h with q := by rw [← h.q]; rfl }
theorem RSt.need (h : RSt w W B G r x) (n : Int) (o : ByteArray) (ho : o.size ≤ 140737488355328) : RSt w W B G { r with nd := n, ow := o } { x with nd := n, ow := o } :=
  { h with q := by rw [← h.q]; rfl, os := ho }
theorem RSt.acts {a : Option Addr} {n c B0 : Nat} {zs : List Int} (h : RSt w W B G r x) (k : W.ownsRow B0 3 1 (.slice a n c) zs.length (zs.map encI)) (hB : G < B0) (hm : zs.length ≤ 1000000) (hz : ∀ z ∈ zs, (Lit.int .i64 z).wf = true) :
    RSt w W B G { r with aa := a, an := n, ac := c, acts := zs } { x with an := zs.length, acts := zs } := by
  obtain ⟨ad, c', hv, hnc, _, hc⟩ := own_cellsA k
  injection hv with e1 e2 e3
  subst e1 e2 e3
  refine { h with al := rfl, anc := hnc, am := hm, acell := hc, ahi := ?_, awf := hz, q := by rw [← h.q]; rfl }
  rcases k.2 with ⟨hn, hl⟩ | ⟨g, cap, cur, hv, hb, _⟩
  · left
    first | exact hl | (injection hn)
  · right
    injection hv with e1 e2 e3
    exact ⟨_, e1, by show G < g; omega⟩
theorem RSt.to {x' : RuleR} (h : RSt w W B G r x) (e : x = x') : RSt w W B G r x' := e ▸ h
theorem two_of {α : Type} : ∀ (l : List α), l.length = 2 → ∃ x y, l = [x, y]
  | [x, y], _ => ⟨x, y, rfl⟩
theorem act_wf (ws : List ByteArray) : ∀ z ∈ actsVs ws, (Lit.int .i64 z).wf = true := by
  intro z hz
  unfold actsVs at hz
  split at hz
  · obtain ⟨y, _, rfl⟩ := List.mem_map.1 hz
    have := actI_b y
    obtain ⟨m, hm⟩ : ∃ m : Nat, actI y = (m : Int) := ⟨(actI y).toNat, by omega⟩
    rw [hm] at this ⊢
    have hlt : m < 13 := by omega
    exact (show ∀ m < 13, (Lit.int .i64 ((m : Nat) : Int)).wf = true by decide) m hlt
  · cases hz

/-- the words and the rule, while the first reader goes -/
structure RdI (w : World) (B G1 G2 G4 : Nat) (ok : Bool) (x : RuleR) (ws : List ByteArray) (r : RuleR) (a : Option Addr) (n c : Nat) (wx : World) : Prop where
  e : Ext w wx
  b1 : Blk wx G1 [.slice a n c] 46
  wd : Wds w B a n c ws
  b2 : Blk wx G2 zeroRule 51
  b4 : Blk wx G4 r.v 51
  st : ok = true → RSt w wx B G4 r x
variable {G1 G2 G4 n c n' c' : Nat} {ok ok' : Bool} {ws ws' : List ByteArray} {a a' : Option Addr} {wx wy : World} {x' r' : RuleR}
theorem RdI.words (h : RdI w B G1 G2 G4 ok x ws r a n c wx) (hg : w.heap.size ≤ G1) (h12 : G1 < G2) (h24 : G2 < G4) (hb : Blk wy G1 [.slice a' n' c'] 46) (hw : Wds w B a' n' c' ws') (u : Upd wx G1 wy) :
    RdI w B G1 G2 G4 ok x ws' r a' n' c' wy :=
  ⟨u.ext h.e hg, hb, hw, h.b2.upd u (by omega), h.b4.upd u (by omega), fun k => (h.st k).upd u (by omega)⟩
theorem RdI.ext (h : RdI w B G1 G2 G4 ok x ws r a n c wx) (e : Ext wx wy) : RdI w B G1 G2 G4 ok x ws r a n c wy :=
  ⟨h.e.ext e, h.b1.ext e, h.wd, h.b2.ext e, h.b4.ext e, fun k => (h.st k).ext e⟩
theorem RdI.rule (h : RdI w B G1 G2 G4 ok x ws r a n c wx) (hg : w.heap.size ≤ G1) (h12 : G1 < G2) (h24 : G2 < G4) (hb : Blk wy G4 r'.v 51) (u : Upd wx G4 wy) (hs : ok' = true → ok = true ∧ (RSt w wy B G4 r x → RSt w wy B G4 r' x')) :
    RdI w B G1 G2 G4 ok' x' ws r' a n c wy :=
  ⟨u.ext h.e (by omega), h.b1.upd u (by omega), h.wd, h.b2.upd u (by omega), hb, fun k => (hs k).2 ((h.st (hs k).1).upd u (Nat.le_refl _))⟩
theorem RdI.ruleG (h : RdI w B G1 G2 G4 ok x ws r a n c wx) (hg : w.heap.size ≤ G1) (h12 : G1 < G2) (h24 : G2 < G4) (hb : Blk wy G4 r'.v 51) (u : wx.grownBy wy (some G4)) (hs : ok' = true → ok = true ∧ (RSt w wy B G4 r x → RSt w wy B G4 r' x')) :
    RdI w B G1 G2 G4 ok' x' ws r' a n c wy :=
  ⟨h.e.grown u (fun g hq => by injection hq with hq; omega), h.b1.grown u (fun e => by injection e with e; omega), h.wd, h.b2.grown u (fun e => by injection e with e; omega), hb, fun k => (hs k).2 ((h.st (hs k).1).gro u (Nat.le_refl _))⟩
theorem RdI.weak (h : RdI w B G1 G2 G4 ok x ws r a n c wx) (hs : ok' = true → ok = true) (hx : ok' = true → x' = x) : RdI w B G1 G2 G4 ok' x' ws r a n c wx :=
  ⟨h.e, h.b1, h.wd, h.b2, h.b4, fun k => by rw [hx k]; exact h.st (hs k)⟩
end
end Go.Proofs.YthfddfgncolnbaaGreatDoor
