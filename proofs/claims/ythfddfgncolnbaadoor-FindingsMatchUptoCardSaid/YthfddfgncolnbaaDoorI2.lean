/- strconv.Itoa, strconv.Atoi, strings.Cut, strings.CutPrefix by the shelf's contracts, laid at this program; conditions: the variables of the library that these read. -/
import Derived.Test.YthfddfgncolnbaaDoorH
import Derived.Test.YthfddfgncolnbaaDoorI1
import Derived.Shelf.LaysM
import Derived.Shelf.LaysC
import Derived.Shelf.Strconv.Itoa3
import Derived.Shelf.Strconv.AtoiAll
import Derived.Shelf.Strings.Cut
import Derived.Shelf.Small.Wraps
import Derived.Lib.AppendIntMem
import Derived.Lib.LaidTab
namespace Go.Proofs.YthfddfgncolnbaaDoor
open Go Go.RowKit Go.Shelf

def cutLay_ren : Go.Shelf.Ren := ⟨fun | 145 => 12 | 217 => 32 | 219 => 21 | 220 => 16 | 224 => 34 | 225 => 33 | 266 => 44 | 267 => 35 | 314 => 45 | n => n, fun | 3 => 3 | 4 => 4 | 5 => 5 | 9 => 9 | 46 => 39 | 51 => 66 | 59 => 37 | 146 => 76 | n => n, fun | 1 => 0 | n => n⟩
theorem cutLay : Go.Proofs.Lays.n145 Tryd.prog cutLay_ren where
  mixed := by kernel_rfl
  f145 := Tryd.func12.trans (congrArg some (by kernel_rfl))
  f217 := Tryd.func32.trans (congrArg some (by kernel_rfl))
  f219 := Tryd.func21.trans (congrArg some (by kernel_rfl))
  f220 := Tryd.func16.trans (congrArg some (by kernel_rfl))
  f224 := Tryd.func34.trans (congrArg some (by kernel_rfl))
  f225 := Tryd.func33.trans (congrArg some (by kernel_rfl))
  f266 := Tryd.func44.trans (congrArg some (by kernel_rfl))
  f267 := Tryd.func35.trans (congrArg some (by kernel_rfl))
  f314 := Tryd.func45.trans (congrArg some (by kernel_rfl))
  t3 := Tryd.underlying3
  a3 := Tryd.isAgg3
  z3 := Tryd.sizeOf3
  v3 := Tryd.zeroValue3
  t4 := Tryd.underlying4
  a4 := Tryd.isAgg4
  z4 := Tryd.sizeOf4
  v4 := Tryd.zeroValue4
  t5 := Tryd.underlying5
  a5 := Tryd.isAgg5
  z5 := Tryd.sizeOf5
  v5 := Tryd.zeroValue5
  t9 := Tryd.underlying9
  a9 := Tryd.isAgg9
  z9 := Tryd.sizeOf9
  v9 := Tryd.zeroValue9
  t46 := Tryd.underlying39
  a46 := Tryd.isAgg39
  z46 := Tryd.sizeOf39
  v46 := Tryd.zeroValue39
  t51 := Tryd.underlying66
  a51 := Tryd.isAgg66
  z51 := Tryd.sizeOf66
  v51 := Tryd.zeroValue66
  t59 := Tryd.underlying37
  a59 := Tryd.isAgg37
  z59 := Tryd.sizeOf37
  v59 := Tryd.zeroValue37
  t146 := Tryd.underlying76
  a146 := Tryd.isAgg76
  z146 := Tryd.sizeOf76
  v146 := Tryd.zeroValue76
  g1 := by kernel_rfl
def cpLay_ren : Go.Shelf.Ren := ⟨fun | 103 => 14 | 206 => 26 | 210 => 18 | n => n, fun | 3 => 3 | 4 => 4 | 9 => 9 | 24 => 40 | n => n, fun | n => n⟩
theorem cpLay : Go.Proofs.Lays.n103 Tryd.prog cpLay_ren where
  mixed := by kernel_rfl
  f103 := Tryd.func14.trans (congrArg some (by kernel_rfl))
  f206 := Tryd.func26.trans (congrArg some (by kernel_rfl))
  f210 := Tryd.func18.trans (congrArg some (by kernel_rfl))
  t3 := Tryd.underlying3
  a3 := Tryd.isAgg3
  z3 := Tryd.sizeOf3
  v3 := Tryd.zeroValue3
  t4 := Tryd.underlying4
  a4 := Tryd.isAgg4
  z4 := Tryd.sizeOf4
  v4 := Tryd.zeroValue4
  t9 := Tryd.underlying9
  a9 := Tryd.isAgg9
  z9 := Tryd.sizeOf9
  v9 := Tryd.zeroValue9
  t24 := Tryd.underlying40
  a24 := Tryd.isAgg40
  z24 := Tryd.sizeOf40
  v24 := Tryd.zeroValue40
def itoaL_ren : Go.Shelf.Ren := ⟨fun | 129 => 37 | 171 => 9 | 243 => 13 | 246 => 17 | 283 => 22 | 284 => 23 | 285 => 24 | 286 => 25 | 317 => 36 | 318 => 38 | 319 => 39 | 320 => 40 | 337 => 46 | 338 => 47 | n => n, fun | 0 => 0 | 2 => 2 | 3 => 3 | 4 => 4 | 5 => 5 | 9 => 9 | 20 => 20 | 37 => 32 | 46 => 39 | 51 => 66 | 53 => 50 | 171 => 49 | 173 => 53 | 212 => 65 | 213 => 67 | 232 => 85 | 233 => 86 | n => n, fun | 17 => 1 | 18 => 4 | 19 => 5 | n => n⟩
theorem itoaL : Go.Proofs.LaysM.n171 Tryd.prog itoaL_ren where
  mixed := by kernel_rfl
  f129 := Tryd.func37.trans (congrArg some (by kernel_rfl))
  f171 := Tryd.func9.trans (congrArg some (by kernel_rfl))
  f243 := Tryd.func13.trans (congrArg some (by kernel_rfl))
  f246 := Tryd.func17.trans (congrArg some (by kernel_rfl))
  f283 := Tryd.func22.trans (congrArg some (by kernel_rfl))
  f284 := Tryd.func23.trans (congrArg some (by kernel_rfl))
  f285 := Tryd.func24.trans (congrArg some (by kernel_rfl))
  f286 := Tryd.func25.trans (congrArg some (by kernel_rfl))
  f317 := Tryd.func36.trans (congrArg some (by kernel_rfl))
  f318 := Tryd.func38.trans (congrArg some (by kernel_rfl))
  f319 := Tryd.func39.trans (congrArg some (by kernel_rfl))
  f320 := Tryd.func40.trans (congrArg some (by kernel_rfl))
  f337 := Tryd.func46.trans (congrArg some (by kernel_rfl))
  f338 := Tryd.func47.trans (congrArg some (by kernel_rfl))
  t0 := Tryd.underlying0
  a0 := Tryd.isAgg0
  z0 := Tryd.sizeOf0
  v0 := Tryd.zeroValue0
  t2 := Tryd.underlying2
  a2 := Tryd.isAgg2
  z2 := Tryd.sizeOf2
  v2 := Tryd.zeroValue2
  t3 := Tryd.underlying3
  a3 := Tryd.isAgg3
  z3 := Tryd.sizeOf3
  v3 := Tryd.zeroValue3
  t4 := Tryd.underlying4
  a4 := Tryd.isAgg4
  z4 := Tryd.sizeOf4
  v4 := Tryd.zeroValue4
  t5 := Tryd.underlying5
  a5 := Tryd.isAgg5
  z5 := Tryd.sizeOf5
  v5 := Tryd.zeroValue5
  t9 := Tryd.underlying9
  a9 := Tryd.isAgg9
  z9 := Tryd.sizeOf9
  v9 := Tryd.zeroValue9
  t20 := Tryd.underlying20
  a20 := Tryd.isAgg20
  z20 := Tryd.sizeOf20
  v20 := Tryd.zeroValue20
  t37 := Tryd.underlying32
  a37 := Tryd.isAgg32
  z37 := Tryd.sizeOf32
  v37 := Tryd.zeroValue32
  t46 := Tryd.underlying39
  a46 := Tryd.isAgg39
  z46 := Tryd.sizeOf39
  v46 := Tryd.zeroValue39
  t51 := Tryd.underlying66
  a51 := Tryd.isAgg66
  z51 := Tryd.sizeOf66
  v51 := Tryd.zeroValue66
  t53 := Tryd.underlying50
  a53 := Tryd.isAgg50
  z53 := Tryd.sizeOf50
  v53 := Tryd.zeroValue50
  t171 := Tryd.underlying49
  a171 := Tryd.isAgg49
  z171 := Tryd.sizeOf49
  v171 := Tryd.zeroValue49
  t173 := Tryd.underlying53
  a173 := Tryd.isAgg53
  z173 := Tryd.sizeOf53
  v173 := Tryd.zeroValue53
  t212 := Tryd.underlying65
  a212 := Tryd.isAgg65
  z212 := Tryd.sizeOf65
  v212 := Tryd.zeroValue65
  t213 := Tryd.underlying67
  a213 := Tryd.isAgg67
  z213 := Tryd.sizeOf67
  t232 := Tryd.underlying85
  a232 := Tryd.isAgg85
  z232 := Tryd.sizeOf85
  v232 := Tryd.zeroValue85
  t233 := Tryd.underlying86
  a233 := Tryd.isAgg86
  z233 := Tryd.sizeOf86
  v233 := Tryd.zeroValue86
  g17 := by kernel_rfl
  g18 := by kernel_rfl
  g19 := by kernel_rfl
  i0 := by kernel_rfl
  i2 := by kernel_rfl
  i3 := by kernel_rfl
  i4 := by kernel_rfl
  i5 := by kernel_rfl
  i9 := by kernel_rfl
  i20 := by kernel_rfl
  i37 := by kernel_rfl
  i46 := by kernel_rfl
  i51 := by kernel_rfl
  i53 := by kernel_rfl
  i171 := by kernel_rfl
  i173 := by kernel_rfl
  i212 := by kernel_rfl
  i232 := by kernel_rfl
  i233 := by kernel_rfl
  m17 := by kernel_rfl
  m18 := by kernel_rfl
  m19 := by kernel_rfl
def atoiLay_ren : Go.Shelf.Ren := ⟨fun | 129 => 37 | 171 => 9 | 172 => 15 | 205 => 43 | 243 => 13 | 244 => 19 | 245 => 20 | 246 => 17 | 247 => 27 | 279 => 28 | 280 => 29 | 281 => 30 | 282 => 31 | 283 => 22 | 284 => 23 | 285 => 24 | 286 => 25 | 287 => 41 | 316 => 42 | 317 => 36 | 318 => 38 | 319 => 39 | 320 => 40 | 321 => 48 | 322 => 49 | 337 => 46 | 338 => 47 | n => n, fun | 0 => 0 | 2 => 2 | 3 => 3 | 4 => 4 | 5 => 5 | 9 => 9 | 20 => 20 | 21 => 21 | 37 => 32 | 46 => 39 | 51 => 66 | 53 => 50 | 75 => 43 | 76 => 44 | 80 => 87 | 85 => 57 | 127 => 81 | 143 => 82 | 145 => 84 | 167 => 56 | 168 => 59 | 171 => 49 | 173 => 53 | 175 => 70 | 210 => 74 | 212 => 65 | 213 => 67 | 232 => 85 | 233 => 86 | n => n, fun | 15 => 2 | 16 => 3 | 17 => 1 | 18 => 4 | 19 => 5 | n => n⟩
theorem atoiLay : Go.Proofs.LaysC.n172 Tryd.prog atoiLay_ren where
  mixed := by kernel_rfl
  f129 := Tryd.func37.trans (congrArg some (by kernel_rfl))
  f171 := Tryd.func9.trans (congrArg some (by kernel_rfl))
  f172 := Tryd.func15.trans (congrArg some (by kernel_rfl))
  f205 := Tryd.func43.trans (congrArg some (by kernel_rfl))
  f243 := Tryd.func13.trans (congrArg some (by kernel_rfl))
  f244 := Tryd.func19.trans (congrArg some (by kernel_rfl))
  f245 := Tryd.func20.trans (congrArg some (by kernel_rfl))
  f246 := Tryd.func17.trans (congrArg some (by kernel_rfl))
  f247 := Tryd.func27.trans (congrArg some (by kernel_rfl))
  f279 := Tryd.func28.trans (congrArg some (by kernel_rfl))
  f280 := Tryd.func29.trans (congrArg some (by kernel_rfl))
  f281 := Tryd.func30.trans (congrArg some (by kernel_rfl))
  f282 := Tryd.func31.trans (congrArg some (by kernel_rfl))
  f283 := Tryd.func22.trans (congrArg some (by kernel_rfl))
  f284 := Tryd.func23.trans (congrArg some (by kernel_rfl))
  f285 := Tryd.func24.trans (congrArg some (by kernel_rfl))
  f286 := Tryd.func25.trans (congrArg some (by kernel_rfl))
  f287 := Tryd.func41.trans (congrArg some (by kernel_rfl))
  f316 := Tryd.func42.trans (congrArg some (by kernel_rfl))
  f317 := Tryd.func36.trans (congrArg some (by kernel_rfl))
  f318 := Tryd.func38.trans (congrArg some (by kernel_rfl))
  f319 := Tryd.func39.trans (congrArg some (by kernel_rfl))
  f320 := Tryd.func40.trans (congrArg some (by kernel_rfl))
  f321 := Tryd.func48.trans (congrArg some (by kernel_rfl))
  f322 := Tryd.func49.trans (congrArg some (by kernel_rfl))
  f337 := Tryd.func46.trans (congrArg some (by kernel_rfl))
  f338 := Tryd.func47.trans (congrArg some (by kernel_rfl))
  t0 := Tryd.underlying0
  a0 := Tryd.isAgg0
  z0 := Tryd.sizeOf0
  v0 := Tryd.zeroValue0
  t2 := Tryd.underlying2
  a2 := Tryd.isAgg2
  z2 := Tryd.sizeOf2
  v2 := Tryd.zeroValue2
  t3 := Tryd.underlying3
  a3 := Tryd.isAgg3
  z3 := Tryd.sizeOf3
  v3 := Tryd.zeroValue3
  t4 := Tryd.underlying4
  a4 := Tryd.isAgg4
  z4 := Tryd.sizeOf4
  v4 := Tryd.zeroValue4
  t5 := Tryd.underlying5
  a5 := Tryd.isAgg5
  z5 := Tryd.sizeOf5
  v5 := Tryd.zeroValue5
  t9 := Tryd.underlying9
  a9 := Tryd.isAgg9
  z9 := Tryd.sizeOf9
  v9 := Tryd.zeroValue9
  t20 := Tryd.underlying20
  a20 := Tryd.isAgg20
  z20 := Tryd.sizeOf20
  v20 := Tryd.zeroValue20
  t21 := Tryd.underlying21
  a21 := Tryd.isAgg21
  z21 := Tryd.sizeOf21
  v21 := Tryd.zeroValue21
  t37 := Tryd.underlying32
  a37 := Tryd.isAgg32
  z37 := Tryd.sizeOf32
  v37 := Tryd.zeroValue32
  t46 := Tryd.underlying39
  a46 := Tryd.isAgg39
  z46 := Tryd.sizeOf39
  v46 := Tryd.zeroValue39
  t51 := Tryd.underlying66
  a51 := Tryd.isAgg66
  z51 := Tryd.sizeOf66
  v51 := Tryd.zeroValue66
  t53 := Tryd.underlying50
  a53 := Tryd.isAgg50
  z53 := Tryd.sizeOf50
  v53 := Tryd.zeroValue50
  t75 := Tryd.underlying43
  a75 := Tryd.isAgg43
  z75 := Tryd.sizeOf43
  v75 := Tryd.zeroValue43
  t76 := Tryd.underlying44
  a76 := Tryd.isAgg44
  z76 := Tryd.sizeOf44
  v76 := Tryd.zeroValue44
  t85 := Tryd.underlying57
  a85 := Tryd.isAgg57
  z85 := Tryd.sizeOf57
  v85 := Tryd.zeroValue57
  t127 := Tryd.underlying81
  a127 := Tryd.isAgg81
  z127 := Tryd.sizeOf81
  v127 := Tryd.zeroValue81
  t143 := Tryd.underlying82
  a143 := Tryd.isAgg82
  z143 := Tryd.sizeOf82
  v143 := Tryd.zeroValue82
  t145 := Tryd.underlying84
  a145 := Tryd.isAgg84
  z145 := Tryd.sizeOf84
  v145 := Tryd.zeroValue84
  t167 := Tryd.underlying56
  a167 := Tryd.isAgg56
  z167 := Tryd.sizeOf56
  v167 := Tryd.zeroValue56
  t168 := Tryd.underlying59
  a168 := Tryd.isAgg59
  z168 := Tryd.sizeOf59
  v168 := Tryd.zeroValue59
  t171 := Tryd.underlying49
  a171 := Tryd.isAgg49
  z171 := Tryd.sizeOf49
  v171 := Tryd.zeroValue49
  t173 := Tryd.underlying53
  a173 := Tryd.isAgg53
  z173 := Tryd.sizeOf53
  v173 := Tryd.zeroValue53
  t175 := Tryd.underlying70
  a175 := Tryd.isAgg70
  z175 := Tryd.sizeOf70
  v175 := Tryd.zeroValue70
  t210 := Tryd.underlying74
  a210 := Tryd.isAgg74
  z210 := Tryd.sizeOf74
  v210 := Tryd.zeroValue74
  t212 := Tryd.underlying65
  a212 := Tryd.isAgg65
  z212 := Tryd.sizeOf65
  v212 := Tryd.zeroValue65
  t213 := Tryd.underlying67
  a213 := Tryd.isAgg67
  z213 := Tryd.sizeOf67
  t232 := Tryd.underlying85
  a232 := Tryd.isAgg85
  z232 := Tryd.sizeOf85
  v232 := Tryd.zeroValue85
  t233 := Tryd.underlying86
  a233 := Tryd.isAgg86
  z233 := Tryd.sizeOf86
  v233 := Tryd.zeroValue86
  g15 := by kernel_rfl
  g16 := by kernel_rfl
  g17 := by kernel_rfl
  g18 := by kernel_rfl
  g19 := by kernel_rfl
  t80 := Tryd.underlying87
  a80 := Tryd.isAgg87
  z80 := Tryd.sizeOf87
  v80 := Tryd.zeroValue87
  i0 := by kernel_rfl
  i2 := by kernel_rfl
  i3 := by kernel_rfl
  i4 := by kernel_rfl
  i5 := by kernel_rfl
  i9 := by kernel_rfl
  i20 := by kernel_rfl
  i21 := by kernel_rfl
  i37 := by kernel_rfl
  i46 := by kernel_rfl
  i51 := by kernel_rfl
  i53 := by kernel_rfl
  i75 := by kernel_rfl
  i76 := by kernel_rfl
  i80 := by kernel_rfl
  i85 := by kernel_rfl
  i127 := by kernel_rfl
  i143 := by kernel_rfl
  i145 := by kernel_rfl
  i167 := by kernel_rfl
  i168 := by kernel_rfl
  i171 := by kernel_rfl
  i173 := by kernel_rfl
  i175 := by kernel_rfl
  i210 := by kernel_rfl
  i212 := by kernel_rfl
  i232 := by kernel_rfl
  i233 := by kernel_rfl
  m15 := by kernel_rfl
  m16 := by kernel_rfl
  m17 := by kernel_rfl
  m18 := by kernel_rfl
  m19 := by kernel_rfl
  c0 := by kernel_rfl
  c2 := by kernel_rfl
  c3 := by kernel_rfl
  c4 := by kernel_rfl
  c5 := by kernel_rfl
  c9 := by kernel_rfl
  c20 := by kernel_rfl
  c21 := by kernel_rfl
  c37 := by kernel_rfl
  c46 := by kernel_rfl
  c51 := by kernel_rfl
  c53 := by kernel_rfl
  c75 := by kernel_rfl
  c76 := by kernel_rfl
  c80 := by kernel_rfl
  c85 := by kernel_rfl
  c127 := by kernel_rfl
  c143 := by kernel_rfl
  c145 := by kernel_rfl
  c167 := by kernel_rfl
  c168 := by kernel_rfl
  c171 := by kernel_rfl
  c173 := by kernel_rfl
  c175 := by kernel_rfl
  c210 := by kernel_rfl
  c212 := by kernel_rfl
  c213 := by kernel_rfl
  c232 := by kernel_rfl
  c233 := by kernel_rfl

/-- what of the library's variables the texts read -/
structure LibW (w : World) : Prop where
  ml : ∃ m, w.cell? ⟨0, 0, none⟩ = some (.int .i64 m)
  pw : Lib.TabIs Tryd.prog w "internal/strconv.uint64pow10" .u64 Lib.pow10Tab
  sy : ∃ te pe, w.cell? ⟨2, 0, none⟩ = some (.iface te pe)
  ra : ∃ te pe, w.cell? ⟨3, 0, none⟩ = some (.iface te pe)
theorem cell_ext {w w' : World} {p : Addr} {v : Value} (h : w.cell? p = some v) (e : Ext w w') : w'.cell? p = some v := by
  rw [e.cell (block_lt_of_cell h)]; exact h
theorem tab_ext {w w' : World} {name : String} {k : IntKind} {zs : List Int} {g : Nat} (h : Lib.TabIs Tryd.prog w name k zs) (hg : Tryd.prog.globalNamed name = some g) (e : Ext w w') : Lib.TabIs Tryd.prog w' name k zs := by
  unfold Lib.TabIs World.var? at h ⊢
  rw [hg] at h ⊢
  simp only [Option.bind_some] at h ⊢
  have hlt : g < w.heap.size := by
    by_cases hg2 : g < w.heap.size
    · exact hg2
    · rw [Array.getElem?_eq_none (by omega)] at h
      cases h
  rw [e.block g hlt]
  exact h
theorem LibW.ext {w w' : World} (h : LibW w) (e : Ext w w') : LibW w' := by
  obtain ⟨⟨m, h1⟩, h2, ⟨t3, p3, h3⟩, ⟨t4, p4, h4⟩⟩ := h
  exact ⟨⟨m, cell_ext h1 e⟩, tab_ext (g := 1) h2 (by kernel_rfl) e, ⟨t3, p3, cell_ext h3 e⟩, ⟨t4, p4, cell_ext h4 e⟩⟩

theorem toList_strOf (l : List UInt8) : (strOf l).data.toList = l := by simp [strOf]
theorem size_strOf (l : List UInt8) : (strOf l).size = l.length := by show l.toArray.size = _; simp
theorem cutS_c (l sep : List UInt8) (w : World) (hl : l.length < 4294967281) (hm : ∃ m, w.cell? ⟨0, 0, none⟩ = some (.int .i64 m)) :
    Calls Tryd.prog 12 #[.string (strOf l), .string (strOf sep)] w fun e w' => e = .returned (.tuple #[.string (strOf (Lib.cut l sep).1), .string (strOf (Lib.cut l sep).2.1), .bool (Lib.cut l sep).2.2]) ∧ Ext w w' := by
  obtain ⟨m, hm⟩ := hm
  have h := Any.strings_Cut cutLay (strOf l) (strOf sep) m w (by rw [size_strOf]; exact hl) hm
  rw [toList_strOf, toList_strOf] at h
  refine h.mono ?_
  rintro e w' ⟨rfl, n, rfl⟩
  exact ⟨rfl, (Ext.refl w).drewN n⟩
theorem cutPrefix_c (l p : List UInt8) (w : World) :
    Calls Tryd.prog 14 #[.string (strOf l), .string (strOf p)] w fun e w' => e = .returned (.tuple #[.string (strOf (Lib.trimPrefix l p)), .bool (Lib.hasPrefix l p)]) ∧ Ext w w' := by
  have h := Any.strings_CutPrefix cpLay (strOf l) (strOf p) w
  rw [toList_strOf, toList_strOf] at h
  refine h.mono ?_
  rintro e w' ⟨rfl, rfl⟩
  exact ⟨rfl, Ext.refl _⟩
theorem itoa_c (n : Int) (w : World) (h0 : -9223372036854775808 ≤ n) (h1 : n ≤ 9223372036854775807) (ht : Lib.TabIs Tryd.prog w "internal/strconv.uint64pow10" .u64 Lib.pow10Tab) :
    Calls Tryd.prog 9 #[.int .i64 n] w fun e w' => e = .returned (.string (strOf (Lib.itoa n))) ∧ Ext w w' := by
  refine (Any.strconv_Itoa itoaL n h0 h1 w ht).mono ?_
  rintro e w' ⟨rfl, k, os, rfl⟩
  exact ⟨rfl, Lib.below_grow _ w (Nat.le_refl _) k os⟩
theorem atoi_ok (l : List UInt8) (w : World) (hl : l.length ≤ 281474976710656) (h : numOk l = true) :
    Calls Tryd.prog 15 #[.string (strOf l)] w fun e w' => e = .returned (.tuple #[.int .i64 (numOf l), .nilIface]) ∧ Ext w w' := by
  unfold numOk at h
  cases ha : Lib.atoiAll l with
  | range => rw [ha] at h; cases h
  | ok v =>
    have e1 : numOf l = v := by unfold numOf; rw [ha]
    rw [e1]
    refine (Any.strconv_Atoi_ok atoiLay (strOf l) (by rw [size_strOf]; omega) v (by rw [toList_strOf]; exact ha) w).mono ?_
    rintro e w' ⟨rfl, rfl | ⟨t, rfl⟩⟩
    · exact ⟨rfl, Ext.refl _⟩
    · exact ⟨rfl, Lib.bytesWorld_below _ _ _⟩
  | _ => rw [ha] at h; cases h
theorem atoi_no (l : List UInt8) (w : World) (hl : l.length ≤ 281474976710656) (h : numOk l = false) (hw : LibW w) :
    Calls Tryd.prog 15 #[.string (strOf l)] w fun e w' => ∃ N, e = .returned (.tuple #[.int .i64 (numOf l), .iface 59 (.pointer (some ⟨N, 0, none⟩))]) ∧ Ext w w' := by
  obtain ⟨_, _, ⟨t3, p3, h3⟩, ⟨t4, p4, h4⟩⟩ := hw
  unfold numOk at h
  cases ha : Lib.atoiAll l with
  | ok v => rw [ha] at h; cases h
  | range =>
    have e1 : numOf l = Lib.atoiSat l := by unfold numOf; rw [ha]
    rw [e1]
    have h5 := Any.strconv_Atoi_range atoiLay (strOf l) (by rw [size_strOf]; omega) (by rw [toList_strOf]; exact ha) _ w h4 (.inr ⟨_, _, rfl⟩)
    rw [toList_strOf] at h5
    refine h5.mono ?_
    rintro e w' ⟨N, rfl, -, -, hb⟩
    exact ⟨N, rfl, hb⟩
  | _ =>
    have e1 : numOf l = 0 := by unfold numOf; rw [ha]
    rw [e1]
    refine (Any.strconv_Atoi_syntax atoiLay (strOf l) (by rw [size_strOf]; omega) (by rw [toList_strOf]; exact ha) _ w h3 (.inr ⟨_, _, rfl⟩)).mono ?_
    rintro e w' ⟨N, rfl, -, -, hb⟩
    exact ⟨N, rfl, hb⟩
end Go.Proofs.YthfddfgncolnbaaDoor
