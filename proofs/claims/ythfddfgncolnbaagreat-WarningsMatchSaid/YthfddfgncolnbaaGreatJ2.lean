/- Contracts and laws that the claim's row leans on (25 texts, joined): slices.Sort and slices.Compact at strings and ints, at a row of one's own: the shelf's contracts laid; condition: the length. maps.Keys, slices.Collect and AppendSeq (strB); condition: the number of keys. maps.Keys, slices.Collect and AppendSeq (intB); condition: the number of keys. The order of octets, and rows without repeats, in plain Lean; no condition. Sorted rows without repeats are one, in plain Lean; no condition. slices.Sorted of the keys of a map, at strings and ints; condition: the number of keys. Maps to true as sets of any keys; maps.DeleteFunc that deletes nothing; condition: the keys can be read. Maps from keys to 'true' as sets: a look-up, a store, the length; condition: the keys can be read. Names: what IsName asks; IDs as rows of 16; no condition. Moves for regions whose order is drawn: operations that go one by one beside a variable that the region makes at whatever time; no condition. Contracts of wordsOf, stateOf, and of the references' words and octets; condition: the array's length. Stir and Unstir, and the references' ones: what they compute; condition: the array's length. The reference's Stir: what it computes; condition: the array's length. The Summer's block; conditions: the lengths, and where the octets lie. Steps on slices and copies; no condition. Slices whose elements are rows of 32 octets: their cells, steps on them; conditions: the rows' lengths. The order of strings, and rows of strings in memory; no condition. slices.Index, Contains, IndexFunc and ContainsFunc at []string; condition: the length. slices.Index, Contains, IndexFunc and ContainsFunc at []int; condition: the length. Whether something occurs twice in a list, at []string, in both packages; conditions: the length, and that the values can be keys. Whether something occurs twice in a list, at []int, in both packages; conditions: the length, and that the values can be keys. IsName: what it computes; no condition. strings.ContainsRune of the alphabet of names, whatever the rune; conditions: the rune is none beyond the last. Worlds in which one block has turned; no condition. Moves for regions whose order is drawn, where late operations need not keep what the early ones read; no condition. -/
import Derived.Test.YthfddfgncolnbaaGreatJ1
import Derived.Shelf.SortM.Plain
import Derived.Shelf.SortM.SortNone
import Derived.Shelf.SlicesG.Cells
import Derived.Sort.OwnSorted
import Derived.Sort.OwnSortedInts
import Derived.Lib.Bytealg
import Derived.Maps.Keyed
import Derived.Test.YthfddfgncolnbaaGreatProg
import Derived.OrdersHeld
import Derived.Deep.RegionHeld3
import Derived.Laws.AppendOwn
import Derived.Laws.StructEq
import Derived.Deep.DeepCutAuto
import Derived.Laws.Runes
import Derived.Laws.RangeAny
import Derived.Laws.RangeString
import Derived.Lib.OthersKept
import Derived.Lib.TrimU
import Derived.Lib.Small
import Derived.Deep.LoopGhost
namespace Go.Proofs.YthfddfgncolnbaaGreat
section
open Go Go.RowKit Go.Shelf

def sortStrL_ren : Go.Shelf.Ren := ⟨fun | 6 => 29 | 8 => 66 | 9 => 65 | 19 => 96 | 20 => 97 | 21 => 87 | 22 => 88 | 23 => 89 | 24 => 90 | 25 => 91 | 26 => 92 | 27 => 93 | 28 => 94 | 29 => 95 | 31 => 135 | 32 => 136 | 36 => 134 | 37 => 137 | 38 => 138 | 39 => 139 | 41 => 150 | n => n, fun | 0 => 0 | 3 => 3 | 4 => 4 | 5 => 5 | 9 => 9 | 26 => 36 | 27 => 36 | 29 => 9 | 32 => 95 | 35 => 121 | 36 => 122 | 41 => 126 | 44 => 129 | 46 => 131 | 53 => 159 | 57 => 163 | 63 => 167 | 64 => 168 | n => n, fun | n => n⟩
theorem sortStrL : Go.Proofs.SlLaysM.n6 Tryz.prog sortStrL_ren where
  mixed := by kernel_rfl
  f6 := ⟨Tryz.f29.name, by decide, Tryz.func29.trans (congrArg some (by kernel_rfl))⟩
  f8 := Tryz.func66.trans (congrArg some (by kernel_rfl))
  f9 := ⟨Tryz.f65.name, by decide, Tryz.func65.trans (congrArg some (by kernel_rfl))⟩
  f19 := Tryz.func96.trans (congrArg some (by kernel_rfl))
  f20 := Tryz.func97.trans (congrArg some (by kernel_rfl))
  f21 := ⟨Tryz.f87.name, by decide, Tryz.func87.trans (congrArg some (by kernel_rfl))⟩
  f22 := ⟨Tryz.f88.name, by decide, Tryz.func88.trans (congrArg some (by kernel_rfl))⟩
  f23 := ⟨Tryz.f89.name, by decide, Tryz.func89.trans (congrArg some (by kernel_rfl))⟩
  f24 := ⟨Tryz.f90.name, by decide, Tryz.func90.trans (congrArg some (by kernel_rfl))⟩
  f25 := ⟨Tryz.f91.name, by decide, Tryz.func91.trans (congrArg some (by kernel_rfl))⟩
  f26 := ⟨Tryz.f92.name, by decide, Tryz.func92.trans (congrArg some (by kernel_rfl))⟩
  f27 := ⟨Tryz.f93.name, by decide, Tryz.func93.trans (congrArg some (by kernel_rfl))⟩
  f28 := ⟨Tryz.f94.name, by decide, Tryz.func94.trans (congrArg some (by kernel_rfl))⟩
  f29 := ⟨Tryz.f95.name, by decide, Tryz.func95.trans (congrArg some (by kernel_rfl))⟩
  f31 := Tryz.func135.trans (congrArg some (by kernel_rfl))
  f32 := Tryz.func136.trans (congrArg some (by kernel_rfl))
  f36 := ⟨Tryz.f134.name, by decide, Tryz.func134.trans (congrArg some (by kernel_rfl))⟩
  f37 := ⟨Tryz.f137.name, by decide, Tryz.func137.trans (congrArg some (by kernel_rfl))⟩
  f38 := ⟨Tryz.f138.name, by decide, Tryz.func138.trans (congrArg some (by kernel_rfl))⟩
  f39 := ⟨Tryz.f139.name, by decide, Tryz.func139.trans (congrArg some (by kernel_rfl))⟩
  f41 := ⟨Tryz.f150.name, by decide, Tryz.func150.trans (congrArg some (by kernel_rfl))⟩
  t0 := Tryz.underlying0
  a0 := Tryz.isAgg0
  z0 := Tryz.sizeOf0
  v0 := Tryz.zeroValue0
  t3 := Tryz.underlying3
  a3 := Tryz.isAgg3
  z3 := Tryz.sizeOf3
  v3 := Tryz.zeroValue3
  t4 := Tryz.underlying4
  a4 := Tryz.isAgg4
  z4 := Tryz.sizeOf4
  v4 := Tryz.zeroValue4
  t5 := Tryz.underlying5
  a5 := Tryz.isAgg5
  z5 := Tryz.sizeOf5
  v5 := Tryz.zeroValue5
  t9 := Tryz.underlying9
  a9 := Tryz.isAgg9
  z9 := Tryz.sizeOf9
  v9 := Tryz.zeroValue9
  t26 := Tryz.underlying36
  a26 := Tryz.isAgg36
  z26 := Tryz.sizeOf36
  v26 := Tryz.zeroValue36
  t27 := Tryz.underlying36
  a27 := Tryz.isAgg36
  z27 := Tryz.sizeOf36
  v27 := Tryz.zeroValue36
  t29 := Tryz.underlying9
  a29 := Tryz.isAgg9
  z29 := Tryz.sizeOf9
  v29 := Tryz.zeroValue9
  t32 := Tryz.underlying95
  a32 := Tryz.isAgg95
  z32 := Tryz.sizeOf95
  v32 := Tryz.zeroValue95
  t35 := Tryz.underlying121
  a35 := Tryz.isAgg121
  z35 := Tryz.sizeOf121
  v35 := Tryz.zeroValue121
  t36 := Tryz.underlying122
  a36 := Tryz.isAgg122
  z36 := Tryz.sizeOf122
  v36 := Tryz.zeroValue122
  t41 := Tryz.underlying126
  a41 := Tryz.isAgg126
  z41 := Tryz.sizeOf126
  v41 := Tryz.zeroValue126
  t44 := Tryz.underlying129
  a44 := Tryz.isAgg129
  z44 := Tryz.sizeOf129
  v44 := Tryz.zeroValue129
  t46 := Tryz.underlying131
  a46 := Tryz.isAgg131
  z46 := Tryz.sizeOf131
  v46 := Tryz.zeroValue131
  t53 := Tryz.underlying159
  a53 := Tryz.isAgg159
  z53 := Tryz.sizeOf159
  v53 := Tryz.zeroValue159
  t57 := Tryz.underlying163
  a57 := Tryz.isAgg163
  z57 := Tryz.sizeOf163
  v57 := Tryz.zeroValue163
  t63 := Tryz.underlying167
  a63 := Tryz.isAgg167
  z63 := Tryz.sizeOf167
  v63 := Tryz.zeroValue167
  t64 := Tryz.underlying168
  a64 := Tryz.isAgg168
  z64 := Tryz.sizeOf168
  v64 := Tryz.zeroValue168
def sortIntL_ren : Go.Shelf.Ren := ⟨fun | 5 => 31 | 7 => 67 | 8 => 66 | 10 => 98 | 11 => 99 | 12 => 100 | 13 => 101 | 14 => 102 | 15 => 103 | 16 => 104 | 17 => 105 | 18 => 106 | 19 => 96 | 20 => 97 | 30 => 140 | 31 => 135 | 32 => 136 | 33 => 141 | 34 => 142 | 35 => 143 | 40 => 151 | n => n, fun | 0 => 0 | 3 => 3 | 4 => 4 | 5 => 5 | 9 => 9 | 22 => 48 | 23 => 48 | 25 => 3 | 32 => 95 | 35 => 121 | 36 => 122 | 41 => 126 | 44 => 129 | 46 => 131 | 53 => 159 | 57 => 163 | 63 => 167 | 64 => 168 | n => n, fun | n => n⟩
theorem sortIntL : Go.Proofs.SlLaysM.n5 Tryz.prog sortIntL_ren where
  mixed := by kernel_rfl
  f5 := ⟨Tryz.f31.name, by decide, Tryz.func31.trans (congrArg some (by kernel_rfl))⟩
  f7 := ⟨Tryz.f67.name, by decide, Tryz.func67.trans (congrArg some (by kernel_rfl))⟩
  f8 := Tryz.func66.trans (congrArg some (by kernel_rfl))
  f10 := ⟨Tryz.f98.name, by decide, Tryz.func98.trans (congrArg some (by kernel_rfl))⟩
  f11 := ⟨Tryz.f99.name, by decide, Tryz.func99.trans (congrArg some (by kernel_rfl))⟩
  f12 := ⟨Tryz.f100.name, by decide, Tryz.func100.trans (congrArg some (by kernel_rfl))⟩
  f13 := ⟨Tryz.f101.name, by decide, Tryz.func101.trans (congrArg some (by kernel_rfl))⟩
  f14 := ⟨Tryz.f102.name, by decide, Tryz.func102.trans (congrArg some (by kernel_rfl))⟩
  f15 := ⟨Tryz.f103.name, by decide, Tryz.func103.trans (congrArg some (by kernel_rfl))⟩
  f16 := ⟨Tryz.f104.name, by decide, Tryz.func104.trans (congrArg some (by kernel_rfl))⟩
  f17 := ⟨Tryz.f105.name, by decide, Tryz.func105.trans (congrArg some (by kernel_rfl))⟩
  f18 := ⟨Tryz.f106.name, by decide, Tryz.func106.trans (congrArg some (by kernel_rfl))⟩
  f19 := Tryz.func96.trans (congrArg some (by kernel_rfl))
  f20 := Tryz.func97.trans (congrArg some (by kernel_rfl))
  f30 := ⟨Tryz.f140.name, by decide, Tryz.func140.trans (congrArg some (by kernel_rfl))⟩
  f31 := Tryz.func135.trans (congrArg some (by kernel_rfl))
  f32 := Tryz.func136.trans (congrArg some (by kernel_rfl))
  f33 := ⟨Tryz.f141.name, by decide, Tryz.func141.trans (congrArg some (by kernel_rfl))⟩
  f34 := ⟨Tryz.f142.name, by decide, Tryz.func142.trans (congrArg some (by kernel_rfl))⟩
  f35 := ⟨Tryz.f143.name, by decide, Tryz.func143.trans (congrArg some (by kernel_rfl))⟩
  f40 := ⟨Tryz.f151.name, by decide, Tryz.func151.trans (congrArg some (by kernel_rfl))⟩
  t0 := Tryz.underlying0
  a0 := Tryz.isAgg0
  z0 := Tryz.sizeOf0
  v0 := Tryz.zeroValue0
  t3 := Tryz.underlying3
  a3 := Tryz.isAgg3
  z3 := Tryz.sizeOf3
  v3 := Tryz.zeroValue3
  t4 := Tryz.underlying4
  a4 := Tryz.isAgg4
  z4 := Tryz.sizeOf4
  v4 := Tryz.zeroValue4
  t5 := Tryz.underlying5
  a5 := Tryz.isAgg5
  z5 := Tryz.sizeOf5
  v5 := Tryz.zeroValue5
  t9 := Tryz.underlying9
  a9 := Tryz.isAgg9
  z9 := Tryz.sizeOf9
  v9 := Tryz.zeroValue9
  t22 := Tryz.underlying48
  a22 := Tryz.isAgg48
  z22 := Tryz.sizeOf48
  v22 := Tryz.zeroValue48
  t23 := Tryz.underlying48
  a23 := Tryz.isAgg48
  z23 := Tryz.sizeOf48
  v23 := Tryz.zeroValue48
  t25 := Tryz.underlying3
  a25 := Tryz.isAgg3
  z25 := Tryz.sizeOf3
  v25 := Tryz.zeroValue3
  t32 := Tryz.underlying95
  a32 := Tryz.isAgg95
  z32 := Tryz.sizeOf95
  v32 := Tryz.zeroValue95
  t35 := Tryz.underlying121
  a35 := Tryz.isAgg121
  z35 := Tryz.sizeOf121
  v35 := Tryz.zeroValue121
  t36 := Tryz.underlying122
  a36 := Tryz.isAgg122
  z36 := Tryz.sizeOf122
  v36 := Tryz.zeroValue122
  t41 := Tryz.underlying126
  a41 := Tryz.isAgg126
  z41 := Tryz.sizeOf126
  v41 := Tryz.zeroValue126
  t44 := Tryz.underlying129
  a44 := Tryz.isAgg129
  z44 := Tryz.sizeOf129
  v44 := Tryz.zeroValue129
  t46 := Tryz.underlying131
  a46 := Tryz.isAgg131
  z46 := Tryz.sizeOf131
  v46 := Tryz.zeroValue131
  t53 := Tryz.underlying159
  a53 := Tryz.isAgg159
  z53 := Tryz.sizeOf159
  v53 := Tryz.zeroValue159
  t57 := Tryz.underlying163
  a57 := Tryz.isAgg163
  z57 := Tryz.sizeOf163
  v57 := Tryz.zeroValue163
  t63 := Tryz.underlying167
  a63 := Tryz.isAgg167
  z63 := Tryz.sizeOf167
  v63 := Tryz.zeroValue167
  t64 := Tryz.underlying168
  a64 := Tryz.isAgg168
  z64 := Tryz.sizeOf168
  v64 := Tryz.zeroValue168
def compStrL_ren : Go.Shelf.Ren := ⟨fun | 44 => 30 | n => n, fun | 0 => 0 | 3 => 3 | 4 => 4 | 25 => 36 | 26 => 9 | n => n, fun | n => n⟩
theorem compStrL : Go.Proofs.SlLaysN.n44 Tryz.prog compStrL_ren where
  mixed := by kernel_rfl
  f44 := ⟨Tryz.f30.name, by decide, Tryz.func30.trans (congrArg some (by kernel_rfl))⟩
  t0 := Tryz.underlying0
  a0 := Tryz.isAgg0
  z0 := Tryz.sizeOf0
  v0 := Tryz.zeroValue0
  t3 := Tryz.underlying3
  a3 := Tryz.isAgg3
  z3 := Tryz.sizeOf3
  v3 := Tryz.zeroValue3
  t4 := Tryz.underlying4
  a4 := Tryz.isAgg4
  z4 := Tryz.sizeOf4
  v4 := Tryz.zeroValue4
  t25 := Tryz.underlying36
  a25 := Tryz.isAgg36
  z25 := Tryz.sizeOf36
  v25 := Tryz.zeroValue36
  t26 := Tryz.underlying9
  a26 := Tryz.isAgg9
  z26 := Tryz.sizeOf9
  v26 := Tryz.zeroValue9
  i26 := by kernel_rfl
def compIntL_ren : Go.Shelf.Ren := ⟨fun | 43 => 32 | n => n, fun | 0 => 0 | 3 => 3 | 4 => 4 | 22 => 48 | 23 => 3 | n => n, fun | n => n⟩
theorem compIntL : Go.Proofs.SlLaysN.n43 Tryz.prog compIntL_ren where
  mixed := by kernel_rfl
  f43 := ⟨Tryz.f32.name, by decide, Tryz.func32.trans (congrArg some (by kernel_rfl))⟩
  t0 := Tryz.underlying0
  a0 := Tryz.isAgg0
  z0 := Tryz.sizeOf0
  v0 := Tryz.zeroValue0
  t3 := Tryz.underlying3
  a3 := Tryz.isAgg3
  z3 := Tryz.sizeOf3
  v3 := Tryz.zeroValue3
  t4 := Tryz.underlying4
  a4 := Tryz.isAgg4
  z4 := Tryz.sizeOf4
  v4 := Tryz.zeroValue4
  t22 := Tryz.underlying48
  a22 := Tryz.isAgg48
  z22 := Tryz.sizeOf48
  v22 := Tryz.zeroValue48
  t23 := Tryz.underlying3
  a23 := Tryz.isAgg3
  z23 := Tryz.sizeOf3
  v23 := Tryz.zeroValue3
  i23 := by kernel_rfl
/-- a text as a value -/
abbrev sv (l : List UInt8) : Value := .string (strOf l)
abbrev iv (z : Int) : Value := .int .i64 z
def sortL (ls : List (List UInt8)) : List (List UInt8) := ls.mergeSort fun x y => decide (x ≤ y)
def sortI (zs : List Int) : List Int := zs.mergeSort fun x y => decide (x ≤ y)
theorem sortL_len (ls : List (List UInt8)) : (sortL ls).length = ls.length := List.length_mergeSort ls
theorem sortI_len (ls : List Int) : (sortI ls).length = ls.length := List.length_mergeSort ls
theorem sortL_nil : sortL [] = [] := List.length_eq_zero_iff.1 (sortL_len [])
theorem sortI_nil : sortI [] = [] := List.length_eq_zero_iff.1 (sortI_len [])

section
variable {w : World} {B n : Nat} {v : Value} {ls : List (List UInt8)} {zs : List Int}
theorem own_row {e : TypeId} {xs : List Value} (h : w.ownsRow B e 1 v n xs) : (v = .slice none 0 0 ∧ n = 0 ∧ xs = []) ∨ ∃ g cap cur, v = .slice (some ⟨g, 0, none⟩) n cap ∧ B ≤ g ∧ w.heap[g]? = some (.cells cur e (0, 0)) ∧ n ≤ cap ∧ cap ≤ maxLen ∧ cur.size = cap * 1 ∧ cur.toList.take xs.length = xs ∧ xs.length = n := by
  obtain ⟨h1, h2 | ⟨g, cap, cur, h3, h4, h5, h6, h7, h8, h9⟩⟩ := h
  · obtain ⟨rfl, rfl⟩ := h2
    exact .inl ⟨rfl, rfl, List.length_eq_zero_iff.1 (by omega)⟩
  · exact .inr ⟨g, cap, cur, h3, h4, h5, h6, h7, h8, by rw [h1]; exact h9, by omega⟩
theorem own_front {g cap k m : Nat} {e : TypeId} {xs ys : List Value} (h : w.ownsRow B e 1 (.slice (some ⟨g, 0, none⟩) m cap) m (xs ++ ys)) (hk : xs.length = k) (hkm : k ≤ m) : w.ownsRow B e 1 (.slice (some ⟨g, 0, none⟩) k cap) k xs := by
  obtain ⟨h1, h2 | ⟨g1, c1, cur, h3, h4, h5, h6, h7, h8, h9⟩⟩ := h
  · cases h2.1
  · simp only [Value.slice.injEq, Option.some.injEq, Addr.mk.injEq, and_true, true_and] at h3
    obtain ⟨rfl, rfl⟩ := h3
    refine ⟨by omega, .inr ⟨g, cap, cur, rfl, h4, h5, by omega, h7, h8, ?_⟩⟩
    have : cur.toList.take (k * 1) = (cur.toList.take (m * 1)).take (k * 1) := by rw [List.take_take]; congr 1; omega
    rw [this, h9, List.take_append_of_le_length (by omega), List.take_of_length_le (by omega)]
theorem sortStr_c (h : w.ownsRow B 9 1 v n (ls.map sv)) (hn : n < 4611686018427387904) :
    Calls Tryz.prog 29 #[v] w fun e w' => e = .returned (.tuple #[]) ∧ w'.ownsRow B 9 1 v n ((sortL ls).map sv) ∧ w.grownBy w' v.ownBlock := by
  rcases own_row h with ⟨rfl, rfl, h1⟩ | ⟨g, cap, cur, rfl, hB, hg, hnc, hcm, hcs, htk, hl⟩
  · obtain rfl : ls = [] := by simpa using h1
    refine (AnyM.slices_Sort_string_none sortStrL none 0 w).mono ?_
    rintro e w' ⟨rfl, rfl⟩
    rw [sortL_nil]
    exact ⟨rfl, h, ⟨rfl, rfl, rfl, Nat.le_refl _, fun _ _ _ => rfl⟩⟩
  · have hln : ls.length = n := by rw [List.length_map] at hl; exact hl
    subst hln
    rw [List.length_map] at htk
    refine (AnyM.slices_Sort_string sortStrL g 0 cap ls w (holds_of_block hg htk) (Array.getElem?_eq_some_iff.1 hg).1 hn).mono ?_
    rintro e w' ⟨rfl, k, os, rfl⟩
    exact ⟨rfl, ownsRow_sorted (ts := sortL ls) (sortL_len ls) hB hg hnc hcm hcs, grownBy_sorted _⟩
theorem sortInt_c (h : w.ownsRow B 3 1 v n (zs.map iv)) (hn : n < 4611686018427387904) :
    Calls Tryz.prog 31 #[v] w fun e w' => e = .returned (.tuple #[]) ∧ w'.ownsRow B 3 1 v n ((sortI zs).map iv) ∧ w.grownBy w' v.ownBlock := by
  rcases own_row h with ⟨rfl, rfl, h1⟩ | ⟨g, cap, cur, rfl, hB, hg, hnc, hcm, hcs, htk, hl⟩
  · obtain rfl : zs = [] := by simpa using h1
    refine (AnyM.slices_Sort_int_none sortIntL none 0 w).mono ?_
    rintro e w' ⟨rfl, rfl⟩
    rw [sortI_nil]
    exact ⟨rfl, h, ⟨rfl, rfl, rfl, Nat.le_refl _, fun _ _ _ => rfl⟩⟩
  · have hln : zs.length = n := by rw [List.length_map] at hl; exact hl
    subst hln
    rw [List.length_map] at htk
    refine (AnyM.slices_Sort_int sortIntL g 0 cap zs w (holds_of_blockI hg htk) (Array.getElem?_eq_some_iff.1 hg).1 hn).mono ?_
    rintro e w' ⟨rfl, k, os, rfl⟩
    exact ⟨rfl, ownsRow_sortedI (ts := sortI zs) (sortI_len zs) hB hg hnc hcm hcs, grownBy_sortedI _⟩
theorem comp_len {α : Type} [Inhabited α] [DecidableEq α] (zs : List α) : (Lib.compact zs).length ≤ zs.length := by
  unfold Lib.compact Lib.compactUpTo
  rw [List.length_map]
  exact Nat.le_trans (List.length_filter_le _ _) (by simp)
theorem compStr_c (h : w.ownsRow B 9 1 v n (ls.map sv)) (hn : n ≤ 9223372036854775807) :
    Calls Tryz.prog 30 #[v] w fun e w' => ∃ v', e = .returned v' ∧ w'.ownsRow B 9 1 v' (Lib.compact ls).length ((Lib.compact ls).map sv) ∧ w.grownBy w' v.ownBlock ∧ v'.ownBlock = v.ownBlock := by
  rcases own_row h with ⟨rfl, rfl, h1⟩ | ⟨g, cap, cur, rfl, hB, hg, hnc, hcm, hcs, htk, hl⟩
  · obtain rfl : ls = [] := by simpa using h1
    refine (AnyG.slices_Compact_string_empty compStrL none 0 w).mono ?_
    rintro e w' ⟨rfl, rfl⟩
    exact ⟨_, rfl, h, ⟨rfl, rfl, rfl, Nat.le_refl _, fun _ _ _ => rfl⟩, rfl⟩
  · have hln : ls.length = n := by rw [List.length_map] at hl; exact hl
    subst hln
    rw [List.length_map] at htk
    refine (AnyG.slices_Compact_string compStrL g 0 cap ls w (holds_of_block hg htk) hn hnc).mono ?_
    rintro e w' ⟨rfl, k, rfl⟩
    have hcl := comp_len ls
    have ho := ownsRow_sorted (w := w) (n := k) (os := #[]) (ts := Lib.compact ls ++ List.replicate (ls.length - (Lib.compact ls).length) []) (by simp; omega) hB hg hnc hcm hcs
    have hgb := grownBy_sorted (w := w) (g := g) (n := k) (os := #[]) (Lib.compact ls ++ List.replicate (ls.length - (Lib.compact ls).length) ([] : List UInt8)).toArray
    rw [Go.Sort.grow_empty] at ho hgb
    rw [List.map_append] at ho
    exact ⟨_, rfl, own_front ho (by simp) hcl, hgb, rfl⟩
theorem compInt_c (h : w.ownsRow B 3 1 v n (zs.map iv)) (hn : n ≤ 9223372036854775807) :
    Calls Tryz.prog 32 #[v] w fun e w' => ∃ v', e = .returned v' ∧ w'.ownsRow B 3 1 v' (Lib.compact zs).length ((Lib.compact zs).map iv) ∧ w.grownBy w' v.ownBlock ∧ v'.ownBlock = v.ownBlock := by
  rcases own_row h with ⟨rfl, rfl, h1⟩ | ⟨g, cap, cur, rfl, hB, hg, hnc, hcm, hcs, htk, hl⟩
  · obtain rfl : zs = [] := by simpa using h1
    refine (AnyG.slices_Compact_int_empty compIntL none 0 w).mono ?_
    rintro e w' ⟨rfl, rfl⟩
    exact ⟨_, rfl, h, ⟨rfl, rfl, rfl, Nat.le_refl _, fun _ _ _ => rfl⟩, rfl⟩
  · have hln : zs.length = n := by rw [List.length_map] at hl; exact hl
    subst hln
    rw [List.length_map] at htk
    refine (AnyG.slices_Compact_int compIntL g 0 cap zs w (holds_of_blockI hg htk) hn hnc).mono ?_
    rintro e w' ⟨rfl, k, rfl⟩
    have hcl := comp_len zs
    have ho := ownsRow_sortedI (w := w) (n := k) (os := #[]) (ts := Lib.compact zs ++ List.replicate (zs.length - (Lib.compact zs).length) 0) (by simp; omega) hB hg hnc hcm hcs
    have hgb := grownBy_sortedI (w := w) (g := g) (n := k) (os := #[]) (Lib.compact zs ++ List.replicate (zs.length - (Lib.compact zs).length) (0 : Int)).toArray
    rw [Go.Sort.grow_empty] at ho hgb
    rw [List.map_append] at ho
    exact ⟨_, rfl, own_front ho (by simp) hcl, hgb, rfl⟩
end
end

section
open Go Go.RowKit Go.Maps Go.MapKept Go.WideShapes
attribute [local go_sem] Oper.semAt_some

set_option maxRecDepth 100000 in
set_option maxHeartbeats 1000000 in
theorem strBkeys1_in {V : Type} {wv : V → Value} (F : Fence) (n : Nat) (hf : F.fn 146) (hro : F.round = none) (hn : 1 ≤ n) (l Bm g : Nat) (hs : List (List UInt8 × V)) (J Jx : List (List UInt8) → World → Prop)
    (hY : ∀ pre x W, J pre W → pre.length < hs.length → YieldAt F (n - 1) Tryz.prog l #[sv x] W fun e W' => (e = .returned (.bool true) ∧ J (pre ++ [x]) W' ∧ KeepsWalks W W') ∨ (e = .returned (.bool false) ∧ Jx (pre ++ [x]) W'))
    (W : World) (hJ : AbidesFrom W.heap.size J) (hm : W.cell? ⟨Bm, 0, none⟩ = some (.map (some g))) (hmap : MapG (sv) (wv) W g hs) (hinj : ∀ x y, (sv) x = (sv) y → x = y) (h0 : J [] W) :
    CallsIn F n Tryz.prog 146 #[.func (.yield l) #[] #[], .pointer (some ⟨Bm, 0, none⟩)] W fun e W' => (∃ v, e = .returned v) ∧ ((∃ xs, xs.Perm (hs.map Prod.fst) ∧ J xs W') ∨ (∃ pre, (∃ k, k ≤ hs.length ∧ pre.length = k) ∧ Jx pre W')) := by
  refine callsIn_of_wp Tryz.func146 rfl hf ?_ hro
  simp only [Tryz.ntmps146, List.size_toArray, List.length_cons, List.length_nil, Nat.reduceAdd, Nat.reduceSub, Array.replicate_succ, Array.replicate_zero, List.push_toArray, List.append_toArray, List.nil_append, List.cons_append]
  gi_wp2_with (first | (gi_at_range; refine wplIn_rangeG rfl 142 9 4 Tryz.underlying142 _ rfl rfl hmap ?_; intro w0 hrg0 hg0 hs0) | gi_in)
  go_frame
  have hgl : g < W.heap.size := hmap.lt
  obtain ⟨r, hrr⟩ : ∃ r, W.heap.size = r := ⟨_, rfl⟩
  have hJ0 : J [] w0 := hJ [] W w0 none h0 ⟨hg0.os, hg0.tape, hg0.output, hg0.size, fun i hi _ => hg0.block i hi⟩ (fun r e => by cases e)
  have HJ : Hid (AbidesFrom r J) := hid (hrr ▸ hJ)
  rw [hrr] at hrg0 ⊢
  clear hmap hJ
  gi_loopw [3] (fun _ wr => ∃ ks lf, RngG (sv) (wv) wr g r hs lf ∧ (ks ++ lf).Perm (hs.map Prod.fst) ∧ J ks wr) (fun _ wr => wr.rangeLeft g r)
  case atStart => exact ⟨[], hs.map Prod.fst, hrg0, by simp, hJ0⟩
  case round =>
    obtain ⟨ks, lf, hrg, hperm, hJs⟩ := hrel
    have HP := hid hperm
    have hms := hrg.leftG
    have HW := hid hrg.walk
    clear hperm
    gi_wp2_with (first | (gi_at_next; refine wplIn_nextG rfl hinj _ rfl rfl hrg ?_ ?_) | gi_in)
    · intro hlf
      subst hlf
      gi_wp2
      go_end0
      exact ⟨⟨_, rfl⟩, .inl ⟨ks, (by have := HP.out; rwa [List.append_nil] at this), hJs⟩⟩
    · intro x v w2 lf2 hxm hp2 hl2 hrg2 u2 hen
      have hJ2 : J ks w2 := HJ.out ks wr w2 (some r) hJs ⟨u2.os, u2.tape, u2.output, by rw [u2.size]; exact Nat.le_refl _, fun i hi hne => u2.block i (fun e => hne (by rw [e]))⟩ (fun q e => by cases e; exact ⟨Nat.le_refl _, HW.out⟩)
      have hkl : ks.length < hs.length := by
        have h1 := HP.out.length_eq
        rw [List.length_append, List.length_map] at h1
        omega
      obtain ⟨fn, tmps, assign, body, hy, hR⟩ := hY ks x w2 hJ2 hkl
      have HKL := hid hkl
      have HP2 : Hid ((ks ++ [x] ++ lf2).Perm (hs.map Prod.fst)) := hid (by
        refine List.Perm.trans ?_ HP.out
        rw [List.append_assoc]
        exact (List.Perm.append_left ks hp2).symm)
      clear hp2 hkl
      gi_wp2
      refine hR.mono ?_
      rintro e W3 (⟨rfl, hJ3, hk3⟩ | ⟨rfl, hJx3⟩)
      · have hrg3 := hrg2.walks hk3
        gi_wp2
        go_roundw
        case rel => exact ⟨ks ++ [x], lf2, hrg3, HP2.out, hJ3⟩
        case measure => rw [hrg3.leftG, hms]; omega
      · gi_wp2
        refine bodyPost_ret (results_none rfl _ _ _) rfl ?_
        exact ⟨⟨_, rfl⟩, .inr ⟨_, ⟨_, by have := HKL.out; simp; omega, rfl⟩, hJx3⟩⟩

theorem strBkeys_c (g : Nat) (w : World) :
    Calls Tryz.prog 123 #[.map (some g)] w fun e w' => e = .returned (.func (.func 146) #[] #[.pointer (some ⟨w.heap.size, 0, none⟩)]) ∧ w' = w.alloc (.cells #[.map (some g)] 142) := by
  go_enter Tryz.func123, Tryz.ntmps123
  go_wp2
  go_ret
  exact ⟨rfl, rfl⟩
theorem elem_strB : ElemT Tryz.prog 36 9 1 16 := ⟨Tryz.underlying36, ⟨_, _, (info_parts (show (Tryz.prog.info? 9).map (fun i => (i.zero, i.size, i.bytes)) = some (some (.string ⟨#[]⟩), 1, 16) by kernel_rfl)).choose_spec.1, (info_parts (show (Tryz.prog.info? 9).map (fun i => (i.zero, i.size, i.bytes)) = some (some (.string ⟨#[]⟩), 1, 16) by kernel_rfl)).choose_spec.2.1, (info_parts (show (Tryz.prog.info? 9).map (fun i => (i.zero, i.size, i.bytes)) = some (some (.string ⟨#[]⟩), 1, 16) by kernel_rfl)).choose_spec.2.2.1, (info_parts (show (Tryz.prog.info? 9).map (fun i => (i.zero, i.size, i.bytes)) = some (some (.string ⟨#[]⟩), 1, 16) by kernel_rfl)).choose_spec.2.2.2, rfl⟩, by decide⟩

set_option maxRecDepth 100000 in
set_option maxHeartbeats 2000000 in
theorem strBappend_in (F : Fence) (n : Nat) (hf : F.fn 152) (hro : F.round = none) (hn : 2 ≤ n) (g : Nat) (lb : Array Value) (hFg : F.fn g) (eg : ∀ args w, (callFunc g args).run Tryz.prog w = .ok (.enter g args) w)
    (S Sp : List (List UInt8) → Prop) (N : Nat) (hN : N * 16 ≤ 140737488355328) (hNn : N ≤ 140737488355328) (w : World) (hseq : SeqStops F (n - 1) Tryz.prog g lb (sv) S Sp N w) (hSN : ∀ ss, S ss → ss.length ≤ N) :
    CallsIn F n Tryz.prog 152 #[.slice none 0 0, .func (.func g) #[] lb] w fun e w' => ∃ (v : Value) (ss : List (List UInt8)), e = .returned v ∧ S ss ∧ w'.ownsRow w.heap.size 9 1 v ss.length (ss.map (sv)) ∧ Ext w w' := by
  have hT := hid elem_strB
  refine callsIn_of_wp_marks Tryz.func152 rfl hf ?_ hro
  simp only [Tryz.ntmps152, List.size_toArray, List.length_cons, List.length_nil, Nat.reduceAdd, Nat.reduceSub, Array.replicate_succ, Array.replicate_zero, List.push_toArray, List.append_toArray, List.nil_append, List.cons_append]
  gi_wp2_with fail
  refine wpIn_rangeFunc_ownH hro (by omega) (gf := g) (lb := lb) rfl hFg eg (encs := fun x => #[(sv) x]) (Kp := KeepsWalks) (N := N) (w0 := w) (S := S) (Sp := Sp) (seqStopsA_iff.1 (seqStops_iff.1 hseq)) (fun h k => h.trans k)
    (fun W l o o' _ hl _ hw => KeepsWalks.putObj o' hl hw) ((Ext.refl w).alloc _) (fun _ => rfl)
    (fun pre W => ∃ v, Blk W w.heap.size [v] 36 ∧ W.ownsRow w.heap.size 9 1 v pre.length (pre.map (sv)) ∧ Ext w W) (fun _ _ _ => False) ?own (fun _ _ _ _ _ h _ _ => h) ?h0
    (fun x a' W => a' = { tmps := #[Value.slice none 0 0, Value.func (Fn.func g) #[] lb, Value.pointer (some { block := w.heap.size, off := 0 }), undef, Value.slice none 0 0, (sv) x, Value.func (Fn.func g) #[] lb, (sv) x, undef, undef, undef, undef, undef], defers := [] }) (fun _ _ _ _ _ _ h _ _ => h)
    ?assign ?body ?done ?stop
  case own =>
    rintro s W W' row ⟨v, hb, ho, he⟩ hg hr
    have hr2 : ∀ r, row = some r → ∃ o : Obj, W.heap[r]? = some o ∧ o.isCells = false := fun r e => (hr r e).2
    exact ⟨v, hb.noncells hg hr2, own_noncells ho hg hr2, he.grown hg (fun r e => Nat.le_trans (by simp) (hr r e).1)⟩
  case h0 => exact ⟨_, Blk.mk_alloc rfl rfl, ⟨by simp, .inl ⟨rfl, rfl⟩⟩, (Ext.refl w).alloc _⟩
  case assign =>
    intro l pre x W K hI hK
    gi_wp2
    exact hK _ _ (KeepsFrom.refl _ _) (KeepsWalks.refl _) hI rfl
  case body =>
    rintro l pre x a' W hl _ ⟨v, hb, ho, he⟩ rfl hlt
    have HB := hid hb
    have HO := hid ho
    have HE := hid he
    have c0 := hb.cell' (i := 0) rfl
    have hbl := hb.lt
    clear hb ho he
    have hpn : pre.length + 1 ≤ 140737488355328 := by omega
    have hpb : (pre.length + 1) * 16 ≤ 140737488355328 := by omega
    have hbase : w.heap.size ≤ W.heap.size + 1 := by omega
    gi_wp2_with (refine wplIn_appendA (m := 1) (c := 1) (news := [(sv) x]) (ad := some ⟨W.heap.size, 0, none⟩) hT.out rfl _ _ rfl w.heap.size rfl rfl rfl (HO.out.alloc _) rfl (by decide) (fun h => by cases h) (Cells.of_blk0 (T := 9) (Blk.mk_alloc rfl rfl)) (by simp [Value.oneCell']) hpn hpb (by simp; omega) ?_)
    intro v' w3 ho3 hg3 _
    have HA : Hid (KeepsOthers W w3) := hid ((KeepsOthers.alloc W _).trans (keeps_own (HO.out.alloc _) hg3))
    have HB3 := hid ((HB.out.alloc _).besides (HO.out.alloc _) hg3 (by decide))
    have HO3 := hid ho3
    have HE3 : Hid (Ext w w3) := hid ((HE.out.alloc _).grown hg3 (fun g e => (HO.out.lt g e).1))
    have c3 := HB3.out.cell' (i := 0) rfl
    have f3 := HB3.out.frozen 0
    obtain ⟨a3, k3, rfl, -, -, -⟩ := own_cellsA ho3
    clear ho3 hg3 c0
    gi_wp2_with fail
    generalize hwX : World.setCell w3 _ _ = wX
    have bX : Blk wX w.heap.size [.slice a3 (pre.length + 1) k3] 36 := by rw [← hwX]; exact HB3.out.set 0 (.slice a3 (pre.length + 1) k3)
    have uX : Upd w3 w.heap.size wX := by rw [← hwX]; exact Upd.setCell _
    have hke : KeepsOthers W wX := HA.out.trans (keeps_updB HB3.out uX)
    refine ⟨hke.from _, hke.walks, _, bX, ?_, uX.ext HE3.out (Nat.le_refl _)⟩
    have := own_updA HO3.out uX HB3.out (by decide)
    simpa using this
  case done =>
    rintro D ss W hDs hS ⟨v, hb, ho, he⟩ hD
    have c0 := hb.cell' (i := 0) rfl
    gi_wp2
    refine ⟨by simp, .inl ⟨_, _, rfl, run_takeDeferred hD, ?_⟩⟩
    refine ⟨_, results_tmp rfl _ _ _, ?_⟩
    have hg := grownBy_putObj' W D (.deferred none)
    have hr : ∀ r, some D = some r → ∃ o : Obj, W.heap[r]? = some o ∧ o.isCells = false := fun r e => by cases e; exact ⟨_, hD, rfl⟩
    exact ⟨v, ss, rfl, hS, own_noncells ho hg hr, he.grown hg (fun r e => by cases e; exact Nat.le_trans (by simp) hDs)⟩
  case stop =>
    rintro D c pre W _ _ h _
    exact h.elim

set_option maxRecDepth 100000 in
set_option maxHeartbeats 1000000 in
theorem strBcollect_in (F : Fence) (n : Nat) (hf : F.fn 145) (hf2 : F.fn 152) (hro : F.round = none) (hn : 3 ≤ n) (g : Nat) (lb : Array Value) (hFg : F.fn g) (eg : ∀ args w, (callFunc g args).run Tryz.prog w = .ok (.enter g args) w)
    (S Sp : List (List UInt8) → Prop) (N : Nat) (hN : N * 16 ≤ 140737488355328) (hNn : N ≤ 140737488355328) (w : World) (hseq : SeqStops F (n - 1 - 1) Tryz.prog g lb (sv) S Sp N w) (hSN : ∀ ss, S ss → ss.length ≤ N) :
    CallsIn F n Tryz.prog 145 #[.func (.func g) #[] lb] w fun e w' => ∃ (v : Value) (ss : List (List UInt8)), e = .returned v ∧ S ss ∧ w'.ownsRow w.heap.size 9 1 v ss.length (ss.map (sv)) ∧ Ext w w' := by
  refine callsIn_of_wp Tryz.func145 rfl hf ?_ hro
  simp only [Tryz.ntmps145, List.size_toArray, List.length_cons, List.length_nil, Nat.reduceAdd, Nat.reduceSub, Array.replicate_succ, Array.replicate_zero, List.push_toArray, List.append_toArray, List.nil_append, List.cons_append]
  gi_wp2_with fail
  refine ⟨fun _ => by omega, ?_⟩
  refine (strBappend_in F (n - 1) hf2 hro (by omega) g lb hFg eg S Sp N hN hNn _ hseq hSN).mono ?_
  rintro e W ⟨v, ss, rfl, hS, hrow, hb⟩
  gi_wp2
  go_ret
  exact ⟨v, ss, rfl, hS, hrow, hb⟩
/-- the keys of a map, in whatever order they come -/
theorem strBseq {V : Type} {wv : V → Value} (F : Fence) (n : Nat) (hf : F.fn 146) (hro : F.round = none) (hn : 1 ≤ n) (Bm g : Nat) (hs : List (List UInt8 × V)) (w : World) (hBm : Bm < w.heap.size) (hm : w.cell? ⟨Bm, 0, none⟩ = some (.map (some g))) (hmap : MapG (sv) wv w g hs) (hinj : ∀ x y, (sv) x = (sv) y → x = y) :
    SeqStops F n Tryz.prog 146 #[.pointer (some ⟨Bm, 0, none⟩)] (sv) (fun xs => xs.Perm (hs.map Prod.fst)) (fun pre => ∃ k, k ≤ hs.length ∧ pre.length = k) hs.length w := fun l J Jx W hW hJ _ hY h0 =>
  strBkeys1_in F n hf hro hn l Bm g hs J Jx hY W hJ ((hW.cell (p := ⟨Bm, 0, none⟩) hBm).trans hm) (hmap.keep (hW.block g hmap.lt)) hinj h0
end

section
open Go Go.RowKit Go.Maps Go.MapKept Go.WideShapes
attribute [local go_sem] Oper.semAt_some

set_option maxRecDepth 100000 in
set_option maxHeartbeats 1000000 in
theorem intBkeys1_in {V : Type} {wv : V → Value} (F : Fence) (n : Nat) (hf : F.fn 148) (hro : F.round = none) (hn : 1 ≤ n) (l Bm g : Nat) (hs : List (Int × V)) (J Jx : List (Int) → World → Prop)
    (hY : ∀ pre x W, J pre W → pre.length < hs.length → YieldAt F (n - 1) Tryz.prog l #[iv x] W fun e W' => (e = .returned (.bool true) ∧ J (pre ++ [x]) W' ∧ KeepsWalks W W') ∨ (e = .returned (.bool false) ∧ Jx (pre ++ [x]) W'))
    (W : World) (hJ : AbidesFrom W.heap.size J) (hm : W.cell? ⟨Bm, 0, none⟩ = some (.map (some g))) (hmap : MapG (iv) (wv) W g hs) (hinj : ∀ x y, (iv) x = (iv) y → x = y) (h0 : J [] W) :
    CallsIn F n Tryz.prog 148 #[.func (.yield l) #[] #[], .pointer (some ⟨Bm, 0, none⟩)] W fun e W' => (∃ v, e = .returned v) ∧ ((∃ xs, xs.Perm (hs.map Prod.fst) ∧ J xs W') ∨ (∃ pre, (∃ k, k ≤ hs.length ∧ pre.length = k) ∧ Jx pre W')) := by
  refine callsIn_of_wp Tryz.func148 rfl hf ?_ hro
  simp only [Tryz.ntmps148, List.size_toArray, List.length_cons, List.length_nil, Nat.reduceAdd, Nat.reduceSub, Array.replicate_succ, Array.replicate_zero, List.push_toArray, List.append_toArray, List.nil_append, List.cons_append]
  gi_wp2_with (first | (gi_at_range; refine wplIn_rangeG rfl 149 3 4 Tryz.underlying149 _ rfl rfl hmap ?_; intro w0 hrg0 hg0 hs0) | gi_in)
  go_frame
  have hgl : g < W.heap.size := hmap.lt
  obtain ⟨r, hrr⟩ : ∃ r, W.heap.size = r := ⟨_, rfl⟩
  have hJ0 : J [] w0 := hJ [] W w0 none h0 ⟨hg0.os, hg0.tape, hg0.output, hg0.size, fun i hi _ => hg0.block i hi⟩ (fun r e => by cases e)
  have HJ : Hid (AbidesFrom r J) := hid (hrr ▸ hJ)
  rw [hrr] at hrg0 ⊢
  clear hmap hJ
  gi_loopw [3] (fun _ wr => ∃ ks lf, RngG (iv) (wv) wr g r hs lf ∧ (ks ++ lf).Perm (hs.map Prod.fst) ∧ J ks wr) (fun _ wr => wr.rangeLeft g r)
  case atStart => exact ⟨[], hs.map Prod.fst, hrg0, by simp, hJ0⟩
  case round =>
    obtain ⟨ks, lf, hrg, hperm, hJs⟩ := hrel
    have HP := hid hperm
    have hms := hrg.leftG
    have HW := hid hrg.walk
    clear hperm
    gi_wp2_with (first | (gi_at_next; refine wplIn_nextG rfl hinj _ rfl rfl hrg ?_ ?_) | gi_in)
    · intro hlf
      subst hlf
      gi_wp2
      go_end0
      exact ⟨⟨_, rfl⟩, .inl ⟨ks, (by have := HP.out; rwa [List.append_nil] at this), hJs⟩⟩
    · intro x v w2 lf2 hxm hp2 hl2 hrg2 u2 hen
      have hJ2 : J ks w2 := HJ.out ks wr w2 (some r) hJs ⟨u2.os, u2.tape, u2.output, by rw [u2.size]; exact Nat.le_refl _, fun i hi hne => u2.block i (fun e => hne (by rw [e]))⟩ (fun q e => by cases e; exact ⟨Nat.le_refl _, HW.out⟩)
      have hkl : ks.length < hs.length := by
        have h1 := HP.out.length_eq
        rw [List.length_append, List.length_map] at h1
        omega
      obtain ⟨fn, tmps, assign, body, hy, hR⟩ := hY ks x w2 hJ2 hkl
      have HKL := hid hkl
      have HP2 : Hid ((ks ++ [x] ++ lf2).Perm (hs.map Prod.fst)) := hid (by
        refine List.Perm.trans ?_ HP.out
        rw [List.append_assoc]
        exact (List.Perm.append_left ks hp2).symm)
      clear hp2 hkl
      gi_wp2
      refine hR.mono ?_
      rintro e W3 (⟨rfl, hJ3, hk3⟩ | ⟨rfl, hJx3⟩)
      · have hrg3 := hrg2.walks hk3
        gi_wp2
        go_roundw
        case rel => exact ⟨ks ++ [x], lf2, hrg3, HP2.out, hJ3⟩
        case measure => rw [hrg3.leftG, hms]; omega
      · gi_wp2
        refine bodyPost_ret (results_none rfl _ _ _) rfl ?_
        exact ⟨⟨_, rfl⟩, .inr ⟨_, ⟨_, by have := HKL.out; simp; omega, rfl⟩, hJx3⟩⟩

theorem intBkeys_c (g : Nat) (w : World) :
    Calls Tryz.prog 128 #[.map (some g)] w fun e w' => e = .returned (.func (.func 148) #[] #[.pointer (some ⟨w.heap.size, 0, none⟩)]) ∧ w' = w.alloc (.cells #[.map (some g)] 149) := by
  go_enter Tryz.func128, Tryz.ntmps128
  go_wp2
  go_ret
  exact ⟨rfl, rfl⟩
theorem elem_intB : ElemT Tryz.prog 48 3 1 8 := ⟨Tryz.underlying48, ⟨_, _, (info_parts (show (Tryz.prog.info? 3).map (fun i => (i.zero, i.size, i.bytes)) = some (some (.int .i64 0), 1, 8) by kernel_rfl)).choose_spec.1, (info_parts (show (Tryz.prog.info? 3).map (fun i => (i.zero, i.size, i.bytes)) = some (some (.int .i64 0), 1, 8) by kernel_rfl)).choose_spec.2.1, (info_parts (show (Tryz.prog.info? 3).map (fun i => (i.zero, i.size, i.bytes)) = some (some (.int .i64 0), 1, 8) by kernel_rfl)).choose_spec.2.2.1, (info_parts (show (Tryz.prog.info? 3).map (fun i => (i.zero, i.size, i.bytes)) = some (some (.int .i64 0), 1, 8) by kernel_rfl)).choose_spec.2.2.2, rfl⟩, by decide⟩

set_option maxRecDepth 100000 in
set_option maxHeartbeats 2000000 in
theorem intBappend_in (F : Fence) (n : Nat) (hf : F.fn 153) (hro : F.round = none) (hn : 2 ≤ n) (g : Nat) (lb : Array Value) (hFg : F.fn g) (eg : ∀ args w, (callFunc g args).run Tryz.prog w = .ok (.enter g args) w)
    (S Sp : List (Int) → Prop) (N : Nat) (hN : N * 8 ≤ 140737488355328) (hNn : N ≤ 140737488355328) (w : World) (hseq : SeqStops F (n - 1) Tryz.prog g lb (iv) S Sp N w) (hSN : ∀ ss, S ss → ss.length ≤ N) :
    CallsIn F n Tryz.prog 153 #[.slice none 0 0, .func (.func g) #[] lb] w fun e w' => ∃ (v : Value) (ss : List (Int)), e = .returned v ∧ S ss ∧ w'.ownsRow w.heap.size 3 1 v ss.length (ss.map (iv)) ∧ Ext w w' := by
  have hT := hid elem_intB
  refine callsIn_of_wp_marks Tryz.func153 rfl hf ?_ hro
  simp only [Tryz.ntmps153, List.size_toArray, List.length_cons, List.length_nil, Nat.reduceAdd, Nat.reduceSub, Array.replicate_succ, Array.replicate_zero, List.push_toArray, List.append_toArray, List.nil_append, List.cons_append]
  gi_wp2_with fail
  refine wpIn_rangeFunc_ownH hro (by omega) (gf := g) (lb := lb) rfl hFg eg (encs := fun x => #[(iv) x]) (Kp := KeepsWalks) (N := N) (w0 := w) (S := S) (Sp := Sp) (seqStopsA_iff.1 (seqStops_iff.1 hseq)) (fun h k => h.trans k)
    (fun W l o o' _ hl _ hw => KeepsWalks.putObj o' hl hw) ((Ext.refl w).alloc _) (fun _ => rfl)
    (fun pre W => ∃ v, Blk W w.heap.size [v] 48 ∧ W.ownsRow w.heap.size 3 1 v pre.length (pre.map (iv)) ∧ Ext w W) (fun _ _ _ => False) ?own (fun _ _ _ _ _ h _ _ => h) ?h0
    (fun x a' W => a' = { tmps := #[Value.slice none 0 0, Value.func (Fn.func g) #[] lb, Value.pointer (some { block := w.heap.size, off := 0 }), undef, Value.slice none 0 0, (iv) x, Value.func (Fn.func g) #[] lb, (iv) x, undef, undef, undef, undef, undef], defers := [] }) (fun _ _ _ _ _ _ h _ _ => h)
    ?assign ?body ?done ?stop
  case own =>
    rintro s W W' row ⟨v, hb, ho, he⟩ hg hr
    have hr2 : ∀ r, row = some r → ∃ o : Obj, W.heap[r]? = some o ∧ o.isCells = false := fun r e => (hr r e).2
    exact ⟨v, hb.noncells hg hr2, own_noncells ho hg hr2, he.grown hg (fun r e => Nat.le_trans (by simp) (hr r e).1)⟩
  case h0 => exact ⟨_, Blk.mk_alloc rfl rfl, ⟨by simp, .inl ⟨rfl, rfl⟩⟩, (Ext.refl w).alloc _⟩
  case assign =>
    intro l pre x W K hI hK
    gi_wp2
    exact hK _ _ (KeepsFrom.refl _ _) (KeepsWalks.refl _) hI rfl
  case body =>
    rintro l pre x a' W hl _ ⟨v, hb, ho, he⟩ rfl hlt
    have HB := hid hb
    have HO := hid ho
    have HE := hid he
    have c0 := hb.cell' (i := 0) rfl
    have hbl := hb.lt
    clear hb ho he
    have hpn : pre.length + 1 ≤ 140737488355328 := by omega
    have hpb : (pre.length + 1) * 8 ≤ 140737488355328 := by omega
    have hbase : w.heap.size ≤ W.heap.size + 1 := by omega
    gi_wp2_with (refine wplIn_appendA (m := 1) (c := 1) (news := [(iv) x]) (ad := some ⟨W.heap.size, 0, none⟩) hT.out rfl _ _ rfl w.heap.size rfl rfl rfl (HO.out.alloc _) rfl (by decide) (fun h => by cases h) (Cells.of_blk0 (T := 3) (Blk.mk_alloc rfl rfl)) (by simp [Value.oneCell']) hpn hpb (by simp; omega) ?_)
    intro v' w3 ho3 hg3 _
    have HA : Hid (KeepsOthers W w3) := hid ((KeepsOthers.alloc W _).trans (keeps_own (HO.out.alloc _) hg3))
    have HB3 := hid ((HB.out.alloc _).besides (HO.out.alloc _) hg3 (by decide))
    have HO3 := hid ho3
    have HE3 : Hid (Ext w w3) := hid ((HE.out.alloc _).grown hg3 (fun g e => (HO.out.lt g e).1))
    have c3 := HB3.out.cell' (i := 0) rfl
    have f3 := HB3.out.frozen 0
    obtain ⟨a3, k3, rfl, -, -, -⟩ := own_cellsA ho3
    clear ho3 hg3 c0
    gi_wp2_with fail
    generalize hwX : World.setCell w3 _ _ = wX
    have bX : Blk wX w.heap.size [.slice a3 (pre.length + 1) k3] 48 := by rw [← hwX]; exact HB3.out.set 0 (.slice a3 (pre.length + 1) k3)
    have uX : Upd w3 w.heap.size wX := by rw [← hwX]; exact Upd.setCell _
    have hke : KeepsOthers W wX := HA.out.trans (keeps_updB HB3.out uX)
    refine ⟨hke.from _, hke.walks, _, bX, ?_, uX.ext HE3.out (Nat.le_refl _)⟩
    have := own_updA HO3.out uX HB3.out (by decide)
    simpa using this
  case done =>
    rintro D ss W hDs hS ⟨v, hb, ho, he⟩ hD
    have c0 := hb.cell' (i := 0) rfl
    gi_wp2
    refine ⟨by simp, .inl ⟨_, _, rfl, run_takeDeferred hD, ?_⟩⟩
    refine ⟨_, results_tmp rfl _ _ _, ?_⟩
    have hg := grownBy_putObj' W D (.deferred none)
    have hr : ∀ r, some D = some r → ∃ o : Obj, W.heap[r]? = some o ∧ o.isCells = false := fun r e => by cases e; exact ⟨_, hD, rfl⟩
    exact ⟨v, ss, rfl, hS, own_noncells ho hg hr, he.grown hg (fun r e => by cases e; exact Nat.le_trans (by simp) hDs)⟩
  case stop =>
    rintro D c pre W _ _ h _
    exact h.elim

set_option maxRecDepth 100000 in
set_option maxHeartbeats 1000000 in
theorem intBcollect_in (F : Fence) (n : Nat) (hf : F.fn 147) (hf2 : F.fn 153) (hro : F.round = none) (hn : 3 ≤ n) (g : Nat) (lb : Array Value) (hFg : F.fn g) (eg : ∀ args w, (callFunc g args).run Tryz.prog w = .ok (.enter g args) w)
    (S Sp : List (Int) → Prop) (N : Nat) (hN : N * 8 ≤ 140737488355328) (hNn : N ≤ 140737488355328) (w : World) (hseq : SeqStops F (n - 1 - 1) Tryz.prog g lb (iv) S Sp N w) (hSN : ∀ ss, S ss → ss.length ≤ N) :
    CallsIn F n Tryz.prog 147 #[.func (.func g) #[] lb] w fun e w' => ∃ (v : Value) (ss : List (Int)), e = .returned v ∧ S ss ∧ w'.ownsRow w.heap.size 3 1 v ss.length (ss.map (iv)) ∧ Ext w w' := by
  refine callsIn_of_wp Tryz.func147 rfl hf ?_ hro
  simp only [Tryz.ntmps147, List.size_toArray, List.length_cons, List.length_nil, Nat.reduceAdd, Nat.reduceSub, Array.replicate_succ, Array.replicate_zero, List.push_toArray, List.append_toArray, List.nil_append, List.cons_append]
  gi_wp2_with fail
  refine ⟨fun _ => by omega, ?_⟩
  refine (intBappend_in F (n - 1) hf2 hro (by omega) g lb hFg eg S Sp N hN hNn _ hseq hSN).mono ?_
  rintro e W ⟨v, ss, rfl, hS, hrow, hb⟩
  gi_wp2
  go_ret
  exact ⟨v, ss, rfl, hS, hrow, hb⟩
/-- the keys of a map, in whatever order they come -/
theorem intBseq {V : Type} {wv : V → Value} (F : Fence) (n : Nat) (hf : F.fn 148) (hro : F.round = none) (hn : 1 ≤ n) (Bm g : Nat) (hs : List (Int × V)) (w : World) (hBm : Bm < w.heap.size) (hm : w.cell? ⟨Bm, 0, none⟩ = some (.map (some g))) (hmap : MapG (iv) wv w g hs) (hinj : ∀ x y, (iv) x = (iv) y → x = y) :
    SeqStops F n Tryz.prog 148 #[.pointer (some ⟨Bm, 0, none⟩)] (iv) (fun xs => xs.Perm (hs.map Prod.fst)) (fun pre => ∃ k, k ≤ hs.length ∧ pre.length = k) hs.length w := fun l J Jx W hW hJ _ hY h0 =>
  intBkeys1_in F n hf hro hn l Bm g hs J Jx hY W hJ ((hW.cell (p := ⟨Bm, 0, none⟩) hBm).trans hm) (hmap.keep (hW.block g hmap.lt)) hinj h0
end

section
open Go Go.Lib

abbrev cmpB := Lib.compareBytes
theorem cmpB_self : ∀ x : List UInt8, cmpB x x = 0
  | [] => rfl
  | a :: ar => by
    unfold cmpB Lib.compareBytes
    rw [if_neg (UInt8.lt_irrefl a), if_neg (UInt8.lt_irrefl a)]
    exact cmpB_self ar
theorem cmpB_swap : ∀ x y : List UInt8, cmpB y x = - cmpB x y
  | [], [] => rfl
  | [], _ :: _ => rfl
  | _ :: _, [] => rfl
  | a :: ar, b :: bs => by
    have ih := cmpB_swap ar bs
    unfold cmpB Lib.compareBytes at ih ⊢
    by_cases h1 : a < b
    · have h2 : ¬ b < a := UInt8.lt_asymm h1
      simp [h1, h2]
    · by_cases h2 : b < a
      · simp [h1, h2]
      · simp only [h1, h2, if_false]
        unfold Lib.compareBytes
        cases ar <;> cases bs <;> simp_all [Lib.compareBytes]
theorem cmpB_eq : ∀ {x y : List UInt8}, cmpB x y = 0 → x = y
  | [], [], _ => rfl
  | [], _ :: _, h => by simp [cmpB, Lib.compareBytes] at h
  | _ :: _, [], h => by simp [cmpB, Lib.compareBytes] at h
  | a :: ar, b :: bs, h => by
    unfold cmpB at h
    unfold Lib.compareBytes at h
    by_cases h1 : a < b
    · rw [if_pos h1] at h; cases h
    · by_cases h2 : b < a
      · rw [if_neg h1, if_pos h2] at h; cases h
      · rw [if_neg h1, if_neg h2] at h
        have e1 : a = b := UInt8.le_antisymm (UInt8.not_lt.1 h2) (UInt8.not_lt.1 h1)
        rw [e1, cmpB_eq h]
theorem cmpB_vals : ∀ x y : List UInt8, cmpB x y = -1 ∨ cmpB x y = 0 ∨ cmpB x y = 1
  | [], [] => .inr (.inl rfl)
  | [], _ :: _ => .inl rfl
  | _ :: _, [] => .inr (.inr rfl)
  | a :: ar, b :: bs => by
    unfold cmpB Lib.compareBytes
    split
    · exact .inl rfl
    · split
      · exact .inr (.inr rfl)
      · exact cmpB_vals ar bs
theorem cmpB_trans : ∀ {x y z : List UInt8}, cmpB x y < 0 → cmpB y z < 0 → cmpB x z < 0
  | [], [], _, h, _ => by simp [cmpB, Lib.compareBytes] at h
  | _, _ :: _, [], _, h => by simp [cmpB, Lib.compareBytes] at h
  | [], _ :: _, _ :: _, _, _ => by simp [cmpB, Lib.compareBytes]
  | _ :: _, [], _, h, _ => by simp [cmpB, Lib.compareBytes] at h
  | a :: ar, b :: bs, c :: cs, h1, h2 => by
    unfold cmpB at h1 h2 ⊢
    unfold Lib.compareBytes at h1 h2 ⊢
    by_cases p1 : a < b
    · by_cases q1 : b < c
      · rw [if_pos (UInt8.lt_trans p1 q1)]; decide
      · by_cases q2 : c < b
        · rw [if_neg q1, if_pos q2] at h2; exact absurd h2 (by decide)
        · have e : b = c := UInt8.le_antisymm (UInt8.not_lt.1 q2) (UInt8.not_lt.1 q1)
          rw [← e, if_pos p1]; decide
    · by_cases p2 : b < a
      · rw [if_neg p1, if_pos p2] at h1; exact absurd h1 (by decide)
      · have e : a = b := UInt8.le_antisymm (UInt8.not_lt.1 p2) (UInt8.not_lt.1 p1)
        rw [if_neg p1, if_neg p2] at h1
        subst e
        by_cases q1 : a < c
        · rw [if_pos q1]; decide
        · by_cases q2 : c < a
          · rw [if_neg q1, if_pos q2] at h2; exact absurd h2 (by decide)
          · rw [if_neg q1, if_neg q2] at h2 ⊢
            exact cmpB_trans h1 h2
def ltB (x y : List UInt8) : Bool := decide (cmpB x y < 0)
theorem ltB_irrefl (x : List UInt8) : ltB x x = false := by unfold ltB; rw [cmpB_self]; rfl
theorem ltB_trans {x y z : List UInt8} (h1 : ltB x y = true) (h2 : ltB y z = true) : ltB x z = true := by
  unfold ltB at *
  exact decide_eq_true (cmpB_trans (of_decide_eq_true h1) (of_decide_eq_true h2))
theorem ltB_three (x y : List UInt8) : ltB x y = true ∨ x = y ∨ ltB y x = true := by
  unfold ltB
  have h := cmpB_swap x y
  rcases cmpB_vals x y with h1 | h1 | h1
  · left; rw [h1]; rfl
  · right; left; exact cmpB_eq h1
  · right; right; rw [h, h1]; rfl
theorem ltB_ntrans {x y z : List UInt8} (h1 : ltB x y = false) (h2 : ltB y z = false) : ltB x z = false := by
  cases h : ltB x z with
  | false => rfl
  | true =>
    exfalso
    rcases ltB_three y z with h3 | h3 | h3
    · rw [h3] at h2; cases h2
    · subst h3; rw [h] at h1; cases h1
    · have := ltB_trans h h3
      rw [this] at h1; cases h1

/-- one of each run of equals -/
def dd {α : Type} [DecidableEq α] : List α → List α
  | [] => []
  | [x] => [x]
  | x :: y :: r => if x = y then dd (y :: r) else x :: dd (y :: r)
section
variable {α : Type} [DecidableEq α]
theorem dd_mem : ∀ (l : List α) (z : α), z ∈ dd l ↔ z ∈ l
  | [], z => by simp [dd]
  | [x], z => by simp [dd]
  | x :: y :: r, z => by
    unfold dd
    have ih := dd_mem (y :: r) z
    by_cases h : x = y
    · rw [if_pos h, ih]; subst h; simp
    · rw [if_neg h, List.mem_cons, ih, List.mem_cons (a := z) (b := x)]
theorem dd_snoc : ∀ (l : List α) (x y : α), dd (l ++ [x] ++ [y]) = if x = y then dd (l ++ [x]) else dd (l ++ [x]) ++ [y]
  | [], x, y => by
    simp only [List.nil_append, List.cons_append, dd]
    split <;> simp_all
  | [a], x, y => by
    simp only [List.nil_append, List.cons_append, dd]
    by_cases h1 : a = x <;> by_cases h2 : x = y <;> simp [h1, h2] <;> simp_all
  | a :: b :: r, x, y => by
    have ih := dd_snoc (b :: r) x y
    simp only [List.cons_append] at ih ⊢
    conv => lhs; unfold dd
    conv => rhs; unfold dd
    rw [ih]
    by_cases h1 : a = b <;> by_cases h2 : x = y <;> simp [h1, h2]
theorem dd_length_le : ∀ l : List α, (dd l).length ≤ l.length
  | [] => Nat.le_refl _
  | [x] => Nat.le_refl _
  | x :: y :: r => by
    unfold dd
    have ih := dd_length_le (y :: r)
    split
    · exact Nat.le_succ_of_le ih
    · rw [List.length_cons, List.length_cons]; omega
theorem dd_sorted (lt : α → α → Prop) (htr : ∀ x y z, lt x y → lt y z → lt x z) (h3 : ∀ x y, x ≠ y → ¬ lt y x → lt x y) : ∀ l : List α, l.Pairwise (fun x y => ¬ lt y x) → (dd l).Pairwise lt
  | [], _ => by simp [dd]
  | [x], _ => by simp [dd]
  | x :: y :: r, h => by
    have ih := dd_sorted lt htr h3 (y :: r) (List.pairwise_cons.1 h).2
    unfold dd
    by_cases he : x = y
    · rw [if_pos he]; exact ih
    · rw [if_neg he]
      refine List.pairwise_cons.2 ⟨fun z hz => ?_, ih⟩
      have hxy : lt x y := h3 x y he ((List.pairwise_cons.1 h).1 y (by simp))
      rcases List.mem_cons.1 ((dd_mem _ _).1 hz) with rfl | hz2
      · exact hxy
      · by_cases hyz : y = z
        · subst hyz; exact hxy
        · have := (List.pairwise_cons.1 (List.pairwise_cons.1 h).2).1 z hz2
          exact htr _ _ _ hxy (h3 y z hyz this)
end
end

section
open Go
set_option linter.unusedSectionVars false

section
variable {α : Type} [DecidableEq α] [Inhabited α]
theorem comp_dd (l : List α) : Lib.compact l = dd l := by
  have key : ∀ m, m ≤ l.length → Lib.compactUpTo l.toArray m = dd (l.take m) := by
    have step : ∀ m, Lib.compactUpTo l.toArray (m + 1) = Lib.compactUpTo l.toArray m ++ (if Lib.keeps l.toArray m then [l.toArray[m]!] else []) := by
      intro m
      unfold Lib.compactUpTo
      rw [List.range_succ, List.filter_append, List.map_append]
      congr 1
      rw [List.filter_cons]
      cases Lib.keeps l.toArray m <;> simp
    intro m
    induction m with
    | zero => intro _; simp [Lib.compactUpTo, dd]
    | succ m ih =>
      intro hm
      rw [step, ih (by omega)]
      obtain ⟨x, hx⟩ : ∃ x, l[m]? = some x := ⟨l[m], by simp [show m < l.length by omega]⟩
      have hx2 : l.toArray[m]! = x := by
        rw [getElem!_def]
        simp [hx]
      have htk : l.take (m + 1) = l.take m ++ [x] := by rw [List.take_add_one, hx]; rfl
      rw [htk, hx2]
      cases m with
      | zero =>
        have : Lib.keeps l.toArray 0 = true := by simp [Lib.keeps]
        rw [this]
        simp [dd]
      | succ m =>
        obtain ⟨y, hy⟩ : ∃ y, l[m]? = some y := ⟨l[m], by simp [show m < l.length by omega]⟩
        have hy2 : l.toArray[m]! = y := by
          rw [getElem!_def]
          simp [hy]
        have htk2 : l.take (m + 1) = l.take m ++ [y] := by rw [List.take_add_one, hy]; rfl
        rw [htk2, dd_snoc]
        have hk : Lib.keeps l.toArray (m + 1) = decide (x ≠ y) := by
          unfold Lib.keeps
          rw [Nat.add_sub_cancel, hx2, hy2]
          simp
        rw [hk]
        by_cases e : y = x
        · subst e; simp
        · rw [if_neg e]
          have : x ≠ y := fun h => e h.symm
          simp [this]
  have := key l.length (Nat.le_refl _)
  rw [List.take_length] at this
  exact this
/-- sorted, without repeats -/
theorem dd_strict (le : α → α → Bool) (anti : ∀ x y, le x y = true → le y x = true → x = y) (tr : ∀ a b c, le a b = true → le b c = true → le a c = true) (tot : ∀ a b, (le a b || le b a) = true) (l : List α) :
    (dd (l.mergeSort le)).Pairwise (fun x y => le x y = true ∧ x ≠ y) := by
  have h1 : ∀ x y z, (le x y = true ∧ x ≠ y) → (le y z = true ∧ y ≠ z) → (le x z = true ∧ x ≠ z) := by
    intro x y z h1 h2
    refine ⟨tr _ _ _ h1.1 h2.1, fun e => ?_⟩
    subst e
    exact h1.2 (anti _ _ h1.1 h2.1)
  have h2 : ∀ x y, x ≠ y → ¬ (le y x = true ∧ y ≠ x) → (le x y = true ∧ x ≠ y) := by
    intro x y hne h
    refine ⟨?_, hne⟩
    have := tot x y
    rw [Bool.or_eq_true] at this
    rcases this with h1 | h1
    · exact h1
    · exact absurd ⟨h1, fun e => hne e.symm⟩ h
  refine dd_sorted _ h1 h2 _ ((List.pairwise_mergeSort tr tot l).imp ?_)
  intro x y h3 h4
  exact h4.2 (anti _ _ h4.1 h3)
theorem canon_of (le : α → α → Bool) (anti : ∀ x y, le x y = true → le y x = true → x = y) (tr : ∀ a b c, le a b = true → le b c = true → le a c = true) (tot : ∀ a b, (le a b || le b a) = true) {ks ss : List α} (hn : ks.Nodup) (hm : ∀ x, x ∈ ks ↔ x ∈ ss) :
    ks.mergeSort le = dd (ss.mergeSort le) := by
  have hs := dd_strict le anti tr tot ss
  have hnd : (dd (ss.mergeSort le)).Nodup := hs.imp (fun h => h.2)
  have hmem : ∀ x, x ∈ dd (ss.mergeSort le) ↔ x ∈ ss := fun x => by rw [dd_mem, List.mem_mergeSort]
  have hp : ks.Perm (dd (ss.mergeSort le)) := (List.perm_ext_iff_of_nodup hn hnd).2 (fun x => by rw [hm, hmem])
  refine List.Perm.eq_of_pairwise (le := fun a b => le a b = true) (fun a b _ _ h1 h2 => anti _ _ h1 h2) (List.pairwise_mergeSort tr tot ks) (hs.imp (fun h => h.1)) ((List.mergeSort_perm ks le).trans hp)
end
def canL (ss : List (List UInt8)) : List (List UInt8) := dd (sortL ss)
def canI (zs : List Int) : List Int := dd (sortI zs)
theorem canL_of {ks ss : List (List UInt8)} (hn : ks.Nodup) (hm : ∀ x, x ∈ ks ↔ x ∈ ss) : sortL ks = canL ss :=
  canon_of _ (fun x y h1 h2 => by simp only [decide_eq_true_eq] at h1 h2; exact List.le_antisymm h1 h2) (fun a b c h1 h2 => by simp only [decide_eq_true_eq] at *; exact List.le_trans h1 h2)
    (fun a b => by simp only [Bool.or_eq_true, decide_eq_true_eq]; exact List.le_total a b) hn hm
theorem canI_of {ks ss : List Int} (hn : ks.Nodup) (hm : ∀ x, x ∈ ks ↔ x ∈ ss) : sortI ks = canI ss :=
  canon_of _ (fun x y h1 h2 => by simp only [decide_eq_true_eq] at h1 h2; omega) (fun a b c h1 h2 => by simp only [decide_eq_true_eq] at *; omega)
    (fun a b => by simp only [Bool.or_eq_true, decide_eq_true_eq]; omega) hn hm
theorem canL_mem (ss : List (List UInt8)) (x : List UInt8) : x ∈ canL ss ↔ x ∈ ss := by unfold canL sortL; rw [dd_mem, List.mem_mergeSort]
theorem canI_mem (ss : List Int) (x : Int) : x ∈ canI ss ↔ x ∈ ss := by unfold canI sortI; rw [dd_mem, List.mem_mergeSort]
theorem canL_len (ss : List (List UInt8)) : (canL ss).length ≤ ss.length := by unfold canL; exact Nat.le_trans (dd_length_le _) (by rw [sortL_len]; exact Nat.le_refl _)
theorem canI_len (ss : List Int) : (canI ss).length ≤ ss.length := by unfold canI; exact Nat.le_trans (dd_length_le _) (by rw [sortI_len]; exact Nat.le_refl _)
end

section
open Go Go.RowKit

theorem sv_inj (x y : List UInt8) (h : sv x = sv y) : x = y := by
  injection h with h
  have := congrArg (fun s => s.data.toList) h
  simpa [strOf] using this
theorem iv_inj (x y : Int) (h : iv x = iv y) : x = y := by injection h
set_option maxRecDepth 100000 in
set_option maxHeartbeats 1000000 in
theorem sortedStr_c {V : Type} {wv : V → Value} (Bm g : Nat) (hs : List (List UInt8 × V)) (w : World) (hBm : Bm < w.heap.size) (hm : w.cell? ⟨Bm, 0, none⟩ = some (.map (some g))) (hmap : MapG sv wv w g hs) (hn : hs.length ≤ 1000000) :
    Calls Tryz.prog 122 #[.func (.func 146) #[] #[.pointer (some ⟨Bm, 0, none⟩)]] w fun e w' => ∃ v ks, e = .returned v ∧ ks.Perm (hs.map Prod.fst) ∧ w'.ownsRow w.heap.size 9 1 v ks.length ((sortL ks).map sv) ∧ Ext w w' := by
  have hc := hid ((callsIn_wide (n := 3)).1 (strBcollect_in Fence.wide 3 trivial trivial rfl (by omega) 146 #[.pointer (some ⟨Bm, 0, none⟩)] trivial (enters_of Tryz.func146 (by kernel_rfl) rfl)
    _ _ hs.length (by omega) (by omega) w (strBseq Fence.wide (3 - 1 - 1) trivial rfl (by omega) Bm g hs w hBm hm hmap sv_inj) (fun ss h => by rw [h.length_eq, List.length_map]; exact Nat.le_refl _)))
  have HN := hid hn
  clear hBm hm hmap hn
  go_enter Tryz.func122, Tryz.ntmps122
  go_wp2_with fail
  refine hc.out.mono ?_
  rintro e wA ⟨v, ks, rfl, hp, ho, hb⟩
  obtain ⟨a, c, rfl, -, -, -⟩ := own_cellsA ho
  have HO := hid ho
  have HB := hid hb
  have HP := hid hp
  have hkl : ks.length < 4611686018427387904 := by rw [hp.length_eq, List.length_map]; have := HN.out; omega
  clear hc ho hb hp
  go_wp2_with fail
  refine (sortStr_c HO.out hkl).mono ?_
  rintro e wB ⟨rfl, ho2, hg2⟩
  have HO2 := hid ho2
  have HE2 := hid (HB.out.grown hg2 (fun q e => (HO.out.lt q e).1))
  clear ho2 hg2
  go_wp2
  go_ret
  exact ⟨_, ks, rfl, HP.out, HO2.out, HE2.out⟩
set_option maxRecDepth 100000 in
set_option maxHeartbeats 1000000 in
theorem sortedInt_c {V : Type} {wv : V → Value} (Bm g : Nat) (hs : List (Int × V)) (w : World) (hBm : Bm < w.heap.size) (hm : w.cell? ⟨Bm, 0, none⟩ = some (.map (some g))) (hmap : MapG iv wv w g hs) (hn : hs.length ≤ 1000000) :
    Calls Tryz.prog 127 #[.func (.func 148) #[] #[.pointer (some ⟨Bm, 0, none⟩)]] w fun e w' => ∃ v ks, e = .returned v ∧ ks.Perm (hs.map Prod.fst) ∧ w'.ownsRow w.heap.size 3 1 v ks.length ((sortI ks).map iv) ∧ Ext w w' := by
  have hc := hid ((callsIn_wide (n := 3)).1 (intBcollect_in Fence.wide 3 trivial trivial rfl (by omega) 148 #[.pointer (some ⟨Bm, 0, none⟩)] trivial (enters_of Tryz.func148 (by kernel_rfl) rfl)
    _ _ hs.length (by omega) (by omega) w (intBseq Fence.wide (3 - 1 - 1) trivial rfl (by omega) Bm g hs w hBm hm hmap iv_inj) (fun ss h => by rw [h.length_eq, List.length_map]; exact Nat.le_refl _)))
  have HN := hid hn
  clear hBm hm hmap hn
  go_enter Tryz.func127, Tryz.ntmps127
  go_wp2_with fail
  refine hc.out.mono ?_
  rintro e wA ⟨v, ks, rfl, hp, ho, hb⟩
  obtain ⟨a, c, rfl, -, -, -⟩ := own_cellsA ho
  have HO := hid ho
  have HB := hid hb
  have HP := hid hp
  have hkl : ks.length < 4611686018427387904 := by rw [hp.length_eq, List.length_map]; have := HN.out; omega
  clear hc ho hb hp
  go_wp2_with fail
  refine (sortInt_c HO.out hkl).mono ?_
  rintro e wB ⟨rfl, ho2, hg2⟩
  have HO2 := hid ho2
  have HE2 := hid (HB.out.grown hg2 (fun q e => (HO.out.lt q e).1))
  clear ho2 hg2
  go_wp2
  go_ret
  exact ⟨_, ks, rfl, HP.out, HO2.out, HE2.out⟩
end

section
open Go Go.RowKit Go.Maps Go.MapKept Go.WideShapes
set_option linter.unusedSectionVars false

inductive Yes where
  | yes
def tv : Yes → Value := fun _ => .bool true
theorem tv_eq (y : Yes) : tv y = .bool true := rfl
def yesL {K : Type} (ks : List K) : List (K × Yes) := ks.map fun k => (k, .yes)
theorem yesL_keys {K : Type} (ks : List K) : (yesL ks).map Prod.fst = ks := by unfold yesL; rw [List.map_map]; simp [Function.comp_def]
theorem yesL_of {K : Type} : ∀ hs : List (K × Yes), hs = yesL (hs.map Prod.fst)
  | [] => rfl
  | (k, .yes) :: hs => by
    have := yesL_of hs
    unfold yesL at this ⊢
    rw [List.map_cons, List.map_cons, ← this]
structure SetOf {K : Type} (kv : K → Value) (good : K → Prop) (w : World) (g : Nat) (ks : List K) : Prop where
  map : MapG kv tv w g (yesL ks)
  ents : EntsG good (yesL ks)
section
variable {P : Program} {K : Type} [DecidableEq K] {kv : K → Value} {good : K → Prop} {w w' : World} {g : Nat} {ks : List K} {x : K}
theorem SetOf.nodup (h : SetOf kv good w g ks) : ks.Nodup := by have := h.ents.nodup; rwa [yesL_keys] at this
theorem SetOf.ext (h : SetOf kv good w g ks) (e : Ext w w') : SetOf kv good w' g ks := ⟨h.map.ext e, h.ents⟩
theorem SetOf.upd {q : Nat} (h : SetOf kv good w g ks) (u : Upd w q w') (hq : g ≠ q) : SetOf kv good w' g ks := ⟨h.map.upd u hq, h.ents⟩
theorem SetOf.lt (h : SetOf kv good w g ks) : g < w.heap.size := h.map.lt
theorem SetOf.new (w : World) : SetOf kv good (w.alloc (.map #[] 0)) w.heap.size [] := ⟨MapG.new w, EntsG.nil⟩
theorem SetOf.add {t k e : TypeId} (KV : KeyV P k kv good) (ht : P.underlying t = some (.map k e)) (h : SetOf kv good w g ks) (hx : good x) :
    ∃ w' ks', (Instr.mapUpdate t (.map (some g)) (kv x) (.bool true)).run P w = .ok () w' ∧ Upd w g w' ∧ SetOf kv good w' g ks' ∧ (∀ y, y ∈ ks' ↔ y = x ∨ y ∈ ks) ∧ ks'.length ≤ ks.length + 1 := by
  obtain ⟨w', hr, hu, hm⟩ := run_setG KV ht (v := Yes.yes) h.map h.ents hx
  refine ⟨w', (setG (yesL ks) x .yes).map Prod.fst, hr, hu, ⟨by rw [← yesL_of]; exact hm, by rw [← yesL_of]; exact h.ents.set _ hx⟩, fun y => ?_, ?_⟩
  · have hmem : ∀ y, y ∈ (setG (yesL ks) x Yes.yes).map Prod.fst ↔ (y, Yes.yes) ∈ setG (yesL ks) x .yes := by
      intro y
      rw [List.mem_map]
      constructor
      · rintro ⟨⟨a, b⟩, hp, rfl⟩
        cases b
        exact hp
      · intro hp
        exact ⟨_, hp, rfl⟩
    rw [hmem, mem_setG h.ents.nodup]
    constructor
    · rintro (h1 | ⟨h1, h2⟩)
      · exact .inl (by injection h1)
      · exact .inr (by unfold yesL at h1; simpa using h1)
    · rintro (rfl | h1)
      · exact .inl rfl
      · by_cases e : y = x
        · subst e; exact .inl rfl
        · exact .inr ⟨by unfold yesL; simpa using h1, e⟩
  · rw [List.length_map]
    unfold setG
    cases ixG x (yesL ks) with
    | none => simp [yesL]
    | some i => simp [yesL]
end
/-- a step on a map that is known whole -/
theorem wpl_updG {P : Program} {ops : Array Oper} {rest : List Oper} {o : Oper} {a : Act} {w w' : World} {Q : Exit → Act → World → Prop} (hgd : o.guard = none) (t : TypeId) (m x y : Operand) (ho : o.op = .mapUpdate t m x y) {vm vx vy : Value} (hm : a.eval m = vm) (hx : a.eval x = vx) (hy : a.eval y = vy)
    (hr : (Instr.mapUpdate t vm vx vy).run P w = .ok () w') (h : wpList P ops Q rest (a.put o.dst undef) w') : wpList P ops Q (o :: rest) a w := by
  refine wpList_plain hgd fun K hK => ?_
  unfold Oper.wp execOp
  simp only [ho, hm, hx, hy, Sem.run_bind, hr, Result.andThen_ok, Sem.run_pure]
  exact hK _ _ h
def goodS (k : List UInt8) : Prop := k.length ≤ 140737488355328
theorem keyS : KeyV Tryz.prog 9 sv goodS where
  keyed := string_keyed Tryz.underlying9
  key x h := ⟨_, WideMaps.keyOf_string_mk Tryz.underlying9 (by unfold goodS at h; unfold maxLen; rw [show (strOf x).size = x.length from by show x.toArray.size = _; simp]; omega)⟩
  inj := sv_inj
def goodI (z : Int) : Prop := (Lit.int .i64 z).wf = true
theorem keyI : KeyV Tryz.prog 3 iv goodI where
  keyed := int_keyed Tryz.underlying3
  key x h := ⟨_, keyOf_int_mk Tryz.underlying3 h⟩
  inj := iv_inj

theorem closDel_c (s : List UInt8) (w : World) : Calls Tryz.prog 126 #[sv s, .bool true] w fun e w' => e = .returned (.bool false) ∧ w = w' := by
  go_enter Tryz.func126, Tryz.ntmps126
  go_wp2
  go_ret
  exact ⟨rfl, rfl⟩
set_option maxRecDepth 100000 in
set_option maxHeartbeats 1000000 in
theorem deleteNone_c (g : Nat) (ks : List (List UInt8)) (w : World) (hs : SetOf sv goodS w g ks) :
    Calls Tryz.prog 125 #[.map (some g), .func (.func 126) #[] #[]] w fun e w' => e = .returned (.tuple #[]) ∧ Ext w w' := by
  have HS := hid hs
  clear hs
  go_enter Tryz.func125, Tryz.ntmps125
  go_wp2_with (at_range; refine wpl_rangeG rfl 142 9 4 Tryz.underlying142 _ rfl rfl HS.out.map ?_)
  intro wR hr er hsz
  have HR := hid hr
  have ER := hid er
  have hgl : g < w.heap.size := HS.out.lt
  obtain ⟨r, hrr⟩ : ∃ r, w.heap.size = r := ⟨_, rfl⟩
  have HRR := hid hrr
  rw [hrr] at HR hgl hsz ⊢
  clear hr er hrr
  go_wp2_with fail
  go_loopw [4] (fun _ wr => ∃ lf, RngG sv tv wr g r (yesL ks) lf ∧ Ext w wr) (fun _ wr => wr.rangeLeft g r)
  case atStart => exact ⟨_, HR.out, ER.out⟩
  case round =>
    obtain ⟨lf, hrg, e1⟩ := hrel
    have HRG := hid hrg
    have E1 := hid e1
    have hms := hrg.leftG
    clear hrg e1
    go_wp2_with (at_next; refine wpl_nextG rfl sv_inj _ rfl rfl HRG.out ?_ ?_)
    · intro hlf
      go_wp2_with fail
      go_end0
      exact ⟨rfl, E1.out⟩
    · intro x v w2 lf2 _ _ hl2 hrg2 u2 hen
      have HRG2 := hid hrg2
      have E2 : Hid (Ext w w2) := hid (u2.ext E1.out (by rw [HRR.out]; exact Nat.le_refl _))
      rw [tv_eq] at hen ⊢
      clear hrg2 u2
      go_wp2_with fail
      refine (closDel_c x _).mono ?_
      rintro e w3 ⟨rfl, rfl⟩
      go_wp2_with fail
      go_roundw
      case rel => exact ⟨lf2, HRG2.out, E2.out⟩
      case measure => rw [HRG2.out.leftG, hms]; omega
end

section
open Go Go.RowKit Go.Maps Go.MapKept Go.WideShapes

/-- block g is a map whose keys are ks (as they came), each with 'true' -/
def SetAt (w : World) (g : Nat) (ks : List Value) : Prop := ∃ es clock, w.heap[g]? = some (.map es clock) ∧ es.toList.map MapEntry.key = ks ∧ ∀ x ∈ es.toList, x.val = .bool true
def Keys (P : Program) (k : TypeId) (ks : List Value) : Prop := ∀ v ∈ ks, ∃ l, keyOf P k v = some l

theorem SetAt.lt {w : World} {g : Nat} {ks : List Value} (h : SetAt w g ks) : g < w.heap.size := by
  obtain ⟨es, c, hb, _⟩ := h
  exact (Array.getElem?_eq_some_iff.1 hb).1
theorem SetAt.new (w : World) : SetAt (w.alloc (.map #[] 0)) w.heap.size [] := ⟨#[], 0, by show (w.heap.push _)[w.heap.size]? = _; simp, rfl, by simp⟩
theorem SetAt.ext {w w' : World} {g : Nat} {ks : List Value} (h : SetAt w g ks) (e : Ext w w') : SetAt w' g ks := by
  obtain ⟨es, c, hb, h1, h2⟩ := h
  exact ⟨es, c, (e.block g (Array.getElem?_eq_some_iff.1 hb).1).trans hb, h1, h2⟩

section
variable {P : Program} {t k e : TypeId} {w : World} {g : Nat} {ks : List Value} {key : Value} {kl : Lit}
theorem run_lookup_set (K : Keyed P k) (ht : P.underlying t = some (.map k e)) (hz : (zeroValue e).run P w = .ok (.bool false) w) (h : SetAt w g ks) (hk : Keys P k ks) (hkey : keyOf P k key = some kl) :
    ∃ b : Bool, (Instr.lookup t (.map (some g)) key false).run P w = .ok (.bool b) w ∧ (b = true ↔ key ∈ ks) := by
  obtain ⟨es, c, hb, rfl, hv⟩ := h
  have hes : ∀ x ∈ es.toList, ∃ l, keyOf P k x.key = some l := fun x hx => hk _ (List.mem_map.2 ⟨x, hx, rfl⟩)
  rcases K.find w hkey es.toList hes with ⟨h1, h2⟩ | ⟨j, e0, h1, h2, h3⟩
  · refine ⟨false, by simp [Instr.lookup, run_underlying ht, MapKept.run_getObj_map hb, K.check w _ hkey, h1, hz, Result.andThen], ?_⟩
    constructor
    · intro h; cases h
    · intro hm
      obtain ⟨x, hx, he⟩ := List.mem_map.1 hm
      exact absurd he (h2 x hx)
  · have hm0 : e0 ∈ es.toList := List.mem_of_getElem? h2
    refine ⟨true, by simp [Instr.lookup, run_underlying ht, MapKept.run_getObj_map hb, K.check w _ hkey, h1, hv e0 hm0, Result.andThen], ?_⟩
    exact ⟨fun _ => List.mem_map.2 ⟨e0, hm0, h3⟩, fun _ => rfl⟩

theorem run_update_set (K : Keyed P k) (ht : P.underlying t = some (.map k e)) (h : SetAt w g ks) (hk : Keys P k ks) (hkey : keyOf P k key = some kl) :
    ∃ w' ks', (Instr.mapUpdate t (.map (some g)) key (.bool true)).run P w = .ok () w' ∧ Upd w g w' ∧ SetAt w' g ks' ∧ ((key ∈ ks ∧ ks' = ks) ∨ (key ∉ ks ∧ ks' = ks ++ [key])) := by
  obtain ⟨es, c, hb, rfl, hv⟩ := h
  have hg : g < w.heap.size := (Array.getElem?_eq_some_iff.1 hb).1
  have hes : ∀ x ∈ es.toList, ∃ l, keyOf P k x.key = some l := fun x hx => hk _ (List.mem_map.2 ⟨x, hx, rfl⟩)
  have hu : ∀ o : Obj, Upd w g { w with heap := w.heap.setIfInBounds g o } := fun o => ⟨rfl, rfl, rfl, by simp, fun j hj => by
    show (w.heap.setIfInBounds g o)[j]? = _
    rw [Array.getElem?_setIfInBounds_ne (Ne.symm hj)]⟩
  have hb2 : ∀ o : Obj, ({ w with heap := w.heap.setIfInBounds g o } : World).heap[g]? = some o := fun o => by
    show (w.heap.setIfInBounds g o)[g]? = _
    rw [Array.getElem?_setIfInBounds_self_of_lt hg]
  rcases K.find w hkey es.toList hes with ⟨h1, h2⟩ | ⟨j, e0, h1, h2, h3⟩
  · refine ⟨_, _, by simp [Instr.mapUpdate, run_underlying ht, MapKept.run_getObj_map hb, K.check w _ hkey, h1, MapKept.run_setObj_map _ hb, Result.andThen]; rfl, hu _, ⟨_, _, hb2 _, rfl, ?_⟩, .inr ⟨?_, ?_⟩⟩
    · intro x hx
      simp only [Array.toList_push, List.mem_append, List.mem_singleton] at hx
      rcases hx with hx | rfl
      · exact hv x hx
      · rfl
    · intro hm
      obtain ⟨x, hx, he⟩ := List.mem_map.1 hm
      exact h2 x hx he
    · simp
  · have hj : es[j]? = some e0 := by simpa using h2
    have hm0 : e0 ∈ es.toList := List.mem_of_getElem? h2
    refine ⟨_, _, by simp [Instr.mapUpdate, run_underlying ht, MapKept.run_getObj_map hb, K.check w _ hkey, h1, hj, h3, K.stays w hkey, MapKept.run_setObj_map _ hb, Result.andThen]; rfl, hu _, ⟨_, _, hb2 _, rfl, ?_⟩, .inl ⟨List.mem_map.2 ⟨e0, hm0, h3⟩, ?_⟩⟩
    · intro x hx
      rcases MapFrom.mem_modify hx with hx | ⟨e', _, rfl⟩
      · exact hv x hx
      · rfl
    · rw [Array.toList_modify, ChangeMaps.modify_eq_set _ _ _ _ h2, List.map_set]
      apply List.ext_getElem?
      intro i
      rw [List.getElem?_set]
      split
      · next hi =>
        subst hi
        have hjl : j < (es.toList.map MapEntry.key).length := by rw [List.length_map]; exact (List.getElem?_eq_some_iff.1 h2).1
        rw [if_pos hjl, List.getElem?_map, h2]
        simp [h3]
      · rfl

theorem run_makeMapU (t : TypeId) (w : World) : (Instr.makeMap t none).run P w = .ok (.map (some w.heap.size)) (w.alloc (.map #[] 0)) := by
  simp [Instr.makeMap, newObj, Sem.run]
theorem run_len_set {ty : TypeId} (ht : P.underlying t = some (.map k e)) (h : SetAt w g ks) : (Builtin.len_ #[t] ty #[.map (some g)]).run P w = .ok (goInt ks.length) w := by
  obtain ⟨es, c, hb, rfl, hv⟩ := h
  simp [Builtin.len_, run_underlying ht, MapKept.run_getObj_map hb]
end
end

section
open Go Go.RowKit

theorem agg_id : AggT Tryz.prog 35 16 := ⟨⟨_, Tryz.underlying35, rfl⟩, by kernel_rfl⟩
/-- an octet of a name -/
def nameOct (c : UInt8) : Bool := (decide (97 ≤ c.toNat) && decide (c.toNat ≤ 122)) || (decide (48 ≤ c.toNat) && decide (c.toNat ≤ 57)) || c.toNat == 45 || c.toNat == 46 || c.toNat == 95
def isNameL (l : List UInt8) : Bool := l.all nameOct && !(l.isEmpty) && decide (l.length ≤ 32)
end

section
open Go Go.RowKit

section
variable {P : Program} {ops : Array Oper} {Q : Exit → Act → World → Prop} {S : World → Prop}

/-- K where the way goes on, Q elsewhere -/
def onNormal (K : Act → World → Prop) (Q : Exit → Act → World → Prop) : Exit → Act → World → Prop
  | .normal, a, w => K a w
  | e, a, w => Q e a w

theorem letsOut_onNormal {K : Act → World → Prop} (h : LetsOut (onNormal K Q)) : LetsOut Q := h

theorem oper_wp_onNormal {o : Oper} {a : Act} {w : World} {K K' : Act → World → Prop} (h : o.wp P a w K (onNormal K' Q)) : o.wp P a w K Q := by
  unfold Oper.wp at *
  generalize (execOp a.eval o).run P w = r at *
  cases r with
  | ok n w' =>
    cases n
    case enter f args =>
      refine Calls.mono h fun e w'' he => ?_
      cases e with
      | returned u => exact he
      | panicked c => exact he
      | outgrown => exact letsOut_onNormal he
    all_goals exact h
  | halt x w' =>
    cases x <;> first | exact h | exact h.elim

theorem wpOp_of_list {i : Nat} {o : Oper} {K : Act → World → Prop} {a : Act} {w : World} (ho : ops[i]? = some o) (h : wpList P ops (onNormal K Q) [o] a w) : wpOp P ops Q i K a w := by
  unfold wpOp
  simp only [ho]
  unfold wpList at h
  split
  · rename_i hw
    rw [if_pos hw] at h
    rcases h with h | ⟨h1, h2⟩
    · exact .inl (oper_wp_onNormal h)
    · exact .inr ⟨h1, letsOut_onNormal h2⟩
  · rename_i hw
    rw [if_neg hw] at h
    exact h

theorem op_of_drop {i : Nat} {o : Oper} {r : List Oper} (h : ops.toList.drop i = o :: r) : ops[i]? = some o := by
  have h1 := List.getElem?_drop (xs := ops.toList) (i := i) (j := 0)
  rw [h, Nat.add_zero] at h1
  simpa using h1.symm

/-- one operation is taken first -/
theorem held_take (i : Nat) {oi : Oper} {r : List Oper} {v : Value} {fuel : Nat} {listed : Array Bool} {a : Act} {w : World} (hi : ops.toList.drop i = oi :: r)
    (hs : Region.noSelect ops = true) (hf : Region.free .any ops listed i = true) (hr : (Region.ready .any ops listed).contains i = true)
    (hQ : ∀ c a w, Q (.panic c) (a.put oi.dst v) w → Q (.panic c) a w) (hy : YieldsIf P ops S oi v a) (hS : S w)
    (h : wpAnyH P .any ops Q S fuel (listed.setIfInBounds i true) (a.put oi.dst v) w) : wpAnyH P .any ops Q S (fuel + 1) listed a w :=
  wpAnyH_take (op_of_drop hi) hs hf hr hQ hy hS h

/-- just one operation may come up -/
theorem held_one {i : Nat} {o : Oper} {r : List Oper} {f : Nat} {listed : Array Bool} {a : Act} {w : World} (hr : Region.ready .any ops listed = [i]) (ho : ops.toList.drop i = o :: r)
    (h : ∀ Q' : Exit → Act → World → Prop, (∀ a w, S w → wpAnyH P .any ops Q S f (listed.setIfInBounds i true) a w → Q' .normal a w) → wpList P ops Q' [o] a w) :
    wpAnyH P .any ops Q S (f + 1) listed a w :=
  wpAnyH_all hr (by simp) fun j hj => by
    obtain rfl : j = i := by simpa using hj
    exact wpOp_of_list (op_of_drop ho) (h _ fun a w hS hW => ⟨hS, hW⟩)

def ptrAt (g : Nat) : Value := .pointer (some ⟨g, 0, none⟩)

/-- number A makes a variable (vs, of type T) at whatever time; the other operations go one by one; D is what is known of the world -/
def Fl (P : Program) (ops : Array Oper) (Q : Exit → Act → World → Prop) (S : World → Prop) (B A : Nat) (vs : List Value) (T : TypeId) (f : Nat) (listed : Array Bool) (α : Value → Act) (D : World → Prop) : Prop :=
  (∀ w w', D w → Ext w w' → D w') → (∀ w, D w → S w) → (∀ w, D w → B ≤ w.heap.size) →
  (∀ x w, D w → wpAnyH P .any ops Q S (f + 1) listed (α x) w) ∧ ∀ g w, D w → B ≤ g → Blk w g vs T → wpAnyH P .any ops Q S f (listed.setIfInBounds A true) (α (ptrAt g)) w

theorem Fl_start {B A d : Nat} {vs : List Value} {T : TypeId} {f : Nat} {listed : Array Bool} {a : Act} {w : World} {D : World → Prop} (y : Value) (hy : a.put (some d) y = a) (hDx : ∀ w w', D w → Ext w w' → D w') (hDS : ∀ w, D w → S w) (hDB : ∀ w, D w → B ≤ w.heap.size) (hD : D w)
    (h : Fl P ops Q S B A vs T f listed (fun x => a.put (some d) x) D) : wpAnyH P .any ops Q S (f + 1) listed a w := by
  have := (h hDx hDS hDB).1 y w hD
  simp only [hy] at this
  exact this

theorem Fl_take {B A : Nat} {vs : List Value} {T : TypeId} {f : Nat} {listed : Array Bool} {α : Value → Act} {D : World → Prop} (i : Nat) {oi : Oper} {r : List Oper} {v : Value} (hi : ops.toList.drop i = oi :: r) (hs : Region.noSelect ops = true)
    (hf : Region.free .any ops listed i = true) (hf' : Region.free .any ops (listed.setIfInBounds A true) i = true)
    (hr : (Region.ready .any ops listed).contains i = true) (hr' : (Region.ready .any ops (listed.setIfInBounds A true)).contains i = true) (hne : (i == A) = false)
    (hQ : ∀ c a w, Q (.panic c) (a.put oi.dst v) w → Q (.panic c) a w) (hy : ∀ x, YieldsIf P ops S oi v (α x))
    (h : Fl P ops Q S B A vs T f (listed.setIfInBounds i true) (fun x => (α x).put oi.dst v) D) : Fl P ops Q S B A vs T (f + 1) listed α D := by
  intro hDx hDS hDB
  have hne' : i ≠ A := by simpa using hne
  have h := h hDx hDS hDB
  refine ⟨fun x w hD => wpAnyH_take (op_of_drop hi) hs hf hr hQ (hy x) (hDS w hD) (h.1 x w hD), fun g w hD hB hb => wpAnyH_take (op_of_drop hi) hs hf' hr' hQ (hy _) (hDS w hD) ?_⟩
  have := h.2 g w hD hB hb
  rwa [Array.setIfInBounds_comm _ _ hne'] at this

theorem Fl_step {B A : Nat} {vs : List Value} {T : TypeId} {f : Nat} {listed : Array Bool} {α : Value → Act} {D : World → Prop} (i : Nat) {o oA : Oper} {r rA : List Oper} {d : Tmp} {β : Type} (val : β → Value) (Φ : β → World → Prop)
    (ho' : ops.toList.drop i = o :: r) (hA' : ops.toList.drop A = oA :: rA) (hAd : oA.dst = some d) (hAg : oA.guard = none) (hAr : ∀ ρ w, (execOp ρ oA).run P w = .ok (.value (ptrAt w.heap.size)) (w.alloc (.cells vs.toArray T)))
    (hr : ((Region.ready .any ops listed).all fun j => j == i || j == A) = true) (hrn : (Region.ready .any ops listed).isEmpty = false) (hr' : Region.ready .any ops (listed.setIfInBounds A true) = [i]) (hne : (i == A) = false)
    (hα : ∀ x y, (α x).put (some d) y = α y) (hΦ : ∀ b w w', Φ b w → Ext w w' → Φ b w')
    (hstep : ∀ x w, D w → ∀ Q' : Exit → Act → World → Prop, (∀ b w', Ext w w' → Φ b w' → Q' .normal ((α x).put o.dst (val b)) w') → wpList P ops Q' [o] (α x) w)
    (h : ∀ b, Fl P ops Q S B A vs T f (listed.setIfInBounds i true) (fun x => (α x).put o.dst (val b)) (fun w => D w ∧ Φ b w)) : Fl P ops Q S B A vs T (f + 1) listed α D := by
  have ho := op_of_drop ho'
  have hA := op_of_drop hA'
  intro hD hDS hDB
  have h := fun b => h b (fun w w' hh he => ⟨hD w w' hh.1 he, hΦ b w w' hh.2 he⟩) (fun w hh => hDS w hh.1) (fun w hh => hDB w hh.1)
  have hne' : i ≠ A := by simpa using hne
  have second : ∀ g w, D w → B ≤ g → Blk w g vs T → wpAnyH P .any ops Q S (f + 1) (listed.setIfInBounds A true) (α (ptrAt g)) w := by
    intro g w hDw hB hb
    refine wpAnyH_all hr' (by simp) fun j hj => ?_
    obtain rfl : j = i := by simpa using hj
    refine wpOp_of_list ho (hstep _ w hDw _ fun b w' he hΦ => ?_)
    have := (h b).2 g w' ⟨hD _ _ hDw he, hΦ⟩ hB (hb.ext he)
    rw [Array.setIfInBounds_comm _ _ hne'] at this
    exact ⟨hDS _ (hD _ _ hDw he), this⟩
  refine ⟨fun x w hDw => ?_, second⟩
  refine wpAnyH_all (rs := Region.ready .any ops listed) rfl (fun e => by rw [e] at hrn; cases hrn) fun j hj => ?_
  have hj' := List.all_eq_true.1 hr j hj
  simp only [Bool.or_eq_true, beq_iff_eq] at hj'
  rcases hj' with rfl | rfl
  · refine wpOp_of_list ho (hstep _ w hDw _ fun b w' he hΦ => ?_)
    exact ⟨hDS _ (hD _ _ hDw he), (h b).1 x w' ⟨hD _ _ hDw he, hΦ⟩⟩
  · refine wpOp_of_list hA ?_
    refine wpList_plain hAg fun K hK => ?_
    unfold Oper.wp
    rw [hAr, Oper.upon_value, hAd]
    refine hK _ _ ?_
    have he : Ext w (w.alloc (.cells vs.toArray T)) := (Ext.refl w).alloc _
    rw [hα]
    exact ⟨hDS _ (hD _ _ hDw he), second _ _ (hD _ _ hDw he) (hDB _ hDw) (Blk.alloc_new _ _ _)⟩

theorem Fl_end {B A : Nat} {vs : List Value} {T : TypeId} {f : Nat} {listed : Array Bool} {α : Value → Act} {D : World → Prop} {oA : Oper} {rA : List Oper} {d : Tmp}
    (hA' : ops.toList.drop A = oA :: rA) (hAd : oA.dst = some d) (hAg : oA.guard = none) (hAr : ∀ ρ w, (execOp ρ oA).run P w = .ok (.value (ptrAt w.heap.size)) (w.alloc (.cells vs.toArray T)))
    (hr : Region.ready .any ops listed = [A]) (hα : ∀ x y, (α x).put (some d) y = α y)
    (h : ∀ g w, D w → B ≤ g → Blk w g vs T → wpAnyH P .any ops Q S f (listed.setIfInBounds A true) (α (ptrAt g)) w) : Fl P ops Q S B A vs T f listed α D := by
  have hA := op_of_drop hA'
  intro hD hDS hDB
  refine ⟨fun x w hDw => ?_, h⟩
  refine wpAnyH_all hr (by simp) fun j hj => ?_
  obtain rfl : j = A := by simpa using hj
  refine wpOp_of_list hA ?_
  refine wpList_plain hAg fun K hK => ?_
  unfold Oper.wp
  rw [hAr, Oper.upon_value, hAd]
  refine hK _ _ ?_
  have he : Ext w (w.alloc (.cells vs.toArray T)) := (Ext.refl w).alloc _
  rw [hα]
  exact ⟨hDS _ (hD _ _ hDw he), h _ _ (hD _ _ hDw he) (hDB _ hDw) (Blk.alloc_new _ _ _)⟩

/-- these blocks are as they were in W -/
def Kept (W : World) (L : List Nat) (w' : World) : Prop := W.heap.size ≤ w'.heap.size ∧ (∀ g ∈ L, g < W.heap.size) ∧ ∀ g ∈ L, w'.heap[g]? = W.heap[g]?
theorem Kept.ext {W w w' : World} {L : List Nat} (h : Kept W L w) (e : Ext w w') : Kept W L w' :=
  ⟨Nat.le_trans h.1 e.size, h.2.1, fun g hg => (e.block g (Nat.lt_of_lt_of_le (h.2.1 g hg) h.1)).trans (h.2.2 g hg)⟩
theorem Kept.upd {W w w' : World} {L : List Nat} {r : Nat} (h : Kept W L w) (u : Upd w r w') (hr : r ∉ L) : Kept W L w' :=
  ⟨by rw [u.size]; exact h.1, h.2.1, fun g hg => (u.block g (fun e => hr (e ▸ hg))).trans (h.2.2 g hg)⟩
theorem Kept.blk {W w : World} {L : List Nat} {g : Nat} {vs : List Value} {T : TypeId} (h : Kept W L w) (hb : Blk W g vs T) (hg : g ∈ L) : Blk w g vs T := by
  unfold Blk at *; rw [h.2.2 g hg]; exact hb
theorem Kept.none (W : World) : Kept W [] W := ⟨Nat.le_refl _, by simp, by simp⟩
theorem Kept.one {W : World} {a : Nat} (ha : a < W.heap.size) : Kept W [a] W := ⟨Nat.le_refl _, by simpa using ha, fun _ _ => rfl⟩
theorem Kept.two {W : World} {a b : Nat} (ha : a < W.heap.size) (hb : b < W.heap.size) : Kept W [a, b] W := ⟨Nat.le_refl _, by simpa using ⟨ha, hb⟩, fun _ _ => rfl⟩
theorem Kept.three {W : World} {a b c : Nat} (ha : a < W.heap.size) (hb : b < W.heap.size) (hc : c < W.heap.size) : Kept W [a, b, c] W := ⟨Nat.le_refl _, by simpa using ⟨ha, hb, hc⟩, fun _ _ => rfl⟩
theorem Kept.four {W : World} {a b c d : Nat} (ha : a < W.heap.size) (hb : b < W.heap.size) (hc : c < W.heap.size) (hd : d < W.heap.size) : Kept W [a, b, c, d] W := ⟨Nat.le_refl _, by simpa using ⟨ha, hb, hc, hd⟩, fun _ _ => rfl⟩

theorem Kept.grown {W w w' : World} {L : List Nat} {row : Option Nat} (h : Kept W L w) (k : w.grownBy w' row) (hr : ∀ g, row = some g → W.heap.size ≤ g) : Kept W L w' :=
  ⟨Nat.le_trans h.1 k.size, h.2.1, fun g hg => (k.block g (Nat.lt_of_lt_of_le (h.2.1 g hg) h.1) (fun e => by have h1 := hr g e.symm; have h2 := h.2.1 g hg; omega)).trans (h.2.2 g hg)⟩

/-- a class of worlds: nothing that was in w0 has turned; the blocks of L are as in W; there are rooms R -/
structure Cls (w0 W : World) (L : List Nat) (R : List (Nat × Nat × TypeId)) (w : World) : Prop where
  base : Ext w0 w
  kept : Kept W L w
  room : ∀ x ∈ R, x.1 < W.heap.size ∧ ∃ vs, vs.length = x.2.1 ∧ Blk w x.1 vs x.2.2
theorem Cls.ext {w0 W w w' : World} {L : List Nat} {R : List (Nat × Nat × TypeId)} (h : Cls w0 W L R w) (e : Ext w w') : Cls w0 W L R w' :=
  ⟨h.base.ext e, h.kept.ext e, fun x hx => ⟨(h.room x hx).1, by obtain ⟨_, vs, h1, h2⟩ := h.room x hx; exact ⟨vs, h1, h2.ext e⟩⟩⟩
theorem Cls.grown {w0 W w w' : World} {L : List Nat} {R : List (Nat × Nat × TypeId)} {row : Option Nat} (h : Cls w0 W L R w) (k : w.grownBy w' row) (hr : ∀ g, row = some g → W.heap.size ≤ g) (h0 : w0.heap.size ≤ W.heap.size) : Cls w0 W L R w' :=
  ⟨h.base.grown k (fun g hg => Nat.le_trans h0 (hr g hg)), h.kept.grown k hr, fun x hx => ⟨(h.room x hx).1, by
    obtain ⟨h3, vs, h1, h2⟩ := h.room x hx
    exact ⟨vs, h1, h2.grown k (fun e => by have := hr _ e.symm; omega)⟩⟩⟩
theorem Cls.upd {w0 W w w' : World} {L : List Nat} {R : List (Nat × Nat × TypeId)} {g : Nat} (h : Cls w0 W L R w) (u : Upd w g w') (hg : W.heap.size ≤ g) (h0 : w0.heap.size ≤ W.heap.size) : Cls w0 W L R w' :=
  ⟨u.ext h.base (by omega), h.kept.upd u (fun hm => by have := h.kept.2.1 g hm; omega), fun x hx => ⟨(h.room x hx).1, by
    obtain ⟨h3, vs, h1, h2⟩ := h.room x hx
    exact ⟨vs, h1, h2.upd u (by omega)⟩⟩⟩
theorem Cls.store {w0 W w w' : World} {L : List Nat} {R : List (Nat × Nat × TypeId)} {r : Nat} {xs : List Value} {T : TypeId} (h : Cls w0 W L R w) (u : Upd w r w') (hb : Blk w' r xs T) (hu : ∀ x ∈ R, x.1 = r → x = (r, xs.length, T)) (hr : w0.heap.size ≤ r) (hL : r ∉ L) : Cls w0 W L R w' :=
  ⟨u.ext h.base hr, h.kept.upd u hL, fun x hx => ⟨(h.room x hx).1, by
    obtain ⟨h3, vs, h1, h2⟩ := h.room x hx
    by_cases e : x.1 = r
    · rw [hu x hx e]; exact ⟨xs, rfl, hb⟩
    · exact ⟨vs, h1, h2.upd u e⟩⟩⟩
theorem Cls.blk {w0 W w : World} {L : List Nat} {R : List (Nat × Nat × TypeId)} {g : Nat} {vs : List Value} {T : TypeId} (h : Cls w0 W L R w) (hb : Blk W g vs T) (hg : g ∈ L) : Blk w g vs T := h.kept.blk hb hg
theorem Cls.at_room {w0 W w : World} {L : List Nat} {r n : Nat} {T : TypeId} {R : List (Nat × Nat × TypeId)} (h : Cls w0 W L R w) (hr : (r, n, T) ∈ R) : ∃ vs, vs.length = n ∧ Blk w r vs T := (h.room _ hr).2
theorem Cls.no_room {w0 W : World} {L : List Nat} (h : Ext w0 W) (k : Kept W L W) : Cls w0 W L [] W := ⟨h, k, by simp⟩
theorem Cls.one_room {w0 W : World} {L : List Nat} {r n : Nat} {vs : List Value} {T : TypeId} (h : Ext w0 W) (k : Kept W L W) (hb : Blk W r vs T) (hn : vs.length = n) : Cls w0 W L [(r, n, T)] W :=
  ⟨h, k, by simp only [List.mem_singleton]; rintro x rfl; exact ⟨hb.lt, vs, hn, hb⟩⟩

/-- a slice's cells -/
def SlcAt (n : Nat) (xs : List Value) (b : Option Addr × Nat) (w : World) : Prop := n ≤ b.2 ∧ b.2 ≤ 9223372036854775807 ∧ (b.1 = none → b.2 = 0) ∧ Cells w b.1 xs
theorem SlcAt.ext {n : Nat} {xs : List Value} : ∀ (b : Option Addr × Nat) (w w' : World), SlcAt n xs b w → Ext w w' → SlcAt n xs b w' := fun _ _ _ h he => ⟨h.1, h.2.1, h.2.2.1, h.2.2.2.ext he⟩

/-- a load of what a block holds, taken first -/
theorem yieldsI_loadw {o : Oper} {a : Act} (hw : Region.wanted o (yielded ops a.tmps) = true) (ty : TypeId) (x : Operand) (ho : o.op = .load ty x) {g : Nat} {vs : List Value} {T : TypeId} {n : Nat}
    (hx : a.eval x = .pointer (some ⟨g, 0, none⟩)) (hb : ∀ w, S w → Blk w g vs T) (ht : AggT P ty n) (hn : vs.length = n) : YieldsIf P ops S o (.agg vs.toArray) a := by
  refine .inl ⟨hw, fun w hw => ?_⟩
  have h1 := run_load_sub (P := P) (off := 0) (hb w hw) ht (by omega)
  have h2 : (vs.drop 0).take n = vs := by simp [← hn]
  rw [h2] at h1
  unfold execOp
  simp only [ho, hx, Instr.loadAt, Instr.sureAddr, Sem.run_bind, Sem.run_pure, Result.andThen_ok, h1]
end
end

section
open Go Go.RowKit

def wordAt (l : List UInt8) (i : Nat) : UInt32 := wordOf (l[4 * i]?.getD 0) (l[4 * i + 1]?.getD 0) (l[4 * i + 2]?.getD 0) (l[4 * i + 3]?.getD 0)
def wordsL (l : List UInt8) : List UInt32 := (List.range 16).map (wordAt l)

theorem cell_u8 {w : World} {g : Nat} {l : List UInt8} {T : TypeId} (h : Blk w g (l.map u8v) T) {i : Nat} (hi : i < l.length) : w.cell? ⟨g, i, none⟩ = some (.int .u8 (((l[i]?.getD 0).toNat : Nat) : Int)) := by
  refine h.cell' ?_
  simp [hi, u8v]
theorem cell_u32 {w : World} {g : Nat} {l : List UInt32} {T : TypeId} (h : Blk w g (l.map u32v) T) {i : Nat} (hi : i < l.length) : w.cell? ⟨g, i, none⟩ = some (.int .u32 (((l[i]?.getD 0).toNat : Nat) : Int)) := by
  refine h.cell' ?_
  simp [hi, u32v]

theorem zeros32 (n : Nat) : (List.replicate n (0 : UInt32)).map u32v = List.replicate n (.int .u32 0) := by simp [u32v]
theorem zeros8 (n : Nat) : (List.replicate n (0 : UInt8)).map u8v = List.replicate n (.int .u8 0) := by simp [u8v]

theorem one_u8t : OneT Tryz.prog 5 := ⟨⟨_, Tryz.underlying5, rfl⟩, by kernel_rfl⟩
theorem one_u32t : OneT Tryz.prog 129 := ⟨⟨_, Tryz.underlying129, rfl⟩, by kernel_rfl⟩
/-- R.words: word j after i octets -/
def wordPart (l : List UInt8) (i j : Nat) : UInt32 :=
  if i ≤ 4 * j then 0 else if i = 4 * j + 1 then wordOf 0 0 0 (l[4 * j]?.getD 0) else if i = 4 * j + 2 then wordOf 0 0 (l[4 * j]?.getD 0) (l[4 * j + 1]?.getD 0)
  else if i = 4 * j + 3 then wordOf 0 (l[4 * j]?.getD 0) (l[4 * j + 1]?.getD 0) (l[4 * j + 2]?.getD 0) else wordAt l j
def wordsPart (l : List UInt8) (i : Nat) : List UInt32 := (List.range 16).map (wordPart l i)

theorem shl_or (a b c d e : UInt8) : bits .or .u32 (((wordOf a b c d).toNat : Int) * 256 % 4294967296) (e.toNat : Int) = ((wordOf b c d e).toNat : Int) := by
  have ha := a.toNat_lt
  have hb := b.toNat_lt
  have hc := c.toNat_lt
  have hd := d.toNat_lt
  have he := e.toNat_lt
  have e1 : ((wordOf a b c d).toNat : Int) * 256 % 4294967296 = ((b.toNat * 65536 + c.toNat * 256 + d.toNat) * 256 : Nat) := by
    unfold wordOf
    rw [UInt32.toNat_ofNat']; omega
  rw [e1, (bits_u32 _ _ (by omega) (by omega)).2.1]
  have f3 := or_add (b.toNat * 65536 + c.toNat * 256 + d.toNat) e.toNat 8 (by omega)
  rw [show (2 : Nat) ^ 8 = 256 from rfl] at f3
  rw [f3]
  unfold wordOf
  rw [UInt32.toNat_ofNat']; omega

theorem wordPart_step (l : List UInt8) (i : Nat) : ∃ a b c d, wordPart l i (i / 4) = wordOf a b c d ∧ wordPart l (i + 1) (i / 4) = wordOf b c d (l[i]?.getD 0) := by
  have h := Nat.div_add_mod i 4
  have hm : i % 4 < 4 := Nat.mod_lt _ (by omega)
  have e : ∃ q, i / 4 = q := ⟨_, rfl⟩
  obtain ⟨q, hq⟩ := e
  rw [hq] at h ⊢
  clear hq
  unfold wordPart
  rcases (by omega : i % 4 = 0 ∨ i % 4 = 1 ∨ i % 4 = 2 ∨ i % 4 = 3) with h0 | h0 | h0 | h0
  · obtain rfl : i = 4 * q := by omega
    exact ⟨0, 0, 0, 0, by rw [if_pos (by omega)]; rfl, by rw [if_neg (by omega), if_pos (by omega)]⟩
  · obtain rfl : i = 4 * q + 1 := by omega
    exact ⟨0, 0, 0, _, by rw [if_neg (by omega), if_pos (by omega)], by rw [if_neg (by omega), if_neg (by omega), if_pos (by omega)]⟩
  · obtain rfl : i = 4 * q + 2 := by omega
    exact ⟨0, 0, _, _, by rw [if_neg (by omega), if_neg (by omega), if_pos (by omega)], by rw [if_neg (by omega), if_neg (by omega), if_neg (by omega), if_pos (by omega)]⟩
  · obtain rfl : i = 4 * q + 3 := by omega
    exact ⟨0, _, _, _, by rw [if_neg (by omega), if_neg (by omega), if_neg (by omega), if_pos (by omega)], by rw [if_neg (by omega), if_neg (by omega), if_neg (by omega), if_neg (by omega)]; rfl⟩

theorem wordPart_other (l : List UInt8) (i j : Nat) (h : j ≠ i / 4) : wordPart l (i + 1) j = wordPart l i j := by
  have h1 := Nat.div_add_mod i 4
  have hm : i % 4 < 4 := Nat.mod_lt _ (by omega)
  generalize i / 4 = q at *
  unfold wordPart
  by_cases h2 : j < q
  · rw [if_neg (by omega), if_neg (by omega), if_neg (by omega), if_neg (by omega)]
    by_cases h3 : i = 4 * j + 3
    · omega
    · rw [if_neg (by omega), if_neg (by omega), if_neg (by omega), if_neg (by omega)]
  · rw [if_pos (by omega), if_pos (by omega)]

theorem wordsPart_step (l : List UInt8) (i : Nat) : (wordsPart l i).set (i / 4) (wordPart l (i + 1) (i / 4)) = wordsPart l (i + 1) := by
  unfold wordsPart
  apply List.ext_getElem?
  intro j
  rw [List.getElem?_set]
  by_cases hj : i / 4 = j
  · subst hj
    simp only [if_true, List.length_map, List.length_range, List.getElem?_map]
    by_cases h16 : i / 4 < 16
    · simp [h16]
    · simp [h16]
  · rw [if_neg hj]
    simp only [List.getElem?_map]
    by_cases h16 : j < 16
    · simp [h16, wordPart_other l i j (Ne.symm hj)]
    · simp [h16]

def octAt (ws : List UInt32) (j : Nat) : UInt8 := (octL (ws[j / 4]?.getD 0))[j % 4]?.getD 0
def stateL (ws : List UInt32) : List UInt8 := (List.range 64).map (octAt ws)

theorem octL_range (ws : List UInt32) (k : Nat) : octL (ws[k]?.getD 0) = (List.range 4).map fun j => octAt ws (4 * k + j) := by
  have e : ∀ j, j < 4 → octAt ws (4 * k + j) = (octL (ws[k]?.getD 0))[j]?.getD 0 := fun j hj => by
    unfold octAt
    rw [show (4 * k + j) / 4 = k by omega, show (4 * k + j) % 4 = j by omega]
  show _ = [octAt ws (4 * k + 0), octAt ws (4 * k + 1), octAt ws (4 * k + 2), octAt ws (4 * k + 3)]
  rw [e 0 (by omega), e 1 (by omega), e 2 (by omega), e 3 (by omega)]
  rfl

theorem shr_oct (n : UInt32) (m : Nat) (hm : m < 4) : ((n.toNat : Int) / 2 ^ (24 - 8 * m) % 256) = (((octL n)[m]?.getD 0).toNat : Int) := by
  rcases (by omega : m = 0 ∨ m = 1 ∨ m = 2 ∨ m = 3) with rfl | rfl | rfl | rfl
  all_goals simp only [octL]; simp; try rw [UInt8.toNat_ofNat']; omega
end

section
open Go Go.RowKit

/-- w[i] += turn(&w, r, i) -/
def addW (ws : List UInt32) (r i : Nat) : List UInt32 := ws.set i (add32 (ws[i]?.getD 0) (turnW ws r i))
def subW (ws : List UInt32) (r i : Nat) : List UInt32 := ws.set i (sub32 (ws[i]?.getD 0) (turnW ws r i))
/-- w[(i+9)%16] ^= rotl(w[i], 11) -/
def xorW (ws : List UInt32) (i : Nat) : List UInt32 := ws.set ((i + 9) % 16) (xor32 (ws[(i + 9) % 16]?.getD 0) (rotl (ws[i]?.getD 0) 11))
def stepW (ws : List UInt32) (r i : Nat) : List UInt32 := xorW (addW ws r i) i
def unstepW (ws : List UInt32) (r i : Nat) : List UInt32 := subW (xorW ws i) r i
/-- the first i steps of round r -/
def roundTo (r : Nat) (ws : List UInt32) : Nat → List UInt32
  | 0 => ws
  | i + 1 => stepW (roundTo r ws i) r i
def stirTo (ws : List UInt32) : Nat → List UInt32
  | 0 => ws
  | r + 1 => roundTo r (stirTo ws r) 16
/-- steps 15, 14, .. of round r undone, i of them -/
def unroundTo (r : Nat) (ws : List UInt32) : Nat → List UInt32
  | 0 => ws
  | i + 1 => unstepW (unroundTo r ws i) r (15 - i)
def unstirTo (ws : List UInt32) : Nat → List UInt32
  | 0 => ws
  | r + 1 => unroundTo (7 - r) (unstirTo ws r) 16
def stirL (l : List UInt8) : List UInt8 := stateL (stirTo (wordsL l) 8)
def unstirL (l : List UInt8) : List UInt8 := stateL (unstirTo (wordsL l) 8)

theorem addW_length (ws : List UInt32) (r i : Nat) : (addW ws r i).length = ws.length := by simp [addW]
theorem subW_length (ws : List UInt32) (r i : Nat) : (subW ws r i).length = ws.length := by simp [subW]
theorem xorW_length (ws : List UInt32) (i : Nat) : (xorW ws i).length = ws.length := by simp [xorW]
theorem roundTo_length (r : Nat) (ws : List UInt32) (i : Nat) : (roundTo r ws i).length = ws.length := by
  induction i with
  | zero => rfl
  | succ i ih => simp [roundTo, stepW, xorW_length, addW_length, ih]
theorem stirTo_length (ws : List UInt32) (r : Nat) : (stirTo ws r).length = ws.length := by
  induction r with
  | zero => rfl
  | succ r ih => simp [stirTo, roundTo_length, ih]
theorem unroundTo_length (r : Nat) (ws : List UInt32) (i : Nat) : (unroundTo r ws i).length = ws.length := by
  induction i with
  | zero => rfl
  | succ i ih => simp [unroundTo, unstepW, xorW_length, subW_length, ih]
theorem unstirTo_length (ws : List UInt32) (r : Nat) : (unstirTo ws r).length = ws.length := by
  induction r with
  | zero => rfl
  | succ r ih => simp [unstirTo, unroundTo_length, ih]
theorem wordsL_length (l : List UInt8) : (wordsL l).length = 16 := by simp [wordsL]
theorem stateL_length (ws : List UInt32) : (stateL ws).length = 64 := by simp [stateL]
end

section
open Go Go.RowKit
end

section
open Go Go.RowKit

/-- the first i octets of b, exclusive or -/
def mixTo (s b : List UInt8) : Nat → List UInt8
  | 0 => s
  | i + 1 => (mixTo s b i).set i (xor8 ((mixTo s b i)[i]?.getD 0) (b[i]?.getD 0))
theorem mixTo_length (s b : List UInt8) (i : Nat) : (mixTo s b i).length = s.length := by
  induction i with
  | zero => rfl
  | succ i ih => simp [mixTo, ih]
/-- the end of a function without results -/
theorem end_none {P : Program} {fn : Func} {R : Ending → World → Prop} {a : Act} {w : World} (hr : fn.results = #[]) (hd : a.defers = []) (hR : R (.returned (.tuple #[])) w) : bodyPost P fn R .normal a w := by
  unfold bodyPost
  simp [hd, results_none hr, hR]
/-- a block taken into the state -/
def absorb (s b : List UInt8) : List UInt8 := stirL (mixTo s b 32)
theorem stirL_length (l : List UInt8) : (stirL l).length = 64 := by simp [stirL, stateL_length]
theorem absorb_length (s b : List UInt8) : (absorb s b).length = 64 := stirL_length _

theorem grown_refl (w : World) (r : Option Nat) : w.grownBy w r := ⟨rfl, rfl, rfl, Nat.le_refl _, fun _ _ _ => rfl⟩
theorem grown_drewN {w w' : World} {r : Option Nat} (h : w.grownBy w' r) (n : Nat) : w.grownBy (w'.drewN n) r := ⟨h.os, h.tape, h.output, h.size, h.block⟩
theorem grown_set {w w' : World} {g : Nat} (h : w.grownBy w' (some g)) (i : Nat) (v : Value) : w.grownBy (w'.setCell ⟨g, i, none⟩ v) (some g) :=
  ⟨h.os, h.tape, h.output, by simp [World.setCell]; exact h.size, fun k hk hn => by rw [Below.heap_setCell _ _ _ _ (fun e => hn (by rw [e]))]; exact h.block k hk hn⟩
theorem grown_ext {w w1 w2 : World} {r : Option Nat} (h : w.grownBy w1 r) (k : Ext w1 w2) : w.grownBy w2 r :=
  ⟨k.os.trans h.os, k.tape.trans h.tape, k.output.trans h.output, Nat.le_trans h.size k.size, fun i hi hn => (k.block i (Nat.lt_of_lt_of_le hi h.size)).trans (h.block i hi hn)⟩
theorem grown_upd {w w1 w2 : World} {g : Nat} (h : w.grownBy w1 (some g)) (k : Upd w1 g w2) : w.grownBy w2 (some g) :=
  ⟨k.os.trans h.os, k.tape.trans h.tape, k.output.trans h.output, by rw [k.size]; exact h.size, fun i hi hn => (k.block i (fun e => hn (by rw [e]))).trans (h.block i hi hn)⟩

/-- the octet behind place i, wherever it lies -/
theorem mix_cell {w : World} {g : Nat} {l : List UInt8} {tl : List Value} {T : TypeId} (h : Blk w g (l.map u8v ++ tl) T) {i : Nat} (hi : i < l.length) :
    w.cell? ⟨g, i, none⟩ = some (.int .u8 ((l[i]?.getD 0).toNat : Int)) := by
  refine h.cell' ?_
  rw [List.getElem?_append_left (by simpa using hi)]
  simp [hi, u8v]
theorem mix_set {w : World} {g : Nat} {l : List UInt8} {tl : List Value} {T : TypeId} (h : Blk w g (l.map u8v ++ tl) T) {i : Nat} (hi : i < l.length) (x : UInt8) :
    Blk (w.setCell ⟨g, i, none⟩ (.int .u8 (x.toNat : Int))) g ((l.set i x).map u8v ++ tl) T := by
  have := h.set i (u8v x)
  rwa [List.set_append_left _ _ (by simpa using hi), ← List.map_set] at this
end

section
open Go Go.RowKit

section
variable {P : Program} {ops : Array Oper} {rest : List Oper} {o : Oper} {a : Act} {w : World} {Q : Exit → Act → World → Prop}

theorem run_sliceAt_low {t e : TypeId} {p : Option Addr} {n c k : Nat} (hu : P.underlying t = some (.slice e)) (hs : (P.info? e).map (·.size) = some 1) (hk : k ≤ n) :
    (Instr.sliceAt t (.slice p n c) (some (.int .i64 (k : Int))) none none).run P w = .ok (.slice (shift p c k) (n - k) (c - k)) w := by
  cases hq : P.info? e with
  | none => simp [hq] at hs
  | some i =>
    have hi : i.size = 1 := by simpa [hq] using hs
    have h1 : (0 : Int) ≤ k ∧ (k : Int) ≤ n := by omega
    simp [Instr.sliceAt, Instr.slice, Instr.sliceBounds, Instr.sliceBound, asIntOf, run_underlying hu, sizeOf, typeInfo, hq, hi, h1.1, hk, shift]

/-- b[k:] -/
theorem wpl_slice_low (hgd : o.guard = none) (t e : TypeId) (x y : Operand) (ho : o.op = .slice t x (some y) none none) {p : Option Addr} {n c k : Nat}
    (hx : a.eval x = .slice p n c) (hy : a.eval y = .int .i64 (k : Int)) (hu : P.underlying t = some (.slice e)) (hs : (P.info? e).map (·.size) = some 1) (hk : k ≤ n)
    (h : wpList P ops Q rest (a.put o.dst (.slice (shift p c k) (n - k) (c - k))) w) : wpList P ops Q (o :: rest) a w :=
  wpList_plain hgd fun K hK => by
    unfold Oper.wp execOp
    simp only [ho, hx, hy, Option.map_some, Option.map_none, run_sliceAt_low hu hs hk, Result.andThen_ok, Sem.run_bind, Sem.run_pure]
    exact hK _ _ h

/-- copy, wherever the octets come from -/
theorem wpl_copyc (hgd : o.guard = none) (dT sT : TypeId) (x y : Operand) (ho : o.op = .call { callee := .builtin .copy, args := #[x, y], argTypes := #[dT, sT] }) {g off dLen dCap sLen sCap : Nat} {sa : Option Addr} {vs cs : List Value} {T elem : TypeId}
    (hx : a.eval x = .slice (some ⟨g, off, none⟩) dLen dCap) (hy : a.eval y = .slice sa sLen sCap) (hb : Blk w g vs T)
    (hu : P.underlying dT = some (.slice elem)) (hs : (P.info? elem).map (·.size) = some 1) {k : Nat} (hk : cs.length = k) (hn : k = Nat.min sLen dLen) (h0 : sa = none → sLen = 0)
    (hsrc : Cells w sa cs) (hfit : off + k ≤ vs.length) (h1 : ∀ v ∈ cs, v.oneCell' = true)
    (h : ∀ w', Blk w' g (splice vs off cs) T → Upd w g w' → wpList P ops Q rest (a.put o.dst (.int .i64 (k : Int))) w') : wpList P ops Q (o :: rest) a w := by
  subst hk
  cases sa with
  | some ad => exact wpl_copy hgd dT sT x y ho hx hy hb hu hs hn (news_cells hsrc) hfit h1 h
  | none =>
    have hz := h0 rfl
    subst hz
    have hcs : cs = [] := by
      rcases hsrc with h | ⟨_, _, h, _⟩
      · exact h
      · cases h
    subst hcs
    refine wpList_plain hgd fun K hK => ?_
    have hr : (Builtin.copy_ #[dT, sT] o.type #[.slice (some ⟨g, off, none⟩) dLen dCap, .slice none 0 sCap]).run P w = .ok (goInt 0) w := by
      cases hq : P.info? elem with
      | none => simp [hq] at hs
      | some i => simp [Builtin.copy_, run_underlying hu, Builtin.lenOf, Builtin.firstCells, sizeOf, typeInfo, hq, storeCells]
    unfold Oper.wp execOp
    simp only [ho, resolve, Sem.run_bind, Sem.run_pure, Result.andThen_ok, invoke, builtin]
    have e : (#[x, y].map a.eval) = #[.slice (some ⟨g, off, none⟩) dLen dCap, .slice none 0 sCap] := by simp [hx, hy]
    rw [e, hr]
    simp only [Result.andThen_ok, Sem.run_pure, Oper.upon]
    refine hK _ _ (h _ ?_ (Upd.refl _ _))
    simpa [splice] using hb
end

theorem size_u8 : (Tryz.prog.info? 5).map (·.size) = some 1 := by kernel_rfl

theorem Cells.grown {w w' : World} {a : Option Addr} {xs : List Value} {r : Option Nat} (h : Cells w a xs) (k : w.grownBy w' r) (hn : ∀ x, a = some x → some x.block ≠ r) : Cells w' a xs := by
  rcases h with h | ⟨b, off, ha, h⟩
  · exact .inl h
  · refine .inr ⟨b, off, ha, fun i u hu => ?_⟩
    have h1 := h i u hu
    have hb := block_lt_of_cell h1
    have h2 : w'.heap[b]? = w.heap[b]? := k.block b hb (hn _ ha)
    rw [← h1]
    simp [World.cell?, h2]
theorem shift_away {a : Option Addr} {c k : Nat} {r : Option Nat} (hn : ∀ x, a = some x → some x.block ≠ r) : ∀ x, shift a c k = some x → some x.block ≠ r := by
  intro x hx
  unfold shift at hx
  split at hx
  · exact hn x hx
  · cases a with
    | none => cases hx
    | some y =>
      cases hx
      have : (y.add k).block = y.block := by unfold Addr.add; split <;> rfl
      rw [this]; exact hn y rfl
theorem shift_nil {a : Option Addr} {c k : Nat} : shift a c k = none ↔ a = none := by
  unfold shift
  split
  · rfl
  · simp
theorem upd_grown {w w' : World} {g : Nat} (h : Upd w g w') : w.grownBy w' (some g) := grown_upd (grown_refl w _) h
theorem grown_trans {a b c : World} {r : Option Nat} (h : a.grownBy b r) (k : b.grownBy c r) : a.grownBy c r :=
  ⟨k.os.trans h.os, k.tape.trans h.tape, k.output.trans h.output, Nat.le_trans h.size k.size, fun i hi hn => (k.block i (Nat.lt_of_lt_of_le hi h.size) hn).trans (h.block i hi hn)⟩

/-- the cells of a Summer -/
def sm (s r : List UInt8) (h : Int) (t : Int) : List Value := s.map u8v ++ (r.map u8v ++ [.int .i64 h, .int .i64 t])
theorem sm_length {s r : List UInt8} (h t : Int) (hs : s.length = 64) (hr : r.length = 32) : (sm s r h t).length = 98 := by simp [sm, hs, hr]
theorem sm_have {s r : List UInt8} (h t : Int) (hs : s.length = 64) (hr : r.length = 32) : (sm s r h t)[96]? = some (.int .i64 h) := by
  rw [sm, List.getElem?_append_right (by rw [List.length_map]; omega), List.getElem?_append_right (by rw [List.length_map, List.length_map]; omega)]
  simp [hs, hr]
theorem sm_total {s r : List UInt8} (h t : Int) (hs : s.length = 64) (hr : r.length = 32) : (sm s r h t)[97]? = some (.int .i64 t) := by
  rw [sm, List.getElem?_append_right (by rw [List.length_map]; omega), List.getElem?_append_right (by rw [List.length_map, List.length_map]; omega)]
  simp [hs, hr]
theorem sm_rest {s r : List UInt8} (h t : Int) (hs : s.length = 64) (hr : r.length = 32) {i : Nat} (hi : i < 32) : (sm s r h t)[64 + i]? = some (.int .u8 ((r[i]?.getD 0).toNat : Int)) := by
  rw [sm, List.getElem?_append_right (by rw [List.length_map]; omega), List.getElem?_append_left (by simp [hs, hr]; omega)]
  have : 64 + i - (s.map u8v).length = i := by rw [List.length_map]; omega
  rw [this]
  simp [hr, hi, u8v]
theorem sm_set_have {s r : List UInt8} (h t h' : Int) (hs : s.length = 64) (hr : r.length = 32) : (sm s r h t).set 96 (.int .i64 h') = sm s r h' t := by
  rw [sm, List.set_append_right _ _ (by rw [List.length_map]; omega), List.set_append_right _ _ (by rw [List.length_map, List.length_map]; omega)]
  simp [hs, hr, sm]
theorem sm_set_total {s r : List UInt8} (h t t' : Int) (hs : s.length = 64) (hr : r.length = 32) : (sm s r h t).set 97 (.int .i64 t') = sm s r h t' := by
  rw [sm, List.set_append_right _ _ (by rw [List.length_map]; omega), List.set_append_right _ _ (by rw [List.length_map, List.length_map]; omega)]
  simp [hs, hr, sm]
theorem sm_splice {s r xs : List UInt8} (h t : Int) (hs : s.length = 64) (hr : r.length = 32) (k : Nat) (hk : k + xs.length ≤ 32) :
    splice (sm s r h t) (64 + k) (xs.map u8v) = sm s (r.take k ++ xs ++ r.drop (k + xs.length)) h t := by
  unfold splice sm
  rw [List.length_map]
  have l1 : (s.map u8v).length = 64 := by rw [List.length_map]; exact hs
  have l2 : (r.map u8v).length = 32 := by rw [List.length_map]; exact hr
  rw [List.take_append, l1, List.take_of_length_le (by omega), show 64 + k - 64 = k by omega, List.take_append_of_le_length (by omega),
    List.drop_append, l1, List.drop_of_length_le (by omega), List.nil_append, show 64 + k + xs.length - 64 = k + xs.length by omega, List.drop_append_of_le_length (by omega)]
  simp [List.map_append, List.map_take, List.map_drop]
end

section
open Go Go.RowKit

def rows (ls : List (List UInt8)) : List Value := ls.flatten.map u8v
def All32 (ls : List (List UInt8)) : Prop := ∀ l ∈ ls, l.length = 32

theorem flat_length {ls : List (List UInt8)} (h : All32 ls) : ls.flatten.length = 32 * ls.length := by
  induction ls with
  | nil => rfl
  | cons l ls ih =>
    rw [List.flatten_cons, List.length_append, h l (by simp), ih (fun x hx => h x (by simp [hx])), List.length_cons]; omega
theorem rows_length {ls : List (List UInt8)} (h : All32 ls) : (rows ls).length = 32 * ls.length := by rw [rows, List.length_map, flat_length h]
theorem rows_nil : rows [] = [] := rfl
theorem rows_append (a b : List (List UInt8)) : rows (a ++ b) = rows a ++ rows b := by simp [rows]
theorem rows_one (x : List UInt8) : rows [x] = x.map u8v := by simp [rows]
theorem All32.append {a b : List (List UInt8)} (h1 : All32 a) (h2 : All32 b) : All32 (a ++ b) := fun l hl => by
  rcases List.mem_append.1 hl with h | h
  · exact h1 l h
  · exact h2 l h
theorem All32.take {ls : List (List UInt8)} (h : All32 ls) (k : Nat) : All32 (ls.take k) := fun l hl => h l (List.mem_of_mem_take hl)
theorem All32.drop {ls : List (List UInt8)} (h : All32 ls) (k : Nat) : All32 (ls.drop k) := fun l hl => h l (List.mem_of_mem_drop hl)
theorem All32.one {x : List UInt8} (h : x.length = 32) : All32 [x] := fun l hl => by rw [List.mem_singleton.1 hl]; exact h
theorem All32.nil : All32 [] := fun l hl => by cases hl
theorem All32.at {ls : List (List UInt8)} (h : All32 ls) {i : Nat} {x : List UInt8} (hx : ls[i]? = some x) : x.length = 32 := h x (List.mem_of_getElem? hx)
theorem flat_drop {ls : List (List UInt8)} (h : All32 ls) (k : Nat) : ls.flatten.drop (32 * k) = (ls.drop k).flatten := by
  induction ls generalizing k with
  | nil => simp
  | cons l ls ih =>
    cases k with
    | zero => simp
    | succ k =>
      have hl := h l (by simp)
      rw [List.flatten_cons, List.drop_append, hl, show 32 * (k + 1) - 32 = 32 * k by omega, List.drop_of_length_le (by omega), List.nil_append, ih (fun x hx => h x (by simp [hx])), List.drop_succ_cons]
theorem flat_take {ls : List (List UInt8)} (h : All32 ls) (k : Nat) : ls.flatten.take (32 * k) = (ls.take k).flatten := by
  induction ls generalizing k with
  | nil => simp
  | cons l ls ih =>
    cases k with
    | zero => simp
    | succ k =>
      have hl := h l (by simp)
      rw [List.flatten_cons, List.take_append, hl, show 32 * (k + 1) - 32 = 32 * k by omega, List.take_of_length_le (by omega), ih (fun x hx => h x (by simp [hx])), List.take_succ_cons, List.flatten_cons]
theorem rows_drop {ls : List (List UInt8)} (h : All32 ls) (k : Nat) : (rows ls).drop (32 * k) = rows (ls.drop k) := by rw [rows, ← List.map_drop, flat_drop h]; rfl
theorem rows_take {ls : List (List UInt8)} (h : All32 ls) (k : Nat) : (rows ls).take (32 * k) = rows (ls.take k) := by rw [rows, ← List.map_take, flat_take h]; rfl
theorem rows_at {ls : List (List UInt8)} (h : All32 ls) {i : Nat} {x : List UInt8} (hx : ls[i]? = some x) : ((rows ls).drop (32 * i)).take 32 = x.map u8v := by
  have h1 : ls.drop i = x :: ls.drop (i + 1) := by
    have hi := (List.getElem?_eq_some_iff.1 hx)
    obtain ⟨hlt, he⟩ := hi
    rw [List.drop_eq_getElem_cons hlt, he]
  rw [rows_drop h, h1]
  have h2 := rows_take (ls := x :: ls.drop (i + 1)) (by rw [← h1]; exact h.drop i) 1
  rw [Nat.mul_one] at h2
  rw [h2]; simp [rows]

/-- cells at an address -/
def CellsAt (w : World) (p : Addr) (xs : List Value) : Prop := ∀ j u, xs[j]? = some u → w.cell? (p.add j) = some u
theorem addr_add (b o n : Nat) : (⟨b, o, none⟩ : Addr).add n = ⟨b, o + n, none⟩ := by unfold Addr.add; split <;> simp_all
theorem CellsAt.of {w : World} {p : Addr} {xs : List Value} (h : Cells w (some p) xs) : CellsAt w p xs := news_cells h
theorem CellsAt.ext {w w' : World} {p : Addr} {xs : List Value} (h : CellsAt w p xs) (k : Ext w w') : CellsAt w' p xs := by
  intro j u hu
  have h1 := h j u hu
  have hb := block_lt_of_cell h1
  rw [k.cell hb]; exact h1
/-- the address of a slice's part from row p on -/
def shiftz (a : Option Addr) (c p z : Nat) : Option Addr := if c = p then a else a.map (·.add (p * z))
theorem Cells.rowAt {w : World} {p : Addr} {ls : List (List UInt8)} (h : Cells w (some p) (rows ls)) (h32 : All32 ls) {i : Nat} {x : List UInt8} (hx : ls[i]? = some x) : CellsAt w (p.add (i * 32)) (x.map u8v) := by
  intro j u hu
  have hxl := h32.at hx
  have hj : j < 32 := by
    have := (List.getElem?_eq_some_iff.1 hu).1
    rw [List.length_map, hxl] at this; exact this
  have h1 := rows_at h32 hx
  have h2 : (rows ls)[32 * i + j]? = some u := by
    rw [← h1, List.getElem?_take_of_lt hj, List.getElem?_drop] at hu
    exact hu
  obtain ⟨b, off, hp, hc⟩ := h.some_of (by have := (List.getElem?_eq_some_iff.1 h2).1; omega)
  cases hp
  rw [addr_add, addr_add]
  have := hc _ _ h2
  rw [show off + i * 32 + j = off + (32 * i + j) by omega]
  exact this
theorem Cells.rowsTake {w : World} {a : Option Addr} {ls : List (List UInt8)} (h : Cells w a (rows ls)) (h32 : All32 ls) (k : Nat) : Cells w a (rows (ls.take k)) := by
  rw [← rows_take h32]; exact h.take _
theorem Cells.rowsShift {w : World} {a : Option Addr} {ls : List (List UInt8)} (h : Cells w a (rows ls)) (h32 : All32 ls) (c p : Nat) (hc : ls.length ≤ c) : Cells w (shiftz a c p 32) (rows (ls.drop p)) := by
  unfold shiftz
  rw [← rows_drop h32]
  split
  · rename_i hcp
    left
    rw [rows_drop h32, List.drop_of_length_le (by omega)]; rfl
  · rcases h with h | ⟨b, off, rfl, h⟩
    · left; rw [h]; simp
    · refine .inr ⟨b, off + p * 32, by rw [Option.map_some, addr_add], fun i u hu => ?_⟩
      rw [List.getElem?_drop] at hu
      have := h _ _ hu
      rw [show off + p * 32 + i = off + (32 * p + i) by omega]; exact this

section
variable {P : Program} {ops : Array Oper} {rest : List Oper} {o : Oper} {a : Act} {w : World} {Q : Exit → Act → World → Prop} {S : World → Prop}

theorem run_indexAt_z {t e : TypeId} {p : Addr} {n c i z : Nat} (hu : P.underlying t = some (.slice e)) (hs : (P.info? e).map (·.size) = some z) (hi : i < n) (w : World) :
    (Instr.indexAt t (.slice (some p) n c) (.int .i64 (i : Int))).run P w = .ok (.pointer (some (p.add (i * z)))) w := by
  cases hq : P.info? e with
  | none => simp [hq] at hs
  | some inf =>
    have hz : inf.size = z := by simpa [hq] using hs
    have h0 : (0 : Int) ≤ i ∧ (i : Int) < n := by omega
    simp [Instr.indexAt, asIntOf, run_underlying hu, sizeOf, typeInfo, hq, hz, hi]

theorem run_sliceAt_high_z {t e : TypeId} {p : Option Addr} {n c k z : Nat} (hu : P.underlying t = some (.slice e)) (hs : (P.info? e).map (·.size) = some z) (hk : k ≤ c) (w : World) :
    (Instr.sliceAt t (.slice p n c) none (some (.int .i64 (k : Int))) none).run P w = .ok (.slice p k c) w := by
  cases hq : P.info? e with
  | none => simp [hq] at hs
  | some i =>
    have hi : i.size = z := by simpa [hq] using hs
    have h1 : (0 : Int) ≤ k ∧ (k : Int) ≤ c := by omega
    have ha : p.map (fun x => x.add 0) = p := by
      cases p with
      | none => rfl
      | some x => obtain ⟨b, o, s⟩ := x; simp only [Option.map_some, Addr.add]; split <;> simp_all
    simp [Instr.sliceAt, Instr.slice, Instr.sliceBounds, Instr.sliceBound, asIntOf, run_underlying hu, sizeOf, typeInfo, hq, hi, hk, ha]

theorem run_sliceAt_low_z {t e : TypeId} {p : Option Addr} {n c k z : Nat} (hu : P.underlying t = some (.slice e)) (hs : (P.info? e).map (·.size) = some z) (hk : k ≤ n) (w : World) :
    (Instr.sliceAt t (.slice p n c) (some (.int .i64 (k : Int))) none none).run P w = .ok (.slice (shiftz p c k z) (n - k) (c - k)) w := by
  cases hq : P.info? e with
  | none => simp [hq] at hs
  | some i =>
    have hi : i.size = z := by simpa [hq] using hs
    have h1 : (0 : Int) ≤ k ∧ (k : Int) ≤ n := by omega
    simp [Instr.sliceAt, Instr.slice, Instr.sliceBounds, Instr.sliceBound, asIntOf, run_underlying hu, sizeOf, typeInfo, hq, hi, h1.1, hk, shiftz]

theorem run_load_at {ty : TypeId} {p : Addr} {xs : List Value} {n : Nat} (hc : CellsAt w p xs) (ht : AggT P ty n) (hn : xs.length = n) : (loadVar ty p).run P w = .ok (.agg xs.toArray) w := by
  obtain ⟨⟨d, hu, hd⟩, hi⟩ := ht
  have hl := run_loadCells_list (P := P) w p xs hc
  rw [hn] at hl
  cases hq : P.info? ty with
  | none => simp [hq] at hi
  | some i =>
    have hs : i.size = n := by simpa [hq] using hi
    have hagg : (isAgg ty).run P w = .ok true w := by
      unfold isAgg
      rw [Sem.run_bind, run_underlying hu w]
      cases d <;> simp_all
    simp [loadVar, Sem.run_bind, hagg, sizeOf, typeInfo, hq, hs, hl]

/-- whatever runs to a value: as a step of a plain region -/
theorem wpl_run {v : Value} (hgd : o.guard = none) (hr : (execOp a.eval o).run P w = .ok (.value v) w) (h : wpList P ops Q rest (a.put o.dst v) w) : wpList P ops Q (o :: rest) a w :=
  wpList_plain hgd fun K hK => by
    unfold Oper.wp
    rw [hr, Oper.upon_value]
    exact hK _ _ h
theorem wpg_run {v : Value} (hw : Region.wanted o (yielded ops a.tmps) = true) (hr : (execOp a.eval o).run P w = .ok (.value v) w) (h : wpList P ops Q rest (a.put o.dst v) w) : wpList P ops Q (o :: rest) a w :=
  wpList_step fun K hK => by
    rw [if_pos hw]
    unfold Oper.wp
    rw [hr, Oper.upon_value]
    exact hK _ _ h

theorem exec_index {t e : TypeId} {x y : Operand} {p : Addr} {n c i z : Nat} (ho : o.op = .indexAddr t x y) (hx : a.eval x = .slice (some p) n c) (hy : a.eval y = .int .i64 (i : Int)) (hu : P.underlying t = some (.slice e)) (hs : (P.info? e).map (·.size) = some z) (hi : i < n) (w : World) :
    (execOp a.eval o).run P w = .ok (.value (.pointer (some (p.add (i * z))))) w := by
  unfold execOp
  simp only [ho, hx, hy, Sem.run_bind, run_indexAt_z hu hs hi w, Result.andThen_ok, Sem.run_pure]
theorem exec_high {t e : TypeId} {x y : Operand} {p : Option Addr} {n c k z : Nat} (ho : o.op = .slice t x none (some y) none) (hx : a.eval x = .slice p n c) (hy : a.eval y = .int .i64 (k : Int)) (hu : P.underlying t = some (.slice e)) (hs : (P.info? e).map (·.size) = some z) (hk : k ≤ c) (w : World) :
    (execOp a.eval o).run P w = .ok (.value (.slice p k c)) w := by
  unfold execOp
  simp only [ho, hx, hy, Option.map_some, Option.map_none, Sem.run_bind, run_sliceAt_high_z hu hs hk w, Result.andThen_ok, Sem.run_pure]
theorem exec_low {t e : TypeId} {x y : Operand} {p : Option Addr} {n c k z : Nat} (ho : o.op = .slice t x (some y) none none) (hx : a.eval x = .slice p n c) (hy : a.eval y = .int .i64 (k : Int)) (hu : P.underlying t = some (.slice e)) (hs : (P.info? e).map (·.size) = some z) (hk : k ≤ n) (w : World) :
    (execOp a.eval o).run P w = .ok (.value (.slice (shiftz p c k z) (n - k) (c - k))) w := by
  unfold execOp
  simp only [ho, hx, hy, Option.map_some, Option.map_none, Sem.run_bind, run_sliceAt_low_z hu hs hk w, Result.andThen_ok, Sem.run_pure]
theorem exec_load_at {ty : TypeId} {x : Operand} {p : Addr} {xs : List Value} {n : Nat} (ho : o.op = .load ty x) (hx : a.eval x = .pointer (some p)) (hc : CellsAt w p xs) (ht : AggT P ty n) (hn : xs.length = n) :
    (execOp a.eval o).run P w = .ok (.value (.agg xs.toArray)) w := by
  unfold execOp
  simp only [ho, hx, Instr.loadAt, Instr.sureAddr, Sem.run_bind, Sem.run_pure, Result.andThen_ok, run_load_at hc ht hn]
theorem yieldsI_run {v : Value} (hw : Region.wanted o (yielded ops a.tmps) = true) (hr : ∀ w, S w → (execOp a.eval o).run P w = .ok (.value v) w) : YieldsIf P ops S o v a := .inl ⟨hw, hr⟩
end
end

section
open Go Go.RowKit

theorem cell_extU {w w' : World} {p : Addr} {v : Value} (h : w.cell? p = some v) (e : Ext w w') : w'.cell? p = some v := by
  have hb := block_lt_of_cell h
  rw [e.cell hb]; exact h
theorem bytes_beqU (x y : ByteArray) : (x.toList == y.toList) = true ↔ x = y := by
  rw [beq_iff_eq, ByteArray.toList_eq, ByteArray.toList_eq]
  exact ⟨fun h => ByteArray.ext (Array.toList_inj.mp h), fun h => by rw [h]⟩

def encStr : ByteArray → Value := .string
theorem encs_getS {ls : List ByteArray} {k : Nat} {x : ByteArray} (h : ls[k]? = some x) : (ls.map encStr)[k]? = some (.string x) := by rw [List.getElem?_map, h]; rfl
theorem one_tS : OneT Tryz.prog 9 := ⟨⟨_, Tryz.underlying9, rfl⟩, by kernel_rfl⟩

theorem less_tri : ∀ x y : List UInt8, Op.bytesLess x y = !(Op.bytesLess y x || y == x)
  | [], [] => rfl
  | [], _ :: _ => rfl
  | _ :: _, [] => rfl
  | a :: x, b :: y => by
    have ih := less_tri x y
    unfold Op.bytesLess
    rw [ih]
    have tri : a < b ∨ a = b ∨ b < a := by
      rcases Nat.lt_trichotomy a.toNat b.toNat with h | h | h
      · exact .inl (UInt8.lt_iff_toNat_lt.2 h)
      · exact .inr (.inl (UInt8.toNat_inj.1 h))
      · exact .inr (.inr (UInt8.lt_iff_toNat_lt.2 h))
    rcases tri with h | h | h
    · have h1 : ¬ b < a := UInt8.lt_asymm h
      have h2 : ¬ b = a := fun e => by subst e; exact UInt8.lt_irrefl _ h
      have h3 : (b == a) = false := by simpa using h2
      simp [h, h1, h3, h2]
    · subst h
      simp [UInt8.lt_irrefl]
    · have h1 : ¬ a < b := UInt8.lt_asymm h
      have h2 : ¬ a = b := fun e => by subst e; exact UInt8.lt_irrefl _ h
      have h3 : (a == b) = false := by simpa using h2
      simp [h, h1, h3]
def lessS (a b : ByteArray) : Bool := Op.bytesLess a.toList b.toList
/-- one step: the later is not at most the earlier -/
theorem less_leq (a b : ByteArray) : (Op.bytesLess b.toList a.toList || b.toList == a.toList) = !lessS a b := by
  unfold lessS; rw [less_tri a.toList b.toList]; simp
def Rising (ls : List ByteArray) (k : Nat) : Prop := ∀ i a b, i + 1 < k → ls[i]? = some a → ls[i + 1]? = some b → lessS a b = true
noncomputable def risB (ls : List ByteArray) : Bool := @decide (Rising ls ls.length) (Classical.propDecidable _)
theorem risB_iff {ls : List ByteArray} : risB ls = true ↔ Rising ls ls.length := by unfold risB; exact @decide_eq_true_iff _ (Classical.propDecidable _)
theorem risB_true {ls : List ByteArray} {n : Nat} (hn : ls.length = n) (h : Rising ls n) : risB ls = true := risB_iff.2 (hn ▸ h)
theorem risB_false {ls : List ByteArray} {i : Nat} {a b : ByteArray} (h1 : ls[i]? = some a) (h2 : ls[i + 1]? = some b) (h : lessS a b = false) : risB ls = false := by
  cases hr : risB ls with
  | false => rfl
  | true =>
    have := risB_iff.1 hr i a b (List.getElem?_eq_some_iff.1 h2).1 h1 h2
    rw [h] at this; cases this
theorem Rising.step {ls : List ByteArray} {k : Nat} {a b : ByteArray} (h : Rising ls (k + 1)) (h1 : ls[k]? = some a) (h2 : ls[k + 1]? = some b) (hl : lessS a b = true) : Rising ls (k + 2) := by
  intro i x y hi hx hy
  by_cases hik : i = k
  · subst hik
    rw [h1] at hx; rw [h2] at hy
    injection hx with hx; injection hy with hy
    rw [← hx, ← hy]; exact hl
  · exact h i x y (by omega) hx hy
theorem Rising.one (ls : List ByteArray) {k : Nat} (h : k ≤ 1) : Rising ls k := fun i _ _ hi => by omega
theorem size_str : (Tryz.prog.info? 9).map (·.size) = some 1 := by kernel_rfl
theorem one_str : OneT Tryz.prog 9 := ⟨⟨_, Tryz.underlying9, rfl⟩, by kernel_rfl⟩
theorem exec_load_oneU {P : Program} {o : Oper} {a : Act} {w : World} {ty : TypeId} {x : Operand} {p : Addr} {v : Value} (ho : o.op = .load ty x) (hx : a.eval x = .pointer (some p)) (hc : w.cell? p = some v) (ht : OneT P ty) :
    (execOp a.eval o).run P w = .ok (.value v) w := by
  obtain ⟨⟨d, hu, hd⟩, hi⟩ := ht
  have hagg : (isAgg ty).run P w = .ok false w := by
    unfold isAgg
    rw [Sem.run_bind, run_underlying hu w]
    cases d <;> simp_all
  unfold execOp
  simp only [ho, hx, Instr.loadAt, Instr.sureAddr, Sem.run_bind, Sem.run_pure, Result.andThen_ok]
  simp [loadVar, Sem.run_bind, hagg, go_sem, hc]
theorem strs_at {w : World} {a : Option Addr} {ls : List ByteArray} {k : Nat} {x : ByteArray} (h : Cells w a (ls.map encStr)) (hx : ls[k]? = some x) : ∃ A, a = some A ∧ w.cell? (A.add (k * 1)) = some (.string x) := by
  obtain ⟨g, o, rfl, h2⟩ := h.some_of (by rw [List.length_map]; have := (List.getElem?_eq_some_iff.1 hx).1; omega)
  exact ⟨_, rfl, by rw [addr_add, Nat.mul_one]; exact h2 k _ (encs_getS hx)⟩
end

section
open Go Go.RowKit

set_option maxHeartbeats 1000000 in
theorem indexFS_c (p : ByteArray → Bool) (g : Nat) (lb : Array Value) (ls : List ByteArray) (a : Option Addr) (n c : Nat) (w : World) (eg : ∀ args w, (callFunc g args).run Tryz.prog w = .ok (.enter g args) w) (hn : ls.length = n) (hb63 : n ≤ 4611686018427387904) (hx : Cells w a (ls.map encStr))
    (hp : ∀ y ∈ ls, ∀ w', Ext w w' → Calls Tryz.prog g (#[.string y] ++ lb) w' fun e w'' => e = .returned (.bool (p y)) ∧ Ext w' w'') :
    Calls Tryz.prog 82 #[.slice a n c, .func (.func g) #[] lb] w fun e w' => ∃ z : Int, e = .returned (.int .i64 z) ∧ decide (0 ≤ z) = ls.any p ∧ Ext w w' := by
  have HN := hid hn
  have HX := hid hx
  have HP := hid hp
  clear hn hx hp
  go_enter Tryz.func82, Tryz.ntmps82
  go_wp2
  go_loopw [8] (fun i wr => ∃ k : Nat, k ≤ n ∧ i = .int .i64 (k : Int) ∧ (ls.take k).any p = false ∧ Ext w wr) (fun i _ => n - (intOf i).toNat)
  case atStart => exact ⟨0, by omega, rfl, by simp, Ext.refl _⟩
  case round =>
    obtain ⟨k, hk, rfl, hpre, e1⟩ := hrel
    have E1 := hid e1
    have HPR := hid hpre
    clear e1 hpre
    by_cases hlt : k < n
    · obtain ⟨x, hxk⟩ : ∃ x, ls[k]? = some x := ⟨ls[k]'(by rw [HN.out]; exact hlt), by simp⟩
      obtain ⟨A, rfl, hca⟩ : ∃ A, a = some A ∧ w.cell? (A.add k) = some (.string x) := by
        obtain ⟨g, o, rfl, h⟩ := HX.out.some_of (by rw [List.length_map, HN.out]; omega)
        exact ⟨_, rfl, by rw [addr_add]; exact h k _ (encs_getS hxk)⟩
      have hcl := cell_extU hca E1.out
      have hcall := hid (HP.out x (List.mem_of_getElem? hxk) wr E1.out)
      have hstep : (ls.take (k + 1)).any p = p x := by rw [List.take_add_one, hxk, List.any_append, HPR.out]; simp
      have HS := hid hstep
      have hany : p x = true → ls.any p = true := fun h => List.any_eq_true.2 ⟨x, List.mem_of_getElem? hxk, h⟩
      clear hca hxk hstep
      cases hq : p x with
      | true =>
        rw [hq] at hcall
        have HR := hid (hany hq)
        clear hany hq HS
        go_wp2_with fail
        refine hcall.out.mono ?_
        rintro e w' ⟨rfl, e2⟩
        go_wp2_with fail
        go_ret
        exact ⟨_, rfl, by rw [HR.out]; exact decide_eq_true (by omega), E1.out.ext e2⟩
      | false =>
        rw [hq] at hcall HS
        clear hany hq
        go_wp2_with fail
        refine hcall.out.mono ?_
        rintro e w' ⟨rfl, e2⟩
        go_wp2_with fail
        have E2 := hid (E1.out.ext e2)
        clear e2
        go_roundw
        case rel => exact ⟨k + 1, by omega, by go_num, HS.out, E2.out⟩
        case measure => simp [intOf]; omega
    · obtain rfl : k = n := by omega
      have hres := HPR.out
      rw [List.take_of_length_le (by rw [HN.out]; exact Nat.le_refl _)] at hres
      have HR := hid hres
      clear hres
      go_wp2
      go_ret
      exact ⟨-1, rfl, by rw [HR.out]; rfl, E1.out⟩

set_option maxHeartbeats 1000000 in
theorem containsFS_c (p : ByteArray → Bool) (g : Nat) (lb : Array Value) (ls : List ByteArray) (a : Option Addr) (n c : Nat) (w : World) (eg : ∀ args w, (callFunc g args).run Tryz.prog w = .ok (.enter g args) w) (hn : ls.length = n) (hb63 : n ≤ 4611686018427387904) (hx : Cells w a (ls.map encStr))
    (hp : ∀ y ∈ ls, ∀ w', Ext w w' → Calls Tryz.prog g (#[.string y] ++ lb) w' fun e w'' => e = .returned (.bool (p y)) ∧ Ext w' w'') :
    Calls Tryz.prog 53 #[.slice a n c, .func (.func g) #[] lb] w fun e w' => e = .returned (.bool (ls.any p)) ∧ Ext w w' := by
  have hi := hid (indexFS_c p g lb ls a n c w eg hn hb63 hx hp)
  clear hp hx hn eg
  generalize ls.any p = b at *
  generalize Value.func (.func g) #[] lb = fv at *
  go_enter Tryz.func53, Tryz.ntmps53
  go_wp2_with fail
  refine hi.out.mono ?_
  rintro e w1 ⟨z, rfl, hz, e1⟩
  have E1 := hid e1
  clear e1 hi
  go_wp2_with fail
  go_ret
  exact ⟨by first | rfl | rw [hz], E1.out⟩

set_option maxHeartbeats 1000000 in
theorem indexS_c (x : ByteArray) (ls : List ByteArray) (a : Option Addr) (n c : Nat) (w : World) (hn : ls.length = n) (hb63 : n ≤ 4611686018427387904) (hx : Cells w a (ls.map encStr)) :
    Calls Tryz.prog 111 #[.slice a n c, .string x] w fun e w' => ∃ z : Int, e = .returned (.int .i64 z) ∧ (0 ≤ z ↔ x ∈ ls) ∧ w = w' := by
  have HN := hid hn
  have HX := hid hx
  clear hn hx
  go_enter Tryz.func111, Tryz.ntmps111
  go_wp2
  go_loop [5, 8] (fun _ i => ∃ k : Nat, k ≤ n ∧ i = .int .i64 (k : Int) ∧ Hid (x ∉ ls.take k)) (fun _ i => n - (intOf i).toNat)
  case atStart => exact ⟨0, by omega, rfl, hid (by simp)⟩
  case round =>
    obtain ⟨k, hk, rfl, hpre⟩ := hrel
    by_cases hlt : k < n
    · obtain ⟨y, hyk⟩ : ∃ y, ls[k]? = some y := ⟨ls[k]'(by rw [HN.out]; exact hlt), by simp⟩
      obtain ⟨A, rfl, hca⟩ : ∃ A, a = some A ∧ w.cell? (A.add k) = some (.string y) := by
        obtain ⟨g, o, rfl, h⟩ := HX.out.some_of (by rw [List.length_map, HN.out]; omega)
        exact ⟨_, rfl, by rw [addr_add]; exact h k _ (encs_getS hyk)⟩
      have hmem := hid (List.mem_of_getElem? hyk)
      have hstep : y ≠ x → x ∉ ls.take (k + 1) := by
        intro h hm
        rw [List.take_add_one, hyk, List.mem_append] at hm
        rcases hm with hm | hm
        · exact hpre.out hm
        · simp at hm; exact h hm.symm
      have HS := hid hstep
      have heq := (show ((x.toList == y.toList) = true ↔ y = x) from (bytes_beqU x y).trans eq_comm)
      clear hyk hstep
      by_cases hxy : y = x
      · subst hxy
        have q := heq.2 rfl
        clear heq
        go_wp2
        go_ret
        exact ⟨_, rfl, ⟨fun _ => hmem.out, fun _ => by omega⟩, rfl⟩
      · have q : _ = false := Bool.eq_false_iff.2 fun h => hxy (heq.1 h)
        have HS2 := hid (HS.out hxy)
        clear heq hmem hxy HS
        go_wp2
        go_round
        case rel => exact ⟨k + 1, by omega, by go_num, HS2⟩
        case measure => simp [intOf]; omega
    · obtain rfl : k = n := by omega
      have hres := hpre.out
      rw [List.take_of_length_le (by rw [HN.out]; exact Nat.le_refl _)] at hres
      have HR := hid hres
      clear hres hpre
      go_wp2
      go_ret
      exact ⟨-1, rfl, ⟨fun h => absurd h (by decide), fun h => absurd h HR.out⟩, rfl⟩

set_option maxHeartbeats 1000000 in
theorem containsS_c (x : ByteArray) (ls : List ByteArray) (a : Option Addr) (n c : Nat) (w : World) (hn : ls.length = n) (hb63 : n ≤ 4611686018427387904) (hx : Cells w a (ls.map encStr)) :
    Calls Tryz.prog 70 #[.slice a n c, .string x] w fun e w' => ∃ b : Bool, e = .returned (.bool b) ∧ (b = true ↔ x ∈ ls) ∧ w = w' := by
  have hi := hid (indexS_c x ls a n c w hn hb63 hx)
  clear hx hn
  go_enter Tryz.func70, Tryz.ntmps70
  go_wp2_with fail
  refine hi.out.mono ?_
  rintro e w1 ⟨z, rfl, hz, rfl⟩
  have HZ := hid hz
  clear hi hz
  go_wp2_with fail
  go_ret
  exact ⟨_, rfl, by simpa using HZ.out, rfl⟩
end

section
open Go Go.RowKit

def encI : Int → Value := .int .i64
theorem encs_getI {ls : List Int} {k : Nat} {x : Int} (h : ls[k]? = some x) : (ls.map encI)[k]? = some (.int .i64 x) := by rw [List.getElem?_map, h]; rfl
theorem one_tI : OneT Tryz.prog 3 := ⟨⟨_, Tryz.underlying3, rfl⟩, by kernel_rfl⟩

set_option maxHeartbeats 1000000 in
theorem indexFI_c (p : Int → Bool) (g : Nat) (lb : Array Value) (ls : List Int) (a : Option Addr) (n c : Nat) (w : World) (eg : ∀ args w, (callFunc g args).run Tryz.prog w = .ok (.enter g args) w) (hn : ls.length = n) (hb63 : n ≤ 4611686018427387904) (hx : Cells w a (ls.map encI))
    (hp : ∀ y ∈ ls, ∀ w', Ext w w' → Calls Tryz.prog g (#[.int .i64 y] ++ lb) w' fun e w'' => e = .returned (.bool (p y)) ∧ Ext w' w'') :
    Calls Tryz.prog 83 #[.slice a n c, .func (.func g) #[] lb] w fun e w' => ∃ z : Int, e = .returned (.int .i64 z) ∧ decide (0 ≤ z) = ls.any p ∧ Ext w w' := by
  have HN := hid hn
  have HX := hid hx
  have HP := hid hp
  clear hn hx hp
  go_enter Tryz.func83, Tryz.ntmps83
  go_wp2
  go_loopw [8] (fun i wr => ∃ k : Nat, k ≤ n ∧ i = .int .i64 (k : Int) ∧ (ls.take k).any p = false ∧ Ext w wr) (fun i _ => n - (intOf i).toNat)
  case atStart => exact ⟨0, by omega, rfl, by simp, Ext.refl _⟩
  case round =>
    obtain ⟨k, hk, rfl, hpre, e1⟩ := hrel
    have E1 := hid e1
    have HPR := hid hpre
    clear e1 hpre
    by_cases hlt : k < n
    · obtain ⟨x, hxk⟩ : ∃ x, ls[k]? = some x := ⟨ls[k]'(by rw [HN.out]; exact hlt), by simp⟩
      obtain ⟨A, rfl, hca⟩ : ∃ A, a = some A ∧ w.cell? (A.add k) = some (.int .i64 x) := by
        obtain ⟨g, o, rfl, h⟩ := HX.out.some_of (by rw [List.length_map, HN.out]; omega)
        exact ⟨_, rfl, by rw [addr_add]; exact h k _ (encs_getI hxk)⟩
      have hcl := cell_extU hca E1.out
      have hcall := hid (HP.out x (List.mem_of_getElem? hxk) wr E1.out)
      have hstep : (ls.take (k + 1)).any p = p x := by rw [List.take_add_one, hxk, List.any_append, HPR.out]; simp
      have HS := hid hstep
      have hany : p x = true → ls.any p = true := fun h => List.any_eq_true.2 ⟨x, List.mem_of_getElem? hxk, h⟩
      clear hca hxk hstep
      cases hq : p x with
      | true =>
        rw [hq] at hcall
        have HR := hid (hany hq)
        clear hany hq HS
        go_wp2_with fail
        refine hcall.out.mono ?_
        rintro e w' ⟨rfl, e2⟩
        go_wp2_with fail
        go_ret
        exact ⟨_, rfl, by rw [HR.out]; exact decide_eq_true (by omega), E1.out.ext e2⟩
      | false =>
        rw [hq] at hcall HS
        clear hany hq
        go_wp2_with fail
        refine hcall.out.mono ?_
        rintro e w' ⟨rfl, e2⟩
        go_wp2_with fail
        have E2 := hid (E1.out.ext e2)
        clear e2
        go_roundw
        case rel => exact ⟨k + 1, by omega, by go_num, HS.out, E2.out⟩
        case measure => simp [intOf]; omega
    · obtain rfl : k = n := by omega
      have hres := HPR.out
      rw [List.take_of_length_le (by rw [HN.out]; exact Nat.le_refl _)] at hres
      have HR := hid hres
      clear hres
      go_wp2
      go_ret
      exact ⟨-1, rfl, by rw [HR.out]; rfl, E1.out⟩

set_option maxHeartbeats 1000000 in
theorem containsFI_c (p : Int → Bool) (g : Nat) (lb : Array Value) (ls : List Int) (a : Option Addr) (n c : Nat) (w : World) (eg : ∀ args w, (callFunc g args).run Tryz.prog w = .ok (.enter g args) w) (hn : ls.length = n) (hb63 : n ≤ 4611686018427387904) (hx : Cells w a (ls.map encI))
    (hp : ∀ y ∈ ls, ∀ w', Ext w w' → Calls Tryz.prog g (#[.int .i64 y] ++ lb) w' fun e w'' => e = .returned (.bool (p y)) ∧ Ext w' w'') :
    Calls Tryz.prog 55 #[.slice a n c, .func (.func g) #[] lb] w fun e w' => e = .returned (.bool (ls.any p)) ∧ Ext w w' := by
  have hi := hid (indexFI_c p g lb ls a n c w eg hn hb63 hx hp)
  clear hp hx hn eg
  generalize ls.any p = b at *
  generalize Value.func (.func g) #[] lb = fv at *
  go_enter Tryz.func55, Tryz.ntmps55
  go_wp2_with fail
  refine hi.out.mono ?_
  rintro e w1 ⟨z, rfl, hz, e1⟩
  have E1 := hid e1
  clear e1 hi
  go_wp2_with fail
  go_ret
  exact ⟨by first | rfl | rw [hz], E1.out⟩

set_option maxHeartbeats 1000000 in
theorem indexI_c (x : Int) (ls : List Int) (a : Option Addr) (n c : Nat) (w : World) (hn : ls.length = n) (hb63 : n ≤ 4611686018427387904) (hx : Cells w a (ls.map encI)) :
    Calls Tryz.prog 112 #[.slice a n c, .int .i64 x] w fun e w' => ∃ z : Int, e = .returned (.int .i64 z) ∧ (0 ≤ z ↔ x ∈ ls) ∧ w = w' := by
  have HN := hid hn
  have HX := hid hx
  clear hn hx
  go_enter Tryz.func112, Tryz.ntmps112
  go_wp2
  go_loop [5, 8] (fun _ i => ∃ k : Nat, k ≤ n ∧ i = .int .i64 (k : Int) ∧ Hid (x ∉ ls.take k)) (fun _ i => n - (intOf i).toNat)
  case atStart => exact ⟨0, by omega, rfl, hid (by simp)⟩
  case round =>
    obtain ⟨k, hk, rfl, hpre⟩ := hrel
    by_cases hlt : k < n
    · obtain ⟨y, hyk⟩ : ∃ y, ls[k]? = some y := ⟨ls[k]'(by rw [HN.out]; exact hlt), by simp⟩
      obtain ⟨A, rfl, hca⟩ : ∃ A, a = some A ∧ w.cell? (A.add k) = some (.int .i64 y) := by
        obtain ⟨g, o, rfl, h⟩ := HX.out.some_of (by rw [List.length_map, HN.out]; omega)
        exact ⟨_, rfl, by rw [addr_add]; exact h k _ (encs_getI hyk)⟩
      have hmem := hid (List.mem_of_getElem? hyk)
      have hstep : y ≠ x → x ∉ ls.take (k + 1) := by
        intro h hm
        rw [List.take_add_one, hyk, List.mem_append] at hm
        rcases hm with hm | hm
        · exact hpre.out hm
        · simp at hm; exact h hm.symm
      have HS := hid hstep
      have heq := (show ((x == y) = true ↔ y = x) from by rw [beq_iff_eq]; exact eq_comm)
      clear hyk hstep
      by_cases hxy : y = x
      · subst hxy
        have q := heq.2 rfl
        clear heq
        go_wp2
        go_ret
        exact ⟨_, rfl, ⟨fun _ => hmem.out, fun _ => by omega⟩, rfl⟩
      · have q : _ = false := Bool.eq_false_iff.2 fun h => hxy (heq.1 h)
        have HS2 := hid (HS.out hxy)
        clear heq hmem hxy HS
        go_wp2
        go_round
        case rel => exact ⟨k + 1, by omega, by go_num, HS2⟩
        case measure => simp [intOf]; omega
    · obtain rfl : k = n := by omega
      have hres := hpre.out
      rw [List.take_of_length_le (by rw [HN.out]; exact Nat.le_refl _)] at hres
      have HR := hid hres
      clear hres hpre
      go_wp2
      go_ret
      exact ⟨-1, rfl, ⟨fun h => absurd h (by decide), fun h => absurd h HR.out⟩, rfl⟩

set_option maxHeartbeats 1000000 in
theorem containsI_c (x : Int) (ls : List Int) (a : Option Addr) (n c : Nat) (w : World) (hn : ls.length = n) (hb63 : n ≤ 4611686018427387904) (hx : Cells w a (ls.map encI)) :
    Calls Tryz.prog 71 #[.slice a n c, .int .i64 x] w fun e w' => ∃ b : Bool, e = .returned (.bool b) ∧ (b = true ↔ x ∈ ls) ∧ w = w' := by
  have hi := hid (indexI_c x ls a n c w hn hb63 hx)
  clear hx hn
  go_enter Tryz.func71, Tryz.ntmps71
  go_wp2_with fail
  refine hi.out.mono ?_
  rintro e w1 ⟨z, rfl, hz, rfl⟩
  have HZ := hid hz
  clear hi hz
  go_wp2_with fail
  go_ret
  exact ⟨_, rfl, by simpa using HZ.out, rfl⟩
end

section
open Go Go.RowKit Go.Maps Go.MapKept Go.WideShapes

theorem enc_memS {x : ByteArray} {ls : List ByteArray} : (.string x) ∈ ls.map encStr ↔ x ∈ ls := by
  rw [List.mem_map]
  constructor
  · rintro ⟨y, hy, he⟩
    unfold encStr at he
    injection he with he
    rw [← he]; exact hy
  · intro h; exact ⟨x, h, rfl⟩
theorem nodup_stepS {ls : List ByteArray} {k : Nat} {x : ByteArray} (h : ls[k]? = some x) (hn : (ls.take k).Nodup) : (x ∉ ls.take k → (ls.take (k + 1)).Nodup) ∧ (x ∈ ls.take k → ¬ ls.Nodup) := by
  have ht : ls.take (k + 1) = ls.take k ++ [x] := by rw [List.take_add_one, h]; rfl
  refine ⟨fun hx => ?_, fun hx hd => ?_⟩
  · rw [ht, List.nodup_append]
    refine ⟨hn, by simp, ?_⟩
    intro a ha b hb
    rw [List.mem_singleton] at hb
    subst hb
    intro e; subst e; exact hx ha
  · have h2 : (ls.take (k + 1)).Nodup := hd.sublist (List.take_sublist _ _)
    rw [ht, List.nodup_append] at h2
    exact h2.2.2 x hx x (by simp) rfl

set_option maxHeartbeats 1000000 in
theorem twiceS_c (ls : List ByteArray) (a : Option Addr) (n c : Nat) (w : World) (hn : ls.length = n) (hb63 : n ≤ 4611686018427387904) (hx : Cells w a (ls.map encStr)) (hkey : Keys Tryz.prog 9 (ls.map encStr)) :
    Calls Tryz.prog 119 #[.slice a n c] w fun e w' => ∃ b : Bool, e = .returned (.bool b) ∧ (b = true ↔ ¬ ls.Nodup) ∧ Ext w w' := by
  have HN := hid hn
  have HX := hid hx
  have HK := hid hkey
  clear hn hx hkey
  have hmk := run_makeMapU (P := Tryz.prog) 142 w
  go_enter Tryz.func119, Tryz.ntmps119
  go_upto_region 2 with (fail)
  generalize hwA : World.alloc w _ = wA
  have sA : SetAt wA w.heap.size [] := by rw [← hwA]; exact SetAt.new w
  have eA : Ext w wA := by rw [← hwA]; exact (Ext.refl w).alloc _
  have SA := hid sA
  have EA := hid eA
  clear hwA sA eA hmk

  go_wp2
  go_loopw [9] (fun i wr => ∃ k : Nat, k ≤ n ∧ i = .int .i64 (k : Int) ∧ (ls.take k).Nodup ∧ SetAt wr w.heap.size ((ls.take k).map encStr) ∧ Ext w wr) (fun i _ => n - (intOf i).toNat)
  case atStart => exact ⟨0, by omega, rfl, by simp, by simpa using SA.out, EA.out⟩
  case round =>
    obtain ⟨k, hk, rfl, hpre, hset, e1⟩ := hrel
    have E1 := hid e1
    have HPR := hid hpre
    have HSET := hid hset
    clear e1 hpre hset
    by_cases hlt : k < n
    · obtain ⟨x, hxk⟩ : ∃ x, ls[k]? = some x := ⟨ls[k]'(by rw [HN.out]; exact hlt), by simp⟩
      obtain ⟨A, rfl, hca⟩ : ∃ A, a = some A ∧ w.cell? (A.add k) = some (.string x) := by
        obtain ⟨g, o, rfl, h⟩ := HX.out.some_of (by rw [List.length_map, HN.out]; omega)
        exact ⟨_, rfl, by rw [addr_add]; exact h k _ (encs_getS hxk)⟩
      have hcl := cell_extU hca E1.out
      have HST := hid (nodup_stepS hxk HPR.out)
      have HT := hid (show (ls.take (k + 1)).map encStr = (ls.take k).map encStr ++ [.string x] by rw [List.take_add_one, hxk]; simp [encStr])
      have hks : Keys Tryz.prog 9 ((ls.take k).map encStr) := fun v hv => by
        obtain ⟨y, hy, rfl⟩ := List.mem_map.1 hv
        exact HK.out _ (List.mem_map.2 ⟨y, List.mem_of_mem_take hy, rfl⟩)
      obtain ⟨kl, hkl⟩ := HK.out (.string x) (enc_memS.2 (List.mem_of_getElem? hxk))
      obtain ⟨b, hlk, hb⟩ := run_lookup_set (string_keyed Tryz.underlying9) Tryz.underlying142 (by kernel_rfl) HSET.out hks hkl
      obtain ⟨wU, ks', hup, hU, hS', hor⟩ := run_update_set (string_keyed Tryz.underlying9) Tryz.underlying142 HSET.out hks hkl
      have HU := hid hU
      have HS := hid hS'
      have HOR := hid hor
      rw [enc_memS] at hb
      have HB := hid hb
      clear hca hxk hks hkl hU hS' hor hb
      cases b with
      | true =>
        have HD := hid (HST.out.2 (HB.out.1 rfl))
        clear hup HB HST HOR HS HU HT
        go_wp2
        go_ret
        exact ⟨true, rfl, (by first | exact ⟨fun _ => HD.out, fun _ => rfl⟩ | exact ⟨fun _ => HD.out, fun _ => trivial⟩ | simpa using HD.out), E1.out⟩
      | false =>
        have hnx : x ∉ ls.take k := fun h => by have := HB.out.2 h; cases this
        have hks2 : ks' = (ls.take (k + 1)).map encStr := by
          rcases HOR.out with ⟨h, _⟩ | ⟨_, h⟩
          · exact absurd (enc_memS.1 h) hnx
          · rw [h, HT.out]
        have HS2 := hid (hks2 ▸ HS.out)
        have HND := hid (HST.out.1 hnx)
        have E2 := hid (HU.out.ext E1.out (Nat.le_refl _))
        clear hnx hks2 HOR HS HST HT HB HSET HPR
        go_wp2
        go_roundw
        case rel => exact ⟨k + 1, by omega, by go_num, HND.out, HS2.out, E2.out⟩
        case measure => simp [intOf]; omega
    · obtain rfl : k = n := by omega
      have hres := HPR.out
      rw [List.take_of_length_le (by rw [HN.out]; exact Nat.le_refl _)] at hres
      have HR := hid hres
      clear hres
      go_wp2
      go_ret
      exact ⟨false, rfl, (by first | exact ⟨fun h => (Bool.noConfusion h), fun h => absurd HR.out h⟩ | exact HR.out | simpa using HR.out), E1.out⟩

set_option maxHeartbeats 1000000 in
theorem rtwiceS_c (ls : List ByteArray) (a : Option Addr) (n c : Nat) (w : World) (hn : ls.length = n) (hb63 : n ≤ 4611686018427387904) (hnc : n ≤ c) (hx : Cells w a (ls.map encStr)) :
    Calls Tryz.prog 59 #[.slice a n c] w fun e w' => ∃ b : Bool, e = .returned (.bool b) ∧ (b = true ↔ ¬ ls.Nodup) ∧ Ext w w' := by
  have HN := hid hn
  have HX := hid hx
  clear hn hx
  go_enter Tryz.func59, Tryz.ntmps59
  go_wp2
  go_loopw [7] (fun i wr => ∃ k : Nat, k ≤ n ∧ i = .int .i64 (k : Int) ∧ (ls.take k).Nodup ∧ Ext w wr) (fun i _ => n - (intOf i).toNat)
  case atStart => exact ⟨0, by omega, rfl, by simp, Ext.refl _⟩
  case round =>
    obtain ⟨k, hk, rfl, hpre, e1⟩ := hrel
    have E1 := hid e1
    have HPR := hid hpre
    clear e1 hpre
    by_cases hlt : k < n
    · obtain ⟨x, hxk⟩ : ∃ x, ls[k]? = some x := ⟨ls[k]'(by rw [HN.out]; exact hlt), by simp⟩
      obtain ⟨A, rfl, hca⟩ : ∃ A, a = some A ∧ w.cell? (A.add k) = some (.string x) := by
        obtain ⟨g, o, rfl, h⟩ := HX.out.some_of (by rw [List.length_map, HN.out]; omega)
        exact ⟨_, rfl, by rw [addr_add]; exact h k _ (encs_getS hxk)⟩
      have hcl := cell_extU hca E1.out
      have HST := hid (nodup_stepS hxk HPR.out)
      have hcx : Cells wr (some A) ((ls.take k).map encStr) := by rw [List.map_take]; exact (HX.out.ext E1.out).take k
      have hlk : (ls.take k).length = k := by rw [List.length_take, HN.out]; omega
      have hct := hid (containsS_c x (ls.take k) (some A) k c wr hlk (by omega) hcx)
      have hkc : k ≤ c := by omega
      clear hca hxk hcx hlk
      go_wp2_with fail
      refine hct.out.mono ?_
      rintro e wU ⟨b, rfl, hb, rfl⟩
      have HB := hid hb
      clear hb hct
      cases b with
      | true =>
        have HD := hid (HST.out.2 (HB.out.1 rfl))
        clear HB HST
        go_wp2_with fail
        go_ret
        exact ⟨true, rfl, (by first | exact ⟨fun _ => HD.out, fun _ => rfl⟩ | exact ⟨fun _ => HD.out, fun _ => trivial⟩ | simpa using HD.out), E1.out⟩
      | false =>
        have HND := hid (HST.out.1 fun h => by have := HB.out.2 h; cases this)
        clear HST HB HPR
        go_wp2_with fail
        go_roundw
        case rel => exact ⟨k + 1, by omega, by go_num, HND.out, E1.out⟩
        case measure => simp [intOf]; omega
    · obtain rfl : k = n := by omega
      have hres := HPR.out
      rw [List.take_of_length_le (by rw [HN.out]; exact Nat.le_refl _)] at hres
      have HR := hid hres
      clear hres
      go_wp2
      go_ret
      exact ⟨false, rfl, (by first | exact ⟨fun h => (Bool.noConfusion h), fun h => absurd HR.out h⟩ | exact HR.out | simpa using HR.out), E1.out⟩
end

section
open Go Go.RowKit Go.Maps Go.MapKept Go.WideShapes

theorem enc_memI {x : Int} {ls : List Int} : (.int .i64 x) ∈ ls.map encI ↔ x ∈ ls := by
  rw [List.mem_map]
  constructor
  · rintro ⟨y, hy, he⟩
    unfold encI at he
    injection he with _ he
    rw [← he]; exact hy
  · intro h; exact ⟨x, h, rfl⟩
theorem nodup_stepI {ls : List Int} {k : Nat} {x : Int} (h : ls[k]? = some x) (hn : (ls.take k).Nodup) : (x ∉ ls.take k → (ls.take (k + 1)).Nodup) ∧ (x ∈ ls.take k → ¬ ls.Nodup) := by
  have ht : ls.take (k + 1) = ls.take k ++ [x] := by rw [List.take_add_one, h]; rfl
  refine ⟨fun hx => ?_, fun hx hd => ?_⟩
  · rw [ht, List.nodup_append]
    refine ⟨hn, by simp, ?_⟩
    intro a ha b hb
    rw [List.mem_singleton] at hb
    subst hb
    intro e; subst e; exact hx ha
  · have h2 : (ls.take (k + 1)).Nodup := hd.sublist (List.take_sublist _ _)
    rw [ht, List.nodup_append] at h2
    exact h2.2.2 x hx x (by simp) rfl

set_option maxHeartbeats 1000000 in
theorem twiceI_c (ls : List Int) (a : Option Addr) (n c : Nat) (w : World) (hn : ls.length = n) (hb63 : n ≤ 4611686018427387904) (hx : Cells w a (ls.map encI)) (hkey : Keys Tryz.prog 3 (ls.map encI)) :
    Calls Tryz.prog 120 #[.slice a n c] w fun e w' => ∃ b : Bool, e = .returned (.bool b) ∧ (b = true ↔ ¬ ls.Nodup) ∧ Ext w w' := by
  have HN := hid hn
  have HX := hid hx
  have HK := hid hkey
  clear hn hx hkey
  have hmk := run_makeMapU (P := Tryz.prog) 149 w
  go_enter Tryz.func120, Tryz.ntmps120
  go_upto_region 2 with (fail)
  generalize hwA : World.alloc w _ = wA
  have sA : SetAt wA w.heap.size [] := by rw [← hwA]; exact SetAt.new w
  have eA : Ext w wA := by rw [← hwA]; exact (Ext.refl w).alloc _
  have SA := hid sA
  have EA := hid eA
  clear hwA sA eA hmk

  go_wp2
  go_loopw [9] (fun i wr => ∃ k : Nat, k ≤ n ∧ i = .int .i64 (k : Int) ∧ (ls.take k).Nodup ∧ SetAt wr w.heap.size ((ls.take k).map encI) ∧ Ext w wr) (fun i _ => n - (intOf i).toNat)
  case atStart => exact ⟨0, by omega, rfl, by simp, by simpa using SA.out, EA.out⟩
  case round =>
    obtain ⟨k, hk, rfl, hpre, hset, e1⟩ := hrel
    have E1 := hid e1
    have HPR := hid hpre
    have HSET := hid hset
    clear e1 hpre hset
    by_cases hlt : k < n
    · obtain ⟨x, hxk⟩ : ∃ x, ls[k]? = some x := ⟨ls[k]'(by rw [HN.out]; exact hlt), by simp⟩
      obtain ⟨A, rfl, hca⟩ : ∃ A, a = some A ∧ w.cell? (A.add k) = some (.int .i64 x) := by
        obtain ⟨g, o, rfl, h⟩ := HX.out.some_of (by rw [List.length_map, HN.out]; omega)
        exact ⟨_, rfl, by rw [addr_add]; exact h k _ (encs_getI hxk)⟩
      have hcl := cell_extU hca E1.out
      have HST := hid (nodup_stepI hxk HPR.out)
      have HT := hid (show (ls.take (k + 1)).map encI = (ls.take k).map encI ++ [.int .i64 x] by rw [List.take_add_one, hxk]; simp [encI])
      have hks : Keys Tryz.prog 3 ((ls.take k).map encI) := fun v hv => by
        obtain ⟨y, hy, rfl⟩ := List.mem_map.1 hv
        exact HK.out _ (List.mem_map.2 ⟨y, List.mem_of_mem_take hy, rfl⟩)
      obtain ⟨kl, hkl⟩ := HK.out (.int .i64 x) (enc_memI.2 (List.mem_of_getElem? hxk))
      obtain ⟨b, hlk, hb⟩ := run_lookup_set (int_keyed Tryz.underlying3) Tryz.underlying149 (by kernel_rfl) HSET.out hks hkl
      obtain ⟨wU, ks', hup, hU, hS', hor⟩ := run_update_set (int_keyed Tryz.underlying3) Tryz.underlying149 HSET.out hks hkl
      have HU := hid hU
      have HS := hid hS'
      have HOR := hid hor
      rw [enc_memI] at hb
      have HB := hid hb
      clear hca hxk hks hkl hU hS' hor hb
      cases b with
      | true =>
        have HD := hid (HST.out.2 (HB.out.1 rfl))
        clear hup HB HST HOR HS HU HT
        go_wp2
        go_ret
        exact ⟨true, rfl, (by first | exact ⟨fun _ => HD.out, fun _ => rfl⟩ | exact ⟨fun _ => HD.out, fun _ => trivial⟩ | simpa using HD.out), E1.out⟩
      | false =>
        have hnx : x ∉ ls.take k := fun h => by have := HB.out.2 h; cases this
        have hks2 : ks' = (ls.take (k + 1)).map encI := by
          rcases HOR.out with ⟨h, _⟩ | ⟨_, h⟩
          · exact absurd (enc_memI.1 h) hnx
          · rw [h, HT.out]
        have HS2 := hid (hks2 ▸ HS.out)
        have HND := hid (HST.out.1 hnx)
        have E2 := hid (HU.out.ext E1.out (Nat.le_refl _))
        clear hnx hks2 HOR HS HST HT HB HSET HPR
        go_wp2
        go_roundw
        case rel => exact ⟨k + 1, by omega, by go_num, HND.out, HS2.out, E2.out⟩
        case measure => simp [intOf]; omega
    · obtain rfl : k = n := by omega
      have hres := HPR.out
      rw [List.take_of_length_le (by rw [HN.out]; exact Nat.le_refl _)] at hres
      have HR := hid hres
      clear hres
      go_wp2
      go_ret
      exact ⟨false, rfl, (by first | exact ⟨fun h => (Bool.noConfusion h), fun h => absurd HR.out h⟩ | exact HR.out | simpa using HR.out), E1.out⟩

set_option maxHeartbeats 1000000 in
theorem rtwiceI_c (ls : List Int) (a : Option Addr) (n c : Nat) (w : World) (hn : ls.length = n) (hb63 : n ≤ 4611686018427387904) (hnc : n ≤ c) (hx : Cells w a (ls.map encI)) :
    Calls Tryz.prog 60 #[.slice a n c] w fun e w' => ∃ b : Bool, e = .returned (.bool b) ∧ (b = true ↔ ¬ ls.Nodup) ∧ Ext w w' := by
  have HN := hid hn
  have HX := hid hx
  clear hn hx
  go_enter Tryz.func60, Tryz.ntmps60
  go_wp2
  go_loopw [7] (fun i wr => ∃ k : Nat, k ≤ n ∧ i = .int .i64 (k : Int) ∧ (ls.take k).Nodup ∧ Ext w wr) (fun i _ => n - (intOf i).toNat)
  case atStart => exact ⟨0, by omega, rfl, by simp, Ext.refl _⟩
  case round =>
    obtain ⟨k, hk, rfl, hpre, e1⟩ := hrel
    have E1 := hid e1
    have HPR := hid hpre
    clear e1 hpre
    by_cases hlt : k < n
    · obtain ⟨x, hxk⟩ : ∃ x, ls[k]? = some x := ⟨ls[k]'(by rw [HN.out]; exact hlt), by simp⟩
      obtain ⟨A, rfl, hca⟩ : ∃ A, a = some A ∧ w.cell? (A.add k) = some (.int .i64 x) := by
        obtain ⟨g, o, rfl, h⟩ := HX.out.some_of (by rw [List.length_map, HN.out]; omega)
        exact ⟨_, rfl, by rw [addr_add]; exact h k _ (encs_getI hxk)⟩
      have hcl := cell_extU hca E1.out
      have HST := hid (nodup_stepI hxk HPR.out)
      have hcx : Cells wr (some A) ((ls.take k).map encI) := by rw [List.map_take]; exact (HX.out.ext E1.out).take k
      have hlk : (ls.take k).length = k := by rw [List.length_take, HN.out]; omega
      have hct := hid (containsI_c x (ls.take k) (some A) k c wr hlk (by omega) hcx)
      have hkc : k ≤ c := by omega
      clear hca hxk hcx hlk
      go_wp2_with fail
      refine hct.out.mono ?_
      rintro e wU ⟨b, rfl, hb, rfl⟩
      have HB := hid hb
      clear hb hct
      cases b with
      | true =>
        have HD := hid (HST.out.2 (HB.out.1 rfl))
        clear HB HST
        go_wp2_with fail
        go_ret
        exact ⟨true, rfl, (by first | exact ⟨fun _ => HD.out, fun _ => rfl⟩ | exact ⟨fun _ => HD.out, fun _ => trivial⟩ | simpa using HD.out), E1.out⟩
      | false =>
        have HND := hid (HST.out.1 fun h => by have := HB.out.2 h; cases this)
        clear HST HB HPR
        go_wp2_with fail
        go_roundw
        case rel => exact ⟨k + 1, by omega, by go_num, HND.out, E1.out⟩
        case measure => simp [intOf]; omega
    · obtain rfl : k = n := by omega
      have hres := HPR.out
      rw [List.take_of_length_le (by rw [HN.out]; exact Nat.le_refl _)] at hres
      have HR := hid hres
      clear hres
      go_wp2
      go_ret
      exact ⟨false, rfl, (by first | exact ⟨fun h => (Bool.noConfusion h), fun h => absurd HR.out h⟩ | exact HR.out | simpa using HR.out), E1.out⟩
end

section
open Go Go.RowKit

theorem run_stringAt (s : ByteArray) (i : Nat) (c : UInt8) (h : s.data[i]? = some c) (w : World) : (Instr.index 9 (.string s) (.int .i64 (i : Int))).run Tryz.prog w = .ok (.int .u8 (c.toNat : Int)) w := by
  have h2 : s[i]? = some c := by
    have hi : i < s.size := (Array.getElem?_eq_some_iff.1 h).1
    rw [getElem?_pos s i hi]
    have := (Array.getElem?_eq_some_iff.1 h).2
    exact congrArg some this
  simp [Instr.index, asIntOf, run_underlying Tryz.underlying9, h2]

set_option maxRecDepth 100000 in
set_option maxHeartbeats 2000000 in
theorem isName_c (s : ByteArray) (w : World) (hn : s.size ≤ 140737488355328) :
    Calls Tryz.prog 124 #[.string s] w fun e w' => e = .returned (.bool (isNameL s.data.toList)) ∧ w = w' := by
  obtain ⟨n, hsn⟩ : ∃ n, s.size = n := ⟨_, rfl⟩
  have hll : s.data.toList.length = n := by rw [← hsn, Array.length_toList]; rfl
  obtain ⟨R, hR⟩ : ∃ R, isNameL s.data.toList = R := ⟨_, rfl⟩
  rw [hR]
  unfold isNameL at hR
  have HR := hid hR
  have HLL := hid hll
  have hat : ∀ i : Nat, s.data[i]? = s.data.toList[i]? := fun i => by rw [Array.getElem?_toList]
  have HAT := hid hat
  clear hR hll hat
  go_enter Tryz.func124, Tryz.ntmps124
  go_wp2
  go_loopw [3] (fun x wr => ∃ i : Nat, i ≤ n ∧ x = .int .i64 i ∧ Hid ((s.data.toList.take i).all nameOct = true) ∧ Hid (w = wr))
    (fun x _ => n - (intOf x).toNat)
  case atStart => exact ⟨0, by omega, rfl, hid (by simp), hid rfl⟩
  case round =>
    obtain ⟨i, hi, rfl, hall, hw⟩ := hrel
    by_cases hlt : i < n
    · have hd : decide ((i : Int) < (n : Int)) = true := decide_eq_true (by omega)
      obtain ⟨c, hc⟩ : ∃ c, s.data.toList[i]? = some c := ⟨_, List.getElem?_eq_getElem (by rw [HLL.out]; exact hlt)⟩
      have hix := fun w => run_stringAt s i c (by rw [HAT.out]; exact hc) w
      have hcn := c.toNat_lt
      have hstep : (s.data.toList.take (i + 1)).all nameOct = nameOct c := by
        rw [List.take_add_one, hc, List.all_append, hall.out]; simp
      have hbad : nameOct c = false → R = false := by
        intro hf
        have hm := List.mem_of_getElem? hc
        have : s.data.toList.all nameOct = false := by
          rw [List.all_eq_false]
          exact ⟨c, hm, by rw [hf]; simp⟩
        rw [← HR.out, this]; rfl
      have HST := hid hstep
      have HBAD := hid hbad
      obtain ⟨C, hC⟩ : ∃ C, c.toNat = C := ⟨_, rfl⟩
      rw [hC] at hix hcn
      have HC := hid hC
      have HIX := hid hix
      have hok : ∀ b, nameOct c = b ↔ ((decide (97 ≤ C) && decide (C ≤ 122)) || (decide (48 ≤ C) && decide (C ≤ 57)) || C == 45 || C == 46 || C == 95) = b := by
        intro b
        unfold nameOct
        rw [hC]
      have HOK := hid hok
      clear hstep hbad hC hok hc
      have i0 : (0 : Int) ≤ (i : Int) := by omega
      have i1 : (i : Int) < (n : Int) := by omega
      rcases (by omega : (97 ≤ C ∧ C ≤ 122) ∨ 122 < C ∨ (48 ≤ C ∧ C ≤ 57) ∨ C = 95 ∨ (57 < C ∧ C < 97 ∧ ¬ C = 95) ∨ C = 45 ∨ C = 46 ∨ (C < 48 ∧ ¬ C = 45 ∧ ¬ C = 46)) with h | h | h | h | h | h | h | h
      · have hok2 : nameOct c = true := (HOK.out true).2 (by simp; omega)
        have HO2 := hid hok2
        clear hok2
        have qa : decide (97 ≤ (C : Int)) = true := by simp; omega
        have qan : decide (97 ≤ C) = true := by simp; omega
        have qb : decide ((C : Int) ≤ 122) = true := by simp; omega
        have qbn : decide (C ≤ 122) = true := by simp; omega
        clear h
        have hix2 := HIX.out
        go_wp2
        go_roundw
        case rel => exact ⟨i + 1, by omega, by go_num, hid (by rw [HST.out, HO2.out]), hw⟩
        case measure => simp [intOf]; omega
      · have hok2 : nameOct c = false := (HOK.out false).2 (by simp; omega)
        have hR2 := HBAD.out hok2
        have HR2 := hid hR2
        clear hok2 hR2
        have qa : decide (97 ≤ (C : Int)) = true := by simp; omega
        have qan : decide (97 ≤ C) = true := by simp; omega
        have qb : decide ((C : Int) ≤ 122) = false := by simp; omega
        have qbn : decide (C ≤ 122) = false := by simp; omega
        have qd : decide (48 ≤ (C : Int)) = true := by simp; omega
        have qdn : decide (48 ≤ C) = true := by simp; omega
        have qe : decide ((C : Int) ≤ 57) = false := by simp; omega
        have qen : decide (C ≤ 57) = false := by simp; omega
        have qf : ((C : Int) == 45) = false := by simp; omega
        have qfd : decide ((C : Int) = 45) = false := by simp; omega
        have qg : ((C : Int) == 46) = false := by simp; omega
        have qgd : decide ((C : Int) = 46) = false := by simp; omega
        have qk : ((C : Int) == 95) = false := by simp; omega
        have qkd : decide ((C : Int) = 95) = false := by simp; omega
        clear h
        have hix2 := HIX.out
        go_wp2
        go_ret
        exact ⟨by rw [HR2.out]; rfl, hw.out⟩
      · have hok2 : nameOct c = true := (HOK.out true).2 (by simp; omega)
        have HO2 := hid hok2
        clear hok2
        have qa : decide (97 ≤ (C : Int)) = false := by simp; omega
        have qan : decide (97 ≤ C) = false := by simp; omega
        have qd : decide (48 ≤ (C : Int)) = true := by simp; omega
        have qdn : decide (48 ≤ C) = true := by simp; omega
        have qe : decide ((C : Int) ≤ 57) = true := by simp; omega
        have qen : decide (C ≤ 57) = true := by simp; omega
        clear h
        have hix2 := HIX.out
        go_wp2
        go_roundw
        case rel => exact ⟨i + 1, by omega, by go_num, hid (by rw [HST.out, HO2.out]), hw⟩
        case measure => simp [intOf]; omega
      · have hok2 : nameOct c = true := (HOK.out true).2 (by simp; omega)
        have HO2 := hid hok2
        clear hok2
        have qa : decide (97 ≤ (C : Int)) = false := by simp; omega
        have qan : decide (97 ≤ C) = false := by simp; omega
        have qd : decide (48 ≤ (C : Int)) = true := by simp; omega
        have qdn : decide (48 ≤ C) = true := by simp; omega
        have qe : decide ((C : Int) ≤ 57) = false := by simp; omega
        have qen : decide (C ≤ 57) = false := by simp; omega
        have qf : ((C : Int) == 45) = false := by simp; omega
        have qfd : decide ((C : Int) = 45) = false := by simp; omega
        have qg : ((C : Int) == 46) = false := by simp; omega
        have qgd : decide ((C : Int) = 46) = false := by simp; omega
        have qk : ((C : Int) == 95) = true := by simp; omega
        have qkd : decide ((C : Int) = 95) = true := by simp; omega
        clear h
        have hix2 := HIX.out
        go_wp2
        go_roundw
        case rel => exact ⟨i + 1, by omega, by go_num, hid (by rw [HST.out, HO2.out]), hw⟩
        case measure => simp [intOf]; omega
      · have hok2 : nameOct c = false := (HOK.out false).2 (by simp; omega)
        have hR2 := HBAD.out hok2
        have HR2 := hid hR2
        clear hok2 hR2
        have qa : decide (97 ≤ (C : Int)) = false := by simp; omega
        have qan : decide (97 ≤ C) = false := by simp; omega
        have qd : decide (48 ≤ (C : Int)) = true := by simp; omega
        have qdn : decide (48 ≤ C) = true := by simp; omega
        have qe : decide ((C : Int) ≤ 57) = false := by simp; omega
        have qen : decide (C ≤ 57) = false := by simp; omega
        have qf : ((C : Int) == 45) = false := by simp; omega
        have qfd : decide ((C : Int) = 45) = false := by simp; omega
        have qg : ((C : Int) == 46) = false := by simp; omega
        have qgd : decide ((C : Int) = 46) = false := by simp; omega
        have qk : ((C : Int) == 95) = false := by simp; omega
        have qkd : decide ((C : Int) = 95) = false := by simp; omega
        clear h
        have hix2 := HIX.out
        go_wp2
        go_ret
        exact ⟨by rw [HR2.out]; rfl, hw.out⟩
      · have hok2 : nameOct c = true := (HOK.out true).2 (by simp; omega)
        have HO2 := hid hok2
        clear hok2
        have qa : decide (97 ≤ (C : Int)) = false := by simp; omega
        have qan : decide (97 ≤ C) = false := by simp; omega
        have qd : decide (48 ≤ (C : Int)) = false := by simp; omega
        have qdn : decide (48 ≤ C) = false := by simp; omega
        have qf : ((C : Int) == 45) = true := by simp; omega
        have qfd : decide ((C : Int) = 45) = true := by simp; omega
        clear h
        have hix2 := HIX.out
        go_wp2
        go_roundw
        case rel => exact ⟨i + 1, by omega, by go_num, hid (by rw [HST.out, HO2.out]), hw⟩
        case measure => simp [intOf]; omega
      · have hok2 : nameOct c = true := (HOK.out true).2 (by simp; omega)
        have HO2 := hid hok2
        clear hok2
        have qa : decide (97 ≤ (C : Int)) = false := by simp; omega
        have qan : decide (97 ≤ C) = false := by simp; omega
        have qd : decide (48 ≤ (C : Int)) = false := by simp; omega
        have qdn : decide (48 ≤ C) = false := by simp; omega
        have qf : ((C : Int) == 45) = false := by simp; omega
        have qfd : decide ((C : Int) = 45) = false := by simp; omega
        have qg : ((C : Int) == 46) = true := by simp; omega
        have qgd : decide ((C : Int) = 46) = true := by simp; omega
        clear h
        have hix2 := HIX.out
        go_wp2
        go_roundw
        case rel => exact ⟨i + 1, by omega, by go_num, hid (by rw [HST.out, HO2.out]), hw⟩
        case measure => simp [intOf]; omega
      · have hok2 : nameOct c = false := (HOK.out false).2 (by simp; omega)
        have hR2 := HBAD.out hok2
        have HR2 := hid hR2
        clear hok2 hR2
        have qa : decide (97 ≤ (C : Int)) = false := by simp; omega
        have qan : decide (97 ≤ C) = false := by simp; omega
        have qd : decide (48 ≤ (C : Int)) = false := by simp; omega
        have qdn : decide (48 ≤ C) = false := by simp; omega
        have qf : ((C : Int) == 45) = false := by simp; omega
        have qfd : decide ((C : Int) = 45) = false := by simp; omega
        have qg : ((C : Int) == 46) = false := by simp; omega
        have qgd : decide ((C : Int) = 46) = false := by simp; omega
        have qk : ((C : Int) == 95) = false := by simp; omega
        have qkd : decide ((C : Int) = 95) = false := by simp; omega
        clear h
        have hix2 := HIX.out
        go_wp2
        go_ret
        exact ⟨by rw [HR2.out]; rfl, hw.out⟩
    · have hin : i = n := by omega
      subst hin
      have hal : s.data.toList.all nameOct = true := by
        have := hall.out
        rwa [List.take_of_length_le (by rw [HLL.out]; exact Nat.le_refl _)] at this
      have hr := HR.out
      rw [hal, HLL.out] at hr
      clear hal
      have HR2 := hid hr
      clear hr HR
      have hte : s.toList = s.data.toList := ByteArray.toList_eq s
      by_cases hE : s.data.toList = []
      · have f1 : s.toList = [] := by rw [hte, hE]
        have hRf : R = false := by rw [← HR2.out, hE]; rfl
        have HRF := hid hRf
        clear hRf hte hE HR2 HLL HAT hall
        go_wp2
        go_ret
        exact ⟨by rw [HRF.out]; rfl, hw.out⟩
      · have f1 : ¬ s.toList = [] := by rw [hte]; exact hE
        have f2 : s.toList.isEmpty = false := by
          cases h : s.toList.isEmpty with
          | false => rfl
          | true => exact absurd (List.isEmpty_iff.1 h) f1
        have f3 : s.data.toList.isEmpty = false := by rw [← hte]; exact f2
        by_cases h32 : i ≤ 32
        · have d1 : decide ((i : Int) ≤ 32) = true := decide_eq_true (by omega)
          have d1n : decide (i ≤ 32) = true := decide_eq_true h32
          have hRf : R = true := by rw [← HR2.out, f3, d1n]; rfl
          have HRF := hid hRf
          clear hRf hte hE f3 HR2 HLL HAT hall
          go_wp2
          go_ret
          exact ⟨by rw [HRF.out]; rfl, hw.out⟩
        · have d1 : decide ((i : Int) ≤ 32) = false := decide_eq_false (by omega)
          have d1n : decide (i ≤ 32) = false := decide_eq_false h32
          have hRf : R = false := by rw [← HR2.out, f3, d1n]; rfl
          have HRF := hid hRf
          clear hRf hte hE f3 HR2 HLL HAT hall
          go_wp2
          go_ret
          exact ⟨by rw [HRF.out]; rfl, hw.out⟩
end

section
open Go Go.RowKit

def alpha : ByteArray := ⟨#[97, 98, 99, 100, 101, 102, 103, 104, 105, 106, 107, 108, 109, 110, 111, 112, 113, 114, 115, 116, 117, 118, 119, 120, 121, 122, 48, 49, 50, 51, 52, 53, 54, 55, 56, 57, 45, 46, 95]⟩
theorem alpha_size : alpha.size = 39 := rfl
theorem alpha_ascii : ∀ b ∈ alpha.data.toList, b.toNat < 128 := by decide
theorem alpha_any : ∀ c : Fin 256, alpha.data.toList.any (· == UInt8.ofNat c.val) = nameOct (UInt8.ofNat c.val) := by decide +kernel
/-- a rune of the alphabet -/
def runeOk (r : Nat) : Bool := decide (r < 128) && nameOct (UInt8.ofNat r)

set_option maxRecDepth 100000 in
set_option maxHeartbeats 1000000 in
theorem indexByte_c (s : ByteArray) (c : Int) (w : World) :
    Calls Tryz.prog 130 #[.string s, .int .u8 c] w fun e w' => e = .returned (.int .i64 (firstIdx s c.toNat.toUInt8)) ∧ w = w' := by
  go_enter Tryz.func130, Tryz.ntmps130
  go_wp2
  rw [run_callFunc_extern Tryz.func154 (by kernel_rfl) (by kernel_rfl) (by kernel_rfl) (e := Extern.BytealgIndexByte.indexByte) (by kernel_rfl), run_indexByte_string]
  simp only [Result.andThen]
  rw [Oper.upon_value]
  go_wp2
  go_ret
  exact ⟨rfl, rfl⟩

set_option maxRecDepth 100000 in
set_option maxHeartbeats 1000000 in
theorem indexRune_low (r : Nat) (w : World) (hr : r < 128) :
    Calls Tryz.prog 86 #[.string alpha, .int .i32 (r : Int)] w fun e w' => e = .returned (.int .i64 (firstIdx alpha (UInt8.ofNat r))) ∧ w = w' := by
  have h := hid (fun w' => indexByte_c alpha (r : Int) w')
  have g1 : decide ((0 : Int) ≤ (r : Int)) = true := decide_eq_true (by omega)
  have g2 : decide ((r : Int) < 128) = true := decide_eq_true (by omega)
  have g3 : decide (r < 128) = true := decide_eq_true hr
  have g4 : IntKind.u8.wrap (r : Int) = r := IntWalk.u8_in _ (by omega)
  go_enter Tryz.func86, Tryz.ntmps86
  go_wp2_with (first | (go_at_call 130; refine (h.out _).mono ?_; rintro e w' ⟨rfl, rfl⟩))
  go_ret
  exact ⟨rfl, rfl⟩

set_option maxRecDepth 100000 in
set_option maxHeartbeats 1000000 in
theorem indexRune_err (w : World) :
    Calls Tryz.prog 86 #[.string alpha, .int .i32 65533] w fun e w' => e = .returned (.int .i64 (-1)) ∧ Ext w w' := by
  obtain ⟨s, hs⟩ : ∃ s, alpha = s := ⟨_, rfl⟩
  have hsz : s.size = 39 := by rw [← hs]; rfl
  have hasc : ∀ b ∈ s.data.toList, b.toNat < 128 := by rw [← hs]; exact alpha_ascii
  rw [hs]
  have HSZ := hid hsz
  have HASC := hid hasc
  clear hs hsz hasc
  go_enter Tryz.func86, Tryz.ntmps86
  go_wp2
  go_loopg [] 39 (fun gf wx => ∃ pos : Nat, wx.heap[w.heap.size]? = some (.stringIter s pos) ∧ Below w.heap.size w wx ∧ 39 ≤ pos + gf)
  case atStart => exact ⟨0, World.iter_heap w s 0, (Below.refl _ w).alloc (Nat.le_refl _) _, by omega⟩
  case round =>
    obtain ⟨pos, hit, hbw, hfu⟩ := hrel
    by_cases hps : pos < s.size
    · obtain ⟨g', rfl⟩ : ∃ g', gk = g' + 1 := ⟨gk - 1, by have := HSZ.out; omega⟩
      have hnx : ∀ ty, (Instr.next (.pointer (some ⟨w.heap.size, 0, none⟩)) true ty).run Tryz.prog wr = _ := fun ty => Lib.run_next_any_at wr w.heap.size s pos ty hit hps
      have hb : (s[pos]'hps).toNat < 128 := HASC.out _ (Array.getElem_mem_toList (xs := s.data) hps)
      have hdec := decode_ascii s pos hps hb
      rw [hdec] at hnx
      simp only at hnx
      obtain ⟨R, hR⟩ : ∃ R, (s[pos]'hps).toNat = R := ⟨_, rfl⟩
      rw [hR] at hnx hb
      have hit2 := Lib.iterAt_heap wr w.heap.size s pos (pos + 1) hit
      have hbw2 := Lib.below_iterAt hbw (k := w.heap.size) (Nat.le_refl _) s (pos + 1)
      have HIT := hid hit2
      have HBW := hid hbw2
      have g1 : ((R : Int) == 65533) = false := by simp; omega
      have g2 : (R == 65533) = false := by simp; omega
      have hfu2 : 39 ≤ (pos + 1) + g' := by omega
      clear hit2 hbw2 hit hbw hdec hR
      go_wp2
      go_roundg g'
      case measure => omega
      case rel => exact ⟨pos + 1, HIT.out, HBW.out, hfu2⟩
    · have hnx : ∀ ty, (Instr.next (.pointer (some ⟨w.heap.size, 0, none⟩)) true ty).run Tryz.prog wr = _ := fun ty => Lib.run_next_end_at wr w.heap.size s pos ty hit hps
      have HBW := hid hbw
      clear hit hbw
      go_wp2
      go_ret
      exact ⟨rfl, HBW.out⟩

set_option maxRecDepth 100000 in
set_option maxHeartbeats 1000000 in
theorem indexRune_bad (r : Nat) (w : World) (h1 : 55296 ≤ r) (h2 : r ≤ 57343) :
    Calls Tryz.prog 86 #[.string alpha, .int .i32 (r : Int)] w fun e w' => e = .returned (.int .i64 (-1)) ∧ w = w' := by
  have g1 : decide ((0 : Int) ≤ (r : Int)) = true := decide_eq_true (by omega)
  have g2 : decide ((r : Int) < 128) = false := decide_eq_false (by omega)
  have g3 : decide (r < 128) = false := decide_eq_false (by omega)
  have g4 : ((r : Int) == 65533) = false := by simp; omega
  have g5 : (r == 65533) = false := by simp; omega
  have g6 : decide ((r : Int) < 55296) = false := decide_eq_false (by omega)
  have g7 : decide (r < 55296) = false := decide_eq_false (by omega)
  have g8 : decide ((57343 : Int) < (r : Int)) = false := decide_eq_false (by omega)
  have g9 : decide (57343 < r) = false := decide_eq_false (by omega)
  go_enter Tryz.func86, Tryz.ntmps86
  go_wp2
  go_ret
  exact ⟨rfl, rfl⟩
end

section
open Go Go.RowKit

theorem gby_self (w : World) (r : Option Nat) : w.grownBy w r := ⟨rfl, rfl, rfl, Nat.le_refl _, fun _ _ _ => rfl⟩
theorem gby_ext {w w1 w2 : World} {r : Option Nat} (h : w.grownBy w1 r) (e : Ext w1 w2) : w.grownBy w2 r :=
  ⟨e.os.trans h.os, e.tape.trans h.tape, e.output.trans h.output, Nat.le_trans h.size e.size, fun k hk hn => (e.block k (Nat.lt_of_lt_of_le hk h.size)).trans (h.block k hk hn)⟩
theorem gby_upd {w w1 w2 : World} {g : Nat} (h : w.grownBy w1 (some g)) (u : Upd w1 g w2) : w.grownBy w2 (some g) :=
  ⟨u.os.trans h.os, u.tape.trans h.tape, u.output.trans h.output, by rw [u.size]; exact h.size, fun k hk hn => (u.block k (fun e => hn (by rw [e]))).trans (h.block k hk hn)⟩
theorem gby_new {w w1 w2 : World} {g : Nat} {r : Option Nat} (h : w.grownBy w1 r) (u : Upd w1 g w2) (hg : w.heap.size ≤ g) : w.grownBy w2 r :=
  ⟨u.os.trans h.os, u.tape.trans h.tape, u.output.trans h.output, by rw [u.size]; exact h.size, fun k hk hn => (u.block k (by omega)).trans (h.block k hk hn)⟩
/-- the cells behind a slice's address, and none of them in block g -/
def CellsOff (w : World) (g : Nat) (a : Option Addr) (xs : List Value) : Prop := xs = [] ∨ ∃ b off, a = some ⟨b, off, none⟩ ∧ b ≠ g ∧ ∀ i u, xs[i]? = some u → w.cell? ⟨b, off + i, none⟩ = some u
theorem CellsOff.cells {w : World} {g : Nat} {a : Option Addr} {xs : List Value} (h : CellsOff w g a xs) : Cells w a xs := by
  rcases h with h | ⟨b, off, ha, _, h⟩
  · exact .inl h
  · exact .inr ⟨b, off, ha, h⟩
theorem CellsOff.grown {w w' : World} {g : Nat} {a : Option Addr} {xs : List Value} (h : CellsOff w g a xs) (k : w.grownBy w' (some g)) : CellsOff w' g a xs := by
  rcases h with h | ⟨b, off, ha, hb, h⟩
  · exact .inl h
  · exact .inr ⟨b, off, ha, hb, fun i u hu => k.cell (h i u hu) (by simpa using hb)⟩
theorem CellsOff.ext {w w' : World} {g : Nat} {a : Option Addr} {xs : List Value} (h : CellsOff w g a xs) (k : Ext w w') : CellsOff w' g a xs := by
  rcases h with h | ⟨b, off, ha, hb, h⟩
  · exact .inl h
  · refine .inr ⟨b, off, ha, hb, fun i u hu => ?_⟩
    have h1 := h i u hu
    have hb := block_lt_of_cell h1
    have := k.cell (p := ⟨b, off + i, none⟩) hb
    rw [this]; exact h1
theorem own_off {w : World} {B g : Nat} {T : TypeId} {z : Nat} {v : Value} {n : Nat} {xs : List Value} (hz : 0 < z) (h : w.ownsRow B T z v n xs) (hg : g < B) :
    ∃ a c, v = .slice a n c ∧ n ≤ c ∧ c ≤ maxLen ∧ (a = none → c = 0) ∧ CellsOff w g a xs := by
  obtain ⟨hl, h⟩ := h
  rcases h with ⟨rfl, rfl⟩ | ⟨gr, cap, cur, rfl, hb, hgr, h1, h2, h3, h4⟩
  · refine ⟨none, 0, rfl, Nat.le_refl _, by unfold maxLen; omega, fun _ => rfl, .inl ?_⟩
    exact List.length_eq_zero_iff.1 (by omega)
  · refine ⟨_, cap, rfl, h1, h2, (fun h => by cases h), .inr ⟨gr, 0, rfl, by omega, fun i u hu => ?_⟩⟩
    rw [← h4] at hu
    have hi : i < n * z := by
      have := (List.getElem?_eq_some_iff.1 hu).1
      simp only [List.length_take] at this; omega
    rw [List.getElem?_take_of_lt hi] at hu
    rw [Nat.zero_add]
    exact Blk.cell' (vs := cur.toList) (T := T) (by simpa [Blk] using hgr) hu
theorem CellsOff.at {w : World} {g : Nat} {a : Option Addr} {xs : List Value} (h : CellsOff w g a xs) {i : Nat} {u : Value} (hu : xs[i]? = some u) :
    ∃ b off, a = some ⟨b, off, none⟩ ∧ w.cell? ⟨b, off + i, none⟩ = some u := by
  rcases h with rfl | ⟨b, off, ha, _, h⟩
  · simp at hu
  · exact ⟨b, off, ha, h i u hu⟩
theorem CellsOff.of {w w' : World} {g : Nat} {a : Option Addr} {xs : List Value} (h : Cells w a xs) (hg : w.heap.size ≤ g) (e : Ext w w') : CellsOff w' g a xs := by
  rcases h.ext e with h' | ⟨b, off, ha, h'⟩
  · exact .inl h'
  · rcases h with h | ⟨b2, off2, ha2, h2⟩
    · exact .inl h
    · rw [ha] at ha2
      cases ha2
      by_cases h0 : xs = []
      · exact .inl h0
      · refine .inr ⟨b, off, ha, ?_, h'⟩
        obtain ⟨u, hu⟩ : ∃ u, xs[0]? = some u := ⟨xs[0]'(List.length_pos_iff.2 h0), by simp⟩
        have := block_lt_of_cell (h2 0 u hu)
        simp only at this
        omega

section
variable {P : Program} {ops : Array Oper} {rest : List Oper} {o : Oper} {a : Act} {C : World → Prop}
theorem yieldsE_run {v : Value} (hr : ∀ w, C w → (execOp a.eval o).run P w = .ok (.value v) w) : yieldsE P C o a v := by
  intro w hw
  rw [hr w hw]
  first | exact ⟨rfl, rfl⟩ | exact ⟨rfl, hw⟩
end
end

section
open Go Go.RowKit

section
variable {P : Program} {ops : Array Oper} {Q : Exit → Act → World → Prop} {S : World → Prop} {W : List Nat}

/-- whichever comes up; S is shown behind all operations but those of W -/
def wpAnyW (P : Program) (ops : Array Oper) (Q : Exit → Act → World → Prop) (S : World → Prop) (W : List Nat) : Nat → Array Bool → Act → World → Prop
  | 0, listed, a, w => Region.ready .any ops listed = [] ∧ Q .normal a w
  | f + 1, listed, a, w => (Region.ready .any ops listed = [] → Q .normal a w) ∧
      ∀ i ∈ Region.ready .any ops listed, wpOp P ops Q i (fun a' w' => (W.contains i = false → S w → S w') ∧ wpAnyW P ops Q S W f (listed.setIfInBounds i true) a' w') a w

theorem wpAny_of_W : ∀ (f : Nat) (listed : Array Bool) (a : Act) (w : World), wpAnyW P ops Q S W f listed a w → wpAny P .any ops Q f listed a w
  | 0, _, _, _, h => h
  | f + 1, _, _, _, h => ⟨h.1, fun i hi => wpOp_mono (fun a' w' h' => wpAny_of_W f _ a' w' h'.2) (h.2 i hi)⟩

/-- what stands in listed has all that it waits for in listed -/
def Down (ops : Array Oper) (listed : Array Bool) : Prop := ∀ k, listed.getD k false = true → ∀ o, ops[k]? = some o → ∀ e ∈ o.after, Region.binds .any e = true → listed.getD e.on false = true
/-- j waits for i, through others too -/
def reachW (ops : Array Oper) : Nat → Nat → Nat → Bool
  | 0, _, _ => false
  | f + 1, j, i => waits ops j i || (List.range ops.size).any fun k => waits ops j k && reachW ops f k i

theorem reachW_listed {listed : Array Bool} (hd : Down ops listed) : ∀ (f j i : Nat), (∀ k, waits ops j k = true → listed.getD k false = true) → reachW ops f j i = true → listed.getD i false = true
  | 0, _, _, _, h => by cases h
  | f + 1, j, i, hj, h => by
    simp only [reachW, Bool.or_eq_true, List.any_eq_true, Bool.and_eq_true] at h
    rcases h with h | ⟨k, _, h1, h2⟩
    · exact hj i h
    · refine reachW_listed hd f k i (fun q hq => ?_) h2
      obtain ⟨o, ho, e, he, hb, hon⟩ := waits_spec hq
      rw [← hon]
      exact hd k (hj k h1) o ho e he hb

theorem ready_waits {listed : Array Bool} {j : Nat} (hj : j ∈ Region.ready .any ops listed) : ∀ k, waits ops j k = true → listed.getD k false = true := by
  intro k hk
  obtain ⟨_, o, ho, hall⟩ := mem_ready.1 hj
  obtain ⟨o', ho', e, he, hb, hon⟩ := waits_spec hk
  have : o' = o := Option.some.inj (ho'.symm.trans ho)
  subst this
  rw [← hon]; exact hall e he hb

theorem Down.set {listed : Array Bool} {j : Nat} (hd : Down ops listed) (hj : j ∈ Region.ready .any ops listed) : Down ops (listed.setIfInBounds j true) := by
  intro k hk o ho e he hb
  by_cases hkj : j = k
  · subst hkj
    obtain ⟨_, o', ho', hall⟩ := mem_ready.1 hj
    have : o' = o := Option.some.inj (ho'.symm.trans ho)
    subst this
    exact getD_set_true (hall e he hb)
  · rw [getD_set_ne false hkj] at hk
    exact getD_set_true (hd k hk o ho e he hb)

theorem wpAnyW_first {i : Nat} {oi : Oper} {v : Value} (n : Nat) (hi : ops[i]? = some oi) (hsel : ∀ (j : Nat) (o : Oper) cs b, ops[j]? = some o → o.op ≠ .select cs b) (hW : ∀ j, W.contains j = true → reachW ops n j i = true)
    (hQ : ∀ c a w, Q (.panic c) (a.put oi.dst v) w → Q (.panic c) a w) :
    ∀ (f : Nat) (listed : Array Bool) (a : Act) (w : World), Down ops listed →
      (∀ j oj, ops[j]? = some oj → j ≠ i → listed.getD j true = false → (∀ e ∈ oj.after, Region.binds .any e = true → e.on ≠ i) → oi.apart ops oj = true) →
      i ∈ Region.ready .any ops listed → YieldsIf P ops S oi v a → S w →
      wpAnyW P ops Q S W f (listed.setIfInBounds i true) (a.put oi.dst v) w → wpAnyW P ops Q S W (f + 1) listed a w := by
  intro f
  induction f with
  | zero =>
    intro listed a w _ _ hr hy hS H
    refine ⟨fun h => (by rw [h] at hr; cases hr), fun j hj => ?_⟩
    by_cases hji : j = i
    · subst hji; exact hy.wpOp hi hS ⟨fun _ _ => hS, H⟩
    · have := ready_mono hj hji
      rw [H.1] at this
      cases this
  | succ f ih =>
    intro listed a w hdn hfree hr hy hS H
    refine ⟨fun h => (by rw [h] at hr; cases hr), fun j hj => ?_⟩
    by_cases hji : j = i
    · subst hji; exact hy.wpOp hi hS ⟨fun _ _ => hS, H⟩
    · have h1 := H.2 j (ready_mono hj hji)
      obtain ⟨hjun, oj, hoj, hall⟩ := mem_ready.1 hj
      have h0 := (mem_ready.1 hr).1
      have hiu : listed.getD i false = true → False := fun h => by
        simp only [Array.getD_eq_getD_getElem?] at h h0
        cases hq : listed[i]? with
        | none => rw [hq] at h0; simp at h0
        | some b => rw [hq] at h h0; simp at h h0; rw [h] at h0; cases h0
      have hnot : ∀ e ∈ oj.after, Region.binds .any e = true → e.on ≠ i := fun e he hb heq => by
        have h1 := hall e he hb
        rw [heq] at h1
        exact hiu h1
      have hWj : W.contains j = false := by
        cases hq : W.contains j with
        | false => rfl
        | true => exact absurd (reachW_listed hdn n j i (ready_waits hj) (hW j hq)) hiu
      have h2 := wpOp_putIf hoj (hfree j oj hoj hji hjun hnot) (fun cs b => hsel i oi cs b hi) (fun cs b => hsel j oj cs b hoj) hQ hy h1
      have hfree' : ∀ k ok, ops[k]? = some ok → k ≠ i → (listed.setIfInBounds j true).getD k true = false →
          (∀ e ∈ ok.after, Region.binds .any e = true → e.on ≠ i) → oi.apart ops ok = true := fun k ok hk hki hun hno => by
        refine hfree k ok hk hki ?_ hno
        by_cases hjk : j = k
        · subst hjk; exact hjun
        · rw [getD_set_ne true hjk] at hun; exact hun
      refine wpOp_mono (fun a' w' h3 => ⟨fun _ _ => h3.2.1 hWj hS, ih (listed.setIfInBounds j true) a' w' (hdn.set hj) hfree' (ready_mono hr (Ne.symm hji)) h3.1 (h3.2.1 hWj hS) ?_⟩) h2
      rw [Array.setIfInBounds_comm _ _ hji]
      exact h3.2.2

/-- what yields in whatever world -/
theorem wpAnyW_pure {i : Nat} {oi : Oper} {v : Value} (hi : ops[i]? = some oi) (hsel : ∀ (j : Nat) (o : Oper) cs b, ops[j]? = some o → o.op ≠ .select cs b)
    (hQ : ∀ c a w, Q (.panic c) (a.put oi.dst v) w → Q (.panic c) a w) :
    ∀ (f : Nat) (listed : Array Bool) (a : Act) (w : World),
      (∀ j oj, ops[j]? = some oj → j ≠ i → listed.getD j true = false → (∀ e ∈ oj.after, Region.binds .any e = true → e.on ≠ i) → oi.apart ops oj = true) →
      i ∈ Region.ready .any ops listed → YieldsIf P ops (fun _ => True) oi v a →
      wpAnyW P ops Q S W f (listed.setIfInBounds i true) (a.put oi.dst v) w → wpAnyW P ops Q S W (f + 1) listed a w := by
  intro f
  induction f with
  | zero =>
    intro listed a w _ hr hy H
    refine ⟨fun h => (by rw [h] at hr; cases hr), fun j hj => ?_⟩
    by_cases hji : j = i
    · subst hji; exact hy.wpOp hi trivial ⟨fun _ h => h, H⟩
    · have := ready_mono hj hji
      rw [H.1] at this
      cases this
  | succ f ih =>
    intro listed a w hfree hr hy H
    refine ⟨fun h => (by rw [h] at hr; cases hr), fun j hj => ?_⟩
    by_cases hji : j = i
    · subst hji; exact hy.wpOp hi trivial ⟨fun _ h => h, H⟩
    · have h1 := H.2 j (ready_mono hj hji)
      obtain ⟨hjun, oj, hoj, hall⟩ := mem_ready.1 hj
      have hnot : ∀ e ∈ oj.after, Region.binds .any e = true → e.on ≠ i := fun e he hb heq => by
        have h1 := hall e he hb
        have h0 := (mem_ready.1 hr).1
        rw [heq] at h1
        simp only [Array.getD_eq_getD_getElem?] at h1 h0
        cases hq : listed[i]? with
        | none => rw [hq] at h0; simp at h0
        | some b => rw [hq] at h1 h0; simp at h1 h0; rw [h1] at h0; cases h0
      have h2 := wpOp_putIf hoj (hfree j oj hoj hji hjun hnot) (fun cs b => hsel i oi cs b hi) (fun cs b => hsel j oj cs b hoj) hQ hy h1
      have hfree' : ∀ k ok, ops[k]? = some ok → k ≠ i → (listed.setIfInBounds j true).getD k true = false →
          (∀ e ∈ ok.after, Region.binds .any e = true → e.on ≠ i) → oi.apart ops ok = true := fun k ok hk hki hun hno => by
        refine hfree k ok hk hki ?_ hno
        by_cases hjk : j = k
        · subst hjk; exact hjun
        · rw [getD_set_ne true hjk] at hun; exact hun
      refine wpOp_mono (fun a' w' h3 => ⟨h3.2.1, ih (listed.setIfInBounds j true) a' w' hfree' (ready_mono hr (Ne.symm hji)) h3.1 ?_⟩) h2
      rw [Array.setIfInBounds_comm _ _ hji]
      exact h3.2.2

def downB (ops : Array Oper) (listed : Array Bool) : Bool := (List.range ops.size).all fun k => !listed.getD k false || (ops[k]?).all fun o => o.after.all fun e => !Region.binds .any e || listed.getD e.on false
theorem down_of {listed : Array Bool} (h : downB ops listed = true) : Down ops listed := by
  intro k hk o ho e he hb
  have hkl : k < ops.size := (Array.getElem?_eq_some_iff.1 ho).1
  have h1 := List.all_eq_true.1 h k (List.mem_range.2 hkl)
  rw [hk, ho] at h1
  simp only [Bool.not_true, Bool.false_or, Option.all_some, Array.all_eq_true'] at h1
  have := h1 e he
  rw [hb] at this
  simpa using this

/-- one operation is taken first -/
theorem w_take (i : Nat) {oi : Oper} {r : List Oper} {v : Value} {f : Nat} {listed : Array Bool} {a : Act} {w : World} (hi : ops.toList.drop i = oi :: r)
    (hs : Region.noSelect ops = true) (hW : (W.all fun j => reachW ops 12 j i) = true) (hdn : downB ops listed = true) (hf : Region.free .any ops listed i = true) (hr : (Region.ready .any ops listed).contains i = true)
    (hQ : ∀ c a w, Q (.panic c) (a.put oi.dst v) w → Q (.panic c) a w) (hy : YieldsIf P ops S oi v a) (hS : S w)
    (h : wpAnyW P ops Q S W f (listed.setIfInBounds i true) (a.put oi.dst v) w) : wpAnyW P ops Q S W (f + 1) listed a w :=
  wpAnyW_first 12 (op_of_drop hi) (Region.noSelect_spec hs) (fun j hj => List.all_eq_true.1 hW j (by simpa using hj)) hQ f listed a w (down_of hdn) (Region.free_spec (op_of_drop hi) hf) (by simpa using hr) hy hS h

theorem w_pure (i : Nat) {oi : Oper} {r : List Oper} {v : Value} {f : Nat} {listed : Array Bool} {a : Act} {w : World} (hi : ops.toList.drop i = oi :: r)
    (hs : Region.noSelect ops = true) (hf : Region.free .any ops listed i = true) (hr : (Region.ready .any ops listed).contains i = true)
    (hQ : ∀ c a w, Q (.panic c) (a.put oi.dst v) w → Q (.panic c) a w) (hy : YieldsIf P ops (fun _ => True) oi v a)
    (h : wpAnyW P ops Q S W f (listed.setIfInBounds i true) (a.put oi.dst v) w) : wpAnyW P ops Q S W (f + 1) listed a w :=
  wpAnyW_pure (op_of_drop hi) (Region.noSelect_spec hs) hQ f listed a w (Region.free_spec (op_of_drop hi) hf) (by simpa using hr) hy h

/-- just one operation may come up -/
theorem w_one {i : Nat} {o : Oper} {r : List Oper} {f : Nat} {listed : Array Bool} {a : Act} {w : World} (hr : Region.ready .any ops listed = [i]) (ho : ops.toList.drop i = o :: r) (hW : W.contains i = false) (hS : S w)
    (h : ∀ Q' : Exit → Act → World → Prop, (∀ a w, S w → wpAnyW P ops Q S W f (listed.setIfInBounds i true) a w → Q' .normal a w) → wpList P ops Q' [o] a w) :
    wpAnyW P ops Q S W (f + 1) listed a w := by
  refine ⟨fun h0 => (by rw [hr] at h0; cases h0), fun j hj => ?_⟩
  rw [hr] at hj
  obtain rfl : j = i := by simpa using hj
  exact wpOp_of_list (op_of_drop ho) (h _ fun a w hS hW => ⟨fun _ _ => hS, hW⟩)
/-- just one operation may come up, a late one -/
theorem w_late {i : Nat} {o : Oper} {r : List Oper} {f : Nat} {listed : Array Bool} {a : Act} {w : World} (hr : Region.ready .any ops listed = [i]) (ho : ops.toList.drop i = o :: r) (hW : W.contains i = true)
    (h : ∀ Q' : Exit → Act → World → Prop, (∀ a w, True → wpAnyW P ops Q S W f (listed.setIfInBounds i true) a w → Q' .normal a w) → wpList P ops Q' [o] a w) :
    wpAnyW P ops Q S W (f + 1) listed a w := by
  refine ⟨fun h0 => (by rw [hr] at h0; cases h0), fun j hj => ?_⟩
  rw [hr] at hj
  obtain rfl : j = i := by simpa using hj
  exact wpOp_of_list (op_of_drop ho) (h _ fun a w _ hX => ⟨fun h => (by rw [hW] at h; cases h), hX⟩)
theorem w_done {listed : Array Bool} {a : Act} {w : World} (hr : Region.ready .any ops listed = []) (h : Q .normal a w) : ∀ f, wpAnyW P ops Q S W f listed a w
  | 0 => ⟨hr, h⟩
  | _ + 1 => ⟨fun _ => h, by rw [hr]; simp⟩
theorem wp_region_w {id : Nat} {a : Act} {w : World} (hm : P.follows .mixedOrders = true) (hS : S w.drew)
    (h : S w.drew → wpAnyW P ops Q S W ops.size (Array.replicate ops.size false) a w.drew) : (Code.region id ops true).wp P Q a w :=
  wp_region_any hm (wpAny_of_W _ _ _ _ (h hS))
end
theorem Cls.two_room {w0 W : World} {L : List Nat} {r r2 n n2 : Nat} {vs vs2 : List Value} {T T2 : TypeId} (h : Ext w0 W) (k : Kept W L W) (hb : Blk W r vs T) (hn : vs.length = n) (hb2 : Blk W r2 vs2 T2) (hn2 : vs2.length = n2) : Cls w0 W L [(r, n, T), (r2, n2, T2)] W :=
  ⟨h, k, by simp only [List.mem_cons, List.not_mem_nil, or_false]; rintro x (rfl | rfl) <;> first | exact ⟨hb.lt, vs, hn, hb⟩ | exact ⟨hb2.lt, vs2, hn2, hb2⟩⟩
end
end Go.Proofs.YthfddfgncolnbaaGreat
