/- Contracts and laws that the claim's row leans on (39 texts, joined): Node and the reference's: what they compute; conditions: the lengths. split and the reference's half: the greatest power of two less than n; bits.Len by the shelf's template; conditions: n's bounds. How many sums a path has; conditions: place and size. The reference's Node: what it computes; conditions: the lengths. lead: the root to which a path leads; conditions: place, size, the rows' lengths. bytes.Compare, mix.Compare and the closure that sorts; conditions: the octets' memory. Digits of sixteen, read and written, in plain Lean; no condition. sides: on which side each sum of a path stands; conditions: place and size. RootBy: the root to which a proof leads, of any proof; conditions: the rows' lengths. The reference's RootBy, of any proof; conditions: the rows' lengths. Proved, of any proof; conditions: the rows' lengths. How many sums a proof of growth has; the ends of functions with two or three results; conditions: the sizes. follow: the two roots that follow from a proof of growth; conditions: the sizes, the rows' lengths. The reference's grow: what it computes of any path; conditions: the sizes, the rows' lengths. Grown, of any proof; conditions: the rows' lengths. The reference's Grown, of any proof; conditions: the rows' lengths. The law RawGrowth, walked; conditions: the rows' lengths. Plain law of a list's root; no condition. rootOf: the root of a list that is not empty; conditions: the list's size, the rows' lengths. The reference's Root: the root of a list that is not empty; conditions: the list's size, the rows' lengths. Readings of arguments are opened; no condition. Readings of slices of octets are opened; no condition. Readings of slices of slices of octets are opened; no condition. The leaves of the beginnings of texts, by the law's helper and by the program; conditions: the sizes. leaves: the leaves of the beginnings of at most forty texts; conditions: the sizes. tree.Root; conditions: the list's size, the rows' lengths. The law RootsMatch, walked; conditions: the sizes. proofFault and PrintProof; conditions: the rows' lengths. The reference's PrintProof; conditions: the rows' lengths. slices.Equal at octets and at sums, sameProof; conditions: the lengths. mix.Xor, digits; conditions: the lengths. Maps from keys to 'true' as sets: a look-up, a store, the length; condition: the keys can be read. Rows of one's own: append with the row's block told; a row's beginning; blocks that are kept; no condition. Sums as keys of maps, rows without repeats, and what the law asks of them; no condition. Maps from sums to sums as lists of pairs: look-up, store, delete, length, range; condition: the lengths of keys and values. A range over a map of sums: the range, its steps, its entries; a Map as a value in memory; no condition. NewMap, Set, Get, Drop of a Map; conditions: the lengths, fewer than 1000 entries. slices.SortFunc at sums with the closure of Sorted; conditions: the block is known whole. (The numbers of the table are those of the seat that has SumsAreOrdered.) slices.Compact at sums; conditions: the block is known whole. -/
import Derived.Test.YtkcjdginoccgjaaJ2
import Derived.Test.YtkcjdginoccgjaaB1
import Derived.Lib.ItoaNum
import Derived.IntWalk
import Derived.Lib.BytesEntry
import Derived.ProofKit
import Derived.OpenShut
import Derived.ChangeSlices
import Derived.WideShapes
import Derived.SizedLaws
import Derived.Deep.Matrix
import Derived.Great.BuildSlice
import Derived.Maps.Keyed
import Derived.WideKeyArr
import Derived.Maps.RangeRun
import Derived.Maps.RangeWalk
import Derived.Shelf.SlSortCmp.WholeK
import Derived.Shelf.SlGeneric
namespace Go.Proofs.Ytkcjdginoccgjaa
section
open Go Go.RowKit

def nodeL (x y : List UInt8) : List UInt8 := sumL 2 (x ++ y)
theorem nodeL_length (x y : List UInt8) : (nodeL x y).length = 32 := sumL_length _ _

set_option maxRecDepth 100000 in
set_option maxHeartbeats 1000000 in
theorem node_c (x y : List UInt8) (w : World) (hx : x.length = 32) (hy : y.length = 32) :
    Calls Try.prog 105 #[.agg (x.map u8v).toArray, .agg (y.map u8v).toArray] w fun e w' => e = .returned (.agg ((nodeL x y).map u8v).toArray) ∧ Ext w w' := by
  have HX := hid hx
  have HY := hid hy
  have HSL : Hid (((nodeL x y).map u8v).length = 32) := hid (by rw [List.length_map, nodeL_length])
  have o1 := one_u8 (nodeL x y)
  have hcat : ∀ h1 h2, cat [(some ⟨h1, 0, none⟩, 32, x), (some ⟨h2, 0, none⟩, 32, y)] = x ++ y := by intro h1 h2; simp [cat]
  have hlen : (x ++ y).length = 64 := by rw [List.length_append, hx, hy]
  have hso : sumOfV 2 (x ++ y) 64 = .tuple #[.agg ((nodeL x y).map u8v).toArray, .int .i64 0] := by rw [sumOfV, if_neg (by omega), if_pos (by omega)]; rfl
  have HSO := hid hso
  have HLEN := hid hlen
  have HCAT := hid hcat
  clear hx hy hso hlen hcat
  generalize (nodeL x y).map u8v = nv at *
  go_enter Try.func105, Try.ntmps105
  go_wp2_with fail
  generalize hwA : World.alloc (World.alloc (World.alloc w _) _) _ = wA
  have xA : Blk wA w.heap.size (x.map u8v) 32 := by rw [← hwA]; exact ((Blk.mk_alloc rfl rfl).alloc _).alloc _
  have yA : Blk wA (w.heap.size + 1) (y.map u8v) 32 := by rw [← hwA]; exact (Blk.mk_alloc (by simp) rfl).alloc _
  have zA : Blk wA (w.heap.size + 2) (List.replicate 32 (.int .u8 0)) 32 := by rw [← hwA]; exact Blk.mk_alloc (by simp) rfl
  have eA : Ext w wA := by rw [← hwA]; exact ((((Ext.refl w).alloc _).alloc _).alloc _)
  clear hwA
  have XA := hid xA
  have YA := hid yA
  have ZA := hid zA
  have EA := hid eA
  clear xA yA zA eA
  obtain ⟨C, hC⟩ : ∃ C : World → Prop, C = fun w' => Ext wA w' := ⟨_, rfl⟩
  have hC0 : ∀ w', C w' ↔ Ext wA w' := fun w' => by rw [hC]
  clear hC
  have HCC := hid hC0
  clear hC0
  have hCx : ∀ w w', C w → Ext w w' → C w' := fun w w' h1 h2 => (HCC.out w').2 (((HCC.out w).1 h1).ext h2)
  refine wp_region_held_drew (S := C) (by kernel_rfl) ((HCC.out _).2 (Ext.refl wA).drew) (fun hS0 => ?_)
  refine held_take 0 (v := ?tv1) rfl (by kernel_rfl) (by kernel_rfl) (by kernel_rfl) (fun _ _ _ h => h) (.inl ⟨rfl, ?ty1⟩) hS0 ?tr1
  case ty1 => (intro _ _; go_simp; try with_reducible rfl)
  case tr1 =>
  simp only [Act.put, List.setIfInBounds_toArray, List.set_cons_succ, List.set_cons_zero]
  refine held_take 1 (v := ?tv2) rfl (by kernel_rfl) (by kernel_rfl) (by kernel_rfl) (fun _ _ _ h => h) (.inl ⟨rfl, ?ty2⟩) hS0 ?tr2
  case ty2 => (intro _ _; go_simp; try with_reducible rfl)
  case tr2 =>
  simp only [Act.put, List.setIfInBounds_toArray, List.set_cons_succ, List.set_cons_zero]
  refine Fl_start (B := World.heap wA |>.size) (A := 8) (d := 5) (T := 32) (vs := List.replicate 32 (.int .u8 0)) (D := C) undef rfl hCx (fun _ h => h) (fun _ h => ((HCC.out _).1 h).size) hS0 ?_
  try dsimp only
  simp only [Act.put, List.setIfInBounds_toArray, List.set_cons_succ, List.set_cons_zero]
  refine Fl_step 2 (β := Nat) (fun g => .slice (some ⟨g, 0, none⟩) 2 2) (fun g w' => Blk w' g [.slice (some ⟨w.heap.size, 0, none⟩) 32 32, .slice (some ⟨w.heap.size + 1, 0, none⟩) 32 32] 28) rfl rfl rfl rfl (fun _ _ => rfl) (by kernel_rfl) (by kernel_rfl) (by kernel_rfl) rfl (fun _ _ => by simp only [Act.put, List.setIfInBounds_toArray, List.set_cons_succ, List.set_cons_zero]) ?phi2 ?step2 ?rest2
  case phi2 => exact fun _ _ _ h he => h.ext he
  case step2 =>
    intro x w1 hD Q' hQ
    go_wp2_with fail
    exact hQ w1.heap.size _ ((Ext.refl w1).alloc _) (Blk.mk_alloc rfl rfl)
  case rest2 =>
  intro g
  try dsimp only
  try simp only [Act.put, List.setIfInBounds_toArray, List.set_cons_succ, List.set_cons_zero]
  refine Fl_step 3 (β := Option Addr × Nat) (fun b => .slice b.1 64 b.2) (SlcAt 64 ((x ++ y).map u8v)) rfl rfl rfl rfl (fun _ _ => rfl) (by kernel_rfl) (by kernel_rfl) (by kernel_rfl) rfl (fun _ _ => by simp only [Act.put, List.setIfInBounds_toArray, List.set_cons_succ, List.set_cons_zero]) ?phi3 ?step3 ?rest3
  case phi3 => exact SlcAt.ext
  case step3 =>
    rintro x0 w1 ⟨hC1, hb⟩ Q' hQ
    have e1 := (HCC.out w1).1 hC1
    have HB := hid hb
    have HE := hid e1
    clear hb e1 hC1
    go_wp2_with fail
    refine (concat_c [(some ⟨w.heap.size, 0, none⟩, 32, x), (some ⟨w.heap.size + 1, 0, none⟩, 32, y)] g 2 2 w1 rfl (by omega) (by omega) ?hg ?hc ?hn ?hl).mono ?_
    case hg =>
      intro i it hit
      match i, hit with
      | 0, hit => cases hit; rw [itemV]; simp only; rw [HX.out]; exact HB.out.cell' rfl
      | 1, hit => cases hit; rw [itemV]; simp only; rw [HY.out]; exact HB.out.cell' rfl
    case hc =>
      intro it hit
      simp only [List.mem_cons, List.not_mem_nil, or_false] at hit
      rcases hit with rfl | rfl
      · exact Cells.of_blk0 (XA.out.ext HE.out)
      · exact Cells.of_blk0 (YA.out.ext HE.out)
    case hn =>
      intro it hit
      simp only [List.mem_cons, List.not_mem_nil, or_false] at hit
      rcases hit with rfl | rfl <;> (intro h; cases h)
    case hl => rw [HCAT.out, HLEN.out]; omega
    rintro e w2 ⟨v, rfl, own, e2⟩
    rw [HCAT.out, HLEN.out] at own
    obtain ⟨a, c, rfl, h1, h2, h3, h4⟩ := own_slice own
    go_wp2_with fail
    exact hQ (a, c) w2 e2 ⟨h1, h2, h3, h4⟩
  case rest3 =>
  rintro ⟨a, c⟩
  try dsimp only
  try simp only [Act.put, List.setIfInBounds_toArray, List.set_cons_succ, List.set_cons_zero]
  refine Fl_step 4 (β := Unit) (fun _ => .tuple #[.agg nv.toArray, .int .i64 0]) (fun _ _ => True) rfl rfl rfl rfl (fun _ _ => rfl) (by kernel_rfl) (by kernel_rfl) (by kernel_rfl) rfl (fun _ _ => by simp only [Act.put, List.setIfInBounds_toArray, List.set_cons_succ, List.set_cons_zero]) ?phi4 ?step4 ?rest4
  case phi4 => exact fun _ _ _ _ _ => trivial
  case step4 =>
    rintro x0 w1 ⟨_, h1, h2, h3, h4⟩ Q' hQ
    simp only at h1 h2 h3 h4
    have HC := hid h4
    clear h4
    go_wp2_with fail
    refine (sumOf_c 2 (x ++ y) 64 c a w1 HLEN.out h1 h2 h3 HC.out).mono ?_
    rintro e w2 ⟨rfl, e2⟩
    rw [HSO.out]
    go_wp2_with fail
    exact hQ () w2 e2 trivial
  case rest4 =>
  rintro ⟨⟩
  try dsimp only
  try simp only [Act.put, List.setIfInBounds_toArray, List.set_cons_succ, List.set_cons_zero]
  refine Fl_take 5 (v := ?tv3) rfl (by kernel_rfl) (by kernel_rfl) (by kernel_rfl) (by kernel_rfl) (by kernel_rfl) rfl (fun _ _ _ h => h) (fun _ => .inl ⟨rfl, ?ty3⟩) ?tr3
  case ty3 => (intro _ _; go_simp; try with_reducible rfl)
  case tr3 =>
  try dsimp only
  simp only [Act.put, List.setIfInBounds_toArray, List.set_cons_succ, List.set_cons_zero]
  refine Fl_take 6 (v := ?tv4) rfl (by kernel_rfl) (by kernel_rfl) (by kernel_rfl) (by kernel_rfl) (by kernel_rfl) rfl (fun _ _ _ h => h) (fun _ => .inl ⟨rfl, ?ty4⟩) ?tr4
  case ty4 => (intro _ _; go_simp; try with_reducible rfl)
  case tr4 =>
  try dsimp only
  simp only [Act.put, List.setIfInBounds_toArray, List.set_cons_succ, List.set_cons_zero]
  refine Fl_take 7 (v := ?tv5) rfl (by kernel_rfl) (by kernel_rfl) (by kernel_rfl) (by kernel_rfl) (by kernel_rfl) rfl (fun _ _ _ h => h) (fun _ => .inl ⟨rfl, ?ty5⟩) ?tr5
  case ty5 => (intro _ _; go_simp; try with_reducible rfl)
  case tr5 =>
  try dsimp only
  simp only [Act.put, List.setIfInBounds_toArray, List.set_cons_succ, List.set_cons_zero]
  refine Fl_end rfl rfl rfl (fun _ _ => rfl) (by kernel_rfl) (fun _ _ => by simp only [Act.put, List.setIfInBounds_toArray, List.set_cons_succ, List.set_cons_zero]) ?_
  rintro b w3 ⟨⟨⟨hC3, _⟩, _⟩, _⟩ lb hb
  have HB := hid hb
  have E3 := hid (EA.out.ext ((HCC.out w3).1 hC3))
  have Z3 := hid (ZA.out.ext ((HCC.out w3).1 hC3))
  have HC3 := hid hC3
  clear hb hC3
  refine held_one (i := 9) (by kernel_rfl) rfl ?_
  intro Q' hQ
  go_wp2_with (refine wpl_storew rfl _ _ _ rfl rfl rfl HB.out agg_apisum (by simp) HSL.out o1 ?_)
  intro w4 b4 u4
  have hE4 := u4.ext ((HCC.out w3).1 HC3.out) lb
  refine hQ _ _ ((HCC.out w4).2 hE4) ?_
  have HC4 := hid ((HCC.out w4).2 hE4)
  have B4 := hid b4
  have Z4 := hid (ZA.out.ext hE4)
  have E4 := hid (EA.out.ext hE4)
  clear hQ Q' u4 b4 hE4
  try dsimp only
  try simp only [Act.put, List.setIfInBounds_toArray, List.set_cons_succ, List.set_cons_zero]
  refine held_one (i := 10) (by kernel_rfl) rfl ?_
  intro Q' hQ
  go_wp2_with fail
  refine hQ _ _ ((HCC.out w4).2 ?_) ?_
  · exact (HCC.out w4).1 HC4.out
  clear hQ Q'
  refine wpAnyH_done (by kernel_rfl) ?_ _
  go_wp2_with (first | (refine wpl_loadw rfl _ _ rfl rfl B4.out agg_apisum HSL.out ?_) | (refine wpl_storew rfl _ _ _ rfl rfl rfl Z4.out agg_apisum (by simp) HSL.out o1 ?_))
  intro w5 b5 u5
  go_wp2
  refine ret_row rfl rfl b5 agg_apisum HSL.out rfl ⟨rfl, u5.ext E4.out (by omega)⟩
end

section
open Go Go.RowKit

theorem bitLen_split {n : Nat} (h : 2 ≤ n) (h2 : n ≤ 4611686018427387904) : ∃ j, Lib.bitLen (n - 1) = j + 1 ∧ j ≤ 61 ∧ 2 ^ j = splitN n := by
  have hb := Lib.bitLenAux_bounds 64 (n - 1) (by omega) (by omega)
  have hle := Lib.bitLen_le (n - 1) 62 (by omega) (by omega)
  unfold Lib.bitLen at *
  obtain ⟨h3, h4, h5⟩ := hb
  generalize Lib.bitLenAux 64 (n - 1) = m at *
  obtain ⟨j, rfl⟩ : ∃ j, m = j + 1 := ⟨m - 1, by omega⟩
  rw [Nat.add_sub_cancel] at h4
  rw [Nat.pow_succ] at h5
  exact ⟨j, rfl, by omega, splitN_eq (by omega) (by omega)⟩
end

section
open Go Go.RowKit
end

section
open Go Go.RowKit

set_option maxRecDepth 100000 in
set_option maxHeartbeats 1000000 in
theorem rnode_c (x y : List UInt8) (w : World) (hx : x.length = 32) (hy : y.length = 32) :
    Calls Try.prog 62 #[.agg (x.map u8v).toArray, .agg (y.map u8v).toArray] w fun e w' => e = .returned (.agg ((nodeL x y).map u8v).toArray) ∧ Ext w w' := by
  have HX := hid hx
  have HY := hid hy
  have HSL : Hid (((nodeL x y).map u8v).length = 32) := hid (by rw [List.length_map, nodeL_length])
  have o1 := one_u8 (nodeL x y)
  have hlen : (x ++ y).length = 64 := by rw [List.length_append, hx, hy]
  have hsum := fun w c a h => rsum_c 2 (x ++ y) 64 c a w (by omega) (by omega) hlen (by omega) h
  rw [show sumL 2 (x ++ y) = nodeL x y from rfl] at hsum
  have HSUM := hid hsum
  clear hx hy hlen hsum
  generalize (nodeL x y).map u8v = nv at *
  go_enter Try.func62, Try.ntmps62
  go_wp2_with fail
  generalize hwA : World.alloc (World.alloc (World.alloc w _) _) _ = wA
  have xA : Blk wA w.heap.size (x.map u8v) 32 := by rw [← hwA]; exact ((Blk.mk_alloc rfl rfl).alloc _).alloc _
  have yA : Blk wA (w.heap.size + 1) (y.map u8v) 32 := by rw [← hwA]; exact (Blk.mk_alloc (by simp) rfl).alloc _
  have zA : Blk wA (w.heap.size + 2) (List.replicate 32 (.int .u8 0)) 32 := by rw [← hwA]; exact Blk.mk_alloc (by simp) rfl
  have eA : Ext w wA := by rw [← hwA]; exact ((((Ext.refl w).alloc _).alloc _).alloc _)
  have hwl : w.heap.size ≤ wA.heap.size := eA.size
  clear hwA
  have XA := hid xA
  have YA := hid yA
  have ZA := hid zA
  have EA := hid eA
  clear xA yA zA eA
  obtain ⟨C, hC⟩ : ∃ C : World → Prop, C = Cls w wA [w.heap.size, w.heap.size + 1] [(w.heap.size + 2, 32, 32)] := ⟨_, rfl⟩
  have hC0 : ∀ w', C w' ↔ Cls w wA [w.heap.size, w.heap.size + 1] [(w.heap.size + 2, 32, 32)] w' := fun w' => by rw [hC]
  clear hC
  have HCC := hid hC0
  clear hC0
  have hCx : ∀ w w', C w → Ext w w' → C w' := fun w w' h1 h2 => (HCC.out w').2 (((HCC.out w).1 h1).ext h2)
  have hCA : C wA := (HCC.out _).2 (Cls.one_room EA.out (Kept.two XA.out.lt YA.out.lt) ZA.out (by simp))
  refine wp_region_held_drew (S := C) (by kernel_rfl) (hCx _ _ hCA (Ext.refl _).drew) (fun hS0 => ?_)
  refine held_take 0 (v := ?tv1) rfl (by kernel_rfl) (by kernel_rfl) (by kernel_rfl) (fun _ _ _ h => h) (.inl ⟨rfl, ?ty1⟩) hS0 ?tr1
  case ty1 => (intro _ _; go_simp; try with_reducible rfl)
  case tr1 =>
  simp only [Act.put, List.setIfInBounds_toArray, List.set_cons_succ, List.set_cons_zero]
  refine held_take 2 (v := ?tv2) rfl (by kernel_rfl) (by kernel_rfl) (by kernel_rfl) (fun _ _ _ h => h) (.inl ⟨rfl, ?ty2⟩) hS0 ?tr2
  case ty2 => (intro _ _; go_simp; try with_reducible rfl)
  case tr2 =>
  simp only [Act.put, List.setIfInBounds_toArray, List.set_cons_succ, List.set_cons_zero]
  generalize wA.drew = wD at *
  have hwd : wA.heap.size ≤ wD.heap.size := ((HCC.out wD).1 hS0).kept.1
  refine held_one (i := 1) (by kernel_rfl) rfl ?_
  intro Q' hQ
  go_wp2_with fail
  refine (clone_c x (some ⟨w.heap.size, 0, none⟩) 32 32 wD HX.out (by omega) (Cells.of_blk0 (((HCC.out wD).1 hS0).blk XA.out (by simp)))).mono ?_
  rintro e w1 ⟨v1, rfl, own1, -, e1⟩
  have hC1 := hCx _ _ hS0 e1
  go_wp2_with fail
  refine hQ _ _ hC1 ?_
  clear hS0 hQ Q'
  have O1 := hid own1
  have YC1 := hid (((HCC.out w1).1 hC1).blk YA.out (by simp))
  have HC1 := hid hC1
  clear hC1
  have hb1 : wD.heap.size ≤ w1.heap.size := e1.size
  clear own1 e1
  try dsimp only
  try simp only [Act.put, List.setIfInBounds_toArray, List.set_cons_succ, List.set_cons_zero]
  refine held_one (i := 3) (by kernel_rfl) rfl ?_
  intro Q' hQ
  go_wp2_with (first | (at_builtin; refine wpl_append8 rfl _ _ rfl wD.heap.size (ys := y) rfl rfl O1.out HY.out (by intro h; cases h) (Cells.of_blk0 YC1.out) (by omega) hb1 ?_))
  intro v2 w2 own2 g2
  have own2' : w2.ownsRow wD.heap.size 5 1 v2 64 ((x ++ y).map u8v) := by rw [List.map_append]; exact own2
  have hv2 := own_block_ge O1.out
  have hC2 : C w2 := (HCC.out w2).2 (((HCC.out w1).1 HC1.out).grown g2 (by intro q hq; have := hv2 _ hq; omega) hwl)
  go_wp2_with fail
  refine hQ _ _ hC2 ?_
  clear hQ Q' own2 g2 hv2 O1 HC1 hb1
  obtain ⟨a, c, rfl, -, -, -, hcl⟩ := own_slice own2'
  have HCL := hid hcl
  clear own2' hcl
  try dsimp only
  try simp only [Act.put, List.setIfInBounds_toArray, List.set_cons_succ, List.set_cons_zero]
  refine held_one (i := 4) (by kernel_rfl) rfl ?_
  intro Q' hQ
  go_wp2_with fail
  refine (HSUM.out w2 c a HCL.out).mono ?_
  rintro e w3 ⟨rfl, e3⟩
  have hC3 := hCx _ _ hC2 e3
  go_wp2_with fail
  refine hQ _ _ hC3 ?_
  clear hQ Q'
  obtain ⟨vz, hvz, z3⟩ := ((HCC.out w3).1 hC3).at_room (r := w.heap.size + 2) (n := 32) (T := 32) (by simp)
  have Z3 := hid z3
  have HVZ := hid hvz
  have HC3 := hid hC3
  clear z3 hvz hC3 hC2 HSUM HCL
  try dsimp only
  try simp only [Act.put, List.setIfInBounds_toArray, List.set_cons_succ, List.set_cons_zero]
  refine held_one (i := 5) (by kernel_rfl) rfl ?_
  intro Q' hQ
  go_wp2_with (refine wpl_storew rfl _ _ _ rfl rfl rfl Z3.out agg_apisum HVZ.out HSL.out o1 ?_)
  intro w4 b4 u4
  go_wp2_with fail
  have B4 := hid b4
  have hS : C w4 := (HCC.out w4).2 (((HCC.out w3).1 HC3.out).store u4 b4 (by simp [HSL.out]) (by omega) (by simp <;> omega))
  refine hQ _ _ hS ?_
  clear hQ Q'
  refine wpAnyH_done (by kernel_rfl) ?_ _
  go_wp2
  refine ret_row rfl rfl b4 agg_apisum HSL.out rfl ⟨rfl, ((HCC.out w4).1 hS).base⟩
end

section
open Go Go.RowKit

theorem size_apisum : (Try.prog.info? 32).map (·.size) = some 32 := by kernel_rfl
end

section
open Go Go.RowKit

theorem run_loadB {P : Program} (x : List UInt8) (p : Addr) (w : World) (hx : CellsAt w p (x.map u8v)) : Sem.run P (Extern.Bytes.loadBytes p x.length ByteArray.empty) w = .ok ⟨x.toArray⟩ w := by
  have l1 := Go.Lib.run_loadBytesX (P := P) w (x.map fun b => (b.toNat : Int)) p .empty (fun j u hu => by
    rw [List.getElem?_map] at hu
    cases hj : x[j]? with
    | none => rw [hj] at hu; cases hu
    | some b =>
      rw [hj] at hu
      simp only [Option.map_some, Option.some.injEq] at hu
      subst hu
      exact hx j _ (by rw [List.getElem?_map, hj]; rfl))
  rw [List.length_map] at l1
  have e : Go.Lib.bytesOf (x.map fun b => (b.toNat : Int)) = x := ints_back x
  rw [e] at l1
  have h : (⟨ByteArray.empty.data ++ x.toArray⟩ : ByteArray) = ⟨x.toArray⟩ := by apply ByteArray.ext; show (#[] : Array UInt8) ++ x.toArray = x.toArray; simp
  rw [h] at l1
  exact l1
theorem run_bcompare {P : Program} (x y : List UInt8) (p q : Addr) (c d : Nat) (w : World) (hx : CellsAt w p (x.map u8v)) (hy : CellsAt w q (y.map u8v)) :
    (Extern.BytealgCompare.compare #[.slice (some p) x.length c, .slice (some q) y.length d]).run P w = .ok (.int .i64 (cmpB x y)) w := by
  change Sem.run P (do pure (goInt (Extern.BytealgCompare.cmp (← Extern.Bytes.bytesOf (.slice (some p) x.length c)) (← Extern.Bytes.bytesOf (.slice (some q) y.length d))))) w = _
  simp only [Extern.Bytes.bytesOf, Sem.run_bind, Sem.run_pure, Result.andThen, run_loadB x p w hx, run_loadB y q w hy]
  rw [Lib.cmp_eq]
  rfl

set_option maxRecDepth 100000 in
set_option maxHeartbeats 1000000 in
theorem bcompare_c (x y : List UInt8) (p q : Addr) (n m c d : Nat) (w : World) (hn : x.length = n) (hm : y.length = m) (hx : CellsAt w p (x.map u8v)) (hy : CellsAt w q (y.map u8v)) :
    Calls Try.prog 12 #[.slice (some p) n c, .slice (some q) m d] w fun e w' => e = .returned (.int .i64 (cmpB x y)) ∧ w = w' := by
  subst hn
  subst hm
  have hr := run_bcompare (P := Try.prog) x y p q c d w hx hy
  generalize cmpB x y = r at *
  generalize x.length = n at *
  generalize y.length = m at *
  clear hx hy
  go_enter Try.func12, Try.ntmps12
  go_wp2
  rw [run_callFunc_extern Try.func51 (by kernel_rfl) (by kernel_rfl) (by kernel_rfl) (e := Extern.BytealgCompare.compare) (by kernel_rfl), hr]
  simp only [Result.andThen]
  rw [Oper.upon_value]
  go_wp2
  go_ret
  exact ⟨rfl, rfl⟩

/-- nothing but new blocks and draws -/
def Laid (w w' : World) : Prop := ∃ q os, w' = Sort.grow (w.drewN q) os
theorem Laid.refl (w : World) : Laid w w := ⟨0, #[], by simp [Sort.grow, World.drewN]⟩
theorem Laid.alloc {w w' : World} (h : Laid w w') (o : Obj) : Laid w (w'.alloc o) := by
  obtain ⟨q, os, rfl⟩ := h
  exact ⟨q, os.push o, by simp [Sort.grow, World.alloc]⟩
theorem Laid.drewN {w w' : World} (h : Laid w w') (n : Nat) : Laid w (w'.drewN n) := by
  obtain ⟨q, os, rfl⟩ := h
  exact ⟨q + n, os, by simp [Sort.grow, World.drewN, Nat.add_assoc]⟩
theorem Laid.trans {a b c : World} (h : Laid a b) (k : Laid b c) : Laid a c := by
  obtain ⟨q, os, rfl⟩ := h
  obtain ⟨q2, os2, rfl⟩ := k
  exact ⟨q + q2, os ++ os2, by simp [Sort.grow, World.drewN, Nat.add_assoc, Array.append_assoc]⟩
theorem Laid.ext {w w' : World} (h : Laid w w') : Ext w w' := by
  obtain ⟨q, os, rfl⟩ := h
  refine ⟨rfl, rfl, rfl, by simp [Sort.grow, World.drewN], fun i hi => ?_⟩
  show (w.heap ++ os)[i]? = _
  rw [Array.getElem?_append_left hi]
theorem cellsAt_blk {w : World} {g : Nat} {vs : List Value} {T : TypeId} (h : Blk w g vs T) : CellsAt w ⟨g, 0, none⟩ vs := fun j u hu => by rw [addr_add, Nat.zero_add]; exact h.cell' hu

set_option maxRecDepth 100000 in
set_option maxHeartbeats 1000000 in
theorem compare_c (x y : List UInt8) (w : World) (hx : x.length = 32) (hy : y.length = 32) :
    Calls Try.prog 11 #[.agg (x.map u8v).toArray, .agg (y.map u8v).toArray] w fun e w' => e = .returned (.int .i64 (cmpB x y)) ∧ Laid w w' := by
  have HX := hid hx
  have HY := hid hy
  have hxl := hid (show (x.map u8v).length = 32 by rw [List.length_map]; exact hx)
  have hyl := hid (show (y.map u8v).length = 32 by rw [List.length_map]; exact hy)
  clear hx hy
  go_enter Try.func11, Try.ntmps11
  go_wp2_with fail
  generalize hwA : World.alloc (World.alloc w _) _ = wA
  have xA : Blk wA w.heap.size (x.map u8v) 22 := by rw [← hwA]; exact (Blk.mk_alloc rfl rfl).alloc _
  have yA : Blk wA (w.heap.size + 1) (y.map u8v) 22 := by rw [← hwA]; exact Blk.mk_alloc (by simp) rfl
  have eA : Laid w wA := by rw [← hwA]; exact ((Laid.refl w).alloc _).alloc _
  have hb := hid (fun n => bcompare_c x y ⟨w.heap.size, 0, none⟩ ⟨w.heap.size + 1, 0, none⟩ 32 32 32 32 (wA.drewN n) HX.out HY.out (cellsAt_blk xA.drewN) (cellsAt_blk yA.drewN))
  have EA := hid eA
  clear hwA xA yA eA
  refine wp_region_held_drew (S := fun w' => ∃ n, w' = wA.drewN n) (by kernel_rfl) ⟨1, rfl⟩ (fun hS0 => ?_)
  refine held_take 0 (v := ?tv1) rfl (by kernel_rfl) (by kernel_rfl) (by kernel_rfl) (fun _ _ _ h => h) (.inl ⟨rfl, ?ty1⟩) hS0 ?tr1
  case ty1 => (intro _ _; go_simp; try with_reducible rfl)
  case tr1 =>
  simp only [Act.put, List.setIfInBounds_toArray, List.set_cons_succ, List.set_cons_zero]
  refine held_take 1 (v := ?tv2) rfl (by kernel_rfl) (by kernel_rfl) (by kernel_rfl) (fun _ _ _ h => h) (.inl ⟨rfl, ?ty2⟩) hS0 ?tr2
  case ty2 => (intro _ _; go_simp; try with_reducible rfl)
  case tr2 =>
  simp only [Act.put, List.setIfInBounds_toArray, List.set_cons_succ, List.set_cons_zero]
  refine held_one (i := 2) (by kernel_rfl) rfl ?_
  intro Q' hQ
  obtain ⟨nq, hnq⟩ := hS0
  generalize wA.drew = wB at *
  subst hnq
  go_wp2_with fail
  refine (hb.out nq).mono ?_
  rintro e w' ⟨rfl, rfl⟩
  go_wp2_with fail
  refine hQ _ _ ⟨nq, rfl⟩ ?_
  clear hQ Q'
  have hS0 : ∃ n, wA.drewN nq = wA.drewN n := ⟨nq, rfl⟩
  try dsimp only
  try simp only [Act.put, List.setIfInBounds_toArray, List.set_cons_succ, List.set_cons_zero]
  refine held_take 3 (v := ?tv3) rfl (by kernel_rfl) (by kernel_rfl) (by kernel_rfl) (fun _ _ _ h => h) (.inl ⟨rfl, ?ty3⟩) hS0 ?tr3
  case ty3 => (intro _ _; go_simp; try with_reducible rfl)
  case tr3 =>
  simp only [Act.put, List.setIfInBounds_toArray, List.set_cons_succ, List.set_cons_zero]
  refine wpAnyH_done (by kernel_rfl) ?_ _
  go_wp2_with fail
  go_ret
  exact ⟨rfl, EA.out.drewN nq⟩

set_option maxRecDepth 100000 in
set_option maxHeartbeats 1000000 in
theorem closure_c (x y : List UInt8) (w : World) (hx : x.length = 32) (hy : y.length = 32) :
    Calls Try.prog 52 #[.agg (x.map u8v).toArray, .agg (y.map u8v).toArray] w fun e w' => e = .returned (.int .i64 (cmpB x y)) ∧ Laid w w' := by
  have hc := hid (fun w => compare_c x y w hx hy)
  have hxl := hid (show (x.map u8v).length = 32 by rw [List.length_map]; exact hx)
  have hyl := hid (show (y.map u8v).length = 32 by rw [List.length_map]; exact hy)
  clear hx hy
  go_enter Try.func52, Try.ntmps52
  go_upto_region 1 with (fail)
  generalize hwA : World.alloc (World.alloc w _) _ = wA
  have xA : Blk wA w.heap.size (x.map u8v) 32 := by rw [← hwA]; exact (Blk.mk_alloc rfl rfl).alloc _
  have yA : Blk wA (w.heap.size + 1) (y.map u8v) 32 := by rw [← hwA]; exact Blk.mk_alloc (by simp) rfl
  have EA : Hid (Laid w wA) := by rw [← hwA]; exact hid (((Laid.refl w).alloc _).alloc _)
  have XA := hid xA
  have YA := hid yA
  clear hwA xA yA
  go_wp2_with (first | (refine wpl_loadw rfl _ (.tmp 2) rfl rfl XA.out agg_apisum hxl.out ?_) | (refine wpl_loadw rfl _ (.tmp 3) rfl rfl YA.out agg_apisum hyl.out ?_))
  refine (hc.out wA).mono ?_
  rintro e w' ⟨rfl, e1⟩
  have E1 := hid (EA.out.trans e1)
  clear e1
  go_wp2_with fail
  go_ret
  exact ⟨rfl, E1.out⟩
end

section
open Go Go.RowKit

def isHexD (c : UInt8) : Bool := (decide (48 ≤ c.toNat) && decide (c.toNat ≤ 57)) || (decide (97 ≤ c.toNat) && decide (c.toNat ≤ 102))
def hvn (c : UInt8) : Nat := if c.toNat ≤ 57 then c.toNat - 48 else c.toNat - 87
def digitI (c : UInt8) : Int := if isHexD c then (hvn c : Int) else -1
theorem hvn_all : ∀ n, n < 256 → isHexD (UInt8.ofNat n) = true → hexd (hvn (UInt8.ofNat n)) = UInt8.ofNat n ∧ hvn (UInt8.ofNat n) < 16 := by decide +kernel
theorem u8_of_toNat (c : UInt8) : UInt8.ofNat c.toNat = c := by simp
theorem hvn_back {c : UInt8} (h : isHexD c = true) : hexd (hvn c) = c ∧ hvn c < 16 := by
  have := hvn_all c.toNat (UInt8.toNat_lt c)
  rw [u8_of_toNat] at this
  exact this h
theorem hex2_two {a b : UInt8} (ha : isHexD a = true) (hb : isHexD b = true) : hex2 (UInt8.ofNat (16 * hvn a + hvn b)) = [a, b] := by
  obtain ⟨h1, h2⟩ := hvn_back ha
  obtain ⟨h3, h4⟩ := hvn_back hb
  have e : (UInt8.ofNat (16 * hvn a + hvn b)).toNat = 16 * hvn a + hvn b := by simp; omega
  unfold hex2
  rw [e, show (16 * hvn a + hvn b) / 16 = hvn a by omega, show (16 * hvn a + hvn b) % 16 = hvn b by omega, h1, h3]
def unhex : List UInt8 → List UInt8
  | a :: b :: r => UInt8.ofNat (16 * hvn a + hvn b) :: unhex r
  | _ => []
theorem hexL_cons (c : UInt8) (l : List UInt8) : hexL (c :: l) = hex2 c ++ hexL l := rfl
theorem hexL_unhex : ∀ (n : Nat) (t : List UInt8), t.length = 2 * n → t.all isHexD = true → hexL (unhex t) = t ∧ (unhex t).length = n
  | 0, t, h, _ => by
    have : t = [] := List.length_eq_zero_iff.1 (by omega)
    subst this; exact ⟨rfl, rfl⟩
  | n + 1, t, h, ha => by
    match t, h with
    | a :: b :: r, h =>
      simp only [List.all_cons, Bool.and_eq_true] at ha
      have ih := hexL_unhex n r (by simp at h; omega) ha.2.2
      unfold unhex
      rw [hexL_cons, hex2_two ha.1 ha.2.1, ih.1, List.length_cons, ih.2]
      exact ⟨rfl, rfl⟩
theorem unhex_snoc : ∀ (n : Nat) (t : List UInt8) (a b : UInt8), t.length = 2 * n → unhex (t ++ [a, b]) = unhex t ++ [UInt8.ofNat (16 * hvn a + hvn b)]
  | 0, t, a, b, h => by
    have : t = [] := List.length_eq_zero_iff.1 (by omega)
    subst this; rfl
  | n + 1, t, a, b, h => by
    match t, h with
    | c :: d :: r, h =>
      have ih := unhex_snoc n r a b (by simp at h; omega)
      rw [List.cons_append, List.cons_append]
      unfold unhex
      rw [ih, List.cons_append]
theorem hex_unhex_hex : ∀ l : List UInt8, unhex (hexL l) = l ∧ (hexL l).all isHexD = true
  | [] => ⟨rfl, rfl⟩
  | c :: l => by
    have ih := hex_unhex_hex l
    have hd : ∀ n, n < 16 → isHexD (hexd n) = true ∧ hvn (hexd n) = n := by decide +kernel
    have hc := UInt8.toNat_lt c
    obtain ⟨h1, h2⟩ := hd (c.toNat / 16) (by omega)
    obtain ⟨h3, h4⟩ := hd (c.toNat % 16) (by omega)
    rw [hexL_cons]
    unfold hex2
    constructor
    · rw [List.cons_append, List.cons_append, List.nil_append]
      unfold unhex
      rw [h2, h4, ih.1, show 16 * (c.toNat / 16) + c.toNat % 16 = c.toNat by omega, u8_of_toNat]
    · rw [List.all_append, ih.2]
      simp [h1, h3]
end

section
open Go Go.RowKit

theorem info_bool : (Try.prog.info? 4).map (fun i => (i.zero, i.size, i.bytes)) = some (some (.bool false), 1, 1) := by kernel_rfl
theorem own_sliceT {w : World} {B : Nat} {T : TypeId} {z : Nat} {v : Value} {n : Nat} {xs : List Value} (hz : 0 < z) (h : w.ownsRow B T z v n xs) :
    ∃ a c, v = .slice a n c ∧ n ≤ c ∧ c ≤ maxLen ∧ (a = none → c = 0) ∧ Cells w a xs := by
  obtain ⟨hl, h⟩ := h
  rcases h with ⟨rfl, rfl⟩ | ⟨g, cap, cur, rfl, hb, hg, h1, h2, h3, h4⟩
  · refine ⟨none, 0, rfl, Nat.le_refl _, by unfold maxLen; omega, fun _ => rfl, .inl ?_⟩
    exact List.length_eq_zero_iff.1 (by omega)
  · refine ⟨_, cap, rfl, h1, h2, (fun h => by cases h), .inr ⟨g, 0, rfl, fun i u hu => ?_⟩⟩
    rw [← h4] at hu
    have hi : i < n * z := by
      have := (List.getElem?_eq_some_iff.1 hu).1
      simp only [List.length_take] at this; omega
    rw [List.getElem?_take_of_lt hi] at hu
    rw [Nat.zero_add]
    exact Blk.cell' (vs := cur.toList) (T := T) (by simpa [Blk] using hg) hu
end

section
open Go Go.RowKit

def zero32 : List UInt8 := List.replicate 32 0
theorem zero32_map : zero32.map u8v = List.replicate 32 (.int .u8 0) := by simp [zero32, u8v]
theorem zero32_length : zero32.length = 32 := by simp [zero32]
def rootByL (x : List UInt8) (I Z : Int) (ls : List (List UInt8)) : List UInt8 × Int :=
  if Z < 1 ∨ 65536 < Z then (zero32, 4) else if I < 0 ∨ Z ≤ I then (zero32, 7) else if ls.length = (sidesL I.toNat Z.toNat).length then (leadS nodeL x (sidesL I.toNat Z.toNat) ls, 0) else (zero32, 12)
def sumErr (p : List UInt8 × Int) : Value := .tuple #[.agg (p.1.map u8v).toArray, .int .i64 p.2]
end

section
open Go Go.RowKit
end

section
open Go Go.RowKit

theorem rootByL_length (x : List UInt8) (I Z : Int) (ls : List (List UInt8)) (hx : x.length = 32) : (rootByL x I Z ls).1.length = 32 := by
  unfold rootByL
  split
  · exact zero32_length
  · split
    · exact zero32_length
    · split
      · exact leadS_length _ nodeL_length _ _ _ hx
      · exact zero32_length
def provedL (root x : List UInt8) (I Z : Int) (ls : List (List UInt8)) : Int := if (rootByL x I Z ls).2 = 0 then (if (rootByL x I Z ls).1 == root then 0 else 12) else (rootByL x I Z ls).2
end

section
open Go Go.RowKit

theorem ret_rows2 {P : Program} {fn : Func} {R : Ending → World → Prop} {a : Act} {w : World} {p u : Tmp} {ty : TypeId} {g h : Nat} {vs us : List Value} {T U : TypeId}
    (hres : fn.results = #[.cell p ty, .cell u ty]) (hp : a.tmps.getD p undef = .pointer (some ⟨g, 0, none⟩)) (hu : a.tmps.getD u undef = .pointer (some ⟨h, 0, none⟩)) (hb : Blk w g vs T) (hc : Blk w h us U)
    {n : Nat} (ht : AggT P ty n) (hn : vs.length = n) (hm : us.length = n)
    (hdef : a.defers = []) (hR : R (.returned (.tuple #[.agg vs.toArray, .agg us.toArray])) w) : bodyPost P fn R .ret a w := by
  have h1 := run_load_sub (P := P) (off := 0) hb ht (by omega)
  have h2 : (vs.drop 0).take n = vs := by simp [← hn]
  rw [h2] at h1
  have h3 := run_load_sub (P := P) (off := 0) hc ht (by omega)
  have h4 : (us.drop 0).take n = us := by simp [← hm]
  rw [h4] at h3
  refine bodyPost_ret (v := .tuple #[.agg vs.toArray, .agg us.toArray]) ?_ hdef hR
  simp only [Array.getD_eq_getD_getElem?] at hp hu
  simp [results, hres, hp, hu, asAddr, h1, h3]
theorem ret_rows3 {P : Program} {fn : Func} {R : Ending → World → Prop} {a : Act} {w : World} {p u q : Tmp} {ty : TypeId} {g h : Nat} {vs us : List Value} {T U : TypeId}
    (hres : fn.results = #[.cell p ty, .cell u ty, .tmp q]) (hp : a.tmps.getD p undef = .pointer (some ⟨g, 0, none⟩)) (hu : a.tmps.getD u undef = .pointer (some ⟨h, 0, none⟩)) (hb : Blk w g vs T) (hc : Blk w h us U)
    {n : Nat} (ht : AggT P ty n) (hn : vs.length = n) (hm : us.length = n)
    (hdef : a.defers = []) (hR : R (.returned (.tuple #[.agg vs.toArray, .agg us.toArray, a.tmps.getD q undef])) w) : bodyPost P fn R .ret a w := by
  have h1 := run_load_sub (P := P) (off := 0) hb ht (by omega)
  have h2 : (vs.drop 0).take n = vs := by simp [← hn]
  rw [h2] at h1
  have h3 := run_load_sub (P := P) (off := 0) hc ht (by omega)
  have h4 : (us.drop 0).take n = us := by simp [← hm]
  rw [h4] at h3
  refine bodyPost_ret (v := .tuple #[.agg vs.toArray, .agg us.toArray, a.tmps.getD q undef]) ?_ hdef hR
  simp only [Array.getD_eq_getD_getElem?] at hp hu
  simp [results, hres, hp, hu, asAddr, h1, h3]
end

section
open Go Go.RowKit

def pairV (p : List UInt8 × List UInt8) : Value := .tuple #[.agg (p.1.map u8v).toArray, .agg (p.2.map u8v).toArray]

theorem followL_length (x : List UInt8) (hx : x.length = 32) : ∀ (n m : Nat) (wh : Bool) (ls : List (List UInt8)), 1 ≤ m → m ≤ n → All32 ls → ls.length = growN m n wh → (followL nodeL x m n wh ls).1.length = 32 ∧ (followL nodeL x m n wh ls).2.length = 32 := by
  intro n
  induction n using Nat.strongRecOn with
  | ind n ih =>
  intro m wh ls h1 h2 h32 hl
  rcases Nat.lt_or_ge m n with h3 | h3
  · have hs := splitN_spec (n := n) (by omega)
    have hne : ls ≠ [] := by
      intro h
      rw [h] at hl
      by_cases hm : m ≤ splitN n
      · rw [growN_left h1 h3 hm] at hl; simp at hl
      · rw [growN_right h1 h3 hm] at hl; simp at hl
    obtain ⟨rest, last, rfl⟩ : ∃ rest last, ls = rest ++ [last] := ⟨ls.dropLast, ls.getLast hne, (List.dropLast_concat_getLast hne).symm⟩
    have hr32 : All32 rest := fun l hl => h32 l (by simp [hl])
    rw [List.length_append] at hl
    simp only [List.length_cons, List.length_nil] at hl
    by_cases hm : m ≤ splitN n
    · rw [growN_left h1 h3 hm] at hl
      rw [followL_left _ _ _ _ _ h1 h3 hm]
      exact ⟨(ih (splitN n) (by omega) m wh rest h1 hm hr32 (by omega)).1, nodeL_length _ _⟩
    · rw [growN_right h1 h3 hm] at hl
      rw [followL_right _ _ _ _ _ h1 h3 hm]
      exact ⟨nodeL_length _ _, nodeL_length _ _⟩
  · obtain rfl : m = n := by omega
    rw [followL_eq]
    rw [growN_eq] at hl
    cases wh with
    | true => exact ⟨hx, hx⟩
    | false =>
      obtain ⟨y, rfl⟩ := List.length_eq_one_iff.1 (by simpa using hl)
      have := h32 y (by simp)
      exact ⟨this, this⟩
end

section
open Go Go.RowKit

theorem Cls.restore {w0 W w w' : World} {L : List Nat} {g : Nat} {vs : List Value} {T : TypeId} (h : Cls w0 W L [] w) (u : Upd w g w') (hW : Blk W g vs T) (hb : Blk w' g vs T) (hr : w0.heap.size ≤ g) : Cls w0 W L [] w' := by
  refine ⟨u.ext h.base hr, ⟨by rw [u.size]; exact h.kept.1, h.kept.2.1, fun k hk => ?_⟩, by simp⟩
  by_cases e : k = g
  · subst e
    unfold Blk at hW hb
    rw [hW, hb]
  · exact (u.block k e).trans (h.kept.2.2 k hk)

def growPost (x : List UInt8) (m n : Nat) (wh : Bool) (ls : List (List UInt8)) (w : World) (e : Ending) (w' : World) : Prop :=
  ∃ y z : List UInt8, e = .returned (.tuple #[.agg (y.map u8v).toArray, .agg (z.map u8v).toArray, .bool (decide (ls.length = growN m n wh))]) ∧ y.length = 32 ∧ z.length = 32 ∧ (ls.length = growN m n wh → (y, z) = followL nodeL x m n wh ls) ∧ Ext w w'
end

section
open Go Go.RowKit

def grownL (x y : List UInt8) (I Z : Int) (ls : List (List UInt8)) : Int :=
  if Z < 1 ∨ 65536 < Z ∨ I < 1 ∨ Z < I then 4 else if ls.length = growN I.toNat Z.toNat true then
    (if (followL nodeL x I.toNat Z.toNat true ls).1 == x && (followL nodeL x I.toNat Z.toNat true ls).2 == y then 0 else 12) else 12
end

section
open Go Go.RowKit
end

section
open Go Go.RowKit
end

section
open Go Go.RowKit

section
variable (nd : List UInt8 → List UInt8 → List UInt8)
/-- the root of a list of sums -/
def rootS (ls : List (List UInt8)) : List UInt8 :=
  if h : ls.length < 2 then ls.headD zero32 else nd (rootS (ls.take (splitN ls.length))) (rootS (ls.drop (splitN ls.length)))
termination_by ls.length
decreasing_by
  · have := splitN_spec (n := ls.length) (by omega); rw [List.length_take]; omega
  · have := splitN_spec (n := ls.length) (by omega); rw [List.length_drop]; omega
theorem rootS_one (x : List UInt8) : rootS nd [x] = x := by rw [rootS]; simp
theorem rootS_two {ls : List (List UInt8)} (h : 2 ≤ ls.length) : rootS nd ls = nd (rootS nd (ls.take (splitN ls.length))) (rootS nd (ls.drop (splitN ls.length))) := by
  rw [rootS, dif_neg (by omega)]
theorem rootS_length (hnd : ∀ a b, (nd a b).length = 32) {ls : List (List UInt8)} (h : All32 ls) : (rootS nd ls).length = 32 := by
  rcases Nat.lt_or_ge ls.length 2 with h2 | h2
  · rw [rootS, dif_pos h2]
    cases ls with
    | nil => exact zero32_length
    | cons x r => exact h x (by simp)
  · rw [rootS_two nd h2]; exact hnd _ _
end
end

section
open Go Go.RowKit
end

section
open Go Go.RowKit
end

section
open Go Go.RowKit Go.ChangeShapes Go.WideShapes Go.ChangeAt

theorem u8_of {n : Int} (h : (Lit.int .u8 n).wf = true) : ∃ x : UInt8, Value.int .u8 n = u8v x := by
  have hb := bounds_u8 h
  refine ⟨UInt8.ofNat n.toNat, ?_⟩
  unfold u8v
  congr 1
  rw [UInt8.toNat_ofNat']
  omega

theorem u8s_of : ∀ (vs : List Value), (∀ (i : Nat) (v : Value), vs[i]? = some v → ∃ x : UInt8, v = u8v x) → ∃ l : List UInt8, vs = l.map u8v
  | [], _ => ⟨[], rfl⟩
  | v :: vs, h => by
    obtain ⟨x, hx⟩ := h 0 v rfl
    obtain ⟨l, hl⟩ := u8s_of vs fun i u hu => h (i + 1) u (by simpa using hu)
    exact ⟨x :: l, by rw [hx, hl]; rfl⟩

section
variable {H : Type} {enc : TypeId × Value → H} {P : Program} {w : World}
/-- an array of octets -/
theorem open_octets {r : Reach} {b0 base : Nat} {sp : Nat → Bool} {held : Bool} {t e : TypeId} {n : Nat} {v : Value} {d : DataW H} {ps : List MemPlace} (ht : P.underlying t = some (.array n e)) (he : P.underlying e = some (.int .u8)) (hce : P.cellsOf e = 1) (hct : P.cellsOf t = n)
    (hval : Value.okWide P w r b0 t v) (hd : DataW.Trod enc P w base sp held t v d ps) : ∃ l : List UInt8, l.length = n ∧ v = .agg (l.map u8v).toArray := by
  unfold Value.okWide at hval
  rw [ht] at hval
  obtain ⟨cs, rfl, hs, _⟩ := hval
  obtain ⟨fuel, hf⟩ := hd
  obtain ⟨xs, m, _, _, hlen, hxl, hel⟩ := DataW.trod_array ht hf
  have hcl : cs.toList.length = n := by rw [Array.length_toList, hs, hct]
  obtain ⟨l, hl⟩ := u8s_of cs.toList fun i u hu => by
    have hi : i < n := by
      have := (List.getElem?_eq_some_iff.1 hu).1
      omega
    have h1 := hel i hi
    rw [hce, Nat.mul_one] at h1
    have hx : xs[i]? = some xs[i] := by simp
    have h2 : (cs.toList.drop i).take 1 = [u] := by
      have h3 := List.getElem?_drop (xs := cs.toList) (i := i) (j := 0)
      rw [Nat.add_zero, hu] at h3
      cases hd : cs.toList.drop i with
      | nil => rw [hd] at h3; simp at h3
      | cons y r => rw [hd] at h3; simp at h3; simp [h3]
    have h4 : DataW.trod enc P w base sp held m e [u] = some xs[i] := by
      rw [← h2, ← hx]; exact h1
    obtain ⟨k, hk, _, hw⟩ := DataW.trod_int he h4
    have hu' : u = .int .u8 k := by simpa using hk
    rw [hu']; exact u8_of hw
  refine ⟨l, ?_, ?_⟩
  · have := congrArg List.length hl
    rw [hcl, List.length_map] at this; exact this.symm
  · rw [← hl]
end
end

section
open Go Go.RowKit Go.ChangeShapes Go.WideShapes Go.ChangeAt

section
variable {H : Type} {enc : TypeId × Value → H} {P : Program} {w : World}
/-- a slice of octets, read whole -/
theorem open_bytes {r : Reach} {b0 base : Nat} {held : Bool} {t e : TypeId} {v : Value} {d : DataW H} {ps : List MemPlace} (ht : P.underlying t = some (.slice e)) (he : P.underlying e = some (.int .u8)) (hce : P.cellsOf e = 1)
    (hval : Value.okWide P w r b0 t v) (hd : DataW.Trod enc P w base (fun _ => true) held t v d ps) :
    ∃ (a : Option Addr) (n c : Nat) (l : List UInt8) (es sp : List (DataW H)), v = .slice a n c ∧ l.length = n ∧ n ≤ c ∧ (a = none → c = 0) ∧ Cells w a (l.map u8v) ∧ ((d = .nil ∧ c = 0) ∨ (d = .slice es sp ∧ es.length + sp.length = c)) := by
  obtain ⟨a, n, c, rfl⟩ := okWide_slice ht hval
  obtain ⟨fuel, hf⟩ := hd
  rcases open_ints ht he hce hf with ⟨hcs, hx⟩ | ⟨ad, len, cap, zs, hcs, _, hle, hmax, hlen, hx, hcell, hwf⟩
  · simp [Value.cells] at hcs
    obtain ⟨rfl, rfl, rfl⟩ := hcs
    simp only [Prod.mk.injEq] at hx
    exact ⟨none, 0, 0, [], [], [], rfl, rfl, Nat.le_refl _, fun _ => rfl, .inl rfl, .inl ⟨hx.1, rfl⟩⟩
  · simp [Value.cells] at hcs
    obtain ⟨rfl, rfl, rfl⟩ := hcs
    simp only [Prod.mk.injEq] at hx
    simp only [if_true] at hlen
    obtain ⟨l, hl⟩ := u8s_of ((zs.take n).map (Value.int .u8)) fun i u hu => by
      have hm := List.mem_of_getElem? hu
      obtain ⟨z, hz, rfl⟩ := List.mem_map.1 hm
      exact u8_of (hwf z (List.mem_of_mem_take hz))
    have hll : l.length = n := by
      have := congrArg List.length hl
      simp only [List.length_map, List.length_take] at this
      omega
    refine ⟨some ad, n, c, l, lits .u8 (zs.take n), lits .u8 (zs.drop n), rfl, hll, hle, (fun h => by cases h), ?_, .inr ⟨hx.1, ?_⟩⟩
    · by_cases hn : n = 0
      · left
        have : l = [] := List.length_eq_zero_iff.1 (by omega)
        rw [this]; rfl
      · obtain ⟨b, off, rfl, hat⟩ := ints_at hcell (by omega)
        refine .inr ⟨b, off, rfl, fun i u hu => ?_⟩
        rw [← hl] at hu
        have hi : i < n := by
          have := (List.getElem?_eq_some_iff.1 hu).1
          simp at this; omega
        rw [hat i (by omega)]
        rw [List.getElem?_map, List.getElem?_take_of_lt hi] at hu
        rw [List.getD_eq_getElem?_getD]
        cases hz : zs[i]? with
        | none => rw [hz] at hu; simp at hu
        | some z => rw [hz] at hu; simpa using hu
    · simp [lits]; omega
end
end

section
open Go Go.RowKit Go.ChangeShapes Go.WideShapes Go.ChangeAt Go.Deep

theorem mem_weights {H : Type} {P : Program} {e : TypeId} : ∀ {ds : List (DataW H)} {d : DataW H}, d ∈ ds → ∀ n ∈ d.weights P e, n ∈ DataW.weightsAll P e ds
  | d0 :: ds, d, hd, n, hn => by
    simp only [DataW.weightsAll, List.mem_append]
    rcases List.mem_cons.1 hd with rfl | hd
    · exact .inl hn
    · exact .inr (mem_weights hd n hn)
  | [], _, hd, _, _ => by simp at hd

section
variable {H : Type} {enc : TypeId × Value → H} {P : Program} {w : World}
theorem open_bytess {r : Reach} {b0 base : Nat} {held : Bool} {t e q : TypeId} {v : Value} {d : DataW H} {ps : List MemPlace} {ts : List TypeId} {ds : List (DataW H)} {j : Nat}
    (hsz : (DataW.weightsEach P ts ds).all (· ≤ reachBytes) = true) (ht : P.underlying t = some (.slice e)) (he : P.underlying e = some (.slice q)) (hq : P.underlying q = some (.int .u8)) (ce : P.cellsOf e = 1) (cq : P.cellsOf q = 1) (hbe : P.bytesOf e = 24) (hbq : P.bytesOf q = 1)
    (hval : Value.okWide P w r b0 t v) (hd : DataW.Trod enc P w base (fun _ => true) held t v d ps) (htj : ts[j]? = some t) (hdj : ds[j]? = some d) :
    ∃ (a : Option Addr) (n c : Nat) (its : List Item), v = .slice a n c ∧ its.length = n ∧ n ≤ c ∧ c ≤ 140737488351232 ∧ (a = none → c = 0) ∧ Cells w a (its.map itemV) ∧
      ∀ it ∈ its, Cells w it.1 (it.2.2.map u8v) ∧ (it.1 = none → it.2.1 = 0) ∧ it.2.2.length ≤ it.2.1 ∧ it.2.1 ≤ 140737488351232 := by
  have hw := fun n hn => List.all_eq_true.1 hsz n (DataW.weights_mem_each htj hdj n hn)
  obtain ⟨a, n, c, rfl⟩ := okWide_slice ht hval
  obtain ⟨fuel, hf⟩ := hd
  rcases open_int_rows ht he hq ce cq hf with ⟨hcs, hx⟩ | ⟨ad, len, cap, A, L, C, Z, hcs, _, hle, hmax, hx, hrow⟩
  · simp [Value.cells] at hcs
    obtain ⟨rfl, rfl, rfl⟩ := hcs
    exact ⟨none, 0, 0, [], rfl, rfl, Nat.le_refl _, Nat.zero_le _, fun _ => rfl, .inl rfl, by simp⟩
  · simp [Value.cells] at hcs
    obtain ⟨rfl, rfl, rfl⟩ := hcs
    simp only [Prod.mk.injEq] at hx
    obtain ⟨rfl, _⟩ := hx
    have hcap : c ≤ 140737488351232 := by
      have := hw ((n + (c - n)) * P.bytesOf e) (by simp [DataW.weights, ht])
      simp only [decide_eq_true_eq] at this
      rw [hbe] at this
      have h2 : reachBytes = 140737488351232 := by decide
      omega
    have hbnd : ∀ i, i < n → C i ≤ 140737488351232 := by
      intro i hi
      obtain ⟨_, hlc, _, hzl, _, hn0, _⟩ := hrow i (by omega)
      cases hA : A i with
      | none => have := hn0 hA; omega
      | some a' =>
        have hmem : intRow (H := H) .u8 (A i) (L i) (Z i) ∈ (List.range n).map fun r => intRow (H := H) .u8 (A r) (L r) (Z r) := List.mem_map.2 ⟨i, List.mem_range.2 hi, rfl⟩
        have h3 : C i * P.bytesOf q ∈ (intRow (H := H) .u8 (A i) (L i) (Z i)).weights P e := by
          unfold intRow
          rw [hA]
          simp only [DataW.weights, he, List.mem_cons]
          left
          congr 1
          simp [lits, hzl]; omega
        have h4 := hw (C i * P.bytesOf q) (by
          simp only [DataW.weights, ht, List.mem_cons, List.mem_append]
          exact .inr (.inl (mem_weights hmem _ h3)))
        simp only [decide_eq_true_eq] at h4
        rw [hbq] at h4
        have h2 : reachBytes = 140737488351232 := by decide
        omega
    have hits : ∀ i, i < n → ∃ it : Item, itemV it = .slice (A i) (L i) (C i) ∧ Cells w it.1 (it.2.2.map u8v) ∧ (it.1 = none → it.2.1 = 0) ∧ it.2.2.length ≤ it.2.1 ∧ it.2.1 ≤ 140737488351232 := by
      intro i hi
      obtain ⟨_, hlc, _, hzl, hwf, hn0, hcell⟩ := hrow i (by omega)
      obtain ⟨l, hl⟩ := u8s_of (((Z i).take (L i)).map (Value.int .u8)) fun k u hu => by
        have hm := List.mem_of_getElem? hu
        obtain ⟨z, hz, rfl⟩ := List.mem_map.1 hm
        exact u8_of (hwf z (List.mem_of_mem_take hz))
      have hll : l.length = L i := by
        have := congrArg List.length hl
        simp only [List.length_map, List.length_take] at this
        omega
      refine ⟨(A i, C i, l), by rw [itemV, hll], ?_, hn0, by simp only; omega, hbnd i hi⟩
      simp only
      by_cases h0 : L i = 0
      · left
        have : l = [] := List.length_eq_zero_iff.1 (by omega)
        rw [this]; rfl
      · cases hA : A i with
        | none => have := hn0 hA; omega
        | some a' =>
          obtain ⟨b, off, rfl, hat⟩ := ints_at (zs := Z i) (fun c hc => (hcell a' hA).2 c (by omega)) (by omega)
          refine .inr ⟨b, off, rfl, fun k u hu => ?_⟩
          rw [← hl] at hu
          have hk : k < L i := by
            have := (List.getElem?_eq_some_iff.1 hu).1
            simp at this; omega
          rw [hat k (by omega)]
          rw [List.getElem?_map, List.getElem?_take_of_lt hk] at hu
          rw [List.getD_eq_getElem?_getD]
          cases hz : (Z i)[k]? with
          | none => rw [hz] at hu; simp at hu
          | some z => rw [hz] at hu; simpa using hu
    obtain ⟨f, hfi⟩ := choose_lt hits
    refine ⟨some ad, n, c, (List.range n).map f, rfl, by simp, hle, hcap, (fun h => by cases h), ?_, ?_⟩
    · by_cases h0 : n = 0
      · left; subst h0; rfl
      · have hc0 := (hrow 0 (by omega)).1
        obtain ⟨b, off, spot⟩ := ad
        have hspot : spot = none := by simpa [Addr.add] using World.cell?_spot hc0
        subst hspot
        refine .inr ⟨b, off, rfl, fun i u hu => ?_⟩
        have hi : i < n := by
          have := (List.getElem?_eq_some_iff.1 hu).1
          simpa using this
        rw [List.getElem?_map, List.getElem?_map, List.getElem?_range hi] at hu
        simp only [Option.map_some, Option.some.injEq] at hu
        rw [← hu, (hfi i hi).1]
        have h9 := (hrow i (by omega)).1
        have hadd : (⟨b, off, none⟩ : Addr).add i = ⟨b, off + i, none⟩ := by unfold Addr.add; split <;> simp_all
        rw [hadd] at h9
        exact h9
    · intro it hit
      obtain ⟨i, hi, rfl⟩ := List.mem_map.1 hit
      exact (hfi i (List.mem_range.1 hi)).2
end
end

section
open Go Go.RowKit

def leafL (t : List UInt8) : List UInt8 := sumL 1 (t.take 3000)
theorem leafL_length (t : List UInt8) : (leafL t).length = 32 := sumL_length _ _

theorem min_cast (n k : Nat) : min (n : Int) (k : Int) = ((min n k : Nat) : Int) := by omega

theorem info_sum : (Try.prog.info? 32).map (fun i => (i.zero, i.size, i.bytes)) = some (some (.agg (List.replicate 32 (.int .u8 0)).toArray), 32, 32) := by kernel_rfl
theorem zsum_size : (Value.agg (List.replicate 32 (.int .u8 0)).toArray).cells.size = 32 := by simp [Value.cells]

/-- append one row onto a row of one's own -/
theorem wpl_append_row {ops : Array Oper} {rest : List Oper} {o : Oper} {a : Act} {w : World} {Q : Exit → Act → World → Prop} (hgd : o.guard = none) (s x : Operand)
    (ho : o.op = .call { callee := .builtin .append, args := #[s, x], argTypes := #[29, 29] }) (base : Nat) {v : Value} {n c g : Nat} {ls : List (List UInt8)} {y : List UInt8} {T : TypeId}
    (hs : a.eval s = v) (hx : a.eval x = .slice (some ⟨g, 0, none⟩) 1 c) (hown : w.ownsRow base 32 32 v n (rows ls)) (hy : y.length = 32) (hb : Blk w g (y.map u8v) T)
    (hn : (n + 1) * 32 ≤ 140737488355328) (hbase : base ≤ w.heap.size)
    (h : ∀ v' w', w'.ownsRow base 32 32 v' (n + 1) (rows (ls ++ [y])) → w.grownBy w' v.ownBlock → wpList Try.prog ops Q rest (a.put o.dst v') w') : wpList Try.prog ops Q (o :: rest) a w := by
  obtain ⟨i0, hi, hz, hsz, hb1⟩ := info_parts info_sum
  exact wpList_append_own w hgd s x 29 ho base 32 i0 _ 32 32 Try.underlying29 hi hz hsz hb1 zsum_size (by decide) v n (rows ls) hs hown ⟨g, 0, none⟩ 1 c (y.map u8v) hx
    (by rw [List.length_map, hy]) (news_blk hb) (one_u8 _) (by unfold maxLen; omega) hn hbase (fun v' w' h1 h2 _ => h v' w' (by rw [rows_append, rows_one]; exact h1) h2)

theorem fill_row (y : List UInt8) (hy : y.length = 32) (cells : Array Value) (hc : cells.size = 32) : Instr.fill (fun i => some (i * 32, 32)) cells [(0, .agg (y.map u8v).toArray)] = some (y.map u8v).toArray := by
  have h := Great.fill_whole (s := 32) (by omega) [.agg (y.map u8v).toArray] cells (by intro v hv; rw [List.mem_singleton.1 hv]; simp [Value.cells, hy]) (by simp [hc])
  simpa [Value.cells] using h
theorem exec_buildRow {P : Program} {o : Oper} {a : Act} {t e : TypeId} {x : Operand} {y : List UInt8} (ho : o.op = .buildSlice t 1 #[(0, x)]) (hx : a.eval x = .agg (y.map u8v).toArray) (hy : y.length = 32) (hu : P.underlying t = some (.slice e))
    {ie : TypeInfo} {z : Value} (hie : P.info? e = some ie) (hz : ie.zero = some z) (hsz : ie.size = 32) (hzs : z.cells.size = 32) (w : World) :
    (execOp a.eval o).run P w = .ok (.value (.slice (some ⟨w.heap.size, 0, none⟩) 1 1)) (w.alloc (.cells (y.map u8v).toArray e)) := by
  have h := run_buildSlice (P := P) w t e 1 #[(0, .agg (y.map u8v).toArray)] (y.map u8v).toArray ie z hu hie hz (by rw [hsz]; omega) (by rw [hsz]; omega) (by rw [hsz]; exact fill_row y hy _ (by simp))
  have he : (#[(0, x)].map fun (p : Nat × Operand) => (p.1, a.eval p.2)) = #[(0, .agg (y.map u8v).toArray)] := by simp [hx]
  unfold execOp
  simp only [ho, Sem.run_bind]
  have h2 : (Instr.buildSlice t 1 (#[(0, x)].map fun (p : Nat × Operand) => (p.1, a.eval p.2))).run P w = .ok (.slice (some ⟨w.heap.size, 0, none⟩) 1 1) (w.alloc (.cells (y.map u8v).toArray e)) := by rw [he]; exact h
  rw [h2]
  rfl
theorem wpl_step {P : Program} {ops : Array Oper} {rest : List Oper} {o : Oper} {a : Act} {w w' : World} {Q : Exit → Act → World → Prop} {v : Value} (hgd : o.guard = none) (hr : (execOp a.eval o).run P w = .ok (.value v) w') (h : wpList P ops Q rest (a.put o.dst v) w') : wpList P ops Q (o :: rest) a w :=
  wpList_plain hgd fun K hK => by
    unfold Oper.wp
    rw [hr, Oper.upon_value]
    exact hK _ _ h
theorem wpl_buildRow {ops : Array Oper} {rest : List Oper} {o : Oper} {a : Act} {w : World} {Q : Exit → Act → World → Prop} (hgd : o.guard = none) {x : Operand} {y : List UInt8} (ho : o.op = .buildSlice 29 1 #[(0, x)]) (hx : a.eval x = .agg (y.map u8v).toArray) (hy : y.length = 32)
    (h : wpList Try.prog ops Q rest (a.put o.dst (.slice (some ⟨w.heap.size, 0, none⟩) 1 1)) (w.alloc (.cells (y.map u8v).toArray 32))) : wpList Try.prog ops Q (o :: rest) a w := by
  obtain ⟨i0, hi, hz, hsz, hb1⟩ := info_parts info_sum
  exact wpl_step hgd (exec_buildRow ho hx hy Try.underlying29 hi hz hsz zsum_size w) h
end

section
open Go Go.RowKit

def leavesL (its : List Item) : List (List UInt8) := (its.take 40).map fun it => leafL it.2.2
theorem leavesL_length (its : List Item) : (leavesL its).length = min its.length 40 := by simp [leavesL]; omega
theorem leavesL_32 (its : List Item) : All32 (leavesL its) := fun l hl => by
  obtain ⟨it, _, rfl⟩ := List.mem_map.1 hl
  exact leafL_length _
end

section
open Go Go.RowKit

def rootV (ls : List (List UInt8)) : List UInt8 × Int := if ls.length = 0 then (zero32, 10) else (rootS nodeL ls, 0)
end

section
open Go Go.RowKit

theorem exec_cmp {P : Program} {o : Oper} {a : Act} {op : BinOp} {t u : TypeId} {x y : Operand} (ho : o.op = .binOp op t x y u) {xs ys : Array Value} {b : Value} (hx : a.eval x = .agg xs) (hy : a.eval y = .agg ys)
    (hg : P.eqGuardType P.depth t = false) (hr : ∀ w, (binOp op t (.agg xs) (.agg ys)).run P w = .ok b w) (w : World) : (execOp a.eval o).run P w = .ok (.value b) w := by
  unfold execOp
  simp only [ho, hx, hy, Sem.run_bind, run_eqGuard_agg w op t x y xs ys hg, Result.andThen_ok, hr, Sem.run_pure]
end

section
open Go Go.RowKit

def printE (I Z : Int) (m : Nat) : Int := if I < 0 ∨ 65536 < I ∨ Z < 0 ∨ 65536 < Z then 4 else if 64 < m then 5 else 0
def printL (I Z : Int) (ls : List (List UInt8)) : List UInt8 := longL (UInt64.ofNat I.toNat) ++ longL (UInt64.ofNat Z.toNat) ++ octL (UInt32.ofNat ls.length) ++ ls.flatten
theorem octL_length (x : UInt32) : (octL x).length = 4 := rfl
theorem printL_length (I Z : Int) {ls : List (List UInt8)} (h : All32 ls) : (printL I Z ls).length = 20 + 32 * ls.length := by
  unfold printL
  rw [List.length_append, List.length_append, List.length_append, longL_length, longL_length, octL_length, flat_length h]

def printPost (I Z : Int) (ls : List (List UInt8)) (w : World) (e : Ending) (w' : World) : Prop :=
  ∃ v, e = .returned (.tuple #[v, .int .i64 (printE I Z ls.length)]) ∧ (if printE I Z ls.length = 0 then w'.ownsRow w.heap.size 5 1 v (20 + 32 * ls.length) ((printL I Z ls).map u8v) else v = .slice none 0 0) ∧ Ext w w'
end

section
open Go Go.RowKit

theorem own_of_blk {w : World} {g : Nat} {l : List UInt8} {n base : Nat} (hb : Blk w g (l.map u8v) 5) (hn : l.length = n) (hg : base ≤ g) (hm : n ≤ 9223372036854775807) : w.ownsRow base 5 1 (.slice (some ⟨g, 0, none⟩) n n) n (l.map u8v) := by
  refine ⟨by simp [hn], .inr ⟨g, n, (l.map u8v).toArray, rfl, hg, hb, Nat.le_refl _, by unfold maxLen; omega, by simp [hn], ?_⟩⟩
  rw [List.take_of_length_le (by simp [hn])]
end

section
open Go Go.RowKit

theorem list_eq_step {α : Type} [BEq α] [LawfulBEq α] {xs ys : List α} {k : Nat} {x y : α} (hx : xs[k]? = some x) (hy : ys[k]? = some y) (h : xs.take k = ys.take k) : (x = y → xs.take (k + 1) = ys.take (k + 1)) ∧ (x ≠ y → (xs == ys) = false) := by
  refine ⟨fun e => ?_, fun e => ?_⟩
  · rw [List.take_add_one, List.take_add_one, hx, hy, h, e]
  · rw [beq_eq_false_iff_ne]
    intro he
    rw [he, hy] at hx
    exact e (Option.some.inj hx).symm

set_option maxRecDepth 100000 in
set_option maxHeartbeats 1000000 in
theorem equalS_c (xs ys : List (List UInt8)) (a b : Option Addr) (n m c d : Nat) (w : World) (hn : xs.length = n) (hm : ys.length = m) (hb63 : n ≤ 4611686018427387904) (h1 : All32 xs) (h2 : All32 ys) (hx : Cells w a (rows xs)) (hy : Cells w b (rows ys)) :
    Calls Try.prog 15 #[.slice a n c, .slice b m d] w fun e w' => e = .returned (.bool (xs == ys)) ∧ Ext w w' := by
  have HN := hid hn
  have HM := hid hm
  have H1 := hid h1
  have H2 := hid h2
  have HX := hid hx
  have HY := hid hy
  clear hn hm h1 h2 hx hy
  by_cases hnm : n = m
  · subst hnm
    have g1 : ((n : Int) != (n : Int)) = false := by simp
    have g2 : (n != n) = false := by simp
    go_enter Try.func15, Try.ntmps15
    go_wp2
    go_loopw [13] (fun i wr => ∃ k : Nat, k ≤ n ∧ i = .int .i64 (k : Int) ∧ xs.take k = ys.take k ∧ Ext w wr) (fun i _ => n - (intOf i).toNat)
    case atStart => exact ⟨0, by omega, rfl, by simp, Ext.refl _⟩
    case round =>
      obtain ⟨k, hk, rfl, hpre, e1⟩ := hrel
      have E1 := hid e1
      have HP := hid hpre
      clear e1 hpre
      by_cases hlt : k < n
      · obtain ⟨x, hxk⟩ : ∃ x, xs[k]? = some x := ⟨xs[k]'(by rw [HN.out]; exact hlt), by simp⟩
        obtain ⟨y, hyk⟩ : ∃ y, ys[k]? = some y := ⟨ys[k]'(by rw [HM.out]; exact hlt), by simp⟩
        have hst := list_eq_step hxk hyk HP.out
        have hx0 := H1.out.at hxk
        have hy0 := H2.out.at hyk
        obtain ⟨A, rfl, hca⟩ : ∃ A, a = some A ∧ CellsAt w (A.add (k * 32)) (x.map u8v) := by
          cases a with
          | none => rcases HX.out with h | ⟨_, _, h, _⟩
                    · have := rows_length H1.out; rw [h, HN.out] at this; simp at this; omega
                    · cases h
          | some A => exact ⟨A, rfl, HX.out.rowAt H1.out hxk⟩
        obtain ⟨B, rfl, hcb⟩ : ∃ B, b = some B ∧ CellsAt w (B.add (k * 32)) (y.map u8v) := by
          cases b with
          | none => rcases HY.out with h | ⟨_, _, h, _⟩
                    · have := rows_length H2.out; rw [h, HM.out] at this; simp at this; omega
                    · cases h
          | some B => exact ⟨B, rfl, HY.out.rowAt H2.out hyk⟩
        have HCA := hid hca
        have HCB := hid hcb
        have HXV : Hid ((x.map u8v).length = 32) := hid (by rw [List.length_map, hx0])
        have HYV : Hid ((y.map u8v).length = 32) := hid (by rw [List.length_map, hy0])
        have hne := neq_arr Try.underlying32 x y hx0 hy0
        have HST := hid hst
        clear hca hcb hx0 hy0 hxk hyk hst
        cases hxy : (x == y) with
        | true =>
          rw [hxy] at hne
          have HNE := hid hne
          have HXY := hid (HST.out.1 (eq_of_beq hxy))
          clear hne hxy HST
          go_wp2
          obtain ⟨C, hC⟩ : ∃ C : World → Prop, C = Cls w wr [] [] := ⟨_, rfl⟩
          have hC0 : ∀ w', C w' ↔ Cls w wr [] [] w' := fun w' => by rw [hC]
          clear hC
          have HCC := hid hC0
          clear hC0
          have hCx : ∀ w w', C w → Ext w w' → C w' := fun w w' h1 h2 => (HCC.out w').2 (((HCC.out w).1 h1).ext h2)
          have hCA : C wr := (HCC.out _).2 (Cls.no_room E1.out (Kept.none _))
          have hca : ∀ w1, C w1 → CellsAt w1 (A.add (k * 32)) (x.map u8v) := fun w1 h1 => HCA.out.ext ((HCC.out w1).1 h1).base
          have hcb : ∀ w1, C w1 → CellsAt w1 (B.add (k * 32)) (y.map u8v) := fun w1 h1 => HCB.out.ext ((HCC.out w1).1 h1).base
          refine wp_region_held_drew (S := C) (by kernel_rfl) (hCx _ _ hCA (Ext.refl _).drew) (fun hS0 => ?_)
          refine held_take 0 (v := ?tv1) rfl (by kernel_rfl) (by kernel_rfl) (by kernel_rfl) (fun _ _ _ h => h) (.inl ⟨rfl, ?ty1⟩) hS0 ?tr1
          case ty1 => (intro _ _; go_simp; try with_reducible rfl)
          case tr1 =>
          simp only [Act.put, List.setIfInBounds_toArray, List.set_cons_succ, List.set_cons_zero]
          refine held_take 1 (v := ?tv2) rfl (by kernel_rfl) (by kernel_rfl) (by kernel_rfl) (fun _ _ _ h => h) (.inl ⟨rfl, ?ty2⟩) hS0 ?tr2
          case ty2 => (intro _ _; go_simp; try with_reducible rfl)
          case tr2 =>
          simp only [Act.put, List.setIfInBounds_toArray, List.set_cons_succ, List.set_cons_zero]
          refine held_take 2 (v := _) rfl (by kernel_rfl) (by kernel_rfl) (by kernel_rfl) (fun _ _ _ h => h) (yieldsI_run rfl (fun w1 _ => exec_index (i := k) rfl rfl rfl Try.underlying29 size_apisum hlt w1)) hS0 ?_
          simp only [Act.put, List.setIfInBounds_toArray, List.set_cons_succ, List.set_cons_zero]
          refine held_take 3 (v := _) rfl (by kernel_rfl) (by kernel_rfl) (by kernel_rfl) (fun _ _ _ h => h) (yieldsI_run rfl (fun w1 h => exec_load_at rfl rfl (hca w1 h) agg_apisum HXV.out)) hS0 ?_
          simp only [Act.put, List.setIfInBounds_toArray, List.set_cons_succ, List.set_cons_zero]
          refine held_take 4 (v := ?tv3) rfl (by kernel_rfl) (by kernel_rfl) (by kernel_rfl) (fun _ _ _ h => h) (.inl ⟨rfl, ?ty3⟩) hS0 ?tr3
          case ty3 => (intro _ _; go_simp; try with_reducible rfl)
          case tr3 =>
          simp only [Act.put, List.setIfInBounds_toArray, List.set_cons_succ, List.set_cons_zero]
          refine held_take 5 (v := ?tv4) rfl (by kernel_rfl) (by kernel_rfl) (by kernel_rfl) (fun _ _ _ h => h) (.inl ⟨rfl, ?ty4⟩) hS0 ?tr4
          case ty4 => (intro _ _; go_simp; try with_reducible rfl)
          case tr4 =>
          simp only [Act.put, List.setIfInBounds_toArray, List.set_cons_succ, List.set_cons_zero]
          refine held_take 6 (v := _) rfl (by kernel_rfl) (by kernel_rfl) (by kernel_rfl) (fun _ _ _ h => h) (yieldsI_run rfl (fun w1 _ => exec_index (i := k) rfl rfl rfl Try.underlying29 size_apisum hlt w1)) hS0 ?_
          simp only [Act.put, List.setIfInBounds_toArray, List.set_cons_succ, List.set_cons_zero]
          refine held_take 7 (v := _) rfl (by kernel_rfl) (by kernel_rfl) (by kernel_rfl) (fun _ _ _ h => h) (yieldsI_run rfl (fun w1 h => exec_load_at rfl rfl (hcb w1 h) agg_apisum HYV.out)) hS0 ?_
          simp only [Act.put, List.setIfInBounds_toArray, List.set_cons_succ, List.set_cons_zero]
          refine held_take 8 (v := _) rfl (by kernel_rfl) (by kernel_rfl) (by kernel_rfl) (fun _ _ _ h => h) (yieldsI_run rfl (fun w1 _ => exec_cmp rfl rfl rfl guard_sum HNE.out w1)) hS0 ?_
          simp only [Act.put, List.setIfInBounds_toArray, List.set_cons_succ, List.set_cons_zero]
          refine wpAnyH_done (by kernel_rfl) ?_ _
          have E2 := hid ((HCC.out _).1 hS0).base
          clear hS0 hca hcb hCx hCA HCC
          go_wp2
          go_roundw
          case rel => exact ⟨k + 1, by omega, by go_num, HXY.out, E2.out⟩
          case measure => simp [intOf]; omega
        | false =>
          rw [hxy] at hne
          have HNE := hid hne
          have hres := HST.out.2 (fun e => by rw [e] at hxy; simp at hxy)
          have HRES := hid hres
          clear hne hxy HST hres
          go_wp2
          obtain ⟨C, hC⟩ : ∃ C : World → Prop, C = Cls w wr [] [] := ⟨_, rfl⟩
          have hC0 : ∀ w', C w' ↔ Cls w wr [] [] w' := fun w' => by rw [hC]
          clear hC
          have HCC := hid hC0
          clear hC0
          have hCx : ∀ w w', C w → Ext w w' → C w' := fun w w' h1 h2 => (HCC.out w').2 (((HCC.out w).1 h1).ext h2)
          have hCA : C wr := (HCC.out _).2 (Cls.no_room E1.out (Kept.none _))
          have hca : ∀ w1, C w1 → CellsAt w1 (A.add (k * 32)) (x.map u8v) := fun w1 h1 => HCA.out.ext ((HCC.out w1).1 h1).base
          have hcb : ∀ w1, C w1 → CellsAt w1 (B.add (k * 32)) (y.map u8v) := fun w1 h1 => HCB.out.ext ((HCC.out w1).1 h1).base
          refine wp_region_held_drew (S := C) (by kernel_rfl) (hCx _ _ hCA (Ext.refl _).drew) (fun hS0 => ?_)
          refine held_take 0 (v := ?tv5) rfl (by kernel_rfl) (by kernel_rfl) (by kernel_rfl) (fun _ _ _ h => h) (.inl ⟨rfl, ?ty5⟩) hS0 ?tr5
          case ty5 => (intro _ _; go_simp; try with_reducible rfl)
          case tr5 =>
          simp only [Act.put, List.setIfInBounds_toArray, List.set_cons_succ, List.set_cons_zero]
          refine held_take 1 (v := ?tv6) rfl (by kernel_rfl) (by kernel_rfl) (by kernel_rfl) (fun _ _ _ h => h) (.inl ⟨rfl, ?ty6⟩) hS0 ?tr6
          case ty6 => (intro _ _; go_simp; try with_reducible rfl)
          case tr6 =>
          simp only [Act.put, List.setIfInBounds_toArray, List.set_cons_succ, List.set_cons_zero]
          refine held_take 2 (v := _) rfl (by kernel_rfl) (by kernel_rfl) (by kernel_rfl) (fun _ _ _ h => h) (yieldsI_run rfl (fun w1 _ => exec_index (i := k) rfl rfl rfl Try.underlying29 size_apisum hlt w1)) hS0 ?_
          simp only [Act.put, List.setIfInBounds_toArray, List.set_cons_succ, List.set_cons_zero]
          refine held_take 3 (v := _) rfl (by kernel_rfl) (by kernel_rfl) (by kernel_rfl) (fun _ _ _ h => h) (yieldsI_run rfl (fun w1 h => exec_load_at rfl rfl (hca w1 h) agg_apisum HXV.out)) hS0 ?_
          simp only [Act.put, List.setIfInBounds_toArray, List.set_cons_succ, List.set_cons_zero]
          refine held_take 4 (v := ?tv7) rfl (by kernel_rfl) (by kernel_rfl) (by kernel_rfl) (fun _ _ _ h => h) (.inl ⟨rfl, ?ty7⟩) hS0 ?tr7
          case ty7 => (intro _ _; go_simp; try with_reducible rfl)
          case tr7 =>
          simp only [Act.put, List.setIfInBounds_toArray, List.set_cons_succ, List.set_cons_zero]
          refine held_take 5 (v := ?tv8) rfl (by kernel_rfl) (by kernel_rfl) (by kernel_rfl) (fun _ _ _ h => h) (.inl ⟨rfl, ?ty8⟩) hS0 ?tr8
          case ty8 => (intro _ _; go_simp; try with_reducible rfl)
          case tr8 =>
          simp only [Act.put, List.setIfInBounds_toArray, List.set_cons_succ, List.set_cons_zero]
          refine held_take 6 (v := _) rfl (by kernel_rfl) (by kernel_rfl) (by kernel_rfl) (fun _ _ _ h => h) (yieldsI_run rfl (fun w1 _ => exec_index (i := k) rfl rfl rfl Try.underlying29 size_apisum hlt w1)) hS0 ?_
          simp only [Act.put, List.setIfInBounds_toArray, List.set_cons_succ, List.set_cons_zero]
          refine held_take 7 (v := _) rfl (by kernel_rfl) (by kernel_rfl) (by kernel_rfl) (fun _ _ _ h => h) (yieldsI_run rfl (fun w1 h => exec_load_at rfl rfl (hcb w1 h) agg_apisum HYV.out)) hS0 ?_
          simp only [Act.put, List.setIfInBounds_toArray, List.set_cons_succ, List.set_cons_zero]
          refine held_take 8 (v := _) rfl (by kernel_rfl) (by kernel_rfl) (by kernel_rfl) (fun _ _ _ h => h) (yieldsI_run rfl (fun w1 _ => exec_cmp rfl rfl rfl guard_sum HNE.out w1)) hS0 ?_
          simp only [Act.put, List.setIfInBounds_toArray, List.set_cons_succ, List.set_cons_zero]
          refine wpAnyH_done (by kernel_rfl) ?_ _
          have E2 := hid ((HCC.out _).1 hS0).base
          clear hS0 hca hcb hCx hCA HCC
          go_wp2
          go_ret
          exact ⟨by rw [HRES.out]; rfl, E2.out⟩
      · obtain rfl : k = n := by omega
        have he : xs = ys := by
          have := HP.out
          rwa [List.take_of_length_le (by rw [HN.out]; exact Nat.le_refl _), List.take_of_length_le (by rw [HM.out]; exact Nat.le_refl _)] at this
        have hb : (xs == ys) = true := by rw [he]; simp
        have HRES := hid hb
        clear he hb
        go_wp2
        go_ret
        exact ⟨by rw [HRES.out]; rfl, E1.out⟩
  · have g1 : ((n : Int) != (m : Int)) = true := by simp; omega
    have g2 : (n != m) = true := by simp [hnm]
    have hb : (xs == ys) = false := by
      rw [beq_eq_false_iff_ne]
      intro he
      exact hnm (by rw [← HN.out, ← HM.out, he])
    rw [hb]
    clear hb hnm
    go_enter Try.func15, Try.ntmps15
    go_wp2
    go_ret
    exact ⟨rfl, Ext.refl _⟩
end

section
open Go Go.RowKit

/-- octet by octet, up to a place -/
def xorTo (x y : List UInt8) : Nat → List UInt8
  | 0 => x
  | i + 1 => (xorTo x y i).set i (xor8 ((xorTo x y i)[i]?.getD 0) (y[i]?.getD 0))
theorem xorTo_length (x y : List UInt8) (i : Nat) : (xorTo x y i).length = x.length := by
  induction i with
  | zero => rfl
  | succ i ih => unfold xorTo; rw [List.length_set, ih]
theorem xorTo_get (x y : List UInt8) : ∀ (i j : Nat), j < x.length → (xorTo x y i)[j]? = some (if j < i then xor8 (x[j]?.getD 0) (y[j]?.getD 0) else x[j]?.getD 0)
  | 0, j, h => by simp [xorTo, h]
  | i + 1, j, h => by
    unfold xorTo
    have ih := xorTo_get x y i
    by_cases hij : i = j
    · subst hij
      rw [List.getElem?_set_self (by rw [xorTo_length]; exact h), ih i h, if_neg (Nat.lt_irrefl _), if_pos (Nat.lt_succ_self _)]
      rfl
    · rw [List.getElem?_set_ne hij, ih j h]
      by_cases hj : j < i
      · rw [if_pos hj, if_pos (by omega)]
      · rw [if_neg hj, if_neg (by omega)]
theorem agg_arr32 : AggT Try.prog 22 32 := ⟨⟨_, Try.underlying22, rfl⟩, by kernel_rfl⟩

set_option maxRecDepth 100000 in
set_option maxHeartbeats 1000000 in
theorem xor_c (x y : List UInt8) (w : World) (hx : x.length = 32) (hy : y.length = 32) :
    Calls Try.prog 10 #[.agg (x.map u8v).toArray, .agg (y.map u8v).toArray] w fun e w' => e = .returned (.agg ((xorTo x y 32).map u8v).toArray) ∧ Ext w w' := by
  have HX := hid hx
  have HY := hid hy
  have hxl := hid (show (x.map u8v).length = 32 by rw [List.length_map]; exact hx)
  have hyl := hid (show (y.map u8v).length = 32 by rw [List.length_map]; exact hy)
  have hzx : ∀ i, (xorTo x y i).length = 32 := fun i => by rw [xorTo_length]; exact hx
  have HZX := hid hzx
  clear hx hy hzx
  go_enter Try.func10, Try.ntmps10
  go_upto_region 1 with (fail)
  generalize hwA : World.alloc (World.alloc (World.alloc w _) _) _ = wA
  have xA : Blk wA w.heap.size ((xorTo x y 0).map u8v) 22 := by rw [← hwA]; exact ((Blk.mk_alloc rfl rfl).alloc _).alloc _
  have yA : Blk wA (w.heap.size + 1) (y.map u8v) 22 := by rw [← hwA]; exact (Blk.mk_alloc (by simp) rfl).alloc _
  have zA : Blk wA (w.heap.size + 2) (List.replicate 32 (.int .u8 0)) 22 := by rw [← hwA]; exact Blk.mk_alloc (by simp) rfl
  have eA : Ext w wA := by rw [← hwA]; exact (((Ext.refl w).alloc _).alloc _).alloc _
  have XA := hid xA
  have YA := hid yA
  have ZA := hid zA
  have EA := hid eA
  clear hwA xA yA zA eA
  go_wp2
  go_loopw [6] (fun i wr => ∃ k : Nat, k ≤ 32 ∧ i = .int .i64 (k : Int) ∧ Hid (Blk wr w.heap.size ((xorTo x y k).map u8v) 22) ∧ Hid (Blk wr (w.heap.size + 1) (y.map u8v) 22) ∧ Hid (Blk wr (w.heap.size + 2) (List.replicate 32 (.int .u8 0)) 22) ∧ Hid (Ext w wr)) (fun i _ => 32 - (intOf i).toNat)
  case atStart => exact ⟨0, by omega, rfl, XA, YA, ZA, EA⟩
  case round =>
    obtain ⟨k, hk, rfl, xW, yW, zW, eW⟩ := hrel
    by_cases hlt : k < 32
    · have hd : decide ((k : Int) < 32) = true := decide_eq_true (by omega)
      have c1 := xW.out.cell' (i := k) (u8_at (by rw [HZX.out]; exact hlt))
      have c2 := yW.out.cell' (i := k) (u8_at (by rw [HY.out]; exact hlt))
      have f1 := xW.out.frozen k
      have hxo := xor8_b ((xorTo x y k)[k]?.getD 0) (y[k]?.getD 0)
      have hst : xorTo x y (k + 1) = (xorTo x y k).set k (xor8 ((xorTo x y k)[k]?.getD 0) (y[k]?.getD 0)) := rfl
      have HST := hid hst
      have i0 : (0 : Int) ≤ (k : Int) := by omega
      have i1 : (k : Int) < 32 := by omega
      have i2 : k < 32 := hlt
      generalize (xorTo x y k)[k]?.getD 0 = p at *
      generalize y[k]?.getD 0 = q at *
      clear hst
      go_wp2_with fail
      refine wp_region_cls (C := fun w' => ∃ n, w' = wr.drewN n) 8 (by kernel_rfl) (by kernel_rfl) ⟨1, rfl⟩ ?_
      simp only [List.take_succ_cons, List.take_zero, List.drop_succ_cons, List.drop_zero]
      iterate 8 quiet_step (fail)
      refine wpQuiet_nil ?_
      rintro _ ⟨nq, rfl⟩
      go_wp2
      go_roundw
      case rel =>
        have u : Upd (wr.drewN nq) w.heap.size ((wr.drewN nq).setCell ⟨w.heap.size, k, none⟩ (.int .u8 ((xor8 p q).toNat : Int))) := Upd.setCell _
        have hb := (xW.out.drewN (n := nq)).set k (u8v (xor8 p q))
        rw [← List.map_set, ← HST.out] at hb
        exact ⟨k + 1, by omega, by go_num, hid hb, hid ((yW.out.drewN (n := nq)).upd u (by omega)), hid ((zW.out.drewN (n := nq)).upd u (by omega)), hid (u.ext (eW.out.drewN nq) (Nat.le_refl _))⟩
      case measure => simp [intOf]; omega
    · obtain rfl : k = 32 := by omega
      have hvl := hid (show ((xorTo x y 32).map u8v).length = 32 by rw [List.length_map]; exact HZX.out 32)
      have o1 : ∀ v ∈ (xorTo x y 32).map u8v, v.oneCell' = true := by intro v hv; obtain ⟨b, _, rfl⟩ := List.mem_map.1 hv; rfl
      go_wp2_with (first | (refine wpl_loadw rfl 22 (.tmp 2) rfl rfl xW.out agg_arr32 hvl.out ?_) | (refine wpl_storew rfl _ (.tmp 4) _ rfl rfl rfl zW.out agg_arr32 (by simp) hvl.out o1 ?_))
      intro w4 b4 u4
      have B4 := hid b4
      have E4 := hid (u4.ext eW.out (by omega))
      clear b4 u4
      go_wp2_with fail
      exact ret_row rfl rfl B4.out agg_arr32 hvl.out rfl ⟨rfl, E4.out⟩

set_option maxRecDepth 100000 in
set_option maxHeartbeats 1000000 in
theorem digit_c (ch : UInt8) (w : World) : Calls Try.prog 54 #[.int .u8 (ch.toNat : Int)] w fun e w' => e = .returned (.int .i64 (digitI ch)) ∧ w = w' := by
  obtain ⟨D, hD⟩ : ∃ D, digitI ch = D := ⟨_, rfl⟩
  rw [hD]
  obtain ⟨N, hN⟩ : ∃ N, ch.toNat = N := ⟨_, rfl⟩
  have hb : N < 256 := by rw [← hN]; exact UInt8.toNat_lt ch
  unfold digitI isHexD hvn at hD
  rw [hN] at hD ⊢
  clear hN
  by_cases h1 : 48 ≤ N
  · have k1 : decide ((48 : Int) ≤ (N : Int)) = true := decide_eq_true (by omega)
    by_cases h2 : N ≤ 57
    · have k2 : decide ((N : Int) ≤ 57) = true := decide_eq_true (by omega)
      have hDv : D = (N : Int) - 48 := by rw [← hD]; simp [h1, h2]; omega
      have w1 : IntKind.u8.wrap ((N : Int) - 48) = (N : Int) - 48 := by simp [IntKind.wrap, IntKind.bits, IntKind.signed]; omega
      have w2 : IntKind.i64.wrap ((N : Int) - 48) = (N : Int) - 48 := IntWalk.i64_in _ (by omega)
      subst hDv
      clear hD
      go_enter Try.func54, Try.ntmps54
      go_wp2
      go_ret
      exact ⟨rfl, rfl⟩
    · have k2 : decide ((N : Int) ≤ 57) = false := decide_eq_false (by omega)
      by_cases h3 : 97 ≤ N
      · have k3 : decide ((97 : Int) ≤ (N : Int)) = true := decide_eq_true (by omega)
        by_cases h4 : N ≤ 102
        · have k4 : decide ((N : Int) ≤ 102) = true := decide_eq_true (by omega)
          have hDv : D = (N : Int) - 97 + 10 := by rw [← hD]; simp [h1, h2, h3, h4]; omega
          have w1 : IntKind.u8.wrap ((N : Int) - 97) = (N : Int) - 97 := by simp [IntKind.wrap, IntKind.bits, IntKind.signed]; omega
          have w2 : IntKind.i64.wrap ((N : Int) - 97) = (N : Int) - 97 := IntWalk.i64_in _ (by omega)
          have w3 : IntKind.i64.wrap ((N : Int) - 97 + 10) = (N : Int) - 97 + 10 := IntWalk.i64_in _ (by omega)
          subst hDv
          clear hD
          go_enter Try.func54, Try.ntmps54
          go_wp2
          go_ret
          exact ⟨rfl, rfl⟩
        · have k4 : decide ((N : Int) ≤ 102) = false := decide_eq_false (by omega)
          have hDv : D = -1 := by rw [← hD]; simp [h2, h4]
          subst hDv
          clear hD
          go_enter Try.func54, Try.ntmps54
          go_wp2
          go_ret
          exact ⟨rfl, rfl⟩
      · have k3 : decide ((97 : Int) ≤ (N : Int)) = false := decide_eq_false (by omega)
        have hDv : D = -1 := by rw [← hD]; simp [h2, h3]
        subst hDv
        clear hD
        go_enter Try.func54, Try.ntmps54
        go_wp2
        go_ret
        exact ⟨rfl, rfl⟩
  · have k1 : decide ((48 : Int) ≤ (N : Int)) = false := decide_eq_false (by omega)
    have k3 : decide ((97 : Int) ≤ (N : Int)) = false := decide_eq_false (by omega)
    have hDv : D = -1 := by rw [← hD]; simp [h1, show ¬ 97 ≤ N by omega]
    subst hDv
    clear hD
    go_enter Try.func54, Try.ntmps54
    go_wp2
    go_ret
    exact ⟨rfl, rfl⟩
end

section
open Go Go.RowKit Go.Maps Go.MapKept Go.WideShapes

/-- block g is a map whose keys are ks (as they came), each with 'true' -/
def SetAt (w : World) (g : Nat) (ks : List Value) : Prop := ∃ es clock, w.heap[g]? = some (.map es clock) ∧ es.toList.map MapEntry.key = ks ∧ ∀ x ∈ es.toList, x.val = .bool true
def Keys (P : Program) (k : TypeId) (ks : List Value) : Prop := ∀ v ∈ ks, ∃ l, keyOf P k v = some l

theorem SetAt.lt {w : World} {g : Nat} {ks : List Value} (h : SetAt w g ks) : g < w.heap.size := by
  obtain ⟨es, c, hb, _⟩ := h
  exact (Array.getElem?_eq_some_iff.1 hb).1
theorem SetAt.new (w : World) : SetAt (w.alloc (.map #[] 0)) w.heap.size [] := ⟨#[], 0, by show (w.heap.push _)[w.heap.size]? = _; simp, rfl, by simp⟩
theorem SetAt.ext {w w' : World} {g : Nat} {ks : List Value} (h : SetAt w g ks) (e : Ext w w') : SetAt w' g ks := by
  obtain ⟨es, c, hb, h1, h2⟩ := h
  exact ⟨es, c, (e.block g (Array.getElem?_eq_some_iff.1 hb).1).trans hb, h1, h2⟩

section
variable {P : Program} {t k e : TypeId} {w : World} {g : Nat} {ks : List Value} {key : Value} {kl : Lit}
theorem run_lookup_set (K : Keyed P k) (ht : P.underlying t = some (.map k e)) (hz : (zeroValue e).run P w = .ok (.bool false) w) (h : SetAt w g ks) (hk : Keys P k ks) (hkey : keyOf P k key = some kl) :
    ∃ b : Bool, (Instr.lookup t (.map (some g)) key false).run P w = .ok (.bool b) w ∧ (b = true ↔ key ∈ ks) := by
  obtain ⟨es, c, hb, rfl, hv⟩ := h
  have hes : ∀ x ∈ es.toList, ∃ l, keyOf P k x.key = some l := fun x hx => hk _ (List.mem_map.2 ⟨x, hx, rfl⟩)
  rcases K.find w hkey es.toList hes with ⟨h1, h2⟩ | ⟨j, e0, h1, h2, h3⟩
  · refine ⟨false, by simp [Instr.lookup, run_underlying ht, MapKept.run_getObj_map hb, K.check w _ hkey, h1, hz, Result.andThen], ?_⟩
    constructor
    · intro h; cases h
    · intro hm
      obtain ⟨x, hx, he⟩ := List.mem_map.1 hm
      exact absurd he (h2 x hx)
  · have hm0 : e0 ∈ es.toList := List.mem_of_getElem? h2
    refine ⟨true, by simp [Instr.lookup, run_underlying ht, MapKept.run_getObj_map hb, K.check w _ hkey, h1, hv e0 hm0, Result.andThen], ?_⟩
    exact ⟨fun _ => List.mem_map.2 ⟨e0, hm0, h3⟩, fun _ => rfl⟩

theorem run_update_set (K : Keyed P k) (ht : P.underlying t = some (.map k e)) (h : SetAt w g ks) (hk : Keys P k ks) (hkey : keyOf P k key = some kl) :
    ∃ w' ks', (Instr.mapUpdate t (.map (some g)) key (.bool true)).run P w = .ok () w' ∧ Upd w g w' ∧ SetAt w' g ks' ∧ ((key ∈ ks ∧ ks' = ks) ∨ (key ∉ ks ∧ ks' = ks ++ [key])) := by
  obtain ⟨es, c, hb, rfl, hv⟩ := h
  have hg : g < w.heap.size := (Array.getElem?_eq_some_iff.1 hb).1
  have hes : ∀ x ∈ es.toList, ∃ l, keyOf P k x.key = some l := fun x hx => hk _ (List.mem_map.2 ⟨x, hx, rfl⟩)
  have hu : ∀ o : Obj, Upd w g { w with heap := w.heap.setIfInBounds g o } := fun o => ⟨rfl, rfl, rfl, by simp, fun j hj => by
    show (w.heap.setIfInBounds g o)[j]? = _
    rw [Array.getElem?_setIfInBounds_ne (Ne.symm hj)]⟩
  have hb2 : ∀ o : Obj, ({ w with heap := w.heap.setIfInBounds g o } : World).heap[g]? = some o := fun o => by
    show (w.heap.setIfInBounds g o)[g]? = _
    rw [Array.getElem?_setIfInBounds_self_of_lt hg]
  rcases K.find w hkey es.toList hes with ⟨h1, h2⟩ | ⟨j, e0, h1, h2, h3⟩
  · refine ⟨_, _, by simp [Instr.mapUpdate, run_underlying ht, MapKept.run_getObj_map hb, K.check w _ hkey, h1, MapKept.run_setObj_map _ hb, Result.andThen]; rfl, hu _, ⟨_, _, hb2 _, rfl, ?_⟩, .inr ⟨?_, ?_⟩⟩
    · intro x hx
      simp only [Array.toList_push, List.mem_append, List.mem_singleton] at hx
      rcases hx with hx | rfl
      · exact hv x hx
      · rfl
    · intro hm
      obtain ⟨x, hx, he⟩ := List.mem_map.1 hm
      exact h2 x hx he
    · simp
  · have hj : es[j]? = some e0 := by simpa using h2
    have hm0 : e0 ∈ es.toList := List.mem_of_getElem? h2
    refine ⟨_, _, by simp [Instr.mapUpdate, run_underlying ht, MapKept.run_getObj_map hb, K.check w _ hkey, h1, hj, h3, K.stays w hkey, MapKept.run_setObj_map _ hb, Result.andThen]; rfl, hu _, ⟨_, _, hb2 _, rfl, ?_⟩, .inl ⟨List.mem_map.2 ⟨e0, hm0, h3⟩, ?_⟩⟩
    · intro x hx
      rcases MapFrom.mem_modify hx with hx | ⟨e', _, rfl⟩
      · exact hv x hx
      · rfl
    · rw [Array.toList_modify, ChangeMaps.modify_eq_set _ _ _ _ h2, List.map_set]
      apply List.ext_getElem?
      intro i
      rw [List.getElem?_set]
      split
      · next hi =>
        subst hi
        have hjl : j < (es.toList.map MapEntry.key).length := by rw [List.length_map]; exact (List.getElem?_eq_some_iff.1 h2).1
        rw [if_pos hjl, List.getElem?_map, h2]
        simp [h3]
      · rfl

theorem run_makeMapU (t : TypeId) (w : World) : (Instr.makeMap t none).run P w = .ok (.map (some w.heap.size)) (w.alloc (.map #[] 0)) := by
  simp [Instr.makeMap, newObj, Sem.run]
theorem run_len_set {ty : TypeId} (ht : P.underlying t = some (.map k e)) (h : SetAt w g ks) : (Builtin.len_ #[t] ty #[.map (some g)]).run P w = .ok (goInt ks.length) w := by
  obtain ⟨es, c, hb, rfl, hv⟩ := h
  simp [Builtin.len_, run_underlying ht, MapKept.run_getObj_map hb]
end
end

section
open Go Go.RowKit

theorem append_rowblkF (w : World) (B : Nat) (t e ty : TypeId) {i0 : TypeInfo} {z0 : Value} {z : Nat} (hu : Try.prog.underlying t = some (.slice e)) (hi : Try.prog.info? e = some i0) (hz : i0.zero = some z0) (hsz : i0.size = z) (hb1 : i0.bytes = z) (hzs : z0.cells.size = z) (h0 : 0 < z)
    {v : Value} {n m c : Nat} {xs news : List Value} {y : Addr} (hown : w.ownsRow B e z v n xs) (hl : news.length = m * z) (hc : ∀ j u, news[j]? = some u → w.cell? (y.add j) = some u) (h1 : ∀ u ∈ news, u.oneCell' = true)
    (hb : (n + m) * z ≤ 140737488355328) (hbase : B ≤ w.heap.size) :
    ∃ v' w', (Builtin.append_ #[t, t] ty #[v, .slice (some y) m c]).run Try.prog w = .ok v' w' ∧ w'.ownsRow B e z v' (n + m) (xs ++ news) ∧ w.grownBy w' v.ownBlock ∧
      (v'.ownBlock = v.ownBlock ∨ v'.ownBlock = some w.heap.size) := by
  have hnm : n + m ≤ 140737488355328 := Nat.le_trans (Nat.le_mul_of_pos_right _ h0) hb
  have hmz : m * z ≤ 140737488355328 := Nat.le_trans (Nat.mul_le_mul_right z (Nat.le_add_left m n)) hb
  have hl' : news.length = m * i0.size := by rw [hsz]; exact hl
  obtain ⟨v', w', hr, h1', h2, h3⟩ := run_append_own (P := Try.prog) w B t ty e i0 z0 z z hu hi hz hsz hb1 hzs h0 v n xs hown y m c news hl hc h1 (by unfold maxLen; omega) hb hbase
  refine ⟨v', w', hr, h1', h2, ?_⟩
  rcases hown.2 with ⟨rfl, rfl⟩ | ⟨g, cap, cur, rfl, hbg, hg, hnc, hcm, hcs, htake⟩
  · by_cases hm0 : m = 0
    · left
      rw [h3.2 ⟨rfl, hm0⟩]
    · right
      have hr2 := run_append_nil (P := Try.prog) w t ty e i0 z0 hu hi hz y m c news hl' hc (by omega) (by omega) (by rw [hb1]; omega)
      exact ok_block hr2 hr rfl
  · by_cases hroom : n + m ≤ cap
    · left
      obtain ⟨w2, hr2, _⟩ := run_append_fits (P := Try.prog) w B t ty e i0 z hu hi hsz g n cap xs hown y m c news hl hc h1 hroom
      exact ok_block hr2 hr rfl
    · right
      have hr2 := run_append_grow (P := Try.prog) w t ty e i0 z0 hu hi hz ⟨g, 0, none⟩ n cap xs (by rw [hsz]; exact hown.1) (hown.cells (g := g) rfl) y m c news hl' hc (by omega) (by omega) (growslice_fits (by omega) (by rw [hb1]; omega))
      exact ok_block hr2 hr rfl

/-- append one row onto a row of one's own, the block told -/
theorem wpl_append_rowB {ops : Array Oper} {rest : List Oper} {o : Oper} {a : Act} {w : World} {Q : Exit → Act → World → Prop} (hgd : o.guard = none) (s x : Operand)
    (ho : o.op = .call { callee := .builtin .append, args := #[s, x], argTypes := #[29, 29] }) (base : Nat) {v : Value} {n c g : Nat} {ls : List (List UInt8)} {y : List UInt8} {T : TypeId}
    (hs : a.eval s = v) (hx : a.eval x = .slice (some ⟨g, 0, none⟩) 1 c) (hown : w.ownsRow base 32 32 v n (rows ls)) (hy : y.length = 32) (hb : Blk w g (y.map u8v) T)
    (hn : (n + 1) * 32 ≤ 140737488355328) (hbase : base ≤ w.heap.size)
    (h : ∀ v' w', w'.ownsRow base 32 32 v' (n + 1) (rows (ls ++ [y])) → w.grownBy w' v.ownBlock → (v'.ownBlock = v.ownBlock ∨ v'.ownBlock = some w.heap.size) → wpList Try.prog ops Q rest (a.put o.dst v') w') : wpList Try.prog ops Q (o :: rest) a w := by
  obtain ⟨i0, hi, hz, hsz, hb1⟩ := info_parts info_sum
  obtain ⟨v', w', hr, h1, h2, h3⟩ := append_rowblkF w base 29 32 o.type (m := 1) (c := c) Try.underlying29 hi hz hsz hb1 zsum_size (by decide) hown (by rw [List.length_map, hy]) (news_blk hb) (one_u8 _) hn hbase
  exact wpList_plain hgd fun K hK => Lib.wp_append_run w s x _ _ ho v _ hs hx v' w' hr (hK _ _ (h v' w' (by rw [rows_append, rows_one]; exact h1) h2 h3))

/-- the beginning of a row of one's own -/
theorem own_prefix {w : World} {B : Nat} {e : TypeId} {z n c k : Nat} {a : Option Addr} {xs : List Value} (h : w.ownsRow B e z (.slice a n c) n xs) (hk : k ≤ n) (hn : 0 < n) : w.ownsRow B e z (.slice a k c) k (xs.take (k * z)) := by
  obtain ⟨hl, h⟩ := h
  have hkz : k * z ≤ n * z := Nat.mul_le_mul_right z hk
  refine ⟨by rw [List.length_take]; omega, ?_⟩
  rcases h with ⟨hv, rfl⟩ | ⟨g, cap, cur, hv, hb, hg, h1, h2, h3, h4⟩
  · omega
  · cases hv
    refine .inr ⟨g, _, cur, rfl, hb, hg, by omega, h2, h3, ?_⟩
    rw [← h4, List.take_take, Nat.min_eq_left hkz]
theorem own_keep {w w' : World} {B : Nat} {e : TypeId} {z n : Nat} {v : Value} {xs : List Value} (h : w.ownsRow B e z v n xs) (hk : ∀ q, v.ownBlock = some q → w'.heap[q]? = w.heap[q]?) : w'.ownsRow B e z v n xs := by
  obtain ⟨hl, h⟩ := h
  refine ⟨hl, ?_⟩
  rcases h with h | ⟨g, cap, cur, hv, hb, hg, h1⟩
  · exact .inl h
  · refine .inr ⟨g, cap, cur, hv, hb, ?_, h1⟩
    rw [hk g (by rw [hv]; rfl)]; exact hg
theorem CellsAt.keep {w w' : World} {p : Addr} {xs : List Value} (h : CellsAt w p xs) (hp : p.spot = none) (hk : w'.heap[p.block]? = w.heap[p.block]?) : CellsAt w' p xs := by
  intro j u hu
  have h1 := h j u hu
  obtain ⟨b, off, sl⟩ := p
  simp only at hp hk
  subst hp
  rw [addr_add] at h1 ⊢
  simp only [World.cell?] at h1 ⊢
  rw [hk]; exact h1
end

section
open Go Go.RowKit Go.Maps Go.MapKept Go.WideShapes

def sumV (x : List UInt8) : Value := .agg (x.map u8v).toArray
theorem u8v_inj {a b : UInt8} (h : u8v a = u8v b) : a = b := by
  unfold u8v at h
  injection h with _ h
  exact UInt8.toNat_inj.1 (by omega)
theorem sumV_inj {x y : List UInt8} (h : sumV x = sumV y) : x = y := by
  unfold sumV at h
  injection h with h
  have h2 : x.map u8v = y.map u8v := by simpa using congrArg Array.toList h
  exact (List.map_inj_right (fun _ _ => u8v_inj)).1 h2
theorem mem_sumV {x : List UInt8} {ds : List (List UInt8)} : sumV x ∈ ds.map sumV ↔ x ∈ ds := by
  constructor
  · intro h
    obtain ⟨y, hy, he⟩ := List.mem_map.1 h
    rw [← sumV_inj he]; exact hy
  · exact List.mem_map_of_mem
theorem sum_keyed : Keyed Try.prog 32 := Keyed.of_law (WideMaps.ArrKey.law (e := 5) (n := 32) ⟨Try.underlying32, by kernel_rfl, by kernel_rfl, by kernel_rfl⟩)
theorem mapM_someS {α β : Type} (g : α → Option β) : ∀ (l : List α), (∀ i ∈ l, ∃ y, g i = some y) → ∃ ys, l.mapM g = some ys
  | [], _ => ⟨[], rfl⟩
  | a :: l, h => by
    obtain ⟨y, hy⟩ := h a (by simp)
    obtain ⟨ys, hys⟩ := mapM_someS g l (fun i hi => h i (List.mem_cons_of_mem _ hi))
    exact ⟨y :: ys, by rw [List.mapM_cons, hy, hys]; rfl⟩
theorem key_sum {m : List UInt8} (hm : m.length = 32) : ∃ l, keyOf Try.prog 32 (.agg (m.map u8v).toArray) = some l := by
  have ht := Try.underlying32
  have hk : Try.prog.keyType 32 = true := by kernel_rfl
  have hc : Try.prog.cellsOf 32 = 32 := by kernel_rfl
  have hc8 : Try.prog.cellsOf 5 = 1 := by kernel_rfl
  have hf : (Value.agg (m.map u8v).toArray).formed Try.prog 32 = true := by simp [Value.formed, ht, hc, hm]
  obtain ⟨d, hd⟩ : ∃ d, Try.prog.types.size = d + 1 := Nat.exists_eq_succ_of_ne_zero (by
    intro h
    have : decide (Try.prog.types.size = 0) = false := by kernel_rfl
    rw [h] at this; simp at this)
  unfold keyOf
  rw [ht]
  simp only [hk, hf, Bool.and_self, if_true]
  have hl : (Value.agg (m.map u8v).toArray).cells.toList = m.map u8v := rfl
  rw [hl, hd]
  unfold Program.keyLits
  rw [ht]
  simp only [List.length_map, hm, hc, if_true, hc8, Nat.mul_one]
  obtain ⟨ys, hys⟩ := mapM_someS (fun i => Try.prog.keyLits (d + 1) 5 (((m.map u8v).drop i).take 1)) (List.range 32) (fun i hi => by
    have hi32 : i < m.length := by rw [hm]; exact List.mem_range.1 hi
    have he : ((m.map u8v).drop i).take 1 = [u8v m[i]] := by
      rw [← List.map_drop, ← List.map_take, List.drop_eq_getElem_cons hi32]; rfl
    refine ⟨[.int .u8 (m[i].toNat : Int)], ?_⟩
    rw [he]
    unfold Program.keyLits
    rw [Try.underlying5]
    have h2 := m[i].toNat_lt
    have hw : (Lit.int .u8 (m[i].toNat : Int)).wf = true := by
      have e1 : IntKind.u8.min = 0 := by decide
      have e2 : IntKind.u8.max = 255 := by decide
      show (decide (IntKind.u8.min ≤ (m[i].toNat : Int)) && decide ((m[i].toNat : Int) ≤ IntKind.u8.max)) = true
      rw [e1, e2, decide_eq_true (by omega), decide_eq_true (by omega)]; rfl
    simp only [u8v, hw, and_self, if_true])
  rw [hys]
  exact ⟨_, rfl⟩
theorem keys_sums {ds : List (List UInt8)} (h : All32 ds) : Keys Try.prog 32 (ds.map sumV) := fun v hv => by
  obtain ⟨y, hy, rfl⟩ := List.mem_map.1 hv
  exact key_sum (h y hy)

/-- a set of sums: the keys of block g -/
structure SumSet (w : World) (g : Nat) (ds : List (List UInt8)) : Prop where
  set : SetAt w g (ds.map sumV)
  all : All32 ds
  nodup : ds.Nodup
theorem SumSet.ext {w w' : World} {g : Nat} {ds : List (List UInt8)} (h : SumSet w g ds) (e : Ext w w') : SumSet w' g ds := ⟨h.set.ext e, h.all, h.nodup⟩
theorem SetAt.keep {w w' : World} {g : Nat} {ks : List Value} (h : SetAt w g ks) (e : w'.heap[g]? = w.heap[g]?) : SetAt w' g ks := by
  obtain ⟨es, c, hb, h1, h2⟩ := h
  exact ⟨es, c, e.trans hb, h1, h2⟩
theorem SumSet.grown {w w' : World} {g : Nat} {ds : List (List UInt8)} {r : Option Nat} (h : SumSet w g ds) (k : w.grownBy w' r) (hr : ∀ q, r = some q → g < q) : SumSet w' g ds :=
  ⟨h.set.keep (k.block g h.set.lt (fun he => absurd (hr g he.symm) (Nat.lt_irrefl _))), h.all, h.nodup⟩
theorem SumSet.new (w : World) : SumSet (w.alloc (.map #[] 0)) w.heap.size [] := ⟨SetAt.new w, All32.nil, List.nodup_nil⟩
theorem SumSet.lt {w : World} {g : Nat} {ds : List (List UInt8)} (h : SumSet w g ds) : g < w.heap.size := h.set.lt

/-- a sum is laid into the set -/
theorem run_putSum {w : World} {g : Nat} {ds : List (List UInt8)} {x : List UInt8} (ht : Try.prog.underlying 30 = some (.map 32 4)) (h : SumSet w g ds) (hx : x.length = 32) :
    ∃ w' ds', (Instr.mapUpdate 30 (.map (some g)) (.agg (x.map u8v).toArray) (.bool true)).run Try.prog w = .ok () w' ∧ Upd w g w' ∧ SumSet w' g ds' ∧ ∀ z, z ∈ ds' ↔ z ∈ ds ∨ z = x := by
  obtain ⟨kl, hkl⟩ := key_sum hx
  obtain ⟨w', ks', hr, hu, hs, hor⟩ := run_update_set sum_keyed ht h.set (keys_sums h.all) hkl
  rcases hor with ⟨hm, rfl⟩ | ⟨hm, rfl⟩
  · have hm2 : x ∈ ds := mem_sumV.1 hm
    refine ⟨w', ds, hr, hu, ⟨hs, h.all, h.nodup⟩, fun z => ⟨.inl, fun hz => ?_⟩⟩
    rcases hz with hz | rfl
    · exact hz
    · exact hm2
  · have hm2 : x ∉ ds := fun hx => hm (mem_sumV.2 hx)
    refine ⟨w', ds ++ [x], hr, hu, ⟨by rw [List.map_append]; exact hs, fun l hl => ?_, ?_⟩, fun z => by simp⟩
    · rcases List.mem_append.1 hl with h1 | h1
      · exact h.all l h1
      · rw [List.mem_singleton.1 h1]; exact hx
    · rw [List.nodup_append]
      refine ⟨h.nodup, by simp, fun a ha b hb => ?_⟩
      rw [List.mem_singleton.1 hb]
      intro hab
      exact hm2 (hab ▸ ha)
theorem run_hasSum {w : World} {g : Nat} {ds : List (List UInt8)} {x : List UInt8} (ht : Try.prog.underlying 30 = some (.map 32 4)) (h : SumSet w g ds) (hx : x.length = 32) (hm : x ∈ ds) :
    (Instr.lookup 30 (.map (some g)) (.agg (x.map u8v).toArray) false).run Try.prog w = .ok (.bool true) w := by
  obtain ⟨kl, hkl⟩ := key_sum hx
  obtain ⟨b, hb, hbm⟩ := run_lookup_set sum_keyed ht (by kernel_rfl) h.set (keys_sums h.all) hkl
  rw [hb, hbm.2 (mem_sumV.2 hm)]
theorem exec_hasSum {o : Oper} {a : Act} {y z : Operand} {g : Nat} {ds : List (List UInt8)} {x : List UInt8} {w : World} (ht : Try.prog.underlying 30 = some (.map 32 4)) (ho : o.op = .lookup 30 y z false) (hy : a.eval y = .map (some g)) (hz : a.eval z = .agg (x.map u8v).toArray) (h : SumSet w g ds) (hx : x.length = 32) (hm : x ∈ ds) :
    (execOp a.eval o).run Try.prog w = .ok (.value (.bool true)) w := by
  unfold execOp
  simp only [ho, hy, hz, Sem.run_bind]
  rw [run_hasSum ht h hx hm]
  simp only [Result.andThen_ok, Sem.run_pure]
theorem sorted_nodup {os : List (List UInt8)} (h : os.Pairwise (fun x y => ltB x y = true)) : os.Nodup := by
  refine h.imp (fun {a b} hab he => ?_)
  subst he
  rw [ltB_irrefl] at hab; cases hab
theorem same_members {os ds : List (List UInt8)} (h1 : os.Pairwise (fun x y => ltB x y = true)) (h2 : ds.Nodup) (h : ∀ x, x ∈ os ↔ x ∈ ds) : os.length = ds.length :=
  ((List.perm_ext_iff_of_nodup (sorted_nodup h1) h2).2 h).length_eq
theorem sorted_at {os : List (List UInt8)} (h : os.Pairwise (fun x y => ltB x y = true)) {i : Nat} {x y : List UInt8} (hx : os[i]? = some x) (hy : os[i + 1]? = some y) : cmpB x y < 0 := by
  obtain ⟨hi, rfl⟩ := List.getElem?_eq_some_iff.1 hx
  obtain ⟨hj, rfl⟩ := List.getElem?_eq_some_iff.1 hy
  exact of_decide_eq_true (List.pairwise_iff_getElem.1 h i (i + 1) hi hj (by omega))
theorem compareE_c (x y : List UInt8) (w : World) (hx : x.length = 32) (hy : y.length = 32) :
    Calls Try.prog 11 #[.agg (x.map u8v).toArray, .agg (y.map u8v).toArray] w fun e w' => e = .returned (.int .i64 (cmpB x y)) ∧ Ext w w' :=
  (compare_c x y w hx hy).mono fun _ _ h => ⟨h.1, h.2.ext⟩
end

section
open Go Go.RowKit Go.Maps Go.MapKept Go.WideShapes

abbrev Ent := List UInt8 × List UInt8
structure Ents (hs : List Ent) : Prop where
  k32 : ∀ p ∈ hs, p.1.length = 32
  v32 : ∀ p ∈ hs, p.2.length = 32
  nodup : (hs.map Prod.fst).Nodup
theorem Ents.nil : Ents [] := ⟨by simp, by simp, by simp⟩
theorem zero32_l : zero32.length = 32 := by simp [zero32]
def ixK (k : List UInt8) (hs : List Ent) : Option Nat := hs.findIdx? (fun p => p.1 == k)
def getK (hs : List Ent) (k : List UInt8) : List UInt8 := match ixK k hs with | some i => (hs[i]?.map Prod.snd).getD zero32 | none => zero32
def setK (hs : List Ent) (k v : List UInt8) : List Ent := match ixK k hs with | some i => hs.set i (k, v) | none => hs ++ [(k, v)]
def delK (hs : List Ent) (k : List UInt8) : List Ent := match ixK k hs with | some i => hs.eraseIdx i | none => hs

theorem ixK_none {k : List UInt8} {hs : List Ent} : ixK k hs = none ↔ ∀ p ∈ hs, p.1 ≠ k := by
  unfold ixK
  rw [List.findIdx?_eq_none_iff]
  simp
theorem ixK_lt {k : List UInt8} {hs : List Ent} {i : Nat} (h : ixK k hs = some i) : i < hs.length := by
  unfold ixK at h
  exact (List.findIdx?_eq_some_iff_getElem.1 h).1
theorem ixK_at {k : List UInt8} {hs : List Ent} {i : Nat} (h : ixK k hs = some i) : ∃ v, hs[i]? = some (k, v) := by
  unfold ixK at h
  obtain ⟨hi, h1, _⟩ := List.findIdx?_eq_some_iff_getElem.1 h
  refine ⟨hs[i].2, ?_⟩
  rw [List.getElem?_eq_getElem hi]
  have : hs[i].1 = k := by simpa using h1
  rw [← this]
theorem nodup_idx {hs : List Ent} (h : (hs.map Prod.fst).Nodup) {i j : Nat} {k v u : List UInt8} (hi : hs[i]? = some (k, v)) (hj : hs[j]? = some (k, u)) : i = j := by
  have h1 : (hs.map Prod.fst)[i]? = some k := by rw [List.getElem?_map, hi]; rfl
  have h2 : (hs.map Prod.fst)[j]? = some k := by rw [List.getElem?_map, hj]; rfl
  have hil : i < (hs.map Prod.fst).length := (List.getElem?_eq_some_iff.1 h1).1
  exact (List.getElem?_inj hil h).1 (h1.trans h2.symm)
theorem ixK_of {hs : List Ent} (h : (hs.map Prod.fst).Nodup) {j : Nat} {k v : List UInt8} (hj : hs[j]? = some (k, v)) : ixK k hs = some j := by
  cases hx : ixK k hs with
  | none => exact absurd rfl (ixK_none.1 hx (k, v) (List.mem_of_getElem? hj))
  | some i =>
    obtain ⟨u, hu⟩ := ixK_at hx
    rw [nodup_idx h hu hj]
theorem map_set_self {α β : Type} {f : α → β} {l : List α} {i : Nat} {x y : α} (hx : l[i]? = some x) (h : f x = f y) : (l.set i y).map f = l.map f := by
  rw [List.map_set, ← h]
  apply List.ext_getElem?
  intro j
  rw [List.getElem?_set]
  split
  · next hij =>
    subst hij
    have hl : i < (l.map f).length := by rw [List.length_map]; exact (List.getElem?_eq_some_iff.1 hx).1
    rw [if_pos hl, List.getElem?_map, hx]; rfl
  · rfl
theorem map_eraseI {α β : Type} (f : α → β) (l : List α) (i : Nat) : (l.eraseIdx i).map f = (l.map f).eraseIdx i := by
  rw [List.eraseIdx_eq_take_drop_succ, List.eraseIdx_eq_take_drop_succ, List.map_append, List.map_take, List.map_drop]
theorem Ents.set {hs : List Ent} (h : Ents hs) {k v : List UInt8} (hk : k.length = 32) (hv : v.length = 32) : Ents (setK hs k v) := by
  unfold setK
  cases hx : ixK k hs with
  | none =>
    refine ⟨fun p hp => ?_, fun p hp => ?_, ?_⟩
    · rcases List.mem_append.1 hp with hp | hp
      · exact h.k32 p hp
      · rw [List.mem_singleton.1 hp]; exact hk
    · rcases List.mem_append.1 hp with hp | hp
      · exact h.v32 p hp
      · rw [List.mem_singleton.1 hp]; exact hv
    · rw [List.map_append, List.nodup_append]
      refine ⟨h.nodup, by simp, fun a ha b hb => ?_⟩
      obtain ⟨p, hp, rfl⟩ := List.mem_map.1 ha
      have hbk : b = k := by simpa using hb
      rw [hbk]
      exact ixK_none.1 hx p hp
  | some i =>
    obtain ⟨u, hu⟩ := ixK_at hx
    refine ⟨fun p hp => ?_, fun p hp => ?_, ?_⟩
    · rcases List.mem_or_eq_of_mem_set hp with hp | rfl
      · exact h.k32 p hp
      · exact hk
    · rcases List.mem_or_eq_of_mem_set hp with hp | rfl
      · exact h.v32 p hp
      · exact hv
    · show ((hs.set i (k, v)).map Prod.fst).Nodup
      rw [map_set_self (f := Prod.fst) (y := (k, v)) hu rfl]
      exact h.nodup
theorem Ents.sub {hs hs' : List Ent} (h : Ents hs) (hl : hs'.Sublist hs) : Ents hs' :=
  ⟨fun p hp => h.k32 p (hl.mem hp), fun p hp => h.v32 p (hl.mem hp), h.nodup.sublist (hl.map _)⟩
theorem Ents.del {hs : List Ent} (h : Ents hs) (k : List UInt8) : Ents (delK hs k) := by
  unfold delK
  cases ixK k hs with
  | none => exact h
  | some i => exact h.sub (List.eraseIdx_sublist hs i)
theorem setK_len (hs : List Ent) (k v : List UInt8) : (setK hs k v).length ≤ hs.length + 1 := by
  unfold setK
  cases ixK k hs with
  | none => simp
  | some i => simp
theorem delK_len (hs : List Ent) (k : List UInt8) : (delK hs k).length ≤ hs.length := by
  unfold delK
  cases ixK k hs with
  | none => simp
  | some i => exact (List.eraseIdx_sublist hs i).length_le

/-- block g is the map of these pairs, in this order of their coming -/
def MapAt (w : World) (g : Nat) (hs : List Ent) : Prop :=
  ∃ es clock, w.heap[g]? = some (.map es clock) ∧ es.toList.map (fun e => (e.key, e.val)) = hs.map (fun p => (sumV p.1, sumV p.2)) ∧ Stamped es clock
theorem MapAt.lt {w : World} {g : Nat} {hs : List Ent} (h : MapAt w g hs) : g < w.heap.size := by
  obtain ⟨es, c, hb, _⟩ := h
  exact (Array.getElem?_eq_some_iff.1 hb).1
theorem MapAt.keep {w w' : World} {g : Nat} {hs : List Ent} (h : MapAt w g hs) (e : w'.heap[g]? = w.heap[g]?) : MapAt w' g hs := by
  obtain ⟨es, c, hb, h1, h2⟩ := h
  exact ⟨es, c, e.trans hb, h1, h2⟩
theorem MapAt.ext {w w' : World} {g : Nat} {hs : List Ent} (h : MapAt w g hs) (e : Ext w w') : MapAt w' g hs := h.keep (e.block g h.lt)
theorem MapAt.upd {w w' : World} {g q : Nat} {hs : List Ent} (h : MapAt w g hs) (u : Upd w q w') (hq : g ≠ q) : MapAt w' g hs := h.keep (u.block g hq)
theorem MapAt.grown {w w' : World} {g : Nat} {hs : List Ent} {r : Option Nat} (h : MapAt w g hs) (k : w.grownBy w' r) (hr : some g ≠ r) : MapAt w' g hs := h.keep (k.block g h.lt hr)
theorem MapAt.new (w : World) : MapAt (w.alloc (.map #[] 0)) w.heap.size [] := ⟨#[], 0, by show (w.heap.push _)[w.heap.size]? = _; simp, rfl, stamped_empty 0⟩

theorem ent_at {es : Array MapEntry} {hs : List Ent} (h : es.toList.map (fun e => (e.key, e.val)) = hs.map (fun p => (sumV p.1, sumV p.2))) {j : Nat} {e : MapEntry} (he : es.toList[j]? = some e) : ∃ k v, hs[j]? = some (k, v) ∧ e.key = sumV k ∧ e.val = sumV v := by
  have h1 : (hs.map (fun p => (sumV p.1, sumV p.2)))[j]? = some (e.key, e.val) := by rw [← h, List.getElem?_map, he]; rfl
  rw [List.getElem?_map] at h1
  cases hj : hs[j]? with
  | none => rw [hj] at h1; simp at h1
  | some p =>
    rw [hj] at h1
    simp only [Option.map_some, Option.some.injEq, Prod.mk.injEq] at h1
    exact ⟨p.1, p.2, rfl, h1.1.symm, h1.2.symm⟩
theorem ent_keys {es : Array MapEntry} {hs : List Ent} (hE : Ents hs) (h : es.toList.map (fun e => (e.key, e.val)) = hs.map (fun p => (sumV p.1, sumV p.2))) : ∀ e ∈ es.toList, ∃ l, keyOf Try.prog 32 e.key = some l := fun e he => by
  obtain ⟨j, hj⟩ := List.getElem?_of_mem he
  obtain ⟨k, v, hp, hk, _⟩ := ent_at h hj
  rw [hk]
  exact key_sum (hE.k32 _ (List.mem_of_getElem? hp))
theorem find_ent {es : Array MapEntry} {hs : List Ent} (w : World) (hE : Ents hs) (h : es.toList.map (fun e => (e.key, e.val)) = hs.map (fun p => (sumV p.1, sumV p.2))) {k : List UInt8} (hk : k.length = 32) :
    (ixK k hs = none ∧ (Instr.findKey 32 (sumV k) es.toList).run Try.prog w = .ok none w ∧ ∀ e ∈ es.toList, e.key ≠ sumV k) ∨
    ∃ j e v, ixK k hs = some j ∧ hs[j]? = some (k, v) ∧ es.toList[j]? = some e ∧ e.key = sumV k ∧ e.val = sumV v ∧ (Instr.findKey 32 (sumV k) es.toList).run Try.prog w = .ok (some (j, sumV v)) w := by
  obtain ⟨kl, hkl⟩ := key_sum hk
  rcases sum_keyed.find w (x := sumV k) hkl es.toList (ent_keys hE h) with ⟨h1, h2⟩ | ⟨j, e, h1, h2, h3⟩
  · refine .inl ⟨ixK_none.2 fun p hp hpk => ?_, h1, h2⟩
    obtain ⟨j, hj⟩ := List.getElem?_of_mem hp
    have h4 : (es.toList.map (fun e => (e.key, e.val)))[j]? = some (sumV p.1, sumV p.2) := by rw [h, List.getElem?_map, hj]; rfl
    rw [List.getElem?_map] at h4
    cases he : es.toList[j]? with
    | none => rw [he] at h4; simp at h4
    | some e =>
      rw [he] at h4
      simp only [Option.map_some, Option.some.injEq, Prod.mk.injEq] at h4
      exact h2 e (List.mem_of_getElem? he) (by rw [h4.1, hpk])
  · obtain ⟨k', v, hp, hk', hv⟩ := ent_at h h2
    obtain rfl : k' = k := sumV_inj (hk'.symm.trans h3)
    exact .inr ⟨j, e, v, ixK_of hE.nodup hp, hp, h2, h3, hv, by rw [h1, hv]⟩

section
variable {w : World} {g : Nat} {hs : List Ent} {k : List UInt8}
theorem zsum_run (w : World) : (zeroValue 32).run Try.prog w = .ok (sumV zero32) w := by kernel_rfl
theorem check_sum (w : World) (em : Bool) (hk : k.length = 32) : (Instr.checkKey em 10000 32 (sumV k)).run Try.prog w = .ok () w := by
  obtain ⟨kl, hkl⟩ := key_sum hk
  exact sum_keyed.check w em hkl
theorem run_getK (h : MapAt w g hs) (hE : Ents hs) (hk : k.length = 32) (c : Bool) :
    (Instr.lookup 101 (.map (some g)) (sumV k) c).run Try.prog w = .ok (if c then .tuple #[sumV (getK hs k), .bool (ixK k hs).isSome] else sumV (getK hs k)) w := by
  obtain ⟨es, clock, hb, hp, hst⟩ := h
  have ht := Try.underlying101
  rcases find_ent w hE hp hk with ⟨h1, h2, _⟩ | ⟨j, e, v, h1, h2, _, _, _, h3⟩
  · have hg : getK hs k = zero32 := by unfold getK; rw [h1]
    rw [hg, h1]
    simp [Instr.lookup, run_underlying ht, MapKept.run_getObj_map hb, check_sum w _ hk, h2, zsum_run, Result.andThen]
    all_goals (cases c <;> rfl)
  · have hg : getK hs k = v := by unfold getK; rw [h1]; simp [h2]
    rw [hg, h1]
    simp [Instr.lookup, run_underlying ht, MapKept.run_getObj_map hb, check_sum w _ hk, h3, Result.andThen]
    all_goals (cases c <;> rfl)
theorem run_lenK {ty : TypeId} (h : MapAt w g hs) : (Builtin.len_ #[101] ty #[.map (some g)]).run Try.prog w = .ok (.int .i64 (hs.length : Int)) w := by
  obtain ⟨es, c, hb, hp, hv⟩ := h
  have hl : es.size = hs.length := by have := congrArg List.length hp; simpa using this
  simp [Builtin.len_, run_underlying Try.underlying101, MapKept.run_getObj_map hb, hl, goInt]
theorem upd_obj (w : World) (g : Nat) (o : Obj) : Upd w g { w with heap := w.heap.setIfInBounds g o } := ⟨rfl, rfl, rfl, by simp, fun j hj => by
    show (w.heap.setIfInBounds g o)[j]? = _
    rw [Array.getElem?_setIfInBounds_ne (Ne.symm hj)]⟩
theorem obj_set {w : World} {g : Nat} (hg : g < w.heap.size) (o : Obj) : ({ w with heap := w.heap.setIfInBounds g o } : World).heap[g]? = some o := by
  show (w.heap.setIfInBounds g o)[g]? = _
  rw [Array.getElem?_setIfInBounds_self_of_lt hg]
theorem run_setK {v : List UInt8} (h : MapAt w g hs) (hE : Ents hs) (hk : k.length = 32) :
    ∃ w', (Instr.mapUpdate 101 (.map (some g)) (sumV k) (sumV v)).run Try.prog w = .ok () w' ∧ Upd w g w' ∧ MapAt w' g (setK hs k v) := by
  have hg := h.lt
  obtain ⟨es, clock, hb, hp, hst⟩ := h
  have ht := Try.underlying101
  obtain ⟨kl, hkl⟩ := key_sum hk
  rcases find_ent w hE hp hk with ⟨h1, h2, h4⟩ | ⟨j, e, u, h1, h2, h5, h6, h7, h3⟩
  · refine ⟨_, by simp [Instr.mapUpdate, run_underlying ht, MapKept.run_getObj_map hb, check_sum w _ hk, h2, MapKept.run_setObj_map _ hb, Result.andThen]; rfl, upd_obj _ _ _, ⟨_, _, obj_set hg _, ?_, stamped_push hst h4⟩⟩
    unfold setK
    rw [h1]
    simp [hp]
  · have hj : es[j]? = some e := by simpa using h5
    refine ⟨_, by simp [Instr.mapUpdate, run_underlying ht, MapKept.run_getObj_map hb, check_sum w _ hk, h3, hj, h6, sum_keyed.stays w (v := sumV k) hkl, MapKept.run_setObj_map _ hb, Result.andThen]; rfl, upd_obj _ _ _, ⟨_, _, obj_set hg _, ?_, ?_⟩⟩
    · unfold setK
      rw [h1, Array.toList_modify, ChangeMaps.modify_eq_set _ _ _ _ h5, List.map_set, hp, List.map_set]
    · obtain ⟨s1, s2, s3⟩ := hst
      have hjl := (List.getElem?_eq_some_iff.1 h5).1
      refine ⟨fun x hx => ?_, ?_, ?_⟩
      · rw [Array.toList_modify, ChangeMaps.modify_eq_set _ _ _ _ h5] at hx
        rcases List.mem_or_eq_of_mem_set hx with hx | rfl
        · exact s1 x hx
        · exact s1 e (List.mem_of_getElem? h5)
      · rw [Array.toList_modify, ChangeMaps.modify_eq_set _ _ _ _ h5]
        have hh : (es.toList.set j { e with key := sumV k, val := sumV v }).map (·.born) = es.toList.map (·.born) := map_set_self h5 rfl
        exact hh ▸ s2
      · rw [Array.toList_modify, ChangeMaps.modify_eq_set _ _ _ _ h5]
        have hh : (es.toList.set j { e with key := sumV k, val := sumV v }).map (·.key) = es.toList.map (·.key) := map_set_self h5 h6
        exact hh ▸ s3
theorem run_delK {ty : TypeId} (h : MapAt w g hs) (hE : Ents hs) (hk : k.length = 32) :
    ∃ w', (Builtin.delete_ #[101, 32] ty #[.map (some g), sumV k]).run Try.prog w = .ok (.tuple #[]) w' ∧ Upd w g w' ∧ MapAt w' g (delK hs k) := by
  have hg := h.lt
  obtain ⟨es, clock, hb, hp, hst⟩ := h
  have ht := Try.underlying101
  rcases find_ent w hE hp hk with ⟨h1, h2, h4⟩ | ⟨j, e, u, h1, h2, h5, h6, h7, h3⟩
  · refine ⟨_, by simp [Builtin.delete_, run_underlying ht, MapKept.run_getObj_map hb, check_sum w _ hk, h2, MapKept.run_setObj_map _ hb, Result.andThen], upd_obj _ _ _, ⟨_, _, obj_set hg _, ?_, hst⟩⟩
    unfold delK
    rw [h1]
    exact hp
  · refine ⟨_, by simp [Builtin.delete_, run_underlying ht, MapKept.run_getObj_map hb, check_sum w _ hk, h3, MapKept.run_setObj_map _ hb, Result.andThen]; rfl, upd_obj _ _ _, ⟨_, _, obj_set hg _, ?_, ?_⟩⟩
    · unfold delK
      rw [h1]
      simp only [Array.eraseIdxIfInBounds, dif_pos (show j < es.size by have := (List.getElem?_eq_some_iff.1 h5).1; simpa using this), Array.toList_eraseIdx, map_eraseI, hp]
    · obtain ⟨s1, s2, s3⟩ := hst
      have hl : (es.eraseIdxIfInBounds j).toList.Sublist es.toList := by
        simp only [Array.eraseIdxIfInBounds, dif_pos (show j < es.size by have := (List.getElem?_eq_some_iff.1 h5).1; simpa using this), Array.toList_eraseIdx]
        exact List.eraseIdx_sublist _ _
      exact ⟨fun x hx => s1 x (hl.mem hx), s2.sublist (hl.map _), s3.sublist (hl.map _)⟩
end
end

section
open Go Go.RowKit Go.Maps Go.MapKept Go.WideShapes
open Go.ChangeMaps (setBlock)

/-- a range over block g, its iterator in block r; lf are the keys that are still to come -/
def RngAt (w : World) (g r : Nat) (hs : List Ent) (lf : List (List UInt8)) : Prop :=
  ∃ es clock since seen c0, w.heap[g]? = some (.map es clock) ∧ es.toList.map (fun e => (e.key, e.val)) = hs.map (fun p => (sumV p.1, sumV p.2)) ∧ Stamped es clock ∧
    w.heap[r]? = some (.mapIter (some g) since seen c0) ∧ (∀ x ∈ es.toList, x.born < since) ∧ since ≤ c0 ∧ since ≤ clock ∧ (leftOf es seen).toList.map (·.key) = lf.map sumV
theorem RngAt.map {w : World} {g r : Nat} {hs : List Ent} {lf : List (List UInt8)} (h : RngAt w g r hs lf) : MapAt w g hs := by
  obtain ⟨es, clock, since, seen, c0, hb, hp, hst, _⟩ := h
  exact ⟨es, clock, hb, hp, hst⟩
theorem RngAt.lt {w : World} {g r : Nat} {hs : List Ent} {lf : List (List UInt8)} (h : RngAt w g r hs lf) : r < w.heap.size := by
  obtain ⟨es, clock, since, seen, c0, hb, hp, hst, hr, _⟩ := h
  exact (Array.getElem?_eq_some_iff.1 hr).1
theorem RngAt.ne {w : World} {g r : Nat} {hs : List Ent} {lf : List (List UInt8)} (h : RngAt w g r hs lf) : r ≠ g := by
  obtain ⟨es, clock, since, seen, c0, hb, hp, hst, hr, _⟩ := h
  intro he
  rw [he, hb] at hr
  cases hr
theorem RngAt.keep {w w' : World} {g r : Nat} {hs : List Ent} {lf : List (List UInt8)} (h : RngAt w g r hs lf) (h1 : w'.heap[g]? = w.heap[g]?) (h2 : w'.heap[r]? = w.heap[r]?) : RngAt w' g r hs lf := by
  obtain ⟨es, clock, since, seen, c0, hb, hp, hst, hr, hrest⟩ := h
  exact ⟨es, clock, since, seen, c0, h1.trans hb, hp, hst, h2.trans hr, hrest⟩
theorem RngAt.ext {w w' : World} {g r : Nat} {hs : List Ent} {lf : List (List UInt8)} (h : RngAt w g r hs lf) (e : Ext w w') : RngAt w' g r hs lf := h.keep (e.block g h.map.lt) (e.block r h.lt)
theorem RngAt.grown {w w' : World} {g r : Nat} {hs : List Ent} {lf : List (List UInt8)} {q : Option Nat} (h : RngAt w g r hs lf) (k : w.grownBy w' q) (h1 : some g ≠ q) (h2 : some r ≠ q) : RngAt w' g r hs lf := h.keep (k.block g h.map.lt h1) (k.block r h.lt h2)

section
variable {P : Program} {ops : Array Oper} {rest : List Oper} {o : Oper} {a : Act} {w : World} {Q : Exit → Act → World → Prop}
theorem wpl_rangeK (hgd : o.guard = none) (m : Operand) (hop : o.op = .range 101 m) {g : Nat} {hs : List Ent} (hm : a.eval m = .map (some g)) (h : MapAt w g hs)
    (hK : ∀ w', RngAt w' g w.heap.size hs (hs.map Prod.fst) → Ext w w' → w'.heap.size = w.heap.size + 1 → wpList Try.prog ops Q rest (a.put o.dst (.pointer (some ⟨w.heap.size, 0, none⟩))) w') : wpList Try.prog ops Q (o :: rest) a w := by
  have hlt := h.lt
  obtain ⟨es, clock, hb, hp, hst⟩ := h
  have hrun := run_range_map (P := Try.prog) w 101 32 32 g es clock Try.underlying101 hb
  refine wpList_plain hgd fun K' hK' => ?_
  unfold Oper.wp
  simp [execOp, hop, hm, hrun, Result.andThen]
  refine hK' _ _ (hK _ ⟨es, clock, clock, #[], clock, ((MapKept.heap_alloc w _).2 g hlt).trans hb, hp, hst, (MapKept.heap_alloc w _).1, hst.1, Nat.le_refl _, Nat.le_refl _, ?_⟩ ((Ext.refl w).alloc _) (by simp))
  have h0 : (leftOf es #[]).toList = es.toList := by
    unfold leftOf
    rw [Array.toList_filter]
    exact List.filter_eq_self.2 (fun _ _ => by simp)
  rw [h0]
  have h2 : (es.toList.map (fun e => (e.key, e.val))).map Prod.fst = (hs.map (fun p => (sumV p.1, sumV p.2))).map Prod.fst := by rw [hp]
  simpa [Function.comp_def] using h2

theorem left_push {es : Array MapEntry} {seen : Array Nat} {e : MapEntry} (hn : (es.toList.map (·.born)).Nodup) (he : e ∈ (leftOf es seen).toList) :
    ∃ A B, (leftOf es seen).toList = A ++ e :: B ∧ (leftOf es (seen.push e.born)).toList = A ++ B := by
  obtain ⟨A, B, hAB⟩ := List.append_of_mem he
  have h1 : (leftOf es (seen.push e.born)).toList = (leftOf es seen).toList.filter (fun x => x.born != e.born) := by
    unfold leftOf
    rw [Array.toList_filter, Array.toList_filter, List.filter_filter]
    apply List.filter_congr
    intro x _
    rw [contains_push]
    cases seen.contains x.born <;> cases hx : (x.born == e.born) <;> simp_all
  have hsub : ((leftOf es seen).toList.map (·.born)).Nodup := by
    unfold leftOf
    rw [Array.toList_filter]
    exact hn.sublist ((List.filter_sublist).map _)
  rw [hAB] at hsub h1
  rw [List.map_append, List.map_cons, List.nodup_append] at hsub
  obtain ⟨n1, n2, n3⟩ := hsub
  have hA : ∀ x ∈ A, (x.born != e.born) = true := fun x hx => by
    have := n3 x.born (List.mem_map.2 ⟨x, hx, rfl⟩) e.born (by simp)
    simpa using this
  have hB : ∀ x ∈ B, (x.born != e.born) = true := fun x hx => by
    rw [List.nodup_cons] at n2
    have : x.born ≠ e.born := fun hh => n2.1 (hh ▸ List.mem_map.2 ⟨x, hx, rfl⟩)
    simpa using this
  refine ⟨A, B, hAB, ?_⟩
  rw [h1, List.filter_append, List.filter_cons, List.filter_eq_self.2 hA, List.filter_eq_self.2 hB]
  simp

theorem wpl_nextK (hgd : o.guard = none) (it : Operand) (hop : o.op = .next it false) {g r : Nat} {hs : List Ent} {lf : List (List UInt8)} (hE : Ents hs) (hit : a.eval it = .pointer (some ⟨r, 0, none⟩)) (h : RngAt w g r hs lf)
    (hDone : lf = [] → wpList Try.prog ops Q rest (a.put o.dst (.tuple #[.bool false])) w)
    (hMore : ∀ (x v : List UInt8) (w' : World) (lf' : List (List UInt8)), lf.Perm (x :: lf') → lf.length = lf'.length + 1 → RngAt w' g r hs lf' → Upd w r w' → (Instr.entry (.pointer (some ⟨r, 0, none⟩))).run Try.prog w' = .ok (.tuple #[sumV x, sumV v]) w' →
      wpList Try.prog ops Q rest (a.put o.dst (.tuple #[.bool true, sumV x, sumV v])) w') : wpList Try.prog ops Q (o :: rest) a w := by
  have hne := h.ne
  obtain ⟨es, clock, since, seen, c0, hb, hp, hst, hr, hold, hsc, hsk, hl⟩ := h
  refine wpList_plain hgd fun K' hK' => ?_
  unfold Oper.wp
  rcases run_next_at (P := Try.prog) w o.type r g since c0 seen es clock hr hb hold hsc with ⟨h0, hrun⟩ | ⟨e, he, w1, hal, hrun⟩
  · have hlf : lf = [] := by
      have h1 : (leftOf es seen).toList = [] := by simpa using h0
      rw [h1] at hl
      simpa using hl.symm
    simp [execOp, hop, hit, hrun, Result.andThen]
    exact hK' _ _ (hDone hlf)
  · obtain ⟨hem, hes⟩ := mem_left he
    obtain ⟨j, hj⟩ := List.getElem?_of_mem hem
    obtain ⟨x, v, hpx, hkx, hvx⟩ := ent_at hp hj
    obtain ⟨A, B, hAB, hAB2⟩ := left_push hst.2.1 he
    have hr1 : w1.heap[r]? = some (.mapIter (some g) since seen c0) := by rcases hal with rfl | rfl <;> exact hr
    have hb1 : w1.heap[g]? = some (.map es clock) := by rcases hal with rfl | rfl <;> exact hb
    have hset := heap_set (o' := .mapIter (some g) since (seen.push e.born) clock) hr1
    have hb' : (setBlock w1 r (.mapIter (some g) since (seen.push e.born) clock)).heap[g]? = some (.map es clock) := (hset.2 g (fun e1 => hne e1.symm)).trans hb1
    have hsplit : ∃ l1 l2, lf = l1 ++ x :: l2 ∧ A.map (·.key) = l1.map sumV ∧ B.map (·.key) = l2.map sumV := by
      rw [hAB, List.map_append, List.map_cons] at hl
      obtain ⟨l1, l2, rfl, h1, h2⟩ := List.map_eq_append_iff.1 hl.symm
      obtain ⟨y, l3, rfl, h3, h4⟩ := List.map_eq_cons_iff.1 h2
      obtain rfl : y = x := sumV_inj (h3.trans hkx)
      exact ⟨l1, l3, rfl, h1.symm, h4.symm⟩
    obtain ⟨l1, l2, rfl, h1, h2⟩ := hsplit
    rw [hkx, hvx] at hrun
    simp [execOp, hop, hit, hrun, Result.andThen]
    refine hK' _ _ (hMore x v _ (l1 ++ l2) List.perm_middle (by simp; omega) ⟨es, clock, since, seen.push e.born, clock, hb', hp, hst, hset.1, hold, hsk, hsk, by rw [hAB2, List.map_append, h1, h2, List.map_append]⟩ ?_ ?_)
    · rcases hal with rfl | rfl <;> exact ⟨rfl, rfl, rfl, by simp [setBlock], fun i hi => hset.2 i hi⟩
    · have := run_entry_at (P := Try.prog) _ r g since seen es clock e hset.1 hb' hem hst.2.1
      rw [hkx, hvx] at this
      exact this
end

theorem exec_getK {o : Oper} {a : Act} {y z : Operand} {g : Nat} {k : List UInt8} {v : Value} {w : World} {c : Bool} (ho : o.op = .lookup 101 y z c) (hy : a.eval y = .map (some g)) (hz : a.eval z = sumV k)
    (h : (Instr.lookup 101 (.map (some g)) (sumV k) c).run Try.prog w = .ok v w) : (execOp a.eval o).run Try.prog w = .ok (.value v) w := by
  unfold execOp
  simp only [ho, hy, hz, Sem.run_bind]
  rw [h]
  simp only [Result.andThen_ok, Sem.run_pure]
theorem getK_len {hs : List Ent} (h : Ents hs) (k : List UInt8) : (getK hs k).length = 32 := by
  unfold getK
  cases hx : ixK k hs with
  | none => exact zero32_l
  | some i =>
    obtain ⟨v, hv⟩ := ixK_at hx
    simp only [hv]
    exact h.v32 _ (List.mem_of_getElem? hv)

/-- a Map: its pointer's block, its map's block -/
structure TMap (w : World) (p g : Nat) (hs : List Ent) : Prop where
  blk : Blk w p [.map (some g)] 103
  map : MapAt w g hs
  ents : Ents hs
theorem TMap.ext {w w' : World} {p g : Nat} {hs : List Ent} (h : TMap w p g hs) (e : Ext w w') : TMap w' p g hs := ⟨h.blk.ext e, h.map.ext e, h.ents⟩
theorem TMap.ne {w : World} {p g : Nat} {hs : List Ent} (h : TMap w p g hs) : p ≠ g := by
  intro he
  obtain ⟨es, c, hb, _⟩ := h.map
  have hb2 := h.blk
  unfold Blk at hb2
  rw [he, hb] at hb2
  cases hb2
theorem TMap.cell {w : World} {p g : Nat} {hs : List Ent} (h : TMap w p g hs) : w.cell? ⟨p, 0, none⟩ = some (.map (some g)) := h.blk.cell' rfl
theorem TMap.grown {w w' : World} {p g : Nat} {hs : List Ent} {q : Option Nat} (h : TMap w p g hs) (k : w.grownBy w' q) (h1 : some p ≠ q) (h2 : some g ≠ q) : TMap w' p g hs := ⟨(k.block p h.blk.lt h1).trans h.blk, h.map.grown k h2, h.ents⟩
theorem TMap.upd {w w' : World} {p g q : Nat} {hs : List Ent} (h : TMap w p g hs) (u : Upd w q w') (h1 : p ≠ q) (h2 : g ≠ q) : TMap w' p g hs := ⟨(u.block p h1).trans h.blk, h.map.upd u h2, h.ents⟩
/-- the map itself has turned -/
theorem TMap.turn {w w' : World} {p g : Nat} {hs hs' : List Ent} (h : TMap w p g hs) (u : Upd w g w') (m : MapAt w' g hs') (e : Ents hs') : TMap w' p g hs' := ⟨(u.block p h.ne).trans h.blk, m, e⟩
end

section
open Go Go.RowKit Go.Maps Go.MapKept

set_option maxRecDepth 100000 in
set_option maxHeartbeats 1000000 in
theorem newMap_c (w : World) :
    Calls Try.prog 24 #[] w fun e w' => e = .returned (.pointer (some ⟨w.heap.size + 1, 0, none⟩)) ∧ TMap w' (w.heap.size + 1) w.heap.size [] ∧ Ext w w' := by
  have hmk := fun w => run_makeMapU (P := Try.prog) 101 w
  go_enter Try.func24, Try.ntmps24
  go_wp2
  go_ret
  refine ⟨?_, ⟨?_, ?_, Ents.nil⟩, ?_⟩
  · simp
  · exact Blk.mk_alloc (by simp) rfl
  · exact (MapAt.new w).ext ((Ext.refl _).alloc _)
  · exact ((Ext.refl w).alloc _).alloc _

/-- a store that changes nothing but the map -/
theorem gby_of {w w1 w2 : World} {g : Nat} (e : Ext w w1) (u : Upd w1 g w2) : w.grownBy w2 (some g) := gby_upd (gby_ext (gby_self w (some g)) e) u

set_option maxRecDepth 100000 in
set_option maxHeartbeats 2000000 in
theorem set_c (p g : Nat) (hs : List Ent) (k v : List UInt8) (w : World) (hm : TMap w p g hs) (hk : k.length = 32) (hv : v.length = 32) (hn : hs.length < 1000) :
    Calls Try.prog 26 #[.pointer (some ⟨p, 0, none⟩), .agg (k.map u8v).toArray, .agg (v.map u8v).toArray] w fun e w' =>
      e = .returned (.int .i64 (if v == zero32 then 2 else 0)) ∧ TMap w' p g (if v == zero32 then hs else setK hs k v) ∧ w.grownBy w' (some g) := by
  have HM := hid hm
  have HK := hid hk
  have HKV := hid (show (k.map u8v).length = 32 by rw [List.length_map, hk])
  have HVV := hid (show (v.map u8v).length = 32 by rw [List.length_map, hv])
  have HV := hid hv
  have HEZ := hid (fun w => eq_arr Try.underlying32 v zero32 hv zero32_l w)
  obtain ⟨Z, hZ⟩ : ∃ Z, (v == zero32) = Z := ⟨_, rfl⟩
  rw [hZ] at HEZ ⊢
  clear hm hk hv hZ
  go_enter Try.func26, Try.ntmps26
  go_upto_region 1 with (fail)
  generalize hwA : World.alloc (World.alloc w _) _ = wA
  have kA : Blk wA w.heap.size (k.map u8v) 32 := by rw [← hwA]; exact (Blk.mk_alloc rfl rfl).alloc _
  have vA : Blk wA (w.heap.size + 1) (v.map u8v) 32 := by rw [← hwA]; exact Blk.mk_alloc (by simp) rfl
  have eA : Ext w wA := by rw [← hwA]; exact ((Ext.refl w).alloc _).alloc _
  have KA := hid kA
  have VA := hid vA
  have EA := hid eA
  have MA := hid (HM.out.ext eA)
  clear hwA kA vA eA HM
  cases Z with
  | true =>
    go_wp2_with (first | (refine wpl_loadw rfl 32 (.tmp 5) rfl rfl VA.out agg_apisum HVV.out ?_) | (refine wpg_cmp rfl .eql _ _ _ _ rfl rfl rfl guard_sum HEZ.out ?_))
    go_ret
    exact ⟨rfl, MA.out, gby_ext (gby_self w _) EA.out⟩
  | false =>
    go_wp2_with (first | (refine wpl_loadw rfl 32 (.tmp 5) rfl rfl VA.out agg_apisum HVV.out ?_) | (refine wpg_cmp rfl .eql _ _ _ _ rfl rfl rfl guard_sum HEZ.out ?_))
    have hok := hid (fun w' (e : Ext wA w') => run_getK (w := w') (MA.out.map.ext e) MA.out.ents HK.out true)
    obtain ⟨G, hG⟩ : ∃ G, getK hs k = G := ⟨_, rfl⟩
    have hGl : G.length = 32 := by rw [← hG]; exact getK_len MA.out.ents k
    obtain ⟨B, hB⟩ : ∃ B, (ixK k hs).isSome = B := ⟨_, rfl⟩
    rw [hG, hB] at hok
    have HGV := hid (show (G.map u8v).length = 32 by rw [List.length_map, hGl])
    have oG := one_u8 G
    clear hG hB hGl
    obtain ⟨C, hC⟩ : ∃ C : World → Prop, C = Cls wA wA [] [] := ⟨_, rfl⟩
    have hC0 : ∀ w', C w' ↔ Cls wA wA [] [] w' := fun w' => by rw [hC]
    clear hC
    have HCC := hid hC0
    clear hC0
    have hCx : ∀ w w', C w → Ext w w' → C w' := fun w w' h1 h2 => (HCC.out w').2 (((HCC.out w).1 h1).ext h2)
    have hCA : C wA := (HCC.out _).2 (Cls.no_room (Ext.refl wA) (Kept.none _))
    have hcp : ∀ w1, C w1 → w1.cell? ⟨p, 0, none⟩ = some (.map (some g)) := fun w1 h1 => (MA.out.ext ((HCC.out w1).1 h1).base).cell
    refine wp_region_held_drew (S := C) (by kernel_rfl) (hCx _ _ hCA (Ext.refl _).drew) (fun hS0 => ?_)
    refine held_take 0 (v := ?tv1) rfl (by kernel_rfl) (by kernel_rfl) (by kernel_rfl) (fun _ _ _ h => h) (.inl ⟨rfl, ?ty1⟩) hS0 ?tr1
    case ty1 => (intro _ _; go_simp; try with_reducible rfl)
    case tr1 =>
    simp only [Act.put, List.setIfInBounds_toArray, List.set_cons_succ, List.set_cons_zero]
    refine held_take 1 (v := ?tv2) rfl (by kernel_rfl) (by kernel_rfl) (by kernel_rfl) (fun _ _ _ h => h) (.inl ⟨rfl, ?ty2⟩) hS0 ?tr2
    case ty2 => (intro _ _; go_simp; try with_reducible rfl)
    case tr2 =>
    simp only [Act.put, List.setIfInBounds_toArray, List.set_cons_succ, List.set_cons_zero]
    refine held_take 2 (v := ?tv3) rfl (by kernel_rfl) (by kernel_rfl) (by kernel_rfl) (fun _ _ _ h => h) (.inl ⟨rfl, ?ty3⟩) hS0 ?tr3
    case ty3 => (intro _ _; go_simp; try with_reducible rfl)
    case tr3 =>
    simp only [Act.put, List.setIfInBounds_toArray, List.set_cons_succ, List.set_cons_zero]
    refine held_take 3 (v := ?tv4) rfl (by kernel_rfl) (by kernel_rfl) (by kernel_rfl) (fun _ _ _ h => h) (.inl ⟨rfl, ?ty4⟩) hS0 ?tr4
    case ty4 => (intro wq hwq; have hcq := (hcp) wq hwq; go_simp; try with_reducible rfl)
    case tr4 =>
    simp only [Act.put, List.setIfInBounds_toArray, List.set_cons_succ, List.set_cons_zero]
    refine held_take 4 (v := _) rfl (by kernel_rfl) (by kernel_rfl) (by kernel_rfl) (fun _ _ _ h => h) (yieldsI_loadw rfl 32 _ rfl rfl (fun w1 h => KA.out.ext ((HCC.out w1).1 h).base) agg_apisum HKV.out) hS0 ?_
    simp only [Act.put, List.setIfInBounds_toArray, List.set_cons_succ, List.set_cons_zero]
    refine held_take 5 (v := _) rfl (by kernel_rfl) (by kernel_rfl) (by kernel_rfl) (fun _ _ _ h => h) (yieldsI_run rfl (fun w1 h => exec_getK rfl rfl rfl (hok.out w1 ((HCC.out w1).1 h).base))) hS0 ?_
    simp only [Act.put, List.setIfInBounds_toArray, List.set_cons_succ, List.set_cons_zero]
    refine held_take 6 (v := ?tv5) rfl (by kernel_rfl) (by kernel_rfl) (by kernel_rfl) (fun _ _ _ h => h) (.inl ⟨rfl, ?ty5⟩) hS0 ?tr5
    case ty5 => (intro _ _; go_simp; try with_reducible rfl)
    case tr5 =>
    simp only [Act.put, List.setIfInBounds_toArray, List.set_cons_succ, List.set_cons_zero]
    refine held_take 7 (v := ?tv6) rfl (by kernel_rfl) (by kernel_rfl) (by kernel_rfl) (fun _ _ _ h => h) (.inl ⟨rfl, ?ty6⟩) hS0 ?tr6
    case ty6 => (intro _ _; go_simp; try with_reducible rfl)
    case tr6 =>
    simp only [Act.put, List.setIfInBounds_toArray, List.set_cons_succ, List.set_cons_zero]
    refine held_take 8 (v := ?tv7) rfl (by kernel_rfl) (by kernel_rfl) (by kernel_rfl) (fun _ _ _ h => h) (.inl ⟨rfl, ?ty7⟩) hS0 ?tr7
    case ty7 => (intro _ _; go_simp; try with_reducible rfl)
    case tr7 =>
    simp only [Act.put, List.setIfInBounds_toArray, List.set_cons_succ, List.set_cons_zero]
    generalize wA.drew = wB at *
    refine held_one (i := 9) (by kernel_rfl) rfl ?_
    intro Q' hQ
    go_wp2_with fail
    refine hQ _ _ (hCx _ _ hS0 ((Ext.refl wB).alloc _)) ?_
    clear hQ Q'
    generalize hw9 : World.alloc wB _ = wC
    have b9 : Blk wC wB.heap.size (List.replicate 32 (.int .u8 0)) 32 := by rw [← hw9]; exact Blk.mk_alloc rfl rfl
    have hS9 : C wC := by rw [← hw9]; exact hCx _ _ hS0 ((Ext.refl wB).alloc _)
    have hge := ((HCC.out wB).1 hS0).kept.1
    have NC := hid b9
    clear hS0 hw9 b9
    have hS0 := hS9
    clear hS9
    generalize wB.heap.size = ge at *
    try dsimp only
    try simp only [Act.put, List.setIfInBounds_toArray, List.set_cons_succ, List.set_cons_zero]
    refine held_one (i := 10) (by kernel_rfl) rfl ?_
    intro Q' hQ
    go_wp2_with (refine wpl_storew rfl _ _ _ rfl rfl rfl NC.out agg_apisum (by simp) HGV.out oG ?_)
    intro wD b9 u9
    have hS9 : C wD := (HCC.out wD).2 (((HCC.out wC).1 hS0).upd u9 hge (by first | exact Nat.le_refl _ | omega))
    go_wp2_with fail
    refine hQ _ _ hS9 ?_
    have ND := hid b9
    clear hQ Q' b9 u9 hS0 NC
    have hS0 := hS9
    clear hS9
    try dsimp only
    try simp only [Act.put, List.setIfInBounds_toArray, List.set_cons_succ, List.set_cons_zero]
    refine held_take 11 (v := ?tv8) rfl (by kernel_rfl) (by kernel_rfl) (by kernel_rfl) (fun _ _ _ h => h) (.inl ⟨rfl, ?ty8⟩) hS0 ?tr8
    case ty8 => (intro _ _; go_simp; try with_reducible rfl)
    case tr8 =>
    simp only [Act.put, List.setIfInBounds_toArray, List.set_cons_succ, List.set_cons_zero]
    refine wpAnyH_done (by kernel_rfl) ?_ _
    have ED := hid ((HCC.out wD).1 hS0).base
    have MD := hid (MA.out.ext ED.out)
    have KD := hid (KA.out.ext ED.out)
    have VD := hid (VA.out.ext ED.out)
    have hcd := MD.out.cell
    have hlen := fun ty => run_lenK (ty := ty) MD.out.map
    obtain ⟨L, hL⟩ : ∃ L, hs.length = L := ⟨_, rfl⟩
    rw [hL] at hlen hn
    have d1 : decide ((1000 : Int) ≤ (L : Int)) = false := decide_eq_false (by omega)
    have d2 : decide ((1000 : Nat) ≤ L) = false := decide_eq_false (by omega)
    have d3 : decide ((L : Int) ≥ 1000) = false := decide_eq_false (by omega)
    clear hS0 hCx hCA HCC C hcp hok MA KA VA HEZ hL
    have EW := hid (EA.out.ext ED.out)
    clear ED EA
    cases B
    all_goals
      go_wp2_with fail
      clear hcd hlen d1 d2 d3
      obtain ⟨C, hC⟩ : ∃ C : World → Prop, C = Cls wD wD [] [] := ⟨_, rfl⟩
      have hC0 : ∀ w', C w' ↔ Cls wD wD [] [] w' := fun w' => by rw [hC]
      clear hC
      have HCC := hid hC0
      clear hC0
      have hCx : ∀ w w', C w → Ext w w' → C w' := fun w w' h1 h2 => (HCC.out w').2 (((HCC.out w).1 h1).ext h2)
      have hCA : C wD := (HCC.out _).2 (Cls.no_room (Ext.refl wD) (Kept.none _))
      have hcp : ∀ w1, C w1 → w1.cell? ⟨p, 0, none⟩ = some (.map (some g)) := fun w1 h1 => (MD.out.ext ((HCC.out w1).1 h1).base).cell
      refine wp_region_w (S := C) (W := [6]) (by kernel_rfl) (hCx _ _ hCA (Ext.refl _).drew) (fun hS0 => ?_)
      refine w_pure 0 (v := ?tv9) rfl (by kernel_rfl) (by kernel_rfl) (by kernel_rfl) (fun _ _ _ h => h) (.inl ⟨rfl, ?ty9⟩) ?tr9
      case ty9 => (intro _ _; go_simp; try with_reducible rfl)
      case tr9 =>
      simp only [Act.put, List.setIfInBounds_toArray, List.set_cons_succ, List.set_cons_zero]
      refine w_pure 1 (v := ?tv10) rfl (by kernel_rfl) (by kernel_rfl) (by kernel_rfl) (fun _ _ _ h => h) (.inl ⟨rfl, ?ty10⟩) ?tr10
      case ty10 => (intro _ _; go_simp; try with_reducible rfl)
      case tr10 =>
      simp only [Act.put, List.setIfInBounds_toArray, List.set_cons_succ, List.set_cons_zero]
      refine w_pure 2 (v := ?tv11) rfl (by kernel_rfl) (by kernel_rfl) (by kernel_rfl) (fun _ _ _ h => h) (.inl ⟨rfl, ?ty11⟩) ?tr11
      case ty11 => (intro _ _; go_simp; try with_reducible rfl)
      case tr11 =>
      simp only [Act.put, List.setIfInBounds_toArray, List.set_cons_succ, List.set_cons_zero]
      refine w_take 3 (v := ?tv12) rfl (by kernel_rfl) (by kernel_rfl) (by kernel_rfl) (by kernel_rfl) (by kernel_rfl) (fun _ _ _ h => h) (.inl ⟨rfl, ?ty12⟩) hS0 ?tr12
      case ty12 => (intro wq hwq; have hcq := (hcp) wq hwq; go_simp; try with_reducible rfl)
      case tr12 =>
      simp only [Act.put, List.setIfInBounds_toArray, List.set_cons_succ, List.set_cons_zero]
      refine w_take 4 (v := _) rfl (by kernel_rfl) (by kernel_rfl) (by kernel_rfl) (by kernel_rfl) (by kernel_rfl) (fun _ _ _ h => h) (yieldsI_loadw rfl 32 _ rfl rfl (fun w1 h => KD.out.ext ((HCC.out w1).1 h).base) agg_apisum HKV.out) hS0 ?_
      simp only [Act.put, List.setIfInBounds_toArray, List.set_cons_succ, List.set_cons_zero]
      refine w_take 5 (v := _) rfl (by kernel_rfl) (by kernel_rfl) (by kernel_rfl) (by kernel_rfl) (by kernel_rfl) (fun _ _ _ h => h) (yieldsI_loadw rfl 32 _ rfl rfl (fun w1 h => VD.out.ext ((HCC.out w1).1 h).base) agg_apisum HVV.out) hS0 ?_
      simp only [Act.put, List.setIfInBounds_toArray, List.set_cons_succ, List.set_cons_zero]
      have EG := hid (((HCC.out _).1 hS0).base)
      have MG := hid (MD.out.ext EG.out)
      clear hS0 hcp
      generalize wD.drew = wG at *
      refine w_late (i := 6) (by kernel_rfl) rfl (by kernel_rfl) ?_
      intro Q' hQ
      obtain ⟨wU, hup, hu, hmu⟩ := run_setK (v := v) MG.out.map MG.out.ents HK.out
      unfold sumV at hup
      have HU := hid hu
      have HMU := hid hmu
      clear hu hmu
      go_wp2_with fail
      refine hQ _ _ trivial ?_
      clear hQ Q' hup
      refine w_done (by kernel_rfl) ?_ _
      go_wp2_with fail
      go_ret
      exact ⟨rfl, MG.out.turn HU.out HMU.out (MG.out.ents.set HK.out HV.out), gby_of (EW.out.ext EG.out) HU.out⟩

set_option maxRecDepth 100000 in
set_option maxHeartbeats 2000000 in
theorem get_c (p g : Nat) (hs : List Ent) (k : List UInt8) (w : World) (hm : TMap w p g hs) (hk : k.length = 32) :
    Calls Try.prog 32 #[.pointer (some ⟨p, 0, none⟩), .agg (k.map u8v).toArray] w fun e w' =>
      e = .returned (.tuple #[.agg ((getK hs k).map u8v).toArray, .int .i64 (if (ixK k hs).isSome then 0 else 7)]) ∧ Ext w w' := by
  have HM := hid hm
  have HK := hid hk
  have HKV := hid (show (k.map u8v).length = 32 by rw [List.length_map, hk])
  obtain ⟨G, hG⟩ : ∃ G, getK hs k = G := ⟨_, rfl⟩
  obtain ⟨B, hB⟩ : ∃ B, (ixK k hs).isSome = B := ⟨_, rfl⟩
  have hGl : G.length = 32 := by rw [← hG]; exact getK_len hm.ents k
  have hG0 : B = false → G = zero32 := by
    intro h
    rw [h] at hB
    rw [← hG]
    unfold getK
    cases hx : ixK k hs with
    | none => rfl
    | some i => rw [hx] at hB; cases hB
  have HG0 := hid hG0
  have HGV := hid (show (G.map u8v).length = 32 by rw [List.length_map, hGl])
  have oG := one_u8 G
  rw [hG, hB]
  have hrun := hid (fun w' (h : TMap w' p g hs) => run_getK (w := w') h.map h.ents hk true)
  rw [hG, hB] at hrun
  clear hm hk hG hB hGl hG0
  go_enter Try.func32, Try.ntmps32
  go_upto_region 1 with (fail)
  generalize hwA : World.alloc (World.alloc w _) _ = wA
  have kA : Blk wA w.heap.size (k.map u8v) 32 := by rw [← hwA]; exact (Blk.mk_alloc rfl rfl).alloc _
  have rA : Blk wA (w.heap.size + 1) (List.replicate 32 (.int .u8 0)) 32 := by rw [← hwA]; exact Blk.mk_alloc (by simp) rfl
  have eA : Ext w wA := by rw [← hwA]; exact ((Ext.refl w).alloc _).alloc _
  have KA := hid kA
  have RA := hid rA
  have EA := hid eA
  have MA := hid (HM.out.ext eA)
  clear hwA kA rA eA HM
  obtain ⟨C, hC⟩ : ∃ C : World → Prop, C = Cls wA wA [] [] := ⟨_, rfl⟩
  have hC0 : ∀ w', C w' ↔ Cls wA wA [] [] w' := fun w' => by rw [hC]
  clear hC
  have HCC := hid hC0
  clear hC0
  have hCx : ∀ w w', C w → Ext w w' → C w' := fun w w' h1 h2 => (HCC.out w').2 (((HCC.out w).1 h1).ext h2)
  have hCA : C wA := (HCC.out _).2 (Cls.no_room (Ext.refl wA) (Kept.none _))
  have hcp : ∀ w1, C w1 → w1.cell? ⟨p, 0, none⟩ = some (.map (some g)) := fun w1 h1 => (MA.out.ext ((HCC.out w1).1 h1).base).cell
  refine wp_region_held_drew (S := C) (by kernel_rfl) (hCx _ _ hCA (Ext.refl _).drew) (fun hS0 => ?_)
  refine held_take 0 (v := ?tv13) rfl (by kernel_rfl) (by kernel_rfl) (by kernel_rfl) (fun _ _ _ h => h) (.inl ⟨rfl, ?ty13⟩) hS0 ?tr13
  case ty13 => (intro _ _; go_simp; try with_reducible rfl)
  case tr13 =>
  simp only [Act.put, List.setIfInBounds_toArray, List.set_cons_succ, List.set_cons_zero]
  refine held_take 1 (v := ?tv14) rfl (by kernel_rfl) (by kernel_rfl) (by kernel_rfl) (fun _ _ _ h => h) (.inl ⟨rfl, ?ty14⟩) hS0 ?tr14
  case ty14 => (intro _ _; go_simp; try with_reducible rfl)
  case tr14 =>
  simp only [Act.put, List.setIfInBounds_toArray, List.set_cons_succ, List.set_cons_zero]
  refine held_take 2 (v := ?tv15) rfl (by kernel_rfl) (by kernel_rfl) (by kernel_rfl) (fun _ _ _ h => h) (.inl ⟨rfl, ?ty15⟩) hS0 ?tr15
  case ty15 => (intro _ _; go_simp; try with_reducible rfl)
  case tr15 =>
  simp only [Act.put, List.setIfInBounds_toArray, List.set_cons_succ, List.set_cons_zero]
  refine held_take 3 (v := ?tv16) rfl (by kernel_rfl) (by kernel_rfl) (by kernel_rfl) (fun _ _ _ h => h) (.inl ⟨rfl, ?ty16⟩) hS0 ?tr16
  case ty16 => (intro wq hwq; have hcq := (hcp) wq hwq; go_simp; try with_reducible rfl)
  case tr16 =>
  simp only [Act.put, List.setIfInBounds_toArray, List.set_cons_succ, List.set_cons_zero]
  refine held_take 4 (v := _) rfl (by kernel_rfl) (by kernel_rfl) (by kernel_rfl) (fun _ _ _ h => h) (yieldsI_loadw rfl 32 _ rfl rfl (fun w1 h => KA.out.ext ((HCC.out w1).1 h).base) agg_apisum HKV.out) hS0 ?_
  simp only [Act.put, List.setIfInBounds_toArray, List.set_cons_succ, List.set_cons_zero]
  refine held_take 5 (v := _) rfl (by kernel_rfl) (by kernel_rfl) (by kernel_rfl) (fun _ _ _ h => h) (yieldsI_run rfl (fun w1 h => exec_getK rfl rfl rfl (hrun.out w1 (MA.out.ext ((HCC.out w1).1 h).base)))) hS0 ?_
  simp only [Act.put, List.setIfInBounds_toArray, List.set_cons_succ, List.set_cons_zero]
  refine held_take 6 (v := ?tv17) rfl (by kernel_rfl) (by kernel_rfl) (by kernel_rfl) (fun _ _ _ h => h) (.inl ⟨rfl, ?ty17⟩) hS0 ?tr17
  case ty17 => (intro _ _; go_simp; try with_reducible rfl)
  case tr17 =>
  simp only [Act.put, List.setIfInBounds_toArray, List.set_cons_succ, List.set_cons_zero]
  refine held_take 7 (v := ?tv18) rfl (by kernel_rfl) (by kernel_rfl) (by kernel_rfl) (fun _ _ _ h => h) (.inl ⟨rfl, ?ty18⟩) hS0 ?tr18
  case ty18 => (intro _ _; go_simp; try with_reducible rfl)
  case tr18 =>
  simp only [Act.put, List.setIfInBounds_toArray, List.set_cons_succ, List.set_cons_zero]
  refine held_take 8 (v := ?tv19) rfl (by kernel_rfl) (by kernel_rfl) (by kernel_rfl) (fun _ _ _ h => h) (.inl ⟨rfl, ?ty19⟩) hS0 ?tr19
  case ty19 => (intro _ _; go_simp; try with_reducible rfl)
  case tr19 =>
  simp only [Act.put, List.setIfInBounds_toArray, List.set_cons_succ, List.set_cons_zero]
  generalize wA.drew = wB at *
  refine held_one (i := 9) (by kernel_rfl) rfl ?_
  intro Q' hQ
  go_wp2_with fail
  refine hQ _ _ (hCx _ _ hS0 ((Ext.refl wB).alloc _)) ?_
  clear hQ Q'
  generalize hw9 : World.alloc wB _ = wC
  have b9 : Blk wC wB.heap.size (List.replicate 32 (.int .u8 0)) 32 := by rw [← hw9]; exact Blk.mk_alloc rfl rfl
  have hS9 : C wC := by rw [← hw9]; exact hCx _ _ hS0 ((Ext.refl wB).alloc _)
  have hge := ((HCC.out wB).1 hS0).kept.1
  have NC := hid b9
  clear hS0 hw9 b9
  have hS0 := hS9
  clear hS9
  generalize wB.heap.size = ge at *
  try dsimp only
  try simp only [Act.put, List.setIfInBounds_toArray, List.set_cons_succ, List.set_cons_zero]
  refine held_one (i := 10) (by kernel_rfl) rfl ?_
  intro Q' hQ
  go_wp2_with (refine wpl_storew rfl _ _ _ rfl rfl rfl NC.out agg_apisum (by simp) HGV.out oG ?_)
  intro wD b9 u9
  have hS9 : C wD := (HCC.out wD).2 (((HCC.out wC).1 hS0).upd u9 hge (by first | exact Nat.le_refl _ | omega))
  go_wp2_with fail
  refine hQ _ _ hS9 ?_
  have ND := hid b9
  clear hQ Q' b9 u9 hS0 NC
  have hS0 := hS9
  clear hS9
  try dsimp only
  try simp only [Act.put, List.setIfInBounds_toArray, List.set_cons_succ, List.set_cons_zero]
  refine held_take 11 (v := ?tv20) rfl (by kernel_rfl) (by kernel_rfl) (by kernel_rfl) (fun _ _ _ h => h) (.inl ⟨rfl, ?ty20⟩) hS0 ?tr20
  case ty20 => (intro _ _; go_simp; try with_reducible rfl)
  case tr20 =>
  simp only [Act.put, List.setIfInBounds_toArray, List.set_cons_succ, List.set_cons_zero]
  refine wpAnyH_done (by kernel_rfl) ?_ _
  have ED := hid ((HCC.out wD).1 hS0).base
  have RD := hid (RA.out.ext ED.out)
  have EW := hid (EA.out.ext ED.out)
  clear hS0 hCx hCA HCC C hcp MA KA EA ED RA hrun
  cases B with
  | false =>
    obtain rfl : G = zero32 := HG0.out rfl
    go_wp2_with (refine wpl_storew rfl _ _ _ rfl rfl rfl RD.out agg_apisum (by simp) (xs := zero32.map u8v) HGV.out oG ?_)
    intro w5 b5 u5
    go_wp2
    refine ret_row2 rfl rfl b5 agg_apisum HGV.out rfl ⟨rfl, u5.ext EW.out (by omega)⟩
  | true =>
    go_wp2_with (first | (refine wpl_loadw rfl 32 (.tmp 6) rfl rfl ND.out agg_apisum HGV.out ?_) | (refine wpl_storew rfl _ _ _ rfl rfl rfl RD.out agg_apisum (by simp) HGV.out oG ?_))
    intro w5 b5 u5
    go_wp2
    refine ret_row2 rfl rfl b5 agg_apisum HGV.out rfl ⟨rfl, u5.ext EW.out (by omega)⟩

set_option maxRecDepth 100000 in
set_option maxHeartbeats 2000000 in
theorem drop_c (p g : Nat) (hs : List Ent) (k : List UInt8) (w : World) (hm : TMap w p g hs) (hk : k.length = 32) :
    Calls Try.prog 57 #[.pointer (some ⟨p, 0, none⟩), .agg (k.map u8v).toArray] w fun e w' =>
      e = .returned (.int .i64 (if (ixK k hs).isSome then 0 else 7)) ∧ TMap w' p g (delK hs k) ∧ w.grownBy w' (some g) := by
  have HM := hid hm
  have HK := hid hk
  have HKV := hid (show (k.map u8v).length = 32 by rw [List.length_map, hk])
  obtain ⟨G, hG⟩ : ∃ G, getK hs k = G := ⟨_, rfl⟩
  obtain ⟨B, hB⟩ : ∃ B, (ixK k hs).isSome = B := ⟨_, rfl⟩
  have hGl : G.length = 32 := by rw [← hG]; exact getK_len hm.ents k
  have hG0 : B = false → G = zero32 := by
    intro h
    rw [h] at hB
    rw [← hG]
    unfold getK
    cases hx : ixK k hs with
    | none => rfl
    | some i => rw [hx] at hB; cases hB
  have HG0 := hid hG0
  have HGV := hid (show (G.map u8v).length = 32 by rw [List.length_map, hGl])
  have oG := one_u8 G
  rw [hB]
  have hrun := hid (fun w' (h : TMap w' p g hs) => run_getK (w := w') h.map h.ents hk true)
  rw [hG, hB] at hrun
  have hdel : B = false → delK hs k = hs := by
    intro h
    rw [h] at hB
    unfold delK
    cases hx : ixK k hs with
    | none => rfl
    | some i => rw [hx] at hB; cases hB
  have HDEL := hid hdel
  clear hm hk hG hB hGl hG0 hdel HG0
  go_enter Try.func57, Try.ntmps57
  go_upto_region 1 with (fail)
  generalize hwA : World.alloc w _ = wA
  have kA : Blk wA w.heap.size (k.map u8v) 32 := by rw [← hwA]; exact Blk.mk_alloc rfl rfl
  have eA : Ext w wA := by rw [← hwA]; exact (Ext.refl w).alloc _
  have KA := hid kA
  have EA := hid eA
  have MA := hid (HM.out.ext eA)
  clear hwA kA eA HM
  obtain ⟨C, hC⟩ : ∃ C : World → Prop, C = Cls wA wA [] [] := ⟨_, rfl⟩
  have hC0 : ∀ w', C w' ↔ Cls wA wA [] [] w' := fun w' => by rw [hC]
  clear hC
  have HCC := hid hC0
  clear hC0
  have hCx : ∀ w w', C w → Ext w w' → C w' := fun w w' h1 h2 => (HCC.out w').2 (((HCC.out w).1 h1).ext h2)
  have hCA : C wA := (HCC.out _).2 (Cls.no_room (Ext.refl wA) (Kept.none _))
  have hcp : ∀ w1, C w1 → w1.cell? ⟨p, 0, none⟩ = some (.map (some g)) := fun w1 h1 => (MA.out.ext ((HCC.out w1).1 h1).base).cell
  refine wp_region_held_drew (S := C) (by kernel_rfl) (hCx _ _ hCA (Ext.refl _).drew) (fun hS0 => ?_)
  refine held_take 0 (v := ?tv21) rfl (by kernel_rfl) (by kernel_rfl) (by kernel_rfl) (fun _ _ _ h => h) (.inl ⟨rfl, ?ty21⟩) hS0 ?tr21
  case ty21 => (intro _ _; go_simp; try with_reducible rfl)
  case tr21 =>
  simp only [Act.put, List.setIfInBounds_toArray, List.set_cons_succ, List.set_cons_zero]
  refine held_take 1 (v := ?tv22) rfl (by kernel_rfl) (by kernel_rfl) (by kernel_rfl) (fun _ _ _ h => h) (.inl ⟨rfl, ?ty22⟩) hS0 ?tr22
  case ty22 => (intro _ _; go_simp; try with_reducible rfl)
  case tr22 =>
  simp only [Act.put, List.setIfInBounds_toArray, List.set_cons_succ, List.set_cons_zero]
  refine held_take 2 (v := ?tv23) rfl (by kernel_rfl) (by kernel_rfl) (by kernel_rfl) (fun _ _ _ h => h) (.inl ⟨rfl, ?ty23⟩) hS0 ?tr23
  case ty23 => (intro _ _; go_simp; try with_reducible rfl)
  case tr23 =>
  simp only [Act.put, List.setIfInBounds_toArray, List.set_cons_succ, List.set_cons_zero]
  refine held_take 3 (v := ?tv24) rfl (by kernel_rfl) (by kernel_rfl) (by kernel_rfl) (fun _ _ _ h => h) (.inl ⟨rfl, ?ty24⟩) hS0 ?tr24
  case ty24 => (intro wq hwq; have hcq := (hcp) wq hwq; go_simp; try with_reducible rfl)
  case tr24 =>
  simp only [Act.put, List.setIfInBounds_toArray, List.set_cons_succ, List.set_cons_zero]
  refine held_take 4 (v := _) rfl (by kernel_rfl) (by kernel_rfl) (by kernel_rfl) (fun _ _ _ h => h) (yieldsI_loadw rfl 32 _ rfl rfl (fun w1 h => KA.out.ext ((HCC.out w1).1 h).base) agg_apisum HKV.out) hS0 ?_
  simp only [Act.put, List.setIfInBounds_toArray, List.set_cons_succ, List.set_cons_zero]
  refine held_take 5 (v := _) rfl (by kernel_rfl) (by kernel_rfl) (by kernel_rfl) (fun _ _ _ h => h) (yieldsI_run rfl (fun w1 h => exec_getK rfl rfl rfl (hrun.out w1 (MA.out.ext ((HCC.out w1).1 h).base)))) hS0 ?_
  simp only [Act.put, List.setIfInBounds_toArray, List.set_cons_succ, List.set_cons_zero]
  refine held_take 6 (v := ?tv25) rfl (by kernel_rfl) (by kernel_rfl) (by kernel_rfl) (fun _ _ _ h => h) (.inl ⟨rfl, ?ty25⟩) hS0 ?tr25
  case ty25 => (intro _ _; go_simp; try with_reducible rfl)
  case tr25 =>
  simp only [Act.put, List.setIfInBounds_toArray, List.set_cons_succ, List.set_cons_zero]
  refine held_take 7 (v := ?tv26) rfl (by kernel_rfl) (by kernel_rfl) (by kernel_rfl) (fun _ _ _ h => h) (.inl ⟨rfl, ?ty26⟩) hS0 ?tr26
  case ty26 => (intro _ _; go_simp; try with_reducible rfl)
  case tr26 =>
  simp only [Act.put, List.setIfInBounds_toArray, List.set_cons_succ, List.set_cons_zero]
  refine held_take 8 (v := ?tv27) rfl (by kernel_rfl) (by kernel_rfl) (by kernel_rfl) (fun _ _ _ h => h) (.inl ⟨rfl, ?ty27⟩) hS0 ?tr27
  case ty27 => (intro _ _; go_simp; try with_reducible rfl)
  case tr27 =>
  simp only [Act.put, List.setIfInBounds_toArray, List.set_cons_succ, List.set_cons_zero]
  generalize wA.drew = wB at *
  refine held_one (i := 9) (by kernel_rfl) rfl ?_
  intro Q' hQ
  go_wp2_with fail
  refine hQ _ _ (hCx _ _ hS0 ((Ext.refl wB).alloc _)) ?_
  clear hQ Q'
  generalize hw9 : World.alloc wB _ = wC
  have b9 : Blk wC wB.heap.size (List.replicate 32 (.int .u8 0)) 32 := by rw [← hw9]; exact Blk.mk_alloc rfl rfl
  have hS9 : C wC := by rw [← hw9]; exact hCx _ _ hS0 ((Ext.refl wB).alloc _)
  have hge := ((HCC.out wB).1 hS0).kept.1
  have NC := hid b9
  clear hS0 hw9 b9
  have hS0 := hS9
  clear hS9
  generalize wB.heap.size = ge at *
  try dsimp only
  try simp only [Act.put, List.setIfInBounds_toArray, List.set_cons_succ, List.set_cons_zero]
  refine held_one (i := 10) (by kernel_rfl) rfl ?_
  intro Q' hQ
  go_wp2_with (refine wpl_storew rfl _ _ _ rfl rfl rfl NC.out agg_apisum (by simp) HGV.out oG ?_)
  intro wD b9 u9
  have hS9 : C wD := (HCC.out wD).2 (((HCC.out wC).1 hS0).upd u9 hge (by first | exact Nat.le_refl _ | omega))
  go_wp2_with fail
  refine hQ _ _ hS9 ?_
  have ND := hid b9
  clear hQ Q' b9 u9 hS0 NC
  have hS0 := hS9
  clear hS9
  try dsimp only
  try simp only [Act.put, List.setIfInBounds_toArray, List.set_cons_succ, List.set_cons_zero]
  refine held_take 11 (v := ?tv28) rfl (by kernel_rfl) (by kernel_rfl) (by kernel_rfl) (fun _ _ _ h => h) (.inl ⟨rfl, ?ty28⟩) hS0 ?tr28
  case ty28 => (intro _ _; go_simp; try with_reducible rfl)
  case tr28 =>
  simp only [Act.put, List.setIfInBounds_toArray, List.set_cons_succ, List.set_cons_zero]
  refine wpAnyH_done (by kernel_rfl) ?_ _
  have ED := hid ((HCC.out wD).1 hS0).base
  have MD := hid (MA.out.ext ED.out)
  have KD := hid (KA.out.ext ED.out)
  have EW := hid (EA.out.ext ED.out)
  clear hS0 hCx hCA HCC C hcp MA KA EA ED hrun
  cases B with
  | false =>
    have hd := HDEL.out rfl
    have HD := hid hd
    clear hd
    go_wp2_with fail
    go_ret
    exact ⟨rfl, by rw [HD.out]; exact MD.out, gby_ext (gby_self w _) EW.out⟩
  | true =>
    go_wp2_with fail
    obtain ⟨C, hC⟩ : ∃ C : World → Prop, C = Cls wD wD [] [] := ⟨_, rfl⟩
    have hC0 : ∀ w', C w' ↔ Cls wD wD [] [] w' := fun w' => by rw [hC]
    clear hC
    have HCC := hid hC0
    clear hC0
    have hCx : ∀ w w', C w → Ext w w' → C w' := fun w w' h1 h2 => (HCC.out w').2 (((HCC.out w).1 h1).ext h2)
    have hCA : C wD := (HCC.out _).2 (Cls.no_room (Ext.refl wD) (Kept.none _))
    have hcp : ∀ w1, C w1 → w1.cell? ⟨p, 0, none⟩ = some (.map (some g)) := fun w1 h1 => (MD.out.ext ((HCC.out w1).1 h1).base).cell
    refine wp_region_w (S := C) (W := [5]) (by kernel_rfl) (hCx _ _ hCA (Ext.refl _).drew) (fun hS0 => ?_)
    refine w_pure 0 (v := ?tv29) rfl (by kernel_rfl) (by kernel_rfl) (by kernel_rfl) (fun _ _ _ h => h) (.inl ⟨rfl, ?ty29⟩) ?tr29
    case ty29 => (intro _ _; go_simp; try with_reducible rfl)
    case tr29 =>
    simp only [Act.put, List.setIfInBounds_toArray, List.set_cons_succ, List.set_cons_zero]
    refine w_pure 1 (v := ?tv30) rfl (by kernel_rfl) (by kernel_rfl) (by kernel_rfl) (fun _ _ _ h => h) (.inl ⟨rfl, ?ty30⟩) ?tr30
    case ty30 => (intro _ _; go_simp; try with_reducible rfl)
    case tr30 =>
    simp only [Act.put, List.setIfInBounds_toArray, List.set_cons_succ, List.set_cons_zero]
    refine w_pure 2 (v := ?tv31) rfl (by kernel_rfl) (by kernel_rfl) (by kernel_rfl) (fun _ _ _ h => h) (.inl ⟨rfl, ?ty31⟩) ?tr31
    case ty31 => (intro _ _; go_simp; try with_reducible rfl)
    case tr31 =>
    simp only [Act.put, List.setIfInBounds_toArray, List.set_cons_succ, List.set_cons_zero]
    refine w_take 3 (v := ?tv32) rfl (by kernel_rfl) (by kernel_rfl) (by kernel_rfl) (by kernel_rfl) (by kernel_rfl) (fun _ _ _ h => h) (.inl ⟨rfl, ?ty32⟩) hS0 ?tr32
    case ty32 => (intro wq hwq; have hcq := (hcp) wq hwq; go_simp; try with_reducible rfl)
    case tr32 =>
    simp only [Act.put, List.setIfInBounds_toArray, List.set_cons_succ, List.set_cons_zero]
    refine w_take 4 (v := _) rfl (by kernel_rfl) (by kernel_rfl) (by kernel_rfl) (by kernel_rfl) (by kernel_rfl) (fun _ _ _ h => h) (yieldsI_loadw rfl 32 _ rfl rfl (fun w1 h => KD.out.ext ((HCC.out w1).1 h).base) agg_apisum HKV.out) hS0 ?_
    simp only [Act.put, List.setIfInBounds_toArray, List.set_cons_succ, List.set_cons_zero]
    have EG := hid (((HCC.out _).1 hS0).base)
    have MG := hid (MD.out.ext EG.out)
    clear hS0 hcp
    generalize wD.drew = wG at *
    refine w_late (i := 5) (by kernel_rfl) rfl (by kernel_rfl) ?_
    intro Q' hQ
    obtain ⟨wU, hup, hu, hmu⟩ := run_delK (ty := 0) MG.out.map MG.out.ents HK.out
    unfold sumV at hup
    have HU := hid hu
    have HMU := hid hmu
    clear hu hmu
    go_wp2_with fail
    refine hQ _ _ trivial ?_
    clear hQ Q' hup
    refine w_done (by kernel_rfl) ?_ _
    go_wp2_with fail
    go_ret
    exact ⟨rfl, MG.out.turn HU.out HMU.out (MG.out.ents.del k), gby_of (EW.out.ext EG.out) HU.out⟩
end

section
open Go Go.RowKit Go.Shelf

def sortS_ren : Go.Shelf.Ren := ⟨fun | 6 => 27 | 15 => 64 | 14 => 63 | 28 => 115 | 29 => 116 | 20 => 107 | 21 => 108 | 22 => 109 | 23 => 110 | 24 => 111 | 25 => 112 | 26 => 113 | 27 => 114 | 46 => 143 | 47 => 144 | 48 => 145 | 49 => 146 | 50 => 147 | 57 => 158 | n => n, fun | 22 => 29 | 24 => 32 | 25 => 54 | 3 => 3 | 39 => 90 | 0 => 0 | 53 => 124 | 55 => 163 | 4 => 4 | 46 => 155 | 45 => 154 | 50 => 159 | 5 => 5 | 9 => 9 | 66 => 184 | 70 => 188 | 76 => 203 | 77 => 110 | n => n, fun | n => n⟩
theorem sortS : Go.Proofs.SlLaysF0.n6 Try.prog sortS_ren := {
  mixed := by kernel_rfl
  f6 := ⟨Try.f27.name, by decide, Try.func27.trans (congrArg some (by kernel_rfl))⟩
  f14 := ⟨Try.f63.name, by decide, Try.func63.trans (congrArg some (by kernel_rfl))⟩
  f15 := Try.func64.trans (congrArg some (by kernel_rfl))
  f20 := ⟨Try.f107.name, by decide, Try.func107.trans (congrArg some (by kernel_rfl))⟩
  f21 := ⟨Try.f108.name, by decide, Try.func108.trans (congrArg some (by kernel_rfl))⟩
  f22 := ⟨Try.f109.name, by decide, Try.func109.trans (congrArg some (by kernel_rfl))⟩
  f23 := ⟨Try.f110.name, by decide, Try.func110.trans (congrArg some (by kernel_rfl))⟩
  f24 := ⟨Try.f111.name, by decide, Try.func111.trans (congrArg some (by kernel_rfl))⟩
  f25 := ⟨Try.f112.name, by decide, Try.func112.trans (congrArg some (by kernel_rfl))⟩
  f26 := ⟨Try.f113.name, by decide, Try.func113.trans (congrArg some (by kernel_rfl))⟩
  f27 := ⟨Try.f114.name, by decide, Try.func114.trans (congrArg some (by kernel_rfl))⟩
  f28 := Try.func115.trans (congrArg some (by kernel_rfl))
  f29 := Try.func116.trans (congrArg some (by kernel_rfl))
  f46 := ⟨Try.f143.name, by decide, Try.func143.trans (congrArg some (by kernel_rfl))⟩
  f47 := Try.func144.trans (congrArg some (by kernel_rfl))
  f48 := Try.func145.trans (congrArg some (by kernel_rfl))
  f49 := ⟨Try.f146.name, by decide, Try.func146.trans (congrArg some (by kernel_rfl))⟩
  f50 := ⟨Try.f147.name, by decide, Try.func147.trans (congrArg some (by kernel_rfl))⟩
  f57 := ⟨Try.f158.name, by decide, Try.func158.trans (congrArg some (by kernel_rfl))⟩
  t0 := Try.underlying0
  a0 := Try.isAgg0
  z0 := Try.sizeOf0
  v0 := Try.zeroValue0
  t3 := Try.underlying3
  a3 := Try.isAgg3
  z3 := Try.sizeOf3
  v3 := Try.zeroValue3
  t4 := Try.underlying4
  a4 := Try.isAgg4
  z4 := Try.sizeOf4
  v4 := Try.zeroValue4
  t5 := Try.underlying5
  a5 := Try.isAgg5
  z5 := Try.sizeOf5
  v5 := Try.zeroValue5
  t9 := Try.underlying9
  a9 := Try.isAgg9
  z9 := Try.sizeOf9
  v9 := Try.zeroValue9
  t22 := Try.underlying29
  a22 := Try.isAgg29
  z22 := Try.sizeOf29
  v22 := Try.zeroValue29
  t25 := Try.underlying54
  a25 := Try.isAgg54
  z25 := Try.sizeOf54
  v25 := Try.zeroValue54
  t39 := Try.underlying90
  a39 := Try.isAgg90
  z39 := Try.sizeOf90
  v39 := Try.zeroValue90
  t45 := Try.underlying154
  a45 := Try.isAgg154
  z45 := Try.sizeOf154
  v45 := Try.zeroValue154
  t46 := Try.underlying155
  a46 := Try.isAgg155
  z46 := Try.sizeOf155
  v46 := Try.zeroValue155
  t50 := Try.underlying159
  a50 := Try.isAgg159
  z50 := Try.sizeOf159
  v50 := Try.zeroValue159
  t53 := Try.underlying124
  a53 := Try.isAgg124
  z53 := Try.sizeOf124
  v53 := Try.zeroValue124
  t55 := Try.underlying163
  a55 := Try.isAgg163
  z55 := Try.sizeOf163
  v55 := Try.zeroValue163
  t66 := Try.underlying184
  a66 := Try.isAgg184
  z66 := Try.sizeOf184
  v66 := Try.zeroValue184
  t70 := Try.underlying188
  a70 := Try.isAgg188
  z70 := Try.sizeOf188
  v70 := Try.zeroValue188
  t76 := Try.underlying203
  a76 := Try.isAgg203
  z76 := Try.sizeOf203
  v76 := Try.zeroValue203
  t77 := Try.underlying110
  a77 := Try.isAgg110
  z77 := Try.sizeOf110
  v77 := Try.zeroValue110 }

theorem swo_cfS : Sort.SWO (ltOf cfS) where
  irrefl x := ltB_irrefl x.l
  trans x y z h1 h2 := ltB_trans h1 h2
  ntrans x y z h1 h2 := ltB_ntrans h1 h2
theorem cmpLays_sum (g size : Nat) (w : World) : CmpLays Try.prog 52 #[] encS 32 cfS g 0 size w := fun m os dk _ x y => by
  have h := closure_c x.l y.l (sortWorldK encS 32 w g 0 m dk os) x.h y.h
  exact h
theorem sortS_c (ls : List (List UInt8)) (rest : List Value) (g n c : Nat) (T : TypeId) (w : World) (h32 : All32 ls) (hn : ls.length = n) (hb : Blk w g (rows ls ++ rest) T) (hlen : n < 4611686018427387904) :
    Calls Try.prog 27 #[.slice (some ⟨g, 0, none⟩) n c, .func (.func 52) #[] #[]] w fun e w' =>
      e = .returned (.tuple #[]) ∧ ∃ es, es.Perm ls ∧ es.Pairwise (fun x y => ¬ ltB y x = true) ∧ Blk w' g (rows es ++ rest) T ∧ w.grownBy w' (some g) := by
  obtain ⟨d, hd⟩ : ∃ d : Array S32, d = (toS ls h32).toArray := ⟨_, rfl⟩
  have hu : unS d.toList = ls := by rw [hd]; exact unS_toS ls h32
  have hs : d.size = n := by rw [← hn, ← hu, unS_len]; simp
  have hH : Sort.HoldsK encS 32 w g 0 d := holds_blk (rest := rest) (T := T) (by rw [hu]; exact hb)
  have eg : ∀ args w, (callFunc 52 args).run Try.prog w = .ok (.enter 52 args) w := enters_of Try.func52 (by kernel_rfl) rfl
  have hcon := AnyQ.slices_SortFunc sortS 32 Try.isAgg32 Try.sizeOf32 encS encS_len encS_one cfS swo_cfS 52 #[] g 0 c d w eg (cmpLays_sum g d.size w) hH hb.lt (by omega)
  rw [hs] at hcon
  refine hcon.mono ?_
  rintro e w' ⟨rfl, d', n', os, hp, ho, rfl⟩
  obtain ⟨k1, k2, k3⟩ := sorted_list hs hp ho
  rw [hu] at k2
  obtain ⟨b1, b2⟩ := sortWorld_blk h32 hb d' n' os (by omega)
  exact ⟨rfl, unS d'.toList, k2, k3, b1, b2⟩
end

section
open Go Go.RowKit

theorem Upd.drewU {w w' : World} {g : Nat} (h : Upd w g w') : Upd w g w'.drew := ⟨h.os, h.tape, h.output, h.size, h.block⟩
theorem splice_row {xs : List (List UInt8)} {rest : List Value} {k : Nat} (x : List UInt8) (h32 : All32 xs) (hx : x.length = 32) (hk : k < xs.length) : splice (rows xs ++ rest) (k * 32) (x.map u8v) = rows (xs.set k x) ++ rest := by
  obtain ⟨a, y, b, rfl, rfl⟩ : ∃ a y b, xs = a ++ y :: b ∧ a.length = k := ⟨xs.take k, xs[k], xs.drop (k + 1), by simp, by simp; omega⟩
  have ha : All32 a := fun l hl => h32 l (by simp [hl])
  have hy : y.length = 32 := h32 y (by simp)
  have e1 : rows (a ++ y :: b) ++ rest = rows a ++ (y.map u8v ++ (rows b ++ rest)) := by
    rw [rows_append, show y :: b = [y] ++ b from rfl, rows_append, rows_one]
    simp
  have e2 : (a ++ y :: b).set a.length x = a ++ x :: b := by simp
  have e3 : rows (a ++ x :: b) ++ rest = rows a ++ (x.map u8v ++ (rows b ++ rest)) := by
    rw [rows_append, show x :: b = [x] ++ b from rfl, rows_append, rows_one]
    simp
  rw [e1, e2, e3]
  unfold splice
  have l1 : (rows a).length = a.length * 32 := by rw [rows_length ha, Nat.mul_comm]
  have l2 : (x.map u8v).length = 32 := by rw [List.length_map]; exact hx
  have l3 : (y.map u8v).length = 32 := by rw [List.length_map]; exact hy
  rw [List.take_append_of_le_length (by omega), List.take_of_length_le (by omega), l2, ← l1, List.drop_append, List.drop_of_length_le (by omega), List.nil_append, show (rows a).length + 32 - (rows a).length = 32 by omega,
    List.drop_append, List.drop_of_length_le (by omega), List.nil_append, l3, show 32 - 32 = 0 from rfl, List.drop_zero, List.append_assoc]
theorem All32.set {xs : List (List UInt8)} {k : Nat} {x : List UInt8} (h : All32 xs) (hx : x.length = 32) : All32 (xs.set k x) := fun l hl => by
  rcases List.mem_or_eq_of_mem_set hl with h1 | h1
  · exact h l h1
  · rw [h1]; exact hx
theorem blk_row {w : World} {g : Nat} {xs : List (List UInt8)} {rest : List Value} {T : TypeId} (h32 : All32 xs) (hb : Blk w g (rows xs ++ rest) T) {k : Nat} {x : List UInt8} (h : xs[k]? = some x) : CellsAt w ((⟨g, 0, none⟩ : Addr).add (k * 32)) (x.map u8v) := by
  intro j u hu
  have hx := h32.at h
  have hj : j < 32 := by
    have := (List.getElem?_eq_some_iff.1 hu).1
    rw [List.length_map] at this; omega
  have hk := (List.getElem?_eq_some_iff.1 h).1
  rw [addr_add, addr_add, Nat.zero_add]
  refine hb.cell' ?_
  rw [List.getElem?_append_left (by rw [rows_length h32]; omega), ← hu, ← rows_at h32 h, List.getElem?_take_of_lt hj, List.getElem?_drop, Nat.mul_comm]
theorem dd_step {ls : List (List UInt8)} {j : Nat} {x y : List UInt8} (hx : ls[j]? = some x) (hy : ls[j + 1]? = some y) : dd (ls.take (j + 2)) = if x = y then dd (ls.take (j + 1)) else dd (ls.take (j + 1)) ++ [y] := by
  have e1 : ls.take (j + 2) = ls.take j ++ [x] ++ [y] := by rw [List.take_add_one, List.take_add_one, hx, hy]; rfl
  have e2 : ls.take (j + 1) = ls.take j ++ [x] := by rw [List.take_add_one, hx]; rfl
  rw [e1, e2, dd_snoc]
theorem eql_arr {t : TypeId} {n : Nat} (ht : Try.prog.underlying t = some (.array n 5)) (xs ys : List UInt8) (hx : xs.length = n) (hy : ys.length = n) (w : World) :
    (binOp .eql t (.agg (xs.map u8v).toArray) (.agg (ys.map u8v).toArray)).run Try.prog w = .ok (.bool (xs == ys)) w := by
  have h := run_equalIn_bytes w 9998 t 5 n ht Try.underlying5 (fun w => by kernel_rfl) xs ys hx hy
  rw [run_eql_struct]
  have h2 : (Op.equalIn 10000 t (.agg (xs.map u8v).toArray) (.agg (ys.map u8v).toArray)).run Try.prog w = .ok (xs == ys) w := h
  rw [h2]; rfl
theorem exec_index0 {P : Program} {o : Oper} {a : Act} {t e : TypeId} {x y : Operand} {g n c i z : Nat} (ho : o.op = .indexAddr t x y) (hx : a.eval x = .slice (some ⟨g, 0, none⟩) n c) (hy : a.eval y = .int .i64 (i : Int)) (hu : P.underlying t = some (.slice e)) (hs : (P.info? e).map (·.size) = some z) (hi : i < n) (w : World) :
    (execOp a.eval o).run P w = .ok (.value (.pointer (some ⟨g, i * z, none⟩))) w := by
  have h := exec_index ho hx hy hu hs hi w
  rw [addr_add, Nat.zero_add] at h
  exact h
theorem exec_lowS {P : Program} {o : Oper} {a : Act} {t e : TypeId} {x y : Operand} {p q : Option Addr} {n c k z : Nat} (hq : shiftz p c k z = q) (ho : o.op = .slice t x (some y) none none) (hx : a.eval x = .slice p n c) (hy : a.eval y = .int .i64 (k : Int)) (hu : P.underlying t = some (.slice e)) (hs : (P.info? e).map (·.size) = some z) (hk : k ≤ n) (w : World) :
    (execOp a.eval o).run P w = .ok (.value (.slice q (n - k) (c - k))) w := by
  rw [← hq]
  exact exec_low ho hx hy hu hs hk w
theorem zcells (Z : Array Value) (hz : Z.size = 32) (h0 : ∀ i, i < 32 → Z[i]! = .int .u8 0) (n : Nat) : ((Builtin.zeroCells Z n).toList).length = n * 32 ∧ ∀ v ∈ (Builtin.zeroCells Z n).toList, v.oneCell' = true := by
  refine ⟨by simp [Builtin.zeroCells, hz], fun v hv => ?_⟩
  unfold Builtin.zeroCells at hv
  rw [Array.toList_map] at hv
  obtain ⟨i, _, rfl⟩ := List.mem_map.1 hv
  have h2 : i % 32 < 32 := Nat.mod_lt _ (by decide)
  rw [hz, h0 _ h2]
  rfl
theorem run_clear_rows {w : World} {g off m c : Nat} {vs : List Value} {T : TypeId} (hb : Blk w g vs T) (hm : 0 < m) (hfit : off + m * 32 ≤ vs.length) :
    ∃ zs, zs.length = m * 32 ∧ ∀ ty, (Builtin.clear_ #[29] ty #[.slice (some ⟨g, off, none⟩) m c]).run Try.prog w = .ok (.tuple #[]) (w.setRow g (splice vs off zs).toArray) := by
  obtain ⟨Z, hZ⟩ : ∃ Z : Array Value, Z = (List.replicate 32 (Value.int .u8 0)).toArray := ⟨_, rfl⟩
  have hz : Z.size = 32 := by rw [hZ]; simp
  have h0 : ∀ i, i < 32 → Z[i]! = .int .u8 0 := fun i hi => by rw [hZ, getElem!_pos _ _ (by simpa using hi), List.getElem_toArray, List.getElem_replicate]
  have hv : (zeroValue 32).run Try.prog w = .ok (.agg Z) w := by rw [hZ]; kernel_rfl
  obtain ⟨h1, h2⟩ := zcells Z hz h0 m
  clear hZ hz h0
  refine ⟨_, h1, fun ty => ?_⟩
  have hst := run_storeCells_at Try.prog g off T _ 0 vs.toArray w hb (by rw [h1]; simpa using hfit) h2
  simp only [Nat.add_zero, List.toList_toArray] at hst
  obtain ⟨k, rfl⟩ : ∃ k, m = k + 1 := ⟨m - 1, by omega⟩
  simp [Builtin.clear_, run_underlying Try.underlying29, hv, Value.cells, hst, splice]

set_option maxRecDepth 100000 in
set_option maxHeartbeats 4000000 in
theorem compact_c (ls : List (List UInt8)) (rest : List Value) (g n c : Nat) (T : TypeId) (w : World) (h32 : All32 ls) (hn : ls.length = n) (hnc : n ≤ c) (hn63 : n ≤ 140737488355328) (hb : Blk w g (rows ls ++ rest) T) :
    Calls Try.prog 53 #[.slice (some ⟨g, 0, none⟩) n c] w fun e w' =>
      e = .returned (.slice (some ⟨g, 0, none⟩) (dd ls).length c) ∧ (∃ vs, Blk w' g (rows (dd ls) ++ vs) T) ∧ Upd w g w' := by
  have HN := hid hn
  have H32 := hid h32
  have HB := hid hb
  obtain ⟨R, hR⟩ : ∃ R, dd ls = R := ⟨_, rfl⟩
  have HR := hid hR
  rw [hR]
  clear hn h32 hb hR
  by_cases h2 : n < 2
  · have hdd : R = ls := by
      rw [← HR.out]
      have hl := HN.out
      match ls, hl with
      | [], _ => rfl
      | [x], _ => rfl
      | x :: y :: r, hl => simp at hl; omega
    have h2i : decide ((n : Int) < 2) = true := decide_eq_true (by omega)
    have HDD := hid hdd
    clear hdd
    go_enter Try.func53, Try.ntmps53
    go_wp2
    go_ret
    exact ⟨by rw [HDD.out, HN.out]; rfl, ⟨rest, by rw [HDD.out]; exact HB.out⟩, Upd.refl _ _⟩
  · have h2i : decide ((n : Int) < 2) = false := decide_eq_false (by omega)
    go_enter Try.func53, Try.ntmps53
    go_wp2
    go_loopw [3] (fun i wr => ∃ k : Nat, 1 ≤ k ∧ k ≤ n ∧ i = .int .i64 (k : Int) ∧ dd (ls.take k) = ls.take k ∧ Blk wr g (rows ls ++ rest) T ∧ Upd w g wr) (fun i _ => n - (intOf i).toNat)
    case atStart =>
      refine ⟨1, by omega, by omega, rfl, ?_, HB.out, Upd.refl _ _⟩
      match ls with
      | [] => rfl
      | x :: r => simp [dd]
    case round =>
      obtain ⟨k, hk1, hk, rfl, hpre, bw, uw⟩ := hrel
      have HP := hid hpre
      have BW := hid bw
      have UW := hid uw
      clear hpre bw uw
      by_cases hlt : k < n
      case neg =>
        have hkn : k = n := by omega
        subst k
        have hdd : R = ls := by
          have h := HP.out
          rw [List.take_of_length_le (by rw [HN.out]; exact Nat.le_refl _)] at h
          rw [← HR.out]; exact h
        have HDD := hid hdd
        clear hdd HP
        go_wp2
        go_ret
        exact ⟨by rw [HDD.out, HN.out]; rfl, ⟨rest, by rw [HDD.out]; exact BW.out⟩, UW.out⟩
      obtain ⟨k1, rfl⟩ : ∃ k1, k = k1 + 1 := ⟨k - 1, by omega⟩
      obtain ⟨x, hx⟩ : ∃ x, ls[k1 + 1]? = some x := ⟨ls[k1 + 1]'(by rw [HN.out]; exact hlt), by simp⟩
      obtain ⟨y, hy⟩ : ∃ y, ls[k1]? = some y := ⟨ls[k1]'(by rw [HN.out]; omega), by simp⟩
      have hw1 : IntKind.i64.wrap (k1 : Int) = (k1 : Int) := IntWalk.i64_in _ (by omega)
      have hst := dd_step hy hx
      have hx0 := H32.out.at hx
      have hy0 := H32.out.at hy
      have HXV : Hid ((x.map u8v).length = 32) := hid (by rw [List.length_map, hx0])
      have HYV : Hid ((y.map u8v).length = 32) := hid (by rw [List.length_map, hy0])
      have heq := eql_arr Try.underlying32 x y hx0 hy0
      have HX := hid hx
      have HY := hid hy
      have HST := hid hst
      have hk1n : k1 < n := by omega
      clear hx hy hx0 hy0 hst
      cases hxy : (x == y) with
      | false =>
        rw [hxy] at heq
        have HEQ := hid heq
        have hne : ¬ y = x := fun h => by rw [h] at hxy; simp at hxy
        have hnx : dd (ls.take (k1 + 2)) = ls.take (k1 + 2) := by
          rw [HST.out, if_neg hne, HP.out]
          rw [List.take_add_one (i := k1 + 1), HX.out]; rfl
        have HNX := hid hnx
        clear heq hxy hne hnx HST HP
        go_wp2_with fail
        obtain ⟨C, hC⟩ : ∃ C : World → Prop, C = Cls wr wr [g] [] := ⟨_, rfl⟩
        have hC0 : ∀ w', C w' ↔ Cls wr wr [g] [] w' := fun w' => by rw [hC]
        clear hC
        have HCC := hid hC0
        clear hC0
        have hCx : ∀ w w', C w → Ext w w' → C w' := fun w w' h1 h2 => (HCC.out w').2 (((HCC.out w).1 h1).ext h2)
        have hCA : C wr := (HCC.out _).2 (Cls.no_room (Ext.refl _) (Kept.one BW.out.lt))
        have hcx : ∀ w1, C w1 → CellsAt w1 ((⟨g, 0, none⟩ : Addr).add ((k1 + 1) * 32)) (x.map u8v) := fun w1 h1 => blk_row H32.out (((HCC.out w1).1 h1).blk BW.out (by simp)) HX.out
        have hcy : ∀ w1, C w1 → CellsAt w1 ((⟨g, 0, none⟩ : Addr).add (k1 * 32)) (y.map u8v) := fun w1 h1 => blk_row H32.out (((HCC.out w1).1 h1).blk BW.out (by simp)) HY.out
        refine wp_region_held_drew (S := C) (by kernel_rfl) (hCx _ _ hCA (Ext.refl _).drew) (fun hS0 => ?_)
        refine held_take 0 (v := ?tv1) rfl (by kernel_rfl) (by kernel_rfl) (by kernel_rfl) (fun _ _ _ h => h) (.inl ⟨rfl, ?ty1⟩) hS0 ?tr1
        case ty1 => (intro _ _; go_simp; try with_reducible rfl)
        case tr1 =>
        simp only [Act.put, List.setIfInBounds_toArray, List.set_cons_succ, List.set_cons_zero]
        refine held_take 1 (v := ?tv2) rfl (by kernel_rfl) (by kernel_rfl) (by kernel_rfl) (fun _ _ _ h => h) (.inl ⟨rfl, ?ty2⟩) hS0 ?tr2
        case ty2 => (intro _ _; go_simp; try with_reducible rfl)
        case tr2 =>
        simp only [Act.put, List.setIfInBounds_toArray, List.set_cons_succ, List.set_cons_zero]
        refine held_take 2 (v := _) rfl (by kernel_rfl) (by kernel_rfl) (by kernel_rfl) (fun _ _ _ h => h) (yieldsI_run rfl (fun w1 _ => exec_index (i := k1 + 1) rfl rfl rfl Try.underlying29 size_apisum hlt w1)) hS0 ?_
        simp only [Act.put, List.setIfInBounds_toArray, List.set_cons_succ, List.set_cons_zero]
        refine held_take 3 (v := _) rfl (by kernel_rfl) (by kernel_rfl) (by kernel_rfl) (fun _ _ _ h => h) (yieldsI_run rfl (fun w1 h => exec_load_at rfl rfl (hcx w1 h) agg_apisum HXV.out)) hS0 ?_
        simp only [Act.put, List.setIfInBounds_toArray, List.set_cons_succ, List.set_cons_zero]
        refine held_take 4 (v := ?tv3) rfl (by kernel_rfl) (by kernel_rfl) (by kernel_rfl) (fun _ _ _ h => h) (.inl ⟨rfl, ?ty3⟩) hS0 ?tr3
        case ty3 => (intro _ _; go_simp; try with_reducible rfl)
        case tr3 =>
        simp only [Act.put, List.setIfInBounds_toArray, List.set_cons_succ, List.set_cons_zero]
        refine held_take 5 (v := ?tv4) rfl (by kernel_rfl) (by kernel_rfl) (by kernel_rfl) (fun _ _ _ h => h) (.inl ⟨rfl, ?ty4⟩) hS0 ?tr4
        case ty4 => (intro _ _; go_simp; try with_reducible rfl)
        case tr4 =>
        simp only [Act.put, List.setIfInBounds_toArray, List.set_cons_succ, List.set_cons_zero]
        refine held_take 6 (v := ?tv5) rfl (by kernel_rfl) (by kernel_rfl) (by kernel_rfl) (fun _ _ _ h => h) (.inl ⟨rfl, ?ty5⟩) hS0 ?tr5
        case ty5 => (intro _ _; go_simp; try with_reducible rfl)
        case tr5 =>
        simp only [Act.put, List.setIfInBounds_toArray, List.set_cons_succ, List.set_cons_zero]
        refine held_take 7 (v := _) rfl (by kernel_rfl) (by kernel_rfl) (by kernel_rfl) (fun _ _ _ h => h) (yieldsI_run rfl (fun w1 _ => exec_index (i := k1) rfl rfl rfl Try.underlying29 size_apisum hk1n w1)) hS0 ?_
        simp only [Act.put, List.setIfInBounds_toArray, List.set_cons_succ, List.set_cons_zero]
        refine held_take 8 (v := _) rfl (by kernel_rfl) (by kernel_rfl) (by kernel_rfl) (fun _ _ _ h => h) (yieldsI_run rfl (fun w1 h => exec_load_at rfl rfl (hcy w1 h) agg_apisum HYV.out)) hS0 ?_
        simp only [Act.put, List.setIfInBounds_toArray, List.set_cons_succ, List.set_cons_zero]
        refine held_take 9 (v := _) rfl (by kernel_rfl) (by kernel_rfl) (by kernel_rfl) (fun _ _ _ h => h) (yieldsI_run rfl (fun w1 _ => exec_cmp rfl rfl rfl guard_sum HEQ.out w1)) hS0 ?_
        simp only [Act.put, List.setIfInBounds_toArray, List.set_cons_succ, List.set_cons_zero]
        have BG := hid (((HCC.out _).1 hS0).blk BW.out (by simp))
        have UG := hid UW.out.drewU
        generalize wr.drew = wG at *
        refine wpAnyH_done (by kernel_rfl) ?_ _
        clear hS0 hCx hCA HCC hcx hcy C
        go_wp2
        go_roundw
        case rel => exact ⟨k1 + 2, by omega, by omega, by go_num, HNX.out, BG.out, UG.out⟩
        case measure => simp [intOf]; omega
      | true =>
        rw [hxy] at heq
        have HEQ := hid heq
        have hyx : y = x := (eq_of_beq hxy).symm
        have hnx : dd (ls.take (k1 + 2)) = ls.take (k1 + 1) := by
          rw [HST.out, if_pos hyx, HP.out]
        have HNX := hid hnx
        have hshift : shiftz (some ⟨g, 0, none⟩) c (k1 + 1) 32 = some ⟨g, (k1 + 1) * 32, none⟩ := by
          unfold shiftz
          rw [if_neg (by omega), Option.map_some, addr_add, Nat.zero_add]
        have HSH := hid hshift
        have hkc : k1 + 1 ≤ n := by omega
        clear heq hxy hyx hnx HST HP hshift
        obtain ⟨N2, hN2⟩ : ∃ N2, n - (k1 + 1) = N2 := ⟨_, rfl⟩
        have hN2n : k1 + 1 + N2 = n := by omega
        have hN21 : 1 ≤ N2 := by omega
        go_wp2_with fail
        obtain ⟨C, hC⟩ : ∃ C : World → Prop, C = Cls wr wr [g] [] := ⟨_, rfl⟩
        have hC0 : ∀ w', C w' ↔ Cls wr wr [g] [] w' := fun w' => by rw [hC]
        clear hC
        have HCC := hid hC0
        clear hC0
        have hCx : ∀ w w', C w → Ext w w' → C w' := fun w w' h1 h2 => (HCC.out w').2 (((HCC.out w).1 h1).ext h2)
        have hCA : C wr := (HCC.out _).2 (Cls.no_room (Ext.refl _) (Kept.one BW.out.lt))
        have hcx : ∀ w1, C w1 → CellsAt w1 ((⟨g, 0, none⟩ : Addr).add ((k1 + 1) * 32)) (x.map u8v) := fun w1 h1 => blk_row H32.out (((HCC.out w1).1 h1).blk BW.out (by simp)) HX.out
        have hcy : ∀ w1, C w1 → CellsAt w1 ((⟨g, 0, none⟩ : Addr).add (k1 * 32)) (y.map u8v) := fun w1 h1 => blk_row H32.out (((HCC.out w1).1 h1).blk BW.out (by simp)) HY.out
        refine wp_region_held_drew (S := C) (by kernel_rfl) (hCx _ _ hCA (Ext.refl _).drew) (fun hS0 => ?_)
        refine held_take 0 (v := ?tv6) rfl (by kernel_rfl) (by kernel_rfl) (by kernel_rfl) (fun _ _ _ h => h) (.inl ⟨rfl, ?ty6⟩) hS0 ?tr6
        case ty6 => (intro _ _; go_simp; try with_reducible rfl)
        case tr6 =>
        simp only [Act.put, List.setIfInBounds_toArray, List.set_cons_succ, List.set_cons_zero]
        refine held_take 1 (v := ?tv7) rfl (by kernel_rfl) (by kernel_rfl) (by kernel_rfl) (fun _ _ _ h => h) (.inl ⟨rfl, ?ty7⟩) hS0 ?tr7
        case ty7 => (intro _ _; go_simp; try with_reducible rfl)
        case tr7 =>
        simp only [Act.put, List.setIfInBounds_toArray, List.set_cons_succ, List.set_cons_zero]
        refine held_take 2 (v := _) rfl (by kernel_rfl) (by kernel_rfl) (by kernel_rfl) (fun _ _ _ h => h) (yieldsI_run rfl (fun w1 _ => exec_index (i := k1 + 1) rfl rfl rfl Try.underlying29 size_apisum hlt w1)) hS0 ?_
        simp only [Act.put, List.setIfInBounds_toArray, List.set_cons_succ, List.set_cons_zero]
        refine held_take 3 (v := _) rfl (by kernel_rfl) (by kernel_rfl) (by kernel_rfl) (fun _ _ _ h => h) (yieldsI_run rfl (fun w1 h => exec_load_at rfl rfl (hcx w1 h) agg_apisum HXV.out)) hS0 ?_
        simp only [Act.put, List.setIfInBounds_toArray, List.set_cons_succ, List.set_cons_zero]
        refine held_take 4 (v := ?tv8) rfl (by kernel_rfl) (by kernel_rfl) (by kernel_rfl) (fun _ _ _ h => h) (.inl ⟨rfl, ?ty8⟩) hS0 ?tr8
        case ty8 => (intro _ _; go_simp; try with_reducible rfl)
        case tr8 =>
        simp only [Act.put, List.setIfInBounds_toArray, List.set_cons_succ, List.set_cons_zero]
        refine held_take 5 (v := ?tv9) rfl (by kernel_rfl) (by kernel_rfl) (by kernel_rfl) (fun _ _ _ h => h) (.inl ⟨rfl, ?ty9⟩) hS0 ?tr9
        case ty9 => (intro _ _; go_simp; try with_reducible rfl)
        case tr9 =>
        simp only [Act.put, List.setIfInBounds_toArray, List.set_cons_succ, List.set_cons_zero]
        refine held_take 6 (v := ?tv10) rfl (by kernel_rfl) (by kernel_rfl) (by kernel_rfl) (fun _ _ _ h => h) (.inl ⟨rfl, ?ty10⟩) hS0 ?tr10
        case ty10 => (intro _ _; go_simp; try with_reducible rfl)
        case tr10 =>
        simp only [Act.put, List.setIfInBounds_toArray, List.set_cons_succ, List.set_cons_zero]
        refine held_take 7 (v := _) rfl (by kernel_rfl) (by kernel_rfl) (by kernel_rfl) (fun _ _ _ h => h) (yieldsI_run rfl (fun w1 _ => exec_index (i := k1) rfl rfl rfl Try.underlying29 size_apisum hk1n w1)) hS0 ?_
        simp only [Act.put, List.setIfInBounds_toArray, List.set_cons_succ, List.set_cons_zero]
        refine held_take 8 (v := _) rfl (by kernel_rfl) (by kernel_rfl) (by kernel_rfl) (fun _ _ _ h => h) (yieldsI_run rfl (fun w1 h => exec_load_at rfl rfl (hcy w1 h) agg_apisum HYV.out)) hS0 ?_
        simp only [Act.put, List.setIfInBounds_toArray, List.set_cons_succ, List.set_cons_zero]
        refine held_take 9 (v := _) rfl (by kernel_rfl) (by kernel_rfl) (by kernel_rfl) (fun _ _ _ h => h) (yieldsI_run rfl (fun w1 _ => exec_cmp rfl rfl rfl guard_sum HEQ.out w1)) hS0 ?_
        simp only [Act.put, List.setIfInBounds_toArray, List.set_cons_succ, List.set_cons_zero]
        have BG := hid (((HCC.out _).1 hS0).blk BW.out (by simp))
        have UG := hid UW.out.drewU
        generalize wr.drew = wG at *
        refine wpAnyH_done (by kernel_rfl) ?_ _
        clear hS0 hCx hCA HCC hcx hcy C BW UW HX HY HXV HYV HEQ
        go_wp2_with (refine wpl_run rfl (exec_lowS (k := k1 + 1) HSH.out rfl rfl rfl Try.underlying29 size_apisum hkc _) ?_)
        try rw [hN2]
        obtain ⟨c2, hc2⟩ : ∃ c2, c - (k1 + 1) = c2 := ⟨_, rfl⟩
        rw [hc2]
        clear hN2 hc2 hw1
        go_loopw [3, 5] (fun i j wr => ∃ (k k2 : Nat) (X : List (List UInt8)), i = .int .i64 (k : Int) ∧ j = .int .i64 (k2 : Int) ∧ 1 ≤ k ∧ 1 ≤ k2 ∧ k2 ≤ N2 ∧ k ≤ k1 + k2 ∧ X.length = n ∧ All32 X ∧ X.take k = dd (ls.take (k1 + 1 + k2)) ∧ X.drop (k1 + k2) = ls.drop (k1 + k2) ∧ Blk wr g (rows X ++ rest) T ∧ Upd w g wr)
          (fun _ j _ => N2 - (intOf j).toNat)
        case atStart => exact ⟨k1 + 1, 1, ls, by go_num, rfl, by omega, by omega, hN21, by omega, HN.out, H32.out, HNX.out.symm, rfl, BG.out, UG.out⟩
        case round =>
          obtain ⟨k, k2, X, rfl, rfl, hk1', hk2', hk2n, hkk, hXl, hX32, hXt, hXd, bw, uw⟩ := hrel
          have HXL := hid hXl
          have HX32 := hid hX32
          have HXT := hid hXt
          have HXD := hid hXd
          have BW := hid bw
          have UW := hid uw
          have hkn : k < n := by omega
          have hkc2 : k ≤ c := by omega
          clear hXl hX32 hXt hXd bw uw
          by_cases hlt2 : k2 < N2
          · obtain ⟨k3, rfl⟩ : ∃ k3, k2 = k3 + 1 := ⟨k2 - 1, by omega⟩
            obtain ⟨x, hx⟩ : ∃ x, X[k1 + 1 + (k3 + 1)]? = some x := ⟨X[k1 + 1 + (k3 + 1)]'(by rw [HXL.out]; omega), by simp⟩
            obtain ⟨y, hy⟩ : ∃ y, X[k1 + 1 + k3]? = some y := ⟨X[k1 + 1 + k3]'(by rw [HXL.out]; omega), by simp⟩
            have hlx : ls[k1 + 1 + k3 + 1]? = some x := by
              have h := congrArg (fun l => l[1]?) HXD.out
              simp only [List.getElem?_drop] at h
              rw [show k1 + 1 + k3 + 1 = k1 + (k3 + 1) + 1 by omega, ← h, show k1 + (k3 + 1) + 1 = k1 + 1 + (k3 + 1) by omega]
              exact hx
            have hly : ls[k1 + 1 + k3]? = some y := by
              have h := congrArg (fun l => l[0]?) HXD.out
              simp only [List.getElem?_drop] at h
              rw [show k1 + 1 + k3 = k1 + (k3 + 1) + 0 by omega, ← h, show k1 + (k3 + 1) + 0 = k1 + 1 + k3 by omega]
              exact hy
            have hst := dd_step hly hlx
            have hx0 := HX32.out.at hx
            have hy0 := HX32.out.at hy
            have HXV : Hid ((x.map u8v).length = 32) := hid (by rw [List.length_map, hx0])
            have HYV : Hid ((y.map u8v).length = 32) := hid (by rw [List.length_map, hy0])
            have hne := neq_arr Try.underlying32 x y hx0 hy0
            have HX := hid hx
            have HY := hid hy
            have HST := hid hst
            have HX0 := hid hx0
            have hk3n : k3 < N2 := by omega
            have hw1 : IntKind.i64.wrap (k3 : Int) = (k3 : Int) := IntWalk.i64_in _ (by omega)
            have hw2 : IntKind.i64.wrap ((k : Int) + 1) = (k : Int) + 1 := IntWalk.i64_in _ (by omega)
            have hw3 : IntKind.i64.wrap ((k3 : Int) + 1 + 1) = (k3 : Int) + 1 + 1 := IntWalk.i64_in _ (by omega)
            have hcxx : ∀ w1, Blk w1 g (rows X ++ rest) T → CellsAt w1 ((⟨g, (k1 + 1) * 32, none⟩ : Addr).add ((k3 + 1) * 32)) (x.map u8v) := fun w1 h1 => by
              have h := blk_row HX32.out h1 HX.out
              rw [addr_add] at h ⊢
              rw [show (k1 + 1) * 32 + (k3 + 1) * 32 = 0 + (k1 + 1 + (k3 + 1)) * 32 by omega]
              exact h
            have hcyy : ∀ w1, Blk w1 g (rows X ++ rest) T → CellsAt w1 ((⟨g, (k1 + 1) * 32, none⟩ : Addr).add (k3 * 32)) (y.map u8v) := fun w1 h1 => by
              have h := blk_row HX32.out h1 HY.out
              rw [addr_add] at h ⊢
              rw [show (k1 + 1) * 32 + k3 * 32 = 0 + (k1 + 1 + k3) * 32 by omega]
              exact h
            have HCXX := hid hcxx
            have HCYY := hid hcyy
            clear hx hy hlx hly hx0 hy0 hst hcxx hcyy
            cases hxy : (x == y) with
            | true =>
              rw [hxy] at hne
              have HNE := hid hne
              have hnx : X.take k = dd (ls.take (k1 + 1 + (k3 + 1 + 1))) := by
                rw [HXT.out, show k1 + 1 + (k3 + 1 + 1) = k1 + 1 + k3 + 2 by omega, HST.out, if_pos (eq_of_beq hxy).symm, show k1 + 1 + k3 + 1 = k1 + 1 + (k3 + 1) by omega]
              have hnd : X.drop (k1 + (k3 + 1 + 1)) = ls.drop (k1 + (k3 + 1 + 1)) := by
                have h := congrArg (List.drop 1) HXD.out
                rw [List.drop_drop, List.drop_drop] at h
                exact h
              have HNXX := hid hnx
              have HND := hid hnd
              clear hne hxy hnx hnd HST
              go_wp2_with fail
              obtain ⟨C, hC⟩ : ∃ C : World → Prop, C = Cls wr wr [g] [] := ⟨_, rfl⟩
              have hC0 : ∀ w', C w' ↔ Cls wr wr [g] [] w' := fun w' => by rw [hC]
              clear hC
              have HCC := hid hC0
              clear hC0
              have hCx : ∀ w w', C w → Ext w w' → C w' := fun w w' h1 h2 => (HCC.out w').2 (((HCC.out w).1 h1).ext h2)
              have hCA : C wr := (HCC.out _).2 (Cls.no_room (Ext.refl _) (Kept.one BW.out.lt))
              have hcx : ∀ w1, C w1 → CellsAt w1 ((⟨g, (k1 + 1) * 32, none⟩ : Addr).add ((k3 + 1) * 32)) (x.map u8v) := fun w1 h1 => HCXX.out w1 (((HCC.out w1).1 h1).blk BW.out (by simp))
              have hcy : ∀ w1, C w1 → CellsAt w1 ((⟨g, (k1 + 1) * 32, none⟩ : Addr).add (k3 * 32)) (y.map u8v) := fun w1 h1 => HCYY.out w1 (((HCC.out w1).1 h1).blk BW.out (by simp))
              refine wp_region_held_drew (S := C) (by kernel_rfl) (hCx _ _ hCA (Ext.refl _).drew) (fun hS0 => ?_)
              refine held_take 0 (v := ?tv11) rfl (by kernel_rfl) (by kernel_rfl) (by kernel_rfl) (fun _ _ _ h => h) (.inl ⟨rfl, ?ty11⟩) hS0 ?tr11
              case ty11 => (intro _ _; go_simp; try with_reducible rfl)
              case tr11 =>
              simp only [Act.put, List.setIfInBounds_toArray, List.set_cons_succ, List.set_cons_zero]
              refine held_take 1 (v := ?tv12) rfl (by kernel_rfl) (by kernel_rfl) (by kernel_rfl) (fun _ _ _ h => h) (.inl ⟨rfl, ?ty12⟩) hS0 ?tr12
              case ty12 => (intro _ _; go_simp; try with_reducible rfl)
              case tr12 =>
              simp only [Act.put, List.setIfInBounds_toArray, List.set_cons_succ, List.set_cons_zero]
              refine held_take 2 (v := _) rfl (by kernel_rfl) (by kernel_rfl) (by kernel_rfl) (fun _ _ _ h => h) (yieldsI_run rfl (fun w1 _ => exec_index (i := k3 + 1) rfl rfl rfl Try.underlying29 size_apisum hlt2 w1)) hS0 ?_
              simp only [Act.put, List.setIfInBounds_toArray, List.set_cons_succ, List.set_cons_zero]
              refine held_take 3 (v := _) rfl (by kernel_rfl) (by kernel_rfl) (by kernel_rfl) (fun _ _ _ h => h) (yieldsI_run rfl (fun w1 h => exec_load_at rfl rfl (hcx w1 h) agg_apisum HXV.out)) hS0 ?_
              simp only [Act.put, List.setIfInBounds_toArray, List.set_cons_succ, List.set_cons_zero]
              refine held_take 4 (v := ?tv13) rfl (by kernel_rfl) (by kernel_rfl) (by kernel_rfl) (fun _ _ _ h => h) (.inl ⟨rfl, ?ty13⟩) hS0 ?tr13
              case ty13 => (intro _ _; go_simp; try with_reducible rfl)
              case tr13 =>
              simp only [Act.put, List.setIfInBounds_toArray, List.set_cons_succ, List.set_cons_zero]
              refine held_take 5 (v := ?tv14) rfl (by kernel_rfl) (by kernel_rfl) (by kernel_rfl) (fun _ _ _ h => h) (.inl ⟨rfl, ?ty14⟩) hS0 ?tr14
              case ty14 => (intro _ _; go_simp; try with_reducible rfl)
              case tr14 =>
              simp only [Act.put, List.setIfInBounds_toArray, List.set_cons_succ, List.set_cons_zero]
              refine held_take 6 (v := ?tv15) rfl (by kernel_rfl) (by kernel_rfl) (by kernel_rfl) (fun _ _ _ h => h) (.inl ⟨rfl, ?ty15⟩) hS0 ?tr15
              case ty15 => (intro _ _; go_simp; try with_reducible rfl)
              case tr15 =>
              simp only [Act.put, List.setIfInBounds_toArray, List.set_cons_succ, List.set_cons_zero]
              refine held_take 7 (v := _) rfl (by kernel_rfl) (by kernel_rfl) (by kernel_rfl) (fun _ _ _ h => h) (yieldsI_run rfl (fun w1 _ => exec_index (i := k3) rfl rfl rfl Try.underlying29 size_apisum hk3n w1)) hS0 ?_
              simp only [Act.put, List.setIfInBounds_toArray, List.set_cons_succ, List.set_cons_zero]
              refine held_take 8 (v := _) rfl (by kernel_rfl) (by kernel_rfl) (by kernel_rfl) (fun _ _ _ h => h) (yieldsI_run rfl (fun w1 h => exec_load_at rfl rfl (hcy w1 h) agg_apisum HYV.out)) hS0 ?_
              simp only [Act.put, List.setIfInBounds_toArray, List.set_cons_succ, List.set_cons_zero]
              refine held_take 9 (v := _) rfl (by kernel_rfl) (by kernel_rfl) (by kernel_rfl) (fun _ _ _ h => h) (yieldsI_run rfl (fun w1 _ => exec_cmp rfl rfl rfl guard_sum HNE.out w1)) hS0 ?_
              simp only [Act.put, List.setIfInBounds_toArray, List.set_cons_succ, List.set_cons_zero]
              have BG := hid (((HCC.out _).1 hS0).blk BW.out (by simp))
              have UG := hid UW.out.drewU
              generalize wr.drew = wG at *
              refine wpAnyH_done (by kernel_rfl) ?_ _
              clear hS0 hCx hCA HCC hcx hcy C BW UW
              go_wp2
              go_roundw
              case rel => exact ⟨k, k3 + 1 + 1, X, rfl, by go_num, hk1', by omega, by omega, by omega, HXL.out, HX32.out, HNXX.out, HND.out, BG.out, UG.out⟩
              case measure => simp [intOf]; omega
            | false =>
              rw [hxy] at hne
              have HNE := hid hne
              have hyx : ¬ y = x := fun h => by rw [h] at hxy; simp at hxy
              have hnx : (X.set k x).take (k + 1) = dd (ls.take (k1 + 1 + (k3 + 1 + 1))) := by
                rw [show k1 + 1 + (k3 + 1 + 1) = k1 + 1 + k3 + 2 by omega, HST.out, if_neg hyx, show k1 + 1 + k3 + 1 = k1 + 1 + (k3 + 1) by omega, ← HXT.out, List.take_add_one, List.take_set_of_le (Nat.le_refl _),
                  List.getElem?_set_self (by rw [HXL.out]; omega)]
                rfl
              have hnd : (X.set k x).drop (k1 + (k3 + 1 + 1)) = ls.drop (k1 + (k3 + 1 + 1)) := by
                have h := congrArg (List.drop 1) HXD.out
                rw [List.drop_drop, List.drop_drop] at h
                rw [List.drop_set_of_lt (by omega)]
                exact h
              have HNXX := hid hnx
              have HND := hid hnd
              clear hne hxy hnx hnd HST hyx
              go_wp2_with fail
              obtain ⟨C, hC⟩ : ∃ C : World → Prop, C = Cls wr wr [g] [] := ⟨_, rfl⟩
              have hC0 : ∀ w', C w' ↔ Cls wr wr [g] [] w' := fun w' => by rw [hC]
              clear hC
              have HCC := hid hC0
              clear hC0
              have hCx : ∀ w w', C w → Ext w w' → C w' := fun w w' h1 h2 => (HCC.out w').2 (((HCC.out w).1 h1).ext h2)
              have hCA : C wr := (HCC.out _).2 (Cls.no_room (Ext.refl _) (Kept.one BW.out.lt))
              have hcx : ∀ w1, C w1 → CellsAt w1 ((⟨g, (k1 + 1) * 32, none⟩ : Addr).add ((k3 + 1) * 32)) (x.map u8v) := fun w1 h1 => HCXX.out w1 (((HCC.out w1).1 h1).blk BW.out (by simp))
              have hcy : ∀ w1, C w1 → CellsAt w1 ((⟨g, (k1 + 1) * 32, none⟩ : Addr).add (k3 * 32)) (y.map u8v) := fun w1 h1 => HCYY.out w1 (((HCC.out w1).1 h1).blk BW.out (by simp))
              refine wp_region_held_drew (S := C) (by kernel_rfl) (hCx _ _ hCA (Ext.refl _).drew) (fun hS0 => ?_)
              refine held_take 0 (v := ?tv16) rfl (by kernel_rfl) (by kernel_rfl) (by kernel_rfl) (fun _ _ _ h => h) (.inl ⟨rfl, ?ty16⟩) hS0 ?tr16
              case ty16 => (intro _ _; go_simp; try with_reducible rfl)
              case tr16 =>
              simp only [Act.put, List.setIfInBounds_toArray, List.set_cons_succ, List.set_cons_zero]
              refine held_take 1 (v := ?tv17) rfl (by kernel_rfl) (by kernel_rfl) (by kernel_rfl) (fun _ _ _ h => h) (.inl ⟨rfl, ?ty17⟩) hS0 ?tr17
              case ty17 => (intro _ _; go_simp; try with_reducible rfl)
              case tr17 =>
              simp only [Act.put, List.setIfInBounds_toArray, List.set_cons_succ, List.set_cons_zero]
              refine held_take 2 (v := _) rfl (by kernel_rfl) (by kernel_rfl) (by kernel_rfl) (fun _ _ _ h => h) (yieldsI_run rfl (fun w1 _ => exec_index (i := k3 + 1) rfl rfl rfl Try.underlying29 size_apisum hlt2 w1)) hS0 ?_
              simp only [Act.put, List.setIfInBounds_toArray, List.set_cons_succ, List.set_cons_zero]
              refine held_take 3 (v := _) rfl (by kernel_rfl) (by kernel_rfl) (by kernel_rfl) (fun _ _ _ h => h) (yieldsI_run rfl (fun w1 h => exec_load_at rfl rfl (hcx w1 h) agg_apisum HXV.out)) hS0 ?_
              simp only [Act.put, List.setIfInBounds_toArray, List.set_cons_succ, List.set_cons_zero]
              refine held_take 4 (v := ?tv18) rfl (by kernel_rfl) (by kernel_rfl) (by kernel_rfl) (fun _ _ _ h => h) (.inl ⟨rfl, ?ty18⟩) hS0 ?tr18
              case ty18 => (intro _ _; go_simp; try with_reducible rfl)
              case tr18 =>
              simp only [Act.put, List.setIfInBounds_toArray, List.set_cons_succ, List.set_cons_zero]
              refine held_take 5 (v := ?tv19) rfl (by kernel_rfl) (by kernel_rfl) (by kernel_rfl) (fun _ _ _ h => h) (.inl ⟨rfl, ?ty19⟩) hS0 ?tr19
              case ty19 => (intro _ _; go_simp; try with_reducible rfl)
              case tr19 =>
              simp only [Act.put, List.setIfInBounds_toArray, List.set_cons_succ, List.set_cons_zero]
              refine held_take 6 (v := ?tv20) rfl (by kernel_rfl) (by kernel_rfl) (by kernel_rfl) (fun _ _ _ h => h) (.inl ⟨rfl, ?ty20⟩) hS0 ?tr20
              case ty20 => (intro _ _; go_simp; try with_reducible rfl)
              case tr20 =>
              simp only [Act.put, List.setIfInBounds_toArray, List.set_cons_succ, List.set_cons_zero]
              refine held_take 7 (v := _) rfl (by kernel_rfl) (by kernel_rfl) (by kernel_rfl) (fun _ _ _ h => h) (yieldsI_run rfl (fun w1 _ => exec_index (i := k3) rfl rfl rfl Try.underlying29 size_apisum hk3n w1)) hS0 ?_
              simp only [Act.put, List.setIfInBounds_toArray, List.set_cons_succ, List.set_cons_zero]
              refine held_take 8 (v := _) rfl (by kernel_rfl) (by kernel_rfl) (by kernel_rfl) (fun _ _ _ h => h) (yieldsI_run rfl (fun w1 h => exec_load_at rfl rfl (hcy w1 h) agg_apisum HYV.out)) hS0 ?_
              simp only [Act.put, List.setIfInBounds_toArray, List.set_cons_succ, List.set_cons_zero]
              refine held_take 9 (v := _) rfl (by kernel_rfl) (by kernel_rfl) (by kernel_rfl) (fun _ _ _ h => h) (yieldsI_run rfl (fun w1 _ => exec_cmp rfl rfl rfl guard_sum HNE.out w1)) hS0 ?_
              simp only [Act.put, List.setIfInBounds_toArray, List.set_cons_succ, List.set_cons_zero]
              have BG := hid (((HCC.out _).1 hS0).blk BW.out (by simp))
              have UG := hid UW.out.drewU
              generalize wr.drew = wG at *
              refine wpAnyH_done (by kernel_rfl) ?_ _
              clear hS0 hCx hCA HCC hcx hcy C BW UW
              have o1 : ∀ v ∈ x.map u8v, v.oneCell' = true := by intro v hv; obtain ⟨b, _, rfl⟩ := List.mem_map.1 hv; rfl
              have hCG := HCXX.out wG BG.out
              have hfit : k * 32 + (x.map u8v).length ≤ (rows X ++ rest).length := by rw [HXV.out, List.length_append, rows_length HX32.out, HXL.out]; omega
              go_wp2_with (first | (refine wpl_run rfl (exec_index0 (i := k) rfl rfl rfl Try.underlying29 size_apisum hkn _) ?_) | (refine wpl_run rfl (exec_index (i := k3 + 1) rfl rfl rfl Try.underlying29 size_apisum hlt2 _) ?_) | (refine wpl_run rfl (exec_load_at rfl rfl hCG agg_apisum HXV.out) ?_) | (refine wpl_store rfl 32 _ _ rfl (g := g) (off := k * 32) (xs := x.map u8v) rfl rfl BG.out (by rw [HXV.out]; exact agg_apisum) hfit o1 ?_))
              intro w2 b2 u2
              rw [splice_row x HX32.out HX0.out (by rw [HXL.out]; exact hkn)] at b2
              have B2 := hid b2
              have U2 := hid (UG.out.trans u2)
              clear b2 u2 BG UG hCG
              go_wp2_with fail
              go_roundw
              case rel => exact ⟨k + 1, k3 + 1 + 1, X.set k x, by go_num, by go_num, by omega, by omega, by omega, by omega, by rw [List.length_set]; exact HXL.out, HX32.out.set HX0.out, HNXX.out, HND.out, B2.out, U2.out⟩
              case measure => simp [intOf]; omega
          · obtain rfl : k2 = N2 := by omega
            have hXR : X.take k = R := by rw [HXT.out, hN2n, List.take_of_length_le (by rw [HN.out]; exact Nat.le_refl _), HR.out]
            have hRl : R.length = k := by rw [← hXR, List.length_take, HXL.out]; omega
            obtain ⟨zs, hzl, hcl⟩ := run_clear_rows (c := c - k) BW.out (show 0 < n - k by omega) (show k * 32 + (n - k) * 32 ≤ (rows X ++ rest).length by rw [List.length_append, rows_length HX32.out, HXL.out]; omega)
            have hsp : splice (rows X ++ rest) (k * 32) zs = rows R ++ (zs ++ (rows X ++ rest).drop (k * 32 + zs.length)) := by
              unfold splice
              have h1 := rows_take HX32.out k
              rw [hXR] at h1
              rw [List.take_append_of_le_length (by rw [rows_length HX32.out, HXL.out]; omega), Nat.mul_comm k 32, h1, List.append_assoc]
            have b2 := BW.out.setRow (splice (rows X ++ rest) (k * 32) zs)
            have u2 : Upd wr g (wr.setRow g (splice (rows X ++ rest) (k * 32) zs).toArray) := Upd.setRow _
            rw [hsp] at b2 u2
            simp only [hsp] at hcl
            generalize wr.setRow g (rows R ++ (zs ++ (rows X ++ rest).drop (k * 32 + zs.length))).toArray = w2 at *
            have B2 := hid b2
            have U2 := hid (UW.out.trans u2)
            have hshift : shiftz (some ⟨g, 0, none⟩) c k 32 = some ⟨g, k * 32, none⟩ := by
              unfold shiftz
              rw [if_neg (by omega), Option.map_some, addr_add, Nat.zero_add]
            have HSH2 := hid hshift
            have HRL := hid hRl
            have hkn2 : k ≤ n := by omega
            clear b2 u2 hsp hzl hXR hRl hshift
            go_wp2_with (first | (refine wpl_run rfl (exec_lowS (k := k) HSH2.out rfl rfl rfl Try.underlying29 size_apisum hkn2 _) ?_) | (refine wpl_run rfl (exec_high (k := k) rfl rfl rfl Try.underlying29 size_apisum hkc2 _) ?_) | (simp only [hcl]))
            go_ret
            exact ⟨by rw [HRL.out]; rfl, ⟨_, B2.out⟩, U2.out⟩
end
end Go.Proofs.Ytkcjdginoccgjaa
