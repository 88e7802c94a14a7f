/- Contracts and laws that the claim's row leans on (12 texts, joined): The law RawGrowth, walked; conditions: the rows' lengths. Plain law of a list's root; no condition. rootOf: the root of a list that is not empty; conditions: the list's size, the rows' lengths. The reference's Root: the root of a list that is not empty; conditions: the list's size, the rows' lengths. Readings of arguments are opened; no condition. Readings of slices of octets are opened; no condition. Readings of slices of slices of octets are opened; no condition. The leaves of the beginnings of texts, by the law's helper and by the program; conditions: the sizes. leaves: the leaves of the beginnings of at most forty texts; conditions: the sizes. tree.Root; conditions: the list's size, the rows' lengths. The law RootsMatch, walked; conditions: the sizes. Readings of slices of rows of 32 octets, and of a struct of two ints and such a slice, are opened; no condition. -/
import Derived.Test.YtfiigjdiohmkmaaJ3
import Derived.ProofKit
import Derived.OpenShut
import Derived.ChangeSlices
import Derived.WideShapes
import Derived.SizedLaws
import Derived.Deep.Matrix
import Derived.Great.BuildSlice
import Derived.Deep.Strs
namespace Go.Proofs.Ytfiigjdiohmkmaa
section
open Go Go.RowKit

set_option maxRecDepth 100000 in
set_option maxHeartbeats 1000000 in
theorem rawGrowth_c (x y : List UInt8) (I Z : Int) (ls : List (List UInt8)) (m c : Nat) (a : Option Addr) (w : World) (hx : x.length = 32) (hy : y.length = 32) (h32 : All32 ls) (hm : ls.length = m) (hmc : m ≤ c) (hc63 : c ≤ 9223372036854775807) (hcl : Cells w a (rows ls)) :
    Calls Try.prog 6 #[.agg (x.map u8v).toArray, .agg (y.map u8v).toArray, .agg #[.int .i64 I, .int .i64 Z, .slice a m c]] w fun e w' => e = .returned (.bool true) ∧ Ext w w' := by
  have HX : Hid ((x.map u8v).length = 32) := hid (by rw [List.length_map, hx])
  have HY : Hid ((y.map u8v).length = 32) := hid (by rw [List.length_map, hy])
  have hg1 := hid (fun w' h => grown_c x y I Z ls m c a w' hx hy h32 hm hmc hc63 h)
  have hg2 := hid (fun w' h => rgrown_c x y I Z ls m c a w' hx hy h32 hm hmc hc63 h)
  generalize grownL x y I Z ls = V at *
  have HC := hid hcl
  clear hx hy h32 hm hcl
  go_enter Try.func6, Try.ntmps6
  go_upto_region 1 with (fail)
  generalize hwA : World.alloc (World.alloc (World.alloc w _) _) _ = wA
  have xA : Blk wA w.heap.size (x.map u8v) 36 := by rw [← hwA]; exact ((Blk.mk_alloc rfl rfl).alloc _).alloc _
  have yA : Blk wA (w.heap.size + 1) (y.map u8v) 36 := by rw [← hwA]; exact (Blk.mk_alloc (by simp) rfl).alloc _
  have pA : Blk wA (w.heap.size + 2) [.int .i64 I, .int .i64 Z, .slice a m c] 24 := by rw [← hwA]; exact Blk.mk_alloc (by simp) rfl
  have eA : Ext w wA := by rw [← hwA]; exact ((((Ext.refl w).alloc _).alloc _).alloc _)
  clear hwA
  go_wp2_with fail
  refine (landed_c wA).mono ?_
  rintro e wB ⟨rfl, eB⟩
  have XB := hid (xA.ext eB)
  have YB := hid (yA.ext eB)
  have PB := hid (pA.ext eB)
  have EB := hid (eA.ext eB)
  clear eB xA yA pA eA
  go_wp2
  obtain ⟨C, hC⟩ : ∃ C : World → Prop, C = Cls w wB [w.heap.size, w.heap.size + 1, w.heap.size + 2] [] := ⟨_, rfl⟩
  have hC0 : ∀ w', C w' ↔ Cls w wB [w.heap.size, w.heap.size + 1, w.heap.size + 2] [] w' := fun w' => by rw [hC]
  clear hC
  have HCC := hid hC0
  clear hC0
  have hCx : ∀ w w', C w → Ext w w' → C w' := fun w w' h1 h2 => (HCC.out w').2 (((HCC.out w).1 h1).ext h2)
  have hCA : C wB := (HCC.out _).2 (Cls.no_room EB.out (Kept.three XB.out.lt YB.out.lt PB.out.lt))
  have hs1 : ∀ w1, C w1 → Blk w1 w.heap.size (x.map u8v) 36 := fun w1 h1 => ((HCC.out w1).1 h1).blk XB.out (by simp)
  have hs2 : ∀ w1, C w1 → Blk w1 (w.heap.size + 1) (y.map u8v) 36 := fun w1 h1 => ((HCC.out w1).1 h1).blk YB.out (by simp)
  have hs3 : ∀ w1, C w1 → Blk w1 (w.heap.size + 2) [.int .i64 I, .int .i64 Z, .slice a m c] 24 := fun w1 h1 => ((HCC.out w1).1 h1).blk PB.out (by simp)
  refine wp_region_held_drew (S := C) (by kernel_rfl) (hCx _ _ hCA (Ext.refl _).drew) (fun hS0 => ?_)
  refine held_take 0 (v := _) rfl (by kernel_rfl) (by kernel_rfl) (by kernel_rfl) (fun _ _ _ h => h) (yieldsI_loadw rfl _ _ rfl rfl hs1 agg_apisum HX.out) hS0 ?_
  simp only [Act.put, List.setIfInBounds_toArray, List.set_cons_succ, List.set_cons_zero]
  refine held_take 1 (v := _) rfl (by kernel_rfl) (by kernel_rfl) (by kernel_rfl) (fun _ _ _ h => h) (yieldsI_loadw rfl _ _ rfl rfl hs2 agg_apisum HY.out) hS0 ?_
  simp only [Act.put, List.setIfInBounds_toArray, List.set_cons_succ, List.set_cons_zero]
  refine held_take 2 (v := _) rfl (by kernel_rfl) (by kernel_rfl) (by kernel_rfl) (fun _ _ _ h => h) (yieldsI_loadw rfl _ _ rfl rfl hs3 agg_proof rfl) hS0 ?_
  simp only [Act.put, List.setIfInBounds_toArray, List.set_cons_succ, List.set_cons_zero]
  refine held_take 4 (v := _) rfl (by kernel_rfl) (by kernel_rfl) (by kernel_rfl) (fun _ _ _ h => h) (yieldsI_loadw rfl _ _ rfl rfl hs1 agg_apisum HX.out) hS0 ?_
  simp only [Act.put, List.setIfInBounds_toArray, List.set_cons_succ, List.set_cons_zero]
  refine held_take 5 (v := _) rfl (by kernel_rfl) (by kernel_rfl) (by kernel_rfl) (fun _ _ _ h => h) (yieldsI_loadw rfl _ _ rfl rfl hs2 agg_apisum HY.out) hS0 ?_
  simp only [Act.put, List.setIfInBounds_toArray, List.set_cons_succ, List.set_cons_zero]
  refine held_take 6 (v := _) rfl (by kernel_rfl) (by kernel_rfl) (by kernel_rfl) (fun _ _ _ h => h) (yieldsI_loadw rfl _ _ rfl rfl hs3 agg_proof rfl) hS0 ?_
  simp only [Act.put, List.setIfInBounds_toArray, List.set_cons_succ, List.set_cons_zero]
  generalize wB.drew = wD at *
  refine held_one (i := 3) (by kernel_rfl) rfl ?_
  intro Q' hQ
  go_wp2_with fail
  refine (hg1.out wD (HC.out.ext ((HCC.out wD).1 hS0).base)).mono ?_
  rintro e wE ⟨rfl, eE⟩
  have hE := hCx _ _ hS0 eE
  go_wp2_with fail
  refine hQ _ _ hE ?_
  clear hQ Q' hS0 eE
  try dsimp only
  try simp only [Act.put, List.setIfInBounds_toArray, List.set_cons_succ, List.set_cons_zero]
  refine held_one (i := 7) (by kernel_rfl) rfl ?_
  intro Q' hQ
  go_wp2_with fail
  refine (hg2.out wE (HC.out.ext ((HCC.out wE).1 hE).base)).mono ?_
  rintro e wF ⟨rfl, eF⟩
  have hS0 := hCx _ _ hE eF
  go_wp2_with fail
  refine hQ _ _ hS0 ?_
  clear hQ Q' hE eF
  have hVV : (V == V) = true := by simp
  try dsimp only
  try simp only [Act.put, List.setIfInBounds_toArray, List.set_cons_succ, List.set_cons_zero]
  refine held_take 8 (v := ?tv1) rfl (by kernel_rfl) (by kernel_rfl) (by kernel_rfl) (fun _ _ _ h => h) (.inl ⟨rfl, ?ty1⟩) hS0 ?tr1
  case ty1 => (intro _ _; go_simp; try with_reducible rfl)
  case tr1 =>
  simp only [Act.put, List.setIfInBounds_toArray, List.set_cons_succ, List.set_cons_zero]
  refine held_one (i := 9) (by kernel_rfl) rfl ?_
  intro Q' hQ
  go_wp2_with fail
  refine hQ _ _ hS0 ?_
  clear hQ Q'
  refine wpAnyH_done (by kernel_rfl) ?_ _
  have EF := hid ((HCC.out wF).1 hS0).base
  go_wp2
  go_ret
  exact ⟨rfl, EF.out⟩
end

section
open Go Go.RowKit

section
variable (nd : List UInt8 → List UInt8 → List UInt8)
/-- the root of a list of sums -/
def rootS (ls : List (List UInt8)) : List UInt8 :=
  if h : ls.length < 2 then ls.headD zero32 else nd (rootS (ls.take (splitN ls.length))) (rootS (ls.drop (splitN ls.length)))
termination_by ls.length
decreasing_by
  · have := splitN_spec (n := ls.length) (by omega); rw [List.length_take]; omega
  · have := splitN_spec (n := ls.length) (by omega); rw [List.length_drop]; omega
theorem rootS_one (x : List UInt8) : rootS nd [x] = x := by rw [rootS]; simp
theorem rootS_two {ls : List (List UInt8)} (h : 2 ≤ ls.length) : rootS nd ls = nd (rootS nd (ls.take (splitN ls.length))) (rootS nd (ls.drop (splitN ls.length))) := by
  rw [rootS, dif_neg (by omega)]
theorem rootS_length (hnd : ∀ a b, (nd a b).length = 32) {ls : List (List UInt8)} (h : All32 ls) : (rootS nd ls).length = 32 := by
  rcases Nat.lt_or_ge ls.length 2 with h2 | h2
  · rw [rootS, dif_pos h2]
    cases ls with
    | nil => exact zero32_length
    | cons x r => exact h x (by simp)
  · rw [rootS_two nd h2]; exact hnd _ _
end
end

section
open Go Go.RowKit

set_option maxRecDepth 100000 in
set_option maxHeartbeats 2000000 in
theorem rootOf_c : ∀ (n : Nat) (ls : List (List UInt8)) (c : Nat) (a : Option Addr) (w : World), ls.length = n → 1 ≤ n → n ≤ 65536 → All32 ls → n ≤ c → c ≤ 9223372036854775807 → Cells w a (rows ls) →
    Calls Try.prog 46 #[.slice a n c] w fun e w' => e = .returned (.agg ((rootS nodeL ls).map u8v).toArray) ∧ Ext w w' := by
  intro n
  induction n using Nat.strongRecOn with
  | ind n ih =>
  intro ls c a w hl h1 h2 h32 hnc hc63 hcl
  have HIH := hid ih
  clear ih
  by_cases hn : n = 1
  · subst hn
    obtain ⟨y, rfl⟩ := List.length_eq_one_iff.1 hl
    obtain ⟨A, rfl, hca⟩ : ∃ A, a = some A ∧ CellsAt w (A.add (0 * 32)) (y.map u8v) := by
      cases a with
      | none => rcases hcl with h | ⟨_, _, h, _⟩
                · have := rows_length h32; rw [h] at this; simp at this
                · cases h
      | some A => exact ⟨A, rfl, hcl.rowAt h32 rfl⟩
    have hy := h32 y (by simp)
    rw [rootS_one]
    have HCA := hid hca
    have HY : Hid ((y.map u8v).length = 32) := hid (by rw [List.length_map, hy])
    have oy := one_u8 y
    clear HIH hcl h32 hl hca hy
    generalize y.map u8v = yv at *
    go_enter Try.func46, Try.ntmps46
    go_upto_region 1 with (fail)
    generalize hwA : World.alloc w _ = wA
    have zA : Blk wA w.heap.size (List.replicate 32 (.int .u8 0)) 36 := by rw [← hwA]; exact Blk.mk_alloc rfl rfl
    have eA : Ext w wA := by rw [← hwA]; exact (Ext.refl w).alloc _
    clear hwA
    have ZA := hid zA
    have EA := hid eA
    have CA := hid (HCA.out.ext eA)
    clear zA eA
    go_wp2_with (first | (refine wpl_run rfl (exec_index (i := 0) rfl rfl rfl Try.underlying22 size_apisum (by omega) wA) ?_) | (refine wpl_run rfl (exec_load_at rfl rfl CA.out agg_apisum HY.out) ?_) | (refine wpl_storew rfl _ _ _ rfl rfl rfl ZA.out agg_apisum (by simp) HY.out oy ?_))
    intro w4 b4 u4
    go_wp2
    refine ret_row rfl rfl b4 agg_apisum HY.out rfl ⟨rfl, u4.ext EA.out (Nat.le_refl _)⟩
  · have hsp := splitN_spec (n := n) (by omega)
    have hc := hid (fun w => split_c n w (by omega) (by omega))
    have hr := rootS_two nodeL (ls := ls) (by omega)
    rw [hl] at hr
    have hl1 : (ls.take (splitN n)).length = splitN n := by rw [List.length_take]; omega
    have hl2 : (ls.drop (splitN n)).length = n - splitN n := by rw [List.length_drop]; omega
    have ha1 := hid (fun w' hc' => HIH.out (splitN n) (by omega) (ls.take (splitN n)) c a w' hl1 (by omega) (by omega) (h32.take _) (by omega) hc63 hc')
    have ha2 := hid (fun w' hc' => HIH.out (n - splitN n) (by omega) (ls.drop (splitN n)) (c - splitN n) (shiftz a c (splitN n) 32) w' hl2 (by omega) (by omega) (h32.drop _) (by omega) (by omega) hc')
    have hq1 := rootS_length nodeL nodeL_length (h32.take (splitN n))
    have hq2 := rootS_length nodeL nodeL_length (h32.drop (splitN n))
    have hk1 := hcl.rowsTake h32 (splitN n)
    have hk2 := hcl.rowsShift h32 c (splitN n) (by omega)
    rw [hr]
    generalize rootS nodeL (ls.take (splitN n)) = p at *
    generalize rootS nodeL (ls.drop (splitN n)) = q at *
    generalize ls.take (splitN n) = l1 at *
    generalize ls.drop (splitN n) = l2 at *
    generalize splitN n = k at *
    obtain ⟨k1, k2, k3⟩ := hsp
    have HK1 := hid hk1
    have HK2 := hid hk2
    have ND := hid (fun w' => node_c p q w' hq1 hq2)
    have HV : Hid (((nodeL p q).map u8v).length = 32) := hid (by rw [List.length_map, nodeL_length])
    have ov := one_u8 (nodeL p q)
    have d1 : ((n : Int) == 1) = false := by simp; omega
    have d2 : (n == 1) = false := by simp [hn]
    clear HIH hcl h32 hl hr hl1 hl2 hk1 hk2 hq1 hq2
    go_enter Try.func46, Try.ntmps46
    go_upto_region 1 with (fail)
    generalize hwA : World.alloc w _ = wA
    have zA : Blk wA w.heap.size (List.replicate 32 (.int .u8 0)) 36 := by rw [← hwA]; exact Blk.mk_alloc rfl rfl
    have eA : Ext w wA := by rw [← hwA]; exact (Ext.refl w).alloc _
    clear hwA
    have ZA := hid zA
    have EA := hid eA
    clear zA eA
    go_wp2_with (go_at_call 73; refine (hc.out _).mono ?_; rintro e w' ⟨rfl, rfl⟩)
    obtain ⟨C, hC⟩ : ∃ C : World → Prop, C = Cls w wA [] [(w.heap.size, 32, 36)] := ⟨_, rfl⟩
    have hC0 : ∀ w', C w' ↔ Cls w wA [] [(w.heap.size, 32, 36)] w' := fun w' => by rw [hC]
    clear hC
    have HCC := hid hC0
    clear hC0
    have hCx : ∀ w w', C w → Ext w w' → C w' := fun w w' h1 h2 => (HCC.out w').2 (((HCC.out w).1 h1).ext h2)
    have hCA : C wA := (HCC.out _).2 (Cls.one_room EA.out (Kept.none _) ZA.out (by simp))
    refine wp_region_held_drew (S := C) (by kernel_rfl) (hCx _ _ hCA (Ext.refl _).drew) (fun hS0 => ?_)
    refine held_take 0 (v := ?tv1) rfl (by kernel_rfl) (by kernel_rfl) (by kernel_rfl) (fun _ _ _ h => h) (.inl ⟨rfl, ?ty1⟩) hS0 ?tr1
    case ty1 => (intro _ _; go_simp; try with_reducible rfl)
    case tr1 =>
    simp only [Act.put, List.setIfInBounds_toArray, List.set_cons_succ, List.set_cons_zero]
    refine held_take 1 (v := ?tv2) rfl (by kernel_rfl) (by kernel_rfl) (by kernel_rfl) (fun _ _ _ h => h) (.inl ⟨rfl, ?ty2⟩) hS0 ?tr2
    case ty2 => (intro _ _; go_simp; try with_reducible rfl)
    case tr2 =>
    simp only [Act.put, List.setIfInBounds_toArray, List.set_cons_succ, List.set_cons_zero]
    refine held_take 2 (v := _) rfl (by kernel_rfl) (by kernel_rfl) (by kernel_rfl) (fun _ _ _ h => h) (yieldsI_run rfl (fun w1 _ => exec_high (k := k) rfl rfl rfl Try.underlying22 size_apisum (by omega) w1)) hS0 ?_
    simp only [Act.put, List.setIfInBounds_toArray, List.set_cons_succ, List.set_cons_zero]
    refine held_take 4 (v := ?tv3) rfl (by kernel_rfl) (by kernel_rfl) (by kernel_rfl) (fun _ _ _ h => h) (.inl ⟨rfl, ?ty3⟩) hS0 ?tr3
    case ty3 => (intro _ _; go_simp; try with_reducible rfl)
    case tr3 =>
    simp only [Act.put, List.setIfInBounds_toArray, List.set_cons_succ, List.set_cons_zero]
    refine held_take 5 (v := ?tv4) rfl (by kernel_rfl) (by kernel_rfl) (by kernel_rfl) (fun _ _ _ h => h) (.inl ⟨rfl, ?ty4⟩) hS0 ?tr4
    case ty4 => (intro _ _; go_simp; try with_reducible rfl)
    case tr4 =>
    simp only [Act.put, List.setIfInBounds_toArray, List.set_cons_succ, List.set_cons_zero]
    refine held_take 6 (v := _) rfl (by kernel_rfl) (by kernel_rfl) (by kernel_rfl) (fun _ _ _ h => h) (yieldsI_run rfl (fun w1 _ => exec_low (k := k) rfl rfl rfl Try.underlying22 size_apisum (by omega) w1)) hS0 ?_
    simp only [Act.put, List.setIfInBounds_toArray, List.set_cons_succ, List.set_cons_zero]
    generalize wA.drew = wD at *
    refine held_one (i := 3) (by kernel_rfl) rfl ?_
    intro Q' hQ
    go_wp2_with fail
    refine (ha1.out wD (HK1.out.ext ((HCC.out wD).1 hS0).base)).mono ?_
    rintro e wE ⟨rfl, eE⟩
    have hE := hCx _ _ hS0 eE
    go_wp2_with fail
    refine hQ _ _ hE ?_
    clear hQ Q' hS0 eE ha1
    try dsimp only
    try simp only [Act.put, List.setIfInBounds_toArray, List.set_cons_succ, List.set_cons_zero]
    refine held_one (i := 7) (by kernel_rfl) rfl ?_
    intro Q' hQ
    go_wp2_with fail
    refine (ha2.out wE (HK2.out.ext ((HCC.out wE).1 hE).base)).mono ?_
    rintro e wF ⟨rfl, eF⟩
    have hF := hCx _ _ hE eF
    go_wp2_with fail
    refine hQ _ _ hF ?_
    clear hQ Q' hE eF ha2
    try dsimp only
    try simp only [Act.put, List.setIfInBounds_toArray, List.set_cons_succ, List.set_cons_zero]
    refine held_one (i := 8) (by kernel_rfl) rfl ?_
    intro Q' hQ
    go_wp2_with fail
    refine (ND.out wF).mono ?_
    rintro e wG ⟨rfl, eG⟩
    have hG := hCx _ _ hF eG
    go_wp2_with fail
    refine hQ _ _ hG ?_
    clear hQ Q' hF eG ND
    obtain ⟨vz, hvz, zG⟩ := ((HCC.out wG).1 hG).at_room (r := w.heap.size) (n := 32) (T := 36) (by simp)
    have ZG := hid zG
    have HVZ := hid hvz
    have HG := hid hG
    clear zG hvz hG
    try dsimp only
    try simp only [Act.put, List.setIfInBounds_toArray, List.set_cons_succ, List.set_cons_zero]
    refine held_one (i := 9) (by kernel_rfl) rfl ?_
    intro Q' hQ
    go_wp2_with (refine wpl_storew rfl _ _ _ rfl rfl rfl ZG.out agg_apisum HVZ.out HV.out ov ?_)
    intro wH bH uH
    have hH : C wH := (HCC.out wH).2 (((HCC.out wG).1 HG.out).store uH bH (by simp [HV.out]) (Nat.le_refl _) (by simp))
    go_wp2_with fail
    refine hQ _ _ hH ?_
    clear hQ Q'
    have EH := hid ((HCC.out wH).1 hH).base
    refine wpAnyH_done (by kernel_rfl) ?_ _
    go_wp2
    refine ret_row rfl rfl bH agg_apisum HV.out rfl ⟨rfl, EH.out⟩
end

section
open Go Go.RowKit

set_option maxRecDepth 100000 in
set_option maxHeartbeats 2000000 in
theorem rroot_c : ∀ (n : Nat) (ls : List (List UInt8)) (c : Nat) (a : Option Addr) (w : World), ls.length = n → 1 ≤ n → n ≤ 65536 → All32 ls → n ≤ c → c ≤ 9223372036854775807 → Cells w a (rows ls) →
    Calls Try.prog 19 #[.slice a n c] w fun e w' => e = .returned (.agg ((rootS nodeL ls).map u8v).toArray) ∧ Ext w w' := by
  intro n
  induction n using Nat.strongRecOn with
  | ind n ih =>
  intro ls c a w hl h1 h2 h32 hnc hc63 hcl
  have HIH := hid ih
  clear ih
  by_cases hn : n = 1
  · subst hn
    obtain ⟨y, rfl⟩ := List.length_eq_one_iff.1 hl
    obtain ⟨A, rfl, hca⟩ : ∃ A, a = some A ∧ CellsAt w (A.add (0 * 32)) (y.map u8v) := by
      cases a with
      | none => rcases hcl with h | ⟨_, _, h, _⟩
                · have := rows_length h32; rw [h] at this; simp at this
                · cases h
      | some A => exact ⟨A, rfl, hcl.rowAt h32 rfl⟩
    have hy := h32 y (by simp)
    rw [rootS_one]
    have HCA := hid hca
    have HY : Hid ((y.map u8v).length = 32) := hid (by rw [List.length_map, hy])
    have oy := one_u8 y
    clear HIH hcl h32 hl hca hy
    generalize y.map u8v = yv at *
    go_enter Try.func19, Try.ntmps19
    go_upto_region 1 with (fail)
    generalize hwA : World.alloc w _ = wA
    have zA : Blk wA w.heap.size (List.replicate 32 (.int .u8 0)) 36 := by rw [← hwA]; exact Blk.mk_alloc rfl rfl
    have eA : Ext w wA := by rw [← hwA]; exact (Ext.refl w).alloc _
    clear hwA
    have ZA := hid zA
    have EA := hid eA
    have CA := hid (HCA.out.ext eA)
    clear zA eA
    go_wp2_with (first | (refine wpl_run rfl (exec_index (i := 0) rfl rfl rfl Try.underlying22 size_apisum (by omega) wA) ?_) | (refine wpl_run rfl (exec_load_at rfl rfl CA.out agg_apisum HY.out) ?_) | (refine wpl_storew rfl _ _ _ rfl rfl rfl ZA.out agg_apisum (by simp) HY.out oy ?_))
    intro w4 b4 u4
    go_wp2
    refine ret_row rfl rfl b4 agg_apisum HY.out rfl ⟨rfl, u4.ext EA.out (Nat.le_refl _)⟩
  · have hsp := splitN_spec (n := n) (by omega)
    have hc := hid (fun w => half_c n w (by omega) (by omega))
    have hr := rootS_two nodeL (ls := ls) (by omega)
    rw [hl] at hr
    have hl1 : (ls.take (splitN n)).length = splitN n := by rw [List.length_take]; omega
    have hl2 : (ls.drop (splitN n)).length = n - splitN n := by rw [List.length_drop]; omega
    have ha1 := hid (fun w' hc' => HIH.out (splitN n) (by omega) (ls.take (splitN n)) c a w' hl1 (by omega) (by omega) (h32.take _) (by omega) hc63 hc')
    have ha2 := hid (fun w' hc' => HIH.out (n - splitN n) (by omega) (ls.drop (splitN n)) (c - splitN n) (shiftz a c (splitN n) 32) w' hl2 (by omega) (by omega) (h32.drop _) (by omega) (by omega) hc')
    have hq1 := rootS_length nodeL nodeL_length (h32.take (splitN n))
    have hq2 := rootS_length nodeL nodeL_length (h32.drop (splitN n))
    have hk1 := hcl.rowsTake h32 (splitN n)
    have hk2 := hcl.rowsShift h32 c (splitN n) (by omega)
    rw [hr]
    generalize rootS nodeL (ls.take (splitN n)) = p at *
    generalize rootS nodeL (ls.drop (splitN n)) = q at *
    generalize ls.take (splitN n) = l1 at *
    generalize ls.drop (splitN n) = l2 at *
    generalize splitN n = k at *
    obtain ⟨k1, k2, k3⟩ := hsp
    have HK1 := hid hk1
    have HK2 := hid hk2
    have ND := hid (fun w' => rnode_c p q w' hq1 hq2)
    have HV : Hid (((nodeL p q).map u8v).length = 32) := hid (by rw [List.length_map, nodeL_length])
    have ov := one_u8 (nodeL p q)
    have d1 : ((n : Int) == 1) = false := by simp; omega
    have d2 : (n == 1) = false := by simp [hn]
    clear HIH hcl h32 hl hr hl1 hl2 hk1 hk2 hq1 hq2
    go_enter Try.func19, Try.ntmps19
    go_upto_region 1 with (fail)
    generalize hwA : World.alloc w _ = wA
    have zA : Blk wA w.heap.size (List.replicate 32 (.int .u8 0)) 36 := by rw [← hwA]; exact Blk.mk_alloc rfl rfl
    have eA : Ext w wA := by rw [← hwA]; exact (Ext.refl w).alloc _
    clear hwA
    have ZA := hid zA
    have EA := hid eA
    clear zA eA
    go_wp2_with (go_at_call 47; refine (hc.out _).mono ?_; rintro e w' ⟨rfl, rfl⟩)
    obtain ⟨C, hC⟩ : ∃ C : World → Prop, C = Cls w wA [] [(w.heap.size, 32, 36)] := ⟨_, rfl⟩
    have hC0 : ∀ w', C w' ↔ Cls w wA [] [(w.heap.size, 32, 36)] w' := fun w' => by rw [hC]
    clear hC
    have HCC := hid hC0
    clear hC0
    have hCx : ∀ w w', C w → Ext w w' → C w' := fun w w' h1 h2 => (HCC.out w').2 (((HCC.out w).1 h1).ext h2)
    have hCA : C wA := (HCC.out _).2 (Cls.one_room EA.out (Kept.none _) ZA.out (by simp))
    refine wp_region_held_drew (S := C) (by kernel_rfl) (hCx _ _ hCA (Ext.refl _).drew) (fun hS0 => ?_)
    refine held_take 0 (v := ?tv1) rfl (by kernel_rfl) (by kernel_rfl) (by kernel_rfl) (fun _ _ _ h => h) (.inl ⟨rfl, ?ty1⟩) hS0 ?tr1
    case ty1 => (intro _ _; go_simp; try with_reducible rfl)
    case tr1 =>
    simp only [Act.put, List.setIfInBounds_toArray, List.set_cons_succ, List.set_cons_zero]
    refine held_take 1 (v := ?tv2) rfl (by kernel_rfl) (by kernel_rfl) (by kernel_rfl) (fun _ _ _ h => h) (.inl ⟨rfl, ?ty2⟩) hS0 ?tr2
    case ty2 => (intro _ _; go_simp; try with_reducible rfl)
    case tr2 =>
    simp only [Act.put, List.setIfInBounds_toArray, List.set_cons_succ, List.set_cons_zero]
    refine held_take 2 (v := _) rfl (by kernel_rfl) (by kernel_rfl) (by kernel_rfl) (fun _ _ _ h => h) (yieldsI_run rfl (fun w1 _ => exec_high (k := k) rfl rfl rfl Try.underlying22 size_apisum (by omega) w1)) hS0 ?_
    simp only [Act.put, List.setIfInBounds_toArray, List.set_cons_succ, List.set_cons_zero]
    refine held_take 4 (v := ?tv3) rfl (by kernel_rfl) (by kernel_rfl) (by kernel_rfl) (fun _ _ _ h => h) (.inl ⟨rfl, ?ty3⟩) hS0 ?tr3
    case ty3 => (intro _ _; go_simp; try with_reducible rfl)
    case tr3 =>
    simp only [Act.put, List.setIfInBounds_toArray, List.set_cons_succ, List.set_cons_zero]
    refine held_take 5 (v := ?tv4) rfl (by kernel_rfl) (by kernel_rfl) (by kernel_rfl) (fun _ _ _ h => h) (.inl ⟨rfl, ?ty4⟩) hS0 ?tr4
    case ty4 => (intro _ _; go_simp; try with_reducible rfl)
    case tr4 =>
    simp only [Act.put, List.setIfInBounds_toArray, List.set_cons_succ, List.set_cons_zero]
    refine held_take 6 (v := _) rfl (by kernel_rfl) (by kernel_rfl) (by kernel_rfl) (fun _ _ _ h => h) (yieldsI_run rfl (fun w1 _ => exec_low (k := k) rfl rfl rfl Try.underlying22 size_apisum (by omega) w1)) hS0 ?_
    simp only [Act.put, List.setIfInBounds_toArray, List.set_cons_succ, List.set_cons_zero]
    generalize wA.drew = wD at *
    refine held_one (i := 3) (by kernel_rfl) rfl ?_
    intro Q' hQ
    go_wp2_with fail
    refine (ha1.out wD (HK1.out.ext ((HCC.out wD).1 hS0).base)).mono ?_
    rintro e wE ⟨rfl, eE⟩
    have hE := hCx _ _ hS0 eE
    go_wp2_with fail
    refine hQ _ _ hE ?_
    clear hQ Q' hS0 eE ha1
    try dsimp only
    try simp only [Act.put, List.setIfInBounds_toArray, List.set_cons_succ, List.set_cons_zero]
    refine held_one (i := 7) (by kernel_rfl) rfl ?_
    intro Q' hQ
    go_wp2_with fail
    refine (ha2.out wE (HK2.out.ext ((HCC.out wE).1 hE).base)).mono ?_
    rintro e wF ⟨rfl, eF⟩
    have hF := hCx _ _ hE eF
    go_wp2_with fail
    refine hQ _ _ hF ?_
    clear hQ Q' hE eF ha2
    try dsimp only
    try simp only [Act.put, List.setIfInBounds_toArray, List.set_cons_succ, List.set_cons_zero]
    refine held_one (i := 8) (by kernel_rfl) rfl ?_
    intro Q' hQ
    go_wp2_with fail
    refine (ND.out wF).mono ?_
    rintro e wG ⟨rfl, eG⟩
    have hG := hCx _ _ hF eG
    go_wp2_with fail
    refine hQ _ _ hG ?_
    clear hQ Q' hF eG ND
    obtain ⟨vz, hvz, zG⟩ := ((HCC.out wG).1 hG).at_room (r := w.heap.size) (n := 32) (T := 36) (by simp)
    have ZG := hid zG
    have HVZ := hid hvz
    have HG := hid hG
    clear zG hvz hG
    try dsimp only
    try simp only [Act.put, List.setIfInBounds_toArray, List.set_cons_succ, List.set_cons_zero]
    refine held_one (i := 9) (by kernel_rfl) rfl ?_
    intro Q' hQ
    go_wp2_with (refine wpl_storew rfl _ _ _ rfl rfl rfl ZG.out agg_apisum HVZ.out HV.out ov ?_)
    intro wH bH uH
    have hH : C wH := (HCC.out wH).2 (((HCC.out wG).1 HG.out).store uH bH (by simp [HV.out]) (Nat.le_refl _) (by simp))
    go_wp2_with fail
    refine hQ _ _ hH ?_
    clear hQ Q'
    have EH := hid ((HCC.out wH).1 hH).base
    refine wpAnyH_done (by kernel_rfl) ?_ _
    go_wp2
    refine ret_row rfl rfl bH agg_apisum HV.out rfl ⟨rfl, EH.out⟩
end

section
open Go Go.RowKit Go.ChangeShapes Go.WideShapes Go.ChangeAt

theorem u8_of {n : Int} (h : (Lit.int .u8 n).wf = true) : ∃ x : UInt8, Value.int .u8 n = u8v x := by
  have hb := bounds_u8 h
  refine ⟨UInt8.ofNat n.toNat, ?_⟩
  unfold u8v
  congr 1
  rw [UInt8.toNat_ofNat']
  omega

theorem u8s_of : ∀ (vs : List Value), (∀ (i : Nat) (v : Value), vs[i]? = some v → ∃ x : UInt8, v = u8v x) → ∃ l : List UInt8, vs = l.map u8v
  | [], _ => ⟨[], rfl⟩
  | v :: vs, h => by
    obtain ⟨x, hx⟩ := h 0 v rfl
    obtain ⟨l, hl⟩ := u8s_of vs fun i u hu => h (i + 1) u (by simpa using hu)
    exact ⟨x :: l, by rw [hx, hl]; rfl⟩

section
variable {H : Type} {enc : TypeId × Value → H} {P : Program} {w : World}
/-- an array of octets -/
theorem open_octets {r : Reach} {b0 base : Nat} {sp : Nat → Bool} {held : Bool} {t e : TypeId} {n : Nat} {v : Value} {d : DataW H} {ps : List MemPlace} (ht : P.underlying t = some (.array n e)) (he : P.underlying e = some (.int .u8)) (hce : P.cellsOf e = 1) (hct : P.cellsOf t = n)
    (hval : Value.okWide P w r b0 t v) (hd : DataW.Trod enc P w base sp held t v d ps) : ∃ l : List UInt8, l.length = n ∧ v = .agg (l.map u8v).toArray := by
  unfold Value.okWide at hval
  rw [ht] at hval
  obtain ⟨cs, rfl, hs, _⟩ := hval
  obtain ⟨fuel, hf⟩ := hd
  obtain ⟨xs, m, _, _, hlen, hxl, hel⟩ := DataW.trod_array ht hf
  have hcl : cs.toList.length = n := by rw [Array.length_toList, hs, hct]
  obtain ⟨l, hl⟩ := u8s_of cs.toList fun i u hu => by
    have hi : i < n := by
      have := (List.getElem?_eq_some_iff.1 hu).1
      omega
    have h1 := hel i hi
    rw [hce, Nat.mul_one] at h1
    have hx : xs[i]? = some xs[i] := by simp
    have h2 : (cs.toList.drop i).take 1 = [u] := by
      have h3 := List.getElem?_drop (xs := cs.toList) (i := i) (j := 0)
      rw [Nat.add_zero, hu] at h3
      cases hd : cs.toList.drop i with
      | nil => rw [hd] at h3; simp at h3
      | cons y r => rw [hd] at h3; simp at h3; simp [h3]
    have h4 : DataW.trod enc P w base sp held m e [u] = some xs[i] := by
      rw [← h2, ← hx]; exact h1
    obtain ⟨k, hk, _, hw⟩ := DataW.trod_int he h4
    have hu' : u = .int .u8 k := by simpa using hk
    rw [hu']; exact u8_of hw
  refine ⟨l, ?_, ?_⟩
  · have := congrArg List.length hl
    rw [hcl, List.length_map] at this; exact this.symm
  · rw [← hl]
end
end

section
open Go Go.RowKit Go.ChangeShapes Go.WideShapes Go.ChangeAt

section
variable {H : Type} {enc : TypeId × Value → H} {P : Program} {w : World}
/-- a slice of octets, read whole -/
theorem open_bytes {r : Reach} {b0 base : Nat} {held : Bool} {t e : TypeId} {v : Value} {d : DataW H} {ps : List MemPlace} (ht : P.underlying t = some (.slice e)) (he : P.underlying e = some (.int .u8)) (hce : P.cellsOf e = 1)
    (hval : Value.okWide P w r b0 t v) (hd : DataW.Trod enc P w base (fun _ => true) held t v d ps) :
    ∃ (a : Option Addr) (n c : Nat) (l : List UInt8) (es sp : List (DataW H)), v = .slice a n c ∧ l.length = n ∧ n ≤ c ∧ (a = none → c = 0) ∧ Cells w a (l.map u8v) ∧ ((d = .nil ∧ c = 0) ∨ (d = .slice es sp ∧ es.length + sp.length = c)) := by
  obtain ⟨a, n, c, rfl⟩ := okWide_slice ht hval
  obtain ⟨fuel, hf⟩ := hd
  rcases open_ints ht he hce hf with ⟨hcs, hx⟩ | ⟨ad, len, cap, zs, hcs, _, hle, hmax, hlen, hx, hcell, hwf⟩
  · simp [Value.cells] at hcs
    obtain ⟨rfl, rfl, rfl⟩ := hcs
    simp only [Prod.mk.injEq] at hx
    exact ⟨none, 0, 0, [], [], [], rfl, rfl, Nat.le_refl _, fun _ => rfl, .inl rfl, .inl ⟨hx.1, rfl⟩⟩
  · simp [Value.cells] at hcs
    obtain ⟨rfl, rfl, rfl⟩ := hcs
    simp only [Prod.mk.injEq] at hx
    simp only [if_true] at hlen
    obtain ⟨l, hl⟩ := u8s_of ((zs.take n).map (Value.int .u8)) fun i u hu => by
      have hm := List.mem_of_getElem? hu
      obtain ⟨z, hz, rfl⟩ := List.mem_map.1 hm
      exact u8_of (hwf z (List.mem_of_mem_take hz))
    have hll : l.length = n := by
      have := congrArg List.length hl
      simp only [List.length_map, List.length_take] at this
      omega
    refine ⟨some ad, n, c, l, lits .u8 (zs.take n), lits .u8 (zs.drop n), rfl, hll, hle, (fun h => by cases h), ?_, .inr ⟨hx.1, ?_⟩⟩
    · by_cases hn : n = 0
      · left
        have : l = [] := List.length_eq_zero_iff.1 (by omega)
        rw [this]; rfl
      · obtain ⟨b, off, rfl, hat⟩ := ints_at hcell (by omega)
        refine .inr ⟨b, off, rfl, fun i u hu => ?_⟩
        rw [← hl] at hu
        have hi : i < n := by
          have := (List.getElem?_eq_some_iff.1 hu).1
          simp at this; omega
        rw [hat i (by omega)]
        rw [List.getElem?_map, List.getElem?_take_of_lt hi] at hu
        rw [List.getD_eq_getElem?_getD]
        cases hz : zs[i]? with
        | none => rw [hz] at hu; simp at hu
        | some z => rw [hz] at hu; simpa using hu
    · simp [lits]; omega
end
end

section
open Go Go.RowKit Go.ChangeShapes Go.WideShapes Go.ChangeAt Go.Deep

theorem mem_weights {H : Type} {P : Program} {e : TypeId} : ∀ {ds : List (DataW H)} {d : DataW H}, d ∈ ds → ∀ n ∈ d.weights P e, n ∈ DataW.weightsAll P e ds
  | d0 :: ds, d, hd, n, hn => by
    simp only [DataW.weightsAll, List.mem_append]
    rcases List.mem_cons.1 hd with rfl | hd
    · exact .inl hn
    · exact .inr (mem_weights hd n hn)
  | [], _, hd, _, _ => by simp at hd

section
variable {H : Type} {enc : TypeId × Value → H} {P : Program} {w : World}
theorem open_bytess {r : Reach} {b0 base : Nat} {held : Bool} {t e q : TypeId} {v : Value} {d : DataW H} {ps : List MemPlace} {ts : List TypeId} {ds : List (DataW H)} {j : Nat}
    (hsz : (DataW.weightsEach P ts ds).all (· ≤ reachBytes) = true) (ht : P.underlying t = some (.slice e)) (he : P.underlying e = some (.slice q)) (hq : P.underlying q = some (.int .u8)) (ce : P.cellsOf e = 1) (cq : P.cellsOf q = 1) (hbe : P.bytesOf e = 24) (hbq : P.bytesOf q = 1)
    (hval : Value.okWide P w r b0 t v) (hd : DataW.Trod enc P w base (fun _ => true) held t v d ps) (htj : ts[j]? = some t) (hdj : ds[j]? = some d) :
    ∃ (a : Option Addr) (n c : Nat) (its : List Item), v = .slice a n c ∧ its.length = n ∧ n ≤ c ∧ c ≤ 140737488351232 ∧ (a = none → c = 0) ∧ Cells w a (its.map itemV) ∧
      ∀ it ∈ its, Cells w it.1 (it.2.2.map u8v) ∧ (it.1 = none → it.2.1 = 0) ∧ it.2.2.length ≤ it.2.1 ∧ it.2.1 ≤ 140737488351232 := by
  have hw := fun n hn => List.all_eq_true.1 hsz n (DataW.weights_mem_each htj hdj n hn)
  obtain ⟨a, n, c, rfl⟩ := okWide_slice ht hval
  obtain ⟨fuel, hf⟩ := hd
  rcases open_int_rows ht he hq ce cq hf with ⟨hcs, hx⟩ | ⟨ad, len, cap, A, L, C, Z, hcs, _, hle, hmax, hx, hrow⟩
  · simp [Value.cells] at hcs
    obtain ⟨rfl, rfl, rfl⟩ := hcs
    exact ⟨none, 0, 0, [], rfl, rfl, Nat.le_refl _, Nat.zero_le _, fun _ => rfl, .inl rfl, by simp⟩
  · simp [Value.cells] at hcs
    obtain ⟨rfl, rfl, rfl⟩ := hcs
    simp only [Prod.mk.injEq] at hx
    obtain ⟨rfl, _⟩ := hx
    have hcap : c ≤ 140737488351232 := by
      have := hw ((n + (c - n)) * P.bytesOf e) (by simp [DataW.weights, ht])
      simp only [decide_eq_true_eq] at this
      rw [hbe] at this
      have h2 : reachBytes = 140737488351232 := by decide
      omega
    have hbnd : ∀ i, i < n → C i ≤ 140737488351232 := by
      intro i hi
      obtain ⟨_, hlc, _, hzl, _, hn0, _⟩ := hrow i (by omega)
      cases hA : A i with
      | none => have := hn0 hA; omega
      | some a' =>
        have hmem : intRow (H := H) .u8 (A i) (L i) (Z i) ∈ (List.range n).map fun r => intRow (H := H) .u8 (A r) (L r) (Z r) := List.mem_map.2 ⟨i, List.mem_range.2 hi, rfl⟩
        have h3 : C i * P.bytesOf q ∈ (intRow (H := H) .u8 (A i) (L i) (Z i)).weights P e := by
          unfold intRow
          rw [hA]
          simp only [DataW.weights, he, List.mem_cons]
          left
          congr 1
          simp [lits, hzl]; omega
        have h4 := hw (C i * P.bytesOf q) (by
          simp only [DataW.weights, ht, List.mem_cons, List.mem_append]
          exact .inr (.inl (mem_weights hmem _ h3)))
        simp only [decide_eq_true_eq] at h4
        rw [hbq] at h4
        have h2 : reachBytes = 140737488351232 := by decide
        omega
    have hits : ∀ i, i < n → ∃ it : Item, itemV it = .slice (A i) (L i) (C i) ∧ Cells w it.1 (it.2.2.map u8v) ∧ (it.1 = none → it.2.1 = 0) ∧ it.2.2.length ≤ it.2.1 ∧ it.2.1 ≤ 140737488351232 := by
      intro i hi
      obtain ⟨_, hlc, _, hzl, hwf, hn0, hcell⟩ := hrow i (by omega)
      obtain ⟨l, hl⟩ := u8s_of (((Z i).take (L i)).map (Value.int .u8)) fun k u hu => by
        have hm := List.mem_of_getElem? hu
        obtain ⟨z, hz, rfl⟩ := List.mem_map.1 hm
        exact u8_of (hwf z (List.mem_of_mem_take hz))
      have hll : l.length = L i := by
        have := congrArg List.length hl
        simp only [List.length_map, List.length_take] at this
        omega
      refine ⟨(A i, C i, l), by rw [itemV, hll], ?_, hn0, by simp only; omega, hbnd i hi⟩
      simp only
      by_cases h0 : L i = 0
      · left
        have : l = [] := List.length_eq_zero_iff.1 (by omega)
        rw [this]; rfl
      · cases hA : A i with
        | none => have := hn0 hA; omega
        | some a' =>
          obtain ⟨b, off, rfl, hat⟩ := ints_at (zs := Z i) (fun c hc => (hcell a' hA).2 c (by omega)) (by omega)
          refine .inr ⟨b, off, rfl, fun k u hu => ?_⟩
          rw [← hl] at hu
          have hk : k < L i := by
            have := (List.getElem?_eq_some_iff.1 hu).1
            simp at this; omega
          rw [hat k (by omega)]
          rw [List.getElem?_map, List.getElem?_take_of_lt hk] at hu
          rw [List.getD_eq_getElem?_getD]
          cases hz : (Z i)[k]? with
          | none => rw [hz] at hu; simp at hu
          | some z => rw [hz] at hu; simpa using hu
    obtain ⟨f, hfi⟩ := choose_lt hits
    refine ⟨some ad, n, c, (List.range n).map f, rfl, by simp, hle, hcap, (fun h => by cases h), ?_, ?_⟩
    · by_cases h0 : n = 0
      · left; subst h0; rfl
      · have hc0 := (hrow 0 (by omega)).1
        obtain ⟨b, off, spot⟩ := ad
        have hspot : spot = none := by simpa [Addr.add] using World.cell?_spot hc0
        subst hspot
        refine .inr ⟨b, off, rfl, fun i u hu => ?_⟩
        have hi : i < n := by
          have := (List.getElem?_eq_some_iff.1 hu).1
          simpa using this
        rw [List.getElem?_map, List.getElem?_map, List.getElem?_range hi] at hu
        simp only [Option.map_some, Option.some.injEq] at hu
        rw [← hu, (hfi i hi).1]
        have h9 := (hrow i (by omega)).1
        have hadd : (⟨b, off, none⟩ : Addr).add i = ⟨b, off + i, none⟩ := by unfold Addr.add; split <;> simp_all
        rw [hadd] at h9
        exact h9
    · intro it hit
      obtain ⟨i, hi, rfl⟩ := List.mem_map.1 hit
      exact (hfi i (List.mem_range.1 hi)).2
end
end

section
open Go Go.RowKit

def leafL (t : List UInt8) : List UInt8 := sumL 1 (t.take 3000)
theorem leafL_length (t : List UInt8) : (leafL t).length = 32 := sumL_length _ _

theorem min_cast (n k : Nat) : min (n : Int) (k : Int) = ((min n k : Nat) : Int) := by omega

set_option maxHeartbeats 400000 in
theorem short_c (a : Option Addr) (n c : Nat) (w : World) (hnc : n ≤ c) :
    Calls Try.prog 17 #[.slice a n c] w fun e w' => e = .returned (.slice a (min n 3000) c) ∧ w = w' := by
  have hm : min (n : Int) 3000 = ((min n 3000 : Nat) : Int) := by omega
  have hc : min n 3000 ≤ c := by omega
  go_enter Try.func17, Try.ntmps17
  go_wp2_with fail
  go_ret
  exact ⟨rfl, rfl⟩

set_option maxRecDepth 100000 in
set_option maxHeartbeats 400000 in
theorem rleaf_c (t : List UInt8) (a : Option Addr) (n c : Nat) (w : World) (ht : t.length = n) (hn : n ≤ 3000) (hcl : Cells w a (t.map u8v)) :
    Calls Try.prog 43 #[.slice a n c] w fun e w' => e = .returned (.agg ((sumL 1 t).map u8v).toArray) ∧ Ext w w' := by
  have hs := hid (fun w' h => rsum_c 1 t n c a w' (by omega) (by omega) ht (by omega) h)
  have HV : Hid (((sumL 1 t).map u8v).length = 32) := hid (by rw [List.length_map, sumL_length])
  have ov := one_u8 (sumL 1 t)
  have HC := hid hcl
  clear ht hcl
  generalize (sumL 1 t).map u8v = sv at *
  go_enter Try.func43, Try.ntmps43
  go_upto_region 1 with (fail)
  generalize hwA : World.alloc w _ = wA
  have zA : Blk wA w.heap.size (List.replicate 32 (.int .u8 0)) 36 := by rw [← hwA]; exact Blk.mk_alloc rfl rfl
  have eA : Ext w wA := by rw [← hwA]; exact (Ext.refl w).alloc _
  clear hwA
  go_wp2_with fail
  refine (hs.out wA (HC.out.ext eA)).mono ?_
  rintro e w1 ⟨rfl, e1⟩
  have Z1 := hid (zA.ext e1)
  have E1 := hid (eA.ext e1)
  clear zA eA e1
  go_wp2_with (refine wpl_storew rfl _ _ _ rfl rfl rfl Z1.out agg_apisum (by simp) HV.out ov ?_)
  intro w4 b4 u4
  go_wp2
  refine ret_row rfl rfl b4 agg_apisum HV.out rfl ⟨rfl, u4.ext E1.out (Nat.le_refl _)⟩

set_option maxRecDepth 100000 in
set_option maxHeartbeats 400000 in
theorem leaf_c (t : List UInt8) (a : Option Addr) (n c : Nat) (w : World) (ht : t.length = n) (hn : n ≤ 3000) (hnc : n ≤ c) (hc : c ≤ 9223372036854775807) (h0 : a = none → c = 0) (hcl : Cells w a (t.map u8v)) :
    Calls Try.prog 16 #[.slice a n c] w fun e w' => e = .returned (.tuple #[.agg ((sumL 1 t).map u8v).toArray, .int .i64 0]) ∧ Ext w w' := by
  have hs := hid (fun w' h => sumOf_c 1 t n c a w' ht hnc hc h0 h)
  have hso : sumOfV 1 t n = .tuple #[.agg ((sumL 1 t).map u8v).toArray, .int .i64 0] := by rw [sumOfV, if_neg (by omega), if_pos (by omega)]
  rw [hso] at hs
  have HV : Hid (((sumL 1 t).map u8v).length = 32) := hid (by rw [List.length_map, sumL_length])
  have ov := one_u8 (sumL 1 t)
  have HC := hid hcl
  clear ht hcl hso h0
  generalize (sumL 1 t).map u8v = sv at *
  go_enter Try.func16, Try.ntmps16
  go_upto_region 1 with (fail)
  generalize hwA : World.alloc w _ = wA
  have zA : Blk wA w.heap.size (List.replicate 32 (.int .u8 0)) 36 := by rw [← hwA]; exact Blk.mk_alloc rfl rfl
  have eA : Ext w wA := by rw [← hwA]; exact (Ext.refl w).alloc _
  clear hwA
  go_wp2_with fail
  refine (hs.out wA (HC.out.ext eA)).mono ?_
  rintro e w1 ⟨rfl, e1⟩
  have Z1 := hid (zA.ext e1)
  have E1 := hid (eA.ext e1)
  clear zA eA e1
  go_wp2_with (refine wpl_storew rfl _ _ _ rfl rfl rfl Z1.out agg_apisum (by simp) HV.out ov ?_)
  intro w4 b4 u4
  go_wp2
  refine ret_row2 rfl rfl b4 agg_apisum HV.out rfl ⟨rfl, u4.ext E1.out (Nat.le_refl _)⟩

theorem info_sum : (Try.prog.info? 36).map (fun i => (i.zero, i.size, i.bytes)) = some (some (.agg (List.replicate 32 (.int .u8 0)).toArray), 32, 32) := by kernel_rfl
theorem zsum_size : (Value.agg (List.replicate 32 (.int .u8 0)).toArray).cells.size = 32 := by simp [Value.cells]

/-- append one row onto a row of one's own -/
theorem wpl_append_row {ops : Array Oper} {rest : List Oper} {o : Oper} {a : Act} {w : World} {Q : Exit → Act → World → Prop} (hgd : o.guard = none) (s x : Operand)
    (ho : o.op = .call { callee := .builtin .append, args := #[s, x], argTypes := #[22, 22] }) (base : Nat) {v : Value} {n c g : Nat} {ls : List (List UInt8)} {y : List UInt8} {T : TypeId}
    (hs : a.eval s = v) (hx : a.eval x = .slice (some ⟨g, 0, none⟩) 1 c) (hown : w.ownsRow base 36 32 v n (rows ls)) (hy : y.length = 32) (hb : Blk w g (y.map u8v) T)
    (hn : (n + 1) * 32 ≤ 140737488355328) (hbase : base ≤ w.heap.size)
    (h : ∀ v' w', w'.ownsRow base 36 32 v' (n + 1) (rows (ls ++ [y])) → w.grownBy w' v.ownBlock → wpList Try.prog ops Q rest (a.put o.dst v') w') : wpList Try.prog ops Q (o :: rest) a w := by
  obtain ⟨i0, hi, hz, hsz, hb1⟩ := info_parts info_sum
  exact wpList_append_own w hgd s x 22 ho base 36 i0 _ 32 32 Try.underlying22 hi hz hsz hb1 zsum_size (by decide) v n (rows ls) hs hown ⟨g, 0, none⟩ 1 c (y.map u8v) hx
    (by rw [List.length_map, hy]) (news_blk hb) (one_u8 _) (by unfold maxLen; omega) hn hbase (fun v' w' h1 h2 _ => h v' w' (by rw [rows_append, rows_one]; exact h1) h2)

theorem fill_row (y : List UInt8) (hy : y.length = 32) (cells : Array Value) (hc : cells.size = 32) : Instr.fill (fun i => some (i * 32, 32)) cells [(0, .agg (y.map u8v).toArray)] = some (y.map u8v).toArray := by
  have h := Great.fill_whole (s := 32) (by omega) [.agg (y.map u8v).toArray] cells (by intro v hv; rw [List.mem_singleton.1 hv]; simp [Value.cells, hy]) (by simp [hc])
  simpa [Value.cells] using h
theorem exec_buildRow {P : Program} {o : Oper} {a : Act} {t e : TypeId} {x : Operand} {y : List UInt8} (ho : o.op = .buildSlice t 1 #[(0, x)]) (hx : a.eval x = .agg (y.map u8v).toArray) (hy : y.length = 32) (hu : P.underlying t = some (.slice e))
    {ie : TypeInfo} {z : Value} (hie : P.info? e = some ie) (hz : ie.zero = some z) (hsz : ie.size = 32) (hzs : z.cells.size = 32) (w : World) :
    (execOp a.eval o).run P w = .ok (.value (.slice (some ⟨w.heap.size, 0, none⟩) 1 1)) (w.alloc (.cells (y.map u8v).toArray e)) := by
  have h := run_buildSlice (P := P) w t e 1 #[(0, .agg (y.map u8v).toArray)] (y.map u8v).toArray ie z hu hie hz (by rw [hsz]; omega) (by rw [hsz]; omega) (by rw [hsz]; exact fill_row y hy _ (by simp))
  have he : (#[(0, x)].map fun (p : Nat × Operand) => (p.1, a.eval p.2)) = #[(0, .agg (y.map u8v).toArray)] := by simp [hx]
  unfold execOp
  simp only [ho, Sem.run_bind]
  have h2 : (Instr.buildSlice t 1 (#[(0, x)].map fun (p : Nat × Operand) => (p.1, a.eval p.2))).run P w = .ok (.slice (some ⟨w.heap.size, 0, none⟩) 1 1) (w.alloc (.cells (y.map u8v).toArray e)) := by rw [he]; exact h
  rw [h2]
  rfl
theorem wpl_step {P : Program} {ops : Array Oper} {rest : List Oper} {o : Oper} {a : Act} {w w' : World} {Q : Exit → Act → World → Prop} {v : Value} (hgd : o.guard = none) (hr : (execOp a.eval o).run P w = .ok (.value v) w') (h : wpList P ops Q rest (a.put o.dst v) w') : wpList P ops Q (o :: rest) a w :=
  wpList_plain hgd fun K hK => by
    unfold Oper.wp
    rw [hr, Oper.upon_value]
    exact hK _ _ h
theorem wpl_buildRow {ops : Array Oper} {rest : List Oper} {o : Oper} {a : Act} {w : World} {Q : Exit → Act → World → Prop} (hgd : o.guard = none) {x : Operand} {y : List UInt8} (ho : o.op = .buildSlice 22 1 #[(0, x)]) (hx : a.eval x = .agg (y.map u8v).toArray) (hy : y.length = 32)
    (h : wpList Try.prog ops Q rest (a.put o.dst (.slice (some ⟨w.heap.size, 0, none⟩) 1 1)) (w.alloc (.cells (y.map u8v).toArray 36))) : wpList Try.prog ops Q (o :: rest) a w := by
  obtain ⟨i0, hi, hz, hsz, hb1⟩ := info_parts info_sum
  exact wpl_step hgd (exec_buildRow ho hx hy Try.underlying22 hi hz hsz zsum_size w) h
end

section
open Go Go.RowKit

def leavesL (its : List Item) : List (List UInt8) := (its.take 40).map fun it => leafL it.2.2
theorem leavesL_length (its : List Item) : (leavesL its).length = min its.length 40 := by simp [leavesL]; omega
theorem leavesL_32 (its : List Item) : All32 (leavesL its) := fun l hl => by
  obtain ⟨it, _, rfl⟩ := List.mem_map.1 hl
  exact leafL_length _

set_option maxRecDepth 100000 in
set_option maxHeartbeats 1000000 in
theorem leaves_c (its : List Item) (a : Option Addr) (n c : Nat) (w : World) (hl : its.length = n) (hnc : n ≤ c) (hcl : Cells w a (its.map itemV))
    (hits : ∀ it ∈ its, Cells w it.1 (it.2.2.map u8v) ∧ (it.1 = none → it.2.1 = 0) ∧ it.2.2.length ≤ it.2.1 ∧ it.2.1 ≤ 140737488351232) :
    Calls Try.prog 15 #[.slice a n c] w fun e w' => ∃ v, e = .returned v ∧ w'.ownsRow w.heap.size 36 32 v (min n 40) (rows (leavesL its)) ∧ Ext w w' := by
  have hm : min (n : Int) 40 = ((min n 40 : Nat) : Int) := by omega
  have hc : min n 40 ≤ c := by omega
  have HL := hid hl
  have HC := hid hcl
  have HI := hid hits
  clear hl hcl hits
  generalize hM : min n 40 = M at *
  have HM := hid hM
  have hMn : M ≤ n := by omega
  have hM40 : M ≤ 40 := by omega
  clear hM
  go_enter Try.func15, Try.ntmps15
  go_wp2
  go_loopw [3, 12] (fun v i wr => ∃ k : Nat, k ≤ M ∧ i = .int .i64 (k : Int) ∧ wr.ownsRow w.heap.size 36 32 v k (rows (leavesL (its.take k))) ∧ Ext w wr) (fun _ i _ => M - (intOf i).toNat)
  case atStart => exact ⟨0, by omega, rfl, World.ownsRow_nil _ _ _ _, Ext.refl w⟩
  case round =>
    obtain ⟨k, hk, rfl, own, e1⟩ := hrel
    have O1 := hid own
    have E1 := hid e1
    have hb1 := e1.size
    clear own e1
    by_cases hlt : k < M
    · obtain ⟨it, hit⟩ : ∃ it, its[k]? = some it := ⟨its[k]'(by rw [HL.out]; omega), by simp⟩
      obtain ⟨b, off, rfl, hcell⟩ := (HC.out.ext E1.out).some_of (by rw [List.length_map, HL.out]; omega)
      have hck := hcell k (itemV it) (by rw [List.getElem?_map, hit]; rfl)
      obtain ⟨hci, h0, hle, hcap⟩ := HI.out it (List.mem_of_getElem? hit)
      have hnext : leavesL (its.take (k + 1)) = leavesL (its.take k) ++ [leafL it.2.2] := by
        unfold leavesL
        rw [List.take_take, List.take_take, Nat.min_eq_right (by omega), Nat.min_eq_right (by omega), List.take_add_one, hit]
        simp
      obtain ⟨x, ci, t⟩ := it
      simp only at hci h0 hle hcap hnext
      unfold itemV at hck
      simp only at hck
      obtain ⟨q, hq⟩ : ∃ q, t.length = q := ⟨_, rfl⟩
      rw [hq] at hck hle
      have hs := hid (fun w' => short_c x q ci w' hle)
      have htl : (t.take 3000).length = min q 3000 := by rw [List.length_take, hq]; omega
      have hlf := hid (fun w' h => rleaf_c (t.take 3000) x (min q 3000) ci w' htl (by omega) h)
      rw [show sumL 1 (t.take 3000) = leafL t from rfl] at hlf
      have HY := hid (leafL_length t)
      have HYV : Hid (((leafL t).map u8v).length = 32) := hid (by rw [List.length_map, leafL_length])
      have oy := one_u8 (leafL t)
      have HN := hid hnext
      have hct : Cells w x ((t.take 3000).map u8v) := by rw [List.map_take]; exact hci.take _
      have HCT := hid hct
      clear hnext hct hci htl hq hle hcap h0 hcell hit
      generalize leafL t = y at *
      generalize min q 3000 = q3 at *
      go_wp2_with (first | (go_at_call 17; refine (hs.out _).mono ?_; rintro e w' ⟨rfl, rfl⟩))
      refine (hlf.out wr (HCT.out.ext E1.out)).mono ?_
      rintro e w2 ⟨rfl, e2⟩
      have zB : Blk (w2.alloc (.cells (y.map u8v).toArray 36)) w2.heap.size (y.map u8v) 36 := Blk.mk_alloc rfl rfl
      have e3 : Ext wr (w2.alloc (.cells (y.map u8v).toArray 36)) := e2.alloc _
      have O3 := hid (ownsRow_ext O1.out e3)
      have E3 := hid (E1.out.ext e3)
      have ZB := hid zB
      have hb3 : w.heap.size ≤ (w2.alloc (.cells (y.map u8v).toArray 36)).heap.size := E3.out.size
      clear e2 e3 zB O1 E1 hck hlf hs
      go_wp2_with (first | (refine wpl_buildRow rfl rfl rfl HY.out ?_) | (at_builtin; refine wpl_append_row rfl _ _ rfl w.heap.size rfl rfl O3.out HY.out ZB.out (by omega) hb3 ?_))
      intro v4 w4 own4 g4
      have hv4 := own_block_ge O3.out
      have E4 := hid (E3.out.grown g4 (by intro q hq; exact hv4 _ hq))
      have O4 := hid own4
      clear own4 g4 hv4 O3 E3 ZB
      go_wp2
      go_roundw
      case rel => exact ⟨k + 1, by omega, by go_num, by rw [HN.out]; exact O4.out, E4.out⟩
      case measure => simp [intOf]; omega
    · obtain rfl : k = M := by omega
      have hfin : leavesL (its.take k) = leavesL its := by
        unfold leavesL
        rw [List.take_take, ← HM.out, HL.out.symm]
        congr 1
        rcases Nat.le_total its.length 40 with h | h
        · rw [Nat.min_eq_left h, Nat.min_eq_right h, List.take_of_length_le (Nat.le_refl _), List.take_of_length_le h]
        · rw [Nat.min_eq_right h, Nat.min_self]
      have own := O1.out
      rw [hfin] at own
      have O2 := hid own
      clear own O1 hfin
      go_wp2
      go_ret
      exact ⟨_, rfl, O2.out, E1.out⟩
end

section
open Go Go.RowKit

set_option maxHeartbeats 400000 in
theorem listFault_c (a : Option Addr) (n c : Nat) (w : World) (hn : n ≤ 65536) :
    Calls Try.prog 45 #[.slice a n c] w fun e w' => e = .returned (.int .i64 (if n = 0 then 10 else 0)) ∧ w = w' := by
  by_cases h : n = 0
  · subst h
    go_enter Try.func45, Try.ntmps45
    go_wp2
    go_ret
    exact ⟨rfl, rfl⟩
  · rw [if_neg h]
    have d1 : ((n : Int) == 0) = false := by simp; omega
    have d2 : (n == 0) = false := by simp [h]
    have d3 : decide (65536 < n) = false := decide_eq_false (by omega)
    have d4 : decide ((65536 : Int) < (n : Int)) = false := decide_eq_false (by omega)
    go_enter Try.func45, Try.ntmps45
    go_wp2
    go_ret
    exact ⟨rfl, rfl⟩

def rootV (ls : List (List UInt8)) : List UInt8 × Int := if ls.length = 0 then (zero32, 10) else (rootS nodeL ls, 0)

set_option maxRecDepth 100000 in
set_option maxHeartbeats 1000000 in
theorem root_c (ls : List (List UInt8)) (a : Option Addr) (n c : Nat) (w : World) (hl : ls.length = n) (hn : n ≤ 65536) (h32 : All32 ls) (hnc : n ≤ c) (hc63 : c ≤ 9223372036854775807) (hcl : Cells w a (rows ls)) :
    Calls Try.prog 18 #[.slice a n c] w fun e w' => e = .returned (sumErr (rootV ls)) ∧ Ext w w' := by
  have hf := hid (fun w => listFault_c a n c w hn)
  obtain ⟨V, hV⟩ : ∃ V, rootV ls = V := ⟨_, rfl⟩
  rw [hV]
  unfold rootV at hV
  rw [hl] at hV
  by_cases h0 : n = 0
  · rw [if_pos h0] at hV
    rw [if_pos h0] at hf
    subst hV
    clear hcl h32 hl
    subst h0
    go_enter Try.func18, Try.ntmps18
    go_upto_region 1 with (fail)
    generalize hwA : World.alloc w _ = wA
    have zA : Blk wA w.heap.size (List.replicate 32 (.int .u8 0)) 36 := by rw [← hwA]; exact Blk.mk_alloc rfl rfl
    have eA : Ext w wA := by rw [← hwA]; exact (Ext.refl w).alloc _
    clear hwA
    have ZA := hid zA
    have EA := hid eA
    clear zA eA
    go_wp2_with (first | (go_at_call 45; refine (hf.out _).mono ?_; rintro e w' ⟨rfl, rfl⟩) | (refine wpl_storew rfl _ _ _ rfl rfl rfl ZA.out agg_apisum (by simp) (xs := List.replicate 32 (.int .u8 0)) (by simp) (one_zeros 32) ?_))
    intro w4 b4 u4
    go_wp2
    refine ret_row2 rfl rfl b4 agg_apisum (by simp) rfl ⟨by unfold sumErr; rw [zero32_map]; rfl, u4.ext EA.out (Nat.le_refl _)⟩
  · rw [if_neg h0] at hV
    rw [if_neg h0] at hf
    have hr := hid (fun w' hc' => rootOf_c n ls c a w' hl (by omega) hn h32 hnc hc63 hc')
    have hrl := rootS_length nodeL nodeL_length h32
    generalize rootS nodeL ls = p at *
    have HP : Hid ((p.map u8v).length = 32) := hid (by rw [List.length_map, hrl])
    have op := one_u8 p
    have HC := hid hcl
    subst hV
    clear hcl h32 hl hrl
    go_enter Try.func18, Try.ntmps18
    go_upto_region 1 with (fail)
    generalize hwA : World.alloc w _ = wA
    have zA : Blk wA w.heap.size (List.replicate 32 (.int .u8 0)) 36 := by rw [← hwA]; exact Blk.mk_alloc rfl rfl
    have eA : Ext w wA := by rw [← hwA]; exact (Ext.refl w).alloc _
    clear hwA
    have ZA := hid zA
    have EA := hid eA
    clear zA eA
    go_wp2_with (first | (go_at_call 45; refine (hf.out _).mono ?_; rintro e w' ⟨rfl, rfl⟩))
    refine (hr.out wA (HC.out.ext EA.out)).mono ?_
    rintro e w1 ⟨rfl, e1⟩
    have Z1 := hid (ZA.out.ext e1)
    have E1 := hid (EA.out.ext e1)
    clear e1 ZA EA
    go_wp2_with (refine wpl_storew rfl _ _ _ rfl rfl rfl Z1.out agg_apisum (by simp) HP.out op ?_)
    intro w4 b4 u4
    go_wp2
    refine ret_row2 rfl rfl b4 agg_apisum HP.out rfl ⟨rfl, u4.ext E1.out (Nat.le_refl _)⟩
end

section
open Go Go.RowKit

theorem exec_cmp {P : Program} {o : Oper} {a : Act} {op : BinOp} {t u : TypeId} {x y : Operand} (ho : o.op = .binOp op t x y u) {xs ys : Array Value} {b : Value} (hx : a.eval x = .agg xs) (hy : a.eval y = .agg ys)
    (hg : P.eqGuardType P.depth t = false) (hr : ∀ w, (binOp op t (.agg xs) (.agg ys)).run P w = .ok b w) (w : World) : (execOp a.eval o).run P w = .ok (.value b) w := by
  unfold execOp
  simp only [ho, hx, hy, Sem.run_bind, run_eqGuard_agg w op t x y xs ys hg, Result.andThen_ok, hr, Sem.run_pure]

set_option maxRecDepth 100000 in
set_option maxHeartbeats 1000000 in
theorem rootsMatch_c (its : List Item) (a : Option Addr) (n c : Nat) (x y : List UInt8) (w : World) (hx : x.length = 32) (hy : y.length = 32) (hl : its.length = n) (hnc : n ≤ c) (hcl : Cells w a (its.map itemV))
    (hits : ∀ it ∈ its, Cells w it.1 (it.2.2.map u8v) ∧ (it.1 = none → it.2.1 = 0) ∧ it.2.2.length ≤ it.2.1 ∧ it.2.1 ≤ 140737488351232) :
    Calls Try.prog 4 #[.slice a n c, .agg (x.map u8v).toArray, .agg (y.map u8v).toArray] w fun e w' => e = .returned (.bool true) ∧ Ext w w' := by
  have HX : Hid ((x.map u8v).length = 32) := hid (by rw [List.length_map, hx])
  have HY : Hid ((y.map u8v).length = 32) := hid (by rw [List.length_map, hy])
  have N1 := hid (fun w' => node_c x y w' hx hy)
  have N2 := hid (fun w' => rnode_c x y w' hx hy)
  have HZN := hid (nodeL_length x y)
  generalize nodeL x y = xy at *
  have HNE := hid (fun w => eq_self Try.underlying36 xy HZN.out w)
  have HL := hid hl
  have HC := hid hcl
  have HI := hid hits
  have hlv := hid (fun w' h1 h2 => leaves_c its a n c w' hl hnc h1 h2)
  have hll := leavesL_length its
  rw [hl] at hll
  have HLL := hid hll
  have H32 := hid (leavesL_32 its)
  have hMn : min n 40 ≤ n := by omega
  have hM40 : min n 40 ≤ 40 := by omega
  have hat : ∀ k it, k < min n 40 → its[k]? = some it → (leavesL its)[k]? = some (leafL it.2.2) := by
    intro k it hk hit
    unfold leavesL
    rw [List.getElem?_map, List.getElem?_take_of_lt (by omega), hit]; rfl
  have HAT := hid hat
  clear hx hy hl hcl hits hll hat
  generalize leavesL its = ls at *
  generalize min n 40 = M at *
  go_enter Try.func4, Try.ntmps4
  go_upto_region 1 with (fail)
  generalize hwA : World.alloc (World.alloc w _) _ = wA
  have xA : Blk wA w.heap.size (x.map u8v) 36 := by rw [← hwA]; exact (Blk.mk_alloc rfl rfl).alloc _
  have yA : Blk wA (w.heap.size + 1) (y.map u8v) 36 := by rw [← hwA]; exact Blk.mk_alloc (by simp) rfl
  have eA : Ext w wA := by rw [← hwA]; exact ((Ext.refl w).alloc _).alloc _
  clear hwA
  go_wp2_with fail
  refine (landed_c wA).mono ?_
  rintro e wB ⟨rfl, eB⟩
  have EB := hid (eA.ext eB)
  have XB := hid (xA.ext eB)
  have YB := hid (yA.ext eB)
  clear eB eA xA yA
  go_wp2_with fail
  refine (hlv.out wB (HC.out.ext EB.out) (fun it hit => ⟨(HI.out it hit).1.ext EB.out, (HI.out it hit).2⟩)).mono ?_
  rintro e wC ⟨v, rfl, own, eC⟩
  have EC := hid (EB.out.ext eC)
  have XC := hid (XB.out.ext eC)
  have YC := hid (YB.out.ext eC)
  obtain ⟨av, cv, rfl, hMc, hcm, hav, hcv⟩ := own_sliceT (by omega) own
  have CV := hid hcv
  unfold maxLen at hcm
  clear eC EB XB YB own hlv hcv
  go_wp2
  go_loopw [20] (fun i wr => ∃ k : Nat, k ≤ M ∧ i = .int .i64 (k : Int) ∧ Ext wC wr) (fun i _ => M - (intOf i).toNat)
  case atStart => exact ⟨0, by omega, rfl, Ext.refl _⟩
  case round =>
    obtain ⟨k, hk, rfl, e1⟩ := hrel
    have E1 := hid e1
    clear e1
    by_cases hlt : k < M
    · obtain ⟨it, hit⟩ : ∃ it, its[k]? = some it := ⟨its[k]'(by rw [HL.out]; omega), by simp⟩
      have hlk := HAT.out k it hlt hit
      have EW : Ext w wr := EC.out.ext E1.out
      obtain ⟨b, off, rfl, hcell⟩ := (HC.out.ext EW).some_of (by rw [List.length_map, HL.out]; omega)
      have hck := hcell k (itemV it) (by rw [List.getElem?_map, hit]; rfl)
      obtain ⟨hci, h0, hle, hcap⟩ := HI.out it (List.mem_of_getElem? hit)
      obtain ⟨xi, ci, t⟩ := it
      simp only at hci h0 hle hcap hlk
      unfold itemV at hck
      simp only at hck
      obtain ⟨q, hq⟩ : ∃ q, t.length = q := ⟨_, rfl⟩
      rw [hq] at hck hle
      have hs := hid (fun w' => short_c xi q ci w' hle)
      have htl : (t.take 3000).length = min q 3000 := by rw [List.length_take, hq]; omega
      have hlf := hid (fun w' h => leaf_c (t.take 3000) xi (min q 3000) ci w' htl (by omega) (by omega) (by omega) h0 h)
      rw [show sumL 1 (t.take 3000) = leafL t from rfl] at hlf
      have HZ := hid (leafL_length t)
      have HZV : Hid (((leafL t).map u8v).length = 32) := hid (by rw [List.length_map, leafL_length])
      have oz := one_u8 (leafL t)
      have hct : Cells w xi ((t.take 3000).map u8v) := by rw [List.map_take]; exact hci.take _
      have HCT := hid hct
      have HSE := hid (fun w => show (binOp .neq 36 (.agg ((leafL t).map u8v).toArray) (.agg ((leafL t).map u8v).toArray)).run Try.prog w = .ok (.bool false) w by rw [neq_arr Try.underlying36 _ _ HZ.out HZ.out w]; simp)
      obtain ⟨A, rfl, hca⟩ : ∃ A, av = some A ∧ CellsAt wr (A.add (k * 32)) ((leafL t).map u8v) := by
        cases av with
        | none => rcases CV.out with h | ⟨_, _, h, _⟩
                  · have := rows_length H32.out; rw [h, HLL.out] at this; simp at this; omega
                  · cases h
        | some A => exact ⟨A, rfl, ((CV.out.rowAt H32.out hlk)).ext E1.out⟩
      have HCA := hid hca
      have EW2 := hid EW
      have HCK := hid (fun (w2 : World) (h : Ext wr w2) => show w2.cell? ⟨b, off + k, none⟩ = some (.slice xi q ci) from by
        have hb := block_lt_of_cell hck
        have := h.cell (p := ⟨b, off + k, none⟩) hb
        rw [this]; exact hck)
      clear hct hci htl hq hle hcap h0 hcell hit hlk hck hca EW
      generalize leafL t = z at *
      generalize min q 3000 = q3 at *
      have hkn : k < n := by omega
      go_wp2_with (first | (refine wpl_run rfl (exec_index (i := k) rfl rfl rfl Try.underlying22 size_apisum hlt wr) ?_) | (refine wpl_run rfl (exec_load_at rfl rfl HCA.out agg_apisum HZV.out) ?_) | (refine wpl_storew rfl _ (.tmp 9) _ rfl rfl rfl (Blk.mk_alloc rfl rfl) agg_apisum (by simp) HZV.out oz ?_))
      intro w2 b2 u2
      have e2 : Ext wr w2 := u2.ext ((Ext.refl wr).alloc _) (Nat.le_refl _)
      have hck2 := HCK.out w2 e2
      have E2 := hid e2
      have B2 := hid b2
      clear e2 b2 u2
      go_wp2_with (first | (go_at_call 17; refine (hs.out _).mono ?_; rintro e w' ⟨rfl, rfl⟩))
      refine (hlf.out w2 (HCT.out.ext (EW2.out.ext E2.out))).mono ?_
      rintro e w3 ⟨rfl, e3⟩
      go_wp2_with (first | (refine wpl_storew rfl _ (.tmp 10) _ rfl rfl rfl (Blk.mk_alloc rfl rfl) agg_apisum (by simp) HZV.out oz ?_))
      intro w4 b4 u4
      have e4 : Ext w2 w4 := e3.ext (u4.ext ((Ext.refl w3).alloc _) (Nat.le_refl _))
      have B4 := hid b4
      have B24 := hid (B2.out.ext e4)
      have E4 := hid (E2.out.ext e4)
      clear e3 e4 b4 u4 B2 E2 hck2
      go_wp2_with (first | (refine wpl_loadw rfl 36 (.tmp 10) rfl rfl B4.out agg_apisum HZV.out ?_) | (refine wpl_loadw rfl 36 (.tmp 9) rfl rfl B24.out agg_apisum HZV.out ?_) | (refine wpg_cmp rfl .neq _ _ _ _ rfl rfl rfl guard_sum HSE.out ?_))
      go_roundw
      case rel => exact ⟨k + 1, by omega, by go_num, E1.out.ext E4.out⟩
      case measure => simp [intOf]; omega
    · obtain rfl : k = M := by omega
      have EW := hid (EC.out.ext E1.out)
      have XD := hid (XC.out.ext E1.out)
      have YD := hid (YC.out.ext E1.out)
      have CD := hid (CV.out.ext E1.out)
      have hrt := hid (fun w' h => root_c ls av k cv w' HLL.out (by omega) H32.out hMc (by omega) h)
      unfold rootV at hrt
      rw [HLL.out] at hrt
      clear HC HI HAT XC YC EC CV E1
      by_cases hk0 : k = 0
      · subst hk0
        rw [if_pos rfl] at hrt
        unfold sumErr at hrt
        simp only at hrt
        have hzz : ∀ w, (binOp .eql 36 (.agg (zero32.map u8v).toArray) (.agg (List.replicate 32 (.int .u8 0)).toArray)).run Try.prog w = .ok (.bool true) w := fun w => by
          have := eq_self Try.underlying36 zero32 zero32_length w
          rw [zero32_map] at this ⊢
          exact this
        have HZZ := hid hzz
        have HZV : Hid ((zero32.map u8v).length = 32) := hid (by rw [List.length_map, zero32_length])
        have oz := one_u8 zero32
        clear hzz
        generalize zero32.map u8v = zv at *
        go_wp2_with fail
        refine (hrt.out wr CD.out).mono ?_
        rintro e w3 ⟨rfl, e3⟩
        go_wp2_with (first | (refine wpl_storew rfl _ (.tmp 12) _ rfl rfl rfl (Blk.mk_alloc rfl rfl) agg_apisum (by simp) HZV.out oz ?_))
        intro w4 b4 u4
        have E4 := hid (EW.out.ext (e3.ext (u4.ext ((Ext.refl w3).alloc _) (Nat.le_refl _))))
        have B4 := hid b4
        clear e3 b4 u4
        go_wp2_with (first | (refine wpg_loadw rfl 36 (.tmp 12) rfl rfl B4.out agg_apisum HZV.out ?_) | (refine wpg_cmp rfl .eql _ _ _ _ rfl rfl rfl guard_sum HZZ.out ?_))
        go_ret
        exact ⟨rfl, E4.out⟩
      · rw [if_neg hk0] at hrt
        unfold sumErr at hrt
        simp only at hrt
        have hrr := hid (fun w' h => rroot_c k ls cv av w' HLL.out (by omega) (by omega) H32.out hMc (by omega) h)
        have hpl := rootS_length nodeL nodeL_length H32.out
        generalize rootS nodeL ls = p at *
        have HPL := hid hpl
        have HPE := hid (fun w => eq_self Try.underlying36 p HPL.out w)
        have HPV : Hid ((p.map u8v).length = 32) := hid (by rw [List.length_map, hpl])
        have op := one_u8 p
        have d1 : ((k : Int) == 0) = false := by simp; omega
        have d2 : (k == 0) = false := by simp [hk0]
        clear hpl hk0
        go_wp2_with fail
        refine (hrt.out wr CD.out).mono ?_
        rintro e w3 ⟨rfl, e3⟩
        go_wp2_with (first | (refine wpl_storew rfl _ (.tmp 12) _ rfl rfl rfl (Blk.mk_alloc rfl rfl) agg_apisum (by simp) HPV.out op ?_))
        intro w4 b4 u4
        have e4 : Ext wr w4 := e3.ext (u4.ext ((Ext.refl w3).alloc _) (Nat.le_refl _))
        have E4 := hid (EW.out.ext e4)
        have X4 := hid (XD.out.ext e4)
        have Y4 := hid (YD.out.ext e4)
        have C4 := hid (CD.out.ext e4)
        have B4 := hid b4
        have hg := e3.size
        have hgw := EW.out.size
        clear e3 e4 b4 u4 XD YD CD EW hrt
        generalize w3.heap.size = g12 at *
        go_wp2
        obtain ⟨C, hC⟩ : ∃ C : World → Prop, C = Cls w4 w4 [w.heap.size, w.heap.size + 1, g12] [] := ⟨_, rfl⟩
        have hC0 : ∀ w', C w' ↔ Cls w4 w4 [w.heap.size, w.heap.size + 1, g12] [] w' := fun w' => by rw [hC]
        clear hC
        have HCC := hid hC0
        clear hC0
        have hCx : ∀ w w', C w → Ext w w' → C w' := fun w w' h1 h2 => (HCC.out w').2 (((HCC.out w).1 h1).ext h2)
        have hCA : C w4 := (HCC.out _).2 (Cls.no_room (Ext.refl _) (Kept.three X4.out.lt Y4.out.lt B4.out.lt))
        have hs1 : ∀ w1, C w1 → Blk w1 w.heap.size (x.map u8v) 36 := fun w1 h1 => ((HCC.out w1).1 h1).blk X4.out (by simp)
        have hs2 : ∀ w1, C w1 → Blk w1 (w.heap.size + 1) (y.map u8v) 36 := fun w1 h1 => ((HCC.out w1).1 h1).blk Y4.out (by simp)
        have hs3 : ∀ w1, C w1 → Blk w1 g12 (p.map u8v) 36 := fun w1 h1 => ((HCC.out w1).1 h1).blk B4.out (by simp)
        refine wp_region_held_drew (S := C) (by kernel_rfl) (hCx _ _ hCA (Ext.refl _).drew) (fun hS0 => ?_)
        refine held_take 0 (v := ?tv1) rfl (by kernel_rfl) (by kernel_rfl) (by kernel_rfl) (fun _ _ _ h => h) (.inl ⟨rfl, ?ty1⟩) hS0 ?tr1
        case ty1 => (intro _ _; go_simp; try with_reducible rfl)
        case tr1 =>
        simp only [Act.put, List.setIfInBounds_toArray, List.set_cons_succ, List.set_cons_zero]
        refine held_take 1 (v := ?tv2) rfl (by kernel_rfl) (by kernel_rfl) (by kernel_rfl) (fun _ _ _ h => h) (.inl ⟨rfl, ?ty2⟩) hS0 ?tr2
        case ty2 => (intro _ _; go_simp; try with_reducible rfl)
        case tr2 =>
        simp only [Act.put, List.setIfInBounds_toArray, List.set_cons_succ, List.set_cons_zero]
        refine held_take 2 (v := ?tv3) rfl (by kernel_rfl) (by kernel_rfl) (by kernel_rfl) (fun _ _ _ h => h) (.inl ⟨rfl, ?ty3⟩) hS0 ?tr3
        case ty3 => (intro _ _; go_simp; try with_reducible rfl)
        case tr3 =>
        simp only [Act.put, List.setIfInBounds_toArray, List.set_cons_succ, List.set_cons_zero]
        refine held_take 3 (v := _) rfl (by kernel_rfl) (by kernel_rfl) (by kernel_rfl) (fun _ _ _ h => h) (yieldsI_loadw rfl _ _ rfl rfl hs3 agg_apisum HPV.out) hS0 ?_
        simp only [Act.put, List.setIfInBounds_toArray, List.set_cons_succ, List.set_cons_zero]
        refine held_take 4 (v := ?tv4) rfl (by kernel_rfl) (by kernel_rfl) (by kernel_rfl) (fun _ _ _ h => h) (.inl ⟨rfl, ?ty4⟩) hS0 ?tr4
        case ty4 => (intro _ _; go_simp; try with_reducible rfl)
        case tr4 =>
        simp only [Act.put, List.setIfInBounds_toArray, List.set_cons_succ, List.set_cons_zero]
        generalize w4.drew = wD at *
        refine held_one (i := 5) (by kernel_rfl) rfl ?_
        intro Q' hQ
        go_wp2_with fail
        refine (hrr.out wD (C4.out.ext ((HCC.out wD).1 hS0).base)).mono ?_
        rintro e wE ⟨rfl, eE⟩
        have hE := hCx _ _ hS0 eE
        go_wp2_with fail
        refine hQ _ _ hE ?_
        clear hQ Q' hS0 eE hrr
        have hS0 := hE
        clear hE
        try dsimp only
        try simp only [Act.put, List.setIfInBounds_toArray, List.set_cons_succ, List.set_cons_zero]
        refine held_take 6 (v := _) rfl (by kernel_rfl) (by kernel_rfl) (by kernel_rfl) (fun _ _ _ h => h) (yieldsI_run rfl (fun w1 _ => exec_cmp rfl rfl rfl guard_sum HPE.out w1)) hS0 ?_
        simp only [Act.put, List.setIfInBounds_toArray, List.set_cons_succ, List.set_cons_zero]
        refine held_take 7 (v := ?tv5) rfl (by kernel_rfl) (by kernel_rfl) (by kernel_rfl) (fun _ _ _ h => h) (.inl ⟨rfl, ?ty5⟩) hS0 ?tr5
        case ty5 => (intro _ _; go_simp; try with_reducible rfl)
        case tr5 =>
        simp only [Act.put, List.setIfInBounds_toArray, List.set_cons_succ, List.set_cons_zero]
        refine held_take 8 (v := ?tv6) rfl (by kernel_rfl) (by kernel_rfl) (by kernel_rfl) (fun _ _ _ h => h) (.inl ⟨rfl, ?ty6⟩) hS0 ?tr6
        case ty6 => (intro _ _; go_simp; try with_reducible rfl)
        case tr6 =>
        simp only [Act.put, List.setIfInBounds_toArray, List.set_cons_succ, List.set_cons_zero]
        refine held_take 9 (v := _) rfl (by kernel_rfl) (by kernel_rfl) (by kernel_rfl) (fun _ _ _ h => h) (yieldsI_loadw rfl _ _ rfl rfl hs1 agg_apisum HX.out) hS0 ?_
        simp only [Act.put, List.setIfInBounds_toArray, List.set_cons_succ, List.set_cons_zero]
        refine held_take 10 (v := _) rfl (by kernel_rfl) (by kernel_rfl) (by kernel_rfl) (fun _ _ _ h => h) (yieldsI_loadw rfl _ _ rfl rfl hs2 agg_apisum HY.out) hS0 ?_
        simp only [Act.put, List.setIfInBounds_toArray, List.set_cons_succ, List.set_cons_zero]
        refine held_take 12 (v := _) rfl (by kernel_rfl) (by kernel_rfl) (by kernel_rfl) (fun _ _ _ h => h) (yieldsI_loadw rfl _ _ rfl rfl hs1 agg_apisum HX.out) hS0 ?_
        simp only [Act.put, List.setIfInBounds_toArray, List.set_cons_succ, List.set_cons_zero]
        refine held_take 13 (v := _) rfl (by kernel_rfl) (by kernel_rfl) (by kernel_rfl) (fun _ _ _ h => h) (yieldsI_loadw rfl _ _ rfl rfl hs2 agg_apisum HY.out) hS0 ?_
        simp only [Act.put, List.setIfInBounds_toArray, List.set_cons_succ, List.set_cons_zero]
        refine held_one (i := 11) (by kernel_rfl) rfl ?_
        intro Q' hQ
        go_wp2_with fail
        refine (N1.out wE).mono ?_
        rintro e wF ⟨rfl, eF⟩
        have hF := hCx _ _ hS0 eF
        go_wp2_with fail
        refine hQ _ _ hF ?_
        clear hQ Q' hS0 eF
        try dsimp only
        try simp only [Act.put, List.setIfInBounds_toArray, List.set_cons_succ, List.set_cons_zero]
        refine held_one (i := 14) (by kernel_rfl) rfl ?_
        intro Q' hQ
        go_wp2_with fail
        refine (N2.out wF).mono ?_
        rintro e wG ⟨rfl, eG⟩
        have hS0 := hCx _ _ hF eG
        go_wp2_with fail
        refine hQ _ _ hS0 ?_
        clear hQ Q' hF eG
        try dsimp only
        try simp only [Act.put, List.setIfInBounds_toArray, List.set_cons_succ, List.set_cons_zero]
        refine held_take 15 (v := _) rfl (by kernel_rfl) (by kernel_rfl) (by kernel_rfl) (fun _ _ _ h => h) (yieldsI_run rfl (fun w1 _ => exec_cmp rfl rfl rfl guard_sum HNE.out w1)) hS0 ?_
        simp only [Act.put, List.setIfInBounds_toArray, List.set_cons_succ, List.set_cons_zero]
        refine held_take 16 (v := ?tv7) rfl (by kernel_rfl) (by kernel_rfl) (by kernel_rfl) (fun _ _ _ h => h) (.inl ⟨rfl, ?ty7⟩) hS0 ?tr7
        case ty7 => (intro _ _; go_simp; try with_reducible rfl)
        case tr7 =>
        simp only [Act.put, List.setIfInBounds_toArray, List.set_cons_succ, List.set_cons_zero]
        refine held_one (i := 17) (by kernel_rfl) rfl ?_
        intro Q' hQ
        go_wp2_with fail
        refine hQ _ _ hS0 ?_
        clear hQ Q'
        have EG := hid (E4.out.ext ((HCC.out wG).1 hS0).base)
        refine wpAnyH_done (by kernel_rfl) ?_ _
        go_wp2
        go_ret
        exact ⟨rfl, EG.out⟩
end

section
open Go Go.RowKit Go.ChangeShapes Go.WideShapes Go.ChangeAt Go.Deep

theorem cells?_at {w : World} {base : Nat} {p : Addr} {k : Nat} {cs : List Value} (h : w.cells? base p k = some cs) : cs.length = k ∧ CellsAt w p cs := by
  unfold World.cells? at h
  split at h
  · refine ⟨by simpa using mapM_some_length h, fun j u hu => ?_⟩
    have hj : j < k := by
      have h1 := (List.getElem?_eq_some_iff.1 hu).1
      have h2 := mapM_some_length h
      simp at h2; omega
    have := mapM_some_get h j j (by simp [hj])
    rw [hu] at this
    exact this
  · cases h

section
variable {H : Type} {enc : TypeId × Value → H} {P : Program} {w : World}
theorem octets_of_trod {base : Nat} {sp : Nat → Bool} {held : Bool} {t e : TypeId} {n f : Nat} {cs : List Value} {x : DataW H × List MemPlace} (ht : P.underlying t = some (.array n e)) (he : P.underlying e = some (.int .u8)) (hce : P.cellsOf e = 1) (hct : P.cellsOf t = n)
    (hf : DataW.trod enc P w base sp held f t cs = some x) : ∃ l : List UInt8, l.length = n ∧ cs = l.map u8v := by
  obtain ⟨xs, m, _, _, hlen, hxl, hel⟩ := DataW.trod_array ht hf
  have hcl : cs.length = n := by rw [hlen, hct]
  obtain ⟨l, hl⟩ := u8s_of cs fun i u hu => by
    have hi : i < n := by
      have := (List.getElem?_eq_some_iff.1 hu).1
      omega
    have h1 := hel i hi
    rw [hce, Nat.mul_one] at h1
    have hx : xs[i]? = some xs[i] := by simp
    have h2 : (cs.drop i).take 1 = [u] := by
      have h3 := List.getElem?_drop (xs := cs) (i := i) (j := 0)
      rw [Nat.add_zero, hu] at h3
      cases hd : cs.drop i with
      | nil => rw [hd] at h3; simp at h3
      | cons y r => rw [hd] at h3; simp at h3; simp [h3]
    have h4 : DataW.trod enc P w base sp held m e [u] = some xs[i] := by
      rw [← h2, ← hx]; exact h1
    obtain ⟨k, hk, _, hw⟩ := DataW.trod_int he h4
    have hu' : u = .int .u8 k := by simpa using hk
    rw [hu']; exact u8_of hw
  refine ⟨l, ?_, hl⟩
  have := congrArg List.length hl
  rw [hcl, List.length_map] at this; exact this.symm

/-- a slice of rows, its cell read -/
theorem sums_of_trod {base f : Nat} {held : Bool} {t e q : TypeId} {cs : List Value} {x : DataW H × List MemPlace} (ht : P.underlying t = some (.slice e)) (he : P.underlying e = some (.array 32 q)) (hq : P.underlying q = some (.int .u8)) (cq : P.cellsOf q = 1) (ce : P.cellsOf e = 32)
    (hf : DataW.trod enc P w base (fun _ => true) held f t cs = some x) :
    ∃ (a : Option Addr) (n c : Nat) (ls : List (List UInt8)) (es sp : List (DataW H)), cs = [.slice a n c] ∧ ls.length = n ∧ All32 ls ∧ n ≤ c ∧ c ≤ maxLen ∧ (a = none → c = 0) ∧ Cells w a (rows ls) ∧ ((x.1 = .nil ∧ c = 0) ∨ (x.1 = .slice es sp ∧ es.length + sp.length = c)) := by
  rcases DataW.trod_slice ht hf with ⟨h0, h1⟩ | ⟨a, len, cap, elems, rest, n, _, rfl, rfl, hb, hl, hm, hlen, hel, hsp, hns⟩
  · exact ⟨none, 0, 0, [], [], [], h0, rfl, All32.nil, Nat.le_refl _, Nat.zero_le _, fun _ => rfl, .inl rfl, .inl ⟨by rw [h1], rfl⟩⟩
  · have each : ∀ i, i < len → ∃ l : List UInt8, l.length = 32 ∧ CellsAt w (a.add (i * 32)) (l.map u8v) := by
      intro i hi
      have h1 := hel i hi
      have hx : elems[i]? = some (elems[i]'(by omega)) := by simp
      rw [ce, hx, Option.bind_eq_some_iff] at h1
      obtain ⟨cs', hcs, hy⟩ := h1
      obtain ⟨l, hl1, rfl⟩ := octets_of_trod he hq cq ce hy
      exact ⟨l, hl1, (cells?_at hcs).2⟩
    obtain ⟨g, hg⟩ := choose_lt each
    have h32 : All32 ((List.range len).map g) := fun l hl => by
      obtain ⟨i, hi, rfl⟩ := List.mem_map.1 hl
      exact (hg i (List.mem_range.1 hi)).1
    obtain ⟨hrl, _⟩ := hsp rfl
    refine ⟨some a, len, cap, (List.range len).map g, _, _, rfl, by simp, h32, hl, hm, (fun h => by cases h), ?_, .inr ⟨rfl, by simp; omega⟩⟩
    by_cases h0 : len = 0
    · left; subst h0; rfl
    · obtain ⟨hl0, hc0⟩ := hg 0 (by omega)
      obtain ⟨b, off, spot⟩ := a
      have hspot : spot = none := by
        have := hc0 0 (u8v ((g 0)[0]'(by omega))) (by simp [hl0])
        simpa [Addr.add] using World.cell?_spot this
      subst hspot
      refine .inr ⟨b, off, rfl, fun i u hu => ?_⟩
      have hi : i < 32 * len := by
        have := (List.getElem?_eq_some_iff.1 hu).1
        rw [rows_length h32] at this; simpa using this
      obtain ⟨_, hcr⟩ := hg (i / 32) (by omega)
      have hrow : ((List.range len).map g)[i / 32]? = some (g (i / 32)) := by
        rw [List.getElem?_map, List.getElem?_range (by omega)]; rfl
      have h2 := rows_at h32 hrow
      have h3 : ((g (i / 32)).map u8v)[i % 32]? = some u := by
        rw [← h2, List.getElem?_take_of_lt (Nat.mod_lt _ (by omega)), List.getElem?_drop, Nat.div_add_mod]; exact hu
      have h4 := hcr _ _ h3
      rw [addr_add, addr_add] at h4
      rw [show off + i / 32 * 32 + i % 32 = off + i by omega] at h4
      exact h4

/-- a struct of two ints and a slice of rows -/
theorem open_proof {r : Reach} {b0 base : Nat} {held : Bool} {t e q : TypeId} {f0 f1 f2 : Field} {v : Value} {d : DataW H} {ps : List MemPlace} (ht : P.underlying t = some (.struct #[f0, f1, f2])) (h0 : P.underlying f0.type = some (.int .i64)) (h1 : P.underlying f1.type = some (.int .i64))
    (h2 : P.underlying f2.type = some (.slice e)) (he : P.underlying e = some (.array 32 q)) (hq : P.underlying q = some (.int .u8)) (cq : P.cellsOf q = 1) (ce : P.cellsOf e = 32) (c0 : P.cellsOf f0.type = 1) (c1 : P.cellsOf f1.type = 1) (c2 : P.cellsOf f2.type = 1) (ct : P.cellsOf t = 3)
    (o0 : f0.offset = 0) (o1 : f1.offset = 1) (o2 : f2.offset = 2)
    (hval : Value.okWide P w r b0 t v) (hd : DataW.Trod enc P w base (fun _ => true) held t v d ps) :
    ∃ (I Z : Int) (a : Option Addr) (n c : Nat) (ls : List (List UInt8)), v = .agg #[.int .i64 I, .int .i64 Z, .slice a n c] ∧ ls.length = n ∧ All32 ls ∧ n ≤ c ∧ c ≤ maxLen ∧ (a = none → c = 0) ∧ Cells w a (rows ls) ∧
      ∃ (D : DataW H) (es sp : List (DataW H)), d = .agg [.lit (.int .i64 I), .lit (.int .i64 Z), D] ∧ ((D = .nil ∧ c = 0) ∨ (D = .slice es sp ∧ es.length + sp.length = c)) ∧ (Lit.int .i64 I).wf = true ∧ (Lit.int .i64 Z).wf = true := by
  obtain ⟨cs, rfl, hs⟩ := okWide_struct ht hval
  obtain ⟨fuel, hf⟩ := hd
  obtain ⟨y0, y1, y2, m, hx, hl, g0, g1, g2⟩ := trod_struct3 ht hf
  rw [c0, o0] at g0
  rw [c1, o1] at g1
  rw [c2, o2] at g2
  obtain ⟨I, hI, hI2, wI⟩ := DataW.trod_int h0 g0
  obtain ⟨Z, hZ, hZ2, wZ⟩ := DataW.trod_int h1 g1
  obtain ⟨a, n, c, ls, es, sp, hsl, hln, h32, hnc, hcm, hnil, hcl, hdd⟩ := sums_of_trod h2 he hq cq ce g2
  have hcs : cs = #[.int .i64 I, .int .i64 Z, .slice a n c] := by
    have hsz : cs.size = 3 := by rw [hs, ct]
    obtain ⟨l⟩ := cs
    match l, hsz with
    | [p0, p1, p2], _ =>
      simp [Value.cells] at hI hZ hsl
      rw [hI, hZ, hsl]
  refine ⟨I, Z, a, n, c, ls, by rw [hcs], hln, h32, hnc, hcm, hnil, hcl, y2.1, es, sp, ?_, hdd, wI, wZ⟩
  simp only [Prod.mk.injEq] at hx
  rw [hx.1, hI2, hZ2]
end
end
end Go.Proofs.Ytfiigjdiohmkmaa
