/- Contracts and laws that the claim's row leans on (21 texts, joined): The law RawGrowth, walked; conditions: the rows' lengths. Plain law of a list's root; no condition. rootOf: the root of a list that is not empty; conditions: the list's size, the rows' lengths. The reference's Root: the root of a list that is not empty; conditions: the list's size, the rows' lengths. Readings of arguments are opened; no condition. Readings of slices of octets are opened; no condition. Readings of slices of slices of octets are opened; no condition. The leaves of the beginnings of texts, by the law's helper and by the program; conditions: the sizes. leaves: the leaves of the beginnings of at most forty texts; conditions: the sizes. tree.Root; conditions: the list's size, the rows' lengths. The law RootsMatch, walked; conditions: the sizes. proofFault and PrintProof; conditions: the rows' lengths. The reference's PrintProof; conditions: the rows' lengths. slices.Equal at octets and at sums, sameProof; conditions: the lengths. slices.Equal at octets; conditions: the lengths. sameProof of two proofs that hold the same; conditions: the lengths. Plain law of parsing a proof; steps on parts of octets; no condition. ParseProof; conditions: the slice's size. keyref1.number; conditions: the slice's size. Plain laws of the reference's ParseProof; a step on a slice's head; no condition. The reference's ParseProof; conditions: the slice's size. -/
import Derived.Test.YtfiigjdiohmkmaaJ3
import Derived.ProofKit
import Derived.OpenShut
import Derived.ChangeSlices
import Derived.WideShapes
import Derived.SizedLaws
import Derived.Deep.Matrix
import Derived.Great.BuildSlice
namespace Go.Proofs.Ytfiigjdiohmkmaa
section
open Go Go.RowKit

set_option maxRecDepth 100000 in
set_option maxHeartbeats 1000000 in
theorem rawGrowth_c (x y : List UInt8) (I Z : Int) (ls : List (List UInt8)) (m c : Nat) (a : Option Addr) (w : World) (hx : x.length = 32) (hy : y.length = 32) (h32 : All32 ls) (hm : ls.length = m) (hmc : m ≤ c) (hc63 : c ≤ 9223372036854775807) (hcl : Cells w a (rows ls)) :
    Calls Try.prog 6 #[.agg (x.map u8v).toArray, .agg (y.map u8v).toArray, .agg #[.int .i64 I, .int .i64 Z, .slice a m c]] w fun e w' => e = .returned (.bool true) ∧ Ext w w' := by
  have HX : Hid ((x.map u8v).length = 32) := hid (by rw [List.length_map, hx])
  have HY : Hid ((y.map u8v).length = 32) := hid (by rw [List.length_map, hy])
  have hg1 := hid (fun w' h => grown_c x y I Z ls m c a w' hx hy h32 hm hmc hc63 h)
  have hg2 := hid (fun w' h => rgrown_c x y I Z ls m c a w' hx hy h32 hm hmc hc63 h)
  generalize grownL x y I Z ls = V at *
  have HC := hid hcl
  clear hx hy h32 hm hcl
  go_enter Try.func6, Try.ntmps6
  go_upto_region 1 with (fail)
  generalize hwA : World.alloc (World.alloc (World.alloc w _) _) _ = wA
  have xA : Blk wA w.heap.size (x.map u8v) 36 := by rw [← hwA]; exact ((Blk.mk_alloc rfl rfl).alloc _).alloc _
  have yA : Blk wA (w.heap.size + 1) (y.map u8v) 36 := by rw [← hwA]; exact (Blk.mk_alloc (by simp) rfl).alloc _
  have pA : Blk wA (w.heap.size + 2) [.int .i64 I, .int .i64 Z, .slice a m c] 24 := by rw [← hwA]; exact Blk.mk_alloc (by simp) rfl
  have eA : Ext w wA := by rw [← hwA]; exact ((((Ext.refl w).alloc _).alloc _).alloc _)
  clear hwA
  go_wp2_with fail
  refine (landed_c wA).mono ?_
  rintro e wB ⟨rfl, eB⟩
  have XB := hid (xA.ext eB)
  have YB := hid (yA.ext eB)
  have PB := hid (pA.ext eB)
  have EB := hid (eA.ext eB)
  clear eB xA yA pA eA
  go_wp2
  obtain ⟨C, hC⟩ : ∃ C : World → Prop, C = Cls w wB [w.heap.size, w.heap.size + 1, w.heap.size + 2] [] := ⟨_, rfl⟩
  have hC0 : ∀ w', C w' ↔ Cls w wB [w.heap.size, w.heap.size + 1, w.heap.size + 2] [] w' := fun w' => by rw [hC]
  clear hC
  have HCC := hid hC0
  clear hC0
  have hCx : ∀ w w', C w → Ext w w' → C w' := fun w w' h1 h2 => (HCC.out w').2 (((HCC.out w).1 h1).ext h2)
  have hCA : C wB := (HCC.out _).2 (Cls.no_room EB.out (Kept.three XB.out.lt YB.out.lt PB.out.lt))
  have hs1 : ∀ w1, C w1 → Blk w1 w.heap.size (x.map u8v) 36 := fun w1 h1 => ((HCC.out w1).1 h1).blk XB.out (by simp)
  have hs2 : ∀ w1, C w1 → Blk w1 (w.heap.size + 1) (y.map u8v) 36 := fun w1 h1 => ((HCC.out w1).1 h1).blk YB.out (by simp)
  have hs3 : ∀ w1, C w1 → Blk w1 (w.heap.size + 2) [.int .i64 I, .int .i64 Z, .slice a m c] 24 := fun w1 h1 => ((HCC.out w1).1 h1).blk PB.out (by simp)
  refine wp_region_held_drew (S := C) (by kernel_rfl) (hCx _ _ hCA (Ext.refl _).drew) (fun hS0 => ?_)
  refine held_take 0 (v := _) rfl (by kernel_rfl) (by kernel_rfl) (by kernel_rfl) (fun _ _ _ h => h) (yieldsI_loadw rfl _ _ rfl rfl hs1 agg_apisum HX.out) hS0 ?_
  simp only [Act.put, List.setIfInBounds_toArray, List.set_cons_succ, List.set_cons_zero]
  refine held_take 1 (v := _) rfl (by kernel_rfl) (by kernel_rfl) (by kernel_rfl) (fun _ _ _ h => h) (yieldsI_loadw rfl _ _ rfl rfl hs2 agg_apisum HY.out) hS0 ?_
  simp only [Act.put, List.setIfInBounds_toArray, List.set_cons_succ, List.set_cons_zero]
  refine held_take 2 (v := _) rfl (by kernel_rfl) (by kernel_rfl) (by kernel_rfl) (fun _ _ _ h => h) (yieldsI_loadw rfl _ _ rfl rfl hs3 agg_proof rfl) hS0 ?_
  simp only [Act.put, List.setIfInBounds_toArray, List.set_cons_succ, List.set_cons_zero]
  refine held_take 4 (v := _) rfl (by kernel_rfl) (by kernel_rfl) (by kernel_rfl) (fun _ _ _ h => h) (yieldsI_loadw rfl _ _ rfl rfl hs1 agg_apisum HX.out) hS0 ?_
  simp only [Act.put, List.setIfInBounds_toArray, List.set_cons_succ, List.set_cons_zero]
  refine held_take 5 (v := _) rfl (by kernel_rfl) (by kernel_rfl) (by kernel_rfl) (fun _ _ _ h => h) (yieldsI_loadw rfl _ _ rfl rfl hs2 agg_apisum HY.out) hS0 ?_
  simp only [Act.put, List.setIfInBounds_toArray, List.set_cons_succ, List.set_cons_zero]
  refine held_take 6 (v := _) rfl (by kernel_rfl) (by kernel_rfl) (by kernel_rfl) (fun _ _ _ h => h) (yieldsI_loadw rfl _ _ rfl rfl hs3 agg_proof rfl) hS0 ?_
  simp only [Act.put, List.setIfInBounds_toArray, List.set_cons_succ, List.set_cons_zero]
  generalize wB.drew = wD at *
  refine held_one (i := 3) (by kernel_rfl) rfl ?_
  intro Q' hQ
  go_wp2_with fail
  refine (hg1.out wD (HC.out.ext ((HCC.out wD).1 hS0).base)).mono ?_
  rintro e wE ⟨rfl, eE⟩
  have hE := hCx _ _ hS0 eE
  go_wp2_with fail
  refine hQ _ _ hE ?_
  clear hQ Q' hS0 eE
  try dsimp only
  try simp only [Act.put, List.setIfInBounds_toArray, List.set_cons_succ, List.set_cons_zero]
  refine held_one (i := 7) (by kernel_rfl) rfl ?_
  intro Q' hQ
  go_wp2_with fail
  refine (hg2.out wE (HC.out.ext ((HCC.out wE).1 hE).base)).mono ?_
  rintro e wF ⟨rfl, eF⟩
  have hS0 := hCx _ _ hE eF
  go_wp2_with fail
  refine hQ _ _ hS0 ?_
  clear hQ Q' hE eF
  have hVV : (V == V) = true := by simp
  try dsimp only
  try simp only [Act.put, List.setIfInBounds_toArray, List.set_cons_succ, List.set_cons_zero]
  refine held_take 8 (v := ?tv1) rfl (by kernel_rfl) (by kernel_rfl) (by kernel_rfl) (fun _ _ _ h => h) (.inl ⟨rfl, ?ty1⟩) hS0 ?tr1
  case ty1 => (intro _ _; go_simp; try with_reducible rfl)
  case tr1 =>
  simp only [Act.put, List.setIfInBounds_toArray, List.set_cons_succ, List.set_cons_zero]
  refine held_one (i := 9) (by kernel_rfl) rfl ?_
  intro Q' hQ
  go_wp2_with fail
  refine hQ _ _ hS0 ?_
  clear hQ Q'
  refine wpAnyH_done (by kernel_rfl) ?_ _
  have EF := hid ((HCC.out wF).1 hS0).base
  go_wp2
  go_ret
  exact ⟨rfl, EF.out⟩
end

section
open Go Go.RowKit

section
variable (nd : List UInt8 → List UInt8 → List UInt8)
/-- the root of a list of sums -/
def rootS (ls : List (List UInt8)) : List UInt8 :=
  if h : ls.length < 2 then ls.headD zero32 else nd (rootS (ls.take (splitN ls.length))) (rootS (ls.drop (splitN ls.length)))
termination_by ls.length
decreasing_by
  · have := splitN_spec (n := ls.length) (by omega); rw [List.length_take]; omega
  · have := splitN_spec (n := ls.length) (by omega); rw [List.length_drop]; omega
theorem rootS_one (x : List UInt8) : rootS nd [x] = x := by rw [rootS]; simp
theorem rootS_two {ls : List (List UInt8)} (h : 2 ≤ ls.length) : rootS nd ls = nd (rootS nd (ls.take (splitN ls.length))) (rootS nd (ls.drop (splitN ls.length))) := by
  rw [rootS, dif_neg (by omega)]
theorem rootS_length (hnd : ∀ a b, (nd a b).length = 32) {ls : List (List UInt8)} (h : All32 ls) : (rootS nd ls).length = 32 := by
  rcases Nat.lt_or_ge ls.length 2 with h2 | h2
  · rw [rootS, dif_pos h2]
    cases ls with
    | nil => exact zero32_length
    | cons x r => exact h x (by simp)
  · rw [rootS_two nd h2]; exact hnd _ _
end
end

section
open Go Go.RowKit

set_option maxRecDepth 100000 in
set_option maxHeartbeats 2000000 in
theorem rootOf_c : ∀ (n : Nat) (ls : List (List UInt8)) (c : Nat) (a : Option Addr) (w : World), ls.length = n → 1 ≤ n → n ≤ 65536 → All32 ls → n ≤ c → c ≤ 9223372036854775807 → Cells w a (rows ls) →
    Calls Try.prog 46 #[.slice a n c] w fun e w' => e = .returned (.agg ((rootS nodeL ls).map u8v).toArray) ∧ Ext w w' := by
  intro n
  induction n using Nat.strongRecOn with
  | ind n ih =>
  intro ls c a w hl h1 h2 h32 hnc hc63 hcl
  have HIH := hid ih
  clear ih
  by_cases hn : n = 1
  · subst hn
    obtain ⟨y, rfl⟩ := List.length_eq_one_iff.1 hl
    obtain ⟨A, rfl, hca⟩ : ∃ A, a = some A ∧ CellsAt w (A.add (0 * 32)) (y.map u8v) := by
      cases a with
      | none => rcases hcl with h | ⟨_, _, h, _⟩
                · have := rows_length h32; rw [h] at this; simp at this
                · cases h
      | some A => exact ⟨A, rfl, hcl.rowAt h32 rfl⟩
    have hy := h32 y (by simp)
    rw [rootS_one]
    have HCA := hid hca
    have HY : Hid ((y.map u8v).length = 32) := hid (by rw [List.length_map, hy])
    have oy := one_u8 y
    clear HIH hcl h32 hl hca hy
    generalize y.map u8v = yv at *
    go_enter Try.func46, Try.ntmps46
    go_upto_region 1 with (fail)
    generalize hwA : World.alloc w _ = wA
    have zA : Blk wA w.heap.size (List.replicate 32 (.int .u8 0)) 36 := by rw [← hwA]; exact Blk.mk_alloc rfl rfl
    have eA : Ext w wA := by rw [← hwA]; exact (Ext.refl w).alloc _
    clear hwA
    have ZA := hid zA
    have EA := hid eA
    have CA := hid (HCA.out.ext eA)
    clear zA eA
    go_wp2_with (first | (refine wpl_run rfl (exec_index (i := 0) rfl rfl rfl Try.underlying22 size_apisum (by omega) wA) ?_) | (refine wpl_run rfl (exec_load_at rfl rfl CA.out agg_apisum HY.out) ?_) | (refine wpl_storew rfl _ _ _ rfl rfl rfl ZA.out agg_apisum (by simp) HY.out oy ?_))
    intro w4 b4 u4
    go_wp2
    refine ret_row rfl rfl b4 agg_apisum HY.out rfl ⟨rfl, u4.ext EA.out (Nat.le_refl _)⟩
  · have hsp := splitN_spec (n := n) (by omega)
    have hc := hid (fun w => split_c n w (by omega) (by omega))
    have hr := rootS_two nodeL (ls := ls) (by omega)
    rw [hl] at hr
    have hl1 : (ls.take (splitN n)).length = splitN n := by rw [List.length_take]; omega
    have hl2 : (ls.drop (splitN n)).length = n - splitN n := by rw [List.length_drop]; omega
    have ha1 := hid (fun w' hc' => HIH.out (splitN n) (by omega) (ls.take (splitN n)) c a w' hl1 (by omega) (by omega) (h32.take _) (by omega) hc63 hc')
    have ha2 := hid (fun w' hc' => HIH.out (n - splitN n) (by omega) (ls.drop (splitN n)) (c - splitN n) (shiftz a c (splitN n) 32) w' hl2 (by omega) (by omega) (h32.drop _) (by omega) (by omega) hc')
    have hq1 := rootS_length nodeL nodeL_length (h32.take (splitN n))
    have hq2 := rootS_length nodeL nodeL_length (h32.drop (splitN n))
    have hk1 := hcl.rowsTake h32 (splitN n)
    have hk2 := hcl.rowsShift h32 c (splitN n) (by omega)
    rw [hr]
    generalize rootS nodeL (ls.take (splitN n)) = p at *
    generalize rootS nodeL (ls.drop (splitN n)) = q at *
    generalize ls.take (splitN n) = l1 at *
    generalize ls.drop (splitN n) = l2 at *
    generalize splitN n = k at *
    obtain ⟨k1, k2, k3⟩ := hsp
    have HK1 := hid hk1
    have HK2 := hid hk2
    have ND := hid (fun w' => node_c p q w' hq1 hq2)
    have HV : Hid (((nodeL p q).map u8v).length = 32) := hid (by rw [List.length_map, nodeL_length])
    have ov := one_u8 (nodeL p q)
    have d1 : ((n : Int) == 1) = false := by simp; omega
    have d2 : (n == 1) = false := by simp [hn]
    clear HIH hcl h32 hl hr hl1 hl2 hk1 hk2 hq1 hq2
    go_enter Try.func46, Try.ntmps46
    go_upto_region 1 with (fail)
    generalize hwA : World.alloc w _ = wA
    have zA : Blk wA w.heap.size (List.replicate 32 (.int .u8 0)) 36 := by rw [← hwA]; exact Blk.mk_alloc rfl rfl
    have eA : Ext w wA := by rw [← hwA]; exact (Ext.refl w).alloc _
    clear hwA
    have ZA := hid zA
    have EA := hid eA
    clear zA eA
    go_wp2_with (go_at_call 73; refine (hc.out _).mono ?_; rintro e w' ⟨rfl, rfl⟩)
    obtain ⟨C, hC⟩ : ∃ C : World → Prop, C = Cls w wA [] [(w.heap.size, 32, 36)] := ⟨_, rfl⟩
    have hC0 : ∀ w', C w' ↔ Cls w wA [] [(w.heap.size, 32, 36)] w' := fun w' => by rw [hC]
    clear hC
    have HCC := hid hC0
    clear hC0
    have hCx : ∀ w w', C w → Ext w w' → C w' := fun w w' h1 h2 => (HCC.out w').2 (((HCC.out w).1 h1).ext h2)
    have hCA : C wA := (HCC.out _).2 (Cls.one_room EA.out (Kept.none _) ZA.out (by simp))
    refine wp_region_held_drew (S := C) (by kernel_rfl) (hCx _ _ hCA (Ext.refl _).drew) (fun hS0 => ?_)
    refine held_take 0 (v := ?tv1) rfl (by kernel_rfl) (by kernel_rfl) (by kernel_rfl) (fun _ _ _ h => h) (.inl ⟨rfl, ?ty1⟩) hS0 ?tr1
    case ty1 => (intro _ _; go_simp; try with_reducible rfl)
    case tr1 =>
    simp only [Act.put, List.setIfInBounds_toArray, List.set_cons_succ, List.set_cons_zero]
    refine held_take 1 (v := ?tv2) rfl (by kernel_rfl) (by kernel_rfl) (by kernel_rfl) (fun _ _ _ h => h) (.inl ⟨rfl, ?ty2⟩) hS0 ?tr2
    case ty2 => (intro _ _; go_simp; try with_reducible rfl)
    case tr2 =>
    simp only [Act.put, List.setIfInBounds_toArray, List.set_cons_succ, List.set_cons_zero]
    refine held_take 2 (v := _) rfl (by kernel_rfl) (by kernel_rfl) (by kernel_rfl) (fun _ _ _ h => h) (yieldsI_run rfl (fun w1 _ => exec_high (k := k) rfl rfl rfl Try.underlying22 size_apisum (by omega) w1)) hS0 ?_
    simp only [Act.put, List.setIfInBounds_toArray, List.set_cons_succ, List.set_cons_zero]
    refine held_take 4 (v := ?tv3) rfl (by kernel_rfl) (by kernel_rfl) (by kernel_rfl) (fun _ _ _ h => h) (.inl ⟨rfl, ?ty3⟩) hS0 ?tr3
    case ty3 => (intro _ _; go_simp; try with_reducible rfl)
    case tr3 =>
    simp only [Act.put, List.setIfInBounds_toArray, List.set_cons_succ, List.set_cons_zero]
    refine held_take 5 (v := ?tv4) rfl (by kernel_rfl) (by kernel_rfl) (by kernel_rfl) (fun _ _ _ h => h) (.inl ⟨rfl, ?ty4⟩) hS0 ?tr4
    case ty4 => (intro _ _; go_simp; try with_reducible rfl)
    case tr4 =>
    simp only [Act.put, List.setIfInBounds_toArray, List.set_cons_succ, List.set_cons_zero]
    refine held_take 6 (v := _) rfl (by kernel_rfl) (by kernel_rfl) (by kernel_rfl) (fun _ _ _ h => h) (yieldsI_run rfl (fun w1 _ => exec_low (k := k) rfl rfl rfl Try.underlying22 size_apisum (by omega) w1)) hS0 ?_
    simp only [Act.put, List.setIfInBounds_toArray, List.set_cons_succ, List.set_cons_zero]
    generalize wA.drew = wD at *
    refine held_one (i := 3) (by kernel_rfl) rfl ?_
    intro Q' hQ
    go_wp2_with fail
    refine (ha1.out wD (HK1.out.ext ((HCC.out wD).1 hS0).base)).mono ?_
    rintro e wE ⟨rfl, eE⟩
    have hE := hCx _ _ hS0 eE
    go_wp2_with fail
    refine hQ _ _ hE ?_
    clear hQ Q' hS0 eE ha1
    try dsimp only
    try simp only [Act.put, List.setIfInBounds_toArray, List.set_cons_succ, List.set_cons_zero]
    refine held_one (i := 7) (by kernel_rfl) rfl ?_
    intro Q' hQ
    go_wp2_with fail
    refine (ha2.out wE (HK2.out.ext ((HCC.out wE).1 hE).base)).mono ?_
    rintro e wF ⟨rfl, eF⟩
    have hF := hCx _ _ hE eF
    go_wp2_with fail
    refine hQ _ _ hF ?_
    clear hQ Q' hE eF ha2
    try dsimp only
    try simp only [Act.put, List.setIfInBounds_toArray, List.set_cons_succ, List.set_cons_zero]
    refine held_one (i := 8) (by kernel_rfl) rfl ?_
    intro Q' hQ
    go_wp2_with fail
    refine (ND.out wF).mono ?_
    rintro e wG ⟨rfl, eG⟩
    have hG := hCx _ _ hF eG
    go_wp2_with fail
    refine hQ _ _ hG ?_
    clear hQ Q' hF eG ND
    obtain ⟨vz, hvz, zG⟩ := ((HCC.out wG).1 hG).at_room (r := w.heap.size) (n := 32) (T := 36) (by simp)
    have ZG := hid zG
    have HVZ := hid hvz
    have HG := hid hG
    clear zG hvz hG
    try dsimp only
    try simp only [Act.put, List.setIfInBounds_toArray, List.set_cons_succ, List.set_cons_zero]
    refine held_one (i := 9) (by kernel_rfl) rfl ?_
    intro Q' hQ
    go_wp2_with (refine wpl_storew rfl _ _ _ rfl rfl rfl ZG.out agg_apisum HVZ.out HV.out ov ?_)
    intro wH bH uH
    have hH : C wH := (HCC.out wH).2 (((HCC.out wG).1 HG.out).store uH bH (by simp [HV.out]) (Nat.le_refl _) (by simp))
    go_wp2_with fail
    refine hQ _ _ hH ?_
    clear hQ Q'
    have EH := hid ((HCC.out wH).1 hH).base
    refine wpAnyH_done (by kernel_rfl) ?_ _
    go_wp2
    refine ret_row rfl rfl bH agg_apisum HV.out rfl ⟨rfl, EH.out⟩
end

section
open Go Go.RowKit

set_option maxRecDepth 100000 in
set_option maxHeartbeats 2000000 in
theorem rroot_c : ∀ (n : Nat) (ls : List (List UInt8)) (c : Nat) (a : Option Addr) (w : World), ls.length = n → 1 ≤ n → n ≤ 65536 → All32 ls → n ≤ c → c ≤ 9223372036854775807 → Cells w a (rows ls) →
    Calls Try.prog 19 #[.slice a n c] w fun e w' => e = .returned (.agg ((rootS nodeL ls).map u8v).toArray) ∧ Ext w w' := by
  intro n
  induction n using Nat.strongRecOn with
  | ind n ih =>
  intro ls c a w hl h1 h2 h32 hnc hc63 hcl
  have HIH := hid ih
  clear ih
  by_cases hn : n = 1
  · subst hn
    obtain ⟨y, rfl⟩ := List.length_eq_one_iff.1 hl
    obtain ⟨A, rfl, hca⟩ : ∃ A, a = some A ∧ CellsAt w (A.add (0 * 32)) (y.map u8v) := by
      cases a with
      | none => rcases hcl with h | ⟨_, _, h, _⟩
                · have := rows_length h32; rw [h] at this; simp at this
                · cases h
      | some A => exact ⟨A, rfl, hcl.rowAt h32 rfl⟩
    have hy := h32 y (by simp)
    rw [rootS_one]
    have HCA := hid hca
    have HY : Hid ((y.map u8v).length = 32) := hid (by rw [List.length_map, hy])
    have oy := one_u8 y
    clear HIH hcl h32 hl hca hy
    generalize y.map u8v = yv at *
    go_enter Try.func19, Try.ntmps19
    go_upto_region 1 with (fail)
    generalize hwA : World.alloc w _ = wA
    have zA : Blk wA w.heap.size (List.replicate 32 (.int .u8 0)) 36 := by rw [← hwA]; exact Blk.mk_alloc rfl rfl
    have eA : Ext w wA := by rw [← hwA]; exact (Ext.refl w).alloc _
    clear hwA
    have ZA := hid zA
    have EA := hid eA
    have CA := hid (HCA.out.ext eA)
    clear zA eA
    go_wp2_with (first | (refine wpl_run rfl (exec_index (i := 0) rfl rfl rfl Try.underlying22 size_apisum (by omega) wA) ?_) | (refine wpl_run rfl (exec_load_at rfl rfl CA.out agg_apisum HY.out) ?_) | (refine wpl_storew rfl _ _ _ rfl rfl rfl ZA.out agg_apisum (by simp) HY.out oy ?_))
    intro w4 b4 u4
    go_wp2
    refine ret_row rfl rfl b4 agg_apisum HY.out rfl ⟨rfl, u4.ext EA.out (Nat.le_refl _)⟩
  · have hsp := splitN_spec (n := n) (by omega)
    have hc := hid (fun w => half_c n w (by omega) (by omega))
    have hr := rootS_two nodeL (ls := ls) (by omega)
    rw [hl] at hr
    have hl1 : (ls.take (splitN n)).length = splitN n := by rw [List.length_take]; omega
    have hl2 : (ls.drop (splitN n)).length = n - splitN n := by rw [List.length_drop]; omega
    have ha1 := hid (fun w' hc' => HIH.out (splitN n) (by omega) (ls.take (splitN n)) c a w' hl1 (by omega) (by omega) (h32.take _) (by omega) hc63 hc')
    have ha2 := hid (fun w' hc' => HIH.out (n - splitN n) (by omega) (ls.drop (splitN n)) (c - splitN n) (shiftz a c (splitN n) 32) w' hl2 (by omega) (by omega) (h32.drop _) (by omega) (by omega) hc')
    have hq1 := rootS_length nodeL nodeL_length (h32.take (splitN n))
    have hq2 := rootS_length nodeL nodeL_length (h32.drop (splitN n))
    have hk1 := hcl.rowsTake h32 (splitN n)
    have hk2 := hcl.rowsShift h32 c (splitN n) (by omega)
    rw [hr]
    generalize rootS nodeL (ls.take (splitN n)) = p at *
    generalize rootS nodeL (ls.drop (splitN n)) = q at *
    generalize ls.take (splitN n) = l1 at *
    generalize ls.drop (splitN n) = l2 at *
    generalize splitN n = k at *
    obtain ⟨k1, k2, k3⟩ := hsp
    have HK1 := hid hk1
    have HK2 := hid hk2
    have ND := hid (fun w' => rnode_c p q w' hq1 hq2)
    have HV : Hid (((nodeL p q).map u8v).length = 32) := hid (by rw [List.length_map, nodeL_length])
    have ov := one_u8 (nodeL p q)
    have d1 : ((n : Int) == 1) = false := by simp; omega
    have d2 : (n == 1) = false := by simp [hn]
    clear HIH hcl h32 hl hr hl1 hl2 hk1 hk2 hq1 hq2
    go_enter Try.func19, Try.ntmps19
    go_upto_region 1 with (fail)
    generalize hwA : World.alloc w _ = wA
    have zA : Blk wA w.heap.size (List.replicate 32 (.int .u8 0)) 36 := by rw [← hwA]; exact Blk.mk_alloc rfl rfl
    have eA : Ext w wA := by rw [← hwA]; exact (Ext.refl w).alloc _
    clear hwA
    have ZA := hid zA
    have EA := hid eA
    clear zA eA
    go_wp2_with (go_at_call 47; refine (hc.out _).mono ?_; rintro e w' ⟨rfl, rfl⟩)
    obtain ⟨C, hC⟩ : ∃ C : World → Prop, C = Cls w wA [] [(w.heap.size, 32, 36)] := ⟨_, rfl⟩
    have hC0 : ∀ w', C w' ↔ Cls w wA [] [(w.heap.size, 32, 36)] w' := fun w' => by rw [hC]
    clear hC
    have HCC := hid hC0
    clear hC0
    have hCx : ∀ w w', C w → Ext w w' → C w' := fun w w' h1 h2 => (HCC.out w').2 (((HCC.out w).1 h1).ext h2)
    have hCA : C wA := (HCC.out _).2 (Cls.one_room EA.out (Kept.none _) ZA.out (by simp))
    refine wp_region_held_drew (S := C) (by kernel_rfl) (hCx _ _ hCA (Ext.refl _).drew) (fun hS0 => ?_)
    refine held_take 0 (v := ?tv1) rfl (by kernel_rfl) (by kernel_rfl) (by kernel_rfl) (fun _ _ _ h => h) (.inl ⟨rfl, ?ty1⟩) hS0 ?tr1
    case ty1 => (intro _ _; go_simp; try with_reducible rfl)
    case tr1 =>
    simp only [Act.put, List.setIfInBounds_toArray, List.set_cons_succ, List.set_cons_zero]
    refine held_take 1 (v := ?tv2) rfl (by kernel_rfl) (by kernel_rfl) (by kernel_rfl) (fun _ _ _ h => h) (.inl ⟨rfl, ?ty2⟩) hS0 ?tr2
    case ty2 => (intro _ _; go_simp; try with_reducible rfl)
    case tr2 =>
    simp only [Act.put, List.setIfInBounds_toArray, List.set_cons_succ, List.set_cons_zero]
    refine held_take 2 (v := _) rfl (by kernel_rfl) (by kernel_rfl) (by kernel_rfl) (fun _ _ _ h => h) (yieldsI_run rfl (fun w1 _ => exec_high (k := k) rfl rfl rfl Try.underlying22 size_apisum (by omega) w1)) hS0 ?_
    simp only [Act.put, List.setIfInBounds_toArray, List.set_cons_succ, List.set_cons_zero]
    refine held_take 4 (v := ?tv3) rfl (by kernel_rfl) (by kernel_rfl) (by kernel_rfl) (fun _ _ _ h => h) (.inl ⟨rfl, ?ty3⟩) hS0 ?tr3
    case ty3 => (intro _ _; go_simp; try with_reducible rfl)
    case tr3 =>
    simp only [Act.put, List.setIfInBounds_toArray, List.set_cons_succ, List.set_cons_zero]
    refine held_take 5 (v := ?tv4) rfl (by kernel_rfl) (by kernel_rfl) (by kernel_rfl) (fun _ _ _ h => h) (.inl ⟨rfl, ?ty4⟩) hS0 ?tr4
    case ty4 => (intro _ _; go_simp; try with_reducible rfl)
    case tr4 =>
    simp only [Act.put, List.setIfInBounds_toArray, List.set_cons_succ, List.set_cons_zero]
    refine held_take 6 (v := _) rfl (by kernel_rfl) (by kernel_rfl) (by kernel_rfl) (fun _ _ _ h => h) (yieldsI_run rfl (fun w1 _ => exec_low (k := k) rfl rfl rfl Try.underlying22 size_apisum (by omega) w1)) hS0 ?_
    simp only [Act.put, List.setIfInBounds_toArray, List.set_cons_succ, List.set_cons_zero]
    generalize wA.drew = wD at *
    refine held_one (i := 3) (by kernel_rfl) rfl ?_
    intro Q' hQ
    go_wp2_with fail
    refine (ha1.out wD (HK1.out.ext ((HCC.out wD).1 hS0).base)).mono ?_
    rintro e wE ⟨rfl, eE⟩
    have hE := hCx _ _ hS0 eE
    go_wp2_with fail
    refine hQ _ _ hE ?_
    clear hQ Q' hS0 eE ha1
    try dsimp only
    try simp only [Act.put, List.setIfInBounds_toArray, List.set_cons_succ, List.set_cons_zero]
    refine held_one (i := 7) (by kernel_rfl) rfl ?_
    intro Q' hQ
    go_wp2_with fail
    refine (ha2.out wE (HK2.out.ext ((HCC.out wE).1 hE).base)).mono ?_
    rintro e wF ⟨rfl, eF⟩
    have hF := hCx _ _ hE eF
    go_wp2_with fail
    refine hQ _ _ hF ?_
    clear hQ Q' hE eF ha2
    try dsimp only
    try simp only [Act.put, List.setIfInBounds_toArray, List.set_cons_succ, List.set_cons_zero]
    refine held_one (i := 8) (by kernel_rfl) rfl ?_
    intro Q' hQ
    go_wp2_with fail
    refine (ND.out wF).mono ?_
    rintro e wG ⟨rfl, eG⟩
    have hG := hCx _ _ hF eG
    go_wp2_with fail
    refine hQ _ _ hG ?_
    clear hQ Q' hF eG ND
    obtain ⟨vz, hvz, zG⟩ := ((HCC.out wG).1 hG).at_room (r := w.heap.size) (n := 32) (T := 36) (by simp)
    have ZG := hid zG
    have HVZ := hid hvz
    have HG := hid hG
    clear zG hvz hG
    try dsimp only
    try simp only [Act.put, List.setIfInBounds_toArray, List.set_cons_succ, List.set_cons_zero]
    refine held_one (i := 9) (by kernel_rfl) rfl ?_
    intro Q' hQ
    go_wp2_with (refine wpl_storew rfl _ _ _ rfl rfl rfl ZG.out agg_apisum HVZ.out HV.out ov ?_)
    intro wH bH uH
    have hH : C wH := (HCC.out wH).2 (((HCC.out wG).1 HG.out).store uH bH (by simp [HV.out]) (Nat.le_refl _) (by simp))
    go_wp2_with fail
    refine hQ _ _ hH ?_
    clear hQ Q'
    have EH := hid ((HCC.out wH).1 hH).base
    refine wpAnyH_done (by kernel_rfl) ?_ _
    go_wp2
    refine ret_row rfl rfl bH agg_apisum HV.out rfl ⟨rfl, EH.out⟩
end

section
open Go Go.RowKit Go.ChangeShapes Go.WideShapes Go.ChangeAt

theorem u8_of {n : Int} (h : (Lit.int .u8 n).wf = true) : ∃ x : UInt8, Value.int .u8 n = u8v x := by
  have hb := bounds_u8 h
  refine ⟨UInt8.ofNat n.toNat, ?_⟩
  unfold u8v
  congr 1
  rw [UInt8.toNat_ofNat']
  omega

theorem u8s_of : ∀ (vs : List Value), (∀ (i : Nat) (v : Value), vs[i]? = some v → ∃ x : UInt8, v = u8v x) → ∃ l : List UInt8, vs = l.map u8v
  | [], _ => ⟨[], rfl⟩
  | v :: vs, h => by
    obtain ⟨x, hx⟩ := h 0 v rfl
    obtain ⟨l, hl⟩ := u8s_of vs fun i u hu => h (i + 1) u (by simpa using hu)
    exact ⟨x :: l, by rw [hx, hl]; rfl⟩

section
variable {H : Type} {enc : TypeId × Value → H} {P : Program} {w : World}
/-- an array of octets -/
theorem open_octets {r : Reach} {b0 base : Nat} {sp : Nat → Bool} {held : Bool} {t e : TypeId} {n : Nat} {v : Value} {d : DataW H} {ps : List MemPlace} (ht : P.underlying t = some (.array n e)) (he : P.underlying e = some (.int .u8)) (hce : P.cellsOf e = 1) (hct : P.cellsOf t = n)
    (hval : Value.okWide P w r b0 t v) (hd : DataW.Trod enc P w base sp held t v d ps) : ∃ l : List UInt8, l.length = n ∧ v = .agg (l.map u8v).toArray := by
  unfold Value.okWide at hval
  rw [ht] at hval
  obtain ⟨cs, rfl, hs, _⟩ := hval
  obtain ⟨fuel, hf⟩ := hd
  obtain ⟨xs, m, _, _, hlen, hxl, hel⟩ := DataW.trod_array ht hf
  have hcl : cs.toList.length = n := by rw [Array.length_toList, hs, hct]
  obtain ⟨l, hl⟩ := u8s_of cs.toList fun i u hu => by
    have hi : i < n := by
      have := (List.getElem?_eq_some_iff.1 hu).1
      omega
    have h1 := hel i hi
    rw [hce, Nat.mul_one] at h1
    have hx : xs[i]? = some xs[i] := by simp
    have h2 : (cs.toList.drop i).take 1 = [u] := by
      have h3 := List.getElem?_drop (xs := cs.toList) (i := i) (j := 0)
      rw [Nat.add_zero, hu] at h3
      cases hd : cs.toList.drop i with
      | nil => rw [hd] at h3; simp at h3
      | cons y r => rw [hd] at h3; simp at h3; simp [h3]
    have h4 : DataW.trod enc P w base sp held m e [u] = some xs[i] := by
      rw [← h2, ← hx]; exact h1
    obtain ⟨k, hk, _, hw⟩ := DataW.trod_int he h4
    have hu' : u = .int .u8 k := by simpa using hk
    rw [hu']; exact u8_of hw
  refine ⟨l, ?_, ?_⟩
  · have := congrArg List.length hl
    rw [hcl, List.length_map] at this; exact this.symm
  · rw [← hl]
end
end

section
open Go Go.RowKit Go.ChangeShapes Go.WideShapes Go.ChangeAt

section
variable {H : Type} {enc : TypeId × Value → H} {P : Program} {w : World}
/-- a slice of octets, read whole -/
theorem open_bytes {r : Reach} {b0 base : Nat} {held : Bool} {t e : TypeId} {v : Value} {d : DataW H} {ps : List MemPlace} (ht : P.underlying t = some (.slice e)) (he : P.underlying e = some (.int .u8)) (hce : P.cellsOf e = 1)
    (hval : Value.okWide P w r b0 t v) (hd : DataW.Trod enc P w base (fun _ => true) held t v d ps) :
    ∃ (a : Option Addr) (n c : Nat) (l : List UInt8) (es sp : List (DataW H)), v = .slice a n c ∧ l.length = n ∧ n ≤ c ∧ (a = none → c = 0) ∧ Cells w a (l.map u8v) ∧ ((d = .nil ∧ c = 0) ∨ (d = .slice es sp ∧ es.length + sp.length = c)) := by
  obtain ⟨a, n, c, rfl⟩ := okWide_slice ht hval
  obtain ⟨fuel, hf⟩ := hd
  rcases open_ints ht he hce hf with ⟨hcs, hx⟩ | ⟨ad, len, cap, zs, hcs, _, hle, hmax, hlen, hx, hcell, hwf⟩
  · simp [Value.cells] at hcs
    obtain ⟨rfl, rfl, rfl⟩ := hcs
    simp only [Prod.mk.injEq] at hx
    exact ⟨none, 0, 0, [], [], [], rfl, rfl, Nat.le_refl _, fun _ => rfl, .inl rfl, .inl ⟨hx.1, rfl⟩⟩
  · simp [Value.cells] at hcs
    obtain ⟨rfl, rfl, rfl⟩ := hcs
    simp only [Prod.mk.injEq] at hx
    simp only [if_true] at hlen
    obtain ⟨l, hl⟩ := u8s_of ((zs.take n).map (Value.int .u8)) fun i u hu => by
      have hm := List.mem_of_getElem? hu
      obtain ⟨z, hz, rfl⟩ := List.mem_map.1 hm
      exact u8_of (hwf z (List.mem_of_mem_take hz))
    have hll : l.length = n := by
      have := congrArg List.length hl
      simp only [List.length_map, List.length_take] at this
      omega
    refine ⟨some ad, n, c, l, lits .u8 (zs.take n), lits .u8 (zs.drop n), rfl, hll, hle, (fun h => by cases h), ?_, .inr ⟨hx.1, ?_⟩⟩
    · by_cases hn : n = 0
      · left
        have : l = [] := List.length_eq_zero_iff.1 (by omega)
        rw [this]; rfl
      · obtain ⟨b, off, rfl, hat⟩ := ints_at hcell (by omega)
        refine .inr ⟨b, off, rfl, fun i u hu => ?_⟩
        rw [← hl] at hu
        have hi : i < n := by
          have := (List.getElem?_eq_some_iff.1 hu).1
          simp at this; omega
        rw [hat i (by omega)]
        rw [List.getElem?_map, List.getElem?_take_of_lt hi] at hu
        rw [List.getD_eq_getElem?_getD]
        cases hz : zs[i]? with
        | none => rw [hz] at hu; simp at hu
        | some z => rw [hz] at hu; simpa using hu
    · simp [lits]; omega
end
end

section
open Go Go.RowKit Go.ChangeShapes Go.WideShapes Go.ChangeAt Go.Deep

theorem mem_weights {H : Type} {P : Program} {e : TypeId} : ∀ {ds : List (DataW H)} {d : DataW H}, d ∈ ds → ∀ n ∈ d.weights P e, n ∈ DataW.weightsAll P e ds
  | d0 :: ds, d, hd, n, hn => by
    simp only [DataW.weightsAll, List.mem_append]
    rcases List.mem_cons.1 hd with rfl | hd
    · exact .inl hn
    · exact .inr (mem_weights hd n hn)
  | [], _, hd, _, _ => by simp at hd

section
variable {H : Type} {enc : TypeId × Value → H} {P : Program} {w : World}
theorem open_bytess {r : Reach} {b0 base : Nat} {held : Bool} {t e q : TypeId} {v : Value} {d : DataW H} {ps : List MemPlace} {ts : List TypeId} {ds : List (DataW H)} {j : Nat}
    (hsz : (DataW.weightsEach P ts ds).all (· ≤ reachBytes) = true) (ht : P.underlying t = some (.slice e)) (he : P.underlying e = some (.slice q)) (hq : P.underlying q = some (.int .u8)) (ce : P.cellsOf e = 1) (cq : P.cellsOf q = 1) (hbe : P.bytesOf e = 24) (hbq : P.bytesOf q = 1)
    (hval : Value.okWide P w r b0 t v) (hd : DataW.Trod enc P w base (fun _ => true) held t v d ps) (htj : ts[j]? = some t) (hdj : ds[j]? = some d) :
    ∃ (a : Option Addr) (n c : Nat) (its : List Item), v = .slice a n c ∧ its.length = n ∧ n ≤ c ∧ c ≤ 140737488351232 ∧ (a = none → c = 0) ∧ Cells w a (its.map itemV) ∧
      ∀ it ∈ its, Cells w it.1 (it.2.2.map u8v) ∧ (it.1 = none → it.2.1 = 0) ∧ it.2.2.length ≤ it.2.1 ∧ it.2.1 ≤ 140737488351232 := by
  have hw := fun n hn => List.all_eq_true.1 hsz n (DataW.weights_mem_each htj hdj n hn)
  obtain ⟨a, n, c, rfl⟩ := okWide_slice ht hval
  obtain ⟨fuel, hf⟩ := hd
  rcases open_int_rows ht he hq ce cq hf with ⟨hcs, hx⟩ | ⟨ad, len, cap, A, L, C, Z, hcs, _, hle, hmax, hx, hrow⟩
  · simp [Value.cells] at hcs
    obtain ⟨rfl, rfl, rfl⟩ := hcs
    exact ⟨none, 0, 0, [], rfl, rfl, Nat.le_refl _, Nat.zero_le _, fun _ => rfl, .inl rfl, by simp⟩
  · simp [Value.cells] at hcs
    obtain ⟨rfl, rfl, rfl⟩ := hcs
    simp only [Prod.mk.injEq] at hx
    obtain ⟨rfl, _⟩ := hx
    have hcap : c ≤ 140737488351232 := by
      have := hw ((n + (c - n)) * P.bytesOf e) (by simp [DataW.weights, ht])
      simp only [decide_eq_true_eq] at this
      rw [hbe] at this
      have h2 : reachBytes = 140737488351232 := by decide
      omega
    have hbnd : ∀ i, i < n → C i ≤ 140737488351232 := by
      intro i hi
      obtain ⟨_, hlc, _, hzl, _, hn0, _⟩ := hrow i (by omega)
      cases hA : A i with
      | none => have := hn0 hA; omega
      | some a' =>
        have hmem : intRow (H := H) .u8 (A i) (L i) (Z i) ∈ (List.range n).map fun r => intRow (H := H) .u8 (A r) (L r) (Z r) := List.mem_map.2 ⟨i, List.mem_range.2 hi, rfl⟩
        have h3 : C i * P.bytesOf q ∈ (intRow (H := H) .u8 (A i) (L i) (Z i)).weights P e := by
          unfold intRow
          rw [hA]
          simp only [DataW.weights, he, List.mem_cons]
          left
          congr 1
          simp [lits, hzl]; omega
        have h4 := hw (C i * P.bytesOf q) (by
          simp only [DataW.weights, ht, List.mem_cons, List.mem_append]
          exact .inr (.inl (mem_weights hmem _ h3)))
        simp only [decide_eq_true_eq] at h4
        rw [hbq] at h4
        have h2 : reachBytes = 140737488351232 := by decide
        omega
    have hits : ∀ i, i < n → ∃ it : Item, itemV it = .slice (A i) (L i) (C i) ∧ Cells w it.1 (it.2.2.map u8v) ∧ (it.1 = none → it.2.1 = 0) ∧ it.2.2.length ≤ it.2.1 ∧ it.2.1 ≤ 140737488351232 := by
      intro i hi
      obtain ⟨_, hlc, _, hzl, hwf, hn0, hcell⟩ := hrow i (by omega)
      obtain ⟨l, hl⟩ := u8s_of (((Z i).take (L i)).map (Value.int .u8)) fun k u hu => by
        have hm := List.mem_of_getElem? hu
        obtain ⟨z, hz, rfl⟩ := List.mem_map.1 hm
        exact u8_of (hwf z (List.mem_of_mem_take hz))
      have hll : l.length = L i := by
        have := congrArg List.length hl
        simp only [List.length_map, List.length_take] at this
        omega
      refine ⟨(A i, C i, l), by rw [itemV, hll], ?_, hn0, by simp only; omega, hbnd i hi⟩
      simp only
      by_cases h0 : L i = 0
      · left
        have : l = [] := List.length_eq_zero_iff.1 (by omega)
        rw [this]; rfl
      · cases hA : A i with
        | none => have := hn0 hA; omega
        | some a' =>
          obtain ⟨b, off, rfl, hat⟩ := ints_at (zs := Z i) (fun c hc => (hcell a' hA).2 c (by omega)) (by omega)
          refine .inr ⟨b, off, rfl, fun k u hu => ?_⟩
          rw [← hl] at hu
          have hk : k < L i := by
            have := (List.getElem?_eq_some_iff.1 hu).1
            simp at this; omega
          rw [hat k (by omega)]
          rw [List.getElem?_map, List.getElem?_take_of_lt hk] at hu
          rw [List.getD_eq_getElem?_getD]
          cases hz : (Z i)[k]? with
          | none => rw [hz] at hu; simp at hu
          | some z => rw [hz] at hu; simpa using hu
    obtain ⟨f, hfi⟩ := choose_lt hits
    refine ⟨some ad, n, c, (List.range n).map f, rfl, by simp, hle, hcap, (fun h => by cases h), ?_, ?_⟩
    · by_cases h0 : n = 0
      · left; subst h0; rfl
      · have hc0 := (hrow 0 (by omega)).1
        obtain ⟨b, off, spot⟩ := ad
        have hspot : spot = none := by simpa [Addr.add] using World.cell?_spot hc0
        subst hspot
        refine .inr ⟨b, off, rfl, fun i u hu => ?_⟩
        have hi : i < n := by
          have := (List.getElem?_eq_some_iff.1 hu).1
          simpa using this
        rw [List.getElem?_map, List.getElem?_map, List.getElem?_range hi] at hu
        simp only [Option.map_some, Option.some.injEq] at hu
        rw [← hu, (hfi i hi).1]
        have h9 := (hrow i (by omega)).1
        have hadd : (⟨b, off, none⟩ : Addr).add i = ⟨b, off + i, none⟩ := by unfold Addr.add; split <;> simp_all
        rw [hadd] at h9
        exact h9
    · intro it hit
      obtain ⟨i, hi, rfl⟩ := List.mem_map.1 hit
      exact (hfi i (List.mem_range.1 hi)).2
end
end

section
open Go Go.RowKit

def leafL (t : List UInt8) : List UInt8 := sumL 1 (t.take 3000)
theorem leafL_length (t : List UInt8) : (leafL t).length = 32 := sumL_length _ _

theorem min_cast (n k : Nat) : min (n : Int) (k : Int) = ((min n k : Nat) : Int) := by omega

set_option maxHeartbeats 400000 in
theorem short_c (a : Option Addr) (n c : Nat) (w : World) (hnc : n ≤ c) :
    Calls Try.prog 17 #[.slice a n c] w fun e w' => e = .returned (.slice a (min n 3000) c) ∧ w = w' := by
  have hm : min (n : Int) 3000 = ((min n 3000 : Nat) : Int) := by omega
  have hc : min n 3000 ≤ c := by omega
  go_enter Try.func17, Try.ntmps17
  go_wp2_with fail
  go_ret
  exact ⟨rfl, rfl⟩

set_option maxRecDepth 100000 in
set_option maxHeartbeats 400000 in
theorem rleaf_c (t : List UInt8) (a : Option Addr) (n c : Nat) (w : World) (ht : t.length = n) (hn : n ≤ 3000) (hcl : Cells w a (t.map u8v)) :
    Calls Try.prog 43 #[.slice a n c] w fun e w' => e = .returned (.agg ((sumL 1 t).map u8v).toArray) ∧ Ext w w' := by
  have hs := hid (fun w' h => rsum_c 1 t n c a w' (by omega) (by omega) ht (by omega) h)
  have HV : Hid (((sumL 1 t).map u8v).length = 32) := hid (by rw [List.length_map, sumL_length])
  have ov := one_u8 (sumL 1 t)
  have HC := hid hcl
  clear ht hcl
  generalize (sumL 1 t).map u8v = sv at *
  go_enter Try.func43, Try.ntmps43
  go_upto_region 1 with (fail)
  generalize hwA : World.alloc w _ = wA
  have zA : Blk wA w.heap.size (List.replicate 32 (.int .u8 0)) 36 := by rw [← hwA]; exact Blk.mk_alloc rfl rfl
  have eA : Ext w wA := by rw [← hwA]; exact (Ext.refl w).alloc _
  clear hwA
  go_wp2_with fail
  refine (hs.out wA (HC.out.ext eA)).mono ?_
  rintro e w1 ⟨rfl, e1⟩
  have Z1 := hid (zA.ext e1)
  have E1 := hid (eA.ext e1)
  clear zA eA e1
  go_wp2_with (refine wpl_storew rfl _ _ _ rfl rfl rfl Z1.out agg_apisum (by simp) HV.out ov ?_)
  intro w4 b4 u4
  go_wp2
  refine ret_row rfl rfl b4 agg_apisum HV.out rfl ⟨rfl, u4.ext E1.out (Nat.le_refl _)⟩

set_option maxRecDepth 100000 in
set_option maxHeartbeats 400000 in
theorem leaf_c (t : List UInt8) (a : Option Addr) (n c : Nat) (w : World) (ht : t.length = n) (hn : n ≤ 3000) (hnc : n ≤ c) (hc : c ≤ 9223372036854775807) (h0 : a = none → c = 0) (hcl : Cells w a (t.map u8v)) :
    Calls Try.prog 16 #[.slice a n c] w fun e w' => e = .returned (.tuple #[.agg ((sumL 1 t).map u8v).toArray, .int .i64 0]) ∧ Ext w w' := by
  have hs := hid (fun w' h => sumOf_c 1 t n c a w' ht hnc hc h0 h)
  have hso : sumOfV 1 t n = .tuple #[.agg ((sumL 1 t).map u8v).toArray, .int .i64 0] := by rw [sumOfV, if_neg (by omega), if_pos (by omega)]
  rw [hso] at hs
  have HV : Hid (((sumL 1 t).map u8v).length = 32) := hid (by rw [List.length_map, sumL_length])
  have ov := one_u8 (sumL 1 t)
  have HC := hid hcl
  clear ht hcl hso h0
  generalize (sumL 1 t).map u8v = sv at *
  go_enter Try.func16, Try.ntmps16
  go_upto_region 1 with (fail)
  generalize hwA : World.alloc w _ = wA
  have zA : Blk wA w.heap.size (List.replicate 32 (.int .u8 0)) 36 := by rw [← hwA]; exact Blk.mk_alloc rfl rfl
  have eA : Ext w wA := by rw [← hwA]; exact (Ext.refl w).alloc _
  clear hwA
  go_wp2_with fail
  refine (hs.out wA (HC.out.ext eA)).mono ?_
  rintro e w1 ⟨rfl, e1⟩
  have Z1 := hid (zA.ext e1)
  have E1 := hid (eA.ext e1)
  clear zA eA e1
  go_wp2_with (refine wpl_storew rfl _ _ _ rfl rfl rfl Z1.out agg_apisum (by simp) HV.out ov ?_)
  intro w4 b4 u4
  go_wp2
  refine ret_row2 rfl rfl b4 agg_apisum HV.out rfl ⟨rfl, u4.ext E1.out (Nat.le_refl _)⟩

theorem info_sum : (Try.prog.info? 36).map (fun i => (i.zero, i.size, i.bytes)) = some (some (.agg (List.replicate 32 (.int .u8 0)).toArray), 32, 32) := by kernel_rfl
theorem zsum_size : (Value.agg (List.replicate 32 (.int .u8 0)).toArray).cells.size = 32 := by simp [Value.cells]

/-- append one row onto a row of one's own -/
theorem wpl_append_row {ops : Array Oper} {rest : List Oper} {o : Oper} {a : Act} {w : World} {Q : Exit → Act → World → Prop} (hgd : o.guard = none) (s x : Operand)
    (ho : o.op = .call { callee := .builtin .append, args := #[s, x], argTypes := #[22, 22] }) (base : Nat) {v : Value} {n c g : Nat} {ls : List (List UInt8)} {y : List UInt8} {T : TypeId}
    (hs : a.eval s = v) (hx : a.eval x = .slice (some ⟨g, 0, none⟩) 1 c) (hown : w.ownsRow base 36 32 v n (rows ls)) (hy : y.length = 32) (hb : Blk w g (y.map u8v) T)
    (hn : (n + 1) * 32 ≤ 140737488355328) (hbase : base ≤ w.heap.size)
    (h : ∀ v' w', w'.ownsRow base 36 32 v' (n + 1) (rows (ls ++ [y])) → w.grownBy w' v.ownBlock → wpList Try.prog ops Q rest (a.put o.dst v') w') : wpList Try.prog ops Q (o :: rest) a w := by
  obtain ⟨i0, hi, hz, hsz, hb1⟩ := info_parts info_sum
  exact wpList_append_own w hgd s x 22 ho base 36 i0 _ 32 32 Try.underlying22 hi hz hsz hb1 zsum_size (by decide) v n (rows ls) hs hown ⟨g, 0, none⟩ 1 c (y.map u8v) hx
    (by rw [List.length_map, hy]) (news_blk hb) (one_u8 _) (by unfold maxLen; omega) hn hbase (fun v' w' h1 h2 _ => h v' w' (by rw [rows_append, rows_one]; exact h1) h2)

theorem fill_row (y : List UInt8) (hy : y.length = 32) (cells : Array Value) (hc : cells.size = 32) : Instr.fill (fun i => some (i * 32, 32)) cells [(0, .agg (y.map u8v).toArray)] = some (y.map u8v).toArray := by
  have h := Great.fill_whole (s := 32) (by omega) [.agg (y.map u8v).toArray] cells (by intro v hv; rw [List.mem_singleton.1 hv]; simp [Value.cells, hy]) (by simp [hc])
  simpa [Value.cells] using h
theorem exec_buildRow {P : Program} {o : Oper} {a : Act} {t e : TypeId} {x : Operand} {y : List UInt8} (ho : o.op = .buildSlice t 1 #[(0, x)]) (hx : a.eval x = .agg (y.map u8v).toArray) (hy : y.length = 32) (hu : P.underlying t = some (.slice e))
    {ie : TypeInfo} {z : Value} (hie : P.info? e = some ie) (hz : ie.zero = some z) (hsz : ie.size = 32) (hzs : z.cells.size = 32) (w : World) :
    (execOp a.eval o).run P w = .ok (.value (.slice (some ⟨w.heap.size, 0, none⟩) 1 1)) (w.alloc (.cells (y.map u8v).toArray e)) := by
  have h := run_buildSlice (P := P) w t e 1 #[(0, .agg (y.map u8v).toArray)] (y.map u8v).toArray ie z hu hie hz (by rw [hsz]; omega) (by rw [hsz]; omega) (by rw [hsz]; exact fill_row y hy _ (by simp))
  have he : (#[(0, x)].map fun (p : Nat × Operand) => (p.1, a.eval p.2)) = #[(0, .agg (y.map u8v).toArray)] := by simp [hx]
  unfold execOp
  simp only [ho, Sem.run_bind]
  have h2 : (Instr.buildSlice t 1 (#[(0, x)].map fun (p : Nat × Operand) => (p.1, a.eval p.2))).run P w = .ok (.slice (some ⟨w.heap.size, 0, none⟩) 1 1) (w.alloc (.cells (y.map u8v).toArray e)) := by rw [he]; exact h
  rw [h2]
  rfl
theorem wpl_step {P : Program} {ops : Array Oper} {rest : List Oper} {o : Oper} {a : Act} {w w' : World} {Q : Exit → Act → World → Prop} {v : Value} (hgd : o.guard = none) (hr : (execOp a.eval o).run P w = .ok (.value v) w') (h : wpList P ops Q rest (a.put o.dst v) w') : wpList P ops Q (o :: rest) a w :=
  wpList_plain hgd fun K hK => by
    unfold Oper.wp
    rw [hr, Oper.upon_value]
    exact hK _ _ h
theorem wpl_buildRow {ops : Array Oper} {rest : List Oper} {o : Oper} {a : Act} {w : World} {Q : Exit → Act → World → Prop} (hgd : o.guard = none) {x : Operand} {y : List UInt8} (ho : o.op = .buildSlice 22 1 #[(0, x)]) (hx : a.eval x = .agg (y.map u8v).toArray) (hy : y.length = 32)
    (h : wpList Try.prog ops Q rest (a.put o.dst (.slice (some ⟨w.heap.size, 0, none⟩) 1 1)) (w.alloc (.cells (y.map u8v).toArray 36))) : wpList Try.prog ops Q (o :: rest) a w := by
  obtain ⟨i0, hi, hz, hsz, hb1⟩ := info_parts info_sum
  exact wpl_step hgd (exec_buildRow ho hx hy Try.underlying22 hi hz hsz zsum_size w) h
end

section
open Go Go.RowKit

def leavesL (its : List Item) : List (List UInt8) := (its.take 40).map fun it => leafL it.2.2
theorem leavesL_length (its : List Item) : (leavesL its).length = min its.length 40 := by simp [leavesL]; omega
theorem leavesL_32 (its : List Item) : All32 (leavesL its) := fun l hl => by
  obtain ⟨it, _, rfl⟩ := List.mem_map.1 hl
  exact leafL_length _

set_option maxRecDepth 100000 in
set_option maxHeartbeats 1000000 in
theorem leaves_c (its : List Item) (a : Option Addr) (n c : Nat) (w : World) (hl : its.length = n) (hnc : n ≤ c) (hcl : Cells w a (its.map itemV))
    (hits : ∀ it ∈ its, Cells w it.1 (it.2.2.map u8v) ∧ (it.1 = none → it.2.1 = 0) ∧ it.2.2.length ≤ it.2.1 ∧ it.2.1 ≤ 140737488351232) :
    Calls Try.prog 15 #[.slice a n c] w fun e w' => ∃ v, e = .returned v ∧ w'.ownsRow w.heap.size 36 32 v (min n 40) (rows (leavesL its)) ∧ Ext w w' := by
  have hm : min (n : Int) 40 = ((min n 40 : Nat) : Int) := by omega
  have hc : min n 40 ≤ c := by omega
  have HL := hid hl
  have HC := hid hcl
  have HI := hid hits
  clear hl hcl hits
  generalize hM : min n 40 = M at *
  have HM := hid hM
  have hMn : M ≤ n := by omega
  have hM40 : M ≤ 40 := by omega
  clear hM
  go_enter Try.func15, Try.ntmps15
  go_wp2
  go_loopw [3, 12] (fun v i wr => ∃ k : Nat, k ≤ M ∧ i = .int .i64 (k : Int) ∧ wr.ownsRow w.heap.size 36 32 v k (rows (leavesL (its.take k))) ∧ Ext w wr) (fun _ i _ => M - (intOf i).toNat)
  case atStart => exact ⟨0, by omega, rfl, World.ownsRow_nil _ _ _ _, Ext.refl w⟩
  case round =>
    obtain ⟨k, hk, rfl, own, e1⟩ := hrel
    have O1 := hid own
    have E1 := hid e1
    have hb1 := e1.size
    clear own e1
    by_cases hlt : k < M
    · obtain ⟨it, hit⟩ : ∃ it, its[k]? = some it := ⟨its[k]'(by rw [HL.out]; omega), by simp⟩
      obtain ⟨b, off, rfl, hcell⟩ := (HC.out.ext E1.out).some_of (by rw [List.length_map, HL.out]; omega)
      have hck := hcell k (itemV it) (by rw [List.getElem?_map, hit]; rfl)
      obtain ⟨hci, h0, hle, hcap⟩ := HI.out it (List.mem_of_getElem? hit)
      have hnext : leavesL (its.take (k + 1)) = leavesL (its.take k) ++ [leafL it.2.2] := by
        unfold leavesL
        rw [List.take_take, List.take_take, Nat.min_eq_right (by omega), Nat.min_eq_right (by omega), List.take_add_one, hit]
        simp
      obtain ⟨x, ci, t⟩ := it
      simp only at hci h0 hle hcap hnext
      unfold itemV at hck
      simp only at hck
      obtain ⟨q, hq⟩ : ∃ q, t.length = q := ⟨_, rfl⟩
      rw [hq] at hck hle
      have hs := hid (fun w' => short_c x q ci w' hle)
      have htl : (t.take 3000).length = min q 3000 := by rw [List.length_take, hq]; omega
      have hlf := hid (fun w' h => rleaf_c (t.take 3000) x (min q 3000) ci w' htl (by omega) h)
      rw [show sumL 1 (t.take 3000) = leafL t from rfl] at hlf
      have HY := hid (leafL_length t)
      have HYV : Hid (((leafL t).map u8v).length = 32) := hid (by rw [List.length_map, leafL_length])
      have oy := one_u8 (leafL t)
      have HN := hid hnext
      have hct : Cells w x ((t.take 3000).map u8v) := by rw [List.map_take]; exact hci.take _
      have HCT := hid hct
      clear hnext hct hci htl hq hle hcap h0 hcell hit
      generalize leafL t = y at *
      generalize min q 3000 = q3 at *
      go_wp2_with (first | (go_at_call 17; refine (hs.out _).mono ?_; rintro e w' ⟨rfl, rfl⟩))
      refine (hlf.out wr (HCT.out.ext E1.out)).mono ?_
      rintro e w2 ⟨rfl, e2⟩
      have zB : Blk (w2.alloc (.cells (y.map u8v).toArray 36)) w2.heap.size (y.map u8v) 36 := Blk.mk_alloc rfl rfl
      have e3 : Ext wr (w2.alloc (.cells (y.map u8v).toArray 36)) := e2.alloc _
      have O3 := hid (ownsRow_ext O1.out e3)
      have E3 := hid (E1.out.ext e3)
      have ZB := hid zB
      have hb3 : w.heap.size ≤ (w2.alloc (.cells (y.map u8v).toArray 36)).heap.size := E3.out.size
      clear e2 e3 zB O1 E1 hck hlf hs
      go_wp2_with (first | (refine wpl_buildRow rfl rfl rfl HY.out ?_) | (at_builtin; refine wpl_append_row rfl _ _ rfl w.heap.size rfl rfl O3.out HY.out ZB.out (by omega) hb3 ?_))
      intro v4 w4 own4 g4
      have hv4 := own_block_ge O3.out
      have E4 := hid (E3.out.grown g4 (by intro q hq; exact hv4 _ hq))
      have O4 := hid own4
      clear own4 g4 hv4 O3 E3 ZB
      go_wp2
      go_roundw
      case rel => exact ⟨k + 1, by omega, by go_num, by rw [HN.out]; exact O4.out, E4.out⟩
      case measure => simp [intOf]; omega
    · obtain rfl : k = M := by omega
      have hfin : leavesL (its.take k) = leavesL its := by
        unfold leavesL
        rw [List.take_take, ← HM.out, HL.out.symm]
        congr 1
        rcases Nat.le_total its.length 40 with h | h
        · rw [Nat.min_eq_left h, Nat.min_eq_right h, List.take_of_length_le (Nat.le_refl _), List.take_of_length_le h]
        · rw [Nat.min_eq_right h, Nat.min_self]
      have own := O1.out
      rw [hfin] at own
      have O2 := hid own
      clear own O1 hfin
      go_wp2
      go_ret
      exact ⟨_, rfl, O2.out, E1.out⟩
end

section
open Go Go.RowKit

set_option maxHeartbeats 400000 in
theorem listFault_c (a : Option Addr) (n c : Nat) (w : World) (hn : n ≤ 65536) :
    Calls Try.prog 45 #[.slice a n c] w fun e w' => e = .returned (.int .i64 (if n = 0 then 10 else 0)) ∧ w = w' := by
  by_cases h : n = 0
  · subst h
    go_enter Try.func45, Try.ntmps45
    go_wp2
    go_ret
    exact ⟨rfl, rfl⟩
  · rw [if_neg h]
    have d1 : ((n : Int) == 0) = false := by simp; omega
    have d2 : (n == 0) = false := by simp [h]
    have d3 : decide (65536 < n) = false := decide_eq_false (by omega)
    have d4 : decide ((65536 : Int) < (n : Int)) = false := decide_eq_false (by omega)
    go_enter Try.func45, Try.ntmps45
    go_wp2
    go_ret
    exact ⟨rfl, rfl⟩

def rootV (ls : List (List UInt8)) : List UInt8 × Int := if ls.length = 0 then (zero32, 10) else (rootS nodeL ls, 0)

set_option maxRecDepth 100000 in
set_option maxHeartbeats 1000000 in
theorem root_c (ls : List (List UInt8)) (a : Option Addr) (n c : Nat) (w : World) (hl : ls.length = n) (hn : n ≤ 65536) (h32 : All32 ls) (hnc : n ≤ c) (hc63 : c ≤ 9223372036854775807) (hcl : Cells w a (rows ls)) :
    Calls Try.prog 18 #[.slice a n c] w fun e w' => e = .returned (sumErr (rootV ls)) ∧ Ext w w' := by
  have hf := hid (fun w => listFault_c a n c w hn)
  obtain ⟨V, hV⟩ : ∃ V, rootV ls = V := ⟨_, rfl⟩
  rw [hV]
  unfold rootV at hV
  rw [hl] at hV
  by_cases h0 : n = 0
  · rw [if_pos h0] at hV
    rw [if_pos h0] at hf
    subst hV
    clear hcl h32 hl
    subst h0
    go_enter Try.func18, Try.ntmps18
    go_upto_region 1 with (fail)
    generalize hwA : World.alloc w _ = wA
    have zA : Blk wA w.heap.size (List.replicate 32 (.int .u8 0)) 36 := by rw [← hwA]; exact Blk.mk_alloc rfl rfl
    have eA : Ext w wA := by rw [← hwA]; exact (Ext.refl w).alloc _
    clear hwA
    have ZA := hid zA
    have EA := hid eA
    clear zA eA
    go_wp2_with (first | (go_at_call 45; refine (hf.out _).mono ?_; rintro e w' ⟨rfl, rfl⟩) | (refine wpl_storew rfl _ _ _ rfl rfl rfl ZA.out agg_apisum (by simp) (xs := List.replicate 32 (.int .u8 0)) (by simp) (one_zeros 32) ?_))
    intro w4 b4 u4
    go_wp2
    refine ret_row2 rfl rfl b4 agg_apisum (by simp) rfl ⟨by unfold sumErr; rw [zero32_map]; rfl, u4.ext EA.out (Nat.le_refl _)⟩
  · rw [if_neg h0] at hV
    rw [if_neg h0] at hf
    have hr := hid (fun w' hc' => rootOf_c n ls c a w' hl (by omega) hn h32 hnc hc63 hc')
    have hrl := rootS_length nodeL nodeL_length h32
    generalize rootS nodeL ls = p at *
    have HP : Hid ((p.map u8v).length = 32) := hid (by rw [List.length_map, hrl])
    have op := one_u8 p
    have HC := hid hcl
    subst hV
    clear hcl h32 hl hrl
    go_enter Try.func18, Try.ntmps18
    go_upto_region 1 with (fail)
    generalize hwA : World.alloc w _ = wA
    have zA : Blk wA w.heap.size (List.replicate 32 (.int .u8 0)) 36 := by rw [← hwA]; exact Blk.mk_alloc rfl rfl
    have eA : Ext w wA := by rw [← hwA]; exact (Ext.refl w).alloc _
    clear hwA
    have ZA := hid zA
    have EA := hid eA
    clear zA eA
    go_wp2_with (first | (go_at_call 45; refine (hf.out _).mono ?_; rintro e w' ⟨rfl, rfl⟩))
    refine (hr.out wA (HC.out.ext EA.out)).mono ?_
    rintro e w1 ⟨rfl, e1⟩
    have Z1 := hid (ZA.out.ext e1)
    have E1 := hid (EA.out.ext e1)
    clear e1 ZA EA
    go_wp2_with (refine wpl_storew rfl _ _ _ rfl rfl rfl Z1.out agg_apisum (by simp) HP.out op ?_)
    intro w4 b4 u4
    go_wp2
    refine ret_row2 rfl rfl b4 agg_apisum HP.out rfl ⟨rfl, u4.ext E1.out (Nat.le_refl _)⟩
end

section
open Go Go.RowKit

theorem exec_cmp {P : Program} {o : Oper} {a : Act} {op : BinOp} {t u : TypeId} {x y : Operand} (ho : o.op = .binOp op t x y u) {xs ys : Array Value} {b : Value} (hx : a.eval x = .agg xs) (hy : a.eval y = .agg ys)
    (hg : P.eqGuardType P.depth t = false) (hr : ∀ w, (binOp op t (.agg xs) (.agg ys)).run P w = .ok b w) (w : World) : (execOp a.eval o).run P w = .ok (.value b) w := by
  unfold execOp
  simp only [ho, hx, hy, Sem.run_bind, run_eqGuard_agg w op t x y xs ys hg, Result.andThen_ok, hr, Sem.run_pure]

set_option maxRecDepth 100000 in
set_option maxHeartbeats 1000000 in
theorem rootsMatch_c (its : List Item) (a : Option Addr) (n c : Nat) (x y : List UInt8) (w : World) (hx : x.length = 32) (hy : y.length = 32) (hl : its.length = n) (hnc : n ≤ c) (hcl : Cells w a (its.map itemV))
    (hits : ∀ it ∈ its, Cells w it.1 (it.2.2.map u8v) ∧ (it.1 = none → it.2.1 = 0) ∧ it.2.2.length ≤ it.2.1 ∧ it.2.1 ≤ 140737488351232) :
    Calls Try.prog 4 #[.slice a n c, .agg (x.map u8v).toArray, .agg (y.map u8v).toArray] w fun e w' => e = .returned (.bool true) ∧ Ext w w' := by
  have HX : Hid ((x.map u8v).length = 32) := hid (by rw [List.length_map, hx])
  have HY : Hid ((y.map u8v).length = 32) := hid (by rw [List.length_map, hy])
  have N1 := hid (fun w' => node_c x y w' hx hy)
  have N2 := hid (fun w' => rnode_c x y w' hx hy)
  have HZN := hid (nodeL_length x y)
  generalize nodeL x y = xy at *
  have HNE := hid (fun w => eq_self Try.underlying36 xy HZN.out w)
  have HL := hid hl
  have HC := hid hcl
  have HI := hid hits
  have hlv := hid (fun w' h1 h2 => leaves_c its a n c w' hl hnc h1 h2)
  have hll := leavesL_length its
  rw [hl] at hll
  have HLL := hid hll
  have H32 := hid (leavesL_32 its)
  have hMn : min n 40 ≤ n := by omega
  have hM40 : min n 40 ≤ 40 := by omega
  have hat : ∀ k it, k < min n 40 → its[k]? = some it → (leavesL its)[k]? = some (leafL it.2.2) := by
    intro k it hk hit
    unfold leavesL
    rw [List.getElem?_map, List.getElem?_take_of_lt (by omega), hit]; rfl
  have HAT := hid hat
  clear hx hy hl hcl hits hll hat
  generalize leavesL its = ls at *
  generalize min n 40 = M at *
  go_enter Try.func4, Try.ntmps4
  go_upto_region 1 with (fail)
  generalize hwA : World.alloc (World.alloc w _) _ = wA
  have xA : Blk wA w.heap.size (x.map u8v) 36 := by rw [← hwA]; exact (Blk.mk_alloc rfl rfl).alloc _
  have yA : Blk wA (w.heap.size + 1) (y.map u8v) 36 := by rw [← hwA]; exact Blk.mk_alloc (by simp) rfl
  have eA : Ext w wA := by rw [← hwA]; exact ((Ext.refl w).alloc _).alloc _
  clear hwA
  go_wp2_with fail
  refine (landed_c wA).mono ?_
  rintro e wB ⟨rfl, eB⟩
  have EB := hid (eA.ext eB)
  have XB := hid (xA.ext eB)
  have YB := hid (yA.ext eB)
  clear eB eA xA yA
  go_wp2_with fail
  refine (hlv.out wB (HC.out.ext EB.out) (fun it hit => ⟨(HI.out it hit).1.ext EB.out, (HI.out it hit).2⟩)).mono ?_
  rintro e wC ⟨v, rfl, own, eC⟩
  have EC := hid (EB.out.ext eC)
  have XC := hid (XB.out.ext eC)
  have YC := hid (YB.out.ext eC)
  obtain ⟨av, cv, rfl, hMc, hcm, hav, hcv⟩ := own_sliceT (by omega) own
  have CV := hid hcv
  unfold maxLen at hcm
  clear eC EB XB YB own hlv hcv
  go_wp2
  go_loopw [20] (fun i wr => ∃ k : Nat, k ≤ M ∧ i = .int .i64 (k : Int) ∧ Ext wC wr) (fun i _ => M - (intOf i).toNat)
  case atStart => exact ⟨0, by omega, rfl, Ext.refl _⟩
  case round =>
    obtain ⟨k, hk, rfl, e1⟩ := hrel
    have E1 := hid e1
    clear e1
    by_cases hlt : k < M
    · obtain ⟨it, hit⟩ : ∃ it, its[k]? = some it := ⟨its[k]'(by rw [HL.out]; omega), by simp⟩
      have hlk := HAT.out k it hlt hit
      have EW : Ext w wr := EC.out.ext E1.out
      obtain ⟨b, off, rfl, hcell⟩ := (HC.out.ext EW).some_of (by rw [List.length_map, HL.out]; omega)
      have hck := hcell k (itemV it) (by rw [List.getElem?_map, hit]; rfl)
      obtain ⟨hci, h0, hle, hcap⟩ := HI.out it (List.mem_of_getElem? hit)
      obtain ⟨xi, ci, t⟩ := it
      simp only at hci h0 hle hcap hlk
      unfold itemV at hck
      simp only at hck
      obtain ⟨q, hq⟩ : ∃ q, t.length = q := ⟨_, rfl⟩
      rw [hq] at hck hle
      have hs := hid (fun w' => short_c xi q ci w' hle)
      have htl : (t.take 3000).length = min q 3000 := by rw [List.length_take, hq]; omega
      have hlf := hid (fun w' h => leaf_c (t.take 3000) xi (min q 3000) ci w' htl (by omega) (by omega) (by omega) h0 h)
      rw [show sumL 1 (t.take 3000) = leafL t from rfl] at hlf
      have HZ := hid (leafL_length t)
      have HZV : Hid (((leafL t).map u8v).length = 32) := hid (by rw [List.length_map, leafL_length])
      have oz := one_u8 (leafL t)
      have hct : Cells w xi ((t.take 3000).map u8v) := by rw [List.map_take]; exact hci.take _
      have HCT := hid hct
      have HSE := hid (fun w => show (binOp .neq 36 (.agg ((leafL t).map u8v).toArray) (.agg ((leafL t).map u8v).toArray)).run Try.prog w = .ok (.bool false) w by rw [neq_arr Try.underlying36 _ _ HZ.out HZ.out w]; simp)
      obtain ⟨A, rfl, hca⟩ : ∃ A, av = some A ∧ CellsAt wr (A.add (k * 32)) ((leafL t).map u8v) := by
        cases av with
        | none => rcases CV.out with h | ⟨_, _, h, _⟩
                  · have := rows_length H32.out; rw [h, HLL.out] at this; simp at this; omega
                  · cases h
        | some A => exact ⟨A, rfl, ((CV.out.rowAt H32.out hlk)).ext E1.out⟩
      have HCA := hid hca
      have EW2 := hid EW
      have HCK := hid (fun (w2 : World) (h : Ext wr w2) => show w2.cell? ⟨b, off + k, none⟩ = some (.slice xi q ci) from by
        have hb := block_lt_of_cell hck
        have := h.cell (p := ⟨b, off + k, none⟩) hb
        rw [this]; exact hck)
      clear hct hci htl hq hle hcap h0 hcell hit hlk hck hca EW
      generalize leafL t = z at *
      generalize min q 3000 = q3 at *
      have hkn : k < n := by omega
      go_wp2_with (first | (refine wpl_run rfl (exec_index (i := k) rfl rfl rfl Try.underlying22 size_apisum hlt wr) ?_) | (refine wpl_run rfl (exec_load_at rfl rfl HCA.out agg_apisum HZV.out) ?_) | (refine wpl_storew rfl _ (.tmp 9) _ rfl rfl rfl (Blk.mk_alloc rfl rfl) agg_apisum (by simp) HZV.out oz ?_))
      intro w2 b2 u2
      have e2 : Ext wr w2 := u2.ext ((Ext.refl wr).alloc _) (Nat.le_refl _)
      have hck2 := HCK.out w2 e2
      have E2 := hid e2
      have B2 := hid b2
      clear e2 b2 u2
      go_wp2_with (first | (go_at_call 17; refine (hs.out _).mono ?_; rintro e w' ⟨rfl, rfl⟩))
      refine (hlf.out w2 (HCT.out.ext (EW2.out.ext E2.out))).mono ?_
      rintro e w3 ⟨rfl, e3⟩
      go_wp2_with (first | (refine wpl_storew rfl _ (.tmp 10) _ rfl rfl rfl (Blk.mk_alloc rfl rfl) agg_apisum (by simp) HZV.out oz ?_))
      intro w4 b4 u4
      have e4 : Ext w2 w4 := e3.ext (u4.ext ((Ext.refl w3).alloc _) (Nat.le_refl _))
      have B4 := hid b4
      have B24 := hid (B2.out.ext e4)
      have E4 := hid (E2.out.ext e4)
      clear e3 e4 b4 u4 B2 E2 hck2
      go_wp2_with (first | (refine wpl_loadw rfl 36 (.tmp 10) rfl rfl B4.out agg_apisum HZV.out ?_) | (refine wpl_loadw rfl 36 (.tmp 9) rfl rfl B24.out agg_apisum HZV.out ?_) | (refine wpg_cmp rfl .neq _ _ _ _ rfl rfl rfl guard_sum HSE.out ?_))
      go_roundw
      case rel => exact ⟨k + 1, by omega, by go_num, E1.out.ext E4.out⟩
      case measure => simp [intOf]; omega
    · obtain rfl : k = M := by omega
      have EW := hid (EC.out.ext E1.out)
      have XD := hid (XC.out.ext E1.out)
      have YD := hid (YC.out.ext E1.out)
      have CD := hid (CV.out.ext E1.out)
      have hrt := hid (fun w' h => root_c ls av k cv w' HLL.out (by omega) H32.out hMc (by omega) h)
      unfold rootV at hrt
      rw [HLL.out] at hrt
      clear HC HI HAT XC YC EC CV E1
      by_cases hk0 : k = 0
      · subst hk0
        rw [if_pos rfl] at hrt
        unfold sumErr at hrt
        simp only at hrt
        have hzz : ∀ w, (binOp .eql 36 (.agg (zero32.map u8v).toArray) (.agg (List.replicate 32 (.int .u8 0)).toArray)).run Try.prog w = .ok (.bool true) w := fun w => by
          have := eq_self Try.underlying36 zero32 zero32_length w
          rw [zero32_map] at this ⊢
          exact this
        have HZZ := hid hzz
        have HZV : Hid ((zero32.map u8v).length = 32) := hid (by rw [List.length_map, zero32_length])
        have oz := one_u8 zero32
        clear hzz
        generalize zero32.map u8v = zv at *
        go_wp2_with fail
        refine (hrt.out wr CD.out).mono ?_
        rintro e w3 ⟨rfl, e3⟩
        go_wp2_with (first | (refine wpl_storew rfl _ (.tmp 12) _ rfl rfl rfl (Blk.mk_alloc rfl rfl) agg_apisum (by simp) HZV.out oz ?_))
        intro w4 b4 u4
        have E4 := hid (EW.out.ext (e3.ext (u4.ext ((Ext.refl w3).alloc _) (Nat.le_refl _))))
        have B4 := hid b4
        clear e3 b4 u4
        go_wp2_with (first | (refine wpg_loadw rfl 36 (.tmp 12) rfl rfl B4.out agg_apisum HZV.out ?_) | (refine wpg_cmp rfl .eql _ _ _ _ rfl rfl rfl guard_sum HZZ.out ?_))
        go_ret
        exact ⟨rfl, E4.out⟩
      · rw [if_neg hk0] at hrt
        unfold sumErr at hrt
        simp only at hrt
        have hrr := hid (fun w' h => rroot_c k ls cv av w' HLL.out (by omega) (by omega) H32.out hMc (by omega) h)
        have hpl := rootS_length nodeL nodeL_length H32.out
        generalize rootS nodeL ls = p at *
        have HPL := hid hpl
        have HPE := hid (fun w => eq_self Try.underlying36 p HPL.out w)
        have HPV : Hid ((p.map u8v).length = 32) := hid (by rw [List.length_map, hpl])
        have op := one_u8 p
        have d1 : ((k : Int) == 0) = false := by simp; omega
        have d2 : (k == 0) = false := by simp [hk0]
        clear hpl hk0
        go_wp2_with fail
        refine (hrt.out wr CD.out).mono ?_
        rintro e w3 ⟨rfl, e3⟩
        go_wp2_with (first | (refine wpl_storew rfl _ (.tmp 12) _ rfl rfl rfl (Blk.mk_alloc rfl rfl) agg_apisum (by simp) HPV.out op ?_))
        intro w4 b4 u4
        have e4 : Ext wr w4 := e3.ext (u4.ext ((Ext.refl w3).alloc _) (Nat.le_refl _))
        have E4 := hid (EW.out.ext e4)
        have X4 := hid (XD.out.ext e4)
        have Y4 := hid (YD.out.ext e4)
        have C4 := hid (CD.out.ext e4)
        have B4 := hid b4
        have hg := e3.size
        have hgw := EW.out.size
        clear e3 e4 b4 u4 XD YD CD EW hrt
        generalize w3.heap.size = g12 at *
        go_wp2
        obtain ⟨C, hC⟩ : ∃ C : World → Prop, C = Cls w4 w4 [w.heap.size, w.heap.size + 1, g12] [] := ⟨_, rfl⟩
        have hC0 : ∀ w', C w' ↔ Cls w4 w4 [w.heap.size, w.heap.size + 1, g12] [] w' := fun w' => by rw [hC]
        clear hC
        have HCC := hid hC0
        clear hC0
        have hCx : ∀ w w', C w → Ext w w' → C w' := fun w w' h1 h2 => (HCC.out w').2 (((HCC.out w).1 h1).ext h2)
        have hCA : C w4 := (HCC.out _).2 (Cls.no_room (Ext.refl _) (Kept.three X4.out.lt Y4.out.lt B4.out.lt))
        have hs1 : ∀ w1, C w1 → Blk w1 w.heap.size (x.map u8v) 36 := fun w1 h1 => ((HCC.out w1).1 h1).blk X4.out (by simp)
        have hs2 : ∀ w1, C w1 → Blk w1 (w.heap.size + 1) (y.map u8v) 36 := fun w1 h1 => ((HCC.out w1).1 h1).blk Y4.out (by simp)
        have hs3 : ∀ w1, C w1 → Blk w1 g12 (p.map u8v) 36 := fun w1 h1 => ((HCC.out w1).1 h1).blk B4.out (by simp)
        refine wp_region_held_drew (S := C) (by kernel_rfl) (hCx _ _ hCA (Ext.refl _).drew) (fun hS0 => ?_)
        refine held_take 0 (v := ?tv1) rfl (by kernel_rfl) (by kernel_rfl) (by kernel_rfl) (fun _ _ _ h => h) (.inl ⟨rfl, ?ty1⟩) hS0 ?tr1
        case ty1 => (intro _ _; go_simp; try with_reducible rfl)
        case tr1 =>
        simp only [Act.put, List.setIfInBounds_toArray, List.set_cons_succ, List.set_cons_zero]
        refine held_take 1 (v := ?tv2) rfl (by kernel_rfl) (by kernel_rfl) (by kernel_rfl) (fun _ _ _ h => h) (.inl ⟨rfl, ?ty2⟩) hS0 ?tr2
        case ty2 => (intro _ _; go_simp; try with_reducible rfl)
        case tr2 =>
        simp only [Act.put, List.setIfInBounds_toArray, List.set_cons_succ, List.set_cons_zero]
        refine held_take 2 (v := ?tv3) rfl (by kernel_rfl) (by kernel_rfl) (by kernel_rfl) (fun _ _ _ h => h) (.inl ⟨rfl, ?ty3⟩) hS0 ?tr3
        case ty3 => (intro _ _; go_simp; try with_reducible rfl)
        case tr3 =>
        simp only [Act.put, List.setIfInBounds_toArray, List.set_cons_succ, List.set_cons_zero]
        refine held_take 3 (v := _) rfl (by kernel_rfl) (by kernel_rfl) (by kernel_rfl) (fun _ _ _ h => h) (yieldsI_loadw rfl _ _ rfl rfl hs3 agg_apisum HPV.out) hS0 ?_
        simp only [Act.put, List.setIfInBounds_toArray, List.set_cons_succ, List.set_cons_zero]
        refine held_take 4 (v := ?tv4) rfl (by kernel_rfl) (by kernel_rfl) (by kernel_rfl) (fun _ _ _ h => h) (.inl ⟨rfl, ?ty4⟩) hS0 ?tr4
        case ty4 => (intro _ _; go_simp; try with_reducible rfl)
        case tr4 =>
        simp only [Act.put, List.setIfInBounds_toArray, List.set_cons_succ, List.set_cons_zero]
        generalize w4.drew = wD at *
        refine held_one (i := 5) (by kernel_rfl) rfl ?_
        intro Q' hQ
        go_wp2_with fail
        refine (hrr.out wD (C4.out.ext ((HCC.out wD).1 hS0).base)).mono ?_
        rintro e wE ⟨rfl, eE⟩
        have hE := hCx _ _ hS0 eE
        go_wp2_with fail
        refine hQ _ _ hE ?_
        clear hQ Q' hS0 eE hrr
        have hS0 := hE
        clear hE
        try dsimp only
        try simp only [Act.put, List.setIfInBounds_toArray, List.set_cons_succ, List.set_cons_zero]
        refine held_take 6 (v := _) rfl (by kernel_rfl) (by kernel_rfl) (by kernel_rfl) (fun _ _ _ h => h) (yieldsI_run rfl (fun w1 _ => exec_cmp rfl rfl rfl guard_sum HPE.out w1)) hS0 ?_
        simp only [Act.put, List.setIfInBounds_toArray, List.set_cons_succ, List.set_cons_zero]
        refine held_take 7 (v := ?tv5) rfl (by kernel_rfl) (by kernel_rfl) (by kernel_rfl) (fun _ _ _ h => h) (.inl ⟨rfl, ?ty5⟩) hS0 ?tr5
        case ty5 => (intro _ _; go_simp; try with_reducible rfl)
        case tr5 =>
        simp only [Act.put, List.setIfInBounds_toArray, List.set_cons_succ, List.set_cons_zero]
        refine held_take 8 (v := ?tv6) rfl (by kernel_rfl) (by kernel_rfl) (by kernel_rfl) (fun _ _ _ h => h) (.inl ⟨rfl, ?ty6⟩) hS0 ?tr6
        case ty6 => (intro _ _; go_simp; try with_reducible rfl)
        case tr6 =>
        simp only [Act.put, List.setIfInBounds_toArray, List.set_cons_succ, List.set_cons_zero]
        refine held_take 9 (v := _) rfl (by kernel_rfl) (by kernel_rfl) (by kernel_rfl) (fun _ _ _ h => h) (yieldsI_loadw rfl _ _ rfl rfl hs1 agg_apisum HX.out) hS0 ?_
        simp only [Act.put, List.setIfInBounds_toArray, List.set_cons_succ, List.set_cons_zero]
        refine held_take 10 (v := _) rfl (by kernel_rfl) (by kernel_rfl) (by kernel_rfl) (fun _ _ _ h => h) (yieldsI_loadw rfl _ _ rfl rfl hs2 agg_apisum HY.out) hS0 ?_
        simp only [Act.put, List.setIfInBounds_toArray, List.set_cons_succ, List.set_cons_zero]
        refine held_take 12 (v := _) rfl (by kernel_rfl) (by kernel_rfl) (by kernel_rfl) (fun _ _ _ h => h) (yieldsI_loadw rfl _ _ rfl rfl hs1 agg_apisum HX.out) hS0 ?_
        simp only [Act.put, List.setIfInBounds_toArray, List.set_cons_succ, List.set_cons_zero]
        refine held_take 13 (v := _) rfl (by kernel_rfl) (by kernel_rfl) (by kernel_rfl) (fun _ _ _ h => h) (yieldsI_loadw rfl _ _ rfl rfl hs2 agg_apisum HY.out) hS0 ?_
        simp only [Act.put, List.setIfInBounds_toArray, List.set_cons_succ, List.set_cons_zero]
        refine held_one (i := 11) (by kernel_rfl) rfl ?_
        intro Q' hQ
        go_wp2_with fail
        refine (N1.out wE).mono ?_
        rintro e wF ⟨rfl, eF⟩
        have hF := hCx _ _ hS0 eF
        go_wp2_with fail
        refine hQ _ _ hF ?_
        clear hQ Q' hS0 eF
        try dsimp only
        try simp only [Act.put, List.setIfInBounds_toArray, List.set_cons_succ, List.set_cons_zero]
        refine held_one (i := 14) (by kernel_rfl) rfl ?_
        intro Q' hQ
        go_wp2_with fail
        refine (N2.out wF).mono ?_
        rintro e wG ⟨rfl, eG⟩
        have hS0 := hCx _ _ hF eG
        go_wp2_with fail
        refine hQ _ _ hS0 ?_
        clear hQ Q' hF eG
        try dsimp only
        try simp only [Act.put, List.setIfInBounds_toArray, List.set_cons_succ, List.set_cons_zero]
        refine held_take 15 (v := _) rfl (by kernel_rfl) (by kernel_rfl) (by kernel_rfl) (fun _ _ _ h => h) (yieldsI_run rfl (fun w1 _ => exec_cmp rfl rfl rfl guard_sum HNE.out w1)) hS0 ?_
        simp only [Act.put, List.setIfInBounds_toArray, List.set_cons_succ, List.set_cons_zero]
        refine held_take 16 (v := ?tv7) rfl (by kernel_rfl) (by kernel_rfl) (by kernel_rfl) (fun _ _ _ h => h) (.inl ⟨rfl, ?ty7⟩) hS0 ?tr7
        case ty7 => (intro _ _; go_simp; try with_reducible rfl)
        case tr7 =>
        simp only [Act.put, List.setIfInBounds_toArray, List.set_cons_succ, List.set_cons_zero]
        refine held_one (i := 17) (by kernel_rfl) rfl ?_
        intro Q' hQ
        go_wp2_with fail
        refine hQ _ _ hS0 ?_
        clear hQ Q'
        have EG := hid (E4.out.ext ((HCC.out wG).1 hS0).base)
        refine wpAnyH_done (by kernel_rfl) ?_ _
        go_wp2
        go_ret
        exact ⟨rfl, EG.out⟩
end

section
open Go Go.RowKit

def printE (I Z : Int) (m : Nat) : Int := if I < 0 ∨ 65536 < I ∨ Z < 0 ∨ 65536 < Z then 4 else if 64 < m then 5 else 0
def printL (I Z : Int) (ls : List (List UInt8)) : List UInt8 := longL (UInt64.ofNat I.toNat) ++ longL (UInt64.ofNat Z.toNat) ++ octL (UInt32.ofNat ls.length) ++ ls.flatten
theorem octL_length (x : UInt32) : (octL x).length = 4 := rfl
theorem printL_length (I Z : Int) {ls : List (List UInt8)} (h : All32 ls) : (printL I Z ls).length = 20 + 32 * ls.length := by
  unfold printL
  rw [List.length_append, List.length_append, List.length_append, longL_length, longL_length, octL_length, flat_length h]

set_option maxRecDepth 100000 in
set_option maxHeartbeats 1000000 in
theorem proofFault_c (I Z : Int) (m c : Nat) (a : Option Addr) (w : World) :
    Calls Try.prog 33 #[.agg #[.int .i64 I, .int .i64 Z, .slice a m c]] w fun e w' => e = .returned (.int .i64 (printE I Z m)) ∧ Ext w w' := by
  obtain ⟨V, hV⟩ : ∃ V, printE I Z m = V := ⟨_, rfl⟩
  rw [hV]
  unfold printE at hV
  have HV := hid hV
  clear hV
  go_enter Try.func33, Try.ntmps33
  go_upto_region 1 with (fail)
  generalize hwA : World.alloc w _ = wA
  have pA : Blk wA w.heap.size [.int .i64 I, .int .i64 Z, .slice a m c] 24 := by rw [← hwA]; exact Blk.mk_alloc rfl rfl
  have eA : Ext w wA := by rw [← hwA]; exact (Ext.refl w).alloc _
  clear hwA
  have c0 : wA.cell? ⟨w.heap.size, 0, none⟩ = some (.int .i64 I) := pA.cell' rfl
  have c1 : wA.cell? ⟨w.heap.size, 1, none⟩ = some (.int .i64 Z) := pA.cell' rfl
  have c2 : wA.cell? ⟨w.heap.size, 2, none⟩ = some (.slice a m c) := pA.cell' rfl
  have EA := hid eA
  clear pA eA
  have hv := HV.out
  clear HV
  by_cases a1 : I < 0
  · rw [if_pos (.inl a1)] at hv
    subst hv
    have d1 : decide (I < 0) = true := decide_eq_true a1
    go_wp2
    go_ret
    exact ⟨rfl, EA.out⟩
  have d1 : decide (I < 0) = false := decide_eq_false a1
  by_cases a2 : 65536 < I
  · rw [if_pos (.inr (.inl a2))] at hv
    subst hv
    have d2 : decide (65536 < I) = true := decide_eq_true a2
    go_wp2
    go_ret
    exact ⟨rfl, EA.out⟩
  have d2 : decide (65536 < I) = false := decide_eq_false a2
  by_cases a3 : Z < 0
  · rw [if_pos (.inr (.inr (.inl a3)))] at hv
    subst hv
    have d3 : decide (Z < 0) = true := decide_eq_true a3
    go_wp2
    go_ret
    exact ⟨rfl, EA.out⟩
  have d3 : decide (Z < 0) = false := decide_eq_false a3
  by_cases a4 : 65536 < Z
  · rw [if_pos (.inr (.inr (.inr a4)))] at hv
    subst hv
    have d4 : decide (65536 < Z) = true := decide_eq_true a4
    go_wp2
    go_ret
    exact ⟨rfl, EA.out⟩
  have d4 : decide (65536 < Z) = false := decide_eq_false a4
  rw [if_neg (by omega)] at hv
  by_cases a5 : 64 < m
  · rw [if_pos a5] at hv
    subst hv
    have d5 : decide (64 < m) = true := decide_eq_true a5
    have d6 : decide ((64 : Int) < (m : Int)) = true := decide_eq_true (by omega)
    go_wp2
    go_ret
    exact ⟨rfl, EA.out⟩
  · rw [if_neg a5] at hv
    subst hv
    have d5 : decide (64 < m) = false := decide_eq_false a5
    have d6 : decide ((64 : Int) < (m : Int)) = false := decide_eq_false (by omega)
    go_wp2
    go_ret
    exact ⟨rfl, EA.out⟩

def printPost (I Z : Int) (ls : List (List UInt8)) (w : World) (e : Ending) (w' : World) : Prop :=
  ∃ v, e = .returned (.tuple #[v, .int .i64 (printE I Z ls.length)]) ∧ (if printE I Z ls.length = 0 then w'.ownsRow w.heap.size 5 1 v (20 + 32 * ls.length) ((printL I Z ls).map u8v) else v = .slice none 0 0) ∧ Ext w w'

set_option maxRecDepth 100000 in
set_option maxHeartbeats 2000000 in
theorem printProof_c (I Z : Int) (ls : List (List UInt8)) (m c : Nat) (a : Option Addr) (w : World) (h32 : All32 ls) (hm : ls.length = m) (hmc : m ≤ c) (hcl : Cells w a (rows ls)) :
    Calls Try.prog 8 #[.agg #[.int .i64 I, .int .i64 Z, .slice a m c]] w (printPost I Z ls w) := by
  have hpf := hid (fun w' => proofFault_c I Z m c a w')
  have H32 := hid h32
  have HM := hid hm
  have HC := hid hcl
  have hpl := printL_length I Z h32
  clear h32 hm hcl
  by_cases hE : printE I Z m = 0
  · have hIZ : 0 ≤ I ∧ I ≤ 65536 ∧ 0 ≤ Z ∧ Z ≤ 65536 ∧ m ≤ 64 := by
      unfold printE at hE
      split at hE
      · cases hE
      · split at hE
        · cases hE
        · omega
    rw [hE] at hpf
    have HE := hid hE
    clear hE
    obtain ⟨i1, i2, z1, z2, m1⟩ := hIZ
    obtain ⟨i, rfl⟩ := Int.eq_ofNat_of_zero_le i1
    obtain ⟨z, rfl⟩ := Int.eq_ofNat_of_zero_le z1
    have hlI : longNat (i : Int) = i := by unfold longNat; rw [if_neg (by omega)]; rfl
    have hlZ : longNat (z : Int) = z := by unfold longNat; rw [if_neg (by omega)]; rfl
    have hp1 := hid (fun w' => putLong_c [] none 0 0 (i : Int) w' rfl (by omega) (.inl rfl) (fun _ => rfl))
    have hp2 := hid (fun a' c' w' h h0 => putLong_c ([] ++ longL (UInt64.ofNat i)) a' 8 c' (z : Int) w' (by rw [List.nil_append, longL_length]) (by omega) h h0)
    rw [hlI] at hp1
    rw [hlZ] at hp2
    have hp3 := hid (fun a' c' w' h h0 => putNumber_c ([] ++ longL (UInt64.ofNat i) ++ longL (UInt64.ofNat z)) a' 16 c' (UInt32.ofNat m) w' (by rw [List.nil_append, List.length_append, longL_length, longL_length]) (by omega) h h0)
    have hun : ((UInt32.ofNat m).toNat : Int) = (m : Int) := by rw [u32_ofNat]; omega
    rw [hun] at hp3
    clear hun hlI hlZ
    go_enter Try.func8, Try.ntmps8
    go_upto_region 1 with (fail)
    generalize hwA : World.alloc w _ = wA
    have pA : Blk wA w.heap.size [.int .i64 (i : Int), .int .i64 (z : Int), .slice a m c] 24 := by rw [← hwA]; exact Blk.mk_alloc rfl rfl
    have eA : Ext w wA := by rw [← hwA]; exact (Ext.refl w).alloc _
    clear hwA
    have PA := hid pA
    have EA := hid eA
    clear pA eA
    go_wp2_with (refine wpl_loadw rfl 24 _ rfl rfl PA.out agg_proof rfl ?_)
    refine (hpf.out wA).mono ?_
    rintro e wB ⟨rfl, eB⟩
    have PB := hid (PA.out.ext eB)
    have EB := hid (EA.out.ext eB)
    clear eB PA EA hpf
    go_wp2
    obtain ⟨C, hC⟩ : ∃ C : World → Prop, C = Cls w wB [w.heap.size] [] := ⟨_, rfl⟩
    have hC0 : ∀ w', C w' ↔ Cls w wB [w.heap.size] [] w' := fun w' => by rw [hC]
    clear hC
    have HCC := hid hC0
    clear hC0
    have hCx : ∀ w w', C w → Ext w w' → C w' := fun w w' h1 h2 => (HCC.out w').2 (((HCC.out w).1 h1).ext h2)
    have hCA : C wB := (HCC.out _).2 (Cls.no_room EB.out (Kept.one PB.out.lt))
    have e0 : ∀ w1, C w1 → w1.cell? ⟨w.heap.size, 0, none⟩ = some (.int .i64 (i : Int)) := fun w1 h1 => (((HCC.out w1).1 h1).blk PB.out (by simp)).cell' rfl
    have e1 : ∀ w1, C w1 → w1.cell? ⟨w.heap.size, 1, none⟩ = some (.int .i64 (z : Int)) := fun w1 h1 => (((HCC.out w1).1 h1).blk PB.out (by simp)).cell' rfl
    refine wp_region_held_drew (S := C) (by kernel_rfl) (hCx _ _ hCA (Ext.refl _).drew) (fun hS0 => ?_)
    refine held_take 0 (v := ?tv1) rfl (by kernel_rfl) (by kernel_rfl) (by kernel_rfl) (fun _ _ _ h => h) (.inl ⟨rfl, ?ty1⟩) hS0 ?tr1
    case ty1 => (intro _ _; go_simp; try with_reducible rfl)
    case tr1 =>
    simp only [Act.put, List.setIfInBounds_toArray, List.set_cons_succ, List.set_cons_zero]
    refine held_take 1 (v := ?tv2) rfl (by kernel_rfl) (by kernel_rfl) (by kernel_rfl) (fun _ _ _ h => h) (.inl ⟨rfl, ?ty2⟩) hS0 ?tr2
    case ty2 => (intro wq hwq; have hcq := (e0) wq hwq; go_simp; try with_reducible rfl)
    case tr2 =>
    simp only [Act.put, List.setIfInBounds_toArray, List.set_cons_succ, List.set_cons_zero]
    refine held_take 3 (v := ?tv3) rfl (by kernel_rfl) (by kernel_rfl) (by kernel_rfl) (fun _ _ _ h => h) (.inl ⟨rfl, ?ty3⟩) hS0 ?tr3
    case ty3 => (intro _ _; go_simp; try with_reducible rfl)
    case tr3 =>
    simp only [Act.put, List.setIfInBounds_toArray, List.set_cons_succ, List.set_cons_zero]
    refine held_take 4 (v := ?tv4) rfl (by kernel_rfl) (by kernel_rfl) (by kernel_rfl) (fun _ _ _ h => h) (.inl ⟨rfl, ?ty4⟩) hS0 ?tr4
    case ty4 => (intro wq hwq; have hcq := (e1) wq hwq; go_simp; try with_reducible rfl)
    case tr4 =>
    simp only [Act.put, List.setIfInBounds_toArray, List.set_cons_succ, List.set_cons_zero]
    generalize wB.drew = wD at *
    have hwD : wB.heap.size ≤ wD.heap.size := ((HCC.out wD).1 hS0).kept.1
    refine held_one (i := 2) (by kernel_rfl) rfl ?_
    intro Q' hQ
    go_wp2_with fail
    refine (hp1.out wD).mono ?_
    rintro e wE ⟨v1, rfl, own1, eE⟩
    obtain ⟨a1, k1, rfl, -, -, hn1, hc1⟩ := own_slice own1
    have hE := hCx _ _ hS0 eE
    go_wp2_with fail
    refine hQ _ _ hE ?_
    clear hQ Q' hS0 eE own1
    have C1 := hid hc1
    have N1 := hid hn1
    clear hc1 hn1
    try dsimp only
    try simp only [Act.put, List.setIfInBounds_toArray, List.set_cons_succ, List.set_cons_zero]
    refine held_one (i := 5) (by kernel_rfl) rfl ?_
    intro Q' hQ
    go_wp2_with fail
    refine (hp2.out a1 k1 wE C1.out N1.out).mono ?_
    rintro e wF ⟨v2, rfl, own2, eF⟩
    obtain ⟨a2, k2, rfl, -, -, hn2, hc2⟩ := own_slice own2
    have hF := hCx _ _ hE eF
    go_wp2_with fail
    refine hQ _ _ hF ?_
    clear hQ Q' hE eF own2 C1 N1
    have C2 := hid hc2
    have N2 := hid hn2
    clear hc2 hn2
    try dsimp only
    try simp only [Act.put, List.setIfInBounds_toArray, List.set_cons_succ, List.set_cons_zero]
    refine held_one (i := 6) (by kernel_rfl) rfl ?_
    intro Q' hQ
    go_wp2_with fail
    refine hQ _ _ hF ?_
    clear hQ Q'
    refine wpAnyH_done (by kernel_rfl) ?_ _
    have PF := hid (((HCC.out wF).1 hF).blk PB.out (by simp))
    have EF := hid ((HCC.out wF).1 hF).base
    have c2 : wF.cell? ⟨w.heap.size, 2, none⟩ = some (.slice a m c) := PF.out.cell' rfl
    clear hF HCC hCx hCA e0 e1 PB EB hp1 hp2
    go_wp2_with fail
    refine (hp3.out a2 k2 wF C2.out N2.out).mono ?_
    rintro e wG ⟨v3, rfl, own3, eG⟩
    have hpre : ([] ++ longL (UInt64.ofNat i) ++ longL (UInt64.ofNat z) ++ octL (UInt32.ofNat m)) ++ ls.flatten = printL (i : Int) (z : Int) ls := by
      unfold printL
      rw [HM.out]
      simp only [List.nil_append, Int.toNat_natCast]
    have HPRE := hid hpre
    have own4 := own_lower own3 (show w.heap.size ≤ wF.heap.size from EF.out.size)
    generalize ([] ++ longL (UInt64.ofNat i) ++ longL (UInt64.ofNat z) ++ octL (UInt32.ofNat m)) = pre at *
    have O3 := hid own4
    have PG := hid (PF.out.ext eG)
    have EG := hid (EF.out.ext eG)
    have c2 : wG.cell? ⟨w.heap.size, 2, none⟩ = some (.slice a m c) := PG.out.cell' rfl
    clear own3 own4 eG PF EF C2 N2 hp3 hpre
    go_wp2
    go_loopw [5, 28] (fun v i wr => ∃ k : Nat, k ≤ m ∧ i = .int .i64 (k : Int) ∧ wr.ownsRow w.heap.size 5 1 v (20 + 32 * k) ((pre ++ (ls.take k).flatten).map u8v) ∧ Ext w wr) (fun _ i _ => m - (intOf i).toNat)
    case atStart => exact ⟨0, by omega, rfl, by simpa using O3.out, EG.out⟩
    case round =>
      obtain ⟨k, hk, rfl, own, e1⟩ := hrel
      have O1 := hid own
      have E1 := hid e1
      have hb1 := e1.size
      clear own e1
      by_cases hlt : k < m
      · obtain ⟨pk, hpk⟩ : ∃ pk, ls[k]? = some pk := ⟨ls[k]'(by rw [HM.out]; exact hlt), by simp⟩
        have hpk32 := H32.out.at hpk
        obtain ⟨A, rfl, hca⟩ : ∃ A, a = some A ∧ CellsAt wr (A.add (k * 32)) (pk.map u8v) := by
          cases a with
          | none => rcases HC.out with h | ⟨_, _, h, _⟩
                    · have := rows_length H32.out; rw [h, HM.out] at this; simp at this; omega
                    · cases h
          | some A => exact ⟨A, rfl, (HC.out.rowAt H32.out hpk).ext E1.out⟩
        have hnx : pre ++ (ls.take (k + 1)).flatten = (pre ++ (ls.take k).flatten) ++ pk := by rw [List.take_add_one, hpk]; simp
        generalize pre ++ (ls.take k).flatten = W8 at *
        have HNX := hid hnx
        have HCA := hid hca
        have HP0 := hid hpk32
        have HPV : Hid ((pk.map u8v).length = 32) := hid (by rw [List.length_map, hpk32])
        have op := one_u8 pk
        clear hpk hpk32 hca hnx c2
        go_wp2_with (first | (refine wpl_run rfl (exec_index (i := k) rfl rfl rfl Try.underlying22 size_apisum hlt wr) ?_) | (refine wpl_run rfl (exec_load_at rfl rfl HCA.out agg_apisum HPV.out) ?_) | (refine wpl_storew rfl _ (.tmp 7) _ rfl rfl rfl (Blk.mk_alloc rfl rfl) agg_apisum (by simp) HPV.out op ?_))
        intro w2 b2 u2
        have e2 : Ext wr w2 := u2.ext ((Ext.refl wr).alloc _) (Nat.le_refl _)
        have O2 := hid (ownsRow_ext O1.out e2)
        have E2 := hid (E1.out.ext e2)
        have B2 := hid (Cells.of_blk0 b2)
        have hb2 : w.heap.size ≤ w2.heap.size := E2.out.size
        clear e2 u2 O1 b2
        go_wp2_with (first | (at_builtin; refine wpl_append8 rfl _ _ rfl w.heap.size (ys := pk) rfl rfl O2.out HP0.out (by intro h; cases h) B2.out (by omega) hb2 ?_))
        intro v4 w4 own4 g4
        have hv4 := own_block_ge O2.out
        have E4 := hid (E2.out.grown g4 (by intro q hq; exact hv4 _ hq))
        have own4' : w4.ownsRow w.heap.size 5 1 v4 (20 + 32 * (k + 1)) ((pre ++ (ls.take (k + 1)).flatten).map u8v) := by
          rw [HNX.out, show 20 + 32 * (k + 1) = 20 + 32 * k + 32 by omega, List.map_append]; exact own4
        have O4 := hid own4'
        clear own4 own4' g4 hv4 O2 E2 B2
        go_wp2
        go_roundw
        case rel => exact ⟨k + 1, by omega, by go_num, O4.out, E4.out⟩
        case measure => simp [intOf]; omega
      · obtain rfl : k = m := by omega
        have own := O1.out
        rw [List.take_of_length_le (by rw [HM.out]; omega), HPRE.out] at own
        have O2 := hid own
        clear own O1 c2
        go_wp2
        go_ret2
        exact ⟨_, by rw [HM.out, HE.out]; rfl, by rw [HM.out, HE.out, if_pos rfl]; exact O2.out, E1.out⟩
  · obtain ⟨E, hEe⟩ : ∃ E, printE I Z m = E := ⟨_, rfl⟩
    rw [hEe] at hE hpf
    have HEE := hid hEe
    have d1 : (E != 0) = true := by simp [hE]
    have HNE := hid hE
    clear hEe hE
    go_enter Try.func8, Try.ntmps8
    go_upto_region 1 with (fail)
    generalize hwA : World.alloc w _ = wA
    have pA : Blk wA w.heap.size [.int .i64 I, .int .i64 Z, .slice a m c] 24 := by rw [← hwA]; exact Blk.mk_alloc rfl rfl
    have eA : Ext w wA := by rw [← hwA]; exact (Ext.refl w).alloc _
    clear hwA
    have PA := hid pA
    have EA := hid eA
    clear pA eA
    go_wp2_with (refine wpl_loadw rfl 24 _ rfl rfl PA.out agg_proof rfl ?_)
    refine (hpf.out wA).mono ?_
    rintro e wB ⟨rfl, eB⟩
    have EB := hid (EA.out.ext eB)
    clear eB PA EA hpf
    go_wp2
    go_ret2
    exact ⟨_, by rw [HM.out, HEE.out]; rfl, by rw [HM.out, HEE.out, if_neg HNE.out]; rfl, EB.out⟩
end

section
open Go Go.RowKit

theorem own_of_blk {w : World} {g : Nat} {l : List UInt8} {n base : Nat} (hb : Blk w g (l.map u8v) 5) (hn : l.length = n) (hg : base ≤ g) (hm : n ≤ 9223372036854775807) : w.ownsRow base 5 1 (.slice (some ⟨g, 0, none⟩) n n) n (l.map u8v) := by
  refine ⟨by simp [hn], .inr ⟨g, n, (l.map u8v).toArray, rfl, hg, hb, Nat.le_refl _, by unfold maxLen; omega, by simp [hn], ?_⟩⟩
  rw [List.take_of_length_le (by simp [hn])]

set_option maxRecDepth 100000 in
set_option maxHeartbeats 2000000 in
theorem rprintProof_c (I Z : Int) (ls : List (List UInt8)) (m c : Nat) (a : Option Addr) (w : World) (h32 : All32 ls) (hm : ls.length = m) (hmc : m ≤ c) (hcl : Cells w a (rows ls)) :
    Calls Try.prog 9 #[.agg #[.int .i64 I, .int .i64 Z, .slice a m c]] w (printPost I Z ls w) := by
  have H32 := hid h32
  have HM := hid hm
  have HC := hid hcl
  clear h32 hm hcl
  obtain ⟨E, hEe⟩ : ∃ E, printE I Z m = E := ⟨_, rfl⟩
  have HEE := hid hEe
  unfold printE at hEe
  go_enter Try.func9, Try.ntmps9
  go_upto_region 1 with (fail)
  generalize hwA : World.alloc w _ = wA
  have pA : Blk wA w.heap.size [.int .i64 I, .int .i64 Z, .slice a m c] 24 := by rw [← hwA]; exact Blk.mk_alloc rfl rfl
  have eA : Ext w wA := by rw [← hwA]; exact (Ext.refl w).alloc _
  clear hwA
  have c0 : wA.cell? ⟨w.heap.size, 0, none⟩ = some (.int .i64 I) := pA.cell' rfl
  have c1 : wA.cell? ⟨w.heap.size, 1, none⟩ = some (.int .i64 Z) := pA.cell' rfl
  have c2 : wA.cell? ⟨w.heap.size, 2, none⟩ = some (.slice a m c) := pA.cell' rfl
  have EA := hid eA
  have PA := hid pA
  clear pA eA
  by_cases a1 : I < 0
  · rw [if_pos (.inl a1)] at hEe
    subst hEe
    have HNE : Hid (¬ (4 : Int) = 0) := hid (by decide)
    have d1 : decide (I < 0) = true := decide_eq_true a1
    go_wp2
    go_ret2
    exact ⟨_, by rw [HM.out, HEE.out]; rfl, by rw [HM.out, HEE.out, if_neg HNE.out]; rfl, EA.out⟩
  have d1 : decide (I < 0) = false := decide_eq_false a1
  by_cases a2 : 65536 < I
  · rw [if_pos (.inr (.inl a2))] at hEe
    subst hEe
    have HNE : Hid (¬ (4 : Int) = 0) := hid (by decide)
    have d2 : decide (65536 < I) = true := decide_eq_true a2
    go_wp2
    go_ret2
    exact ⟨_, by rw [HM.out, HEE.out]; rfl, by rw [HM.out, HEE.out, if_neg HNE.out]; rfl, EA.out⟩
  have d2 : decide (65536 < I) = false := decide_eq_false a2
  by_cases a3 : Z < 0
  · rw [if_pos (.inr (.inr (.inl a3)))] at hEe
    subst hEe
    have HNE : Hid (¬ (4 : Int) = 0) := hid (by decide)
    have d3 : decide (Z < 0) = true := decide_eq_true a3
    go_wp2
    go_ret2
    exact ⟨_, by rw [HM.out, HEE.out]; rfl, by rw [HM.out, HEE.out, if_neg HNE.out]; rfl, EA.out⟩
  have d3 : decide (Z < 0) = false := decide_eq_false a3
  by_cases a4 : 65536 < Z
  · rw [if_pos (.inr (.inr (.inr a4)))] at hEe
    subst hEe
    have HNE : Hid (¬ (4 : Int) = 0) := hid (by decide)
    have d4 : decide (65536 < Z) = true := decide_eq_true a4
    go_wp2
    go_ret2
    exact ⟨_, by rw [HM.out, HEE.out]; rfl, by rw [HM.out, HEE.out, if_neg HNE.out]; rfl, EA.out⟩
  have d4 : decide (65536 < Z) = false := decide_eq_false a4
  rw [if_neg (by omega)] at hEe
  by_cases a5 : 64 < m
  · rw [if_pos a5] at hEe
    subst hEe
    have HNE : Hid (¬ (5 : Int) = 0) := hid (by decide)
    have d5 : decide (64 < m) = true := decide_eq_true a5
    have d6 : decide ((64 : Int) < (m : Int)) = true := decide_eq_true (by omega)
    go_wp2
    go_ret2
    exact ⟨_, by rw [HM.out, HEE.out]; rfl, by rw [HM.out, HEE.out, if_neg HNE.out]; rfl, EA.out⟩
  rw [if_neg a5] at hEe
  subst hEe
  have d5 : decide (64 < m) = false := decide_eq_false a5
  have d6 : decide ((64 : Int) < (m : Int)) = false := decide_eq_false (by omega)
  obtain ⟨i, rfl⟩ := Int.eq_ofNat_of_zero_le (show 0 ≤ I by omega)
  obtain ⟨z, rfl⟩ := Int.eq_ofNat_of_zero_le (show 0 ≤ Z by omega)
  have hp1 := hid (fun w' => rlong_c i w' (by omega))
  have hp2 := hid (fun w' => rlong_c z w' (by omega))
  have hp3 := hid (fun w' => rshort_c m w' (by omega))
  have hpre : (longL (UInt64.ofNat i) ++ longL (UInt64.ofNat z)) ++ octL (UInt32.ofNat m) ++ ls.flatten = printL (i : Int) (z : Int) ls := by
    unfold printL
    rw [HM.out]
    simp only [Int.toNat_natCast]
  have HPRE := hid hpre
  have HL1 := hid (longL_length (UInt64.ofNat i))
  have HL2 := hid (longL_length (UInt64.ofNat z))
  have HL3 := hid (octL_length (UInt32.ofNat m))
  clear hpre
  generalize longL (UInt64.ofNat i) = l1 at *
  generalize longL (UInt64.ofNat z) = l2 at *
  generalize octL (UInt32.ofNat m) = l3 at *
  have f1 : decide (i < 0) = false := decide_eq_false (by omega)
  have f2 : decide (65536 < i) = false := decide_eq_false (by omega)
  have f3 : decide (z < 0) = false := decide_eq_false (by omega)
  have f4 : decide (65536 < z) = false := decide_eq_false (by omega)
  go_wp2
  clear f1 f2 f3 f4
  obtain ⟨C, hC⟩ : ∃ C : World → Prop, C = Cls w wA [w.heap.size] [] := ⟨_, rfl⟩
  have hC0 : ∀ w', C w' ↔ Cls w wA [w.heap.size] [] w' := fun w' => by rw [hC]
  clear hC
  have HCC := hid hC0
  clear hC0
  have hCx : ∀ w w', C w → Ext w w' → C w' := fun w w' h1 h2 => (HCC.out w').2 (((HCC.out w).1 h1).ext h2)
  have hCA : C wA := (HCC.out _).2 (Cls.no_room EA.out (Kept.one PA.out.lt))
  have e0 : ∀ w1, C w1 → w1.cell? ⟨w.heap.size, 0, none⟩ = some (.int .i64 (i : Int)) := fun w1 h1 => (((HCC.out w1).1 h1).blk PA.out (by simp)).cell' rfl
  have e1 : ∀ w1, C w1 → w1.cell? ⟨w.heap.size, 1, none⟩ = some (.int .i64 (z : Int)) := fun w1 h1 => (((HCC.out w1).1 h1).blk PA.out (by simp)).cell' rfl
  have e2 : ∀ w1, C w1 → w1.cell? ⟨w.heap.size, 2, none⟩ = some (.slice a m c) := fun w1 h1 => (((HCC.out w1).1 h1).blk PA.out (by simp)).cell' rfl
  have hwl : w.heap.size ≤ wA.heap.size := EA.out.size
  refine wp_region_held_drew (S := C) (by kernel_rfl) (hCx _ _ hCA (Ext.refl _).drew) (fun hS0 => ?_)
  clear c0 c1 c2
  refine held_take 0 (v := ?tv1) rfl (by kernel_rfl) (by kernel_rfl) (by kernel_rfl) (fun _ _ _ h => h) (.inl ⟨rfl, ?ty1⟩) hS0 ?tr1
  case ty1 => (intro _ _; go_simp; try with_reducible rfl)
  case tr1 =>
  simp only [Act.put, List.setIfInBounds_toArray, List.set_cons_succ, List.set_cons_zero]
  refine held_take 1 (v := ?tv2) rfl (by kernel_rfl) (by kernel_rfl) (by kernel_rfl) (fun _ _ _ h => h) (.inl ⟨rfl, ?ty2⟩) hS0 ?tr2
  case ty2 => (intro wq hwq; have hcq := (e0) wq hwq; go_simp; try with_reducible rfl)
  case tr2 =>
  simp only [Act.put, List.setIfInBounds_toArray, List.set_cons_succ, List.set_cons_zero]
  refine held_take 3 (v := ?tv3) rfl (by kernel_rfl) (by kernel_rfl) (by kernel_rfl) (fun _ _ _ h => h) (.inl ⟨rfl, ?ty3⟩) hS0 ?tr3
  case ty3 => (intro _ _; go_simp; try with_reducible rfl)
  case tr3 =>
  simp only [Act.put, List.setIfInBounds_toArray, List.set_cons_succ, List.set_cons_zero]
  refine held_take 4 (v := ?tv4) rfl (by kernel_rfl) (by kernel_rfl) (by kernel_rfl) (fun _ _ _ h => h) (.inl ⟨rfl, ?ty4⟩) hS0 ?tr4
  case ty4 => (intro wq hwq; have hcq := (e1) wq hwq; go_simp; try with_reducible rfl)
  case tr4 =>
  simp only [Act.put, List.setIfInBounds_toArray, List.set_cons_succ, List.set_cons_zero]
  refine held_take 7 (v := ?tv5) rfl (by kernel_rfl) (by kernel_rfl) (by kernel_rfl) (fun _ _ _ h => h) (.inl ⟨rfl, ?ty5⟩) hS0 ?tr5
  case ty5 => (intro _ _; go_simp; try with_reducible rfl)
  case tr5 =>
  simp only [Act.put, List.setIfInBounds_toArray, List.set_cons_succ, List.set_cons_zero]
  refine held_take 8 (v := ?tv6) rfl (by kernel_rfl) (by kernel_rfl) (by kernel_rfl) (fun _ _ _ h => h) (.inl ⟨rfl, ?ty6⟩) hS0 ?tr6
  case ty6 => (intro wq hwq; have hcq := (e2) wq hwq; go_simp; try with_reducible rfl)
  case tr6 =>
  simp only [Act.put, List.setIfInBounds_toArray, List.set_cons_succ, List.set_cons_zero]
  refine held_take 9 (v := ?tv7) rfl (by kernel_rfl) (by kernel_rfl) (by kernel_rfl) (fun _ _ _ h => h) (.inl ⟨rfl, ?ty7⟩) hS0 ?tr7
  case ty7 => (intro _ _; go_simp; try with_reducible rfl)
  case tr7 =>
  simp only [Act.put, List.setIfInBounds_toArray, List.set_cons_succ, List.set_cons_zero]
  generalize wA.drew = wD at *
  have hwD : wA.heap.size ≤ wD.heap.size := ((HCC.out wD).1 hS0).kept.1
  refine held_one (i := 2) (by kernel_rfl) rfl ?_
  intro Q' hQ
  go_wp2_with fail
  refine (hp1.out wD).mono ?_
  rintro e wE ⟨rfl, b1, eE⟩
  have hE := hCx _ _ hS0 eE
  go_wp2_with fail
  refine hQ _ _ hE ?_
  clear hQ Q' hS0 eE
  have B1 := hid b1
  clear b1
  try dsimp only
  try simp only [Act.put, List.setIfInBounds_toArray, List.set_cons_succ, List.set_cons_zero]
  refine held_one (i := 5) (by kernel_rfl) rfl ?_
  intro Q' hQ
  go_wp2_with fail
  refine (hp2.out wE).mono ?_
  rintro e wF ⟨rfl, b2, eF⟩
  have hF := hCx _ _ hE eF
  go_wp2_with fail
  refine hQ _ _ hF ?_
  have O1 := hid (own_of_blk (B1.out.ext eF) HL1.out hwD (by omega))
  have C2 := hid (Cells.of_blk0 b2)
  have hbF : wA.heap.size ≤ wF.heap.size := ((HCC.out wF).1 hF).kept.1
  clear hQ Q' hE eF B1 b2
  generalize wD.heap.size = g1 at *
  generalize wE.heap.size = g2 at *
  try dsimp only
  try simp only [Act.put, List.setIfInBounds_toArray, List.set_cons_succ, List.set_cons_zero]
  refine held_one (i := 6) (by kernel_rfl) rfl ?_
  intro Q' hQ
  go_wp2_with (first | (at_builtin; refine wpl_append8 rfl _ _ rfl wA.heap.size (ys := l2) rfl rfl O1.out HL2.out (by intro h; cases h) C2.out (by omega) hbF ?_))
  intro v3 wG own3 g3
  have hv3 := own_block_ge O1.out
  have hG : C wG := (HCC.out wG).2 (((HCC.out wF).1 hF).grown g3 hv3 hwl)
  go_wp2_with fail
  refine hQ _ _ hG ?_
  have own3' : wG.ownsRow wA.heap.size 5 1 v3 16 ((l1 ++ l2).map u8v) := by rw [List.map_append]; exact own3
  have O3 := hid own3'
  clear hQ Q' hF own3 own3' g3 hv3 O1 C2 hbF
  try dsimp only
  try simp only [Act.put, List.setIfInBounds_toArray, List.set_cons_succ, List.set_cons_zero]
  refine held_one (i := 10) (by kernel_rfl) rfl ?_
  intro Q' hQ
  go_wp2_with fail
  refine (hp3.out wG).mono ?_
  rintro e wH ⟨rfl, c3, eH⟩
  have hH := hCx _ _ hG eH
  go_wp2_with fail
  refine hQ _ _ hH ?_
  have O4 := hid (ownsRow_ext O3.out eH)
  have C3 := hid c3
  have hbH : wA.heap.size ≤ wH.heap.size := ((HCC.out wH).1 hH).kept.1
  clear hQ Q' hG eH O3 c3
  generalize wG.heap.size = g3 at *
  generalize hL12 : l1 ++ l2 = l12 at *
  clear hL12
  try dsimp only
  try simp only [Act.put, List.setIfInBounds_toArray, List.set_cons_succ, List.set_cons_zero]
  refine held_one (i := 11) (by kernel_rfl) rfl ?_
  intro Q' hQ
  go_wp2_with (first | (at_builtin; refine wpl_append8 rfl _ _ rfl wA.heap.size (ys := l3) rfl rfl O4.out HL3.out (by intro h; cases h) C3.out (by omega) hbH ?_))
  intro v5 wI own5 g5
  have hv5 := own_block_ge O4.out
  have hI : C wI := (HCC.out wI).2 (((HCC.out wH).1 hH).grown g5 hv5 hwl)
  go_wp2_with fail
  refine hQ _ _ hI ?_
  have own5' : wI.ownsRow wA.heap.size 5 1 v5 20 ((l12 ++ l3).map u8v) := by rw [List.map_append]; exact own5
  have O5 := hid (own_lower own5' hwl)
  clear hQ Q' hH own5 own5' g5 hv5 O4 C3 hbH
  try dsimp only
  try simp only [Act.put, List.setIfInBounds_toArray, List.set_cons_succ, List.set_cons_zero]
  refine held_one (i := 12) (by kernel_rfl) rfl ?_
  intro Q' hQ
  go_wp2_with fail
  refine hQ _ _ hI ?_
  clear hQ Q'
  refine wpAnyH_done (by kernel_rfl) ?_ _
  have PG := hid (((HCC.out wI).1 hI).blk PA.out (by simp))
  have EG := hid ((HCC.out wI).1 hI).base
  have c2 : wI.cell? ⟨w.heap.size, 2, none⟩ = some (.slice a m c) := PG.out.cell' rfl
  clear hI HCC hCx hCA e0 e1 e2 PA EA hp1 hp2 hp3
  generalize l12 ++ l3 = pre at *
  go_wp2
  go_loopw [4, 44] (fun v i wr => ∃ k : Nat, k ≤ m ∧ i = .int .i64 (k : Int) ∧ wr.ownsRow w.heap.size 5 1 v (20 + 32 * k) ((pre ++ (ls.take k).flatten).map u8v) ∧ Ext w wr) (fun _ i _ => m - (intOf i).toNat)
  case atStart => exact ⟨0, by omega, rfl, by simpa using O5.out, EG.out⟩
  case round =>
    obtain ⟨k, hk, rfl, own, e1⟩ := hrel
    have O1 := hid own
    have E1 := hid e1
    have hb1 := e1.size
    clear own e1
    by_cases hlt : k < m
    · obtain ⟨pk, hpk⟩ : ∃ pk, ls[k]? = some pk := ⟨ls[k]'(by rw [HM.out]; exact hlt), by simp⟩
      have hpk32 := H32.out.at hpk
      obtain ⟨A, rfl, hca⟩ : ∃ A, a = some A ∧ CellsAt wr (A.add (k * 32)) (pk.map u8v) := by
        cases a with
        | none => rcases HC.out with h | ⟨_, _, h, _⟩
                  · have := rows_length H32.out; rw [h, HM.out] at this; simp at this; omega
                  · cases h
        | some A => exact ⟨A, rfl, (HC.out.rowAt H32.out hpk).ext E1.out⟩
      have hnx : pre ++ (ls.take (k + 1)).flatten = (pre ++ (ls.take k).flatten) ++ pk := by rw [List.take_add_one, hpk]; simp
      generalize pre ++ (ls.take k).flatten = W8 at *
      have HNX := hid hnx
      have HCA := hid hca
      have HP0 := hid hpk32
      have HPV : Hid ((pk.map u8v).length = 32) := hid (by rw [List.length_map, hpk32])
      have op := one_u8 pk
      clear hpk hpk32 hca hnx c2
      go_wp2_with (first | (refine wpl_run rfl (exec_index (i := k) rfl rfl rfl Try.underlying22 size_apisum hlt wr) ?_) | (refine wpl_run rfl (exec_load_at rfl rfl HCA.out agg_apisum HPV.out) ?_) | (refine wpl_storew rfl _ (.tmp 6) _ rfl rfl rfl (Blk.mk_alloc rfl rfl) agg_apisum (by simp) HPV.out op ?_))
      intro w2 b2 u2
      have e2 : Ext wr w2 := u2.ext ((Ext.refl wr).alloc _) (Nat.le_refl _)
      have O2 := hid (ownsRow_ext O1.out e2)
      have E2 := hid (E1.out.ext e2)
      have B2 := hid (Cells.of_blk0 b2)
      have hb2 : w.heap.size ≤ w2.heap.size := E2.out.size
      clear e2 u2 O1 b2
      go_wp2_with (first | (at_builtin; refine wpl_append8 rfl _ _ rfl w.heap.size (ys := pk) rfl rfl O2.out HP0.out (by intro h; cases h) B2.out (by omega) hb2 ?_))
      intro v4 w4 own4 g4
      have hv4 := own_block_ge O2.out
      have E4 := hid (E2.out.grown g4 (by intro q hq; exact hv4 _ hq))
      have own4' : w4.ownsRow w.heap.size 5 1 v4 (20 + 32 * (k + 1)) ((pre ++ (ls.take (k + 1)).flatten).map u8v) := by
        rw [HNX.out, show 20 + 32 * (k + 1) = 20 + 32 * k + 32 by omega, List.map_append]; exact own4
      have O4 := hid own4'
      clear own4 own4' g4 hv4 O2 E2 B2
      go_wp2
      go_roundw
      case rel => exact ⟨k + 1, by omega, by go_num, O4.out, E4.out⟩
      case measure => simp [intOf]; omega
    · obtain rfl : k = m := by omega
      have own := O1.out
      rw [List.take_of_length_le (by rw [HM.out]; omega), HPRE.out] at own
      have O2 := hid own
      clear own O1 c2
      go_wp2
      go_ret2
      exact ⟨_, by rw [HM.out, HEE.out]; rfl, by rw [HM.out, HEE.out, if_pos rfl]; exact O2.out, E1.out⟩
end

section
open Go Go.RowKit

theorem list_eq_step {α : Type} [BEq α] [LawfulBEq α] {xs ys : List α} {k : Nat} {x y : α} (hx : xs[k]? = some x) (hy : ys[k]? = some y) (h : xs.take k = ys.take k) : (x = y → xs.take (k + 1) = ys.take (k + 1)) ∧ (x ≠ y → (xs == ys) = false) := by
  refine ⟨fun e => ?_, fun e => ?_⟩
  · rw [List.take_add_one, List.take_add_one, hx, hy, h, e]
  · rw [beq_eq_false_iff_ne]
    intro he
    rw [he, hy] at hx
    exact e (Option.some.inj hx).symm

set_option maxRecDepth 100000 in
set_option maxHeartbeats 1000000 in
theorem equalS_c (xs ys : List (List UInt8)) (a b : Option Addr) (n m c d : Nat) (w : World) (hn : xs.length = n) (hm : ys.length = m) (hb63 : n ≤ 4611686018427387904) (h1 : All32 xs) (h2 : All32 ys) (hx : Cells w a (rows xs)) (hy : Cells w b (rows ys)) :
    Calls Try.prog 40 #[.slice a n c, .slice b m d] w fun e w' => e = .returned (.bool (xs == ys)) ∧ Ext w w' := by
  have HN := hid hn
  have HM := hid hm
  have H1 := hid h1
  have H2 := hid h2
  have HX := hid hx
  have HY := hid hy
  clear hn hm h1 h2 hx hy
  by_cases hnm : n = m
  · subst hnm
    have g1 : ((n : Int) != (n : Int)) = false := by simp
    have g2 : (n != n) = false := by simp
    go_enter Try.func40, Try.ntmps40
    go_wp2
    go_loopw [13] (fun i wr => ∃ k : Nat, k ≤ n ∧ i = .int .i64 (k : Int) ∧ xs.take k = ys.take k ∧ Ext w wr) (fun i _ => n - (intOf i).toNat)
    case atStart => exact ⟨0, by omega, rfl, by simp, Ext.refl _⟩
    case round =>
      obtain ⟨k, hk, rfl, hpre, e1⟩ := hrel
      have E1 := hid e1
      have HP := hid hpre
      clear e1 hpre
      by_cases hlt : k < n
      · obtain ⟨x, hxk⟩ : ∃ x, xs[k]? = some x := ⟨xs[k]'(by rw [HN.out]; exact hlt), by simp⟩
        obtain ⟨y, hyk⟩ : ∃ y, ys[k]? = some y := ⟨ys[k]'(by rw [HM.out]; exact hlt), by simp⟩
        have hst := list_eq_step hxk hyk HP.out
        have hx0 := H1.out.at hxk
        have hy0 := H2.out.at hyk
        obtain ⟨A, rfl, hca⟩ : ∃ A, a = some A ∧ CellsAt w (A.add (k * 32)) (x.map u8v) := by
          cases a with
          | none => rcases HX.out with h | ⟨_, _, h, _⟩
                    · have := rows_length H1.out; rw [h, HN.out] at this; simp at this; omega
                    · cases h
          | some A => exact ⟨A, rfl, HX.out.rowAt H1.out hxk⟩
        obtain ⟨B, rfl, hcb⟩ : ∃ B, b = some B ∧ CellsAt w (B.add (k * 32)) (y.map u8v) := by
          cases b with
          | none => rcases HY.out with h | ⟨_, _, h, _⟩
                    · have := rows_length H2.out; rw [h, HM.out] at this; simp at this; omega
                    · cases h
          | some B => exact ⟨B, rfl, HY.out.rowAt H2.out hyk⟩
        have HCA := hid hca
        have HCB := hid hcb
        have HXV : Hid ((x.map u8v).length = 32) := hid (by rw [List.length_map, hx0])
        have HYV : Hid ((y.map u8v).length = 32) := hid (by rw [List.length_map, hy0])
        have hne := neq_arr Try.underlying36 x y hx0 hy0
        have HST := hid hst
        clear hca hcb hx0 hy0 hxk hyk hst
        cases hxy : (x == y) with
        | true =>
          rw [hxy] at hne
          have HNE := hid hne
          have HXY := hid (HST.out.1 (eq_of_beq hxy))
          clear hne hxy HST
          go_wp2
          obtain ⟨C, hC⟩ : ∃ C : World → Prop, C = Cls w wr [] [] := ⟨_, rfl⟩
          have hC0 : ∀ w', C w' ↔ Cls w wr [] [] w' := fun w' => by rw [hC]
          clear hC
          have HCC := hid hC0
          clear hC0
          have hCx : ∀ w w', C w → Ext w w' → C w' := fun w w' h1 h2 => (HCC.out w').2 (((HCC.out w).1 h1).ext h2)
          have hCA : C wr := (HCC.out _).2 (Cls.no_room E1.out (Kept.none _))
          have hca : ∀ w1, C w1 → CellsAt w1 (A.add (k * 32)) (x.map u8v) := fun w1 h1 => HCA.out.ext ((HCC.out w1).1 h1).base
          have hcb : ∀ w1, C w1 → CellsAt w1 (B.add (k * 32)) (y.map u8v) := fun w1 h1 => HCB.out.ext ((HCC.out w1).1 h1).base
          refine wp_region_held_drew (S := C) (by kernel_rfl) (hCx _ _ hCA (Ext.refl _).drew) (fun hS0 => ?_)
          refine held_take 0 (v := ?tv1) rfl (by kernel_rfl) (by kernel_rfl) (by kernel_rfl) (fun _ _ _ h => h) (.inl ⟨rfl, ?ty1⟩) hS0 ?tr1
          case ty1 => (intro _ _; go_simp; try with_reducible rfl)
          case tr1 =>
          simp only [Act.put, List.setIfInBounds_toArray, List.set_cons_succ, List.set_cons_zero]
          refine held_take 1 (v := ?tv2) rfl (by kernel_rfl) (by kernel_rfl) (by kernel_rfl) (fun _ _ _ h => h) (.inl ⟨rfl, ?ty2⟩) hS0 ?tr2
          case ty2 => (intro _ _; go_simp; try with_reducible rfl)
          case tr2 =>
          simp only [Act.put, List.setIfInBounds_toArray, List.set_cons_succ, List.set_cons_zero]
          refine held_take 2 (v := _) rfl (by kernel_rfl) (by kernel_rfl) (by kernel_rfl) (fun _ _ _ h => h) (yieldsI_run rfl (fun w1 _ => exec_index (i := k) rfl rfl rfl Try.underlying22 size_apisum hlt w1)) hS0 ?_
          simp only [Act.put, List.setIfInBounds_toArray, List.set_cons_succ, List.set_cons_zero]
          refine held_take 3 (v := _) rfl (by kernel_rfl) (by kernel_rfl) (by kernel_rfl) (fun _ _ _ h => h) (yieldsI_run rfl (fun w1 h => exec_load_at rfl rfl (hca w1 h) agg_apisum HXV.out)) hS0 ?_
          simp only [Act.put, List.setIfInBounds_toArray, List.set_cons_succ, List.set_cons_zero]
          refine held_take 4 (v := ?tv3) rfl (by kernel_rfl) (by kernel_rfl) (by kernel_rfl) (fun _ _ _ h => h) (.inl ⟨rfl, ?ty3⟩) hS0 ?tr3
          case ty3 => (intro _ _; go_simp; try with_reducible rfl)
          case tr3 =>
          simp only [Act.put, List.setIfInBounds_toArray, List.set_cons_succ, List.set_cons_zero]
          refine held_take 5 (v := ?tv4) rfl (by kernel_rfl) (by kernel_rfl) (by kernel_rfl) (fun _ _ _ h => h) (.inl ⟨rfl, ?ty4⟩) hS0 ?tr4
          case ty4 => (intro _ _; go_simp; try with_reducible rfl)
          case tr4 =>
          simp only [Act.put, List.setIfInBounds_toArray, List.set_cons_succ, List.set_cons_zero]
          refine held_take 6 (v := _) rfl (by kernel_rfl) (by kernel_rfl) (by kernel_rfl) (fun _ _ _ h => h) (yieldsI_run rfl (fun w1 _ => exec_index (i := k) rfl rfl rfl Try.underlying22 size_apisum hlt w1)) hS0 ?_
          simp only [Act.put, List.setIfInBounds_toArray, List.set_cons_succ, List.set_cons_zero]
          refine held_take 7 (v := _) rfl (by kernel_rfl) (by kernel_rfl) (by kernel_rfl) (fun _ _ _ h => h) (yieldsI_run rfl (fun w1 h => exec_load_at rfl rfl (hcb w1 h) agg_apisum HYV.out)) hS0 ?_
          simp only [Act.put, List.setIfInBounds_toArray, List.set_cons_succ, List.set_cons_zero]
          refine held_take 8 (v := _) rfl (by kernel_rfl) (by kernel_rfl) (by kernel_rfl) (fun _ _ _ h => h) (yieldsI_run rfl (fun w1 _ => exec_cmp rfl rfl rfl guard_sum HNE.out w1)) hS0 ?_
          simp only [Act.put, List.setIfInBounds_toArray, List.set_cons_succ, List.set_cons_zero]
          refine wpAnyH_done (by kernel_rfl) ?_ _
          have E2 := hid ((HCC.out _).1 hS0).base
          clear hS0 hca hcb hCx hCA HCC
          go_wp2
          go_roundw
          case rel => exact ⟨k + 1, by omega, by go_num, HXY.out, E2.out⟩
          case measure => simp [intOf]; omega
        | false =>
          rw [hxy] at hne
          have HNE := hid hne
          have hres := HST.out.2 (fun e => by rw [e] at hxy; simp at hxy)
          have HRES := hid hres
          clear hne hxy HST hres
          go_wp2
          obtain ⟨C, hC⟩ : ∃ C : World → Prop, C = Cls w wr [] [] := ⟨_, rfl⟩
          have hC0 : ∀ w', C w' ↔ Cls w wr [] [] w' := fun w' => by rw [hC]
          clear hC
          have HCC := hid hC0
          clear hC0
          have hCx : ∀ w w', C w → Ext w w' → C w' := fun w w' h1 h2 => (HCC.out w').2 (((HCC.out w).1 h1).ext h2)
          have hCA : C wr := (HCC.out _).2 (Cls.no_room E1.out (Kept.none _))
          have hca : ∀ w1, C w1 → CellsAt w1 (A.add (k * 32)) (x.map u8v) := fun w1 h1 => HCA.out.ext ((HCC.out w1).1 h1).base
          have hcb : ∀ w1, C w1 → CellsAt w1 (B.add (k * 32)) (y.map u8v) := fun w1 h1 => HCB.out.ext ((HCC.out w1).1 h1).base
          refine wp_region_held_drew (S := C) (by kernel_rfl) (hCx _ _ hCA (Ext.refl _).drew) (fun hS0 => ?_)
          refine held_take 0 (v := ?tv5) rfl (by kernel_rfl) (by kernel_rfl) (by kernel_rfl) (fun _ _ _ h => h) (.inl ⟨rfl, ?ty5⟩) hS0 ?tr5
          case ty5 => (intro _ _; go_simp; try with_reducible rfl)
          case tr5 =>
          simp only [Act.put, List.setIfInBounds_toArray, List.set_cons_succ, List.set_cons_zero]
          refine held_take 1 (v := ?tv6) rfl (by kernel_rfl) (by kernel_rfl) (by kernel_rfl) (fun _ _ _ h => h) (.inl ⟨rfl, ?ty6⟩) hS0 ?tr6
          case ty6 => (intro _ _; go_simp; try with_reducible rfl)
          case tr6 =>
          simp only [Act.put, List.setIfInBounds_toArray, List.set_cons_succ, List.set_cons_zero]
          refine held_take 2 (v := _) rfl (by kernel_rfl) (by kernel_rfl) (by kernel_rfl) (fun _ _ _ h => h) (yieldsI_run rfl (fun w1 _ => exec_index (i := k) rfl rfl rfl Try.underlying22 size_apisum hlt w1)) hS0 ?_
          simp only [Act.put, List.setIfInBounds_toArray, List.set_cons_succ, List.set_cons_zero]
          refine held_take 3 (v := _) rfl (by kernel_rfl) (by kernel_rfl) (by kernel_rfl) (fun _ _ _ h => h) (yieldsI_run rfl (fun w1 h => exec_load_at rfl rfl (hca w1 h) agg_apisum HXV.out)) hS0 ?_
          simp only [Act.put, List.setIfInBounds_toArray, List.set_cons_succ, List.set_cons_zero]
          refine held_take 4 (v := ?tv7) rfl (by kernel_rfl) (by kernel_rfl) (by kernel_rfl) (fun _ _ _ h => h) (.inl ⟨rfl, ?ty7⟩) hS0 ?tr7
          case ty7 => (intro _ _; go_simp; try with_reducible rfl)
          case tr7 =>
          simp only [Act.put, List.setIfInBounds_toArray, List.set_cons_succ, List.set_cons_zero]
          refine held_take 5 (v := ?tv8) rfl (by kernel_rfl) (by kernel_rfl) (by kernel_rfl) (fun _ _ _ h => h) (.inl ⟨rfl, ?ty8⟩) hS0 ?tr8
          case ty8 => (intro _ _; go_simp; try with_reducible rfl)
          case tr8 =>
          simp only [Act.put, List.setIfInBounds_toArray, List.set_cons_succ, List.set_cons_zero]
          refine held_take 6 (v := _) rfl (by kernel_rfl) (by kernel_rfl) (by kernel_rfl) (fun _ _ _ h => h) (yieldsI_run rfl (fun w1 _ => exec_index (i := k) rfl rfl rfl Try.underlying22 size_apisum hlt w1)) hS0 ?_
          simp only [Act.put, List.setIfInBounds_toArray, List.set_cons_succ, List.set_cons_zero]
          refine held_take 7 (v := _) rfl (by kernel_rfl) (by kernel_rfl) (by kernel_rfl) (fun _ _ _ h => h) (yieldsI_run rfl (fun w1 h => exec_load_at rfl rfl (hcb w1 h) agg_apisum HYV.out)) hS0 ?_
          simp only [Act.put, List.setIfInBounds_toArray, List.set_cons_succ, List.set_cons_zero]
          refine held_take 8 (v := _) rfl (by kernel_rfl) (by kernel_rfl) (by kernel_rfl) (fun _ _ _ h => h) (yieldsI_run rfl (fun w1 _ => exec_cmp rfl rfl rfl guard_sum HNE.out w1)) hS0 ?_
          simp only [Act.put, List.setIfInBounds_toArray, List.set_cons_succ, List.set_cons_zero]
          refine wpAnyH_done (by kernel_rfl) ?_ _
          have E2 := hid ((HCC.out _).1 hS0).base
          clear hS0 hca hcb hCx hCA HCC
          go_wp2
          go_ret
          exact ⟨by rw [HRES.out]; rfl, E2.out⟩
      · obtain rfl : k = n := by omega
        have he : xs = ys := by
          have := HP.out
          rwa [List.take_of_length_le (by rw [HN.out]; exact Nat.le_refl _), List.take_of_length_le (by rw [HM.out]; exact Nat.le_refl _)] at this
        have hb : (xs == ys) = true := by rw [he]; simp
        have HRES := hid hb
        clear he hb
        go_wp2
        go_ret
        exact ⟨by rw [HRES.out]; rfl, E1.out⟩
  · have g1 : ((n : Int) != (m : Int)) = true := by simp; omega
    have g2 : (n != m) = true := by simp [hnm]
    have hb : (xs == ys) = false := by
      rw [beq_eq_false_iff_ne]
      intro he
      exact hnm (by rw [← HN.out, ← HM.out, he])
    rw [hb]
    clear hb hnm
    go_enter Try.func40, Try.ntmps40
    go_wp2
    go_ret
    exact ⟨rfl, Ext.refl _⟩
end

section
open Go Go.RowKit

theorem one_u8T : OneT Try.prog 5 := ⟨⟨_, Try.underlying5, rfl⟩, by kernel_rfl⟩
theorem cell_ext {w w' : World} {p : Addr} {v : Value} (h : w.cell? p = some v) (e : Ext w w') : w'.cell? p = some v := by
  have hb := block_lt_of_cell h
  rw [e.cell hb]; exact h
theorem exec_load_one {P : Program} {o : Oper} {a : Act} {w : World} {ty : TypeId} {x : Operand} {p : Addr} {v : Value} (ho : o.op = .load ty x) (hx : a.eval x = .pointer (some p)) (hc : w.cell? p = some v) (ht : OneT P ty) :
    (execOp a.eval o).run P w = .ok (.value v) w := by
  obtain ⟨⟨d, hu, hd⟩, hi⟩ := ht
  have hagg : (isAgg ty).run P w = .ok false w := by
    unfold isAgg
    rw [Sem.run_bind, run_underlying hu w]
    cases d <;> simp_all
  unfold execOp
  simp only [ho, hx, Instr.loadAt, Instr.sureAddr, Sem.run_bind, Sem.run_pure, Result.andThen_ok]
  simp [loadVar, Sem.run_bind, hagg, go_sem, hc]

set_option maxRecDepth 100000 in
set_option maxHeartbeats 1000000 in
theorem equal8_c (xs ys : List UInt8) (a b : Option Addr) (n m c d : Nat) (w : World) (hn : xs.length = n) (hm : ys.length = m) (hb63 : n ≤ 4611686018427387904) (hx : Cells w a (xs.map u8v)) (hy : Cells w b (ys.map u8v)) :
    Calls Try.prog 10 #[.slice a n c, .slice b m d] w fun e w' => e = .returned (.bool (xs == ys)) ∧ Ext w w' := by
  have HN := hid hn
  have HM := hid hm
  have HX := hid hx
  have HY := hid hy
  clear hn hm hx hy
  by_cases hnm : n = m
  · subst hnm
    have g1 : ((n : Int) != (n : Int)) = false := by simp
    have g2 : (n != n) = false := by simp
    go_enter Try.func10, Try.ntmps10
    go_wp2
    go_loopw [13] (fun i wr => ∃ k : Nat, k ≤ n ∧ i = .int .i64 (k : Int) ∧ xs.take k = ys.take k ∧ Ext w wr) (fun i _ => n - (intOf i).toNat)
    case atStart => exact ⟨0, by omega, rfl, by simp, Ext.refl _⟩
    case round =>
      obtain ⟨k, hk, rfl, hpre, e1⟩ := hrel
      have E1 := hid e1
      have HP := hid hpre
      clear e1 hpre
      by_cases hlt : k < n
      · obtain ⟨x, hxk⟩ : ∃ x, xs[k]? = some x := ⟨xs[k]'(by rw [HN.out]; exact hlt), by simp⟩
        obtain ⟨y, hyk⟩ : ∃ y, ys[k]? = some y := ⟨ys[k]'(by rw [HM.out]; exact hlt), by simp⟩
        have hst := list_eq_step hxk hyk HP.out
        obtain ⟨A, rfl, hca⟩ : ∃ A, a = some A ∧ w.cell? (A.add (k * 1)) = some (u8v x) := by
          obtain ⟨g, o, rfl, h⟩ := HX.out.some_of (by rw [List.length_map, HN.out]; omega)
          exact ⟨_, rfl, by rw [addr_add, Nat.mul_one]; exact h k _ (by rw [List.getElem?_map, hxk]; rfl)⟩
        obtain ⟨B, rfl, hcb⟩ : ∃ B, b = some B ∧ w.cell? (B.add (k * 1)) = some (u8v y) := by
          obtain ⟨g, o, rfl, h⟩ := HY.out.some_of (by rw [List.length_map, HM.out]; omega)
          exact ⟨_, rfl, by rw [addr_add, Nat.mul_one]; exact h k _ (by rw [List.getElem?_map, hyk]; rfl)⟩
        have HCA := hid hca
        have HCB := hid hcb
        have HST := hid hst
        clear hca hcb hxk hyk hst
        cases hxy : (x == y) with
        | true =>
          have q1 : ((x.toNat : Int) != (y.toNat : Int)) = false := by rw [eq_of_beq hxy]; simp
          have q2 : (x.toNat != y.toNat) = false := by rw [eq_of_beq hxy]; simp
          have HXY := hid (HST.out.1 (eq_of_beq hxy))
          clear hxy HST
          go_wp2
          obtain ⟨C, hC⟩ : ∃ C : World → Prop, C = Cls w wr [] [] := ⟨_, rfl⟩
          have hC0 : ∀ w', C w' ↔ Cls w wr [] [] w' := fun w' => by rw [hC]
          clear hC
          have HCC := hid hC0
          clear hC0
          have hCx : ∀ w w', C w → Ext w w' → C w' := fun w w' h1 h2 => (HCC.out w').2 (((HCC.out w).1 h1).ext h2)
          have hCA : C wr := (HCC.out _).2 (Cls.no_room E1.out (Kept.none _))
          have hca : ∀ w1, C w1 → w1.cell? (A.add (k * 1)) = some (u8v x) := fun w1 h1 => cell_ext HCA.out ((HCC.out w1).1 h1).base
          have hcb : ∀ w1, C w1 → w1.cell? (B.add (k * 1)) = some (u8v y) := fun w1 h1 => cell_ext HCB.out ((HCC.out w1).1 h1).base
          refine wp_region_held_drew (S := C) (by kernel_rfl) (hCx _ _ hCA (Ext.refl _).drew) (fun hS0 => ?_)
          refine held_take 0 (v := ?tv1) rfl (by kernel_rfl) (by kernel_rfl) (by kernel_rfl) (fun _ _ _ h => h) (.inl ⟨rfl, ?ty1⟩) hS0 ?tr1
          case ty1 => (intro _ _; go_simp; try with_reducible rfl)
          case tr1 =>
          simp only [Act.put, List.setIfInBounds_toArray, List.set_cons_succ, List.set_cons_zero]
          refine held_take 1 (v := ?tv2) rfl (by kernel_rfl) (by kernel_rfl) (by kernel_rfl) (fun _ _ _ h => h) (.inl ⟨rfl, ?ty2⟩) hS0 ?tr2
          case ty2 => (intro _ _; go_simp; try with_reducible rfl)
          case tr2 =>
          simp only [Act.put, List.setIfInBounds_toArray, List.set_cons_succ, List.set_cons_zero]
          refine held_take 2 (v := _) rfl (by kernel_rfl) (by kernel_rfl) (by kernel_rfl) (fun _ _ _ h => h) (yieldsI_run rfl (fun w1 _ => exec_index (i := k) rfl rfl rfl Try.underlying25 size_u8 hlt w1)) hS0 ?_
          simp only [Act.put, List.setIfInBounds_toArray, List.set_cons_succ, List.set_cons_zero]
          refine held_take 3 (v := _) rfl (by kernel_rfl) (by kernel_rfl) (by kernel_rfl) (fun _ _ _ h => h) (yieldsI_run rfl (fun w1 h => exec_load_one rfl rfl (hca w1 h) one_u8T)) hS0 ?_
          simp only [Act.put, List.setIfInBounds_toArray, List.set_cons_succ, List.set_cons_zero]
          refine held_take 4 (v := ?tv3) rfl (by kernel_rfl) (by kernel_rfl) (by kernel_rfl) (fun _ _ _ h => h) (.inl ⟨rfl, ?ty3⟩) hS0 ?tr3
          case ty3 => (intro _ _; go_simp; try with_reducible rfl)
          case tr3 =>
          simp only [Act.put, List.setIfInBounds_toArray, List.set_cons_succ, List.set_cons_zero]
          refine held_take 5 (v := ?tv4) rfl (by kernel_rfl) (by kernel_rfl) (by kernel_rfl) (fun _ _ _ h => h) (.inl ⟨rfl, ?ty4⟩) hS0 ?tr4
          case ty4 => (intro _ _; go_simp; try with_reducible rfl)
          case tr4 =>
          simp only [Act.put, List.setIfInBounds_toArray, List.set_cons_succ, List.set_cons_zero]
          refine held_take 6 (v := _) rfl (by kernel_rfl) (by kernel_rfl) (by kernel_rfl) (fun _ _ _ h => h) (yieldsI_run rfl (fun w1 _ => exec_index (i := k) rfl rfl rfl Try.underlying25 size_u8 hlt w1)) hS0 ?_
          simp only [Act.put, List.setIfInBounds_toArray, List.set_cons_succ, List.set_cons_zero]
          refine held_take 7 (v := _) rfl (by kernel_rfl) (by kernel_rfl) (by kernel_rfl) (fun _ _ _ h => h) (yieldsI_run rfl (fun w1 h => exec_load_one rfl rfl (hcb w1 h) one_u8T)) hS0 ?_
          simp only [Act.put, List.setIfInBounds_toArray, List.set_cons_succ, List.set_cons_zero]
          unfold u8v
          refine held_take 8 (v := ?tv5) rfl (by kernel_rfl) (by kernel_rfl) (by kernel_rfl) (fun _ _ _ h => h) (.inl ⟨rfl, ?ty5⟩) hS0 ?tr5
          case ty5 => (intro _ _; go_simp; try with_reducible rfl)
          case tr5 =>
          simp only [Act.put, List.setIfInBounds_toArray, List.set_cons_succ, List.set_cons_zero]
          refine wpAnyH_done (by kernel_rfl) ?_ _
          have E2 := hid ((HCC.out _).1 hS0).base
          clear hS0 hca hcb hCx hCA HCC
          go_wp2
          go_roundw
          case rel => exact ⟨k + 1, by omega, by go_num, HXY.out, E2.out⟩
          case measure => simp [intOf]; omega
        | false =>
          have hxn : x ≠ y := fun e => by rw [e] at hxy; simp at hxy
          have hxn2 : x.toNat ≠ y.toNat := fun e => hxn (UInt8.toNat_inj.1 e)
          have q1 : ((x.toNat : Int) != (y.toNat : Int)) = true := by simp; omega
          have q2 : (x.toNat != y.toNat) = true := by simp [hxn2]
          have hres := HST.out.2 (fun e => by rw [e] at hxy; simp at hxy)
          have HRES := hid hres
          clear hxy HST hres hxn hxn2
          go_wp2
          obtain ⟨C, hC⟩ : ∃ C : World → Prop, C = Cls w wr [] [] := ⟨_, rfl⟩
          have hC0 : ∀ w', C w' ↔ Cls w wr [] [] w' := fun w' => by rw [hC]
          clear hC
          have HCC := hid hC0
          clear hC0
          have hCx : ∀ w w', C w → Ext w w' → C w' := fun w w' h1 h2 => (HCC.out w').2 (((HCC.out w).1 h1).ext h2)
          have hCA : C wr := (HCC.out _).2 (Cls.no_room E1.out (Kept.none _))
          have hca : ∀ w1, C w1 → w1.cell? (A.add (k * 1)) = some (u8v x) := fun w1 h1 => cell_ext HCA.out ((HCC.out w1).1 h1).base
          have hcb : ∀ w1, C w1 → w1.cell? (B.add (k * 1)) = some (u8v y) := fun w1 h1 => cell_ext HCB.out ((HCC.out w1).1 h1).base
          refine wp_region_held_drew (S := C) (by kernel_rfl) (hCx _ _ hCA (Ext.refl _).drew) (fun hS0 => ?_)
          refine held_take 0 (v := ?tv6) rfl (by kernel_rfl) (by kernel_rfl) (by kernel_rfl) (fun _ _ _ h => h) (.inl ⟨rfl, ?ty6⟩) hS0 ?tr6
          case ty6 => (intro _ _; go_simp; try with_reducible rfl)
          case tr6 =>
          simp only [Act.put, List.setIfInBounds_toArray, List.set_cons_succ, List.set_cons_zero]
          refine held_take 1 (v := ?tv7) rfl (by kernel_rfl) (by kernel_rfl) (by kernel_rfl) (fun _ _ _ h => h) (.inl ⟨rfl, ?ty7⟩) hS0 ?tr7
          case ty7 => (intro _ _; go_simp; try with_reducible rfl)
          case tr7 =>
          simp only [Act.put, List.setIfInBounds_toArray, List.set_cons_succ, List.set_cons_zero]
          refine held_take 2 (v := _) rfl (by kernel_rfl) (by kernel_rfl) (by kernel_rfl) (fun _ _ _ h => h) (yieldsI_run rfl (fun w1 _ => exec_index (i := k) rfl rfl rfl Try.underlying25 size_u8 hlt w1)) hS0 ?_
          simp only [Act.put, List.setIfInBounds_toArray, List.set_cons_succ, List.set_cons_zero]
          refine held_take 3 (v := _) rfl (by kernel_rfl) (by kernel_rfl) (by kernel_rfl) (fun _ _ _ h => h) (yieldsI_run rfl (fun w1 h => exec_load_one rfl rfl (hca w1 h) one_u8T)) hS0 ?_
          simp only [Act.put, List.setIfInBounds_toArray, List.set_cons_succ, List.set_cons_zero]
          refine held_take 4 (v := ?tv8) rfl (by kernel_rfl) (by kernel_rfl) (by kernel_rfl) (fun _ _ _ h => h) (.inl ⟨rfl, ?ty8⟩) hS0 ?tr8
          case ty8 => (intro _ _; go_simp; try with_reducible rfl)
          case tr8 =>
          simp only [Act.put, List.setIfInBounds_toArray, List.set_cons_succ, List.set_cons_zero]
          refine held_take 5 (v := ?tv9) rfl (by kernel_rfl) (by kernel_rfl) (by kernel_rfl) (fun _ _ _ h => h) (.inl ⟨rfl, ?ty9⟩) hS0 ?tr9
          case ty9 => (intro _ _; go_simp; try with_reducible rfl)
          case tr9 =>
          simp only [Act.put, List.setIfInBounds_toArray, List.set_cons_succ, List.set_cons_zero]
          refine held_take 6 (v := _) rfl (by kernel_rfl) (by kernel_rfl) (by kernel_rfl) (fun _ _ _ h => h) (yieldsI_run rfl (fun w1 _ => exec_index (i := k) rfl rfl rfl Try.underlying25 size_u8 hlt w1)) hS0 ?_
          simp only [Act.put, List.setIfInBounds_toArray, List.set_cons_succ, List.set_cons_zero]
          refine held_take 7 (v := _) rfl (by kernel_rfl) (by kernel_rfl) (by kernel_rfl) (fun _ _ _ h => h) (yieldsI_run rfl (fun w1 h => exec_load_one rfl rfl (hcb w1 h) one_u8T)) hS0 ?_
          simp only [Act.put, List.setIfInBounds_toArray, List.set_cons_succ, List.set_cons_zero]
          unfold u8v
          refine held_take 8 (v := ?tv10) rfl (by kernel_rfl) (by kernel_rfl) (by kernel_rfl) (fun _ _ _ h => h) (.inl ⟨rfl, ?ty10⟩) hS0 ?tr10
          case ty10 => (intro _ _; go_simp; try with_reducible rfl)
          case tr10 =>
          simp only [Act.put, List.setIfInBounds_toArray, List.set_cons_succ, List.set_cons_zero]
          refine wpAnyH_done (by kernel_rfl) ?_ _
          have E2 := hid ((HCC.out _).1 hS0).base
          clear hS0 hca hcb hCx hCA HCC
          go_wp2
          go_ret
          exact ⟨by rw [HRES.out]; rfl, E2.out⟩
      · obtain rfl : k = n := by omega
        have he : xs = ys := by
          have := HP.out
          rwa [List.take_of_length_le (by rw [HN.out]; exact Nat.le_refl _), List.take_of_length_le (by rw [HM.out]; exact Nat.le_refl _)] at this
        have hb : (xs == ys) = true := by rw [he]; simp
        have HRES := hid hb
        clear he hb
        go_wp2
        go_ret
        exact ⟨by rw [HRES.out]; rfl, E1.out⟩
  · have g1 : ((n : Int) != (m : Int)) = true := by simp; omega
    have g2 : (n != m) = true := by simp [hnm]
    have hb : (xs == ys) = false := by
      rw [beq_eq_false_iff_ne]
      intro he
      exact hnm (by rw [← HN.out, ← HM.out, he])
    rw [hb]
    clear hb hnm
    go_enter Try.func10, Try.ntmps10
    go_wp2
    go_ret
    exact ⟨rfl, Ext.refl _⟩
end

section
open Go Go.RowKit

set_option maxRecDepth 100000 in
set_option maxHeartbeats 1000000 in
theorem sameProof_c (I Z : Int) (ls : List (List UInt8)) (a b : Option Addr) (n c d : Nat) (w : World) (hn : ls.length = n) (hb63 : n ≤ 4611686018427387904) (h32 : All32 ls) (hx : Cells w a (rows ls)) (hy : Cells w b (rows ls)) :
    Calls Try.prog 12 #[.agg #[.int .i64 I, .int .i64 Z, .slice a n c], .agg #[.int .i64 I, .int .i64 Z, .slice b n d]] w fun e w' => e = .returned (.bool true) ∧ Ext w w' := by
  have heq := hid (fun w' h1 h2 => equalS_c ls ls a b n n c d w' hn hn hb63 h32 h32 h1 h2)
  have hll : (ls == ls) = true := by simp
  rw [hll] at heq
  have HX := hid hx
  have HY := hid hy
  have q1 : (I == I) = true := by simp
  have q2 : (Z == Z) = true := by simp
  clear hll hx hy hn h32
  go_enter Try.func12, Try.ntmps12
  go_upto_region 1 with (fail)
  generalize hwA : World.alloc (World.alloc w _) _ = wA
  have pA : Blk wA w.heap.size [.int .i64 I, .int .i64 Z, .slice a n c] 24 := by rw [← hwA]; exact (Blk.mk_alloc rfl rfl).alloc _
  have qA : Blk wA (w.heap.size + 1) [.int .i64 I, .int .i64 Z, .slice b n d] 24 := by rw [← hwA]; exact Blk.mk_alloc (by simp) rfl
  have eA : Ext w wA := by rw [← hwA]; exact ((Ext.refl w).alloc _).alloc _
  clear hwA
  have c0 : wA.cell? ⟨w.heap.size, 0, none⟩ = some (.int .i64 I) := pA.cell' rfl
  have c1 : wA.cell? ⟨w.heap.size, 1, none⟩ = some (.int .i64 Z) := pA.cell' rfl
  have c2 : wA.cell? ⟨w.heap.size, 2, none⟩ = some (.slice a n c) := pA.cell' rfl
  have d0 : wA.cell? ⟨w.heap.size + 1, 0, none⟩ = some (.int .i64 I) := qA.cell' rfl
  have d1 : wA.cell? ⟨w.heap.size + 1, 1, none⟩ = some (.int .i64 Z) := qA.cell' rfl
  have d2 : wA.cell? ⟨w.heap.size + 1, 2, none⟩ = some (.slice b n d) := qA.cell' rfl
  have EA := hid eA
  clear pA qA eA
  go_wp2_with fail
  refine (heq.out wA (HX.out.ext EA.out) (HY.out.ext EA.out)).mono ?_
  rintro e wB ⟨rfl, eB⟩
  go_wp2
  go_ret
  exact ⟨rfl, EA.out.ext eB⟩
end

section
open Go Go.RowKit

def manyL (l : List UInt8) : Nat := (word4 l 16).toNat
def rowsOf (l : List UInt8) (k : Nat) : List (List UInt8) := (List.range k).map fun i => (l.drop (20 + 32 * i)).take 32
theorem rowsOf_length (l : List UInt8) (k : Nat) : (rowsOf l k).length = k := by simp [rowsOf]
theorem rowsOf_succ (l : List UInt8) (k : Nat) : rowsOf l (k + 1) = rowsOf l k ++ [(l.drop (20 + 32 * k)).take 32] := by simp [rowsOf, List.range_succ]
theorem rowsOf_32 {l : List UInt8} {k : Nat} (h : 20 + 32 * k ≤ l.length) : All32 (rowsOf l k) := fun x hx => by
  obtain ⟨i, hi, rfl⟩ := List.mem_map.1 hx
  have := List.mem_range.1 hi
  rw [List.length_take, List.length_drop]; omega
def parseE (l : List UInt8) : Int :=
  if l.length < 20 then 1 else if l.length < 20 + 32 * manyL l then 1 else if 65536 < long8 l 0 ∨ 65536 < long8 l 8 then 4 else if 64 < manyL l then 5 else 0
def parsePost (l : List UInt8) (w : World) (e : Ending) (w' : World) : Prop :=
  ∃ (I Z N : Int) (pv : Value), e = .returned (.tuple #[.agg #[.int .i64 I, .int .i64 Z, pv], .int .i64 N, .int .i64 (parseE l)]) ∧
    (if parseE l = 0 then I = long8 l 0 ∧ Z = long8 l 8 ∧ N = ((20 + 32 * manyL l : Nat) : Int) ∧ w'.ownsRow w.heap.size 36 32 pv (manyL l) (rows (rowsOf l (manyL l))) else I = 0 ∧ Z = 0 ∧ N = 0 ∧ pv = .slice none 0 0) ∧ Ext w w'

theorem rowsOf_flat {ls : List (List UInt8)} (h : All32 ls) (pre post : List UInt8) (hp : pre.length = 20) : rowsOf (pre ++ (ls.flatten ++ post)) ls.length = ls := by
  unfold rowsOf
  apply List.ext_getElem
  · simp
  · intro i h1 h2
    rw [List.getElem_map, List.getElem_range]
    have hi : i < ls.length := h2
    rw [List.drop_append, hp, List.drop_of_length_le (by omega), List.nil_append, show 20 + 32 * i - 20 = 32 * i by omega, List.drop_append, flat_drop h]
    have hfl : (ls.drop i).flatten = ls[i] ++ (ls.drop (i + 1)).flatten := by rw [List.drop_eq_getElem_cons hi]; rfl
    have hl32 := h ls[i] (List.getElem_mem hi)
    rw [hfl, List.append_assoc, List.take_append_of_le_length (by omega), List.take_of_length_le (by omega)]
theorem long8_app (l m r : List UInt8) (q : Nat) (h : l.length = q) (hm : m.length = 8) : long8 (l ++ (m ++ r)) q = long8 (l ++ m) q := by
  subst h
  unfold long8 word4
  have hg : ∀ i, i < l.length + 8 → (l ++ (m ++ r))[i]? = (l ++ m)[i]? := fun i hi => by
    rw [← List.append_assoc, List.getElem?_append_left (by rw [List.length_append]; omega)]
  rw [hg _ (by omega), hg _ (by omega), hg _ (by omega), hg _ (by omega), hg _ (by omega), hg _ (by omega), hg _ (by omega), hg _ (by omega)]
theorem parse_print {I Z : Nat} {ls : List (List UInt8)} (hI : I ≤ 65536) (hZ : Z ≤ 65536) (hm : ls.length ≤ 64) (h32 : All32 ls) (post : List UInt8) :
    parseE (printL I Z ls ++ post) = 0 ∧ long8 (printL I Z ls ++ post) 0 = I ∧ long8 (printL I Z ls ++ post) 8 = Z ∧ manyL (printL I Z ls ++ post) = ls.length ∧ rowsOf (printL I Z ls ++ post) ls.length = ls := by
  have e0 : printL I Z ls ++ post = longL (UInt64.ofNat I) ++ (longL (UInt64.ofNat Z) ++ (octL (UInt32.ofNat ls.length) ++ (ls.flatten ++ post))) := by
    unfold printL; simp only [Int.toNat_natCast, List.append_assoc]
  have hl := printL_length (I : Int) (Z : Int) h32
  have g1 : long8 (printL I Z ls ++ post) 0 = I := by
    rw [e0]
    have := long8_app [] (longL (UInt64.ofNat I)) (longL (UInt64.ofNat Z) ++ (octL (UInt32.ofNat ls.length) ++ (ls.flatten ++ post))) 0 rfl (longL_length _)
    rw [List.nil_append] at this
    rw [this]
    rw [long8_longL [] (UInt64.ofNat I) 0 rfl, UInt64.toNat_ofNat']; omega
  have g2 : long8 (printL I Z ls ++ post) 8 = Z := by
    rw [e0]
    rw [long8_app (longL (UInt64.ofNat I)) (longL (UInt64.ofNat Z)) _ 8 (longL_length _) (longL_length _), long8_longL _ _ 8 (longL_length _), UInt64.toNat_ofNat']; omega
  have g3 : manyL (printL I Z ls ++ post) = ls.length := by
    unfold manyL
    rw [e0, ← List.append_assoc]
    have hq : (longL (UInt64.ofNat I) ++ longL (UInt64.ofNat Z)).length = 16 := rfl
    rw [word4_app _ (octL (UInt32.ofNat ls.length) ++ (ls.flatten ++ post)) _ _ _ _ _ 16 hq rfl, word_octL, UInt32.toNat_ofNat']; omega
  refine ⟨?_, g1, g2, g3, ?_⟩
  · unfold parseE
    rw [g1, g2, g3, List.length_append, hl]
    rw [if_neg (by omega), if_neg (by omega), if_neg (by omega), if_neg (by omega)]
  · rw [e0, ← List.append_assoc, ← List.append_assoc]
    exact rowsOf_flat h32 _ post rfl
end

section
open Go Go.RowKit

section
variable {P : Program} {o : Oper} {a : Act}
theorem exec_slice2 {t e : TypeId} {x y z : Operand} {p : Option Addr} {n c k h : Nat} (ho : o.op = .slice t x (some y) (some z) none) (hx : a.eval x = .slice p n c) (hy : a.eval y = .int .i64 (k : Int)) (hz : a.eval z = .int .i64 (h : Int)) (hu : P.underlying t = some (.slice e)) (hs : (P.info? e).map (·.size) = some 1) (hk : k ≤ h) (hc : h ≤ c)
    {q : Option Addr} (hq : shift p c k = q) (w : World) : (execOp a.eval o).run P w = .ok (.value (.slice q (h - k) (c - k))) w := by
  subst hq
  have hr : (Instr.sliceAt t (.slice p n c) (some (.int .i64 (k : Int))) (some (.int .i64 (h : Int))) none).run P w = .ok (.slice (shift p c k) (h - k) (c - k)) w := by
    cases hq : P.info? e with
    | none => simp [hq] at hs
    | some i =>
      have hi : i.size = 1 := by simpa [hq] using hs
      have h1 : (0 : Int) ≤ k ∧ (k : Int) ≤ h ∧ (h : Int) ≤ c := by omega
      simp [Instr.sliceAt, Instr.slice, Instr.sliceBounds, Instr.sliceBound, asIntOf, run_underlying hu, sizeOf, typeInfo, hq, hi, h1.2.1, h1.2.2, hk, hc, shift]
  unfold execOp
  simp only [ho, hx, hy, hz, Option.map_some, Option.map_none, Sem.run_bind, hr, Result.andThen_ok, Sem.run_pure]
theorem exec_arrayAt {T e : TypeId} {x : Operand} {p : Option Addr} {n c m : Nat} (ho : o.op = .sliceToArrayPointer T x) (hx : a.eval x = .slice p m c) (hu : P.underlying T = some (.array n e)) (hl : n ≤ m) (w : World) : (execOp a.eval o).run P w = .ok (.value (.pointer p)) w := by
  unfold execOp
  simp only [ho, hx, Sem.run_bind, run_arrayAt hu hl, Result.andThen_ok, Sem.run_pure]
end
theorem ret_row3 {P : Program} {fn : Func} {R : Ending → World → Prop} {a : Act} {w : World} {p u q : Tmp} {ty : TypeId} {g : Nat} {vs : List Value} {T : TypeId}
    (hres : fn.results = #[.cell p ty, .tmp u, .tmp q]) (hp : a.tmps.getD p undef = .pointer (some ⟨g, 0, none⟩)) (hb : Blk w g vs T)
    {n : Nat} (ht : AggT P ty n) (hn : vs.length = n)
    (hdef : a.defers = []) (hR : R (.returned (.tuple #[.agg vs.toArray, a.tmps.getD u undef, a.tmps.getD q undef])) w) : bodyPost P fn R .ret a w := by
  have h1 := run_load_sub (P := P) (off := 0) hb ht (by omega)
  have h2 : (vs.drop 0).take n = vs := by simp [← hn]
  rw [h2] at h1
  refine bodyPost_ret (v := .tuple #[.agg vs.toArray, a.tmps.getD u undef, a.tmps.getD q undef]) ?_ hdef hR
  simp only [Array.getD_eq_getD_getElem?] at hp
  simp [results, hres, hp, asAddr, h1]

/-- the octets of a part -/
theorem part_at {w : World} {a : Option Addr} {l : List UInt8} (h : Cells w a (l.map u8v)) (c k : Nat) (hk : k + 32 ≤ l.length) (hlc : l.length ≤ c) : ∃ A, shift a c k = some A ∧ CellsAt w A (((l.drop k).take 32).map u8v) := by
  have h1 := Cells.shift h c k 32 (by omega)
  rw [← List.map_drop, ← List.map_take] at h1
  obtain ⟨b, off, hs, _⟩ := h1.some_of (by rw [List.length_map, List.length_take, List.length_drop]; omega)
  rw [hs] at h1
  exact ⟨_, hs, CellsAt.of h1⟩

theorem Cls.grownL {w0 W w w' : World} {L : List Nat} {row : Option Nat} (h : Cls w0 W L [] w) (k : w.grownBy w' row) (hr : ∀ g, row = some g → g ∉ L) (h0 : ∀ g, row = some g → w0.heap.size ≤ g) : Cls w0 W L [] w' :=
  ⟨h.base.grown k h0, ⟨Nat.le_trans h.kept.1 k.size, h.kept.2.1, fun g hg => (k.block g (Nat.lt_of_lt_of_le (h.kept.2.1 g hg) h.kept.1) (fun e => hr g e.symm hg)).trans (h.kept.2.2 g hg)⟩, by simp⟩

set_option maxRecDepth 100000 in
set_option maxHeartbeats 2000000 in
theorem parseProof_c (l : List UInt8) (a : Option Addr) (n c : Nat) (w : World) (hl : l.length = n) (hn : n ≤ 140737488355328) (hnc : n ≤ c) (hcl : Cells w a (l.map u8v)) :
    Calls Try.prog 11 #[.slice a n c] w (parsePost l w) := by
  have HL := hid hl
  have HC := hid hcl
  have hnum := hid (fun w' h => number_c l a n c 16 w' hl hn hnc h)
  obtain ⟨E, hE⟩ : ∃ E, parseE l = E := ⟨_, rfl⟩
  have HE := hid hE
  unfold parseE at hE
  rw [hl] at hE
  unfold numOf at hnum
  by_cases h20 : n < 20
  · rw [if_pos h20] at hE
    have hr : roomE n 16 4 = 1 := by unfold roomE; rw [if_neg (by omega), if_pos (by omega)]
    rw [hr, if_neg (by decide)] at hnum
    subst hE
    clear hl hcl hr
    go_enter Try.func11, Try.ntmps11
    go_upto_region 1 with (fail)
    generalize hwA : World.alloc w _ = wA
    have zA : Blk wA w.heap.size [.int .i64 0, .int .i64 0, .slice none 0 0] 24 := by rw [← hwA]; exact Blk.mk_alloc rfl rfl
    have eA : Ext w wA := by rw [← hwA]; exact (Ext.refl w).alloc _
    clear hwA
    have ZA := hid zA
    have EA := hid eA
    clear zA eA
    go_wp2_with fail
    refine (hnum.out wA (HC.out.ext EA.out)).mono ?_
    rintro e wB ⟨rfl, eB⟩
    have ZB := hid (ZA.out.ext eB)
    have EB := hid (EA.out.ext eB)
    clear eB ZA EA
    go_wp2_with (refine wpl_storew rfl _ _ _ rfl rfl rfl ZB.out agg_proof rfl (xs := [.int .i64 0, .int .i64 0, .slice none 0 0]) rfl (by simp [Value.oneCell']) ?_)
    intro w4 b4 u4
    go_wp2
    refine ret_row3 rfl rfl b4 agg_proof rfl rfl ⟨0, 0, 0, .slice none 0 0, by rw [HE.out]; rfl, by rw [HE.out, if_neg (by decide)]; exact ⟨rfl, rfl, rfl, rfl⟩, u4.ext EB.out (Nat.le_refl _)⟩
  · rw [if_neg h20] at hE
    have hr : roomE n 16 4 = 0 := by unfold roomE; rw [if_neg (by omega), if_neg (by omega)]
    rw [hr, if_pos rfl] at hnum
    have hM32 : manyL l < 4294967296 := by unfold manyL; exact (word4 l 16).toNat_lt
    rw [show (word4 l (16 : Int).toNat).toNat = manyL l from rfl] at hnum
    have hr0 : roomE n 0 8 = 0 := by unfold roomE; rw [if_neg (by omega), if_neg (by omega)]
    have hr8 : roomE n 8 8 = 0 := by unfold roomE; rw [if_neg (by omega), if_neg (by omega)]
    have hl0 := fun w' h => long_c l a n c 0 w' hl hn hnc h
    have hl8 := fun w' h => long_c l a n c 8 w' hl hn hnc h
    unfold longOf at hl0 hl8
    rw [hr0, if_pos rfl, show (0 : Int).toNat = 0 from rfl] at hl0
    rw [hr8, if_pos rfl, show (8 : Int).toNat = 8 from rfl] at hl8
    have hp32 : 20 + 32 * manyL l ≤ l.length → ∀ k, k ≤ manyL l → All32 (rowsOf l k) := fun h k hk => rowsOf_32 (by omega)
    have HP32 := hid hp32
    generalize hM : manyL l = M at *
    generalize hX : long8 l 0 = X at *
    generalize hY : long8 l 8 = Y at *
    obtain ⟨N, hN⟩ : ∃ N, N = 20 + 32 * M := ⟨_, rfl⟩
    have hend : (20 + 32 * (M : Int)) = (N : Int) := by omega
    have HNd := hid hN
    have HM := hid hM
    have HX := hid hX
    have HY := hid hY
    have HL0 := hid hl0
    have HL8 := hid hl8
    clear hl hcl hr hr0 hr8 hM hX hY hl0 hl8 hp32
    go_enter Try.func11, Try.ntmps11
    go_upto_region 1 with (fail)
    generalize hwA : World.alloc w _ = wA
    have zA : Blk wA w.heap.size [.int .i64 0, .int .i64 0, .slice none 0 0] 24 := by rw [← hwA]; exact Blk.mk_alloc rfl rfl
    have eA : Ext w wA := by rw [← hwA]; exact (Ext.refl w).alloc _
    clear hwA
    have ZA := hid zA
    have EA := hid eA
    clear zA eA
    go_wp2_with fail
    refine (hnum.out wA (HC.out.ext EA.out)).mono ?_
    rintro e wB ⟨rfl, eB⟩
    have ZB := hid (ZA.out.ext eB)
    have EB := hid (EA.out.ext eB)
    clear eB ZA EA hnum
    by_cases hsh : n < N
    · rw [if_pos (by omega)] at hE
      subst hE
      have d1 : decide (n < N) = true := decide_eq_true hsh
      have d2 : decide ((n : Int) < (N : Int)) = true := decide_eq_true (by omega)
      clear hN
      go_wp2_with (refine wpl_storew rfl _ _ _ rfl rfl rfl ZB.out agg_proof rfl (xs := [.int .i64 0, .int .i64 0, .slice none 0 0]) rfl (by simp [Value.oneCell']) ?_)
      intro w4 b4 u4
      go_wp2
      refine ret_row3 rfl rfl b4 agg_proof rfl rfl ⟨0, 0, 0, .slice none 0 0, by rw [HE.out]; rfl, by rw [HE.out, if_neg (by decide)]; exact ⟨rfl, rfl, rfl, rfl⟩, u4.ext EB.out (Nat.le_refl _)⟩
    · rw [if_neg (by omega)] at hE
      have d1 : decide (n < N) = false := decide_eq_false hsh
      have d2 : decide ((n : Int) < (N : Int)) = false := decide_eq_false (by omega)
      clear hN
      go_wp2_with fail
      by_cases hx62 : X ≤ 4611686018427387904
      · have hl0 := HL0.out wB (HC.out.ext EB.out)
        rw [if_pos hx62] at hl0
        refine hl0.mono ?_
        rintro e wC ⟨rfl, eC⟩
        have ZC := hid (ZB.out.ext eC)
        have EC := hid (EB.out.ext eC)
        clear eC ZB EB hl0 HL0
        go_wp2_with fail
        by_cases hy62 : Y ≤ 4611686018427387904
        · have hl8 := HL8.out wC (HC.out.ext EC.out)
          rw [if_pos hy62] at hl8
          refine hl8.mono ?_
          rintro e wD ⟨rfl, eD⟩
          have ZD := hid (ZC.out.ext eD)
          have ED := hid (EC.out.ext eD)
          clear eD ZC EC hl8 HL8
          have hpf := hid (fun w' => proofFault_c (X : Int) (Y : Int) 0 0 none w')
          go_wp2_with (first | (refine wpl_storew rfl _ (.tmp 12) _ rfl rfl rfl (Blk.mk_alloc (vs := [.int .i64 0, .int .i64 0, .slice none 0 0]) rfl rfl) agg_proof rfl (xs := [.int .i64 (X : Int), .int .i64 (Y : Int), .slice none 0 0]) rfl (by simp [Value.oneCell']) ?_))
          intro wE bE uE
          have eE : Ext wD wE := uE.ext ((Ext.refl wD).alloc _) (Nat.le_refl _)
          have ZE := hid (ZD.out.ext eE)
          have EE := hid (ED.out.ext eE)
          have PE := hid bE
          have hgp : w.heap.size < wD.heap.size := ZD.out.lt
          have hgpl : wD.heap.size < wE.heap.size := bE.lt
          clear eE uE ZD ED bE
          generalize wD.heap.size = gp at *
          go_wp2_with (refine wpl_loadw rfl 24 _ rfl rfl PE.out agg_proof rfl ?_)
          refine (hpf.out wE).mono ?_
          rintro e wF ⟨rfl, eF⟩
          have ZF := hid (ZE.out.ext eF)
          have EF := hid (EE.out.ext eF)
          have PF := hid (PE.out.ext eF)
          have hgpF : gp < wF.heap.size := PF.out.lt
          clear eF ZE EE PE hpf hgpl
          unfold printE
          by_cases hbig : 65536 < X ∨ 65536 < Y
          · rw [if_pos hbig] at hE
            subst hE
            rw [if_pos (by omega)]
            go_wp2_with (refine wpl_storew rfl _ _ _ rfl rfl rfl ZF.out agg_proof rfl (xs := [.int .i64 0, .int .i64 0, .slice none 0 0]) rfl (by simp [Value.oneCell']) ?_)
            intro w4 b4 u4
            go_wp2
            refine ret_row3 rfl rfl b4 agg_proof rfl rfl ⟨0, 0, 0, .slice none 0 0, by rw [HE.out]; rfl, by rw [HE.out, if_neg (by decide)]; exact ⟨rfl, rfl, rfl, rfl⟩, u4.ext EF.out (Nat.le_refl _)⟩
          · rw [if_neg hbig] at hE
            rw [if_neg (by omega), if_neg (by omega)]
            by_cases h64 : 64 < M
            · rw [if_pos h64] at hE
              subst hE
              have d3 : decide (64 < M) = true := decide_eq_true h64
              have d4 : decide ((64 : Int) < (M : Int)) = true := decide_eq_true (by omega)
              go_wp2_with (refine wpl_storew rfl _ _ _ rfl rfl rfl ZF.out agg_proof rfl (xs := [.int .i64 0, .int .i64 0, .slice none 0 0]) rfl (by simp [Value.oneCell']) ?_)
              intro w4 b4 u4
              go_wp2
              refine ret_row3 rfl rfl b4 agg_proof rfl rfl ⟨0, 0, 0, .slice none 0 0, by rw [HE.out]; rfl, by rw [HE.out, if_neg (by decide)]; exact ⟨rfl, rfl, rfl, rfl⟩, u4.ext EF.out (Nat.le_refl _)⟩
            · rw [if_neg h64] at hE
              subst hE
              have d3 : decide (64 < M) = false := decide_eq_false h64
              have d4 : decide ((64 : Int) < (M : Int)) = false := decide_eq_false (by omega)
              have O0 := hid (World.ownsRow_nil wF wF.heap.size 36 32)
              obtain ⟨B, hB⟩ : ∃ B, wF.heap.size = B := ⟨_, rfl⟩
              rw [hB] at O0
              have hBF : B ≤ wF.heap.size := by omega
              have hgB : gp < B := by omega
              clear hB hgpF
              go_wp2
              go_loopw [14] (fun t wr => ∃ (k j : Nat) (pv : Value), k ≤ M ∧ j = 20 + 32 * k ∧ t = .int .i64 (j : Int) ∧ Blk wr gp [.int .i64 (X : Int), .int .i64 (Y : Int), pv] 24 ∧ wr.ownsRow B 36 32 pv k (rows (rowsOf l k)) ∧ Blk wr w.heap.size [.int .i64 0, .int .i64 0, .slice none 0 0] 24 ∧ Ext w wr ∧ B ≤ wr.heap.size) (fun t _ => N - (intOf t).toNat)
              case atStart => exact ⟨0, 20, .slice none 0 0, by omega, rfl, rfl, PF.out, O0.out, ZF.out, EF.out, hBF⟩
              case round =>
                obtain ⟨k, j, pv, hk, hj, rfl, hP, hO, hZ, hEx, hBw⟩ := hrel
                have PW := hid hP
                have OW := hid hO
                have ZW := hid hZ
                have EW := hid hEx
                have HJ := hid hj
                clear hP hO hZ hEx PF O0 ZF EF
                by_cases hlt : k < M
                · have hjN : j < N := by have := HNd.out; omega
                  have hjn : j + 32 ≤ n := by have := HNd.out; omega
                  obtain ⟨A, hsh2, hca⟩ := part_at HC.out c j (by rw [HL.out]; exact hjn) (by rw [HL.out]; exact hnc)
                  have hrow : rowsOf l (k + 1) = rowsOf l k ++ [(l.drop j).take 32] := by rw [rowsOf_succ, HJ.out]
                  have hy : ((l.drop j).take 32).length = 32 := by rw [List.length_take, List.length_drop, HL.out]; omega
                  generalize (l.drop j).take 32 = y at *
                  have HROW := hid hrow
                  have HSH := hid hsh2
                  have HCA := hid hca
                  have HY0 := hid hy
                  have HYV : Hid ((y.map u8v).length = 32) := hid (by rw [List.length_map, hy])
                  have g1 : decide (j < N) = true := decide_eq_true hjN
                  have g2 : decide ((j : Int) < (N : Int)) = true := decide_eq_true (by omega)
                  clear hrow hsh2 hca hy hj
                  go_wp2
                  obtain ⟨C, hC⟩ : ∃ C : World → Prop, C = Cls w wr [gp, w.heap.size] [] := ⟨_, rfl⟩
                  have hC0 : ∀ w', C w' ↔ Cls w wr [gp, w.heap.size] [] w' := fun w' => by rw [hC]
                  clear hC
                  have HCC := hid hC0
                  clear hC0
                  have hCx : ∀ w w', C w → Ext w w' → C w' := fun w w' h1 h2 => (HCC.out w').2 (((HCC.out w).1 h1).ext h2)
                  have hCA : C wr := (HCC.out _).2 (Cls.no_room EW.out (Kept.two PW.out.lt ZW.out.lt))
                  have e2 : ∀ w1, C w1 → w1.cell? ⟨gp, 2, none⟩ = some pv := fun w1 h1 => (((HCC.out w1).1 h1).blk PW.out (by simp)).cell' rfl
                  have hca : ∀ w1, C w1 → CellsAt w1 A (y.map u8v) := fun w1 h1 => HCA.out.ext ((HCC.out w1).1 h1).base
                  have hwr : IntKind.i64.wrap ((j : Int) + 32) = (j : Int) + 32 := IntWalk.i64_in _ (by omega)
                  refine wp_region_w (S := C) (W := [12]) (by kernel_rfl) (hCx _ _ hCA (Ext.refl _).drew) (fun hS0 => ?_)
                  refine w_pure 0 (v := ?tv1) rfl (by kernel_rfl) (by kernel_rfl) (by kernel_rfl) (fun _ _ _ h => h) (.inl ⟨rfl, ?ty1⟩) ?tr1
                  case ty1 => (intro _ _; go_simp; try with_reducible rfl)
                  case tr1 =>
                  simp only [Act.put, List.setIfInBounds_toArray, List.set_cons_succ, List.set_cons_zero]
                  refine w_take 1 (v := ?tv2) rfl (by kernel_rfl) (by kernel_rfl) (by kernel_rfl) (by kernel_rfl) (by kernel_rfl) (fun _ _ _ h => h) (.inl ⟨rfl, ?ty2⟩) hS0 ?tr2
                  case ty2 => (intro wq hwq; have hcq := (e2) wq hwq; go_simp; try with_reducible rfl)
                  case tr2 =>
                  simp only [Act.put, List.setIfInBounds_toArray, List.set_cons_succ, List.set_cons_zero]
                  refine w_pure 2 (v := ?tv3) rfl (by kernel_rfl) (by kernel_rfl) (by kernel_rfl) (fun _ _ _ h => h) (.inl ⟨rfl, ?ty3⟩) ?tr3
                  case ty3 => (intro _ _; go_simp; try with_reducible rfl)
                  case tr3 =>
                  simp only [Act.put, List.setIfInBounds_toArray, List.set_cons_succ, List.set_cons_zero]
                  refine w_pure 3 (v := ?tv4) rfl (by kernel_rfl) (by kernel_rfl) (by kernel_rfl) (fun _ _ _ h => h) (.inl ⟨rfl, ?ty4⟩) ?tr4
                  case ty4 => (intro _ _; go_simp; try with_reducible rfl)
                  case tr4 =>
                  simp only [Act.put, List.setIfInBounds_toArray, List.set_cons_succ, List.set_cons_zero]
                  refine w_pure 4 (v := ?tv5) rfl (by kernel_rfl) (by kernel_rfl) (by kernel_rfl) (fun _ _ _ h => h) (.inl ⟨rfl, ?ty5⟩) ?tr5
                  case ty5 => (intro _ _; go_simp; try with_reducible rfl)
                  case tr5 =>
                  simp only [Act.put, List.setIfInBounds_toArray, List.set_cons_succ, List.set_cons_zero]
                  refine w_pure 5 (v := ?tv6) rfl (by kernel_rfl) (by kernel_rfl) (by kernel_rfl) (fun _ _ _ h => h) (.inl ⟨rfl, ?ty6⟩) ?tr6
                  case ty6 => (intro _ _; go_simp; try with_reducible rfl)
                  case tr6 =>
                  simp only [Act.put, List.setIfInBounds_toArray, List.set_cons_succ, List.set_cons_zero]
                  refine w_pure 6 (v := _) rfl (by kernel_rfl) (by kernel_rfl) (by kernel_rfl) (fun _ _ _ h => h) (yieldsI_run rfl (fun w1 _ => exec_slice2 (k := j) (h := j + 32) rfl rfl rfl rfl Try.underlying25 size_u8 (by omega) (by omega) HSH.out w1)) ?_
                  simp only [Act.put, List.setIfInBounds_toArray, List.set_cons_succ, List.set_cons_zero]
                  refine w_pure 7 (v := _) rfl (by kernel_rfl) (by kernel_rfl) (by kernel_rfl) (fun _ _ _ h => h) (yieldsI_run rfl (fun w1 _ => exec_arrayAt (n := 32) rfl rfl Try.underlying36 (by omega) w1)) ?_
                  simp only [Act.put, List.setIfInBounds_toArray, List.set_cons_succ, List.set_cons_zero]
                  refine w_take 8 (v := _) rfl (by kernel_rfl) (by kernel_rfl) (by kernel_rfl) (by kernel_rfl) (by kernel_rfl) (fun _ _ _ h => h) (yieldsI_run rfl (fun w1 h => exec_load_at rfl rfl (hca w1 h) agg_apisum HYV.out)) hS0 ?_
                  simp only [Act.put, List.setIfInBounds_toArray, List.set_cons_succ, List.set_cons_zero]
                  clear hwr
                  have eG : Ext wr wr.drew := (Ext.refl wr).drew
                  have OG := hid (ownsRow_ext OW.out eG)
                  have hBG : B ≤ wr.drew.heap.size := hBw
                  generalize wr.drew = wG at *
                  clear eG
                  refine w_one (i := 9) (by kernel_rfl) rfl (by kernel_rfl) hS0 ?_
                  intro Q' hQ
                  go_wp2_with (refine wpl_buildRow rfl rfl rfl HY0.out ?_)
                  have hH : C (wG.alloc (.cells (y.map u8v).toArray 36)) := hCx _ _ hS0 ((Ext.refl wG).alloc _)
                  have OH := hid (ownsRow_ext OG.out ((Ext.refl wG).alloc (.cells (y.map u8v).toArray 36)))
                  have BH := hid (Blk.alloc_new wG (y.map u8v) 36)
                  have hBH : B ≤ (wG.alloc (.cells (y.map u8v).toArray 36)).heap.size := Nat.le_trans hBG ((Ext.refl wG).alloc _).size
                  go_wp2_with fail
                  refine hQ _ _ hH ?_
                  clear hQ Q' hS0 OG hBG
                  generalize wG.alloc (.cells (y.map u8v).toArray 36) = wH at *
                  generalize wG.heap.size = gy at *
                  have hS0 := hH
                  clear hH
                  try dsimp only
                  try simp only [Act.put, List.setIfInBounds_toArray, List.set_cons_succ, List.set_cons_zero]
                  refine w_one (i := 10) (by kernel_rfl) rfl (by kernel_rfl) hS0 ?_
                  intro Q' hQ
                  go_wp2_with (first | (at_builtin; refine wpl_append_row rfl _ _ rfl B rfl rfl OH.out HY0.out BH.out (by omega) hBH ?_))
                  intro v2 wI own2 g2
                  have hv2 := own_block_ge OH.out
                  have hI : C wI := (HCC.out wI).2 (((HCC.out wH).1 hS0).grownL g2 (by intro q hq; have := hv2 _ hq; simp; omega) (by intro q hq; have := hv2 _ hq; omega))
                  have OI := hid own2
                  have hBI : B ≤ wI.heap.size := Nat.le_trans hBH g2.size
                  go_wp2_with fail
                  refine hQ _ _ hI ?_
                  clear hQ Q' hS0 OH own2 g2 hv2 hBH BH
                  try dsimp only
                  try simp only [Act.put, List.setIfInBounds_toArray, List.set_cons_succ, List.set_cons_zero]
                  refine w_pure 11 (v := ?tv7) rfl (by kernel_rfl) (by kernel_rfl) (by kernel_rfl) (fun _ _ _ h => h) (.inl ⟨rfl, ?ty7⟩) ?tr7
                  case ty7 => (intro _ _; go_simp; try with_reducible rfl)
                  case tr7 =>
                  simp only [Act.put, List.setIfInBounds_toArray, List.set_cons_succ, List.set_cons_zero]
                  have PI := hid (((HCC.out wI).1 hI).blk PW.out (by simp))
                  have ZI := hid (((HCC.out wI).1 hI).blk ZW.out (by simp))
                  have EI := hid ((HCC.out wI).1 hI).base
                  have q1 : wI.cell? ⟨gp, 2, none⟩ = some pv := PI.out.cell' rfl
                  have q2 : wI.frozen? ⟨gp, 2, none⟩ = false := PI.out.frozen 2
                  have hv3 := own_block_ge OI.out
                  obtain ⟨pa, pc, rfl, -⟩ := own_sliceT (by omega) OI.out
                  clear hI hCx hCA HCC e2 hca
                  refine w_late (i := 12) (by kernel_rfl) rfl (by kernel_rfl) ?_
                  intro Q' hQ
                  go_wp2_with fail
                  refine hQ _ _ trivial ?_
                  clear hQ Q' q1 q2
                  refine w_done (by kernel_rfl) ?_ _
                  have PJ := hid (PI.out.set 2 (.slice pa (k + 1) pc))
                  have uJ : Upd wI gp (wI.setCell ⟨gp, 2, none⟩ (.slice pa (k + 1) pc)) := Upd.setCell _
                  have ZJ := hid (ZI.out.upd uJ (by omega))
                  have EJ := hid (uJ.ext EI.out (by omega))
                  have OJ := hid (OI.out.kept (gby_upd (gby_self wI (some gp)) uJ) (.inr (by intro h; have := hv3 _ h; omega)))
                  have hBJ : B ≤ (wI.setCell ⟨gp, 2, none⟩ (.slice pa (k + 1) pc)).heap.size := by rw [uJ.size]; exact hBI
                  clear uJ PI ZI EI OI hv3 hBI
                  generalize wI.setCell ⟨gp, 2, none⟩ (.slice pa (k + 1) pc) = wJ at *
                  go_wp2
                  go_roundw
                  case rel => exact ⟨k + 1, j + 32, _, by omega, by have := HJ.out; omega, by first | rfl | go_num, PJ.out, by rw [HROW.out]; exact OJ.out, ZJ.out, EJ.out, hBJ⟩
                  case measure => simp [intOf]; omega
                · have hkM : k = M := by omega
                  have hjN : j = N := by have := HNd.out; omega
                  subst hkM
                  subst hjN
                  have g1 : decide (j < j) = false := by simp
                  clear hj
                  go_wp2_with (first | (refine wpl_loadw rfl 24 _ rfl rfl PW.out agg_proof rfl ?_) | (refine wpl_storew rfl _ _ _ rfl rfl rfl ZW.out agg_proof rfl rfl (by have := OW.out; obtain ⟨pa, pc, rfl, -⟩ := own_sliceT (by omega) this; simp [Value.oneCell']) ?_))
                  intro w4 b4 u4
                  have O4 := hid (OW.out.kept (gby_upd (gby_self wr (some w.heap.size)) u4) (.inr (by intro h; have := own_block_ge OW.out _ h; omega)))
                  have E4 := hid (u4.ext EW.out (Nat.le_refl _))
                  go_wp2
                  refine ret_row3 rfl rfl b4 agg_proof rfl rfl ⟨(X : Int), (Y : Int), (j : Int), pv, by rw [HE.out]; rfl, ?_, E4.out⟩
                  rw [HE.out, if_pos rfl, HM.out, HX.out, HY.out]
                  exact ⟨rfl, rfl, by rw [HNd.out], own_lower O4.out (by omega)⟩
        · have hl8 := HL8.out wC (HC.out.ext EC.out)
          rw [if_neg hy62] at hl8
          refine hl8.mono ?_
          rintro e wD ⟨rfl, eD⟩
          have ZD := hid (ZC.out.ext eD)
          have ED := hid (EC.out.ext eD)
          rw [if_pos (by omega)] at hE
          subst hE
          clear eD ZC EC hl8 HL8
          go_wp2_with (refine wpl_storew rfl _ _ _ rfl rfl rfl ZD.out agg_proof rfl (xs := [.int .i64 0, .int .i64 0, .slice none 0 0]) rfl (by simp [Value.oneCell']) ?_)
          intro w4 b4 u4
          go_wp2
          refine ret_row3 rfl rfl b4 agg_proof rfl rfl ⟨0, 0, 0, .slice none 0 0, by rw [HE.out]; rfl, by rw [HE.out, if_neg (by decide)]; exact ⟨rfl, rfl, rfl, rfl⟩, u4.ext ED.out (Nat.le_refl _)⟩
      · have hl0 := HL0.out wB (HC.out.ext EB.out)
        rw [if_neg hx62] at hl0
        refine hl0.mono ?_
        rintro e wC ⟨rfl, eC⟩
        have ZC := hid (ZB.out.ext eC)
        have EC := hid (EB.out.ext eC)
        clear eC ZB EB hl0 HL0
        go_wp2_with fail
        obtain ⟨Y2, e2, hY2⟩ : ∃ (Y2 e2 : Int), (if Y ≤ 4611686018427387904 then Value.tuple #[.int .i64 (Y : Nat), .int .i64 0] else .tuple #[.int .i64 0, .int .i64 4]) = .tuple #[.int .i64 Y2, .int .i64 e2] := by
          split
          · exact ⟨_, _, rfl⟩
          · exact ⟨_, _, rfl⟩
        have hl8 := HL8.out wC (HC.out.ext EC.out)
        rw [hY2] at hl8
        refine hl8.mono ?_
        rintro e wD ⟨rfl, eD⟩
        have ZD := hid (ZC.out.ext eD)
        have ED := hid (EC.out.ext eD)
        rw [if_pos (by omega)] at hE
        subst hE
        clear eD ZC EC hl8 HL8 hY2
        go_wp2_with (refine wpl_storew rfl _ _ _ rfl rfl rfl ZD.out agg_proof rfl (xs := [.int .i64 0, .int .i64 0, .slice none 0 0]) rfl (by simp [Value.oneCell']) ?_)
        intro w4 b4 u4
        go_wp2
        refine ret_row3 rfl rfl b4 agg_proof rfl rfl ⟨0, 0, 0, .slice none 0 0, by rw [HE.out]; rfl, by rw [HE.out, if_neg (by decide)]; exact ⟨rfl, rfl, rfl, rfl⟩, u4.ext ED.out (Nat.le_refl _)⟩
end

section
open Go Go.RowKit

def natOf (l : List UInt8) : Nat := l.foldl (fun m c => m * 256 + c.toNat) 0
def w64 (m : Nat) : Int := IntKind.i64.wrap (m : Int)
theorem natOf_snoc (l : List UInt8) (c : UInt8) : natOf (l ++ [c]) = natOf l * 256 + c.toNat := by unfold natOf; rw [List.foldl_append]; rfl
theorem w64_shl (m : Nat) : IntKind.i64.wrap (w64 m * 256) = w64 (m * 256) := by
  unfold w64; simp only [IntKind.wrap_i64]; omega
theorem w64_or (m : Nat) (c : UInt8) : bits .or .i64 (w64 (m * 256)) (c.toNat : Int) = w64 (m * 256 + c.toNat) := by
  have hc := c.toNat_lt
  have ea : (BitVec.ofInt 64 (w64 (m * 256))).toNat = m * 256 % 18446744073709551616 := by
    unfold w64
    rw [BitVec.toNat_ofInt, IntKind.wrap_i64]; omega
  have eb : (BitVec.ofInt 64 (c.toNat : Int)).toNat = c.toNat := by rw [BitVec.toNat_ofInt]; omega
  change IntKind.i64.wrap ((BitVec.ofInt 64 (w64 (m * 256)) ||| BitVec.ofInt 64 (c.toNat : Int)).toNat : Int) = _
  have h := nat_join 8 (m * 256 % 18446744073709551616) c.toNat (by omega) (by omega)
  rw [BitVec.toNat_or, ea, eb, h]
  unfold w64
  simp only [IntKind.wrap_i64]; omega

set_option maxRecDepth 100000 in
set_option maxHeartbeats 1000000 in
theorem rnumber_c (l : List UInt8) (a : Option Addr) (n c : Nat) (w : World) (hl : l.length = n) (hn : n ≤ 140737488355328) (hcl : Cells w a (l.map u8v)) :
    Calls Try.prog 41 #[.slice a n c] w fun e w' => e = .returned (.int .i64 (w64 (natOf l))) ∧ w = w' := by
  have HL := hid hl
  have HC := hid hcl
  clear hl hcl
  go_enter Try.func41, Try.ntmps41
  go_wp2
  go_loopw [3, 8] (fun t i wr => ∃ k : Nat, k ≤ n ∧ i = .int .i64 (k : Int) ∧ t = .int .i64 (w64 (natOf (l.take k))) ∧ w = wr) (fun _ i _ => n - (intOf i).toNat)
  case atStart => exact ⟨0, by omega, rfl, rfl, by first | trivial | rfl⟩
  case round =>
    obtain ⟨k, hk, rfl, rfl, rfl⟩ := hrel
    by_cases hlt : k < n
    · obtain ⟨x, hxk⟩ : ∃ x, l[k]? = some x := ⟨l[k]'(by rw [HL.out]; exact hlt), by simp⟩
      obtain ⟨A, rfl, hca⟩ : ∃ A, a = some A ∧ w.cell? (A.add (k * 1)) = some (u8v x) := by
        obtain ⟨g, o, rfl, h⟩ := HC.out.some_of (by rw [List.length_map, HL.out]; omega)
        exact ⟨_, rfl, by rw [addr_add, Nat.mul_one]; exact h k _ (by rw [List.getElem?_map, hxk]; rfl)⟩
      have hs : l.take (k + 1) = l.take k ++ [x] := by
        rw [List.take_add_one, hxk]; rfl
      have hv : natOf (l.take (k + 1)) = natOf (l.take k) * 256 + x.toNat := by rw [hs, natOf_snoc]
      have HV := hid hv
      clear hs hv hxk
      generalize natOf (l.take k) = m at *
      have q1 := w64_shl m
      have q2 := w64_or m x
      have q3 : IntKind.i64.wrap (x.toNat : Int) = (x.toNat : Int) := IntWalk.i64_in _ (by have := x.toNat_lt; omega)
      have hca1 : w.cell? (A.add k) = some (.int .u8 (x.toNat : Int)) := by rw [Nat.mul_one] at hca; exact hca
      unfold u8v at hca
      go_wp2
      go_roundw
      case rel => exact ⟨k + 1, by omega, by first | rfl | go_num, by rw [HV.out], by first | trivial | rfl⟩
      case measure => simp [intOf]; omega
    · have hkn : k = n := by omega
      subst hkn
      have hlk : l.take k = l := List.take_of_length_le (by rw [HL.out]; omega)
      rw [hlk] at *
      go_wp2
      go_ret
      exact ⟨rfl, rfl⟩
end

section
open Go Go.RowKit

theorem part_cons {l : List UInt8} {p m : Nat} (h : p < l.length) : (l.drop p).take (m + 1) = l[p]?.getD 0 :: (l.drop (p + 1)).take m := by
  rw [List.drop_eq_getElem_cons h, List.take_succ_cons, List.getElem?_eq_getElem h]; rfl
theorem word4_sum (l : List UInt8) (p : Nat) : (word4 l p).toNat = (l[p]?.getD 0).toNat * 16777216 + (l[p + 1]?.getD 0).toNat * 65536 + (l[p + 2]?.getD 0).toNat * 256 + (l[p + 3]?.getD 0).toNat := by
  have ha := (l[p]?.getD 0).toNat_lt
  have hb := (l[p + 1]?.getD 0).toNat_lt
  have hc := (l[p + 2]?.getD 0).toNat_lt
  have hd := (l[p + 3]?.getD 0).toNat_lt
  unfold word4 wordOf
  rw [UInt32.toNat_ofNat']; omega
theorem natOf_4 {l : List UInt8} {p : Nat} (h : p + 4 ≤ l.length) : natOf ((l.drop p).take 4) = (word4 l p).toNat := by
  rw [part_cons (by omega), part_cons (by omega), part_cons (by omega), part_cons (by omega), List.take_zero, word4_sum]
  simp only [natOf, List.foldl_cons, List.foldl_nil, Nat.add_assoc, Nat.reduceAdd]
  omega
theorem natOf_8 {l : List UInt8} {p : Nat} (h : p + 8 ≤ l.length) : natOf ((l.drop p).take 8) = long8 l p := by
  rw [part_cons (by omega), part_cons (by omega), part_cons (by omega), part_cons (by omega), part_cons (by omega), part_cons (by omega), part_cons (by omega), part_cons (by omega), List.take_zero]
  unfold long8
  rw [word4_sum, word4_sum]
  simp only [natOf, List.foldl_cons, List.foldl_nil, Nat.add_assoc, Nat.reduceAdd]
  omega
theorem long8_lt (l : List UInt8) (p : Nat) : long8 l p < 18446744073709551616 := by
  unfold long8
  have := (word4 l p).toNat_lt
  have := (word4 l (p + 4)).toNat_lt
  omega
theorem w64_small {m : Nat} (h : m < 9223372036854775808) : w64 m = m := by
  unfold w64; rw [IntKind.wrap_i64]; omega
theorem parseE_ref {l : List UInt8} (h1 : ¬ l.length < 20) (h2 : ¬ l.length < 20 + 32 * manyL l) : parseE l = printE (w64 (long8 l 0)) (w64 (long8 l 8)) (manyL l) ∧ (parseE l = 0 → w64 (long8 l 0) = long8 l 0 ∧ w64 (long8 l 8) = long8 l 8) := by
  unfold parseE printE
  rw [if_neg h1, if_neg h2]
  have a := long8_lt l 0
  have b := long8_lt l 8
  generalize long8 l 0 = X at *
  generalize long8 l 8 = Y at *
  unfold w64
  simp only [IntKind.wrap_i64]
  constructor
  · by_cases hx : 65536 < X ∨ 65536 < Y
    · rw [if_pos hx, if_pos (by omega)]
    · rw [if_neg hx]
      have e1 : ((X : Int) + 9223372036854775808) % 18446744073709551616 - 9223372036854775808 = X := by omega
      have e2 : ((Y : Int) + 9223372036854775808) % 18446744073709551616 - 9223372036854775808 = Y := by omega
      rw [e1, e2]
      have hno : ¬ ((X : Int) < 0 ∨ 65536 < (X : Int) ∨ (Y : Int) < 0 ∨ 65536 < (Y : Int)) := by omega
      rw [if_neg hno]
  · intro h0
    by_cases hx : 65536 < X ∨ 65536 < Y
    · rw [if_pos hx] at h0; omega
    · omega

section
variable {P : Program} {o : Oper} {a : Act}
theorem exec_sliceHead {t e : TypeId} {x z : Operand} {p : Option Addr} {n c h : Nat} (ho : o.op = .slice t x none (some z) none) (hx : a.eval x = .slice p n c) (hz : a.eval z = .int .i64 (h : Int)) (hu : P.underlying t = some (.slice e)) (hs : (P.info? e).map (·.size) = some 1) (hc : h ≤ c)
    {q : Option Addr} (hq : shift p c 0 = q) (w : World) : (execOp a.eval o).run P w = .ok (.value (.slice q h c)) w := by
  subst hq
  have hr : (Instr.sliceAt t (.slice p n c) none (some (.int .i64 (h : Int))) none).run P w = .ok (.slice (shift p c 0) h c) w := by
    cases hq : P.info? e with
    | none => simp [hq] at hs
    | some i =>
      have hi : i.size = 1 := by simpa [hq] using hs
      have h1 : (0 : Int) ≤ (h : Int) ∧ (h : Int) ≤ c := by omega
      simp [Instr.sliceAt, Instr.slice, Instr.sliceBounds, Instr.sliceBound, asIntOf, run_underlying hu, sizeOf, typeInfo, hq, hi, h1.2, hc, shift]
  unfold execOp
  simp only [ho, hx, hz, Option.map_some, Option.map_none, Sem.run_bind, hr, Result.andThen_ok, Sem.run_pure]
end
end

section
open Go Go.RowKit

set_option maxRecDepth 100000 in
set_option maxHeartbeats 2000000 in
theorem rparseProof_c (l : List UInt8) (a : Option Addr) (n c : Nat) (w : World) (hl : l.length = n) (hn : n ≤ 140737488355328) (hnc : n ≤ c) (hcl : Cells w a (l.map u8v)) :
    Calls Try.prog 13 #[.slice a n c] w (parsePost l w) := by
  have HL := hid hl
  have HC := hid hcl
  obtain ⟨E, hE⟩ : ∃ E, parseE l = E := ⟨_, rfl⟩
  have HE := hid hE
  by_cases h20 : n < 20
  · unfold parseE at hE
    rw [hl, if_pos h20] at hE
    subst hE
    have d1 : decide (n < 20) = true := decide_eq_true h20
    have d2 : decide ((n : Int) < 20) = true := decide_eq_true (by omega)
    clear hl hcl
    go_enter Try.func13, Try.ntmps13
    go_upto_region 1 with (fail)
    generalize hwA : World.alloc w _ = wA
    have zA : Blk wA w.heap.size [.int .i64 0, .int .i64 0, .slice none 0 0] 24 := by rw [← hwA]; exact Blk.mk_alloc rfl rfl
    have eA : Ext w wA := by rw [← hwA]; exact (Ext.refl w).alloc _
    clear hwA
    have ZA := hid zA
    have EA := hid eA
    clear zA eA
    go_wp2_with (refine wpl_storew rfl _ _ _ rfl rfl rfl ZA.out agg_proof rfl (xs := [.int .i64 0, .int .i64 0, .slice none 0 0]) rfl (by simp [Value.oneCell']) ?_)
    intro w4 b4 u4
    go_wp2
    refine ret_row3 rfl rfl b4 agg_proof rfl rfl ⟨0, 0, 0, .slice none 0 0, by rw [HE.out]; rfl, by rw [HE.out, if_neg (by decide)]; exact ⟨rfl, rfl, rfl, rfl⟩, u4.ext EA.out (Nat.le_refl _)⟩
  · have d1 : decide (n < 20) = false := decide_eq_false h20
    have d2 : decide ((n : Int) < 20) = false := decide_eq_false (by omega)
    have hM32 : manyL l < 4294967296 := by unfold manyL; exact (word4 l 16).toNat_lt
    have hpe := fun h : ¬ n < 20 + 32 * manyL l => parseE_ref (l := l) (by omega) (by rw [hl]; exact h)
    have HPE := hid hpe
    have h0 : natOf ((l.drop 0).take 8) = long8 l 0 := natOf_8 (by omega)
    have h8 : natOf ((l.drop 8).take 8) = long8 l 8 := natOf_8 (by omega)
    have h16 : natOf ((l.drop 16).take 4) = manyL l := natOf_4 (by omega)
    have s0 : ∃ q, shift a c 0 = q ∧ Cells w q (((l.drop 0).take 8).map u8v) := ⟨_, rfl, by have := Cells.shift hcl c 0 8 (by omega); rw [List.map_take, List.map_drop]; exact this⟩
    have s8 : ∃ q, shift a c 8 = q ∧ Cells w q (((l.drop 8).take 8).map u8v) := ⟨_, rfl, by have := Cells.shift hcl c 8 8 (by omega); rw [List.map_take, List.map_drop]; exact this⟩
    have s16 : ∃ q, shift a c 16 = q ∧ Cells w q (((l.drop 16).take 4).map u8v) := ⟨_, rfl, by have := Cells.shift hcl c 16 4 (by omega); rw [List.map_take, List.map_drop]; exact this⟩
    obtain ⟨q0, hq0, hc0⟩ := s0
    obtain ⟨q8, hq8, hc8⟩ := s8
    obtain ⟨q16, hq16, hc16⟩ := s16
    have hm16 : Option.map (fun x : Addr => ({ block := x.block, off := x.off + 16 } : Addr)) a = q16 := by
      obtain ⟨g0, o0, rfl, _⟩ := hcl.some_of (by rw [List.length_map]; omega)
      rw [← hq16, shift_some _ _ _ _ (by omega)]; rfl
    have HM16 := hid hm16
    clear hm16
    have l0 : ((l.drop 0).take 8).length = 8 := by rw [List.length_take, List.length_drop]; omega
    have l8 : ((l.drop 8).take 8).length = 8 := by rw [List.length_take, List.length_drop]; omega
    have l16 : ((l.drop 16).take 4).length = 4 := by rw [List.length_take, List.length_drop]; omega
    have N0 := hid (fun w' => rnumber_c _ q0 8 c w' l0 (by omega))
    have N8 := hid (fun w' => rnumber_c _ q8 8 (c - 8) w' l8 (by omega))
    have N16 := hid (fun w' => rnumber_c _ q16 4 (c - 16) w' l16 (by omega))
    rw [h0] at N0
    rw [h8] at N8
    rw [h16] at N16
    generalize (l.drop 0).take 8 = L0 at *
    generalize (l.drop 8).take 8 = L8 at *
    generalize (l.drop 16).take 4 = L16 at *
    have HQ0 := hid hq0
    have HQ8 := hid hq8
    have HQ16 := hid hq16
    have C0 := hid hc0
    have C8 := hid hc8
    have C16 := hid hc16
    have HP32 : Hid (20 + 32 * manyL l ≤ l.length → ∀ k, k ≤ manyL l → All32 (rowsOf l k)) := hid (fun h k hk => rowsOf_32 (by omega))
    have hwM : w64 (manyL l) = manyL l := w64_small (by omega)
    rw [hwM] at N16
    obtain ⟨M, hM⟩ : ∃ M, manyL l = M := ⟨_, rfl⟩
    obtain ⟨X, hX⟩ : ∃ X, long8 l 0 = X := ⟨_, rfl⟩
    obtain ⟨Y, hY⟩ : ∃ Y, long8 l 8 = Y := ⟨_, rfl⟩
    rw [hX] at HPE N0
    rw [hY] at HPE N8
    rw [hM] at HPE N16 HP32 hM32
    obtain ⟨I, hI⟩ : ∃ I, w64 X = I := ⟨_, rfl⟩
    obtain ⟨Z, hZ⟩ : ∃ Z, w64 Y = Z := ⟨_, rfl⟩
    rw [hI] at HPE N0
    rw [hZ] at HPE N8
    have HX := hid hX
    have HY := hid hY
    have HM := hid hM
    obtain ⟨N, hN⟩ : ∃ N, N = 20 + 32 * M := ⟨_, rfl⟩
    have hend : (20 + 32 * (M : Int)) = (N : Int) := by omega
    have HNd := hid hN
    clear hpe h0 h8 h16 hq0 hq8 hq16 hc0 hc8 hc16 l0 l8 l16 hwM hM hX hY hI hZ hl hcl
    go_enter Try.func13, Try.ntmps13
    go_upto_region 1 with (fail)
    generalize hwA : World.alloc w _ = wA
    have zA : Blk wA w.heap.size [.int .i64 0, .int .i64 0, .slice none 0 0] 24 := by rw [← hwA]; exact Blk.mk_alloc rfl rfl
    have eA : Ext w wA := by rw [← hwA]; exact (Ext.refl w).alloc _
    clear hwA
    have ZA := hid zA
    have EA := hid eA
    clear zA eA
    go_wp2_with fail
    obtain ⟨C, hC⟩ : ∃ C : World → Prop, C = Cls w wA [w.heap.size] [] := ⟨_, rfl⟩
    have hC0 : ∀ w', C w' ↔ Cls w wA [w.heap.size] [] w' := fun w' => by rw [hC]
    clear hC
    have HCC := hid hC0
    clear hC0
    have hCx : ∀ w w', C w → Ext w w' → C w' := fun w w' h1 h2 => (HCC.out w').2 (((HCC.out w).1 h1).ext h2)
    have hCA : C wA := (HCC.out _).2 (Cls.no_room EA.out (Kept.one ZA.out.lt))
    refine wp_region_held_drew (S := C) (by kernel_rfl) (hCx _ _ hCA (Ext.refl _).drew) (fun hS0 => ?_)
    refine held_take 0 (v := ?tv1) rfl (by kernel_rfl) (by kernel_rfl) (by kernel_rfl) (fun _ _ _ h => h) (.inl ⟨rfl, ?ty1⟩) hS0 ?tr1
    case ty1 => (intro _ _; go_simp; try with_reducible rfl)
    case tr1 =>
    simp only [Act.put, List.setIfInBounds_toArray, List.set_cons_succ, List.set_cons_zero]
    refine held_take 1 (v := _) rfl (by kernel_rfl) (by kernel_rfl) (by kernel_rfl) (fun _ _ _ h => h) (yieldsI_run rfl (fun w1 _ => exec_sliceHead (h := 8) rfl rfl rfl Try.underlying25 size_u8 (by omega) HQ0.out w1)) hS0 ?_
    simp only [Act.put, List.setIfInBounds_toArray, List.set_cons_succ, List.set_cons_zero]
    refine held_take 3 (v := ?tv2) rfl (by kernel_rfl) (by kernel_rfl) (by kernel_rfl) (fun _ _ _ h => h) (.inl ⟨rfl, ?ty2⟩) hS0 ?tr2
    case ty2 => (intro _ _; go_simp; try with_reducible rfl)
    case tr2 =>
    simp only [Act.put, List.setIfInBounds_toArray, List.set_cons_succ, List.set_cons_zero]
    refine held_take 4 (v := _) rfl (by kernel_rfl) (by kernel_rfl) (by kernel_rfl) (fun _ _ _ h => h) (yieldsI_run rfl (fun w1 _ => exec_slice2 (k := 8) (h := 16) rfl rfl rfl rfl Try.underlying25 size_u8 (by omega) (by omega) HQ8.out w1)) hS0 ?_
    simp only [Act.put, List.setIfInBounds_toArray, List.set_cons_succ, List.set_cons_zero]
    refine Fl_start (B := World.heap wA |>.size) (A := 7) (d := 5) (T := 24) (vs := [.int .i64 0, .int .i64 0, .slice none 0 0]) (D := C) undef rfl hCx (fun _ h => h) (fun _ h => ((HCC.out _).1 h).kept.1) hS0 ?_
    try dsimp only
    simp only [Act.put, List.setIfInBounds_toArray, List.set_cons_succ, List.set_cons_zero]
    refine Fl_step 2 (β := Unit) (fun _ => .int .i64 I) (fun _ _ => True) rfl rfl rfl rfl (fun _ _ => rfl) (by kernel_rfl) (by kernel_rfl) (by kernel_rfl) rfl (fun _ _ => by simp only [Act.put, List.setIfInBounds_toArray, List.set_cons_succ, List.set_cons_zero]) ?phi2 ?step2 ?rest2
    case phi2 => exact fun _ _ _ _ _ => trivial
    case step2 =>
      intro x w1 hD Q' hQ
      go_wp2_with fail
      refine (N0.out w1 (C0.out.ext ((HCC.out w1).1 hD).base)).mono ?_
      rintro e w2 ⟨rfl, rfl⟩
      go_wp2_with fail
      exact hQ () _ (Ext.refl _) trivial
    case rest2 =>
    intro _
    try dsimp only
    try simp only [Act.put, List.setIfInBounds_toArray, List.set_cons_succ, List.set_cons_zero]
    refine Fl_step 5 (β := Unit) (fun _ => .int .i64 Z) (fun _ _ => True) rfl rfl rfl rfl (fun _ _ => rfl) (by kernel_rfl) (by kernel_rfl) (by kernel_rfl) rfl (fun _ _ => by simp only [Act.put, List.setIfInBounds_toArray, List.set_cons_succ, List.set_cons_zero]) ?phi5 ?step5 ?rest5
    case phi5 => exact fun _ _ _ _ _ => trivial
    case step5 =>
      rintro x w1 ⟨hD, _⟩ Q' hQ
      go_wp2_with fail
      refine (N8.out w1 (C8.out.ext ((HCC.out w1).1 hD).base)).mono ?_
      rintro e w2 ⟨rfl, rfl⟩
      go_wp2_with fail
      exact hQ () _ (Ext.refl _) trivial
    case rest5 =>
    intro _
    try dsimp only
    try simp only [Act.put, List.setIfInBounds_toArray, List.set_cons_succ, List.set_cons_zero]
    refine Fl_take 6 (v := ?tv3) rfl (by kernel_rfl) (by kernel_rfl) (by kernel_rfl) (by kernel_rfl) (by kernel_rfl) rfl (fun _ _ _ h => h) (fun _ => .inl ⟨rfl, ?ty3⟩) ?tr3
    case ty3 => (intro _ _; go_simp; try with_reducible rfl)
    case tr3 =>
    try dsimp only
    simp only [Act.put, List.setIfInBounds_toArray, List.set_cons_succ, List.set_cons_zero]
    refine Fl_end rfl rfl rfl (fun _ _ => rfl) (by kernel_rfl) (fun _ _ => by simp only [Act.put, List.setIfInBounds_toArray, List.set_cons_succ, List.set_cons_zero]) ?_
    rintro b w3 ⟨⟨hC3, _⟩, _⟩ lb hb
    have HB := hid hb
    have HC3 := hid ((HCC.out w3).1 hC3)
    clear hb hC3
    refine held_one (i := 8) (by kernel_rfl) rfl ?_
    intro Q' hQ
    go_wp2_with (refine wpl_storew rfl _ _ _ rfl rfl rfl HB.out agg_proof rfl (xs := [.int .i64 I, .int .i64 Z, .slice none 0 0]) rfl (by simp [Value.oneCell']) ?_)
    intro w4 b4 u4
    have hC4 := Cls.upd HC3.out u4 lb EA.out.size
    refine hQ _ _ ((HCC.out w4).2 hC4) ?_
    have B4 := hid b4
    have Z4 := hid (hC4.blk ZA.out (by simp))
    have E4 := hid hC4.base
    have hgb : w.heap.size < b := Nat.lt_of_lt_of_le ZA.out.lt lb
    clear hQ Q' u4 b4 hC4 HC3 HB EA ZA N0 N8 C0 C8
    refine wpAnyH_done (by kernel_rfl) ?_ _
    unfold ptrAt
    clear hCx hCA HCC
    go_wp2_with fail
    rw [HM16.out]
    refine (N16.out w4 (C16.out.ext E4.out)).mono ?_
    rintro e w5 ⟨rfl, rfl⟩
    clear N16 C16 HM16 HQ16 HQ0 HQ8
    by_cases hsh : n < N
    · have d3 : decide (n < N) = true := decide_eq_true hsh
      have d4 : decide ((n : Int) < (N : Int)) = true := decide_eq_true (by omega)
      have hE1 : parseE l = 1 := by
        unfold parseE
        rw [if_neg (by rw [HL.out]; exact h20), if_pos (by rw [HL.out, HM.out, ← HNd.out]; exact hsh)]
      rw [hE1] at hE
      subst hE
      clear hN hE1
      go_wp2_with (refine wpl_storew rfl _ _ _ rfl rfl rfl Z4.out agg_proof rfl (xs := [.int .i64 0, .int .i64 0, .slice none 0 0]) rfl (by simp [Value.oneCell']) ?_)
      intro w5 b5 u5
      go_wp2
      refine ret_row3 rfl rfl b5 agg_proof rfl rfl ⟨0, 0, 0, .slice none 0 0, by rw [HE.out]; rfl, by rw [HE.out, if_neg (by decide)]; exact ⟨rfl, rfl, rfl, rfl⟩, u5.ext E4.out (Nat.le_refl _)⟩
    · have d3 : decide (n < N) = false := decide_eq_false hsh
      have d4 : decide ((n : Int) < (N : Int)) = false := decide_eq_false (by omega)
      have hpe := HPE.out (by rw [← HNd.out]; exact hsh)
      have HPI := hid hpe.2
      have hpE := hpe.1
      rw [hE] at hpE
      have O0 := hid (World.ownsRow_nil w4 w4.heap.size 36 32)
      obtain ⟨B, hB⟩ : ∃ B, w4.heap.size = B := ⟨_, rfl⟩
      rw [hB] at O0
      have hgpl : b < w4.heap.size := B4.out.lt
      have hBF : B ≤ w4.heap.size := by omega
      have hgB : b < B := by omega
      clear hB hgpl hpe HPE hN hM32
      generalize hgp : b = gp at *
      go_wp2
      go_loopw [32] (fun t wr => ∃ (k : Nat) (pv : Value), k ≤ M ∧ t = .int .i64 (k : Int) ∧ Blk wr gp [.int .i64 I, .int .i64 Z, pv] 24 ∧ wr.ownsRow B 36 32 pv k (rows (rowsOf l k)) ∧ Blk wr w.heap.size [.int .i64 0, .int .i64 0, .slice none 0 0] 24 ∧ Ext w wr ∧ B ≤ wr.heap.size) (fun t _ => M - (intOf t).toNat)
      case atStart => exact ⟨0, .slice none 0 0, by omega, rfl, B4.out, O0.out, Z4.out, E4.out, hBF⟩
      case round =>
        obtain ⟨k, pv, hk, rfl, hP, hO, hZ, hEx, hBw⟩ := hrel
        have PW := hid hP
        have OW := hid hO
        have ZW := hid hZ
        have EW := hid hEx
        clear hP hO hZ hEx B4 O0 Z4 E4
        by_cases hlt : k < M
        · obtain ⟨j, hj⟩ : ∃ j, j = 20 + 32 * k := ⟨_, rfl⟩
          obtain ⟨j2, hj2⟩ : ∃ j2, j2 = j + 32 := ⟨_, rfl⟩
          have hjN : j < N := by have := HNd.out; omega
          have hjn : j + 32 ≤ n := by have := HNd.out; omega
          obtain ⟨A, hsh2, hca⟩ := part_at HC.out c j (by rw [HL.out]; exact hjn) (by rw [HL.out]; exact hnc)
          have hrow : rowsOf l (k + 1) = rowsOf l k ++ [(l.drop j).take 32] := by rw [rowsOf_succ, hj]
          have hy : ((l.drop j).take 32).length = 32 := by rw [List.length_take, List.length_drop, HL.out]; omega
          generalize (l.drop j).take 32 = y at *
          have HROW := hid hrow
          have HSH := hid hsh2
          have HCA := hid hca
          have HY0 := hid hy
          have HYV : Hid ((y.map u8v).length = 32) := hid (by rw [List.length_map, hy])
          have g1 : decide (k < M) = true := decide_eq_true hlt
          have g2 : decide ((k : Int) < (M : Int)) = true := decide_eq_true (by omega)
          have hj2n : j2 ≤ n := by omega
          have hj12 : j ≤ j2 := by omega
          have hj32 : 32 ≤ j2 - j := by omega
          have HJ := hid hj
          have HJ2 := hid hj2
          clear hrow hsh2 hca hy hj hj2
          go_wp2
          obtain ⟨C, hC⟩ : ∃ C : World → Prop, C = Cls w wr [gp, w.heap.size] [] := ⟨_, rfl⟩
          have hC0 : ∀ w', C w' ↔ Cls w wr [gp, w.heap.size] [] w' := fun w' => by rw [hC]
          clear hC
          have HCC := hid hC0
          clear hC0
          have hCx : ∀ w w', C w → Ext w w' → C w' := fun w w' h1 h2 => (HCC.out w').2 (((HCC.out w).1 h1).ext h2)
          have hCA : C wr := (HCC.out _).2 (Cls.no_room EW.out (Kept.two PW.out.lt ZW.out.lt))
          have e2 : ∀ w1, C w1 → w1.cell? ⟨gp, 2, none⟩ = some pv := fun w1 h1 => (((HCC.out w1).1 h1).blk PW.out (by simp)).cell' rfl
          have hca : ∀ w1, C w1 → CellsAt w1 A (y.map u8v) := fun w1 h1 => HCA.out.ext ((HCC.out w1).1 h1).base
          have hwr1 : IntKind.i64.wrap (32 * (k : Int)) = 32 * (k : Int) := IntWalk.i64_in _ (by omega)
          have hwr2 : IntKind.i64.wrap (20 + 32 * (k : Int)) = (j : Int) := by have := HJ.out; rw [IntWalk.i64_in _ (by omega)]; omega
          have hwr3 : IntKind.i64.wrap (52 + 32 * (k : Int)) = (j2 : Int) := by have := HJ.out; have := HJ2.out; rw [IntWalk.i64_in _ (by omega)]; omega
          refine wp_region_w (S := C) (W := [15]) (by kernel_rfl) (hCx _ _ hCA (Ext.refl _).drew) (fun hS0 => ?_)
          refine w_pure 0 (v := ?tv4) rfl (by kernel_rfl) (by kernel_rfl) (by kernel_rfl) (fun _ _ _ h => h) (.inl ⟨rfl, ?ty4⟩) ?tr4
          case ty4 => (intro _ _; go_simp; try with_reducible rfl)
          case tr4 =>
          simp only [Act.put, List.setIfInBounds_toArray, List.set_cons_succ, List.set_cons_zero]
          refine w_take 1 (v := ?tv5) rfl (by kernel_rfl) (by kernel_rfl) (by kernel_rfl) (by kernel_rfl) (by kernel_rfl) (fun _ _ _ h => h) (.inl ⟨rfl, ?ty5⟩) hS0 ?tr5
          case ty5 => (intro wq hwq; have hcq := (e2) wq hwq; go_simp; try with_reducible rfl)
          case tr5 =>
          simp only [Act.put, List.setIfInBounds_toArray, List.set_cons_succ, List.set_cons_zero]
          refine w_pure 2 (v := ?tv6) rfl (by kernel_rfl) (by kernel_rfl) (by kernel_rfl) (fun _ _ _ h => h) (.inl ⟨rfl, ?ty6⟩) ?tr6
          case ty6 => (intro _ _; go_simp; try with_reducible rfl)
          case tr6 =>
          simp only [Act.put, List.setIfInBounds_toArray, List.set_cons_succ, List.set_cons_zero]
          refine w_pure 3 (v := ?tv7) rfl (by kernel_rfl) (by kernel_rfl) (by kernel_rfl) (fun _ _ _ h => h) (.inl ⟨rfl, ?ty7⟩) ?tr7
          case ty7 => (intro _ _; go_simp; try with_reducible rfl)
          case tr7 =>
          simp only [Act.put, List.setIfInBounds_toArray, List.set_cons_succ, List.set_cons_zero]
          refine w_pure 4 (v := ?tv8) rfl (by kernel_rfl) (by kernel_rfl) (by kernel_rfl) (fun _ _ _ h => h) (.inl ⟨rfl, ?ty8⟩) ?tr8
          case ty8 => (intro _ _; go_simp; try with_reducible rfl)
          case tr8 =>
          simp only [Act.put, List.setIfInBounds_toArray, List.set_cons_succ, List.set_cons_zero]
          refine w_pure 5 (v := ?tv9) rfl (by kernel_rfl) (by kernel_rfl) (by kernel_rfl) (fun _ _ _ h => h) (.inl ⟨rfl, ?ty9⟩) ?tr9
          case ty9 => (intro _ _; go_simp; try with_reducible rfl)
          case tr9 =>
          simp only [Act.put, List.setIfInBounds_toArray, List.set_cons_succ, List.set_cons_zero]
          refine w_pure 6 (v := ?tv10) rfl (by kernel_rfl) (by kernel_rfl) (by kernel_rfl) (fun _ _ _ h => h) (.inl ⟨rfl, ?ty10⟩) ?tr10
          case ty10 => (intro _ _; go_simp; try with_reducible rfl)
          case tr10 =>
          simp only [Act.put, List.setIfInBounds_toArray, List.set_cons_succ, List.set_cons_zero]
          refine w_pure 7 (v := ?tv11) rfl (by kernel_rfl) (by kernel_rfl) (by kernel_rfl) (fun _ _ _ h => h) (.inl ⟨rfl, ?ty11⟩) ?tr11
          case ty11 => (intro _ _; go_simp; try with_reducible rfl)
          case tr11 =>
          simp only [Act.put, List.setIfInBounds_toArray, List.set_cons_succ, List.set_cons_zero]
          refine w_pure 8 (v := ?tv12) rfl (by kernel_rfl) (by kernel_rfl) (by kernel_rfl) (fun _ _ _ h => h) (.inl ⟨rfl, ?ty12⟩) ?tr12
          case ty12 => (intro _ _; go_simp; try with_reducible rfl)
          case tr12 =>
          simp only [Act.put, List.setIfInBounds_toArray, List.set_cons_succ, List.set_cons_zero]
          refine w_pure 9 (v := _) rfl (by kernel_rfl) (by kernel_rfl) (by kernel_rfl) (fun _ _ _ h => h) (yieldsI_run rfl (fun w1 _ => exec_slice2 (k := j) (h := j2) rfl rfl rfl rfl Try.underlying25 size_u8 hj12 (by omega) HSH.out w1)) ?_
          simp only [Act.put, List.setIfInBounds_toArray, List.set_cons_succ, List.set_cons_zero]
          refine w_pure 10 (v := _) rfl (by kernel_rfl) (by kernel_rfl) (by kernel_rfl) (fun _ _ _ h => h) (yieldsI_run rfl (fun w1 _ => exec_arrayAt (n := 32) rfl rfl Try.underlying36 hj32 w1)) ?_
          simp only [Act.put, List.setIfInBounds_toArray, List.set_cons_succ, List.set_cons_zero]
          refine w_take 11 (v := _) rfl (by kernel_rfl) (by kernel_rfl) (by kernel_rfl) (by kernel_rfl) (by kernel_rfl) (fun _ _ _ h => h) (yieldsI_run rfl (fun w1 h => exec_load_at rfl rfl (hca w1 h) agg_apisum HYV.out)) hS0 ?_
          simp only [Act.put, List.setIfInBounds_toArray, List.set_cons_succ, List.set_cons_zero]
          clear hwr1 hwr2 hwr3
          have eG : Ext wr wr.drew := (Ext.refl wr).drew
          have OG := hid (ownsRow_ext OW.out eG)
          have hBG : B ≤ wr.drew.heap.size := hBw
          generalize wr.drew = wG at *
          clear eG
          refine w_one (i := 12) (by kernel_rfl) rfl (by kernel_rfl) hS0 ?_
          intro Q' hQ
          go_wp2_with (refine wpl_buildRow rfl rfl rfl HY0.out ?_)
          have hH : C (wG.alloc (.cells (y.map u8v).toArray 36)) := hCx _ _ hS0 ((Ext.refl wG).alloc _)
          have OH := hid (ownsRow_ext OG.out ((Ext.refl wG).alloc (.cells (y.map u8v).toArray 36)))
          have BH := hid (Blk.alloc_new wG (y.map u8v) 36)
          have hBH : B ≤ (wG.alloc (.cells (y.map u8v).toArray 36)).heap.size := Nat.le_trans hBG ((Ext.refl wG).alloc _).size
          go_wp2_with fail
          refine hQ _ _ hH ?_
          clear hQ Q' hS0 OG hBG
          generalize wG.alloc (.cells (y.map u8v).toArray 36) = wH at *
          generalize wG.heap.size = gy at *
          have hS0 := hH
          clear hH
          try dsimp only
          try simp only [Act.put, List.setIfInBounds_toArray, List.set_cons_succ, List.set_cons_zero]
          refine w_one (i := 13) (by kernel_rfl) rfl (by kernel_rfl) hS0 ?_
          intro Q' hQ
          go_wp2_with (first | (at_builtin; refine wpl_append_row rfl _ _ rfl B rfl rfl OH.out HY0.out BH.out (by omega) hBH ?_))
          intro v2 wI own2 g2
          have hv2 := own_block_ge OH.out
          have hI : C wI := (HCC.out wI).2 (((HCC.out wH).1 hS0).grownL g2 (by intro q hq; have := hv2 _ hq; simp; omega) (by intro q hq; have := hv2 _ hq; omega))
          have OI := hid own2
          have hBI : B ≤ wI.heap.size := Nat.le_trans hBH g2.size
          go_wp2_with fail
          refine hQ _ _ hI ?_
          clear hQ Q' hS0 OH own2 g2 hv2 hBH BH
          try dsimp only
          try simp only [Act.put, List.setIfInBounds_toArray, List.set_cons_succ, List.set_cons_zero]
          refine w_pure 14 (v := ?tv13) rfl (by kernel_rfl) (by kernel_rfl) (by kernel_rfl) (fun _ _ _ h => h) (.inl ⟨rfl, ?ty13⟩) ?tr13
          case ty13 => (intro _ _; go_simp; try with_reducible rfl)
          case tr13 =>
          simp only [Act.put, List.setIfInBounds_toArray, List.set_cons_succ, List.set_cons_zero]
          have PI := hid (((HCC.out wI).1 hI).blk PW.out (by simp))
          have ZI := hid (((HCC.out wI).1 hI).blk ZW.out (by simp))
          have EI := hid ((HCC.out wI).1 hI).base
          have q1 : wI.cell? ⟨gp, 2, none⟩ = some pv := PI.out.cell' rfl
          have q2 : wI.frozen? ⟨gp, 2, none⟩ = false := PI.out.frozen 2
          have hv3 := own_block_ge OI.out
          obtain ⟨pa, pc, rfl, -⟩ := own_sliceT (by omega) OI.out
          clear hI hCx hCA HCC e2 hca
          refine w_late (i := 15) (by kernel_rfl) rfl (by kernel_rfl) ?_
          intro Q' hQ
          go_wp2_with fail
          refine hQ _ _ trivial ?_
          clear hQ Q' q1 q2
          refine w_done (by kernel_rfl) ?_ _
          have PJ := hid (PI.out.set 2 (.slice pa (k + 1) pc))
          have uJ : Upd wI gp (wI.setCell ⟨gp, 2, none⟩ (.slice pa (k + 1) pc)) := Upd.setCell _
          have ZJ := hid (ZI.out.upd uJ (by omega))
          have EJ := hid (uJ.ext EI.out (by omega))
          have OJ := hid (OI.out.kept (gby_upd (gby_self wI (some gp)) uJ) (.inr (by intro h; have := hv3 _ h; omega)))
          have hBJ : B ≤ (wI.setCell ⟨gp, 2, none⟩ (.slice pa (k + 1) pc)).heap.size := by rw [uJ.size]; exact hBI
          clear uJ PI ZI EI OI hv3 hBI
          generalize wI.setCell ⟨gp, 2, none⟩ (.slice pa (k + 1) pc) = wJ at *
          go_wp2
          go_roundw
          case rel => exact ⟨k + 1, _, by omega, by first | rfl | go_num, PJ.out, by rw [HROW.out]; exact OJ.out, ZJ.out, EJ.out, hBJ⟩
          case measure => simp [intOf]; omega
        · have hkM : k = M := by omega
          subst hkM
          have g1 : decide (k < k) = false := by simp
          have hRR : rowsOf l k = rowsOf l (manyL l) := by rw [HM.out]
          have h32 := HP32.out (by rw [HL.out, ← HNd.out]; omega) k (Nat.le_refl _)
          have hrl := rowsOf_length l k
          obtain ⟨pa, pc, rfl, o1, o2, o3, o4⟩ := own_sliceT (by omega) OW.out
          have hpp := hid (fun w' h => rprintProof_c I Z (rowsOf l k) k pc pa w' h32 hrl o1 h)
          have HO4 := hid o4
          have HRL := hid hrl
          clear h32 hrl o4
          go_wp2_with (first | (refine wpl_loadw rfl 24 _ rfl rfl PW.out agg_proof rfl ?_))
          refine (hpp.out wr HO4.out).mono ?_
          rintro e wF ⟨v, rfl, -, eF⟩
          rw [HRL.out, ← hpE]
          clear hpE
          have ZF := hid (ZW.out.ext eF)
          have EF := hid (EW.out.ext eF)
          have PF := hid (PW.out.ext eF)
          have OF := hid (ownsRow_ext OW.out eF)
          clear eF PW OW ZW EW hpp HO4
          by_cases hE0 : E = 0
          · have HPQ := hid (HPI.out (by rw [HE.out]; exact hE0))
            subst hE0
            go_wp2_with (first | (refine wpl_loadw rfl 24 _ rfl rfl PF.out agg_proof rfl ?_) | (refine wpl_storew rfl _ _ _ rfl rfl rfl ZF.out agg_proof rfl rfl (by simp [Value.oneCell']) ?_))
            intro w6 b6 u6
            have O6 := hid (OF.out.kept (gby_upd (gby_self wF (some w.heap.size)) u6) (.inr (by intro h; have := own_block_ge OF.out _ h; omega)))
            have E6 := hid (u6.ext EF.out (Nat.le_refl _))
            go_wp2
            refine ret_row3 rfl rfl b6 agg_proof rfl rfl ⟨I, Z, (N : Int), .slice pa k pc, by rw [HE.out]; first | rfl | (simp [hend]; done), ?_, E6.out⟩
            rw [HE.out, if_pos rfl, HM.out, HX.out, HY.out]
            exact ⟨HPQ.out.1, HPQ.out.2, by rw [HNd.out], own_lower O6.out (by omega)⟩
          · have g3 : (E != 0) = true := by simp [hE0]
            go_wp2_with (first | (refine wpl_storew rfl _ _ _ rfl rfl rfl ZF.out agg_proof rfl (xs := [.int .i64 0, .int .i64 0, .slice none 0 0]) rfl (by simp [Value.oneCell']) ?_))
            intro w6 b6 u6
            go_wp2
            refine ret_row3 rfl rfl b6 agg_proof rfl rfl ⟨0, 0, 0, .slice none 0 0, by rw [HE.out]; rfl, by rw [HE.out, if_neg hE0]; exact ⟨rfl, rfl, rfl, rfl⟩, u6.ext EF.out (Nat.le_refl _)⟩
end
end Go.Proofs.Ytfiigjdiohmkmaa
