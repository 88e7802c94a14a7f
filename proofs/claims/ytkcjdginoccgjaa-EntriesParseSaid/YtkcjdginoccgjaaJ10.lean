/- Contracts and laws that the claim's row leans on (14 texts, joined): keyref1.ParseEntry; conditions: the sizes. Two heads that are one are equal; what is printed is read; no condition. What is printed of an entry is parsed, wherever it stands (plain); condition: the entry is right. slices.Equal of equal rows of strings and of IDs; keylaw1.sameBody of equal bodies; conditions: the bodies' memory. keylaw1.sameBody of equal bodies; conditions: the bodies' memory. keylaw1.sameEntry of equal entries; conditions: the entries' memory. EntriesMatch is true; conditions: the sizes. EntriesParse is true; no condition. Readings of arguments are opened; no condition. Readings of slices of octets are opened; no condition. Readings of slices of rows of 32 octets, and of a struct of two ints and such a slice, are opened; no condition. Readings of rows of strings and of parts of structs, with their sizes (taken out of O9); no condition. Readings of bodies are opened; no condition. Readings of entries are opened; no condition. -/
import Derived.Test.YtkcjdginoccgjaaJ9
import Derived.ProofKit
import Derived.OpenShut
import Derived.ChangeSlices
import Derived.WideShapes
import Derived.SizedLaws
import Derived.Deep.Strs
namespace Go.Proofs.Ytkcjdginoccgjaa
section
open Go Go.RowKit

theorem cut_code (l : List UInt8) (n : Nat) (at_ : Int) (hl : l.length = n) : roomE n at_ 89 ≠ 0 → headC l at_ = roomE n at_ 89 := by
  intro h
  unfold roomE at h ⊢
  unfold headC
  rw [hl]
  by_cases a1 : at_ < 0
  · rw [if_pos a1, if_pos a1]
  · rw [if_neg a1] at h ⊢
    rw [if_neg a1]
    by_cases a2 : (n : Int) < 89 ∨ (n : Int) - 89 < at_
    · rw [if_pos a2, if_pos a2]
    · rw [if_neg a2] at h; exact absurd rfl h

theorem EntR.len' {e : EntR} (ha : e.actor.length = 16) (hk : e.key.length = 16) (hp : e.prev.length = 32) : e.v.length = 68 := by unfold EntR.v; simp [ha, hk, hp]
theorem EntR.at67' {e : EntR} (ha : e.actor.length = 16) (hk : e.key.length = 16) (hp : e.prev.length = 32) : e.v[67]? = some (.slice e.ba e.bn e.bc) := by
  unfold EntR.v
  rw [show (67 : Nat) = 64 + 1 + 1 + 1 by rfl, List.getElem?_cons_succ, List.getElem?_cons_succ, List.getElem?_cons_succ, List.getElem?_append_right (by simp [ha]), List.getElem?_append_right (by simp [ha, hk]), List.getElem?_append_right (by simp [ha, hk, hp])]
  simp [ha, hk, hp]
theorem EntR.set67 (e : EntR) (a : Option Addr) (n c : Nat) (l : List UInt8) (ha : e.actor.length = 16) (hk : e.key.length = 16) (hp : e.prev.length = 32) : e.v.set 67 (.slice a n c) = { e with ba := a, bn := n, bc := c, body := l }.v := by
  unfold EntR.v
  rw [show (67 : Nat) = 64 + 1 + 1 + 1 by rfl, List.set_cons_succ, List.set_cons_succ, List.set_cons_succ, List.set_append_right _ _ (by simp [ha]), List.set_append_right _ _ (by simp [ha, hk]), List.set_append_right _ _ (by simp [ha, hk, hp])]
  simp [ha, hk, hp]

set_option maxRecDepth 100000 in
set_option maxHeartbeats 4000000 in
theorem rparseEntry_c (l : List UInt8) (a : Option Addr) (n c : Nat) (at_ : Int) (w : World) (hl : l.length = n) (hnc : n ≤ c) (hn : n ≤ 140737488355328) (hc : c ≤ 9223372036854775807) (hcl : Cells w a (l.map u8v)) :
    Calls Try.prog 45 #[.slice a n c, .int .i64 at_] w (PEPost l at_ w) := by
  have HL := hid hl
  have HC := hid hcl
  have hct := hid (fun w' => rcutW_c a n c at_ 89 w' hn hnc hc (by omega) (by omega))
  have hzp := fun E w' h e => zeroE_post (l := l) (at_ := at_) (w := w) (w' := w') (E := E) h e
  have HZP := hid hzp
  obtain ⟨PE, hPE⟩ : ∃ PE, parseEP l at_ = PE := ⟨_, rfl⟩
  rw [hPE] at HZP
  have HPE0 := hid hPE
  unfold parseEP at hPE
  clear hcl hzp
  by_cases q : roomE n at_ 89 = 0
  rotate_left
  · have hE := cut_code l n at_ hl q
    rw [hE, if_pos q] at hPE
    unfold CutPost at hct
    simp only [if_neg q] at hct
    obtain ⟨E, hEE⟩ : ∃ E, roomE n at_ 89 = E := ⟨_, rfl⟩
    rw [hEE] at hPE hct q
    have d1 : (E != 0) = true := by simpa using q
    have HP := hid hPE.symm
    clear hPE q hE hEE
    go_enter Try.func45, Try.ntmps45
    go_upto_region 1 with (fail)
    generalize hwA : World.alloc w _ = wA
    have zA : Blk wA w.heap.size zeroE.v 79 := by rw [← hwA]; exact Blk.mk_alloc rfl rfl
    have eA : Ext w wA := by rw [← hwA]; exact (Ext.refl w).alloc _
    have ZA := hid zA
    have EA := hid eA
    clear hwA zA eA
    go_wp2_with fail
    refine (hct.out wA).mono ?_
    rintro x wB ⟨hww, rfl⟩
    rw [← hww]
    clear hww wB hct
    go_wp2_with fail
    refine (noE_c E wA).mono ?_
    rintro x wC ⟨rfl, eC⟩
    have ZC := hid (ZA.out.ext eC)
    have EC := hid (EA.out.ext eC)
    clear eC ZA EA
    go_wp2_with (refine wpl_storew rfl _ _ _ rfl rfl rfl ZC.out agg_ent zeroE_len (xs := zeroE.v) zeroE_len (ent_one zeroE) ?_)
    intro wD bD uD
    go_wp2_with fail
    exact ret_row3e rfl rfl bD agg_ent zeroE_len rfl (HZP.out E _ HP.out (uD.ext EC.out (Nat.le_refl _)))
  obtain ⟨p, rfl, hp⟩ := roomE_zero q (by omega)
  have hp89 : p + 89 ≤ n := by omega
  obtain ⟨b, off, rfl, hcell⟩ := HC.out.some_of (by rw [List.length_map, HL.out]; omega)
  have HCELL := hid hcell
  have hq1 : shift (some ⟨b, off, none⟩) c p = some ⟨b, off + p, none⟩ := by unfold shift; rw [if_neg (by omega), Option.map_some, addr_add]
  unfold CutPost at hct
  simp only [if_pos q, Int.toNat_natCast, hq1] at hct
  have hct89 : (89 : Int).toNat = 89 := rfl
  rw [hct89] at hct
  have hC0 : headC l (p : Int) = if (l.drop p).take 4 ≠ [75, 87, 69, 49] then 2 else if 32768 < bodyN l p then 5 else 0 := by
    unfold headC
    rw [if_neg (by omega), if_neg (by rw [HL.out]; omega), Int.toNat_natCast]
  rw [hC0, Int.toNat_natCast] at hPE
  have hlt4 : ((l.drop p).take 4).length = 4 := by rw [List.length_take, List.length_drop, HL.out]; omega
  have hst := hid (fun w' (e : Ext w w') => run_string_of w' (some ⟨b, off + p, none⟩) ((l.drop p).take 4) 4 (c - p) ((part_cells hcell p 4).ext e) hlt4.symm)
  have hstl : (strOf ((l.drop p).take 4)).toList = (l.drop p).take 4 := by unfold strOf; rw [ByteArray.toList_mk]
  have hsh0 : shift (some ⟨b, off + p, none⟩) (c - p) 0 = some ⟨b, off + p, none⟩ := by unfold shift; rw [if_neg (by omega), Option.map_some, addr_add, Nat.add_zero]
  have HSH0 := hid hsh0
  have hc4 : 4 ≤ c - p := by omega
  clear hC0 q hq1 hct89 hsh0 hlt4
  by_cases a4 : (l.drop p).take 4 = [75, 87, 69, 49]
  rotate_left
  · rw [if_pos a4, if_pos (by decide)] at hPE
    have HP := hid hPE.symm
    have hm2 : ((strOf ((l.drop p).take 4)).toList == [75, 87, 69, 49]) = false := by rw [hstl]; simpa using a4
    clear hPE a4 hstl
    go_enter Try.func45, Try.ntmps45
    go_upto_region 1 with (fail)
    generalize hwA : World.alloc w _ = wA
    have zA : Blk wA w.heap.size zeroE.v 79 := by rw [← hwA]; exact Blk.mk_alloc rfl rfl
    have eA : Ext w wA := by rw [← hwA]; exact (Ext.refl w).alloc _
    have ZA := hid zA
    have EA := hid eA
    clear hwA zA eA
    have hs2 := hst.out wA EA.out
    go_wp2_with fail
    refine (hct.out wA).mono ?_
    rintro x wB ⟨hww, rfl⟩
    rw [← hww]
    clear hww wB hct
    go_wp2_with (refine wpl_run rfl (exec_sliceHead (h := 4) rfl rfl rfl Try.underlying28 size_u8 hc4 HSH0.out _) ?_)
    refine (noE_c 2 wA).mono ?_
    rintro x wC ⟨rfl, eC⟩
    have ZC := hid (ZA.out.ext eC)
    have EC := hid (EA.out.ext eC)
    clear eC ZA EA hs2
    go_wp2_with (refine wpl_storew rfl _ _ _ rfl rfl rfl ZC.out agg_ent zeroE_len (xs := zeroE.v) zeroE_len (ent_one zeroE) ?_)
    intro wD bD uD
    go_wp2_with fail
    exact ret_row3e rfl rfl bD agg_ent zeroE_len rfl (HZP.out 2 _ HP.out (uD.ext EC.out (Nat.le_refl _)))
  rw [if_neg (show ¬ ((l.drop p).take 4 ≠ [75, 87, 69, 49]) by simpa using a4)] at hPE
  have hm2 : (strOf ((l.drop p).take 4)).toList = [75, 87, 69, 49] := hstl.trans a4
  have hsh85 : shift (some ⟨b, off + p, none⟩) (c - p) 85 = some ⟨b, off + p + 85, none⟩ := by unfold shift; rw [if_neg (by omega), Option.map_some, addr_add]
  have HSH85 := hid hsh85
  have hc89 : 89 ≤ c - p := by omega
  have l85 : ((l.drop (p + 85)).take 4).length = 4 := by rw [List.length_take, List.length_drop, HL.out]; omega
  have hn85 := hid (fun w' (e : Ext w w') => rnumber_c ((l.drop (p + 85)).take 4) (some ⟨b, off + p + 85, none⟩) 4 (c - p - 85) w' l85 (by omega) (by have h := (part_cells hcell (p + 85) 4).ext e; rw [← Nat.add_assoc] at h; exact h))
  have hbn0 : natOf ((l.drop (p + 85)).take 4) = bodyN l p := natOf_4 (by rw [HL.out]; omega)
  have hbl : bodyN l p < 4294967296 := (word4 l (p + 85)).toNat_lt
  rw [hbn0, w64_small (by omega)] at hn85
  obtain ⟨N, hN⟩ : ∃ N, bodyN l p = N := ⟨_, rfl⟩
  rw [hN] at hPE hn85 hbl
  clear hstl a4 hsh85 l85 hbn0 hN
  by_cases a5 : 32768 < N
  · rw [if_pos a5, if_pos (by decide)] at hPE
    have HP := hid hPE.symm
    have d5 : decide (32768 < N) = true := decide_eq_true a5
    have d5b : decide ((32768 : Int) < (N : Int)) = true := decide_eq_true (by omega)
    clear hPE a5
    go_enter Try.func45, Try.ntmps45
    go_upto_region 1 with (fail)
    generalize hwA : World.alloc w _ = wA
    have zA : Blk wA w.heap.size zeroE.v 79 := by rw [← hwA]; exact Blk.mk_alloc rfl rfl
    have eA : Ext w wA := by rw [← hwA]; exact (Ext.refl w).alloc _
    have ZA := hid zA
    have EA := hid eA
    clear hwA zA eA
    have hs2 := hst.out wA EA.out
    go_wp2_with fail
    refine (hct.out wA).mono ?_
    rintro x wB ⟨hww, rfl⟩
    rw [← hww]
    clear hww wB hct
    go_wp2_with (first | (refine wpl_run rfl (exec_sliceHead (h := 4) rfl rfl rfl Try.underlying28 size_u8 hc4 HSH0.out _) ?_) | (refine wpl_run rfl (exec_slice2 (k := 85) (h := 89) rfl rfl rfl rfl Try.underlying28 size_u8 (by omega) hc89 HSH85.out _) ?_))
    refine (hn85.out wA EA.out).mono ?_
    rintro x wB ⟨rfl, hww⟩
    rw [← hww]
    clear hww wB hn85
    go_wp2_with fail
    refine (noE_c 5 wA).mono ?_
    rintro x wC ⟨rfl, eC⟩
    have ZC := hid (ZA.out.ext eC)
    have EC := hid (EA.out.ext eC)
    clear eC ZA EA hs2
    go_wp2_with (refine wpl_storew rfl _ _ _ rfl rfl rfl ZC.out agg_ent zeroE_len (xs := zeroE.v) zeroE_len (ent_one zeroE) ?_)
    intro wD bD uD
    go_wp2_with fail
    exact ret_row3e rfl rfl bD agg_ent zeroE_len rfl (HZP.out 5 _ HP.out (uD.ext EC.out (Nat.le_refl _)))
  rw [if_neg a5, if_neg (by decide), HL.out] at hPE
  have d5 : decide (32768 < N) = false := decide_eq_false a5
  have d5b : decide ((32768 : Int) < (N : Int)) = false := decide_eq_false (by omega)
  obtain ⟨K, hK⟩ : ∃ K, 89 + N = K := ⟨_, rfl⟩
  obtain ⟨M, hM⟩ : ∃ M, 121 + N = M := ⟨_, rfl⟩
  have hwa : IntKind.i64.wrap (89 + (N : Int)) = (K : Int) := by rw [IntWalk.i64_in _ (by omega)]; omega
  have hwb : IntKind.i64.wrap ((K : Int) + 32) = (M : Int) := by rw [IntWalk.i64_in _ (by omega)]; omega
  have hct2 := hid (fun w' => rcutW_c (some ⟨b, off, none⟩) n c p (M : Int) w' hn hnc hc (by omega) (by omega))
  by_cases a6 : n < p + 121 + N
  · rw [if_pos a6] at hPE
    have HP := hid hPE.symm
    have hr1 : roomE n (p : Int) (M : Int) = 1 := by unfold roomE; rw [if_neg (by omega), if_pos (by omega)]
    unfold CutPost at hct2
    simp only [hr1] at hct2
    clear hPE a6
    go_enter Try.func45, Try.ntmps45
    go_upto_region 1 with (fail)
    generalize hwA : World.alloc w _ = wA
    have zA : Blk wA w.heap.size zeroE.v 79 := by rw [← hwA]; exact Blk.mk_alloc rfl rfl
    have eA : Ext w wA := by rw [← hwA]; exact (Ext.refl w).alloc _
    have ZA := hid zA
    have EA := hid eA
    clear hwA zA eA
    have hs2 := hst.out wA EA.out
    go_wp2_with fail
    refine (hct.out wA).mono ?_
    rintro x wB ⟨hww, rfl⟩
    rw [← hww]
    clear hww wB hct
    go_wp2_with (first | (refine wpl_run rfl (exec_sliceHead (h := 4) rfl rfl rfl Try.underlying28 size_u8 hc4 HSH0.out _) ?_) | (refine wpl_run rfl (exec_slice2 (k := 85) (h := 89) rfl rfl rfl rfl Try.underlying28 size_u8 (by omega) hc89 HSH85.out _) ?_))
    refine (hn85.out wA EA.out).mono ?_
    rintro x wB ⟨rfl, hww⟩
    rw [← hww]
    clear hww wB hn85
    go_wp2_with fail
    refine (hct2.out wA).mono ?_
    rintro x wB ⟨hww, rfl⟩
    rw [← hww]
    clear hww wB hct2
    go_wp2_with fail
    refine (noE_c 1 wA).mono ?_
    rintro x wC ⟨rfl, eC⟩
    have ZC := hid (ZA.out.ext eC)
    have EC := hid (EA.out.ext eC)
    clear eC ZA EA hs2
    go_wp2_with (refine wpl_storew rfl _ _ _ rfl rfl rfl ZC.out agg_ent zeroE_len (xs := zeroE.v) zeroE_len (ent_one zeroE) ?_)
    intro wD bD uD
    go_wp2_with fail
    exact ret_row3e rfl rfl bD agg_ent zeroE_len rfl (HZP.out 1 _ HP.out (uD.ext EC.out (Nat.le_refl _)))
  rw [if_neg a6] at hPE
  have hr0 : roomE n (p : Int) (M : Int) = 0 := by unfold roomE; rw [if_neg (by omega), if_neg (by omega)]
  unfold CutPost at hct2
  have hq1 : shift (some ⟨b, off, none⟩) c p = some ⟨b, off + p, none⟩ := by unfold shift; rw [if_neg (by omega), Option.map_some, addr_add]
  simp only [hr0, if_true, Int.toNat_natCast, hq1] at hct2
  have hMt : ((M : Nat) : Int).toNat = M := rfl
  obtain ⟨S, hS⟩ : ∃ S, sumL 3 ((l.drop p).take K) = S := ⟨_, rfl⟩
  obtain ⟨SX, hSX⟩ : ∃ SX, (l.drop (p + K)).take 32 = SX := ⟨_, rfl⟩
  have hsb : sealB l p N = (S == SX) := by unfold sealB; rw [hK, Nat.add_assoc, hK, hS, hSX]
  rw [hsb] at hPE
  have hSl : S.length = 32 := by rw [← hS]; exact sumL_length _ _
  have hSXl : SX.length = 32 := by rw [← hSX, List.length_take, List.length_drop, HL.out]; omega
  have hso := hid (fun w' (e : Ext w w') => rsum_c 3 ((l.drop p).take K) K (c - p) (some ⟨b, off + p, none⟩) w' (by omega) (by omega) (by rw [List.length_take, List.length_drop, HL.out]; omega) (by omega) ((part_cells hcell p K).ext e))
  rw [hS] at hso
  have hne := hid (fun w => neq_arr Try.underlying32 S SX hSl hSXl w)
  have HSM := hid (show (S.map u8v).length = 32 by rw [List.length_map, hSl])
  have HSX := hid (show (SX.map u8v).length = 32 by rw [List.length_map, hSXl])
  have cX : CellsAt w ⟨b, off + p + K * 1, none⟩ (SX.map u8v) := by
    rw [← hSX, Nat.mul_one, Nat.add_assoc]; exact part_at hcell (p + K) 32
  have CX := hid cX
  have hx8 : ∃ x8, l[p + 20]?.getD 0 = x8 := ⟨_, rfl⟩
  obtain ⟨x8, hx8⟩ := hx8
  obtain ⟨A1, hA1⟩ : ∃ A1, (l.drop (p + 21)).take 16 = A1 := ⟨_, rfl⟩
  obtain ⟨A2, hA2⟩ : ∃ A2, (l.drop (p + 37)).take 16 = A2 := ⟨_, rfl⟩
  obtain ⟨A3, hA3⟩ : ∃ A3, (l.drop (p + 53)).take 32 = A3 := ⟨_, rfl⟩
  obtain ⟨BD, hBD⟩ : ∃ BD, (l.drop (p + 89)).take N = BD := ⟨_, rfl⟩
  have hA1l : A1.length = 16 := by rw [← hA1, List.length_take, List.length_drop, HL.out]; clear hPE; omega
  have hA2l : A2.length = 16 := by rw [← hA2, List.length_take, List.length_drop, HL.out]; clear hPE; omega
  have hA3l : A3.length = 32 := by rw [← hA3, List.length_take, List.length_drop, HL.out]; clear hPE; omega
  have hBDl : BD.length = N := by rw [← hBD, List.length_take, List.length_drop, HL.out]; clear hPE; omega
  obtain ⟨cn, hcn⟩ : ∃ cn : Int, w64 (long8 l (p + 4)) = cn := ⟨_, rfl⟩
  obtain ⟨tm, htm⟩ : ∃ tm : Int, w64 (long8 l (p + 12)) = tm := ⟨_, rfl⟩
  have hea : entAt l p N = ⟨cn, tm, (x8.toNat : Int), A1, A2, A3, BD⟩ := by
    unfold entAt; rw [hcn, htm, hx8, hA1, hA2, hA3, hBD]
  rw [hea] at hPE
  have l04 : ((l.drop (p + 4)).take 8).length = 8 := by rw [List.length_take, List.length_drop, HL.out]; clear hPE; omega
  have l12 : ((l.drop (p + 12)).take 8).length = 8 := by rw [List.length_take, List.length_drop, HL.out]; clear hPE; omega
  have hn4 := hid (fun w' (e : Ext w w') => rnumber_c ((l.drop (p + 4)).take 8) (some ⟨b, off + p + 4, none⟩) 8 (c - p - 4) w' l04 (by omega) (by have h := (part_cells hcell (p + 4) 8).ext e; rw [← Nat.add_assoc] at h; exact h))
  have hn12 := hid (fun w' (e : Ext w w') => rnumber_c ((l.drop (p + 12)).take 8) (some ⟨b, off + p + 12, none⟩) 8 (c - p - 12) w' l12 (by omega) (by have h := (part_cells hcell (p + 12) 8).ext e; rw [← Nat.add_assoc] at h; exact h))
  rw [natOf_8 (by rw [HL.out]; clear hPE; omega), hcn] at hn4
  rw [natOf_8 (by rw [HL.out]; clear hPE; omega), htm] at hn12
  have ca1 : CellsAt w ⟨b, off + p + 21, none⟩ (A1.map u8v) := by rw [← hA1, Nat.add_assoc]; exact part_at HCELL.out (p + 21) 16
  have ca2 : CellsAt w ⟨b, off + p + 37, none⟩ (A2.map u8v) := by rw [← hA2, Nat.add_assoc]; exact part_at HCELL.out (p + 37) 16
  have ca3 : CellsAt w ⟨b, off + p + 53, none⟩ (A3.map u8v) := by rw [← hA3, Nat.add_assoc]; exact part_at HCELL.out (p + 53) 32
  have cbd : Cells w (some ⟨b, off + p + 89, none⟩) (BD.map u8v) := by rw [← hBD, Nat.add_assoc]; exact part_cells HCELL.out (p + 89) N
  have c20 : w.cell? ⟨b, off + p + 20 * 1, none⟩ = some (.int .u8 (x8.toNat : Nat)) := by
    have h := HCELL.out (p + 20) (u8v x8) (by rw [List.getElem?_map]; have : l[p + 20]? = some (l[p + 20]'(by rw [HL.out]; clear hPE; omega)) := List.getElem?_eq_getElem _; rw [this] at hx8 ⊢; rw [← hx8]; rfl)
    rw [← Nat.add_assoc] at h; exact h
  have HPE := hid hPE
  clear hPE
  have hw8 : IntKind.i64.wrap (x8.toNat : Int) = (x8.toNat : Int) := IntWalk.i64_in _ (by have := x8.toNat_lt; omega)
  have hs1 : shift (some ⟨b, off + p, none⟩) (c - p) 21 = some ⟨b, off + p + 21, none⟩ := by unfold shift; rw [if_neg (by omega), Option.map_some, addr_add]
  have hs3 : shift (some ⟨b, off + p, none⟩) (c - p) 37 = some ⟨b, off + p + 37, none⟩ := by unfold shift; rw [if_neg (by omega), Option.map_some, addr_add]
  have hs5 : shift (some ⟨b, off + p, none⟩) (c - p) 53 = some ⟨b, off + p + 53, none⟩ := by unfold shift; rw [if_neg (by omega), Option.map_some, addr_add]
  have hs6 : shift (some ⟨b, off + p, none⟩) (c - p) 89 = some ⟨b, off + p + 89, none⟩ := by unfold shift; rw [if_neg (by omega), Option.map_some, addr_add]
  have hs7 : shift (some ⟨b, off + p, none⟩) (c - p) 4 = some ⟨b, off + p + 4, none⟩ := by unfold shift; rw [if_neg (by omega), Option.map_some, addr_add]
  have hs8 : shift (some ⟨b, off + p, none⟩) (c - p) 12 = some ⟨b, off + p + 12, none⟩ := by unfold shift; rw [if_neg (by omega), Option.map_some, addr_add]
  have hz1 : shiftz (some ⟨b, off + p, none⟩) (c - p) K 1 = some ⟨b, off + p + K * 1, none⟩ := by unfold shiftz; rw [if_neg (by omega), Option.map_some, addr_add]
  have HZ1 := hid hz1
  have HS1 := hid hs1
  have HS3 := hid hs3
  have HS5 := hid hs5
  have HS6 := hid hs6
  have HS7 := hid hs7
  have HS8 := hid hs8
  have CA1 := hid ca1
  have CA2 := hid ca2
  have CA3 := hid ca3
  have C20 := hid c20
  have hKN : K - 89 = N := by omega
  have hcln := hid (fun w' e => clone_c BD (some ⟨b, off + p + 89, none⟩) N (c - p - 89) w' hBDl (by omega) (cbd.ext e))
  have HL1 := hid (show (A1.map u8v).length = 16 by rw [List.length_map, hA1l])
  have HL2 := hid (show (A2.map u8v).length = 16 by rw [List.length_map, hA2l])
  have HL3 := hid (show (A3.map u8v).length = 32 by rw [List.length_map, hA3l])
  have HA1 := hid hA1l
  have HA2 := hid hA2l
  have HA3 := hid hA3l
  have hc12 : 12 ≤ c - p := by omega
  have hc20 : 20 ≤ c - p := by omega
  have hc37 : 37 ≤ c - p := by omega
  have hc53 : 53 ≤ c - p := by omega
  have hc85 : 85 ≤ c - p := by omega
  have hKc : K ≤ c - p := by omega
  have hMK : M - K = 32 := by omega
  have hK89 : 89 ≤ K := by omega
  have hwe1 : IntKind.i64.wrap ((p : Int) + 89) = ((p + 89 : Nat) : Int) := by rw [IntWalk.i64_in _ (by omega)]; omega
  have hwe2 : IntKind.i64.wrap (((p + 89 : Nat) : Int) + (N : Int)) = ((p + K : Nat) : Int) := by rw [IntWalk.i64_in _ (by omega)]; omega
  have hwe3 : IntKind.i64.wrap (((p + K : Nat) : Int) + 32) = ((p + M : Nat) : Int) := by rw [IntWalk.i64_in _ (by omega)]; omega
  have hend : ((p + 121 + N : Nat) : Int) = ((p + M : Nat) : Int) := by omega
  rw [hend] at HPE
  have hW1 := hid hwe1
  have hW2 := hid hwe2
  have hW3 := hid hwe3
  clear hend hwe1 hwe2 hwe3 hs1 hs3 hs5 hs6 hs7 hs8 hz1 ca1 ca2 ca3 c20 cbd hA1l hA2l hA3l hea hcn htm hx8 hA1 hA2 hA3 hBD hS hSX hsb hSl hSXl cX l04 l12 hcell hr0 hq1
  go_enter Try.func45, Try.ntmps45
  go_upto_region 1 with (fail)
  generalize hwA : World.alloc w _ = wA
  have zA : Blk wA w.heap.size zeroE.v 79 := by rw [← hwA]; exact Blk.mk_alloc rfl rfl
  have eA : Ext w wA := by rw [← hwA]; exact (Ext.refl w).alloc _
  have ZA := hid zA
  have EA := hid eA
  clear hwA zA eA
  have hs2 := hst.out wA EA.out
  go_wp2_with fail
  refine (hct.out wA).mono ?_
  rintro x wB ⟨hww, rfl⟩
  rw [← hww]
  clear hww wB hct
  go_wp2_with (first | (refine wpl_run rfl (exec_sliceHead (h := 4) rfl rfl rfl Try.underlying28 size_u8 hc4 HSH0.out _) ?_) | (refine wpl_run rfl (exec_slice2 (k := 85) (h := 89) rfl rfl rfl rfl Try.underlying28 size_u8 (by omega) hc89 HSH85.out _) ?_))
  refine (hn85.out wA EA.out).mono ?_
  rintro x wB ⟨rfl, hww⟩
  rw [← hww]
  clear hww wB hn85
  go_wp2_with fail
  refine (hct2.out wA).mono ?_
  rintro x wB ⟨hww, rfl⟩
  rw [← hww]
  clear hww wB hct2 hs2 hst HSH0 HSH85
  go_upto_region 13 with (fail)
  obtain ⟨C, hC⟩ : ∃ C : World → Prop, C = Cls w wA [w.heap.size] [] := ⟨_, rfl⟩
  have hC0 : ∀ w', C w' ↔ Cls w wA [w.heap.size] [] w' := fun w' => by rw [hC]
  clear hC
  have HCC := hid hC0
  clear hC0
  have hCx : ∀ w w', C w → Ext w w' → C w' := fun w w' h1 h2 => (HCC.out w').2 (((HCC.out w).1 h1).ext h2)
  have hCA : C wA := (HCC.out _).2 (Cls.no_room EA.out (Kept.one ZA.out.lt))
  have hp0 : ∀ w1, C w1 → w1.cell? ⟨b, off + p + 20 * 1, none⟩ = some (.int .u8 (x8.toNat : Nat)) := fun w1 h1 => cell_extU C20.out ((HCC.out w1).1 h1).base
  have hp1 : ∀ w1, C w1 → CellsAt w1 ⟨b, off + p + 21, none⟩ (A1.map u8v) := fun w1 h1 => CA1.out.ext ((HCC.out w1).1 h1).base
  have hp2 : ∀ w1, C w1 → CellsAt w1 ⟨b, off + p + 37, none⟩ (A2.map u8v) := fun w1 h1 => CA2.out.ext ((HCC.out w1).1 h1).base
  have hp3 : ∀ w1, C w1 → CellsAt w1 ⟨b, off + p + 53, none⟩ (A3.map u8v) := fun w1 h1 => CA3.out.ext ((HCC.out w1).1 h1).base
  refine wp_region_held_drew (S := C) (by kernel_rfl) (hCx _ _ hCA (Ext.refl _).drew) (fun hS0 => ?_)
  refine held_take 0 (v := ?tv1) rfl (by kernel_rfl) (by kernel_rfl) (by kernel_rfl) (fun _ _ _ h => h) (.inl ⟨rfl, ?ty1⟩) hS0 ?tr1
  case ty1 => (intro _ _; go_simp; try with_reducible rfl)
  case tr1 =>
  simp only [Act.put, List.setIfInBounds_toArray, List.set_cons_succ, List.set_cons_zero]
  refine held_take 1 (v := _) rfl (by kernel_rfl) (by kernel_rfl) (by kernel_rfl) (fun _ _ _ h => h) (yieldsI_run rfl (fun w1 _ => exec_slice2 (k := 4) (h := 12) rfl rfl rfl rfl Try.underlying28 size_u8 (by omega) hc12 HS7.out w1)) hS0 ?_
  simp only [Act.put, List.setIfInBounds_toArray, List.set_cons_succ, List.set_cons_zero]
  refine held_take 3 (v := ?tv2) rfl (by kernel_rfl) (by kernel_rfl) (by kernel_rfl) (fun _ _ _ h => h) (.inl ⟨rfl, ?ty2⟩) hS0 ?tr2
  case ty2 => (intro _ _; go_simp; try with_reducible rfl)
  case tr2 =>
  simp only [Act.put, List.setIfInBounds_toArray, List.set_cons_succ, List.set_cons_zero]
  refine held_take 4 (v := _) rfl (by kernel_rfl) (by kernel_rfl) (by kernel_rfl) (fun _ _ _ h => h) (yieldsI_run rfl (fun w1 _ => exec_slice2 (k := 12) (h := 20) rfl rfl rfl rfl Try.underlying28 size_u8 (by omega) hc20 HS8.out w1)) hS0 ?_
  simp only [Act.put, List.setIfInBounds_toArray, List.set_cons_succ, List.set_cons_zero]
  refine held_take 6 (v := ?tv3) rfl (by kernel_rfl) (by kernel_rfl) (by kernel_rfl) (fun _ _ _ h => h) (.inl ⟨rfl, ?ty3⟩) hS0 ?tr3
  case ty3 => (intro _ _; go_simp; try with_reducible rfl)
  case tr3 =>
  simp only [Act.put, List.setIfInBounds_toArray, List.set_cons_succ, List.set_cons_zero]
  refine held_take 7 (v := _) rfl (by kernel_rfl) (by kernel_rfl) (by kernel_rfl) (fun _ _ _ h => h) (yieldsI_run rfl (fun w1 _ => exec_index (i := 20) rfl rfl rfl Try.underlying28 size_u8 (by decide) w1)) hS0 ?_
  simp only [Act.put, List.setIfInBounds_toArray, List.set_cons_succ, List.set_cons_zero]
  refine held_take 8 (v := _) rfl (by kernel_rfl) (by kernel_rfl) (by kernel_rfl) (fun _ _ _ h => h) (yieldsI_run rfl (fun w1 h => exec_load_oneU rfl rfl (hp0 w1 h) one_u8t)) hS0 ?_
  simp only [Act.put, List.setIfInBounds_toArray, List.set_cons_succ, List.set_cons_zero]
  refine held_take 9 (v := ?tv4) rfl (by kernel_rfl) (by kernel_rfl) (by kernel_rfl) (fun _ _ _ h => h) (.inl ⟨rfl, ?ty4⟩) hS0 ?tr4
  case ty4 => (intro _ _; go_simp; try with_reducible rfl)
  case tr4 =>
  simp only [Act.put, List.setIfInBounds_toArray, List.set_cons_succ, List.set_cons_zero]
  refine held_take 10 (v := ?tv5) rfl (by kernel_rfl) (by kernel_rfl) (by kernel_rfl) (fun _ _ _ h => h) (.inl ⟨rfl, ?ty5⟩) hS0 ?tr5
  case ty5 => (intro _ _; go_simp; try with_reducible rfl)
  case tr5 =>
  simp only [Act.put, List.setIfInBounds_toArray, List.set_cons_succ, List.set_cons_zero]
  refine held_take 11 (v := _) rfl (by kernel_rfl) (by kernel_rfl) (by kernel_rfl) (fun _ _ _ h => h) (yieldsI_run rfl (fun w1 _ => exec_slice2 (k := 21) (h := 37) rfl rfl rfl rfl Try.underlying28 size_u8 (by omega) hc37 HS1.out w1)) hS0 ?_
  simp only [Act.put, List.setIfInBounds_toArray, List.set_cons_succ, List.set_cons_zero]
  refine held_take 12 (v := _) rfl (by kernel_rfl) (by kernel_rfl) (by kernel_rfl) (fun _ _ _ h => h) (yieldsI_run rfl (fun w1 _ => exec_arrayAt (n := 16) rfl rfl Try.underlying68 (by omega) w1)) hS0 ?_
  simp only [Act.put, List.setIfInBounds_toArray, List.set_cons_succ, List.set_cons_zero]
  refine held_take 13 (v := _) rfl (by kernel_rfl) (by kernel_rfl) (by kernel_rfl) (fun _ _ _ h => h) (yieldsI_run rfl (fun w1 h => exec_load_at rfl rfl (hp1 w1 h) agg_id HL1.out)) hS0 ?_
  simp only [Act.put, List.setIfInBounds_toArray, List.set_cons_succ, List.set_cons_zero]
  refine held_take 14 (v := ?tv6) rfl (by kernel_rfl) (by kernel_rfl) (by kernel_rfl) (fun _ _ _ h => h) (.inl ⟨rfl, ?ty6⟩) hS0 ?tr6
  case ty6 => (intro _ _; go_simp; try with_reducible rfl)
  case tr6 =>
  simp only [Act.put, List.setIfInBounds_toArray, List.set_cons_succ, List.set_cons_zero]
  refine held_take 15 (v := _) rfl (by kernel_rfl) (by kernel_rfl) (by kernel_rfl) (fun _ _ _ h => h) (yieldsI_run rfl (fun w1 _ => exec_slice2 (k := 37) (h := 53) rfl rfl rfl rfl Try.underlying28 size_u8 (by omega) hc53 HS3.out w1)) hS0 ?_
  simp only [Act.put, List.setIfInBounds_toArray, List.set_cons_succ, List.set_cons_zero]
  refine held_take 16 (v := _) rfl (by kernel_rfl) (by kernel_rfl) (by kernel_rfl) (fun _ _ _ h => h) (yieldsI_run rfl (fun w1 _ => exec_arrayAt (n := 16) rfl rfl Try.underlying68 (by omega) w1)) hS0 ?_
  simp only [Act.put, List.setIfInBounds_toArray, List.set_cons_succ, List.set_cons_zero]
  refine held_take 17 (v := _) rfl (by kernel_rfl) (by kernel_rfl) (by kernel_rfl) (fun _ _ _ h => h) (yieldsI_run rfl (fun w1 h => exec_load_at rfl rfl (hp2 w1 h) agg_id HL2.out)) hS0 ?_
  simp only [Act.put, List.setIfInBounds_toArray, List.set_cons_succ, List.set_cons_zero]
  refine held_take 18 (v := ?tv7) rfl (by kernel_rfl) (by kernel_rfl) (by kernel_rfl) (fun _ _ _ h => h) (.inl ⟨rfl, ?ty7⟩) hS0 ?tr7
  case ty7 => (intro _ _; go_simp; try with_reducible rfl)
  case tr7 =>
  simp only [Act.put, List.setIfInBounds_toArray, List.set_cons_succ, List.set_cons_zero]
  refine held_take 19 (v := _) rfl (by kernel_rfl) (by kernel_rfl) (by kernel_rfl) (fun _ _ _ h => h) (yieldsI_run rfl (fun w1 _ => exec_slice2 (k := 53) (h := 85) rfl rfl rfl rfl Try.underlying28 size_u8 (by omega) hc85 HS5.out w1)) hS0 ?_
  simp only [Act.put, List.setIfInBounds_toArray, List.set_cons_succ, List.set_cons_zero]
  refine held_take 20 (v := _) rfl (by kernel_rfl) (by kernel_rfl) (by kernel_rfl) (fun _ _ _ h => h) (yieldsI_run rfl (fun w1 _ => exec_arrayAt (n := 32) rfl rfl Try.underlying32 (by omega) w1)) hS0 ?_
  simp only [Act.put, List.setIfInBounds_toArray, List.set_cons_succ, List.set_cons_zero]
  refine held_take 21 (v := _) rfl (by kernel_rfl) (by kernel_rfl) (by kernel_rfl) (fun _ _ _ h => h) (yieldsI_run rfl (fun w1 h => exec_load_at rfl rfl (hp3 w1 h) agg_es HL3.out)) hS0 ?_
  simp only [Act.put, List.setIfInBounds_toArray, List.set_cons_succ, List.set_cons_zero]
  refine Fl_start (B := World.heap wA |>.size) (A := 23) (d := 12) (T := 79) (vs := zeroE.v) (D := C) undef rfl hCx (fun _ h => h) (fun _ h => ((HCC.out _).1 h).kept.1) hS0 ?_
  try dsimp only
  simp only [Act.put, List.setIfInBounds_toArray, List.set_cons_succ, List.set_cons_zero]
  refine Fl_step 2 (β := Unit) (fun _ => .int .i64 cn) (fun _ _ => True) rfl rfl rfl rfl (fun _ _ => rfl) (by kernel_rfl) (by kernel_rfl) (by kernel_rfl) rfl (fun _ _ => by simp only [Act.put, List.setIfInBounds_toArray, List.set_cons_succ, List.set_cons_zero]) ?phi2 ?step2 ?rest2
  case phi2 => exact fun _ _ _ _ _ => trivial
  case step2 =>
    intro x w1 hD Q' hQ
    have e1 := ((HCC.out w1).1 hD).base
    clear hS0
    go_wp2_with fail
    refine (hn4.out w1 e1).mono ?_
    rintro e w2 ⟨rfl, rfl⟩
    go_wp2_with fail
    exact hQ () _ (Ext.refl _) trivial
  case rest2 =>
  intro _
  try dsimp only
  try simp only [Act.put, List.setIfInBounds_toArray, List.set_cons_succ, List.set_cons_zero]
  refine Fl_step 5 (β := Unit) (fun _ => .int .i64 tm) (fun _ _ => True) rfl rfl rfl rfl (fun _ _ => rfl) (by kernel_rfl) (by kernel_rfl) (by kernel_rfl) rfl (fun _ _ => by simp only [Act.put, List.setIfInBounds_toArray, List.set_cons_succ, List.set_cons_zero]) ?phi5 ?step5 ?rest5
  case phi5 => exact fun _ _ _ _ _ => trivial
  case step5 =>
    rintro x w1 ⟨hD, _⟩ Q' hQ
    have e1 := ((HCC.out w1).1 hD).base
    clear hS0
    go_wp2_with fail
    refine (hn12.out w1 e1).mono ?_
    rintro e w2 ⟨rfl, rfl⟩
    go_wp2_with fail
    exact hQ () _ (Ext.refl _) trivial
  case rest5 =>
  intro _
  try dsimp only
  try simp only [Act.put, List.setIfInBounds_toArray, List.set_cons_succ, List.set_cons_zero]
  refine Fl_take 22 (v := _) rfl (by kernel_rfl) (by kernel_rfl) (by kernel_rfl) (by kernel_rfl) (by kernel_rfl) rfl (fun _ _ _ h => h) (fun _ => yieldsI_run rfl (fun w1 _ => exec_ent6 rfl rfl rfl rfl rfl rfl rfl HA1.out HA2.out HA3.out w1)) ?_
  try dsimp only
  simp only [Act.put, List.setIfInBounds_toArray, List.set_cons_succ, List.set_cons_zero]
  refine Fl_end rfl rfl rfl (fun _ _ => rfl) (by kernel_rfl) (fun _ _ => by simp only [Act.put, List.setIfInBounds_toArray, List.set_cons_succ, List.set_cons_zero]) ?_
  rintro b2 w3 ⟨⟨hC3, _⟩, _⟩ lb hb
  have HB := hid hb
  have HC3 := hid ((HCC.out w3).1 hC3)
  clear hb hC3 hp0 hp1 hp2 hp3 hn4 hn12
  obtain ⟨R0, hR0⟩ : ∃ R0 : EntR, R0 = ⟨cn, tm, (x8.toNat : Int), A1, A2, A3, none, 0, 0, []⟩ := ⟨_, rfl⟩
  rw [← hR0]
  have HR0 := hid hR0
  have HRL := hid (show R0.v.length = 68 by rw [hR0]; unfold EntR.v; simp [HA1.out, HA2.out, HA3.out])
  clear hR0
  refine held_one (i := 24) (by kernel_rfl) rfl ?_
  intro Q' hQ
  go_wp2_with (refine wpl_storew rfl _ _ _ rfl rfl rfl HB.out agg_ent zeroE_len (xs := R0.v) HRL.out (ent_one R0) ?_)
  intro w4 b4 u4
  have hC4 := Cls.upd HC3.out u4 lb EA.out.size
  refine hQ _ _ ((HCC.out w4).2 hC4) ?_
  have B4 := hid b4
  have Z4 := hid (hC4.blk ZA.out (by simp))
  have E4 := hid hC4.base
  have hgb : w.heap.size < b2 := Nat.lt_of_lt_of_le ZA.out.lt lb
  clear hQ Q' u4 b4 hC4 HC3 HB EA ZA hS0 HCC hCx hCA
  refine wpAnyH_done (by kernel_rfl) ?_ _
  unfold ptrAt
  go_wp2_with (refine wpl_run rfl (exec_slice2 (k := 89) (h := K) rfl rfl rfl rfl Try.underlying28 size_u8 hK89 hKc HS6.out _) ?_)
  refine (hcln.out w4 E4.out).mono ?_
  rintro x w5 ⟨v, rfl, own, -, e5⟩
  obtain ⟨ba, bc, rfl, -, -, -, -⟩ := own_slice own
  have OW5 := hid (own_lower own (show w.heap.size + 1 ≤ w4.heap.size from Z4.out.lt))
  have Z5 := hid (Z4.out.ext e5)
  have B5 := hid (B4.out.ext e5)
  have E5 := hid (E4.out.ext e5)
  clear own e5 Z4 B4 E4 hcln
  have hr0 : R0.actor = A1 ∧ R0.key = A2 ∧ R0.prev = A3 := by rw [HR0.out]; exact ⟨rfl, rfl, rfl⟩
  have ha0 : R0.actor.length = 16 := by rw [hr0.1]; exact HA1.out
  have hk0 : R0.key.length = 16 := by rw [hr0.2.1]; exact HA2.out
  have hq0 : R0.prev.length = 32 := by rw [hr0.2.2]; exact HA3.out
  have kb := B5.out.cell' (EntR.at67' ha0 hk0 hq0)
  have fb := B5.out.frozen 67
  have H3 := hid (And.intro ha0 (And.intro hk0 hq0))
  clear hr0 ha0 hk0 hq0
  go_upto_region 15 with (fail)
  generalize hwB : World.setCell w5 _ _ = w6
  obtain ⟨R, hR⟩ : ∃ R : EntR, R = { R0 with ba := ba, bn := N, bc := bc, body := BD } := ⟨_, rfl⟩
  have b6 : Blk w6 b2 R.v 79 := by rw [← hwB, hR, ← EntR.set67 R0 ba N bc BD H3.out.1 H3.out.2.1 H3.out.2.2]; exact B5.out.set 67 _
  have u6 : Upd w5 b2 w6 := by rw [← hwB]; exact Upd.setCell _
  have hRv : R = ⟨cn, tm, (x8.toNat : Int), A1, A2, A3, ba, N, bc, BD⟩ := by rw [hR, HR0.out]
  have HR := hid hRv
  have B6 := hid b6
  have HRL6 := hid (EntR.len' (e := R) (by rw [hRv]; exact HA1.out) (by rw [hRv]; exact HA2.out) (by rw [hRv]; exact HA3.out))
  have Z6 := hid (Z5.out.upd u6 (by omega))
  have E6 := hid (u6.ext E5.out (by omega))
  have OW6 := hid (own_upd OW5.out u6 B5.out (by decide))
  clear hwB kb fb hR hRv b6 u6 B5 Z5 E5 OW5
  obtain ⟨C, hC⟩ : ∃ C : World → Prop, C = Cls w6 w6 [] [] := ⟨_, rfl⟩
  have hC0 : ∀ w', C w' ↔ Cls w6 w6 [] [] w' := fun w' => by rw [hC]
  clear hC
  have HCC := hid hC0
  clear hC0
  have hCx : ∀ w w', C w → Ext w w' → C w' := fun w w' h1 h2 => (HCC.out w').2 (((HCC.out w).1 h1).ext h2)
  have hCA : C w6 := (HCC.out _).2 (Cls.no_room (Ext.refl _) (Kept.none _))
  have hp1 : ∀ w1, C w1 → CellsAt w1 ⟨b, off + p + K * 1, none⟩ (SX.map u8v) := fun w1 h1 => CX.out.ext (E6.out.ext ((HCC.out w1).1 h1).base)
  refine wp_region_held_drew (S := C) (by kernel_rfl) (hCx _ _ hCA (Ext.refl _).drew) (fun hS0 => ?_)
  refine held_take 0 (v := ?tv8) rfl (by kernel_rfl) (by kernel_rfl) (by kernel_rfl) (fun _ _ _ h => h) (.inl ⟨rfl, ?ty8⟩) hS0 ?tr8
  case ty8 => (intro _ _; go_simp; try with_reducible rfl)
  case tr8 =>
  simp only [Act.put, List.setIfInBounds_toArray, List.set_cons_succ, List.set_cons_zero]
  refine held_take 1 (v := ?tv9) rfl (by kernel_rfl) (by kernel_rfl) (by kernel_rfl) (fun _ _ _ h => h) (.inl ⟨rfl, ?ty9⟩) hS0 ?tr9
  case ty9 => (intro _ _; go_simp; try with_reducible rfl)
  case tr9 =>
  simp only [Act.put, List.setIfInBounds_toArray, List.set_cons_succ, List.set_cons_zero]
  refine held_take 2 (v := ?tv10) rfl (by kernel_rfl) (by kernel_rfl) (by kernel_rfl) (fun _ _ _ h => h) (.inl ⟨rfl, ?ty10⟩) hS0 ?tr10
  case ty10 => (intro _ _; go_simp; try with_reducible rfl)
  case tr10 =>
  simp only [Act.put, List.setIfInBounds_toArray, List.set_cons_succ, List.set_cons_zero]
  refine held_take 3 (v := _) rfl (by kernel_rfl) (by kernel_rfl) (by kernel_rfl) (fun _ _ _ h => h) (yieldsI_run rfl (fun w1 _ => exec_high (k := K) rfl rfl rfl Try.underlying28 size_u8 hKc w1)) hS0 ?_
  simp only [Act.put, List.setIfInBounds_toArray, List.set_cons_succ, List.set_cons_zero]
  refine held_take 5 (v := ?tv11) rfl (by kernel_rfl) (by kernel_rfl) (by kernel_rfl) (fun _ _ _ h => h) (.inl ⟨rfl, ?ty11⟩) hS0 ?tr11
  case ty11 => (intro _ _; go_simp; try with_reducible rfl)
  case tr11 =>
  simp only [Act.put, List.setIfInBounds_toArray, List.set_cons_succ, List.set_cons_zero]
  refine held_take 6 (v := ?tv12) rfl (by kernel_rfl) (by kernel_rfl) (by kernel_rfl) (fun _ _ _ h => h) (.inl ⟨rfl, ?ty12⟩) hS0 ?tr12
  case ty12 => (intro _ _; go_simp; try with_reducible rfl)
  case tr12 =>
  simp only [Act.put, List.setIfInBounds_toArray, List.set_cons_succ, List.set_cons_zero]
  refine held_take 7 (v := ?tv13) rfl (by kernel_rfl) (by kernel_rfl) (by kernel_rfl) (fun _ _ _ h => h) (.inl ⟨rfl, ?ty13⟩) hS0 ?tr13
  case ty13 => (intro _ _; go_simp; try with_reducible rfl)
  case tr13 =>
  simp only [Act.put, List.setIfInBounds_toArray, List.set_cons_succ, List.set_cons_zero]
  refine held_take 8 (v := _) rfl (by kernel_rfl) (by kernel_rfl) (by kernel_rfl) (fun _ _ _ h => h) (yieldsI_run rfl (fun w1 _ => exec_lowE (k := K) HZ1.out rfl rfl rfl Try.underlying28 size_u8 (by omega) w1)) hS0 ?_
  simp only [Act.put, List.setIfInBounds_toArray, List.set_cons_succ, List.set_cons_zero]
  refine held_take 9 (v := _) rfl (by kernel_rfl) (by kernel_rfl) (by kernel_rfl) (fun _ _ _ h => h) (yieldsI_run rfl (fun w1 _ => exec_arrayAt (n := 32) rfl rfl Try.underlying32 (by omega) w1)) hS0 ?_
  simp only [Act.put, List.setIfInBounds_toArray, List.set_cons_succ, List.set_cons_zero]
  refine held_take 10 (v := _) rfl (by kernel_rfl) (by kernel_rfl) (by kernel_rfl) (fun _ _ _ h => h) (yieldsI_run rfl (fun w1 h => exec_load_at rfl rfl (hp1 w1 h) agg_es HSX.out)) hS0 ?_
  simp only [Act.put, List.setIfInBounds_toArray, List.set_cons_succ, List.set_cons_zero]
  refine held_one (i := 4) (by kernel_rfl) rfl ?_
  intro Q' hQ
  go_wp2_with fail
  refine ((hso.out _ (E6.out.ext ((HCC.out _).1 hS0).base))).mono ?_
  rintro e w7 ⟨rfl, eq9⟩
  have hS9 := hCx _ _ hS0 eq9
  go_wp2_with fail
  refine hQ _ _ hS9 ?_
  clear hQ Q' hS0 eq9
  have hS0 := hS9
  clear hS9
  try dsimp only
  try simp only [Act.put, List.setIfInBounds_toArray, List.set_cons_succ, List.set_cons_zero]
  refine held_take 11 (v := _) rfl (by kernel_rfl) (by kernel_rfl) (by kernel_rfl) (fun _ _ _ h => h) (yieldsI_run rfl (fun w1 _ => exec_cmpE rfl rfl rfl guard_es hne.out w1)) hS0 ?_
  simp only [Act.put, List.setIfInBounds_toArray, List.set_cons_succ, List.set_cons_zero]
  have e7 := ((HCC.out w7).1 hS0).base
  have Z7 := hid (Z6.out.ext e7)
  have B7 := hid (B6.out.ext e7)
  have E7 := hid (E6.out.ext e7)
  have OW7 := hid (ownsRow_ext OW6.out e7)
  clear hS0 HCC hCx hCA hp1 e7 CX HSX hne hso Z6 B6 E6 OW6
  refine wpAnyH_done (by kernel_rfl) ?_ _
  cases q3 : (S == SX) with
  | false =>
    have HP := hid (show PE = (zeroEP, 0, 13) by have h := HPE.out; rw [q3, if_pos rfl] at h; exact h.symm)
    clear HPE
    go_wp2_with fail
    refine (noE_c 13 w7).mono ?_
    rintro x wC ⟨rfl, eC⟩
    have ZC := hid (Z7.out.ext eC)
    have EC := hid (E7.out.ext eC)
    clear eC Z7 E7 B7 OW7
    go_wp2_with (refine wpl_storew rfl _ _ _ rfl rfl rfl ZC.out agg_ent zeroE_len (xs := zeroE.v) zeroE_len (ent_one zeroE) ?_)
    intro wD bD uD
    go_wp2_with fail
    exact ret_row3e rfl rfl bD agg_ent zeroE_len rfl (HZP.out 13 _ HP.out (uD.ext EC.out (Nat.le_refl _)))
  | true =>
  have hPE := HPE.out
  rw [q3, if_neg (by decide)] at hPE
  replace hPE := fin_ep hPE
  clear HPE q3
  have HPE := hid hPE
  clear hPE
  have hok : ∀ w', w'.ownsRow (w.heap.size + 1) 5 1 (.slice ba N bc) N (BD.map u8v) → R.Ok w' := by
    intro w' h
    obtain ⟨a', c', he, h1, h2, h3, h4⟩ := own_slice h
    cases he
    have hNb : N ≤ 140737488355328 := by clear h4 HPE; omega
    rw [HR.out]
    refine ⟨HA1.out, HA2.out, HA3.out, hBDl, h1, hNb, fun h => ?_, h4⟩
    have := h3 h
    exact ⟨by simp only; omega, this⟩
  have HOK := hid hok
  have hRp : R.p = ⟨cn, tm, (x8.toNat : Int), A1, A2, A3, BD⟩ := by rw [HR.out]; rfl
  have hef := hid (fun w' h => entryError_c R w' h)
  rw [entE_p, hRp] at hef
  have HRP := hid hRp
  obtain ⟨PX, hPX⟩ : ∃ PX : EntP, (⟨cn, tm, (x8.toNat : Int), A1, A2, A3, BD⟩ : EntP) = PX := ⟨_, rfl⟩
  rw [hPX] at HPE hef HRP
  obtain ⟨EE, hEE⟩ : ∃ EE, entEP PX = EE := ⟨_, rfl⟩
  rw [hEE] at HPE hef
  clear hok hRp hPX hEE
  go_wp2_with (refine wpl_loadw rfl 79 (.tmp 12) rfl rfl B7.out agg_ent HRL6.out ?_)
  refine (hef.out w7 (HOK.out _ OW7.out)).mono ?_
  rintro x w8 ⟨rfl, e8⟩
  have Z8 := hid (Z7.out.ext e8)
  have B8 := hid (B7.out.ext e8)
  have E8 := hid (E7.out.ext e8)
  have OW8 := hid (ownsRow_ext OW7.out e8)
  clear e8 Z7 B7 E7 OW7 hef
  rcases HPE.out with ⟨hz, hP⟩ | ⟨hz, hP⟩
  · subst hz
    have HP := hid hP
    have hwe1 := hW1.out
    have hwe2 := hW2.out
    have hwe3 := hW3.out
    clear HPE hP hW1 hW2 hW3
    go_wp2_with (first | (refine wpl_loadw rfl 79 (.tmp 12) rfl rfl B8.out agg_ent HRL6.out ?_) | (refine wpl_storew rfl _ _ _ rfl rfl rfl Z8.out agg_ent zeroE_len (xs := R.v) HRL6.out (ent_one R) ?_))
    intro w9 b9 u9
    go_wp2_with fail
    refine ret_row3e rfl rfl b9 agg_ent HRL6.out rfl ⟨R, ?_, HOK.out _ (own_upd OW8.out u9 Z8.out (by decide)), ?_, u9.ext E8.out (Nat.le_refl _)⟩
    · rw [HPE0.out, HP.out, show ((p + M : Nat) : Int) = (p : Int) + 89 + (N : Int) + 32 by clear HPE0; omega]; rfl
    · rw [HPE0.out, HP.out, HRP.out]
  · have HP := hid hP
    have d9 : (EE != 0) = true := by simpa using hz
    clear HPE hP hz
    go_wp2_with fail
    refine (noE_c EE w8).mono ?_
    rintro x wC ⟨rfl, eC⟩
    have ZC := hid (Z8.out.ext eC)
    have EC := hid (E8.out.ext eC)
    clear eC Z8 E8 B8 OW8
    go_wp2_with (refine wpl_storew rfl _ _ _ rfl rfl rfl ZC.out agg_ent zeroE_len (xs := zeroE.v) zeroE_len (ent_one zeroE) ?_)
    intro wD bD uD
    go_wp2_with fail
    exact ret_row3e rfl rfl bD agg_ent zeroE_len rfl (HZP.out EE _ HP.out (uD.ext EC.out (Nat.le_refl _)))
end

section
open Go Go.RowKit

theorem run_eqFields_cons {P : Program} {d : Nat} {xs ys : Array Value} {f : Field} {fs : List Field} {a b : Value} {w : World} (hn : f.name ≠ "_") (h1 : (part f.type xs f.offset).run P w = .ok a w) (h2 : (part f.type ys f.offset).run P w = .ok b w) (h3 : (Op.equalIn d f.type a b).run P w = .ok true w) :
    (Op.eqFields d xs ys (f :: fs)).run P w = (Op.eqFields d xs ys fs).run P w := by
  simp [Op.eqFields, hn, h1, h2, h3]
theorem run_part_int {P : Program} {t : TypeId} {k : IntKind} {xs : Array Value} {off : Nat} {v : Value} {w : World} (ht : P.underlying t = some (.int k)) (hv : xs[off]? = some v) : (part t xs off).run P w = .ok v w := by
  simp [part, isAgg, run_underlying ht, hv]
theorem run_part_arr {P : Program} {t e : TypeId} {n m : Nat} {xs : Array Value} {off : Nat} {w : World} (ht : P.underlying t = some (.array n e)) (hs : P.cellsOf t = m) : (part t xs off).run P w = .ok (.agg (xs.extract off (off + m))) w := by
  obtain ⟨i, hi⟩ := info_of_underlying ht
  simp [part, isAgg, run_underlying ht, run_sizeOf w hi, hs]
theorem size_sum32 : Try.prog.cellsOf 32 = 32 := by kernel_rfl
theorem head_part1 (C T : Int) {x y : List UInt8} (hx : x.length = 32) : (headV C T x y).toArray.extract 2 (2 + 32) = (x.map u8v).toArray := by
  rw [← headV_r1 C T (r2 := y) hx]
  simp [List.extract]
theorem head_part2 (C T : Int) {x y : List UInt8} (hx : x.length = 32) (hy : y.length = 32) : (headV C T x y).toArray.extract 34 (34 + 32) = (y.map u8v).toArray := by
  rw [← headV_r2 C T hx hy]
  simp [List.extract]
theorem long8_apph (l m r : List UInt8) (q : Nat) (h : l.length = q) (hm : m.length = 8) : long8 (l ++ (m ++ r)) q = long8 (l ++ m) q := by
  subst h
  unfold long8 word4
  have hg : ∀ i, i < l.length + 8 → (l ++ (m ++ r))[i]? = (l ++ m)[i]? := fun i hi => by
    rw [← List.append_assoc, List.getElem?_append_left (by rw [List.length_append]; omega)]
  rw [hg _ (by omega), hg _ (by omega), hg _ (by omega), hg _ (by omega), hg _ (by omega), hg _ (by omega), hg _ (by omega), hg _ (by omega)]

/-- what is printed is read -/
theorem parse_headO (C T : Int) (x y : List UInt8) (hx : x.length = 32) (hy : y.length = 32) (hE : headE C T = 0) :
    parseHE (headO C T x y) 84 = 0 ∧ parseHV (headO C T x y) 84 = headV C T x y := by
  have hb : 0 ≤ C ∧ C ≤ 65536 ∧ 0 ≤ T ∧ T ≤ 1099511627776 := by
    unfold headE at hE
    split at hE
    · exact absurd hE (by decide)
    · omega
  obtain ⟨c1, c2, t1, t2⟩ := hb
  obtain ⟨c, rfl⟩ := Int.eq_ofNat_of_zero_le c1
  obtain ⟨t, rfl⟩ := Int.eq_ofNat_of_zero_le t1
  have hc : (UInt64.ofNat c).toNat = c := by simp; omega
  have ht : (UInt64.ofNat t).toNat = t := by simp; omega
  have e0 : headO (c : Int) (t : Int) x y = ([75, 87, 72, 49] ++ longL (UInt64.ofNat c)) ++ longL (UInt64.ofNat t) ++ x ++ y := rfl
  have l1 : long8 (headO (c : Int) (t : Int) x y) 4 = c := by
    have h := long8_longL [75, 87, 72, 49] (UInt64.ofNat c) 4 rfl
    rw [hc] at h
    have e1 : headO (c : Int) (t : Int) x y = [75, 87, 72, 49] ++ (longL (UInt64.ofNat c) ++ (longL (UInt64.ofNat t) ++ x ++ y)) := by rw [e0]; simp only [List.append_assoc]
    rw [e1, long8_apph _ _ _ 4 rfl (longL_length _)]
    exact h
  have l2 : long8 (headO (c : Int) (t : Int) x y) 12 = t := by
    have h := long8_longL ([75, 87, 72, 49] ++ longL (UInt64.ofNat c)) (UInt64.ofNat t) 12 (by simp [longL_length])
    rw [ht] at h
    have e1 : headO (c : Int) (t : Int) x y = ([75, 87, 72, 49] ++ longL (UInt64.ofNat c)) ++ (longL (UInt64.ofNat t) ++ (x ++ y)) := by rw [e0]; simp only [List.append_assoc]
    rw [e1, long8_apph _ _ _ 12 (by simp [longL_length]) (longL_length _)]
    exact h
  have g1 : ((headO (c : Int) (t : Int) x y).drop 20).take 32 = x := by
    rw [e0, List.append_assoc, List.drop_left' (by simp [longL_length]), List.take_left' hx]
  have g2 : ((headO (c : Int) (t : Int) x y).drop 52).take 32 = y := by
    rw [e0, List.drop_left' (by simp [longL_length, hx]), List.take_of_length_le (by omega)]
  have g0 : (headO (c : Int) (t : Int) x y).take 4 = [75, 87, 72, 49] := rfl
  have hp : parseHE (headO (c : Int) (t : Int) x y) 84 = 0 := by
    unfold parseHE
    rw [if_neg (by decide), if_pos ⟨g0, rfl⟩, l1, l2]; exact hE
  refine ⟨hp, ?_⟩
  unfold parseHV
  rw [if_pos hp, l1, l2, g1, g2]

/-- what is read prints as it was -/
theorem print_parsed (l : List UInt8) (hl : l.length = 84) (h : parseHE l 84 = 0) :
    headO (long8 l 4 : Nat) (long8 l 12 : Nat) ((l.drop 20).take 32) ((l.drop 52).take 32) = l ∧ headE (long8 l 4 : Nat) (long8 l 12 : Nat) = 0 := by
  unfold parseHE at h
  rw [if_neg (by decide)] at h
  split at h
  case isFalse => exact absurd h (by decide)
  case isTrue hm =>
    refine ⟨?_, h⟩
    unfold headO
    rw [Int.toNat_natCast, Int.toNat_natCast, longL_long8 l 4 (by omega), longL_long8 l 12 (by omega), ← hm.1]
    have e : ∀ p q : Nat, l.take p ++ (l.drop p).take q = l.take (p + q) := fun p q => List.take_add.symm
    rw [e 4 8, e 12 8, e 20 32, e 52 32, List.take_of_length_le (by omega)]
theorem parse_not84 {l : List UInt8} {n : Nat} (hl : l.length = n) (h : parseHE l n = 0) : n = 84 := by
  unfold parseHE at h
  split at h
  · exact absurd h (by decide)
  · split at h
    · next h2 => exact h2.2
    · exact absurd h (by decide)
end

section
open Go Go.RowKit

theorem mid_of {α : Type} {l pre mid post : List α} {i n : Nat} (h : l = pre ++ (mid ++ post)) (hp : pre.length = i) (hm : mid.length = n) : (l.drop i).take n = mid := by
  rw [h, List.drop_left' hp, List.take_left' hm]
theorem long8_mid {l pre post : List UInt8} {u : UInt64} {i : Nat} (h : l = pre ++ (longL u ++ post)) (hp : pre.length = i) : long8 l i = u.toNat := by
  rw [h, long8_apph pre (longL u) post i hp rfl, long8_longL pre u i hp]
theorem word4_mid {l pre post : List UInt8} {x : UInt32} {i : Nat} (h : l = pre ++ (octL x ++ post)) (hp : pre.length = i) : word4 l i = x := by
  rw [h, word4_app pre (octL x ++ post) _ _ _ _ post i hp rfl, word_octL]
theorem one_mid {l pre post : List UInt8} {x : UInt8} {i : Nat} (h : l = pre ++ (x :: post)) (hp : pre.length = i) : l[i]?.getD 0 = x := by
  rw [h, List.getElem?_append_right (by omega), hp, Nat.sub_self]; rfl

theorem print_parsedE {e : EntR} {w : World} (hw : e.Ok w) (h0 : entE e = 0) (B C : List UInt8) (q : Nat) (hB : B.length = q) :
    parseEP (B ++ (entO e ++ C)) (q : Int) = (e.p, ((q + 121 + e.bn : Nat) : Int), 0) := by
  obtain ⟨r1, r2, r3, r4, r5, r6, r7⟩ := entE_ok hw h0
  obtain ⟨L1, hL1⟩ : ∃ L1, UInt64.ofNat e.num.toNat = L1 := ⟨_, rfl⟩
  obtain ⟨L2, hL2⟩ : ∃ L2, UInt64.ofNat e.time.toNat = L2 := ⟨_, rfl⟩
  obtain ⟨x, hx⟩ : ∃ x, UInt8.ofNat e.act.toNat = x := ⟨_, rfl⟩
  obtain ⟨u, hu⟩ : ∃ u, UInt32.ofNat e.bn = u := ⟨_, rfl⟩
  obtain ⟨S, hS⟩ : ∃ S, entS e = S := ⟨_, rfl⟩
  have hSl : S.length = 32 := by rw [← hS]; exact entS_len e
  have hah : aheadL e = [75, 87, 69, 49] ++ longL L1 ++ longL L2 ++ [x] ++ e.actor ++ e.key ++ e.prev ++ octL u ++ e.body := by unfold aheadL; rw [hL1, hL2, hx, hu]
  have hahl := aheadL_len hw
  have hsum : sumL 3 (aheadL e) = S := by rw [← hS]; unfold entS; rw [if_pos h0]
  obtain ⟨l, hl⟩ : ∃ l, B ++ (entO e ++ C) = l := ⟨_, rfl⟩
  have e1 : l = B ++ (aheadL e ++ (S ++ C)) := by rw [← hl]; unfold entO; rw [hS]; simp
  have e2 := e1
  rw [hah] at e2
  have u8 : (longL L1).length = 8 := rfl
  have v8 : (longL L2).length = 8 := rfl
  have u4 : (octL u).length = 4 := rfl
  have ha := hw.ha
  have hk := hw.hk
  have hp := hw.hp
  have hb := hw.hb
  have n1 : L1.toNat = e.num.toNat := by rw [← hL1, UInt64.toNat_ofNat']; omega
  have n2 : L2.toNat = e.time.toNat := by rw [← hL2, UInt64.toNat_ofNat']; omega
  have n3 : x.toNat = e.act.toNat := by rw [← hx, UInt8.toNat_ofNat']; omega
  have n4 : u.toNat = e.bn := by rw [← hu, UInt32.toNat_ofNat']; omega
  have hll : l.length = q + 121 + e.bn + C.length := by rw [e1]; simp only [List.length_append, hahl, hSl, hB]; omega
  rw [hl]
  clear hL1 hL2 hx hu hl
  have f0 : (l.drop q).take 4 = [75, 87, 69, 49] := mid_of (pre := B) (post := longL L1 ++ longL L2 ++ [x] ++ e.actor ++ e.key ++ e.prev ++ octL u ++ e.body ++ (S ++ C)) (by rw [e2]; simp only [List.append_assoc]) hB rfl
  have f1 : long8 l (q + 4) = e.num.toNat := by
    rw [← n1]
    exact long8_mid (pre := B ++ [75, 87, 69, 49]) (post := longL L2 ++ [x] ++ e.actor ++ e.key ++ e.prev ++ octL u ++ e.body ++ (S ++ C)) (by rw [e2]; simp only [List.append_assoc]) (by simp [hB])
  have f2 : long8 l (q + 12) = e.time.toNat := by
    rw [← n2]
    exact long8_mid (pre := B ++ [75, 87, 69, 49] ++ longL L1) (post := [x] ++ e.actor ++ e.key ++ e.prev ++ octL u ++ e.body ++ (S ++ C)) (by rw [e2]; simp only [List.append_assoc]) (by simp [hB, u8])
  have f3 : l[q + 20]?.getD 0 = x := one_mid (pre := B ++ [75, 87, 69, 49] ++ longL L1 ++ longL L2) (post := e.actor ++ e.key ++ e.prev ++ octL u ++ e.body ++ (S ++ C)) (by rw [e2]; simp only [List.append_assoc, List.singleton_append, List.cons_append, List.nil_append]) (by simp [hB, u8, v8])
  have f4 : (l.drop (q + 21)).take 16 = e.actor := mid_of (pre := B ++ [75, 87, 69, 49] ++ longL L1 ++ longL L2 ++ [x]) (post := e.key ++ e.prev ++ octL u ++ e.body ++ (S ++ C)) (by rw [e2]; simp only [List.append_assoc]) (by simp [hB, u8, v8]) ha
  have f5 : (l.drop (q + 37)).take 16 = e.key := mid_of (pre := B ++ [75, 87, 69, 49] ++ longL L1 ++ longL L2 ++ [x] ++ e.actor) (post := e.prev ++ octL u ++ e.body ++ (S ++ C)) (by rw [e2]; simp only [List.append_assoc]) (by simp [hB, u8, v8, ha]) hk
  have f6 : (l.drop (q + 53)).take 32 = e.prev := mid_of (pre := B ++ [75, 87, 69, 49] ++ longL L1 ++ longL L2 ++ [x] ++ e.actor ++ e.key) (post := octL u ++ e.body ++ (S ++ C)) (by rw [e2]; simp only [List.append_assoc]) (by simp [hB, u8, v8, ha, hk]) hp
  have f7 : word4 l (q + 85) = u := word4_mid (pre := B ++ [75, 87, 69, 49] ++ longL L1 ++ longL L2 ++ [x] ++ e.actor ++ e.key ++ e.prev) (post := e.body ++ (S ++ C)) (by rw [e2]; simp only [List.append_assoc]) (by simp [hB, u8, v8, ha, hk, hp])
  have f8 : (l.drop (q + 89)).take e.bn = e.body := mid_of (pre := B ++ [75, 87, 69, 49] ++ longL L1 ++ longL L2 ++ [x] ++ e.actor ++ e.key ++ e.prev ++ octL u) (post := S ++ C) (by rw [e2]; simp only [List.append_assoc]) (by simp [hB, u8, v8, u4, ha, hk, hp]) hb
  have f9 : (l.drop q).take (89 + e.bn) = aheadL e := mid_of (pre := B) (post := S ++ C) e1 hB hahl
  have f10 : (l.drop (q + 89 + e.bn)).take 32 = S := mid_of (pre := B ++ aheadL e) (post := C) (by rw [e1]; simp only [List.append_assoc]) (by rw [List.length_append, hB, hahl]; omega) hSl
  clear e1 e2 hah
  have hbn : bodyN l q = e.bn := by unfold bodyN; rw [f7, n4]
  have hhc : headC l (q : Int) = 0 := by
    unfold headC
    rw [Int.toNat_natCast, if_neg (by omega), if_neg (by omega), f0, if_neg (by simp), hbn, if_neg (by omega)]
  have hent : entAt l q e.bn = e.p := by
    unfold entAt
    rw [f1, f2, f3, f4, f5, f6, f8, n3, w64_small (by omega), w64_small (by omega)]
    unfold EntR.p
    rw [show ((e.num.toNat : Nat) : Int) = e.num by omega, show ((e.time.toNat : Nat) : Int) = e.time by omega, show ((e.act.toNat : Nat) : Int) = e.act by omega]
  have hseal : sealB l q e.bn = true := by unfold sealB; rw [f9, f10, hsum]; exact beq_self_eq_true _
  have hep : entEP e.p = 0 := by rw [← entE_p]; exact h0
  unfold parseEP
  rw [Int.toNat_natCast, hbn, hhc, if_neg (by simp), if_neg (by omega), hseal, if_neg (by simp), hent, hep, if_pos rfl]
end

section
open Go Go.RowKit

set_option maxRecDepth 100000 in
set_option maxHeartbeats 1000000 in
theorem eqStrs_c (ls : List ByteArray) (a b : Option Addr) (n c d : Nat) (w : World) (hl : ls.length = n) (hn : n ≤ 140737488355328) (ha : Cells w a (ls.map encStr)) (hb : Cells w b (ls.map encStr)) :
    Calls Try.prog 88 #[.slice a n c, .slice b n d] w fun e w' => e = .returned (.bool true) ∧ Ext w w' := by
  have HL := hid hl
  have HA := hid ha
  have HB := hid hb
  clear hl ha hb
  go_enter Try.func88, Try.ntmps88
  go_wp2_with fail
  go_loopw [13] (fun i wr => ∃ k : Nat, k ≤ n ∧ i = .int .i64 (k : Int) ∧ Ext w wr) (fun i _ => n - (intOf i).toNat)
  case atStart => exact ⟨0, by omega, rfl, Ext.refl _⟩
  case round =>
    obtain ⟨k, hk, rfl, e1⟩ := hrel
    have E1 := hid e1
    clear e1
    by_cases hlt : k < n
    · have d1 : decide ((k : Int) < (n : Int)) = true := decide_eq_true (by omega)
      have d2 : decide (k < n) = true := decide_eq_true hlt
      have HL2 := HL.out
      obtain ⟨x, hxk⟩ : ∃ x, ls[k]? = some x := ⟨ls[k]'(by omega), List.getElem?_eq_getElem _⟩
      obtain ⟨A, rfl, hca⟩ := strs_at HA.out hxk
      obtain ⟨A2, rfl, hcb⟩ := strs_at HB.out hxk
      have CA := hid (cell_extU hca E1.out)
      have CB := hid (cell_extU hcb E1.out)
      clear hca hcb hxk HL2
      go_upto_region 6 with (fail)
      obtain ⟨C, hC⟩ : ∃ C : World → Prop, C = fun w' => Ext wr w' := ⟨_, rfl⟩
      have hC0 : ∀ w', C w' ↔ Ext wr w' := fun w' => by rw [hC]
      clear hC
      have HCC := hid hC0
      clear hC0
      have hCx : ∀ w w', C w → Ext w w' → C w' := fun w w' h1 h2 => (HCC.out w').2 (((HCC.out w).1 h1).ext h2)
      refine wp_region_held_drew (S := C) (by kernel_rfl) ((HCC.out _).2 (Ext.refl wr).drew) (fun hS0 => ?_)
      refine held_take 0 (v := ?tv211) rfl (by kernel_rfl) (by kernel_rfl) (by kernel_rfl) (fun _ _ _ h => h) (.inl ⟨rfl, ?ty211⟩) hS0 ?tr211
      case ty211 => (intro _ _; go_simp; try with_reducible rfl)
      case tr211 =>
      simp only [Act.put, List.setIfInBounds_toArray, List.set_cons_succ, List.set_cons_zero]
      refine held_take 1 (v := ?tv212) rfl (by kernel_rfl) (by kernel_rfl) (by kernel_rfl) (fun _ _ _ h => h) (.inl ⟨rfl, ?ty212⟩) hS0 ?tr212
      case ty212 => (intro _ _; go_simp; try with_reducible rfl)
      case tr212 =>
      simp only [Act.put, List.setIfInBounds_toArray, List.set_cons_succ, List.set_cons_zero]
      refine held_take 2 (v := _) rfl (by kernel_rfl) (by kernel_rfl) (by kernel_rfl) (fun _ _ _ h => h) (yieldsI_run rfl (fun w1 _ => exec_index (i := k) rfl rfl rfl Try.underlying69 size_str hlt w1)) hS0 ?_
      simp only [Act.put, List.setIfInBounds_toArray, List.set_cons_succ, List.set_cons_zero]
      refine held_take 3 (v := _) rfl (by kernel_rfl) (by kernel_rfl) (by kernel_rfl) (fun _ _ _ h => h) (yieldsI_run rfl (fun w1 h => exec_load_oneU rfl rfl (cell_extU CA.out ((HCC.out w1).1 h)) one_str)) hS0 ?_
      simp only [Act.put, List.setIfInBounds_toArray, List.set_cons_succ, List.set_cons_zero]
      refine held_take 4 (v := ?tv213) rfl (by kernel_rfl) (by kernel_rfl) (by kernel_rfl) (fun _ _ _ h => h) (.inl ⟨rfl, ?ty213⟩) hS0 ?tr213
      case ty213 => (intro _ _; go_simp; try with_reducible rfl)
      case tr213 =>
      simp only [Act.put, List.setIfInBounds_toArray, List.set_cons_succ, List.set_cons_zero]
      refine held_take 5 (v := ?tv214) rfl (by kernel_rfl) (by kernel_rfl) (by kernel_rfl) (fun _ _ _ h => h) (.inl ⟨rfl, ?ty214⟩) hS0 ?tr214
      case ty214 => (intro _ _; go_simp; try with_reducible rfl)
      case tr214 =>
      simp only [Act.put, List.setIfInBounds_toArray, List.set_cons_succ, List.set_cons_zero]
      refine held_take 6 (v := _) rfl (by kernel_rfl) (by kernel_rfl) (by kernel_rfl) (fun _ _ _ h => h) (yieldsI_run rfl (fun w1 _ => exec_index (i := k) rfl rfl rfl Try.underlying69 size_str hlt w1)) hS0 ?_
      simp only [Act.put, List.setIfInBounds_toArray, List.set_cons_succ, List.set_cons_zero]
      refine held_take 7 (v := _) rfl (by kernel_rfl) (by kernel_rfl) (by kernel_rfl) (fun _ _ _ h => h) (yieldsI_run rfl (fun w1 h => exec_load_oneU rfl rfl (cell_extU CB.out ((HCC.out w1).1 h)) one_str)) hS0 ?_
      simp only [Act.put, List.setIfInBounds_toArray, List.set_cons_succ, List.set_cons_zero]
      refine held_take 8 (v := ?tv215) rfl (by kernel_rfl) (by kernel_rfl) (by kernel_rfl) (fun _ _ _ h => h) (.inl ⟨rfl, ?ty215⟩) hS0 ?tr215
      case ty215 => (intro _ _; go_simp; try with_reducible rfl)
      case tr215 =>
      simp only [Act.put, List.setIfInBounds_toArray, List.set_cons_succ, List.set_cons_zero]
      refine wpAnyH_done (by kernel_rfl) ?_ _
      have hqx := (HCC.out _).1 hS0
      go_wp2_with fail
      go_roundw
      case rel => exact ⟨k + 1, by omega, by go_num, E1.out.ext hqx⟩
      case measure => simp [intOf]; omega
    · have d1 : decide ((k : Int) < (n : Int)) = false := decide_eq_false (by omega)
      have d2 : decide (k < n) = false := decide_eq_false hlt
      go_wp2_with fail
      go_ret
      exact ⟨rfl, E1.out⟩

theorem neq_self_id (x : List UInt8) (hx : x.length = 16) (w : World) : (binOp .neq 68 (.agg (x.map u8v).toArray) (.agg (x.map u8v).toArray)).run Try.prog w = .ok (.bool false) w := by
  have h := neq_arr Try.underlying68 x x hx hx w
  rw [beq_self_eq_true] at h; exact h

set_option maxRecDepth 100000 in
set_option maxHeartbeats 1000000 in
theorem eqIds_c (ls : List (List UInt8)) (a b : Option Addr) (n c d : Nat) (w : World) (hl : ls.length = n) (hn : n ≤ 140737488355328) (h16 : All16 ls) (ha : Cells w a (rows ls)) (hb : Cells w b (rows ls)) :
    Calls Try.prog 89 #[.slice a n c, .slice b n d] w fun e w' => e = .returned (.bool true) ∧ Ext w w' := by
  have HL := hid hl
  have HA := hid ha
  have HB := hid hb
  clear hl ha hb
  go_enter Try.func89, Try.ntmps89
  go_wp2_with fail
  go_loopw [13] (fun i wr => ∃ k : Nat, k ≤ n ∧ i = .int .i64 (k : Int) ∧ Ext w wr) (fun i _ => n - (intOf i).toNat)
  case atStart => exact ⟨0, by omega, rfl, Ext.refl _⟩
  case round =>
    obtain ⟨k, hk, rfl, e1⟩ := hrel
    have E1 := hid e1
    clear e1
    by_cases hlt : k < n
    · have d1 : decide ((k : Int) < (n : Int)) = true := decide_eq_true (by omega)
      have d2 : decide (k < n) = true := decide_eq_true hlt
      have HL2 := HL.out
      obtain ⟨x, hxk⟩ : ∃ x, ls[k]? = some x := ⟨ls[k]'(by omega), List.getElem?_eq_getElem _⟩
      have hx := h16 x (List.mem_of_getElem? hxk)
      obtain ⟨A, rfl, hra⟩ := row16_at HA.out h16 hxk
      obtain ⟨A2, rfl, hrb⟩ := row16_at HB.out h16 hxk
      have CA := hid ((hra k x hxk).ext E1.out)
      have CB := hid ((hrb k x hxk).ext E1.out)
      have HXL := hid (show (x.map u8v).length = 16 by rw [List.length_map]; exact hx)
      have NE := hid (neq_self_id x hx)
      clear hra hrb hxk HL2 hx
      go_upto_region 6 with (fail)
      obtain ⟨C, hC⟩ : ∃ C : World → Prop, C = fun w' => Ext wr w' := ⟨_, rfl⟩
      have hC0 : ∀ w', C w' ↔ Ext wr w' := fun w' => by rw [hC]
      clear hC
      have HCC := hid hC0
      clear hC0
      have hCx : ∀ w w', C w → Ext w w' → C w' := fun w w' h1 h2 => (HCC.out w').2 (((HCC.out w).1 h1).ext h2)
      refine wp_region_held_drew (S := C) (by kernel_rfl) ((HCC.out _).2 (Ext.refl wr).drew) (fun hS0 => ?_)
      refine held_take 0 (v := ?tv216) rfl (by kernel_rfl) (by kernel_rfl) (by kernel_rfl) (fun _ _ _ h => h) (.inl ⟨rfl, ?ty216⟩) hS0 ?tr216
      case ty216 => (intro _ _; go_simp; try with_reducible rfl)
      case tr216 =>
      simp only [Act.put, List.setIfInBounds_toArray, List.set_cons_succ, List.set_cons_zero]
      refine held_take 1 (v := ?tv217) rfl (by kernel_rfl) (by kernel_rfl) (by kernel_rfl) (fun _ _ _ h => h) (.inl ⟨rfl, ?ty217⟩) hS0 ?tr217
      case ty217 => (intro _ _; go_simp; try with_reducible rfl)
      case tr217 =>
      simp only [Act.put, List.setIfInBounds_toArray, List.set_cons_succ, List.set_cons_zero]
      refine held_take 2 (v := _) rfl (by kernel_rfl) (by kernel_rfl) (by kernel_rfl) (fun _ _ _ h => h) (yieldsI_run rfl (fun w1 _ => exec_index (i := k) rfl rfl rfl Try.underlying70 size_id hlt w1)) hS0 ?_
      simp only [Act.put, List.setIfInBounds_toArray, List.set_cons_succ, List.set_cons_zero]
      refine held_take 3 (v := _) rfl (by kernel_rfl) (by kernel_rfl) (by kernel_rfl) (fun _ _ _ h => h) (yieldsI_run rfl (fun w1 h => exec_load_at rfl rfl (CA.out.ext ((HCC.out w1).1 h)) agg_id HXL.out)) hS0 ?_
      simp only [Act.put, List.setIfInBounds_toArray, List.set_cons_succ, List.set_cons_zero]
      refine held_take 4 (v := ?tv218) rfl (by kernel_rfl) (by kernel_rfl) (by kernel_rfl) (fun _ _ _ h => h) (.inl ⟨rfl, ?ty218⟩) hS0 ?tr218
      case ty218 => (intro _ _; go_simp; try with_reducible rfl)
      case tr218 =>
      simp only [Act.put, List.setIfInBounds_toArray, List.set_cons_succ, List.set_cons_zero]
      refine held_take 5 (v := ?tv219) rfl (by kernel_rfl) (by kernel_rfl) (by kernel_rfl) (fun _ _ _ h => h) (.inl ⟨rfl, ?ty219⟩) hS0 ?tr219
      case ty219 => (intro _ _; go_simp; try with_reducible rfl)
      case tr219 =>
      simp only [Act.put, List.setIfInBounds_toArray, List.set_cons_succ, List.set_cons_zero]
      refine held_take 6 (v := _) rfl (by kernel_rfl) (by kernel_rfl) (by kernel_rfl) (fun _ _ _ h => h) (yieldsI_run rfl (fun w1 _ => exec_index (i := k) rfl rfl rfl Try.underlying70 size_id hlt w1)) hS0 ?_
      simp only [Act.put, List.setIfInBounds_toArray, List.set_cons_succ, List.set_cons_zero]
      refine held_take 7 (v := _) rfl (by kernel_rfl) (by kernel_rfl) (by kernel_rfl) (fun _ _ _ h => h) (yieldsI_run rfl (fun w1 h => exec_load_at rfl rfl (CB.out.ext ((HCC.out w1).1 h)) agg_id HXL.out)) hS0 ?_
      simp only [Act.put, List.setIfInBounds_toArray, List.set_cons_succ, List.set_cons_zero]
      refine held_take 8 (v := _) rfl (by kernel_rfl) (by kernel_rfl) (by kernel_rfl) (fun _ _ _ h => h) (yieldsI_run rfl (fun w1 _ => exec_cmpE rfl rfl rfl guard_id NE.out w1)) hS0 ?_
      simp only [Act.put, List.setIfInBounds_toArray, List.set_cons_succ, List.set_cons_zero]
      refine wpAnyH_done (by kernel_rfl) ?_ _
      have hqx := (HCC.out _).1 hS0
      go_wp2_with fail
      go_roundw
      case rel => exact ⟨k + 1, by omega, by go_num, E1.out.ext hqx⟩
      case measure => simp [intOf]; omega
    · have d1 : decide ((k : Int) < (n : Int)) = false := decide_eq_false (by omega)
      have d2 : decide (k < n) = false := decide_eq_false hlt
      go_wp2_with fail
      go_ret
      exact ⟨rfl, E1.out⟩
end

section
open Go Go.RowKit

theorem eq_self_arr {t : TypeId} {n : Nat} (ht : Try.prog.underlying t = some (.array n 5)) (x : List UInt8) (hx : x.length = n) (w : World) : (binOp .eql t (.agg (x.map u8v).toArray) (.agg (x.map u8v).toArray)).run Try.prog w = .ok (.bool true) w := by
  have h := eq_arr ht x x hx hx w
  rw [beq_self_eq_true] at h; exact h

set_option maxRecDepth 100000 in
set_option maxHeartbeats 4000000 in
theorem sameBody_c (x y : BodyR) (w : World) (hx : x.Ok w) (hy : y.Ok w) (hp : x.p = y.p) :
    Calls Try.prog 40 #[.agg x.v.toArray, .agg y.v.toArray] w fun e w' => e = .returned (.bool true) ∧ Ext w w' := by
  have p0 : y.text = x.text := (congrArg BodyP.text hp).symm
  have p1 : y.member = x.member := (congrArg BodyP.member hp).symm
  have p2 : y.roles = x.roles := (congrArg BodyP.roles hp).symm
  have p3 : y.label = x.label := (congrArg BodyP.label hp).symm
  have p4 : y.commit = x.commit := (congrArg BodyP.commit hp).symm
  have p5 : y.epoch = x.epoch := (congrArg BodyP.epoch hp).symm
  have p6 : y.purpose = x.purpose := (congrArg BodyP.purpose hp).symm
  have p7 : y.reason = x.reason := (congrArg BodyP.reason hp).symm
  have p8 : y.need = x.need := (congrArg BodyP.need hp).symm
  have p9 : y.holders = x.holders := (congrArg BodyP.holders hp).symm
  have p10 : y.version = x.version := (congrArg BodyP.version hp).symm
  have p11 : y.count = x.count := (congrArg BodyP.count hp).symm
  have hn : y.rn = x.rn := by rw [← hx.rl, ← hy.rl, p2]
  have hh : y.hn = x.hn := by rw [← hx.hl, ← hy.hl, p9]
  have HX := hid hx
  have HY := hid hy
  clear hx hy hp
  have s1 : (x.text.toList == x.text.toList) = true := beq_self_eq_true _
  have s2 : (x.label.toList == x.label.toList) = true := beq_self_eq_true _
  have s3 : (x.epoch == x.epoch) = true := beq_self_eq_true _
  have s4 : (x.purpose == x.purpose) = true := beq_self_eq_true _
  have s5 : (x.reason == x.reason) = true := beq_self_eq_true _
  have s6 : (x.need == x.need) = true := beq_self_eq_true _
  have s7 : (x.version == x.version) = true := beq_self_eq_true _
  have s8 : (x.count == x.count) = true := beq_self_eq_true _
  go_enter Try.func40, Try.ntmps40
  go_upto_region 1 with (fail)
  generalize hwA : World.alloc (World.alloc w _) _ = wA
  have xA : Blk wA w.heap.size x.v 72 := by rw [← hwA]; exact (Blk.mk_alloc rfl rfl).alloc _
  have yA : Blk wA (w.heap.size + 1) y.v 72 := by rw [← hwA]; exact Blk.mk_alloc (size_alloc _ _).symm rfl
  have eA : Ext w wA := by rw [← hwA]; exact ((Ext.refl w).alloc _).alloc _
  have HXA := hid (HX.out.ext eA)
  have HYA := hid (HY.out.ext eA)
  have EA := hid eA
  have XA := hid xA
  have YA := hid yA
  clear hwA xA yA eA
  simp only [List.append_eq, List.cons_append, List.nil_append]
  have x0 := XA.out.cell' (BodyR.at0 x)
  have x18 := XA.out.cell' (BodyR.at18 HX.out)
  have y0 := YA.out.cell' (BodyR.at0 y)
  have y18 := YA.out.cell' (BodyR.at18 HY.out)
  have x17 := XA.out.cell' (BodyR.at17 HX.out)
  have y17 := YA.out.cell' (BodyR.at17 HY.out)
  rw [p0] at y0
  rw [p3] at y18
  rw [hn] at y17
  have CXM := hid (BodyR.memb HXA.out XA.out)
  have cym := BodyR.memb HYA.out YA.out
  rw [p1] at cym
  have CYM := hid cym
  have hm16 := HX.out.hm
  have HML := hid (show (x.member.map u8v).length = 16 by rw [List.length_map]; exact hm16)
  have HCL := hid (show (x.commit.map u8v).length = 32 by rw [List.length_map]; exact HX.out.hcm)
  have EQM := hid (eq_self_arr Try.underlying68 x.member hm16)
  have EQC := hid (eq_self_arr Try.underlying32 x.commit HX.out.hcm)
  have hcr := HYA.out.rcell
  have hch := HYA.out.hcell
  rw [p2] at hcr
  rw [p9] at hch
  have HCR := hid hcr
  have HCH := hid hch
  have P4 := hid p4
  have P3 := hid p3
  have P5 := hid p5
  have P6 := hid p6
  have P7 := hid p7
  have P8 := hid p8
  have P10 := hid p10
  have P11 := hid p11
  have HH := hid hh
  clear p0 p1 p2 p3 p4 p5 p6 p7 p8 p9 p10 p11 hn hh cym hm16 hcr hch
  go_wp2_with (first | (refine wpg_run rfl (exec_load_at rfl rfl CXM.out agg_id HML.out) ?_) | (refine wpg_run rfl (exec_load_at rfl rfl CYM.out agg_id HML.out) ?_) | (refine wpg_run rfl (exec_cmpE rfl rfl rfl guard_id EQM.out _) ?_))
  refine (eqStrs_c x.roles x.ra y.ra x.rn x.rc y.rc wA HX.out.rl HX.out.rm HXA.out.rcell HCR.out).mono ?_
  rintro e wB ⟨rfl, eB⟩
  have XB := hid (XA.out.ext eB)
  have YB := hid (YA.out.ext eB)
  have EB := hid (EA.out.ext eB)
  have HXB := hid (HXA.out.ext eB)
  have HYB := hid (HYA.out.ext eB)
  have hchB := HCH.out.ext eB
  have HCHB := hid hchB
  clear eB x0 y0 x17 y17 x18 y18 XA YA EA HCR HCH hchB
  have x18 := XB.out.cell' (BodyR.at18 HX.out)
  have x51 := XB.out.cell' (BodyR.at51 HX.out)
  have x52 := XB.out.cell' (BodyR.at52 HX.out)
  have x53 := XB.out.cell' (BodyR.at53 HX.out)
  have x54 := XB.out.cell' (BodyR.at54 HX.out)
  have x55 := XB.out.cell' (BodyR.at55 HX.out)
  have x56 := XB.out.cell' (BodyR.at56 HX.out)
  have x57 := XB.out.cell' (BodyR.at57 HX.out)
  have y18 := YB.out.cell' (BodyR.at18 HY.out)
  have y51 := YB.out.cell' (BodyR.at51 HY.out)
  have y52 := YB.out.cell' (BodyR.at52 HY.out)
  have y53 := YB.out.cell' (BodyR.at53 HY.out)
  have y54 := YB.out.cell' (BodyR.at54 HY.out)
  have y55 := YB.out.cell' (BodyR.at55 HY.out)
  have y56 := YB.out.cell' (BodyR.at56 HY.out)
  have y57 := YB.out.cell' (BodyR.at57 HY.out)
  rw [P5.out] at y51
  rw [P6.out] at y52
  rw [P7.out] at y53
  rw [P8.out] at y54
  rw [P10.out] at y55
  rw [P11.out] at y56
  rw [HH.out] at y57
  have CXC := hid (BodyR.comm HXB.out XB.out)
  have cyc := BodyR.comm HYB.out YB.out
  rw [P4.out] at cyc
  have CYC := hid cyc
  clear cyc
  have hlab := P3.out
  rw [hlab] at y18
  clear hlab
  go_wp2_with (first | (refine wpg_run rfl (exec_load_at rfl rfl CXC.out agg_apisum HCL.out) ?_) | (refine wpg_run rfl (exec_load_at rfl rfl CYC.out agg_apisum HCL.out) ?_) | (refine wpg_run rfl (exec_cmpE rfl rfl rfl guard_sum EQC.out _) ?_))
  refine (eqIds_c x.holders x.ha y.ha x.hn x.hc y.hc wB HX.out.hl HX.out.hcmax HX.out.h16 HXB.out.hcell HCHB.out).mono ?_
  rintro e wC ⟨rfl, eC⟩
  have EC := hid (EB.out.ext eC)
  clear eC
  go_wp2_with fail
  go_ret
  exact ⟨rfl, EC.out⟩
end

section
open Go Go.RowKit

set_option maxRecDepth 100000 in
set_option maxHeartbeats 4000000 in
theorem sameEntry_c (x y : EntR) (w : World) (hx : x.Ok w) (hy : y.Ok w) (hp : x.p = y.p) :
    Calls Try.prog 46 #[.agg x.v.toArray, .agg y.v.toArray] w fun e w' => e = .returned (.bool true) ∧ Ext w w' := by
  have p0 : y.num = x.num := (congrArg EntP.num hp).symm
  have p1 : y.time = x.time := (congrArg EntP.time hp).symm
  have p2 : y.act = x.act := (congrArg EntP.act hp).symm
  have p3 : y.actor = x.actor := (congrArg EntP.actor hp).symm
  have p4 : y.key = x.key := (congrArg EntP.key hp).symm
  have p5 : y.prev = x.prev := (congrArg EntP.prev hp).symm
  have p6 : y.body = x.body := (congrArg EntP.body hp).symm
  have HX := hid hx
  have HY := hid hy
  clear hx hy hp
  have s0 : (x.num == x.num) = true := beq_self_eq_true _
  have s1 : (x.time == x.time) = true := beq_self_eq_true _
  have s2 : (x.act == x.act) = true := beq_self_eq_true _
  have s3 : (x.body == x.body) = true := beq_self_eq_true _
  go_enter Try.func46, Try.ntmps46
  go_upto_region 1 with (fail)
  generalize hwA : World.alloc (World.alloc w _) _ = wA
  have xA : Blk wA w.heap.size x.v 79 := by rw [← hwA]; exact (Blk.mk_alloc rfl rfl).alloc _
  have yA : Blk wA (w.heap.size + 1) y.v 79 := by rw [← hwA]; exact Blk.mk_alloc (size_alloc _ _).symm rfl
  have eA : Ext w wA := by rw [← hwA]; exact ((Ext.refl w).alloc _).alloc _
  have EA := hid eA
  have HXA := hid (HX.out.ext eA)
  have HYA := hid (HY.out.ext eA)
  have XA := hid xA
  have YA := hid yA
  clear hwA xA yA eA
  have x0 := XA.out.cell' (EntR.at0 x)
  have x1 := XA.out.cell' (EntR.at1 x)
  have x2 := XA.out.cell' (EntR.at2 x)
  have x67 := XA.out.cell' (EntR.at67 HX.out)
  have y0 := YA.out.cell' (EntR.at0 y)
  have y1 := YA.out.cell' (EntR.at1 y)
  have y2 := YA.out.cell' (EntR.at2 y)
  have y67 := YA.out.cell' (EntR.at67 HY.out)
  rw [p0] at y0
  rw [p1] at y1
  rw [p2] at y2
  have cat3 : ∀ (e : EntR) (g : Nat), e.Ok w → Blk wA g e.v 79 → CellsAt wA ⟨g, 3, none⟩ (e.actor.map u8v) ∧ CellsAt wA ⟨g, 19, none⟩ (e.key.map u8v) ∧ CellsAt wA ⟨g, 35, none⟩ (e.prev.map u8v) := by
    intro e g he hb
    have h1 := Cells.of_blk hb 3 16
    have h2 := Cells.of_blk hb 19 16
    have h3 := Cells.of_blk hb 35 32
    rw [EntR.actor_at he] at h1
    rw [EntR.key_at he] at h2
    rw [EntR.prev_at he] at h3
    exact ⟨CellsAt.of h1, CellsAt.of h2, CellsAt.of h3⟩
  have X3 := hid (cat3 x _ HX.out XA.out)
  have y3 := cat3 y _ HY.out YA.out
  rw [p3, p4, p5] at y3
  have Y3 := hid y3
  have L1 := hid (show (x.actor.map u8v).length = 16 by rw [List.length_map, HX.out.ha])
  have L2 := hid (show (x.key.map u8v).length = 16 by rw [List.length_map, HX.out.hk])
  have L3 := hid (show (x.prev.map u8v).length = 32 by rw [List.length_map, HX.out.hp])
  have Q1 := hid (eq_self_arr Try.underlying68 x.actor HX.out.ha)
  have Q2 := hid (eq_self_arr Try.underlying68 x.key HX.out.hk)
  have Q3 := hid (eq_self_arr Try.underlying32 x.prev HX.out.hp)
  have CBX := hid HXA.out.hcl
  have cby := HYA.out.hcl
  have hyb := HYA.out.hb
  rw [p6] at cby hyb
  have CBY := hid cby
  have HYB := hid hyb
  clear y3 cat3 cby hyb p0 p1 p2 p3 p4 p5 p6
  go_wp2_with (first | (refine wpg_run rfl (exec_load_at rfl rfl X3.out.1 agg_id L1.out) ?_) | (refine wpg_run rfl (exec_load_at rfl rfl Y3.out.1 agg_id L1.out) ?_) | (refine wpg_run rfl (exec_load_at rfl rfl X3.out.2.1 agg_id L2.out) ?_) | (refine wpg_run rfl (exec_load_at rfl rfl Y3.out.2.1 agg_id L2.out) ?_) | (refine wpg_run rfl (exec_load_at rfl rfl X3.out.2.2 agg_es L3.out) ?_) | (refine wpg_run rfl (exec_load_at rfl rfl Y3.out.2.2 agg_es L3.out) ?_) | (refine wpg_run rfl (exec_cmpE rfl rfl rfl guard_id Q1.out _) ?_) | (refine wpg_run rfl (exec_cmpE rfl rfl rfl guard_id Q2.out _) ?_) | (refine wpg_run rfl (exec_cmpE rfl rfl rfl guard_es Q3.out _) ?_))
  refine (equal_c x.body x.body x.ba y.ba x.bn y.bn x.bc y.bc wA HX.out.hb.symm HYB.out.symm CBX.out CBY.out).mono ?_
  rintro e wB ⟨rfl, hww⟩
  rw [← hww]
  clear hww wB
  go_wp2_with fail
  go_ret
  exact ⟨rfl, EA.out⟩
end

section
open Go Go.RowKit


set_option maxRecDepth 100000 in
set_option maxHeartbeats 4000000 in
theorem entriesMatch_c (e : EntR) (lb lc : List UInt8) (ab ac : Option Addr) (nb cb nc cc : Nat) (w : World) (he : e.Ok w) (hlb : lb.length = nb) (hlc : lc.length = nc) (hnb : nb ≤ cb) (hnc : nc ≤ cc) (hn0 : ab = none → cb = 0) (hn1 : ac = none → cc = 0) (hs : nb + nc ≤ 140737488000000) (hb : Cells w ab (lb.map u8v)) (hc : Cells w ac (lc.map u8v)) :
    Calls Try.prog 8 #[.agg e.v.toArray, .slice ab nb cb, .slice ac nc cc] w fun x w' => x = .returned (.bool true) ∧ Ext w w' := by
  have HE := hid he
  have HLB := hid hlb
  have HLC := hid hlc
  have HB := hid hb
  have HC := hid hc
  have HN0 := hid hn0
  have HN1 := hid hn1
  have HLEN := hid (EntR.len he)
  have hpr := hid (fun w' h => printEntry_c e w' h)
  have hrp := hid (fun w' h => rprintEntry_c e w' h)
  have hes := hid (fun w' h => entrySum_c e w' h)
  have hsl := entS_len e
  have hrs := hid (fun w' h h0 => rentrySum_c e w' h h0)
  have hpp := hid (fun h0 => print_parsedE he h0 lb lc nb hlb)
  have hol := entO_len he
  unfold prPost at hpr hrp
  obtain ⟨E, hEE⟩ : ∃ E, entE e = E := ⟨_, rfl⟩
  have hz : E ≠ 0 → entS e = List.replicate 32 0 := fun h => by unfold entS; rw [hEE, if_neg h]
  have hbm : E = 0 → e.bn ≤ 32768 := fun h => (entE_ok he (hEE.trans h)).2.2.2.2.2.2
  rw [hEE] at hpr hrp hes hrs hpp
  obtain ⟨S, hS⟩ : ∃ S, entS e = S := ⟨_, rfl⟩
  rw [hS] at hes hrs hsl hz
  obtain ⟨O, hO⟩ : ∃ O, entO e = O := ⟨_, rfl⟩
  rw [hO] at hpr hrp hpp hol
  obtain ⟨M, hM⟩ : ∃ M, 121 + e.bn = M := ⟨_, rfl⟩
  rw [hM] at hpr hrp hol
  have HM := hid hM
  have HBM := hid hbm
  have HSL := hid (show (S.map u8v).length = 32 by rw [List.length_map, hsl])
  have HZ := hid hz
  have HOL := hid hol
  have hnq := hid (fun w' => neq_arr Try.underlying32 S S hsl hsl w')
  have hsz := hid hsl
  have oS := one_u8 S
  clear he hlb hlc hb hc hn0 hn1 hEE hS hO hM hbm hz hol hsl
  go_enter Try.func8, Try.ntmps8
  go_upto_region 1 with (fail)
  generalize hwA : World.alloc w _ = wA
  have bA : Blk wA w.heap.size e.v 79 := by rw [← hwA]; exact Blk.mk_alloc rfl rfl
  have eA : Ext w wA := by rw [← hwA]; exact (Ext.refl w).alloc _
  have BA := hid bA
  have EA := hid eA
  clear hwA bA eA
  go_wp2_with fail
  refine (landed_c wA).mono ?_
  rintro x wB ⟨rfl, eB⟩
  have BB := hid (BA.out.ext eB)
  have EB := hid (EA.out.ext eB)
  clear eB BA EA
  go_wp2_with (refine wpl_loadw rfl 79 (.tmp 3) rfl rfl BB.out agg_ent HLEN.out ?_)
  refine (hpr.out wB (HE.out.ext EB.out)).mono ?_
  rintro x wC ⟨eC, h3⟩
  have BC := hid (BB.out.ext eC)
  have EC := hid (EB.out.ext eC)
  clear eC BB EB
  clear hpr
  by_cases hE : E = 0
  rotate_left
  · have hx : x = .returned (.tuple #[.slice none 0 0, .int .i64 E]) := (h3.resolve_left (fun h => hE h.1)).2
    subst hx
    have d1 : (E != E) = false := by simp
    have d2 : (E != 0) = true := by simpa using hE
    have HE0 := hid hE
    clear h3 hE
    go_wp2_with (refine wpl_loadw rfl 79 (.tmp 3) rfl rfl BC.out agg_ent HLEN.out ?_)
    refine (hrp.out wC (HE.out.ext EC.out)).mono ?_
    rintro x wD ⟨eD, h4⟩
    have hx : x = .returned (.tuple #[.slice none 0 0, .int .i64 E]) := (h4.resolve_left (fun h => HE0.out h.1)).2
    subst hx
    have BD := hid (BC.out.ext eD)
    have ED := hid (EC.out.ext eD)
    clear eD BC EC
    clear h4 hrp
    go_wp2_with (refine wpl_loadw rfl 79 (.tmp 3) rfl rfl BD.out agg_ent HLEN.out ?_)
    refine (hes.out wD (HE.out.ext ED.out)).mono ?_
    rintro x wF ⟨rfl, eF⟩
    have BF := hid (BD.out.ext eF)
    have EF := hid (ED.out.ext eF)
    clear eF BD ED
    clear hes
    go_wp2_with (refine wpl_storew rfl _ _ _ rfl rfl rfl (Blk.mk_alloc (vs := List.replicate 32 (.int .u8 0)) rfl rfl) agg_es (by simp) HSL.out oS ?_)
    intro wG bG uG
    have eG : Ext wF wG := uG.ext ((Ext.refl wF).alloc _) (Nat.le_refl _)
    have SG := hid bG
    have BG := hid (BF.out.ext eG)
    have EG := hid (EF.out.ext eG)
    clear eG BF EF
    clear uG bG
    obtain ⟨gs, hgs⟩ : ∃ gs, wF.heap.size = gs := ⟨_, rfl⟩
    rw [hgs] at SG ⊢
    clear hgs
    go_wp2_with fail
    refine (equal_c [] [] none none 0 0 0 0 wG rfl rfl (.inl rfl) (.inl rfl)).mono ?_
    rintro x wH ⟨rfl, hww⟩
    rw [← hww]
    clear hww wH
    have hS0 : (S.map u8v).toArray = #[.int .u8 0, .int .u8 0, .int .u8 0, .int .u8 0, .int .u8 0, .int .u8 0, .int .u8 0, .int .u8 0, .int .u8 0, .int .u8 0, .int .u8 0, .int .u8 0, .int .u8 0, .int .u8 0, .int .u8 0, .int .u8 0, .int .u8 0, .int .u8 0, .int .u8 0, .int .u8 0, .int .u8 0, .int .u8 0, .int .u8 0, .int .u8 0, .int .u8 0, .int .u8 0, .int .u8 0, .int .u8 0, .int .u8 0, .int .u8 0, .int .u8 0, .int .u8 0] := by rw [HZ.out HE0.out]; rfl
    have hqz := hid (fun w' => show (binOp .eql 32 (.agg (S.map u8v).toArray) (.agg #[.int .u8 0, .int .u8 0, .int .u8 0, .int .u8 0, .int .u8 0, .int .u8 0, .int .u8 0, .int .u8 0, .int .u8 0, .int .u8 0, .int .u8 0, .int .u8 0, .int .u8 0, .int .u8 0, .int .u8 0, .int .u8 0, .int .u8 0, .int .u8 0, .int .u8 0, .int .u8 0, .int .u8 0, .int .u8 0, .int .u8 0, .int .u8 0, .int .u8 0, .int .u8 0, .int .u8 0, .int .u8 0, .int .u8 0, .int .u8 0, .int .u8 0, .int .u8 0])).run Try.prog w' = .ok (.bool true) w' from by
      have h := eq_self_arr Try.underlying32 S hsz.out w'
      rw [hS0] at h ⊢
      exact h)
    clear hS0
    go_wp2_with (first | (refine wpl_loadw rfl 32 (.tmp 11) rfl rfl SG.out agg_es HSL.out ?_) | (refine wpl_run rfl (exec_cmpE rfl rfl rfl guard_es hqz.out _) ?_))
    go_ret
    exact ⟨rfl, EG.out⟩
  subst hE
  obtain ⟨-, v3, hx, own3⟩ := h3.resolve_right (fun h => h.1 rfl)
  subst hx
  obtain ⟨a3, c3, rfl, hnc3, hcm3, hn03, hcl3⟩ := own_slice own3
  have HC3 := hid hcl3
  have HN3 := hid hn03
  clear own3 hcl3 h3 hn03
  go_wp2_with (refine wpl_loadw rfl 79 (.tmp 3) rfl rfl BC.out agg_ent HLEN.out ?_)
  refine (hrp.out wC (HE.out.ext EC.out)).mono ?_
  rintro x wD ⟨eD, h4⟩
  obtain ⟨-, v4, hx, own4⟩ := h4.resolve_right (fun h => h.1 rfl)
  subst hx
  obtain ⟨a4, c4, rfl, hnc4, hcm4, hn04, hcl4⟩ := own_slice own4
  have HC4 := hid hcl4
  have HC3D := hid (HC3.out.ext eD)
  have BD := hid (BC.out.ext eD)
  have ED := hid (EC.out.ext eD)
  clear eD BC EC
  clear h4 hrp own4 hcl4 HC3 hn04
  go_wp2_with (refine wpl_loadw rfl 79 (.tmp 3) rfl rfl BD.out agg_ent HLEN.out ?_)
  refine (hes.out wD (HE.out.ext ED.out)).mono ?_
  rintro x wF ⟨rfl, eF⟩
  have HC3F := hid (HC3D.out.ext eF)
  have HC4F := hid (HC4.out.ext eF)
  have BF := hid (BD.out.ext eF)
  have EF := hid (ED.out.ext eF)
  clear eF BD ED
  clear hes HC3D HC4
  go_wp2_with (refine wpl_storew rfl _ _ _ rfl rfl rfl (Blk.mk_alloc (vs := List.replicate 32 (.int .u8 0)) rfl rfl) agg_es (by simp) HSL.out oS ?_)
  intro wG bG uG
  have eG : Ext wF wG := uG.ext ((Ext.refl wF).alloc _) (Nat.le_refl _)
  have SG := hid bG
  have HC3G := hid (HC3F.out.ext eG)
  have HC4G := hid (HC4F.out.ext eG)
  have BG := hid (BF.out.ext eG)
  have EG := hid (EF.out.ext eG)
  clear eG BF EF
  clear uG bG HC3F HC4F
  obtain ⟨gs, hgs⟩ : ∃ gs, wF.heap.size = gs := ⟨_, rfl⟩
  rw [hgs] at SG ⊢
  clear hgs
  go_wp2_with fail
  refine (equal_c O O a3 a4 M M c3 c4 wG HOL.out.symm HOL.out.symm HC3G.out HC4G.out).mono ?_
  rintro x wH ⟨rfl, hww⟩
  rw [← hww, beq_self_eq_true]
  clear hww wH HC4G
  go_upto_region 10 with (fail)
  obtain ⟨C, hC⟩ : ∃ C : World → Prop, C = Cls wG wG [] [] := ⟨_, rfl⟩
  have hC0 : ∀ w', C w' ↔ Cls wG wG [] [] w' := fun w' => by rw [hC]
  clear hC
  have HCC := hid hC0
  clear hC0
  have hCx : ∀ w w', C w → Ext w w' → C w' := fun w w' h1 h2 => (HCC.out w').2 (((HCC.out w).1 h1).ext h2)
  have hCA : C wG := (HCC.out _).2 (Cls.no_room (Ext.refl _) (Kept.none _))
  have hk0 : ∀ w1, C w1 → Blk w1 gs (S.map u8v) 32 := fun w1 h1 => SG.out.ext ((HCC.out w1).1 h1).base
  have hk1 : ∀ w1, C w1 → Blk w1 w.heap.size e.v 79 := fun w1 h1 => BG.out.ext ((HCC.out w1).1 h1).base
  refine wp_region_held_drew (S := C) (by kernel_rfl) (hCx _ _ hCA (Ext.refl _).drew) (fun hS0 => ?_)
  refine held_take 0 (v := _) rfl (by kernel_rfl) (by kernel_rfl) (by kernel_rfl) (fun _ _ _ h => h) (yieldsI_loadw rfl 32 _ rfl rfl hk0 agg_es HSL.out) hS0 ?_
  simp only [Act.put, List.setIfInBounds_toArray, List.set_cons_succ, List.set_cons_zero]
  refine held_take 1 (v := _) rfl (by kernel_rfl) (by kernel_rfl) (by kernel_rfl) (fun _ _ _ h => h) (yieldsI_loadw rfl 79 _ rfl rfl hk1 agg_ent HLEN.out) hS0 ?_
  simp only [Act.put, List.setIfInBounds_toArray, List.set_cons_succ, List.set_cons_zero]
  refine held_one (i := 2) (by kernel_rfl) rfl ?_
  intro Q' hQ
  go_wp2_with fail
  refine ((hrs.out _ (HE.out.ext (EG.out.ext ((HCC.out _).1 hS0).base)) (by trivial))).mono ?_
  rintro e wI ⟨rfl, eq9⟩
  have hS9 := hCx _ _ hS0 eq9
  go_wp2_with fail
  refine hQ _ _ hS9 ?_
  clear hQ Q' hS0 eq9
  have hS0 := hS9
  clear hS9
  try dsimp only
  try simp only [Act.put, List.setIfInBounds_toArray, List.set_cons_succ, List.set_cons_zero]
  refine held_take 3 (v := _) rfl (by kernel_rfl) (by kernel_rfl) (by kernel_rfl) (fun _ _ _ h => h) (yieldsI_run rfl (fun w1 _ => exec_cmpE rfl rfl rfl guard_es hnq.out w1)) hS0 ?_
  simp only [Act.put, List.setIfInBounds_toArray, List.set_cons_succ, List.set_cons_zero]
  have eI := ((HCC.out wI).1 hS0).base
  have HC3I := hid (HC3G.out.ext eI)
  have BI := hid (BG.out.ext eI)
  have EI := hid (EG.out.ext eI)
  clear eI BG EG
  clear hS0 HCC hCx hCA hk0 hk1 HC3G hrs hnq SG
  refine wpAnyH_done (by kernel_rfl) ?_ _
  rw [beq_self_eq_true]
  have hbm2 := HBM.out (by trivial)
  have hM2 := HM.out
  have hMm : M ≤ 40000 := by omega
  have hww : IntKind.i64.wrap ((nb : Int) + (M : Int)) = ((nb + M : Nat) : Int) := by rw [IntWalk.i64_in _ (by omega)]; omega
  have hqq : (((nb + M : Nat) : Int) == ((nb + M : Nat) : Int)) = true := beq_self_eq_true _
  go_wp2_with fail
  generalize hwJ : World.alloc wI _ = wJ
  have hJ : Blk wJ wI.heap.size [.slice ab nb cb, .slice a3 M c3, .slice ac nc cc] 28 := by rw [← hwJ]; exact Blk.mk_alloc rfl rfl
  have eJ : Ext wI wJ := by rw [← hwJ]; exact (Ext.refl wI).alloc _
  have GJ := hid hJ
  have HC3J := hid (HC3I.out.ext eJ)
  have BJ := hid (BI.out.ext eJ)
  have EJ := hid (EI.out.ext eJ)
  clear eJ BI EI
  clear hwJ hJ HC3I
  have hcat : cat [(ab, cb, lb), (a3, c3, O), (ac, cc, lc)] = lb ++ (O ++ lc) := by simp [cat]
  have hlen : (lb ++ (O ++ lc)).length = nb + M + nc := by rw [List.length_append, List.length_append, HLB.out, HLC.out, HOL.out]; omega
  refine (concat_c [(ab, cb, lb), (a3, c3, O), (ac, cc, lc)] wI.heap.size 3 3 wJ rfl (by omega) (by omega) ?hg ?hc ?hn ?hl).mono ?_
  case hg =>
    intro j it hit
    match j, hit with
    | 0, hit => cases hit; unfold itemV; simp only; rw [HLB.out]; exact GJ.out.cell' rfl
    | 1, hit => cases hit; unfold itemV; simp only; rw [HOL.out]; exact GJ.out.cell' rfl
    | 2, hit => cases hit; unfold itemV; simp only; rw [HLC.out]; exact GJ.out.cell' rfl
  case hc =>
    intro it hit
    simp only [List.mem_cons, List.not_mem_nil, or_false] at hit
    rcases hit with rfl | rfl | rfl
    · exact HB.out.ext EJ.out
    · exact HC3J.out
    · exact HC.out.ext EJ.out
  case hn =>
    intro it hit
    simp only [List.mem_cons, List.not_mem_nil, or_false] at hit
    rcases hit with rfl | rfl | rfl
    · exact HN0.out
    · exact HN3.out
    · exact HN1.out
  case hl => rw [hcat, hlen]; omega
  rw [hcat, hlen]
  rintro x wK ⟨v, rfl, own, eK⟩
  obtain ⟨a5, c5, rfl, hnc5, hcm5, hn05, hcl5⟩ := own_slice own
  unfold maxLen at hcm5
  have hcall := lparseEntry_c (lb ++ (O ++ lc)) a5 (nb + M + nc) c5 (nb : Int) wK hlen hnc5 (by omega) (by omega) hcl5
  unfold PEPost at hcall
  rw [hpp.out (by trivial), show ((nb + 121 + e.bn : Nat) : Int) = ((nb + M : Nat) : Int) by omega] at hcall
  have HCALL := hid hcall
  have BK := hid (BJ.out.ext eK)
  have EK := hid (EJ.out.ext eK)
  clear eK BJ EJ
  clear own hcl5 hn05 hcat hlen hcall hpp GJ HC3J
  go_wp2_with fail
  refine HCALL.out.mono ?_
  rintro x wL ⟨r, rfl, hrok, hrp, eL⟩
  have HR := hid hrok
  have HRP := hid hrp
  have HRL := hid (EntR.len hrok)
  have BL := hid (BK.out.ext eL)
  have EL := hid (EK.out.ext eL)
  clear eL BK EK
  clear hrok hrp HCALL
  go_wp2_with (refine wpl_storew rfl _ _ _ rfl rfl rfl (Blk.mk_alloc (vs := zeroE.v) rfl rfl) agg_ent zeroE_len (xs := r.v) HRL.out (ent_one r) ?_)
  intro wM bM uM
  have eM : Ext wL wM := uM.ext ((Ext.refl wL).alloc _) (Nat.le_refl _)
  have RM := hid bM
  have HRM := hid (HR.out.ext eM)
  have BM := hid (BL.out.ext eM)
  have EM := hid (EL.out.ext eM)
  clear eM BL EL
  clear uM bM HR
  obtain ⟨gr, hgr⟩ : ∃ gr, wL.heap.size = gr := ⟨_, rfl⟩
  rw [hgr] at RM ⊢
  clear hgr
  go_wp2_with (first | (refine wpg_loadw rfl 79 (.tmp 3) rfl rfl BM.out agg_ent HLEN.out ?_) | (refine wpg_loadw rfl 79 (.tmp 13) rfl rfl RM.out agg_ent HRL.out ?_))
  refine (sameEntry_c e r wM (HE.out.ext EM.out) HRM.out HRP.out.symm).mono ?_
  rintro x wN ⟨rfl, eN⟩
  have EN := hid (EM.out.ext eN)
  clear eN EM
  go_wp2_with fail
  go_ret
  exact ⟨rfl, EN.out⟩
end

section
open Go Go.RowKit

theorem own_blockE {w : World} {B q : Nat} {e : TypeId} {z n cap : Nat} {xs : List Value} (h : w.ownsRow B e z (.slice (some ⟨q, 0, none⟩) n cap) n xs) :
    ∃ rest, Blk w q (xs ++ rest) e ∧ (xs ++ rest).length = cap * z ∧ xs.length = n * z ∧ B ≤ q ∧ n ≤ cap ∧ cap ≤ maxLen := by
  obtain ⟨hl, h⟩ := h
  rcases h with ⟨hv, rfl⟩ | ⟨g, c2, cur, hv, hb, hg, h1, h2, h3, h4⟩
  · cases hv
  · cases hv
    refine ⟨cur.toList.drop (n * z), ?_, ?_, hl, hb, h1, h2⟩
    · unfold Blk
      rw [← h4, List.take_append_drop]
      simpa using hg
    · rw [← h4, List.take_append_drop, Array.length_toList, h3]
theorem turn_e (t : Int) (n : Nat) (hn : 0 < n) (hb : n ≤ 1000000) : ∃ (A : Int) (k : Nat), t.tmod n = A ∧ IntKind.i64.wrap (A + n) = A + n ∧ (A + n).tmod n = (k : Int) ∧ k < n := by
  have h1 := Int.tmod_lt_of_pos t (show (0 : Int) < n by omega)
  have h2 : -(n : Int) < t.tmod n := by
    have := Int.lt_tmod_of_pos t (show (0 : Int) < n by omega)
    omega
  have h3 := Int.tmod_lt_of_pos (t.tmod n + n) (show (0 : Int) < n by omega)
  have h4 := Int.tmod_nonneg (n : Int) (show 0 ≤ t.tmod n + n by omega)
  exact ⟨t.tmod n, ((t.tmod n + n).tmod n).toNat, rfl, IntWalk.i64_in _ (by omega), by omega, by omega⟩
theorem cut_e (cut : Int) (M : Nat) : ∃ mx mn : Nat, mn ≤ M ∧ (∀ ts t w, (Builtin.max_ ts t #[.int .i64 cut, .int .i64 0]).run Try.prog w = .ok (.int .i64 (mx : Int)) w) ∧ (∀ ts t w, (Builtin.min_ ts t #[.int .i64 (mx : Int), .int .i64 (M : Int)]).run Try.prog w = .ok (.int .i64 (mn : Int)) w) := by
  refine ⟨cut.toNat, min cut.toNat M, Nat.min_le_right _ _, fun ts t w => ?_, fun ts t w => ?_⟩
  · rw [run_max_int2]
    congr 2
    by_cases h : (0 : Int) > cut
    · rw [if_pos h]; omega
    · rw [if_neg h]; omega
  · rw [run_min_int2]
    congr 2
    by_cases h : (M : Int) < (cut.toNat : Int)
    · rw [if_pos h]; omega
    · rw [if_neg h]; omega
theorem splice_tail {X S : List UInt8} {tail : List Value} {M N : Nat} (hX : X.length = M) (hN : N + 32 = M) (hS : S.length = 32) : splice (X.map u8v ++ tail) N (S.map u8v) = (X.take N ++ S).map u8v ++ tail := by
  unfold splice
  rw [List.length_map, hS, hN, List.take_append_of_le_length (by rw [List.length_map]; omega), List.drop_left' (by rw [List.length_map, hX]), List.map_append, List.map_take]

set_option maxRecDepth 100000 in
set_option maxHeartbeats 4000000 in
theorem entriesParse_c (e : EntR) (at_ cut frm : Int) (by_ : UInt8) (sealed : Bool) (w : World) (he : e.Ok w) :
    Calls Try.prog 7 #[.agg e.v.toArray, .int .i64 at_, .int .i64 cut, .int .i64 frm, .int .u8 (by_.toNat : Int), .bool sealed] w fun x w' => x = .returned (.bool true) ∧ Ext w w' := by
  have HE := hid he
  have HLEN := hid (EntR.len he)
  have hrp := hid (fun w' h => rprintEntry_c e w' h)
  have hol := entO_len he
  unfold prPost at hrp
  obtain ⟨E, hEE⟩ : ∃ E, entE e = E := ⟨_, rfl⟩
  have hbm : E = 0 → e.bn ≤ 32768 := fun h => (entE_ok he (hEE.trans h)).2.2.2.2.2.2
  rw [hEE] at hrp
  obtain ⟨O, hO⟩ : ∃ O, entO e = O := ⟨_, rfl⟩
  rw [hO] at hrp hol
  obtain ⟨M, hM⟩ : ∃ M, 121 + e.bn = M := ⟨_, rfl⟩
  rw [hM] at hrp hol
  have HOL := hid hol
  have HM : Hid (E = 0 → M ≤ 40000 ∧ 121 ≤ M) := hid (fun h => by have := hbm h; omega)
  clear he hEE hO hM hbm hol
  go_enter Try.func7, Try.ntmps7
  go_upto_region 1 with (fail)
  generalize hwA : World.alloc w _ = wA
  have bA : Blk wA w.heap.size e.v 79 := by rw [← hwA]; exact Blk.mk_alloc rfl rfl
  have eA : Ext w wA := by rw [← hwA]; exact (Ext.refl w).alloc _
  have BA := hid bA
  have EA := hid eA
  clear hwA bA eA
  go_wp2_with fail
  refine (landed_c wA).mono ?_
  rintro x wB ⟨rfl, eB⟩
  have BB := hid (BA.out.ext eB)
  have EB := hid (EA.out.ext eB)
  clear eB BA EA
  go_wp2_with (refine wpl_loadw rfl 79 (.tmp 6) rfl rfl BB.out agg_ent HLEN.out ?_)
  refine (hrp.out wB (HE.out.ext EB.out)).mono ?_
  rintro x wC ⟨eC, h3⟩
  have hwB := BB.out.lt
  have BC := hid (BB.out.ext eC)
  have EC := hid (EB.out.ext eC)
  clear eC BB EB
  clear hrp
  by_cases hE : E = 0
  rotate_left
  · have hx : x = .returned (.tuple #[.slice none 0 0, .int .i64 E]) := (h3.resolve_left (fun h => hE h.1)).2
    subst hx
    have d2 : (E != 0) = true := by simpa using hE
    clear h3 hE
    go_wp2_with fail
    go_ret
    exact ⟨rfl, EC.out⟩
  obtain ⟨-, v3, hx, own3⟩ := h3.resolve_right (fun h => h.1 hE)
  subst hx
  obtain ⟨hM1, hM2⟩ := HM.out hE
  have own4 := own3
  obtain ⟨a3, c3, rfl, hnc3, hcm3, hn03, hcl3⟩ := own_slice own4
  obtain ⟨g, off, hga, -⟩ := hcl3.some_of (by rw [List.length_map, HOL.out]; omega)
  have hg0 : off = 0 := by
    rcases own3.2 with ⟨h, -⟩ | ⟨gr, cap, cur, h, -⟩
    · cases h; cases hga
    · cases h; cases hga; rfl
  subst hga hg0
  obtain ⟨tail, hbl, hbll, -, hBg, -, -⟩ := own_blockE own3
  rw [Nat.mul_one] at hbll
  obtain ⟨A, k, hA, hAw, hAk, hk⟩ := turn_e at_ M (by omega) (by omega)
  obtain ⟨mx, mn, hmn, hmax, hmin⟩ := cut_e cut M
  obtain ⟨x0, hx0⟩ : ∃ x0, O[k]? = some x0 := ⟨_, List.getElem?_eq_getElem (by rw [HOL.out]; exact hk)⟩
  have hgl : w.heap.size < g := Nat.lt_of_lt_of_le hwB hBg
  have GC := hid hbl
  have hcell := GC.out.cell' (i := k) (v := .int .u8 (x0.toNat : Int)) (by rw [List.getElem?_append_left (by rw [List.length_map, HOL.out]; exact hk), List.getElem?_map, hx0]; rfl)
  have hfz := GC.out.frozen k
  have d3 : decide ((k : Int) < 0) = false := decide_eq_false (by omega)
  have d4 : ((M : Int) == 0) = false := by simp; omega
  have hM0 : ¬ ((M : Int) = 0) := by omega
  have hE0 := hid hE
  subst hE
  have hxr := xor8_b x0 by_
  clear h3 own3 own4 hcl3 hn03 hbl hbll hx0 hBg hwB
  go_upto_region 7 with (fail)
  generalize hwD : World.setCell wC _ _ = wD
  obtain ⟨X, hX⟩ : ∃ X, O.set k (xor8 x0 by_) = X := ⟨_, rfl⟩
  have hD : Blk wD g (X.map u8v ++ tail) 5 := by
    have h := GC.out.set k (u8v (xor8 x0 by_))
    rw [List.set_append_left _ _ (by rw [List.length_map, HOL.out]; exact hk), ← List.map_set, hX] at h
    rw [← hwD]; exact h
  have uD : Upd wC g wD := by rw [← hwD]; exact Upd.setCell _
  have HXL := hid (show X.length = M by rw [← hX, List.length_set, HOL.out])
  have GD := hid hD
  have ED := hid (uD.ext EC.out (by omega))
  clear hwD hX hD uD hcell hfz hA hAw hAk hxr GC BC EC d3 HOL
  unfold maxLen at hcm3
  cases sealed with
  | false =>
    obtain ⟨T, hT⟩ : ∃ T, M - mn = T := ⟨_, rfl⟩
    have hTw : IntKind.i64.wrap ((M : Int) - (mn : Int)) = (T : Int) := by rw [IntWalk.i64_in _ (by omega)]; omega
    have hTc : T ≤ c3 := by omega
    obtain ⟨l, hl⟩ : ∃ l, X.take T = l := ⟨_, rfl⟩
    have hll : l.length = T := by rw [← hl, List.length_take, HXL.out]; omega
    have hcl : Cells wD (some ⟨g, 0, none⟩) (l.map u8v) := by
      have h := (Cells.of_blk0 GD.out).take T
      rw [List.take_append_of_le_length (by rw [List.length_map, HXL.out]; omega), ← List.map_take, hl] at h
      exact h
    have HCL := hid hcl
    have hp1 := lparseEntry_c l (some ⟨g, 0, none⟩) T c3 frm wD hll hTc (by omega) (by omega) hcl
    have hp2 := hid (fun w' h => rparseEntry_c l (some ⟨g, 0, none⟩) T c3 frm w' hll hTc (by omega) (by omega) h)
    unfold PEPost at hp1 hp2
    obtain ⟨PE, hPE⟩ : ∃ PE, parseEP l frm = PE := ⟨_, rfl⟩
    rw [hPE] at hp1 hp2
    obtain ⟨z1, hz1⟩ : ∃ z1, PE.2.1 = z1 := ⟨_, rfl⟩
    obtain ⟨z2, hz2⟩ : ∃ z2, PE.2.2 = z2 := ⟨_, rfl⟩
    rw [hz1, hz2] at hp1 hp2
    have HP1 := hid hp1
    have q1 : (z1 == z1) = true := beq_self_eq_true _
    have q2 : (z2 == z2) = true := beq_self_eq_true _
    clear hT hl hll hcl hp1 hPE hz1 hz2 GD HXL
    go_wp2_with (refine wpl_run rfl (exec_high (k := T) rfl rfl rfl Try.underlying28 size_u8 hTc _) ?_)
    refine HP1.out.mono ?_
    rintro x wL ⟨r, rfl, hrok, hrp, eL⟩
    have HR := hid hrok
    have HRP := hid hrp
    have HRL := hid (EntR.len hrok)
    have EL := hid (ED.out.ext eL)
    have HCLL := hid (HCL.out.ext eL)
    clear hrok hrp HP1 eL HCL
    go_wp2_with (refine wpl_storew rfl _ _ _ rfl rfl rfl (Blk.mk_alloc (vs := zeroE.v) rfl rfl) agg_ent zeroE_len (xs := r.v) HRL.out (ent_one r) ?_)
    intro wM bM uM
    have eM : Ext wL wM := uM.ext ((Ext.refl wL).alloc _) (Nat.le_refl _)
    have RM := hid bM
    have HRM := hid (HR.out.ext eM)
    have HCLM := hid (HCLL.out.ext eM)
    have EM := hid (EL.out.ext eM)
    clear uM bM HR eM EL HCLL
    obtain ⟨gr, hgr⟩ : ∃ gr, wL.heap.size = gr := ⟨_, rfl⟩
    rw [hgr] at RM ⊢
    clear hgr
    go_wp2_with fail
    refine (hp2.out wM HCLM.out).mono ?_
    rintro x wN ⟨s, rfl, hsok, hsp, eN⟩
    have HS := hid hsok
    have HSP := hid hsp
    have HSL := hid (EntR.len hsok)
    have RN := hid (RM.out.ext eN)
    have HRN := hid (HRM.out.ext eN)
    have EN := hid (EM.out.ext eN)
    clear hsok hsp hp2 eN EM RM HRM HCLM
    go_wp2_with (refine wpl_storew rfl _ _ _ rfl rfl rfl (Blk.mk_alloc (vs := zeroE.v) rfl rfl) agg_ent zeroE_len (xs := s.v) HSL.out (ent_one s) ?_)
    intro wO bO uO
    have eO : Ext wN wO := uO.ext ((Ext.refl wN).alloc _) (Nat.le_refl _)
    have SO := hid bO
    have RO := hid (RN.out.ext eO)
    have HRO := hid (HRN.out.ext eO)
    have HSO := hid (HS.out.ext eO)
    have EO := hid (EN.out.ext eO)
    clear uO bO eO RN HRN HS EN
    obtain ⟨gt, hgt⟩ : ∃ gt, wN.heap.size = gt := ⟨_, rfl⟩
    rw [hgt] at SO ⊢
    clear hgt
    go_wp2_with (first | (refine wpg_loadw rfl 79 (.tmp 17) rfl rfl RO.out agg_ent HRL.out ?_) | (refine wpg_loadw rfl 79 (.tmp 19) rfl rfl SO.out agg_ent HSL.out ?_))
    refine (sameEntry_c r s wO HRO.out HSO.out (HRP.out.trans HSP.out.symm)).mono ?_
    rintro x wP ⟨rfl, eP⟩
    have EP := hid (EO.out.ext eP)
    clear eP EO
    go_wp2_with fail
    go_ret
    exact ⟨rfl, EP.out⟩
  | true =>
    obtain ⟨N, hN⟩ : ∃ N, M - 32 = N := ⟨_, rfl⟩
    have hNw : IntKind.i64.wrap ((M : Int) - 32) = (N : Int) := by rw [IntWalk.i64_in _ (by omega)]; omega
    have hNc : N ≤ c3 := by omega
    have hcn : Cells wD (some ⟨g, 0, none⟩) ((X.take N).map u8v) := by
      have h := (Cells.of_blk0 GD.out).take N
      rw [List.take_append_of_le_length (by rw [List.length_map, HXL.out]; omega), ← List.map_take] at h
      exact h
    have hsm := hid (rsum_c 3 (X.take N) N c3 (some ⟨g, 0, none⟩) wD (by omega) (by omega) (by rw [List.length_take, HXL.out]; omega) (by omega) hcn)
    obtain ⟨S, hS⟩ : ∃ S, sumL 3 (X.take N) = S := ⟨_, rfl⟩
    have hSl : S.length = 32 := by rw [← hS]; exact sumL_length _ _
    rw [hS] at hsm
    have HSL := hid (show (S.map u8v).length = 32 by rw [List.length_map, hSl])
    have oS := one_u8 S
    have hsp := hid (splice_tail (tail := tail) HXL.out (show N + 32 = M by omega) hSl)
    have hYl := hid (show (X.take N ++ S).length = M by rw [List.length_append, List.length_take, HXL.out, hSl]; omega)
    have hlen : N + 32 ≤ (X.map u8v ++ tail).length := by rw [List.length_append, List.length_map, HXL.out]; omega
    have hzz : shiftz (some ⟨g, 0, none⟩) c3 N 1 = some ⟨g, N, none⟩ := by unfold shiftz; rw [if_neg (by omega), Option.map_some, addr_add, Nat.mul_one, Nat.zero_add]
    have HZZ := hid hzz
    have hMN : M - N = 32 := by omega
    have hNM : N ≤ M := by omega
    clear hS hSl hcn hzz
    go_wp2_with (refine wpl_run rfl (exec_high (k := N) rfl rfl rfl Try.underlying28 size_u8 hNc _) ?_)
    refine hsm.out.mono ?_
    rintro x wE ⟨rfl, eE⟩
    have GE := hid (GD.out.ext eE)
    have EE := hid (ED.out.ext eE)
    clear eE GD ED
    clear hsm
    go_wp2_with (refine wpl_storew rfl _ _ _ rfl rfl rfl (Blk.mk_alloc (vs := List.replicate 32 (.int .u8 0)) rfl rfl) agg_es (by simp) HSL.out oS ?_)
    intro wF bF uF
    have eF : Ext wE wF := uF.ext ((Ext.refl wE).alloc _) (Nat.le_refl _)
    have SF := hid bF
    have hgE := GE.out.lt
    have GF := hid (GE.out.ext eF)
    have EF := hid (EE.out.ext eF)
    clear eF GE EE
    clear uF bF
    obtain ⟨gs, hgs⟩ : ∃ gs, wE.heap.size = gs := ⟨_, rfl⟩
    rw [hgs] at SF hgE ⊢
    clear hgs
    go_upto_region 10 with (fail)
    obtain ⟨C, hC⟩ : ∃ C : World → Prop, C = Cls w wF [gs] [(g,(X.map u8v ++ tail).length,5)] := ⟨_, rfl⟩
    have hC0 : ∀ w', C w' ↔ Cls w wF [gs] [(g,(X.map u8v ++ tail).length,5)] w' := fun w' => by rw [hC]
    clear hC
    have HCC := hid hC0
    clear hC0
    have hCx : ∀ w w', C w → Ext w w' → C w' := fun w w' h1 h2 => (HCC.out w').2 (((HCC.out w).1 h1).ext h2)
    have hCA : C wF := (HCC.out _).2 (Cls.one_room EF.out (Kept.one SF.out.lt) GF.out rfl)
    refine wp_region_held_drew (S := C) (by kernel_rfl) (hCx _ _ hCA (Ext.refl _).drew) (fun hS0 => ?_)
    refine held_take 0 (v := ?tv1) rfl (by kernel_rfl) (by kernel_rfl) (by kernel_rfl) (fun _ _ _ h => h) (.inl ⟨rfl, ?ty1⟩) hS0 ?tr1
    case ty1 => (intro _ _; go_simp; try with_reducible rfl)
    case tr1 =>
    simp only [Act.put, List.setIfInBounds_toArray, List.set_cons_succ, List.set_cons_zero]
    refine held_take 1 (v := ?tv2) rfl (by kernel_rfl) (by kernel_rfl) (by kernel_rfl) (fun _ _ _ h => h) (.inl ⟨rfl, ?ty2⟩) hS0 ?tr2
    case ty2 => (intro _ _; go_simp; try with_reducible rfl)
    case tr2 =>
    simp only [Act.put, List.setIfInBounds_toArray, List.set_cons_succ, List.set_cons_zero]
    refine held_take 2 (v := _) rfl (by kernel_rfl) (by kernel_rfl) (by kernel_rfl) (fun _ _ _ h => h) (yieldsI_run rfl (fun w1 _ => exec_lowE (k := N) HZZ.out rfl rfl rfl Try.underlying28 size_u8 hNM w1)) hS0 ?_
    simp only [Act.put, List.setIfInBounds_toArray, List.set_cons_succ, List.set_cons_zero]
    refine held_take 3 (v := ?tv3) rfl (by kernel_rfl) (by kernel_rfl) (by kernel_rfl) (fun _ _ _ h => h) (.inl ⟨rfl, ?ty3⟩) hS0 ?tr3
    case ty3 => (intro _ _; go_simp; try with_reducible rfl)
    case tr3 =>
    simp only [Act.put, List.setIfInBounds_toArray, List.set_cons_succ, List.set_cons_zero]
    have HG9 := hid hS0
    clear hS0
    refine held_one (i := 4) (by kernel_rfl) rfl ?_
    intro Q' hQ
    go_wp2_with (refine wpl_copyc rfl _ _ _ _ rfl rfl rfl GF.out.drew Try.underlying28 size_u8 (k := 32) HSL.out (by first | rfl | (rw [hMN]; rfl)) (fun e => by cases e) (Cells.of_blk0 SF.out.drew) hlen oS ?_)
    intro w9 b9 u9
    have hroom : ∀ x ∈ [(g, (X.map u8v ++ tail).length, 5)], x.1 = g → x = (g, (splice (X.map u8v ++ tail) N (S.map u8v)).length, 5) := by
      intro x hx _
      rw [List.mem_singleton.1 hx, hsp.out]
      simp only [List.length_append, List.length_map, hYl.out, HXL.out]
    have hS0 : C w9 := (HCC.out w9).2 (((HCC.out _).1 HG9.out).store u9 b9 hroom (by omega) (by simp only [List.mem_singleton]; omega))
    go_wp2_with fail
    refine hQ _ _ hS0 ?_
    clear hQ Q'
    have hb9 : Blk w9 g ((X.take N ++ S).map u8v ++ tail) 5 := by rw [← hsp.out]; exact b9
    have G9 := hid hb9
    have E9 := hid ((HCC.out w9).1 hS0).base
    clear hb9 b9 u9 HG9 hS0 HCC hCx hCA GF EF SF
    try dsimp only
    try simp only [Act.put, List.setIfInBounds_toArray, List.set_cons_succ, List.set_cons_zero]
    refine wpAnyH_done (by kernel_rfl) ?_ _
    obtain ⟨Y, hY⟩ : ∃ Y, X.take N ++ S = Y := ⟨_, rfl⟩
    rw [hY] at G9 hYl
    clear hY hsp hlen HZZ
    obtain ⟨T, hT⟩ : ∃ T, M - mn = T := ⟨_, rfl⟩
    have hTw : IntKind.i64.wrap ((M : Int) - (mn : Int)) = (T : Int) := by rw [IntWalk.i64_in _ (by omega)]; omega
    have hTc : T ≤ c3 := by omega
    obtain ⟨l, hl⟩ : ∃ l, Y.take T = l := ⟨_, rfl⟩
    have hll : l.length = T := by rw [← hl, List.length_take, hYl.out]; omega
    have hcl : Cells w9 (some ⟨g, 0, none⟩) (l.map u8v) := by
      have h := (Cells.of_blk0 G9.out).take T
      rw [List.take_append_of_le_length (by rw [List.length_map, hYl.out]; omega), ← List.map_take, hl] at h
      exact h
    have HCL := hid hcl
    have hp1 := lparseEntry_c l (some ⟨g, 0, none⟩) T c3 frm w9 hll hTc (by omega) (by omega) hcl
    have hp2 := hid (fun w' h => rparseEntry_c l (some ⟨g, 0, none⟩) T c3 frm w' hll hTc (by omega) (by omega) h)
    unfold PEPost at hp1 hp2
    obtain ⟨PE, hPE⟩ : ∃ PE, parseEP l frm = PE := ⟨_, rfl⟩
    rw [hPE] at hp1 hp2
    obtain ⟨z1, hz1⟩ : ∃ z1, PE.2.1 = z1 := ⟨_, rfl⟩
    obtain ⟨z2, hz2⟩ : ∃ z2, PE.2.2 = z2 := ⟨_, rfl⟩
    rw [hz1, hz2] at hp1 hp2
    have HP1 := hid hp1
    have q1 : (z1 == z1) = true := beq_self_eq_true _
    have q2 : (z2 == z2) = true := beq_self_eq_true _
    clear hT hl hll hcl hp1 hPE hz1 hz2 G9 hYl HXL hNw
    go_wp2_with (refine wpl_run rfl (exec_high (k := T) rfl rfl rfl Try.underlying28 size_u8 hTc _) ?_)
    refine HP1.out.mono ?_
    rintro x wL ⟨r, rfl, hrok, hrp, eL⟩
    have HR := hid hrok
    have HRP := hid hrp
    have HRL := hid (EntR.len hrok)
    have EL := hid (E9.out.ext eL)
    have HCLL := hid (HCL.out.ext eL)
    clear hrok hrp HP1 eL HCL
    go_wp2_with (refine wpl_storew rfl _ _ _ rfl rfl rfl (Blk.mk_alloc (vs := zeroE.v) rfl rfl) agg_ent zeroE_len (xs := r.v) HRL.out (ent_one r) ?_)
    intro wM bM uM
    have eM : Ext wL wM := uM.ext ((Ext.refl wL).alloc _) (Nat.le_refl _)
    have RM := hid bM
    have HRM := hid (HR.out.ext eM)
    have HCLM := hid (HCLL.out.ext eM)
    have EM := hid (EL.out.ext eM)
    clear uM bM HR eM EL HCLL
    obtain ⟨gr, hgr⟩ : ∃ gr, wL.heap.size = gr := ⟨_, rfl⟩
    rw [hgr] at RM ⊢
    clear hgr
    go_wp2_with fail
    refine (hp2.out wM HCLM.out).mono ?_
    rintro x wN ⟨s, rfl, hsok, hsp, eN⟩
    have HS := hid hsok
    have HSP := hid hsp
    have HSL := hid (EntR.len hsok)
    have RN := hid (RM.out.ext eN)
    have HRN := hid (HRM.out.ext eN)
    have EN := hid (EM.out.ext eN)
    clear hsok hsp hp2 eN EM RM HRM HCLM
    go_wp2_with (refine wpl_storew rfl _ _ _ rfl rfl rfl (Blk.mk_alloc (vs := zeroE.v) rfl rfl) agg_ent zeroE_len (xs := s.v) HSL.out (ent_one s) ?_)
    intro wO bO uO
    have eO : Ext wN wO := uO.ext ((Ext.refl wN).alloc _) (Nat.le_refl _)
    have SO := hid bO
    have RO := hid (RN.out.ext eO)
    have HRO := hid (HRN.out.ext eO)
    have HSO := hid (HS.out.ext eO)
    have EO := hid (EN.out.ext eO)
    clear uO bO eO RN HRN HS EN
    obtain ⟨gt, hgt⟩ : ∃ gt, wN.heap.size = gt := ⟨_, rfl⟩
    rw [hgt] at SO ⊢
    clear hgt
    go_wp2_with (first | (refine wpg_loadw rfl 79 (.tmp 17) rfl rfl RO.out agg_ent HRL.out ?_) | (refine wpg_loadw rfl 79 (.tmp 19) rfl rfl SO.out agg_ent HSL.out ?_))
    refine (sameEntry_c r s wO HRO.out HSO.out (HRP.out.trans HSP.out.symm)).mono ?_
    rintro x wP ⟨rfl, eP⟩
    have EP := hid (EO.out.ext eP)
    clear eP EO
    go_wp2_with fail
    go_ret
    exact ⟨rfl, EP.out⟩
end

section
open Go Go.RowKit Go.ChangeShapes Go.WideShapes Go.ChangeAt

theorem u8_of {n : Int} (h : (Lit.int .u8 n).wf = true) : ∃ x : UInt8, Value.int .u8 n = u8v x := by
  have hb := bounds_u8 h
  refine ⟨UInt8.ofNat n.toNat, ?_⟩
  unfold u8v
  congr 1
  rw [UInt8.toNat_ofNat']
  omega

theorem u8s_of : ∀ (vs : List Value), (∀ (i : Nat) (v : Value), vs[i]? = some v → ∃ x : UInt8, v = u8v x) → ∃ l : List UInt8, vs = l.map u8v
  | [], _ => ⟨[], rfl⟩
  | v :: vs, h => by
    obtain ⟨x, hx⟩ := h 0 v rfl
    obtain ⟨l, hl⟩ := u8s_of vs fun i u hu => h (i + 1) u (by simpa using hu)
    exact ⟨x :: l, by rw [hx, hl]; rfl⟩

section
variable {H : Type} {enc : TypeId × Value → H} {P : Program} {w : World}
/-- an array of octets -/
theorem open_octets {r : Reach} {b0 base : Nat} {sp : Nat → Bool} {held : Bool} {t e : TypeId} {n : Nat} {v : Value} {d : DataW H} {ps : List MemPlace} (ht : P.underlying t = some (.array n e)) (he : P.underlying e = some (.int .u8)) (hce : P.cellsOf e = 1) (hct : P.cellsOf t = n)
    (hval : Value.okWide P w r b0 t v) (hd : DataW.Trod enc P w base sp held t v d ps) : ∃ l : List UInt8, l.length = n ∧ v = .agg (l.map u8v).toArray := by
  unfold Value.okWide at hval
  rw [ht] at hval
  obtain ⟨cs, rfl, hs, _⟩ := hval
  obtain ⟨fuel, hf⟩ := hd
  obtain ⟨xs, m, _, _, hlen, hxl, hel⟩ := DataW.trod_array ht hf
  have hcl : cs.toList.length = n := by rw [Array.length_toList, hs, hct]
  obtain ⟨l, hl⟩ := u8s_of cs.toList fun i u hu => by
    have hi : i < n := by
      have := (List.getElem?_eq_some_iff.1 hu).1
      omega
    have h1 := hel i hi
    rw [hce, Nat.mul_one] at h1
    have hx : xs[i]? = some xs[i] := by simp
    have h2 : (cs.toList.drop i).take 1 = [u] := by
      have h3 := List.getElem?_drop (xs := cs.toList) (i := i) (j := 0)
      rw [Nat.add_zero, hu] at h3
      cases hd : cs.toList.drop i with
      | nil => rw [hd] at h3; simp at h3
      | cons y r => rw [hd] at h3; simp at h3; simp [h3]
    have h4 : DataW.trod enc P w base sp held m e [u] = some xs[i] := by
      rw [← h2, ← hx]; exact h1
    obtain ⟨k, hk, _, hw⟩ := DataW.trod_int he h4
    have hu' : u = .int .u8 k := by simpa using hk
    rw [hu']; exact u8_of hw
  refine ⟨l, ?_, ?_⟩
  · have := congrArg List.length hl
    rw [hcl, List.length_map] at this; exact this.symm
  · rw [← hl]
end
end

section
open Go Go.RowKit Go.ChangeShapes Go.WideShapes Go.ChangeAt

section
variable {H : Type} {enc : TypeId × Value → H} {P : Program} {w : World}
/-- a slice of octets, read whole -/
theorem open_bytes {r : Reach} {b0 base : Nat} {held : Bool} {t e : TypeId} {v : Value} {d : DataW H} {ps : List MemPlace} (ht : P.underlying t = some (.slice e)) (he : P.underlying e = some (.int .u8)) (hce : P.cellsOf e = 1)
    (hval : Value.okWide P w r b0 t v) (hd : DataW.Trod enc P w base (fun _ => true) held t v d ps) :
    ∃ (a : Option Addr) (n c : Nat) (l : List UInt8) (es sp : List (DataW H)), v = .slice a n c ∧ l.length = n ∧ n ≤ c ∧ (a = none → c = 0) ∧ Cells w a (l.map u8v) ∧ ((d = .nil ∧ c = 0) ∨ (d = .slice es sp ∧ es.length + sp.length = c)) := by
  obtain ⟨a, n, c, rfl⟩ := okWide_slice ht hval
  obtain ⟨fuel, hf⟩ := hd
  rcases open_ints ht he hce hf with ⟨hcs, hx⟩ | ⟨ad, len, cap, zs, hcs, _, hle, hmax, hlen, hx, hcell, hwf⟩
  · simp [Value.cells] at hcs
    obtain ⟨rfl, rfl, rfl⟩ := hcs
    simp only [Prod.mk.injEq] at hx
    exact ⟨none, 0, 0, [], [], [], rfl, rfl, Nat.le_refl _, fun _ => rfl, .inl rfl, .inl ⟨hx.1, rfl⟩⟩
  · simp [Value.cells] at hcs
    obtain ⟨rfl, rfl, rfl⟩ := hcs
    simp only [Prod.mk.injEq] at hx
    simp only [if_true] at hlen
    obtain ⟨l, hl⟩ := u8s_of ((zs.take n).map (Value.int .u8)) fun i u hu => by
      have hm := List.mem_of_getElem? hu
      obtain ⟨z, hz, rfl⟩ := List.mem_map.1 hm
      exact u8_of (hwf z (List.mem_of_mem_take hz))
    have hll : l.length = n := by
      have := congrArg List.length hl
      simp only [List.length_map, List.length_take] at this
      omega
    refine ⟨some ad, n, c, l, lits .u8 (zs.take n), lits .u8 (zs.drop n), rfl, hll, hle, (fun h => by cases h), ?_, .inr ⟨hx.1, ?_⟩⟩
    · by_cases hn : n = 0
      · left
        have : l = [] := List.length_eq_zero_iff.1 (by omega)
        rw [this]; rfl
      · obtain ⟨b, off, rfl, hat⟩ := ints_at hcell (by omega)
        refine .inr ⟨b, off, rfl, fun i u hu => ?_⟩
        rw [← hl] at hu
        have hi : i < n := by
          have := (List.getElem?_eq_some_iff.1 hu).1
          simp at this; omega
        rw [hat i (by omega)]
        rw [List.getElem?_map, List.getElem?_take_of_lt hi] at hu
        rw [List.getD_eq_getElem?_getD]
        cases hz : zs[i]? with
        | none => rw [hz] at hu; simp at hu
        | some z => rw [hz] at hu; simpa using hu
    · simp [lits]; omega
end
end

section
open Go Go.RowKit Go.ChangeShapes Go.WideShapes Go.ChangeAt Go.Deep

theorem cells?_at {w : World} {base : Nat} {p : Addr} {k : Nat} {cs : List Value} (h : w.cells? base p k = some cs) : cs.length = k ∧ CellsAt w p cs := by
  unfold World.cells? at h
  split at h
  · refine ⟨by simpa using mapM_some_length h, fun j u hu => ?_⟩
    have hj : j < k := by
      have h1 := (List.getElem?_eq_some_iff.1 hu).1
      have h2 := mapM_some_length h
      simp at h2; omega
    have := mapM_some_get h j j (by simp [hj])
    rw [hu] at this
    exact this
  · cases h

section
variable {H : Type} {enc : TypeId × Value → H} {P : Program} {w : World}
theorem octets_of_trod {base : Nat} {sp : Nat → Bool} {held : Bool} {t e : TypeId} {n f : Nat} {cs : List Value} {x : DataW H × List MemPlace} (ht : P.underlying t = some (.array n e)) (he : P.underlying e = some (.int .u8)) (hce : P.cellsOf e = 1) (hct : P.cellsOf t = n)
    (hf : DataW.trod enc P w base sp held f t cs = some x) : ∃ l : List UInt8, l.length = n ∧ cs = l.map u8v := by
  obtain ⟨xs, m, _, _, hlen, hxl, hel⟩ := DataW.trod_array ht hf
  have hcl : cs.length = n := by rw [hlen, hct]
  obtain ⟨l, hl⟩ := u8s_of cs fun i u hu => by
    have hi : i < n := by
      have := (List.getElem?_eq_some_iff.1 hu).1
      omega
    have h1 := hel i hi
    rw [hce, Nat.mul_one] at h1
    have hx : xs[i]? = some xs[i] := by simp
    have h2 : (cs.drop i).take 1 = [u] := by
      have h3 := List.getElem?_drop (xs := cs) (i := i) (j := 0)
      rw [Nat.add_zero, hu] at h3
      cases hd : cs.drop i with
      | nil => rw [hd] at h3; simp at h3
      | cons y r => rw [hd] at h3; simp at h3; simp [h3]
    have h4 : DataW.trod enc P w base sp held m e [u] = some xs[i] := by
      rw [← h2, ← hx]; exact h1
    obtain ⟨k, hk, _, hw⟩ := DataW.trod_int he h4
    have hu' : u = .int .u8 k := by simpa using hk
    rw [hu']; exact u8_of hw
  refine ⟨l, ?_, hl⟩
  have := congrArg List.length hl
  rw [hcl, List.length_map] at this; exact this.symm

/-- a slice of rows, its cell read -/
theorem sums_of_trod {base f : Nat} {held : Bool} {t e q : TypeId} {cs : List Value} {x : DataW H × List MemPlace} (ht : P.underlying t = some (.slice e)) (he : P.underlying e = some (.array 32 q)) (hq : P.underlying q = some (.int .u8)) (cq : P.cellsOf q = 1) (ce : P.cellsOf e = 32)
    (hf : DataW.trod enc P w base (fun _ => true) held f t cs = some x) :
    ∃ (a : Option Addr) (n c : Nat) (ls : List (List UInt8)) (es sp : List (DataW H)), cs = [.slice a n c] ∧ ls.length = n ∧ All32 ls ∧ n ≤ c ∧ c ≤ maxLen ∧ (a = none → c = 0) ∧ Cells w a (rows ls) ∧ ((x.1 = .nil ∧ c = 0) ∨ (x.1 = .slice es sp ∧ es.length + sp.length = c)) := by
  rcases DataW.trod_slice ht hf with ⟨h0, h1⟩ | ⟨a, len, cap, elems, rest, n, _, rfl, rfl, hb, hl, hm, hlen, hel, hsp, hns⟩
  · exact ⟨none, 0, 0, [], [], [], h0, rfl, All32.nil, Nat.le_refl _, Nat.zero_le _, fun _ => rfl, .inl rfl, .inl ⟨by rw [h1], rfl⟩⟩
  · have each : ∀ i, i < len → ∃ l : List UInt8, l.length = 32 ∧ CellsAt w (a.add (i * 32)) (l.map u8v) := by
      intro i hi
      have h1 := hel i hi
      have hx : elems[i]? = some (elems[i]'(by omega)) := by simp
      rw [ce, hx, Option.bind_eq_some_iff] at h1
      obtain ⟨cs', hcs, hy⟩ := h1
      obtain ⟨l, hl1, rfl⟩ := octets_of_trod he hq cq ce hy
      exact ⟨l, hl1, (cells?_at hcs).2⟩
    obtain ⟨g, hg⟩ := choose_lt each
    have h32 : All32 ((List.range len).map g) := fun l hl => by
      obtain ⟨i, hi, rfl⟩ := List.mem_map.1 hl
      exact (hg i (List.mem_range.1 hi)).1
    obtain ⟨hrl, _⟩ := hsp rfl
    refine ⟨some a, len, cap, (List.range len).map g, _, _, rfl, by simp, h32, hl, hm, (fun h => by cases h), ?_, .inr ⟨rfl, by simp; omega⟩⟩
    by_cases h0 : len = 0
    · left; subst h0; rfl
    · obtain ⟨hl0, hc0⟩ := hg 0 (by omega)
      obtain ⟨b, off, spot⟩ := a
      have hspot : spot = none := by
        have := hc0 0 (u8v ((g 0)[0]'(by omega))) (by simp [hl0])
        simpa [Addr.add] using World.cell?_spot this
      subst hspot
      refine .inr ⟨b, off, rfl, fun i u hu => ?_⟩
      have hi : i < 32 * len := by
        have := (List.getElem?_eq_some_iff.1 hu).1
        rw [rows_length h32] at this; simpa using this
      obtain ⟨_, hcr⟩ := hg (i / 32) (by omega)
      have hrow : ((List.range len).map g)[i / 32]? = some (g (i / 32)) := by
        rw [List.getElem?_map, List.getElem?_range (by omega)]; rfl
      have h2 := rows_at h32 hrow
      have h3 : ((g (i / 32)).map u8v)[i % 32]? = some u := by
        rw [← h2, List.getElem?_take_of_lt (Nat.mod_lt _ (by omega)), List.getElem?_drop, Nat.div_add_mod]; exact hu
      have h4 := hcr _ _ h3
      rw [addr_add, addr_add] at h4
      rw [show off + i / 32 * 32 + i % 32 = off + i by omega] at h4
      exact h4

/-- a struct of two ints and a slice of rows -/
theorem open_proof {r : Reach} {b0 base : Nat} {held : Bool} {t e q : TypeId} {f0 f1 f2 : Field} {v : Value} {d : DataW H} {ps : List MemPlace} (ht : P.underlying t = some (.struct #[f0, f1, f2])) (h0 : P.underlying f0.type = some (.int .i64)) (h1 : P.underlying f1.type = some (.int .i64))
    (h2 : P.underlying f2.type = some (.slice e)) (he : P.underlying e = some (.array 32 q)) (hq : P.underlying q = some (.int .u8)) (cq : P.cellsOf q = 1) (ce : P.cellsOf e = 32) (c0 : P.cellsOf f0.type = 1) (c1 : P.cellsOf f1.type = 1) (c2 : P.cellsOf f2.type = 1) (ct : P.cellsOf t = 3)
    (o0 : f0.offset = 0) (o1 : f1.offset = 1) (o2 : f2.offset = 2)
    (hval : Value.okWide P w r b0 t v) (hd : DataW.Trod enc P w base (fun _ => true) held t v d ps) :
    ∃ (I Z : Int) (a : Option Addr) (n c : Nat) (ls : List (List UInt8)), v = .agg #[.int .i64 I, .int .i64 Z, .slice a n c] ∧ ls.length = n ∧ All32 ls ∧ n ≤ c ∧ c ≤ maxLen ∧ (a = none → c = 0) ∧ Cells w a (rows ls) ∧
      ∃ (D : DataW H) (es sp : List (DataW H)), d = .agg [.lit (.int .i64 I), .lit (.int .i64 Z), D] ∧ ((D = .nil ∧ c = 0) ∨ (D = .slice es sp ∧ es.length + sp.length = c)) ∧ (Lit.int .i64 I).wf = true ∧ (Lit.int .i64 Z).wf = true := by
  obtain ⟨cs, rfl, hs⟩ := okWide_struct ht hval
  obtain ⟨fuel, hf⟩ := hd
  obtain ⟨y0, y1, y2, m, hx, hl, g0, g1, g2⟩ := trod_struct3 ht hf
  rw [c0, o0] at g0
  rw [c1, o1] at g1
  rw [c2, o2] at g2
  obtain ⟨I, hI, hI2, wI⟩ := DataW.trod_int h0 g0
  obtain ⟨Z, hZ, hZ2, wZ⟩ := DataW.trod_int h1 g1
  obtain ⟨a, n, c, ls, es, sp, hsl, hln, h32, hnc, hcm, hnil, hcl, hdd⟩ := sums_of_trod h2 he hq cq ce g2
  have hcs : cs = #[.int .i64 I, .int .i64 Z, .slice a n c] := by
    have hsz : cs.size = 3 := by rw [hs, ct]
    obtain ⟨l⟩ := cs
    match l, hsz with
    | [p0, p1, p2], _ =>
      simp [Value.cells] at hI hZ hsl
      rw [hI, hZ, hsl]
  refine ⟨I, Z, a, n, c, ls, by rw [hcs], hln, h32, hnc, hcm, hnil, hcl, y2.1, es, sp, ?_, hdd, wI, wZ⟩
  simp only [Prod.mk.injEq] at hx
  rw [hx.1, hI2, hZ2]
end
end

section
open Go Go.RowKit Go.ChangeShapes Go.WideShapes Go.ChangeAt Go.Deep

theorem mem_weightsU {H : Type} {P : Program} {e : TypeId} : ∀ {ds : List (DataW H)} {d : DataW H}, d ∈ ds → ∀ n ∈ d.weights P e, n ∈ DataW.weightsAll P e ds
  | d0 :: ds, d, hd, n, hn => by
    rw [DataW.weightsAll, List.mem_append]
    rcases List.mem_cons.1 hd with rfl | hd
    · exact .inl hn
    · exact .inr (mem_weightsU hd n hn)
  | [], _, hd, _, _ => by simp at hd
theorem reach_is : reachBytes = 140737488351232 := by decide

section
variable {H : Type} {enc : TypeId × Value → H} {P : Program} {w : World}
theorem strs_of_trod {base f : Nat} {held : Bool} {t e : TypeId} {cs : List Value} {x : DataW H × List MemPlace} (ht : P.underlying t = some (.slice e)) (he : P.underlying e = some .string) (hc : P.cellsOf e = 1) (hb : P.bytesOf e = 16)
    (hf : DataW.trod enc P w base (fun _ => true) held f t cs = some x) (hw : ∀ n ∈ x.1.weights P t, n ≤ reachBytes) :
    ∃ (a : Option Addr) (n c : Nat) (ls : List ByteArray), cs = [.slice a n c] ∧ ls.length = n ∧ n ≤ c ∧ c ≤ 140737488355328 ∧ Cells w a (ls.map encStr) ∧ ∀ s ∈ ls, s.size ≤ 140737488355328 := by
  rcases open_strs ht he hc hf with ⟨rfl, rfl⟩ | ⟨a, len, m0, m, Sx, rfl, hba, hl, hm, rfl, rfl, hcell⟩
  · exact ⟨none, 0, 0, [], rfl, rfl, Nat.le_refl _, Nat.zero_le _, .inl rfl, by simp⟩
  · simp only [if_true] at hcell hw
    have hm : m ≤ 140737488355328 := by
      have := hw ((len + (m - len)) * P.bytesOf e) (by simp [DataW.weights, ht])
      rw [hb, reach_is] at this
      omega
    refine ⟨some a, len, m, (List.range len).map Sx, rfl, by simp, hl, hm, ?_, ?_⟩
    · by_cases h0 : len = 0
      · left; subst h0; rfl
      · obtain ⟨b, off, spot⟩ := a
        have hspot : spot = none := by
          have := World.cell?_spot (hcell 0 (by omega)).1
          simpa [Addr.add] using this
        subst hspot
        refine .inr ⟨b, off, rfl, fun i u hu => ?_⟩
        have hi : i < len := by
          have := (List.getElem?_eq_some_iff.1 hu).1
          simpa using this
        rw [List.getElem?_map, List.getElem?_map, List.getElem?_range hi] at hu
        have h1 := (hcell i (by omega)).1
        rw [addr_add] at h1
        rw [h1]
        exact hu
    · intro s hs
      obtain ⟨i, hi, rfl⟩ := List.mem_map.1 hs
      have hmem : (DataW.lit (.string (Sx i).data.toList) : DataW H) ∈ (List.range len).map fun i => DataW.lit (.string (Sx i).data.toList) := List.mem_map.2 ⟨i, hi, rfl⟩
      have h3 : (Sx i).data.toList.length ∈ (DataW.lit (.string (Sx i).data.toList) : DataW H).weights P e := by simp [DataW.weights]
      have h4 := hw _ (by
        simp only [DataW.weights, ht, List.mem_cons, List.mem_append]
        exact .inr (.inl (mem_weightsU hmem _ h3)))
      rw [Array.length_toList, reach_is] at h4
      have : (Sx i).size = (Sx i).data.size := rfl
      omega
end

theorem weights_part {H : Type} {P : Program} {t : TypeId} {fs : Array Field} {xs : List (DataW H × List MemPlace)} (ht : P.underlying t = some (.struct fs)) {B : Nat} (hw : ∀ n ∈ (DataW.agg (xs.map (·.1))).weights P t, n ≤ B) {i : Nat} {f : Field} {x : DataW H × List MemPlace} (hf : fs.toList[i]? = some f) (hx : xs[i]? = some x) : ∀ n ∈ x.1.weights P f.type, n ≤ B := by
  intro n hn
  refine hw n ?_
  simp only [DataW.weights, ht]
  exact DataW.weights_mem_each (ts := fs.toList.map (·.type)) (j := i) (by rw [List.getElem?_map, hf]; rfl) (by rw [List.getElem?_map, hx]; rfl) n hn
end

section
open Go Go.RowKit Go.ChangeShapes Go.WideShapes Go.ChangeAt Go.Deep

section
variable {H : Type} {enc : TypeId × Value → H} {P : Program} {w : World}
/-- a slice of IDs, its cell read -/
theorem ids_of_trod {base f : Nat} {held : Bool} {t e q : TypeId} {cs : List Value} {x : DataW H × List MemPlace} (ht : P.underlying t = some (.slice e)) (he : P.underlying e = some (.array 16 q)) (hq : P.underlying q = some (.int .u8)) (cq : P.cellsOf q = 1) (ce : P.cellsOf e = 16)
    (hf : DataW.trod enc P w base (fun _ => true) held f t cs = some x) :
    ∃ (a : Option Addr) (n c : Nat) (ls : List (List UInt8)) (es sp : List (DataW H)), cs = [.slice a n c] ∧ ls.length = n ∧ All16 ls ∧ n ≤ c ∧ c ≤ maxLen ∧ (a = none → c = 0) ∧ Cells w a (rows ls) ∧ ((x.1 = .nil ∧ c = 0) ∨ (x.1 = .slice es sp ∧ es.length + sp.length = c)) := by
  rcases DataW.trod_slice ht hf with ⟨h0, h1⟩ | ⟨a, len, cap, elems, rest, n, _, rfl, rfl, hb, hl, hm, hlen, hel, hsp, hns⟩
  · exact ⟨none, 0, 0, [], [], [], h0, rfl, (fun _ h => by cases h), Nat.le_refl _, Nat.zero_le _, fun _ => rfl, .inl rfl, .inl ⟨by rw [h1], rfl⟩⟩
  · have each : ∀ i, i < len → ∃ l : List UInt8, l.length = 16 ∧ CellsAt w (a.add (i * 16)) (l.map u8v) := by
      intro i hi
      have h1 := hel i hi
      have hx : elems[i]? = some (elems[i]'(by omega)) := by simp
      rw [ce, hx, Option.bind_eq_some_iff] at h1
      obtain ⟨cs', hcs, hy⟩ := h1
      obtain ⟨l, hl1, rfl⟩ := octets_of_trod he hq cq ce hy
      exact ⟨l, hl1, (cells?_at hcs).2⟩
    obtain ⟨g, hg⟩ := choose_lt each
    have h32 : All16 ((List.range len).map g) := fun l hl => by
      obtain ⟨i, hi, rfl⟩ := List.mem_map.1 hl
      exact (hg i (List.mem_range.1 hi)).1
    obtain ⟨hrl, _⟩ := hsp rfl
    refine ⟨some a, len, cap, (List.range len).map g, _, _, rfl, by simp, h32, hl, hm, (fun h => by cases h), ?_, .inr ⟨rfl, by simp; omega⟩⟩
    by_cases h0 : len = 0
    · left; subst h0; rfl
    · obtain ⟨hl0, hc0⟩ := hg 0 (by omega)
      obtain ⟨b, off, spot⟩ := a
      have hspot : spot = none := by
        have := hc0 0 (u8v ((g 0)[0]'(by omega))) (by simp [hl0])
        simpa [Addr.add] using World.cell?_spot this
      subst hspot
      refine .inr ⟨b, off, rfl, fun i u hu => ?_⟩
      have hi : i < 16 * len := by
        have := (List.getElem?_eq_some_iff.1 hu).1
        rw [rows_length16 h32] at this; simpa using this
      obtain ⟨_, hcr⟩ := hg (i / 16) (by omega)
      have hrow : ((List.range len).map g)[i / 16]? = some (g (i / 16)) := by
        rw [List.getElem?_map, List.getElem?_range (by omega)]; rfl
      have h3 : ((g (i / 16)).map u8v)[i % 16]? = some u := by
        rw [← rows_at16 h32 hrow (Nat.mod_lt _ (by omega)), Nat.div_add_mod]; exact hu
      have h4 := hcr _ _ h3
      rw [addr_add, addr_add] at h4
      rw [show off + i / 16 * 16 + i % 16 = off + i by omega] at h4
      exact h4

end

section
variable {H : Type} {enc : TypeId × Value → H} {w : World}
set_option maxRecDepth 100000 in
theorem body_of_trod {base f : Nat} {held : Bool} {cs : List Value} {x : DataW H × List MemPlace} (hf : DataW.trod enc Try.prog w base (fun _ => true) held f 72 cs = some x) (hw : ∀ n ∈ x.1.weights Try.prog 72, n ≤ reachBytes) :
    ∃ b : BodyR, cs = b.v ∧ b.Ok w := by
  have ht := Try.underlying72
  obtain ⟨xs, m, _, rfl, hl, hlen, hfs⟩ := DataW.trod_struct ht hf
  have ct : Try.prog.cellsOf 72 = 58 := by kernel_rfl
  have cid : Try.prog.cellsOf 68 = 16 := by kernel_rfl
  have csm : Try.prog.cellsOf 32 = 32 := by kernel_rfl
  have css : Try.prog.cellsOf 69 = 1 := by kernel_rfl
  have csi : Try.prog.cellsOf 70 = 1 := by kernel_rfl
  have c3 : Try.prog.cellsOf 3 = 1 := by kernel_rfl
  have c5 : Try.prog.cellsOf 5 = 1 := by kernel_rfl
  have c9 : Try.prog.cellsOf 9 = 1 := by kernel_rfl
  rw [ct] at hl
  match xs, hlen with
  | [y0, y1, y2, y3, y4, y5, y6, y7, y8, y9, y10, y11], _ =>
  have g0 : DataW.trod enc Try.prog w base (fun _ => true) held m 9 ((cs.drop 0).take 1) = some y0 := by rw [← c9]; exact hfs 0 _ rfl
  have g1 : DataW.trod enc Try.prog w base (fun _ => true) held m 68 ((cs.drop 1).take 16) = some y1 := by rw [← cid]; exact hfs 1 _ rfl
  have g2 : DataW.trod enc Try.prog w base (fun _ => true) held m 69 ((cs.drop 17).take 1) = some y2 := by rw [← css]; exact hfs 2 _ rfl
  have g3 : DataW.trod enc Try.prog w base (fun _ => true) held m 9 ((cs.drop 18).take 1) = some y3 := by rw [← c9]; exact hfs 3 _ rfl
  have g4 : DataW.trod enc Try.prog w base (fun _ => true) held m 32 ((cs.drop 19).take 32) = some y4 := by rw [← csm]; exact hfs 4 _ rfl
  have g5 : DataW.trod enc Try.prog w base (fun _ => true) held m 3 ((cs.drop 51).take 1) = some y5 := by rw [← c3]; exact hfs 5 _ rfl
  have g6 : DataW.trod enc Try.prog w base (fun _ => true) held m 3 ((cs.drop 52).take 1) = some y6 := by rw [← c3]; exact hfs 6 _ rfl
  have g7 : DataW.trod enc Try.prog w base (fun _ => true) held m 3 ((cs.drop 53).take 1) = some y7 := by rw [← c3]; exact hfs 7 _ rfl
  have g8 : DataW.trod enc Try.prog w base (fun _ => true) held m 3 ((cs.drop 54).take 1) = some y8 := by rw [← c3]; exact hfs 8 _ rfl
  have g9 : DataW.trod enc Try.prog w base (fun _ => true) held m 3 ((cs.drop 55).take 1) = some y9 := by rw [← c3]; exact hfs 9 _ rfl
  have g10 : DataW.trod enc Try.prog w base (fun _ => true) held m 3 ((cs.drop 56).take 1) = some y10 := by rw [← c3]; exact hfs 10 _ rfl
  have g11 : DataW.trod enc Try.prog w base (fun _ => true) held m 70 ((cs.drop 57).take 1) = some y11 := by rw [← csi]; exact hfs 11 _ rfl
  have w0 := weights_part ht hw (i := 0) rfl rfl
  have w2 := weights_part ht hw (i := 2) rfl rfl
  have w3 := weights_part ht hw (i := 3) rfl rfl
  have w11 := weights_part ht hw (i := 11) rfl rfl
  obtain ⟨s0, h0, hx0, _⟩ := DataW.trod_string Try.underlying9 g0
  obtain ⟨l1, hl1, h1⟩ := octets_of_trod Try.underlying68 Try.underlying5 c5 cid g1
  obtain ⟨a2, n2, c2, l2, h2, p1, p2, p3, p4, p5⟩ := strs_of_trod Try.underlying69 Try.underlying9 c9 (by kernel_rfl) g2 w2
  obtain ⟨s3, h3, hx3, _⟩ := DataW.trod_string Try.underlying9 g3
  obtain ⟨l4, hl4, h4⟩ := octets_of_trod Try.underlying32 Try.underlying5 c5 csm g4
  obtain ⟨z5, h5, _, _⟩ := DataW.trod_int Try.underlying3 g5
  obtain ⟨z6, h6, _, _⟩ := DataW.trod_int Try.underlying3 g6
  obtain ⟨z7, h7, _, _⟩ := DataW.trod_int Try.underlying3 g7
  obtain ⟨z8, h8, _, _⟩ := DataW.trod_int Try.underlying3 g8
  obtain ⟨z9, h9, _, _⟩ := DataW.trod_int Try.underlying3 g9
  obtain ⟨z10, h10, _, _⟩ := DataW.trod_int Try.underlying3 g10
  obtain ⟨a11, n11, c11, l11, es, sp, h11, q1, q2, q3, q4, q5, q6, q7⟩ := ids_of_trod Try.underlying70 Try.underlying68 Try.underlying5 c5 cid g11
  have hcap : c11 ≤ 140737488355328 := by
    rcases q7 with ⟨_, hc⟩ | ⟨hx, hc⟩
    · omega
    · have hbid : Try.prog.bytesOf 68 = 16 := by kernel_rfl
      have := w11 (es.length * Try.prog.bytesOf 68 + sp.length * Try.prog.bytesOf 68) (by rw [hx]; simp [DataW.weights, Try.underlying70, Nat.add_mul])
      rw [hbid, reach_is] at this
      omega
  have hs0 : s0.size ≤ 140737488355328 := by
    have := w0 s0.data.toList.length (by rw [hx0]; simp [DataW.weights])
    rw [Array.length_toList, reach_is] at this
    have e : s0.size = s0.data.size := rfl
    omega
  have hs3 : s3.size ≤ 140737488355328 := by
    have := w3 s3.data.toList.length (by rw [hx3]; simp [DataW.weights])
    rw [Array.length_toList, reach_is] at this
    have e : s3.size = s3.data.size := rfl
    omega
  have hn2 : n2 ≤ 140737488355328 := by omega
  have hn11 : n11 ≤ 140737488355328 := by omega
  refine ⟨⟨s0, l1, a2, n2, c2, l2, s3, l4, z5, z6, z7, z8, z9, z10, a11, n11, c11, l11⟩, ?_, ⟨hs0, hl1, hl4, p1, p2, hn2, p4, p5, hs3, q1, q3, hn11, q2, q6⟩⟩
  unfold BodyR.v BodyR.t
  have e : ∀ p q : Nat, cs.take p ++ (cs.drop p).take q = cs.take (p + q) := fun p q => List.take_add.symm
  have s1 : cs = cs.take 1 ++ (cs.drop 1).take 16 ++ (cs.drop 17).take 1 ++ (cs.drop 18).take 1 ++ (cs.drop 19).take 32 ++ (cs.drop 51).take 1 ++ (cs.drop 52).take 1 ++ (cs.drop 53).take 1 ++ (cs.drop 54).take 1 ++ (cs.drop 55).take 1 ++ (cs.drop 56).take 1 ++ (cs.drop 57).take 1 := by
    rw [e 1 16, e 17 1, e 18 1, e 19 32, e 51 1, e 52 1, e 53 1, e 54 1, e 55 1, e 56 1, e 57 1, List.take_of_length_le (by omega)]
  rw [List.drop_zero] at h0
  rw [s1, h0, h1, h2, h3, h4, h5, h6, h7, h8, h9, h10, h11]
  simp

set_option maxRecDepth 100000 in
theorem open_body {r : Reach} {b0 base : Nat} {held : Bool} {v : Value} {d : DataW H} {ps : List MemPlace} {ts : List TypeId} {ds : List (DataW H)} {j : Nat} (hsz : (DataW.weightsEach Try.prog ts ds).all (· ≤ reachBytes) = true)
    (hval : Value.okWide Try.prog w r b0 72 v) (hd : DataW.Trod enc Try.prog w base (fun _ => true) held 72 v d ps) (htj : ts[j]? = some 72) (hdj : ds[j]? = some d) : ∃ q : BodyR, v = .agg q.v.toArray ∧ q.Ok w := by
  have hw := fun n hn => of_decide_eq_true (List.all_eq_true.1 hsz n (DataW.weights_mem_each htj hdj n hn))
  obtain ⟨cs, rfl, hs⟩ := okWide_struct Try.underlying72 hval
  obtain ⟨fuel, hf⟩ := hd
  obtain ⟨q, hq, hok⟩ := body_of_trod hf hw
  exact ⟨q, by rw [← hq]; rfl, hok⟩
end
end

section
open Go Go.RowKit Go.ChangeShapes Go.WideShapes Go.ChangeAt Go.Deep

section
variable {H : Type} {enc : TypeId × Value → H} {P : Program} {w : World}
/-- a slice of octets, its cell read -/
theorem bytes_of_trod {base f : Nat} {held : Bool} {t e : TypeId} {cs : List Value} {x : DataW H × List MemPlace} (ht : P.underlying t = some (.slice e)) (he : P.underlying e = some (.int .u8)) (hce : P.cellsOf e = 1)
    (hf : DataW.trod enc P w base (fun _ => true) held f t cs = some x) :
    ∃ (a : Option Addr) (n c : Nat) (l : List UInt8) (es sp : List (DataW H)), cs = [.slice a n c] ∧ l.length = n ∧ n ≤ c ∧ (a = none → c = 0) ∧ Cells w a (l.map u8v) ∧ ((x.1 = .nil ∧ c = 0) ∨ (x.1 = .slice es sp ∧ es.length + sp.length = c)) := by
  rcases open_ints ht he hce hf with ⟨hcs, hx⟩ | ⟨ad, n, c, zs, hcs, _, hle, hmax, hlen, hx, hcell, hwf⟩
  · subst hcs
    exact ⟨none, 0, 0, [], [], [], rfl, rfl, Nat.le_refl _, fun _ => rfl, .inl rfl, .inl ⟨by rw [hx], rfl⟩⟩
  · subst hcs
    simp only [if_true] at hlen
    obtain ⟨l, hl⟩ := u8s_of ((zs.take n).map (Value.int .u8)) fun i u hu => by
      have hm := List.mem_of_getElem? hu
      obtain ⟨z, hz, rfl⟩ := List.mem_map.1 hm
      exact u8_of (hwf z (List.mem_of_mem_take hz))
    have hll : l.length = n := by
      have := congrArg List.length hl
      simp only [List.length_map, List.length_take] at this
      omega
    refine ⟨some ad, n, c, l, lits .u8 (zs.take n), lits .u8 (zs.drop n), rfl, hll, hle, (fun h => by cases h), ?_, .inr ⟨by rw [hx], ?_⟩⟩
    · by_cases hn : n = 0
      · left
        have : l = [] := List.length_eq_zero_iff.1 (by omega)
        rw [this]; rfl
      · obtain ⟨b, off, rfl, hat⟩ := ints_at hcell (by omega)
        refine .inr ⟨b, off, rfl, fun i u hu => ?_⟩
        rw [← hl] at hu
        have hi : i < n := by
          have := (List.getElem?_eq_some_iff.1 hu).1
          simp at this; omega
        rw [hat i (by omega)]
        rw [List.getElem?_map, List.getElem?_take_of_lt hi] at hu
        rw [List.getD_eq_getElem?_getD]
        cases hz : zs[i]? with
        | none => rw [hz] at hu; simp at hu
        | some z => rw [hz] at hu; simpa using hu
    · simp [lits]; omega
end

section
variable {H : Type} {enc : TypeId × Value → H} {w : World}
set_option maxRecDepth 100000 in
theorem entry_of_trod {base f : Nat} {held : Bool} {cs : List Value} {x : DataW H × List MemPlace} (hf : DataW.trod enc Try.prog w base (fun _ => true) held f 79 cs = some x) (hw : ∀ n ∈ x.1.weights Try.prog 79, n ≤ reachBytes) :
    ∃ b : EntR, cs = b.v ∧ b.Ok w := by
  have ht := Try.underlying79
  obtain ⟨xs, m, _, rfl, hl, hlen, hfs⟩ := DataW.trod_struct ht hf
  have ct : Try.prog.cellsOf 79 = 68 := by kernel_rfl
  have cid : Try.prog.cellsOf 68 = 16 := by kernel_rfl
  have csm : Try.prog.cellsOf 32 = 32 := by kernel_rfl
  have cby : Try.prog.cellsOf 28 = 1 := by kernel_rfl
  have c3 : Try.prog.cellsOf 3 = 1 := by kernel_rfl
  have c5 : Try.prog.cellsOf 5 = 1 := by kernel_rfl
  rw [ct] at hl
  match xs, hlen with
  | [y0, y1, y2, y3, y4, y5, y6], _ =>
  have g0 : DataW.trod enc Try.prog w base (fun _ => true) held m 3 ((cs.drop 0).take 1) = some y0 := by rw [← c3]; exact hfs 0 _ rfl
  have g1 : DataW.trod enc Try.prog w base (fun _ => true) held m 3 ((cs.drop 1).take 1) = some y1 := by rw [← c3]; exact hfs 1 _ rfl
  have g2 : DataW.trod enc Try.prog w base (fun _ => true) held m 3 ((cs.drop 2).take 1) = some y2 := by rw [← c3]; exact hfs 2 _ rfl
  have g3 : DataW.trod enc Try.prog w base (fun _ => true) held m 68 ((cs.drop 3).take 16) = some y3 := by rw [← cid]; exact hfs 3 _ rfl
  have g4 : DataW.trod enc Try.prog w base (fun _ => true) held m 68 ((cs.drop 19).take 16) = some y4 := by rw [← cid]; exact hfs 4 _ rfl
  have g5 : DataW.trod enc Try.prog w base (fun _ => true) held m 32 ((cs.drop 35).take 32) = some y5 := by rw [← csm]; exact hfs 5 _ rfl
  have g6 : DataW.trod enc Try.prog w base (fun _ => true) held m 28 ((cs.drop 67).take 1) = some y6 := by rw [← cby]; exact hfs 6 _ rfl
  have w6 := weights_part ht hw (i := 6) rfl rfl
  obtain ⟨z0, h0, _, _⟩ := DataW.trod_int Try.underlying3 g0
  obtain ⟨z1, h1, _, _⟩ := DataW.trod_int Try.underlying3 g1
  obtain ⟨z2, h2, _, _⟩ := DataW.trod_int Try.underlying3 g2
  obtain ⟨l3, hl3, h3⟩ := octets_of_trod Try.underlying68 Try.underlying5 c5 cid g3
  obtain ⟨l4, hl4, h4⟩ := octets_of_trod Try.underlying68 Try.underlying5 c5 cid g4
  obtain ⟨l5, hl5, h5⟩ := octets_of_trod Try.underlying32 Try.underlying5 c5 csm g5
  obtain ⟨a6, n6, c6, l6, es, sp, h6, q1, q2, q3, q4, q7⟩ := bytes_of_trod Try.underlying28 Try.underlying5 c5 g6
  have hcap : c6 ≤ 140737488355328 := by
    rcases q7 with ⟨_, hc⟩ | ⟨hx, hc⟩
    · omega
    · have hbid : Try.prog.bytesOf 5 = 1 := by kernel_rfl
      have := w6 (es.length * Try.prog.bytesOf 5 + sp.length * Try.prog.bytesOf 5) (by rw [hx]; simp [DataW.weights, Try.underlying28, Nat.add_mul])
      rw [hbid, reach_is] at this
      omega
  have hn6 : n6 ≤ 140737488355328 := by omega
  refine ⟨⟨z0, z1, z2, l3, l4, l5, a6, n6, c6, l6⟩, ?_, ⟨hl3, hl4, hl5, q1, q2, hn6, fun h => by have h9 : c6 = 0 := q3 h; exact ⟨by show n6 = 0; omega, h9⟩, q4⟩⟩
  unfold EntR.v
  have e : ∀ p q : Nat, cs.take p ++ (cs.drop p).take q = cs.take (p + q) := fun p q => List.take_add.symm
  have s1 : cs = cs.take 1 ++ (cs.drop 1).take 1 ++ (cs.drop 2).take 1 ++ (cs.drop 3).take 16 ++ (cs.drop 19).take 16 ++ (cs.drop 35).take 32 ++ (cs.drop 67).take 1 := by
    rw [e 1 1, e 2 1, e 3 16, e 19 16, e 35 32, e 67 1, List.take_of_length_le (by omega)]
  rw [List.drop_zero] at h0
  rw [s1, h0, h1, h2, h3, h4, h5, h6]
  simp

set_option maxRecDepth 100000 in
theorem open_entry {r : Reach} {b0 base : Nat} {held : Bool} {v : Value} {d : DataW H} {ps : List MemPlace} {ts : List TypeId} {ds : List (DataW H)} {j : Nat} (hsz : (DataW.weightsEach Try.prog ts ds).all (· ≤ reachBytes) = true)
    (hval : Value.okWide Try.prog w r b0 79 v) (hd : DataW.Trod enc Try.prog w base (fun _ => true) held 79 v d ps) (htj : ts[j]? = some 79) (hdj : ds[j]? = some d) : ∃ q : EntR, v = .agg q.v.toArray ∧ q.Ok w := by
  have hw := fun n hn => of_decide_eq_true (List.all_eq_true.1 hsz n (DataW.weights_mem_each htj hdj n hn))
  obtain ⟨cs, rfl, hs⟩ := okWide_struct Try.underlying79 hval
  obtain ⟨fuel, hf⟩ := hd
  obtain ⟨q, hq, hok⟩ := entry_of_trod hf hw
  exact ⟨q, by rw [← hq]; rfl, hok⟩
end
end
end Go.Proofs.Ytkcjdginoccgjaa
