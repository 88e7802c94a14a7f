/- TagOf and SealOf: what they compute; conditions: the key's length, the text's size. -/
import Derived.Test.YtjgglnflicemjaaP11
import Derived.Test.YtjgglnflicemjaaN10
namespace Go.Proofs.Ytjgglnflicemjaa
open Go Go.RowKit

theorem agg_tag : AggT Try.prog 72 16 := ⟨⟨_, Try.underlying72, rfl⟩, by kernel_rfl⟩
theorem agg_seal : AggT Try.prog 75 64 := ⟨⟨_, Try.underlying75, rfl⟩, by kernel_rfl⟩
theorem agg_key : AggT Try.prog 54 32 := ⟨⟨_, Try.underlying54, rfl⟩, by kernel_rfl⟩

/-- the tag of a text -/
def tagL (k t : List UInt8) : List UInt8 := (sumL 8 (k ++ t)).take 16
theorem tagL_length (k t : List UInt8) : (tagL k t).length = 16 := by rw [tagL, List.length_take, sumL_length]; rfl
def sealL (k t : List UInt8) : List UInt8 := stirL (finL (initS 9) (k ++ t) (k ++ t).length)
theorem sealL_length (k t : List UInt8) : (sealL k t).length = 64 := stirL_length _

theorem nil0 {w : World} {a : Option Addr} {t : List UInt8} {n c : Nat} (hcl : Cells w a (t.map u8v)) (ht : t.length = n) (h0 : a = none → c = 0) : a = none → n = 0 ∧ c = 0 := by
  intro e
  refine ⟨?_, h0 e⟩
  rcases hcl with h | ⟨b, o, h, _⟩
  · have h1 := congrArg List.length h
    rw [List.length_map, ht] at h1
    exact h1
  · rw [e] at h; cases h

def zeros (n : Nat) : Value := .agg (List.replicate n (.int .u8 0)).toArray
theorem one_zeros (n : Nat) : ∀ v ∈ List.replicate n (Value.int .u8 0), v.oneCell' = true := by intro v hv; rw [List.mem_replicate] at hv; rw [hv.2]; rfl

set_option maxRecDepth 100000 in
set_option maxHeartbeats 1000000 in
theorem tagOf_c (k t : List UInt8) (n c : Nat) (a : Option Addr) (w : World) (hk : k.length = 32) (ht : t.length = n) (hnc : n ≤ c) (hc : c ≤ 140737488355328) (h0 : a = none → c = 0) (hcl : Cells w a (t.map u8v)) :
    Calls Try.prog 39 #[.agg (k.map u8v).toArray, .slice a n c] w fun e w' => e = .returned (if n ≤ 1048544 then .tuple #[.agg ((tagL k t).map u8v).toArray, .int .i64 0] else .tuple #[zeros 16, .int .i64 5]) ∧ Ext w w' := by
  have HT := hid ht
  have HK := hid hk
  have HC := hid hcl
  have H0 := hid h0
  clear ht hk hcl h0
  go_enter Try.func39, Try.ntmps39
  go_wp2_with fail
  generalize hwA : World.alloc (World.alloc (World.alloc w _) _) _ = wA
  have kA : Blk wA w.heap.size (k.map u8v) 54 := by rw [← hwA]; exact ((Blk.mk_alloc rfl rfl).alloc _).alloc _
  have zA : Blk wA (w.heap.size + 1) (List.replicate 16 (.int .u8 0)) 72 := by rw [← hwA]; exact (Blk.mk_alloc (by simp) rfl).alloc _
  have gA : Blk wA (w.heap.size + 2) [.slice (some ⟨w.heap.size, 0, none⟩) 32 32, .slice a n c] 26 := by rw [← hwA]; exact Blk.mk_alloc (by simp) rfl
  have eA : Ext w wA := by rw [← hwA]; exact (((Ext.refl w).alloc _).alloc _).alloc _
  clear hwA
  have hcat : cat [(some ⟨w.heap.size, 0, none⟩, 32, k), (a, c, t)] = k ++ t := by simp [cat]
  refine (summed_c [(some ⟨w.heap.size, 0, none⟩, 32, k), (a, c, t)] 8 (w.heap.size + 2) 2 2 wA rfl (by omega) ?hg gA.lt ?hc ?hn ?hnc ?hcm).mono ?_
  case hg =>
    intro i it hit
    match i, hit with
    | 0, hit => cases hit; rw [itemV]; simp only; rw [HK.out]; exact gA.cell' rfl
    | 1, hit => cases hit; rw [itemV]; simp only; rw [HT.out]; exact gA.cell' rfl
  case hc =>
    intro it hit
    simp only [List.mem_cons, List.not_mem_nil, or_false] at hit
    rcases hit with rfl | rfl
    · exact Cells.of_blk0 kA
    · exact HC.out.ext eA
  case hn =>
    intro it hit
    simp only [List.mem_cons, List.not_mem_nil, or_false] at hit
    rcases hit with rfl | rfl
    · intro h; cases h
    · exact H0.out
  case hnc =>
    intro it hit
    simp only [List.mem_cons, List.not_mem_nil, or_false] at hit
    rcases hit with rfl | rfl
    · rw [HK.out]; exact Nat.le_refl _
    · rw [HT.out]; exact hnc
  case hcm =>
    intro it hit
    simp only [List.mem_cons, List.not_mem_nil, or_false] at hit
    rcases hit with rfl | rfl
    · simp
    · exact hc
  intro e w1 h
  rw [hcat] at h
  unfold summedPost at h
  obtain ⟨h, e1⟩ := h
  rw [if_neg (by omega)] at h
  have hlen : (k ++ t).length = 32 + n := by rw [List.length_append, HK.out, HT.out]
  have HZ1 := hid (zA.ext e1)
  have HE1 := hid (eA.ext e1)
  clear kA zA gA eA e1 hcat
  by_cases hfit : n ≤ 1048544
  · rw [if_pos (by omega)] at h
    obtain ⟨rfl, h1⟩ := h
    simp only [if_pos hfit]
    have HTL : Hid (((tagL k t).map u8v).length = 16) := hid (by rw [List.length_map, tagL_length])
    have HSL : Hid (((sumL 8 (k ++ t)).map u8v).length = 32) := hid (by rw [List.length_map, sumL_length])
    have HTK : Hid ((((sumL 8 (k ++ t)).map u8v).drop 0).take 16 = (tagL k t).map u8v) := hid (by rw [List.drop_zero, tagL, List.map_take])
    have hsum := sum_c (initS 8) (k ++ t) (k ++ t).length wA.heap.size SmT w1 (initS_length 8) (by omega) h1
    rw [show (finL (initS 8) (k ++ t) (k ++ t).length).take 32 = sumL 8 (k ++ t) from rfl] at hsum
    have o1 := one_u8 (sumL 8 (k ++ t))
    have o2 := one_u8 (tagL k t)
    generalize (sumL 8 (k ++ t)).map u8v = sv at *
    generalize htv : (tagL k t).map u8v = tv at *
    have HTV := hid htv
    clear h1 htv hlen
    have har := run_arrayAt (P := Try.prog) Try.underlying72 (len := 16) (Nat.le_refl 16)
    go_wp2_with fail
    refine hsum.mono ?_
    rintro e w2 ⟨rfl, e2⟩
    have HZ2 := hid (HZ1.out.ext e2)
    have HE2 := hid (HE1.out.ext e2)
    clear e2 hsum
    go_wp2_with (refine wpl_storew rfl _ _ _ rfl rfl rfl (Blk.mk_alloc rfl rfl) agg_apisum rfl HSL.out o1 ?_)
    intro w3 b3 u3
    have e3 : Ext w2 w3 := u3.ext ((Ext.refl w2).alloc _) (Nat.le_refl _)
    have HZ3 := hid (HZ2.out.ext e3)
    have HE3 := hid (HE2.out.ext e3)
    clear e3 u3
    go_wp2_with (first | (refine wpl_loadp rfl _ _ rfl rfl b3 agg_tag (by rw [HSL.out]; omega) HTK.out ?_) | refine wpl_storew rfl _ _ _ rfl rfl rfl HZ3.out agg_tag (by simp) HTL.out o2 ?_)
    intro w4 b4 u4
    go_wp2
    refine ret_row2 rfl rfl b4 agg_tag HTL.out rfl ⟨by rw [HTV.out]; rfl, u4.ext HE3.out (by omega)⟩
  · rw [if_neg (by omega)] at h
    subst h
    simp only [if_neg hfit]
    clear hlen
    go_wp2_with (refine wpl_storew rfl _ _ _ rfl rfl rfl HZ1.out agg_tag (by simp) (xs := List.replicate 16 (.int .u8 0)) (by simp) (one_zeros 16) ?_)
    intro w4 b4 u4
    go_wp2
    refine ret_row2 rfl rfl b4 agg_tag (by simp) rfl ⟨by unfold zeros; rfl, u4.ext HE1.out (by omega)⟩

set_option maxRecDepth 100000 in
set_option maxHeartbeats 1000000 in
theorem sealOf_c (k t : List UInt8) (n c : Nat) (a : Option Addr) (w : World) (hk : k.length = 32) (ht : t.length = n) (hnc : n ≤ c) (hc : c ≤ 140737488355328) (h0 : a = none → c = 0) (hcl : Cells w a (t.map u8v)) :
    Calls Try.prog 40 #[.agg (k.map u8v).toArray, .slice a n c] w fun e w' => e = .returned (if n ≤ 1048544 then .tuple #[.agg ((sealL k t).map u8v).toArray, .int .i64 0] else .tuple #[zeros 64, .int .i64 5]) ∧ Ext w w' := by
  have HT := hid ht
  have HK := hid hk
  have HC := hid hcl
  have H0 := hid h0
  clear ht hk hcl h0
  go_enter Try.func40, Try.ntmps40
  go_wp2_with fail
  generalize hwA : World.alloc (World.alloc (World.alloc w _) _) _ = wA
  have kA : Blk wA w.heap.size (k.map u8v) 54 := by rw [← hwA]; exact ((Blk.mk_alloc rfl rfl).alloc _).alloc _
  have zA : Blk wA (w.heap.size + 1) (List.replicate 64 (.int .u8 0)) 75 := by rw [← hwA]; exact (Blk.mk_alloc (by simp) rfl).alloc _
  have gA : Blk wA (w.heap.size + 2) [.slice (some ⟨w.heap.size, 0, none⟩) 32 32, .slice a n c] 26 := by rw [← hwA]; exact Blk.mk_alloc (by simp) rfl
  have eA : Ext w wA := by rw [← hwA]; exact (((Ext.refl w).alloc _).alloc _).alloc _
  clear hwA
  have hcat : cat [(some ⟨w.heap.size, 0, none⟩, 32, k), (a, c, t)] = k ++ t := by simp [cat]
  refine (summed_c [(some ⟨w.heap.size, 0, none⟩, 32, k), (a, c, t)] 9 (w.heap.size + 2) 2 2 wA rfl (by omega) ?hg gA.lt ?hc ?hn ?hnc ?hcm).mono ?_
  case hg =>
    intro i it hit
    match i, hit with
    | 0, hit => cases hit; rw [itemV]; simp only; rw [HK.out]; exact gA.cell' rfl
    | 1, hit => cases hit; rw [itemV]; simp only; rw [HT.out]; exact gA.cell' rfl
  case hc =>
    intro it hit
    simp only [List.mem_cons, List.not_mem_nil, or_false] at hit
    rcases hit with rfl | rfl
    · exact Cells.of_blk0 kA
    · exact HC.out.ext eA
  case hn =>
    intro it hit
    simp only [List.mem_cons, List.not_mem_nil, or_false] at hit
    rcases hit with rfl | rfl
    · intro h; cases h
    · exact H0.out
  case hnc =>
    intro it hit
    simp only [List.mem_cons, List.not_mem_nil, or_false] at hit
    rcases hit with rfl | rfl
    · rw [HK.out]; exact Nat.le_refl _
    · rw [HT.out]; exact hnc
  case hcm =>
    intro it hit
    simp only [List.mem_cons, List.not_mem_nil, or_false] at hit
    rcases hit with rfl | rfl
    · simp
    · exact hc
  intro e w1 h
  rw [hcat] at h
  unfold summedPost at h
  obtain ⟨h, e1⟩ := h
  rw [if_neg (by omega)] at h
  have hlen : (k ++ t).length = 32 + n := by rw [List.length_append, HK.out, HT.out]
  have HZ1 := hid (zA.ext e1)
  have HE1 := hid (eA.ext e1)
  clear kA zA gA eA e1 hcat
  by_cases hfit : n ≤ 1048544
  · rw [if_pos (by omega)] at h
    obtain ⟨rfl, h1⟩ := h
    simp only [if_pos hfit]
    have HSL : Hid (((sealL k t).map u8v).length = 64) := hid (by rw [List.length_map, sealL_length])
    have hend := end_c (initS 9) (k ++ t) (k ++ t).length wA.heap.size SmT w1 (initS_length 9) (by omega) h1
    have hst := fun w => stir_c (finL (initS 9) (k ++ t) (k ++ t).length) (finL_length _ _ _) w
    rw [show stirL (finL (initS 9) (k ++ t) (k ++ t).length) = sealL k t from rfl] at hst
    have o1 := one_u8 (sealL k t)
    generalize (finL (initS 9) (k ++ t) (k ++ t).length).map u8v = fv at *
    generalize hsv : (sealL k t).map u8v = sv at *
    have HSV := hid hsv
    clear h1 hsv hlen
    go_wp2_with fail
    refine hend.mono ?_
    rintro e w2 ⟨rfl, e2⟩
    have HZ2 := hid (HZ1.out.ext e2)
    have HE2 := hid (HE1.out.ext e2)
    clear e2 hend
    go_wp2_with fail
    refine (hst w2).mono ?_
    rintro e w3 ⟨rfl, e3⟩
    have HZ3 := hid (HZ2.out.ext e3)
    have HE3 := hid (HE2.out.ext e3)
    clear e3 hst
    go_wp2_with (refine wpl_storew rfl _ _ _ rfl rfl rfl HZ3.out agg_seal (by simp) HSL.out o1 ?_)
    intro w4 b4 u4
    go_wp2
    refine ret_row2 rfl rfl b4 agg_seal HSL.out rfl ⟨by rw [HSV.out]; rfl, u4.ext HE3.out (by omega)⟩
  · rw [if_neg (by omega)] at h
    subst h
    simp only [if_neg hfit]
    clear hlen
    go_wp2_with (refine wpl_storew rfl _ _ _ rfl rfl rfl HZ1.out agg_seal (by simp) (xs := List.replicate 64 (.int .u8 0)) (by simp) (one_zeros 64) ?_)
    intro w4 b4 u4
    go_wp2
    refine ret_row2 rfl rfl b4 agg_seal (by simp) rfl ⟨by unfold zeros; rfl, u4.ext HE1.out (by omega)⟩
end Go.Proofs.Ytjgglnflicemjaa
