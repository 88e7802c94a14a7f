/- SumOf, short and Framed: what they compute; conditions: the sizes. -/
import Derived.Test.YtjgglnflicemjaaP19
namespace Go.Proofs.Ytjgglnflicemjaa
open Go Go.RowKit

def sumOfV (d : Int) (t : List UInt8) (n : Nat) : Value :=
  if d < 0 ∨ 255 < d then .tuple #[zeros 32, .int .i64 3] else if n ≤ 1048576 then .tuple #[.agg ((sumL d t).map u8v).toArray, .int .i64 0] else .tuple #[zeros 32, .int .i64 5]

set_option maxRecDepth 100000 in
set_option maxHeartbeats 1000000 in
theorem sumOf_c (d : Int) (t : List UInt8) (n c : Nat) (a : Option Addr) (w : World) (ht : t.length = n) (hnc : n ≤ c) (hc : c ≤ 140737488355328) (h0 : a = none → c = 0) (hcl : Cells w a (t.map u8v)) :
    Calls Try.prog 43 #[.int .i64 d, .slice a n c] w fun e w' => e = .returned (sumOfV d t n) ∧ Ext w w' := by
  obtain ⟨V, hV⟩ : ∃ V, sumOfV d t n = V := ⟨_, rfl⟩
  rw [hV]
  unfold sumOfV at hV
  have HV := hid hV
  have HT := hid ht
  have HC := hid hcl
  have H0 := hid h0
  clear ht hcl h0 hV
  go_enter Try.func43, Try.ntmps43
  go_wp2_with fail
  generalize hwA : World.alloc (World.alloc w _) _ = wA
  have zA : Blk wA w.heap.size (List.replicate 32 (.int .u8 0)) 65 := by rw [← hwA]; exact (Blk.mk_alloc rfl rfl).alloc _
  have gA : Blk wA (w.heap.size + 1) [.slice a n c] 26 := by rw [← hwA]; exact Blk.mk_alloc (by simp) rfl
  have eA : Ext w wA := by rw [← hwA]; exact ((Ext.refl w).alloc _).alloc _
  clear hwA
  have hcat : cat [(a, c, t)] = t := by simp [cat]
  refine (summed_c [(a, c, t)] d (w.heap.size + 1) 1 1 wA rfl (by omega) ?hg gA.lt ?hc ?hn ?hnc ?hcm).mono ?_
  case hg =>
    intro i it hit
    match i, hit with
    | 0, hit => cases hit; rw [itemV]; simp only; rw [HT.out]; exact gA.cell' rfl
  case hc =>
    intro it hit
    simp only [List.mem_cons, List.not_mem_nil, or_false] at hit
    subst hit
    exact HC.out.ext eA
  case hn =>
    intro it hit
    simp only [List.mem_cons, List.not_mem_nil, or_false] at hit
    subst hit
    exact H0.out
  case hnc =>
    intro it hit
    simp only [List.mem_cons, List.not_mem_nil, or_false] at hit
    subst hit
    simp only
    rw [HT.out]; exact hnc
  case hcm =>
    intro it hit
    simp only [List.mem_cons, List.not_mem_nil, or_false] at hit
    subst hit
    exact hc
  intro e w1 h
  rw [hcat] at h
  unfold summedPost at h
  rw [HT.out] at h
  obtain ⟨h, e1⟩ := h
  have HZ1 := hid (zA.ext e1)
  have HE1 := hid (eA.ext e1)
  have hlA : w.heap.size < wA.heap.size := zA.lt
  clear zA gA eA e1 hcat
  by_cases hd : d < 0 ∨ 255 < d
  · rw [if_pos hd] at h
    have hv := HV.out
    rw [if_pos hd] at hv
    subst h
    have HV2 := hid hv
    clear hd hv HV
    go_wp2_with (refine wpl_storew rfl _ _ _ rfl rfl rfl HZ1.out agg_apisum (by simp) (xs := List.replicate 32 (.int .u8 0)) (by simp) (one_zeros 32) ?_)
    intro w4 b4 u4
    go_wp2
    refine ret_row2 rfl rfl b4 agg_apisum (by simp) rfl ⟨by rw [← HV2.out]; unfold zeros; rfl, u4.ext HE1.out (by omega)⟩
  · rw [if_neg hd] at h
    have hv := HV.out
    rw [if_neg hd] at hv
    by_cases hfit : n ≤ 1048576
    · rw [if_pos hfit] at h hv
      obtain ⟨rfl, h1⟩ := h
      have hsm := sum_c (initS d) t n wA.heap.size SmT w1 (initS_length d) (by omega) h1
      rw [show (finL (initS d) t n).take 32 = sumL d t by rw [sumL, HT.out]] at hsm
      have HSL : Hid (((sumL d t).map u8v).length = 32) := hid (by rw [List.length_map, sumL_length])
      have o1 := one_u8 (sumL d t)
      generalize (sumL d t).map u8v = sv at *
      have HV2 := hid hv
      have HSM := hid hsm
      clear hd hv HV hsm h1 hfit
      go_wp2_with fail
      refine HSM.out.mono ?_
      rintro e w2 ⟨rfl, e2⟩
      have HZ2 := hid (HZ1.out.ext e2)
      have HE2 := hid (HE1.out.ext e2)
      clear e2 HSM
      go_wp2_with (refine wpl_storew rfl _ _ _ rfl rfl rfl HZ2.out agg_apisum (by simp) HSL.out o1 ?_)
      intro w4 b4 u4
      go_wp2
      refine ret_row2 rfl rfl b4 agg_apisum HSL.out rfl ⟨by rw [← HV2.out]; rfl, u4.ext HE2.out (by omega)⟩
    · rw [if_neg hfit] at h hv
      subst h
      have HV2 := hid hv
      clear hd hv HV hfit
      go_wp2_with (refine wpl_storew rfl _ _ _ rfl rfl rfl HZ1.out agg_apisum (by simp) (xs := List.replicate 32 (.int .u8 0)) (by simp) (one_zeros 32) ?_)
      intro w4 b4 u4
      go_wp2
      refine ret_row2 rfl rfl b4 agg_apisum (by simp) rfl ⟨by rw [← HV2.out]; unfold zeros; rfl, u4.ext HE1.out (by omega)⟩

theorem longL_drop (u : UInt64) : (longL u).drop 4 = octL (UInt32.ofNat u.toNat) := rfl

set_option maxRecDepth 100000 in
set_option maxHeartbeats 1000000 in
theorem rshort_c (N : Nat) (w : World) (hN : N ≤ 4611686018427387904) :
    Calls Try.prog 80 #[.int .i64 (N : Int)] w fun e w' => e = .returned (.slice (some ⟨w.heap.size, 4, none⟩) 4 4) ∧ Cells w' (some ⟨w.heap.size, 4, none⟩) ((octL (UInt32.ofNat N)).map u8v) ∧ Ext w w' := by
  have hl := hid (rlong_c N w hN)
  have hd : (longL (UInt64.ofNat N)).drop 4 = octL (UInt32.ofNat N) := by
    rw [longL_drop]
    have : (UInt64.ofNat N).toNat = N := by rw [UInt64.toNat_ofNat']; omega
    rw [this]
  have HD := hid hd
  clear hd
  generalize longL (UInt64.ofNat N) = ll at *
  go_enter Try.func80, Try.ntmps80
  go_wp2_with fail
  refine hl.out.mono ?_
  rintro e w1 ⟨rfl, b1, e1⟩
  have hcl := Cells.of_blk b1 4 4
  rw [← List.map_drop, HD.out, List.take_of_length_le (by rw [List.length_map]; exact Nat.le_refl 4)] at hcl
  have HCL := hid hcl
  clear b1 hcl
  go_wp2
  go_ret
  exact ⟨rfl, HCL.out, e1⟩

/-- parts, each with its length ahead -/
def frameL (its : List Item) : List UInt8 := (its.map fun it => octL (UInt32.ofNat it.2.2.length) ++ it.2.2).flatten
theorem frameL_succ {its : List Item} {k : Nat} {it : Item} (h : its[k]? = some it) : frameL (its.take (k + 1)) = frameL (its.take k) ++ octL (UInt32.ofNat it.2.2.length) ++ it.2.2 := by
  unfold frameL
  rw [List.take_add_one, h]; simp
theorem frameL_le (its : List Item) (k : Nat) : (frameL (its.take k)).length ≤ (frameL its).length := by
  have h2 : frameL its = frameL (its.take k) ++ frameL (its.drop k) := by
    unfold frameL
    rw [← List.flatten_append, ← List.map_append, List.take_append_drop]
  rw [h2, List.length_append]
  omega

set_option maxRecDepth 100000 in
set_option maxHeartbeats 2000000 in
theorem framed_c (its : List Item) (n c : Nat) (a : Option Addr) (w : World) (hil : its.length = n) (hn : n ≤ 140737488351232) (hcl : Cells w a (its.map itemV))
    (hits : ∀ it ∈ its, Cells w it.1 (it.2.2.map u8v) ∧ (it.1 = none → it.2.1 = 0) ∧ it.2.2.length ≤ it.2.1 ∧ it.2.1 ≤ 140737488351232) (hF : (frameL its).length ≤ 140737488351232) :
    Calls Try.prog 44 #[.slice a n c] w fun e w' => ∃ v, e = .returned v ∧ w'.ownsRow w.heap.size 5 1 v (frameL its).length ((frameL its).map u8v) ∧ Ext w w' := by
  have HIL := hid hil
  have HCL := hid hcl
  have HITS := hid hits
  have HF := hid hF
  clear hil hcl hits hF
  go_enter Try.func44, Try.ntmps44
  go_wp2
  go_loopw [8, 3] (fun x v wr => ∃ k : Nat, k ≤ n ∧ x = .int .i64 k ∧ Hid (wr.ownsRow w.heap.size 5 1 v (frameL (its.take k)).length ((frameL (its.take k)).map u8v)) ∧ Hid (Ext w wr))
    (fun x _ _ => n - (intOf x).toNat)
  case atStart => exact ⟨0, by omega, rfl, hid (World.ownsRow_nil _ _ _ _), hid (Ext.refl _)⟩
  case round =>
    obtain ⟨k, hk, rfl, ho, he⟩ := hrel
    by_cases hlt : k < n
    · have hdk : decide ((k : Int) < (n : Int)) = true := decide_eq_true (by omega)
      obtain ⟨it, hit⟩ : ∃ it, its[k]? = some it := ⟨_, List.getElem?_eq_getElem (by rw [HIL.out]; omega)⟩
      obtain ⟨b, off, rfl, hcell⟩ := (HCL.out.ext he.out).some_of (by rw [List.length_map, HIL.out]; omega)
      have hc1 := hcell k (itemV it) (by rw [List.getElem?_map, hit]; rfl)
      have HIT := hid (HITS.out it (List.mem_of_getElem? hit))
      have hstep := frameL_succ hit
      have hmono := frameL_le its (k + 1)
      obtain ⟨ai, ci, l⟩ := it
      simp only [itemV] at hc1
      simp only at HIT hstep
      have hol : (octL (UInt32.ofNat l.length)).length = 4 := rfl
      have hsl : (frameL (its.take (k + 1))).length = (frameL (its.take k)).length + 4 + l.length := by rw [hstep, List.length_append, List.length_append, hol]
      have hbnd := HF.out
      generalize hli : l.length = li at *
      have hsh := rshort_c li wr (by omega)
      generalize octL (UInt32.ofNat li) = oc at *
      generalize frameL (its.take k) = fk at *
      generalize hfk1 : frameL (its.take (k + 1)) = fk1 at *
      have HFK1 := hid hfk1
      have i0 : (0 : Int) ≤ (k : Int) := by omega
      have i1 : (k : Int) < (n : Int) := by omega
      have hfk : fk.length + 4 + li ≤ 140737488351232 := by omega
      have HST := hid hstep
      have HOL := hid hol
      have HLI := hid hli
      have HSL := hid hsl
      have HNIL := hid (nil0 HIT.out.1 hli HIT.out.2.1)
      have HSH := hid hsh
      clear hsh hfk1 hcell hit hstep hmono hol hsl hbnd hli
      go_wp2_with fail
      refine HSH.out.mono ?_
      rintro e w2 ⟨rfl, c2, e2⟩
      have O2 := hid (ownsRow_ext ho.out e2)
      have E2 := hid (he.out.ext e2)
      have C2 := hid c2
      have hb2 : w.heap.size ≤ w2.heap.size := E2.out.size
      clear c2 e2 ho he HSH
      go_wp2_with (first | (at_builtin; refine wpl_append8 rfl _ _ rfl w.heap.size (ys := oc) rfl rfl O2.out HOL.out (by intro h; cases h) C2.out (by omega) hb2 ?_))
      intro v3 w3 own3 g3
      have own3' : w3.ownsRow w.heap.size 5 1 v3 (fk.length + 4) ((fk ++ oc).map u8v) := by rw [List.map_append]; simpa using own3
      have E3 := hid (E2.out.grown g3 (own_block_ge O2.out))
      have O3 := hid own3'
      have hb3 : w.heap.size ≤ w3.heap.size := E3.out.size
      clear own3 own3' g3 O2 C2 E2 hb2
      go_wp2_with (first | (at_builtin; refine wpl_append8 rfl _ _ rfl w.heap.size (ys := l) rfl rfl O3.out HLI.out HNIL.out (HIT.out.1.ext E3.out) (by omega) hb3 ?_))
      intro v4 w4 own4 g4
      have own4' : w4.ownsRow w.heap.size 5 1 v4 fk1.length (fk1.map u8v) := by rw [HSL.out, HST.out, List.map_append, List.map_append]; simpa using own4
      have E4 := hid (E3.out.grown g4 (own_block_ge O3.out))
      have O4 := hid own4'
      clear own4 own4' g4 O3 E3 hb3
      go_wp2
      go_roundw
      case rel => exact ⟨k + 1, by omega, by go_num, by rw [HFK1.out]; exact O4, E4⟩
      case measure => simp [intOf]; omega
    · have hkn : k = n := by omega
      subst hkn
      have hall : its.take k = its := List.take_of_length_le (by rw [HIL.out]; exact Nat.le_refl _)
      rw [hall] at ho
      clear hall
      go_wp2
      go_ret
      exact ⟨_, rfl, ho.out, he.out⟩
end Go.Proofs.Ytjgglnflicemjaa
