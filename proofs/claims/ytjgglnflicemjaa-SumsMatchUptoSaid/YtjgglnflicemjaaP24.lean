/- Sums: what it computes; conditions: the sizes. -/
import Derived.Test.YtjgglnflicemjaaP23
namespace Go.Proofs.Ytjgglnflicemjaa
open Go Go.RowKit

def sumsV (d : Int) (F : List UInt8) : Value :=
  if d < 0 ∨ 255 < d then .tuple #[zeros 32, .int .i64 3] else if F.length ≤ 1048576 then .tuple #[.agg ((sumL d F).map u8v).toArray, .int .i64 0] else .tuple #[zeros 32, .int .i64 5]

set_option maxRecDepth 100000 in
set_option maxHeartbeats 2000000 in
theorem sums_c (its : List Item) (d : Int) (n c : Nat) (a : Option Addr) (w : World) (hil : its.length = n) (hn : n ≤ 140737488351232) (hcl : Cells w a (its.map itemV))
    (hits : ∀ it ∈ its, Cells w it.1 (it.2.2.map u8v) ∧ (it.1 = none → it.2.1 = 0) ∧ it.2.2.length ≤ it.2.1 ∧ it.2.1 ≤ 140737488351232) :
    Calls Try.prog 45 #[.int .i64 d, .slice a n c] w fun e w' => e = .returned (sumsV d (frameL its)) ∧ Ext w w' := by
  obtain ⟨V, hV⟩ : ∃ V, sumsV d (frameL its) = V := ⟨_, rfl⟩
  rw [hV]
  unfold sumsV at hV
  have HV := hid hV
  have HIL := hid hil
  have HCL := hid hcl
  have HITS := hid hits
  clear hil hcl hits hV
  go_enter Try.func45, Try.ntmps45
  go_wp2_with fail
  generalize hwA : World.alloc w _ = wA
  have zA : Blk wA w.heap.size (List.replicate 32 (.int .u8 0)) 65 := by rw [← hwA]; exact Blk.mk_alloc rfl rfl
  have eA : Ext w wA := by rw [← hwA]; exact (Ext.refl w).alloc _
  have lA := zA.lt
  have ZA := hid zA
  have EA := hid eA
  clear hwA zA eA
  refine (newSummer_c d wA).mono ?_
  intro e w1 h
  unfold newPost at h
  by_cases hd : d < 0 ∨ 255 < d
  · rw [if_pos hd] at h
    have hv := HV.out
    rw [if_pos hd] at hv
    obtain ⟨rfl, rfl⟩ := h
    have HV2 := hid hv
    clear hd hv HV
    go_wp2_with (refine wpl_storew rfl _ _ _ rfl rfl rfl ZA.out agg_apisum (by simp) (xs := List.replicate 32 (.int .u8 0)) (by simp) (one_zeros 32) ?_)
    intro w4 b4 u4
    go_wp2
    refine ret_row2 rfl rfl b4 agg_apisum (by simp) rfl ⟨by rw [← HV2.out]; unfold zeros; rfl, u4.ext EA.out (by omega)⟩
  · rw [if_neg hd] at h
    have hv := HV.out
    rw [if_neg hd] at hv
    obtain ⟨rfl, h1, e1⟩ := h
    have HV2 := hid hv
    have hlg : w.heap.size < wA.heap.size := lA
    generalize wA.heap.size = g0 at *
    have Z1 := hid (ZA.out.ext e1)
    have E1 := hid (EA.out.ext e1)
    have H1 := hid h1
    clear hd hv HV h1 e1 ZA EA lA
    go_wp2
    go_loopw [22] (fun x wr => ∃ k : Nat, k ≤ n ∧ x = .int .i64 k ∧ (frameL (its.take k)).length ≤ 1048576 ∧ Hid (Holds wr g0 SmT (initS d) (frameL (its.take k)) ((frameL (its.take k)).length : Nat)) ∧
        Hid (Blk wr w.heap.size (List.replicate 32 (.int .u8 0)) 65) ∧ Hid (Ext w wr))
      (fun x _ => n - (intOf x).toNat)
    case atStart => exact ⟨0, by omega, rfl, by simp [frameL], H1, Z1, E1⟩
    case round =>
      obtain ⟨k, hk, rfl, hsm, hh, hz, he⟩ := hrel
      by_cases hlt : k < n
      · have hdk : decide ((k : Int) < (n : Int)) = true := decide_eq_true (by omega)
        obtain ⟨it, hit⟩ : ∃ it, its[k]? = some it := ⟨_, List.getElem?_eq_getElem (by rw [HIL.out]; omega)⟩
        obtain ⟨b, off, rfl, hcell⟩ := (HCL.out.ext he.out).some_of (by rw [List.length_map, HIL.out]; omega)
        have hc1 := hcell k (itemV it) (by rw [List.getElem?_map, hit]; rfl)
        have HIT := hid (HITS.out it (List.mem_of_getElem? hit))
        have hstep := frameL_succ hit
        have hmono := frameL_le its (k + 1)
        obtain ⟨ai, ci, l⟩ := it
        simp only [itemV] at hc1
        simp only at HIT hstep
        have hol : (octL (UInt32.ofNat l.length)).length = 4 := rfl
        have hsl : (frameL (its.take (k + 1))).length = (frameL (its.take k)).length + 4 + l.length := by rw [hstep, List.length_append, List.length_append, hol]
        generalize hli : l.length = li at *
        have hoc := fun w => octets_c (UInt32.ofNat li) w
        have hwr : IntKind.u32.wrap (li : Int) = ((UInt32.ofNat li).toNat : Int) := by rw [IntKind.wrap_u32', UInt32.toNat_ofNat']; omega
        generalize UInt32.ofNat li = xi at *
        have o1 := one_u8 (octL xi)
        generalize octL xi = oc at *
        generalize frameL (its.take k) = fk at *
        generalize hfk1 : frameL (its.take (k + 1)) = fk1 at *
        have hcv : ((oc.map u8v)).length = 4 := by rw [List.length_map]; exact hol
        have i0 : (0 : Int) ≤ (k : Int) := by omega
        have i1 : (k : Int) < (n : Int) := by omega
        have hlic : li ≤ ci := HIT.out.2.2.1
        have hcib : ci ≤ 140737488351232 := HIT.out.2.2.2
        have HFK1 := hid hfk1
        have HST := hid hstep
        have HOL := hid hol
        have HCV := hid hcv
        have HLI := hid hli
        have HSL := hid hsl
        have HMO := hid hmono
        have HOC := hid hoc
        have haw := hid (away_of (n := li) (g := g0) HIT.out.1 (by rw [List.length_map]; exact hli) (by omega))
        clear hfk1 hcell hit hstep hmono hol hcv hsl hli hoc
        go_wp2_with fail
        refine (HOC.out wr).mono ?_
        rintro e w2 ⟨rfl, e2⟩
        go_wp2_with (first | (refine wpl_storew rfl _ _ _ rfl rfl rfl (Blk.mk_alloc rfl rfl) agg_four rfl HCV.out o1 ?_))
        intro w3 b3 u3
        have e3 : Ext wr w3 := u3.ext (e2.alloc _) e2.size
        have H3 := hid (hh.out.ext e3)
        have Z3 := hid (hz.out.ext e3)
        have E3 := hid (he.out.ext e3)
        have B3 := hid b3
        have hg3 : g0 < w2.heap.size := Nat.lt_of_lt_of_le hh.out.lt e2.size
        clear b3 u3 e3 hh hz he e2
        generalize w2.heap.size = go at *
        go_wp2_with fail
        refine (write_c (initS d) fk oc (fk.length : Nat) g0 4 4 (some ⟨go, 0, none⟩) SmT w3 (initS_length d) HOL.out (by omega) (by omega) H3.out (by omega) (Nat.le_refl _) (by omega) (by intro h; cases h) (Cells.of_blk0 B3.out) (.inr (by intro x hx; cases hx; intro e; injection e with e; simp only at e; omega))).mono ?_
        intro e w4 h
        unfold writePost at h
        rw [HOL.out] at h
        by_cases hf4 : ((4 : Nat) : Int) ≤ 1048576 - (fk.length : Nat)
        · rw [if_pos hf4] at h
          obtain ⟨rfl, h4, g4⟩ := h
          have hl4 : (fk ++ oc).length = fk.length + 4 := by rw [List.length_append, HOL.out]
          have H4 : Hid (Holds w4 g0 SmT (initS d) (fk ++ oc) ((fk ++ oc).length : Nat)) := hid (by rw [hl4, Int.natCast_add]; exact h4)
          have Z4 := hid (Z3.out.grown g4 (by intro e; injection e with e; omega))
          have E4 := hid (E3.out.grown g4 (by intro x hx; cases hx; omega))
          have HL4 := hid hl4
          clear h4 g4 H3 Z3 E3 B3 hl4
          go_wp2_with fail
          refine (write_c (initS d) (fk ++ oc) l ((fk ++ oc).length : Nat) g0 li ci ai SmT w4 (initS_length d) HLI.out (by omega) (by rw [HL4.out]; omega) H4.out (by omega) hlic (by omega) (fun e => by have := HIT.out.2.1 e; omega) (HIT.out.1.ext E4.out) haw.out).mono ?_
          intro e w5 h
          unfold writePost at h
          rw [HLI.out, HL4.out] at h
          by_cases hf5 : (li : Int) ≤ 1048576 - ((fk.length + 4 : Nat) : Int)
          · rw [if_pos hf5] at h
            obtain ⟨rfl, h5, g5⟩ := h
            have hl5 : fk1.length = fk.length + 4 + li := HSL.out
            have H5 : Hid (Holds w5 g0 SmT (initS d) fk1 (fk1.length : Nat)) := hid (by rw [hl5, Int.natCast_add, HST.out]; exact h5)
            have Z5 := hid (Z4.out.grown g5 (by intro e; injection e with e; omega))
            have E5 := hid (E4.out.grown g5 (by intro x hx; cases hx; omega))
            have hl6 : fk1.length ≤ 1048576 := by omega
            clear h5 g5 H4 Z4 E4 hl5
            go_wp2
            go_roundw
            case rel => exact ⟨k + 1, by omega, by go_num, by rw [HFK1.out]; exact hl6, by rw [HFK1.out]; exact H5, Z5, E5⟩
            case measure => simp [intOf]; omega
          · rw [if_neg hf5] at h
            obtain ⟨rfl, rfl⟩ := h
            have hbig : ¬ (frameL its).length ≤ 1048576 := by have h1 := HMO.out; have h2 := HSL.out; omega
            have hv := HV2.out
            rw [if_neg hbig] at hv
            have HV3 := hid hv
            clear hbig hv HV2 hf5
            go_wp2_with (refine wpl_storew rfl _ _ _ rfl rfl rfl Z4.out agg_apisum (by simp) (xs := List.replicate 32 (.int .u8 0)) (by simp) (one_zeros 32) ?_)
            intro w6 b6 u6
            go_wp2
            refine ret_row2 rfl rfl b6 agg_apisum (by simp) rfl ⟨by rw [← HV3.out]; unfold zeros; rfl, u6.ext E4.out (by omega)⟩
        · rw [if_neg hf4] at h
          obtain ⟨rfl, rfl⟩ := h
          have hbig : ¬ (frameL its).length ≤ 1048576 := by have h1 := HMO.out; have h2 := HSL.out; omega
          have hv := HV2.out
          rw [if_neg hbig] at hv
          have HV3 := hid hv
          clear hbig hv HV2 hf4
          go_wp2_with (refine wpl_storew rfl _ _ _ rfl rfl rfl Z3.out agg_apisum (by simp) (xs := List.replicate 32 (.int .u8 0)) (by simp) (one_zeros 32) ?_)
          intro w6 b6 u6
          go_wp2
          refine ret_row2 rfl rfl b6 agg_apisum (by simp) rfl ⟨by rw [← HV3.out]; unfold zeros; rfl, u6.ext E3.out (by omega)⟩
      · have hkn : k = n := by omega
        subst hkn
        have hall : its.take k = its := List.take_of_length_le (by rw [HIL.out]; exact Nat.le_refl _)
        rw [hall] at hsm hh
        have hv := HV2.out
        rw [if_pos hsm] at hv
        have hsum := sum_c (initS d) (frameL its) (frameL its).length g0 SmT wr (initS_length d) (by omega) hh.out
        rw [show (finL (initS d) (frameL its) (frameL its).length).take 32 = sumL d (frameL its) from rfl] at hsum
        have HSL : Hid (((sumL d (frameL its)).map u8v).length = 32) := hid (by rw [List.length_map, sumL_length])
        have o1 := one_u8 (sumL d (frameL its))
        generalize (sumL d (frameL its)).map u8v = sv at *
        have HV3 := hid hv
        have HSM := hid hsum
        clear hv HV2 hsum hall hsm
        go_wp2_with fail
        refine HSM.out.mono ?_
        rintro e w2 ⟨rfl, e2⟩
        have Z2 := hid (hz.out.ext e2)
        have E2 := hid (he.out.ext e2)
        clear e2 HSM
        go_wp2_with (refine wpl_storew rfl _ _ _ rfl rfl rfl Z2.out agg_apisum (by simp) HSL.out o1 ?_)
        intro w4 b4 u4
        go_wp2
        refine ret_row2 rfl rfl b4 agg_apisum HSL.out rfl ⟨by rw [← HV3.out]; rfl, u4.ext E2.out (by omega)⟩
end Go.Proofs.Ytjgglnflicemjaa
