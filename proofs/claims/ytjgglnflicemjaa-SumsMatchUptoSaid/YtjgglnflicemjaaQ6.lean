/- The law SumsMatch, walked; conditions: the sizes. -/
import Derived.Test.YtjgglnflicemjaaP24
namespace Go.Proofs.Ytjgglnflicemjaa
open Go Go.RowKit

theorem neq_self3 {t : TypeId} {n : Nat} (ht : Try.prog.underlying t = some (.array n 5)) (xs : List UInt8) (hx : xs.length = n) (w : World) :
    (binOp .neq t (.agg (xs.map u8v).toArray) (.agg (xs.map u8v).toArray)).run Try.prog w = .ok (.bool false) w := by
  rw [neq_arr ht xs xs hx hx]; simp

set_option maxRecDepth 100000 in
set_option maxHeartbeats 2000000 in
theorem sumsLaw_c (t : List UInt8) (its : List Item) (d : Int) (nt ct n c : Nat) (at_ a : Option Addr) (w : World) (ht : t.length = nt) (hnt : nt ≤ 1048576) (hntc : nt ≤ ct) (hct : ct ≤ 140737488351232) (ht0 : at_ = none → ct = 0) (htc : Cells w at_ (t.map u8v))
    (hil : its.length = n) (hn : n ≤ 140737488351232) (hcl : Cells w a (its.map itemV))
    (hits : ∀ it ∈ its, Cells w it.1 (it.2.2.map u8v) ∧ (it.1 = none → it.2.1 = 0) ∧ it.2.2.length ≤ it.2.1 ∧ it.2.1 ≤ 140737488351232) (hF : (frameL its).length ≤ 140737488351232) :
    Calls Try.prog 10 #[.int .i64 d, .slice at_ nt ct, .slice a n c] w fun e w' => e = .returned (.bool true) ∧ Ext w w' := by
  have hso := fun w' (e : Ext w w') => sumOf_c d t nt ct at_ w' ht hntc (by omega) ht0 (htc.ext e)
  have hits' : ∀ w', Ext w w' → ∀ it ∈ its, Cells w' it.1 (it.2.2.map u8v) ∧ (it.1 = none → it.2.1 = 0) ∧ it.2.2.length ≤ it.2.1 ∧ it.2.1 ≤ 140737488351232 := fun w' e it h => ⟨(hits it h).1.ext e, (hits it h).2⟩
  have hfr := fun w' (e : Ext w w') => framed_c its n c a w' hil hn (hcl.ext e) (hits' w' e) hF
  have hss := fun w' (e : Ext w w') => sums_c its d n c a w' hil hn (hcl.ext e) (hits' w' e)
  have HFR := hid hfr
  have HTC := hid htc
  have HTL := hid ht
  clear hfr hits' hits hcl hil ht htc ht0
  generalize hFF : frameL its = F at *
  clear hFF
  by_cases hd : d < 0 ∨ 255 < d
  · unfold sumOfV at hso
    unfold sumsV at hss
    simp only [if_pos hd] at hso hss
    have HSO := hid hso
    have HSS := hid hss
    have qz := neq_self3 Try.underlying65 (List.replicate 32 0) (by simp)
    rw [← zeros_u8] at qz
    have QZ := hid qz
    clear hso hss qz
    by_cases h0 : d < 0
    · have d1 : decide (d < 0) = true := decide_eq_true h0
      clear hd
      go_enter Try.func10, Try.ntmps10
      go_wp2_with fail
      refine (landed_c _).mono ?_
      rintro e w1 ⟨rfl, e1⟩
      have E1 := hid e1
      clear e1
      go_wp2_with fail
      refine (HSO.out w1 E1.out).mono ?_
      rintro e w2 ⟨rfl, e2⟩
      unfold zeros
      have E2 := hid (E1.out.ext e2)
      clear e2
      go_wp2_with (first | (refine wpl_storew rfl _ _ _ rfl rfl rfl (Blk.mk_alloc rfl rfl) agg_apisum rfl (xs := List.replicate 32 (.int .u8 0)) (by simp) (one_zeros 32) ?_))
      intro w3 b3 u3
      have E3 := hid (E2.out.ext (show Ext w2 w3 from u3.ext ((Ext.refl w2).alloc _) (Nat.le_refl _)))
      have B3 := hid b3
      have lg : w.heap.size ≤ w2.heap.size := E2.out.size
      clear b3 u3
      generalize w2.heap.size = g2 at *
      go_wp2_with (first | (refine wpg_loadw (by rfl) _ _ rfl rfl B3.out agg_apisum (by simp) ?_) | (refine wpg_cmp (by rfl) .neq 65 _ _ _ rfl rfl rfl guard_sum QZ.out ?_))
      refine (HFR.out w3 E3.out).mono ?_
      rintro e w4 ⟨v4, rfl, -, e4⟩
      have E4 := hid (E3.out.ext e4)
      have B4 := hid (B3.out.ext e4)
      clear e4
      go_wp2_with fail
      refine (HSS.out w4 E4.out).mono ?_
      rintro e w5 ⟨rfl, e5⟩
      unfold zeros
      have E5 := hid (E4.out.ext e5)
      have B5 := hid (B4.out.ext e5)
      clear e5
      go_wp2_with (first | (refine wpl_storew rfl _ _ _ rfl rfl rfl B5.out agg_apisum (by simp) (xs := List.replicate 32 (.int .u8 0)) (by simp) (one_zeros 32) ?_))
      intro w6 b6 u6
      have E6 := hid (u6.ext E5.out lg)
      clear b6 u6
      go_wp2
      go_ret
      exact ⟨rfl, E6.out⟩
    · have d1 : decide (d < 0) = false := decide_eq_false h0
      have d2 : decide (255 < d) = true := decide_eq_true (by omega)
      clear hd
      go_enter Try.func10, Try.ntmps10
      go_wp2_with fail
      refine (landed_c _).mono ?_
      rintro e w1 ⟨rfl, e1⟩
      have E1 := hid e1
      clear e1
      go_wp2_with fail
      refine (HSO.out w1 E1.out).mono ?_
      rintro e w2 ⟨rfl, e2⟩
      unfold zeros
      have E2 := hid (E1.out.ext e2)
      clear e2
      go_wp2_with (first | (refine wpl_storew rfl _ _ _ rfl rfl rfl (Blk.mk_alloc rfl rfl) agg_apisum rfl (xs := List.replicate 32 (.int .u8 0)) (by simp) (one_zeros 32) ?_))
      intro w3 b3 u3
      have E3 := hid (E2.out.ext (show Ext w2 w3 from u3.ext ((Ext.refl w2).alloc _) (Nat.le_refl _)))
      have B3 := hid b3
      have lg : w.heap.size ≤ w2.heap.size := E2.out.size
      clear b3 u3
      generalize w2.heap.size = g2 at *
      go_wp2_with (first | (refine wpg_loadw (by rfl) _ _ rfl rfl B3.out agg_apisum (by simp) ?_) | (refine wpg_cmp (by rfl) .neq 65 _ _ _ rfl rfl rfl guard_sum QZ.out ?_))
      refine (HFR.out w3 E3.out).mono ?_
      rintro e w4 ⟨v4, rfl, -, e4⟩
      have E4 := hid (E3.out.ext e4)
      have B4 := hid (B3.out.ext e4)
      clear e4
      go_wp2_with fail
      refine (HSS.out w4 E4.out).mono ?_
      rintro e w5 ⟨rfl, e5⟩
      unfold zeros
      have E5 := hid (E4.out.ext e5)
      have B5 := hid (B4.out.ext e5)
      clear e5
      go_wp2_with (first | (refine wpl_storew rfl _ _ _ rfl rfl rfl B5.out agg_apisum (by simp) (xs := List.replicate 32 (.int .u8 0)) (by simp) (one_zeros 32) ?_))
      intro w6 b6 u6
      have E6 := hid (u6.ext E5.out lg)
      clear b6 u6
      go_wp2
      go_ret
      exact ⟨rfl, E6.out⟩
  · unfold sumOfV at hso
    unfold sumsV at hss
    simp only [if_neg hd, if_pos hnt] at hso hss
    have d1 : decide (d < 0) = false := decide_eq_false (by omega)
    have d2 : decide (255 < d) = false := decide_eq_false (by omega)
    have d3 : decide ((1048576 : Int) < (nt : Int)) = false := decide_eq_false (by omega)
    have hrs := fun w' (e : Ext w w') => rsum_c d t nt ct at_ w' (by omega) (by omega) HTL.out (by omega) (HTC.out.ext e)
    have hrf := fun (hq : F.length ≤ 1048576) b m w' h => rsum_c d F F.length m b w' (by omega) (by omega) rfl (by omega) h
    have HSU := hid (sumL_length d t)
    have HSV : Hid (((sumL d t).map u8v).length = 32) := hid (by rw [List.length_map, sumL_length])
    have HFU := hid (sumL_length d F)
    have HFV : Hid (((sumL d F).map u8v).length = 32) := hid (by rw [List.length_map, sumL_length])
    generalize sumL d t = su at *
    generalize sumL d F = sf at *
    have o1 := one_u8 su
    have o2 := one_u8 sf
    have HSO := hid hso
    have HSS := hid hss
    have HRS := hid hrs
    have HRF := hid hrf
    have QN := hid (fun w => neq_self3 Try.underlying65 su HSU.out w)
    have QE := hid (fun w => eq_self Try.underlying65 sf HFU.out w)
    clear hso hss hrs hrf hd
    go_enter Try.func10, Try.ntmps10
    go_wp2_with fail
    refine (landed_c _).mono ?_
    rintro e w1 ⟨rfl, e1⟩
    have E1 := hid e1
    clear e1
    go_wp2_with fail
    refine (HSO.out w1 E1.out).mono ?_
    rintro e w2 ⟨rfl, e2⟩
    have E2 := hid (E1.out.ext e2)
    clear e2
    go_wp2_with (first | (refine wpl_storew rfl _ _ _ rfl rfl rfl (Blk.mk_alloc rfl rfl) agg_apisum rfl HSV.out o1 ?_))
    intro w3 b3 u3
    have E3 := hid (E2.out.ext (show Ext w2 w3 from u3.ext ((Ext.refl w2).alloc _) (Nat.le_refl _)))
    have B3 := hid b3
    have lg : w.heap.size ≤ w2.heap.size := E2.out.size
    clear b3 u3
    generalize w2.heap.size = g2 at *
    go_wp2
    obtain ⟨C, hC⟩ : ∃ C : World → Prop, C = fun w' => Ext w3 w' := ⟨_, rfl⟩
    have hC0 : ∀ w', C w' ↔ Ext w3 w' := fun w' => by rw [hC]
    clear hC
    have HCC := hid hC0
    clear hC0
    have hCx : ∀ w w', C w → Ext w w' → C w' := fun w w' h1 h2 => (HCC.out w').2 (((HCC.out w).1 h1).ext h2)
    have hs1 : ∀ w', C w' → Blk w' g2 (su.map u8v) 65 := fun w' h => B3.out.ext ((HCC.out w').1 h)
    have hx1 : ∀ w', C w' → Ext w w' := fun w' h => E3.out.ext ((HCC.out w').1 h)
    refine wp_region_al (C := C) 10 [] w3.heap.size (by kernel_rfl) (by kernel_rfl) (by kernel_rfl) ((HCC.out _).2 (Ext.refl w3).drew) (fun w o h => hCx _ _ h ((Ext.refl w).alloc o)) (fun w h => ((HCC.out w).1 h).size) (by simp) ?_
    simp only [List.take_succ_cons, List.take_zero, List.drop_succ_cons, List.drop_zero]
    refine wpQE_do rfl rfl _ (fun _ _ => ⟨rfl, rfl⟩) ?_
    simp only [Act.put, List.setIfInBounds_toArray, List.set_cons_succ, List.set_cons_zero]
    refine wpQE_do rfl rfl _ (fun _ _ => ⟨rfl, rfl⟩) ?_
    simp only [Act.put, List.setIfInBounds_toArray, List.set_cons_succ, List.set_cons_zero]
    refine wpQE_do rfl rfl _ (fun _ _ => ⟨rfl, rfl⟩) ?_
    simp only [Act.put, List.setIfInBounds_toArray, List.set_cons_succ, List.set_cons_zero]
    refine wpQE_do rfl rfl _ (yieldsE_loadw _ _ rfl rfl hs1 agg_apisum HSV.out) ?_
    simp only [Act.put, List.setIfInBounds_toArray, List.set_cons_succ, List.set_cons_zero]
    refine wpQE_do rfl rfl _ (fun _ _ => ⟨rfl, rfl⟩) ?_
    simp only [Act.put, List.setIfInBounds_toArray, List.set_cons_succ, List.set_cons_zero]
    refine wpQE_do rfl rfl _ (fun _ _ => ⟨rfl, rfl⟩) ?_
    simp only [Act.put, List.setIfInBounds_toArray, List.set_cons_succ, List.set_cons_zero]
    refine wpQE_do rfl rfl _ (yieldsE_call rfl Try.call38 (by simp [Act.eval]) (fun w h => HRS.out w (hx1 w h)) hCx) ?_
    simp only [Act.put, List.setIfInBounds_toArray, List.set_cons_succ, List.set_cons_zero]
    refine wpQE_do rfl rfl _ (yieldsE_cmp .neq _ _ _ _ rfl rfl rfl guard_sum QN.out) ?_
    simp only [Act.put, List.setIfInBounds_toArray, List.set_cons_succ, List.set_cons_zero]
    refine wpQE_do rfl rfl _ (fun _ _ => ⟨rfl, rfl⟩) ?_
    simp only [Act.put, List.setIfInBounds_toArray, List.set_cons_succ, List.set_cons_zero]
    refine wpQE_do rfl rfl _ (fun _ _ => ⟨rfl, rfl⟩) ?_
    simp only [Act.put, List.setIfInBounds_toArray, List.set_cons_succ, List.set_cons_zero]
    refine wpQE_nil ?_
    intro gs w4 hCw4 _ _
    have ew4 := (HCC.out w4).1 hCw4
    simp only [putAl, Act.put, List.setIfInBounds_toArray, List.set_cons_succ, List.set_cons_zero]
    have E4 := hid (E3.out.ext ew4)
    have B4 := hid (B3.out.ext ew4)
    clear hs1 hx1 hCx HCC hCw4 ew4
    go_wp2_with fail
    refine (HFR.out w4 E4.out).mono ?_
    rintro e w5 ⟨v5, rfl, own5, e5⟩
    have E5 := hid (E4.out.ext e5)
    have B5 := hid (B4.out.ext e5)
    obtain ⟨a5, c5, rfl, -, -, -, hcl5⟩ := own_slice own5
    have C5 := hid hcl5
    have HAW := hid (own_away own5)
    have l4 := B4.out.lt
    clear e5 own5 hcl5
    by_cases hbig : F.length ≤ 1048576
    · have hss := fun w' e => HSS.out w' e
      simp only [if_pos hbig] at hss
      have HS2 := hid hss
      have d4 : decide ((1048576 : Int) < (F.length : Int)) = false := decide_eq_false (by omega)
      have HBG := hid hbig
      clear hss HSS
      go_wp2_with fail
      refine (HS2.out w5 E5.out).mono ?_
      rintro e w6 ⟨rfl, e6⟩
      have E6 := hid (E5.out.ext e6)
      have C6 := hid (C5.out.ext e6)
      go_wp2_with (first | (refine wpl_storew rfl _ _ _ rfl rfl rfl (B5.out.ext e6) agg_apisum HSV.out HFV.out o2 ?_))
      intro w7 b7 u7
      have E7 := hid (u7.ext E6.out lg)
      have B7 := hid b7
      have C7 := hid (C6.out.grown (upd_grown u7) (by intro x hx; have h1 := HAW.out x hx; intro e; injection e with e; omega))
      clear b7 u7 e6
      go_wp2
      obtain ⟨C, hC⟩ : ∃ C : World → Prop, C = fun w' => Ext w7 w' := ⟨_, rfl⟩
      have hC0 : ∀ w', C w' ↔ Ext w7 w' := fun w' => by rw [hC]
      clear hC
      have HCC := hid hC0
      clear hC0
      have hCx : ∀ w w', C w → Ext w w' → C w' := fun w w' h1 h2 => (HCC.out w').2 (((HCC.out w).1 h1).ext h2)
      have hs1 : ∀ w', C w' → Blk w' g2 (sf.map u8v) 65 := fun w' h => B7.out.ext ((HCC.out w').1 h)
      have hx1 : ∀ w', C w' → Cells w' a5 (F.map u8v) := fun w' h => C7.out.ext ((HCC.out w').1 h)
      refine wp_region_al (C := C) 10 [] w7.heap.size (by kernel_rfl) (by kernel_rfl) (by kernel_rfl) ((HCC.out _).2 (Ext.refl w7).drew) (fun w o h => hCx _ _ h ((Ext.refl w).alloc o)) (fun w h => ((HCC.out w).1 h).size) (by simp) ?_
      simp only [List.take_succ_cons, List.take_zero, List.drop_succ_cons, List.drop_zero]
      refine wpQE_do rfl rfl _ (fun _ _ => ⟨rfl, rfl⟩) ?_
      simp only [Act.put, List.setIfInBounds_toArray, List.set_cons_succ, List.set_cons_zero]
      refine wpQE_do rfl rfl _ (fun _ _ => ⟨rfl, rfl⟩) ?_
      simp only [Act.put, List.setIfInBounds_toArray, List.set_cons_succ, List.set_cons_zero]
      refine wpQE_do rfl rfl _ (fun _ _ => ⟨rfl, rfl⟩) ?_
      simp only [Act.put, List.setIfInBounds_toArray, List.set_cons_succ, List.set_cons_zero]
      refine wpQE_do rfl rfl _ (yieldsE_loadw _ _ rfl rfl hs1 agg_apisum HFV.out) ?_
      simp only [Act.put, List.setIfInBounds_toArray, List.set_cons_succ, List.set_cons_zero]
      refine wpQE_do rfl rfl _ (fun _ _ => ⟨rfl, rfl⟩) ?_
      simp only [Act.put, List.setIfInBounds_toArray, List.set_cons_succ, List.set_cons_zero]
      refine wpQE_do rfl rfl _ (fun _ _ => ⟨rfl, rfl⟩) ?_
      simp only [Act.put, List.setIfInBounds_toArray, List.set_cons_succ, List.set_cons_zero]
      refine wpQE_do rfl rfl _ (yieldsE_call rfl Try.call38 (by simp [Act.eval]) (fun w h => HRF.out HBG.out a5 c5 w (hx1 w h)) hCx) ?_
      simp only [Act.put, List.setIfInBounds_toArray, List.set_cons_succ, List.set_cons_zero]
      refine wpQE_do rfl rfl _ (yieldsE_cmp .eql _ _ _ _ rfl rfl rfl guard_sum QE.out) ?_
      simp only [Act.put, List.setIfInBounds_toArray, List.set_cons_succ, List.set_cons_zero]
      refine wpQE_do rfl rfl _ (fun _ _ => ⟨rfl, rfl⟩) ?_
      simp only [Act.put, List.setIfInBounds_toArray, List.set_cons_succ, List.set_cons_zero]
      refine wpQE_do rfl rfl _ (fun _ _ => ⟨rfl, rfl⟩) ?_
      simp only [Act.put, List.setIfInBounds_toArray, List.set_cons_succ, List.set_cons_zero]
      refine wpQE_nil ?_
      intro gs w8 hCw8 _ _
      have ew8 := (HCC.out w8).1 hCw8
      simp only [putAl, Act.put, List.setIfInBounds_toArray, List.set_cons_succ, List.set_cons_zero]
      have E8 := hid (E7.out.ext ew8)
      clear hs1 hx1 hCx HCC hCw8 ew8
      go_wp2
      go_ret
      exact ⟨rfl, E8.out⟩
    · have hss := fun w' e => HSS.out w' e
      simp only [if_neg hbig] at hss
      have HS2 := hid hss
      have d4 : decide ((1048576 : Int) < (F.length : Int)) = true := decide_eq_true (by omega)
      clear hss HSS
      go_wp2_with fail
      refine (HS2.out w5 E5.out).mono ?_
      rintro e w6 ⟨rfl, e6⟩
      unfold zeros
      have E6 := hid (E5.out.ext e6)
      go_wp2_with (first | (refine wpl_storew rfl _ _ _ rfl rfl rfl (B5.out.ext e6) agg_apisum HSV.out (xs := List.replicate 32 (.int .u8 0)) (by simp) (one_zeros 32) ?_))
      intro w7 b7 u7
      have E7 := hid (u7.ext E6.out lg)
      clear b7 u7 e6
      go_wp2
      go_ret
      exact ⟨rfl, E7.out⟩
end Go.Proofs.Ytjgglnflicemjaa
