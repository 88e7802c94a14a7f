/- The reference's Tag and SealBy: what they compute; conditions: the key's length, the text's size. -/
import Derived.Test.YtjgglnflicemjaaP12
namespace Go.Proofs.Ytjgglnflicemjaa
open Go Go.RowKit

set_option maxRecDepth 100000 in
set_option maxHeartbeats 1000000 in
theorem rtag_c (k t : List UInt8) (n c : Nat) (a : Option Addr) (w : World) (hk : k.length = 32) (ht : t.length = n) (hn : n ≤ 1048544) (h0 : a = none → c = 0) (hcl : Cells w a (t.map u8v)) :
    Calls Try.prog 41 #[.agg (k.map u8v).toArray, .slice a n c] w fun e w' => e = .returned (.agg ((tagL k t).map u8v).toArray) ∧ Ext w w' := by
  have HT := hid ht
  have HK := hid hk
  have HC := hid hcl
  have H0 := hid (nil0 hcl ht h0)
  have hlen : (k ++ t).length = 32 + n := by rw [List.length_append, hk, ht]
  have hsum := fun (b : Option Addr) (m : Nat) (w : World) (h : Cells w b ((k ++ t).map u8v)) => rsum_c 8 (k ++ t) (32 + n) m b w (by omega) (by omega) hlen (by omega) h
  have HTL : Hid (((tagL k t).map u8v).length = 16) := hid (by rw [List.length_map, tagL_length])
  have HSL : Hid (((sumL 8 (k ++ t)).map u8v).length = 32) := hid (by rw [List.length_map, sumL_length])
  have HTK : Hid (((sumL 8 (k ++ t)).map u8v).take 16 = (tagL k t).map u8v) := hid (by rw [tagL, List.map_take])
  have o1 := one_u8 (sumL 8 (k ++ t))
  have o2 := one_u8 (tagL k t)
  generalize (sumL 8 (k ++ t)).map u8v = sv at *
  generalize htv : (tagL k t).map u8v = tv at *
  have HTV := hid htv
  clear ht hk hcl h0 htv hlen
  go_enter Try.func41, Try.ntmps41
  go_wp2_with fail
  generalize hwA : World.alloc (World.alloc w _) _ = wA
  have kA : Blk wA w.heap.size (k.map u8v) 54 := by rw [← hwA]; exact (Blk.mk_alloc rfl rfl).alloc _
  have zA : Blk wA (w.heap.size + 1) (List.replicate 16 (.int .u8 0)) 72 := by rw [← hwA]; exact Blk.mk_alloc (by simp) rfl
  have eA : Ext w wA := by rw [← hwA]; exact ((Ext.refl w).alloc _).alloc _
  have lA := zA.lt
  clear hwA
  refine (clone_c k (some ⟨w.heap.size, 0, none⟩) 32 32 wA HK.out (by omega) (Cells.of_blk0 kA)).mono ?_
  rintro e w1 ⟨v, rfl, own1, -, e1⟩
  have HO := hid own1
  have HZ1 := hid (zA.ext e1)
  have HE1 := hid (eA.ext e1)
  have HC1 := hid (HC.out.ext HE1.out)
  have hb1 : wA.heap.size ≤ w1.heap.size := e1.size
  clear kA zA eA own1 e1
  generalize wA.heap.size = B at *
  go_wp2_with (at_builtin; refine wpl_append8 rfl _ _ rfl B (ys := t) rfl rfl HO.out HT.out H0.out HC1.out (by omega) hb1 ?_)
  intro v2 w2 own2 g2
  have hv := fun g' h => own_block_ge HO.out g' h
  have own2' : w2.ownsRow B 5 1 v2 (32 + n) ((k ++ t).map u8v) := by rw [List.map_append]; simpa using own2
  have HZ2 := hid (HZ1.out.grown g2 (by intro h; have := hv _ h.symm; omega))
  have HE2 := hid (HE1.out.grown g2 (by intro k hk; have := hv _ hk; omega))
  obtain ⟨a3, c3, rfl, -, -, -, hc3⟩ := own_slice own2'
  have hcall := hsum a3 c3 w2 hc3
  clear own2 own2' g2 hv hc3 HO HZ1 HE1 HC1 hb1 hsum
  go_wp2_with fail
  refine hcall.mono ?_
  rintro e w4 ⟨rfl, e4⟩
  have HZ4 := hid (HZ2.out.ext e4)
  have HE4 := hid (HE2.out.ext e4)
  clear e4 hcall
  go_wp2_with (refine wpl_storew rfl _ _ _ rfl rfl rfl (Blk.mk_alloc rfl rfl) agg_apisum rfl HSL.out o1 ?_)
  intro w5 b5 u5
  have e5 : Ext w4 w5 := u5.ext ((Ext.refl w4).alloc _) (Nat.le_refl _)
  have HZ5 := hid (HZ4.out.ext e5)
  have HE5 := hid (HE4.out.ext e5)
  have HB5 := hid b5
  clear e5 u5 b5
  go_wp2
  refine wp_region_cls (C := fun w' => ∃ n, w' = w5.drewN n) 2 (by kernel_rfl) (by kernel_rfl) ⟨1, rfl⟩ ?_
  simp only [List.take_succ_cons, List.take_zero, List.drop_succ_cons, List.drop_zero]
  iterate 2 quiet_step (fail)
  refine wpQuiet_nil ?_
  rintro _ ⟨nq, rfl⟩
  have hcc : Cells (w5.drewN nq) (some ⟨w4.heap.size, 0, none⟩) tv := by
    have h3 := (Cells.of_blk0 (HB5.out.drewN (n := nq))).take 16
    rwa [HTK.out] at h3
  have HCC := hid hcc
  clear hcc
  go_wp2_with (first | (refine wpl_copyc rfl _ _ _ _ rfl rfl rfl (HZ5.out.drewN (n := nq)) Try.underlying26 size_u8 HTL.out rfl (fun e => by cases e) HCC.out (by simp) o2 ?_))
  intro w6 b6 u6
  have hsp : splice (List.replicate 16 (.int .u8 0)) 0 tv = tv := by
    unfold splice
    rw [List.take_zero, List.nil_append, List.drop_of_length_le (by rw [HTL.out]; simp), List.append_nil]
  change Blk w6 _ (splice (List.replicate 16 (.int .u8 0)) 0 tv) _ at b6
  rw [hsp] at b6
  have HE6 := hid (u6.ext (HE5.out.drewN nq) (by omega))
  clear hsp u6
  go_wp2_with (first | (refine wpl_loadw rfl _ _ rfl rfl b6 agg_tag HTL.out ?_) | (refine wpl_storew rfl _ _ _ rfl rfl rfl b6 agg_tag HTL.out HTL.out o2 ?_))
  intro w7 b7 u7
  go_wp2
  refine ret_row rfl rfl b7 agg_tag HTL.out rfl ⟨rfl, u7.ext HE6.out (by omega)⟩

set_option maxRecDepth 100000 in
set_option maxHeartbeats 1000000 in
theorem rseal_c (k t : List UInt8) (n c : Nat) (a : Option Addr) (w : World) (hk : k.length = 32) (ht : t.length = n) (hn : n ≤ 1048544) (h0 : a = none → c = 0) (hcl : Cells w a (t.map u8v)) :
    Calls Try.prog 42 #[.agg (k.map u8v).toArray, .slice a n c] w fun e w' => e = .returned (.agg ((sealL k t).map u8v).toArray) ∧ Ext w w' := by
  have HT := hid ht
  have HK := hid hk
  have HC := hid hcl
  have H0 := hid (nil0 hcl ht h0)
  have hlen : (k ++ t).length = 32 + n := by rw [List.length_append, hk, ht]
  have hsum := fun (b : Option Addr) (m : Nat) (w : World) (h : Cells w b ((k ++ t).map u8v)) => rstate_c 9 (k ++ t) (32 + n) m b w (by omega) (by omega) hlen (by omega) h
  have hst := fun w => rstir_c (finL (initS 9) (k ++ t) (32 + n)) (finL_length _ _ _) w
  rw [show stirL (finL (initS 9) (k ++ t) (32 + n)) = sealL k t by rw [sealL, hlen]] at hst
  have HSL : Hid (((sealL k t).map u8v).length = 64) := hid (by rw [List.length_map, sealL_length])
  have o1 := one_u8 (sealL k t)
  generalize (finL (initS 9) (k ++ t) (32 + n)).map u8v = fv at *
  generalize hsv : (sealL k t).map u8v = sv at *
  have HSV := hid hsv
  clear ht hk hcl h0 hsv hlen
  go_enter Try.func42, Try.ntmps42
  go_wp2_with fail
  generalize hwA : World.alloc (World.alloc w _) _ = wA
  have kA : Blk wA w.heap.size (k.map u8v) 54 := by rw [← hwA]; exact (Blk.mk_alloc rfl rfl).alloc _
  have zA : Blk wA (w.heap.size + 1) (List.replicate 64 (.int .u8 0)) 75 := by rw [← hwA]; exact Blk.mk_alloc (by simp) rfl
  have eA : Ext w wA := by rw [← hwA]; exact ((Ext.refl w).alloc _).alloc _
  have lA := zA.lt
  clear hwA
  refine (clone_c k (some ⟨w.heap.size, 0, none⟩) 32 32 wA HK.out (by omega) (Cells.of_blk0 kA)).mono ?_
  rintro e w1 ⟨v, rfl, own1, -, e1⟩
  have HO := hid own1
  have HZ1 := hid (zA.ext e1)
  have HE1 := hid (eA.ext e1)
  have HC1 := hid (HC.out.ext HE1.out)
  have hb1 : wA.heap.size ≤ w1.heap.size := e1.size
  clear kA zA eA own1 e1
  generalize wA.heap.size = B at *
  go_wp2_with (at_builtin; refine wpl_append8 rfl _ _ rfl B (ys := t) rfl rfl HO.out HT.out H0.out HC1.out (by omega) hb1 ?_)
  intro v2 w2 own2 g2
  have hv := fun g' h => own_block_ge HO.out g' h
  have own2' : w2.ownsRow B 5 1 v2 (32 + n) ((k ++ t).map u8v) := by rw [List.map_append]; simpa using own2
  have HZ2 := hid (HZ1.out.grown g2 (by intro h; have := hv _ h.symm; omega))
  have HE2 := hid (HE1.out.grown g2 (by intro k hk; have := hv _ hk; omega))
  obtain ⟨a3, c3, rfl, -, -, -, hc3⟩ := own_slice own2'
  have hcall := hsum a3 c3 w2 hc3
  clear own2 own2' g2 hv hc3 HO HZ1 HE1 HC1 hb1 hsum
  go_wp2_with fail
  refine hcall.mono ?_
  rintro e w4 ⟨rfl, e4⟩
  have HZ4 := hid (HZ2.out.ext e4)
  have HE4 := hid (HE2.out.ext e4)
  clear e4 hcall
  go_wp2_with fail
  refine (hst w4).mono ?_
  rintro e w5 ⟨rfl, e5⟩
  have HZ5 := hid (HZ4.out.ext e5)
  have HE5 := hid (HE4.out.ext e5)
  clear e5 hst
  go_wp2_with (first | (refine wpl_storew rfl _ _ _ rfl rfl rfl HZ5.out agg_seal (by simp) HSL.out o1 ?_))
  intro w7 b7 u7
  go_wp2
  refine ret_row rfl rfl b7 agg_seal HSL.out rfl ⟨rfl, u7.ext HE5.out (by omega)⟩
end Go.Proofs.Ytjgglnflicemjaa
