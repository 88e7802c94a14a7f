/- The reference's Sum: what it computes; conditions: the text's length, the domain. -/
import Derived.Test.YtjgglnflicemjaaP10
namespace Go.Proofs.Ytjgglnflicemjaa
open Go Go.RowKit

set_option maxRecDepth 100000 in
set_option maxHeartbeats 1000000 in
theorem rsum_c (d : Int) (t : List UInt8) (n c : Nat) (a : Option Addr) (w : World) (hd0 : 0 ≤ d) (hd1 : d ≤ 255) (ht : t.length = n) (hn : n ≤ 1099511627776) (hcl : Cells w a (t.map u8v)) :
    Calls Try.prog 38 #[.int .i64 d, .slice a n c] w fun e w' => e = .returned (.agg ((sumL d t).map u8v).toArray) ∧ Ext w w' := by
  have HC := hid hcl
  have hst := fun w' (h : Cells w' a (t.map u8v)) => rstate_c d t n c a w' hd0 hd1 ht hn h
  have HFL : Hid (((finL (initS d) t n).map u8v).length = 64) := hid (by rw [List.length_map, finL_length])
  have HSU : Hid (((sumL d t).map u8v).length = 32) := hid (by rw [List.length_map, sumL_length])
  have HTK : Hid (((finL (initS d) t n).map u8v).take 32 = (sumL d t).map u8v) := hid (by rw [sumL, ht, List.map_take])
  have h1 := one_u8 (finL (initS d) t n)
  have h2 := one_u8 (sumL d t)
  generalize hsv : (sumL d t).map u8v = sv at *
  generalize (finL (initS d) t n).map u8v = fv at *
  clear hcl hsv ht
  go_enter Try.func38, Try.ntmps38
  go_wp2_with fail
  generalize hwA : World.alloc w _ = wA
  have zA : Blk wA w.heap.size (List.replicate 32 (.int .u8 0)) 65 := by rw [← hwA]; exact Blk.mk_alloc rfl rfl
  have eA : Ext w wA := by rw [← hwA]; exact (Ext.refl w).alloc _
  clear hwA
  refine (hst _ (HC.out.ext eA)).mono ?_
  rintro e w1 ⟨rfl, e1⟩
  have HZ := hid (zA.ext e1)
  have HE := hid (eA.ext e1)
  have l1 : w.heap.size < w1.heap.size := HZ.out.lt
  clear zA eA e1
  go_wp2_with (refine wpl_storew rfl _ _ _ rfl rfl rfl (Blk.mk_alloc rfl rfl) agg_state rfl HFL.out h1 ?_)
  intro w2 b2 u2
  have e2 : Ext w1 w2 := u2.ext ((Ext.refl w1).alloc _) (Nat.le_refl _)
  have HZ2 := hid (HZ.out.ext e2)
  have HE2 := hid (HE.out.ext e2)
  have HB2 := hid b2
  clear e2 u2 b2
  go_wp2
  refine wp_region_cls (C := fun w' => ∃ n, w' = w2.drewN n) 2 (by kernel_rfl) (by kernel_rfl) ⟨1, rfl⟩ ?_
  simp only [List.take_succ_cons, List.take_zero, List.drop_succ_cons, List.drop_zero]
  iterate 2 quiet_step (fail)
  refine wpQuiet_nil ?_
  rintro _ ⟨nq, rfl⟩
  have hcc : Cells (w2.drewN nq) (some ⟨w1.heap.size, 0, none⟩) sv := by
    have := Cells.of_blk0 (HB2.out.drewN (n := nq))
    have h3 := this.take 32
    rwa [HTK.out] at h3
  have HCC := hid hcc
  clear hcc
  go_wp2_with (first | (refine wpl_copyc rfl _ _ _ _ rfl rfl rfl (HZ2.out.drewN (n := nq)) Try.underlying26 size_u8 HSU.out rfl (fun e => by cases e) HCC.out (by simp) h2 ?_))
  intro w3 b3 u3
  have hsp : splice (List.replicate 32 (.int .u8 0)) 0 sv = sv := by
    unfold splice
    rw [List.take_zero, List.nil_append, List.drop_of_length_le (by rw [HSU.out]; simp), List.append_nil]
  change Blk w3 _ (splice (List.replicate 32 (.int .u8 0)) 0 sv) _ at b3
  rw [hsp] at b3
  have HE3 := hid (u3.ext (HE2.out.drewN nq) (Nat.le_refl _))
  clear hsp u3
  go_wp2_with (first | (refine wpl_loadw rfl _ _ rfl rfl b3 agg_apisum HSU.out ?_) | (refine wpl_storew rfl _ _ _ rfl rfl rfl b3 agg_apisum HSU.out HSU.out h2 ?_))
  intro w4 b4 u4
  go_wp2
  refine ret_row rfl rfl b4 agg_apisum HSU.out rfl ⟨rfl, u4.ext HE3.out (Nat.le_refl _)⟩
end Go.Proofs.Ytjgglnflicemjaa
