/- Blocks of a stream: what streamBlock computes; conditions: the lengths. -/
import Derived.Test.YtjgglnflicemjaaP13
namespace Go.Proofs.Ytjgglnflicemjaa
open Go Go.RowKit

theorem agg_nonce : AggT Try.prog 55 16 := ⟨⟨_, Try.underlying55, rfl⟩, by kernel_rfl⟩

/-- block i of a stream -/
def blkL (k n : List UInt8) (i : Nat) : List UInt8 := stirL (k ++ n ++ List.replicate 8 0 ++ longL (UInt64.ofNat i))
theorem blkL_length (k n : List UInt8) (i : Nat) : (blkL k n i).length = 64 := stirL_length _
/-- the octets of a stream from a place on -/
def strmL (k n : List UInt8) (a m : Nat) : List UInt8 := (List.range m).map fun j => (blkL k n ((a + j) / 64))[(a + j) % 64]?.getD 0
theorem strmL_length (k n : List UInt8) (a m : Nat) : (strmL k n a m).length = m := by simp [strmL]
theorem strmL_more (k n : List UInt8) (a m c : Nat) (hc : (a + m) % 64 + c ≤ 64) :
    strmL k n a (m + c) = strmL k n a m ++ ((blkL k n ((a + m) / 64)).drop ((a + m) % 64)).take c := by
  apply List.ext_getElem?
  intro j
  rw [List.getElem?_append, strmL_length]
  unfold strmL
  by_cases h1 : j < m
  · rw [if_pos h1, List.getElem?_map, List.getElem?_map, List.getElem?_range h1, List.getElem?_range (by omega)]
  · rw [if_neg h1]
    by_cases h2 : j < m + c
    · rw [List.getElem?_map, List.getElem?_range h2, List.getElem?_take_of_lt (by omega), List.getElem?_drop]
      have e1 : (a + j) / 64 = (a + m) / 64 := by omega
      have e2 : (a + j) % 64 = (a + m) % 64 + (j - m) := by omega
      simp only [Option.map_some, e1, e2]
      have hl := blkL_length k n ((a + m) / 64)
      rw [List.getElem?_eq_getElem (by omega)]
      rfl
    · rw [List.getElem?_eq_none (by simp; omega), List.getElem?_eq_none (by rw [List.length_take, List.length_drop, blkL_length]; omega)]

theorem zer8 : List.replicate 8 (Value.int .u8 0) = (List.replicate 8 (0 : UInt8)).map u8v := by simp [u8v]

theorem splice3 (k n l : List Value) (hk : k.length = 32) (hn : n.length = 16) (hl : l.length = 8) :
    splice (splice (splice (List.replicate 64 (.int .u8 0)) 0 k) 32 n) 56 l = k ++ n ++ List.replicate 8 (.int .u8 0) ++ l := by
  have h1 : splice (List.replicate 64 (.int .u8 0)) 0 k = k ++ List.replicate 32 (.int .u8 0) := by
    unfold splice
    rw [List.take_zero, List.nil_append, Nat.zero_add, hk, List.drop_replicate]
  have h2 : splice (k ++ List.replicate 32 (Value.int .u8 0)) 32 n = k ++ n ++ List.replicate 16 (.int .u8 0) := by
    unfold splice
    rw [List.take_append_of_le_length (by omega), List.take_of_length_le (by omega), hn, List.drop_append, List.drop_of_length_le (by omega), List.nil_append, hk, List.drop_replicate]
  have hkn : (k ++ n).length = 48 := by rw [List.length_append, hk, hn]
  rw [h1, h2]
  unfold splice
  rw [hl, List.take_append, List.take_of_length_le (by omega), hkn, List.drop_append, List.drop_of_length_le (by omega), hkn, List.nil_append, List.take_replicate, List.drop_replicate]
  simp

set_option maxRecDepth 100000 in
set_option maxHeartbeats 1000000 in
theorem streamBlock_c (k n : List UInt8) (i : Nat) (w : World) (hk : k.length = 32) (hn : n.length = 16) (hi : i < 18446744073709551616) :
    Calls Try.prog 74 #[.agg (k.map u8v).toArray, .agg (n.map u8v).toArray, .int .u64 (i : Int)] w fun e w' => e = .returned (.agg ((blkL k n i).map u8v).toArray) ∧ Ext w w' := by
  have hun : ((UInt64.ofNat i).toNat : Int) = i := by rw [UInt64.toNat_ofNat']; omega
  have hlong := fun w => longOctets_c (UInt64.ofNat i) w
  rw [hun] at hlong
  have hll : (longL (UInt64.ofNat i)).length = 8 := rfl
  have hst := fun w => stir_c (k ++ n ++ List.replicate 8 0 ++ longL (UInt64.ofNat i)) (by rw [List.length_append, List.length_append, List.length_append, hk, hn]; rfl) w
  rw [show stirL (k ++ n ++ List.replicate 8 0 ++ longL (UInt64.ofNat i)) = blkL k n i from rfl] at hst
  have HBL : Hid (((blkL k n i).map u8v).length = 64) := hid (by rw [List.length_map, blkL_length])
  generalize blkL k n i = bl at *
  generalize longL (UInt64.ofNat i) = ll at *
  have HK : Hid ((k.map u8v).length = 32) := hid (by rw [List.length_map, hk])
  have HN : Hid ((n.map u8v).length = 16) := hid (by rw [List.length_map, hn])
  have HL : Hid ((ll.map u8v).length = 8) := hid (by rw [List.length_map, hll])
  have HSP := hid (splice3 _ _ _ HK.out HN.out HL.out)
  have HKL : Hid ((k.map u8v ++ n.map u8v ++ List.replicate 8 (Value.int .u8 0) ++ ll.map u8v).length = 64) := hid (by rw [List.length_append, List.length_append, List.length_append, HK.out, HN.out, HL.out]; rfl)
  simp only [List.map_append, ← zer8] at hst
  have ok := one_u8 k
  have on := one_u8 n
  have ol := one_u8 ll
  have ob := one_u8 bl
  generalize k.map u8v = kv at *
  generalize n.map u8v = nv at *
  generalize ll.map u8v = lv at *
  generalize bl.map u8v = bv at *
  clear hun hk hn hll
  go_enter Try.func74, Try.ntmps74
  go_wp2_with fail
  generalize hwA : World.alloc (World.alloc (World.alloc (World.alloc w _) _) _) _ = wA
  have kA : Blk wA w.heap.size kv 54 := by rw [← hwA]; exact (((Blk.mk_alloc rfl rfl).alloc _).alloc _).alloc _
  have nA : Blk wA (w.heap.size + 1) nv 55 := by rw [← hwA]; exact ((Blk.mk_alloc (by simp) rfl).alloc _).alloc _
  have rA : Blk wA (w.heap.size + 2) (List.replicate 64 (.int .u8 0)) 22 := by rw [← hwA]; exact (Blk.mk_alloc (by simp) rfl).alloc _
  have sA : Blk wA (w.heap.size + 3) (List.replicate 64 (.int .u8 0)) 22 := by rw [← hwA]; exact Blk.mk_alloc (by simp) rfl
  have eA : Ext w wA := by rw [← hwA]; exact ((((Ext.refl w).alloc _).alloc _).alloc _).alloc _
  clear hwA
  have KA := hid kA
  have NA := hid nA
  have RA := hid rA
  have SA := hid sA
  have EA := hid eA
  clear kA nA rA sA eA
  refine wp_region_cls (C := fun w' => ∃ n, w' = wA.drewN n) 2 (by kernel_rfl) (by kernel_rfl) ⟨1, rfl⟩ ?_
  simp only [List.take_succ_cons, List.take_zero, List.drop_succ_cons, List.drop_zero]
  iterate 2 quiet_step (fail)
  refine wpQuiet_nil ?_
  rintro _ ⟨nq, rfl⟩
  have KB := hid (Cells.of_blk0 (KA.out.drewN (n := nq)))
  go_wp2_with (first | (refine wpl_copyc rfl _ _ _ _ rfl rfl rfl (SA.out.drewN (n := nq)) Try.underlying26 size_u8 HK.out rfl (fun e => by cases e) KB.out (by simp) ok ?_))
  intro w1 s1 u1
  have S1 : Hid (Blk w1 (w.heap.size + 3) (splice (List.replicate 64 (.int .u8 0)) 0 kv) 22) := hid s1
  have N1 := hid ((NA.out.drewN (n := nq)).upd u1 (by omega))
  have R1 := hid ((RA.out.drewN (n := nq)).upd u1 (by omega))
  have E1 := hid (u1.ext (EA.out.drewN nq) (by omega))
  clear s1 u1 KA NA RA SA EA KB
  have hl1 : (splice (List.replicate 64 (.int .u8 0)) 0 kv).length = 64 := by simp [splice, HK.out]
  generalize hp1 : splice (List.replicate 64 (.int .u8 0)) 0 kv = p1 at *
  go_wp2
  refine wp_region_cls (C := fun w' => ∃ n, w' = w1.drewN n) 2 (by kernel_rfl) (by kernel_rfl) ⟨1, rfl⟩ ?_
  simp only [List.take_succ_cons, List.take_zero, List.drop_succ_cons, List.drop_zero]
  iterate 2 quiet_step (fail)
  refine wpQuiet_nil ?_
  rintro _ ⟨nq, rfl⟩
  have NB := hid (Cells.of_blk0 (N1.out.drewN (n := nq)))
  go_wp2_with (first | (refine wpl_copyc rfl _ _ _ _ rfl rfl rfl (S1.out.drewN (n := nq)) Try.underlying26 size_u8 HN.out rfl (fun e => by cases e) NB.out (by omega) on ?_))
  intro w2 s2 u2
  have S2 := hid s2
  have R2 := hid ((R1.out.drewN (n := nq)).upd u2 (by omega))
  have E2 := hid (u2.ext (E1.out.drewN nq) (by omega))
  have hl2 : (splice p1 32 nv).length = 64 := by simp [splice, HN.out, hl1]
  clear s2 u2 N1 R1 S1 E1 NB hp1 hl1
  generalize hp2 : splice p1 32 nv = p2 at *
  go_wp2_with fail
  refine (hlong _).mono ?_
  rintro e w3 ⟨rfl, e3⟩
  go_wp2_with (refine wpl_storew rfl _ _ _ rfl rfl rfl (Blk.mk_alloc rfl rfl) agg_eight rfl HL.out ol ?_)
  intro w4 b4 u4
  have e4 : Ext w2 w4 := u4.ext (e3.alloc _) e3.size
  have L4 := hid b4
  have S4 := hid (S2.out.ext e4)
  have R4 := hid (R2.out.ext e4)
  have E4 := hid (E2.out.ext e4)
  clear b4 u4 e4 e3 S2 R2 E2 hlong
  go_wp2
  refine wp_region_cls (C := fun w' => ∃ n, w' = w4.drewN n) 2 (by kernel_rfl) (by kernel_rfl) ⟨1, rfl⟩ ?_
  simp only [List.take_succ_cons, List.take_zero, List.drop_succ_cons, List.drop_zero]
  iterate 2 quiet_step (fail)
  refine wpQuiet_nil ?_
  rintro _ ⟨nq, rfl⟩
  have LB := hid (Cells.of_blk0 (L4.out.drewN (n := nq)))
  go_wp2_with (first | (refine wpl_copyc rfl _ _ _ _ rfl rfl rfl (S4.out.drewN (n := nq)) Try.underlying26 size_u8 HL.out rfl (fun e => by cases e) LB.out (by omega) ol ?_))
  intro w5 s5 u5
  rw [HSP.out] at s5
  have R5 := hid ((R4.out.drewN (n := nq)).upd u5 (by omega))
  have E5 := hid (u5.ext (E4.out.drewN nq) (by omega))
  have S5 := hid s5
  clear s5 u5 R4 S4 E4 LB L4 HSP hp2 hl2
  generalize kv ++ nv ++ List.replicate 8 (Value.int .u8 0) ++ lv = sv at *
  go_wp2_with (refine wpl_loadw rfl _ _ rfl rfl S5.out agg_state HKL.out ?_)
  refine (hst w5).mono ?_
  rintro e w6 ⟨rfl, e6⟩
  have R6 := hid (R5.out.ext e6)
  have E6 := hid (E5.out.ext e6)
  clear e6 R5 E5 S5 hst
  go_wp2_with (refine wpl_storew rfl _ _ _ rfl rfl rfl R6.out agg_state (by simp) HBL.out ob ?_)
  intro w7 b7 u7
  go_wp2
  refine ret_row rfl rfl b7 agg_state HBL.out rfl ⟨rfl, u7.ext E6.out (by omega)⟩
end Go.Proofs.Ytjgglnflicemjaa
