/- The reference's Stir: what it computes; condition: the array's length. -/
import Derived.Test.YtjgglnflicemjaaS4
namespace Go.Proofs.Ytjgglnflicemjaa
open Go Go.RowKit

set_option maxRecDepth 100000 in
set_option maxHeartbeats 1000000 in
theorem rstir_c (l : List UInt8) (hl : l.length = 64) (w : World) :
    Calls Try.prog 16 #[.agg (l.map u8v).toArray] w fun e w' => e = .returned (.agg ((stirL l).map u8v).toArray) ∧ Ext w w' := by
  have hl' : (l.map u8v).length = 64 := by rw [List.length_map]; exact hl
  have HL := hid hl'
  clear hl'
  have HL2 := hid hl
  clear hl
  have hwl : ((wordsL l).map u32v).length = 16 := by rw [List.length_map, wordsL_length]
  have HW := hid hwl
  clear hwl
  go_enter Try.func16, Try.ntmps16
  go_wp2_with (refine wpl_loadw rfl _ _ rfl rfl ((Blk.mk_alloc rfl rfl).alloc _) agg_state HL.out ?_)
  refine (rwords_c l HL2.out _).mono ?_
  rintro e w1 ⟨rfl, hb1⟩
  have e1 : Ext w w1 := (((Ext.refl w).alloc _).alloc _).ext hb1
  have z1 : Blk w1 (w.heap.size + 1) (List.replicate 64 (.int .u8 0)) 22 := Blk.ext (Blk.mk_alloc (by simp) rfl) hb1
  have lt1 : w.heap.size + 1 < w1.heap.size := z1.lt
  clear hb1
  go_wp2_with (refine wpl_storew rfl _ _ _ rfl rfl rfl (Blk.mk_alloc rfl rfl) agg_words rfl HW.out (one_u32 _) ?_)
  intro w2 k2 u2
  have e2 : Ext w w2 := u2.ext (e1.alloc _) e1.size
  have z2 : Blk w2 (w.heap.size + 1) (List.replicate 64 (.int .u8 0)) 22 := (z1.alloc _).upd u2 (by omega)
  clear u2 z1
  have lg : w.heap.size + 1 < w1.heap.size ∧ w.heap.size ≤ w1.heap.size := ⟨lt1, e1.size⟩
  generalize w1.heap.size = g at *
  clear e1 lt1
  go_wp2
  go_loopw [10] (fun x wr => ∃ r : Nat, r ≤ 8 ∧ x = .int .i64 r ∧ Blk wr (w.heap.size + 1) (List.replicate 64 (.int .u8 0)) 22 ∧ Blk wr g ((stirTo (wordsL l) r).map u32v) 103 ∧ Ext w wr)
    (fun x _ => 8 - (intOf x).toNat)
  case atStart => exact ⟨0, by omega, rfl, z2, k2, e2⟩
  case round =>
    obtain ⟨r, hr, rfl, q1, q2, bb⟩ := hrel
    by_cases hlt : r < 8
    · have hd8 : decide ((r : Int) < 8) = true := decide_eq_true (by omega)
      go_wp2
      go_loopw [13] (fun y wi => ∃ i : Nat, i ≤ 16 ∧ y = .int .i64 i ∧ Blk wi (w.heap.size + 1) (List.replicate 64 (.int .u8 0)) 22 ∧ Blk wi g ((roundTo r (stirTo (wordsL l) r) i).map u32v) 103 ∧ Ext w wi)
        (fun y _ => 16 - (intOf y).toNat)
      case atStart => exact ⟨0, by omega, rfl, q1, q2, bb⟩
      case round =>
        obtain ⟨i, hi, rfl, p1, p2, cc⟩ := hrel
        by_cases hlti : i < 16
        · have hlen : (roundTo r (stirTo (wordsL l) r) i).length = 16 := by rw [roundTo_length, stirTo_length, wordsL_length]
          generalize hws : roundTo r (stirTo (wordsL l) r) i = ws at *
          have c1 : wr.cell? ⟨g, i, none⟩ = some (.int .u32 ((ws[i]?.getD 0).toNat : Nat)) := cell_u32 p2 (by omega)
          have c3 : wr.cell? ⟨g, (i + 1 + r) % 16, none⟩ = some (.int .u32 ((ws[(i + 1 + r) % 16]?.getD 0).toNat : Nat)) := cell_u32 p2 (by omega)
          have f1 := p2.frozen i
          have i0 : (0 : Int) ≤ (i : Int) := by omega
          have i1 : (i : Int) < 16 := by omega
          have ad := add32_w (ws[i]?.getD 0) (turnW ws r i)
          have j2 : (0 : Int) ≤ ((i : Int) + 1 + r) % 16 := by omega
          have j3 : ((i : Int) + 1 + r) % 16 < 16 := by omega
          have j4 : (((i : Int) + 1 + r) % 16).toNat = (i + 1 + r) % 16 := by omega
          have j5 : IntKind.i64.wrap (5 + (i : Int)) = 5 + (i : Int) := IntWalk.i64_in _ (by omega)
          have j6 : IntKind.i64.wrap (16 * (r : Int)) = 16 * (r : Int) := IntWalk.i64_in _ (by omega)
          have j7 : IntKind.i64.wrap (16 * (r : Int) + i) = 16 * (r : Int) + i := IntWalk.i64_in _ (by omega)
          have j8 : IntKind.i64.wrap (16 * (r : Int) + i + 1) = 16 * (r : Int) + i + 1 := IntWalk.i64_in _ (by omega)
          have j9 : IntKind.u32.wrap (16 * (r : Int) + i + 1) = 16 * (r : Int) + i + 1 := IntWalk.u32_in _ (by omega)
          have j10 : IntKind.u32.wrap (2654435769 * (16 * (r : Int) + i + 1)) = 2654435769 * (16 * (r : Int) + i + 1) % 4294967296 := IntKind.wrap_u32' _
          have j11 := turn_int ws r i
          have HN := hid hlen
          clear hlen
          go_wp2
          refine wp_region_cls (C := fun w' => ∃ n, w' = wr.drewN n) 18 (by kernel_rfl) (by kernel_rfl) ⟨1, rfl⟩ ?_
          simp only [List.take_succ_cons, List.take_zero, List.drop_succ_cons, List.drop_zero]
          iterate 18 quiet_step ((exact Calls.quiet_of ((rturn_c (ws[(i + 1 + r) % 16]?.getD 0) (5 + i) _ (by omega)))))
          refine wpQuiet_nil ?_
          rintro _ ⟨nq, rfl⟩
          go_wp2
          have p3 := (p2.drewN (n := nq)).set32 i (add32 (ws[i]?.getD 0) (turnW ws r i))
          have p1' := (p1.drewN (n := nq)).set_other ⟨g, i, none⟩ (.int .u32 ((add32 (ws[i]?.getD 0) (turnW ws r i)).toNat : Nat)) (by simp; omega)
          have cc' := (cc.drewN nq).set (p := ⟨g, i, none⟩) (.int .u32 ((add32 (ws[i]?.getD 0) (turnW ws r i)).toNat : Nat)) lg.2
          generalize World.setCell _ _ _ = wq at *
          clear p1 p2 cc c1 c3 f1 ad j2 j3 j4 j5 j6 j7 j8 j9 j10 j11
          have hlen2 : (addW ws r i).length = 16 := by rw [addW_length]; exact HN.out
          change Blk wq g ((addW ws r i).map u32v) _ at p3
          have hst : stepW ws r i = xorW (addW ws r i) i := rfl
          generalize addW ws r i = ws2 at *
          have HST := hid hst
          clear hst
          have c1 : wq.cell? ⟨g, i, none⟩ = some (.int .u32 ((ws2[i]?.getD 0).toNat : Nat)) := cell_u32 p3 (by omega)
          have c2 : wq.cell? ⟨g, (i + 9) % 16, none⟩ = some (.int .u32 ((ws2[(i + 9) % 16]?.getD 0).toNat : Nat)) := cell_u32 p3 (by omega)
          have f2 := p3.frozen ((i + 9) % 16)
          have i2 : (0 : Int) ≤ ((i : Int) + 9) % 16 := by omega
          have i3 : ((i : Int) + 9) % 16 < 16 := by omega
          have i4 : (((i : Int) + 9) % 16).toNat = (i + 9) % 16 := by omega
          have i5 : IntKind.i64.wrap ((i : Int) + 9) = (i : Int) + 9 := IntWalk.i64_in _ (by omega)
          have i6 : ((i : Int) + 9).tmod 16 = ((i : Int) + 9) % 16 := Int.tmod_eq_emod_of_nonneg (by omega)
          have xo := xor32_b (ws2[(i + 9) % 16]?.getD 0) (rotl (ws2[i]?.getD 0) 11)
          clear hlen2
          refine wp_region_cls (C := fun w' => ∃ n, w' = wq.drewN n) 8 (by kernel_rfl) (by kernel_rfl) ⟨1, rfl⟩ ?_
          simp only [List.take_succ_cons, List.take_zero, List.drop_succ_cons, List.drop_zero]
          iterate 8 quiet_step ((exact Calls.quiet_of (rturn_c (ws2[i]?.getD 0) 11 _ (by omega))))
          refine wpQuiet_nil ?_
          rintro _ ⟨nr, rfl⟩
          have p4 := (p3.drewN (n := nr)).set32 ((i + 9) % 16) (xor32 (ws2[(i + 9) % 16]?.getD 0) (rotl (ws2[i]?.getD 0) 11))
          have p1'' := (p1'.drewN (n := nr)).set_other ⟨g, (i + 9) % 16, none⟩ (.int .u32 ((xor32 (ws2[(i + 9) % 16]?.getD 0) (rotl (ws2[i]?.getD 0) 11)).toNat : Nat)) (by simp; omega)
          have cc'' := (cc'.drewN nr).set (p := ⟨g, (i + 9) % 16, none⟩) (.int .u32 ((xor32 (ws2[(i + 9) % 16]?.getD 0) (rotl (ws2[i]?.getD 0) 11)).toNat : Nat)) lg.2
          go_wp2
          go_roundw
          case rel => exact ⟨i + 1, by omega, by go_num, p1'', by rw [roundTo, hws, HST.out]; exact p4, cc''⟩
          case measure => simp [intOf]; omega
        · obtain rfl : i = 16 := by omega
          go_wp2
          go_roundw
          case rel => exact ⟨r + 1, by omega, by go_num, p1, p2, cc⟩
          case measure => simp [intOf]; omega
    · obtain rfl : r = 8 := by omega
      have hlen : ((stirTo (wordsL l) 8).map u32v).length = 16 := by rw [List.length_map, stirTo_length, wordsL_length]
      go_wp2_with (refine wpl_loadw rfl _ _ rfl rfl q2 agg_words hlen ?_)
      refine (roctets_c _ (by rw [stirTo_length, wordsL_length]) _).mono ?_
      rintro e w5 ⟨rfl, hb5⟩
      have hlen2 : ((stateL (stirTo (wordsL l) 8)).map u8v).length = 64 := by rw [List.length_map, stateL_length]
      go_wp2_with (refine wpl_storew rfl _ _ _ rfl rfl rfl (q1.ext hb5) agg_state (by simp) hlen2 (one_u8 _) ?_)
      intro w6 k6 u6
      go_wp2
      exact ret_row (g := w.heap.size + 1) rfl rfl k6 agg_state hlen2 rfl ⟨rfl, u6.ext (bb.ext hb5) (by omega)⟩
end Go.Proofs.Ytjgglnflicemjaa
