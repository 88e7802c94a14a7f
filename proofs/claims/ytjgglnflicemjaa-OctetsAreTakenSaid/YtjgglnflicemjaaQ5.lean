/- The law OctetsAreTaken, walked; conditions: the slice's length. -/
import Derived.Test.YtjgglnflicemjaaP22
import Derived.Deep.DeepCutAuto
import Derived.Deep.CutBlock
namespace Go.Proofs.Ytjgglnflicemjaa
open Go Go.RowKit

theorem neq_self2 {t : TypeId} {n : Nat} (ht : Try.prog.underlying t = some (.array n 5)) (xs : List UInt8) (hx : xs.length = n) (w : World) :
    (binOp .neq t (.agg (xs.map u8v).toArray) (.agg (xs.map u8v).toArray)).run Try.prog w = .ok (.bool false) w := by
  rw [neq_arr ht xs xs hx hx]; simp
theorem guard_arr32 : Try.prog.eqGuardType Try.prog.depth 34 = false := by kernel_rfl
theorem quiet_cmp {P : Program} {C : World → Prop} {K : Act → Prop} {o : Oper} {a : Act} (op : BinOp) (t u : TypeId) (x y : Operand) (ho : o.op = .binOp op t x y u) {xs ys : Array Value} {b : Value} (hx : a.eval x = .agg xs) (hy : a.eval y = .agg ys)
    (hg : P.eqGuardType P.depth t = false) (hr : ∀ w, (binOp op t (.agg xs) (.agg ys)).run P w = .ok b w) (h : K (a.put o.dst b)) : o.quiet P a C K :=
  ⟨b, fun w _ => by
    unfold Oper.quietAt execOp
    simp only [ho, hx, hy, Sem.run_bind, run_eqGuard_agg w op t x y xs ys hg, Result.andThen_ok, hr, Sem.run_pure]
    exact ⟨rfl, rfl⟩, h⟩

set_option maxRecDepth 100000 in
set_option maxHeartbeats 2000000 in
theorem octetsTaken_c (l : List UInt8) (a : Option Addr) (n c : Nat) (at_ to_ : Int) (x : UInt8) (w : World) (hnl : l.length = n) (hnc : n ≤ c) (hc : c ≤ 140737488351232) (hcl : Cells w a (l.map u8v)) :
    Calls Try.prog 4 #[.slice a n c, .int .i64 at_, .int .i64 to_, .int .u8 (x.toNat : Int)] w fun e w' => e = .returned (.bool true) ∧ Ext w w' := by
  have HC := hid hcl
  have HNL := hid hnl
  clear hcl hnl
  go_enter Try.func4, Try.ntmps4
  go_wp2_with fail
  refine (landed_c _).mono ?_
  rintro e w1 ⟨rfl, e1⟩
  have HE1 := hid e1
  clear e1
  go_wp2_with fail
  refine (clone_c l a n c w1 HNL.out (by omega) (HC.out.ext HE1.out)).mono ?_
  rintro e w2 ⟨v, rfl, own2, -, e2⟩
  obtain ⟨a2, c2, rfl, hnc2, hcm2, h02, hcl2⟩ := own_slice own2
  have HO := hid own2
  have H02 := hid h02
  have HC2 := hid hcl2
  have HE2 := hid (HE1.out.ext e2)
  have hB := HE1.out.size
  clear own2 h02 hcl2 e2 HC
  unfold maxLen at hcm2
  obtain ⟨e16, cv16, tv16, l16, o16, cut16, take16, q16, d16⟩ := both16 l a2 n c2 at_ w2 HNL.out (by omega) hnc2 HC2.out
  obtain ⟨e32, cv32, tv32, l32, o32, cut32, take32, q32, d32⟩ := both32 l a2 n c2 at_ w2 HNL.out (by omega) hnc2 HC2.out
  obtain ⟨e64, cv64, tv64, l64, o64, cut64, take64, q64, d64⟩ := both64 l a2 n c2 at_ w2 HNL.out (by omega) hnc2 HC2.out
  have L16 := hid l16
  have L32 := hid l32
  have L64 := hid l64
  have CU16 := hid cut16
  have CU32 := hid cut32
  have CU64 := hid cut64
  have TA16 := hid take16
  have TA32 := hid take32
  have TA64 := hid take64
  have Q32 := hid q32
  have D16 := hid d16
  have D32 := hid d32
  have D64 := hid d64
  clear l16 l32 l64 cut16 cut32 cut64 take16 take32 take64 q16 q32 q64 d16 d32 d64
  go_wp2_with fail
  refine (CU16.out w2).mono ?_
  rintro e w' ⟨rfl, rfl⟩
  go_wp2_with fail
  refine (CU32.out w2).mono ?_
  rintro e w' ⟨rfl, rfl⟩
  go_wp2_with fail
  refine (CU64.out w2).mono ?_
  rintro e w' ⟨rfl, rfl⟩
  go_wp2_with fail
  refine (TA16.out w2 (Ext.refl _)).mono ?_
  rintro e w3 ⟨rfl, e3⟩
  go_wp2_with (refine wpl_storew rfl _ _ _ rfl rfl rfl (Blk.mk_alloc rfl rfl) agg_16 rfl L16.out o16 ?_)
  intro w4 b4 u4
  have E4 := hid (show Ext w2 w4 from u4.ext (e3.alloc _) e3.size)
  have B16 := hid b4
  clear b4 u4 e3
  generalize w3.heap.size = g16 at *
  go_wp2_with fail
  refine (TA32.out w4 E4.out).mono ?_
  rintro e w5 ⟨rfl, e5⟩
  go_wp2_with (refine wpl_storew rfl _ _ _ rfl rfl rfl (Blk.mk_alloc rfl rfl) agg_sum rfl L32.out o32 ?_)
  intro w6 b6 u6
  have e46 : Ext w4 w6 := u6.ext (e5.alloc _) e5.size
  have E6 := hid (E4.out.ext e46)
  have B16b := hid (B16.out.ext e46)
  have B32 := hid b6
  have hg32 : w2.heap.size ≤ w5.heap.size := Nat.le_trans E4.out.size e5.size
  clear b6 u6 e5 e46 B16 E4
  generalize w5.heap.size = g32 at *
  go_wp2_with fail
  refine (TA64.out w6 E6.out).mono ?_
  rintro e w7 ⟨rfl, e7⟩
  go_wp2_with (refine wpl_storew rfl _ _ _ rfl rfl rfl (Blk.mk_alloc rfl rfl) agg_state rfl L64.out o64 ?_)
  intro w8 b8 u8
  have e68 : Ext w6 w8 := u8.ext (e7.alloc _) e7.size
  have E8 := hid (E6.out.ext e68)
  have B16c := hid (B16b.out.ext e68)
  have B32c := hid (B32.out.ext e68)
  have B64c := hid b8
  clear b8 u8 e7 e68 B16b B32 E6
  generalize w7.heap.size = g64 at *
  go_upto_region 12 with (fail)
  go_cut [104] (fun s wx => s = .bool false ∧ wx = w8)
  case first =>
    rcases D16.out with ⟨rfl, X16, Y16, xs16, rfl, hl16, rfl, -, hx16⟩ | hno16
    · rcases D32.out with ⟨rfl, X32, Y32, xs32, rfl, hl32, rfl, -, hx32⟩ | hno32
      · rcases D64.out with ⟨rfl, X64, Y64, xs64, rfl, hl64, rfl, -, hx64⟩ | hno64
        · go_wp2_with fail
          refine (equal_c xs16 xs16 (some ⟨g16, 0, none⟩) X16 16 16 16 Y16 w8 hl16.symm hl16.symm (Cells.of_blk0 B16c.out) (hx16.ext E8.out)).mono ?_
          rintro e w' ⟨rfl, rfl⟩
          rw [beq_self_eq_true]
          go_wp2_with fail
          refine (equal_c xs32 xs32 (some ⟨g32, 0, none⟩) X32 32 32 32 Y32 w8 hl32.symm hl32.symm (Cells.of_blk0 B32c.out) (hx32.ext E8.out)).mono ?_
          rintro e w' ⟨rfl, rfl⟩
          rw [beq_self_eq_true]
          go_wp2_with fail
          refine (equal_c xs64 xs64 (some ⟨g64, 0, none⟩) X64 64 64 64 Y64 w8 hl64.symm hl64.symm (Cells.of_blk0 B64c.out) (hx64.ext E8.out)).mono ?_
          rintro e w' ⟨rfl, rfl⟩
          rw [beq_self_eq_true]
          go_wp2
          go_meet
          exact ⟨rfl, rfl⟩
        · have hb64 : (e64 == 0) = false := by rw [beq_eq_false_iff_ne]; exact hno64
          clear hno64
          go_wp2_with fail
          refine (equal_c xs16 xs16 (some ⟨g16, 0, none⟩) X16 16 16 16 Y16 w8 hl16.symm hl16.symm (Cells.of_blk0 B16c.out) (hx16.ext E8.out)).mono ?_
          rintro e w' ⟨rfl, rfl⟩
          rw [beq_self_eq_true]
          go_wp2_with fail
          refine (equal_c xs32 xs32 (some ⟨g32, 0, none⟩) X32 32 32 32 Y32 w8 hl32.symm hl32.symm (Cells.of_blk0 B32c.out) (hx32.ext E8.out)).mono ?_
          rintro e w' ⟨rfl, rfl⟩
          rw [beq_self_eq_true]
          go_wp2
          go_meet
          exact ⟨rfl, rfl⟩
      · have hb32 : (e32 == 0) = false := by rw [beq_eq_false_iff_ne]; exact hno32
        clear hno32
        rcases D64.out with ⟨rfl, X64, Y64, xs64, rfl, hl64, rfl, -, hx64⟩ | hno64
        · go_wp2_with fail
          refine (equal_c xs16 xs16 (some ⟨g16, 0, none⟩) X16 16 16 16 Y16 w8 hl16.symm hl16.symm (Cells.of_blk0 B16c.out) (hx16.ext E8.out)).mono ?_
          rintro e w' ⟨rfl, rfl⟩
          rw [beq_self_eq_true]
          go_wp2_with fail
          refine (equal_c xs64 xs64 (some ⟨g64, 0, none⟩) X64 64 64 64 Y64 w8 hl64.symm hl64.symm (Cells.of_blk0 B64c.out) (hx64.ext E8.out)).mono ?_
          rintro e w' ⟨rfl, rfl⟩
          rw [beq_self_eq_true]
          go_wp2
          go_meet
          exact ⟨rfl, rfl⟩
        · have hb64 : (e64 == 0) = false := by rw [beq_eq_false_iff_ne]; exact hno64
          clear hno64
          go_wp2_with fail
          refine (equal_c xs16 xs16 (some ⟨g16, 0, none⟩) X16 16 16 16 Y16 w8 hl16.symm hl16.symm (Cells.of_blk0 B16c.out) (hx16.ext E8.out)).mono ?_
          rintro e w' ⟨rfl, rfl⟩
          rw [beq_self_eq_true]
          go_wp2
          go_meet
          exact ⟨rfl, rfl⟩
    · have hb16 : (e16 == 0) = false := by rw [beq_eq_false_iff_ne]; exact hno16
      clear hno16
      rcases D32.out with ⟨rfl, X32, Y32, xs32, rfl, hl32, rfl, -, hx32⟩ | hno32
      · rcases D64.out with ⟨rfl, X64, Y64, xs64, rfl, hl64, rfl, -, hx64⟩ | hno64
        · go_wp2_with fail
          refine (equal_c xs32 xs32 (some ⟨g32, 0, none⟩) X32 32 32 32 Y32 w8 hl32.symm hl32.symm (Cells.of_blk0 B32c.out) (hx32.ext E8.out)).mono ?_
          rintro e w' ⟨rfl, rfl⟩
          rw [beq_self_eq_true]
          go_wp2_with fail
          refine (equal_c xs64 xs64 (some ⟨g64, 0, none⟩) X64 64 64 64 Y64 w8 hl64.symm hl64.symm (Cells.of_blk0 B64c.out) (hx64.ext E8.out)).mono ?_
          rintro e w' ⟨rfl, rfl⟩
          rw [beq_self_eq_true]
          go_wp2
          go_meet
          exact ⟨rfl, rfl⟩
        · have hb64 : (e64 == 0) = false := by rw [beq_eq_false_iff_ne]; exact hno64
          clear hno64
          go_wp2_with fail
          refine (equal_c xs32 xs32 (some ⟨g32, 0, none⟩) X32 32 32 32 Y32 w8 hl32.symm hl32.symm (Cells.of_blk0 B32c.out) (hx32.ext E8.out)).mono ?_
          rintro e w' ⟨rfl, rfl⟩
          rw [beq_self_eq_true]
          go_wp2
          go_meet
          exact ⟨rfl, rfl⟩
      · have hb32 : (e32 == 0) = false := by rw [beq_eq_false_iff_ne]; exact hno32
        clear hno32
        rcases D64.out with ⟨rfl, X64, Y64, xs64, rfl, hl64, rfl, -, hx64⟩ | hno64
        · go_wp2_with fail
          refine (equal_c xs64 xs64 (some ⟨g64, 0, none⟩) X64 64 64 64 Y64 w8 hl64.symm hl64.symm (Cells.of_blk0 B64c.out) (hx64.ext E8.out)).mono ?_
          rintro e w' ⟨rfl, rfl⟩
          rw [beq_self_eq_true]
          go_wp2
          go_meet
          exact ⟨rfl, rfl⟩
        · have hb64 : (e64 == 0) = false := by rw [beq_eq_false_iff_ne]; exact hno64
          clear hno64
          go_wp2
          go_meet
          exact ⟨rfl, rfl⟩
  case rest =>
    obtain ⟨rfl, rfl⟩ := hcut
    have hE8 := hid (HE2.out.ext E8.out)
    have hO8 := hid (ownsRow_ext HO.out E8.out)
    have hC8 := hid (HC2.out.ext E8.out)
    clear CU16 CU32 CU64 TA16 TA32 TA64 D16 D64 B16c B64c L16 L64
    by_cases h32 : roomE n at_ 32 = 0
    · have he32 := Q32.out
      rw [h32] at he32
      subst he32
      rcases D32.out with ⟨-, X, Y, xs, rfl, hxl, rfl, hxs, hxc⟩ | hno
      case inr => exact absurd rfl hno
      obtain ⟨p, rfl, hp⟩ := roomE_zero h32 (by omega)
      rw [Int.toNat_natCast] at hxs
      obtain ⟨g, cap, hv, hg, hncap, hcapm⟩ := own_some hO8.out (by omega)
      obtain ⟨hae, hce⟩ : a2 = some ⟨g, 0, none⟩ ∧ c2 = cap := by injection hv with h1 h2 h3; exact ⟨h1, h3⟩
      subst hae
      subst hce
      have hrv : refV (some ⟨g, 0, none⟩) c2 n (p : Int) = .tuple #[.pointer (some ⟨g, p, none⟩), .int .i64 0] := by
        unfold refV
        rw [if_pos h32, Int.toNat_natCast, shift_some g 0 c2 p (by omega), Nat.zero_add]
      have hrf := ref32_c (some ⟨g, 0, none⟩) n c2 (p : Int) wc (by omega) hnc2
      rw [hrv] at hrf
      have HRF := hid hrf
      obtain ⟨z, hz⟩ : ∃ z, l[p]?.getD 0 = z := ⟨_, rfl⟩
      have c1 : wc.cell? ⟨g, p, none⟩ = some (.int .u8 (z.toNat : Int)) := by
        rw [hO8.out.cellAt p (by omega), u8_at (by rw [HNL.out]; omega), hz]
      have f1 := hO8.out.frozenAt p
      have hxo := xor8_b z x
      have i0 : (0 : Int) ≤ (p : Int) := by omega
      have i1 : (p : Int) < (n : Int) := by omega
      have i2 : (p : Int) ≤ (n : Int) := by omega
      have ne : ¬ c2 = p := by omega
      clear hrf hrv hv h32 D32
      go_wp2_with fail
      refine HRF.out.mono ?_
      rintro e w9 ⟨rfl, rfl⟩
      go_wp2
      refine wp_region_cls (C := fun w' => ∃ n, w' = wc.drewN n) 8 (by kernel_rfl) (by kernel_rfl) ⟨1, rfl⟩ ?_
      simp only [List.take_succ_cons, List.take_zero, List.drop_succ_cons, List.drop_zero]
      iterate 8 quiet_step (fail)
      refine wpQuiet_nil ?_
      rintro _ ⟨nq, rfl⟩
      go_wp2
      have on : (wc.drewN nq).ownsRow w1.heap.size 5 1 (.slice (some ⟨g, 0, none⟩) n c2) n (l.map u8v) := hO8.out
      have hs := on.stored p (u8v (xor8 z x))
      rw [← List.map_set] at hs
      have hcs : ∀ q : Nat, q = p → ((wc.drewN nq).setCell ⟨g, p, none⟩ (.int .u8 ((xor8 z x).toNat : Int))).cell? ⟨g, q, none⟩ = some (.int .u8 ((xor8 z x).toNat : Int)) := by
        intro q hq
        subst hq
        exact World.cell?_setCell_same _ _ _ c1
      have c1' := hcs p rfl
      have hgl : g < w2.heap.size := own_block_lt HO.out g rfl
      have hgne : g32 ≠ g := by omega
      have b32 := (B32c.out.drewN (n := nq)).set_other ⟨g, p, none⟩ (.int .u8 ((xor8 z x).toNat : Int)) hgne
      have hx0 : xs[0]?.getD 0 = z := by
        rw [hxs, List.getElem?_take_of_lt (by omega), List.getElem?_drop, Nat.add_zero, hz]
      have c2' := b32.cell' (i := 0) (u8_at (by omega))
      rw [hx0] at c2'
      have HG9 := hid ((hE8.out.drewN nq).grown hs.2 (by intro k hk; cases hk; omega))
      have HO9 := hid hs.1
      change Hid (Ext w ((wc.drewN nq).setCell ⟨g, p, none⟩ (.int .u8 ((xor8 z x).toNat : Int)))) at HG9
      change Hid (World.ownsRow ((wc.drewN nq).setCell ⟨g, p, none⟩ (.int .u8 ((xor8 z x).toNat : Int))) _ _ _ _ _ _) at HO9
      clear hs on hcs c1 f1 b32 HO hO8 hC8 hE8 HRF B32c
      generalize (wc.drewN nq).setCell ⟨g, p, none⟩ (.int .u8 ((xor8 z x).toNat : Int)) = w9 at *
      obtain ⟨a9, c9, hv9, -, -, -, hc9⟩ := own_slice HO9.out
      injection hv9 with h91 h92 h93
      subst h91
      subst h93
      have hll : (l.set p (xor8 z x)).length = n := by rw [List.length_set]; exact HNL.out
      generalize l.set p (xor8 z x) = l9 at *
      have hpc := hc9.part p 32
      rw [Nat.zero_add, ← List.map_drop, ← List.map_take] at hpc
      have hvl : (((l9.drop p).take 32).map u8v).length = 32 := by rw [List.length_map, List.length_take, List.length_drop, hll]; omega
      have hvl2 : ((l9.drop p).take 32).length = 32 := by rw [List.length_map] at hvl; exact hvl
      generalize (l9.drop p).take 32 = v9 at *
      have hvs : ∀ w', (∃ q, w' = w9.drewN q) → ∀ j u, (v9.map u8v)[j]? = some u → w'.cell? ⟨g, p + j, none⟩ = some u := by
        rintro w' ⟨q, rfl⟩ j u hu
        rcases hpc with h | ⟨_, _, h, h2⟩
        · rw [h] at hu; simp at hu
        · cases h; exact h2 j u hu
      have HVL := hid hvl
      have HLL := hid hll
      have HC9 := hid hc9
      have HCMP := hid (fun w => neq_self2 Try.underlying34 v9 hvl2 w)
      have HVS := hid hvs
      have har := run_arrayAt (P := Try.prog) Try.underlying34 (len := n - p) (by omega)
      clear hvl hvl2 hll hc9 hpc hvs hxs hx0 hz
      refine wp_region_cls (C := fun w' => ∃ n, w' = w9.drewN n) 25 (by kernel_rfl) (by kernel_rfl) ⟨1, rfl⟩ ?_
      simp only [List.take_succ_cons, List.take_zero, List.drop_succ_cons, List.drop_zero]
      iterate 2 quiet_step (fail)
      refine wpQuiet_step (fun K hK => ?_)
      rw [if_pos (by rfl)]
      refine quiet_loadc _ _ rfl rfl HVS.out agg_sum HVL.out (hK _ ?_)
      clear hK K
      simp only [Act.put, List.setIfInBounds_toArray, List.set_cons_succ, List.set_cons_zero]
      iterate 4 quiet_step (fail)
      refine wpQuiet_step (fun K hK => ?_)
      rw [if_pos (by rfl)]
      refine quiet_loadc _ _ rfl rfl HVS.out agg_sum HVL.out (hK _ ?_)
      clear hK K
      simp only [Act.put, List.setIfInBounds_toArray, List.set_cons_succ, List.set_cons_zero]
      refine wpQuiet_step (fun K hK => ?_)
      rw [if_pos (by rfl)]
      refine quiet_cmp .neq _ _ _ _ rfl rfl rfl guard_arr32 HCMP.out (hK _ ?_)
      clear hK K
      simp only [Act.put, List.setIfInBounds_toArray, List.set_cons_succ, List.set_cons_zero]
      iterate 16 quiet_step (fail)
      refine wpQuiet_nil ?_
      rintro _ ⟨nr, rfl⟩
      go_wp2_with fail
      have HOa : Hid ((w9.drewN nr).ownsRow w1.heap.size 5 1 (.slice (some ⟨g, 0, none⟩) n c2) n (l9.map u8v)) := hid HO9.out
      have HCa : Hid (Cells (w9.drewN nr) (some ⟨g, 0, none⟩) (l9.map u8v)) := hid HC9.out
      refine (partMatches_c l9 (some ⟨g, 0, none⟩) n c2 w1.heap.size p to_ (w9.drewN nr) (by omega) hnc2 (by omega) HLL.out HOa.out HCa.out (by intro h; cases h)).mono ?_
      rintro e w10 ⟨rfl, g10⟩
      have e10 := (HG9.out.drewN nr).grown g10 (by intro k hk; have := own_block_ge HOa.out _ hk; omega)
      clear g10
      go_wp2
      go_ret
      exact ⟨rfl, e10⟩
    · have hrv : refV a2 c2 n at_ = .tuple #[.pointer none, .int .i64 e32] := by unfold refV; rw [if_neg h32, Q32.out]
      have hrf := ref32_c a2 n c2 at_ wc (by omega) hnc2
      rw [hrv] at hrf
      have HRF := hid hrf
      have hne : (e32 == 0) = false := by rw [beq_eq_false_iff_ne, Q32.out]; exact h32
      have hne2 : (e32 != 0) = true := by rw [bne_iff_ne, Q32.out]; exact h32
      clear hrf hrv h32 D32
      go_wp2_with fail
      refine HRF.out.mono ?_
      rintro e w9 ⟨rfl, rfl⟩
      go_wp2_with fail
      refine (partMatches_c l a2 n c2 w1.heap.size at_ to_ wc (by omega) hnc2 (by omega) HNL.out hO8.out hC8.out H02.out).mono ?_
      rintro e w10 ⟨rfl, g10⟩
      have e10 := hE8.out.grown g10 (by intro k hk; have := own_block_ge hO8.out _ hk; omega)
      clear g10
      go_wp2
      go_ret
      exact ⟨rfl, e10⟩
end Go.Proofs.Ytjgglnflicemjaa
