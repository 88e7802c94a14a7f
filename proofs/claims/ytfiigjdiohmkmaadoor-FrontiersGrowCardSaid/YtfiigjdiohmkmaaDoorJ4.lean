/- Contracts and laws that the claim's row leans on (2 texts, joined): The law FrontiersGrow, walked; conditions: the sizes, the table of math/bits. Readings of slices of rows of 32 octets, and of a struct of two ints and such a slice, are opened; no condition. -/
import Derived.Test.YtfiigjdiohmkmaaDoorJ3
import Derived.Deep.Strs
namespace Go.Proofs.YtfiigjdiohmkmaaDoor
section
open Go Go.RowKit

theorem FrontAt.ext {W1 w w' : World} {g S : Nat} {ls : List (List UInt8)} (h : FrontAt W1 w g S ls) (e : Ext w w') : FrontAt W1 w' g S ls := by
  obtain ⟨a, n, c, h1, h2, h3, h4, h5, h6⟩ := h
  exact ⟨a, n, c, h1, h2, h3.ext e, ownsRow_ext h4 e, h5, h6.ext e⟩
theorem FrontAt.base {W1 w : World} {g S : Nat} {ls : List (List UInt8)} (h : FrontAt W1 w g S ls) : Ext W1 w := by
  obtain ⟨a, n, c, h1, h2, h3, h4, h5, h6⟩ := h
  exact h6
theorem FrontAt.lt {W1 w : World} {g S : Nat} {ls : List (List UInt8)} (h : FrontAt W1 w g S ls) : W1.heap.size ≤ g ∧ g < w.heap.size := by
  obtain ⟨a, n, c, h1, h2, h3, h4, h5, h6⟩ := h
  exact ⟨h2, h3.lt⟩
theorem fr_size {W1 w : World} {g S : Nat} {ls : List (List UInt8)} (h : FrontAt W1 w g S ls) :
    Calls Tryd.prog 7 #[.pointer (some ⟨g, 0, none⟩)] w fun e w' => e = .returned (.int .i64 (S : Int)) ∧ w = w' := by
  obtain ⟨a, n, c, h1, h2, h3, h4, h5, h6⟩ := h
  exact size_c g S _ _ w h3
theorem fr_peaks {W1 w : World} {g S : Nat} {ls : List (List UInt8)} (h : FrontAt W1 w g S ls) (h32 : All32 ls) (hn : ls.length ≤ 1000) :
    Calls Tryd.prog 9 #[.pointer (some ⟨g, 0, none⟩)] w fun e w' => ∃ a c, e = .returned (.slice a ls.length c) ∧ Cells w' a (rows ls) ∧ ls.length ≤ c ∧ Ext w w' := by
  obtain ⟨a, n, c, h1, h2, h3, h4, h5, h6⟩ := h
  obtain ⟨va, vc, hv, -, -, -, hvl⟩ := own_sliceT (by decide) h4
  cases hv
  refine (peaks_c g S _ ls a n c w h3 h1 h32 (by omega) hvl).mono ?_
  rintro e w' ⟨v, rfl, own, eD⟩
  obtain ⟨pa, pc, rfl, hpc, -, -, hpl⟩ := own_sliceT (by decide) own
  exact ⟨pa, pc, by rw [h1], hpl, by omega, eD⟩
theorem fr_root {W1 w : World} {g S : Nat} {ls : List (List UInt8)} (h : FrontAt W1 w g S ls) (hS : S ≠ 0) (h32 : All32 ls) (h0 : 0 < ls.length) (hn : ls.length ≤ 1000) :
    Calls Tryd.prog 13 #[.pointer (some ⟨g, 0, none⟩)] w fun e w' => e = .returned (.tuple #[.agg ((bagL nodeL ls).map u8v).toArray, .int .i64 0]) ∧ Ext w w' := by
  obtain ⟨a, n, c, h1, h2, h3, h4, h5, h6⟩ := h
  obtain ⟨va, vc, hv, -, -, -, hvl⟩ := own_sliceT (by decide) h4
  cases hv
  exact froot_c g S _ ls a n c w h3 hS h1 (by omega) (by omega) h32 hvl
theorem fr_of {W1 w : World} {S : Nat} {ls : List (List UInt8)} (hw : Ext W1 w) (hS : S ≤ 65536) (h32 : All32 ls) (hn : ls.length = popF 63 S) (a : Option Addr) (c : Nat) (hcl : Cells w a (rows ls)) :
    Calls Tryd.prog 6 #[.int .i64 (S : Int), .slice a ls.length c] w fun e w' => ∃ g, e = .returned (.tuple #[.pointer (some ⟨g, 0, none⟩), .int .i64 0]) ∧ FrontAt W1 w' g S ls ∧ Ext w w' := by
  refine (frontierOf_c S ls a ls.length c w hS rfl h32 hcl hn).mono ?_
  rintro e w' ⟨g, v, rfl, hg, hb, own, hne, eW⟩
  obtain ⟨va, vc, rfl, -, -, -, -⟩ := own_sliceT (by decide) own
  exact ⟨g, rfl, ⟨va, ls.length, vc, rfl, Nat.le_trans hw.size hg, hb, own_lower own hw.size, hne, hw.ext eW⟩, eW⟩

set_option maxRecDepth 100000 in
set_option maxHeartbeats 4000000 in
theorem frontiersGrow_c (its : List Item) (a : Option Addr) (n c : Nat) (cut : Int) (w : World) (hl : its.length = n) (hnc : n ≤ c) (hcl : Cells w a (its.map itemV))
    (hits : ∀ it ∈ its, Cells w it.1 (it.2.2.map u8v) ∧ (it.1 = none → it.2.1 = 0) ∧ it.2.2.length ≤ it.2.1 ∧ it.2.1 ≤ 140737488351232) (hT : Tab64 w) :
    Calls Tryd.prog 4 #[.slice a n c, .int .i64 cut] w fun e w' => e = .returned (.bool true) ∧ Ext w w' := by
  have HC := hid hcl
  have HI := hid hits
  have HT := hid hT
  have HZ := hid (show (zero32.map u8v).length = 32 by rw [List.length_map]; exact zero32_length)
  have oz := one_u8 zero32
  have hlv := hid (fun w' h1 h2 => leaves_c its a n c w' hl hnc h1 h2)
  have hll := leavesL_length its
  rw [hl] at hll
  have HLL := hid hll
  have H32 := hid (leavesL_32 its)
  have hM40 : min n 40 ≤ 40 := by omega
  clear hcl hits hl hll hT
  generalize leavesL its = ls at *
  generalize min n 40 = M at *
  go_enter Tryd.func4, Tryd.ntmps4
  go_wp2_with fail
  refine (landed_c w).mono ?_
  rintro e wA ⟨rfl, eA⟩
  have EA := hid eA
  clear eA
  go_wp2_with fail
  refine (hlv.out wA (HC.out.ext EA.out) (fun it hit => ⟨(HI.out it hit).1.ext EA.out, (HI.out it hit).2⟩)).mono ?_
  rintro e W1 ⟨v, rfl, own, eC⟩
  obtain ⟨av, cv, rfl, hMc, hcm, hav, hcv⟩ := own_sliceT (by omega) own
  have E1 := hid (EA.out.ext eC)
  have CV := hid hcv
  have T1 := hid (HT.out.ext E1.out)
  unfold maxLen at hcm
  clear eC own hlv hcv EA HC HI HT hav
  go_wp2_with fail
  refine (newFrontier_c W1).mono ?_
  rintro e wB ⟨g0, rfl, fB⟩
  have FB := hid fB
  clear fB
  obtain ⟨b0, hb0⟩ : ∃ v, Blk wB g0 (frL 0 v) 48 := by
    obtain ⟨a, n, c, h1, h2, h3, h4, h5, h6⟩ := FB.out
    exact ⟨_, h3⟩
  have RZ := hid (root_zero g0 b0 _ wB hb0)
  clear hb0
  go_wp2_with fail
  refine RZ.out.mono ?_
  rintro e wC ⟨rfl, eC⟩
  have FC := hid (FB.out.ext eC)
  clear eC FB RZ
  go_wp2_with (first | (refine wpl_storew rfl _ (.tmp 7) _ rfl rfl rfl (Blk.mk_alloc (vs := List.replicate 32 (.int .u8 0)) rfl rfl) agg_apisum (by simp) HZ.out oz ?_))
  intro wD bD uD
  have FD := hid (FC.out.ext (uD.ext ((Ext.refl wC).alloc _) (Nat.le_refl _)))
  clear bD uD FC
  have hnil : ([] : List (List UInt8)).length = 0 := rfl
  go_wp2_with (first | (go_at_call 9; refine (fr_peaks FD.out (fun l hl => by cases hl) (by simp)).mono ?_; rw [hnil]; rintro e wE ⟨pa, pc, rfl, -, -, eE⟩))
  have FE := hid (FD.out.ext eE)
  clear eE FD HZ oz hnil
  go_loopw [6, 39] (fun p i wr => ∃ k g : Nat, k ≤ M ∧ p = .pointer (some ⟨g, 0, none⟩) ∧ i = .int .i64 (k : Int) ∧ FrontAt W1 wr g k (peaksB nodeL 21 (ls.take k))) (fun _ i _ => M - (intOf i).toNat)
  case atStart => exact ⟨0, g0, by omega, rfl, rfl, by rw [List.take_zero, peaksB_nil]; exact FE.out⟩
  case round =>
    clear FE
    obtain ⟨k, g, hk, rfl, rfl, fW⟩ := hrel
    by_cases hlt : k < M
    · obtain ⟨y, hy⟩ : ∃ y, ls[k]? = some y := ⟨ls[k]'(by rw [HLL.out]; exact hlt), by simp⟩
      have hyl := H32.out.at hy
      have hk1 : ls.take k ++ [y] = ls.take (k + 1) := by rw [List.take_add_one, hy]; rfl
      have hlk : (ls.take k).length = k := by rw [List.length_take, HLL.out]; omega
      have hlk1 : (ls.take (k + 1)).length = k + 1 := by rw [List.length_take, HLL.out]; omega
      have h2k : (ls.take (k + 1)).length < 2 ^ 21 := by rw [hlk1]; omega
      have h2k0 : (ls.take k).length < 2 ^ 21 := by rw [hlk]; omega
      have hpa := peaks_add nodeL y 21 (ls.take k) 64 (by omega) h2k0
      rw [hlk, hk1] at hpa
      have hm := hpa.2.1 (by omega)
      have p0 := peaksB_32 nodeL nodeL_length 21 (H32.out.take k)
      have p1 := peaksB_32 nodeL nodeL_length 21 (H32.out.take (k + 1))
      have l0 := peaksB_length nodeL 21 (ls.take k) h2k0
      have l1 := peaksB_length nodeL 21 (ls.take (k + 1)) h2k
      rw [hlk] at l0
      rw [hlk1] at l1
      have n1 := peaksB_ne nodeL 21 (l := ls.take (k + 1)) (by omega) h2k
      have br := bag_root nodeL 21 (l := ls.take (k + 1)) (by omega) h2k
      have l0' : (peaksB nodeL 21 (ls.take k)).length = popF 63 k := by rw [l0]; exact (popF_more 21 42 k (by omega)).symm
      have le0 := popF_le 21 k
      have le1 := popF_le 21 (k + 1)
      rw [← l0] at le0
      rw [← l1] at le1
      have z1 : 0 < (peaksB nodeL 21 (ls.take (k + 1))).length := List.length_pos_iff.2 n1
      have hrt := hid (fun w' h => rroot_c (k + 1) (ls.take (k + 1)) cv av w' hlk1 (by omega) (by omega) (H32.out.take _) (by omega) (by omega) h)
      have hrp := hid (fun w' h => rpeaks_c (ls.take (k + 1)) av (k + 1) cv w' hlk1 (by omega) (by omega) (by omega) (H32.out.take _) h)
      have hca : ∀ w', Ext W1 w' → ∃ A, av = some A ∧ CellsAt w' (A.add (k * 32)) (y.map u8v) := by
        intro w' e
        cases av with
        | none => rcases CV.out with h | ⟨_, _, h, _⟩
                  · have := rows_length H32.out; rw [h, HLL.out] at this; simp at this; omega
                  · cases h
        | some A => exact ⟨A, rfl, ((CV.out.rowAt H32.out hy)).ext e⟩
      have CT := hid (CV.out.rowsTake H32.out (k + 1))
      obtain ⟨R, hR⟩ : ∃ R, rootS nodeL (ls.take (k + 1)) = R := ⟨_, rfl⟩
      have hRl : R.length = 32 := by rw [← hR, ← br]; exact bagL_length nodeL nodeL_length p1
      rw [hR] at br
      rw [hR] at hrt
      have hadd := hid (fun (g' : Nat) (w' : World) (hF : FrontAt W1 w' g' k (peaksB nodeL 21 (ls.take k))) => add_c g' k y _ W1 w' hF p0 (by omega) (by omega) hyl T1.out hpa.1)
      rw [hm] at hadd
      clear hpa hm l0 l1 n1 h2k h2k0 hlk hlk1 hk1 hy hR
      generalize peaksB nodeL 21 (ls.take k) = pk0 at *
      generalize hpk1 : peaksB nodeL 21 (ls.take (k + 1)) = pk1 at *
      have HPK1 := hid hpk1
      have hbag := hid br
      have HL0 := hid l0'
      have HP0 := hid p0
      have HP1 := hid p1
      have HYV := hid (show (y.map u8v).length = 32 by rw [List.length_map, hyl])
      have oy := one_u8 y
      have HRL := hid hRl
      have HRV := hid (show (R.map u8v).length = 32 by rw [List.length_map, hRl])
      have oR := one_u8 R
      have HNE := hid (fun w => show (binOp .neq 31 (.agg (R.map u8v).toArray) (.agg (R.map u8v).toArray)).run Tryd.prog w = .ok (.bool false) w by rw [neq_arr Tryd.underlying31 _ _ HRL.out HRL.out w]; simp)
      have hroot := hid (fun (g' : Nat) (w' : World) (hF : FrontAt W1 w' g' (k + 1) pk1) => fr_root hF (by omega) HP1.out z1 (by omega))
      rw [br] at hroot
      have hrbag := hid (fun (a : Option Addr) (c : Nat) w' h1 h2 => rbag_c pk1 a pk1.length c w' rfl z1 (by omega) h1 HP1.out h2)
      rw [br] at hrbag
      have heq := hid (fun (a b : Option Addr) (c d : Nat) w' hx hy => equalS_c pk1 pk1 a b pk1.length pk1.length c d w' rfl rfl (by omega) p1 p1 hx hy)
      have hsame : (pk1 == pk1) = true := by simp
      have hkcv : k + 1 ≤ cv := by omega
      have hw1 : IntKind.i64.wrap ((k : Int) + 1) = ((k + 1 : Nat) : Int) := by rw [IntWalk.i64_in _ (by omega)]; omega
      have ne1 : (((k + 1 : Nat) : Int) != ((k + 1 : Nat) : Int)) = false := by simp
      have ne2 : (k + 1 != k + 1) = false := by simp
      have d1 : decide ((k : Int) < (M : Int)) = true := decide_eq_true (by omega)
      have d2 : decide (k < M) = true := decide_eq_true (by omega)
      have FW := hid fW
      obtain ⟨A, rfl, hca0⟩ := hca wr fW.base
      have HCA := hid hca0
      clear hca br p0 p1 l0' hyl hRl hca0 hpk1 fW
      go_upto_region 11 with (first | (refine wpl_run rfl (exec_index (i := k) rfl rfl rfl Tryd.underlying22 size_apisum hlt wr) ?_) | (refine wpl_run rfl (exec_load_at rfl rfl HCA.out agg_apisum HYV.out) ?_) | (refine wpl_storew rfl _ (.tmp 10) _ rfl rfl rfl (Blk.mk_alloc (vs := List.replicate 32 (.int .u8 0)) rfl rfl) agg_apisum (by simp) HYV.out oy ?_; intro w2 b2 u2))
      have F2 := hid (FW.out.ext (u2.ext ((Ext.refl wr).alloc _) (Nat.le_refl _)))
      have B2 := hid b2
      have hgx : g < wr.heap.size := FW.out.lt.2
      clear b2 u2 FW HCA
      generalize wr.heap.size = gx at *
      by_cases hcut : cut = (k : Int)
      · subst hcut
        have q1 : ((k : Int) == (k : Int)) = true := by simp
        have q2 : (k == k) = true := by simp
        go_wp2_with (first | (go_at_call 7; refine (fr_size F2.out).mono ?_; rintro e w' ⟨rfl, rfl⟩) | (go_at_call 9; refine (fr_peaks F2.out HP0.out (by omega)).mono ?_; rintro e w3 ⟨qa, qc, rfl, hcq, -, e3⟩) | (go_at_call 6; refine (fr_of (F2.out.base.ext e3) (by omega) HP0.out HL0.out qa qc hcq).mono ?_; rintro e wX ⟨gX, rfl, fX, eX⟩))
        have FX := hid fX
        have BX := hid (B2.out.ext (e3.ext eX))
        clear fX eX e3 hcq B2 F2
        clear HP0 HL0
        have hbx := BX.out.lt
        obtain ⟨C, hC⟩ : ∃ C : World → Prop, C = Cls wX wX [gx] [] := ⟨_, rfl⟩
        have hC0 : ∀ w', C w' ↔ Cls wX wX [gx] [] w' := fun w' => by rw [hC]
        clear hC
        have HCC := hid hC0
        clear hC0
        have hCx : ∀ w w', C w → Ext w w' → C w' := fun w w' h1 h2 => (HCC.out w').2 (((HCC.out w).1 h1).ext h2)
        have hCA : C wX := (HCC.out _).2 (Cls.no_room (Ext.refl _) (Kept.one BX.out.lt))
        refine wp_region_w (S := C) (W := [2, 6, 13, 18, 19]) (by kernel_rfl) (hCx _ _ hCA (Ext.refl _).drew) (fun hS0 => ?_)
        refine w_pure 0 (v := ?tv1) rfl (by kernel_rfl) (by kernel_rfl) (by kernel_rfl) (fun _ _ _ h => h) (.inl ⟨rfl, ?ty1⟩) ?tr1
        case ty1 => (intro _ _; go_simp; try with_reducible rfl)
        case tr1 =>
        simp only [Act.put, List.setIfInBounds_toArray, List.set_cons_succ, List.set_cons_zero]
        refine w_take 1 (v := _) rfl (by kernel_rfl) (by kernel_rfl) (by kernel_rfl) (by kernel_rfl) (by kernel_rfl) (fun _ _ _ h => h) (yieldsI_loadw rfl 31 _ rfl rfl (fun w1 h => ((HCC.out w1).1 h).blk BX.out (by simp)) agg_apisum HYV.out) hS0 ?_
        simp only [Act.put, List.setIfInBounds_toArray, List.set_cons_succ, List.set_cons_zero]
        have FG := hid (FX.out.ext ((HCC.out _).1 hS0).base)
        clear FX BX HCC hCx hCA hS0 hbx
        generalize World.drew wX = wG at *
        refine w_late (i := 2) (by kernel_rfl) rfl (by kernel_rfl) ?_
        intro Q' hQ
        go_wp2_with fail
        refine (hadd.out _ wG FG.out).mono ?_
        rintro e wH ⟨rfl, fH⟩
        have FH := hid fH
        clear fH FG hadd
        go_wp2_with fail
        refine hQ _ _ trivial ?_
        clear hQ Q'
        try dsimp only
        try simp only [Act.put, List.setIfInBounds_toArray, List.set_cons_succ, List.set_cons_zero]
        refine w_pure 3 (v := ?tv2) rfl (by kernel_rfl) (by kernel_rfl) (by kernel_rfl) (fun _ _ _ h => h) (.inl ⟨rfl, ?ty2⟩) ?tr2
        case ty2 => (intro _ _; go_simp; try with_reducible rfl)
        case tr2 =>
        simp only [Act.put, List.setIfInBounds_toArray, List.set_cons_succ, List.set_cons_zero]
        refine w_pure 4 (v := ?tv3) rfl (by kernel_rfl) (by kernel_rfl) (by kernel_rfl) (fun _ _ _ h => h) (.inl ⟨rfl, ?ty3⟩) ?tr3
        case ty3 => (intro _ _; go_simp; try with_reducible rfl)
        case tr3 =>
        simp only [Act.put, List.setIfInBounds_toArray, List.set_cons_succ, List.set_cons_zero]
        refine w_pure 5 (v := ?tv4) rfl (by kernel_rfl) (by kernel_rfl) (by kernel_rfl) (fun _ _ _ h => h) (.inl ⟨rfl, ?ty4⟩) ?tr4
        case ty4 => (intro _ _; go_simp; try with_reducible rfl)
        case tr4 =>
        simp only [Act.put, List.setIfInBounds_toArray, List.set_cons_succ, List.set_cons_zero]
        refine w_pure 7 (v := ?tv5) rfl (by kernel_rfl) (by kernel_rfl) (by kernel_rfl) (fun _ _ _ h => h) (.inl ⟨rfl, ?ty5⟩) ?tr5
        case ty5 => (intro _ _; go_simp; try with_reducible rfl)
        case tr5 =>
        simp only [Act.put, List.setIfInBounds_toArray, List.set_cons_succ, List.set_cons_zero]
        refine w_pure 8 (v := ?tv6) rfl (by kernel_rfl) (by kernel_rfl) (by kernel_rfl) (fun _ _ _ h => h) (.inl ⟨rfl, ?ty6⟩) ?tr6
        case ty6 => (intro _ _; go_simp; try with_reducible rfl)
        case tr6 =>
        simp only [Act.put, List.setIfInBounds_toArray, List.set_cons_succ, List.set_cons_zero]
        refine w_late (i := 6) (by kernel_rfl) rfl (by kernel_rfl) ?_
        intro Q' hQ
        go_wp2_with fail
        refine (fr_size FH.out).mono ?_
        rintro e w' ⟨rfl, rfl⟩
        go_wp2_with fail
        refine hQ _ _ trivial ?_
        clear hQ Q'
        try dsimp only
        try simp only [Act.put, List.setIfInBounds_toArray, List.set_cons_succ, List.set_cons_zero]
        refine w_pure 9 (v := ?tv7) rfl (by kernel_rfl) (by kernel_rfl) (by kernel_rfl) (fun _ _ _ h => h) (.inl ⟨rfl, ?ty7⟩) ?tr7
        case ty7 => (intro _ _; go_simp; try with_reducible rfl)
        case tr7 =>
        simp only [Act.put, List.setIfInBounds_toArray, List.set_cons_succ, List.set_cons_zero]
        refine w_pure 10 (v := ?tv8) rfl (by kernel_rfl) (by kernel_rfl) (by kernel_rfl) (fun _ _ _ h => h) (.inl ⟨rfl, ?ty8⟩) ?tr8
        case ty8 => (intro _ _; go_simp; try with_reducible rfl)
        case tr8 =>
        simp only [Act.put, List.setIfInBounds_toArray, List.set_cons_succ, List.set_cons_zero]
        refine w_pure 11 (v := ?tv9) rfl (by kernel_rfl) (by kernel_rfl) (by kernel_rfl) (fun _ _ _ h => h) (.inl ⟨rfl, ?ty9⟩) ?tr9
        case ty9 => (intro _ _; go_simp; try with_reducible rfl)
        case tr9 =>
        simp only [Act.put, List.setIfInBounds_toArray, List.set_cons_succ, List.set_cons_zero]
        refine w_pure 12 (v := ?tv10) rfl (by kernel_rfl) (by kernel_rfl) (by kernel_rfl) (fun _ _ _ h => h) (.inl ⟨rfl, ?ty10⟩) ?tr10
        case ty10 => (intro _ _; go_simp; try with_reducible rfl)
        case tr10 =>
        simp only [Act.put, List.setIfInBounds_toArray, List.set_cons_succ, List.set_cons_zero]
        refine w_pure 14 (v := ?tv11) rfl (by kernel_rfl) (by kernel_rfl) (by kernel_rfl) (fun _ _ _ h => h) (.inl ⟨rfl, ?ty11⟩) ?tr11
        case ty11 => (intro _ _; go_simp; try with_reducible rfl)
        case tr11 =>
        simp only [Act.put, List.setIfInBounds_toArray, List.set_cons_succ, List.set_cons_zero]
        refine w_pure 15 (v := ?tv12) rfl (by kernel_rfl) (by kernel_rfl) (by kernel_rfl) (fun _ _ _ h => h) (.inl ⟨rfl, ?ty12⟩) ?tr12
        case ty12 => (intro _ _; go_simp; try with_reducible rfl)
        case tr12 =>
        simp only [Act.put, List.setIfInBounds_toArray, List.set_cons_succ, List.set_cons_zero]
        refine w_pure 16 (v := ?tv13) rfl (by kernel_rfl) (by kernel_rfl) (by kernel_rfl) (fun _ _ _ h => h) (.inl ⟨rfl, ?ty13⟩) ?tr13
        case ty13 => (intro _ _; go_simp; try with_reducible rfl)
        case tr13 =>
        simp only [Act.put, List.setIfInBounds_toArray, List.set_cons_succ, List.set_cons_zero]
        refine w_pure 17 (v := _) rfl (by kernel_rfl) (by kernel_rfl) (by kernel_rfl) (fun _ _ _ h => h) (yieldsI_run rfl (fun w1 _ => exec_high (k := k + 1) rfl rfl rfl Tryd.underlying22 size_apisum hkcv w1)) ?_
        simp only [Act.put, List.setIfInBounds_toArray, List.set_cons_succ, List.set_cons_zero]
        refine w_late (i := 13) (by kernel_rfl) rfl (by kernel_rfl) ?_
        intro Q' hQ
        go_wp2_with fail
        refine (fr_peaks FH.out HP1.out (by omega)).mono ?_
        rintro e wI ⟨p1a, p1c, rfl, hp1, -, eI⟩
        go_wp2_with fail
        refine hQ _ _ trivial ?_
        clear hQ Q'
        try dsimp only
        try simp only [Act.put, List.setIfInBounds_toArray, List.set_cons_succ, List.set_cons_zero]
        refine w_late (i := 18) (by kernel_rfl) rfl (by kernel_rfl) ?_
        intro Q' hQ
        go_wp2_with fail
        refine (hrp.out wI (CT.out.ext (FH.out.base.ext eI))).mono ?_
        rintro e wJ ⟨v2, rfl, own2, eJ⟩
        obtain ⟨p2a, p2c, rfl, -, -, -, hp2⟩ := own_sliceT (by decide) own2
        go_wp2_with fail
        refine hQ _ _ trivial ?_
        clear hQ Q' own2
        try dsimp only
        try simp only [Act.put, List.setIfInBounds_toArray, List.set_cons_succ, List.set_cons_zero]
        refine w_late (i := 19) (by kernel_rfl) rfl (by kernel_rfl) ?_
        intro Q' hQ
        go_wp2_with fail
        refine (heq.out p1a p2a p1c p2c wJ (hp1.ext eJ) hp2).mono ?_
        rintro e wK ⟨rfl, eK⟩
        rw [hsame]
        go_wp2_with fail
        refine hQ _ _ trivial ?_
        clear hQ Q'
        try dsimp only
        try simp only [Act.put, List.setIfInBounds_toArray, List.set_cons_succ, List.set_cons_zero]
        have FK := hid (FH.out.ext (eI.ext (eJ.ext eK)))
        clear FH eI eJ eK hp1 hp2
        refine w_pure 20 (v := ?tv14) rfl (by kernel_rfl) (by kernel_rfl) (by kernel_rfl) (fun _ _ _ h => h) (.inl ⟨rfl, ?ty14⟩) ?tr14
        case ty14 => (intro _ _; go_simp; try with_reducible rfl)
        case tr14 =>
        simp only [Act.put, List.setIfInBounds_toArray, List.set_cons_succ, List.set_cons_zero]
        refine w_pure 21 (v := ?tv15) rfl (by kernel_rfl) (by kernel_rfl) (by kernel_rfl) (fun _ _ _ h => h) (.inl ⟨rfl, ?ty15⟩) ?tr15
        case ty15 => (intro _ _; go_simp; try with_reducible rfl)
        case tr15 =>
        simp only [Act.put, List.setIfInBounds_toArray, List.set_cons_succ, List.set_cons_zero]
        refine w_done (by kernel_rfl) ?_ _
        clear hrp heq hsame
        go_wp2_with (first | (go_at_call 13; refine (hroot.out _ wK FK.out).mono ?_; rintro e wL ⟨rfl, eL⟩) | (refine wpl_storew rfl _ (.tmp 13) _ rfl rfl rfl (Blk.mk_alloc (vs := List.replicate 32 (.int .u8 0)) rfl rfl) agg_apisum (by simp) HRV.out oR ?_))
        intro wM bM uM
        have eM : Ext wK wM := eL.ext (uM.ext ((Ext.refl wL).alloc _) (Nat.le_refl _))
        have FM := hid (FK.out.ext eM)
        have BM := hid bM
        clear eM eL uM bM FK hroot
        generalize wL.heap.size = gz at *
        go_wp2_with fail
        obtain ⟨C, hC⟩ : ∃ C : World → Prop, C = Cls wM wM [gz] [] := ⟨_, rfl⟩
        have hC0 : ∀ w', C w' ↔ Cls wM wM [gz] [] w' := fun w' => by rw [hC]
        clear hC
        have HCC := hid hC0
        clear hC0
        have hCx : ∀ w w', C w → Ext w w' → C w' := fun w w' h1 h2 => (HCC.out w').2 (((HCC.out w).1 h1).ext h2)
        have hCA : C wM := (HCC.out _).2 (Cls.no_room (Ext.refl _) (Kept.one BM.out.lt))
        have hs1 : ∀ w1, C w1 → Blk w1 gz (R.map u8v) 31 := fun w1 h1 => ((HCC.out w1).1 h1).blk BM.out (by simp)
        have HFM := hid (fun w1 (h1 : C w1) => FM.out.ext ((HCC.out w1).1 h1).base)
        refine wp_region_held_drew (S := C) (by kernel_rfl) (hCx _ _ hCA (Ext.refl _).drew) (fun hS0 => ?_)
        generalize wM.drew = wN at *
        refine held_take 0 (v := _) rfl (by kernel_rfl) (by kernel_rfl) (by kernel_rfl) (fun _ _ _ h => h) (yieldsI_loadw rfl _ _ rfl rfl hs1 agg_apisum HRV.out) hS0 ?_
        simp only [Act.put, List.setIfInBounds_toArray, List.set_cons_succ, List.set_cons_zero]
        refine held_take 1 (v := ?tv16) rfl (by kernel_rfl) (by kernel_rfl) (by kernel_rfl) (fun _ _ _ h => h) (.inl ⟨rfl, ?ty16⟩) hS0 ?tr16
        case ty16 => (intro _ _; go_simp; try with_reducible rfl)
        case tr16 =>
        simp only [Act.put, List.setIfInBounds_toArray, List.set_cons_succ, List.set_cons_zero]
        refine held_take 2 (v := ?tv17) rfl (by kernel_rfl) (by kernel_rfl) (by kernel_rfl) (fun _ _ _ h => h) (.inl ⟨rfl, ?ty17⟩) hS0 ?tr17
        case ty17 => (intro _ _; go_simp; try with_reducible rfl)
        case tr17 =>
        simp only [Act.put, List.setIfInBounds_toArray, List.set_cons_succ, List.set_cons_zero]
        refine held_take 3 (v := ?tv18) rfl (by kernel_rfl) (by kernel_rfl) (by kernel_rfl) (fun _ _ _ h => h) (.inl ⟨rfl, ?ty18⟩) hS0 ?tr18
        case ty18 => (intro _ _; go_simp; try with_reducible rfl)
        case tr18 =>
        simp only [Act.put, List.setIfInBounds_toArray, List.set_cons_succ, List.set_cons_zero]
        refine held_take 4 (v := _) rfl (by kernel_rfl) (by kernel_rfl) (by kernel_rfl) (fun _ _ _ h => h) (yieldsI_run rfl (fun w1 _ => exec_high (k := k + 1) rfl rfl rfl Tryd.underlying22 size_apisum hkcv w1)) hS0 ?_
        simp only [Act.put, List.setIfInBounds_toArray, List.set_cons_succ, List.set_cons_zero]
        refine held_one (i := 5) (by kernel_rfl) rfl ?_
        intro Q' hQ
        go_wp2_with fail
        refine (hrt.out _ (CT.out.ext (HFM.out _ hS0).base)).mono ?_
        rintro e wO ⟨rfl, eq9⟩
        have hS9 := hCx _ _ hS0 eq9
        go_wp2_with fail
        refine hQ _ _ hS9 ?_
        clear hQ Q' hS0 eq9
        have hS0 := hS9
        clear hS9
        try dsimp only
        try simp only [Act.put, List.setIfInBounds_toArray, List.set_cons_succ, List.set_cons_zero]
        refine held_take 6 (v := _) rfl (by kernel_rfl) (by kernel_rfl) (by kernel_rfl) (fun _ _ _ h => h) (yieldsI_run rfl (fun w1 _ => exec_cmp rfl rfl rfl guard_sum HNE.out w1)) hS0 ?_
        simp only [Act.put, List.setIfInBounds_toArray, List.set_cons_succ, List.set_cons_zero]
        refine held_take 7 (v := ?tv19) rfl (by kernel_rfl) (by kernel_rfl) (by kernel_rfl) (fun _ _ _ h => h) (.inl ⟨rfl, ?ty19⟩) hS0 ?tr19
        case ty19 => (intro _ _; go_simp; try with_reducible rfl)
        case tr19 =>
        simp only [Act.put, List.setIfInBounds_toArray, List.set_cons_succ, List.set_cons_zero]
        refine held_take 8 (v := _) rfl (by kernel_rfl) (by kernel_rfl) (by kernel_rfl) (fun _ _ _ h => h) (yieldsI_loadw rfl _ _ rfl rfl hs1 agg_apisum HRV.out) hS0 ?_
        simp only [Act.put, List.setIfInBounds_toArray, List.set_cons_succ, List.set_cons_zero]
        refine held_take 9 (v := ?tv20) rfl (by kernel_rfl) (by kernel_rfl) (by kernel_rfl) (fun _ _ _ h => h) (.inl ⟨rfl, ?ty20⟩) hS0 ?tr20
        case ty20 => (intro _ _; go_simp; try with_reducible rfl)
        case tr20 =>
        simp only [Act.put, List.setIfInBounds_toArray, List.set_cons_succ, List.set_cons_zero]
        refine held_one (i := 10) (by kernel_rfl) rfl ?_
        intro Q' hQ
        go_wp2_with fail
        refine (fr_peaks (HFM.out _ hS0) HP1.out (by omega)).mono ?_
        rintro e wP ⟨p3a, p3c, rfl, hp3, hle3, eP⟩
        have hS9 := hCx _ _ hS0 eP
        go_wp2_with fail
        refine hQ _ _ hS9 ?_
        clear hQ Q' hS0 eP
        have hS0 := hS9
        clear hS9
        try dsimp only
        try simp only [Act.put, List.setIfInBounds_toArray, List.set_cons_succ, List.set_cons_zero]
        refine held_one (i := 11) (by kernel_rfl) rfl ?_
        intro Q' hQ
        go_wp2_with fail
        refine (hrbag.out _ _ _ hle3 hp3).mono ?_
        rintro e wQ ⟨rfl, eq9⟩
        have hS9 := hCx _ _ hS0 eq9
        go_wp2_with fail
        refine hQ _ _ hS9 ?_
        clear hQ Q' hS0 eq9
        have hS0 := hS9
        clear hS9
        try dsimp only
        try simp only [Act.put, List.setIfInBounds_toArray, List.set_cons_succ, List.set_cons_zero]
        refine held_take 12 (v := _) rfl (by kernel_rfl) (by kernel_rfl) (by kernel_rfl) (fun _ _ _ h => h) (yieldsI_run rfl (fun w1 _ => exec_cmp rfl rfl rfl guard_sum HNE.out w1)) hS0 ?_
        simp only [Act.put, List.setIfInBounds_toArray, List.set_cons_succ, List.set_cons_zero]
        refine held_take 13 (v := ?tv21) rfl (by kernel_rfl) (by kernel_rfl) (by kernel_rfl) (fun _ _ _ h => h) (.inl ⟨rfl, ?ty21⟩) hS0 ?tr21
        case ty21 => (intro _ _; go_simp; try with_reducible rfl)
        case tr21 =>
        simp only [Act.put, List.setIfInBounds_toArray, List.set_cons_succ, List.set_cons_zero]
        refine held_take 14 (v := ?tv22) rfl (by kernel_rfl) (by kernel_rfl) (by kernel_rfl) (fun _ _ _ h => h) (.inl ⟨rfl, ?ty22⟩) hS0 ?tr22
        case ty22 => (intro _ _; go_simp; try with_reducible rfl)
        case tr22 =>
        simp only [Act.put, List.setIfInBounds_toArray, List.set_cons_succ, List.set_cons_zero]
        refine held_take 15 (v := ?tv23) rfl (by kernel_rfl) (by kernel_rfl) (by kernel_rfl) (fun _ _ _ h => h) (.inl ⟨rfl, ?ty23⟩) hS0 ?tr23
        case ty23 => (intro _ _; go_simp; try with_reducible rfl)
        case tr23 =>
        simp only [Act.put, List.setIfInBounds_toArray, List.set_cons_succ, List.set_cons_zero]
        refine held_take 16 (v := ?tv24) rfl (by kernel_rfl) (by kernel_rfl) (by kernel_rfl) (fun _ _ _ h => h) (.inl ⟨rfl, ?ty24⟩) hS0 ?tr24
        case ty24 => (intro _ _; go_simp; try with_reducible rfl)
        case tr24 =>
        simp only [Act.put, List.setIfInBounds_toArray, List.set_cons_succ, List.set_cons_zero]
        refine held_take 17 (v := ?tv25) rfl (by kernel_rfl) (by kernel_rfl) (by kernel_rfl) (fun _ _ _ h => h) (.inl ⟨rfl, ?ty25⟩) hS0 ?tr25
        case ty25 => (intro _ _; go_simp; try with_reducible rfl)
        case tr25 =>
        simp only [Act.put, List.setIfInBounds_toArray, List.set_cons_succ, List.set_cons_zero]
        have FQ := hid (HFM.out _ hS0)
        clear hS0 HFM hs1 HCC hCx hCA hp3
        refine wpAnyH_done (by kernel_rfl) ?_ _
        go_wp2_with fail
        go_roundw
        case rel => exact ⟨k + 1, _, by omega, rfl, by first | rfl | go_num, by rw [HPK1.out]; exact FQ.out⟩
        case measure => first | (simp [intOf]; done) | (simp [intOf]; omega)
      · have q1 : ((k : Int) == cut) = false := by simpa using (fun h => hcut h.symm)
        go_wp2_with fail
        have FX := hid F2.out
        have BX := hid B2.out
        clear B2 F2
        clear HP0 HL0
        have hbx := BX.out.lt
        obtain ⟨C, hC⟩ : ∃ C : World → Prop, C = Cls w2 w2 [gx] [] := ⟨_, rfl⟩
        have hC0 : ∀ w', C w' ↔ Cls w2 w2 [gx] [] w' := fun w' => by rw [hC]
        clear hC
        have HCC := hid hC0
        clear hC0
        have hCx : ∀ w w', C w → Ext w w' → C w' := fun w w' h1 h2 => (HCC.out w').2 (((HCC.out w).1 h1).ext h2)
        have hCA : C w2 := (HCC.out _).2 (Cls.no_room (Ext.refl _) (Kept.one BX.out.lt))
        refine wp_region_w (S := C) (W := [2, 6, 13, 18, 19]) (by kernel_rfl) (hCx _ _ hCA (Ext.refl _).drew) (fun hS0 => ?_)
        refine w_pure 0 (v := ?tv26) rfl (by kernel_rfl) (by kernel_rfl) (by kernel_rfl) (fun _ _ _ h => h) (.inl ⟨rfl, ?ty26⟩) ?tr26
        case ty26 => (intro _ _; go_simp; try with_reducible rfl)
        case tr26 =>
        simp only [Act.put, List.setIfInBounds_toArray, List.set_cons_succ, List.set_cons_zero]
        refine w_take 1 (v := _) rfl (by kernel_rfl) (by kernel_rfl) (by kernel_rfl) (by kernel_rfl) (by kernel_rfl) (fun _ _ _ h => h) (yieldsI_loadw rfl 31 _ rfl rfl (fun w1 h => ((HCC.out w1).1 h).blk BX.out (by simp)) agg_apisum HYV.out) hS0 ?_
        simp only [Act.put, List.setIfInBounds_toArray, List.set_cons_succ, List.set_cons_zero]
        have FG := hid (FX.out.ext ((HCC.out _).1 hS0).base)
        clear FX BX HCC hCx hCA hS0 hbx
        generalize World.drew w2 = wG at *
        refine w_late (i := 2) (by kernel_rfl) rfl (by kernel_rfl) ?_
        intro Q' hQ
        go_wp2_with fail
        refine (hadd.out _ wG FG.out).mono ?_
        rintro e wH ⟨rfl, fH⟩
        have FH := hid fH
        clear fH FG hadd
        go_wp2_with fail
        refine hQ _ _ trivial ?_
        clear hQ Q'
        try dsimp only
        try simp only [Act.put, List.setIfInBounds_toArray, List.set_cons_succ, List.set_cons_zero]
        refine w_pure 3 (v := ?tv27) rfl (by kernel_rfl) (by kernel_rfl) (by kernel_rfl) (fun _ _ _ h => h) (.inl ⟨rfl, ?ty27⟩) ?tr27
        case ty27 => (intro _ _; go_simp; try with_reducible rfl)
        case tr27 =>
        simp only [Act.put, List.setIfInBounds_toArray, List.set_cons_succ, List.set_cons_zero]
        refine w_pure 4 (v := ?tv28) rfl (by kernel_rfl) (by kernel_rfl) (by kernel_rfl) (fun _ _ _ h => h) (.inl ⟨rfl, ?ty28⟩) ?tr28
        case ty28 => (intro _ _; go_simp; try with_reducible rfl)
        case tr28 =>
        simp only [Act.put, List.setIfInBounds_toArray, List.set_cons_succ, List.set_cons_zero]
        refine w_pure 5 (v := ?tv29) rfl (by kernel_rfl) (by kernel_rfl) (by kernel_rfl) (fun _ _ _ h => h) (.inl ⟨rfl, ?ty29⟩) ?tr29
        case ty29 => (intro _ _; go_simp; try with_reducible rfl)
        case tr29 =>
        simp only [Act.put, List.setIfInBounds_toArray, List.set_cons_succ, List.set_cons_zero]
        refine w_pure 7 (v := ?tv30) rfl (by kernel_rfl) (by kernel_rfl) (by kernel_rfl) (fun _ _ _ h => h) (.inl ⟨rfl, ?ty30⟩) ?tr30
        case ty30 => (intro _ _; go_simp; try with_reducible rfl)
        case tr30 =>
        simp only [Act.put, List.setIfInBounds_toArray, List.set_cons_succ, List.set_cons_zero]
        refine w_pure 8 (v := ?tv31) rfl (by kernel_rfl) (by kernel_rfl) (by kernel_rfl) (fun _ _ _ h => h) (.inl ⟨rfl, ?ty31⟩) ?tr31
        case ty31 => (intro _ _; go_simp; try with_reducible rfl)
        case tr31 =>
        simp only [Act.put, List.setIfInBounds_toArray, List.set_cons_succ, List.set_cons_zero]
        refine w_late (i := 6) (by kernel_rfl) rfl (by kernel_rfl) ?_
        intro Q' hQ
        go_wp2_with fail
        refine (fr_size FH.out).mono ?_
        rintro e w' ⟨rfl, rfl⟩
        go_wp2_with fail
        refine hQ _ _ trivial ?_
        clear hQ Q'
        try dsimp only
        try simp only [Act.put, List.setIfInBounds_toArray, List.set_cons_succ, List.set_cons_zero]
        refine w_pure 9 (v := ?tv32) rfl (by kernel_rfl) (by kernel_rfl) (by kernel_rfl) (fun _ _ _ h => h) (.inl ⟨rfl, ?ty32⟩) ?tr32
        case ty32 => (intro _ _; go_simp; try with_reducible rfl)
        case tr32 =>
        simp only [Act.put, List.setIfInBounds_toArray, List.set_cons_succ, List.set_cons_zero]
        refine w_pure 10 (v := ?tv33) rfl (by kernel_rfl) (by kernel_rfl) (by kernel_rfl) (fun _ _ _ h => h) (.inl ⟨rfl, ?ty33⟩) ?tr33
        case ty33 => (intro _ _; go_simp; try with_reducible rfl)
        case tr33 =>
        simp only [Act.put, List.setIfInBounds_toArray, List.set_cons_succ, List.set_cons_zero]
        refine w_pure 11 (v := ?tv34) rfl (by kernel_rfl) (by kernel_rfl) (by kernel_rfl) (fun _ _ _ h => h) (.inl ⟨rfl, ?ty34⟩) ?tr34
        case ty34 => (intro _ _; go_simp; try with_reducible rfl)
        case tr34 =>
        simp only [Act.put, List.setIfInBounds_toArray, List.set_cons_succ, List.set_cons_zero]
        refine w_pure 12 (v := ?tv35) rfl (by kernel_rfl) (by kernel_rfl) (by kernel_rfl) (fun _ _ _ h => h) (.inl ⟨rfl, ?ty35⟩) ?tr35
        case ty35 => (intro _ _; go_simp; try with_reducible rfl)
        case tr35 =>
        simp only [Act.put, List.setIfInBounds_toArray, List.set_cons_succ, List.set_cons_zero]
        refine w_pure 14 (v := ?tv36) rfl (by kernel_rfl) (by kernel_rfl) (by kernel_rfl) (fun _ _ _ h => h) (.inl ⟨rfl, ?ty36⟩) ?tr36
        case ty36 => (intro _ _; go_simp; try with_reducible rfl)
        case tr36 =>
        simp only [Act.put, List.setIfInBounds_toArray, List.set_cons_succ, List.set_cons_zero]
        refine w_pure 15 (v := ?tv37) rfl (by kernel_rfl) (by kernel_rfl) (by kernel_rfl) (fun _ _ _ h => h) (.inl ⟨rfl, ?ty37⟩) ?tr37
        case ty37 => (intro _ _; go_simp; try with_reducible rfl)
        case tr37 =>
        simp only [Act.put, List.setIfInBounds_toArray, List.set_cons_succ, List.set_cons_zero]
        refine w_pure 16 (v := ?tv38) rfl (by kernel_rfl) (by kernel_rfl) (by kernel_rfl) (fun _ _ _ h => h) (.inl ⟨rfl, ?ty38⟩) ?tr38
        case ty38 => (intro _ _; go_simp; try with_reducible rfl)
        case tr38 =>
        simp only [Act.put, List.setIfInBounds_toArray, List.set_cons_succ, List.set_cons_zero]
        refine w_pure 17 (v := _) rfl (by kernel_rfl) (by kernel_rfl) (by kernel_rfl) (fun _ _ _ h => h) (yieldsI_run rfl (fun w1 _ => exec_high (k := k + 1) rfl rfl rfl Tryd.underlying22 size_apisum hkcv w1)) ?_
        simp only [Act.put, List.setIfInBounds_toArray, List.set_cons_succ, List.set_cons_zero]
        refine w_late (i := 13) (by kernel_rfl) rfl (by kernel_rfl) ?_
        intro Q' hQ
        go_wp2_with fail
        refine (fr_peaks FH.out HP1.out (by omega)).mono ?_
        rintro e wI ⟨p1a, p1c, rfl, hp1, -, eI⟩
        go_wp2_with fail
        refine hQ _ _ trivial ?_
        clear hQ Q'
        try dsimp only
        try simp only [Act.put, List.setIfInBounds_toArray, List.set_cons_succ, List.set_cons_zero]
        refine w_late (i := 18) (by kernel_rfl) rfl (by kernel_rfl) ?_
        intro Q' hQ
        go_wp2_with fail
        refine (hrp.out wI (CT.out.ext (FH.out.base.ext eI))).mono ?_
        rintro e wJ ⟨v2, rfl, own2, eJ⟩
        obtain ⟨p2a, p2c, rfl, -, -, -, hp2⟩ := own_sliceT (by decide) own2
        go_wp2_with fail
        refine hQ _ _ trivial ?_
        clear hQ Q' own2
        try dsimp only
        try simp only [Act.put, List.setIfInBounds_toArray, List.set_cons_succ, List.set_cons_zero]
        refine w_late (i := 19) (by kernel_rfl) rfl (by kernel_rfl) ?_
        intro Q' hQ
        go_wp2_with fail
        refine (heq.out p1a p2a p1c p2c wJ (hp1.ext eJ) hp2).mono ?_
        rintro e wK ⟨rfl, eK⟩
        rw [hsame]
        go_wp2_with fail
        refine hQ _ _ trivial ?_
        clear hQ Q'
        try dsimp only
        try simp only [Act.put, List.setIfInBounds_toArray, List.set_cons_succ, List.set_cons_zero]
        have FK := hid (FH.out.ext (eI.ext (eJ.ext eK)))
        clear FH eI eJ eK hp1 hp2
        refine w_pure 20 (v := ?tv39) rfl (by kernel_rfl) (by kernel_rfl) (by kernel_rfl) (fun _ _ _ h => h) (.inl ⟨rfl, ?ty39⟩) ?tr39
        case ty39 => (intro _ _; go_simp; try with_reducible rfl)
        case tr39 =>
        simp only [Act.put, List.setIfInBounds_toArray, List.set_cons_succ, List.set_cons_zero]
        refine w_pure 21 (v := ?tv40) rfl (by kernel_rfl) (by kernel_rfl) (by kernel_rfl) (fun _ _ _ h => h) (.inl ⟨rfl, ?ty40⟩) ?tr40
        case ty40 => (intro _ _; go_simp; try with_reducible rfl)
        case tr40 =>
        simp only [Act.put, List.setIfInBounds_toArray, List.set_cons_succ, List.set_cons_zero]
        refine w_done (by kernel_rfl) ?_ _
        clear hrp heq hsame
        go_wp2_with (first | (go_at_call 13; refine (hroot.out _ wK FK.out).mono ?_; rintro e wL ⟨rfl, eL⟩) | (refine wpl_storew rfl _ (.tmp 13) _ rfl rfl rfl (Blk.mk_alloc (vs := List.replicate 32 (.int .u8 0)) rfl rfl) agg_apisum (by simp) HRV.out oR ?_))
        intro wM bM uM
        have eM : Ext wK wM := eL.ext (uM.ext ((Ext.refl wL).alloc _) (Nat.le_refl _))
        have FM := hid (FK.out.ext eM)
        have BM := hid bM
        clear eM eL uM bM FK hroot
        generalize wL.heap.size = gz at *
        go_wp2_with fail
        obtain ⟨C, hC⟩ : ∃ C : World → Prop, C = Cls wM wM [gz] [] := ⟨_, rfl⟩
        have hC0 : ∀ w', C w' ↔ Cls wM wM [gz] [] w' := fun w' => by rw [hC]
        clear hC
        have HCC := hid hC0
        clear hC0
        have hCx : ∀ w w', C w → Ext w w' → C w' := fun w w' h1 h2 => (HCC.out w').2 (((HCC.out w).1 h1).ext h2)
        have hCA : C wM := (HCC.out _).2 (Cls.no_room (Ext.refl _) (Kept.one BM.out.lt))
        have hs1 : ∀ w1, C w1 → Blk w1 gz (R.map u8v) 31 := fun w1 h1 => ((HCC.out w1).1 h1).blk BM.out (by simp)
        have HFM := hid (fun w1 (h1 : C w1) => FM.out.ext ((HCC.out w1).1 h1).base)
        refine wp_region_held_drew (S := C) (by kernel_rfl) (hCx _ _ hCA (Ext.refl _).drew) (fun hS0 => ?_)
        generalize wM.drew = wN at *
        refine held_take 0 (v := _) rfl (by kernel_rfl) (by kernel_rfl) (by kernel_rfl) (fun _ _ _ h => h) (yieldsI_loadw rfl _ _ rfl rfl hs1 agg_apisum HRV.out) hS0 ?_
        simp only [Act.put, List.setIfInBounds_toArray, List.set_cons_succ, List.set_cons_zero]
        refine held_take 1 (v := ?tv41) rfl (by kernel_rfl) (by kernel_rfl) (by kernel_rfl) (fun _ _ _ h => h) (.inl ⟨rfl, ?ty41⟩) hS0 ?tr41
        case ty41 => (intro _ _; go_simp; try with_reducible rfl)
        case tr41 =>
        simp only [Act.put, List.setIfInBounds_toArray, List.set_cons_succ, List.set_cons_zero]
        refine held_take 2 (v := ?tv42) rfl (by kernel_rfl) (by kernel_rfl) (by kernel_rfl) (fun _ _ _ h => h) (.inl ⟨rfl, ?ty42⟩) hS0 ?tr42
        case ty42 => (intro _ _; go_simp; try with_reducible rfl)
        case tr42 =>
        simp only [Act.put, List.setIfInBounds_toArray, List.set_cons_succ, List.set_cons_zero]
        refine held_take 3 (v := ?tv43) rfl (by kernel_rfl) (by kernel_rfl) (by kernel_rfl) (fun _ _ _ h => h) (.inl ⟨rfl, ?ty43⟩) hS0 ?tr43
        case ty43 => (intro _ _; go_simp; try with_reducible rfl)
        case tr43 =>
        simp only [Act.put, List.setIfInBounds_toArray, List.set_cons_succ, List.set_cons_zero]
        refine held_take 4 (v := _) rfl (by kernel_rfl) (by kernel_rfl) (by kernel_rfl) (fun _ _ _ h => h) (yieldsI_run rfl (fun w1 _ => exec_high (k := k + 1) rfl rfl rfl Tryd.underlying22 size_apisum hkcv w1)) hS0 ?_
        simp only [Act.put, List.setIfInBounds_toArray, List.set_cons_succ, List.set_cons_zero]
        refine held_one (i := 5) (by kernel_rfl) rfl ?_
        intro Q' hQ
        go_wp2_with fail
        refine (hrt.out _ (CT.out.ext (HFM.out _ hS0).base)).mono ?_
        rintro e wO ⟨rfl, eq9⟩
        have hS9 := hCx _ _ hS0 eq9
        go_wp2_with fail
        refine hQ _ _ hS9 ?_
        clear hQ Q' hS0 eq9
        have hS0 := hS9
        clear hS9
        try dsimp only
        try simp only [Act.put, List.setIfInBounds_toArray, List.set_cons_succ, List.set_cons_zero]
        refine held_take 6 (v := _) rfl (by kernel_rfl) (by kernel_rfl) (by kernel_rfl) (fun _ _ _ h => h) (yieldsI_run rfl (fun w1 _ => exec_cmp rfl rfl rfl guard_sum HNE.out w1)) hS0 ?_
        simp only [Act.put, List.setIfInBounds_toArray, List.set_cons_succ, List.set_cons_zero]
        refine held_take 7 (v := ?tv44) rfl (by kernel_rfl) (by kernel_rfl) (by kernel_rfl) (fun _ _ _ h => h) (.inl ⟨rfl, ?ty44⟩) hS0 ?tr44
        case ty44 => (intro _ _; go_simp; try with_reducible rfl)
        case tr44 =>
        simp only [Act.put, List.setIfInBounds_toArray, List.set_cons_succ, List.set_cons_zero]
        refine held_take 8 (v := _) rfl (by kernel_rfl) (by kernel_rfl) (by kernel_rfl) (fun _ _ _ h => h) (yieldsI_loadw rfl _ _ rfl rfl hs1 agg_apisum HRV.out) hS0 ?_
        simp only [Act.put, List.setIfInBounds_toArray, List.set_cons_succ, List.set_cons_zero]
        refine held_take 9 (v := ?tv45) rfl (by kernel_rfl) (by kernel_rfl) (by kernel_rfl) (fun _ _ _ h => h) (.inl ⟨rfl, ?ty45⟩) hS0 ?tr45
        case ty45 => (intro _ _; go_simp; try with_reducible rfl)
        case tr45 =>
        simp only [Act.put, List.setIfInBounds_toArray, List.set_cons_succ, List.set_cons_zero]
        refine held_one (i := 10) (by kernel_rfl) rfl ?_
        intro Q' hQ
        go_wp2_with fail
        refine (fr_peaks (HFM.out _ hS0) HP1.out (by omega)).mono ?_
        rintro e wP ⟨p3a, p3c, rfl, hp3, hle3, eP⟩
        have hS9 := hCx _ _ hS0 eP
        go_wp2_with fail
        refine hQ _ _ hS9 ?_
        clear hQ Q' hS0 eP
        have hS0 := hS9
        clear hS9
        try dsimp only
        try simp only [Act.put, List.setIfInBounds_toArray, List.set_cons_succ, List.set_cons_zero]
        refine held_one (i := 11) (by kernel_rfl) rfl ?_
        intro Q' hQ
        go_wp2_with fail
        refine (hrbag.out _ _ _ hle3 hp3).mono ?_
        rintro e wQ ⟨rfl, eq9⟩
        have hS9 := hCx _ _ hS0 eq9
        go_wp2_with fail
        refine hQ _ _ hS9 ?_
        clear hQ Q' hS0 eq9
        have hS0 := hS9
        clear hS9
        try dsimp only
        try simp only [Act.put, List.setIfInBounds_toArray, List.set_cons_succ, List.set_cons_zero]
        refine held_take 12 (v := _) rfl (by kernel_rfl) (by kernel_rfl) (by kernel_rfl) (fun _ _ _ h => h) (yieldsI_run rfl (fun w1 _ => exec_cmp rfl rfl rfl guard_sum HNE.out w1)) hS0 ?_
        simp only [Act.put, List.setIfInBounds_toArray, List.set_cons_succ, List.set_cons_zero]
        refine held_take 13 (v := ?tv46) rfl (by kernel_rfl) (by kernel_rfl) (by kernel_rfl) (fun _ _ _ h => h) (.inl ⟨rfl, ?ty46⟩) hS0 ?tr46
        case ty46 => (intro _ _; go_simp; try with_reducible rfl)
        case tr46 =>
        simp only [Act.put, List.setIfInBounds_toArray, List.set_cons_succ, List.set_cons_zero]
        refine held_take 14 (v := ?tv47) rfl (by kernel_rfl) (by kernel_rfl) (by kernel_rfl) (fun _ _ _ h => h) (.inl ⟨rfl, ?ty47⟩) hS0 ?tr47
        case ty47 => (intro _ _; go_simp; try with_reducible rfl)
        case tr47 =>
        simp only [Act.put, List.setIfInBounds_toArray, List.set_cons_succ, List.set_cons_zero]
        refine held_take 15 (v := ?tv48) rfl (by kernel_rfl) (by kernel_rfl) (by kernel_rfl) (fun _ _ _ h => h) (.inl ⟨rfl, ?ty48⟩) hS0 ?tr48
        case ty48 => (intro _ _; go_simp; try with_reducible rfl)
        case tr48 =>
        simp only [Act.put, List.setIfInBounds_toArray, List.set_cons_succ, List.set_cons_zero]
        refine held_take 16 (v := ?tv49) rfl (by kernel_rfl) (by kernel_rfl) (by kernel_rfl) (fun _ _ _ h => h) (.inl ⟨rfl, ?ty49⟩) hS0 ?tr49
        case ty49 => (intro _ _; go_simp; try with_reducible rfl)
        case tr49 =>
        simp only [Act.put, List.setIfInBounds_toArray, List.set_cons_succ, List.set_cons_zero]
        refine held_take 17 (v := ?tv50) rfl (by kernel_rfl) (by kernel_rfl) (by kernel_rfl) (fun _ _ _ h => h) (.inl ⟨rfl, ?ty50⟩) hS0 ?tr50
        case ty50 => (intro _ _; go_simp; try with_reducible rfl)
        case tr50 =>
        simp only [Act.put, List.setIfInBounds_toArray, List.set_cons_succ, List.set_cons_zero]
        have FQ := hid (HFM.out _ hS0)
        clear hS0 HFM hs1 HCC hCx hCA hp3
        refine wpAnyH_done (by kernel_rfl) ?_ _
        go_wp2_with fail
        go_roundw
        case rel => exact ⟨k + 1, _, by omega, rfl, by first | rfl | go_num, by rw [HPK1.out]; exact FQ.out⟩
        case measure => first | (simp [intOf]; done) | (simp [intOf]; omega)
    · obtain rfl : k = M := by omega
      have FZ := hid fW
      clear fW
      have d1 : decide ((k : Int) < (k : Int)) = false := decide_eq_false (by omega)
      have d2 : decide (k < k) = false := decide_eq_false (by omega)
      go_wp2_with fail
      go_ret
      exact ⟨rfl, E1.out.ext FZ.out.base⟩
end

section
open Go Go.RowKit Go.ChangeShapes Go.WideShapes Go.ChangeAt Go.Deep

theorem cells?_at {w : World} {base : Nat} {p : Addr} {k : Nat} {cs : List Value} (h : w.cells? base p k = some cs) : cs.length = k ∧ CellsAt w p cs := by
  unfold World.cells? at h
  split at h
  · refine ⟨by simpa using mapM_some_length h, fun j u hu => ?_⟩
    have hj : j < k := by
      have h1 := (List.getElem?_eq_some_iff.1 hu).1
      have h2 := mapM_some_length h
      simp at h2; omega
    have := mapM_some_get h j j (by simp [hj])
    rw [hu] at this
    exact this
  · cases h

section
variable {H : Type} {enc : TypeId × Value → H} {P : Program} {w : World}
theorem octets_of_trod {base : Nat} {sp : Nat → Bool} {held : Bool} {t e : TypeId} {n f : Nat} {cs : List Value} {x : DataW H × List MemPlace} (ht : P.underlying t = some (.array n e)) (he : P.underlying e = some (.int .u8)) (hce : P.cellsOf e = 1) (hct : P.cellsOf t = n)
    (hf : DataW.trod enc P w base sp held f t cs = some x) : ∃ l : List UInt8, l.length = n ∧ cs = l.map u8v := by
  obtain ⟨xs, m, _, _, hlen, hxl, hel⟩ := DataW.trod_array ht hf
  have hcl : cs.length = n := by rw [hlen, hct]
  obtain ⟨l, hl⟩ := u8s_of cs fun i u hu => by
    have hi : i < n := by
      have := (List.getElem?_eq_some_iff.1 hu).1
      omega
    have h1 := hel i hi
    rw [hce, Nat.mul_one] at h1
    have hx : xs[i]? = some xs[i] := by simp
    have h2 : (cs.drop i).take 1 = [u] := by
      have h3 := List.getElem?_drop (xs := cs) (i := i) (j := 0)
      rw [Nat.add_zero, hu] at h3
      cases hd : cs.drop i with
      | nil => rw [hd] at h3; simp at h3
      | cons y r => rw [hd] at h3; simp at h3; simp [h3]
    have h4 : DataW.trod enc P w base sp held m e [u] = some xs[i] := by
      rw [← h2, ← hx]; exact h1
    obtain ⟨k, hk, _, hw⟩ := DataW.trod_int he h4
    have hu' : u = .int .u8 k := by simpa using hk
    rw [hu']; exact u8_of hw
  refine ⟨l, ?_, hl⟩
  have := congrArg List.length hl
  rw [hcl, List.length_map] at this; exact this.symm

/-- a slice of rows, its cell read -/
theorem sums_of_trod {base f : Nat} {held : Bool} {t e q : TypeId} {cs : List Value} {x : DataW H × List MemPlace} (ht : P.underlying t = some (.slice e)) (he : P.underlying e = some (.array 32 q)) (hq : P.underlying q = some (.int .u8)) (cq : P.cellsOf q = 1) (ce : P.cellsOf e = 32)
    (hf : DataW.trod enc P w base (fun _ => true) held f t cs = some x) :
    ∃ (a : Option Addr) (n c : Nat) (ls : List (List UInt8)) (es sp : List (DataW H)), cs = [.slice a n c] ∧ ls.length = n ∧ All32 ls ∧ n ≤ c ∧ c ≤ maxLen ∧ (a = none → c = 0) ∧ Cells w a (rows ls) ∧ ((x.1 = .nil ∧ c = 0) ∨ (x.1 = .slice es sp ∧ es.length + sp.length = c)) := by
  rcases DataW.trod_slice ht hf with ⟨h0, h1⟩ | ⟨a, len, cap, elems, rest, n, _, rfl, rfl, hb, hl, hm, hlen, hel, hsp, hns⟩
  · exact ⟨none, 0, 0, [], [], [], h0, rfl, All32.nil, Nat.le_refl _, Nat.zero_le _, fun _ => rfl, .inl rfl, .inl ⟨by rw [h1], rfl⟩⟩
  · have each : ∀ i, i < len → ∃ l : List UInt8, l.length = 32 ∧ CellsAt w (a.add (i * 32)) (l.map u8v) := by
      intro i hi
      have h1 := hel i hi
      have hx : elems[i]? = some (elems[i]'(by omega)) := by simp
      rw [ce, hx, Option.bind_eq_some_iff] at h1
      obtain ⟨cs', hcs, hy⟩ := h1
      obtain ⟨l, hl1, rfl⟩ := octets_of_trod he hq cq ce hy
      exact ⟨l, hl1, (cells?_at hcs).2⟩
    obtain ⟨g, hg⟩ := choose_lt each
    have h32 : All32 ((List.range len).map g) := fun l hl => by
      obtain ⟨i, hi, rfl⟩ := List.mem_map.1 hl
      exact (hg i (List.mem_range.1 hi)).1
    obtain ⟨hrl, _⟩ := hsp rfl
    refine ⟨some a, len, cap, (List.range len).map g, _, _, rfl, by simp, h32, hl, hm, (fun h => by cases h), ?_, .inr ⟨rfl, by simp; omega⟩⟩
    by_cases h0 : len = 0
    · left; subst h0; rfl
    · obtain ⟨hl0, hc0⟩ := hg 0 (by omega)
      obtain ⟨b, off, spot⟩ := a
      have hspot : spot = none := by
        have := hc0 0 (u8v ((g 0)[0]'(by omega))) (by simp [hl0])
        simpa [Addr.add] using World.cell?_spot this
      subst hspot
      refine .inr ⟨b, off, rfl, fun i u hu => ?_⟩
      have hi : i < 32 * len := by
        have := (List.getElem?_eq_some_iff.1 hu).1
        rw [rows_length h32] at this; simpa using this
      obtain ⟨_, hcr⟩ := hg (i / 32) (by omega)
      have hrow : ((List.range len).map g)[i / 32]? = some (g (i / 32)) := by
        rw [List.getElem?_map, List.getElem?_range (by omega)]; rfl
      have h2 := rows_at h32 hrow
      have h3 : ((g (i / 32)).map u8v)[i % 32]? = some u := by
        rw [← h2, List.getElem?_take_of_lt (Nat.mod_lt _ (by omega)), List.getElem?_drop, Nat.div_add_mod]; exact hu
      have h4 := hcr _ _ h3
      rw [addr_add, addr_add] at h4
      rw [show off + i / 32 * 32 + i % 32 = off + i by omega] at h4
      exact h4

/-- a struct of two ints and a slice of rows -/
theorem open_proof {r : Reach} {b0 base : Nat} {held : Bool} {t e q : TypeId} {f0 f1 f2 : Field} {v : Value} {d : DataW H} {ps : List MemPlace} (ht : P.underlying t = some (.struct #[f0, f1, f2])) (h0 : P.underlying f0.type = some (.int .i64)) (h1 : P.underlying f1.type = some (.int .i64))
    (h2 : P.underlying f2.type = some (.slice e)) (he : P.underlying e = some (.array 32 q)) (hq : P.underlying q = some (.int .u8)) (cq : P.cellsOf q = 1) (ce : P.cellsOf e = 32) (c0 : P.cellsOf f0.type = 1) (c1 : P.cellsOf f1.type = 1) (c2 : P.cellsOf f2.type = 1) (ct : P.cellsOf t = 3)
    (o0 : f0.offset = 0) (o1 : f1.offset = 1) (o2 : f2.offset = 2)
    (hval : Value.okWide P w r b0 t v) (hd : DataW.Trod enc P w base (fun _ => true) held t v d ps) :
    ∃ (I Z : Int) (a : Option Addr) (n c : Nat) (ls : List (List UInt8)), v = .agg #[.int .i64 I, .int .i64 Z, .slice a n c] ∧ ls.length = n ∧ All32 ls ∧ n ≤ c ∧ c ≤ maxLen ∧ (a = none → c = 0) ∧ Cells w a (rows ls) ∧
      ∃ (D : DataW H) (es sp : List (DataW H)), d = .agg [.lit (.int .i64 I), .lit (.int .i64 Z), D] ∧ ((D = .nil ∧ c = 0) ∨ (D = .slice es sp ∧ es.length + sp.length = c)) ∧ (Lit.int .i64 I).wf = true ∧ (Lit.int .i64 Z).wf = true := by
  obtain ⟨cs, rfl, hs⟩ := okWide_struct ht hval
  obtain ⟨fuel, hf⟩ := hd
  obtain ⟨y0, y1, y2, m, hx, hl, g0, g1, g2⟩ := trod_struct3 ht hf
  rw [c0, o0] at g0
  rw [c1, o1] at g1
  rw [c2, o2] at g2
  obtain ⟨I, hI, hI2, wI⟩ := DataW.trod_int h0 g0
  obtain ⟨Z, hZ, hZ2, wZ⟩ := DataW.trod_int h1 g1
  obtain ⟨a, n, c, ls, es, sp, hsl, hln, h32, hnc, hcm, hnil, hcl, hdd⟩ := sums_of_trod h2 he hq cq ce g2
  have hcs : cs = #[.int .i64 I, .int .i64 Z, .slice a n c] := by
    have hsz : cs.size = 3 := by rw [hs, ct]
    obtain ⟨l⟩ := cs
    match l, hsz with
    | [p0, p1, p2], _ =>
      simp [Value.cells] at hI hZ hsl
      rw [hI, hZ, hsl]
  refine ⟨I, Z, a, n, c, ls, by rw [hcs], hln, h32, hnc, hcm, hnil, hcl, y2.1, es, sp, ?_, hdd, wI, wZ⟩
  simp only [Prod.mk.injEq] at hx
  rw [hx.1, hI2, hZ2]
end
end
end Go.Proofs.YtfiigjdiohmkmaaDoor
