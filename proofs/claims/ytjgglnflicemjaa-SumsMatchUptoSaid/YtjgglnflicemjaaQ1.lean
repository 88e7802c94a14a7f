/- The law SummersAreBounded, walked; no condition. -/
import Derived.Test.YtjgglnflicemjaaP7
import Derived.Test.YtjgglnflicemjaaE
namespace Go.Proofs.Ytjgglnflicemjaa
open Go Go.RowKit

theorem guard_sum : Try.prog.eqGuardType Try.prog.depth 65 = false := by kernel_rfl

set_option maxRecDepth 100000 in
set_option maxHeartbeats 1000000 in
theorem bounded_c (d m p : Int) (w : World) :
    Calls Try.prog 7 #[.int .i64 d, .int .i64 m, .int .i64 p] w fun e w' => e = .returned (.bool true) ∧ Ext w w' := by
  go_enter Try.func7, Try.ntmps7
  go_wp2_with fail
  refine (landed_c _).mono ?_
  rintro e w1 ⟨rfl, e1⟩
  go_wp2_with fail
  obtain ⟨M, hM, hM40⟩ : ∃ M : Nat, min (max m 0) 40 = (M : Int) ∧ M ≤ 40 := ⟨(min (max m 0) 40).toNat, by omega, by omega⟩
  obtain ⟨N, hN, hN40⟩ : ∃ N : Nat, min (max p 0) 40 = (N : Int) ∧ N ≤ 40 := ⟨(min (max p 0) 40).toNat, by omega, by omega⟩
  rw [hM, hN]
  clear hM hN
  refine (newSummer_c d w1).mono ?_
  intro e w2 h
  unfold newPost at h
  by_cases hd : d < 0 ∨ 255 < d
  · rw [if_pos hd] at h
    obtain ⟨rfl, rfl⟩ := h
    by_cases hd0 : d < 0
    · clear hd
      go_wp2
      go_ret
      exact ⟨rfl, e1⟩
    · have hd1 : 255 < d := by omega
      clear hd
      go_wp2
      go_ret
      exact ⟨rfl, e1⟩
  · rw [if_neg hd] at h
    obtain ⟨rfl, h2, e2⟩ := h
    have hi := initS_length d
    have l2 := h2.lt
    obtain ⟨K, hK⟩ : ∃ K : Nat, 1048576 - M = K := ⟨_, rfl⟩
    have hk : IntKind.i64.wrap (1048576 - (M : Int)) = (K : Int) := by rw [IntWalk.i64_in _ (by omega)]; omega
    have HH2 := hid h2
    have HK := hid hK
    have hK2 : K ≤ 1048576 := by omega
    clear hd h2 hK
    go_wp2_with (refine wpl_mk8 rfl _ _ rfl (n := K) rfl rfl (by omega) ?_)
    generalize hwA : World.alloc w2 _ = wA
    have zA : Blk wA w2.heap.size ((List.replicate K (0 : UInt8)).map u8v) 5 := by rw [← hwA]; exact Blk.mk_alloc rfl (by simp)
    have eA : Ext w2 wA := by rw [← hwA]; exact (Ext.refl w2).alloc _
    clear hwA
    refine (write_c (initS d) [] (List.replicate K 0) 0 w1.heap.size K K (some ⟨w2.heap.size, 0, none⟩) SmT wA hi (List.length_replicate ..) (by omega) (by omega) (HH2.out.ext eA) (by omega) (Nat.le_refl _) (by omega) (by intro h; cases h) (Cells.of_blk0 zA) (.inr (by intro x hx; cases hx; intro e; injection e with e; simp only at e; omega))).mono ?_
    intro e w3 h
    unfold writePost at h
    rw [List.length_replicate, if_pos (by omega)] at h
    obtain ⟨rfl, h3, g3⟩ := h
    have e3 : Ext w w3 := (e1.ext (e2.ext eA)).grown g3 (by intro k hk; cases hk; exact e1.size)
    rw [List.nil_append, Int.zero_add] at h3
    have HH3 := hid h3
    have hKt : (K : Int) + M = 1048576 := by have := HK.out; omega
    generalize List.replicate K (0 : UInt8) = tx at *
    clear h3 g3 zA eA hk HK
    generalize hfs : finL (initS d) tx K = fs at *
    have HSL : Hid (((fs.take 32).map u8v).length = 32) := hid (by rw [← hfs, List.length_map, List.length_take, finL_length]; rfl)
    have hsum := fun w' h => sum_c (initS d) tx K w1.heap.size SmT w' hi (by omega) h
    rw [hfs] at hsum
    generalize hsl : fs.take 32 = sl at *
    have HSL2 : Hid (sl.length = 32) := hid (by have := HSL.out; rwa [List.length_map] at this)
    clear hfs hsl
    go_wp2_with fail
    refine (hsum w3 HH3.out).mono ?_
    rintro e w4 ⟨rfl, e4⟩
    go_wp2_with (first | (refine wpl_mk8 rfl _ _ rfl (n := N) rfl rfl (by omega) ?_) | (refine wpl_storew rfl _ _ _ rfl rfl rfl (Blk.mk_alloc rfl rfl) agg_apisum rfl HSL.out (one_u8 _) ?_))
    intro w5 b5 u5
    have e45 : Ext w4 w5 := u5.ext ((Ext.refl w4).alloc _) (Nat.le_refl _)
    have HH5 := hid (HH3.out.ext (e4.ext e45))
    have e5 := hid ((e3.ext e4).ext e45)
    have l5 := HH3.out.lt
    have l4 := e4.size
    clear u5 e45 e4 HH3 l2
    generalize hg4 : w4.heap.size = g4 at *
    have l6 := b5.lt
    have HB5 := hid b5
    have l7 := e1.size
    clear b5
    go_wp2_with (first | (refine wpl_mk8 rfl _ _ rfl (n := N) rfl rfl (by omega) ?_))
    generalize hwB : World.alloc w5 _ = wB
    have zB : Blk wB w5.heap.size ((List.replicate N (0 : UInt8)).map u8v) 5 := by rw [← hwB]; exact Blk.mk_alloc rfl (by simp)
    have eB : Ext w5 wB := by rw [← hwB]; exact (Ext.refl w5).alloc _
    clear hwB
    refine (write_c (initS d) tx (List.replicate N 0) K w1.heap.size N N (some ⟨w5.heap.size, 0, none⟩) SmT wB hi (List.length_replicate ..) (by omega) (by omega) (HH5.out.ext eB) (by omega) (Nat.le_refl _) (by omega) (by intro h; cases h) (Cells.of_blk0 zB) (.inr (by intro x hx; cases hx; intro e; injection e with e; simp only at e; omega))).mono ?_
    intro e w6 h
    unfold writePost at h
    rw [List.length_replicate] at h
    by_cases hfit : N ≤ M
    · rw [if_pos (by omega)] at h
      obtain ⟨rfl, h6, g6⟩ := h
      have e6 := hid ((e5.out.ext eB).grown g6 (by intro k hk; cases hk; omega))
      have hnm : decide ((N : Int) ≤ (M : Int)) = true := decide_eq_true (by omega)
      clear h6 g6 zB eB
      go_wp2
      go_ret
      exact ⟨rfl, e6.out⟩
    · rw [if_neg (by omega)] at h
      obtain ⟨rfl, hww⟩ := h
      subst hww
      have HHB := HH5.out.ext eB
      have HBB := HB5.out.ext eB
      have e6 := hid (e5.out.ext eB)
      clear zB eB HH5 HB5
      have hnm : decide ((N : Int) ≤ (M : Int)) = false := decide_eq_false (by omega)
      go_wp2
      obtain ⟨C, hC⟩ : ∃ C : World → Prop, C = fun w' => Ext wB w' := ⟨_, rfl⟩
      have hC0 : ∀ w', C w' ↔ Ext wB w' := fun w' => by rw [hC]
      clear hC
      have HCC := hid hC0
      clear hC0
      have hCx : ∀ w w', C w → Ext w w' → C w' := fun w w' h1 h2 => (HCC.out w').2 (((HCC.out w).1 h1).ext h2)
      have hs : ∀ w', C w' → Blk w' g4 (sl.map u8v) 65 := fun w' h => HBB.ext ((HCC.out w').1 h)
      have hh : ∀ w', C w' → Holds w' w1.heap.size SmT (initS d) tx K := fun w' h => HHB.ext ((HCC.out w').1 h)
      refine wp_region_al (C := C) 9 [] wB.heap.size (by kernel_rfl) (by kernel_rfl) (by kernel_rfl) ((HCC.out _).2 (Ext.refl wB).drew) (fun w o h => hCx _ _ h ((Ext.refl w).alloc o)) (fun w h => ((HCC.out w).1 h).size) (by simp) ?_
      simp only [List.take_succ_cons, List.take_zero, List.drop_succ_cons, List.drop_zero]
      refine wpQE_do rfl rfl _ (fun _ _ => ⟨rfl, rfl⟩) ?_
      simp only [Act.put, List.setIfInBounds_toArray, List.set_cons_succ, List.set_cons_zero]
      refine wpQE_do rfl rfl _ (fun _ _ => ⟨rfl, rfl⟩) ?_
      simp only [Act.put, List.setIfInBounds_toArray, List.set_cons_succ, List.set_cons_zero]
      refine wpQE_do rfl rfl _ (fun _ _ => ⟨rfl, rfl⟩) ?_
      simp only [Act.put, List.setIfInBounds_toArray, List.set_cons_succ, List.set_cons_zero]
      refine wpQE_do rfl rfl _ (fun _ _ => ⟨rfl, rfl⟩) ?_
      simp only [Act.put, List.setIfInBounds_toArray, List.set_cons_succ, List.set_cons_zero]
      refine wpQE_do rfl rfl _ (yieldsE_call rfl Try.call36 (by simp [Act.eval]) (fun w h => hsum w (hh w h)) hCx) ?_
      simp only [Act.put, List.setIfInBounds_toArray, List.set_cons_succ, List.set_cons_zero]
      refine wpQE_do rfl rfl _ (yieldsE_loadw _ _ rfl rfl hs agg_apisum HSL.out) ?_
      simp only [Act.put, List.setIfInBounds_toArray, List.set_cons_succ, List.set_cons_zero]
      refine wpQE_do rfl rfl _ (yieldsE_cmp .eql _ _ _ _ rfl rfl rfl guard_sum (eq_self Try.underlying65 sl HSL2.out)) ?_
      simp only [Act.put, List.setIfInBounds_toArray, List.set_cons_succ, List.set_cons_zero]
      refine wpQE_do rfl rfl _ (fun _ _ => ⟨rfl, rfl⟩) ?_
      simp only [Act.put, List.setIfInBounds_toArray, List.set_cons_succ, List.set_cons_zero]
      refine wpQE_do rfl rfl _ (fun _ _ => ⟨rfl, rfl⟩) ?_
      simp only [Act.put, List.setIfInBounds_toArray, List.set_cons_succ, List.set_cons_zero]
      refine wpQE_nil ?_
      intro gs w7 hCw7 _ _
      have ew7 := (HCC.out w7).1 hCw7
      simp only [putAl, Act.put, List.setIfInBounds_toArray, List.set_cons_succ, List.set_cons_zero]
      have e7 := hid (e6.out.ext ew7)
      clear hs hh hCx HCC hCw7 HHB HBB ew7
      go_wp2
      go_ret
      exact ⟨rfl, e7.out⟩
end Go.Proofs.Ytjgglnflicemjaa
