/- audit.between and audit.ParseFinding; conditions: the text's length, the variables of the library. -/
import Derived.Test.YthfddfgncolnbaaDoorI3
import Derived.OwnWalk
namespace Go.Proofs.YthfddfgncolnbaaDoor
open Go Go.RowKit

theorem trim_le (s p : List UInt8) : (Lib.trimPrefix s p).length ≤ s.length := by
  unfold Lib.trimPrefix
  split
  · rw [List.length_drop]; omega
  · omega
theorem cut1_le (s p : List UInt8) : (Lib.cut s p).1.length ≤ s.length := by
  unfold Lib.cut
  split
  · rw [List.length_take]; omega
  · simp
theorem cut2_le (s p : List UInt8) : (Lib.cut s p).2.1.length ≤ s.length := by
  unfold Lib.cut
  split
  · simp only [List.length_drop]; omega
  · simp
theorem btw_le (s h t : List UInt8) : (btwL s h t).rest.length ≤ s.length := by
  unfold btwL
  exact Nat.le_trans (cut2_le _ _) (trim_le _ _)

set_option maxRecDepth 100000 in
set_option maxHeartbeats 400000 in
theorem between_c (s head tail : List UInt8) (w : World) (hs : s.length < 4294967281) (hw : LibW w) :
    Calls Tryd.prog 11 #[.string (strOf s), .string (strOf head), .string (strOf tail)] w fun e w' => e = .returned (.tuple #[.int .i64 (btwL s head tail).n, .string (strOf (btwL s head tail).rest), .bool (btwL s head tail).ok]) ∧ Ext w w' := by
  have h1 := trim_le s head
  have h2 := cut1_le (Lib.trimPrefix s head) tail
  have k1 := hid (fun w => cutPrefix_c s head w)
  have k2 := hid (fun w hm => cutS_c (Lib.trimPrefix s head) tail w (by omega) hm)
  have hB : btwL s head tail = ⟨numOf (Lib.cut (Lib.trimPrefix s head) tail).1, (Lib.cut (Lib.trimPrefix s head) tail).2.1, Lib.hasPrefix s head && (Lib.cut (Lib.trimPrefix s head) tail).2.2 && numOk (Lib.cut (Lib.trimPrefix s head) tail).1⟩ := rfl
  rw [hB]
  clear hB
  generalize Lib.hasPrefix s head = b1 at *
  generalize Lib.trimPrefix s head = t at *
  generalize Lib.cut t tail = c at *
  obtain ⟨dg, rs, b2⟩ := c
  dsimp only at *
  have k3 := hid (fun w h => atoi_ok dg w (by omega) h)
  have k4 := hid (fun w h => atoi_no dg w (by omega) h)
  have HW := hid hw
  clear h1 h2 hw hs
  generalize numOf dg = N at *

  cases hb : numOk dg with
  | true =>
    have k5 := hid (fun w => k3.out w hb)
    clear k3 k4 hb
    cases b1 with
    | true =>
      cases b2 with
      | true =>
        go_enter Tryd.func11, Tryd.ntmps11
        go_wp2_with fail
        refine (k1.out _).mono ?_
        rintro e wA ⟨rfl, eA⟩
        have EA := hid eA
        clear eA
        go_wp2_with fail
        refine (k2.out _ (HW.out.ext EA.out).ml).mono ?_
        rintro e wB ⟨rfl, eB⟩
        have EB := hid (EA.out.ext eB)
        clear eB EA
        go_wp2_with fail
        refine (k5.out _).mono ?_
        rintro e wC ⟨rfl, eC⟩
        have EC := hid (EB.out.ext eC)
        clear eC EB
        go_wp2_with fail
        obtain ⟨C, hC⟩ : ∃ C : World → Prop, C = fun w' => Ext wC w' := ⟨_, rfl⟩
        have hC0 : ∀ w', C w' ↔ Ext wC w' := fun w' => by rw [hC]
        clear hC
        have HCC := hid hC0
        clear hC0
        have hCx : ∀ w w', C w → Ext w w' → C w' := fun w w' h1 h2 => (HCC.out w').2 (((HCC.out w).1 h1).ext h2)
        have hCA : C wC := (HCC.out _).2 (Ext.refl wC)
        refine wp_region_held_drew (S := C) (by kernel_rfl) (hCx _ _ hCA (Ext.refl _).drew) (fun hS0 => ?_)
        refine held_take 0 (v := ?tv77) rfl (by kernel_rfl) (by kernel_rfl) (by kernel_rfl) (fun _ _ _ h => h) (.inl ⟨rfl, ?ty77⟩) hS0 ?tr77
        case ty77 => (intro _ _; go_simp; try with_reducible rfl)
        case tr77 =>
        simp only [Act.put, List.setIfInBounds_toArray, List.set_cons_succ, List.set_cons_zero]
        refine held_take 1 (v := ?tv78) rfl (by kernel_rfl) (by kernel_rfl) (by kernel_rfl) (fun _ _ _ h => h) (.inl ⟨rfl, ?ty78⟩) hS0 ?tr78
        case ty78 => (intro _ _; go_simp; try with_reducible rfl)
        case tr78 =>
        simp only [Act.put, List.setIfInBounds_toArray, List.set_cons_succ, List.set_cons_zero]
        refine held_take 2 (v := ?tv79) rfl (by kernel_rfl) (by kernel_rfl) (by kernel_rfl) (fun _ _ _ h => h) (.inl ⟨rfl, ?ty79⟩) hS0 ?tr79
        case ty79 => (intro _ _; go_simp; try with_reducible rfl)
        case tr79 =>
        simp only [Act.put, List.setIfInBounds_toArray, List.set_cons_succ, List.set_cons_zero]
        refine held_take 3 (v := ?tv80) rfl (by kernel_rfl) (by kernel_rfl) (by kernel_rfl) (fun _ _ _ h => h) (.inl ⟨rfl, ?ty80⟩) hS0 ?tr80
        case ty80 => (intro _ _; go_simp; try with_reducible rfl)
        case tr80 =>
        simp only [Act.put, List.setIfInBounds_toArray, List.set_cons_succ, List.set_cons_zero]
        refine held_take 4 (v := ?tv81) rfl (by kernel_rfl) (by kernel_rfl) (by kernel_rfl) (fun _ _ _ h => h) (.inl ⟨rfl, ?ty81⟩) hS0 ?tr81
        case ty81 => (intro _ _; go_simp; try with_reducible rfl)
        case tr81 =>
        simp only [Act.put, List.setIfInBounds_toArray, List.set_cons_succ, List.set_cons_zero]
        refine held_take 5 (v := ?tv82) rfl (by kernel_rfl) (by kernel_rfl) (by kernel_rfl) (fun _ _ _ h => h) (.inl ⟨rfl, ?ty82⟩) hS0 ?tr82
        case ty82 => (intro _ _; go_simp; try with_reducible rfl)
        case tr82 =>
        simp only [Act.put, List.setIfInBounds_toArray, List.set_cons_succ, List.set_cons_zero]
        refine held_take 6 (v := ?tv83) rfl (by kernel_rfl) (by kernel_rfl) (by kernel_rfl) (fun _ _ _ h => h) (.inl ⟨rfl, ?ty83⟩) hS0 ?tr83
        case ty83 => (intro _ _; go_simp; try with_reducible rfl)
        case tr83 =>
        simp only [Act.put, List.setIfInBounds_toArray, List.set_cons_succ, List.set_cons_zero]
        refine held_take 7 (v := ?tv84) rfl (by kernel_rfl) (by kernel_rfl) (by kernel_rfl) (fun _ _ _ h => h) (.inl ⟨rfl, ?ty84⟩) hS0 ?tr84
        case ty84 => (intro _ _; go_simp; try with_reducible rfl)
        case tr84 =>
        simp only [Act.put, List.setIfInBounds_toArray, List.set_cons_succ, List.set_cons_zero]
        refine held_take 8 (v := ?tv85) rfl (by kernel_rfl) (by kernel_rfl) (by kernel_rfl) (fun _ _ _ h => h) (.inl ⟨rfl, ?ty85⟩) hS0 ?tr85
        case ty85 => (intro _ _; go_simp; try with_reducible rfl)
        case tr85 =>
        simp only [Act.put, List.setIfInBounds_toArray, List.set_cons_succ, List.set_cons_zero]
        refine held_take 9 (v := ?tv86) rfl (by kernel_rfl) (by kernel_rfl) (by kernel_rfl) (fun _ _ _ h => h) (.inl ⟨rfl, ?ty86⟩) hS0 ?tr86
        case ty86 => (intro _ _; go_simp; try with_reducible rfl)
        case tr86 =>
        simp only [Act.put, List.setIfInBounds_toArray, List.set_cons_succ, List.set_cons_zero]
        refine held_take 10 (v := ?tv87) rfl (by kernel_rfl) (by kernel_rfl) (by kernel_rfl) (fun _ _ _ h => h) (.inl ⟨rfl, ?ty87⟩) hS0 ?tr87
        case ty87 => (intro _ _; go_simp; try with_reducible rfl)
        case tr87 =>
        simp only [Act.put, List.setIfInBounds_toArray, List.set_cons_succ, List.set_cons_zero]
        refine held_take 11 (v := ?tv88) rfl (by kernel_rfl) (by kernel_rfl) (by kernel_rfl) (fun _ _ _ h => h) (.inl ⟨rfl, ?ty88⟩) hS0 ?tr88
        case ty88 => (intro _ _; go_simp; try with_reducible rfl)
        case tr88 =>
        simp only [Act.put, List.setIfInBounds_toArray, List.set_cons_succ, List.set_cons_zero]
        refine held_take 12 (v := ?tv89) rfl (by kernel_rfl) (by kernel_rfl) (by kernel_rfl) (fun _ _ _ h => h) (.inl ⟨rfl, ?ty89⟩) hS0 ?tr89
        case ty89 => (intro _ _; go_simp; try with_reducible rfl)
        case tr89 =>
        simp only [Act.put, List.setIfInBounds_toArray, List.set_cons_succ, List.set_cons_zero]
        refine wpAnyH_done (by kernel_rfl) ?_ _
        have ED := hid (EC.out.ext ((HCC.out _).1 hS0))
        clear hS0 hCx hCA HCC
        go_wp2
        go_ret3
        exact ⟨rfl, ED.out⟩
      | false =>
        go_enter Tryd.func11, Tryd.ntmps11
        go_wp2_with fail
        refine (k1.out _).mono ?_
        rintro e wA ⟨rfl, eA⟩
        have EA := hid eA
        clear eA
        go_wp2_with fail
        refine (k2.out _ (HW.out.ext EA.out).ml).mono ?_
        rintro e wB ⟨rfl, eB⟩
        have EB := hid (EA.out.ext eB)
        clear eB EA
        go_wp2_with fail
        refine (k5.out _).mono ?_
        rintro e wC ⟨rfl, eC⟩
        have EC := hid (EB.out.ext eC)
        clear eC EB
        go_wp2_with fail
        obtain ⟨C, hC⟩ : ∃ C : World → Prop, C = fun w' => Ext wC w' := ⟨_, rfl⟩
        have hC0 : ∀ w', C w' ↔ Ext wC w' := fun w' => by rw [hC]
        clear hC
        have HCC := hid hC0
        clear hC0
        have hCx : ∀ w w', C w → Ext w w' → C w' := fun w w' h1 h2 => (HCC.out w').2 (((HCC.out w).1 h1).ext h2)
        have hCA : C wC := (HCC.out _).2 (Ext.refl wC)
        refine wp_region_held_drew (S := C) (by kernel_rfl) (hCx _ _ hCA (Ext.refl _).drew) (fun hS0 => ?_)
        refine held_take 0 (v := ?tv90) rfl (by kernel_rfl) (by kernel_rfl) (by kernel_rfl) (fun _ _ _ h => h) (.inl ⟨rfl, ?ty90⟩) hS0 ?tr90
        case ty90 => (intro _ _; go_simp; try with_reducible rfl)
        case tr90 =>
        simp only [Act.put, List.setIfInBounds_toArray, List.set_cons_succ, List.set_cons_zero]
        refine held_take 1 (v := ?tv91) rfl (by kernel_rfl) (by kernel_rfl) (by kernel_rfl) (fun _ _ _ h => h) (.inl ⟨rfl, ?ty91⟩) hS0 ?tr91
        case ty91 => (intro _ _; go_simp; try with_reducible rfl)
        case tr91 =>
        simp only [Act.put, List.setIfInBounds_toArray, List.set_cons_succ, List.set_cons_zero]
        refine held_take 2 (v := ?tv92) rfl (by kernel_rfl) (by kernel_rfl) (by kernel_rfl) (fun _ _ _ h => h) (.inl ⟨rfl, ?ty92⟩) hS0 ?tr92
        case ty92 => (intro _ _; go_simp; try with_reducible rfl)
        case tr92 =>
        simp only [Act.put, List.setIfInBounds_toArray, List.set_cons_succ, List.set_cons_zero]
        refine held_take 3 (v := ?tv93) rfl (by kernel_rfl) (by kernel_rfl) (by kernel_rfl) (fun _ _ _ h => h) (.inl ⟨rfl, ?ty93⟩) hS0 ?tr93
        case ty93 => (intro _ _; go_simp; try with_reducible rfl)
        case tr93 =>
        simp only [Act.put, List.setIfInBounds_toArray, List.set_cons_succ, List.set_cons_zero]
        refine held_take 4 (v := ?tv94) rfl (by kernel_rfl) (by kernel_rfl) (by kernel_rfl) (fun _ _ _ h => h) (.inl ⟨rfl, ?ty94⟩) hS0 ?tr94
        case ty94 => (intro _ _; go_simp; try with_reducible rfl)
        case tr94 =>
        simp only [Act.put, List.setIfInBounds_toArray, List.set_cons_succ, List.set_cons_zero]
        refine held_take 5 (v := ?tv95) rfl (by kernel_rfl) (by kernel_rfl) (by kernel_rfl) (fun _ _ _ h => h) (.inl ⟨rfl, ?ty95⟩) hS0 ?tr95
        case ty95 => (intro _ _; go_simp; try with_reducible rfl)
        case tr95 =>
        simp only [Act.put, List.setIfInBounds_toArray, List.set_cons_succ, List.set_cons_zero]
        refine held_take 6 (v := ?tv96) rfl (by kernel_rfl) (by kernel_rfl) (by kernel_rfl) (fun _ _ _ h => h) (.inl ⟨rfl, ?ty96⟩) hS0 ?tr96
        case ty96 => (intro _ _; go_simp; try with_reducible rfl)
        case tr96 =>
        simp only [Act.put, List.setIfInBounds_toArray, List.set_cons_succ, List.set_cons_zero]
        refine held_take 7 (v := undef) rfl (by kernel_rfl) (by kernel_rfl) (by kernel_rfl) (fun _ _ _ h => h) (.inr ⟨rfl, rfl⟩) hS0 ?_
        simp only [Act.put, List.setIfInBounds_toArray, List.set_cons_succ, List.set_cons_zero]
        refine held_take 8 (v := undef) rfl (by kernel_rfl) (by kernel_rfl) (by kernel_rfl) (fun _ _ _ h => h) (.inr ⟨rfl, rfl⟩) hS0 ?_
        simp only [Act.put, List.setIfInBounds_toArray, List.set_cons_succ, List.set_cons_zero]
        refine held_take 9 (v := ?tv97) rfl (by kernel_rfl) (by kernel_rfl) (by kernel_rfl) (fun _ _ _ h => h) (.inl ⟨rfl, ?ty97⟩) hS0 ?tr97
        case ty97 => (intro _ _; go_simp; try with_reducible rfl)
        case tr97 =>
        simp only [Act.put, List.setIfInBounds_toArray, List.set_cons_succ, List.set_cons_zero]
        refine held_take 10 (v := ?tv98) rfl (by kernel_rfl) (by kernel_rfl) (by kernel_rfl) (fun _ _ _ h => h) (.inl ⟨rfl, ?ty98⟩) hS0 ?tr98
        case ty98 => (intro _ _; go_simp; try with_reducible rfl)
        case tr98 =>
        simp only [Act.put, List.setIfInBounds_toArray, List.set_cons_succ, List.set_cons_zero]
        refine held_take 11 (v := ?tv99) rfl (by kernel_rfl) (by kernel_rfl) (by kernel_rfl) (fun _ _ _ h => h) (.inl ⟨rfl, ?ty99⟩) hS0 ?tr99
        case ty99 => (intro _ _; go_simp; try with_reducible rfl)
        case tr99 =>
        simp only [Act.put, List.setIfInBounds_toArray, List.set_cons_succ, List.set_cons_zero]
        refine held_take 12 (v := ?tv100) rfl (by kernel_rfl) (by kernel_rfl) (by kernel_rfl) (fun _ _ _ h => h) (.inl ⟨rfl, ?ty100⟩) hS0 ?tr100
        case ty100 => (intro _ _; go_simp; try with_reducible rfl)
        case tr100 =>
        simp only [Act.put, List.setIfInBounds_toArray, List.set_cons_succ, List.set_cons_zero]
        refine wpAnyH_done (by kernel_rfl) ?_ _
        have ED := hid (EC.out.ext ((HCC.out _).1 hS0))
        clear hS0 hCx hCA HCC
        go_wp2
        go_ret3
        exact ⟨rfl, ED.out⟩
    | false =>
      go_enter Tryd.func11, Tryd.ntmps11
      go_wp2_with fail
      refine (k1.out _).mono ?_
      rintro e wA ⟨rfl, eA⟩
      have EA := hid eA
      clear eA
      go_wp2_with fail
      refine (k2.out _ (HW.out.ext EA.out).ml).mono ?_
      rintro e wB ⟨rfl, eB⟩
      have EB := hid (EA.out.ext eB)
      clear eB EA
      go_wp2_with fail
      refine (k5.out _).mono ?_
      rintro e wC ⟨rfl, eC⟩
      have EC := hid (EB.out.ext eC)
      clear eC EB
      go_wp2_with fail
      obtain ⟨C, hC⟩ : ∃ C : World → Prop, C = fun w' => Ext wC w' := ⟨_, rfl⟩
      have hC0 : ∀ w', C w' ↔ Ext wC w' := fun w' => by rw [hC]
      clear hC
      have HCC := hid hC0
      clear hC0
      have hCx : ∀ w w', C w → Ext w w' → C w' := fun w w' h1 h2 => (HCC.out w').2 (((HCC.out w).1 h1).ext h2)
      have hCA : C wC := (HCC.out _).2 (Ext.refl wC)
      refine wp_region_held_drew (S := C) (by kernel_rfl) (hCx _ _ hCA (Ext.refl _).drew) (fun hS0 => ?_)
      refine held_take 0 (v := ?tv101) rfl (by kernel_rfl) (by kernel_rfl) (by kernel_rfl) (fun _ _ _ h => h) (.inl ⟨rfl, ?ty101⟩) hS0 ?tr101
      case ty101 => (intro _ _; go_simp; try with_reducible rfl)
      case tr101 =>
      simp only [Act.put, List.setIfInBounds_toArray, List.set_cons_succ, List.set_cons_zero]
      refine held_take 1 (v := ?tv102) rfl (by kernel_rfl) (by kernel_rfl) (by kernel_rfl) (fun _ _ _ h => h) (.inl ⟨rfl, ?ty102⟩) hS0 ?tr102
      case ty102 => (intro _ _; go_simp; try with_reducible rfl)
      case tr102 =>
      simp only [Act.put, List.setIfInBounds_toArray, List.set_cons_succ, List.set_cons_zero]
      refine held_take 2 (v := ?tv103) rfl (by kernel_rfl) (by kernel_rfl) (by kernel_rfl) (fun _ _ _ h => h) (.inl ⟨rfl, ?ty103⟩) hS0 ?tr103
      case ty103 => (intro _ _; go_simp; try with_reducible rfl)
      case tr103 =>
      simp only [Act.put, List.setIfInBounds_toArray, List.set_cons_succ, List.set_cons_zero]
      refine held_take 3 (v := ?tv104) rfl (by kernel_rfl) (by kernel_rfl) (by kernel_rfl) (fun _ _ _ h => h) (.inl ⟨rfl, ?ty104⟩) hS0 ?tr104
      case ty104 => (intro _ _; go_simp; try with_reducible rfl)
      case tr104 =>
      simp only [Act.put, List.setIfInBounds_toArray, List.set_cons_succ, List.set_cons_zero]
      refine held_take 4 (v := undef) rfl (by kernel_rfl) (by kernel_rfl) (by kernel_rfl) (fun _ _ _ h => h) (.inr ⟨rfl, rfl⟩) hS0 ?_
      simp only [Act.put, List.setIfInBounds_toArray, List.set_cons_succ, List.set_cons_zero]
      refine held_take 5 (v := ?tv105) rfl (by kernel_rfl) (by kernel_rfl) (by kernel_rfl) (fun _ _ _ h => h) (.inl ⟨rfl, ?ty105⟩) hS0 ?tr105
      case ty105 => (intro _ _; go_simp; try with_reducible rfl)
      case tr105 =>
      simp only [Act.put, List.setIfInBounds_toArray, List.set_cons_succ, List.set_cons_zero]
      refine held_take 6 (v := ?tv106) rfl (by kernel_rfl) (by kernel_rfl) (by kernel_rfl) (fun _ _ _ h => h) (.inl ⟨rfl, ?ty106⟩) hS0 ?tr106
      case ty106 => (intro _ _; go_simp; try with_reducible rfl)
      case tr106 =>
      simp only [Act.put, List.setIfInBounds_toArray, List.set_cons_succ, List.set_cons_zero]
      refine held_take 7 (v := undef) rfl (by kernel_rfl) (by kernel_rfl) (by kernel_rfl) (fun _ _ _ h => h) (.inr ⟨rfl, rfl⟩) hS0 ?_
      simp only [Act.put, List.setIfInBounds_toArray, List.set_cons_succ, List.set_cons_zero]
      refine held_take 8 (v := undef) rfl (by kernel_rfl) (by kernel_rfl) (by kernel_rfl) (fun _ _ _ h => h) (.inr ⟨rfl, rfl⟩) hS0 ?_
      simp only [Act.put, List.setIfInBounds_toArray, List.set_cons_succ, List.set_cons_zero]
      refine held_take 9 (v := ?tv107) rfl (by kernel_rfl) (by kernel_rfl) (by kernel_rfl) (fun _ _ _ h => h) (.inl ⟨rfl, ?ty107⟩) hS0 ?tr107
      case ty107 => (intro _ _; go_simp; try with_reducible rfl)
      case tr107 =>
      simp only [Act.put, List.setIfInBounds_toArray, List.set_cons_succ, List.set_cons_zero]
      refine held_take 10 (v := ?tv108) rfl (by kernel_rfl) (by kernel_rfl) (by kernel_rfl) (fun _ _ _ h => h) (.inl ⟨rfl, ?ty108⟩) hS0 ?tr108
      case ty108 => (intro _ _; go_simp; try with_reducible rfl)
      case tr108 =>
      simp only [Act.put, List.setIfInBounds_toArray, List.set_cons_succ, List.set_cons_zero]
      refine held_take 11 (v := ?tv109) rfl (by kernel_rfl) (by kernel_rfl) (by kernel_rfl) (fun _ _ _ h => h) (.inl ⟨rfl, ?ty109⟩) hS0 ?tr109
      case ty109 => (intro _ _; go_simp; try with_reducible rfl)
      case tr109 =>
      simp only [Act.put, List.setIfInBounds_toArray, List.set_cons_succ, List.set_cons_zero]
      refine held_take 12 (v := ?tv110) rfl (by kernel_rfl) (by kernel_rfl) (by kernel_rfl) (fun _ _ _ h => h) (.inl ⟨rfl, ?ty110⟩) hS0 ?tr110
      case ty110 => (intro _ _; go_simp; try with_reducible rfl)
      case tr110 =>
      simp only [Act.put, List.setIfInBounds_toArray, List.set_cons_succ, List.set_cons_zero]
      refine wpAnyH_done (by kernel_rfl) ?_ _
      have ED := hid (EC.out.ext ((HCC.out _).1 hS0))
      clear hS0 hCx hCA HCC
      go_wp2
      go_ret3
      exact ⟨rfl, ED.out⟩
  | false =>
    have k5 := hid (fun w h => k4.out w hb h)
    clear k3 k4 hb
    cases b1 with
    | true =>
      cases b2 with
      | true =>
        go_enter Tryd.func11, Tryd.ntmps11
        go_wp2_with fail
        refine (k1.out _).mono ?_
        rintro e wA ⟨rfl, eA⟩
        have EA := hid eA
        clear eA
        go_wp2_with fail
        refine (k2.out _ (HW.out.ext EA.out).ml).mono ?_
        rintro e wB ⟨rfl, eB⟩
        have EB := hid (EA.out.ext eB)
        clear eB EA
        go_wp2_with fail
        refine (k5.out _ (HW.out.ext EB.out)).mono ?_
        rintro e wC ⟨NN, rfl, eC⟩
        have EC := hid (EB.out.ext eC)
        clear eC EB
        go_wp2_with fail
        obtain ⟨C, hC⟩ : ∃ C : World → Prop, C = fun w' => Ext wC w' := ⟨_, rfl⟩
        have hC0 : ∀ w', C w' ↔ Ext wC w' := fun w' => by rw [hC]
        clear hC
        have HCC := hid hC0
        clear hC0
        have hCx : ∀ w w', C w → Ext w w' → C w' := fun w w' h1 h2 => (HCC.out w').2 (((HCC.out w).1 h1).ext h2)
        have hCA : C wC := (HCC.out _).2 (Ext.refl wC)
        refine wp_region_held_drew (S := C) (by kernel_rfl) (hCx _ _ hCA (Ext.refl _).drew) (fun hS0 => ?_)
        refine held_take 0 (v := ?tv111) rfl (by kernel_rfl) (by kernel_rfl) (by kernel_rfl) (fun _ _ _ h => h) (.inl ⟨rfl, ?ty111⟩) hS0 ?tr111
        case ty111 => (intro _ _; go_simp; try with_reducible rfl)
        case tr111 =>
        simp only [Act.put, List.setIfInBounds_toArray, List.set_cons_succ, List.set_cons_zero]
        refine held_take 1 (v := ?tv112) rfl (by kernel_rfl) (by kernel_rfl) (by kernel_rfl) (fun _ _ _ h => h) (.inl ⟨rfl, ?ty112⟩) hS0 ?tr112
        case ty112 => (intro _ _; go_simp; try with_reducible rfl)
        case tr112 =>
        simp only [Act.put, List.setIfInBounds_toArray, List.set_cons_succ, List.set_cons_zero]
        refine held_take 2 (v := ?tv113) rfl (by kernel_rfl) (by kernel_rfl) (by kernel_rfl) (fun _ _ _ h => h) (.inl ⟨rfl, ?ty113⟩) hS0 ?tr113
        case ty113 => (intro _ _; go_simp; try with_reducible rfl)
        case tr113 =>
        simp only [Act.put, List.setIfInBounds_toArray, List.set_cons_succ, List.set_cons_zero]
        refine held_take 3 (v := ?tv114) rfl (by kernel_rfl) (by kernel_rfl) (by kernel_rfl) (fun _ _ _ h => h) (.inl ⟨rfl, ?ty114⟩) hS0 ?tr114
        case ty114 => (intro _ _; go_simp; try with_reducible rfl)
        case tr114 =>
        simp only [Act.put, List.setIfInBounds_toArray, List.set_cons_succ, List.set_cons_zero]
        refine held_take 4 (v := ?tv115) rfl (by kernel_rfl) (by kernel_rfl) (by kernel_rfl) (fun _ _ _ h => h) (.inl ⟨rfl, ?ty115⟩) hS0 ?tr115
        case ty115 => (intro _ _; go_simp; try with_reducible rfl)
        case tr115 =>
        simp only [Act.put, List.setIfInBounds_toArray, List.set_cons_succ, List.set_cons_zero]
        refine held_take 5 (v := ?tv116) rfl (by kernel_rfl) (by kernel_rfl) (by kernel_rfl) (fun _ _ _ h => h) (.inl ⟨rfl, ?ty116⟩) hS0 ?tr116
        case ty116 => (intro _ _; go_simp; try with_reducible rfl)
        case tr116 =>
        simp only [Act.put, List.setIfInBounds_toArray, List.set_cons_succ, List.set_cons_zero]
        refine held_take 6 (v := ?tv117) rfl (by kernel_rfl) (by kernel_rfl) (by kernel_rfl) (fun _ _ _ h => h) (.inl ⟨rfl, ?ty117⟩) hS0 ?tr117
        case ty117 => (intro _ _; go_simp; try with_reducible rfl)
        case tr117 =>
        simp only [Act.put, List.setIfInBounds_toArray, List.set_cons_succ, List.set_cons_zero]
        refine held_take 7 (v := ?tv118) rfl (by kernel_rfl) (by kernel_rfl) (by kernel_rfl) (fun _ _ _ h => h) (.inl ⟨rfl, ?ty118⟩) hS0 ?tr118
        case ty118 => (intro _ _; go_simp; try with_reducible rfl)
        case tr118 =>
        simp only [Act.put, List.setIfInBounds_toArray, List.set_cons_succ, List.set_cons_zero]
        refine held_take 8 (v := ?tv119) rfl (by kernel_rfl) (by kernel_rfl) (by kernel_rfl) (fun _ _ _ h => h) (.inl ⟨rfl, ?ty119⟩) hS0 ?tr119
        case ty119 => (intro _ _; go_simp; try with_reducible rfl)
        case tr119 =>
        simp only [Act.put, List.setIfInBounds_toArray, List.set_cons_succ, List.set_cons_zero]
        refine held_take 9 (v := ?tv120) rfl (by kernel_rfl) (by kernel_rfl) (by kernel_rfl) (fun _ _ _ h => h) (.inl ⟨rfl, ?ty120⟩) hS0 ?tr120
        case ty120 => (intro _ _; go_simp; try with_reducible rfl)
        case tr120 =>
        simp only [Act.put, List.setIfInBounds_toArray, List.set_cons_succ, List.set_cons_zero]
        refine held_take 10 (v := ?tv121) rfl (by kernel_rfl) (by kernel_rfl) (by kernel_rfl) (fun _ _ _ h => h) (.inl ⟨rfl, ?ty121⟩) hS0 ?tr121
        case ty121 => (intro _ _; go_simp; try with_reducible rfl)
        case tr121 =>
        simp only [Act.put, List.setIfInBounds_toArray, List.set_cons_succ, List.set_cons_zero]
        refine held_take 11 (v := ?tv122) rfl (by kernel_rfl) (by kernel_rfl) (by kernel_rfl) (fun _ _ _ h => h) (.inl ⟨rfl, ?ty122⟩) hS0 ?tr122
        case ty122 => (intro _ _; go_simp; try with_reducible rfl)
        case tr122 =>
        simp only [Act.put, List.setIfInBounds_toArray, List.set_cons_succ, List.set_cons_zero]
        refine held_take 12 (v := ?tv123) rfl (by kernel_rfl) (by kernel_rfl) (by kernel_rfl) (fun _ _ _ h => h) (.inl ⟨rfl, ?ty123⟩) hS0 ?tr123
        case ty123 => (intro _ _; go_simp; try with_reducible rfl)
        case tr123 =>
        simp only [Act.put, List.setIfInBounds_toArray, List.set_cons_succ, List.set_cons_zero]
        refine wpAnyH_done (by kernel_rfl) ?_ _
        have ED := hid (EC.out.ext ((HCC.out _).1 hS0))
        clear hS0 hCx hCA HCC
        go_wp2
        go_ret3
        exact ⟨rfl, ED.out⟩
      | false =>
        go_enter Tryd.func11, Tryd.ntmps11
        go_wp2_with fail
        refine (k1.out _).mono ?_
        rintro e wA ⟨rfl, eA⟩
        have EA := hid eA
        clear eA
        go_wp2_with fail
        refine (k2.out _ (HW.out.ext EA.out).ml).mono ?_
        rintro e wB ⟨rfl, eB⟩
        have EB := hid (EA.out.ext eB)
        clear eB EA
        go_wp2_with fail
        refine (k5.out _ (HW.out.ext EB.out)).mono ?_
        rintro e wC ⟨NN, rfl, eC⟩
        have EC := hid (EB.out.ext eC)
        clear eC EB
        go_wp2_with fail
        obtain ⟨C, hC⟩ : ∃ C : World → Prop, C = fun w' => Ext wC w' := ⟨_, rfl⟩
        have hC0 : ∀ w', C w' ↔ Ext wC w' := fun w' => by rw [hC]
        clear hC
        have HCC := hid hC0
        clear hC0
        have hCx : ∀ w w', C w → Ext w w' → C w' := fun w w' h1 h2 => (HCC.out w').2 (((HCC.out w).1 h1).ext h2)
        have hCA : C wC := (HCC.out _).2 (Ext.refl wC)
        refine wp_region_held_drew (S := C) (by kernel_rfl) (hCx _ _ hCA (Ext.refl _).drew) (fun hS0 => ?_)
        refine held_take 0 (v := ?tv124) rfl (by kernel_rfl) (by kernel_rfl) (by kernel_rfl) (fun _ _ _ h => h) (.inl ⟨rfl, ?ty124⟩) hS0 ?tr124
        case ty124 => (intro _ _; go_simp; try with_reducible rfl)
        case tr124 =>
        simp only [Act.put, List.setIfInBounds_toArray, List.set_cons_succ, List.set_cons_zero]
        refine held_take 1 (v := ?tv125) rfl (by kernel_rfl) (by kernel_rfl) (by kernel_rfl) (fun _ _ _ h => h) (.inl ⟨rfl, ?ty125⟩) hS0 ?tr125
        case ty125 => (intro _ _; go_simp; try with_reducible rfl)
        case tr125 =>
        simp only [Act.put, List.setIfInBounds_toArray, List.set_cons_succ, List.set_cons_zero]
        refine held_take 2 (v := ?tv126) rfl (by kernel_rfl) (by kernel_rfl) (by kernel_rfl) (fun _ _ _ h => h) (.inl ⟨rfl, ?ty126⟩) hS0 ?tr126
        case ty126 => (intro _ _; go_simp; try with_reducible rfl)
        case tr126 =>
        simp only [Act.put, List.setIfInBounds_toArray, List.set_cons_succ, List.set_cons_zero]
        refine held_take 3 (v := ?tv127) rfl (by kernel_rfl) (by kernel_rfl) (by kernel_rfl) (fun _ _ _ h => h) (.inl ⟨rfl, ?ty127⟩) hS0 ?tr127
        case ty127 => (intro _ _; go_simp; try with_reducible rfl)
        case tr127 =>
        simp only [Act.put, List.setIfInBounds_toArray, List.set_cons_succ, List.set_cons_zero]
        refine held_take 4 (v := ?tv128) rfl (by kernel_rfl) (by kernel_rfl) (by kernel_rfl) (fun _ _ _ h => h) (.inl ⟨rfl, ?ty128⟩) hS0 ?tr128
        case ty128 => (intro _ _; go_simp; try with_reducible rfl)
        case tr128 =>
        simp only [Act.put, List.setIfInBounds_toArray, List.set_cons_succ, List.set_cons_zero]
        refine held_take 5 (v := ?tv129) rfl (by kernel_rfl) (by kernel_rfl) (by kernel_rfl) (fun _ _ _ h => h) (.inl ⟨rfl, ?ty129⟩) hS0 ?tr129
        case ty129 => (intro _ _; go_simp; try with_reducible rfl)
        case tr129 =>
        simp only [Act.put, List.setIfInBounds_toArray, List.set_cons_succ, List.set_cons_zero]
        refine held_take 6 (v := ?tv130) rfl (by kernel_rfl) (by kernel_rfl) (by kernel_rfl) (fun _ _ _ h => h) (.inl ⟨rfl, ?ty130⟩) hS0 ?tr130
        case ty130 => (intro _ _; go_simp; try with_reducible rfl)
        case tr130 =>
        simp only [Act.put, List.setIfInBounds_toArray, List.set_cons_succ, List.set_cons_zero]
        refine held_take 7 (v := undef) rfl (by kernel_rfl) (by kernel_rfl) (by kernel_rfl) (fun _ _ _ h => h) (.inr ⟨rfl, rfl⟩) hS0 ?_
        simp only [Act.put, List.setIfInBounds_toArray, List.set_cons_succ, List.set_cons_zero]
        refine held_take 8 (v := undef) rfl (by kernel_rfl) (by kernel_rfl) (by kernel_rfl) (fun _ _ _ h => h) (.inr ⟨rfl, rfl⟩) hS0 ?_
        simp only [Act.put, List.setIfInBounds_toArray, List.set_cons_succ, List.set_cons_zero]
        refine held_take 9 (v := ?tv131) rfl (by kernel_rfl) (by kernel_rfl) (by kernel_rfl) (fun _ _ _ h => h) (.inl ⟨rfl, ?ty131⟩) hS0 ?tr131
        case ty131 => (intro _ _; go_simp; try with_reducible rfl)
        case tr131 =>
        simp only [Act.put, List.setIfInBounds_toArray, List.set_cons_succ, List.set_cons_zero]
        refine held_take 10 (v := ?tv132) rfl (by kernel_rfl) (by kernel_rfl) (by kernel_rfl) (fun _ _ _ h => h) (.inl ⟨rfl, ?ty132⟩) hS0 ?tr132
        case ty132 => (intro _ _; go_simp; try with_reducible rfl)
        case tr132 =>
        simp only [Act.put, List.setIfInBounds_toArray, List.set_cons_succ, List.set_cons_zero]
        refine held_take 11 (v := ?tv133) rfl (by kernel_rfl) (by kernel_rfl) (by kernel_rfl) (fun _ _ _ h => h) (.inl ⟨rfl, ?ty133⟩) hS0 ?tr133
        case ty133 => (intro _ _; go_simp; try with_reducible rfl)
        case tr133 =>
        simp only [Act.put, List.setIfInBounds_toArray, List.set_cons_succ, List.set_cons_zero]
        refine held_take 12 (v := ?tv134) rfl (by kernel_rfl) (by kernel_rfl) (by kernel_rfl) (fun _ _ _ h => h) (.inl ⟨rfl, ?ty134⟩) hS0 ?tr134
        case ty134 => (intro _ _; go_simp; try with_reducible rfl)
        case tr134 =>
        simp only [Act.put, List.setIfInBounds_toArray, List.set_cons_succ, List.set_cons_zero]
        refine wpAnyH_done (by kernel_rfl) ?_ _
        have ED := hid (EC.out.ext ((HCC.out _).1 hS0))
        clear hS0 hCx hCA HCC
        go_wp2
        go_ret3
        exact ⟨rfl, ED.out⟩
    | false =>
      go_enter Tryd.func11, Tryd.ntmps11
      go_wp2_with fail
      refine (k1.out _).mono ?_
      rintro e wA ⟨rfl, eA⟩
      have EA := hid eA
      clear eA
      go_wp2_with fail
      refine (k2.out _ (HW.out.ext EA.out).ml).mono ?_
      rintro e wB ⟨rfl, eB⟩
      have EB := hid (EA.out.ext eB)
      clear eB EA
      go_wp2_with fail
      refine (k5.out _ (HW.out.ext EB.out)).mono ?_
      rintro e wC ⟨NN, rfl, eC⟩
      have EC := hid (EB.out.ext eC)
      clear eC EB
      go_wp2_with fail
      obtain ⟨C, hC⟩ : ∃ C : World → Prop, C = fun w' => Ext wC w' := ⟨_, rfl⟩
      have hC0 : ∀ w', C w' ↔ Ext wC w' := fun w' => by rw [hC]
      clear hC
      have HCC := hid hC0
      clear hC0
      have hCx : ∀ w w', C w → Ext w w' → C w' := fun w w' h1 h2 => (HCC.out w').2 (((HCC.out w).1 h1).ext h2)
      have hCA : C wC := (HCC.out _).2 (Ext.refl wC)
      refine wp_region_held_drew (S := C) (by kernel_rfl) (hCx _ _ hCA (Ext.refl _).drew) (fun hS0 => ?_)
      refine held_take 0 (v := ?tv135) rfl (by kernel_rfl) (by kernel_rfl) (by kernel_rfl) (fun _ _ _ h => h) (.inl ⟨rfl, ?ty135⟩) hS0 ?tr135
      case ty135 => (intro _ _; go_simp; try with_reducible rfl)
      case tr135 =>
      simp only [Act.put, List.setIfInBounds_toArray, List.set_cons_succ, List.set_cons_zero]
      refine held_take 1 (v := ?tv136) rfl (by kernel_rfl) (by kernel_rfl) (by kernel_rfl) (fun _ _ _ h => h) (.inl ⟨rfl, ?ty136⟩) hS0 ?tr136
      case ty136 => (intro _ _; go_simp; try with_reducible rfl)
      case tr136 =>
      simp only [Act.put, List.setIfInBounds_toArray, List.set_cons_succ, List.set_cons_zero]
      refine held_take 2 (v := ?tv137) rfl (by kernel_rfl) (by kernel_rfl) (by kernel_rfl) (fun _ _ _ h => h) (.inl ⟨rfl, ?ty137⟩) hS0 ?tr137
      case ty137 => (intro _ _; go_simp; try with_reducible rfl)
      case tr137 =>
      simp only [Act.put, List.setIfInBounds_toArray, List.set_cons_succ, List.set_cons_zero]
      refine held_take 3 (v := ?tv138) rfl (by kernel_rfl) (by kernel_rfl) (by kernel_rfl) (fun _ _ _ h => h) (.inl ⟨rfl, ?ty138⟩) hS0 ?tr138
      case ty138 => (intro _ _; go_simp; try with_reducible rfl)
      case tr138 =>
      simp only [Act.put, List.setIfInBounds_toArray, List.set_cons_succ, List.set_cons_zero]
      refine held_take 4 (v := undef) rfl (by kernel_rfl) (by kernel_rfl) (by kernel_rfl) (fun _ _ _ h => h) (.inr ⟨rfl, rfl⟩) hS0 ?_
      simp only [Act.put, List.setIfInBounds_toArray, List.set_cons_succ, List.set_cons_zero]
      refine held_take 5 (v := ?tv139) rfl (by kernel_rfl) (by kernel_rfl) (by kernel_rfl) (fun _ _ _ h => h) (.inl ⟨rfl, ?ty139⟩) hS0 ?tr139
      case ty139 => (intro _ _; go_simp; try with_reducible rfl)
      case tr139 =>
      simp only [Act.put, List.setIfInBounds_toArray, List.set_cons_succ, List.set_cons_zero]
      refine held_take 6 (v := ?tv140) rfl (by kernel_rfl) (by kernel_rfl) (by kernel_rfl) (fun _ _ _ h => h) (.inl ⟨rfl, ?ty140⟩) hS0 ?tr140
      case ty140 => (intro _ _; go_simp; try with_reducible rfl)
      case tr140 =>
      simp only [Act.put, List.setIfInBounds_toArray, List.set_cons_succ, List.set_cons_zero]
      refine held_take 7 (v := undef) rfl (by kernel_rfl) (by kernel_rfl) (by kernel_rfl) (fun _ _ _ h => h) (.inr ⟨rfl, rfl⟩) hS0 ?_
      simp only [Act.put, List.setIfInBounds_toArray, List.set_cons_succ, List.set_cons_zero]
      refine held_take 8 (v := undef) rfl (by kernel_rfl) (by kernel_rfl) (by kernel_rfl) (fun _ _ _ h => h) (.inr ⟨rfl, rfl⟩) hS0 ?_
      simp only [Act.put, List.setIfInBounds_toArray, List.set_cons_succ, List.set_cons_zero]
      refine held_take 9 (v := ?tv141) rfl (by kernel_rfl) (by kernel_rfl) (by kernel_rfl) (fun _ _ _ h => h) (.inl ⟨rfl, ?ty141⟩) hS0 ?tr141
      case ty141 => (intro _ _; go_simp; try with_reducible rfl)
      case tr141 =>
      simp only [Act.put, List.setIfInBounds_toArray, List.set_cons_succ, List.set_cons_zero]
      refine held_take 10 (v := ?tv142) rfl (by kernel_rfl) (by kernel_rfl) (by kernel_rfl) (fun _ _ _ h => h) (.inl ⟨rfl, ?ty142⟩) hS0 ?tr142
      case ty142 => (intro _ _; go_simp; try with_reducible rfl)
      case tr142 =>
      simp only [Act.put, List.setIfInBounds_toArray, List.set_cons_succ, List.set_cons_zero]
      refine held_take 11 (v := ?tv143) rfl (by kernel_rfl) (by kernel_rfl) (by kernel_rfl) (fun _ _ _ h => h) (.inl ⟨rfl, ?ty143⟩) hS0 ?tr143
      case ty143 => (intro _ _; go_simp; try with_reducible rfl)
      case tr143 =>
      simp only [Act.put, List.setIfInBounds_toArray, List.set_cons_succ, List.set_cons_zero]
      refine held_take 12 (v := ?tv144) rfl (by kernel_rfl) (by kernel_rfl) (by kernel_rfl) (fun _ _ _ h => h) (.inl ⟨rfl, ?ty144⟩) hS0 ?tr144
      case ty144 => (intro _ _; go_simp; try with_reducible rfl)
      case tr144 =>
      simp only [Act.put, List.setIfInBounds_toArray, List.set_cons_succ, List.set_cons_zero]
      refine wpAnyH_done (by kernel_rfl) ?_ _
      have ED := hid (EC.out.ext ((HCC.out _).1 hS0))
      clear hS0 hCx hCA HCC
      go_wp2
      go_ret3
      exact ⟨rfl, ED.out⟩
end Go.Proofs.YthfddfgncolnbaaDoor
