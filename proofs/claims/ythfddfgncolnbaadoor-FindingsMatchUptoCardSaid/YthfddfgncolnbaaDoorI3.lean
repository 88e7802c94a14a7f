/- audit.phrase, audit.between, both Explains; conditions: the numbers' bounds, the variables of the library. -/
import Derived.Test.YthfddfgncolnbaaDoorI2
import Derived.Test.YthfddfgncolnbaaDoorY0
import Derived.Test.YthfddfgncolnbaaDoorF2
import Derived.Deep.DeepCutAuto
import Derived.Deep.CutBlock
namespace Go.Proofs.YthfddfgncolnbaaDoor
open Go Go.RowKit

theorem phrase_c (st : Int) (w : World) : Calls Tryd.prog 10 #[.int .i64 st] w fun e w' => e = .returned (.string (strOf (phraseL st))) ∧ w = w' := by
  by_cases h1 : st = 1
  · subst h1
    go_enter Tryd.func10, Tryd.ntmps10
    go_wp2
    go_ret
    exact ⟨rfl, rfl⟩
  by_cases h2 : st = 2
  · subst h2
    go_enter Tryd.func10, Tryd.ntmps10
    go_wp2
    go_ret
    exact ⟨rfl, rfl⟩
  by_cases h3 : st = 3
  · subst h3
    go_enter Tryd.func10, Tryd.ntmps10
    go_wp2
    go_ret
    exact ⟨rfl, rfl⟩
  have hp := hid (show phraseL st = phr4 by unfold phraseL; rw [if_neg h1, if_neg h2, if_neg h3])
  have d1 : decide (st = 1) = false := decide_eq_false h1
  have d2 : decide (st = 2) = false := decide_eq_false h2
  have d3 : decide (st = 3) = false := decide_eq_false h3
  go_enter Tryd.func10, Tryd.ntmps10
  go_wp2
  go_ret
  exact ⟨by rw [hp.out]; rfl, rfl⟩

def fv (f : FindR) : Value := .agg #[.int .i64 f.st, .int .i64 f.en, .int .i64 f.at_, .int .i64 f.er]
def fvs (f : FindR) : List Value := [.int .i64 f.st, .int .i64 f.en, .int .i64 f.at_, .int .i64 f.er]
structure FindB (f : FindR) : Prop where
  a1 : -9223372036854775808 ≤ f.en
  b1 : f.en ≤ 9223372036854775807
  a2 : -9223372036854775808 ≤ f.at_
  b2 : f.at_ ≤ 9223372036854775807
  a3 : -9223372036854775808 ≤ f.er
  b3 : f.er ≤ 9223372036854775807


set_option maxRecDepth 100000 in
set_option maxHeartbeats 2000000 in
theorem explain_c (f : FindR) (w : World) (hb : FindB f) (hw : LibW w) :
    Calls Tryd.prog 5 #[fv f] w fun e w' => e = .returned (.tuple #[.string (strOf (explL f)), .int .i64 (explE f)]) ∧ Ext w w' := by
  obtain ⟨hE, hEE⟩ : ∃ x, explE f = x := ⟨_, rfl⟩
  obtain ⟨hL, hLL⟩ : ∃ x, explL f = x := ⟨_, rfl⟩
  have HE := hid hEE
  have HL := hid hLL
  rw [hEE, hLL]
  clear hEE hLL
  obtain ⟨st, en, a, er⟩ := f
  have HB := hid hb
  have HW := hid hw
  clear hb hw
  have hfv : fv ⟨st, en, a, er⟩ = .agg #[.int .i64 st, .int .i64 en, .int .i64 a, .int .i64 er] := rfl
  rw [hfv]
  go_enter Tryd.func5, Tryd.ntmps5
  go_upto_region 1 with (fail)
  generalize hwA : World.alloc w _ = wA
  have bA : Blk wA w.heap.size (fvs ⟨st, en, a, er⟩) 24 := by rw [← hwA]; exact Blk.mk_alloc rfl rfl
  have eA : Ext w wA := by rw [← hwA]; exact (Ext.refl w).alloc _
  have c0 := bA.cell' (i := 0) rfl
  have c1 := bA.cell' (i := 1) rfl
  have c2 := bA.cell' (i := 2) rfl
  have c3 := bA.cell' (i := 3) rfl
  have BA := hid bA
  have EA := hid eA
  clear hwA bA eA hfv
  by_cases g1 : st < 0
  · have d : decide (st < 0) = true := decide_eq_true g1
    have hx : explE ⟨st, en, a, er⟩ = 3 := by unfold explE; dsimp only; rw [if_pos (by omega)]
    have HX : Hid (hE = 3 ∧ hL = []) := hid ⟨by rw [← HE.out, hx], by rw [← HL.out]; unfold explL; rw [hx]; rfl⟩
    clear hx
    go_wp2
    go_ret2
    exact ⟨by rw [HX.out.1, HX.out.2]; rfl, EA.out⟩
  have dg1 : decide (st < 0) = false := decide_eq_false g1
  by_cases g2 : 4 < st
  · have d : decide (4 < st) = true := decide_eq_true g2
    have hx : explE ⟨st, en, a, er⟩ = 3 := by unfold explE; dsimp only; rw [if_pos (by omega)]
    have HX : Hid (hE = 3 ∧ hL = []) := hid ⟨by rw [← HE.out, hx], by rw [← HL.out]; unfold explL; rw [hx]; rfl⟩
    clear hx
    go_wp2
    go_ret2
    exact ⟨by rw [HX.out.1, HX.out.2]; rfl, EA.out⟩
  have dg2 : decide (4 < st) = false := decide_eq_false g2
  by_cases g3 : en < 0
  · have d : decide (en < 0) = true := decide_eq_true g3
    have hx : explE ⟨st, en, a, er⟩ = 4 := by unfold explE; dsimp only; rw [if_neg (by omega), if_pos (by omega)]
    have HX : Hid (hE = 4 ∧ hL = []) := hid ⟨by rw [← HE.out, hx], by rw [← HL.out]; unfold explL; rw [hx]; rfl⟩
    clear hx
    go_wp2
    go_ret2
    exact ⟨by rw [HX.out.1, HX.out.2]; rfl, EA.out⟩
  have dg3 : decide (en < 0) = false := decide_eq_false g3
  by_cases g4 : a < 0
  · have d : decide (a < 0) = true := decide_eq_true g4
    have hx : explE ⟨st, en, a, er⟩ = 4 := by unfold explE; dsimp only; rw [if_neg (by omega), if_pos (by omega)]
    have HX : Hid (hE = 4 ∧ hL = []) := hid ⟨by rw [← HE.out, hx], by rw [← HL.out]; unfold explL; rw [hx]; rfl⟩
    clear hx
    go_wp2
    go_ret2
    exact ⟨by rw [HX.out.1, HX.out.2]; rfl, EA.out⟩
  have dg4 : decide (a < 0) = false := decide_eq_false g4
  by_cases g5 : er < 0
  · have d : decide (er < 0) = true := decide_eq_true g5
    have hx : explE ⟨st, en, a, er⟩ = 4 := by unfold explE; dsimp only; rw [if_neg (by omega), if_pos (by omega)]
    have HX : Hid (hE = 4 ∧ hL = []) := hid ⟨by rw [← HE.out, hx], by rw [← HL.out]; unfold explL; rw [hx]; rfl⟩
    clear hx
    go_wp2
    go_ret2
    exact ⟨by rw [HX.out.1, HX.out.2]; rfl, EA.out⟩
  have dg5 : decide (er < 0) = false := decide_eq_false g5
  by_cases z1 : st = 0
  · by_cases z2 : ¬ er = 0
    · have d1 : decide (st = 0) = true := decide_eq_true z1
      have d1b : (st == 0) = true := by simp [z1]
      have d2 : decide (er = 0) = false := decide_eq_false z2
      have d2b : (er == 0) = false := by simp [z2]
      have hx : explE ⟨st, en, a, er⟩ = 2 := by unfold explE; dsimp only; rw [if_neg (by omega), if_neg (by omega), if_pos (by simp [z1, z2])]
      have HX : Hid (hE = 2 ∧ hL = []) := hid ⟨by rw [← HE.out, hx], by rw [← HL.out]; unfold explL; rw [hx]; rfl⟩
      clear hx
      go_wp2
      go_ret2
      exact ⟨by rw [HX.out.1, HX.out.2]; rfl, EA.out⟩
    have z2 := Decidable.not_not.1 z2
    have d1 : decide (st = 0) = true := decide_eq_true z1
    have d1b : (st == 0) = true := by simp [z1]
    have d2 : decide (er = 0) = true := decide_eq_true z2
    have d2b : (er == 0) = true := by simp [z2]
    have h0 : explE ⟨st, en, a, er⟩ = 0 := by unfold explE; dsimp only; rw [if_neg (by omega), if_neg (by omega), if_neg (by simp [z1, z2])]
    have HT : Hid (hL = explT ⟨st, en, a, er⟩ ∧ hE = 0) := hid ⟨by rw [← HL.out]; unfold explL; rw [if_pos h0], by rw [← HE.out, h0]⟩
    clear h0
    have Z1 := hid z1
    have Z2 := hid z2
    clear z1 z2
    go_wp2_with fail
    obtain ⟨C, hC⟩ : ∃ C : World → Prop, C = fun w' => Ext wA w' := ⟨_, rfl⟩
    have hC0 : ∀ w', C w' ↔ Ext wA w' := fun w' => by rw [hC]
    clear hC
    have HCC := hid hC0
    clear hC0
    have hCx : ∀ w w', C w → Ext w w' → C w' := fun w w' h1 h2 => (HCC.out w').2 (((HCC.out w).1 h1).ext h2)
    have hCA : C wA := (HCC.out _).2 (Ext.refl wA)
    have hc0 : ∀ w1, C w1 → w1.cell? ⟨w.heap.size, 0, none⟩ = some (.int .i64 st) := fun w1 h1 => (BA.out.ext ((HCC.out w1).1 h1)).cell' (i := 0) rfl
    have hc1 : ∀ w1, C w1 → w1.cell? ⟨w.heap.size, 1, none⟩ = some (.int .i64 en) := fun w1 h1 => (BA.out.ext ((HCC.out w1).1 h1)).cell' (i := 1) rfl
    have hc2 : ∀ w1, C w1 → w1.cell? ⟨w.heap.size, 2, none⟩ = some (.int .i64 a) := fun w1 h1 => (BA.out.ext ((HCC.out w1).1 h1)).cell' (i := 2) rfl
    have hc3 : ∀ w1, C w1 → w1.cell? ⟨w.heap.size, 3, none⟩ = some (.int .i64 er) := fun w1 h1 => (BA.out.ext ((HCC.out w1).1 h1)).cell' (i := 3) rfl
    have hLW : ∀ w1, C w1 → LibW w1 := fun w1 h1 => HW.out.ext (EA.out.ext ((HCC.out w1).1 h1))
    clear c0 c1 c2 c3
    refine wp_region_held_drew (S := C) (by kernel_rfl) (hCx _ _ hCA (Ext.refl _).drew) (fun hS0 => ?_)
    refine held_take 0 (v := ?tv1) rfl (by kernel_rfl) (by kernel_rfl) (by kernel_rfl) (fun _ _ _ h => h) (.inl ⟨rfl, ?ty1⟩) hS0 ?tr1
    case ty1 => (intro _ _; go_simp; try with_reducible rfl)
    case tr1 =>
    simp only [Act.put, List.setIfInBounds_toArray, List.set_cons_succ, List.set_cons_zero]
    refine held_take 1 (v := ?tv2) rfl (by kernel_rfl) (by kernel_rfl) (by kernel_rfl) (fun _ _ _ h => h) (.inl ⟨rfl, ?ty2⟩) hS0 ?tr2
    case ty2 => (intro wq hwq; have hcq := (hc1) wq hwq; go_simp; try with_reducible rfl)
    case tr2 =>
    simp only [Act.put, List.setIfInBounds_toArray, List.set_cons_succ, List.set_cons_zero]
    refine held_take 3 (v := ?tv3) rfl (by kernel_rfl) (by kernel_rfl) (by kernel_rfl) (fun _ _ _ h => h) (.inl ⟨rfl, ?ty3⟩) hS0 ?tr3
    case ty3 => (intro _ _; go_simp; try with_reducible rfl)
    case tr3 =>
    simp only [Act.put, List.setIfInBounds_toArray, List.set_cons_succ, List.set_cons_zero]
    refine held_take 4 (v := ?tv4) rfl (by kernel_rfl) (by kernel_rfl) (by kernel_rfl) (fun _ _ _ h => h) (.inl ⟨rfl, ?ty4⟩) hS0 ?tr4
    case ty4 => (intro wq hwq; have hcq := (hc2) wq hwq; go_simp; try with_reducible rfl)
    case tr4 =>
    simp only [Act.put, List.setIfInBounds_toArray, List.set_cons_succ, List.set_cons_zero]
    refine held_one (i := 2) (by kernel_rfl) rfl ?_
    intro Q' hQ
    go_wp2_with fail
    refine (itoa_c en _ HB.out.a1 HB.out.b1 (hLW _ hS0).pw).mono ?_
    rintro e w1 ⟨rfl, eq9⟩
    have hS9 := hCx _ _ hS0 eq9
    go_wp2_with fail
    refine hQ _ _ hS9 ?_
    clear hQ Q' hS0 eq9
    have hS0 := hS9
    clear hS9
    try dsimp only
    try simp only [Act.put, List.setIfInBounds_toArray, List.set_cons_succ, List.set_cons_zero]
    refine held_one (i := 5) (by kernel_rfl) rfl ?_
    intro Q' hQ
    go_wp2_with fail
    refine (itoa_c a _ HB.out.a2 HB.out.b2 (hLW _ hS0).pw).mono ?_
    rintro e w2 ⟨rfl, eq9⟩
    have hS9 := hCx _ _ hS0 eq9
    go_wp2_with fail
    refine hQ _ _ hS9 ?_
    clear hQ Q' hS0 eq9
    have hS0 := hS9
    clear hS9
    try dsimp only
    try simp only [Act.put, List.setIfInBounds_toArray, List.set_cons_succ, List.set_cons_zero]
    refine held_take 6 (v := ?tv5) rfl (by kernel_rfl) (by kernel_rfl) (by kernel_rfl) (fun _ _ _ h => h) (.inl ⟨rfl, ?ty5⟩) hS0 ?tr5
    case ty5 => (intro _ _; go_simp; try with_reducible rfl)
    case tr5 =>
    simp only [Act.put, List.setIfInBounds_toArray, List.set_cons_succ, List.set_cons_zero]
    refine held_take 7 (v := ?tv6) rfl (by kernel_rfl) (by kernel_rfl) (by kernel_rfl) (fun _ _ _ h => h) (.inl ⟨rfl, ?ty6⟩) hS0 ?tr6
    case ty6 => (intro _ _; go_simp; try with_reducible rfl)
    case tr6 =>
    simp only [Act.put, List.setIfInBounds_toArray, List.set_cons_succ, List.set_cons_zero]
    refine wpAnyH_done (by kernel_rfl) ?_ _
    have EB := hid (EA.out.ext ((HCC.out _).1 hS0))
    have hz0 := hc0 _ hS0
    clear hS0 hCx hCA HCC hc0 hc1 hc2 hc3 hLW
    have hln : (Lib.itoa en).length ≤ 20 := itoa_len HB.out.a1 HB.out.b1
    have hla : (Lib.itoa a).length ≤ 20 := itoa_len HB.out.a2 HB.out.b2
    go_wp2_with (first | (refine wpl_run rfl (exec_catR (u := txtGood) (v := Lib.itoa en) (r := txtGood ++ Lib.itoa en) (by simp only [List.append_assoc]) rfl rfl rfl (by simp [txtEntry, txtAt, txtColon, txtMid, txtClose, txtGood, txtEntries, txtOctets]; omega) _) ?_) | (refine wpl_run rfl (exec_catR (u := txtGood ++ Lib.itoa en) (v := txtEntries) (r := txtGood ++ (Lib.itoa en ++ txtEntries)) (by simp only [List.append_assoc]) rfl rfl rfl (by simp [txtEntry, txtAt, txtColon, txtMid, txtClose, txtGood, txtEntries, txtOctets]; omega) _) ?_) | (refine wpl_run rfl (exec_catR (u := txtGood ++ (Lib.itoa en ++ txtEntries)) (v := Lib.itoa a) (r := txtGood ++ (Lib.itoa en ++ (txtEntries ++ Lib.itoa a))) (by simp only [List.append_assoc]) rfl rfl rfl (by simp [txtEntry, txtAt, txtColon, txtMid, txtClose, txtGood, txtEntries, txtOctets]; omega) _) ?_) | (refine wpl_run rfl (exec_catR (u := txtGood ++ (Lib.itoa en ++ (txtEntries ++ Lib.itoa a))) (v := txtOctets) (r := txtGood ++ (Lib.itoa en ++ (txtEntries ++ (Lib.itoa a ++ txtOctets)))) (by simp only [List.append_assoc]) rfl rfl rfl (by simp [txtEntry, txtAt, txtColon, txtMid, txtClose, txtGood, txtEntries, txtOctets]; omega) _) ?_))
    go_ret2
    exact ⟨by rw [HT.out.1, HT.out.2]; unfold explT; rw [if_pos Z1.out]; rfl, EB.out⟩
  · by_cases z2 : er = 0
    · have d1 : decide (st = 0) = false := decide_eq_false z1
      have d1b : (st == 0) = false := by simp [z1]
      have d2 : decide (er = 0) = true := decide_eq_true z2
      have d2b : (er == 0) = true := by simp [z2]
      have hx : explE ⟨st, en, a, er⟩ = 2 := by unfold explE; dsimp only; rw [if_neg (by omega), if_neg (by omega), if_pos (by simp [z1, z2])]
      have HX : Hid (hE = 2 ∧ hL = []) := hid ⟨by rw [← HE.out, hx], by rw [← HL.out]; unfold explL; rw [hx]; rfl⟩
      clear hx
      go_wp2
      go_ret2
      exact ⟨by rw [HX.out.1, HX.out.2]; rfl, EA.out⟩
    have d1 : decide (st = 0) = false := decide_eq_false z1
    have d1b : (st == 0) = false := by simp [z1]
    have d2 : decide (er = 0) = false := decide_eq_false z2
    have d2b : (er == 0) = false := by simp [z2]
    have h0 : explE ⟨st, en, a, er⟩ = 0 := by unfold explE; dsimp only; rw [if_neg (by omega), if_neg (by omega), if_neg (by simp [z1, z2])]
    have HT : Hid (hL = explT ⟨st, en, a, er⟩ ∧ hE = 0) := hid ⟨by rw [← HL.out]; unfold explL; rw [if_pos h0], by rw [← HE.out, h0]⟩
    clear h0
    have Z1 := hid z1
    clear z1 z2
    have hln : (Lib.itoa en).length ≤ 20 := itoa_len HB.out.a1 HB.out.b1
    have hla : (Lib.itoa a).length ≤ 20 := itoa_len HB.out.a2 HB.out.b2
    have hle : (Lib.itoa er).length ≤ 20 := itoa_len HB.out.a3 HB.out.b3
    have hph := phrase_len st
    go_wp2_with fail
    obtain ⟨C, hC⟩ : ∃ C : World → Prop, C = fun w' => Ext wA w' := ⟨_, rfl⟩
    have hC0 : ∀ w', C w' ↔ Ext wA w' := fun w' => by rw [hC]
    clear hC
    have HCC := hid hC0
    clear hC0
    have hCx : ∀ w w', C w → Ext w w' → C w' := fun w w' h1 h2 => (HCC.out w').2 (((HCC.out w).1 h1).ext h2)
    have hCA : C wA := (HCC.out _).2 (Ext.refl wA)
    have hc0 : ∀ w1, C w1 → w1.cell? ⟨w.heap.size, 0, none⟩ = some (.int .i64 st) := fun w1 h1 => (BA.out.ext ((HCC.out w1).1 h1)).cell' (i := 0) rfl
    have hc1 : ∀ w1, C w1 → w1.cell? ⟨w.heap.size, 1, none⟩ = some (.int .i64 en) := fun w1 h1 => (BA.out.ext ((HCC.out w1).1 h1)).cell' (i := 1) rfl
    have hc2 : ∀ w1, C w1 → w1.cell? ⟨w.heap.size, 2, none⟩ = some (.int .i64 a) := fun w1 h1 => (BA.out.ext ((HCC.out w1).1 h1)).cell' (i := 2) rfl
    have hc3 : ∀ w1, C w1 → w1.cell? ⟨w.heap.size, 3, none⟩ = some (.int .i64 er) := fun w1 h1 => (BA.out.ext ((HCC.out w1).1 h1)).cell' (i := 3) rfl
    have hLW : ∀ w1, C w1 → LibW w1 := fun w1 h1 => HW.out.ext (EA.out.ext ((HCC.out w1).1 h1))
    clear c0 c1 c2 c3
    refine wp_region_held_drew (S := C) (by kernel_rfl) (hCx _ _ hCA (Ext.refl _).drew) (fun hS0 => ?_)
    refine held_take 0 (v := ?tv7) rfl (by kernel_rfl) (by kernel_rfl) (by kernel_rfl) (fun _ _ _ h => h) (.inl ⟨rfl, ?ty7⟩) hS0 ?tr7
    case ty7 => (intro _ _; go_simp; try with_reducible rfl)
    case tr7 =>
    simp only [Act.put, List.setIfInBounds_toArray, List.set_cons_succ, List.set_cons_zero]
    refine held_take 1 (v := ?tv8) rfl (by kernel_rfl) (by kernel_rfl) (by kernel_rfl) (fun _ _ _ h => h) (.inl ⟨rfl, ?ty8⟩) hS0 ?tr8
    case ty8 => (intro wq hwq; have hcq := (hc1) wq hwq; go_simp; try with_reducible rfl)
    case tr8 =>
    simp only [Act.put, List.setIfInBounds_toArray, List.set_cons_succ, List.set_cons_zero]
    refine held_take 3 (v := ?tv9) rfl (by kernel_rfl) (by kernel_rfl) (by kernel_rfl) (fun _ _ _ h => h) (.inl ⟨rfl, ?ty9⟩) hS0 ?tr9
    case ty9 => (intro _ _; go_simp; try with_reducible rfl)
    case tr9 =>
    simp only [Act.put, List.setIfInBounds_toArray, List.set_cons_succ, List.set_cons_zero]
    refine held_take 4 (v := ?tv10) rfl (by kernel_rfl) (by kernel_rfl) (by kernel_rfl) (fun _ _ _ h => h) (.inl ⟨rfl, ?ty10⟩) hS0 ?tr10
    case ty10 => (intro wq hwq; have hcq := (hc2) wq hwq; go_simp; try with_reducible rfl)
    case tr10 =>
    simp only [Act.put, List.setIfInBounds_toArray, List.set_cons_succ, List.set_cons_zero]
    refine held_one (i := 2) (by kernel_rfl) rfl ?_
    intro Q' hQ
    go_wp2_with fail
    refine (itoa_c en _ HB.out.a1 HB.out.b1 (hLW _ hS0).pw).mono ?_
    rintro e w1 ⟨rfl, eq9⟩
    have hS9 := hCx _ _ hS0 eq9
    go_wp2_with fail
    refine hQ _ _ hS9 ?_
    clear hQ Q' hS0 eq9
    have hS0 := hS9
    clear hS9
    try dsimp only
    try simp only [Act.put, List.setIfInBounds_toArray, List.set_cons_succ, List.set_cons_zero]
    refine held_one (i := 5) (by kernel_rfl) rfl ?_
    intro Q' hQ
    go_wp2_with fail
    refine (itoa_c a _ HB.out.a2 HB.out.b2 (hLW _ hS0).pw).mono ?_
    rintro e w2 ⟨rfl, eq9⟩
    have hS9 := hCx _ _ hS0 eq9
    go_wp2_with fail
    refine hQ _ _ hS9 ?_
    clear hQ Q' hS0 eq9
    have hS0 := hS9
    clear hS9
    try dsimp only
    try simp only [Act.put, List.setIfInBounds_toArray, List.set_cons_succ, List.set_cons_zero]
    refine held_take 6 (v := ?tv11) rfl (by kernel_rfl) (by kernel_rfl) (by kernel_rfl) (fun _ _ _ h => h) (.inl ⟨rfl, ?ty11⟩) hS0 ?tr11
    case ty11 => (intro _ _; go_simp; try with_reducible rfl)
    case tr11 =>
    simp only [Act.put, List.setIfInBounds_toArray, List.set_cons_succ, List.set_cons_zero]
    refine held_take 7 (v := ?tv12) rfl (by kernel_rfl) (by kernel_rfl) (by kernel_rfl) (fun _ _ _ h => h) (.inl ⟨rfl, ?ty12⟩) hS0 ?tr12
    case ty12 => (intro _ _; go_simp; try with_reducible rfl)
    case tr12 =>
    simp only [Act.put, List.setIfInBounds_toArray, List.set_cons_succ, List.set_cons_zero]
    refine wpAnyH_done (by kernel_rfl) ?_ _
    have EB := hid (EA.out.ext ((HCC.out _).1 hS0))
    have hz0 := hc0 _ hS0
    have eB2 := (HCC.out _).1 hS0
    have BB := hid (BA.out.ext eB2)
    clear hS0 hCx hCA HCC hc0 hc1 hc2 hc3 hLW eB2 C
    generalize hwB : w2 = wB at *
    go_wp2_with fail
    obtain ⟨C, hC⟩ : ∃ C : World → Prop, C = fun w' => Ext wB w' := ⟨_, rfl⟩
    have hC0 : ∀ w', C w' ↔ Ext wB w' := fun w' => by rw [hC]
    clear hC
    have HCC := hid hC0
    clear hC0
    have hCx : ∀ w w', C w → Ext w w' → C w' := fun w w' h1 h2 => (HCC.out w').2 (((HCC.out w).1 h1).ext h2)
    have hCA : C wB := (HCC.out _).2 (Ext.refl wB)
    have hc0 : ∀ w1, C w1 → w1.cell? ⟨w.heap.size, 0, none⟩ = some (.int .i64 st) := fun w1 h1 => (BB.out.ext ((HCC.out w1).1 h1)).cell' (i := 0) rfl
    have hc3 : ∀ w1, C w1 → w1.cell? ⟨w.heap.size, 3, none⟩ = some (.int .i64 er) := fun w1 h1 => (BB.out.ext ((HCC.out w1).1 h1)).cell' (i := 3) rfl
    have hLW : ∀ w1, C w1 → LibW w1 := fun w1 h1 => HW.out.ext (EB.out.ext ((HCC.out w1).1 h1))
    clear hz0
    refine wp_region_held_drew (S := C) (by kernel_rfl) (hCx _ _ hCA (Ext.refl _).drew) (fun hS0 => ?_)
    refine held_take 0 (v := ?tv13) rfl (by kernel_rfl) (by kernel_rfl) (by kernel_rfl) (fun _ _ _ h => h) (.inl ⟨rfl, ?ty13⟩) hS0 ?tr13
    case ty13 => (intro _ _; go_simp; try with_reducible rfl)
    case tr13 =>
    simp only [Act.put, List.setIfInBounds_toArray, List.set_cons_succ, List.set_cons_zero]
    refine held_take 1 (v := _) rfl (by kernel_rfl) (by kernel_rfl) (by kernel_rfl) (fun _ _ _ h => h) (yieldsI_run rfl (fun w1 _ => exec_catR (u := txtEntry) (v := Lib.itoa en) (r := txtEntry ++ Lib.itoa en) (by simp only [List.append_assoc]) rfl rfl rfl (by simp [txtEntry, txtAt, txtColon, txtMid, txtClose, txtGood, txtEntries, txtOctets]; omega) w1)) hS0 ?_
    simp only [Act.put, List.setIfInBounds_toArray, List.set_cons_succ, List.set_cons_zero]
    refine held_take 2 (v := _) rfl (by kernel_rfl) (by kernel_rfl) (by kernel_rfl) (fun _ _ _ h => h) (yieldsI_run rfl (fun w1 _ => exec_catR (u := txtEntry ++ Lib.itoa en) (v := txtAt) (r := txtEntry ++ (Lib.itoa en ++ txtAt)) (by simp only [List.append_assoc]) rfl rfl rfl (by simp [txtEntry, txtAt, txtColon, txtMid, txtClose, txtGood, txtEntries, txtOctets]; omega) w1)) hS0 ?_
    simp only [Act.put, List.setIfInBounds_toArray, List.set_cons_succ, List.set_cons_zero]
    refine held_take 3 (v := ?tv14) rfl (by kernel_rfl) (by kernel_rfl) (by kernel_rfl) (fun _ _ _ h => h) (.inl ⟨rfl, ?ty14⟩) hS0 ?tr14
    case ty14 => (intro _ _; go_simp; try with_reducible rfl)
    case tr14 =>
    simp only [Act.put, List.setIfInBounds_toArray, List.set_cons_succ, List.set_cons_zero]
    refine held_take 4 (v := _) rfl (by kernel_rfl) (by kernel_rfl) (by kernel_rfl) (fun _ _ _ h => h) (yieldsI_run rfl (fun w1 _ => exec_catR (u := txtEntry ++ (Lib.itoa en ++ txtAt)) (v := Lib.itoa a) (r := txtEntry ++ (Lib.itoa en ++ (txtAt ++ Lib.itoa a))) (by simp only [List.append_assoc]) rfl rfl rfl (by simp [txtEntry, txtAt, txtColon, txtMid, txtClose, txtGood, txtEntries, txtOctets]; omega) w1)) hS0 ?_
    simp only [Act.put, List.setIfInBounds_toArray, List.set_cons_succ, List.set_cons_zero]
    refine held_take 5 (v := _) rfl (by kernel_rfl) (by kernel_rfl) (by kernel_rfl) (fun _ _ _ h => h) (yieldsI_run rfl (fun w1 _ => exec_catR (u := txtEntry ++ (Lib.itoa en ++ (txtAt ++ Lib.itoa a))) (v := txtColon) (r := txtEntry ++ (Lib.itoa en ++ (txtAt ++ (Lib.itoa a ++ txtColon)))) (by simp only [List.append_assoc]) rfl rfl rfl (by simp [txtEntry, txtAt, txtColon, txtMid, txtClose, txtGood, txtEntries, txtOctets]; omega) w1)) hS0 ?_
    simp only [Act.put, List.setIfInBounds_toArray, List.set_cons_succ, List.set_cons_zero]
    refine held_take 6 (v := ?tv15) rfl (by kernel_rfl) (by kernel_rfl) (by kernel_rfl) (fun _ _ _ h => h) (.inl ⟨rfl, ?ty15⟩) hS0 ?tr15
    case ty15 => (intro _ _; go_simp; try with_reducible rfl)
    case tr15 =>
    simp only [Act.put, List.setIfInBounds_toArray, List.set_cons_succ, List.set_cons_zero]
    refine held_take 7 (v := ?tv16) rfl (by kernel_rfl) (by kernel_rfl) (by kernel_rfl) (fun _ _ _ h => h) (.inl ⟨rfl, ?ty16⟩) hS0 ?tr16
    case ty16 => (intro wq hwq; have hcq := (hc0) wq hwq; go_simp; try with_reducible rfl)
    case tr16 =>
    simp only [Act.put, List.setIfInBounds_toArray, List.set_cons_succ, List.set_cons_zero]
    refine held_take 11 (v := ?tv17) rfl (by kernel_rfl) (by kernel_rfl) (by kernel_rfl) (fun _ _ _ h => h) (.inl ⟨rfl, ?ty17⟩) hS0 ?tr17
    case ty17 => (intro _ _; go_simp; try with_reducible rfl)
    case tr17 =>
    simp only [Act.put, List.setIfInBounds_toArray, List.set_cons_succ, List.set_cons_zero]
    refine held_take 12 (v := ?tv18) rfl (by kernel_rfl) (by kernel_rfl) (by kernel_rfl) (fun _ _ _ h => h) (.inl ⟨rfl, ?ty18⟩) hS0 ?tr18
    case ty18 => (intro wq hwq; have hcq := (hc3) wq hwq; go_simp; try with_reducible rfl)
    case tr18 =>
    simp only [Act.put, List.setIfInBounds_toArray, List.set_cons_succ, List.set_cons_zero]
    refine held_one (i := 8) (by kernel_rfl) rfl ?_
    intro Q' hQ
    go_wp2_with fail
    refine (phrase_c st _).mono ?_
    rintro e w8 ⟨rfl, rfl⟩
    go_wp2_with fail
    refine hQ _ _ hS0 ?_
    clear hQ Q'
    try dsimp only
    try simp only [Act.put, List.setIfInBounds_toArray, List.set_cons_succ, List.set_cons_zero]
    refine held_take 9 (v := _) rfl (by kernel_rfl) (by kernel_rfl) (by kernel_rfl) (fun _ _ _ h => h) (yieldsI_run rfl (fun w1 _ => exec_catR (u := txtEntry ++ (Lib.itoa en ++ (txtAt ++ (Lib.itoa a ++ txtColon)))) (v := phraseL st) (r := txtEntry ++ (Lib.itoa en ++ (txtAt ++ (Lib.itoa a ++ (txtColon ++ phraseL st))))) (by simp only [List.append_assoc]) rfl rfl rfl (by simp [txtEntry, txtAt, txtColon, txtMid, txtClose, txtGood, txtEntries, txtOctets]; omega) w1)) hS0 ?_
    simp only [Act.put, List.setIfInBounds_toArray, List.set_cons_succ, List.set_cons_zero]
    refine held_take 10 (v := _) rfl (by kernel_rfl) (by kernel_rfl) (by kernel_rfl) (fun _ _ _ h => h) (yieldsI_run rfl (fun w1 _ => exec_catR (u := txtEntry ++ (Lib.itoa en ++ (txtAt ++ (Lib.itoa a ++ (txtColon ++ phraseL st))))) (v := txtMid) (r := txtEntry ++ (Lib.itoa en ++ (txtAt ++ (Lib.itoa a ++ (txtColon ++ (phraseL st ++ txtMid)))))) (by simp only [List.append_assoc]) rfl rfl rfl (by simp [txtEntry, txtAt, txtColon, txtMid, txtClose, txtGood, txtEntries, txtOctets]; omega) w1)) hS0 ?_
    simp only [Act.put, List.setIfInBounds_toArray, List.set_cons_succ, List.set_cons_zero]
    refine held_one (i := 13) (by kernel_rfl) rfl ?_
    intro Q' hQ
    go_wp2_with fail
    refine (itoa_c er _ HB.out.a3 HB.out.b3 (hLW _ hS0).pw).mono ?_
    rintro e w3 ⟨rfl, eq9⟩
    have hS9 := hCx _ _ hS0 eq9
    go_wp2_with fail
    refine hQ _ _ hS9 ?_
    clear hQ Q' hS0 eq9
    have hS0 := hS9
    clear hS9
    try dsimp only
    try simp only [Act.put, List.setIfInBounds_toArray, List.set_cons_succ, List.set_cons_zero]
    refine held_take 14 (v := _) rfl (by kernel_rfl) (by kernel_rfl) (by kernel_rfl) (fun _ _ _ h => h) (yieldsI_run rfl (fun w1 _ => exec_catR (u := txtEntry ++ (Lib.itoa en ++ (txtAt ++ (Lib.itoa a ++ (txtColon ++ (phraseL st ++ txtMid)))))) (v := Lib.itoa er) (r := txtEntry ++ (Lib.itoa en ++ (txtAt ++ (Lib.itoa a ++ (txtColon ++ (phraseL st ++ (txtMid ++ Lib.itoa er))))))) (by simp only [List.append_assoc]) rfl rfl rfl (by simp [txtEntry, txtAt, txtColon, txtMid, txtClose, txtGood, txtEntries, txtOctets]; omega) w1)) hS0 ?_
    simp only [Act.put, List.setIfInBounds_toArray, List.set_cons_succ, List.set_cons_zero]
    refine held_take 15 (v := _) rfl (by kernel_rfl) (by kernel_rfl) (by kernel_rfl) (fun _ _ _ h => h) (yieldsI_run rfl (fun w1 _ => exec_catR (u := txtEntry ++ (Lib.itoa en ++ (txtAt ++ (Lib.itoa a ++ (txtColon ++ (phraseL st ++ (txtMid ++ Lib.itoa er))))))) (v := txtClose) (r := txtEntry ++ (Lib.itoa en ++ (txtAt ++ (Lib.itoa a ++ (txtColon ++ (phraseL st ++ (txtMid ++ (Lib.itoa er ++ txtClose)))))))) (by simp only [List.append_assoc]) rfl rfl rfl (by simp [txtEntry, txtAt, txtColon, txtMid, txtClose, txtGood, txtEntries, txtOctets]; omega) w1)) hS0 ?_
    simp only [Act.put, List.setIfInBounds_toArray, List.set_cons_succ, List.set_cons_zero]
    refine held_take 16 (v := ?tv19) rfl (by kernel_rfl) (by kernel_rfl) (by kernel_rfl) (fun _ _ _ h => h) (.inl ⟨rfl, ?ty19⟩) hS0 ?tr19
    case ty19 => (intro _ _; go_simp; try with_reducible rfl)
    case tr19 =>
    simp only [Act.put, List.setIfInBounds_toArray, List.set_cons_succ, List.set_cons_zero]
    refine held_take 17 (v := ?tv20) rfl (by kernel_rfl) (by kernel_rfl) (by kernel_rfl) (fun _ _ _ h => h) (.inl ⟨rfl, ?ty20⟩) hS0 ?tr20
    case ty20 => (intro _ _; go_simp; try with_reducible rfl)
    case tr20 =>
    simp only [Act.put, List.setIfInBounds_toArray, List.set_cons_succ, List.set_cons_zero]
    refine wpAnyH_done (by kernel_rfl) ?_ _
    have EC := hid (EB.out.ext ((HCC.out _).1 hS0))
    clear hS0 hCx hCA HCC hc0 hc3 hLW
    go_wp2
    go_ret2
    exact ⟨by rw [HT.out.1, HT.out.2]; unfold explT; rw [if_neg Z1.out]; rfl, EC.out⟩

set_option maxRecDepth 100000 in
set_option maxHeartbeats 2000000 in
theorem rexplain_c (f : FindR) (w : World) (hb : FindB f) (hw : LibW w) :
    Calls Tryd.prog 6 #[fv f] w fun e w' => e = .returned (.tuple #[.string (strOf (explL f)), .int .i64 (explE f)]) ∧ Ext w w' := by
  obtain ⟨hE, hEE⟩ : ∃ x, explE f = x := ⟨_, rfl⟩
  obtain ⟨hL, hLL⟩ : ∃ x, explL f = x := ⟨_, rfl⟩
  have HE := hid hEE
  have HL := hid hLL
  rw [hEE, hLL]
  clear hEE hLL
  obtain ⟨st, en, a, er⟩ := f
  have HB := hid hb
  have HW := hid hw
  clear hb hw
  have hfv : fv ⟨st, en, a, er⟩ = .agg #[.int .i64 st, .int .i64 en, .int .i64 a, .int .i64 er] := rfl
  rw [hfv]
  go_enter Tryd.func6, Tryd.ntmps6
  go_upto_region 1 with (fail)
  generalize hwA : World.alloc w _ = wA
  have bA : Blk wA w.heap.size (fvs ⟨st, en, a, er⟩) 24 := by rw [← hwA]; exact Blk.mk_alloc rfl rfl
  have eA : Ext w wA := by rw [← hwA]; exact (Ext.refl w).alloc _
  have c0 := bA.cell' (i := 0) rfl
  have c1 := bA.cell' (i := 1) rfl
  have c2 := bA.cell' (i := 2) rfl
  have c3 := bA.cell' (i := 3) rfl
  have BA := hid bA
  have EA := hid eA
  clear hwA bA eA hfv
  by_cases g1 : st < 0
  · have d : decide (st < 0) = true := decide_eq_true g1
    have hx : explE ⟨st, en, a, er⟩ = 3 := by unfold explE; dsimp only; rw [if_pos (by omega)]
    have HX : Hid (hE = 3 ∧ hL = []) := hid ⟨by rw [← HE.out, hx], by rw [← HL.out]; unfold explL; rw [hx]; rfl⟩
    clear hx
    go_wp2
    go_ret2
    exact ⟨by rw [HX.out.1, HX.out.2]; rfl, EA.out⟩
  have dg1 : decide (st < 0) = false := decide_eq_false g1
  by_cases g2 : 4 < st
  · have d : decide (4 < st) = true := decide_eq_true g2
    have hx : explE ⟨st, en, a, er⟩ = 3 := by unfold explE; dsimp only; rw [if_pos (by omega)]
    have HX : Hid (hE = 3 ∧ hL = []) := hid ⟨by rw [← HE.out, hx], by rw [← HL.out]; unfold explL; rw [hx]; rfl⟩
    clear hx
    go_wp2
    go_ret2
    exact ⟨by rw [HX.out.1, HX.out.2]; rfl, EA.out⟩
  have dg2 : decide (4 < st) = false := decide_eq_false g2
  by_cases g3 : en < 0
  · have d : decide (en < 0) = true := decide_eq_true g3
    have hx : explE ⟨st, en, a, er⟩ = 4 := by unfold explE; dsimp only; rw [if_neg (by omega), if_pos (by omega)]
    have HX : Hid (hE = 4 ∧ hL = []) := hid ⟨by rw [← HE.out, hx], by rw [← HL.out]; unfold explL; rw [hx]; rfl⟩
    clear hx
    go_wp2
    go_ret2
    exact ⟨by rw [HX.out.1, HX.out.2]; rfl, EA.out⟩
  have dg3 : decide (en < 0) = false := decide_eq_false g3
  by_cases g4 : a < 0
  · have d : decide (a < 0) = true := decide_eq_true g4
    have hx : explE ⟨st, en, a, er⟩ = 4 := by unfold explE; dsimp only; rw [if_neg (by omega), if_pos (by omega)]
    have HX : Hid (hE = 4 ∧ hL = []) := hid ⟨by rw [← HE.out, hx], by rw [← HL.out]; unfold explL; rw [hx]; rfl⟩
    clear hx
    go_wp2
    go_ret2
    exact ⟨by rw [HX.out.1, HX.out.2]; rfl, EA.out⟩
  have dg4 : decide (a < 0) = false := decide_eq_false g4
  by_cases g5 : er < 0
  · have d : decide (er < 0) = true := decide_eq_true g5
    have hx : explE ⟨st, en, a, er⟩ = 4 := by unfold explE; dsimp only; rw [if_neg (by omega), if_pos (by omega)]
    have HX : Hid (hE = 4 ∧ hL = []) := hid ⟨by rw [← HE.out, hx], by rw [← HL.out]; unfold explL; rw [hx]; rfl⟩
    clear hx
    go_wp2
    go_ret2
    exact ⟨by rw [HX.out.1, HX.out.2]; rfl, EA.out⟩
  have dg5 : decide (er < 0) = false := decide_eq_false g5
  by_cases z1 : st = 0
  · by_cases z2 : ¬ er = 0
    · have d1 : decide (st = 0) = true := decide_eq_true z1
      have d1b : (st == 0) = true := by simp [z1]
      have d2 : decide (er = 0) = false := decide_eq_false z2
      have d2b : (er == 0) = false := by simp [z2]
      have hx : explE ⟨st, en, a, er⟩ = 2 := by unfold explE; dsimp only; rw [if_neg (by omega), if_neg (by omega), if_pos (by simp [z1, z2])]
      have HX : Hid (hE = 2 ∧ hL = []) := hid ⟨by rw [← HE.out, hx], by rw [← HL.out]; unfold explL; rw [hx]; rfl⟩
      clear hx
      go_wp2
      go_ret2
      exact ⟨by rw [HX.out.1, HX.out.2]; rfl, EA.out⟩
    have z2 := Decidable.not_not.1 z2
    have d1 : decide (st = 0) = true := decide_eq_true z1
    have d1b : (st == 0) = true := by simp [z1]
    have d2 : decide (er = 0) = true := decide_eq_true z2
    have d2b : (er == 0) = true := by simp [z2]
    have h0 : explE ⟨st, en, a, er⟩ = 0 := by unfold explE; dsimp only; rw [if_neg (by omega), if_neg (by omega), if_neg (by simp [z1, z2])]
    have HT : Hid (hL = explT ⟨st, en, a, er⟩ ∧ hE = 0) := hid ⟨by rw [← HL.out]; unfold explL; rw [if_pos h0], by rw [← HE.out, h0]⟩
    clear h0
    have Z1 := hid z1
    have Z2 := hid z2
    clear z1 z2
    go_wp2_with fail
    obtain ⟨C, hC⟩ : ∃ C : World → Prop, C = fun w' => Ext wA w' := ⟨_, rfl⟩
    have hC0 : ∀ w', C w' ↔ Ext wA w' := fun w' => by rw [hC]
    clear hC
    have HCC := hid hC0
    clear hC0
    have hCx : ∀ w w', C w → Ext w w' → C w' := fun w w' h1 h2 => (HCC.out w').2 (((HCC.out w).1 h1).ext h2)
    have hCA : C wA := (HCC.out _).2 (Ext.refl wA)
    have hc0 : ∀ w1, C w1 → w1.cell? ⟨w.heap.size, 0, none⟩ = some (.int .i64 st) := fun w1 h1 => (BA.out.ext ((HCC.out w1).1 h1)).cell' (i := 0) rfl
    have hc1 : ∀ w1, C w1 → w1.cell? ⟨w.heap.size, 1, none⟩ = some (.int .i64 en) := fun w1 h1 => (BA.out.ext ((HCC.out w1).1 h1)).cell' (i := 1) rfl
    have hc2 : ∀ w1, C w1 → w1.cell? ⟨w.heap.size, 2, none⟩ = some (.int .i64 a) := fun w1 h1 => (BA.out.ext ((HCC.out w1).1 h1)).cell' (i := 2) rfl
    have hc3 : ∀ w1, C w1 → w1.cell? ⟨w.heap.size, 3, none⟩ = some (.int .i64 er) := fun w1 h1 => (BA.out.ext ((HCC.out w1).1 h1)).cell' (i := 3) rfl
    have hLW : ∀ w1, C w1 → LibW w1 := fun w1 h1 => HW.out.ext (EA.out.ext ((HCC.out w1).1 h1))
    clear c0 c1 c2 c3
    refine wp_region_held_drew (S := C) (by kernel_rfl) (hCx _ _ hCA (Ext.refl _).drew) (fun hS0 => ?_)
    have hln : (Lib.itoa en).length ≤ 20 := itoa_len HB.out.a1 HB.out.b1
    have hla : (Lib.itoa a).length ≤ 20 := itoa_len HB.out.a2 HB.out.b2
    refine held_take 0 (v := ?tv21) rfl (by kernel_rfl) (by kernel_rfl) (by kernel_rfl) (fun _ _ _ h => h) (.inl ⟨rfl, ?ty21⟩) hS0 ?tr21
    case ty21 => (intro _ _; go_simp; try with_reducible rfl)
    case tr21 =>
    simp only [Act.put, List.setIfInBounds_toArray, List.set_cons_succ, List.set_cons_zero]
    refine held_take 1 (v := ?tv22) rfl (by kernel_rfl) (by kernel_rfl) (by kernel_rfl) (fun _ _ _ h => h) (.inl ⟨rfl, ?ty22⟩) hS0 ?tr22
    case ty22 => (intro _ _; go_simp; try with_reducible rfl)
    case tr22 =>
    simp only [Act.put, List.setIfInBounds_toArray, List.set_cons_succ, List.set_cons_zero]
    refine held_take 2 (v := ?tv23) rfl (by kernel_rfl) (by kernel_rfl) (by kernel_rfl) (fun _ _ _ h => h) (.inl ⟨rfl, ?ty23⟩) hS0 ?tr23
    case ty23 => (intro wq hwq; have hcq := (hc1) wq hwq; go_simp; try with_reducible rfl)
    case tr23 =>
    simp only [Act.put, List.setIfInBounds_toArray, List.set_cons_succ, List.set_cons_zero]
    refine held_take 6 (v := ?tv24) rfl (by kernel_rfl) (by kernel_rfl) (by kernel_rfl) (fun _ _ _ h => h) (.inl ⟨rfl, ?ty24⟩) hS0 ?tr24
    case ty24 => (intro _ _; go_simp; try with_reducible rfl)
    case tr24 =>
    simp only [Act.put, List.setIfInBounds_toArray, List.set_cons_succ, List.set_cons_zero]
    refine held_take 7 (v := ?tv25) rfl (by kernel_rfl) (by kernel_rfl) (by kernel_rfl) (fun _ _ _ h => h) (.inl ⟨rfl, ?ty25⟩) hS0 ?tr25
    case ty25 => (intro _ _; go_simp; try with_reducible rfl)
    case tr25 =>
    simp only [Act.put, List.setIfInBounds_toArray, List.set_cons_succ, List.set_cons_zero]
    refine held_take 8 (v := ?tv26) rfl (by kernel_rfl) (by kernel_rfl) (by kernel_rfl) (fun _ _ _ h => h) (.inl ⟨rfl, ?ty26⟩) hS0 ?tr26
    case ty26 => (intro wq hwq; have hcq := (hc2) wq hwq; go_simp; try with_reducible rfl)
    case tr26 =>
    simp only [Act.put, List.setIfInBounds_toArray, List.set_cons_succ, List.set_cons_zero]
    refine held_one (i := 3) (by kernel_rfl) rfl ?_
    intro Q' hQ
    go_wp2_with fail
    refine (itoa_c en _ HB.out.a1 HB.out.b1 (hLW _ hS0).pw).mono ?_
    rintro e w1 ⟨rfl, eq9⟩
    have hS9 := hCx _ _ hS0 eq9
    go_wp2_with fail
    refine hQ _ _ hS9 ?_
    clear hQ Q' hS0 eq9
    have hS0 := hS9
    clear hS9
    try dsimp only
    try simp only [Act.put, List.setIfInBounds_toArray, List.set_cons_succ, List.set_cons_zero]
    refine held_take 4 (v := _) rfl (by kernel_rfl) (by kernel_rfl) (by kernel_rfl) (fun _ _ _ h => h) (yieldsI_run rfl (fun w1 _ => exec_catR (u := txtGood) (v := Lib.itoa en) (r := txtGood ++ Lib.itoa en) (by simp only [List.append_assoc]) rfl rfl rfl (by simp [txtEntry, txtAt, txtColon, txtMid, txtClose, txtGood, txtEntries, txtOctets]; omega) w1)) hS0 ?_
    simp only [Act.put, List.setIfInBounds_toArray, List.set_cons_succ, List.set_cons_zero]
    refine held_take 5 (v := _) rfl (by kernel_rfl) (by kernel_rfl) (by kernel_rfl) (fun _ _ _ h => h) (yieldsI_run rfl (fun w1 _ => exec_catR (u := txtGood ++ Lib.itoa en) (v := txtEntries) (r := txtGood ++ (Lib.itoa en ++ txtEntries)) (by simp only [List.append_assoc]) rfl rfl rfl (by simp [txtEntry, txtAt, txtColon, txtMid, txtClose, txtGood, txtEntries, txtOctets]; omega) w1)) hS0 ?_
    simp only [Act.put, List.setIfInBounds_toArray, List.set_cons_succ, List.set_cons_zero]
    refine held_one (i := 9) (by kernel_rfl) rfl ?_
    intro Q' hQ
    go_wp2_with fail
    refine (itoa_c a _ HB.out.a2 HB.out.b2 (hLW _ hS0).pw).mono ?_
    rintro e w2 ⟨rfl, eq9⟩
    have hS9 := hCx _ _ hS0 eq9
    go_wp2_with fail
    refine hQ _ _ hS9 ?_
    clear hQ Q' hS0 eq9
    have hS0 := hS9
    clear hS9
    try dsimp only
    try simp only [Act.put, List.setIfInBounds_toArray, List.set_cons_succ, List.set_cons_zero]
    refine held_take 10 (v := _) rfl (by kernel_rfl) (by kernel_rfl) (by kernel_rfl) (fun _ _ _ h => h) (yieldsI_run rfl (fun w1 _ => exec_catR (u := txtGood ++ (Lib.itoa en ++ txtEntries)) (v := Lib.itoa a) (r := txtGood ++ (Lib.itoa en ++ (txtEntries ++ Lib.itoa a))) (by simp only [List.append_assoc]) rfl rfl rfl (by simp [txtEntry, txtAt, txtColon, txtMid, txtClose, txtGood, txtEntries, txtOctets]; omega) w1)) hS0 ?_
    simp only [Act.put, List.setIfInBounds_toArray, List.set_cons_succ, List.set_cons_zero]
    refine held_take 11 (v := _) rfl (by kernel_rfl) (by kernel_rfl) (by kernel_rfl) (fun _ _ _ h => h) (yieldsI_run rfl (fun w1 _ => exec_catR (u := txtGood ++ (Lib.itoa en ++ (txtEntries ++ Lib.itoa a))) (v := txtOctets) (r := txtGood ++ (Lib.itoa en ++ (txtEntries ++ (Lib.itoa a ++ txtOctets)))) (by simp only [List.append_assoc]) rfl rfl rfl (by simp [txtEntry, txtAt, txtColon, txtMid, txtClose, txtGood, txtEntries, txtOctets]; omega) w1)) hS0 ?_
    simp only [Act.put, List.setIfInBounds_toArray, List.set_cons_succ, List.set_cons_zero]
    refine held_take 12 (v := ?tv27) rfl (by kernel_rfl) (by kernel_rfl) (by kernel_rfl) (fun _ _ _ h => h) (.inl ⟨rfl, ?ty27⟩) hS0 ?tr27
    case ty27 => (intro _ _; go_simp; try with_reducible rfl)
    case tr27 =>
    simp only [Act.put, List.setIfInBounds_toArray, List.set_cons_succ, List.set_cons_zero]
    refine held_take 13 (v := ?tv28) rfl (by kernel_rfl) (by kernel_rfl) (by kernel_rfl) (fun _ _ _ h => h) (.inl ⟨rfl, ?ty28⟩) hS0 ?tr28
    case ty28 => (intro _ _; go_simp; try with_reducible rfl)
    case tr28 =>
    simp only [Act.put, List.setIfInBounds_toArray, List.set_cons_succ, List.set_cons_zero]
    refine wpAnyH_done (by kernel_rfl) ?_ _
    have EB := hid (EA.out.ext ((HCC.out _).1 hS0))
    clear hS0 hCx hCA HCC hc0 hc1 hc2 hc3 hLW
    go_wp2
    go_ret2
    exact ⟨by rw [HT.out.1, HT.out.2]; unfold explT; rw [if_pos Z1.out]; rfl, EB.out⟩
  · by_cases z2 : er = 0
    · have d1 : decide (st = 0) = false := decide_eq_false z1
      have d1b : (st == 0) = false := by simp [z1]
      have d2 : decide (er = 0) = true := decide_eq_true z2
      have d2b : (er == 0) = true := by simp [z2]
      have hx : explE ⟨st, en, a, er⟩ = 2 := by unfold explE; dsimp only; rw [if_neg (by omega), if_neg (by omega), if_pos (by simp [z1, z2])]
      have HX : Hid (hE = 2 ∧ hL = []) := hid ⟨by rw [← HE.out, hx], by rw [← HL.out]; unfold explL; rw [hx]; rfl⟩
      clear hx
      go_wp2
      go_ret2
      exact ⟨by rw [HX.out.1, HX.out.2]; rfl, EA.out⟩
    have d1 : decide (st = 0) = false := decide_eq_false z1
    have d1b : (st == 0) = false := by simp [z1]
    have d2 : decide (er = 0) = false := decide_eq_false z2
    have d2b : (er == 0) = false := by simp [z2]
    have h0 : explE ⟨st, en, a, er⟩ = 0 := by unfold explE; dsimp only; rw [if_neg (by omega), if_neg (by omega), if_neg (by simp [z1, z2])]
    have HT : Hid (hL = explT ⟨st, en, a, er⟩ ∧ hE = 0) := hid ⟨by rw [← HL.out]; unfold explL; rw [if_pos h0], by rw [← HE.out, h0]⟩
    clear h0
    have Z1 := hid z1
    clear z1 z2
    have hln : (Lib.itoa en).length ≤ 20 := itoa_len HB.out.a1 HB.out.b1
    have hla : (Lib.itoa a).length ≤ 20 := itoa_len HB.out.a2 HB.out.b2
    have hle : (Lib.itoa er).length ≤ 20 := itoa_len HB.out.a3 HB.out.b3
    have hph := phrase_len st
    have hst : st = 1 ∨ st = 2 ∨ st = 3 ∨ st = 4 := by have := Z1.out; omega
    clear hph
    have c00 : ∀ o, (World.alloc wA o).cell? ⟨w.heap.size, 0, none⟩ = some (.int .i64 st) := fun o => (BA.out.ext ((Ext.refl wA).alloc o)).cell' (i := 0) rfl
    rcases hst with rfl | rfl | rfl | rfl
    · go_upto_region 11 with (fail)
      generalize hwB : World.alloc wA _ = wB
      have eB : Ext wA wB := by rw [← hwB]; exact (Ext.refl wA).alloc _
      have EB := hid (EA.out.ext eB)
      have BB := hid (BA.out.ext eB)
      clear hwB eB c0 c1 c2 c3 c00
      obtain ⟨C, hC⟩ : ∃ C : World → Prop, C = fun w' => Ext wB w' := ⟨_, rfl⟩
      have hC0 : ∀ w', C w' ↔ Ext wB w' := fun w' => by rw [hC]
      clear hC
      have HCC := hid hC0
      clear hC0
      have hCx : ∀ w w', C w → Ext w w' → C w' := fun w w' h1 h2 => (HCC.out w').2 (((HCC.out w).1 h1).ext h2)
      have hCA : C wB := (HCC.out _).2 (Ext.refl wB)
      have hc1 : ∀ w1, C w1 → w1.cell? ⟨w.heap.size, 1, none⟩ = some (.int .i64 en) := fun w1 h1 => (BB.out.ext ((HCC.out w1).1 h1)).cell' (i := 1) rfl
      have hc2 : ∀ w1, C w1 → w1.cell? ⟨w.heap.size, 2, none⟩ = some (.int .i64 a) := fun w1 h1 => (BB.out.ext ((HCC.out w1).1 h1)).cell' (i := 2) rfl
      have hc3 : ∀ w1, C w1 → w1.cell? ⟨w.heap.size, 3, none⟩ = some (.int .i64 er) := fun w1 h1 => (BB.out.ext ((HCC.out w1).1 h1)).cell' (i := 3) rfl
      have hLW : ∀ w1, C w1 → LibW w1 := fun w1 h1 => HW.out.ext (EB.out.ext ((HCC.out w1).1 h1))
      refine wp_region_held_drew (S := C) (by kernel_rfl) (hCx _ _ hCA (Ext.refl _).drew) (fun hS0 => ?_)
      refine held_take 0 (v := ?tv29) rfl (by kernel_rfl) (by kernel_rfl) (by kernel_rfl) (fun _ _ _ h => h) (.inl ⟨rfl, ?ty29⟩) hS0 ?tr29
      case ty29 => (intro _ _; go_simp; try with_reducible rfl)
      case tr29 =>
      simp only [Act.put, List.setIfInBounds_toArray, List.set_cons_succ, List.set_cons_zero]
      refine held_take 1 (v := ?tv30) rfl (by kernel_rfl) (by kernel_rfl) (by kernel_rfl) (fun _ _ _ h => h) (.inl ⟨rfl, ?ty30⟩) hS0 ?tr30
      case ty30 => (intro _ _; go_simp; try with_reducible rfl)
      case tr30 =>
      simp only [Act.put, List.setIfInBounds_toArray, List.set_cons_succ, List.set_cons_zero]
      refine held_take 2 (v := ?tv31) rfl (by kernel_rfl) (by kernel_rfl) (by kernel_rfl) (fun _ _ _ h => h) (.inl ⟨rfl, ?ty31⟩) hS0 ?tr31
      case ty31 => (intro wq hwq; have hcq := (hc1) wq hwq; go_simp; try with_reducible rfl)
      case tr31 =>
      simp only [Act.put, List.setIfInBounds_toArray, List.set_cons_succ, List.set_cons_zero]
      refine held_take 6 (v := ?tv32) rfl (by kernel_rfl) (by kernel_rfl) (by kernel_rfl) (fun _ _ _ h => h) (.inl ⟨rfl, ?ty32⟩) hS0 ?tr32
      case ty32 => (intro _ _; go_simp; try with_reducible rfl)
      case tr32 =>
      simp only [Act.put, List.setIfInBounds_toArray, List.set_cons_succ, List.set_cons_zero]
      refine held_take 7 (v := ?tv33) rfl (by kernel_rfl) (by kernel_rfl) (by kernel_rfl) (fun _ _ _ h => h) (.inl ⟨rfl, ?ty33⟩) hS0 ?tr33
      case ty33 => (intro _ _; go_simp; try with_reducible rfl)
      case tr33 =>
      simp only [Act.put, List.setIfInBounds_toArray, List.set_cons_succ, List.set_cons_zero]
      refine held_take 8 (v := ?tv34) rfl (by kernel_rfl) (by kernel_rfl) (by kernel_rfl) (fun _ _ _ h => h) (.inl ⟨rfl, ?ty34⟩) hS0 ?tr34
      case ty34 => (intro wq hwq; have hcq := (hc2) wq hwq; go_simp; try with_reducible rfl)
      case tr34 =>
      simp only [Act.put, List.setIfInBounds_toArray, List.set_cons_succ, List.set_cons_zero]
      refine held_take 12 (v := ?tv35) rfl (by kernel_rfl) (by kernel_rfl) (by kernel_rfl) (fun _ _ _ h => h) (.inl ⟨rfl, ?ty35⟩) hS0 ?tr35
      case ty35 => (intro _ _; go_simp; try with_reducible rfl)
      case tr35 =>
      simp only [Act.put, List.setIfInBounds_toArray, List.set_cons_succ, List.set_cons_zero]
      refine held_take 15 (v := ?tv36) rfl (by kernel_rfl) (by kernel_rfl) (by kernel_rfl) (fun _ _ _ h => h) (.inl ⟨rfl, ?ty36⟩) hS0 ?tr36
      case ty36 => (intro _ _; go_simp; try with_reducible rfl)
      case tr36 =>
      simp only [Act.put, List.setIfInBounds_toArray, List.set_cons_succ, List.set_cons_zero]
      refine held_take 16 (v := ?tv37) rfl (by kernel_rfl) (by kernel_rfl) (by kernel_rfl) (fun _ _ _ h => h) (.inl ⟨rfl, ?ty37⟩) hS0 ?tr37
      case ty37 => (intro _ _; go_simp; try with_reducible rfl)
      case tr37 =>
      simp only [Act.put, List.setIfInBounds_toArray, List.set_cons_succ, List.set_cons_zero]
      refine held_take 17 (v := ?tv38) rfl (by kernel_rfl) (by kernel_rfl) (by kernel_rfl) (fun _ _ _ h => h) (.inl ⟨rfl, ?ty38⟩) hS0 ?tr38
      case ty38 => (intro wq hwq; have hcq := (hc3) wq hwq; go_simp; try with_reducible rfl)
      case tr38 =>
      simp only [Act.put, List.setIfInBounds_toArray, List.set_cons_succ, List.set_cons_zero]
      refine held_one (i := 3) (by kernel_rfl) rfl ?_
      intro Q' hQ
      go_wp2_with fail
      refine (itoa_c en _ HB.out.a1 HB.out.b1 (hLW _ hS0).pw).mono ?_
      rintro e w1 ⟨rfl, eq9⟩
      have hS9 := hCx _ _ hS0 eq9
      go_wp2_with fail
      refine hQ _ _ hS9 ?_
      clear hQ Q' hS0 eq9
      have hS0 := hS9
      clear hS9
      try dsimp only
      try simp only [Act.put, List.setIfInBounds_toArray, List.set_cons_succ, List.set_cons_zero]
      refine held_take 4 (v := _) rfl (by kernel_rfl) (by kernel_rfl) (by kernel_rfl) (fun _ _ _ h => h) (yieldsI_run rfl (fun w1 _ => exec_catR (u := txtEntry) (v := Lib.itoa en) (r := txtEntry ++ Lib.itoa en) (by simp only [List.append_assoc]) rfl rfl rfl (by simp [txtEntry, phr1, txtAt, txtColon, txtMid, txtClose, txtGood, txtEntries, txtOctets]; omega) w1)) hS0 ?_
      simp only [Act.put, List.setIfInBounds_toArray, List.set_cons_succ, List.set_cons_zero]
      refine held_take 5 (v := _) rfl (by kernel_rfl) (by kernel_rfl) (by kernel_rfl) (fun _ _ _ h => h) (yieldsI_run rfl (fun w1 _ => exec_catR (u := txtEntry ++ Lib.itoa en) (v := txtAt) (r := txtEntry ++ (Lib.itoa en ++ txtAt)) (by simp only [List.append_assoc]) rfl rfl rfl (by simp [txtEntry, phr1, txtAt, txtColon, txtMid, txtClose, txtGood, txtEntries, txtOctets]; omega) w1)) hS0 ?_
      simp only [Act.put, List.setIfInBounds_toArray, List.set_cons_succ, List.set_cons_zero]
      refine held_one (i := 9) (by kernel_rfl) rfl ?_
      intro Q' hQ
      go_wp2_with fail
      refine (itoa_c a _ HB.out.a2 HB.out.b2 (hLW _ hS0).pw).mono ?_
      rintro e w2 ⟨rfl, eq9⟩
      have hS9 := hCx _ _ hS0 eq9
      go_wp2_with fail
      refine hQ _ _ hS9 ?_
      clear hQ Q' hS0 eq9
      have hS0 := hS9
      clear hS9
      try dsimp only
      try simp only [Act.put, List.setIfInBounds_toArray, List.set_cons_succ, List.set_cons_zero]
      refine held_take 10 (v := _) rfl (by kernel_rfl) (by kernel_rfl) (by kernel_rfl) (fun _ _ _ h => h) (yieldsI_run rfl (fun w1 _ => exec_catR (u := txtEntry ++ (Lib.itoa en ++ txtAt)) (v := Lib.itoa a) (r := txtEntry ++ (Lib.itoa en ++ (txtAt ++ Lib.itoa a))) (by simp only [List.append_assoc]) rfl rfl rfl (by simp [txtEntry, phr1, txtAt, txtColon, txtMid, txtClose, txtGood, txtEntries, txtOctets]; omega) w1)) hS0 ?_
      simp only [Act.put, List.setIfInBounds_toArray, List.set_cons_succ, List.set_cons_zero]
      refine held_take 11 (v := _) rfl (by kernel_rfl) (by kernel_rfl) (by kernel_rfl) (fun _ _ _ h => h) (yieldsI_run rfl (fun w1 _ => exec_catR (u := txtEntry ++ (Lib.itoa en ++ (txtAt ++ Lib.itoa a))) (v := txtColon) (r := txtEntry ++ (Lib.itoa en ++ (txtAt ++ (Lib.itoa a ++ txtColon)))) (by simp only [List.append_assoc]) rfl rfl rfl (by simp [txtEntry, phr1, txtAt, txtColon, txtMid, txtClose, txtGood, txtEntries, txtOctets]; omega) w1)) hS0 ?_
      simp only [Act.put, List.setIfInBounds_toArray, List.set_cons_succ, List.set_cons_zero]
      refine held_take 13 (v := _) rfl (by kernel_rfl) (by kernel_rfl) (by kernel_rfl) (fun _ _ _ h => h) (yieldsI_run rfl (fun w1 _ => exec_catR (u := txtEntry ++ (Lib.itoa en ++ (txtAt ++ (Lib.itoa a ++ txtColon)))) (v := phr1) (r := txtEntry ++ (Lib.itoa en ++ (txtAt ++ (Lib.itoa a ++ (txtColon ++ phr1))))) (by simp only [List.append_assoc]) rfl rfl rfl (by simp [txtEntry, phr1, txtAt, txtColon, txtMid, txtClose, txtGood, txtEntries, txtOctets]; omega) w1)) hS0 ?_
      simp only [Act.put, List.setIfInBounds_toArray, List.set_cons_succ, List.set_cons_zero]
      refine held_take 14 (v := _) rfl (by kernel_rfl) (by kernel_rfl) (by kernel_rfl) (fun _ _ _ h => h) (yieldsI_run rfl (fun w1 _ => exec_catR (u := txtEntry ++ (Lib.itoa en ++ (txtAt ++ (Lib.itoa a ++ (txtColon ++ phr1))))) (v := txtMid) (r := txtEntry ++ (Lib.itoa en ++ (txtAt ++ (Lib.itoa a ++ (txtColon ++ (phr1 ++ txtMid)))))) (by simp only [List.append_assoc]) rfl rfl rfl (by simp [txtEntry, phr1, txtAt, txtColon, txtMid, txtClose, txtGood, txtEntries, txtOctets]; omega) w1)) hS0 ?_
      simp only [Act.put, List.setIfInBounds_toArray, List.set_cons_succ, List.set_cons_zero]
      refine held_one (i := 18) (by kernel_rfl) rfl ?_
      intro Q' hQ
      go_wp2_with fail
      refine (itoa_c er _ HB.out.a3 HB.out.b3 (hLW _ hS0).pw).mono ?_
      rintro e w3 ⟨rfl, eq9⟩
      have hS9 := hCx _ _ hS0 eq9
      go_wp2_with fail
      refine hQ _ _ hS9 ?_
      clear hQ Q' hS0 eq9
      have hS0 := hS9
      clear hS9
      try dsimp only
      try simp only [Act.put, List.setIfInBounds_toArray, List.set_cons_succ, List.set_cons_zero]
      refine held_take 19 (v := _) rfl (by kernel_rfl) (by kernel_rfl) (by kernel_rfl) (fun _ _ _ h => h) (yieldsI_run rfl (fun w1 _ => exec_catR (u := txtEntry ++ (Lib.itoa en ++ (txtAt ++ (Lib.itoa a ++ (txtColon ++ (phr1 ++ txtMid)))))) (v := Lib.itoa er) (r := txtEntry ++ (Lib.itoa en ++ (txtAt ++ (Lib.itoa a ++ (txtColon ++ (phr1 ++ (txtMid ++ Lib.itoa er))))))) (by simp only [List.append_assoc]) rfl rfl rfl (by simp [txtEntry, phr1, txtAt, txtColon, txtMid, txtClose, txtGood, txtEntries, txtOctets]; omega) w1)) hS0 ?_
      simp only [Act.put, List.setIfInBounds_toArray, List.set_cons_succ, List.set_cons_zero]
      refine held_take 20 (v := _) rfl (by kernel_rfl) (by kernel_rfl) (by kernel_rfl) (fun _ _ _ h => h) (yieldsI_run rfl (fun w1 _ => exec_catR (u := txtEntry ++ (Lib.itoa en ++ (txtAt ++ (Lib.itoa a ++ (txtColon ++ (phr1 ++ (txtMid ++ Lib.itoa er))))))) (v := txtClose) (r := txtEntry ++ (Lib.itoa en ++ (txtAt ++ (Lib.itoa a ++ (txtColon ++ (phr1 ++ (txtMid ++ (Lib.itoa er ++ txtClose)))))))) (by simp only [List.append_assoc]) rfl rfl rfl (by simp [txtEntry, phr1, txtAt, txtColon, txtMid, txtClose, txtGood, txtEntries, txtOctets]; omega) w1)) hS0 ?_
      simp only [Act.put, List.setIfInBounds_toArray, List.set_cons_succ, List.set_cons_zero]
      refine held_take 21 (v := ?tv39) rfl (by kernel_rfl) (by kernel_rfl) (by kernel_rfl) (fun _ _ _ h => h) (.inl ⟨rfl, ?ty39⟩) hS0 ?tr39
      case ty39 => (intro _ _; go_simp; try with_reducible rfl)
      case tr39 =>
      simp only [Act.put, List.setIfInBounds_toArray, List.set_cons_succ, List.set_cons_zero]
      refine held_take 22 (v := ?tv40) rfl (by kernel_rfl) (by kernel_rfl) (by kernel_rfl) (fun _ _ _ h => h) (.inl ⟨rfl, ?ty40⟩) hS0 ?tr40
      case ty40 => (intro _ _; go_simp; try with_reducible rfl)
      case tr40 =>
      simp only [Act.put, List.setIfInBounds_toArray, List.set_cons_succ, List.set_cons_zero]
      refine wpAnyH_done (by kernel_rfl) ?_ _
      have EC := hid (EB.out.ext ((HCC.out _).1 hS0))
      clear hS0 hCx hCA HCC hc1 hc2 hc3 hLW
      go_wp2
      go_ret2
      exact ⟨by rw [HT.out.1, HT.out.2]; unfold explT; rw [if_neg Z1.out]; rfl, EC.out⟩
    · go_upto_region 11 with (fail)
      generalize hwB : World.alloc wA _ = wB
      have eB : Ext wA wB := by rw [← hwB]; exact (Ext.refl wA).alloc _
      have EB := hid (EA.out.ext eB)
      have BB := hid (BA.out.ext eB)
      clear hwB eB c0 c1 c2 c3 c00
      obtain ⟨C, hC⟩ : ∃ C : World → Prop, C = fun w' => Ext wB w' := ⟨_, rfl⟩
      have hC0 : ∀ w', C w' ↔ Ext wB w' := fun w' => by rw [hC]
      clear hC
      have HCC := hid hC0
      clear hC0
      have hCx : ∀ w w', C w → Ext w w' → C w' := fun w w' h1 h2 => (HCC.out w').2 (((HCC.out w).1 h1).ext h2)
      have hCA : C wB := (HCC.out _).2 (Ext.refl wB)
      have hc1 : ∀ w1, C w1 → w1.cell? ⟨w.heap.size, 1, none⟩ = some (.int .i64 en) := fun w1 h1 => (BB.out.ext ((HCC.out w1).1 h1)).cell' (i := 1) rfl
      have hc2 : ∀ w1, C w1 → w1.cell? ⟨w.heap.size, 2, none⟩ = some (.int .i64 a) := fun w1 h1 => (BB.out.ext ((HCC.out w1).1 h1)).cell' (i := 2) rfl
      have hc3 : ∀ w1, C w1 → w1.cell? ⟨w.heap.size, 3, none⟩ = some (.int .i64 er) := fun w1 h1 => (BB.out.ext ((HCC.out w1).1 h1)).cell' (i := 3) rfl
      have hLW : ∀ w1, C w1 → LibW w1 := fun w1 h1 => HW.out.ext (EB.out.ext ((HCC.out w1).1 h1))
      refine wp_region_held_drew (S := C) (by kernel_rfl) (hCx _ _ hCA (Ext.refl _).drew) (fun hS0 => ?_)
      refine held_take 0 (v := ?tv41) rfl (by kernel_rfl) (by kernel_rfl) (by kernel_rfl) (fun _ _ _ h => h) (.inl ⟨rfl, ?ty41⟩) hS0 ?tr41
      case ty41 => (intro _ _; go_simp; try with_reducible rfl)
      case tr41 =>
      simp only [Act.put, List.setIfInBounds_toArray, List.set_cons_succ, List.set_cons_zero]
      refine held_take 1 (v := ?tv42) rfl (by kernel_rfl) (by kernel_rfl) (by kernel_rfl) (fun _ _ _ h => h) (.inl ⟨rfl, ?ty42⟩) hS0 ?tr42
      case ty42 => (intro _ _; go_simp; try with_reducible rfl)
      case tr42 =>
      simp only [Act.put, List.setIfInBounds_toArray, List.set_cons_succ, List.set_cons_zero]
      refine held_take 2 (v := ?tv43) rfl (by kernel_rfl) (by kernel_rfl) (by kernel_rfl) (fun _ _ _ h => h) (.inl ⟨rfl, ?ty43⟩) hS0 ?tr43
      case ty43 => (intro wq hwq; have hcq := (hc1) wq hwq; go_simp; try with_reducible rfl)
      case tr43 =>
      simp only [Act.put, List.setIfInBounds_toArray, List.set_cons_succ, List.set_cons_zero]
      refine held_take 6 (v := ?tv44) rfl (by kernel_rfl) (by kernel_rfl) (by kernel_rfl) (fun _ _ _ h => h) (.inl ⟨rfl, ?ty44⟩) hS0 ?tr44
      case ty44 => (intro _ _; go_simp; try with_reducible rfl)
      case tr44 =>
      simp only [Act.put, List.setIfInBounds_toArray, List.set_cons_succ, List.set_cons_zero]
      refine held_take 7 (v := ?tv45) rfl (by kernel_rfl) (by kernel_rfl) (by kernel_rfl) (fun _ _ _ h => h) (.inl ⟨rfl, ?ty45⟩) hS0 ?tr45
      case ty45 => (intro _ _; go_simp; try with_reducible rfl)
      case tr45 =>
      simp only [Act.put, List.setIfInBounds_toArray, List.set_cons_succ, List.set_cons_zero]
      refine held_take 8 (v := ?tv46) rfl (by kernel_rfl) (by kernel_rfl) (by kernel_rfl) (fun _ _ _ h => h) (.inl ⟨rfl, ?ty46⟩) hS0 ?tr46
      case ty46 => (intro wq hwq; have hcq := (hc2) wq hwq; go_simp; try with_reducible rfl)
      case tr46 =>
      simp only [Act.put, List.setIfInBounds_toArray, List.set_cons_succ, List.set_cons_zero]
      refine held_take 12 (v := ?tv47) rfl (by kernel_rfl) (by kernel_rfl) (by kernel_rfl) (fun _ _ _ h => h) (.inl ⟨rfl, ?ty47⟩) hS0 ?tr47
      case ty47 => (intro _ _; go_simp; try with_reducible rfl)
      case tr47 =>
      simp only [Act.put, List.setIfInBounds_toArray, List.set_cons_succ, List.set_cons_zero]
      refine held_take 15 (v := ?tv48) rfl (by kernel_rfl) (by kernel_rfl) (by kernel_rfl) (fun _ _ _ h => h) (.inl ⟨rfl, ?ty48⟩) hS0 ?tr48
      case ty48 => (intro _ _; go_simp; try with_reducible rfl)
      case tr48 =>
      simp only [Act.put, List.setIfInBounds_toArray, List.set_cons_succ, List.set_cons_zero]
      refine held_take 16 (v := ?tv49) rfl (by kernel_rfl) (by kernel_rfl) (by kernel_rfl) (fun _ _ _ h => h) (.inl ⟨rfl, ?ty49⟩) hS0 ?tr49
      case ty49 => (intro _ _; go_simp; try with_reducible rfl)
      case tr49 =>
      simp only [Act.put, List.setIfInBounds_toArray, List.set_cons_succ, List.set_cons_zero]
      refine held_take 17 (v := ?tv50) rfl (by kernel_rfl) (by kernel_rfl) (by kernel_rfl) (fun _ _ _ h => h) (.inl ⟨rfl, ?ty50⟩) hS0 ?tr50
      case ty50 => (intro wq hwq; have hcq := (hc3) wq hwq; go_simp; try with_reducible rfl)
      case tr50 =>
      simp only [Act.put, List.setIfInBounds_toArray, List.set_cons_succ, List.set_cons_zero]
      refine held_one (i := 3) (by kernel_rfl) rfl ?_
      intro Q' hQ
      go_wp2_with fail
      refine (itoa_c en _ HB.out.a1 HB.out.b1 (hLW _ hS0).pw).mono ?_
      rintro e w1 ⟨rfl, eq9⟩
      have hS9 := hCx _ _ hS0 eq9
      go_wp2_with fail
      refine hQ _ _ hS9 ?_
      clear hQ Q' hS0 eq9
      have hS0 := hS9
      clear hS9
      try dsimp only
      try simp only [Act.put, List.setIfInBounds_toArray, List.set_cons_succ, List.set_cons_zero]
      refine held_take 4 (v := _) rfl (by kernel_rfl) (by kernel_rfl) (by kernel_rfl) (fun _ _ _ h => h) (yieldsI_run rfl (fun w1 _ => exec_catR (u := txtEntry) (v := Lib.itoa en) (r := txtEntry ++ Lib.itoa en) (by simp only [List.append_assoc]) rfl rfl rfl (by simp [txtEntry, phr2, txtAt, txtColon, txtMid, txtClose, txtGood, txtEntries, txtOctets]; omega) w1)) hS0 ?_
      simp only [Act.put, List.setIfInBounds_toArray, List.set_cons_succ, List.set_cons_zero]
      refine held_take 5 (v := _) rfl (by kernel_rfl) (by kernel_rfl) (by kernel_rfl) (fun _ _ _ h => h) (yieldsI_run rfl (fun w1 _ => exec_catR (u := txtEntry ++ Lib.itoa en) (v := txtAt) (r := txtEntry ++ (Lib.itoa en ++ txtAt)) (by simp only [List.append_assoc]) rfl rfl rfl (by simp [txtEntry, phr2, txtAt, txtColon, txtMid, txtClose, txtGood, txtEntries, txtOctets]; omega) w1)) hS0 ?_
      simp only [Act.put, List.setIfInBounds_toArray, List.set_cons_succ, List.set_cons_zero]
      refine held_one (i := 9) (by kernel_rfl) rfl ?_
      intro Q' hQ
      go_wp2_with fail
      refine (itoa_c a _ HB.out.a2 HB.out.b2 (hLW _ hS0).pw).mono ?_
      rintro e w2 ⟨rfl, eq9⟩
      have hS9 := hCx _ _ hS0 eq9
      go_wp2_with fail
      refine hQ _ _ hS9 ?_
      clear hQ Q' hS0 eq9
      have hS0 := hS9
      clear hS9
      try dsimp only
      try simp only [Act.put, List.setIfInBounds_toArray, List.set_cons_succ, List.set_cons_zero]
      refine held_take 10 (v := _) rfl (by kernel_rfl) (by kernel_rfl) (by kernel_rfl) (fun _ _ _ h => h) (yieldsI_run rfl (fun w1 _ => exec_catR (u := txtEntry ++ (Lib.itoa en ++ txtAt)) (v := Lib.itoa a) (r := txtEntry ++ (Lib.itoa en ++ (txtAt ++ Lib.itoa a))) (by simp only [List.append_assoc]) rfl rfl rfl (by simp [txtEntry, phr2, txtAt, txtColon, txtMid, txtClose, txtGood, txtEntries, txtOctets]; omega) w1)) hS0 ?_
      simp only [Act.put, List.setIfInBounds_toArray, List.set_cons_succ, List.set_cons_zero]
      refine held_take 11 (v := _) rfl (by kernel_rfl) (by kernel_rfl) (by kernel_rfl) (fun _ _ _ h => h) (yieldsI_run rfl (fun w1 _ => exec_catR (u := txtEntry ++ (Lib.itoa en ++ (txtAt ++ Lib.itoa a))) (v := txtColon) (r := txtEntry ++ (Lib.itoa en ++ (txtAt ++ (Lib.itoa a ++ txtColon)))) (by simp only [List.append_assoc]) rfl rfl rfl (by simp [txtEntry, phr2, txtAt, txtColon, txtMid, txtClose, txtGood, txtEntries, txtOctets]; omega) w1)) hS0 ?_
      simp only [Act.put, List.setIfInBounds_toArray, List.set_cons_succ, List.set_cons_zero]
      refine held_take 13 (v := _) rfl (by kernel_rfl) (by kernel_rfl) (by kernel_rfl) (fun _ _ _ h => h) (yieldsI_run rfl (fun w1 _ => exec_catR (u := txtEntry ++ (Lib.itoa en ++ (txtAt ++ (Lib.itoa a ++ txtColon)))) (v := phr2) (r := txtEntry ++ (Lib.itoa en ++ (txtAt ++ (Lib.itoa a ++ (txtColon ++ phr2))))) (by simp only [List.append_assoc]) rfl rfl rfl (by simp [txtEntry, phr2, txtAt, txtColon, txtMid, txtClose, txtGood, txtEntries, txtOctets]; omega) w1)) hS0 ?_
      simp only [Act.put, List.setIfInBounds_toArray, List.set_cons_succ, List.set_cons_zero]
      refine held_take 14 (v := _) rfl (by kernel_rfl) (by kernel_rfl) (by kernel_rfl) (fun _ _ _ h => h) (yieldsI_run rfl (fun w1 _ => exec_catR (u := txtEntry ++ (Lib.itoa en ++ (txtAt ++ (Lib.itoa a ++ (txtColon ++ phr2))))) (v := txtMid) (r := txtEntry ++ (Lib.itoa en ++ (txtAt ++ (Lib.itoa a ++ (txtColon ++ (phr2 ++ txtMid)))))) (by simp only [List.append_assoc]) rfl rfl rfl (by simp [txtEntry, phr2, txtAt, txtColon, txtMid, txtClose, txtGood, txtEntries, txtOctets]; omega) w1)) hS0 ?_
      simp only [Act.put, List.setIfInBounds_toArray, List.set_cons_succ, List.set_cons_zero]
      refine held_one (i := 18) (by kernel_rfl) rfl ?_
      intro Q' hQ
      go_wp2_with fail
      refine (itoa_c er _ HB.out.a3 HB.out.b3 (hLW _ hS0).pw).mono ?_
      rintro e w3 ⟨rfl, eq9⟩
      have hS9 := hCx _ _ hS0 eq9
      go_wp2_with fail
      refine hQ _ _ hS9 ?_
      clear hQ Q' hS0 eq9
      have hS0 := hS9
      clear hS9
      try dsimp only
      try simp only [Act.put, List.setIfInBounds_toArray, List.set_cons_succ, List.set_cons_zero]
      refine held_take 19 (v := _) rfl (by kernel_rfl) (by kernel_rfl) (by kernel_rfl) (fun _ _ _ h => h) (yieldsI_run rfl (fun w1 _ => exec_catR (u := txtEntry ++ (Lib.itoa en ++ (txtAt ++ (Lib.itoa a ++ (txtColon ++ (phr2 ++ txtMid)))))) (v := Lib.itoa er) (r := txtEntry ++ (Lib.itoa en ++ (txtAt ++ (Lib.itoa a ++ (txtColon ++ (phr2 ++ (txtMid ++ Lib.itoa er))))))) (by simp only [List.append_assoc]) rfl rfl rfl (by simp [txtEntry, phr2, txtAt, txtColon, txtMid, txtClose, txtGood, txtEntries, txtOctets]; omega) w1)) hS0 ?_
      simp only [Act.put, List.setIfInBounds_toArray, List.set_cons_succ, List.set_cons_zero]
      refine held_take 20 (v := _) rfl (by kernel_rfl) (by kernel_rfl) (by kernel_rfl) (fun _ _ _ h => h) (yieldsI_run rfl (fun w1 _ => exec_catR (u := txtEntry ++ (Lib.itoa en ++ (txtAt ++ (Lib.itoa a ++ (txtColon ++ (phr2 ++ (txtMid ++ Lib.itoa er))))))) (v := txtClose) (r := txtEntry ++ (Lib.itoa en ++ (txtAt ++ (Lib.itoa a ++ (txtColon ++ (phr2 ++ (txtMid ++ (Lib.itoa er ++ txtClose)))))))) (by simp only [List.append_assoc]) rfl rfl rfl (by simp [txtEntry, phr2, txtAt, txtColon, txtMid, txtClose, txtGood, txtEntries, txtOctets]; omega) w1)) hS0 ?_
      simp only [Act.put, List.setIfInBounds_toArray, List.set_cons_succ, List.set_cons_zero]
      refine held_take 21 (v := ?tv51) rfl (by kernel_rfl) (by kernel_rfl) (by kernel_rfl) (fun _ _ _ h => h) (.inl ⟨rfl, ?ty51⟩) hS0 ?tr51
      case ty51 => (intro _ _; go_simp; try with_reducible rfl)
      case tr51 =>
      simp only [Act.put, List.setIfInBounds_toArray, List.set_cons_succ, List.set_cons_zero]
      refine held_take 22 (v := ?tv52) rfl (by kernel_rfl) (by kernel_rfl) (by kernel_rfl) (fun _ _ _ h => h) (.inl ⟨rfl, ?ty52⟩) hS0 ?tr52
      case ty52 => (intro _ _; go_simp; try with_reducible rfl)
      case tr52 =>
      simp only [Act.put, List.setIfInBounds_toArray, List.set_cons_succ, List.set_cons_zero]
      refine wpAnyH_done (by kernel_rfl) ?_ _
      have EC := hid (EB.out.ext ((HCC.out _).1 hS0))
      clear hS0 hCx hCA HCC hc1 hc2 hc3 hLW
      go_wp2
      go_ret2
      exact ⟨by rw [HT.out.1, HT.out.2]; unfold explT; rw [if_neg Z1.out]; rfl, EC.out⟩
    · go_upto_region 11 with (fail)
      generalize hwB : World.alloc wA _ = wB
      have eB : Ext wA wB := by rw [← hwB]; exact (Ext.refl wA).alloc _
      have EB := hid (EA.out.ext eB)
      have BB := hid (BA.out.ext eB)
      clear hwB eB c0 c1 c2 c3 c00
      obtain ⟨C, hC⟩ : ∃ C : World → Prop, C = fun w' => Ext wB w' := ⟨_, rfl⟩
      have hC0 : ∀ w', C w' ↔ Ext wB w' := fun w' => by rw [hC]
      clear hC
      have HCC := hid hC0
      clear hC0
      have hCx : ∀ w w', C w → Ext w w' → C w' := fun w w' h1 h2 => (HCC.out w').2 (((HCC.out w).1 h1).ext h2)
      have hCA : C wB := (HCC.out _).2 (Ext.refl wB)
      have hc1 : ∀ w1, C w1 → w1.cell? ⟨w.heap.size, 1, none⟩ = some (.int .i64 en) := fun w1 h1 => (BB.out.ext ((HCC.out w1).1 h1)).cell' (i := 1) rfl
      have hc2 : ∀ w1, C w1 → w1.cell? ⟨w.heap.size, 2, none⟩ = some (.int .i64 a) := fun w1 h1 => (BB.out.ext ((HCC.out w1).1 h1)).cell' (i := 2) rfl
      have hc3 : ∀ w1, C w1 → w1.cell? ⟨w.heap.size, 3, none⟩ = some (.int .i64 er) := fun w1 h1 => (BB.out.ext ((HCC.out w1).1 h1)).cell' (i := 3) rfl
      have hLW : ∀ w1, C w1 → LibW w1 := fun w1 h1 => HW.out.ext (EB.out.ext ((HCC.out w1).1 h1))
      refine wp_region_held_drew (S := C) (by kernel_rfl) (hCx _ _ hCA (Ext.refl _).drew) (fun hS0 => ?_)
      refine held_take 0 (v := ?tv53) rfl (by kernel_rfl) (by kernel_rfl) (by kernel_rfl) (fun _ _ _ h => h) (.inl ⟨rfl, ?ty53⟩) hS0 ?tr53
      case ty53 => (intro _ _; go_simp; try with_reducible rfl)
      case tr53 =>
      simp only [Act.put, List.setIfInBounds_toArray, List.set_cons_succ, List.set_cons_zero]
      refine held_take 1 (v := ?tv54) rfl (by kernel_rfl) (by kernel_rfl) (by kernel_rfl) (fun _ _ _ h => h) (.inl ⟨rfl, ?ty54⟩) hS0 ?tr54
      case ty54 => (intro _ _; go_simp; try with_reducible rfl)
      case tr54 =>
      simp only [Act.put, List.setIfInBounds_toArray, List.set_cons_succ, List.set_cons_zero]
      refine held_take 2 (v := ?tv55) rfl (by kernel_rfl) (by kernel_rfl) (by kernel_rfl) (fun _ _ _ h => h) (.inl ⟨rfl, ?ty55⟩) hS0 ?tr55
      case ty55 => (intro wq hwq; have hcq := (hc1) wq hwq; go_simp; try with_reducible rfl)
      case tr55 =>
      simp only [Act.put, List.setIfInBounds_toArray, List.set_cons_succ, List.set_cons_zero]
      refine held_take 6 (v := ?tv56) rfl (by kernel_rfl) (by kernel_rfl) (by kernel_rfl) (fun _ _ _ h => h) (.inl ⟨rfl, ?ty56⟩) hS0 ?tr56
      case ty56 => (intro _ _; go_simp; try with_reducible rfl)
      case tr56 =>
      simp only [Act.put, List.setIfInBounds_toArray, List.set_cons_succ, List.set_cons_zero]
      refine held_take 7 (v := ?tv57) rfl (by kernel_rfl) (by kernel_rfl) (by kernel_rfl) (fun _ _ _ h => h) (.inl ⟨rfl, ?ty57⟩) hS0 ?tr57
      case ty57 => (intro _ _; go_simp; try with_reducible rfl)
      case tr57 =>
      simp only [Act.put, List.setIfInBounds_toArray, List.set_cons_succ, List.set_cons_zero]
      refine held_take 8 (v := ?tv58) rfl (by kernel_rfl) (by kernel_rfl) (by kernel_rfl) (fun _ _ _ h => h) (.inl ⟨rfl, ?ty58⟩) hS0 ?tr58
      case ty58 => (intro wq hwq; have hcq := (hc2) wq hwq; go_simp; try with_reducible rfl)
      case tr58 =>
      simp only [Act.put, List.setIfInBounds_toArray, List.set_cons_succ, List.set_cons_zero]
      refine held_take 12 (v := ?tv59) rfl (by kernel_rfl) (by kernel_rfl) (by kernel_rfl) (fun _ _ _ h => h) (.inl ⟨rfl, ?ty59⟩) hS0 ?tr59
      case ty59 => (intro _ _; go_simp; try with_reducible rfl)
      case tr59 =>
      simp only [Act.put, List.setIfInBounds_toArray, List.set_cons_succ, List.set_cons_zero]
      refine held_take 15 (v := ?tv60) rfl (by kernel_rfl) (by kernel_rfl) (by kernel_rfl) (fun _ _ _ h => h) (.inl ⟨rfl, ?ty60⟩) hS0 ?tr60
      case ty60 => (intro _ _; go_simp; try with_reducible rfl)
      case tr60 =>
      simp only [Act.put, List.setIfInBounds_toArray, List.set_cons_succ, List.set_cons_zero]
      refine held_take 16 (v := ?tv61) rfl (by kernel_rfl) (by kernel_rfl) (by kernel_rfl) (fun _ _ _ h => h) (.inl ⟨rfl, ?ty61⟩) hS0 ?tr61
      case ty61 => (intro _ _; go_simp; try with_reducible rfl)
      case tr61 =>
      simp only [Act.put, List.setIfInBounds_toArray, List.set_cons_succ, List.set_cons_zero]
      refine held_take 17 (v := ?tv62) rfl (by kernel_rfl) (by kernel_rfl) (by kernel_rfl) (fun _ _ _ h => h) (.inl ⟨rfl, ?ty62⟩) hS0 ?tr62
      case ty62 => (intro wq hwq; have hcq := (hc3) wq hwq; go_simp; try with_reducible rfl)
      case tr62 =>
      simp only [Act.put, List.setIfInBounds_toArray, List.set_cons_succ, List.set_cons_zero]
      refine held_one (i := 3) (by kernel_rfl) rfl ?_
      intro Q' hQ
      go_wp2_with fail
      refine (itoa_c en _ HB.out.a1 HB.out.b1 (hLW _ hS0).pw).mono ?_
      rintro e w1 ⟨rfl, eq9⟩
      have hS9 := hCx _ _ hS0 eq9
      go_wp2_with fail
      refine hQ _ _ hS9 ?_
      clear hQ Q' hS0 eq9
      have hS0 := hS9
      clear hS9
      try dsimp only
      try simp only [Act.put, List.setIfInBounds_toArray, List.set_cons_succ, List.set_cons_zero]
      refine held_take 4 (v := _) rfl (by kernel_rfl) (by kernel_rfl) (by kernel_rfl) (fun _ _ _ h => h) (yieldsI_run rfl (fun w1 _ => exec_catR (u := txtEntry) (v := Lib.itoa en) (r := txtEntry ++ Lib.itoa en) (by simp only [List.append_assoc]) rfl rfl rfl (by simp [txtEntry, phr3, txtAt, txtColon, txtMid, txtClose, txtGood, txtEntries, txtOctets]; omega) w1)) hS0 ?_
      simp only [Act.put, List.setIfInBounds_toArray, List.set_cons_succ, List.set_cons_zero]
      refine held_take 5 (v := _) rfl (by kernel_rfl) (by kernel_rfl) (by kernel_rfl) (fun _ _ _ h => h) (yieldsI_run rfl (fun w1 _ => exec_catR (u := txtEntry ++ Lib.itoa en) (v := txtAt) (r := txtEntry ++ (Lib.itoa en ++ txtAt)) (by simp only [List.append_assoc]) rfl rfl rfl (by simp [txtEntry, phr3, txtAt, txtColon, txtMid, txtClose, txtGood, txtEntries, txtOctets]; omega) w1)) hS0 ?_
      simp only [Act.put, List.setIfInBounds_toArray, List.set_cons_succ, List.set_cons_zero]
      refine held_one (i := 9) (by kernel_rfl) rfl ?_
      intro Q' hQ
      go_wp2_with fail
      refine (itoa_c a _ HB.out.a2 HB.out.b2 (hLW _ hS0).pw).mono ?_
      rintro e w2 ⟨rfl, eq9⟩
      have hS9 := hCx _ _ hS0 eq9
      go_wp2_with fail
      refine hQ _ _ hS9 ?_
      clear hQ Q' hS0 eq9
      have hS0 := hS9
      clear hS9
      try dsimp only
      try simp only [Act.put, List.setIfInBounds_toArray, List.set_cons_succ, List.set_cons_zero]
      refine held_take 10 (v := _) rfl (by kernel_rfl) (by kernel_rfl) (by kernel_rfl) (fun _ _ _ h => h) (yieldsI_run rfl (fun w1 _ => exec_catR (u := txtEntry ++ (Lib.itoa en ++ txtAt)) (v := Lib.itoa a) (r := txtEntry ++ (Lib.itoa en ++ (txtAt ++ Lib.itoa a))) (by simp only [List.append_assoc]) rfl rfl rfl (by simp [txtEntry, phr3, txtAt, txtColon, txtMid, txtClose, txtGood, txtEntries, txtOctets]; omega) w1)) hS0 ?_
      simp only [Act.put, List.setIfInBounds_toArray, List.set_cons_succ, List.set_cons_zero]
      refine held_take 11 (v := _) rfl (by kernel_rfl) (by kernel_rfl) (by kernel_rfl) (fun _ _ _ h => h) (yieldsI_run rfl (fun w1 _ => exec_catR (u := txtEntry ++ (Lib.itoa en ++ (txtAt ++ Lib.itoa a))) (v := txtColon) (r := txtEntry ++ (Lib.itoa en ++ (txtAt ++ (Lib.itoa a ++ txtColon)))) (by simp only [List.append_assoc]) rfl rfl rfl (by simp [txtEntry, phr3, txtAt, txtColon, txtMid, txtClose, txtGood, txtEntries, txtOctets]; omega) w1)) hS0 ?_
      simp only [Act.put, List.setIfInBounds_toArray, List.set_cons_succ, List.set_cons_zero]
      refine held_take 13 (v := _) rfl (by kernel_rfl) (by kernel_rfl) (by kernel_rfl) (fun _ _ _ h => h) (yieldsI_run rfl (fun w1 _ => exec_catR (u := txtEntry ++ (Lib.itoa en ++ (txtAt ++ (Lib.itoa a ++ txtColon)))) (v := phr3) (r := txtEntry ++ (Lib.itoa en ++ (txtAt ++ (Lib.itoa a ++ (txtColon ++ phr3))))) (by simp only [List.append_assoc]) rfl rfl rfl (by simp [txtEntry, phr3, txtAt, txtColon, txtMid, txtClose, txtGood, txtEntries, txtOctets]; omega) w1)) hS0 ?_
      simp only [Act.put, List.setIfInBounds_toArray, List.set_cons_succ, List.set_cons_zero]
      refine held_take 14 (v := _) rfl (by kernel_rfl) (by kernel_rfl) (by kernel_rfl) (fun _ _ _ h => h) (yieldsI_run rfl (fun w1 _ => exec_catR (u := txtEntry ++ (Lib.itoa en ++ (txtAt ++ (Lib.itoa a ++ (txtColon ++ phr3))))) (v := txtMid) (r := txtEntry ++ (Lib.itoa en ++ (txtAt ++ (Lib.itoa a ++ (txtColon ++ (phr3 ++ txtMid)))))) (by simp only [List.append_assoc]) rfl rfl rfl (by simp [txtEntry, phr3, txtAt, txtColon, txtMid, txtClose, txtGood, txtEntries, txtOctets]; omega) w1)) hS0 ?_
      simp only [Act.put, List.setIfInBounds_toArray, List.set_cons_succ, List.set_cons_zero]
      refine held_one (i := 18) (by kernel_rfl) rfl ?_
      intro Q' hQ
      go_wp2_with fail
      refine (itoa_c er _ HB.out.a3 HB.out.b3 (hLW _ hS0).pw).mono ?_
      rintro e w3 ⟨rfl, eq9⟩
      have hS9 := hCx _ _ hS0 eq9
      go_wp2_with fail
      refine hQ _ _ hS9 ?_
      clear hQ Q' hS0 eq9
      have hS0 := hS9
      clear hS9
      try dsimp only
      try simp only [Act.put, List.setIfInBounds_toArray, List.set_cons_succ, List.set_cons_zero]
      refine held_take 19 (v := _) rfl (by kernel_rfl) (by kernel_rfl) (by kernel_rfl) (fun _ _ _ h => h) (yieldsI_run rfl (fun w1 _ => exec_catR (u := txtEntry ++ (Lib.itoa en ++ (txtAt ++ (Lib.itoa a ++ (txtColon ++ (phr3 ++ txtMid)))))) (v := Lib.itoa er) (r := txtEntry ++ (Lib.itoa en ++ (txtAt ++ (Lib.itoa a ++ (txtColon ++ (phr3 ++ (txtMid ++ Lib.itoa er))))))) (by simp only [List.append_assoc]) rfl rfl rfl (by simp [txtEntry, phr3, txtAt, txtColon, txtMid, txtClose, txtGood, txtEntries, txtOctets]; omega) w1)) hS0 ?_
      simp only [Act.put, List.setIfInBounds_toArray, List.set_cons_succ, List.set_cons_zero]
      refine held_take 20 (v := _) rfl (by kernel_rfl) (by kernel_rfl) (by kernel_rfl) (fun _ _ _ h => h) (yieldsI_run rfl (fun w1 _ => exec_catR (u := txtEntry ++ (Lib.itoa en ++ (txtAt ++ (Lib.itoa a ++ (txtColon ++ (phr3 ++ (txtMid ++ Lib.itoa er))))))) (v := txtClose) (r := txtEntry ++ (Lib.itoa en ++ (txtAt ++ (Lib.itoa a ++ (txtColon ++ (phr3 ++ (txtMid ++ (Lib.itoa er ++ txtClose)))))))) (by simp only [List.append_assoc]) rfl rfl rfl (by simp [txtEntry, phr3, txtAt, txtColon, txtMid, txtClose, txtGood, txtEntries, txtOctets]; omega) w1)) hS0 ?_
      simp only [Act.put, List.setIfInBounds_toArray, List.set_cons_succ, List.set_cons_zero]
      refine held_take 21 (v := ?tv63) rfl (by kernel_rfl) (by kernel_rfl) (by kernel_rfl) (fun _ _ _ h => h) (.inl ⟨rfl, ?ty63⟩) hS0 ?tr63
      case ty63 => (intro _ _; go_simp; try with_reducible rfl)
      case tr63 =>
      simp only [Act.put, List.setIfInBounds_toArray, List.set_cons_succ, List.set_cons_zero]
      refine held_take 22 (v := ?tv64) rfl (by kernel_rfl) (by kernel_rfl) (by kernel_rfl) (fun _ _ _ h => h) (.inl ⟨rfl, ?ty64⟩) hS0 ?tr64
      case ty64 => (intro _ _; go_simp; try with_reducible rfl)
      case tr64 =>
      simp only [Act.put, List.setIfInBounds_toArray, List.set_cons_succ, List.set_cons_zero]
      refine wpAnyH_done (by kernel_rfl) ?_ _
      have EC := hid (EB.out.ext ((HCC.out _).1 hS0))
      clear hS0 hCx hCA HCC hc1 hc2 hc3 hLW
      go_wp2
      go_ret2
      exact ⟨by rw [HT.out.1, HT.out.2]; unfold explT; rw [if_neg Z1.out]; rfl, EC.out⟩
    · go_upto_region 11 with (fail)
      generalize hwB : World.alloc wA _ = wB
      have eB : Ext wA wB := by rw [← hwB]; exact (Ext.refl wA).alloc _
      have EB := hid (EA.out.ext eB)
      have BB := hid (BA.out.ext eB)
      clear hwB eB c0 c1 c2 c3 c00
      obtain ⟨C, hC⟩ : ∃ C : World → Prop, C = fun w' => Ext wB w' := ⟨_, rfl⟩
      have hC0 : ∀ w', C w' ↔ Ext wB w' := fun w' => by rw [hC]
      clear hC
      have HCC := hid hC0
      clear hC0
      have hCx : ∀ w w', C w → Ext w w' → C w' := fun w w' h1 h2 => (HCC.out w').2 (((HCC.out w).1 h1).ext h2)
      have hCA : C wB := (HCC.out _).2 (Ext.refl wB)
      have hc1 : ∀ w1, C w1 → w1.cell? ⟨w.heap.size, 1, none⟩ = some (.int .i64 en) := fun w1 h1 => (BB.out.ext ((HCC.out w1).1 h1)).cell' (i := 1) rfl
      have hc2 : ∀ w1, C w1 → w1.cell? ⟨w.heap.size, 2, none⟩ = some (.int .i64 a) := fun w1 h1 => (BB.out.ext ((HCC.out w1).1 h1)).cell' (i := 2) rfl
      have hc3 : ∀ w1, C w1 → w1.cell? ⟨w.heap.size, 3, none⟩ = some (.int .i64 er) := fun w1 h1 => (BB.out.ext ((HCC.out w1).1 h1)).cell' (i := 3) rfl
      have hLW : ∀ w1, C w1 → LibW w1 := fun w1 h1 => HW.out.ext (EB.out.ext ((HCC.out w1).1 h1))
      refine wp_region_held_drew (S := C) (by kernel_rfl) (hCx _ _ hCA (Ext.refl _).drew) (fun hS0 => ?_)
      refine held_take 0 (v := ?tv65) rfl (by kernel_rfl) (by kernel_rfl) (by kernel_rfl) (fun _ _ _ h => h) (.inl ⟨rfl, ?ty65⟩) hS0 ?tr65
      case ty65 => (intro _ _; go_simp; try with_reducible rfl)
      case tr65 =>
      simp only [Act.put, List.setIfInBounds_toArray, List.set_cons_succ, List.set_cons_zero]
      refine held_take 1 (v := ?tv66) rfl (by kernel_rfl) (by kernel_rfl) (by kernel_rfl) (fun _ _ _ h => h) (.inl ⟨rfl, ?ty66⟩) hS0 ?tr66
      case ty66 => (intro _ _; go_simp; try with_reducible rfl)
      case tr66 =>
      simp only [Act.put, List.setIfInBounds_toArray, List.set_cons_succ, List.set_cons_zero]
      refine held_take 2 (v := ?tv67) rfl (by kernel_rfl) (by kernel_rfl) (by kernel_rfl) (fun _ _ _ h => h) (.inl ⟨rfl, ?ty67⟩) hS0 ?tr67
      case ty67 => (intro wq hwq; have hcq := (hc1) wq hwq; go_simp; try with_reducible rfl)
      case tr67 =>
      simp only [Act.put, List.setIfInBounds_toArray, List.set_cons_succ, List.set_cons_zero]
      refine held_take 6 (v := ?tv68) rfl (by kernel_rfl) (by kernel_rfl) (by kernel_rfl) (fun _ _ _ h => h) (.inl ⟨rfl, ?ty68⟩) hS0 ?tr68
      case ty68 => (intro _ _; go_simp; try with_reducible rfl)
      case tr68 =>
      simp only [Act.put, List.setIfInBounds_toArray, List.set_cons_succ, List.set_cons_zero]
      refine held_take 7 (v := ?tv69) rfl (by kernel_rfl) (by kernel_rfl) (by kernel_rfl) (fun _ _ _ h => h) (.inl ⟨rfl, ?ty69⟩) hS0 ?tr69
      case ty69 => (intro _ _; go_simp; try with_reducible rfl)
      case tr69 =>
      simp only [Act.put, List.setIfInBounds_toArray, List.set_cons_succ, List.set_cons_zero]
      refine held_take 8 (v := ?tv70) rfl (by kernel_rfl) (by kernel_rfl) (by kernel_rfl) (fun _ _ _ h => h) (.inl ⟨rfl, ?ty70⟩) hS0 ?tr70
      case ty70 => (intro wq hwq; have hcq := (hc2) wq hwq; go_simp; try with_reducible rfl)
      case tr70 =>
      simp only [Act.put, List.setIfInBounds_toArray, List.set_cons_succ, List.set_cons_zero]
      refine held_take 12 (v := ?tv71) rfl (by kernel_rfl) (by kernel_rfl) (by kernel_rfl) (fun _ _ _ h => h) (.inl ⟨rfl, ?ty71⟩) hS0 ?tr71
      case ty71 => (intro _ _; go_simp; try with_reducible rfl)
      case tr71 =>
      simp only [Act.put, List.setIfInBounds_toArray, List.set_cons_succ, List.set_cons_zero]
      refine held_take 15 (v := ?tv72) rfl (by kernel_rfl) (by kernel_rfl) (by kernel_rfl) (fun _ _ _ h => h) (.inl ⟨rfl, ?ty72⟩) hS0 ?tr72
      case ty72 => (intro _ _; go_simp; try with_reducible rfl)
      case tr72 =>
      simp only [Act.put, List.setIfInBounds_toArray, List.set_cons_succ, List.set_cons_zero]
      refine held_take 16 (v := ?tv73) rfl (by kernel_rfl) (by kernel_rfl) (by kernel_rfl) (fun _ _ _ h => h) (.inl ⟨rfl, ?ty73⟩) hS0 ?tr73
      case ty73 => (intro _ _; go_simp; try with_reducible rfl)
      case tr73 =>
      simp only [Act.put, List.setIfInBounds_toArray, List.set_cons_succ, List.set_cons_zero]
      refine held_take 17 (v := ?tv74) rfl (by kernel_rfl) (by kernel_rfl) (by kernel_rfl) (fun _ _ _ h => h) (.inl ⟨rfl, ?ty74⟩) hS0 ?tr74
      case ty74 => (intro wq hwq; have hcq := (hc3) wq hwq; go_simp; try with_reducible rfl)
      case tr74 =>
      simp only [Act.put, List.setIfInBounds_toArray, List.set_cons_succ, List.set_cons_zero]
      refine held_one (i := 3) (by kernel_rfl) rfl ?_
      intro Q' hQ
      go_wp2_with fail
      refine (itoa_c en _ HB.out.a1 HB.out.b1 (hLW _ hS0).pw).mono ?_
      rintro e w1 ⟨rfl, eq9⟩
      have hS9 := hCx _ _ hS0 eq9
      go_wp2_with fail
      refine hQ _ _ hS9 ?_
      clear hQ Q' hS0 eq9
      have hS0 := hS9
      clear hS9
      try dsimp only
      try simp only [Act.put, List.setIfInBounds_toArray, List.set_cons_succ, List.set_cons_zero]
      refine held_take 4 (v := _) rfl (by kernel_rfl) (by kernel_rfl) (by kernel_rfl) (fun _ _ _ h => h) (yieldsI_run rfl (fun w1 _ => exec_catR (u := txtEntry) (v := Lib.itoa en) (r := txtEntry ++ Lib.itoa en) (by simp only [List.append_assoc]) rfl rfl rfl (by simp [txtEntry, phr4, txtAt, txtColon, txtMid, txtClose, txtGood, txtEntries, txtOctets]; omega) w1)) hS0 ?_
      simp only [Act.put, List.setIfInBounds_toArray, List.set_cons_succ, List.set_cons_zero]
      refine held_take 5 (v := _) rfl (by kernel_rfl) (by kernel_rfl) (by kernel_rfl) (fun _ _ _ h => h) (yieldsI_run rfl (fun w1 _ => exec_catR (u := txtEntry ++ Lib.itoa en) (v := txtAt) (r := txtEntry ++ (Lib.itoa en ++ txtAt)) (by simp only [List.append_assoc]) rfl rfl rfl (by simp [txtEntry, phr4, txtAt, txtColon, txtMid, txtClose, txtGood, txtEntries, txtOctets]; omega) w1)) hS0 ?_
      simp only [Act.put, List.setIfInBounds_toArray, List.set_cons_succ, List.set_cons_zero]
      refine held_one (i := 9) (by kernel_rfl) rfl ?_
      intro Q' hQ
      go_wp2_with fail
      refine (itoa_c a _ HB.out.a2 HB.out.b2 (hLW _ hS0).pw).mono ?_
      rintro e w2 ⟨rfl, eq9⟩
      have hS9 := hCx _ _ hS0 eq9
      go_wp2_with fail
      refine hQ _ _ hS9 ?_
      clear hQ Q' hS0 eq9
      have hS0 := hS9
      clear hS9
      try dsimp only
      try simp only [Act.put, List.setIfInBounds_toArray, List.set_cons_succ, List.set_cons_zero]
      refine held_take 10 (v := _) rfl (by kernel_rfl) (by kernel_rfl) (by kernel_rfl) (fun _ _ _ h => h) (yieldsI_run rfl (fun w1 _ => exec_catR (u := txtEntry ++ (Lib.itoa en ++ txtAt)) (v := Lib.itoa a) (r := txtEntry ++ (Lib.itoa en ++ (txtAt ++ Lib.itoa a))) (by simp only [List.append_assoc]) rfl rfl rfl (by simp [txtEntry, phr4, txtAt, txtColon, txtMid, txtClose, txtGood, txtEntries, txtOctets]; omega) w1)) hS0 ?_
      simp only [Act.put, List.setIfInBounds_toArray, List.set_cons_succ, List.set_cons_zero]
      refine held_take 11 (v := _) rfl (by kernel_rfl) (by kernel_rfl) (by kernel_rfl) (fun _ _ _ h => h) (yieldsI_run rfl (fun w1 _ => exec_catR (u := txtEntry ++ (Lib.itoa en ++ (txtAt ++ Lib.itoa a))) (v := txtColon) (r := txtEntry ++ (Lib.itoa en ++ (txtAt ++ (Lib.itoa a ++ txtColon)))) (by simp only [List.append_assoc]) rfl rfl rfl (by simp [txtEntry, phr4, txtAt, txtColon, txtMid, txtClose, txtGood, txtEntries, txtOctets]; omega) w1)) hS0 ?_
      simp only [Act.put, List.setIfInBounds_toArray, List.set_cons_succ, List.set_cons_zero]
      refine held_take 13 (v := _) rfl (by kernel_rfl) (by kernel_rfl) (by kernel_rfl) (fun _ _ _ h => h) (yieldsI_run rfl (fun w1 _ => exec_catR (u := txtEntry ++ (Lib.itoa en ++ (txtAt ++ (Lib.itoa a ++ txtColon)))) (v := phr4) (r := txtEntry ++ (Lib.itoa en ++ (txtAt ++ (Lib.itoa a ++ (txtColon ++ phr4))))) (by simp only [List.append_assoc]) rfl rfl rfl (by simp [txtEntry, phr4, txtAt, txtColon, txtMid, txtClose, txtGood, txtEntries, txtOctets]; omega) w1)) hS0 ?_
      simp only [Act.put, List.setIfInBounds_toArray, List.set_cons_succ, List.set_cons_zero]
      refine held_take 14 (v := _) rfl (by kernel_rfl) (by kernel_rfl) (by kernel_rfl) (fun _ _ _ h => h) (yieldsI_run rfl (fun w1 _ => exec_catR (u := txtEntry ++ (Lib.itoa en ++ (txtAt ++ (Lib.itoa a ++ (txtColon ++ phr4))))) (v := txtMid) (r := txtEntry ++ (Lib.itoa en ++ (txtAt ++ (Lib.itoa a ++ (txtColon ++ (phr4 ++ txtMid)))))) (by simp only [List.append_assoc]) rfl rfl rfl (by simp [txtEntry, phr4, txtAt, txtColon, txtMid, txtClose, txtGood, txtEntries, txtOctets]; omega) w1)) hS0 ?_
      simp only [Act.put, List.setIfInBounds_toArray, List.set_cons_succ, List.set_cons_zero]
      refine held_one (i := 18) (by kernel_rfl) rfl ?_
      intro Q' hQ
      go_wp2_with fail
      refine (itoa_c er _ HB.out.a3 HB.out.b3 (hLW _ hS0).pw).mono ?_
      rintro e w3 ⟨rfl, eq9⟩
      have hS9 := hCx _ _ hS0 eq9
      go_wp2_with fail
      refine hQ _ _ hS9 ?_
      clear hQ Q' hS0 eq9
      have hS0 := hS9
      clear hS9
      try dsimp only
      try simp only [Act.put, List.setIfInBounds_toArray, List.set_cons_succ, List.set_cons_zero]
      refine held_take 19 (v := _) rfl (by kernel_rfl) (by kernel_rfl) (by kernel_rfl) (fun _ _ _ h => h) (yieldsI_run rfl (fun w1 _ => exec_catR (u := txtEntry ++ (Lib.itoa en ++ (txtAt ++ (Lib.itoa a ++ (txtColon ++ (phr4 ++ txtMid)))))) (v := Lib.itoa er) (r := txtEntry ++ (Lib.itoa en ++ (txtAt ++ (Lib.itoa a ++ (txtColon ++ (phr4 ++ (txtMid ++ Lib.itoa er))))))) (by simp only [List.append_assoc]) rfl rfl rfl (by simp [txtEntry, phr4, txtAt, txtColon, txtMid, txtClose, txtGood, txtEntries, txtOctets]; omega) w1)) hS0 ?_
      simp only [Act.put, List.setIfInBounds_toArray, List.set_cons_succ, List.set_cons_zero]
      refine held_take 20 (v := _) rfl (by kernel_rfl) (by kernel_rfl) (by kernel_rfl) (fun _ _ _ h => h) (yieldsI_run rfl (fun w1 _ => exec_catR (u := txtEntry ++ (Lib.itoa en ++ (txtAt ++ (Lib.itoa a ++ (txtColon ++ (phr4 ++ (txtMid ++ Lib.itoa er))))))) (v := txtClose) (r := txtEntry ++ (Lib.itoa en ++ (txtAt ++ (Lib.itoa a ++ (txtColon ++ (phr4 ++ (txtMid ++ (Lib.itoa er ++ txtClose)))))))) (by simp only [List.append_assoc]) rfl rfl rfl (by simp [txtEntry, phr4, txtAt, txtColon, txtMid, txtClose, txtGood, txtEntries, txtOctets]; omega) w1)) hS0 ?_
      simp only [Act.put, List.setIfInBounds_toArray, List.set_cons_succ, List.set_cons_zero]
      refine held_take 21 (v := ?tv75) rfl (by kernel_rfl) (by kernel_rfl) (by kernel_rfl) (fun _ _ _ h => h) (.inl ⟨rfl, ?ty75⟩) hS0 ?tr75
      case ty75 => (intro _ _; go_simp; try with_reducible rfl)
      case tr75 =>
      simp only [Act.put, List.setIfInBounds_toArray, List.set_cons_succ, List.set_cons_zero]
      refine held_take 22 (v := ?tv76) rfl (by kernel_rfl) (by kernel_rfl) (by kernel_rfl) (fun _ _ _ h => h) (.inl ⟨rfl, ?ty76⟩) hS0 ?tr76
      case ty76 => (intro _ _; go_simp; try with_reducible rfl)
      case tr76 =>
      simp only [Act.put, List.setIfInBounds_toArray, List.set_cons_succ, List.set_cons_zero]
      refine wpAnyH_done (by kernel_rfl) ?_ _
      have EC := hid (EB.out.ext ((HCC.out _).1 hS0))
      clear hS0 hCx hCA HCC hc1 hc2 hc3 hLW
      go_wp2
      go_ret2
      exact ⟨by rw [HT.out.1, HT.out.2]; unfold explT; rw [if_neg Z1.out]; rfl, EC.out⟩
end Go.Proofs.YthfddfgncolnbaaDoor
