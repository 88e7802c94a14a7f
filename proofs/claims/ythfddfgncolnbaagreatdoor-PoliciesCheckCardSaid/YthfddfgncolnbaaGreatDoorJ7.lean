/- Contracts and laws that the claim's row leans on (4 texts, joined): Equal strings, ints, rules and policies, with the exact answer; conditions: the memory. policy.Parse; conditions: the text's size, the library's variables. policy.text and policy.Print; conditions: the policy's memory, the library's variables. The reference's closure that adds a part to the words of a rule; conditions: the memory. -/
import Derived.Test.YthfddfgncolnbaaGreatDoorJ6
namespace Go.Proofs.YthfddfgncolnbaaGreatDoor
section
open Go Go.RowKit

set_option maxRecDepth 100000 in
set_option maxHeartbeats 1000000 in
theorem eqStrsX_c (ls ms : List ByteArray) (a b : Option Addr) (n m c d : Nat) (w : World) (hl : ls.length = n) (hm : ms.length = m) (hn : n ≤ 140737488355328) (ha : Cells w a (ls.map encStr)) (hb : Cells w b (ms.map encStr)) :
    Calls Tryz.prog 27 #[.slice a n c, .slice b m d] w fun e w' => e = .returned (.bool (decide (ls = ms))) ∧ Ext w w' := by
  have HL := hid hl
  have HM := hid hm
  have HA := hid ha
  have HB := hid hb
  obtain ⟨R, hR⟩ : ∃ R, decide (ls = ms) = R := ⟨_, rfl⟩
  rw [hR]
  have HR := hid hR
  clear hl hm ha hb hR
  by_cases hnm : n ≠ m
  · have g1 : ((n : Int) != (m : Int)) = true := by simp; omega
    have g2 : decide ((n : Int) = (m : Int)) = false := decide_eq_false (by omega)
    have g3 : decide (n = m) = false := decide_eq_false hnm
    have HF := hid (show R = false by
      rw [← HR.out]
      exact decide_eq_false (fun e => hnm (by rw [← HL.out, ← HM.out, e])))
    go_enter Tryz.func27, Tryz.ntmps27
    go_wp2_with fail
    go_ret
    exact ⟨by rw [HF.out]; rfl, Ext.refl _⟩
  obtain rfl : n = m := by omega
  clear hnm
  go_enter Tryz.func27, Tryz.ntmps27
  go_wp2_with fail
  go_loopw [13] (fun i wr => ∃ k : Nat, k ≤ n ∧ i = .int .i64 (k : Int) ∧ Hid (ls.take k = ms.take k) ∧ Ext w wr) (fun i _ => n - (intOf i).toNat)
  case atStart => exact ⟨0, by omega, rfl, hid (by simp), Ext.refl _⟩
  case round =>
    obtain ⟨k, hk, rfl, hpre, e1⟩ := hrel
    have E1 := hid e1
    clear e1
    by_cases hlt : k < n
    · have d1 : decide ((k : Int) < (n : Int)) = true := decide_eq_true (by omega)
      have d2 : decide (k < n) = true := decide_eq_true hlt
      obtain ⟨x, hxk⟩ : ∃ x, ls[k]? = some x := ⟨ls[k]'(by rw [HL.out]; omega), List.getElem?_eq_getElem _⟩
      obtain ⟨y, hyk⟩ : ∃ y, ms[k]? = some y := ⟨ms[k]'(by rw [HM.out]; omega), List.getElem?_eq_getElem _⟩
      obtain ⟨A, rfl, hca⟩ := strs_at HA.out hxk
      obtain ⟨A2, rfl, hcb⟩ := strs_at HB.out hyk
      have CA := hid (cell_extU hca E1.out)
      have CB := hid (cell_extU hcb E1.out)
      have HXK := hid hxk
      have HYK := hid hyk
      clear hca hcb hxk hyk
      go_upto_region 6 with (fail)
      obtain ⟨C, hC⟩ : ∃ C : World → Prop, C = fun w' => Ext wr w' := ⟨_, rfl⟩
      have hC0 : ∀ w', C w' ↔ Ext wr w' := fun w' => by rw [hC]
      clear hC
      have HCC := hid hC0
      clear hC0
      have hCx : ∀ w w', C w → Ext w w' → C w' := fun w w' h1 h2 => (HCC.out w').2 (((HCC.out w).1 h1).ext h2)
      refine wp_region_held_drew (S := C) (by kernel_rfl) ((HCC.out _).2 (Ext.refl wr).drew) (fun hS0 => ?_)
      refine held_take 0 (v := ?tv211) rfl (by kernel_rfl) (by kernel_rfl) (by kernel_rfl) (fun _ _ _ h => h) (.inl ⟨rfl, ?ty211⟩) hS0 ?tr211
      case ty211 => (intro _ _; go_simp; try with_reducible rfl)
      case tr211 =>
      simp only [Act.put, List.setIfInBounds_toArray, List.set_cons_succ, List.set_cons_zero]
      refine held_take 1 (v := ?tv212) rfl (by kernel_rfl) (by kernel_rfl) (by kernel_rfl) (fun _ _ _ h => h) (.inl ⟨rfl, ?ty212⟩) hS0 ?tr212
      case ty212 => (intro _ _; go_simp; try with_reducible rfl)
      case tr212 =>
      simp only [Act.put, List.setIfInBounds_toArray, List.set_cons_succ, List.set_cons_zero]
      refine held_take 2 (v := _) rfl (by kernel_rfl) (by kernel_rfl) (by kernel_rfl) (fun _ _ _ h => h) (yieldsI_run rfl (fun w1 _ => exec_index (i := k) rfl rfl rfl Tryz.underlying42 size_str hlt w1)) hS0 ?_
      simp only [Act.put, List.setIfInBounds_toArray, List.set_cons_succ, List.set_cons_zero]
      refine held_take 3 (v := _) rfl (by kernel_rfl) (by kernel_rfl) (by kernel_rfl) (fun _ _ _ h => h) (yieldsI_run rfl (fun w1 h => exec_load_oneU rfl rfl (cell_extU CA.out ((HCC.out w1).1 h)) one_str)) hS0 ?_
      simp only [Act.put, List.setIfInBounds_toArray, List.set_cons_succ, List.set_cons_zero]
      refine held_take 4 (v := ?tv213) rfl (by kernel_rfl) (by kernel_rfl) (by kernel_rfl) (fun _ _ _ h => h) (.inl ⟨rfl, ?ty213⟩) hS0 ?tr213
      case ty213 => (intro _ _; go_simp; try with_reducible rfl)
      case tr213 =>
      simp only [Act.put, List.setIfInBounds_toArray, List.set_cons_succ, List.set_cons_zero]
      refine held_take 5 (v := ?tv214) rfl (by kernel_rfl) (by kernel_rfl) (by kernel_rfl) (fun _ _ _ h => h) (.inl ⟨rfl, ?ty214⟩) hS0 ?tr214
      case ty214 => (intro _ _; go_simp; try with_reducible rfl)
      case tr214 =>
      simp only [Act.put, List.setIfInBounds_toArray, List.set_cons_succ, List.set_cons_zero]
      refine held_take 6 (v := _) rfl (by kernel_rfl) (by kernel_rfl) (by kernel_rfl) (fun _ _ _ h => h) (yieldsI_run rfl (fun w1 _ => exec_index (i := k) rfl rfl rfl Tryz.underlying42 size_str hlt w1)) hS0 ?_
      simp only [Act.put, List.setIfInBounds_toArray, List.set_cons_succ, List.set_cons_zero]
      refine held_take 7 (v := _) rfl (by kernel_rfl) (by kernel_rfl) (by kernel_rfl) (fun _ _ _ h => h) (yieldsI_run rfl (fun w1 h => exec_load_oneU rfl rfl (cell_extU CB.out ((HCC.out w1).1 h)) one_str)) hS0 ?_
      simp only [Act.put, List.setIfInBounds_toArray, List.set_cons_succ, List.set_cons_zero]
      have qe := bytes_eqW x y
      by_cases hxy : x = y
      · rw [decide_eq_true hxy] at qe
        have HN := hid (show ls.take (k + 1) = ms.take (k + 1) by rw [List.take_add_one, List.take_add_one, HXK.out, HYK.out, hpre.out, hxy])
        clear hxy
        refine held_take 8 (v := ?tv215) rfl (by kernel_rfl) (by kernel_rfl) (by kernel_rfl) (fun _ _ _ h => h) (.inl ⟨rfl, ?ty215⟩) hS0 ?tr215
        case ty215 => (intro _ _; go_simp; try with_reducible rfl)
        case tr215 =>
        simp only [Act.put, List.setIfInBounds_toArray, List.set_cons_succ, List.set_cons_zero]
        refine wpAnyH_done (by kernel_rfl) ?_ _
        have hqx := (HCC.out _).1 hS0
        go_wp2_with fail
        go_roundw
        case rel => exact ⟨k + 1, by omega, by go_num, HN.out, E1.out.ext hqx⟩
        case measure => simp [intOf]; omega
      · rw [decide_eq_false hxy] at qe
        have HF := hid (show R = false by
          rw [← HR.out]
          exact decide_eq_false (fun e => hxy (by
            have h1 := HXK.out
            rw [e, HYK.out] at h1
            injection h1 with h1
            exact h1.symm)))
        clear hxy
        refine held_take 8 (v := ?tv315) rfl (by kernel_rfl) (by kernel_rfl) (by kernel_rfl) (fun _ _ _ h => h) (.inl ⟨rfl, ?ty315⟩) hS0 ?tr315
        case ty315 => (intro _ _; go_simp; try with_reducible rfl)
        case tr315 =>
        simp only [Act.put, List.setIfInBounds_toArray, List.set_cons_succ, List.set_cons_zero]
        refine wpAnyH_done (by kernel_rfl) ?_ _
        have hqx := (HCC.out _).1 hS0
        go_wp2_with fail
        go_ret
        exact ⟨by rw [HF.out]; rfl, E1.out.ext hqx⟩
    · obtain rfl : k = n := by omega
      have d1 : decide ((k : Int) < (k : Int)) = false := decide_eq_false (by omega)
      have hall := hpre.out
      rw [List.take_of_length_le (by rw [HL.out]; exact Nat.le_refl _), List.take_of_length_le (by rw [HM.out]; exact Nat.le_refl _)] at hall
      have HT := hid (show R = true by rw [← HR.out]; exact decide_eq_true hall)
      clear hall hpre
      go_wp2_with fail
      go_ret
      exact ⟨by rw [HT.out]; rfl, E1.out⟩
set_option maxRecDepth 100000 in
set_option maxHeartbeats 1000000 in
theorem eqIntsX_c (ls ms : List Int) (a b : Option Addr) (n m c d : Nat) (w : World) (hl : ls.length = n) (hm : ms.length = m) (hn : n ≤ 140737488355328) (ha : Cells w a (ls.map encI)) (hb : Cells w b (ms.map encI)) :
    Calls Tryz.prog 28 #[.slice a n c, .slice b m d] w fun e w' => e = .returned (.bool (decide (ls = ms))) ∧ Ext w w' := by
  have HL := hid hl
  have HM := hid hm
  have HA := hid ha
  have HB := hid hb
  obtain ⟨R, hR⟩ : ∃ R, decide (ls = ms) = R := ⟨_, rfl⟩
  rw [hR]
  have HR := hid hR
  clear hl hm ha hb hR
  by_cases hnm : n ≠ m
  · have g1 : ((n : Int) != (m : Int)) = true := by simp; omega
    have g2 : decide ((n : Int) = (m : Int)) = false := decide_eq_false (by omega)
    have g3 : decide (n = m) = false := decide_eq_false hnm
    have HF := hid (show R = false by
      rw [← HR.out]
      exact decide_eq_false (fun e => hnm (by rw [← HL.out, ← HM.out, e])))
    go_enter Tryz.func28, Tryz.ntmps28
    go_wp2_with fail
    go_ret
    exact ⟨by rw [HF.out]; rfl, Ext.refl _⟩
  obtain rfl : n = m := by omega
  clear hnm
  go_enter Tryz.func28, Tryz.ntmps28
  go_wp2_with fail
  go_loopw [13] (fun i wr => ∃ k : Nat, k ≤ n ∧ i = .int .i64 (k : Int) ∧ Hid (ls.take k = ms.take k) ∧ Ext w wr) (fun i _ => n - (intOf i).toNat)
  case atStart => exact ⟨0, by omega, rfl, hid (by simp), Ext.refl _⟩
  case round =>
    obtain ⟨k, hk, rfl, hpre, e1⟩ := hrel
    have E1 := hid e1
    clear e1
    by_cases hlt : k < n
    · have d1 : decide ((k : Int) < (n : Int)) = true := decide_eq_true (by omega)
      have d2 : decide (k < n) = true := decide_eq_true hlt
      obtain ⟨x, hxk⟩ : ∃ x, ls[k]? = some x := ⟨ls[k]'(by rw [HL.out]; omega), List.getElem?_eq_getElem _⟩
      obtain ⟨y, hyk⟩ : ∃ y, ms[k]? = some y := ⟨ms[k]'(by rw [HM.out]; omega), List.getElem?_eq_getElem _⟩
      obtain ⟨A, rfl, hca⟩ := ints_atP HA.out hxk
      obtain ⟨A2, rfl, hcb⟩ := ints_atP HB.out hyk
      have CA := hid (cell_extU hca E1.out)
      have CB := hid (cell_extU hcb E1.out)
      have HXK := hid hxk
      have HYK := hid hyk
      clear hca hcb hxk hyk
      go_upto_region 6 with (fail)
      obtain ⟨C, hC⟩ : ∃ C : World → Prop, C = fun w' => Ext wr w' := ⟨_, rfl⟩
      have hC0 : ∀ w', C w' ↔ Ext wr w' := fun w' => by rw [hC]
      clear hC
      have HCC := hid hC0
      clear hC0
      have hCx : ∀ w w', C w → Ext w w' → C w' := fun w w' h1 h2 => (HCC.out w').2 (((HCC.out w).1 h1).ext h2)
      refine wp_region_held_drew (S := C) (by kernel_rfl) ((HCC.out _).2 (Ext.refl wr).drew) (fun hS0 => ?_)
      refine held_take 0 (v := ?tv211) rfl (by kernel_rfl) (by kernel_rfl) (by kernel_rfl) (fun _ _ _ h => h) (.inl ⟨rfl, ?ty211⟩) hS0 ?tr211
      case ty211 => (intro _ _; go_simp; try with_reducible rfl)
      case tr211 =>
      simp only [Act.put, List.setIfInBounds_toArray, List.set_cons_succ, List.set_cons_zero]
      refine held_take 1 (v := ?tv212) rfl (by kernel_rfl) (by kernel_rfl) (by kernel_rfl) (fun _ _ _ h => h) (.inl ⟨rfl, ?ty212⟩) hS0 ?tr212
      case ty212 => (intro _ _; go_simp; try with_reducible rfl)
      case tr212 =>
      simp only [Act.put, List.setIfInBounds_toArray, List.set_cons_succ, List.set_cons_zero]
      refine held_take 2 (v := _) rfl (by kernel_rfl) (by kernel_rfl) (by kernel_rfl) (fun _ _ _ h => h) (yieldsI_run rfl (fun w1 _ => exec_index (i := k) rfl rfl rfl Tryz.underlying49 size_intP hlt w1)) hS0 ?_
      simp only [Act.put, List.setIfInBounds_toArray, List.set_cons_succ, List.set_cons_zero]
      refine held_take 3 (v := _) rfl (by kernel_rfl) (by kernel_rfl) (by kernel_rfl) (fun _ _ _ h => h) (yieldsI_run rfl (fun w1 h => exec_load_oneU rfl rfl (cell_extU CA.out ((HCC.out w1).1 h)) one_tI)) hS0 ?_
      simp only [Act.put, List.setIfInBounds_toArray, List.set_cons_succ, List.set_cons_zero]
      refine held_take 4 (v := ?tv213) rfl (by kernel_rfl) (by kernel_rfl) (by kernel_rfl) (fun _ _ _ h => h) (.inl ⟨rfl, ?ty213⟩) hS0 ?tr213
      case ty213 => (intro _ _; go_simp; try with_reducible rfl)
      case tr213 =>
      simp only [Act.put, List.setIfInBounds_toArray, List.set_cons_succ, List.set_cons_zero]
      refine held_take 5 (v := ?tv214) rfl (by kernel_rfl) (by kernel_rfl) (by kernel_rfl) (fun _ _ _ h => h) (.inl ⟨rfl, ?ty214⟩) hS0 ?tr214
      case ty214 => (intro _ _; go_simp; try with_reducible rfl)
      case tr214 =>
      simp only [Act.put, List.setIfInBounds_toArray, List.set_cons_succ, List.set_cons_zero]
      refine held_take 6 (v := _) rfl (by kernel_rfl) (by kernel_rfl) (by kernel_rfl) (fun _ _ _ h => h) (yieldsI_run rfl (fun w1 _ => exec_index (i := k) rfl rfl rfl Tryz.underlying49 size_intP hlt w1)) hS0 ?_
      simp only [Act.put, List.setIfInBounds_toArray, List.set_cons_succ, List.set_cons_zero]
      refine held_take 7 (v := _) rfl (by kernel_rfl) (by kernel_rfl) (by kernel_rfl) (fun _ _ _ h => h) (yieldsI_run rfl (fun w1 h => exec_load_oneU rfl rfl (cell_extU CB.out ((HCC.out w1).1 h)) one_tI)) hS0 ?_
      simp only [Act.put, List.setIfInBounds_toArray, List.set_cons_succ, List.set_cons_zero]
      have qe := show ((x == y) = decide (x = y)) from rfl
      by_cases hxy : x = y
      · rw [decide_eq_true hxy] at qe
        have HN := hid (show ls.take (k + 1) = ms.take (k + 1) by rw [List.take_add_one, List.take_add_one, HXK.out, HYK.out, hpre.out, hxy])
        clear hxy
        refine held_take 8 (v := ?tv215) rfl (by kernel_rfl) (by kernel_rfl) (by kernel_rfl) (fun _ _ _ h => h) (.inl ⟨rfl, ?ty215⟩) hS0 ?tr215
        case ty215 => (intro _ _; go_simp; try with_reducible rfl)
        case tr215 =>
        simp only [Act.put, List.setIfInBounds_toArray, List.set_cons_succ, List.set_cons_zero]
        refine wpAnyH_done (by kernel_rfl) ?_ _
        have hqx := (HCC.out _).1 hS0
        go_wp2_with fail
        go_roundw
        case rel => exact ⟨k + 1, by omega, by go_num, HN.out, E1.out.ext hqx⟩
        case measure => simp [intOf]; omega
      · rw [decide_eq_false hxy] at qe
        have HF := hid (show R = false by
          rw [← HR.out]
          exact decide_eq_false (fun e => hxy (by
            have h1 := HXK.out
            rw [e, HYK.out] at h1
            injection h1 with h1
            exact h1.symm)))
        clear hxy
        refine held_take 8 (v := ?tv315) rfl (by kernel_rfl) (by kernel_rfl) (by kernel_rfl) (fun _ _ _ h => h) (.inl ⟨rfl, ?ty315⟩) hS0 ?tr315
        case ty315 => (intro _ _; go_simp; try with_reducible rfl)
        case tr315 =>
        simp only [Act.put, List.setIfInBounds_toArray, List.set_cons_succ, List.set_cons_zero]
        refine wpAnyH_done (by kernel_rfl) ?_ _
        have hqx := (HCC.out _).1 hS0
        go_wp2_with fail
        go_ret
        exact ⟨by rw [HF.out]; rfl, E1.out.ext hqx⟩
    · obtain rfl : k = n := by omega
      have d1 : decide ((k : Int) < (k : Int)) = false := decide_eq_false (by omega)
      have hall := hpre.out
      rw [List.take_of_length_le (by rw [HL.out]; exact Nat.le_refl _), List.take_of_length_le (by rw [HM.out]; exact Nat.le_refl _)] at hall
      have HT := hid (show R = true by rw [← HR.out]; exact decide_eq_true hall)
      clear hall hpre
      go_wp2_with fail
      go_ret
      exact ⟨by rw [HT.out]; rfl, E1.out⟩
def sameB (x y : RuleR) : Bool := decide (x.deny = y.deny) && decide (x.roles = y.roles) && decide (x.acts = y.acts) && decide (x.labels = y.labels) && decide (x.fr = y.fr) && decide (x.tt = y.tt) && decide (x.nd = y.nd) && decide (x.ow = y.ow)
def sameRs : List RuleR → List RuleR → Bool
  | [], [] => true
  | x :: xs, y :: ys => sameB x y && sameRs xs ys
  | _, _ => false
theorem sameRs_bare : ∀ xs ys : List RuleR, sameRs xs (ys.map RuleR.bare) = sameRs xs ys
  | [], [] => rfl
  | [], _ :: _ => rfl
  | _ :: _, [] => rfl
  | x :: xs, y :: ys => by
    show (sameB x y.bare && sameRs xs (ys.map RuleR.bare)) = (sameB x y && sameRs xs ys)
    rw [sameRs_bare xs ys]; rfl
theorem sameRs_len : ∀ {xs ys : List RuleR}, sameRs xs ys = true → xs.length = ys.length
  | [], [], _ => rfl
  | [], _ :: _, h => by cases h
  | _ :: _, [], h => by cases h
  | x :: xs, y :: ys, h => by
    simp only [sameRs, Bool.and_eq_true] at h
    simp [sameRs_len h.2]
theorem sameRs_no {xs ys : List RuleR} {k : Nat} {x y : RuleR} (hx : xs[k]? = some x) (hy : ys[k]? = some y) (h : sameB x y = false) : sameRs xs ys = false := by
  induction k generalizing xs ys with
  | zero =>
    cases xs <;> cases ys <;> simp_all [sameRs]
  | succ k ih =>
    cases xs with
    | nil => simp at hx
    | cons p ps =>
      cases ys with
      | nil => simp at hy
      | cons q qs =>
        simp only [List.getElem?_cons_succ] at hx hy
        simp [sameRs, ih hx hy]
theorem sameRs_yes : ∀ {xs ys : List RuleR}, xs.length = ys.length → (∀ (k : Nat) (x y : RuleR), xs[k]? = some x → ys[k]? = some y → sameB x y = true) → sameRs xs ys = true
  | [], [], _, _ => rfl
  | [], _ :: _, h, _ => by simp at h
  | _ :: _, [], h, _ => by simp at h
  | x :: xs, y :: ys, h, hk => by
    simp only [sameRs, Bool.and_eq_true]
    exact ⟨hk 0 x y rfl rfl, sameRs_yes (by simpa using h) fun k a b ha hb => hk (k + 1) a b (by simpa using ha) (by simpa using hb)⟩

set_option maxRecDepth 100000 in
set_option maxHeartbeats 2000000 in
theorem sameRuleX_c (x y : RuleR) (w : World) (hx : x.Ok w) (hy : y.Ok w) :
    Calls Tryz.prog 26 #[.agg x.v.toArray, .agg y.v.toArray] w fun e w' => e = .returned (.bool (sameB x y)) ∧ Ext w w' := by
  have HX := hid hx
  have HY := hid hy
  have hm1 := hx.rm
  have hm2 := hx.am
  have hm3 := hx.lm
  have q0 : (x.deny == y.deny) = decide (x.deny = y.deny) := rfl
  have q4 : (x.fr == y.fr) = decide (x.fr = y.fr) := rfl
  have q5 : (x.tt == y.tt) = decide (x.tt = y.tt) := rfl
  have q6 : (x.nd == y.nd) = decide (x.nd = y.nd) := rfl
  have q7 := bytes_eqW x.ow y.ow
  have hE1 := hid (fun w1 (h : Ext w w1) => eqStrsX_c x.roles y.roles x.ra y.ra x.rn y.rn x.rc y.rc w1 HX.out.rl HY.out.rl (by omega) (HX.out.rcell.ext h) (HY.out.rcell.ext h))
  have hE2 := hid (fun w1 (h : Ext w w1) => eqIntsX_c x.acts y.acts x.aa y.aa x.an y.an x.ac y.ac w1 HX.out.al HY.out.al (by omega) (HX.out.acell.ext h) (HY.out.acell.ext h))
  have hE3 := hid (fun w1 (h : Ext w w1) => eqStrsX_c x.labels y.labels x.la y.la x.ln y.ln x.lc y.lc w1 HX.out.ll HY.out.ll (by omega) (HX.out.lcell.ext h) (HY.out.lcell.ext h))
  have hS : sameB x y = (decide (x.deny = y.deny) && decide (x.roles = y.roles) && decide (x.acts = y.acts) && decide (x.labels = y.labels) && decide (x.fr = y.fr) && decide (x.tt = y.tt) && decide (x.nd = y.nd) && decide (x.ow = y.ow)) := rfl
  rw [hS]
  clear hS hx hy hm1 hm2 hm3
  generalize decide (x.deny = y.deny) = b0 at *
  generalize decide (x.roles = y.roles) = b1 at *
  generalize decide (x.acts = y.acts) = b2 at *
  generalize decide (x.labels = y.labels) = b3 at *
  generalize decide (x.fr = y.fr) = b4 at *
  generalize decide (x.tt = y.tt) = b5 at *
  generalize decide (x.nd = y.nd) = b6 at *
  generalize decide (x.ow = y.ow) = b7 at *
  go_enter Tryz.func26, Tryz.ntmps26
  go_upto_region 1 with (fail)
  generalize hwA : World.alloc (World.alloc w _) _ = wA
  have bX : Blk wA w.heap.size x.v 51 := by rw [← hwA]; exact (Blk.mk_alloc rfl rfl).alloc _
  have bY : Blk wA (w.heap.size + 1) y.v 51 := by rw [← hwA]; exact Blk.mk_alloc (size_allocP _ _).symm rfl
  have eA : Ext w wA := by rw [← hwA]; exact ((Ext.refl w).alloc _).alloc _
  have BX := hid bX
  have BY := hid bY
  have EA := hid eA
  have x0 := bX.cell' (i := 0) rfl
  have y0 := bY.cell' (i := 0) rfl
  have x1 := bX.cell' (i := 1) rfl
  have y1 := bY.cell' (i := 1) rfl
  clear hwA bX bY eA
  cases b0 with
  | false =>
    go_wp2_with fail
    go_ret
    exact ⟨rfl, EA.out⟩
  | true =>
  go_wp2_with fail
  refine (hE1.out wA EA.out).mono ?_
  rintro e wB ⟨rfl, eB⟩
  have EB := hid (EA.out.ext eB)
  have BX2 := hid (BX.out.ext eB)
  have BY2 := hid (BY.out.ext eB)
  have x2 := BX2.out.cell' (i := 2) rfl
  have y2 := BY2.out.cell' (i := 2) rfl
  clear eB BX BY EA x0 y0 x1 y1 hE1 q0
  cases b1 with
  | false =>
    go_wp2_with fail
    go_ret
    exact ⟨rfl, EB.out⟩
  | true =>
  go_wp2_with fail
  refine (hE2.out wB EB.out).mono ?_
  rintro e wC ⟨rfl, eC⟩
  have EC := hid (EB.out.ext eC)
  have BX3 := hid (BX2.out.ext eC)
  have BY3 := hid (BY2.out.ext eC)
  have x3 := BX3.out.cell' (i := 3) rfl
  have y3 := BY3.out.cell' (i := 3) rfl
  clear eC BX2 BY2 EB x2 y2 hE2
  cases b2 with
  | false =>
    go_wp2_with fail
    go_ret
    exact ⟨rfl, EC.out⟩
  | true =>
  go_wp2_with fail
  refine (hE3.out wC EC.out).mono ?_
  rintro e wD ⟨rfl, eD⟩
  have ED := hid (EC.out.ext eD)
  have bX := BX3.out.ext eD
  have bY := BY3.out.ext eD
  have x4 := bX.cell' (i := 4) rfl
  have y4 := bY.cell' (i := 4) rfl
  have x5 := bX.cell' (i := 5) rfl
  have y5 := bY.cell' (i := 5) rfl
  have x6 := bX.cell' (i := 6) rfl
  have y6 := bY.cell' (i := 6) rfl
  have x7 := bX.cell' (i := 7) rfl
  have y7 := bY.cell' (i := 7) rfl
  clear eD bX bY BX3 BY3 EC x3 y3 hE3
  cases b3 with
  | false =>
    go_wp2_with fail
    go_ret
    exact ⟨rfl, ED.out⟩
  | true =>
  cases b4 with
  | false =>
    go_wp2_with fail
    go_ret
    exact ⟨rfl, ED.out⟩
  | true =>
  cases b5 with
  | false =>
    go_wp2_with fail
    go_ret
    exact ⟨rfl, ED.out⟩
  | true =>
  cases b6 with
  | false =>
    go_wp2_with fail
    go_ret
    exact ⟨rfl, ED.out⟩
  | true =>
  cases b7
  all_goals (
    go_wp2_with fail
    go_ret
    exact ⟨rfl, ED.out⟩)

set_option maxRecDepth 100000 in
set_option maxHeartbeats 2000000 in
theorem sameRuleQ_c (x y : RuleR) (w : World) (hx : x.Ok w) (hy : y.Ok w) :
    Calls Tryz.prog 31 #[.agg x.v.toArray, .agg y.v.toArray] w fun e w' => e = .returned (.bool (sameB x y)) ∧ Ext w w' := by
  have HX := hid hx
  have HY := hid hy
  have hm1 := hx.rm
  have hm2 := hx.am
  have hm3 := hx.lm
  have q0 : (x.deny == y.deny) = decide (x.deny = y.deny) := rfl
  have q4 : (x.fr == y.fr) = decide (x.fr = y.fr) := rfl
  have q5 : (x.tt == y.tt) = decide (x.tt = y.tt) := rfl
  have q6 : (x.nd == y.nd) = decide (x.nd = y.nd) := rfl
  have q7 := bytes_eqW x.ow y.ow
  have hE1 := hid (fun w1 (h : Ext w w1) => eqStrsX_c x.roles y.roles x.ra y.ra x.rn y.rn x.rc y.rc w1 HX.out.rl HY.out.rl (by omega) (HX.out.rcell.ext h) (HY.out.rcell.ext h))
  have hE2 := hid (fun w1 (h : Ext w w1) => eqIntsX_c x.acts y.acts x.aa y.aa x.an y.an x.ac y.ac w1 HX.out.al HY.out.al (by omega) (HX.out.acell.ext h) (HY.out.acell.ext h))
  have hE3 := hid (fun w1 (h : Ext w w1) => eqStrsX_c x.labels y.labels x.la y.la x.ln y.ln x.lc y.lc w1 HX.out.ll HY.out.ll (by omega) (HX.out.lcell.ext h) (HY.out.lcell.ext h))
  have hS : sameB x y = (decide (x.deny = y.deny) && decide (x.roles = y.roles) && decide (x.acts = y.acts) && decide (x.labels = y.labels) && decide (x.fr = y.fr) && decide (x.tt = y.tt) && decide (x.nd = y.nd) && decide (x.ow = y.ow)) := rfl
  rw [hS]
  clear hS hx hy hm1 hm2 hm3
  generalize decide (x.deny = y.deny) = b0 at *
  generalize decide (x.roles = y.roles) = b1 at *
  generalize decide (x.acts = y.acts) = b2 at *
  generalize decide (x.labels = y.labels) = b3 at *
  generalize decide (x.fr = y.fr) = b4 at *
  generalize decide (x.tt = y.tt) = b5 at *
  generalize decide (x.nd = y.nd) = b6 at *
  generalize decide (x.ow = y.ow) = b7 at *
  go_enter Tryz.func31, Tryz.ntmps31
  go_upto_region 1 with (fail)
  generalize hwA : World.alloc (World.alloc w _) _ = wA
  have bX : Blk wA w.heap.size x.v 51 := by rw [← hwA]; exact (Blk.mk_alloc rfl rfl).alloc _
  have bY : Blk wA (w.heap.size + 1) y.v 51 := by rw [← hwA]; exact Blk.mk_alloc (size_allocP _ _).symm rfl
  have eA : Ext w wA := by rw [← hwA]; exact ((Ext.refl w).alloc _).alloc _
  have BX := hid bX
  have BY := hid bY
  have EA := hid eA
  have x0 := bX.cell' (i := 0) rfl
  have y0 := bY.cell' (i := 0) rfl
  have x1 := bX.cell' (i := 1) rfl
  have y1 := bY.cell' (i := 1) rfl
  clear hwA bX bY eA
  cases b0 with
  | false =>
    go_wp2_with fail
    go_ret
    exact ⟨rfl, EA.out⟩
  | true =>
  go_wp2_with fail
  refine (hE1.out wA EA.out).mono ?_
  rintro e wB ⟨rfl, eB⟩
  have EB := hid (EA.out.ext eB)
  have BX2 := hid (BX.out.ext eB)
  have BY2 := hid (BY.out.ext eB)
  have x2 := BX2.out.cell' (i := 2) rfl
  have y2 := BY2.out.cell' (i := 2) rfl
  clear eB BX BY EA x0 y0 x1 y1 hE1 q0
  cases b1 with
  | false =>
    go_wp2_with fail
    go_ret
    exact ⟨rfl, EB.out⟩
  | true =>
  go_wp2_with fail
  refine (hE2.out wB EB.out).mono ?_
  rintro e wC ⟨rfl, eC⟩
  have EC := hid (EB.out.ext eC)
  have BX3 := hid (BX2.out.ext eC)
  have BY3 := hid (BY2.out.ext eC)
  have x3 := BX3.out.cell' (i := 3) rfl
  have y3 := BY3.out.cell' (i := 3) rfl
  clear eC BX2 BY2 EB x2 y2 hE2
  cases b2 with
  | false =>
    go_wp2_with fail
    go_ret
    exact ⟨rfl, EC.out⟩
  | true =>
  go_wp2_with fail
  refine (hE3.out wC EC.out).mono ?_
  rintro e wD ⟨rfl, eD⟩
  have ED := hid (EC.out.ext eD)
  have bX := BX3.out.ext eD
  have bY := BY3.out.ext eD
  have x4 := bX.cell' (i := 4) rfl
  have y4 := bY.cell' (i := 4) rfl
  have x5 := bX.cell' (i := 5) rfl
  have y5 := bY.cell' (i := 5) rfl
  have x6 := bX.cell' (i := 6) rfl
  have y6 := bY.cell' (i := 6) rfl
  have x7 := bX.cell' (i := 7) rfl
  have y7 := bY.cell' (i := 7) rfl
  clear eD bX bY BX3 BY3 EC x3 y3 hE3
  cases b3 with
  | false =>
    go_wp2_with fail
    go_ret
    exact ⟨rfl, ED.out⟩
  | true =>
  cases b4 with
  | false =>
    go_wp2_with fail
    go_ret
    exact ⟨rfl, ED.out⟩
  | true =>
  cases b5 with
  | false =>
    go_wp2_with fail
    go_ret
    exact ⟨rfl, ED.out⟩
  | true =>
  cases b6 with
  | false =>
    go_wp2_with fail
    go_ret
    exact ⟨rfl, ED.out⟩
  | true =>
  cases b7
  all_goals (
    go_wp2_with fail
    go_ret
    exact ⟨rfl, ED.out⟩)

set_option maxRecDepth 100000 in
set_option maxHeartbeats 2000000 in
theorem eqRulesX_c (xs ys : List RuleR) (a b : Option Addr) (n m c d : Nat) (w : World) (hx : PolOk w a n c xs) (hy : PolOk w b m d ys) :
    Calls Tryz.prog 25 #[.slice a n c, .slice b m d, .func (.func 26) #[] #[]] w fun e w' => e = .returned (.bool (sameRs xs ys)) ∧ Ext w w' := by
  have HX := hid hx
  have HY := hid hy
  have hn := hx.hm
  have HAG := hid agg_rule
  obtain ⟨R, hR⟩ : ∃ R, sameRs xs ys = R := ⟨_, rfl⟩
  rw [hR]
  have HR := hid hR
  clear hx hy hR
  by_cases hnm : n ≠ m
  · have g1 : ((n : Int) != (m : Int)) = true := by simp; omega
    have g2 : decide ((n : Int) = (m : Int)) = false := decide_eq_false (by omega)
    have g3 : decide (n = m) = false := decide_eq_false hnm
    have HF := hid (show R = false by
      rw [← HR.out]
      cases hq : sameRs xs ys with
      | false => rfl
      | true => exact absurd (sameRs_len hq) (by rw [HX.out.hl, HY.out.hl]; exact hnm))
    go_enter Tryz.func25, Tryz.ntmps25
    go_wp2_with fail
    go_ret
    exact ⟨by rw [HF.out]; rfl, Ext.refl _⟩
  obtain rfl : n = m := by omega
  clear hnm
  go_enter Tryz.func25, Tryz.ntmps25
  go_wp2
  go_loopw [17] (fun i wr => ∃ k : Nat, k ≤ n ∧ i = .int .i64 (k : Int) ∧ Hid (∀ (j : Nat) (x y : RuleR), j < k → xs[j]? = some x → ys[j]? = some y → sameB x y = true) ∧ Ext w wr) (fun i _ => n - (intOf i).toNat)
  case atStart => exact ⟨0, by omega, rfl, hid (fun j x y h => by omega), Ext.refl _⟩
  case round =>
    obtain ⟨k, hk, rfl, hpre, e1⟩ := hrel
    have E1 := hid e1
    clear e1
    by_cases hlt : k < n
    · obtain ⟨x, hxk⟩ : ∃ x, xs[k]? = some x := ⟨xs[k]'(by rw [HX.out.hl]; exact hlt), by simp⟩
      obtain ⟨y, hyk⟩ : ∃ y, ys[k]? = some y := ⟨ys[k]'(by rw [HY.out.hl]; exact hlt), by simp⟩
      have HXK := hid hxk
      have HYK := hid hyk
      obtain ⟨A, rfl, hca⟩ := (HX.out.ext E1.out).at hxk
      obtain ⟨A2, rfl, hcb⟩ := (HY.out.ext E1.out).at hyk
      have HCA := hid hca
      have HCB := hid hcb
      have HXO := hid ((HX.out.ext E1.out).ok x (List.mem_of_getElem? hxk))
      have HYO := hid ((HY.out.ext E1.out).ok y (List.mem_of_getElem? hyk))
      have HXL := hid (RuleR.len x)
      have HYL := hid (RuleR.len y)
      have o1 := ruleV_one x
      have o2 := ruleV_one y
      clear hca hcb hxk hyk
      go_wp2_with (first | (refine wpl_run rfl (exec_index (i := k) rfl rfl rfl Tryz.underlying23 size_rule hlt _) ?_) | (refine wpl_run rfl (exec_load_at rfl rfl HCA.out HAG.out HXL.out) ?_) | (refine wpl_storew rfl _ (.tmp 8) _ rfl rfl rfl (Blk.mk_alloc (vs := zeroRule) rfl rfl) HAG.out rfl HXL.out o1 ?_))
      intro wB bB uB
      have eB : Ext wr wB := uB.ext ((Ext.refl wr).alloc _) (Nat.le_refl _)
      have BB := hid bB
      have EB := hid (E1.out.ext eB)
      have HCB2 := hid (HCB.out.ext eB)
      have E12 := hid eB
      have hgl := bB.lt
      clear bB uB eB HCA HCB E1
      generalize wr.heap.size = gr at *
      go_wp2_with (first | (refine wpl_run rfl (exec_index (i := k) rfl rfl rfl Tryz.underlying23 size_rule hlt _) ?_) | (refine wpl_run rfl (exec_load_at rfl rfl HCB2.out HAG.out HYL.out) ?_) | (refine wpl_storew rfl _ (.tmp 9) _ rfl rfl rfl (Blk.mk_alloc (vs := zeroRule) rfl rfl) HAG.out rfl HYL.out o2 ?_))
      intro wC bC uC
      have eC : Ext wB wC := uC.ext ((Ext.refl wB).alloc _) (Nat.le_refl _)
      have CC := hid bC
      have BC := hid (BB.out.ext eC)
      have EC := hid (EB.out.ext eC)
      have HXC := hid ((HXO.out.ext E12.out).ext eC)
      have HYC := hid ((HYO.out.ext E12.out).ext eC)
      clear bC uC eC HCB2 EB BB E12 HXO HYO
      generalize wB.heap.size = gc at *
      go_wp2_with (first | (refine wpl_loadw rfl 51 (.tmp 8) rfl rfl BC.out HAG.out HXL.out ?_) | (refine wpl_loadw rfl 51 (.tmp 9) rfl rfl CC.out HAG.out HYL.out ?_))
      refine (sameRuleX_c x y wC HXC.out HYC.out).mono ?_
      rintro e wD ⟨rfl, eD⟩
      have ED := hid (EC.out.ext eD)
      clear eD EC BC CC HXC HYC
      obtain ⟨sb, hsb⟩ : ∃ sb, sameB x y = sb := ⟨_, rfl⟩
      have HSB := hid hsb
      rw [hsb]
      clear hsb
      cases sb with
      | true =>
        go_wp2_with fail
        go_roundw
        case rel =>
          refine ⟨k + 1, by omega, by go_num, hid (fun j x2 y2 hj h1 h2 => ?_), ED.out⟩
          by_cases hjk : j = k
          · subst hjk
            rw [HXK.out] at h1
            rw [HYK.out] at h2
            injection h1 with h1
            injection h2 with h2
            rw [← h1, ← h2]
            exact HSB.out
          · exact hpre.out j x2 y2 (by omega) h1 h2
        case measure => simp [intOf]; omega
      | false =>
        have HF := hid (show R = false by rw [← HR.out]; exact sameRs_no HXK.out HYK.out HSB.out)
        go_wp2_with fail
        go_ret
        exact ⟨by rw [HF.out]; rfl, ED.out⟩
    · obtain rfl : k = n := by omega
      have HT := hid (show R = true by
        rw [← HR.out]
        refine sameRs_yes (by rw [HX.out.hl, HY.out.hl]) (fun j x y h1 h2 => hpre.out j x y ?_ h1 h2)
        have := (List.getElem?_eq_some_iff.1 h1).1
        rw [HX.out.hl] at this
        exact this)
      go_wp2
      go_ret
      exact ⟨by rw [HT.out]; rfl, E1.out⟩
set_option maxRecDepth 100000 in
set_option maxHeartbeats 2000000 in
theorem eqRulesQ_c (xs ys : List RuleR) (a b : Option Addr) (n m c d : Nat) (w : World) (hx : PolOk w a n c xs) (hy : PolOk w b m d ys) :
    Calls Tryz.prog 25 #[.slice a n c, .slice b m d, .func (.func 31) #[] #[]] w fun e w' => e = .returned (.bool (sameRs xs ys)) ∧ Ext w w' := by
  have HX := hid hx
  have HY := hid hy
  have hn := hx.hm
  have HAG := hid agg_rule
  obtain ⟨R, hR⟩ : ∃ R, sameRs xs ys = R := ⟨_, rfl⟩
  rw [hR]
  have HR := hid hR
  clear hx hy hR
  by_cases hnm : n ≠ m
  · have g1 : ((n : Int) != (m : Int)) = true := by simp; omega
    have g2 : decide ((n : Int) = (m : Int)) = false := decide_eq_false (by omega)
    have g3 : decide (n = m) = false := decide_eq_false hnm
    have HF := hid (show R = false by
      rw [← HR.out]
      cases hq : sameRs xs ys with
      | false => rfl
      | true => exact absurd (sameRs_len hq) (by rw [HX.out.hl, HY.out.hl]; exact hnm))
    go_enter Tryz.func25, Tryz.ntmps25
    go_wp2_with fail
    go_ret
    exact ⟨by rw [HF.out]; rfl, Ext.refl _⟩
  obtain rfl : n = m := by omega
  clear hnm
  go_enter Tryz.func25, Tryz.ntmps25
  go_wp2
  go_loopw [17] (fun i wr => ∃ k : Nat, k ≤ n ∧ i = .int .i64 (k : Int) ∧ Hid (∀ (j : Nat) (x y : RuleR), j < k → xs[j]? = some x → ys[j]? = some y → sameB x y = true) ∧ Ext w wr) (fun i _ => n - (intOf i).toNat)
  case atStart => exact ⟨0, by omega, rfl, hid (fun j x y h => by omega), Ext.refl _⟩
  case round =>
    obtain ⟨k, hk, rfl, hpre, e1⟩ := hrel
    have E1 := hid e1
    clear e1
    by_cases hlt : k < n
    · obtain ⟨x, hxk⟩ : ∃ x, xs[k]? = some x := ⟨xs[k]'(by rw [HX.out.hl]; exact hlt), by simp⟩
      obtain ⟨y, hyk⟩ : ∃ y, ys[k]? = some y := ⟨ys[k]'(by rw [HY.out.hl]; exact hlt), by simp⟩
      have HXK := hid hxk
      have HYK := hid hyk
      obtain ⟨A, rfl, hca⟩ := (HX.out.ext E1.out).at hxk
      obtain ⟨A2, rfl, hcb⟩ := (HY.out.ext E1.out).at hyk
      have HCA := hid hca
      have HCB := hid hcb
      have HXO := hid ((HX.out.ext E1.out).ok x (List.mem_of_getElem? hxk))
      have HYO := hid ((HY.out.ext E1.out).ok y (List.mem_of_getElem? hyk))
      have HXL := hid (RuleR.len x)
      have HYL := hid (RuleR.len y)
      have o1 := ruleV_one x
      have o2 := ruleV_one y
      clear hca hcb hxk hyk
      go_wp2_with (first | (refine wpl_run rfl (exec_index (i := k) rfl rfl rfl Tryz.underlying23 size_rule hlt _) ?_) | (refine wpl_run rfl (exec_load_at rfl rfl HCA.out HAG.out HXL.out) ?_) | (refine wpl_storew rfl _ (.tmp 8) _ rfl rfl rfl (Blk.mk_alloc (vs := zeroRule) rfl rfl) HAG.out rfl HXL.out o1 ?_))
      intro wB bB uB
      have eB : Ext wr wB := uB.ext ((Ext.refl wr).alloc _) (Nat.le_refl _)
      have BB := hid bB
      have EB := hid (E1.out.ext eB)
      have HCB2 := hid (HCB.out.ext eB)
      have E12 := hid eB
      have hgl := bB.lt
      clear bB uB eB HCA HCB E1
      generalize wr.heap.size = gr at *
      go_wp2_with (first | (refine wpl_run rfl (exec_index (i := k) rfl rfl rfl Tryz.underlying23 size_rule hlt _) ?_) | (refine wpl_run rfl (exec_load_at rfl rfl HCB2.out HAG.out HYL.out) ?_) | (refine wpl_storew rfl _ (.tmp 9) _ rfl rfl rfl (Blk.mk_alloc (vs := zeroRule) rfl rfl) HAG.out rfl HYL.out o2 ?_))
      intro wC bC uC
      have eC : Ext wB wC := uC.ext ((Ext.refl wB).alloc _) (Nat.le_refl _)
      have CC := hid bC
      have BC := hid (BB.out.ext eC)
      have EC := hid (EB.out.ext eC)
      have HXC := hid ((HXO.out.ext E12.out).ext eC)
      have HYC := hid ((HYO.out.ext E12.out).ext eC)
      clear bC uC eC HCB2 EB BB E12 HXO HYO
      generalize wB.heap.size = gc at *
      go_wp2_with (first | (refine wpl_loadw rfl 51 (.tmp 8) rfl rfl BC.out HAG.out HXL.out ?_) | (refine wpl_loadw rfl 51 (.tmp 9) rfl rfl CC.out HAG.out HYL.out ?_))
      refine (sameRuleQ_c x y wC HXC.out HYC.out).mono ?_
      rintro e wD ⟨rfl, eD⟩
      have ED := hid (EC.out.ext eD)
      clear eD EC BC CC HXC HYC
      obtain ⟨sb, hsb⟩ : ∃ sb, sameB x y = sb := ⟨_, rfl⟩
      have HSB := hid hsb
      rw [hsb]
      clear hsb
      cases sb with
      | true =>
        go_wp2_with fail
        go_roundw
        case rel =>
          refine ⟨k + 1, by omega, by go_num, hid (fun j x2 y2 hj h1 h2 => ?_), ED.out⟩
          by_cases hjk : j = k
          · subst hjk
            rw [HXK.out] at h1
            rw [HYK.out] at h2
            injection h1 with h1
            injection h2 with h2
            rw [← h1, ← h2]
            exact HSB.out
          · exact hpre.out j x2 y2 (by omega) h1 h2
        case measure => simp [intOf]; omega
      | false =>
        have HF := hid (show R = false by rw [← HR.out]; exact sameRs_no HXK.out HYK.out HSB.out)
        go_wp2_with fail
        go_ret
        exact ⟨by rw [HF.out]; rfl, ED.out⟩
    · obtain rfl : k = n := by omega
      have HT := hid (show R = true by
        rw [← HR.out]
        refine sameRs_yes (by rw [HX.out.hl, HY.out.hl]) (fun j x y h1 h2 => hpre.out j x y ?_ h1 h2)
        have := (List.getElem?_eq_some_iff.1 h1).1
        rw [HX.out.hl] at this
        exact this)
      go_wp2
      go_ret
      exact ⟨by rw [HT.out]; rfl, E1.out⟩
set_option maxRecDepth 100000 in
set_option maxHeartbeats 1000000 in
theorem samePolX_c (pa : Option Addr) (pn pc : Nat) (rs : List RuleR) (qa : Option Addr) (qn qc : Nat) (qs : List RuleR) (w : World) (hp : PolOk w pa pn pc rs) (hq : PolOk w qa qn qc qs) :
    Calls Tryz.prog 8 #[.agg #[.slice pa pn pc], .agg #[.slice qa qn qc]] w fun e w' => e = .returned (.bool (sameRs rs qs)) ∧ Ext w w' := by
  have HE := hid (fun W (h : Ext w W) => eqRulesX_c rs qs pa qa pn qn pc qc W (hp.ext h) (hq.ext h))
  clear hp hq
  go_enter Tryz.func8, Tryz.ntmps8
  go_upto_region 1 with (fail)
  generalize hwA : World.alloc (World.alloc w _) _ = wA
  have bX : Blk wA w.heap.size [.slice pa pn pc] 25 := by rw [← hwA]; exact (Blk.mk_alloc rfl rfl).alloc _
  have bY : Blk wA (w.heap.size + 1) [.slice qa qn qc] 25 := by rw [← hwA]; exact Blk.mk_alloc (size_allocP _ _).symm rfl
  have eA : Ext w wA := by rw [← hwA]; exact ((Ext.refl w).alloc _).alloc _
  have EA := hid eA
  have x0 := bX.cell' (i := 0) rfl
  have y0 := bY.cell' (i := 0) rfl
  clear hwA bX bY eA
  go_wp2_with fail
  refine (HE.out wA EA.out).mono ?_
  rintro e wB ⟨rfl, eB⟩
  go_wp2_with fail
  go_ret
  exact ⟨rfl, EA.out.ext eB⟩
end

section
open Go Go.RowKit

theorem agg_polP : AggT Tryz.prog 25 1 := ⟨⟨_, Tryz.underlying25, rfl⟩, by kernel_rfl⟩
theorem pol_nil (w : World) : PolOk w none 0 0 [] := ⟨rfl, Nat.le_refl _, by omega, .inl rfl, fun _ h => by cases h⟩
theorem wds_first {w : World} {g cap : Nat} {l : List UInt8} {vs : List Value} (hb : Blk w g ((((splitR 32 (Lib.replaceAll (Lib.cut l [35]).1 [9] [32])).map strOf).filter fun s => !emptyB s).map encStr ++ vs) 9) (hc : (((splitR 32 (Lib.replaceAll (Lib.cut l [35]).1 [9] [32])).map strOf).filter fun s => !emptyB s).length ≤ cap) (hl : l.length ≤ 100000) :
    Wds w g (some ⟨g, 0, none⟩) (((splitR 32 (Lib.replaceAll (Lib.cut l [35]).1 [9] [32])).map strOf).filter fun s => !emptyB s).length cap (wordsOf l) := by
  have hw : (((splitR 32 (Lib.replaceAll (Lib.cut l [35]).1 [9] [32])).map strOf).filter fun s => !emptyB s) = wordsOf l := words_first _
  rw [hw] at hb hc ⊢
  have h1 := words_cnt l
  refine ⟨rfl, hc, by omega, fun s hs => by have := words_size l s hs; omega, .inr ⟨_, rfl, Nat.le_refl _⟩, ?_⟩
  have := (Cells.of_blk0 hb).take ((wordsOf l).map encStr).length
  rw [List.take_left'] at this
  · exact this
  · rfl

set_option maxRecDepth 100000 in
set_option maxHeartbeats 4000000 in
theorem parse_c (s : List UInt8) (w : World) (hl : LibP w) (hs63 : s.length ≤ 9223372036854775807) :
    Calls Tryz.prog 6 #[.string (strOf s)] w fun e w' => ∃ pa pn pc rs, e = .returned (.tuple #[.agg #[.slice pa pn pc], .int .i64 (parN s), .int .i64 (parE s)]) ∧ PolOk w' pa pn pc rs ∧ rs.map RuleR.bare = parR s ∧ Ext w w' := by
  have HL := hid hl
  have HAP := hid agg_polP
  have HAR := hid agg_rule
  have hsn := size_strOf s
  have HP := hid (show parE s = parE s from rfl)
  clear hl
  obtain ⟨R, hR⟩ : ∃ R : Ending → World → Prop, R = fun e w' => ∃ pa pn pc rs, e = .returned (.tuple #[.agg #[.slice pa pn pc], .int .i64 (parN s), .int .i64 (parE s)]) ∧ PolOk w' pa pn pc rs ∧ rs.map RuleR.bare = parR s ∧ Ext w w' := ⟨_, rfl⟩
  rw [← hR]
  have HR := hid hR
  clear hR HP
  go_enter Tryz.func6, Tryz.ntmps6
  go_upto_region 1 with fail
  generalize hwA : World.alloc w _ = wA
  have bA : Blk wA w.heap.size [.slice none 0 0] 25 := by rw [← hwA]; exact Blk.mk_alloc rfl rfl
  have eA : Ext w wA := by rw [← hwA]; exact (Ext.refl w).alloc _
  have hsA : wA.heap.size = w.heap.size + 1 := by rw [← hwA, size_allocP]
  have BA := hid bA
  have EA := hid eA
  have HSA := hid hsA
  clear hwA bA eA hsA
  by_cases hbig : 65536 < s.length
  · have d1 : decide ((65536 : Int) < (s.length : Int)) = true := decide_eq_true (by omega)
    have d2 : decide (65536 < s.length) = true := decide_eq_true (by omega)
    have HB := hid (par_large hbig)
    clear hbig
    go_wp2_with (refine wpl_storew rfl _ _ _ rfl rfl rfl BA.out HAP.out rfl (xs := [.slice none 0 0]) rfl (fun v hv => by simp at hv; rw [hv]; rfl) ?_)
    intro w1 b1 u1
    go_wp2_with fail
    refine ret_row3 rfl rfl b1 HAP.out rfl rfl ?_
    rw [HR.out]
    refine ⟨none, 0, 0, [], ?_, pol_nil _, ?_, u1.ext EA.out (Nat.le_refl _)⟩
    · rw [HB.out.1, HB.out.2.1]; rfl
    · rw [HB.out.2.2]; rfl
  have d1 : decide ((65536 : Int) < (s.length : Int)) = false := decide_eq_false (by omega)
  have d2 : decide (65536 < s.length) = false := decide_eq_false (by omega)
  have hlen : s.length ≤ 65536 := by omega
  have HBIG := hid hbig
  clear hbig
  go_upto_region 3 with fail
  go_wp2_with (refine wpl_storew rfl _ _ _ rfl rfl rfl (Blk.mk_alloc (vs := [.slice none 0 0]) rfl rfl) HAP.out rfl (xs := [.slice none 0 0]) rfl (fun v hv => by simp at hv; rw [hv]; rfl) ?_)
  intro w1 b1 u1
  have e1 : Ext wA w1 := u1.ext ((Ext.refl wA).alloc _) (Nat.le_refl _)
  have B5 := hid b1
  have B2 := hid (BA.out.ext e1)
  have E1 := hid (EA.out.ext e1)
  have hs1 : w1.heap.size = w.heap.size + 2 := by rw [u1.size, size_allocP, HSA.out]
  have HS1 := hid hs1
  rw [HSA.out] at B5 ⊢
  clear b1 u1 e1 BA EA hs1 d1 d2
  go_wp2_with fail
  refine (split_c s 10 w1 (by omega) (HL.out.ext E1.out).lw.ml).mono ?_
  rintro e w2 ⟨rfl, bL, e2⟩
  obtain ⟨N, hN⟩ : ∃ N, (splitR 10 s).length = N := ⟨_, rfl⟩
  have hNle : N ≤ 65537 := by have := splitR_cnt 10 s; omega
  have hg0 : w1.heap.size < w2.heap.size := bL.lt
  obtain ⟨G2, hG2⟩ : ∃ G, w.heap.size = G := ⟨_, rfl⟩
  obtain ⟨G5, hG5⟩ : ∃ G, w.heap.size + 1 = G := ⟨_, rfl⟩
  obtain ⟨g0, hgg⟩ : ∃ G, w1.heap.size = G := ⟨_, rfl⟩
  have I0 : PIv w G2 G5 g0 w2.heap.size s 0 none 0 [] w2 := by
    rw [← hG2, ← hG5, ← hgg]
    exact ⟨E1.out.ext e2, B2.out.ext e2, B5.out.ext e2, bL, ⟨rfl, .inl ⟨rfl, rfl⟩⟩, rfl, (fun _ h => by cases h), (fun _ h => by cases h), (fun _ h => by cases h), (fun _ h => by simp at h), Nat.le_refl _⟩
  have hGG : w.heap.size ≤ G2 ∧ G2 ≠ G5 ∧ w.heap.size ≤ G5 ∧ g0 ≠ G5 ∧ G5 < w2.heap.size ∧ G2 < w2.heap.size ∧ g0 < w2.heap.size ∧ w.heap.size ≤ w2.heap.size := by
    have := HS1.out
    omega
  have HGG := hid hGG
  have HNN := hid hN
  rw [hN, hG5, hG2, hgg]
  obtain ⟨BB, hBB⟩ : ∃ B, w2.heap.size = B := ⟨_, rfl⟩
  rw [hBB] at I0 HGG
  have HBB := hid hBB
  clear bL e2 hN hG5 hG2 hgg B2 B5 E1 HS1 HSA hg0 hGG hBB
  go_wp2_with fail
  go_loopw [20] (fun i wr => ∃ (k : Nat) (a : Option Addr) (c : Nat) (rs : List RuleR), k ≤ N ∧ i = .int .i64 (k : Int) ∧ PIv w G2 G5 g0 BB s k a c rs wr ∧ BB ≤ wr.heap.size) (fun i _ => N - (intOf i).toNat)
  case atStart => exact ⟨0, none, 0, [], by omega, rfl, I0, by rw [HBB.out]; exact Nat.le_refl _⟩
  case round =>
    obtain ⟨k, a, c, rs, hk, rfl, hI, hBw⟩ := hrel
    have P0 := hid hI
    have HOB : Hid (∀ g, (Value.slice a rs.length c).ownBlock = some g → g < wr.heap.size) := hid (fun g hg => (hI.own.lt g hg).2)
    clear hI I0
    by_cases hlt : k < N
    · have d1 : decide ((k : Int) < (N : Int)) = true := decide_eq_true (by omega)
      have d2 : decide (k < N) = true := decide_eq_true hlt
      obtain ⟨l, hlk⟩ : ∃ l, (splitR 10 s)[k]? = some l := ⟨(splitR 10 s)[k]'(by rw [HNN.out]; exact hlt), by simp⟩
      have hll : l.length ≤ 65536 := Nat.le_trans (splitR_len 10 s l (List.mem_of_getElem? hlk)) hlen
      have ck := P0.out.ln.cell' (i := k) (v := .string (strOf l)) (by rw [List.getElem?_map, List.getElem?_map, hlk]; rfl)
      have HLK := hid (lines_at hlk)
      have hcl := (cut_lens l [35]).1
      have hrl : (Lib.replaceAll (Lib.cut l [35]).1 [9] [32]).length = (Lib.cut l [35]).1.length := by rw [replaceAll_map, List.length_map]
      clear hlk
      go_wp2_with fail
      refine (cutS_c l [35] wr (by omega) (HL.out.ext P0.out.e).lw.ml).mono ?_
      rintro e v1 ⟨rfl, e1⟩
      have E1 := hid e1
      clear e1 ck
      go_wp2_with fail
      refine (repl_c (Lib.cut l [35]).1 v1 (by omega) (HL.out.ext (P0.out.e.ext E1.out)).lw.ml).mono ?_
      rintro e v2 ⟨rfl, e2⟩
      have E2 := hid (E1.out.ext e2)
      clear e2 E1
      go_wp2_with fail
      refine (split_c (Lib.replaceAll (Lib.cut l [35]).1 [9] [32]) 32 v2 (by omega) (HL.out.ext (P0.out.e.ext E2.out)).lw.ml).mono ?_
      rintro e v3 ⟨rfl, b3, e3⟩
      have E3 := hid (E2.out.ext e3)
      have hcnt := splitR_cnt 32 (Lib.replaceAll (Lib.cut l [35]).1 [9] [32])
      have hs2 := E2.out.size
      have B3 := hid b3
      clear e3 E2 b3
      obtain ⟨g1, hg1⟩ : ∃ g, v2.heap.size = g := ⟨_, rfl⟩
      rw [hg1] at B3 hs2 ⊢
      clear hg1
      have hdel := hid (del_c ((splitR 32 (Lib.replaceAll (Lib.cut l [35]).1 [9] [32])).map strOf) g1 (splitR 32 (Lib.replaceAll (Lib.cut l [35]).1 [9] [32])).length v3 B3.out (by rw [List.length_map]; omega) (by rw [List.length_map]; exact Nat.le_refl _))
      rw [List.length_map] at hdel
      have hfl : (((splitR 32 (Lib.replaceAll (Lib.cut l [35]).1 [9] [32])).map strOf).filter fun s => !emptyB s).length ≤ (splitR 32 (Lib.replaceAll (Lib.cut l [35]).1 [9] [32])).length := by
        have := List.length_filter_le (fun s => !emptyB s) ((splitR 32 (Lib.replaceAll (Lib.cut l [35]).1 [9] [32])).map strOf)
        rw [List.length_map] at this
        exact this
      go_wp2_with fail
      refine hdel.out.mono ?_
      rintro e v4 ⟨rfl, ⟨vs, b4⟩, u4⟩
      have hw := wds_first b4 hfl (by omega)
      have e4 : Ext wr v4 := u4.ext E3.out hs2
      have P4 := hid (P0.out.ext e4)
      have hs4 := e4.size
      have hg14 : g1 < v4.heap.size := b4.lt
      clear hdel b4 u4 e4 E3 B3 P0 hcnt hfl hrl hcl
      generalize (((splitR 32 (Lib.replaceAll (Lib.cut l [35]).1 [9] [32])).map strOf).filter fun s => !emptyB s).length = m at *
      generalize (splitR 32 (Lib.replaceAll (Lib.cut l [35]).1 [9] [32])).length = cap at *
      have hwl := hw.hl
      have HW := hid hw
      clear hw
      by_cases h0 : m = 0
      · have HW0 := hid (List.length_eq_zero_iff.1 (hwl.trans h0))
        subst h0
        clear hwl HW
        go_wp2_with fail
        go_roundw
        case rel => exact ⟨k + 1, a, c, rs, by omega, by go_num, P4.out.skip HLK.out HW0.out, by omega⟩
        case measure => simp [intOf]; omega
      have g1' : ((m : Int) == 0) = false := by simp; exact h0
      have g2' : decide ((m : Int) = 0) = false := decide_eq_false (by omega)
      have g3' : decide (m = 0) = false := decide_eq_false h0
      have HWN : Hid (wordsOf l ≠ []) := hid (fun e => h0 (by rw [← hwl, e]; rfl))
      clear hwl
      go_wp2_with fail
      refine (readRule_c g1 (some ⟨g1, 0, none⟩) m cap (wordsOf l) v4 HW.out (HL.out.ext P4.out.e) (by omega)).mono ?_
      rintro e v5 ⟨r, rfl, hr, e5⟩
      have P5 := hid (P4.out.ext e5)
      have hs5 := e5.size
      have HRK := hid hr
      obtain ⟨b, hb⟩ : ∃ b, okR (wordsOf l) = b := ⟨_, rfl⟩
      have HBK := hid hb
      rw [hb] at HRK ⊢
      clear hb hr e5 P4 HW h0 g1' g2' g3'
      have HRL := hid (RuleR.len r)
      have HRO := hid (ruleV_one r)
      go_wp2_with (refine wpl_storew rfl _ _ _ rfl rfl rfl (Blk.mk_alloc (vs := zeroRule) rfl rfl) HAR.out rfl (xs := r.v) HRL.out HRO.out ?_)
      intro v6 b9 u9
      have e6 : Ext v5 v6 := u9.ext ((Ext.refl v5).alloc _) (Nat.le_refl _)
      have P6 := hid (P5.out.ext e6)
      have B9 := hid b9
      have E6 := hid e6
      have hs6 := e6.size
      clear b9 u9 e6 P5
      cases b with
      | false =>
        have hbad : badAt (linesOf s) = some k := badAt_some HLK.out P6.out.good (by
          unfold goodB
          rw [HBK.out, Bool.or_false]
          cases hq : wordsOf l with
          | nil => exact absurd hq HWN.out
          | cons y z => rfl)
        have HPB := hid (par_bad HBIG.out hbad)
        clear hbad
        go_wp2_with (refine wpl_storew rfl _ _ _ rfl rfl rfl P6.out.b2 HAP.out rfl (xs := [.slice none 0 0]) rfl (fun v hv => by simp at hv; rw [hv]; rfl) ?_)
        intro v7 b7 u7
        go_wp2_with fail
        refine ret_row3 rfl rfl b7 HAP.out rfl rfl ?_
        rw [HR.out]
        refine ⟨none, 0, 0, [], ?_, pol_nil _, ?_, u7.ext P6.out.e HGG.out.1⟩
        · rw [HPB.out.1, HPB.out.2.1]; rfl
        · rw [HPB.out.2.2]; rfl
      | true =>
        have hr2 : r.bare = ruleOf (wordsOf l) ∧ r.Ok v5 ∧ r.Hi g1 := by first | exact HRK.out rfl | exact HRK.out trivial
        have HR2 := hid hr2
        have c5 := P6.out.b5.cell' (i := 0) rfl
        have HTE := hid elem_ruleP
        have hrk := P6.out.cnt
        clear hr2 HRK
        go_wp2_with (first | (refine wpl_loadw rfl 51 _ rfl rfl B9.out HAR.out HRL.out ?_) | (refine wpl_buildOneP HTE.out (by decide) rfl rfl rfl HRL.out ?_) | (refine wpl_appendA (n := rs.length) (m := 1) (c := 1) (xs := rulesV rs) (news := r.v) HTE.out rfl _ _ rfl BB rfl rfl (own_extP P6.out.own ((Ext.refl _).alloc _)) HRL.out (Nat.le_refl _) (fun h => by cases h) (Cells.of_blk0 (Blk.mk_alloc rfl rfl)) HRO.out (by omega) (by omega) (by rw [size_allocP]; omega) ?_))
        intro va v8 hown hgrow hnil
        obtain ⟨a', c', rfl, _, _, _⟩ := own_cellsA hown
        have HOW := hid hown
        have HGR := hid hgrow
        have HNL := hid hnil
        have hge : ∀ g, (Value.slice a rs.length c).ownBlock = some g → BB ≤ g := fun g hg => (P6.out.own.lt g hg).1
        have b8 : Blk v8 G5 [.slice a rs.length c] 25 := (P6.out.b5.alloc _).grown hgrow (fun e => by
          have h1 := hge G5 e.symm
          have h2 := HGG.out
          omega)
        have hs8 := hgrow.size
        rw [size_allocP] at hs8
        have B8 := hid b8
        have c8 := b8.cell' (i := 0) rfl
        have f8 := b8.frozen 0
        clear hown hgrow hnil hge b8 c5
        go_wp2_with fail
        go_roundw
        case rel =>
          refine ⟨k + 1, a', c', rs ++ [r], by omega, by go_num, ?_, by rw [(Upd.setCell (w := v8) (g := G5) (i := 0) _).size]; omega⟩
          obtain ⟨q1, q2, q3, q4, q5, q6, q7, q8⟩ := HGG.out
          exact (P6.out.ext ((Ext.refl _).alloc _)).push HLK.out HWN.out HBK.out q1 q2 q3 q4 q5 q6 q7 q8 (g1 := g1) HR2.out.1 ((HR2.out.2.1.ext E6.out).ext ((Ext.refl _).alloc _)) HR2.out.2.2 (by omega) (fun g hg => Nat.lt_of_lt_of_le (HOB.out g hg) hs2) HOW.out HGR.out (by rw [size_allocP]; exact HNL.out) (Upd.setCell _) (B8.out.set 0 _)
        case measure => simp [intOf]; omega
    · obtain rfl : k = N := by omega
      have d1 : decide ((k : Int) < (k : Int)) = false := decide_eq_false (by omega)
      have hall : (linesOf s).take k = linesOf s := List.take_of_length_le (by rw [lines_len, HNN.out]; exact Nat.le_refl _)
      have hru := P0.out.ru
      have hgo := P0.out.good
      rw [hall] at hru hgo
      have hpa := par_all HBIG.out (badAt_none hgo)
      have hle : (rulesOf (linesOf s)).length = rs.length := by rw [← hru, List.length_map]
      rw [hle, polE_bare hru] at hpa
      have HRU := hid hru
      have HPA := hid hpa
      have HPO := hid (P0.out.pol (by omega))
      clear hall hru hgo hpa hle
      have hck := hid (fun w1 (h : PolOk w1 a rs.length c rs) => check_c a rs.length c rs w1 h)
      go_wp2_with (refine wpl_loadw rfl 25 _ rfl rfl P0.out.b5 HAP.out rfl ?_)
      refine (hck.out wr HPO.out).mono ?_
      rintro e v1 ⟨rfl, e1⟩
      have P1 := hid (P0.out.ext e1)
      have HPO1 := hid (HPO.out.ext e1)
      clear e1 hck P0 HPO
      by_cases hE : polE rs rs.length = 0
      · have HR0 := hid (show parE s = 0 from HPA.out.1.trans hE)
        have n1 : (polE rs rs.length != 0) = false := by simp [hE]
        have n2 : decide (polE rs rs.length = 0) = true := decide_eq_true hE
        generalize polE rs rs.length = E at *
        subst hE
        go_wp2_with (first | (refine wpl_loadw rfl 25 _ rfl rfl P1.out.b5 HAP.out rfl ?_) | (refine wpl_storew rfl _ _ _ rfl rfl rfl P1.out.b2 HAP.out rfl (xs := [.slice a rs.length c]) rfl (fun v hv => by simp at hv; rw [hv]; rfl) ?_))
        intro v7 b7 u7
        go_wp2_with fail
        refine ret_row3 rfl rfl b7 HAP.out rfl rfl ?_
        rw [HR.out]
        refine ⟨a, rs.length, c, rs, ?_, ?_, ?_, u7.ext P1.out.e HGG.out.1⟩
        · rw [HR0.out, HPA.out.2]; rfl
        · have p := P1.out
          have q := HGG.out
          refine ⟨rfl, HPO1.out.hnc, HPO1.out.hm, ?_, fun r hr => (p.ok r hr).gro ((p.hi r hr).off (q := some G2) (fun g e => by injection e with e; omega)) (upd_grownA u7)⟩
          obtain ⟨_, _, hv, _, _, hc⟩ := own_cellsA (own_beside p.own (upd_grownA u7) (fun g hg e => by
            injection e with e
            have := (p.own.lt g hg).1
            omega))
          injection hv with e1 e2 e3
          rw [e1]
          exact hc
        · unfold parR
          rw [if_pos HR0.out]
          exact HRU.out
      · have HR0 := hid (show parE s ≠ 0 from fun e => hE (HPA.out.1.symm.trans e))
        have n1 : (polE rs rs.length != 0) = true := by simp [hE]
        have n2 : decide (polE rs rs.length = 0) = false := decide_eq_false hE
        have HPA1 := hid HPA.out.1
        generalize polE rs rs.length = E at *
        clear hE
        go_wp2_with (refine wpl_storew rfl _ _ _ rfl rfl rfl P1.out.b2 HAP.out rfl (xs := [.slice none 0 0]) rfl (fun v hv => by simp at hv; rw [hv]; rfl) ?_)
        intro v7 b7 u7
        go_wp2_with fail
        refine ret_row3 rfl rfl b7 HAP.out rfl rfl ?_
        rw [HR.out]
        refine ⟨none, 0, 0, [], ?_, pol_nil _, ?_, u7.ext P1.out.e HGG.out.1⟩
        · rw [HPA1.out, HPA.out.2]; rfl
        · unfold parR
          rw [if_neg HR0.out]
          rfl
end

section
open Go Go.RowKit

theorem polTx_step {rs : List RuleR} {k : Nat} {r : RuleR} (h : rs[k]? = some r) : polTx (rs.take (k + 1)) = polTx (rs.take k) ++ ruleTx r ++ [10] := by
  unfold polTx
  rw [List.take_add_one, h, List.flatMap_append]
  simp
theorem polTx_len {rs : List RuleR} {W : World} (hr : ∀ r ∈ rs, r.Ok W) (hv : ∀ r ∈ rs, ruleE r = 0) : (polTx rs).length ≤ rs.length * 4001 := by
  induction rs with
  | nil => simp [polTx]
  | cons r rs ih =>
    have h1 := ruleTx_len (hr r (by simp)) (ruleV_of (hr r (by simp)) (hv r (by simp)))
    have h2 := ih (fun x hx => hr x (List.mem_cons_of_mem _ hx)) (fun x hx => hv x (List.mem_cons_of_mem _ hx))
    have e : polTx (r :: rs) = (ruleTx r ++ [10]) ++ polTx rs := by unfold polTx; rw [List.flatMap_cons]
    rw [e]
    simp only [List.length_append, List.length_cons, List.length_nil]
    omega
theorem bld_new (w : World) : BldAt w.heap.size w.heap.size [] (w.alloc (.cells #[.pointer none, .slice none 0 0] 92)) := by
  refine .inl ⟨Nat.le_refl _, .slice none 0 0, ?_, ⟨rfl, .inl ⟨rfl, rfl⟩⟩, by intro h; cases h⟩
  show (w.heap.push _)[w.heap.size]? = _
  simp
theorem below_ext {w0 w w' : World} {B : Nat} (h : Ext w0 w) (k : Below B w w') (hb : w0.heap.size ≤ B) : Ext w0 w' := Below.trans h (k.mono hb)

set_option maxRecDepth 100000 in
set_option maxHeartbeats 2000000 in
theorem text_c (pa : Option Addr) (pn pc : Nat) (rs : List RuleR) (w : World) (hp : PolOk w pa pn pc rs) (hv : ∀ r ∈ rs, ruleE r = 0) (h100 : pn ≤ 100) (hl : LibP w) :
    Calls Tryz.prog 30 #[.agg #[.slice pa pn pc]] w fun e w' => e = .returned (.string (strOf (polTx rs))) ∧ Ext w w' := by
  have HPO := hid hp
  have HV := hid hv
  have HL := hid hl
  have HAG := hid agg_rule
  have hlen : ∀ k, (polTx (rs.take k)).length ≤ 400100 := by
    intro k
    have h1 := polTx_len (rs := rs.take k) (W := w) (fun r hr => hp.ok r (List.mem_of_mem_take hr)) (fun r hr => hv r (List.mem_of_mem_take hr))
    have h2 : (rs.take k).length ≤ 100 := by rw [List.length_take]; have := hp.hl; omega
    have : (rs.take k).length * 4001 ≤ 100 * 4001 := Nat.mul_le_mul_right _ h2
    omega
  have HLEN := hid hlen
  clear hp hv hl hlen
  go_enter Tryz.func30, Tryz.ntmps30
  go_upto_region 2 with fail
  obtain ⟨w1, hw1⟩ : ∃ W, World.alloc w (.cells #[.slice pa pn pc] 25) = W := ⟨_, rfl⟩
  rw [hw1]
  have b1 : Blk w1 w.heap.size [.slice pa pn pc] 25 := by rw [← hw1]; exact Blk.mk_alloc rfl rfl
  have e1 : Ext w w1 := by rw [← hw1]; exact (Ext.refl w).alloc _
  have hs1 : w1.heap.size = w.heap.size + 1 := by rw [← hw1, size_allocP]
  have hbn := bld_new w1
  generalize hwA : World.alloc w1 _ = wA
  rw [hwA] at hbn
  have eA1 : Ext w1 wA := by rw [← hwA]; exact (Ext.refl w1).alloc _
  have bA : Blk wA w.heap.size [.slice pa pn pc] 25 := b1.ext eA1
  have hsA : wA.heap.size = w.heap.size + 2 := by rw [← hwA, size_allocP, hs1]
  have EA := hid (e1.ext eA1)
  rw [hs1] at hbn
  have HBN := hid hbn
  have c0 := bA.cell' (i := 0) rfl
  have HSA := hid hsA
  obtain ⟨b, hb⟩ : ∃ b, w.heap.size + 1 = b := ⟨_, rfl⟩
  have hwb : w.heap.size ≤ b := by omega
  have HBS := hid (show b ≤ wA.heap.size by omega)
  rw [hs1] at *
  rw [hb] at HBN ⊢
  clear hw1 b1 e1 hs1 hbn hwA eA1 bA hsA hb
  go_wp2
  go_loopw [9] (fun i wr => ∃ k : Nat, k ≤ pn ∧ i = .int .i64 (k : Int) ∧ BldAt b b (polTx (rs.take k)) wr ∧ Ext w wr ∧ b ≤ wr.heap.size) (fun i _ => pn - (intOf i).toNat)
  case atStart => exact ⟨0, by omega, rfl, HBN.out, EA.out, HBS.out⟩
  case round =>
    obtain ⟨k, hk, rfl, hbd, e1, hbs⟩ := hrel
    have E1 := hid e1
    have BD := hid hbd
    clear e1 hbd
    by_cases hlt : k < pn
    · obtain ⟨r, hrk⟩ : ∃ r, rs[k]? = some r := ⟨rs[k]'(by rw [HPO.out.hl]; exact hlt), by simp⟩
      obtain ⟨A, rfl, hca⟩ := (HPO.out.ext E1.out).at hrk
      have HCA := hid hca
      have HOK := hid ((HPO.out.ext E1.out).ok r (List.mem_of_getElem? hrk))
      have HRV := hid (HV.out r (List.mem_of_getElem? hrk))
      have HRL := hid (RuleR.len r)
      have HST := hid (polTx_step hrk)
      have hrl := ruleTx_len HOK.out (ruleV_of HOK.out HRV.out)
      have hro := ruleV_one r
      have hl1 := HLEN.out k
      clear hca hrk
      go_wp2_with (first | (refine wpl_run rfl (exec_index (i := k) rfl rfl rfl Tryz.underlying23 size_rule hlt _) ?_) | (refine wpl_run rfl (exec_load_at rfl rfl HCA.out HAG.out HRL.out) ?_) | (refine wpl_storew rfl _ (.tmp 5) _ rfl rfl rfl (Blk.mk_alloc (vs := zeroRule) rfl rfl) HAG.out rfl HRL.out hro ?_))
      intro wB bB uB
      have eB : Ext wr wB := uB.ext ((Ext.refl wr).alloc _) (Nat.le_refl _)
      have BB := hid bB
      have EB := hid (E1.out.ext eB)
      have HOB := hid (HOK.out.ext eB)
      have BD2 := hid (BD.out.ext eB)
      have hsB := eB.size
      clear bB uB eB HOK HCA BD E1
      generalize wr.heap.size = gr at *
      go_wp2_with (refine wpl_loadw rfl 51 (.tmp 5) rfl rfl BB.out HAG.out HRL.out ?_)
      refine (ruleText_c r wB HOB.out HRV.out (HL.out.ext EB.out)).mono ?_
      rintro e wC ⟨rfl, eC⟩
      have EC := hid (EB.out.ext eC)
      have BD3 := hid (BD2.out.ext eC)
      have hsC := eC.size
      clear eC EB HOB BD2 BB
      go_wp2_with fail
      refine (wrs_c b b (polTx (rs.take k)) (ruleTx r) wC BD3.out (by omega) (by omega)).mono ?_
      rintro e wD ⟨rfl, hbD, kD⟩
      have ED := hid (below_ext EC.out kD hwb)
      have BD4 := hid hbD
      have hsD := kD.size
      clear hbD kD BD3 EC
      go_wp2_with fail
      refine (wrb_c b b (polTx (rs.take k) ++ ruleTx r) wD BD4.out (by rw [List.length_append]; omega) (by omega)).mono ?_
      rintro e wE ⟨rfl, hbE, kE⟩
      have EE := hid (below_ext ED.out kE hwb)
      have BD5 := hid (show BldAt b b (polTx (rs.take (k + 1))) wE by rw [HST.out]; exact hbE)
      have hsE := kE.size
      clear hbE kE BD4 ED
      go_wp2
      go_roundw
      case rel => exact ⟨k + 1, by omega, by go_num, BD5.out, EE.out, by omega⟩
      case measure => simp [intOf]; omega
    · obtain rfl : k = pn := by omega
      have hall : rs.take k = rs := List.take_of_length_le (by rw [HPO.out.hl]; exact Nat.le_refl _)
      rw [hall] at BD
      have hst := hid (str_c b b (polTx rs) wr BD.out hbs)
      go_wp2_with fail
      refine hst.out.mono ?_
      rintro e wF ⟨rfl, kF⟩
      have EF := hid (below_ext E1.out kF hwb)
      clear kF
      go_wp2_with fail
      go_ret
      exact ⟨rfl, EF.out⟩
/-! ### what both prints say -/
noncomputable def prtE (rs : List RuleR) (pn : Nat) : Int := if polE rs pn ≠ 0 then polE rs pn else if parE (polTx rs) = 0 ∧ sameRs rs (parR (polTx rs)) = true then 0 else 2
noncomputable def prtT (rs : List RuleR) (pn : Nat) : List UInt8 := if prtE rs pn = 0 then polTx rs else []
theorem prt_bad {rs : List RuleR} {pn : Nat} (h : polE rs pn ≠ 0) : prtE rs pn = polE rs pn ∧ prtT rs pn = [] := by
  have h1 : prtE rs pn = polE rs pn := by unfold prtE; rw [if_pos h]
  exact ⟨h1, by unfold prtT; rw [if_neg (by rw [h1]; exact h)]⟩
theorem prt_form {rs : List RuleR} {pn : Nat} (h0 : polE rs pn = 0) (h : ¬ (parE (polTx rs) = 0 ∧ sameRs rs (parR (polTx rs)) = true)) : prtE rs pn = 2 ∧ prtT rs pn = [] := by
  have h1 : prtE rs pn = 2 := by unfold prtE; rw [if_neg (by rw [h0]; simp), if_neg h]
  exact ⟨h1, by unfold prtT; rw [if_neg (by rw [h1]; decide)]⟩
theorem prt_good {rs : List RuleR} {pn : Nat} (h0 : polE rs pn = 0) (h : parE (polTx rs) = 0 ∧ sameRs rs (parR (polTx rs)) = true) : prtE rs pn = 0 ∧ prtT rs pn = polTx rs := by
  have h1 : prtE rs pn = 0 := by unfold prtE; rw [if_neg (by rw [h0]; simp), if_pos h]
  exact ⟨h1, by unfold prtT; rw [if_pos h1]⟩
theorem pol_valid {rs : List RuleR} {pn : Nat} (h : polE rs pn = 0) : pn ≤ 100 ∧ ∀ r ∈ rs, ruleE r = 0 := by
  unfold polE at h
  split at h
  · cases h
  · exact ⟨by omega, firstE_all h⟩

set_option maxRecDepth 100000 in
set_option maxHeartbeats 2000000 in
theorem print_c (pa : Option Addr) (pn pc : Nat) (rs : List RuleR) (w : World) (hp : PolOk w pa pn pc rs) (hl : LibP w) :
    Calls Tryz.prog 10 #[.agg #[.slice pa pn pc]] w fun e w' => e = .returned (.tuple #[.string (strOf (prtT rs pn)), .int .i64 (prtE rs pn)]) ∧ Ext w w' := by
  have HPO := hid hp
  have HL := hid hl
  have HAP := hid agg_polP
  obtain ⟨R, hR⟩ : ∃ R : Ending → World → Prop, R = fun e w' => e = .returned (.tuple #[.string (strOf (prtT rs pn)), .int .i64 (prtE rs pn)]) ∧ Ext w w' := ⟨_, rfl⟩
  rw [← hR]
  have HR := hid hR
  have hck := hid (fun w1 (h : PolOk w1 pa pn pc rs) => check_c pa pn pc rs w1 h)
  clear hR hp hl
  go_enter Tryz.func10, Tryz.ntmps10
  go_upto_region 1 with fail
  generalize hwA : World.alloc w _ = wA
  have bA : Blk wA w.heap.size [.slice pa pn pc] 25 := by rw [← hwA]; exact Blk.mk_alloc rfl rfl
  have eA : Ext w wA := by rw [← hwA]; exact (Ext.refl w).alloc _
  have BA := hid bA
  have EA := hid eA
  clear hwA bA eA
  go_wp2_with (refine wpl_loadw rfl 25 _ rfl rfl BA.out HAP.out rfl ?_)
  refine (hck.out wA (HPO.out.ext EA.out)).mono ?_
  rintro e wB ⟨rfl, eB⟩
  have BB := hid (BA.out.ext eB)
  have EB := hid (EA.out.ext eB)
  clear eB BA EA hck
  by_cases hE : polE rs pn ≠ 0
  · have HP1 := hid (prt_bad hE)
    have n1 : (polE rs pn != 0) = true := by simp; exact hE
    have n2 : decide (polE rs pn = 0) = false := decide_eq_false hE
    generalize polE rs pn = E at *
    clear hE
    go_wp2_with fail
    (try go_ret2)
    rw [HR.out]
    exact ⟨by rw [HP1.out.1, HP1.out.2]; rfl, EB.out⟩
  have hE0 : polE rs pn = 0 := Classical.not_not.1 hE
  have hval := pol_valid hE0
  have HGOOD := hid (fun h => prt_good (rs := rs) hE0 h)
  have HFORM := hid (fun h => prt_form (rs := rs) hE0 h)
  rw [hE0]
  have htl := polTx_len (W := w) (fun r hr => HPO.out.ok r hr) hval.2
  have hrl : rs.length ≤ 100 := by rw [HPO.out.hl]; exact hval.1
  have htl2 : (polTx rs).length ≤ 400100 := by
    have : rs.length * 4001 ≤ 100 * 4001 := Nat.mul_le_mul_right _ hrl
    omega
  have htx := hid (fun w1 (h : PolOk w1 pa pn pc rs) h2 => text_c pa pn pc rs w1 h hval.2 hval.1 h2)
  have hpa := hid (fun w1 h => parse_c (polTx rs) w1 h (by omega))
  clear hE hE0 hval htl hrl htl2
  go_wp2_with (refine wpl_loadw rfl 25 _ rfl rfl BB.out HAP.out rfl ?_)
  refine (htx.out wB (HPO.out.ext EB.out) (HL.out.ext EB.out)).mono ?_
  rintro e wC ⟨rfl, eC⟩
  have BC := hid (BB.out.ext eC)
  have EC := hid (EB.out.ext eC)
  clear eC BB EB htx
  generalize polTx rs = S at *
  go_wp2_with fail
  refine (hpa.out wC (HL.out.ext EC.out)).mono ?_
  rintro e wD ⟨qa, qn, qc, qs, rfl, hq, hqr, eD⟩
  have HQ := hid hq
  have HSR := hid (show sameRs rs (parR S) = sameRs rs qs by rw [← hqr, sameRs_bare])
  have BD := hid (BC.out.ext eD)
  have ED := hid (EC.out.ext eD)
  clear hq hqr eD BC EC hpa
  go_wp2_with (refine wpl_storew rfl _ _ _ rfl rfl rfl (Blk.mk_alloc (vs := [.slice none 0 0]) rfl rfl) HAP.out rfl (xs := [.slice qa qn qc]) rfl (fun v hv => by simp at hv; rw [hv]; rfl) ?_)
  intro wE bE uE
  have eE : Ext wD wE := uE.ext ((Ext.refl wD).alloc _) (Nat.le_refl _)
  have BE := hid bE
  have BE1 := hid (BD.out.ext eE)
  have EE := hid (ED.out.ext eE)
  have HQE := hid (HQ.out.ext eE)
  clear bE uE eE BD ED HQ
  generalize wD.heap.size = G6 at *
  by_cases hpe : parE S ≠ 0
  · have HP1 := hid (HFORM.out (fun h => hpe h.1))
    have n1 : (parE S != 0) = true := by simp; exact hpe
    have n2 : decide (parE S = 0) = false := decide_eq_false hpe
    generalize parE S = E at *
    clear hpe
    go_wp2_with fail
    (try go_ret2)
    rw [HR.out]
    exact ⟨by rw [HP1.out.1, HP1.out.2]; rfl, EE.out⟩
  have hpe0 : parE S = 0 := Classical.not_not.1 hpe
  rw [hpe0] at HGOOD HFORM ⊢
  have ca := BE1.out.cell' (i := 0) rfl
  have cb := BE.out.cell' (i := 0) rfl
  have heq := hid (eqRulesQ_c rs qs pa qa pn qn pc qc wE (HPO.out.ext EE.out) HQE.out)
  clear hpe hpe0
  go_wp2_with fail
  refine heq.out.mono ?_
  rintro e wF ⟨rfl, eF⟩
  have EF := hid (EE.out.ext eF)
  clear eF heq
  obtain ⟨sb, hsb⟩ : ∃ sb, sameRs rs qs = sb := ⟨_, rfl⟩
  have HSB := hid hsb
  rw [hsb]
  clear hsb
  cases sb with
  | false =>
    have HP1 := hid (HFORM.out (fun h => by have := h.2; rw [HSR.out, HSB.out] at this; cases this))
    go_wp2_with fail
    (try go_ret2)
    rw [HR.out]
    exact ⟨by rw [HP1.out.1, HP1.out.2]; rfl, EF.out⟩
  | true =>
    have HP1 := hid (HGOOD.out ⟨by first | rfl | trivial, by rw [HSR.out, HSB.out]⟩)
    go_wp2_with fail
    (try go_ret2)
    rw [HR.out]
    exact ⟨by rw [HP1.out.1, HP1.out.2]; rfl, EF.out⟩
end

section
open Go Go.RowKit

def partWd (nm : ByteArray) (ls : List ByteArray) : List ByteArray := if ls = [] then [] else nm :: ls
/-- the rule's variable, the variable of the words, their row -/
structure ShI (w : World) (G5 G6 B : Nat) (r : RuleR) (ws : List ByteArray) (a : Option Addr) (c : Nat) (wx : World) : Prop where
  e : Ext w wx
  b5 : Blk wx G5 r.v 51
  b6 : Blk wx G6 [.slice a ws.length c] 42
  own : wx.ownsRow B 9 1 (.slice a ws.length c) ws.length (ws.map encStr)
  sz : B ≤ wx.heap.size
section
variable {w wx wy wz : World} {G5 G6 B : Nat} {r : RuleR} {ws news : List ByteArray} {a a' : Option Addr} {c c' : Nat}
theorem ShI.ext (h : ShI w G5 G6 B r ws a c wx) (e : Ext wx wy) : ShI w G5 G6 B r ws a c wy := ⟨h.e.ext e, h.b5.ext e, h.b6.ext e, own_extP h.own e, Nat.le_trans h.sz e.size⟩
end
set_option maxRecDepth 100000 in
set_option maxHeartbeats 2000000 in
theorem radd_c (w : World) (G5 G6 B : Nat) (r : RuleR) (ws : List ByteArray) (a : Option Addr) (c : Nat) (nm : ByteArray) (la : Option Addr) (ln lc : Nat) (ls : List ByteArray) (wx : World)
    (h : ShI w G5 G6 B r ws a c wx) (hwB : w.heap.size ≤ B) (h56 : G5 ≠ G6) (hw6 : w.heap.size ≤ G6) (hl : ls.length = ln) (hnc : ln ≤ lc) (hcl : Cells wx la (ls.map encStr)) (hoff : OffA (Value.slice a ws.length c).ownBlock la ln) (hb : ws.length + ln ≤ 1000) :
    Calls Tryz.prog 63 #[.string nm, .slice la ln lc, .pointer (some ⟨G6, 0, none⟩)] wx fun e w' => e = .returned (.tuple #[]) ∧ ∃ a' c', ShI w G5 G6 B r (ws ++ partWd nm ls) a' c' w' := by
  have I := hid h
  have HCL := hid hcl
  have HL := hid hl
  have HNC := hid hnc
  have HOFF := hid hoff
  have HT := hid elem_strP
  clear h hcl hoff
  by_cases h0 : ln = 0
  · have hls : ls = [] := List.length_eq_zero_iff.1 (hl.trans h0)
    have HW := hid (show ws ++ partWd nm ls = ws by unfold partWd; rw [if_pos hls, List.append_nil])
    clear hls hl hnc
    subst h0
    go_enter Tryz.func63, Tryz.ntmps63
    go_wp2
    go_end0
    exact ⟨rfl, a, c, by rw [HW.out]; exact I.out⟩
  · have hne : ls ≠ [] := fun e => h0 (by rw [← hl, e]; rfl)
    have HW := hid (show ws ++ partWd nm ls = (ws ++ [nm]) ++ ls by unfold partWd; rw [if_neg hne]; simp)
    have HLA := hid (show la = none → lc = 0 from fun h => by
      obtain ⟨b, o, e, _⟩ := HCL.out.some_of (by rw [List.length_map, hl]; omega)
      rw [e] at h
      cases h)
    have g1 : decide ((0 : Int) < (ln : Int)) = true := decide_eq_true (by omega)
    have g2 : decide (0 < ln) = true := decide_eq_true (by omega)
    have g3 : 0 < ln := by omega
    have k6 := I.out.b6.cell' (i := 0) rfl
    clear hne h0 hl hnc
    go_enter Tryz.func63, Tryz.ntmps63
    go_upto_region 1 with fail
    clear g1 g2 g3
    go_wp2_with (refine wpl_appendA (n := ws.length) (m := 1) (c := 1) (xs := ws.map encStr) (news := [encStr nm]) HT.out rfl _ _ rfl B rfl rfl (own_extP I.out.own ((Ext.refl _).alloc _)) rfl (Nat.le_refl _) (fun h => by cases h) (Cells.of_blk0 (Blk.mk_alloc rfl rfl)) (fun u hu => by simp at hu; rw [hu]; rfl) (by omega) (by omega) (Nat.le_trans I.out.sz (by rw [size_allocP]; omega)) ?_)
    intro v1' v1 own1 g1 hn1
    obtain ⟨a1, c1, rfl, _, _, _⟩ := own_cellsA own1
    have OW1 := hid own1
    have C1 := hid (HOFF.out.cells (by rw [List.length_map, HL.out]) (HCL.out.ext ((Ext.refl _).alloc _)) g1)
    have G1 := hid g1
    have hs1 := g1.size
    rw [size_allocP] at hs1
    have hsz := I.out.sz
    clear own1 g1 hn1
    go_wp2_with (refine wpl_appendA (n := ws.length + 1) (m := ln) (c := lc) (xs := ws.map encStr ++ [encStr nm]) (news := ls.map encStr) HT.out rfl _ _ rfl B rfl rfl OW1.out (by rw [List.length_map, Nat.mul_one]; exact HL.out) HNC.out HLA.out C1.out (fun u hu => by obtain ⟨s, _, rfl⟩ := List.mem_map.1 hu; rfl) (by omega) (by omega) (by omega) ?_)
    intro v2' v2 own2 g2 hn2
    obtain ⟨a2, c2, rfl, _, _, _⟩ := own_cellsA own2
    have hlen : ((ws ++ [nm]) ++ ls).length = ws.length + 1 + ln := by simp only [List.length_append, List.length_cons, List.length_nil, HL.out]
    have OW2 : Hid (v2.ownsRow B 9 1 (.slice a2 ((ws ++ [nm]) ++ ls).length c2) ((ws ++ [nm]) ++ ls).length (((ws ++ [nm]) ++ ls).map encStr)) := hid (by rw [hlen]; first | exact own2 | simpa using own2)
    have hge1 : ∀ q, (Value.slice a1 (ws.length + 1) c1).ownBlock = some q → B ≤ q := fun q hq => (OW1.out.lt q hq).1
    have b6 : Blk v2 G6 [.slice a ws.length c] 42 := ((I.out.b6.alloc _).besides (own_extP I.out.own ((Ext.refl _).alloc _)) G1.out (by decide)).besides OW1.out g2 (by decide)
    have c6 := b6.cell' (i := 0) rfl
    have f6 := b6.frozen 0
    have B6 := hid b6
    have HG2 := hid g2
    have HLEN := hid hlen
    have hge0 : ∀ q, (Value.slice a ws.length c).ownBlock = some q → B ≤ q := fun q hq => (I.out.own.lt q hq).1
    have b5 : Blk v2 G5 r.v 51 := ((I.out.b5.alloc _).besides (own_extP I.out.own ((Ext.refl _).alloc _)) G1.out (by decide)).besides OW1.out g2 (by decide)
    have e2 : Ext w v2 := ((I.out.e.alloc _).grown G1.out (fun q hq => Nat.le_trans hwB (hge0 q hq))).grown g2 (fun q hq => Nat.le_trans hwB (hge1 q hq))
    have B5 := hid b5
    have E2 := hid e2
    have hs2 := g2.size
    clear own2 g2 hn2 hlen hge1 hge0 b6 b5 e2 k6
    go_wp2_with fail
    obtain ⟨v3, hv3⟩ : ∃ W, World.setCell v2 ⟨G6, 0, none⟩ (.slice a2 (ws.length + 1 + ln) c2) = W := ⟨_, rfl⟩
    try rw [hv3]
    go_end0
    refine ⟨rfl, a2, c2, ?_⟩
    have u : Upd v2 G6 v3 := by rw [← hv3]; exact Upd.setCell _
    rw [HW.out]
    refine ⟨u.ext E2.out hw6, B5.out.upd u h56, ?_, own_updA OW2.out u B6.out (by decide), by rw [u.size]; omega⟩
    rw [HLEN.out, ← hv3]
    exact B6.out.set 0 _
end
end Go.Proofs.YthfddfgncolnbaaGreatDoor
