/- Contracts and laws that the claim's row leans on (1 texts, joined): keyref1.BodyError; conditions: the body's memory. -/
import Derived.Test.YtkcjdginoccgjaaJ5
namespace Go.Proofs.Ytkcjdginoccgjaa
section
open Go Go.RowKit

set_option maxRecDepth 100000 in
set_option maxHeartbeats 1000000 in
theorem hasC_c (k : Nat) (u : ByteArray) (n : Bool) (p : Addr) (w : World) (hu : w.cell? p = some (.string u)) (hc : ∀ w, Calls Try.prog 128 #[.string u, .string ⟨#[letter k]⟩] w fun e w' => e = .returned (.bool n) ∧ w = w') :
    Calls Try.prog 127 #[.string ⟨#[letter k]⟩, .pointer (some p)] w fun e w' => e = .returned (.bool n) ∧ w = w' := by
  have HU := hid hu
  have HC := hid hc
  obtain ⟨sl, hsl⟩ : ∃ sl : ByteArray, (⟨#[letter k]⟩ : ByteArray) = sl := ⟨_, rfl⟩
  rw [hsl] at HC ⊢
  clear hu hc hsl
  go_enter Try.func127, Try.ntmps127
  go_wp2_with (first | (refine wpg_run rfl (exec_load_oneU rfl rfl HU.out one_str) ?_))
  refine (HC.out w).mono ?_
  rintro e w' ⟨rfl, rfl⟩
  go_wp2_with fail
  go_ret
  exact ⟨rfl, rfl⟩
set_option maxRecDepth 100000 in
set_option maxHeartbeats 1000000 in
theorem inC_c (n a b : Int) (w : World) :
    Calls Try.prog 129 #[.int .i64 n, .int .i64 a, .int .i64 b] w fun e w' => e = .returned (.bool (!outB n a b)) ∧ w = w' := by
  by_cases h1 : a ≤ n
  · by_cases h2 : n ≤ b
    · have hv : outB n a b = false := by unfold outB; simp; omega
      have d1 : decide (a ≤ n) = true := decide_eq_true h1
      have d2 : decide (n ≤ b) = true := decide_eq_true h2
      rw [hv]
      clear hv h1 h2
      go_enter Try.func129, Try.ntmps129
      go_wp2
      go_ret
      exact ⟨rfl, rfl⟩
    · have hv : outB n a b = true := by unfold outB; simp; omega
      have d1 : decide (a ≤ n) = true := decide_eq_true h1
      have d2 : decide (n ≤ b) = false := decide_eq_false h2
      rw [hv]
      clear hv h1 h2
      go_enter Try.func129, Try.ntmps129
      go_wp2
      go_ret
      exact ⟨rfl, rfl⟩
  · have hv : outB n a b = true := by unfold outB; simp; omega
    have d1 : decide (a ≤ n) = false := decide_eq_false h1
    rw [hv]
    clear hv h1
    go_enter Try.func129, Try.ntmps129
    go_wp2
    go_ret
    exact ⟨rfl, rfl⟩
/-- the reference's test of the numbers -/
def rangeR (act : Int) (b : BodyR) : Bool :=
  (needAt act 6 && outB b.purpose 1 3) || ((needAt act 7 && outB b.reason 0 255) || ((needAt act 10 && outB b.version 0 255) || ((needAt act 8 && outB b.need 1 32) || ((needAt act 5 && outB b.epoch 0 4294967295) || (needAt act 11 && outB b.count 0 65536)))))
theorem range_same {act : Int} {b : BodyR} (h : extraB b (needsL act) = false) : rangeR act b = rangeB act b := by
  have z := zeros_of h
  unfold rangeR rangeB
  have e7 : (needAt act 7 && outB b.reason 0 255) = outB b.reason 0 255 := by
    cases hn : needAt act 7 with
    | true => rfl
    | false => rw [z.a hn]; rfl
  have e10 : (needAt act 10 && outB b.version 0 255) = outB b.version 0 255 := by
    cases hn : needAt act 10 with
    | true => rfl
    | false => rw [z.v hn]; rfl
  have e5 : (needAt act 5 && outB b.epoch 0 4294967295) = outB b.epoch 0 4294967295 := by
    cases hn : needAt act 5 with
    | true => rfl
    | false => rw [z.e hn]; rfl
  have e11 : (needAt act 11 && outB b.count 0 65536) = outB b.count 0 65536 := by
    cases hn : needAt act 11 with
    | true => rfl
    | false => rw [z.k hn]; rfl
  rw [e7, e10, e5, e11]
  simp only [Bool.or_assoc]

set_option maxRecDepth 100000 in
set_option maxHeartbeats 8000000 in
theorem bodyError_c (act : Int) (b : BodyR) (w : World) (hr : b.Ok w) :
    Calls Try.prog 80 #[.int .i64 act, .agg b.v.toArray] w fun e w' => e = .returned (.int .i64 (bodyE act b)) ∧ Ext w w' := by
  have HR := hid hr
  obtain ⟨E, hE⟩ : ∃ E, bodyE act b = E := ⟨_, rfl⟩
  rw [hE]
  unfold bodyE at hE
  by_cases h1 : act < 1
  · have hl : lactB act = false := by unfold lactB; rw [decide_eq_false (by omega)]; rfl
    rw [hl] at hE
    have he : (3 : Int) = E := hE
    have HE := hid he
    have d1 : decide (act < 1) = true := decide_eq_true h1
    clear hE he hl h1 hr
    go_enter Try.func80, Try.ntmps80
    go_wp2_with fail
    go_ret
    exact ⟨by rw [← HE.out]; rfl, (Ext.refl w).alloc _⟩
  by_cases h2 : 12 < act
  · have hl : lactB act = false := by unfold lactB; rw [decide_eq_false (show ¬ act ≤ 12 by omega), Bool.and_false]
    rw [hl] at hE
    have he : (3 : Int) = E := hE
    have HE := hid he
    have d1 : decide (act < 1) = false := decide_eq_false h1
    have d2 : decide (12 < act) = true := decide_eq_true h2
    clear hE he hl h1 h2 hr
    go_enter Try.func80, Try.ntmps80
    go_wp2_with fail
    go_ret
    exact ⟨by rw [← HE.out]; rfl, (Ext.refl w).alloc _⟩
  have hl : lactB act = true := by unfold lactB; rw [decide_eq_true (show 1 ≤ act by omega), decide_eq_true (show act ≤ 12 by omega)]; rfl
  have d1 : decide (act < 1) = false := decide_eq_false h1
  have d2 : decide (12 < act) = false := decide_eq_false h2
  have hbf := hid (fun w' h => bodyForm_c act b w' h hl)
  have hhas := hid (fun k w hk => has_c act k w hl hk)
  obtain ⟨K, rfl⟩ : ∃ K : Nat, act = (K : Int) := ⟨act.toNat, by omega⟩
  have huse := hid (fun w => uses_c K w (by omega))
  obtain ⟨u, hu⟩ : ∃ u : ByteArray, (⟨(usesL K).toArray⟩ : ByteArray) = u := ⟨_, rfl⟩
  rw [show (K : Int).toNat = K from rfl, hu] at hhas
  rw [hu] at huse
  have hrg : extraB b (needsL (K : Int)) = false → rangeR (K : Int) b = rangeB (K : Int) b := range_same
  rw [hl] at hE
  clear hu hl h1 h2 hr
  go_enter Try.func80, Try.ntmps80
  go_upto_region 1 with (fail)
  generalize hwA : World.alloc w _ = wA
  have bA : Blk wA w.heap.size b.v 72 := by rw [← hwA]; exact Blk.mk_alloc rfl rfl
  have eA : Ext w wA := by rw [← hwA]; exact (Ext.refl w).alloc _
  have BA := hid bA
  have EA := hid eA
  have HRA := hid (HR.out.ext eA)
  have HLEN := hid (BodyR.len HR.out)
  clear hwA bA eA
  cases hX : extraB b (needsL (K : Int)) with
  | true =>
    rw [hX] at hE
    have he : (2 : Int) = E := hE
    have HE := hid he
    have hbf2 := hbf.out wA HRA.out
    rw [hX] at hbf2
    have HBF := hid hbf2
    clear hE he hbf2 hrg hbf
    go_wp2_with (refine wpl_loadw rfl 72 (.tmp 3) rfl rfl BA.out agg_body HLEN.out ?_)
    refine HBF.out.mono ?_
    rintro e w2 ⟨rfl, e2⟩
    have E2 := hid (EA.out.ext e2)
    clear e2
    go_wp2_with fail
    go_ret
    exact ⟨by rw [← HE.out]; rfl, E2.out⟩
  | false =>
  rw [hX] at hE
  rw [← hrg hX] at hE
  have hbf2 := hbf.out wA HRA.out
  rw [hX] at hbf2
  have HBF := hid hbf2
  have HE := hid hE
  clear hE hbf2 hrg hbf hX
  go_wp2_with (refine wpl_loadw rfl 72 (.tmp 3) rfl rfl BA.out agg_body HLEN.out ?_)
  refine HBF.out.mono ?_
  rintro e w2 ⟨rfl, e2⟩
  have BB := hid (BA.out.ext e2)
  have EB := hid (EA.out.ext e2)
  clear e2 BA EA HRA HBF
  go_wp2_with fail
  refine (huse.out w2).mono ?_
  rintro e w3 ⟨rfl, e3⟩
  have BC := hid (BB.out.ext e3)
  have EC := hid (EB.out.ext e3)
  clear e3 BB EB huse
  go_upto_region 9 with (fail)
  generalize hwD : World.alloc w3 _ = wD
  have uD : Blk wD w3.heap.size [.string u] 9 := by rw [← hwD]; exact Blk.mk_alloc rfl rfl
  have eD : Ext w3 wD := by rw [← hwD]; exact (Ext.refl w3).alloc _
  obtain ⟨gu, hgu⟩ : ∃ gu, w3.heap.size = gu := ⟨_, rfl⟩
  rw [hgu] at uD ⊢
  have BD := hid (BC.out.ext eD)
  have ED := hid (EC.out.ext eD)
  have UD := hid uD
  have HRD := hid (HR.out.ext ED.out)
  clear hwD uD eD hgu BC EC
  have c0 := BD.out.cell' (BodyR.at0 b)
  have c17 := BD.out.cell' (BodyR.at17 HRD.out)
  have c57 := BD.out.cell' (BodyR.at57 HRD.out)
  by_cases q1 : 32768 < b.text.size
  · have d3 : decide (32768 < b.text.size) = true := decide_eq_true q1
    have d4 : decide ((32768 : Int) < (b.text.size : Int)) = true := decide_eq_true (by omega)
    have he : (5 : Int) = E := by rw [← HE.out]; simp [q1]
    clear HE
    have HE := hid he
    clear he q1
    go_wp2
    go_ret
    exact ⟨by rw [← HE.out]; rfl, ED.out⟩
  have d3 : decide (32768 < b.text.size) = false := decide_eq_false q1
  have d3' : decide ((32768 : Int) < (b.text.size : Int)) = false := decide_eq_false (by omega)
  by_cases q2 : 16 < b.rn
  · have d4 : decide (16 < b.rn) = true := decide_eq_true q2
    have d5 : decide ((16 : Int) < (b.rn : Int)) = true := decide_eq_true (by omega)
    have he : (5 : Int) = E := by rw [← HE.out]; simp [q2]
    clear HE
    have HE := hid he
    clear he q2
    go_wp2
    go_ret
    exact ⟨by rw [← HE.out]; rfl, ED.out⟩
  have d4 : decide (16 < b.rn) = false := decide_eq_false q2
  have d4' : decide ((16 : Int) < (b.rn : Int)) = false := decide_eq_false (by omega)
  by_cases q3 : 32 < b.hn
  · have d5 : decide (32 < b.hn) = true := decide_eq_true q3
    have d6 : decide ((32 : Int) < (b.hn : Int)) = true := decide_eq_true (by omega)
    have he : (5 : Int) = E := by rw [← HE.out]; simp [q3]
    clear HE
    have HE := hid he
    clear he q3
    go_wp2
    go_ret
    exact ⟨by rw [← HE.out]; rfl, ED.out⟩
  have d5 : decide (32 < b.hn) = false := decide_eq_false q3
  have d5' : decide ((32 : Int) < (b.hn : Int)) = false := decide_eq_false (by omega)
  have HE2 := HE.out
  rw [d3, d4, d5] at HE2
  obtain ⟨R, hR⟩ : ∃ R, rolesE b.roles = R := ⟨_, rfl⟩
  rw [hR] at HE2
  have hR0 : rolesF (prevS b.roles 0) (b.roles.drop 0) = R := hR
  have HRR := hid hR
  have HR0 := hid hR0
  clear HE hR hR0
  have HE := hid HE2
  clear HE2
  have HRL := hid HRD.out.rl
  go_upto_block 0 with (fail)
  go_cut [] (fun wx => R = 0 ∧ Ext wD wx)
  case first =>
    go_wp2_with fail
    go_loopw [46] (fun i wr => ∃ k : Nat, k ≤ b.rn ∧ i = .int .i64 (k : Int) ∧ rolesF (prevS b.roles k) (b.roles.drop k) = R ∧ Ext wD wr) (fun i _ => b.rn - (intOf i).toNat)
    case atStart => exact ⟨0, by omega, rfl, HR0.out, Ext.refl _⟩
    case round =>
      obtain ⟨k, hk, rfl, hpre, e1⟩ := hrel
      have E1 := hid e1
      have H1 := hid (HRD.out.ext e1)
      have B1 := hid (BD.out.ext e1)
      clear e1
      by_cases hlt : k < b.rn
      · have t1 : decide ((k : Int) < (b.rn : Int)) = true := decide_eq_true (by omega)
        have t2 : decide (k < b.rn) = true := decide_eq_true hlt
        have HRL2 := HRL.out
        obtain ⟨x, hxk⟩ : ∃ x, b.roles[k]? = some x := ⟨b.roles[k]'(by omega), List.getElem?_eq_getElem _⟩
        rw [rolesF_step hxk] at hpre
        obtain ⟨A, hA, hcx⟩ := strs_at H1.out.rcell hxk
        have HCX := hid hcx
        have HA := hid hA
        have HNM := hid (fun w' => risName_c x w' (by have := H1.out.rs x (List.mem_of_getElem? hxk); omega))
        clear hcx HRL2
        cases hnm : isNameL x.data.toList with
        | false =>
          rw [hnm] at HNM hpre
          have he : (6 : Int) = E := by
            have h6 : R = 6 := by rw [← hpre]; rfl
            rw [← HE.out, h6]; rfl
          have HEE := hid he
          clear hpre hxk he hA c0 c17 c57
          go_wp2_with (first | (refine wpg_run rfl (exec_index (p := A) (i := k) rfl (by show Value.slice b.ra b.rn b.rc = _; rw [HA.out]) rfl Try.underlying69 size_str hlt _) ?_) | (refine wpg_run rfl (exec_load_oneU rfl rfl HCX.out one_str) ?_))
          refine (HNM.out wr).mono ?_
          rintro e w5 ⟨rfl, e5⟩
          have E5 := hid (E1.out.ext e5)
          clear e5
          go_wp2_with fail
          go_ret
          exact ⟨by rw [← HEE.out]; rfl, ED.out.ext E5.out⟩
        | true =>
          rw [hnm] at HNM hpre
          simp only [if_true] at hpre
          cases k with
          | zero =>
            have hr : rolesF (prevS b.roles 1) (b.roles.drop 1) = R := hpre
            have HR1 := hid hr
            clear hr hpre hxk hA c0 c17 c57
            go_wp2_with (first | (refine wpg_run rfl (exec_index (p := A) (i := 0) rfl (by show Value.slice b.ra b.rn b.rc = _; rw [HA.out]) rfl Try.underlying69 size_str hlt _) ?_) | (refine wpg_run rfl (exec_load_oneU rfl rfl HCX.out one_str) ?_))
            refine (HNM.out wr).mono ?_
            rintro e w5 ⟨rfl, e5⟩
            have E5 := hid (E1.out.ext e5)
            clear e5
            go_wp2_with fail
            go_roundw
            case rel => exact ⟨1, by omega, by go_num, HR1.out, E5.out⟩
            case measure => simp [intOf]; omega
          | succ j =>
            have HRL2 := HRL.out
            obtain ⟨q, hq⟩ : ∃ q, b.roles[j]? = some q := ⟨b.roles[j]'(by omega), List.getElem?_eq_getElem _⟩
            obtain ⟨A2, hA2, hcq⟩ := strs_at H1.out.rcell hq
            rw [hA] at hA2
            injection hA2 with hA2
            subst hA2
            have HCQ0 := hid hcq
            have hp2 : (if lessS q x = true then rolesF (prevS b.roles (j + 2)) (b.roles.drop (j + 2)) else 9) = R := by
              rw [show prevS b.roles (j + 1) = some q from hq] at hpre; exact hpre
            have HP2 := hid hp2
            have HLQ := hid (less_leq q x)
            have hj : j < b.rn := by omega
            have hwk : IntKind.i64.wrap (((j + 1 : Nat) : Int) - 1) = (j : Int) := by rw [IntWalk.i64_in _ (by omega)]; omega
            have t3 : decide ((0 : Int) < ((j + 1 : Nat) : Int)) = true := decide_eq_true (by omega)
            clear hcq hq hpre hxk hp2 HRL2 c0 c17 c57 hA
            go_wp2_with (first | (refine wpg_run rfl (exec_index (p := A) (i := j + 1) rfl (by show Value.slice b.ra b.rn b.rc = _; rw [HA.out]) rfl Try.underlying69 size_str hlt _) ?_) | (refine wpg_run rfl (exec_load_oneU rfl rfl HCX.out one_str) ?_))
            refine (HNM.out wr).mono ?_
            rintro e w5 ⟨rfl, e5⟩
            have HCQ := hid (cell_extU HCQ0.out e5)
            have c17 := (B1.out.ext e5).cell' (BodyR.at17 H1.out)
            rw [HA.out] at c17
            have E5 := hid (E1.out.ext e5)
            clear e5 HCQ0
            go_wp2_with (first | (refine wpg_run rfl (exec_index (p := A) (i := j) rfl rfl rfl Try.underlying69 size_str hj _) ?_) | (refine wpg_run rfl (exec_load_oneU rfl rfl HCQ.out one_str) ?_))
            · rename_i hlq
              have hq2 : lessS q x = false := by unfold lessS; simpa using hlq
              have h9 : R = 9 := by rw [← HP2.out, hq2]; rfl
              have he : (9 : Int) = E := by rw [← HE.out, h9]; rfl
              go_ret
              exact ⟨by rw [← he]; rfl, ED.out.ext E5.out⟩
            · rename_i hlq
              have hq2 : lessS q x = true := by unfold lessS; simpa using hlq
              have h3 : rolesF (prevS b.roles (j + 2)) (b.roles.drop (j + 2)) = R := by have := HP2.out; rw [hq2] at this; simpa using this
              go_roundw
              case rel => exact ⟨j + 2, by omega, by go_num, h3, E5.out⟩
              case measure => simp [intOf]; omega
      · have t1 : decide ((k : Int) < (b.rn : Int)) = false := decide_eq_false (by omega)
        have t2 : decide (k < b.rn) = false := decide_eq_false hlt
        rw [rolesF_end (by rw [HRL.out]; omega)] at hpre
        have HPRE := hid hpre
        clear hpre c0 c17 c57
        go_wp2_with fail
        go_meet
        exact ⟨HPRE.out.symm, E1.out⟩
  case rest =>
  obtain ⟨hR00, eW⟩ := hcut
  subst hR00
  have BW := hid (BD.out.ext eW)
  have EW := hid (ED.out.ext eW)
  have UW := hid (UD.out.ext eW)
  have HRW := hid (HRD.out.ext eW)
  obtain ⟨wE, hwE⟩ : ∃ wE, wc = wE := ⟨_, rfl⟩
  rw [hwE] at BW EW UW HRW ⊢
  clear hwE eW BD ED UD HRD HR0 HRR c0 c17 c57 d1 d2 d3 d3' d4 d4' d5 d5' q1 q2 q3
  have c18 := BW.out.cell' (BodyR.at18 HRW.out)
  have hnm := hid (fun w' => risName_c b.label w' (by have := HRW.out.ls; omega))
  have huc := UW.out.cell' (i := 0) (v := .string u) rfl
  have HE3 := HE.out
  unfold rangeR at HE3
  simp only [bne_self_eq_false, Bool.false_eq_true, if_false] at HE3
  have g3 := fun w' hc => hasC_c 3 u (needAt (K : Int) 3) ⟨gu, 0, none⟩ w' hc (fun w => hhas.out 3 w (by omega))
  generalize needAt (K : Int) 3 = n3 at g3 HE3
  have g3 := hid g3
  have g6 := fun w' hc => hasC_c 6 u (needAt (K : Int) 6) ⟨gu, 0, none⟩ w' hc (fun w => hhas.out 6 w (by omega))
  generalize needAt (K : Int) 6 = n6 at g6 HE3
  have g6 := hid g6
  have g7 := fun w' hc => hasC_c 7 u (needAt (K : Int) 7) ⟨gu, 0, none⟩ w' hc (fun w => hhas.out 7 w (by omega))
  generalize needAt (K : Int) 7 = n7 at g7 HE3
  have g7 := hid g7
  have g10 := fun w' hc => hasC_c 10 u (needAt (K : Int) 10) ⟨gu, 0, none⟩ w' hc (fun w => hhas.out 10 w (by omega))
  generalize needAt (K : Int) 10 = n10 at g10 HE3
  have g10 := hid g10
  have g8 := fun w' hc => hasC_c 8 u (needAt (K : Int) 8) ⟨gu, 0, none⟩ w' hc (fun w => hhas.out 8 w (by omega))
  generalize needAt (K : Int) 8 = n8 at g8 HE3
  have g8 := hid g8
  have g5 := fun w' hc => hasC_c 5 u (needAt (K : Int) 5) ⟨gu, 0, none⟩ w' hc (fun w => hhas.out 5 w (by omega))
  generalize needAt (K : Int) 5 = n5 at g5 HE3
  have g5 := hid g5
  have g11 := fun w' hc => hasC_c 11 u (needAt (K : Int) 11) ⟨gu, 0, none⟩ w' hc (fun w => hhas.out 11 w (by omega))
  generalize needAt (K : Int) 11 = n11 at g11 HE3
  have g11 := hid g11
  generalize isNameL b.label.data.toList = K3 at hnm HE3
  have x6 := fun w' => inC_c b.purpose 1 3 w'
  generalize outB b.purpose 1 3 = o6 at x6 HE3
  have x6 := hid x6
  have x7 := fun w' => inC_c b.reason 0 255 w'
  generalize outB b.reason 0 255 = o7 at x7 HE3
  have x7 := hid x7
  have x10 := fun w' => inC_c b.version 0 255 w'
  generalize outB b.version 0 255 = o10 at x10 HE3
  have x10 := hid x10
  have x8 := fun w' => inC_c b.need 1 32 w'
  generalize outB b.need 1 32 = o8 at x8 HE3
  have x8 := hid x8
  have x5 := fun w' => inC_c b.epoch 0 4294967295 w'
  generalize outB b.epoch 0 4294967295 = o5 at x5 HE3
  have x5 := hid x5
  have x11 := fun w' => inC_c b.count 0 65536 w'
  generalize outB b.count 0 65536 = o11 at x11 HE3
  have x11 := hid x11
  clear HE hhas
  have HE := hid HE3
  clear HE3
  go_upto_block 2 with (fail)
  go_cut [] (fun wx => (n3 && !K3) = false ∧ ((n6 && o6) || ((n7 && o7) || ((n10 && o10) || ((n8 && o8) || ((n5 && o5) || (n11 && o11)))))) = false ∧ Ext wE wx)
  case first =>
    go_upto_region 19 with (fail)
    go_cut [67] (fun v wx => v = .bool (n3 && !K3) ∧ Ext wE wx)
    case first =>
      cases n3 with
      | false =>
        go_wp2_with fail
        refine (g3.out wE huc).mono ?_
        rintro e w6 ⟨rfl, rfl⟩
        go_wp2_with fail
        go_meet
        exact ⟨rfl, Ext.refl _⟩
      | true =>
        go_wp2_with fail
        refine (g3.out wE huc).mono ?_
        rintro e w6 ⟨rfl, rfl⟩
        go_wp2_with fail
        refine (hnm.out _).mono ?_
        rintro e w6 ⟨rfl, e6⟩
        have E6 := hid e6
        clear e6
        go_wp2_with fail
        go_meet
        exact ⟨rfl, E6.out⟩
    case rest =>
    obtain ⟨rfl, e7⟩ := hcut
    have B7 := hid (BW.out.ext e7)
    have E7 := hid e7
    have u7 := (UW.out.ext e7).cell' (i := 0) (v := .string u) rfl
    have U7 := hid u7
    clear e7 u7 c18 huc hnm g3
    obtain ⟨wF, hwF⟩ : ∃ wF, wc = wF := ⟨_, rfl⟩
    rw [hwF] at B7 E7 U7 ⊢
    clear hwF
    generalize hD3 : (n3 && !K3) = D3 at HE ⊢
    have HD3 := hid hD3
    clear hD3
    cases D3 with
    | true =>
      have he : (6 : Int) = E := by rw [← HE.out]; rfl
      clear HE
      go_wp2_with fail
      go_ret
      exact ⟨by rw [← he]; rfl, EW.out.ext E7.out⟩
    | false =>
    have p6 := B7.out.cell' (BodyR.at52 HRW.out)
    go_upto_region 21 with (fail)
    go_cut [76] (fun v wx => v = .bool (n6 && o6) ∧ wx = wF)
    case first =>
      cases n6 with
      | false =>
        go_wp2_with fail
        refine (g6.out wF U7.out).mono ?_
        rintro e w6 ⟨rfl, rfl⟩
        go_wp2_with fail
        go_meet
        exact ⟨rfl, rfl⟩
      | true =>
        go_wp2_with fail
        refine (g6.out wF U7.out).mono ?_
        rintro e w6 ⟨rfl, rfl⟩
        go_wp2_with fail
        refine (x6.out wF).mono ?_
        rintro e w6 ⟨rfl, rfl⟩
        go_wp2_with fail
        go_meet
        exact ⟨by cases o6 <;> rfl, rfl⟩
    case rest =>
    obtain ⟨rfl, hww⟩ := hcut
    rw [hww]
    clear hww p6
    generalize hD6 : (n6 && o6) = D6 at HE ⊢
    have HD6 := hid hD6
    clear hD6
    cases D6 with
    | true =>
      have he : (4 : Int) = E := by rw [← HE.out]; rfl
      clear HE
      go_wp2_with fail
      go_ret
      exact ⟨by rw [← he]; rfl, EW.out.ext E7.out⟩
    | false =>
    have p7 := B7.out.cell' (BodyR.at53 HRW.out)
    go_upto_region 22 with (fail)
    go_cut [76] (fun v wx => v = .bool (n7 && o7) ∧ wx = wF)
    case first =>
      cases n7 with
      | false =>
        go_wp2_with fail
        refine (g7.out wF U7.out).mono ?_
        rintro e w6 ⟨rfl, rfl⟩
        go_wp2_with fail
        go_meet
        exact ⟨rfl, rfl⟩
      | true =>
        go_wp2_with fail
        refine (g7.out wF U7.out).mono ?_
        rintro e w6 ⟨rfl, rfl⟩
        go_wp2_with fail
        refine (x7.out wF).mono ?_
        rintro e w6 ⟨rfl, rfl⟩
        go_wp2_with fail
        go_meet
        exact ⟨by cases o7 <;> rfl, rfl⟩
    case rest =>
    obtain ⟨rfl, hww⟩ := hcut
    rw [hww]
    clear hww p7
    generalize hD7 : (n7 && o7) = D7 at HE ⊢
    have HD7 := hid hD7
    clear hD7
    cases D7 with
    | true =>
      have he : (4 : Int) = E := by rw [← HE.out]; rfl
      clear HE
      go_wp2_with fail
      go_ret
      exact ⟨by rw [← he]; rfl, EW.out.ext E7.out⟩
    | false =>
    have p10 := B7.out.cell' (BodyR.at55 HRW.out)
    go_upto_region 23 with (fail)
    go_cut [76] (fun v wx => v = .bool (n10 && o10) ∧ wx = wF)
    case first =>
      cases n10 with
      | false =>
        go_wp2_with fail
        refine (g10.out wF U7.out).mono ?_
        rintro e w6 ⟨rfl, rfl⟩
        go_wp2_with fail
        go_meet
        exact ⟨rfl, rfl⟩
      | true =>
        go_wp2_with fail
        refine (g10.out wF U7.out).mono ?_
        rintro e w6 ⟨rfl, rfl⟩
        go_wp2_with fail
        refine (x10.out wF).mono ?_
        rintro e w6 ⟨rfl, rfl⟩
        go_wp2_with fail
        go_meet
        exact ⟨by cases o10 <;> rfl, rfl⟩
    case rest =>
    obtain ⟨rfl, hww⟩ := hcut
    rw [hww]
    clear hww p10
    generalize hD10 : (n10 && o10) = D10 at HE ⊢
    have HD10 := hid hD10
    clear hD10
    cases D10 with
    | true =>
      have he : (4 : Int) = E := by rw [← HE.out]; rfl
      clear HE
      go_wp2_with fail
      go_ret
      exact ⟨by rw [← he]; rfl, EW.out.ext E7.out⟩
    | false =>
    have p8 := B7.out.cell' (BodyR.at54 HRW.out)
    go_upto_region 24 with (fail)
    go_cut [76] (fun v wx => v = .bool (n8 && o8) ∧ wx = wF)
    case first =>
      cases n8 with
      | false =>
        go_wp2_with fail
        refine (g8.out wF U7.out).mono ?_
        rintro e w6 ⟨rfl, rfl⟩
        go_wp2_with fail
        go_meet
        exact ⟨rfl, rfl⟩
      | true =>
        go_wp2_with fail
        refine (g8.out wF U7.out).mono ?_
        rintro e w6 ⟨rfl, rfl⟩
        go_wp2_with fail
        refine (x8.out wF).mono ?_
        rintro e w6 ⟨rfl, rfl⟩
        go_wp2_with fail
        go_meet
        exact ⟨by cases o8 <;> rfl, rfl⟩
    case rest =>
    obtain ⟨rfl, hww⟩ := hcut
    rw [hww]
    clear hww p8
    generalize hD8 : (n8 && o8) = D8 at HE ⊢
    have HD8 := hid hD8
    clear hD8
    cases D8 with
    | true =>
      have he : (4 : Int) = E := by rw [← HE.out]; rfl
      clear HE
      go_wp2_with fail
      go_ret
      exact ⟨by rw [← he]; rfl, EW.out.ext E7.out⟩
    | false =>
    have p5 := B7.out.cell' (BodyR.at51 HRW.out)
    go_upto_region 25 with (fail)
    go_cut [76] (fun v wx => v = .bool (n5 && o5) ∧ wx = wF)
    case first =>
      cases n5 with
      | false =>
        go_wp2_with fail
        refine (g5.out wF U7.out).mono ?_
        rintro e w6 ⟨rfl, rfl⟩
        go_wp2_with fail
        go_meet
        exact ⟨rfl, rfl⟩
      | true =>
        go_wp2_with fail
        refine (g5.out wF U7.out).mono ?_
        rintro e w6 ⟨rfl, rfl⟩
        go_wp2_with fail
        refine (x5.out wF).mono ?_
        rintro e w6 ⟨rfl, rfl⟩
        go_wp2_with fail
        go_meet
        exact ⟨by cases o5 <;> rfl, rfl⟩
    case rest =>
    obtain ⟨rfl, hww⟩ := hcut
    rw [hww]
    clear hww p5
    generalize hD5 : (n5 && o5) = D5 at HE ⊢
    have HD5 := hid hD5
    clear hD5
    cases D5 with
    | true =>
      have he : (4 : Int) = E := by rw [← HE.out]; rfl
      clear HE
      go_wp2_with fail
      go_ret
      exact ⟨by rw [← he]; rfl, EW.out.ext E7.out⟩
    | false =>
    have p11 := B7.out.cell' (BodyR.at56 HRW.out)
    cases n11 with
    | false =>
      go_wp2_with fail
      refine (g11.out wF U7.out).mono ?_
      rintro e w6 ⟨rfl, rfl⟩
      go_wp2_with fail
      go_meet
      exact ⟨HD3.out, by rw [HD6.out, HD7.out, HD10.out, HD8.out, HD5.out]; rfl, E7.out⟩
    | true =>
      cases o11 with
      | true =>
        have he : (4 : Int) = E := by rw [← HE.out]; rfl
        clear HE
        go_wp2_with fail
        refine (g11.out wF U7.out).mono ?_
        rintro e w6 ⟨rfl, rfl⟩
        go_wp2_with fail
        refine (x11.out wF).mono ?_
        rintro e w6 ⟨rfl, rfl⟩
        go_wp2_with fail
        go_ret
        exact ⟨by rw [← he]; rfl, EW.out.ext E7.out⟩
      | false =>
        go_wp2_with fail
        refine (g11.out wF U7.out).mono ?_
        rintro e w6 ⟨rfl, rfl⟩
        go_wp2_with fail
        refine (x11.out wF).mono ?_
        rintro e w6 ⟨rfl, rfl⟩
        go_wp2_with fail
        go_meet
        exact ⟨HD3.out, by rw [HD6.out, HD7.out, HD10.out, HD8.out, HD5.out]; rfl, E7.out⟩
  case rest =>
  obtain ⟨z1, z2, eZ⟩ := hcut
  have hfin : (if !risHB b.holders then (9 : Int) else 0) = E := by
    have h9 := HE.out
    rw [z1, z2] at h9
    simpa using h9
  have HFIN := hid hfin
  have BZ := hid (BW.out.ext eZ)
  have EZ := hid (EW.out.ext eZ)
  have HRZ := hid (HRW.out.ext eZ)
  obtain ⟨wG, hwG⟩ : ∃ wG, wc = wG := ⟨_, rfl⟩
  rw [hwG] at BZ EZ HRZ ⊢
  clear hwG eZ z1 z2 hfin HE BW EW UW HRW c18 huc hnm g3 g6 g7 g10 g8 g5 g11 x6 x7 x10 x8 x5 x11
  have c57 := BZ.out.cell' (BodyR.at57 HRZ.out)
  go_wp2_with fail
  go_loopw [134] (fun i wr => ∃ k : Nat, k ≤ b.hn ∧ i = .int .i64 (k : Int) ∧ RisH b.holders k ∧ Ext wG wr) (fun i _ => b.hn - (intOf i).toNat)
  case atStart => exact ⟨0, by omega, rfl, RisH.one _ (by omega), Ext.refl _⟩
  case round =>
    obtain ⟨k, hk, rfl, hris, e6⟩ := hrel
    have B6 := hid (BZ.out.ext e6)
    have H6 := hid (HRZ.out.ext e6)
    have E6 := hid (EZ.out.ext e6)
    have E56 := hid e6
    have HRIS := hid hris
    clear e6 hris c57
    have c57 := B6.out.cell' (BodyR.at57 H6.out)
    by_cases hlt : k < b.hn
    · have d1 : decide ((k : Int) < (b.hn : Int)) = true := decide_eq_true (by omega)
      have d2 : decide (k < b.hn) = true := decide_eq_true hlt
      have hhl := H6.out.hl
      have hbb : b.hn ≤ 140737488355328 := HR.out.hcmax
      cases k with
      | zero =>
        have t3 : decide ((0 : Int) < ((0 : Nat) : Int)) = false := rfl
        clear c57
        go_upto_region 31 with (fail)
        obtain ⟨C, hC⟩ : ∃ C : World → Prop, C = fun w' => Ext wr w' := ⟨_, rfl⟩
        have hC0 : ∀ w', C w' ↔ Ext wr w' := fun w' => by rw [hC]
        clear hC
        have HCC := hid hC0
        clear hC0
        have hCx : ∀ w w', C w → Ext w w' → C w' := fun w w' h1 h2 => (HCC.out w').2 (((HCC.out w).1 h1).ext h2)
        refine wp_region_held_drew (S := C) (by kernel_rfl) ((HCC.out _).2 (Ext.refl wr).drew) (fun hS0 => ?_)
        refine held_take 0 (v := ?tv85) rfl (by kernel_rfl) (by kernel_rfl) (by kernel_rfl) (fun _ _ _ h => h) (.inl ⟨rfl, ?ty85⟩) hS0 ?tr85
        case ty85 => (intro _ _; go_simp; try with_reducible rfl)
        case tr85 =>
        simp only [Act.put, List.setIfInBounds_toArray, List.set_cons_succ, List.set_cons_zero]
        refine held_take 1 (v := ?tv86) rfl (by kernel_rfl) (by kernel_rfl) (by kernel_rfl) (fun _ _ _ h => h) (.inl ⟨rfl, ?ty86⟩) hS0 ?tr86
        case ty86 => (intro _ _; go_simp; try with_reducible rfl)
        case tr86 =>
        simp only [Act.put, List.setIfInBounds_toArray, List.set_cons_succ, List.set_cons_zero]
        refine held_take 2 (v := ?tv87) rfl (by kernel_rfl) (by kernel_rfl) (by kernel_rfl) (fun _ _ _ h => h) (.inl ⟨rfl, ?ty87⟩) hS0 ?tr87
        case ty87 => (intro _ _; go_simp; try with_reducible rfl)
        case tr87 =>
        simp only [Act.put, List.setIfInBounds_toArray, List.set_cons_succ, List.set_cons_zero]
        refine held_take 3 (v := undef) rfl (by kernel_rfl) (by kernel_rfl) (by kernel_rfl) (fun _ _ _ h => h) (.inr ⟨rfl, rfl⟩) hS0 ?_
        simp only [Act.put, List.setIfInBounds_toArray, List.set_cons_succ, List.set_cons_zero]
        refine held_take 4 (v := undef) rfl (by kernel_rfl) (by kernel_rfl) (by kernel_rfl) (fun _ _ _ h => h) (.inr ⟨rfl, rfl⟩) hS0 ?_
        simp only [Act.put, List.setIfInBounds_toArray, List.set_cons_succ, List.set_cons_zero]
        refine held_take 5 (v := undef) rfl (by kernel_rfl) (by kernel_rfl) (by kernel_rfl) (fun _ _ _ h => h) (.inr ⟨rfl, rfl⟩) hS0 ?_
        simp only [Act.put, List.setIfInBounds_toArray, List.set_cons_succ, List.set_cons_zero]
        refine held_take 6 (v := undef) rfl (by kernel_rfl) (by kernel_rfl) (by kernel_rfl) (fun _ _ _ h => h) (.inr ⟨rfl, rfl⟩) hS0 ?_
        simp only [Act.put, List.setIfInBounds_toArray, List.set_cons_succ, List.set_cons_zero]
        refine held_take 7 (v := undef) rfl (by kernel_rfl) (by kernel_rfl) (by kernel_rfl) (fun _ _ _ h => h) (.inr ⟨rfl, rfl⟩) hS0 ?_
        simp only [Act.put, List.setIfInBounds_toArray, List.set_cons_succ, List.set_cons_zero]
        refine held_take 8 (v := undef) rfl (by kernel_rfl) (by kernel_rfl) (by kernel_rfl) (fun _ _ _ h => h) (.inr ⟨rfl, rfl⟩) hS0 ?_
        simp only [Act.put, List.setIfInBounds_toArray, List.set_cons_succ, List.set_cons_zero]
        refine held_take 9 (v := undef) rfl (by kernel_rfl) (by kernel_rfl) (by kernel_rfl) (fun _ _ _ h => h) (.inr ⟨rfl, rfl⟩) hS0 ?_
        simp only [Act.put, List.setIfInBounds_toArray, List.set_cons_succ, List.set_cons_zero]
        refine held_take 10 (v := undef) rfl (by kernel_rfl) (by kernel_rfl) (by kernel_rfl) (fun _ _ _ h => h) (.inr ⟨rfl, rfl⟩) hS0 ?_
        simp only [Act.put, List.setIfInBounds_toArray, List.set_cons_succ, List.set_cons_zero]
        refine held_take 11 (v := undef) rfl (by kernel_rfl) (by kernel_rfl) (by kernel_rfl) (fun _ _ _ h => h) (.inr ⟨rfl, rfl⟩) hS0 ?_
        simp only [Act.put, List.setIfInBounds_toArray, List.set_cons_succ, List.set_cons_zero]
        refine held_take 12 (v := undef) rfl (by kernel_rfl) (by kernel_rfl) (by kernel_rfl) (fun _ _ _ h => h) (.inr ⟨rfl, rfl⟩) hS0 ?_
        simp only [Act.put, List.setIfInBounds_toArray, List.set_cons_succ, List.set_cons_zero]
        refine held_take 13 (v := undef) rfl (by kernel_rfl) (by kernel_rfl) (by kernel_rfl) (fun _ _ _ h => h) (.inr ⟨rfl, rfl⟩) hS0 ?_
        simp only [Act.put, List.setIfInBounds_toArray, List.set_cons_succ, List.set_cons_zero]
        refine held_take 14 (v := undef) rfl (by kernel_rfl) (by kernel_rfl) (by kernel_rfl) (fun _ _ _ h => h) (.inr ⟨rfl, rfl⟩) hS0 ?_
        simp only [Act.put, List.setIfInBounds_toArray, List.set_cons_succ, List.set_cons_zero]
        refine held_take 15 (v := undef) rfl (by kernel_rfl) (by kernel_rfl) (by kernel_rfl) (fun _ _ _ h => h) (.inr ⟨rfl, rfl⟩) hS0 ?_
        simp only [Act.put, List.setIfInBounds_toArray, List.set_cons_succ, List.set_cons_zero]
        refine held_take 16 (v := ?tv88) rfl (by kernel_rfl) (by kernel_rfl) (by kernel_rfl) (fun _ _ _ h => h) (.inl ⟨rfl, ?ty88⟩) hS0 ?tr88
        case ty88 => (intro _ _; go_simp; try with_reducible rfl)
        case tr88 =>
        simp only [Act.put, List.setIfInBounds_toArray, List.set_cons_succ, List.set_cons_zero]
        refine wpAnyH_done (by kernel_rfl) ?_ _
        have hqx := (HCC.out _).1 hS0
        go_wp2_with fail
        go_roundw
        case rel => exact ⟨1, by omega, by go_num, RisH.one _ (by omega), E56.out.ext hqx⟩
        case measure => simp [intOf]; omega
      | succ j =>
        obtain ⟨x, hx⟩ : ∃ x, b.holders[j]? = some x := ⟨b.holders[j]'(by omega), List.getElem?_eq_getElem _⟩
        obtain ⟨y, hy⟩ : ∃ y, b.holders[j + 1]? = some y := ⟨b.holders[j + 1]'(by omega), List.getElem?_eq_getElem _⟩
        obtain ⟨p, hp, hrow⟩ := row16_at H6.out.hcell H6.out.h16 hx
        have hx16 := H6.out.h16 x (List.mem_of_getElem? hx)
        have hy16 := H6.out.h16 y (List.mem_of_getElem? hy)
        have CX := hid (hrow j x hx)
        have CY := hid (hrow (j + 1) y hy)
        have HXL := hid (show (x.map u8v).length = 16 by rw [List.length_map]; exact hx16)
        have HYL := hid (show (y.map u8v).length = 16 by rw [List.length_map]; exact hy16)
        have HX16 := hid hx16
        have HY16 := hid hy16
        have HX := hid hx
        have HY := hid hy
        rw [hp] at c57
        have C57 := hid c57
        have hj : j < b.hn := by omega
        have hwk : IntKind.i64.wrap (j : Int) = (j : Int) := by have := HR.out.hcmax; exact IntWalk.i64_in _ (by omega)
        have t3 : decide ((0 : Int) < ((j + 1 : Nat) : Int)) = true := decide_eq_true (by omega)
        clear hrow hx16 hy16 hx hy hp hhl c57
        go_upto_region 31 with (fail)
        obtain ⟨C, hC⟩ : ∃ C : World → Prop, C = fun w' => Ext wr w' := ⟨_, rfl⟩
        have hC0 : ∀ w', C w' ↔ Ext wr w' := fun w' => by rw [hC]
        clear hC
        have HCC := hid hC0
        clear hC0
        have hCx : ∀ w w', C w → Ext w w' → C w' := fun w w' h1 h2 => (HCC.out w').2 (((HCC.out w).1 h1).ext h2)
        refine wp_region_held_drew (S := C) (by kernel_rfl) ((HCC.out _).2 (Ext.refl wr).drew) (fun hS0 => ?_)
        refine held_take 0 (v := ?tv89) rfl (by kernel_rfl) (by kernel_rfl) (by kernel_rfl) (fun _ _ _ h => h) (.inl ⟨rfl, ?ty89⟩) hS0 ?tr89
        case ty89 => (intro _ _; go_simp; try with_reducible rfl)
        case tr89 =>
        simp only [Act.put, List.setIfInBounds_toArray, List.set_cons_succ, List.set_cons_zero]
        refine held_take 1 (v := ?tv90) rfl (by kernel_rfl) (by kernel_rfl) (by kernel_rfl) (fun _ _ _ h => h) (.inl ⟨rfl, ?ty90⟩) hS0 ?tr90
        case ty90 => (intro _ _; go_simp; try with_reducible rfl)
        case tr90 =>
        simp only [Act.put, List.setIfInBounds_toArray, List.set_cons_succ, List.set_cons_zero]
        refine held_take 2 (v := ?tv91) rfl (by kernel_rfl) (by kernel_rfl) (by kernel_rfl) (fun _ _ _ h => h) (.inl ⟨rfl, ?ty91⟩) hS0 ?tr91
        case ty91 => (intro _ _; go_simp; try with_reducible rfl)
        case tr91 =>
        simp only [Act.put, List.setIfInBounds_toArray, List.set_cons_succ, List.set_cons_zero]
        refine held_take 3 (v := ?tv92) rfl (by kernel_rfl) (by kernel_rfl) (by kernel_rfl) (fun _ _ _ h => h) (.inl ⟨rfl, ?ty92⟩) hS0 ?tr92
        case ty92 => (intro _ _; go_simp; try with_reducible rfl)
        case tr92 =>
        simp only [Act.put, List.setIfInBounds_toArray, List.set_cons_succ, List.set_cons_zero]
        refine held_take 4 (v := ?tv93) rfl (by kernel_rfl) (by kernel_rfl) (by kernel_rfl) (fun _ _ _ h => h) (.inl ⟨rfl, ?ty93⟩) hS0 ?tr93
        case ty93 => (intro wq hwq; have hcq := (fun w1 h => cell_extU C57.out ((HCC.out w1).1 h)) wq hwq; go_simp; try with_reducible rfl)
        case tr93 =>
        simp only [Act.put, List.setIfInBounds_toArray, List.set_cons_succ, List.set_cons_zero]
        refine held_take 5 (v := ?tv94) rfl (by kernel_rfl) (by kernel_rfl) (by kernel_rfl) (fun _ _ _ h => h) (.inl ⟨rfl, ?ty94⟩) hS0 ?tr94
        case ty94 => (intro _ _; go_simp; try with_reducible rfl)
        case tr94 =>
        simp only [Act.put, List.setIfInBounds_toArray, List.set_cons_succ, List.set_cons_zero]
        refine held_take 6 (v := .int .i64 (j : Int)) rfl (by kernel_rfl) (by kernel_rfl) (by kernel_rfl) (fun _ _ _ h => h) (.inl ⟨rfl, fun wz _ => ?sub8⟩) hS0 ?rest8
        case sub8 => (go_simp; try exact hwk)
        case rest8 =>
        try dsimp only
        try simp only [Act.put, List.setIfInBounds_toArray, List.set_cons_succ, List.set_cons_zero]
        refine held_take 7 (v := _) rfl (by kernel_rfl) (by kernel_rfl) (by kernel_rfl) (fun _ _ _ h => h) (yieldsI_run rfl (fun w1 _ => exec_index (i := j) rfl rfl rfl Try.underlying70 size_id hj w1)) hS0 ?_
        simp only [Act.put, List.setIfInBounds_toArray, List.set_cons_succ, List.set_cons_zero]
        refine held_take 8 (v := _) rfl (by kernel_rfl) (by kernel_rfl) (by kernel_rfl) (fun _ _ _ h => h) (yieldsI_run rfl (fun w1 h => exec_load_at rfl rfl (CX.out.ext ((HCC.out w1).1 h)) agg_id HXL.out)) hS0 ?_
        simp only [Act.put, List.setIfInBounds_toArray, List.set_cons_succ, List.set_cons_zero]
        refine held_take 9 (v := ?tv95) rfl (by kernel_rfl) (by kernel_rfl) (by kernel_rfl) (fun _ _ _ h => h) (.inl ⟨rfl, ?ty95⟩) hS0 ?tr95
        case ty95 => (intro _ _; go_simp; try with_reducible rfl)
        case tr95 =>
        simp only [Act.put, List.setIfInBounds_toArray, List.set_cons_succ, List.set_cons_zero]
        refine held_take 10 (v := ?tv96) rfl (by kernel_rfl) (by kernel_rfl) (by kernel_rfl) (fun _ _ _ h => h) (.inl ⟨rfl, ?ty96⟩) hS0 ?tr96
        case ty96 => (intro wq hwq; have hcq := (fun w1 h => cell_extU C57.out ((HCC.out w1).1 h)) wq hwq; go_simp; try with_reducible rfl)
        case tr96 =>
        simp only [Act.put, List.setIfInBounds_toArray, List.set_cons_succ, List.set_cons_zero]
        refine held_take 11 (v := ?tv97) rfl (by kernel_rfl) (by kernel_rfl) (by kernel_rfl) (fun _ _ _ h => h) (.inl ⟨rfl, ?ty97⟩) hS0 ?tr97
        case ty97 => (intro _ _; go_simp; try with_reducible rfl)
        case tr97 =>
        simp only [Act.put, List.setIfInBounds_toArray, List.set_cons_succ, List.set_cons_zero]
        refine held_take 12 (v := _) rfl (by kernel_rfl) (by kernel_rfl) (by kernel_rfl) (fun _ _ _ h => h) (yieldsI_run rfl (fun w1 _ => exec_index (i := j + 1) rfl rfl rfl Try.underlying70 size_id hlt w1)) hS0 ?_
        simp only [Act.put, List.setIfInBounds_toArray, List.set_cons_succ, List.set_cons_zero]
        refine held_take 13 (v := _) rfl (by kernel_rfl) (by kernel_rfl) (by kernel_rfl) (fun _ _ _ h => h) (yieldsI_run rfl (fun w1 h => exec_load_at rfl rfl (CY.out.ext ((HCC.out w1).1 h)) agg_id HYL.out)) hS0 ?_
        simp only [Act.put, List.setIfInBounds_toArray, List.set_cons_succ, List.set_cons_zero]
        refine held_one (i := 14) (by kernel_rfl) rfl ?_
        intro Q' hQ
        go_wp2_with fail
        refine (ridOrder_c x y _ HX16.out HY16.out).mono ?_
        rintro e wq ⟨rfl, eq9⟩
        have hS9 := hCx _ _ hS0 eq9
        go_wp2_with fail
        refine hQ _ _ hS9 ?_
        clear hQ Q' hS0 eq9
        have hS0 := hS9
        clear hS9
        try dsimp only
        try simp only [Act.put, List.setIfInBounds_toArray, List.set_cons_succ, List.set_cons_zero]
        by_cases hc : cmpB x y < 0
        · have hq : decide (0 ≤ cmpB x y) = false := decide_eq_false (by omega)
          refine held_take 15 (v := ?tv98) rfl (by kernel_rfl) (by kernel_rfl) (by kernel_rfl) (fun _ _ _ h => h) (.inl ⟨rfl, ?ty98⟩) hS0 ?tr98
          case ty98 => (intro _ _; go_simp; try with_reducible rfl)
          case tr98 =>
          simp only [Act.put, List.setIfInBounds_toArray, List.set_cons_succ, List.set_cons_zero]
          refine held_take 16 (v := ?tv99) rfl (by kernel_rfl) (by kernel_rfl) (by kernel_rfl) (fun _ _ _ h => h) (.inl ⟨rfl, ?ty99⟩) hS0 ?tr99
          case ty99 => (intro _ _; go_simp; try with_reducible rfl)
          case tr99 =>
          simp only [Act.put, List.setIfInBounds_toArray, List.set_cons_succ, List.set_cons_zero]
          refine wpAnyH_done (by kernel_rfl) ?_ _
          have hqx := (HCC.out _).1 hS0
          go_wp2_with fail
          go_roundw
          case rel => exact ⟨j + 2, by omega, by go_num, HRIS.out.step HX.out HY.out hc, E56.out.ext hqx⟩
          case measure => simp [intOf]; omega
        · have hq : decide (0 ≤ cmpB x y) = true := decide_eq_true (by omega)
          refine held_take 15 (v := ?tv100) rfl (by kernel_rfl) (by kernel_rfl) (by kernel_rfl) (fun _ _ _ h => h) (.inl ⟨rfl, ?ty100⟩) hS0 ?tr100
          case ty100 => (intro _ _; go_simp; try with_reducible rfl)
          case tr100 =>
          simp only [Act.put, List.setIfInBounds_toArray, List.set_cons_succ, List.set_cons_zero]
          refine held_take 16 (v := ?tv101) rfl (by kernel_rfl) (by kernel_rfl) (by kernel_rfl) (fun _ _ _ h => h) (.inl ⟨rfl, ?ty101⟩) hS0 ?tr101
          case ty101 => (intro _ _; go_simp; try with_reducible rfl)
          case tr101 =>
          simp only [Act.put, List.setIfInBounds_toArray, List.set_cons_succ, List.set_cons_zero]
          refine wpAnyH_done (by kernel_rfl) ?_ _
          have hqx := (HCC.out _).1 hS0
          have he : (9 : Int) = E := by rw [← HFIN.out, risHB_false HX.out HY.out hc]; rfl
          go_wp2_with fail
          go_ret
          exact ⟨by rw [← he]; rfl, E6.out.ext hqx⟩
    · have d1 : decide ((k : Int) < (b.hn : Int)) = false := decide_eq_false (by omega)
      have d2 : decide (k < b.hn) = false := decide_eq_false hlt
      have hr : risHB b.holders = true := risHB_iff.2 (by
        have := H6.out.hl
        rw [this, show b.hn = k by omega]; exact HRIS.out)
      have he : (0 : Int) = E := by rw [← HFIN.out, hr]; rfl
      clear hr c57
      go_wp2_with fail
      go_ret
      exact ⟨by rw [← he]; rfl, E6.out⟩
end
end Go.Proofs.Ytkcjdginoccgjaa
