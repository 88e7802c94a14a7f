/- Contracts and laws that the claim's row leans on (14 texts, joined): slices.Concat at rules, of nil slices too; decisions and the ask's content; conditions: the lengths. policy.sameDecision and common; conditions: the policies' memory. slices.Equal of equal rows of strings; keylaw1.sameAsk of equal asks; slices.EqualFunc of rows of equal asks; conditions: the asks' memory. policy.Differ; conditions: the policies' memory. policy.Stricter; conditions: the policies' memory. keylaw1.PoliciesDiffer answers true; conditions: the policies' memory. Readings of arguments are opened; no condition. Readings of slices of octets are opened; no condition. Readings of slices of rows of 32 octets, and of a struct of two ints and such a slice, are opened; no condition. Readings of rows of strings and of parts of structs, with their sizes (taken out of O9); no condition. Readings of rules and asks are opened; no condition. Readings of asks, of lists of rules, and of both as arguments, are opened; no condition. Approvals as values, what is found of them in order, and the members counted; no condition. Readings of policies and approvals are opened; no condition. -/
import Derived.Test.YthfddfgncolnbaaGreatJ6
import Derived.ProofKit
import Derived.OpenShut
import Derived.ChangeSlices
import Derived.WideShapes
import Derived.SizedLaws
import Derived.Deep.Strs
import Derived.WideKeyArr
namespace Go.Proofs.YthfddfgncolnbaaGreat
section
open Go Go.RowKit

theorem elem_rule : ElemT Tryz.prog 22 50 8 120 := ⟨Tryz.underlying22, ⟨_, _, (info_parts info_rule).choose_spec.1, (info_parts info_rule).choose_spec.2.1, (info_parts info_rule).choose_spec.2.2.1, (info_parts info_rule).choose_spec.2.2.2, rfl⟩, by decide⟩
set_option maxRecDepth 100000 in
set_option maxHeartbeats 1000000 in
theorem concatN_c (its : List RItem) (g nn cap : Nat) (w : World) (hnn : its.length = nn) (hnn2 : nn ≤ 140737488355328) (hcap : nn ≤ cap) (hg : ∀ (i : Nat) it, its[i]? = some it → w.cell? ⟨g, i, none⟩ = some (itemR it))
    (hc : ∀ it ∈ its, Cells w it.1 (rulesV it.2.2)) (hlen : (catR its).length ≤ 1000) :
    Calls Tryz.prog 14 #[.slice (some ⟨g, 0, none⟩) nn cap] w fun e w' => ∃ v, e = .returned v ∧ w'.ownsRow w.heap.size 50 8 v (catR its).length (rulesV (catR its)) ∧ Ext w w' := by
  have HNN := hid hnn
  have HG := hid hg
  have HC := hid hc
  have HL := hid hlen
  obtain ⟨i0, hi, hz, hs, hb1⟩ := info_parts info_rule
  clear hg hc hlen hnn
  go_enter Tryz.func14, Tryz.ntmps14
  go_wp2
  go_loopw [3, 11] (fun s i wr => ∃ k : Nat, k ≤ nn ∧ s = .int .i64 ((catR (its.take k)).length : Nat) ∧ i = .int .i64 k ∧ wr = w)
    (fun _ i _ => nn - (intOf i).toNat)
  case atStart => exact ⟨0, by omega, by simp [catR], rfl, rfl⟩
  case round =>
    obtain ⟨k, hk, rfl, rfl, hwr⟩ := hrel
    subst wr
    by_cases hlt : k < nn
    · obtain ⟨it, hit⟩ : ∃ it, its[k]? = some it := ⟨its[k]'(by rw [HNN.out]; exact hlt), by simp⟩
      have c1 := HG.out k it hit
      unfold itemR at c1
      have hcs := catR_succ hit
      have hcl := catR_le its (k + 1)
      rw [hcs] at hcl
      have hcl2 := HL.out
      rw [List.length_append] at hcl
      obtain ⟨m, hm⟩ : ∃ m, (catR (its.take k)).length = m := ⟨_, rfl⟩
      obtain ⟨q, hq⟩ : ∃ q, it.2.2.length = q := ⟨_, rfl⟩
      have hsum : (catR (its.take (k + 1))).length = m + q := by rw [hcs, List.length_append, hm, hq]
      rw [hm, hq] at hcl
      rw [hq] at c1
      rw [hm]
      have h3 : IntKind.i64.wrap ((m : Int) + (q : Int)) = (m : Int) + (q : Int) := IntWalk.i64_in _ (by omega)
      have h4 : decide ((m : Int) + (q : Int) < 0) = false := decide_eq_false (by omega)
      have HS := hid hsum
      clear hsum hcs hcl hcl2 hm hq hit
      go_wp2
      go_roundw
      case rel => exact ⟨k + 1, by omega, by rw [HS.out]; go_num, by go_num, by simp⟩
      case measure => simp [intOf]; omega
    · have hkn : k = nn := by omega
      subst k
      have htk : its.take nn = its := List.take_of_length_le (by rw [HNN.out]; omega)
      rw [htk]
      have hl := HL.out
      obtain ⟨N, hN⟩ : ∃ N, (catR its).length = N := ⟨_, rfl⟩
      have HNL := hid hN
      rw [hN] at hl ⊢
      clear htk hN
      go_wp2_with fail
      refine (growR_c N _ hl).mono ?_
      rintro e w1 ⟨v, rfl, own, e1⟩
      go_wp2
      go_loopw [6, 27] (fun v i wr => ∃ k : Nat, k ≤ nn ∧ i = .int .i64 k ∧ wr.ownsRow w.heap.size 50 8 v (catR (its.take k)).length (rulesV (catR (its.take k))) ∧ Ext w wr)
        (fun _ i _ => nn - (intOf i).toNat)
      case atStart => exact ⟨0, by omega, rfl, by simpa [catR, rulesV] using own, e1⟩
      case round =>
        obtain ⟨k, hk, rfl, own2, e2⟩ := hrel
        by_cases hlt : k < nn
        · obtain ⟨it, hit⟩ : ∃ it, its[k]? = some it := ⟨its[k]'(by rw [HNN.out]; exact hlt), by simp⟩
          have c1 := HG.out k it hit
          have hb := block_lt_of_cell c1
          rw [← e2.cell (p := ⟨g, k, none⟩) hb] at c1
          have hcs := catR_succ hit
          have hcl := catR_le its (k + 1)
          rw [hcs, HNL.out, List.length_append] at hcl
          have hci := (HC.out it (List.mem_of_getElem? hit)).ext e2
          unfold itemR at c1
          obtain ⟨x, c, li⟩ := it
          obtain ⟨q, hq⟩ : ∃ q, li.length = q := ⟨_, rfl⟩
          obtain ⟨m, hm⟩ : ∃ m, (catR (its.take k)).length = m := ⟨_, rfl⟩
          simp only at c1 hcs hcl hci
          rw [hq] at c1
          rw [hm, hq] at hcl
          rw [hm] at own2
          have HCS := hid hcs
          have HQ := hid hq
          have HM := hid hm
          clear hcs hq hm hit hb
          go_wp2_with (refine wpl_appendN (n := m) (m := q) (c := c) (news := rulesV li) elem_rule rfl _ _ rfl w.heap.size rfl rfl own2 ?qc1 hci (rulesV_one _) ?qc4 ?qc5 e2.size ?_)
          case qc1 => rw [rulesV_length, HQ.out, Nat.mul_comm]
          case qc4 => omega
          case qc5 => omega
          intro v2 w2 own3 gr _
          have e3 : Ext w w2 := e2.grown gr (fun g' h => (own2.lt g' h).1)
          rw [← rulesV_append] at own3
          have hlen3 : (catR (its.take (k + 1))).length = m + q := by rw [HCS.out, List.length_append, HM.out, HQ.out]
          have HL3 := hid hlen3
          clear own2 gr e2 c1 hci hlen3
          go_wp2
          go_roundw
          case rel => exact ⟨k + 1, by omega, by go_num, by rw [HL3.out, HCS.out]; exact own3, e3⟩
          case measure => simp [intOf]; omega
        · have hkn : k = nn := by omega
          subst k
          rw [List.take_of_length_le (by rw [HNN.out]; omega), HNL.out] at own2
          go_wp2
          go_ret
          exact ⟨_, rfl, by rw [HNL.out]; exact own2, e2⟩

/-- an ask without addresses, as an ask -/
def AskP.r (p : AskP) : AskR := ⟨p.actor, none, 0, 0, p.roles, p.act, p.label, p.key, p.time, p.detail⟩
theorem AskP.r_p (p : AskP) : p.r.p = p := rfl
theorem decF_same {x y : AskR} (h : x.p = y.p) : ∀ (rs : List RuleR) (k : Nat) (b : Option (Nat × RuleR)), decF x rs k b = decF y rs k b := by
  have hm : ∀ r, meetsB r x = meetsB r y := by
    intro r
    have h1 : x.roles = y.roles := congrArg AskP.roles h
    have h2 : x.act = y.act := congrArg AskP.act h
    have h3 : x.label = y.label := congrArg AskP.label h
    have h4 : x.time = y.time := congrArg AskP.time h
    unfold meetsB
    rw [h1, h2, h3, h4]
  intro rs
  induction rs with
  | nil => intro k b; rfl
  | cons r rs ih =>
    intro k b
    unfold decF
    rw [hm r]
    simp only [ih]
noncomputable def decP (rs : List RuleR) (p : AskP) : DecR := decideD p.r rs
theorem decP_of (rs : List RuleR) (x : AskR) : decideD x rs = decP rs x.p := decF_same (by rw [AskP.r_p]) rs 0 none
def sameD (x y : DecR) : Bool := x.al == y.al && x.nd == y.nd && x.ow.toList == y.ow.toList
noncomputable def difP (rs qs : List RuleR) (p : AskP) : Bool := !sameD (decP rs p) (decP qs p)
noncomputable def strP (rs qs : List RuleR) (p : AskP) : Bool := !(decP rs p).al || ((decP qs p).al && !decide ((decP rs p).nd < (decP qs p).nd))
theorem worldP_ok {rs : List RuleR} (hz : ∀ r ∈ rs, ruleE r = 0) : ∀ p ∈ worldP rs, ∃ T : Nat, p.time = (T : Int) ∧ T ≤ 1099511627776 := by
  intro p hp
  unfold worldP at hp
  simp only [List.mem_flatMap, List.mem_map] at hp
  obtain ⟨s, _, a, _, l, _, h, hh, rfl⟩ := hp
  have := hoursW_in (rs := rs) (fun r hr => ruleE_24 (hz r hr)) h hh
  obtain ⟨n, rfl⟩ := Int.eq_ofNat_of_zero_le this.1
  exact ⟨3600 * n, (Int.natCast_mul 3600 n).symm, by omega⟩
end

section
open Go Go.RowKit

set_option maxRecDepth 100000 in
set_option maxHeartbeats 1000000 in
theorem sameDec_c (x y : DecR) (w : World) :
    Calls Tryz.prog 35 #[.agg x.v.toArray, .agg y.v.toArray] w fun e w' => e = .returned (.bool (sameD x y)) ∧ Ext w w' := by
  obtain ⟨S, hS⟩ : ∃ S, sameD x y = S := ⟨_, rfl⟩
  have hS2 : (x.al == y.al && x.nd == y.nd && x.ow.toList == y.ow.toList) = S := hS
  have HS := hid hS2
  rw [hS]
  clear hS hS2
  go_enter Tryz.func35, Tryz.ntmps35
  go_upto_region 1 with (fail)
  generalize hwA : World.alloc (World.alloc w _) _ = wA
  have xA : Blk wA w.heap.size x.v 52 := by rw [← hwA]; exact (Blk.mk_alloc rfl rfl).alloc _
  have yA : Blk wA (w.heap.size + 1) y.v 52 := by rw [← hwA]; exact Blk.mk_alloc (size_allocW _ _).symm rfl
  have eA : Ext w wA := by rw [← hwA]; exact ((Ext.refl w).alloc _).alloc _
  have EA := hid eA
  have x0 := xA.cell' (i := 0) rfl
  have x2 := xA.cell' (i := 2) rfl
  have x3 := xA.cell' (i := 3) rfl
  have y0 := yA.cell' (i := 0) rfl
  have y2 := yA.cell' (i := 2) rfl
  have y3 := yA.cell' (i := 3) rfl
  clear hwA xA yA eA
  cases h1 : (x.al == y.al) with
  | false =>
    have hv := HS.out
    rw [h1] at hv
    have HV := hid hv
    clear hv HS
    go_wp2
    go_ret
    exact ⟨by rw [← HV.out]; rfl, EA.out⟩
  | true =>
    cases h2 : (x.nd == y.nd) with
    | false =>
      have hv := HS.out
      rw [h1, h2] at hv
      have HV := hid hv
      clear hv HS
      go_wp2
      go_ret
      exact ⟨by rw [← HV.out]; rfl, EA.out⟩
    | true =>
      have hv := HS.out
      rw [h1, h2] at hv
      have HV := hid hv
      clear hv HS
      go_wp2
      go_ret
      exact ⟨by rw [← HV.out]; first | rfl | simp, EA.out⟩

noncomputable def comE (rs : List RuleR) (pn : Nat) (qs : List RuleR) (qn : Nat) : Int := if polE rs pn ≠ 0 then polE rs pn else if polE qs qn ≠ 0 then polE qs qn else errW (rs ++ qs) (pn + qn)
theorem cat_two (rs qs : List RuleR) (a b : Option Addr) (c d : Nat) : catR [(a, c, rs), (b, d, qs)] = rs ++ qs := by simp [catR]
set_option maxRecDepth 100000 in
set_option maxHeartbeats 2000000 in
theorem common_c (pa : Option Addr) (pn pc : Nat) (rs : List RuleR) (qa : Option Addr) (qn qc : Nat) (qs : List RuleR) (w : World) (hp : PolOk w pa pn pc rs) (hq : PolOk w qa qn qc qs) :
    Calls Tryz.prog 34 #[.agg #[.slice pa pn pc], .agg #[.slice qa qn qc]] w fun e w' => ∃ v xs, e = .returned (.tuple #[v, .int .i64 (comE rs pn qs qn)]) ∧ (comE rs pn qs qn ≠ 0 → v = .slice none 0 0) ∧ (comE rs pn qs qn = 0 → AsksI w' w.heap.size v xs ∧ xs.map AskR.p = worldP (rs ++ qs)) ∧ Ext w w' := by
  have HP := hid hp
  have HQ := hid hq
  have HC1 := hid (fun W (h : Ext w W) => check_c pa pn pc rs W (hp.ext h))
  have HC2 := hid (fun W (h : Ext w W) => check_c qa qn qc qs W (hq.ext h))
  have herr := hid (show comE rs pn qs qn = if polE rs pn ≠ 0 then polE rs pn else if polE qs qn ≠ 0 then polE qs qn else errW (rs ++ qs) (pn + qn) from rfl)
  clear hp hq
  obtain ⟨E, hE⟩ : ∃ E, comE rs pn qs qn = E := ⟨_, rfl⟩
  obtain ⟨F, hF⟩ : ∃ F, polE rs pn = F := ⟨_, rfl⟩
  obtain ⟨G, hG⟩ : ∃ G, polE qs qn = G := ⟨_, rfl⟩
  have hE2 := herr.out.symm.trans hE
  rw [hF, hG] at hE2
  have HE := hid hE2
  have HF := hid hF
  have HG := hid hG
  rw [hF] at HC1
  rw [hG] at HC2
  rw [hE]
  clear hE herr hF hG hE2
  go_enter Tryz.func34, Tryz.ntmps34
  go_upto_region 1 with (fail)
  generalize hwA : World.alloc (World.alloc w _) _ = wA
  have bA : Blk wA w.heap.size [.slice pa pn pc] 24 := by rw [← hwA]; exact (Blk.mk_alloc rfl rfl).alloc _
  have dA : Blk wA (w.heap.size + 1) [.slice qa qn qc] 24 := by rw [← hwA]; exact Blk.mk_alloc (size_allocW _ _).symm rfl
  have eA : Ext w wA := by rw [← hwA]; exact ((Ext.refl w).alloc _).alloc _
  have BA := hid bA
  have DA := hid dA
  have EA := hid eA
  clear hwA bA dA eA
  go_wp2_with (first | (refine wpl_loadw rfl 24 (.tmp 2) rfl rfl BA.out agg_polW rfl ?_) | (refine wpl_loadw rfl 24 (.tmp 3) rfl rfl DA.out agg_polW rfl ?_))
  go_loopw [12] (fun i wr => ∃ j : Nat, j ≤ 2 ∧ i = .int .i64 (j : Int) ∧ (1 ≤ j → F = 0) ∧ (2 ≤ j → G = 0) ∧ Ext wA wr) (fun i _ => 2 - (intOf i).toNat)
  case atStart => exact ⟨0, by omega, rfl, fun h => by omega, fun h => by omega, Ext.refl _⟩
  case round =>
    obtain ⟨j, hj, rfl, h1, h2, e1⟩ := hrel
    have E1 := hid e1
    clear e1
    rcases (show j = 0 ∨ j = 1 ∨ j = 2 by omega) with rfl | rfl | rfl
    · have hri : ∀ W : World, (Instr.index 106 (.agg #[.slice pa pn pc, .slice qa qn qc]) (.int .i64 0)).run Tryz.prog W = .ok (.agg #[.slice pa pn pc]) W := fun W => by kernel_rfl
      go_wp2_with (refine wpl_storew rfl _ (.tmp 7) _ rfl rfl rfl (Blk.mk_alloc (vs := [.slice none 0 0]) rfl rfl) agg_polW rfl (xs := [.slice pa pn pc]) rfl (by simp [Value.oneCell']) ?_)
      intro wB bB uB
      have eB : Ext wr wB := uB.ext ((Ext.refl wr).alloc _) (Nat.le_refl _)
      have BB := hid bB
      have EB := hid (E1.out.ext eB)
      clear bB uB eB E1 hri
      generalize wr.heap.size = gr at *
      go_wp2_with (first | (refine wpl_loadw rfl 24 (.tmp 7) rfl rfl BB.out agg_polW rfl ?_))
      refine (HC1.out wB (EA.out.ext EB.out)).mono ?_
      rintro e wC ⟨rfl, eC⟩
      have EC := hid (EB.out.ext eC)
      clear eC EB BB
      by_cases h0 : F = 0
      · have d0 : decide (F = 0) = true := decide_eq_true h0
        go_wp2
        go_roundw
        case rel => exact ⟨0 + 1, by omega, by go_num, fun _ => h0, fun h => by omega, EC.out⟩
        case measure => simp [intOf]
      · have d0 : decide (F = 0) = false := decide_eq_false h0
        have hEE : F = E := by have := HE.out; rw [if_pos h0] at this; exact this
        subst hEE
        have EW := hid (EA.out.ext EC.out)
        clear HE
        go_wp2
        go_ret2
        exact ⟨_, [], rfl, fun _ => rfl, fun h => absurd h h0, EW.out⟩
    · have hri : ∀ W : World, (Instr.index 106 (.agg #[.slice pa pn pc, .slice qa qn qc]) (.int .i64 1)).run Tryz.prog W = .ok (.agg #[.slice qa qn qc]) W := fun W => by kernel_rfl
      go_wp2_with (refine wpl_storew rfl _ (.tmp 7) _ rfl rfl rfl (Blk.mk_alloc (vs := [.slice none 0 0]) rfl rfl) agg_polW rfl (xs := [.slice qa qn qc]) rfl (by simp [Value.oneCell']) ?_)
      intro wB bB uB
      have eB : Ext wr wB := uB.ext ((Ext.refl wr).alloc _) (Nat.le_refl _)
      have BB := hid bB
      have EB := hid (E1.out.ext eB)
      clear bB uB eB E1 hri
      generalize wr.heap.size = gr at *
      go_wp2_with (first | (refine wpl_loadw rfl 24 (.tmp 7) rfl rfl BB.out agg_polW rfl ?_))
      refine (HC2.out wB (EA.out.ext EB.out)).mono ?_
      rintro e wC ⟨rfl, eC⟩
      have EC := hid (EB.out.ext eC)
      clear eC EB BB
      by_cases h0 : G = 0
      · have d0 : decide (G = 0) = true := decide_eq_true h0
        have hF0 := h1 (by omega)
        go_wp2
        go_roundw
        case rel => exact ⟨1 + 1, by omega, by go_num, fun _ => hF0, fun _ => h0, EC.out⟩
        case measure => simp [intOf]
      · have d0 : decide (G = 0) = false := decide_eq_false h0
        have hEE : G = E := by have := HE.out; rw [if_neg (by rw [h1 (by omega)]; simp), if_pos h0] at this; exact this
        subst hEE
        have EW := hid (EA.out.ext EC.out)
        clear HE
        go_wp2
        go_ret2
        exact ⟨_, [], rfl, fun _ => rfl, fun h => absurd h h0, EW.out⟩
    · have hF0 := h1 (by omega)
      have hG0 := h2 (by omega)
      have hEE : errW (rs ++ qs) (pn + qn) = E := by
        have := HE.out
        rw [if_neg (by rw [hF0]; simp), if_neg (by rw [hG0]; simp)] at this
        exact this
      have HEE := hid hEE
      obtain ⟨hp100, hpz⟩ := polE_zero (HF.out.trans hF0)
      obtain ⟨hq100, hqz⟩ := polE_zero (HG.out.trans hG0)
      have B1 := hid (BA.out.ext E1.out)
      have D1 := hid (DA.out.ext E1.out)
      have c0 := B1.out.cell' (i := 0) rfl
      have d0 := D1.out.cell' (i := 0) rfl
      have EW := hid (EA.out.ext E1.out)
      clear h1 h2 hEE HE E1 EA BA DA HC1 HC2 hF0 hG0 HF HG hpz hqz
      go_wp2_with fail
      obtain ⟨gl, hgl⟩ : ∃ gl, wr.heap.size = gl := ⟨_, rfl⟩
      rw [hgl]
      generalize hwL : World.alloc wr _ = wL
      have bL : Blk wL gl [.slice pa pn pc, .slice qa qn qc] 22 := by rw [← hwL, ← hgl]; exact Blk.mk_alloc rfl rfl
      have eL : Ext wr wL := by rw [← hwL]; exact (Ext.refl wr).alloc _
      have EL := hid (EW.out.ext eL)
      have PL := hid (HP.out.ext EL.out)
      have QL := hid (HQ.out.ext EL.out)
      have BL := hid bL
      clear hwL bL eL hgl c0 d0 B1 D1 EW
      refine (concatN_c [(pa, pc, rs), (qa, qc, qs)] gl 2 2 wL rfl (by omega) (by omega) ?hg ?hc ?hl).mono ?_
      case hg =>
        intro k it hk
        rcases (show k = 0 ∨ k = 1 ∨ 2 ≤ k by omega) with rfl | rfl | h
        · simp at hk; subst hk; unfold itemR; rw [PL.out.hl]; exact BL.out.cell' (i := 0) rfl
        · simp at hk; subst hk; unfold itemR; rw [QL.out.hl]; exact BL.out.cell' (i := 1) rfl
        · rw [List.getElem?_eq_none (by simpa using h)] at hk; cases hk
      case hc =>
        intro it hit
        simp only [List.mem_cons, List.not_mem_nil, or_false] at hit
        rcases hit with rfl | rfl
        · exact PL.out.cell
        · exact QL.out.cell
      case hl =>
        rw [cat_two, List.length_append, PL.out.hl, QL.out.hl]; omega
      rintro e w2 ⟨v, rfl, own, e2⟩
      rw [cat_two] at own
      have hll : (rs ++ qs).length = pn + qn := by rw [List.length_append, PL.out.hl, QL.out.hl]
      rw [hll] at own
      obtain ⟨a, c, rfl, hac, _, hcell⟩ := own_cellsA own
      have PO : Hid (PolOk w2 a (pn + qn) c (rs ++ qs)) := hid ⟨hll, hac, by omega, hcell, fun r hr => by
        rcases List.mem_append.1 hr with hr | hr
        · exact (PL.out.ok r hr).ext e2
        · exact (QL.out.ok r hr).ext e2⟩
      have E2 := hid (EL.out.ext e2)
      have HWO := hid (worldOf_c a (pn + qn) c (rs ++ qs) w2 PO.out)
      rw [HEE.out] at HWO
      clear own hcell e2 PL QL BL EL hll
      go_wp2_with fail
      refine HWO.out.mono ?_
      rintro e w3 ⟨v, xs, rfl, hnz, hz, e3⟩
      have E3 := hid (E2.out.ext e3)
      have HNZ := hid hnz
      have HZ : Hid (E = 0 → AsksI w3 w.heap.size v xs ∧ xs.map AskR.p = worldP (rs ++ qs)) := hid (fun h => by
        obtain ⟨h1, h2⟩ := hz h
        exact ⟨⟨own_monoW h1.row E2.out.size, h1.own⟩, h2⟩)
      clear hnz hz e3 HWO PO
      go_wp2
      go_ret2
      exact ⟨_, xs, rfl, HNZ.out, HZ.out, E3.out⟩
end

section
open Go Go.RowKit

set_option maxRecDepth 100000 in
set_option maxHeartbeats 1000000 in
theorem eqStrs_cW (ls : List ByteArray) (a b : Option Addr) (n c d : Nat) (w : World) (hl : ls.length = n) (hn : n ≤ 140737488355328) (ha : Cells w a (ls.map encStr)) (hb : Cells w b (ls.map encStr)) :
    Calls Tryz.prog 33 #[.slice a n c, .slice b n d] w fun e w' => e = .returned (.bool true) ∧ Ext w w' := by
  have HL := hid hl
  have HA := hid ha
  have HB := hid hb
  clear hl ha hb
  go_enter Tryz.func33, Tryz.ntmps33
  go_wp2_with fail
  go_loopw [13] (fun i wr => ∃ k : Nat, k ≤ n ∧ i = .int .i64 (k : Int) ∧ Ext w wr) (fun i _ => n - (intOf i).toNat)
  case atStart => exact ⟨0, by omega, rfl, Ext.refl _⟩
  case round =>
    obtain ⟨k, hk, rfl, e1⟩ := hrel
    have E1 := hid e1
    clear e1
    by_cases hlt : k < n
    · have d1 : decide ((k : Int) < (n : Int)) = true := decide_eq_true (by omega)
      have d2 : decide (k < n) = true := decide_eq_true hlt
      have HL2 := HL.out
      obtain ⟨x, hxk⟩ : ∃ x, ls[k]? = some x := ⟨ls[k]'(by omega), List.getElem?_eq_getElem _⟩
      obtain ⟨A, rfl, hca⟩ := strs_at HA.out hxk
      obtain ⟨A2, rfl, hcb⟩ := strs_at HB.out hxk
      have CA := hid (cell_extU hca E1.out)
      have CB := hid (cell_extU hcb E1.out)
      clear hca hcb hxk HL2
      go_upto_region 6 with (fail)
      obtain ⟨C, hC⟩ : ∃ C : World → Prop, C = fun w' => Ext wr w' := ⟨_, rfl⟩
      have hC0 : ∀ w', C w' ↔ Ext wr w' := fun w' => by rw [hC]
      clear hC
      have HCC := hid hC0
      clear hC0
      have hCx : ∀ w w', C w → Ext w w' → C w' := fun w w' h1 h2 => (HCC.out w').2 (((HCC.out w).1 h1).ext h2)
      refine wp_region_held_drew (S := C) (by kernel_rfl) ((HCC.out _).2 (Ext.refl wr).drew) (fun hS0 => ?_)
      refine held_take 0 (v := ?tv211) rfl (by kernel_rfl) (by kernel_rfl) (by kernel_rfl) (fun _ _ _ h => h) (.inl ⟨rfl, ?ty211⟩) hS0 ?tr211
      case ty211 => (intro _ _; go_simp; try with_reducible rfl)
      case tr211 =>
      simp only [Act.put, List.setIfInBounds_toArray, List.set_cons_succ, List.set_cons_zero]
      refine held_take 1 (v := ?tv212) rfl (by kernel_rfl) (by kernel_rfl) (by kernel_rfl) (fun _ _ _ h => h) (.inl ⟨rfl, ?ty212⟩) hS0 ?tr212
      case ty212 => (intro _ _; go_simp; try with_reducible rfl)
      case tr212 =>
      simp only [Act.put, List.setIfInBounds_toArray, List.set_cons_succ, List.set_cons_zero]
      refine held_take 2 (v := _) rfl (by kernel_rfl) (by kernel_rfl) (by kernel_rfl) (fun _ _ _ h => h) (yieldsI_run rfl (fun w1 _ => exec_index (i := k) rfl rfl rfl Tryz.underlying36 size_str hlt w1)) hS0 ?_
      simp only [Act.put, List.setIfInBounds_toArray, List.set_cons_succ, List.set_cons_zero]
      refine held_take 3 (v := _) rfl (by kernel_rfl) (by kernel_rfl) (by kernel_rfl) (fun _ _ _ h => h) (yieldsI_run rfl (fun w1 h => exec_load_oneU rfl rfl (cell_extU CA.out ((HCC.out w1).1 h)) one_str)) hS0 ?_
      simp only [Act.put, List.setIfInBounds_toArray, List.set_cons_succ, List.set_cons_zero]
      refine held_take 4 (v := ?tv213) rfl (by kernel_rfl) (by kernel_rfl) (by kernel_rfl) (fun _ _ _ h => h) (.inl ⟨rfl, ?ty213⟩) hS0 ?tr213
      case ty213 => (intro _ _; go_simp; try with_reducible rfl)
      case tr213 =>
      simp only [Act.put, List.setIfInBounds_toArray, List.set_cons_succ, List.set_cons_zero]
      refine held_take 5 (v := ?tv214) rfl (by kernel_rfl) (by kernel_rfl) (by kernel_rfl) (fun _ _ _ h => h) (.inl ⟨rfl, ?ty214⟩) hS0 ?tr214
      case ty214 => (intro _ _; go_simp; try with_reducible rfl)
      case tr214 =>
      simp only [Act.put, List.setIfInBounds_toArray, List.set_cons_succ, List.set_cons_zero]
      refine held_take 6 (v := _) rfl (by kernel_rfl) (by kernel_rfl) (by kernel_rfl) (fun _ _ _ h => h) (yieldsI_run rfl (fun w1 _ => exec_index (i := k) rfl rfl rfl Tryz.underlying36 size_str hlt w1)) hS0 ?_
      simp only [Act.put, List.setIfInBounds_toArray, List.set_cons_succ, List.set_cons_zero]
      refine held_take 7 (v := _) rfl (by kernel_rfl) (by kernel_rfl) (by kernel_rfl) (fun _ _ _ h => h) (yieldsI_run rfl (fun w1 h => exec_load_oneU rfl rfl (cell_extU CB.out ((HCC.out w1).1 h)) one_str)) hS0 ?_
      simp only [Act.put, List.setIfInBounds_toArray, List.set_cons_succ, List.set_cons_zero]
      refine held_take 8 (v := ?tv215) rfl (by kernel_rfl) (by kernel_rfl) (by kernel_rfl) (fun _ _ _ h => h) (.inl ⟨rfl, ?ty215⟩) hS0 ?tr215
      case ty215 => (intro _ _; go_simp; try with_reducible rfl)
      case tr215 =>
      simp only [Act.put, List.setIfInBounds_toArray, List.set_cons_succ, List.set_cons_zero]
      refine wpAnyH_done (by kernel_rfl) ?_ _
      have hqx := (HCC.out _).1 hS0
      go_wp2_with fail
      go_roundw
      case rel => exact ⟨k + 1, by omega, by go_num, E1.out.ext hqx⟩
      case measure => simp [intOf]; omega
    · have d1 : decide ((k : Int) < (n : Int)) = false := decide_eq_false (by omega)
      have d2 : decide (k < n) = false := decide_eq_false hlt
      go_wp2_with fail
      go_ret
      exact ⟨rfl, E1.out⟩

theorem exec_cmpW {P : Program} {o : Oper} {a : Act} {op : BinOp} {t u : TypeId} {x y : Operand} (ho : o.op = .binOp op t x y u) {xs ys : Array Value} {b : Value} (hx : a.eval x = .agg xs) (hy : a.eval y = .agg ys)
    (hg : P.eqGuardType P.depth t = false) (hr : ∀ w, (binOp op t (.agg xs) (.agg ys)).run P w = .ok b w) (w : World) : (execOp a.eval o).run P w = .ok (.value b) w := by
  unfold execOp
  simp only [ho, hx, hy, Sem.run_bind, run_eqGuard_agg w op t x y xs ys hg, Result.andThen_ok, hr, Sem.run_pure]
theorem guard_idW : Tryz.prog.eqGuardType Tryz.prog.depth 35 = false := by kernel_rfl
theorem guard_sumW : Tryz.prog.eqGuardType Tryz.prog.depth 38 = false := by kernel_rfl
theorem agg_idW : AggT Tryz.prog 35 16 := ⟨⟨_, Tryz.underlying35, rfl⟩, by kernel_rfl⟩
theorem agg_sumW : AggT Tryz.prog 38 32 := ⟨⟨_, Tryz.underlying38, rfl⟩, by kernel_rfl⟩
theorem eq_self_arrW {t : TypeId} {n : Nat} (ht : Tryz.prog.underlying t = some (.array n 5)) (x : List UInt8) (hx : x.length = n) (w : World) : (binOp .eql t (.agg (x.map u8v).toArray) (.agg (x.map u8v).toArray)).run Tryz.prog w = .ok (.bool true) w := by
  have h := eq_arr ht x x hx hx w
  rw [beq_self_eq_true] at h; exact h
theorem AskR.actor_at {w : World} {a : AskR} (h : a.Ok w) : (a.v.drop 0).take 16 = a.actor.map u8v := by
  unfold AskR.v
  rw [List.drop_zero, List.take_append_of_le_length (by simp [h.ha]), List.take_of_length_le (by simp [h.ha])]
theorem AskR.key_at {w : World} {a : AskR} (h : a.Ok w) : (a.v.drop 19).take 16 = a.key.map u8v := by
  have e : a.v = (a.actor.map u8v ++ [.slice a.sa a.sn a.sc, .int .i64 a.act, .string a.label]) ++ (a.key.map u8v ++ (.int .i64 a.time :: a.detail.map u8v)) := by unfold AskR.v; simp
  rw [e, List.drop_append_of_le_length (by simp [h.ha]), List.drop_of_length_le (by simp [h.ha]), List.nil_append, List.take_append_of_le_length (by simp [h.hk]), List.take_of_length_le (by simp [h.hk])]
theorem AskR.detail_at {w : World} {a : AskR} (h : a.Ok w) : (a.v.drop 36).take 32 = a.detail.map u8v := by
  have e : a.v = (a.actor.map u8v ++ [.slice a.sa a.sn a.sc, .int .i64 a.act, .string a.label] ++ a.key.map u8v ++ [.int .i64 a.time]) ++ a.detail.map u8v := by unfold AskR.v; simp
  rw [e, List.drop_append_of_le_length (by simp [h.ha, h.hk]), List.drop_of_length_le (by simp [h.ha, h.hk]), List.nil_append, List.take_of_length_le (by simp [h.hd])]

set_option maxRecDepth 100000 in
set_option maxHeartbeats 4000000 in
theorem sameAsk_c (x y : AskR) (w : World) (hx : x.Ok w) (hy : y.Ok w) (hp : x.p = y.p) :
    Calls Tryz.prog 11 #[.agg x.v.toArray, .agg y.v.toArray] w fun e w' => e = .returned (.bool true) ∧ Ext w w' := by
  have p0 : y.actor = x.actor := (congrArg AskP.actor hp).symm
  have p1 : y.roles = x.roles := (congrArg AskP.roles hp).symm
  have p2 : y.act = x.act := (congrArg AskP.act hp).symm
  have p3 : y.label = x.label := (congrArg AskP.label hp).symm
  have p4 : y.key = x.key := (congrArg AskP.key hp).symm
  have p5 : y.time = x.time := (congrArg AskP.time hp).symm
  have p6 : y.detail = x.detail := (congrArg AskP.detail hp).symm
  have HX := hid hx
  have HY := hid hy
  clear hx hy hp
  have s0 : (x.act == x.act) = true := beq_self_eq_true _
  have s1 : (x.time == x.time) = true := beq_self_eq_true _
  have s3 : (x.label.toList == x.label.toList) = true := beq_self_eq_true _
  go_enter Tryz.func11, Tryz.ntmps11
  go_upto_region 1 with (fail)
  generalize hwA : World.alloc (World.alloc w _) _ = wA
  have xA : Blk wA w.heap.size x.v 40 := by rw [← hwA]; exact (Blk.mk_alloc rfl rfl).alloc _
  have yA : Blk wA (w.heap.size + 1) y.v 40 := by rw [← hwA]; exact Blk.mk_alloc (size_allocW _ _).symm rfl
  have eA : Ext w wA := by rw [← hwA]; exact ((Ext.refl w).alloc _).alloc _
  have EA := hid eA
  have HXA := hid (HX.out.ext eA)
  have HYA := hid (HY.out.ext eA)
  have XA := hid xA
  have YA := hid yA
  clear hwA xA yA eA
  have x16 := XA.out.cell' (AskR.at16 HX.out)
  have x17 := XA.out.cell' (AskR.at17 HX.out)
  have x18 := XA.out.cell' (AskR.at18 HX.out)
  have x35 := XA.out.cell' (AskR.at35 HX.out)
  have y16 := YA.out.cell' (AskR.at16 HY.out)
  have y17 := YA.out.cell' (AskR.at17 HY.out)
  have y18 := YA.out.cell' (AskR.at18 HY.out)
  have y35 := YA.out.cell' (AskR.at35 HY.out)
  rw [p2] at y17
  rw [p3] at y18
  rw [p5] at y35
  have cat3 : ∀ (e : AskR) (g : Nat), e.Ok w → Blk wA g e.v 40 → CellsAt wA ⟨g, 0, none⟩ (e.actor.map u8v) ∧ CellsAt wA ⟨g, 19, none⟩ (e.key.map u8v) ∧ CellsAt wA ⟨g, 36, none⟩ (e.detail.map u8v) := by
    intro e g he hb
    have h1 := Cells.of_blk hb 0 16
    have h2 := Cells.of_blk hb 19 16
    have h3 := Cells.of_blk hb 36 32
    rw [AskR.actor_at he] at h1
    rw [AskR.key_at he] at h2
    rw [AskR.detail_at he] at h3
    exact ⟨CellsAt.of h1, CellsAt.of h2, CellsAt.of h3⟩
  have X3 := hid (cat3 x _ HX.out XA.out)
  have y3 := cat3 y _ HY.out YA.out
  rw [p0, p4, p6] at y3
  have Y3 := hid y3
  have L1 := hid (show (x.actor.map u8v).length = 16 by rw [List.length_map, HX.out.ha])
  have L2 := hid (show (x.key.map u8v).length = 16 by rw [List.length_map, HX.out.hk])
  have L3 := hid (show (x.detail.map u8v).length = 32 by rw [List.length_map, HX.out.hd])
  have Q1 := hid (eq_self_arrW Tryz.underlying35 x.actor HX.out.ha)
  have Q2 := hid (eq_self_arrW Tryz.underlying35 x.key HX.out.hk)
  have Q3 := hid (eq_self_arrW Tryz.underlying38 x.detail HX.out.hd)
  have CBX := hid HXA.out.scell
  have cby := HYA.out.scell
  have hyb := HYA.out.sl
  rw [p1] at cby hyb
  have CBY := hid cby
  have hsl := HX.out.sl
  have hsn : y.sn = x.sn := by rw [← hyb]; exact hsl
  rw [hsn] at y16
  have HSL := hid hsl
  have hsm := HX.out.sm
  clear y3 cat3 cby hyb p0 p1 p2 p3 p4 p5 p6 hsl
  go_wp2_with (first | (refine wpg_run rfl (exec_load_at rfl rfl X3.out.1 agg_idW L1.out) ?_) | (refine wpg_run rfl (exec_load_at rfl rfl Y3.out.1 agg_idW L1.out) ?_) | (refine wpg_run rfl (exec_load_at rfl rfl X3.out.2.1 agg_idW L2.out) ?_) | (refine wpg_run rfl (exec_load_at rfl rfl Y3.out.2.1 agg_idW L2.out) ?_) | (refine wpg_run rfl (exec_load_at rfl rfl X3.out.2.2 agg_sumW L3.out) ?_) | (refine wpg_run rfl (exec_load_at rfl rfl Y3.out.2.2 agg_sumW L3.out) ?_) | (refine wpg_run rfl (exec_cmpW rfl rfl rfl guard_idW Q1.out _) ?_) | (refine wpg_run rfl (exec_cmpW rfl rfl rfl guard_idW Q2.out _) ?_) | (refine wpg_run rfl (exec_cmpW rfl rfl rfl guard_sumW Q3.out _) ?_))
  refine (eqStrs_cW x.roles x.sa y.sa x.sn x.sc y.sc wA HSL.out hsm CBX.out CBY.out).mono ?_
  rintro e wB ⟨rfl, eB⟩
  have XB := hid (XA.out.ext eB)
  have YB := hid (YA.out.ext eB)
  have x17 := XB.out.cell' (AskR.at17 HX.out)
  have x18 := XB.out.cell' (AskR.at18 HX.out)
  have x35 := XB.out.cell' (AskR.at35 HX.out)
  have y17' : wB.cell? ⟨w.heap.size + 1, 17, none⟩ = some (.int .i64 x.act) := cell_extU y17 eB
  have y18' : wB.cell? ⟨w.heap.size + 1, 18, none⟩ = some (.string x.label) := cell_extU y18 eB
  have y35' : wB.cell? ⟨w.heap.size + 1, 35, none⟩ = some (.int .i64 x.time) := cell_extU y35 eB
  have X3' := hid (show CellsAt wB _ _ ∧ CellsAt wB _ _ from ⟨X3.out.2.1.ext eB, X3.out.2.2.ext eB⟩)
  have Y3' := hid (show CellsAt wB _ _ ∧ CellsAt wB _ _ from ⟨Y3.out.2.1.ext eB, Y3.out.2.2.ext eB⟩)
  have EB := hid (EA.out.ext eB)
  clear X3 Y3 XA YA EA eB CBX CBY
  go_wp2_with (first | (refine wpg_run rfl (exec_load_at rfl rfl X3'.out.1 agg_idW L2.out) ?_) | (refine wpg_run rfl (exec_load_at rfl rfl Y3'.out.1 agg_idW L2.out) ?_) | (refine wpg_run rfl (exec_load_at rfl rfl X3'.out.2 agg_sumW L3.out) ?_) | (refine wpg_run rfl (exec_load_at rfl rfl Y3'.out.2 agg_sumW L3.out) ?_) | (refine wpg_run rfl (exec_cmpW rfl rfl rfl guard_idW Q2.out _) ?_) | (refine wpg_run rfl (exec_cmpW rfl rfl rfl guard_sumW Q3.out _) ?_))
  go_ret
  exact ⟨rfl, EB.out⟩

/-- a row of asks, as a slice -/
structure AsksOk (w : World) (a : Option Addr) (n c : Nat) (xs : List AskR) : Prop where
  hl : xs.length = n
  hnc : n ≤ c
  cell : Cells w a (asksV xs)
  ok : ∀ x ∈ xs, x.Ok w
theorem AsksOk.ext {w w' : World} {a : Option Addr} {n c : Nat} {xs : List AskR} (h : AsksOk w a n c xs) (e : Ext w w') : AsksOk w' a n c xs := ⟨h.hl, h.hnc, h.cell.ext e, fun x hx => (h.ok x hx).ext e⟩
theorem AsksI.slice {w : World} {B : Nat} {v : Value} {xs : List AskR} (h : AsksI w B v xs) : ∃ a c, v = .slice a xs.length c ∧ AsksOk w a xs.length c xs := by
  obtain ⟨a, c, rfl, hnc, _, hc⟩ := own_cellsA h.row
  exact ⟨a, c, rfl, rfl, hnc, hc, fun x hx => (h.own x hx).ok⟩
theorem asksV_len2 {w : World} : ∀ {xs : List AskR}, (∀ x ∈ xs, x.Ok w) → (asksV xs).length = 68 * xs.length
  | [], _ => rfl
  | x :: xs, h => by
    have h1 := asksV_len2 (xs := xs) (fun y hy => h y (by simp [hy]))
    have h2 := AskR.len (h x (by simp))
    unfold asksV at h1 ⊢
    rw [List.flatMap_cons, List.length_append, h1, h2, List.length_cons]
    omega
theorem AsksOk.at {w : World} {a : Option Addr} {n c : Nat} {xs : List AskR} (h : AsksOk w a n c xs) {k : Nat} {x : AskR} (hk : xs[k]? = some x) : ∃ A, a = some A ∧ CellsAt w (A.add (k * 68)) x.v := by
  obtain ⟨hkl, hx⟩ := List.getElem?_eq_some_iff.1 hk
  have hl := asksV_len2 h.ok
  obtain ⟨b, o, rfl, hc⟩ := h.cell.some_of (by omega)
  have hsplit : asksV xs = asksV (xs.take k) ++ (x.v ++ asksV (xs.drop (k + 1))) := by
    have e : xs = xs.take k ++ (x :: xs.drop (k + 1)) := by rw [← hx, ← List.drop_eq_getElem_cons hkl, List.take_append_drop]
    conv => lhs; rw [e]
    unfold asksV
    rw [List.flatMap_append, List.flatMap_cons]
  have hlt : (asksV (xs.take k)).length = k * 68 := by
    rw [asksV_len2 (fun y hy => h.ok y (List.mem_of_mem_take hy)), List.length_take, Nat.min_eq_left (by omega)]; omega
  have hxl := AskR.len (h.ok x (List.mem_of_getElem? hk))
  refine ⟨_, rfl, fun j u hu => ?_⟩
  rw [addr_add, addr_add, Nat.add_assoc]
  refine hc _ _ ?_
  have hj := (List.getElem?_eq_some_iff.1 hu).1
  rw [hsplit, List.getElem?_append_right (by omega), hlt, show k * 68 + j - k * 68 = j by omega, List.getElem?_append_left (by omega)]
  exact hu

set_option maxRecDepth 100000 in
set_option maxHeartbeats 2000000 in
theorem eqAsks_c (xs ys : List AskR) (a b : Option Addr) (n c d : Nat) (w : World) (hx : AsksOk w a n c xs) (hy : AsksOk w b n d ys) (hn : n ≤ 140737488355328) (hp : xs.map AskR.p = ys.map AskR.p) :
    Calls Tryz.prog 10 #[.slice a n c, .slice b n d, .func (.func 11) #[] #[]] w fun e w' => e = .returned (.bool true) ∧ Ext w w' := by
  have HX := hid hx
  have HY := hid hy
  have HP := hid hp
  have HAG := hid agg_ask
  clear hx hy hp
  go_enter Tryz.func10, Tryz.ntmps10
  go_wp2
  go_loopw [17] (fun i wr => ∃ k : Nat, k ≤ n ∧ i = .int .i64 (k : Int) ∧ Ext w wr) (fun i _ => n - (intOf i).toNat)
  case atStart => exact ⟨0, by omega, rfl, Ext.refl _⟩
  case round =>
    obtain ⟨k, hk, rfl, e1⟩ := hrel
    have E1 := hid e1
    clear e1
    by_cases hlt : k < n
    · obtain ⟨x, hxk⟩ : ∃ x, xs[k]? = some x := ⟨xs[k]'(by rw [HX.out.hl]; exact hlt), by simp⟩
      obtain ⟨y, hyk⟩ : ∃ y, ys[k]? = some y := ⟨ys[k]'(by rw [HY.out.hl]; exact hlt), by simp⟩
      have hxy : x.p = y.p := by
        have := congrArg (fun l => l[k]?) HP.out
        simp only [List.getElem?_map, hxk, hyk, Option.map_some] at this
        injection this
      obtain ⟨A, rfl, hca⟩ := (HX.out.ext E1.out).at hxk
      obtain ⟨A2, rfl, hcb⟩ := (HY.out.ext E1.out).at hyk
      have HCA := hid hca
      have HCB := hid hcb
      have HXO := hid ((HX.out.ext E1.out).ok x (List.mem_of_getElem? hxk))
      have HYO := hid ((HY.out.ext E1.out).ok y (List.mem_of_getElem? hyk))
      have HXL := hid (AskR.len HXO.out)
      have HYL := hid (AskR.len HYO.out)
      have HXY := hid hxy
      have o1 := askW_one x
      have o2 := askW_one y
      clear hca hcb hxk hyk hxy
      go_wp2_with (first | (refine wpl_run rfl (exec_index (i := k) rfl rfl rfl Tryz.underlying26 size_ask hlt _) ?_) | (refine wpl_run rfl (exec_load_at rfl rfl HCA.out HAG.out HXL.out) ?_) | (refine wpl_storew rfl _ (.tmp 8) _ rfl rfl rfl (Blk.mk_alloc (vs := zeroAskV) rfl rfl) HAG.out rfl HXL.out o1 ?_))
      intro wB bB uB
      have eB : Ext wr wB := uB.ext ((Ext.refl wr).alloc _) (Nat.le_refl _)
      have BB := hid bB
      have EB := hid (E1.out.ext eB)
      have HCB2 := hid (HCB.out.ext eB)
      have E12 := hid eB
      have hgl := bB.lt
      clear bB uB eB HCA HCB E1
      generalize wr.heap.size = gr at *
      go_wp2_with (first | (refine wpl_run rfl (exec_index (i := k) rfl rfl rfl Tryz.underlying26 size_ask hlt _) ?_) | (refine wpl_run rfl (exec_load_at rfl rfl HCB2.out HAG.out HYL.out) ?_) | (refine wpl_storew rfl _ (.tmp 9) _ rfl rfl rfl (Blk.mk_alloc (vs := zeroAskV) rfl rfl) HAG.out rfl HYL.out o2 ?_))
      intro wC bC uC
      have eC : Ext wB wC := uC.ext ((Ext.refl wB).alloc _) (Nat.le_refl _)
      have CC := hid bC
      have BC := hid (BB.out.ext eC)
      have EC := hid (EB.out.ext eC)
      have HXC := hid ((HXO.out.ext E12.out).ext eC)
      have HYC := hid ((HYO.out.ext E12.out).ext eC)
      clear bC uC eC HCB2 EB BB E12 HXO HYO
      generalize wB.heap.size = gc at *
      go_wp2_with (first | (refine wpl_loadw rfl 40 (.tmp 8) rfl rfl BC.out HAG.out HXL.out ?_) | (refine wpl_loadw rfl 40 (.tmp 9) rfl rfl CC.out HAG.out HYL.out ?_))
      refine (sameAsk_c x y wC HXC.out HYC.out HXY.out).mono ?_
      rintro e wD ⟨rfl, eD⟩
      have ED := hid (EC.out.ext eD)
      clear eD EC BC CC HXC HYC
      go_wp2
      go_roundw
      case rel => exact ⟨k + 1, by omega, by go_num, ED.out⟩
      case measure => simp [intOf]; omega
    · obtain rfl : k = n := by omega
      go_wp2
      go_ret
      exact ⟨rfl, E1.out⟩
end

section
open Go Go.RowKit

def zeroP : AskP := ⟨zer 16, [], 0, ⟨#[]⟩, zer 16, 0, zer 32⟩
def zeroA : AskR := zeroP.r
theorem zeroA_v : zeroA.v = zeroAskV := rfl
theorem zeroA_ok (w : World) : zeroA.Ok w := ⟨rfl, rfl, rfl, rfl, Nat.le_refl _, Nat.zero_le _, .inl rfl, (by intro s hs; cases hs), Nat.zero_le _⟩
noncomputable def firstD (rs qs : List RuleR) : Option AskP := (worldP (rs ++ qs)).find? (difP rs qs)
noncomputable def difR (E : Int) (rs qs : List RuleR) : Bool × AskP := if E = 0 then (match firstD rs qs with | none => (false, zeroP) | some p => (true, p)) else (false, zeroP)
theorem comE_zero {rs : List RuleR} {pn : Nat} {qs : List RuleR} {qn : Nat} (h : comE rs pn qs qn = 0) : polE rs pn = 0 ∧ polE qs qn = 0 := by
  unfold comE at h
  by_cases h1 : polE rs pn = 0
  · rw [if_neg (by simp [h1])] at h
    by_cases h2 : polE qs qn = 0
    · exact ⟨h1, h2⟩
    · rw [if_pos h2] at h; exact absurd h h2
  · rw [if_pos h1] at h; exact absurd h h1
theorem built_ask0 : Tryz.prog.built 40 [] = some zeroAskV.toArray := by kernel_rfl
theorem exec_ask0 {o : Oper} {a : Act} (ho : o.op = .build 40 #[]) (w : World) : (execOp a.eval o).run Tryz.prog w = .ok (.value (.agg zeroAskV.toArray)) w := by
  have hr := run_build (P := Tryz.prog) w 40 #[] _ built_ask0
  unfold execOp
  simp only [ho, Sem.run_bind]
  have h2 : (Instr.build 40 (#[].map fun (r : Nat × Operand) => (r.1, a.eval r.2))).run Tryz.prog w = .ok (.agg zeroAskV.toArray) w := by simpa using hr
  rw [h2]
  rfl
theorem worldP_len (rs : List RuleR) : (worldP rs).length = szW rs := by
  unfold worldP szW
  have hl : actsW.length = 12 := rfl
  simp only [List.length_flatMap, List.length_map, List.map_const', List.sum_replicate_nat]
  rw [hl, Nat.mul_assoc, Nat.mul_assoc]
theorem errW_zero {rs : List RuleR} {pn : Nat} (h : errW rs pn = 0) : polE rs pn = 0 ∧ szW rs ≤ 100000 := by
  unfold errW at h
  by_cases h1 : polE rs pn = 0
  · rw [if_neg (by simp [h1])] at h
    by_cases h2 : szW rs ≤ 100000
    · exact ⟨h1, h2⟩
    · rw [if_neg h2] at h; exact absurd h (by decide)
  · rw [if_pos h1] at h; exact absurd h h1
theorem comE_errW {rs : List RuleR} {pn : Nat} {qs : List RuleR} {qn : Nat} (h : comE rs pn qs qn = 0) : errW (rs ++ qs) (pn + qn) = 0 := by
  obtain ⟨h1, h2⟩ := comE_zero h
  unfold comE at h
  rwa [if_neg (by simp [h1]), if_neg (by simp [h2])] at h
theorem find_at {α : Type} {l : List α} {p : α → Bool} {k : Nat} {x : α} (hx : l[k]? = some x) (hp : p x = true) (hb : ∀ y ∈ l.take k, p y = false) : l.find? p = some x := by
  obtain ⟨hk, hx2⟩ := List.getElem?_eq_some_iff.1 hx
  have e : l = l.take k ++ x :: l.drop (k + 1) := by rw [← hx2, ← List.drop_eq_getElem_cons hk, List.take_append_drop]
  rw [e, List.find?_append, List.find?_eq_none.2 (fun y hy => by rw [hb y hy]; simp)]
  simp [hp]
theorem take_false {α : Type} {l : List α} {p : α → Bool} {k : Nat} {x : α} (hx : l[k]? = some x) (hp : p x = false) (hb : ∀ y ∈ l.take k, p y = false) : ∀ y ∈ l.take (k + 1), p y = false := by
  intro y hy
  rw [List.take_add_one, hx] at hy
  rcases List.mem_append.1 hy with hy | hy
  · exact hb y hy
  · simp at hy; subst hy; exact hp

set_option maxRecDepth 100000 in
set_option maxHeartbeats 4000000 in
theorem differ_c (pa : Option Addr) (pn pc : Nat) (rs : List RuleR) (qa : Option Addr) (qn qc : Nat) (qs : List RuleR) (w : World) (hp : PolOk w pa pn pc rs) (hq : PolOk w qa qn qc qs) :
    Calls Tryz.prog 12 #[.agg #[.slice pa pn pc], .agg #[.slice qa qn qc]] w fun e w' => ∃ a : AskR, e = .returned (.tuple #[.agg a.v.toArray, .bool (difR (comE rs pn qs qn) rs qs).1, .int .i64 (comE rs pn qs qn)]) ∧ a.Ok w' ∧ a.p = (difR (comE rs pn qs qn) rs qs).2 ∧ Ext w w' := by
  have HP := hid hp
  have HQ := hid hq
  have HC := hid (fun W (h : Ext w W) => common_c pa pn pc rs qa qn qc qs W (hp.ext h) (hq.ext h))
  have HCZ := hid (comE_zero (rs := rs) (pn := pn) (qs := qs) (qn := qn))
  have HCW := hid (comE_errW (rs := rs) (pn := pn) (qs := qs) (qn := qn))
  clear hp hq
  obtain ⟨E, hE⟩ : ∃ E, comE rs pn qs qn = E := ⟨_, rfl⟩
  rw [hE] at HC HCZ HCW
  rw [hE]
  clear hE
  obtain ⟨DB, hDB⟩ : ∃ x, (difR E rs qs).1 = x := ⟨_, rfl⟩
  obtain ⟨DP, hDP⟩ : ∃ x, (difR E rs qs).2 = x := ⟨_, rfl⟩
  have HD : Hid (difR E rs qs = (DB, DP)) := hid (by rw [← hDB, ← hDP])
  rw [hDB, hDP]
  clear hDB hDP
  have HAG := hid agg_ask
  go_enter Tryz.func12, Tryz.ntmps12
  go_upto_region 1 with (fail)
  generalize hwA : World.alloc (World.alloc (World.alloc w _) _) _ = wA
  have bA : Blk wA w.heap.size [.slice pa pn pc] 24 := by rw [← hwA]; exact ((Blk.mk_alloc rfl rfl).alloc _).alloc _
  have dA : Blk wA (w.heap.size + 1) [.slice qa qn qc] 24 := by rw [← hwA]; exact (Blk.mk_alloc (size_allocW _ _).symm rfl).alloc _
  have zA : Blk wA (w.heap.size + 1 + 1) zeroAskV 40 := by rw [← hwA]; exact Blk.mk_alloc (by rw [size_allocW, size_allocW]) rfl
  have eA : Ext w wA := by rw [← hwA]; exact (((Ext.refl w).alloc _).alloc _).alloc _
  have BA := hid bA
  have DA := hid dA
  have ZA := hid zA
  have EA := hid eA
  clear hwA bA dA zA eA
  go_wp2_with (first | (refine wpl_loadw rfl 24 (.tmp 2) rfl rfl BA.out agg_polW rfl ?_) | (refine wpl_loadw rfl 24 (.tmp 3) rfl rfl DA.out agg_polW rfl ?_))
  refine (HC.out wA EA.out).mono ?_
  rintro e w1 ⟨v, xs, rfl, hnz, hz, e1⟩
  have E1 := hid (EA.out.ext e1)
  have B1 := hid (BA.out.ext e1)
  have D1 := hid (DA.out.ext e1)
  have Z1 := hid (ZA.out.ext e1)
  have HNZ := hid hnz
  have HZ := hid hz
  clear e1 hnz hz BA DA ZA HC
  by_cases h0 : E = 0
  · subst h0
    obtain ⟨hA, hP⟩ := HZ.out (by trivial)
    obtain ⟨hz1, hz2⟩ := HCZ.out (by trivial)
    have HOKP := hid (worldP_ok (rs := rs ++ qs) (fun r hr => by
      rcases List.mem_append.1 hr with hr | hr
      · exact (polE_zero hz1).2 r hr
      · exact (polE_zero hz2).2 r hr))
    obtain ⟨a, c, rfl, hok⟩ := hA.slice
    have AOK := hid hok
    have AOW := hid hA.own
    have HPX := hid hP
    obtain ⟨n, hn⟩ : ∃ n, xs.length = n := ⟨_, rfl⟩
    rw [hn] at AOK
    rw [hn]
    have hn63 : n ≤ 100000 := by
      rw [← hn, ← List.length_map (f := AskR.p), hP, worldP_len]
      exact (errW_zero (HCW.out (by trivial))).2
    clear hA hP hz1 hz2 hok HNZ HZ HCZ HCW
    go_wp2
    go_loopw [23] (fun i wr => ∃ k : Nat, k ≤ n ∧ i = .int .i64 (k : Int) ∧ (∀ p ∈ (worldP (rs ++ qs)).take k, difP rs qs p = false) ∧ Ext w1 wr) (fun i _ => n - (intOf i).toNat)
    case atStart => exact ⟨0, by omega, rfl, (fun p hp => by simp at hp), Ext.refl _⟩
    case round =>
      obtain ⟨k, hk, rfl, hno, e2⟩ := hrel
      have E2 := hid e2
      have HNO := hid hno
      clear e2 hno
      by_cases hlt : k < n
      · obtain ⟨x, hxk⟩ : ∃ x, xs[k]? = some x := ⟨xs[k]'(by omega), by simp⟩
        have hpk : (worldP (rs ++ qs))[k]? = some x.p := by rw [← HPX.out, List.getElem?_map, hxk]; rfl
        obtain ⟨T, hT, hTb⟩ := HOKP.out _ (List.mem_of_getElem? hpk)
        obtain ⟨A, rfl, hca⟩ := (AOK.out.ext E2.out).at hxk
        have HCA := hid hca
        have HXO := hid ((AOW.out x (List.mem_of_getElem? hxk)).ext E2.out)
        have HXL := hid (AskR.len HXO.out.ok)
        have HPK := hid hpk
        have HT := hid (show x.time = (T : Int) from hT)
        have o1 := askW_one x
        clear hca hxk hpk hT
        go_wp2_with (first | (refine wpl_run rfl (exec_index (i := k) rfl rfl rfl Tryz.underlying26 size_ask hlt _) ?_) | (refine wpl_run rfl (exec_load_at rfl rfl HCA.out HAG.out HXL.out) ?_) | (refine wpl_storew rfl _ (.tmp 10) _ rfl rfl rfl (Blk.mk_alloc (vs := zeroAskV) rfl rfl) HAG.out rfl HXL.out o1 ?_))
        intro wB bB uB
        have eB : Ext wr wB := uB.ext ((Ext.refl wr).alloc _) (Nat.le_refl _)
        have BX := hid bB
        have EB := hid (E2.out.ext eB)
        have HXB := hid (HXO.out.ext eB)
        have hgr : w1.heap.size ≤ wr.heap.size := E2.out.size
        clear bB uB eB HCA E2 HXO
        generalize wr.heap.size = gr at *
        have EW := hid (E1.out.ext EB.out)
        have PB := hid (HP.out.ext EW.out)
        have QB := hid (HQ.out.ext EW.out)
        have BB := hid (B1.out.ext EB.out)
        have DB' := hid (D1.out.ext EB.out)
        have ZB := hid (Z1.out.ext EB.out)
        have hD1 := hid (fun W (h : Ext wB W) => decide_c pa pn pc rs x T W (PB.out.ext h) ((HXB.out.ext h).ok) HT.out hTb)
        have hD2 := hid (fun W (h : Ext wB W) => decide_c qa qn qc qs x T W (QB.out.ext h) ((HXB.out.ext h).ok) HT.out hTb)
        obtain ⟨d1, hd1⟩ : ∃ d, decideD x rs = d := ⟨_, rfl⟩
        obtain ⟨d2, hd2⟩ : ∃ d, decideD x qs = d := ⟨_, rfl⟩
        have hdif : difP rs qs x.p = !sameD d1 d2 := by unfold difP; rw [← decP_of, ← decP_of, hd1, hd2]
        have HDIF := hid hdif
        rw [hd1] at hD1
        rw [hd2] at hD2
        have hlv := HXL.out
        clear hd1 hd2 hdif
        go_upto_region 7 with (fail)
        obtain ⟨C, hC⟩ : ∃ C : World → Prop, C = fun w' => Ext wB w' := ⟨_, rfl⟩
        have hC0 : ∀ w', C w' ↔ Ext wB w' := fun w' => by rw [hC]
        clear hC
        have HCC := hid hC0
        clear hC0
        have hCx : ∀ w w', C w → Ext w w' → C w' := fun w w' h1 h2 => (HCC.out w').2 (((HCC.out w).1 h1).ext h2)
        have hCA : C wB := (HCC.out _).2 (Ext.refl wB)
        refine wp_region_held_drew (S := C) (by kernel_rfl) (hCx _ _ hCA (Ext.refl _).drew) (fun hS0 => ?_)
        refine held_take 0 (v := _) rfl (by kernel_rfl) (by kernel_rfl) (by kernel_rfl) (fun _ _ _ h => h) (yieldsI_loadw rfl 24 _ rfl rfl (fun w1 h => BB.out.ext ((HCC.out w1).1 h)) agg_polW rfl) hS0 ?_
        simp only [Act.put, List.setIfInBounds_toArray, List.set_cons_succ, List.set_cons_zero]
        refine held_take 1 (v := _) rfl (by kernel_rfl) (by kernel_rfl) (by kernel_rfl) (fun _ _ _ h => h) (yieldsI_loadw rfl 40 _ rfl rfl (fun w1 h => BX.out.ext ((HCC.out w1).1 h)) HAG.out hlv) hS0 ?_
        simp only [Act.put, List.setIfInBounds_toArray, List.set_cons_succ, List.set_cons_zero]
        refine held_take 3 (v := _) rfl (by kernel_rfl) (by kernel_rfl) (by kernel_rfl) (fun _ _ _ h => h) (yieldsI_loadw rfl 24 _ rfl rfl (fun w1 h => DB'.out.ext ((HCC.out w1).1 h)) agg_polW rfl) hS0 ?_
        simp only [Act.put, List.setIfInBounds_toArray, List.set_cons_succ, List.set_cons_zero]
        refine held_take 4 (v := _) rfl (by kernel_rfl) (by kernel_rfl) (by kernel_rfl) (fun _ _ _ h => h) (yieldsI_loadw rfl 40 _ rfl rfl (fun w1 h => BX.out.ext ((HCC.out w1).1 h)) HAG.out hlv) hS0 ?_
        simp only [Act.put, List.setIfInBounds_toArray, List.set_cons_succ, List.set_cons_zero]
        have hx0 := (HCC.out _).1 hS0
        refine held_one (i := 2) (by kernel_rfl) rfl ?_
        intro Q' hQ
        go_wp2_with fail
        refine ((hD1.out _ hx0)).mono ?_
        rintro e w5 ⟨rfl, eq9⟩
        have hS9 := hCx _ _ hS0 eq9
        go_wp2_with fail
        refine hQ _ _ hS9 ?_
        clear hQ Q' hS0 eq9
        have hS0 := hS9
        clear hS9
        try dsimp only
        try simp only [Act.put, List.setIfInBounds_toArray, List.set_cons_succ, List.set_cons_zero]
        have hx1 := (HCC.out _).1 hS0
        refine held_one (i := 5) (by kernel_rfl) rfl ?_
        intro Q' hQ
        go_wp2_with fail
        refine ((hD2.out _ hx1)).mono ?_
        rintro e w6 ⟨rfl, eq9⟩
        have hS9 := hCx _ _ hS0 eq9
        go_wp2_with fail
        refine hQ _ _ hS9 ?_
        clear hQ Q' hS0 eq9
        have hS0 := hS9
        clear hS9
        try dsimp only
        try simp only [Act.put, List.setIfInBounds_toArray, List.set_cons_succ, List.set_cons_zero]
        refine held_one (i := 6) (by kernel_rfl) rfl ?_
        intro Q' hQ
        go_wp2_with fail
        refine ((sameDec_c d1 d2 _)).mono ?_
        rintro e w7 ⟨rfl, eq9⟩
        have hS9 := hCx _ _ hS0 eq9
        go_wp2_with fail
        refine hQ _ _ hS9 ?_
        clear hQ Q' hS0 eq9
        have hS0 := hS9
        clear hS9
        try dsimp only
        try simp only [Act.put, List.setIfInBounds_toArray, List.set_cons_succ, List.set_cons_zero]
        refine held_take 7 (v := ?tv1) rfl (by kernel_rfl) (by kernel_rfl) (by kernel_rfl) (fun _ _ _ h => h) (.inl ⟨rfl, ?ty1⟩) hS0 ?tr1
        case ty1 => (intro _ _; go_simp; try with_reducible rfl)
        case tr1 =>
        simp only [Act.put, List.setIfInBounds_toArray, List.set_cons_succ, List.set_cons_zero]
        refine wpAnyH_done (by kernel_rfl) ?_ _
        have E7 := hid ((HCC.out _).1 hS0)
        clear hS0 hCA hCx HCC hx0 hx1 hD1 hD2
        cases hsd : sameD d1 d2 with
        | true =>
          have HNO2 := hid (take_false HPK.out (by rw [HDIF.out, hsd]; rfl) HNO.out)
          have EE := hid (EB.out.ext E7.out)
          clear HNO HDIF hsd
          go_wp2
          go_roundw
          case rel => exact ⟨k + 1, by omega, by go_num, HNO2.out, EE.out⟩
          case measure => simp [intOf]; omega
        | false =>
          have hfd : firstD rs qs = some x.p := find_at HPK.out (by rw [HDIF.out, hsd]; rfl) HNO.out
          have hdr := HD.out
          unfold difR at hdr
          rw [if_pos rfl, hfd] at hdr
          injection hdr with hb1 hp1
          subst hb1
          have HP1 := hid hp1
          have HX7 := hid (HXB.out.ext E7.out)
          have BX7 := hid (BX.out.ext E7.out)
          have ZB7 := hid (ZB.out.ext E7.out)
          have EE := hid (EW.out.ext E7.out)
          obtain ⟨hc1, hc2, hc3, hc4⟩ := HX7.out.cells
          have HCL := hid (cloneStr_c (x.roles.map encStr) x.sa x.sn x.sc w7 (by rw [List.length_map]; exact hc1) (by have := HX7.out.sm; omega) hc2 hc3 (by intro v hv; obtain ⟨s, _, rfl⟩ := List.mem_map.1 hv; rfl) hc4)
          have c16 := BX7.out.cell' (AskR.at16 HX7.out.ok)
          clear hc1 hc2 hc3 hc4 HNO HDIF hsd hfd hp1
          go_wp2_with fail
          refine HCL.out.mono ?_
          rintro e w8 ⟨v2, rfl, ho2, e8⟩
          obtain ⟨a2, c2, rfl, hx1, hx2, hx3⟩ := own_cellsA ho2
          clear hx1 hx2 hx3
          have BX8 := hid (BX7.out.ext e8)
          have HX8 := hid (HX7.out.ext e8)
          have ZB8 := hid (ZB7.out.ext e8)
          have E8 := hid (EE.out.ext e8)
          have O8 := hid ho2
          have k16 := BX8.out.cell' (AskR.at16 HX8.out.ok)
          have f16 := BX8.out.frozen 16
          clear e8 ho2 HCL BX7 HX7 ZB7 EE c16
          go_upto_region 9 with (fail)
          generalize hwX : World.setCell w8 _ _ = wX
          have bX : Blk wX gr (x.move a2 c2).v 40 := by
            rw [← hwX, AskR.move_v HX8.out]
            exact BX8.out.set 16 (.slice a2 x.sn c2)
          have uX : Upd w8 gr wX := by rw [← hwX]; exact Upd.setCell _
          have hzg : w.heap.size + 1 + 1 ≠ gr := by have := Z1.out.lt; omega
          have HMX : Hid ((x.move a2 c2).Own wX) := hid (by
            have hx := HX8.out
            refine ⟨hx.ha, hx.hk, hx.hd, ⟨w7.heap.size, ?_⟩, hx.sm, hx.ss, hx.ls⟩
            exact own_updA O8.out uX BX8.out (by decide))
          have ZX := hid (ZB8.out.upd uX hzg)
          have EX := hid (uX.ext E8.out (by have := E1.out.size; omega))
          have BXX := hid bX
          obtain ⟨y, hy⟩ : ∃ y, x.move a2 c2 = y := ⟨_, rfl⟩
          have hyp : y.p = DP := by rw [← hy, AskR.move_p]; exact HP1.out
          rw [hy] at BXX HMX
          have HYL := hid (AskR.len HMX.out.ok)
          have HYO := hid (askW_one y)
          have HYP := hid hyp
          clear hwX bX uX hzg hy hyp BX8 HX8 ZB8 E8 O8 k16 f16 HP1
          go_wp2_with (first | (refine wpl_loadw rfl 40 (.tmp 10) rfl rfl BXX.out HAG.out HYL.out ?_) | (refine wpl_storew rfl _ (.tmp 4) _ rfl rfl rfl ZX.out HAG.out rfl HYL.out HYO.out ?_))
          intro wY bY uY
          have EY := hid (uY.ext EX.out (by omega))
          have HYY : Hid (y.Ok wY) := hid (AskR.Own.ok ⟨HMX.out.ha, HMX.out.hk, HMX.out.hd, (by obtain ⟨B, hr⟩ := HMX.out.row; exact ⟨B, own_updA hr uY ZX.out (by decide)⟩), HMX.out.sm, HMX.out.ss, HMX.out.ls⟩)
          have BY := hid bY
          clear bY uY
          go_wp2_with fail
          exact ret_row3 rfl rfl BY.out HAG.out HYL.out rfl ⟨y, rfl, HYY.out, HYP.out, EY.out⟩
      · obtain rfl : k = n := by omega
        have hfd : firstD rs qs = none := by
          unfold firstD
          rw [List.find?_eq_none]
          intro p hp
          have hl : (worldP (rs ++ qs)).length = k := by rw [← HPX.out, List.length_map]; exact hn
          rw [HNO.out p (by rw [List.take_of_length_le (by omega)]; exact hp)]
          simp
        have hdr := HD.out
        unfold difR at hdr
        rw [if_pos rfl, hfd] at hdr
        injection hdr with hb1 hp1
        subst hb1
        have HP1 := hid hp1
        have ZR := hid (Z1.out.ext E2.out)
        have EE := hid (E1.out.ext E2.out)
        clear hfd hp1 HNO
        go_wp2_with (first | (refine wpl_run rfl (exec_ask0 rfl _) ?_) | (refine wpl_storew rfl _ (.tmp 4) _ rfl rfl rfl ZR.out HAG.out rfl (xs := zeroAskV) rfl (askW_one zeroA) ?_))
        intro wY bY uY
        have EY := hid (uY.ext EE.out (by omega))
        have BY := hid bY
        clear bY uY
        go_wp2_with fail
        exact ret_row3 rfl rfl BY.out HAG.out rfl rfl ⟨zeroA, rfl, zeroA_ok _, HP1.out, EY.out⟩
  · have hdr := HD.out
    unfold difR at hdr
    rw [if_neg h0] at hdr
    injection hdr with hb1 hp1
    subst hb1
    have HP1 := hid hp1
    have hv := HNZ.out h0
    subst hv
    have ZR := hid Z1.out
    have EE := hid E1.out
    have d0 : decide (E = 0) = false := decide_eq_false h0
    clear hp1 HNZ HZ HCZ HCW Z1 E1
    go_wp2_with (first | (refine wpl_run rfl (exec_ask0 rfl _) ?_) | (refine wpl_storew rfl _ (.tmp 4) _ rfl rfl rfl ZR.out HAG.out rfl (xs := zeroAskV) rfl (askW_one zeroA) ?_))
    intro wY bY uY
    have EY := hid (uY.ext EE.out (by omega))
    have BY := hid bY
    clear bY uY
    go_wp2_with fail
    exact ret_row3 rfl rfl BY.out HAG.out rfl rfl ⟨zeroA, rfl, zeroA_ok _, HP1.out, EY.out⟩
end

section
open Go Go.RowKit

noncomputable def strR (E : Int) (rs qs : List RuleR) : Bool := if E = 0 then (worldP (rs ++ qs)).all (strP rs qs) else false
theorem take_true {α : Type} {l : List α} {p : α → Bool} {k : Nat} {x : α} (hx : l[k]? = some x) (hp : p x = true) (hb : ∀ y ∈ l.take k, p y = true) : ∀ y ∈ l.take (k + 1), p y = true := by
  intro y hy
  rw [List.take_add_one, hx] at hy
  rcases List.mem_append.1 hy with hy | hy
  · exact hb y hy
  · simp at hy; subst hy; exact hp
theorem all_false {α : Type} {l : List α} {p : α → Bool} {k : Nat} {x : α} (hx : l[k]? = some x) (hp : p x = false) : l.all p = false := by
  rw [List.all_eq_false]
  exact ⟨x, List.mem_of_getElem? hx, by rw [hp]; simp⟩

set_option maxRecDepth 100000 in
set_option maxHeartbeats 4000000 in
theorem stricter_c (pa : Option Addr) (pn pc : Nat) (rs : List RuleR) (qa : Option Addr) (qn qc : Nat) (qs : List RuleR) (w : World) (hp : PolOk w pa pn pc rs) (hq : PolOk w qa qn qc qs) :
    Calls Tryz.prog 13 #[.agg #[.slice pa pn pc], .agg #[.slice qa qn qc]] w fun e w' => e = .returned (.tuple #[.bool (strR (comE rs pn qs qn) rs qs), .int .i64 (comE rs pn qs qn)]) ∧ Ext w w' := by
  have HP := hid hp
  have HQ := hid hq
  have HC := hid (fun W (h : Ext w W) => common_c pa pn pc rs qa qn qc qs W (hp.ext h) (hq.ext h))
  have HCZ := hid (comE_zero (rs := rs) (pn := pn) (qs := qs) (qn := qn))
  have HCW := hid (comE_errW (rs := rs) (pn := pn) (qs := qs) (qn := qn))
  clear hp hq
  obtain ⟨E, hE⟩ : ∃ E, comE rs pn qs qn = E := ⟨_, rfl⟩
  rw [hE] at HC HCZ HCW
  rw [hE]
  clear hE
  obtain ⟨DB, hDB⟩ : ∃ x, strR E rs qs = x := ⟨_, rfl⟩
  have HD := hid hDB
  rw [hDB]
  clear hDB
  have HAG := hid agg_ask
  go_enter Tryz.func13, Tryz.ntmps13
  go_upto_region 1 with (fail)
  generalize hwA : World.alloc (World.alloc w _) _ = wA
  have bA : Blk wA w.heap.size [.slice pa pn pc] 24 := by rw [← hwA]; exact (Blk.mk_alloc rfl rfl).alloc _
  have dA : Blk wA (w.heap.size + 1) [.slice qa qn qc] 24 := by rw [← hwA]; exact Blk.mk_alloc (size_allocW _ _).symm rfl
  have eA : Ext w wA := by rw [← hwA]; exact ((Ext.refl w).alloc _).alloc _
  have BA := hid bA
  have DA := hid dA
  have EA := hid eA
  clear hwA bA dA eA
  go_wp2_with (first | (refine wpl_loadw rfl 24 (.tmp 2) rfl rfl BA.out agg_polW rfl ?_) | (refine wpl_loadw rfl 24 (.tmp 3) rfl rfl DA.out agg_polW rfl ?_))
  refine (HC.out wA EA.out).mono ?_
  rintro e w1 ⟨v, xs, rfl, hnz, hz, e1⟩
  have E1 := hid (EA.out.ext e1)
  have B1 := hid (BA.out.ext e1)
  have D1 := hid (DA.out.ext e1)
  have HNZ := hid hnz
  have HZ := hid hz
  clear e1 hnz hz BA DA HC
  by_cases h0 : E = 0
  · subst h0
    obtain ⟨hA, hP⟩ := HZ.out (by trivial)
    obtain ⟨hz1, hz2⟩ := HCZ.out (by trivial)
    have HOKP := hid (worldP_ok (rs := rs ++ qs) (fun r hr => by
      rcases List.mem_append.1 hr with hr | hr
      · exact (polE_zero hz1).2 r hr
      · exact (polE_zero hz2).2 r hr))
    obtain ⟨a, c, rfl, hok⟩ := hA.slice
    have AOK := hid hok
    have AOW := hid hA.own
    have HPX := hid hP
    obtain ⟨n, hn⟩ : ∃ n, xs.length = n := ⟨_, rfl⟩
    rw [hn] at AOK
    rw [hn]
    have hn63 : n ≤ 100000 := by
      rw [← hn, ← List.length_map (f := AskR.p), hP, worldP_len]
      exact (errW_zero (HCW.out (by trivial))).2
    clear hA hP hz1 hz2 hok HNZ HZ HCZ HCW
    go_wp2
    go_loopw [23] (fun i wr => ∃ k : Nat, k ≤ n ∧ i = .int .i64 (k : Int) ∧ (∀ p ∈ (worldP (rs ++ qs)).take k, strP rs qs p = true) ∧ Ext w1 wr) (fun i _ => n - (intOf i).toNat)
    case atStart => exact ⟨0, by omega, rfl, (fun p hp => by simp at hp), Ext.refl _⟩
    case round =>
      obtain ⟨k, hk, rfl, hno, e2⟩ := hrel
      have E2 := hid e2
      have HNO := hid hno
      clear e2 hno
      by_cases hlt : k < n
      · obtain ⟨x, hxk⟩ : ∃ x, xs[k]? = some x := ⟨xs[k]'(by omega), by simp⟩
        have hpk : (worldP (rs ++ qs))[k]? = some x.p := by rw [← HPX.out, List.getElem?_map, hxk]; rfl
        obtain ⟨T, hT, hTb⟩ := HOKP.out _ (List.mem_of_getElem? hpk)
        obtain ⟨A, rfl, hca⟩ := (AOK.out.ext E2.out).at hxk
        have HCA := hid hca
        have HXO := hid ((AOW.out x (List.mem_of_getElem? hxk)).ext E2.out)
        have HXL := hid (AskR.len HXO.out.ok)
        have HPK := hid hpk
        have HT := hid (show x.time = (T : Int) from hT)
        have o1 := askW_one x
        clear hca hxk hpk hT
        go_wp2_with (first | (refine wpl_run rfl (exec_index (i := k) rfl rfl rfl Tryz.underlying26 size_ask hlt _) ?_) | (refine wpl_run rfl (exec_load_at rfl rfl HCA.out HAG.out HXL.out) ?_) | (refine wpl_storew rfl _ (.tmp 9) _ rfl rfl rfl (Blk.mk_alloc (vs := zeroAskV) rfl rfl) HAG.out rfl HXL.out o1 ?_))
        intro wB bB uB
        have eB : Ext wr wB := uB.ext ((Ext.refl wr).alloc _) (Nat.le_refl _)
        have BX := hid bB
        have EB := hid (E2.out.ext eB)
        have HXB := hid (HXO.out.ext eB)
        have hgr : w1.heap.size ≤ wr.heap.size := E2.out.size
        clear bB uB eB HCA E2 HXO
        generalize wr.heap.size = gr at *
        have EW := hid (E1.out.ext EB.out)
        have PB := hid (HP.out.ext EW.out)
        have QB := hid (HQ.out.ext EW.out)
        have BB := hid (B1.out.ext EB.out)
        have DB' := hid (D1.out.ext EB.out)
        have hD1 := hid (fun W (h : Ext wB W) => decide_c pa pn pc rs x T W (PB.out.ext h) ((HXB.out.ext h).ok) HT.out hTb)
        have hD2 := hid (fun W (h : Ext wB W) => decide_c qa qn qc qs x T W (QB.out.ext h) ((HXB.out.ext h).ok) HT.out hTb)
        obtain ⟨d1, hd1⟩ : ∃ d, decideD x rs = d := ⟨_, rfl⟩
        obtain ⟨d2, hd2⟩ : ∃ d, decideD x qs = d := ⟨_, rfl⟩
        have hdif : strP rs qs x.p = (!d1.al || (d2.al && !decide (d1.nd < d2.nd))) := by unfold strP; rw [← decP_of, ← decP_of, hd1, hd2]
        have HDIF := hid hdif
        rw [hd1] at hD1
        rw [hd2] at hD2
        have hlv := HXL.out
        clear hd1 hd2 hdif
        go_upto_region 7 with (fail)
        obtain ⟨C, hC⟩ : ∃ C : World → Prop, C = fun w' => Ext wB w' := ⟨_, rfl⟩
        have hC0 : ∀ w', C w' ↔ Ext wB w' := fun w' => by rw [hC]
        clear hC
        have HCC := hid hC0
        clear hC0
        have hCx : ∀ w w', C w → Ext w w' → C w' := fun w w' h1 h2 => (HCC.out w').2 (((HCC.out w).1 h1).ext h2)
        refine wp_region_al (C := C) 8 [(6, zeroDec.v, 52), (7, zeroDec.v, 52)] wB.heap.size (by kernel_rfl) (by kernel_rfl) (by kernel_rfl)
          ((HCC.out _).2 (Ext.refl wB).drew) (fun w o h => hCx _ _ h ((Ext.refl w).alloc o)) (fun w h => ((HCC.out w).1 h).size) ?_ ?_
        · intro x hx
          simp only [List.mem_cons, List.not_mem_nil, or_false] at hx
          rcases hx with rfl | rfl
          · exact ⟨_, rfl, rfl, fun _ _ => by rfl⟩
          · exact ⟨_, rfl, rfl, fun _ _ => by rfl⟩
        simp only [List.take_succ_cons, List.take_zero, List.drop_succ_cons, List.drop_zero]
        refine wpQE_do rfl rfl _ (yieldsE_loadw _ _ rfl rfl (fun w1 h => BB.out.ext ((HCC.out w1).1 h)) agg_polW rfl) ?_
        simp only [Act.put, List.setIfInBounds_toArray, List.set_cons_succ, List.set_cons_zero]
        refine wpQE_do rfl rfl _ (yieldsE_loadw _ _ rfl rfl (fun w1 h => BX.out.ext ((HCC.out w1).1 h)) HAG.out hlv) ?_
        simp only [Act.put, List.setIfInBounds_toArray, List.set_cons_succ, List.set_cons_zero]
        refine wpQE_do rfl rfl _ (yieldsE_call rfl Tryz.call36 (by simp [Act.eval]) (fun w h => hD1.out w ((HCC.out w).1 h)) hCx) ?_
        simp only [Act.put, List.setIfInBounds_toArray, List.set_cons_succ, List.set_cons_zero]
        refine wpQE_do rfl rfl _ (yieldsE_loadw _ _ rfl rfl (fun w1 h => DB'.out.ext ((HCC.out w1).1 h)) agg_polW rfl) ?_
        simp only [Act.put, List.setIfInBounds_toArray, List.set_cons_succ, List.set_cons_zero]
        refine wpQE_do rfl rfl _ (yieldsE_loadw _ _ rfl rfl (fun w1 h => BX.out.ext ((HCC.out w1).1 h)) HAG.out hlv) ?_
        simp only [Act.put, List.setIfInBounds_toArray, List.set_cons_succ, List.set_cons_zero]
        refine wpQE_do rfl rfl _ (yieldsE_call rfl Tryz.call36 (by simp [Act.eval]) (fun w h => hD2.out w ((HCC.out w).1 h)) hCx) ?_
        simp only [Act.put, List.setIfInBounds_toArray, List.set_cons_succ, List.set_cons_zero]
        refine wpQE_al rfl ?_
        refine wpQE_al rfl ?_
        refine wpQE_nil ?_
        intro gs w2 hw2 hbl hdis
        have hb6 := hbl _ (List.mem_cons_self)
        have hb7 := hbl _ (List.mem_cons_of_mem _ List.mem_cons_self)
        have hne := hdis _ (List.mem_cons_self) _ (List.mem_cons_of_mem _ List.mem_cons_self) (by simp)
        simp only at hb6 hb7 hne
        simp only [putAl, dstOf, ptrOf, Act.put, List.getElem?_toArray, List.getElem?_cons_succ, List.getElem?_cons_zero, Option.bind_some, List.setIfInBounds_toArray, List.set_cons_succ, List.set_cons_zero]
        generalize gs 6 = gk at *
        generalize gs 7 = gv at *
        have e2 := (HCC.out w2).1 hw2
        have hgw1 : wB.heap.size ≤ gk := hb6.2
        have hgw2 : wB.heap.size ≤ gv := hb7.2
        have K2 := hid hb6.1
        have V2 := hid hb7.1
        have E2B := hid e2
        clear hbl hdis hCx HCC hw2 hb6 hb7 e2 C
        refine wpl_storew rfl _ _ _ rfl rfl rfl K2.out agg_dec rfl (DecR.len d1) (decV_one d1) ?_
        intro w3 b3 u3
        have E3B := hid (u3.ext E2B.out hgw1)
        have V3 := hid (V2.out.upd u3 (by omega))
        have K3 := hid b3
        clear b3 u3 K2 V2 E2B
        refine wpl_storew rfl _ _ _ rfl rfl rfl V3.out agg_dec rfl (DecR.len d2) (decV_one d2) ?_
        intro w4 b4 u4
        have E4B := hid (u4.ext E3B.out hgw2)
        have K4 := hid (K3.out.upd u4 (by omega))
        have V4 := hid b4
        clear b4 u4 E3B V3 K3
        refine wpList_nil ?_
        have k0 := K4.out.cell' (i := 0) rfl
        have k2 := K4.out.cell' (i := 2) rfl
        have v0 := V4.out.cell' (i := 0) rfl
        have v2 := V4.out.cell' (i := 2) rfl
        cases h1 : d1.al with
        | false =>
          have hst : strP rs qs x.p = true := by rw [HDIF.out, h1]; rfl
          rw [h1] at k0
          have HNO2 := hid (take_true HPK.out hst HNO.out)
          have EE := hid (EB.out.ext E4B.out)
          clear HNO HDIF hst
          go_wp2
          go_roundw
          case rel => exact ⟨k + 1, by omega, by go_num, HNO2.out, EE.out⟩
          case measure => simp [intOf]; omega
        | true =>
          rw [h1] at k0
          cases h2 : d2.al with
          | false =>
            have hst : strP rs qs x.p = false := by rw [HDIF.out, h1, h2]; rfl
            rw [h2] at v0
            have hv : DB = false := by rw [← HD.out]; unfold strR; rw [if_pos rfl]; exact all_false HPK.out hst
            subst hv
            have EE := hid (EW.out.ext E4B.out)
            clear HNO HDIF hst
            go_wp2
            go_ret2
            exact ⟨rfl, EE.out⟩
          | true =>
            rw [h2] at v0
            by_cases h3 : d1.nd < d2.nd
            · have dz : decide (d1.nd < d2.nd) = true := decide_eq_true h3
              have hst : strP rs qs x.p = false := by rw [HDIF.out, h1, h2, dz]; rfl
              have hv : DB = false := by rw [← HD.out]; unfold strR; rw [if_pos rfl]; exact all_false HPK.out hst
              subst hv
              have EE := hid (EW.out.ext E4B.out)
              clear HNO HDIF hst
              go_wp2
              go_ret2
              exact ⟨rfl, EE.out⟩
            · have dz : decide (d1.nd < d2.nd) = false := decide_eq_false h3
              have hst : strP rs qs x.p = true := by rw [HDIF.out, h1, h2, dz]; rfl
              have HNO2 := hid (take_true HPK.out hst HNO.out)
              have EE := hid (EB.out.ext E4B.out)
              clear HNO HDIF hst
              go_wp2
              go_roundw
              case rel => exact ⟨k + 1, by omega, by go_num, HNO2.out, EE.out⟩
              case measure => simp [intOf]; omega
      · obtain rfl : k = n := by omega
        have hv : DB = true := by
          rw [← HD.out]
          unfold strR
          rw [if_pos rfl, List.all_eq_true]
          intro p hp
          have hl : (worldP (rs ++ qs)).length = k := by rw [← HPX.out, List.length_map]; exact hn
          exact HNO.out p (by rw [List.take_of_length_le (by omega)]; exact hp)
        subst hv
        have EE := hid (E1.out.ext E2.out)
        clear HNO
        go_wp2
        go_ret2
        exact ⟨rfl, EE.out⟩
  · have hv : DB = false := by rw [← HD.out]; unfold strR; rw [if_neg h0]
    subst hv
    have hvn := HNZ.out h0
    subst hvn
    have d0 : decide (E = 0) = false := decide_eq_false h0
    clear HNZ HZ HCZ HCW
    go_wp2
    go_ret2
    exact ⟨rfl, E1.out⟩
end

section
open Go Go.RowKit

theorem polE_cat {rs qs : List RuleR} {pn qn : Nat} (h1 : polE rs pn = 0) (h2 : polE qs qn = 0) (hn : pn + qn ≤ 100) : polE (rs ++ qs) (pn + qn) = 0 := by
  unfold polE
  rw [if_neg (by omega)]
  refine firstE_zero fun r hr => ?_
  rcases List.mem_append.1 hr with hr | hr
  · exact (polE_zero h1).2 r hr
  · exact (polE_zero h2).2 r hr
theorem difP_eq (rs qs : List RuleR) (x : AskR) (d1 d2 : DecR) (h1 : decideD x rs = d1) (h2 : decideD x qs = d2) : difP rs qs x.p = !sameD d1 d2 := by unfold difP; rw [← decP_of, ← decP_of, h1, h2]
theorem strP_eq (rs qs : List RuleR) (x : AskR) (d1 d2 : DecR) (h1 : decideD x rs = d1) (h2 : decideD x qs = d2) : strP rs qs x.p = (!d1.al || (d2.al && !decide (d1.nd < d2.nd))) := by unfold strP; rw [← decP_of, ← decP_of, h1, h2]
def foI : Option Nat → Int
  | none => -1
  | some m => (m : Int)

set_option maxRecDepth 100000 in
set_option maxHeartbeats 8000000 in
theorem policiesDiffer_c (pa : Option Addr) (pn pc : Nat) (rs : List RuleR) (qa : Option Addr) (qn qc : Nat) (qs : List RuleR) (w : World) (hp : PolOk w pa pn pc rs) (hq : PolOk w qa qn qc qs) :
    Calls Tryz.prog 4 #[.agg #[.slice pa pn pc], .agg #[.slice qa qn qc]] w fun e w' => e = .returned (.bool true) ∧ Ext w w' := by
  have HP := hid hp
  have HQ := hid hq
  have HDF := hid (fun W (h : Ext w W) => differ_c pa pn pc rs qa qn qc qs W (hp.ext h) (hq.ext h))
  have HST := hid (fun W (h : Ext w W) => stricter_c pa pn pc rs qa qn qc qs W (hp.ext h) (hq.ext h))
  have HC1 := hid (fun W (h : Ext w W) => checkPolicy_c pa pn pc rs W (hp.ext h))
  have HC2 := hid (fun W (h : Ext w W) => checkPolicy_c qa qn qc qs W (hq.ext h))
  clear hp hq
  have HAG := hid agg_ask
  go_enter Tryz.func4, Tryz.ntmps4
  go_upto_region 1 with (fail)
  generalize hwA : World.alloc (World.alloc w _) _ = wA
  have bA : Blk wA w.heap.size [.slice pa pn pc] 24 := by rw [← hwA]; exact (Blk.mk_alloc rfl rfl).alloc _
  have dA : Blk wA (w.heap.size + 1) [.slice qa qn qc] 24 := by rw [← hwA]; exact Blk.mk_alloc (size_allocW _ _).symm rfl
  have eA : Ext w wA := by rw [← hwA]; exact ((Ext.refl w).alloc _).alloc _
  have BA := hid bA
  have DA := hid dA
  have EA := hid eA
  clear hwA bA dA eA
  go_wp2_with fail
  refine (landed_c wA).mono ?_
  rintro e w1 ⟨rfl, e1⟩
  have E1 := hid (EA.out.ext e1)
  have B1 := hid (BA.out.ext e1)
  have D1 := hid (DA.out.ext e1)
  have c0 := B1.out.cell' (i := 0) rfl
  have d0 := D1.out.cell' (i := 0) rfl
  clear e1 BA DA EA
  by_cases hpn : 20 < pn
  · have x1 : decide ((20 : Int) < (pn : Int)) = true := decide_eq_true (by omega)
    go_wp2
    go_ret
    exact ⟨rfl, E1.out⟩
  have x1 : decide ((20 : Int) < (pn : Int)) = false := decide_eq_false (by omega)
  by_cases hqn : 20 < qn
  · have x2 : decide ((20 : Int) < (qn : Int)) = true := decide_eq_true (by omega)
    go_wp2
    go_ret
    exact ⟨rfl, E1.out⟩
  have x2 : decide ((20 : Int) < (qn : Int)) = false := decide_eq_false (by omega)
  obtain ⟨E, hE⟩ : ∃ E, comE rs pn qs qn = E := ⟨_, rfl⟩
  have HE := hid hE
  rw [hE] at HDF HST
  clear hE
  go_wp2_with (first | (refine wpl_loadw rfl 24 (.tmp 2) rfl rfl B1.out agg_polW rfl ?_) | (refine wpl_loadw rfl 24 (.tmp 3) rfl rfl D1.out agg_polW rfl ?_))
  refine (HDF.out w1 E1.out).mono ?_
  rintro e w2 ⟨a, rfl, hao, hap, e2⟩
  have E2 := hid (E1.out.ext e2)
  have B2 := hid (B1.out.ext e2)
  have D2 := hid (D1.out.ext e2)
  have HAO := hid hao
  have HAP := hid hap
  have HAL := hid (AskR.len hao)
  have ha1 := askW_one a
  clear e2 hao hap E1 B1 D1 c0 d0 HDF
  obtain ⟨DB, hDB⟩ : ∃ x, (difR E rs qs).1 = x := ⟨_, rfl⟩
  have HDB := hid hDB
  rw [hDB]
  clear hDB
  go_wp2_with (refine wpl_storew rfl _ (.tmp 5) _ rfl rfl rfl (Blk.mk_alloc (vs := zeroAskV) rfl rfl) HAG.out rfl HAL.out ha1 ?_)
  intro w3 b3 u3
  have e3 : Ext w2 w3 := u3.ext ((Ext.refl w2).alloc _) (Nat.le_refl _)
  obtain ⟨ga, hga⟩ : ∃ g, w2.heap.size = g := ⟨_, rfl⟩
  rw [hga] at b3 ⊢
  have A3 := hid b3
  have E3 := hid (E2.out.ext e3)
  have B3 := hid (B2.out.ext e3)
  have D3 := hid (D2.out.ext e3)
  have HA3 := hid (HAO.out.ext e3)
  clear b3 u3 e3 E2 B2 D2 HAO hga
  go_wp2_with (first | (refine wpl_loadw rfl 24 (.tmp 2) rfl rfl B3.out agg_polW rfl ?_) | (refine wpl_loadw rfl 24 (.tmp 3) rfl rfl D3.out agg_polW rfl ?_))
  refine (HST.out w3 E3.out).mono ?_
  rintro e w4 ⟨rfl, e4⟩
  obtain ⟨SB, hSB⟩ : ∃ x, strR E rs qs = x := ⟨_, rfl⟩
  have HSB := hid hSB
  rw [hSB]
  have A4 := hid (A3.out.ext e4)
  have E4 := hid (E3.out.ext e4)
  have B4 := hid (B3.out.ext e4)
  have D4 := hid (D3.out.ext e4)
  have HA4 := hid (HA3.out.ext e4)
  clear hSB e4 A3 E3 B3 D3 HA3 HST
  go_wp2_with (first | (refine wpl_loadw rfl 24 (.tmp 2) rfl rfl B4.out agg_polW rfl ?_))
  refine (HC1.out w4 E4.out).mono ?_
  rintro e w5 ⟨rfl, e5⟩
  have A5 := hid (A4.out.ext e5)
  have E5 := hid (E4.out.ext e5)
  have B5 := hid (B4.out.ext e5)
  have D5 := hid (D4.out.ext e5)
  have HA5 := hid (HA4.out.ext e5)
  clear e5 A4 E4 B4 D4 HA4 HC1
  obtain ⟨F, hF⟩ : ∃ F, polE rs pn = F := ⟨_, rfl⟩
  obtain ⟨G, hG⟩ : ∃ G, polE qs qn = G := ⟨_, rfl⟩
  have HF := hid hF
  have HG := hid hG
  rw [hF]
  rw [hG] at HC2
  have HEE : Hid ((if F ≠ 0 then F else if G ≠ 0 then G else errW (rs ++ qs) (pn + qn)) = E) := hid (by rw [← HE.out]; unfold comE; rw [hF, hG])
  clear hF hG HE
  obtain ⟨M, hM⟩ : ∃ M, (if F ≠ 0 then F else G) = M := ⟨_, rfl⟩
  have HM := hid hM
  clear hM
  go_upto_if 48 with (fail)
  go_cut [10] (fun v wx => v = .int .i64 M ∧ Ext w5 wx)
  case first =>
    by_cases h0 : F = 0
    · subst h0
      have hm : G = M := by have := HM.out; rwa [if_neg (by simp)] at this
      subst hm
      go_wp2_with (first | (refine wpl_loadw rfl 24 (.tmp 3) rfl rfl D5.out agg_polW rfl ?_))
      refine (HC2.out w5 E5.out).mono ?_
      rintro e w6 ⟨rfl, e6⟩
      go_wp2_with fail
      go_meet
      exact ⟨rfl, e6⟩
    · have hm : F = M := by have := HM.out; rwa [if_pos h0] at this
      subst hm
      have q0 : (F == 0) = false := by simpa using h0
      rw [q0]
      go_wp2_with fail
      go_meet
      exact ⟨rfl, Ext.refl _⟩
  case rest =>
  obtain ⟨hm10, e6⟩ := hcut
  subst hm10
  have A6 := hid (A5.out.ext e6)
  have E6 := hid (E5.out.ext e6)
  have B6 := hid (B5.out.ext e6)
  have D6 := hid (D5.out.ext e6)
  have HA6 := hid (HA5.out.ext e6)
  clear e6 A5 E5 B5 D5 HA5 HC2
  go_upto_if 52 with (fail)
  go_cut [10, 11] (fun g v wx => ∃ xs b d, g = .int .i64 E ∧ v = .slice b xs.length d ∧ (E = 0 → AsksOk wx b xs.length d xs ∧ xs.map AskR.p = worldP (rs ++ qs)) ∧ Ext wc wx)
  case first =>
    by_cases h0 : M = 0
    · subst h0
      have hFG : F = 0 ∧ G = 0 := by
        have := HM.out
        by_cases h1 : F = 0
        · rw [if_neg (by simp [h1])] at this; exact ⟨h1, this⟩
        · rw [if_pos h1] at this; exact absurd this h1
      obtain ⟨hF0, hG0⟩ := hFG
      have hEW : errW (rs ++ qs) (pn + qn) = E := by
        have := HEE.out
        rwa [if_neg (by simp [hF0]), if_neg (by simp [hG0])] at this
      have hcz : polE (rs ++ qs) (pn + qn) = 0 := polE_cat (HF.out.trans hF0) (HG.out.trans hG0) (by omega)
      have HEW := hid hEW
      have HCZ := hid hcz
      have c0 := B6.out.cell' (i := 0) rfl
      have d0 := D6.out.cell' (i := 0) rfl
      clear hF0 hG0 hEW hcz
      go_wp2_with fail
      obtain ⟨gl, hgl⟩ : ∃ gl, wc.heap.size = gl := ⟨_, rfl⟩
      rw [hgl]
      generalize hwL : World.alloc wc _ = wL
      have bL : Blk wL gl [.slice pa pn pc, .slice qa qn qc] 22 := by rw [← hwL, ← hgl]; exact Blk.mk_alloc rfl rfl
      have eL : Ext wc wL := by rw [← hwL]; exact (Ext.refl wc).alloc _
      have EL := hid eL
      have PL := hid (HP.out.ext (E6.out.ext eL))
      have QL := hid (HQ.out.ext (E6.out.ext eL))
      have BL := hid bL
      clear hwL bL eL hgl c0 d0
      refine (concatN_c [(pa, pc, rs), (qa, qc, qs)] gl 2 2 wL rfl (by omega) (by omega) ?hg ?hc ?hl).mono ?_
      case hg =>
        intro k it hk
        rcases (show k = 0 ∨ k = 1 ∨ 2 ≤ k by omega) with rfl | rfl | h
        · simp at hk; subst hk; unfold itemR; rw [PL.out.hl]; exact BL.out.cell' (i := 0) rfl
        · simp at hk; subst hk; unfold itemR; rw [QL.out.hl]; exact BL.out.cell' (i := 1) rfl
        · rw [List.getElem?_eq_none (by simpa using h)] at hk; cases hk
      case hc =>
        intro it hit
        simp only [List.mem_cons, List.not_mem_nil, or_false] at hit
        rcases hit with rfl | rfl
        · exact PL.out.cell
        · exact QL.out.cell
      case hl =>
        rw [cat_two, List.length_append, PL.out.hl, QL.out.hl]; omega
      rintro e w8 ⟨v, rfl, own, e8⟩
      rw [cat_two] at own
      have hll : (rs ++ qs).length = pn + qn := by rw [List.length_append, PL.out.hl, QL.out.hl]
      rw [hll] at own
      obtain ⟨ca, cc, rfl, hac, _, hcell⟩ := own_cellsA own
      have PO : Hid (PolOk w8 ca (pn + qn) cc (rs ++ qs)) := hid ⟨hll, hac, by omega, hcell, fun r hr => by
        rcases List.mem_append.1 hr with hr | hr
        · exact (PL.out.ok r hr).ext e8
        · exact (QL.out.ok r hr).ext e8⟩
      have E8 := hid (EL.out.ext e8)
      have HWO := hid (rWorld_c ca (pn + qn) cc (rs ++ qs) w8 PO.out HCZ.out)
      clear own hcell e8 PL QL BL EL hll PO
      go_wp2_with fail
      refine HWO.out.mono ?_
      rintro e w9 (⟨hbig, rfl, e9⟩ | ⟨hle, v2, ys, rfl, hys, hyp, e9⟩)
      · have hE5 : (5 : Int) = E := by
          have := HEW.out
          unfold errW at this
          rwa [if_neg (by rw [HCZ.out]; simp), if_neg hbig] at this
        subst hE5
        have E9 := hid (E8.out.ext e9)
        clear hbig e9 HWO HEW HEE
        go_wp2_with fail
        go_meet
        exact ⟨[], none, 0, rfl, rfl, fun h => absurd h (by decide), E9.out⟩
      · have hE0 : (0 : Int) = E := by
          have := HEW.out
          unfold errW at this
          rwa [if_neg (by rw [HCZ.out]; simp), if_pos hle] at this
        subst hE0
        obtain ⟨b, d, rfl, hok⟩ := hys.slice
        have OKY := hid hok
        have HYP := hid hyp
        have E9 := hid (E8.out.ext e9)
        clear hle e9 HWO HEW HEE hys hok hyp
        go_wp2_with fail
        go_meet
        exact ⟨ys, b, d, rfl, rfl, fun _ => ⟨OKY.out, HYP.out⟩, E9.out⟩
    · have q0 : (M == 0) = false := by simpa using h0
      have hEM : M = E := by
        have h1 := HM.out
        have h2 := HEE.out
        by_cases hf : F = 0
        · rw [if_neg (by simp [hf])] at h1 h2
          rw [← h1] at h0 ⊢
          rwa [if_pos h0] at h2
        · rw [if_pos hf] at h1 h2; rw [← h1, ← h2]
      subst hEM
      rw [q0]
      go_wp2_with fail
      go_meet
      exact ⟨[], none, 0, rfl, rfl, fun h => absurd h h0, Ext.refl _⟩
  case rest =>
  obtain ⟨xs, b, d, hg10, hg11, hxs, e7⟩ := hcut
  subst hg10 hg11
  obtain ⟨n, hn⟩ : ∃ n, xs.length = n := ⟨_, rfl⟩
  have hxs2 : E = 0 → AsksOk wc b n d xs ∧ xs.map AskR.p = worldP (rs ++ qs) := fun h => by rw [← hn]; exact hxs h
  have HXS := hid hxs2
  rw [hn]
  have A7 := hid (A6.out.ext e7)
  have E7 := hid (E6.out.ext e7)
  have B7 := hid (B6.out.ext e7)
  have D7 := hid (D6.out.ext e7)
  have HA7 := hid (HA6.out.ext e7)
  have s0 : (E == E) = true := beq_self_eq_true _
  clear e7 A6 E6 B6 D6 HA6 hxs hxs2
  by_cases h0 : E = 0
  · subst h0
    obtain ⟨hok, hP⟩ := HXS.out (by trivial)
    have hzz : (∀ r ∈ rs, ruleE r = 0) ∧ (∀ r ∈ qs, ruleE r = 0) := by
      have := HEE.out
      by_cases h1 : F = 0
      · rw [if_neg (by simp [h1])] at this
        by_cases h2 : G = 0
        · exact ⟨(polE_zero (HF.out.trans h1)).2, (polE_zero (HG.out.trans h2)).2⟩
        · rw [if_pos h2] at this; exact absurd this h2
      · rw [if_pos h1] at this; exact absurd this h1
    have HZ1 := hid hzz.1
    have HZ2 := hid hzz.2
    have HOKP := hid (worldP_ok (rs := rs ++ qs) (fun r hr => by
      rcases List.mem_append.1 hr with hr | hr
      · exact hzz.1 r hr
      · exact hzz.2 r hr))
    have AOK := hid hok
    have HPX := hid hP
    have hn63 : n ≤ 100000 := by
      have hEW : errW (rs ++ qs) (pn + qn) = 0 := by
        have := HEE.out
        by_cases h1 : F = 0
        · rw [if_neg (by simp [h1])] at this
          by_cases h2 : G = 0
          · rwa [if_neg (by simp [h2])] at this
          · rw [if_pos h2] at this; exact absurd this h2
        · rw [if_pos h1] at this; exact absurd this h1
      have := (errW_zero hEW).2
      rw [← worldP_len, ← hP, List.length_map, hn] at this
      exact this
    clear hok hP hzz HXS HEE HF HG HM
    go_wp2
    go_loopw [14, 15, 90] (fun st fi i wr => ∃ (k : Nat) (fo : Option Nat), k ≤ n ∧ i = .int .i64 (k : Int) ∧ st = .bool (((worldP (rs ++ qs)).take k).all (strP rs qs)) ∧ fi = .int .i64 (foI fo) ∧ (fo = none → ∀ p ∈ (worldP (rs ++ qs)).take k, difP rs qs p = false) ∧ (∀ m, fo = some m → m < k ∧ ∃ x, (worldP (rs ++ qs))[m]? = some x ∧ difP rs qs x = true ∧ ∀ p ∈ (worldP (rs ++ qs)).take m, difP rs qs p = false) ∧ Ext wc wr) (fun _ _ i _ => n - (intOf i).toNat)
    case atStart => exact ⟨0, none, by omega, rfl, rfl, rfl, (fun _ p hp => by simp at hp), (fun m hm => by cases hm), Ext.refl _⟩
    case round =>
      obtain ⟨k, fo, hk, rfl, rfl, rfl, hfn, hfs, e2⟩ := hrel
      have E2 := hid e2
      have HFN := hid hfn
      have HFS := hid hfs
      clear e2 hfn hfs
      by_cases hlt : k < n
      · obtain ⟨x, hxk⟩ : ∃ x, xs[k]? = some x := ⟨xs[k]'(by omega), by simp⟩
        have hpk : (worldP (rs ++ qs))[k]? = some x.p := by rw [← HPX.out, List.getElem?_map, hxk]; rfl
        obtain ⟨T, hT, hTb⟩ := HOKP.out _ (List.mem_of_getElem? hpk)
        obtain ⟨A, rfl, hca⟩ := (AOK.out.ext E2.out).at hxk
        have HCA := hid hca
        have HXO := hid ((AOK.out.ext E2.out).ok x (List.mem_of_getElem? hxk))
        have HXL := hid (AskR.len HXO.out)
        have HPK := hid hpk
        have HT := hid (show x.time = (T : Int) from hT)
        have o1 := askW_one x
        clear hca hxk hpk hT
        go_wp2_with (first | (refine wpl_run rfl (exec_index (i := k) rfl rfl rfl Tryz.underlying26 size_ask hlt _) ?_) | (refine wpl_run rfl (exec_load_at rfl rfl HCA.out HAG.out HXL.out) ?_) | (refine wpl_storew rfl _ (.tmp 17) _ rfl rfl rfl (Blk.mk_alloc (vs := zeroAskV) rfl rfl) HAG.out rfl HXL.out o1 ?_))
        intro wB bB uB
        have eB : Ext wr wB := uB.ext ((Ext.refl wr).alloc _) (Nat.le_refl _)
        have BX := hid bB
        have EB := hid (E2.out.ext eB)
        have HXB := hid (HXO.out.ext eB)
        clear bB uB eB HCA E2 HXO
        generalize wr.heap.size = gr at *
        have EW := hid (E7.out.ext EB.out)
        have PB := hid (HP.out.ext EW.out)
        have QB := hid (HQ.out.ext EW.out)
        have BB := hid (B7.out.ext EB.out)
        have DB' := hid (D7.out.ext EB.out)
        have hD1 := hid (fun W (h : Ext wB W) => rdecideT_c pa pn pc rs x T W (PB.out.ext h) (HXB.out.ext h) HZ1.out HT.out hTb)
        have hD2 := hid (fun W (h : Ext wB W) => rdecideT_c qa qn qc qs x T W (QB.out.ext h) (HXB.out.ext h) HZ2.out HT.out hTb)
        obtain ⟨d1, hd1⟩ : ∃ d, decideD x rs = d := ⟨_, rfl⟩
        obtain ⟨d2, hd2⟩ : ∃ d, decideD x qs = d := ⟨_, rfl⟩
        have HDIF := hid (difP_eq rs qs x d1 d2 hd1 hd2)
        have HSTR := hid (strP_eq rs qs x d1 d2 hd1 hd2)
        rw [hd1] at hD1
        rw [hd2] at hD2
        have hlv := HXL.out
        clear hd1 hd2
        go_upto_region 25 with (fail)
        obtain ⟨C, hC⟩ : ∃ C : World → Prop, C = fun w' => Ext wB w' := ⟨_, rfl⟩
        have hC0 : ∀ w', C w' ↔ Ext wB w' := fun w' => by rw [hC]
        clear hC
        have HCC := hid hC0
        clear hC0
        have hCx : ∀ w w', C w → Ext w w' → C w' := fun w w' h1 h2 => (HCC.out w').2 (((HCC.out w).1 h1).ext h2)
        refine wp_region_al (C := C) 8 [(6, zeroDec.v, 52), (7, zeroDec.v, 52)] wB.heap.size (by kernel_rfl) (by kernel_rfl) (by kernel_rfl)
          ((HCC.out _).2 (Ext.refl wB).drew) (fun w o h => hCx _ _ h ((Ext.refl w).alloc o)) (fun w h => ((HCC.out w).1 h).size) ?_ ?_
        · intro x hx
          simp only [List.mem_cons, List.not_mem_nil, or_false] at hx
          rcases hx with rfl | rfl
          · exact ⟨_, rfl, rfl, fun _ _ => by rfl⟩
          · exact ⟨_, rfl, rfl, fun _ _ => by rfl⟩
        simp only [List.take_succ_cons, List.take_zero, List.drop_succ_cons, List.drop_zero]
        refine wpQE_do rfl rfl _ (yieldsE_loadw _ _ rfl rfl (fun w1 h => BB.out.ext ((HCC.out w1).1 h)) agg_polW rfl) ?_
        simp only [Act.put, List.setIfInBounds_toArray, List.set_cons_succ, List.set_cons_zero]
        refine wpQE_do rfl rfl _ (yieldsE_loadw _ _ rfl rfl (fun w1 h => BX.out.ext ((HCC.out w1).1 h)) HAG.out hlv) ?_
        simp only [Act.put, List.setIfInBounds_toArray, List.set_cons_succ, List.set_cons_zero]
        refine wpQE_do rfl rfl _ (yieldsE_call rfl Tryz.call15 (by simp [Act.eval]) (fun w h => hD1.out w ((HCC.out w).1 h)) hCx) ?_
        simp only [Act.put, List.setIfInBounds_toArray, List.set_cons_succ, List.set_cons_zero]
        refine wpQE_do rfl rfl _ (yieldsE_loadw _ _ rfl rfl (fun w1 h => DB'.out.ext ((HCC.out w1).1 h)) agg_polW rfl) ?_
        simp only [Act.put, List.setIfInBounds_toArray, List.set_cons_succ, List.set_cons_zero]
        refine wpQE_do rfl rfl _ (yieldsE_loadw _ _ rfl rfl (fun w1 h => BX.out.ext ((HCC.out w1).1 h)) HAG.out hlv) ?_
        simp only [Act.put, List.setIfInBounds_toArray, List.set_cons_succ, List.set_cons_zero]
        refine wpQE_do rfl rfl _ (yieldsE_call rfl Tryz.call15 (by simp [Act.eval]) (fun w h => hD2.out w ((HCC.out w).1 h)) hCx) ?_
        simp only [Act.put, List.setIfInBounds_toArray, List.set_cons_succ, List.set_cons_zero]
        refine wpQE_al rfl ?_
        refine wpQE_al rfl ?_
        refine wpQE_nil ?_
        intro gs w2 hw2 hbl hdis
        have hb6 := hbl _ (List.mem_cons_self)
        have hb7 := hbl _ (List.mem_cons_of_mem _ List.mem_cons_self)
        have hne := hdis _ (List.mem_cons_self) _ (List.mem_cons_of_mem _ List.mem_cons_self) (by simp)
        simp only at hb6 hb7 hne
        simp only [putAl, dstOf, ptrOf, Act.put, List.getElem?_toArray, List.getElem?_cons_succ, List.getElem?_cons_zero, Option.bind_some, List.setIfInBounds_toArray, List.set_cons_succ, List.set_cons_zero]
        generalize gs 6 = gk at *
        generalize gs 7 = gv at *
        have e2 := (HCC.out w2).1 hw2
        have hgw1 : wB.heap.size ≤ gk := hb6.2
        have hgw2 : wB.heap.size ≤ gv := hb7.2
        have K2 := hid hb6.1
        have V2 := hid hb7.1
        have E2B := hid e2
        clear hbl hdis hCx HCC hw2 hb6 hb7 e2 C
        refine wpl_storew rfl _ _ _ rfl rfl rfl K2.out agg_dec rfl (DecR.len d1) (decV_one d1) ?_
        intro w3 b3 u3
        have E3B := hid (u3.ext E2B.out hgw1)
        have V3 := hid (V2.out.upd u3 (by omega))
        have K3 := hid b3
        clear b3 u3 K2 V2 E2B
        refine wpl_storew rfl _ _ _ rfl rfl rfl V3.out agg_dec rfl (DecR.len d2) (decV_one d2) ?_
        intro w4 b4 u4
        have E4B := hid (u4.ext E3B.out hgw2)
        have K4 := hid (K3.out.upd u4 (by omega))
        have V4 := hid b4
        clear b4 u4 E3B V3 K3
        refine wpList_nil ?_
        have k0 := K4.out.cell' (i := 0) rfl
        have k2 := K4.out.cell' (i := 2) rfl
        have k3 := K4.out.cell' (i := 3) rfl
        have v0 := V4.out.cell' (i := 0) rfl
        have v2 := V4.out.cell' (i := 2) rfl
        have v3 := V4.out.cell' (i := 3) rfl
        obtain ⟨S, hS⟩ : ∃ S, ((worldP (rs ++ qs)).take k).all (strP rs qs) = S := ⟨_, rfl⟩
        have HS := hid hS
        rw [hS]
        have HSN : Hid (((worldP (rs ++ qs)).take (k + 1)).all (strP rs qs) = (S && strP rs qs x.p)) := hid (by rw [List.take_add_one, HPK.out, List.all_append, HS.out]; simp)
        obtain ⟨f', hf'⟩ : ∃ f', (match fo with | some m => some m | none => if difP rs qs x.p then some k else none) = f' := ⟨_, rfl⟩
        have HF' := hid hf'
        clear hS hf'
        go_upto_region 26 with (fail)
        try dsimp only
        try simp only [Act.put, List.setIfInBounds_toArray, List.set_cons_succ, List.set_cons_zero]
        go_cut [123] (fun v wx => v = .bool (fo.isNone && difP rs qs x.p) ∧ wx = w4)
        case first =>
          cases fo with
          | some m =>
            have hneg : decide (foI (some m) < 0) = false := decide_eq_false (by show ¬ ((m : Int) < 0); omega)
            go_wp2
            go_meet
            exact ⟨rfl, rfl⟩
          | none =>
            have hneg : decide (foI none < 0) = true := rfl
            cases h1 : (d1.al == d2.al) with
            | false =>
              have n1 : (d1.al != d2.al) = true := by unfold bne; rw [h1]; rfl
              have hv : difP rs qs x.p = true := by rw [HDIF.out]; unfold sameD; rw [h1]; rfl
              have HV := hid hv
              clear hv HDIF
              go_wp2
              go_meet
              exact ⟨by rw [HV.out]; first | rfl | simp_all, rfl⟩
            | true =>
              have n1 : (d1.al != d2.al) = false := by unfold bne; rw [h1]; rfl
              cases h2 : (d1.nd == d2.nd) with
              | false =>
                have n2 : (d1.nd != d2.nd) = true := by unfold bne; rw [h2]; rfl
                have hv : difP rs qs x.p = true := by rw [HDIF.out]; unfold sameD; rw [h1, h2]; rfl
                have HV := hid hv
                clear hv HDIF
                go_wp2
                go_meet
                exact ⟨by rw [HV.out]; first | rfl | simp_all, rfl⟩
              | true =>
                have n2 : (d1.nd != d2.nd) = false := by unfold bne; rw [h2]; rfl
                cases h3 : (d1.ow.toList == d2.ow.toList) with
                | false =>
                  have n3 : (d1.ow.toList != d2.ow.toList) = true := by unfold bne; rw [h3]; rfl
                  have hv : difP rs qs x.p = true := by rw [HDIF.out]; unfold sameD; rw [h1, h2, h3]; rfl
                  have HV := hid hv
                  clear hv HDIF
                  go_wp2
                  go_meet
                  exact ⟨by rw [HV.out]; first | rfl | simp_all, rfl⟩
                | true =>
                  have n3 : (d1.ow.toList != d2.ow.toList) = false := by unfold bne; rw [h3]; rfl
                  have hv : difP rs qs x.p = false := by rw [HDIF.out]; unfold sameD; rw [h1, h2, h3]; rfl
                  have HV := hid hv
                  clear hv HDIF
                  go_wp2
                  go_meet
                  exact ⟨by rw [HV.out]; first | rfl | simp_all, rfl⟩
        case rest =>
        obtain ⟨hv123, hww⟩ := hcut
        subst hv123
        subst hww
        clear HF' f' hD1 hD2 HDIF o1 hlv BX PB QB BB DB' HXB
        go_upto_if 123 with (fail)
        go_cut [15] (fun v wx => ∃ fo' : Option Nat, v = .int .i64 (foI fo') ∧ (fo' = none → ∀ p ∈ (worldP (rs ++ qs)).take (k + 1), difP rs qs p = false) ∧ (∀ m, fo' = some m → m < k + 1 ∧ ∃ x, (worldP (rs ++ qs))[m]? = some x ∧ difP rs qs x = true ∧ ∀ p ∈ (worldP (rs ++ qs)).take m, difP rs qs p = false) ∧ wx = wc)
        case first =>
          cases fo with
          | some m =>
            have N1 : Hid (∀ m', some m = some m' → m' < k + 1 ∧ ∃ x, (worldP (rs ++ qs))[m']? = some x ∧ difP rs qs x = true ∧ ∀ p ∈ (worldP (rs ++ qs)).take m', difP rs qs p = false) := hid (fun m' hm' => by
              obtain ⟨h1, h2⟩ := HFS.out m' hm'
              exact ⟨by omega, h2⟩)
            rw [show ((some m).isNone && difP rs qs x.p) = false from rfl]
            go_wp2_with fail
            go_meet
            exact ⟨some m, rfl, (fun h => by cases h), N1.out, rfl⟩
          | none =>
            cases hdd : difP rs qs x.p with
            | true =>
              have N1 : Hid (∀ m', some k = some m' → m' < k + 1 ∧ ∃ x, (worldP (rs ++ qs))[m']? = some x ∧ difP rs qs x = true ∧ ∀ p ∈ (worldP (rs ++ qs)).take m', difP rs qs p = false) := hid (fun m' hm' => by
                injection hm' with hm'
                subst hm'
                exact ⟨by omega, x.p, HPK.out, hdd, HFN.out rfl⟩)
              rw [show ((none : Option Nat).isNone && true) = true from rfl]
              clear hdd
              go_wp2_with fail
              go_meet
              exact ⟨some k, rfl, (fun h => by cases h), N1.out, rfl⟩
            | false =>
              have N0 := hid (take_false HPK.out hdd (HFN.out rfl))
              rw [show ((none : Option Nat).isNone && false) = false from rfl]
              clear hdd
              go_wp2_with fail
              go_meet
              exact ⟨none, rfl, fun _ => N0.out, (fun m h => by cases h), rfl⟩
        case rest =>
        obtain ⟨fo', hfi, hfn, hfs, hww⟩ := hcut
        subst hfi
        subst hww
        have HFN2 := hid hfn
        have HFS2 := hid hfs
        have EE := hid (EB.out.ext E4B.out)
        have hgk : gk < wc.heap.size := K4.out.lt
        clear hfn hfs HFN HFS EB EW
        cases S with
        | false =>
          have HSV : Hid (((worldP (rs ++ qs)).take (k + 1)).all (strP rs qs) = false) := hid (by rw [HSN.out, HSTR.out]; rfl)
          clear HSN HSTR HS
          go_wp2
          go_roundw
          case rel => exact ⟨k + 1, fo', by omega, by go_num, by rw [HSV.out], rfl, HFN2.out, HFS2.out, EE.out⟩
          case measure => simp [intOf]; omega
        | true =>
          cases h1 : d1.al with
          | false =>
            rw [h1] at k0
            have HSV : Hid (((worldP (rs ++ qs)).take (k + 1)).all (strP rs qs) = true) := hid (by rw [HSN.out, HSTR.out]; rw [h1]; rfl)
            clear HSN HSTR HS
            go_wp2
            go_roundw
            case rel => exact ⟨k + 1, fo', by omega, by go_num, by rw [HSV.out], rfl, HFN2.out, HFS2.out, EE.out⟩
            case measure => simp [intOf]; omega
          | true =>
            rw [h1] at k0
            cases h2 : d2.al with
            | false =>
              rw [h2] at v0
              have HSV : Hid (((worldP (rs ++ qs)).take (k + 1)).all (strP rs qs) = false) := hid (by rw [HSN.out, HSTR.out]; rw [h1, h2]; rfl)
              clear HSN HSTR HS
              go_wp2
              go_roundw
              case rel => exact ⟨k + 1, fo', by omega, by go_num, by rw [HSV.out], rfl, HFN2.out, HFS2.out, EE.out⟩
              case measure => simp [intOf]; omega
            | true =>
              rw [h2] at v0
              by_cases h3 : d1.nd < d2.nd
              · have dz : decide (d1.nd < d2.nd) = true := decide_eq_true h3
                have dz2 : decide (d2.nd ≤ d1.nd) = false := decide_eq_false (by omega)
                have HSV : Hid (((worldP (rs ++ qs)).take (k + 1)).all (strP rs qs) = false) := hid (by rw [HSN.out, HSTR.out]; rw [h1, h2, dz]; rfl)
                clear HSN HSTR HS
                go_wp2
                go_roundw
                case rel => exact ⟨k + 1, fo', by omega, by go_num, by rw [HSV.out], rfl, HFN2.out, HFS2.out, EE.out⟩
                case measure => simp [intOf]; omega
              · have dz : decide (d1.nd < d2.nd) = false := decide_eq_false h3
                have dz2 : decide (d2.nd ≤ d1.nd) = true := decide_eq_true (by omega)
                have HSV : Hid (((worldP (rs ++ qs)).take (k + 1)).all (strP rs qs) = true) := hid (by rw [HSN.out, HSTR.out]; rw [h1, h2, dz]; rfl)
                clear HSN HSTR HS
                go_wp2
                go_roundw
                case rel => exact ⟨k + 1, fo', by omega, by go_num, by rw [HSV.out], rfl, HFN2.out, HFS2.out, EE.out⟩
                case measure => simp [intOf]; omega
      · obtain rfl : k = n := by omega
        have htk : (worldP (rs ++ qs)).take k = worldP (rs ++ qs) := List.take_of_length_le (by rw [← HPX.out, List.length_map]; omega)
        have hsv : SB = (worldP (rs ++ qs)).all (strP rs qs) := by rw [← HSB.out]; unfold strR; rw [if_pos rfl]
        rw [htk, ← hsv]
        have hfirst : firstD rs qs = fo.bind (fun m => (worldP (rs ++ qs))[m]?) := by
          cases fo with
          | none =>
            rw [Option.bind_none]
            unfold firstD
            rw [List.find?_eq_none]
            intro p hp
            rw [HFN.out rfl p (by rw [htk]; exact hp)]
            simp
          | some m =>
            obtain ⟨_, y, hy, hd, hb⟩ := HFS.out m rfl
            rw [Option.bind_some, hy]
            exact find_at hy hd hb
        have A8 := hid (A7.out.ext E2.out)
        have HA8 := hid (HA7.out.ext E2.out)
        have E8 := hid (E7.out.ext E2.out)
        clear htk hsv
        have n0 : (SB != SB) = false := by cases SB <;> rfl
        have e0 : (SB == SB) = true := by cases SB <;> rfl
        cases fo with
        | none =>
          rw [Option.bind_none] at hfirst
          have hdr : difR 0 rs qs = (false, zeroP) := by unfold difR; rw [if_pos rfl, hfirst]
          have hdb : DB = false := by rw [← HDB.out, hdr]
          subst hdb
          have hap : a.p = zeroA.p := by rw [HAP.out, hdr]; rfl
          have HAPZ := hid hap
          have hneg : decide ((0 : Int) ≤ foI none) = false := rfl
          have hal := HAL.out
          clear hdr hap HDB HAP HSB HFN HFS hfirst
          go_upto_region 32 with (fail)
          obtain ⟨C, hC⟩ : ∃ C : World → Prop, C = fun w' => Ext wr w' := ⟨_, rfl⟩
          have hC0 : ∀ w', C w' ↔ Ext wr w' := fun w' => by rw [hC]
          clear hC
          have HCC := hid hC0
          clear hC0
          have hCx : ∀ w w', C w → Ext w w' → C w' := fun w w' h1 h2 => (HCC.out w').2 (((HCC.out w).1 h1).ext h2)
          have hCA : C wr := (HCC.out _).2 (Ext.refl wr)
          refine wp_region_held_drew (S := C) (by kernel_rfl) (hCx _ _ hCA (Ext.refl _).drew) (fun hS0 => ?_)
          refine held_take 0 (v := ?tv1) rfl (by kernel_rfl) (by kernel_rfl) (by kernel_rfl) (fun _ _ _ h => h) (.inl ⟨rfl, ?ty1⟩) hS0 ?tr1
          case ty1 => (intro _ _; go_simp; try with_reducible rfl)
          case tr1 =>
          simp only [Act.put, List.setIfInBounds_toArray, List.set_cons_succ, List.set_cons_zero]
          refine held_take 1 (v := ?tv2) rfl (by kernel_rfl) (by kernel_rfl) (by kernel_rfl) (fun _ _ _ h => h) (.inl ⟨rfl, ?ty2⟩) hS0 ?tr2
          case ty2 => (intro _ _; go_simp; try with_reducible rfl)
          case tr2 =>
          simp only [Act.put, List.setIfInBounds_toArray, List.set_cons_succ, List.set_cons_zero]
          refine held_take 2 (v := ?tv3) rfl (by kernel_rfl) (by kernel_rfl) (by kernel_rfl) (fun _ _ _ h => h) (.inl ⟨rfl, ?ty3⟩) hS0 ?tr3
          case ty3 => (intro _ _; go_simp; try with_reducible rfl)
          case tr3 =>
          simp only [Act.put, List.setIfInBounds_toArray, List.set_cons_succ, List.set_cons_zero]
          refine held_take 3 (v := _) rfl (by kernel_rfl) (by kernel_rfl) (by kernel_rfl) (fun _ _ _ h => h) (yieldsI_loadw rfl 40 _ rfl rfl (fun w1 h => A8.out.ext ((HCC.out w1).1 h)) HAG.out hal) hS0 ?_
          simp only [Act.put, List.setIfInBounds_toArray, List.set_cons_succ, List.set_cons_zero]
          refine held_take 4 (v := _) rfl (by kernel_rfl) (by kernel_rfl) (by kernel_rfl) (fun _ _ _ h => h) (yieldsI_run rfl (fun w1 _ => exec_ask0 rfl w1)) hS0 ?_
          simp only [Act.put, List.setIfInBounds_toArray, List.set_cons_succ, List.set_cons_zero]
          have hx0 := (HCC.out _).1 hS0
          refine held_one (i := 5) (by kernel_rfl) rfl ?_
          intro Q' hQ
          go_wp2_with fail
          refine ((sameAsk_c a zeroA _ (HA8.out.ext hx0) (zeroA_ok _) HAPZ.out)).mono ?_
          rintro e wz ⟨rfl, eq9⟩
          have hS9 := hCx _ _ hS0 eq9
          go_wp2_with fail
          refine hQ _ _ hS9 ?_
          clear hQ Q' hS0 eq9
          have hS0 := hS9
          clear hS9
          try dsimp only
          try simp only [Act.put, List.setIfInBounds_toArray, List.set_cons_succ, List.set_cons_zero]
          refine held_take 6 (v := ?tv4) rfl (by kernel_rfl) (by kernel_rfl) (by kernel_rfl) (fun _ _ _ h => h) (.inl ⟨rfl, ?ty4⟩) hS0 ?tr4
          case ty4 => (intro _ _; go_simp; try with_reducible rfl)
          case tr4 =>
          simp only [Act.put, List.setIfInBounds_toArray, List.set_cons_succ, List.set_cons_zero]
          refine held_take 7 (v := ?tv5) rfl (by kernel_rfl) (by kernel_rfl) (by kernel_rfl) (fun _ _ _ h => h) (.inl ⟨rfl, ?ty5⟩) hS0 ?tr5
          case ty5 => (intro _ _; go_simp; try with_reducible rfl)
          case tr5 =>
          simp only [Act.put, List.setIfInBounds_toArray, List.set_cons_succ, List.set_cons_zero]
          refine held_take 8 (v := undef) rfl (by kernel_rfl) (by kernel_rfl) (by kernel_rfl) (fun _ _ _ h => h) (.inr ⟨rfl, rfl⟩) hS0 ?_
          simp only [Act.put, List.setIfInBounds_toArray, List.set_cons_succ, List.set_cons_zero]
          refine held_take 9 (v := undef) rfl (by kernel_rfl) (by kernel_rfl) (by kernel_rfl) (fun _ _ _ h => h) (.inr ⟨rfl, rfl⟩) hS0 ?_
          simp only [Act.put, List.setIfInBounds_toArray, List.set_cons_succ, List.set_cons_zero]
          refine held_take 10 (v := undef) rfl (by kernel_rfl) (by kernel_rfl) (by kernel_rfl) (fun _ _ _ h => h) (.inr ⟨rfl, rfl⟩) hS0 ?_
          simp only [Act.put, List.setIfInBounds_toArray, List.set_cons_succ, List.set_cons_zero]
          refine held_take 11 (v := undef) rfl (by kernel_rfl) (by kernel_rfl) (by kernel_rfl) (fun _ _ _ h => h) (.inr ⟨rfl, rfl⟩) hS0 ?_
          simp only [Act.put, List.setIfInBounds_toArray, List.set_cons_succ, List.set_cons_zero]
          refine held_take 12 (v := undef) rfl (by kernel_rfl) (by kernel_rfl) (by kernel_rfl) (fun _ _ _ h => h) (.inr ⟨rfl, rfl⟩) hS0 ?_
          simp only [Act.put, List.setIfInBounds_toArray, List.set_cons_succ, List.set_cons_zero]
          refine held_take 13 (v := undef) rfl (by kernel_rfl) (by kernel_rfl) (by kernel_rfl) (fun _ _ _ h => h) (.inr ⟨rfl, rfl⟩) hS0 ?_
          simp only [Act.put, List.setIfInBounds_toArray, List.set_cons_succ, List.set_cons_zero]
          refine held_take 14 (v := undef) rfl (by kernel_rfl) (by kernel_rfl) (by kernel_rfl) (fun _ _ _ h => h) (.inr ⟨rfl, rfl⟩) hS0 ?_
          simp only [Act.put, List.setIfInBounds_toArray, List.set_cons_succ, List.set_cons_zero]
          refine held_take 15 (v := undef) rfl (by kernel_rfl) (by kernel_rfl) (by kernel_rfl) (fun _ _ _ h => h) (.inr ⟨rfl, rfl⟩) hS0 ?_
          simp only [Act.put, List.setIfInBounds_toArray, List.set_cons_succ, List.set_cons_zero]
          refine held_take 16 (v := undef) rfl (by kernel_rfl) (by kernel_rfl) (by kernel_rfl) (fun _ _ _ h => h) (.inr ⟨rfl, rfl⟩) hS0 ?_
          simp only [Act.put, List.setIfInBounds_toArray, List.set_cons_succ, List.set_cons_zero]
          refine held_take 17 (v := ?tv6) rfl (by kernel_rfl) (by kernel_rfl) (by kernel_rfl) (fun _ _ _ h => h) (.inl ⟨rfl, ?ty6⟩) hS0 ?tr6
          case ty6 => (intro _ _; go_simp; try with_reducible rfl)
          case tr6 =>
          simp only [Act.put, List.setIfInBounds_toArray, List.set_cons_succ, List.set_cons_zero]
          refine held_take 18 (v := ?tv7) rfl (by kernel_rfl) (by kernel_rfl) (by kernel_rfl) (fun _ _ _ h => h) (.inl ⟨rfl, ?ty7⟩) hS0 ?tr7
          case ty7 => (intro _ _; go_simp; try with_reducible rfl)
          case tr7 =>
          simp only [Act.put, List.setIfInBounds_toArray, List.set_cons_succ, List.set_cons_zero]
          refine wpAnyH_done (by kernel_rfl) ?_ _
          have EZ := hid (E8.out.ext ((HCC.out _).1 hS0))
          clear hS0 hCA hCx HCC hx0
          go_wp2
          go_ret
          exact ⟨rfl, EZ.out⟩
        | some m =>
          obtain ⟨hmk, y, hy, hd, hb⟩ := HFS.out m rfl
          rw [Option.bind_some, hy] at hfirst
          have hdr : difR 0 rs qs = (true, y) := by unfold difR; rw [if_pos rfl, hfirst]
          have hdb : DB = true := by rw [← HDB.out, hdr]
          subst hdb
          obtain ⟨x, hxm⟩ : ∃ x, xs[m]? = some x := ⟨xs[m]'(by omega), by simp⟩
          have hxy : x.p = y := by
            have h9 := hy
            rw [← HPX.out, List.getElem?_map, hxm] at h9
            injection h9
          have hap : a.p = x.p := by rw [HAP.out, hdr, hxy]
          have HAPZ := hid hap
          have hneg : decide ((0 : Int) ≤ foI (some m)) = true := decide_eq_true (by show (0 : Int) ≤ (m : Int); omega)
          obtain ⟨A, rfl, hca⟩ := (AOK.out.ext E2.out).at hxm
          have HCA := hid hca
          have HXO := hid ((AOK.out.ext E2.out).ok x (List.mem_of_getElem? hxm))
          have HXL := hid (AskR.len HXO.out)
          have hal := HAL.out
          have hxl := HXL.out
          rw [show foI (some m) = (m : Int) from rfl] at hneg ⊢
          clear hdr hap HDB HAP HSB HFN HFS hfirst hca hxm hxy hy hd hb
          go_upto_region 32 with (fail)
          obtain ⟨C, hC⟩ : ∃ C : World → Prop, C = fun w' => Ext wr w' := ⟨_, rfl⟩
          have hC0 : ∀ w', C w' ↔ Ext wr w' := fun w' => by rw [hC]
          clear hC
          have HCC := hid hC0
          clear hC0
          have hCx : ∀ w w', C w → Ext w w' → C w' := fun w w' h1 h2 => (HCC.out w').2 (((HCC.out w).1 h1).ext h2)
          have hCA : C wr := (HCC.out _).2 (Ext.refl wr)
          refine wp_region_held_drew (S := C) (by kernel_rfl) (hCx _ _ hCA (Ext.refl _).drew) (fun hS0 => ?_)
          refine held_take 0 (v := ?tv8) rfl (by kernel_rfl) (by kernel_rfl) (by kernel_rfl) (fun _ _ _ h => h) (.inl ⟨rfl, ?ty8⟩) hS0 ?tr8
          case ty8 => (intro _ _; go_simp; try with_reducible rfl)
          case tr8 =>
          simp only [Act.put, List.setIfInBounds_toArray, List.set_cons_succ, List.set_cons_zero]
          refine held_take 1 (v := ?tv9) rfl (by kernel_rfl) (by kernel_rfl) (by kernel_rfl) (fun _ _ _ h => h) (.inl ⟨rfl, ?ty9⟩) hS0 ?tr9
          case ty9 => (intro _ _; go_simp; try with_reducible rfl)
          case tr9 =>
          simp only [Act.put, List.setIfInBounds_toArray, List.set_cons_succ, List.set_cons_zero]
          refine held_take 2 (v := ?tv10) rfl (by kernel_rfl) (by kernel_rfl) (by kernel_rfl) (fun _ _ _ h => h) (.inl ⟨rfl, ?ty10⟩) hS0 ?tr10
          case ty10 => (intro _ _; go_simp; try with_reducible rfl)
          case tr10 =>
          simp only [Act.put, List.setIfInBounds_toArray, List.set_cons_succ, List.set_cons_zero]
          refine held_take 3 (v := undef) rfl (by kernel_rfl) (by kernel_rfl) (by kernel_rfl) (fun _ _ _ h => h) (.inr ⟨rfl, rfl⟩) hS0 ?_
          simp only [Act.put, List.setIfInBounds_toArray, List.set_cons_succ, List.set_cons_zero]
          refine held_take 4 (v := undef) rfl (by kernel_rfl) (by kernel_rfl) (by kernel_rfl) (fun _ _ _ h => h) (.inr ⟨rfl, rfl⟩) hS0 ?_
          simp only [Act.put, List.setIfInBounds_toArray, List.set_cons_succ, List.set_cons_zero]
          refine held_take 5 (v := undef) rfl (by kernel_rfl) (by kernel_rfl) (by kernel_rfl) (fun _ _ _ h => h) (.inr ⟨rfl, rfl⟩) hS0 ?_
          simp only [Act.put, List.setIfInBounds_toArray, List.set_cons_succ, List.set_cons_zero]
          refine held_take 6 (v := ?tv11) rfl (by kernel_rfl) (by kernel_rfl) (by kernel_rfl) (fun _ _ _ h => h) (.inl ⟨rfl, ?ty11⟩) hS0 ?tr11
          case ty11 => (intro _ _; go_simp; try with_reducible rfl)
          case tr11 =>
          simp only [Act.put, List.setIfInBounds_toArray, List.set_cons_succ, List.set_cons_zero]
          refine held_take 7 (v := ?tv12) rfl (by kernel_rfl) (by kernel_rfl) (by kernel_rfl) (fun _ _ _ h => h) (.inl ⟨rfl, ?ty12⟩) hS0 ?tr12
          case ty12 => (intro _ _; go_simp; try with_reducible rfl)
          case tr12 =>
          simp only [Act.put, List.setIfInBounds_toArray, List.set_cons_succ, List.set_cons_zero]
          refine held_take 8 (v := ?tv13) rfl (by kernel_rfl) (by kernel_rfl) (by kernel_rfl) (fun _ _ _ h => h) (.inl ⟨rfl, ?ty13⟩) hS0 ?tr13
          case ty13 => (intro _ _; go_simp; try with_reducible rfl)
          case tr13 =>
          simp only [Act.put, List.setIfInBounds_toArray, List.set_cons_succ, List.set_cons_zero]
          refine held_take 9 (v := ?tv14) rfl (by kernel_rfl) (by kernel_rfl) (by kernel_rfl) (fun _ _ _ h => h) (.inl ⟨rfl, ?ty14⟩) hS0 ?tr14
          case ty14 => (intro _ _; go_simp; try with_reducible rfl)
          case tr14 =>
          simp only [Act.put, List.setIfInBounds_toArray, List.set_cons_succ, List.set_cons_zero]
          refine held_take 10 (v := _) rfl (by kernel_rfl) (by kernel_rfl) (by kernel_rfl) (fun _ _ _ h => h) (yieldsI_loadw rfl 40 _ rfl rfl (fun w1 h => A8.out.ext ((HCC.out w1).1 h)) HAG.out hal) hS0 ?_
          simp only [Act.put, List.setIfInBounds_toArray, List.set_cons_succ, List.set_cons_zero]
          refine held_take 11 (v := ?tv15) rfl (by kernel_rfl) (by kernel_rfl) (by kernel_rfl) (fun _ _ _ h => h) (.inl ⟨rfl, ?ty15⟩) hS0 ?tr15
          case ty15 => (intro _ _; go_simp; try with_reducible rfl)
          case tr15 =>
          simp only [Act.put, List.setIfInBounds_toArray, List.set_cons_succ, List.set_cons_zero]
          refine held_take 12 (v := ?tv16) rfl (by kernel_rfl) (by kernel_rfl) (by kernel_rfl) (fun _ _ _ h => h) (.inl ⟨rfl, ?ty16⟩) hS0 ?tr16
          case ty16 => (intro _ _; go_simp; try with_reducible rfl)
          case tr16 =>
          simp only [Act.put, List.setIfInBounds_toArray, List.set_cons_succ, List.set_cons_zero]
          refine held_take 13 (v := _) rfl (by kernel_rfl) (by kernel_rfl) (by kernel_rfl) (fun _ _ _ h => h) (yieldsI_run rfl (fun w1 _ => exec_index (i := m) rfl rfl rfl Tryz.underlying26 size_ask hmk w1)) hS0 ?_
          simp only [Act.put, List.setIfInBounds_toArray, List.set_cons_succ, List.set_cons_zero]
          refine held_take 14 (v := _) rfl (by kernel_rfl) (by kernel_rfl) (by kernel_rfl) (fun _ _ _ h => h) (yieldsI_run rfl (fun w1 h => exec_load_at rfl rfl (HCA.out.ext ((HCC.out w1).1 h)) HAG.out hxl)) hS0 ?_
          simp only [Act.put, List.setIfInBounds_toArray, List.set_cons_succ, List.set_cons_zero]
          have hx0 := (HCC.out _).1 hS0
          refine held_one (i := 15) (by kernel_rfl) rfl ?_
          intro Q' hQ
          go_wp2_with fail
          refine ((sameAsk_c a x _ (HA8.out.ext hx0) (HXO.out.ext hx0) HAPZ.out)).mono ?_
          rintro e wz ⟨rfl, eq9⟩
          have hS9 := hCx _ _ hS0 eq9
          go_wp2_with fail
          refine hQ _ _ hS9 ?_
          clear hQ Q' hS0 eq9
          have hS0 := hS9
          clear hS9
          try dsimp only
          try simp only [Act.put, List.setIfInBounds_toArray, List.set_cons_succ, List.set_cons_zero]
          refine held_take 16 (v := ?tv17) rfl (by kernel_rfl) (by kernel_rfl) (by kernel_rfl) (fun _ _ _ h => h) (.inl ⟨rfl, ?ty17⟩) hS0 ?tr17
          case ty17 => (intro _ _; go_simp; try with_reducible rfl)
          case tr17 =>
          simp only [Act.put, List.setIfInBounds_toArray, List.set_cons_succ, List.set_cons_zero]
          refine held_take 17 (v := ?tv18) rfl (by kernel_rfl) (by kernel_rfl) (by kernel_rfl) (fun _ _ _ h => h) (.inl ⟨rfl, ?ty18⟩) hS0 ?tr18
          case ty18 => (intro _ _; go_simp; try with_reducible rfl)
          case tr18 =>
          simp only [Act.put, List.setIfInBounds_toArray, List.set_cons_succ, List.set_cons_zero]
          refine held_take 18 (v := ?tv19) rfl (by kernel_rfl) (by kernel_rfl) (by kernel_rfl) (fun _ _ _ h => h) (.inl ⟨rfl, ?ty19⟩) hS0 ?tr19
          case ty19 => (intro _ _; go_simp; try with_reducible rfl)
          case tr19 =>
          simp only [Act.put, List.setIfInBounds_toArray, List.set_cons_succ, List.set_cons_zero]
          refine wpAnyH_done (by kernel_rfl) ?_ _
          have EZ := hid (E8.out.ext ((HCC.out _).1 hS0))
          clear hS0 hCA hCx HCC hx0
          go_wp2
          go_ret
          exact ⟨rfl, EZ.out⟩
  · have hdr : difR E rs qs = (false, zeroP) := by unfold difR; rw [if_neg h0]
    have hdb : DB = false := by rw [← HDB.out, hdr]
    subst hdb
    have hsb : SB = false := by rw [← HSB.out]; unfold strR; rw [if_neg h0]
    subst hsb
    have hap : a.p = zeroA.p := by rw [HAP.out, hdr]; rfl
    have HAPZ := hid hap
    have d0 : decide (E = 0) = false := decide_eq_false h0
    have q0 : (E == 0) = false := by simpa using h0
    clear hdr hap HDB HAP HSB HXS
    go_wp2_with (first | (refine wpg_loadw rfl 40 (.tmp 5) rfl rfl A7.out HAG.out HAL.out ?_) | (refine wpg_run rfl (exec_ask0 rfl _) ?_))
    refine (sameAsk_c a zeroA wc HA7.out (zeroA_ok _) HAPZ.out).mono ?_
    rintro e wz ⟨rfl, ez⟩
    have EZ := hid (E7.out.ext ez)
    clear ez
    go_wp2_with fail
    go_ret
    exact ⟨rfl, EZ.out⟩
end

section
open Go Go.RowKit Go.ChangeShapes Go.WideShapes Go.ChangeAt

theorem u8_of {n : Int} (h : (Lit.int .u8 n).wf = true) : ∃ x : UInt8, Value.int .u8 n = u8v x := by
  have hb := bounds_u8 h
  refine ⟨UInt8.ofNat n.toNat, ?_⟩
  unfold u8v
  congr 1
  rw [UInt8.toNat_ofNat']
  omega

theorem u8s_of : ∀ (vs : List Value), (∀ (i : Nat) (v : Value), vs[i]? = some v → ∃ x : UInt8, v = u8v x) → ∃ l : List UInt8, vs = l.map u8v
  | [], _ => ⟨[], rfl⟩
  | v :: vs, h => by
    obtain ⟨x, hx⟩ := h 0 v rfl
    obtain ⟨l, hl⟩ := u8s_of vs fun i u hu => h (i + 1) u (by simpa using hu)
    exact ⟨x :: l, by rw [hx, hl]; rfl⟩

section
variable {H : Type} {enc : TypeId × Value → H} {P : Program} {w : World}
/-- an array of octets -/
theorem open_octets {r : Reach} {b0 base : Nat} {sp : Nat → Bool} {held : Bool} {t e : TypeId} {n : Nat} {v : Value} {d : DataW H} {ps : List MemPlace} (ht : P.underlying t = some (.array n e)) (he : P.underlying e = some (.int .u8)) (hce : P.cellsOf e = 1) (hct : P.cellsOf t = n)
    (hval : Value.okWide P w r b0 t v) (hd : DataW.Trod enc P w base sp held t v d ps) : ∃ l : List UInt8, l.length = n ∧ v = .agg (l.map u8v).toArray := by
  unfold Value.okWide at hval
  rw [ht] at hval
  obtain ⟨cs, rfl, hs, _⟩ := hval
  obtain ⟨fuel, hf⟩ := hd
  obtain ⟨xs, m, _, _, hlen, hxl, hel⟩ := DataW.trod_array ht hf
  have hcl : cs.toList.length = n := by rw [Array.length_toList, hs, hct]
  obtain ⟨l, hl⟩ := u8s_of cs.toList fun i u hu => by
    have hi : i < n := by
      have := (List.getElem?_eq_some_iff.1 hu).1
      omega
    have h1 := hel i hi
    rw [hce, Nat.mul_one] at h1
    have hx : xs[i]? = some xs[i] := by simp
    have h2 : (cs.toList.drop i).take 1 = [u] := by
      have h3 := List.getElem?_drop (xs := cs.toList) (i := i) (j := 0)
      rw [Nat.add_zero, hu] at h3
      cases hd : cs.toList.drop i with
      | nil => rw [hd] at h3; simp at h3
      | cons y r => rw [hd] at h3; simp at h3; simp [h3]
    have h4 : DataW.trod enc P w base sp held m e [u] = some xs[i] := by
      rw [← h2, ← hx]; exact h1
    obtain ⟨k, hk, _, hw⟩ := DataW.trod_int he h4
    have hu' : u = .int .u8 k := by simpa using hk
    rw [hu']; exact u8_of hw
  refine ⟨l, ?_, ?_⟩
  · have := congrArg List.length hl
    rw [hcl, List.length_map] at this; exact this.symm
  · rw [← hl]
end
end

section
open Go Go.RowKit Go.ChangeShapes Go.WideShapes Go.ChangeAt

section
variable {H : Type} {enc : TypeId × Value → H} {P : Program} {w : World}
/-- a slice of octets, read whole -/
theorem open_bytes {r : Reach} {b0 base : Nat} {held : Bool} {t e : TypeId} {v : Value} {d : DataW H} {ps : List MemPlace} (ht : P.underlying t = some (.slice e)) (he : P.underlying e = some (.int .u8)) (hce : P.cellsOf e = 1)
    (hval : Value.okWide P w r b0 t v) (hd : DataW.Trod enc P w base (fun _ => true) held t v d ps) :
    ∃ (a : Option Addr) (n c : Nat) (l : List UInt8) (es sp : List (DataW H)), v = .slice a n c ∧ l.length = n ∧ n ≤ c ∧ (a = none → c = 0) ∧ Cells w a (l.map u8v) ∧ ((d = .nil ∧ c = 0) ∨ (d = .slice es sp ∧ es.length + sp.length = c)) := by
  obtain ⟨a, n, c, rfl⟩ := okWide_slice ht hval
  obtain ⟨fuel, hf⟩ := hd
  rcases open_ints ht he hce hf with ⟨hcs, hx⟩ | ⟨ad, len, cap, zs, hcs, _, hle, hmax, hlen, hx, hcell, hwf⟩
  · simp [Value.cells] at hcs
    obtain ⟨rfl, rfl, rfl⟩ := hcs
    simp only [Prod.mk.injEq] at hx
    exact ⟨none, 0, 0, [], [], [], rfl, rfl, Nat.le_refl _, fun _ => rfl, .inl rfl, .inl ⟨hx.1, rfl⟩⟩
  · simp [Value.cells] at hcs
    obtain ⟨rfl, rfl, rfl⟩ := hcs
    simp only [Prod.mk.injEq] at hx
    simp only [if_true] at hlen
    obtain ⟨l, hl⟩ := u8s_of ((zs.take n).map (Value.int .u8)) fun i u hu => by
      have hm := List.mem_of_getElem? hu
      obtain ⟨z, hz, rfl⟩ := List.mem_map.1 hm
      exact u8_of (hwf z (List.mem_of_mem_take hz))
    have hll : l.length = n := by
      have := congrArg List.length hl
      simp only [List.length_map, List.length_take] at this
      omega
    refine ⟨some ad, n, c, l, lits .u8 (zs.take n), lits .u8 (zs.drop n), rfl, hll, hle, (fun h => by cases h), ?_, .inr ⟨hx.1, ?_⟩⟩
    · by_cases hn : n = 0
      · left
        have : l = [] := List.length_eq_zero_iff.1 (by omega)
        rw [this]; rfl
      · obtain ⟨b, off, rfl, hat⟩ := ints_at hcell (by omega)
        refine .inr ⟨b, off, rfl, fun i u hu => ?_⟩
        rw [← hl] at hu
        have hi : i < n := by
          have := (List.getElem?_eq_some_iff.1 hu).1
          simp at this; omega
        rw [hat i (by omega)]
        rw [List.getElem?_map, List.getElem?_take_of_lt hi] at hu
        rw [List.getD_eq_getElem?_getD]
        cases hz : zs[i]? with
        | none => rw [hz] at hu; simp at hu
        | some z => rw [hz] at hu; simpa using hu
    · simp [lits]; omega
end
end

section
open Go Go.RowKit Go.ChangeShapes Go.WideShapes Go.ChangeAt Go.Deep

theorem cells?_at {w : World} {base : Nat} {p : Addr} {k : Nat} {cs : List Value} (h : w.cells? base p k = some cs) : cs.length = k ∧ CellsAt w p cs := by
  unfold World.cells? at h
  split at h
  · refine ⟨by simpa using mapM_some_length h, fun j u hu => ?_⟩
    have hj : j < k := by
      have h1 := (List.getElem?_eq_some_iff.1 hu).1
      have h2 := mapM_some_length h
      simp at h2; omega
    have := mapM_some_get h j j (by simp [hj])
    rw [hu] at this
    exact this
  · cases h

section
variable {H : Type} {enc : TypeId × Value → H} {P : Program} {w : World}
theorem octets_of_trod {base : Nat} {sp : Nat → Bool} {held : Bool} {t e : TypeId} {n f : Nat} {cs : List Value} {x : DataW H × List MemPlace} (ht : P.underlying t = some (.array n e)) (he : P.underlying e = some (.int .u8)) (hce : P.cellsOf e = 1) (hct : P.cellsOf t = n)
    (hf : DataW.trod enc P w base sp held f t cs = some x) : ∃ l : List UInt8, l.length = n ∧ cs = l.map u8v := by
  obtain ⟨xs, m, _, _, hlen, hxl, hel⟩ := DataW.trod_array ht hf
  have hcl : cs.length = n := by rw [hlen, hct]
  obtain ⟨l, hl⟩ := u8s_of cs fun i u hu => by
    have hi : i < n := by
      have := (List.getElem?_eq_some_iff.1 hu).1
      omega
    have h1 := hel i hi
    rw [hce, Nat.mul_one] at h1
    have hx : xs[i]? = some xs[i] := by simp
    have h2 : (cs.drop i).take 1 = [u] := by
      have h3 := List.getElem?_drop (xs := cs) (i := i) (j := 0)
      rw [Nat.add_zero, hu] at h3
      cases hd : cs.drop i with
      | nil => rw [hd] at h3; simp at h3
      | cons y r => rw [hd] at h3; simp at h3; simp [h3]
    have h4 : DataW.trod enc P w base sp held m e [u] = some xs[i] := by
      rw [← h2, ← hx]; exact h1
    obtain ⟨k, hk, _, hw⟩ := DataW.trod_int he h4
    have hu' : u = .int .u8 k := by simpa using hk
    rw [hu']; exact u8_of hw
  refine ⟨l, ?_, hl⟩
  have := congrArg List.length hl
  rw [hcl, List.length_map] at this; exact this.symm

/-- a slice of rows, its cell read -/
theorem sums_of_trod {base f : Nat} {held : Bool} {t e q : TypeId} {cs : List Value} {x : DataW H × List MemPlace} (ht : P.underlying t = some (.slice e)) (he : P.underlying e = some (.array 32 q)) (hq : P.underlying q = some (.int .u8)) (cq : P.cellsOf q = 1) (ce : P.cellsOf e = 32)
    (hf : DataW.trod enc P w base (fun _ => true) held f t cs = some x) :
    ∃ (a : Option Addr) (n c : Nat) (ls : List (List UInt8)) (es sp : List (DataW H)), cs = [.slice a n c] ∧ ls.length = n ∧ All32 ls ∧ n ≤ c ∧ c ≤ maxLen ∧ (a = none → c = 0) ∧ Cells w a (rows ls) ∧ ((x.1 = .nil ∧ c = 0) ∨ (x.1 = .slice es sp ∧ es.length + sp.length = c)) := by
  rcases DataW.trod_slice ht hf with ⟨h0, h1⟩ | ⟨a, len, cap, elems, rest, n, _, rfl, rfl, hb, hl, hm, hlen, hel, hsp, hns⟩
  · exact ⟨none, 0, 0, [], [], [], h0, rfl, All32.nil, Nat.le_refl _, Nat.zero_le _, fun _ => rfl, .inl rfl, .inl ⟨by rw [h1], rfl⟩⟩
  · have each : ∀ i, i < len → ∃ l : List UInt8, l.length = 32 ∧ CellsAt w (a.add (i * 32)) (l.map u8v) := by
      intro i hi
      have h1 := hel i hi
      have hx : elems[i]? = some (elems[i]'(by omega)) := by simp
      rw [ce, hx, Option.bind_eq_some_iff] at h1
      obtain ⟨cs', hcs, hy⟩ := h1
      obtain ⟨l, hl1, rfl⟩ := octets_of_trod he hq cq ce hy
      exact ⟨l, hl1, (cells?_at hcs).2⟩
    obtain ⟨g, hg⟩ := choose_lt each
    have h32 : All32 ((List.range len).map g) := fun l hl => by
      obtain ⟨i, hi, rfl⟩ := List.mem_map.1 hl
      exact (hg i (List.mem_range.1 hi)).1
    obtain ⟨hrl, _⟩ := hsp rfl
    refine ⟨some a, len, cap, (List.range len).map g, _, _, rfl, by simp, h32, hl, hm, (fun h => by cases h), ?_, .inr ⟨rfl, by simp; omega⟩⟩
    by_cases h0 : len = 0
    · left; subst h0; rfl
    · obtain ⟨hl0, hc0⟩ := hg 0 (by omega)
      obtain ⟨b, off, spot⟩ := a
      have hspot : spot = none := by
        have := hc0 0 (u8v ((g 0)[0]'(by omega))) (by simp [hl0])
        simpa [Addr.add] using World.cell?_spot this
      subst hspot
      refine .inr ⟨b, off, rfl, fun i u hu => ?_⟩
      have hi : i < 32 * len := by
        have := (List.getElem?_eq_some_iff.1 hu).1
        rw [rows_length h32] at this; simpa using this
      obtain ⟨_, hcr⟩ := hg (i / 32) (by omega)
      have hrow : ((List.range len).map g)[i / 32]? = some (g (i / 32)) := by
        rw [List.getElem?_map, List.getElem?_range (by omega)]; rfl
      have h2 := rows_at h32 hrow
      have h3 : ((g (i / 32)).map u8v)[i % 32]? = some u := by
        rw [← h2, List.getElem?_take_of_lt (Nat.mod_lt _ (by omega)), List.getElem?_drop, Nat.div_add_mod]; exact hu
      have h4 := hcr _ _ h3
      rw [addr_add, addr_add] at h4
      rw [show off + i / 32 * 32 + i % 32 = off + i by omega] at h4
      exact h4

/-- a struct of two ints and a slice of rows -/
theorem open_proof {r : Reach} {b0 base : Nat} {held : Bool} {t e q : TypeId} {f0 f1 f2 : Field} {v : Value} {d : DataW H} {ps : List MemPlace} (ht : P.underlying t = some (.struct #[f0, f1, f2])) (h0 : P.underlying f0.type = some (.int .i64)) (h1 : P.underlying f1.type = some (.int .i64))
    (h2 : P.underlying f2.type = some (.slice e)) (he : P.underlying e = some (.array 32 q)) (hq : P.underlying q = some (.int .u8)) (cq : P.cellsOf q = 1) (ce : P.cellsOf e = 32) (c0 : P.cellsOf f0.type = 1) (c1 : P.cellsOf f1.type = 1) (c2 : P.cellsOf f2.type = 1) (ct : P.cellsOf t = 3)
    (o0 : f0.offset = 0) (o1 : f1.offset = 1) (o2 : f2.offset = 2)
    (hval : Value.okWide P w r b0 t v) (hd : DataW.Trod enc P w base (fun _ => true) held t v d ps) :
    ∃ (I Z : Int) (a : Option Addr) (n c : Nat) (ls : List (List UInt8)), v = .agg #[.int .i64 I, .int .i64 Z, .slice a n c] ∧ ls.length = n ∧ All32 ls ∧ n ≤ c ∧ c ≤ maxLen ∧ (a = none → c = 0) ∧ Cells w a (rows ls) ∧
      ∃ (D : DataW H) (es sp : List (DataW H)), d = .agg [.lit (.int .i64 I), .lit (.int .i64 Z), D] ∧ ((D = .nil ∧ c = 0) ∨ (D = .slice es sp ∧ es.length + sp.length = c)) ∧ (Lit.int .i64 I).wf = true ∧ (Lit.int .i64 Z).wf = true := by
  obtain ⟨cs, rfl, hs⟩ := okWide_struct ht hval
  obtain ⟨fuel, hf⟩ := hd
  obtain ⟨y0, y1, y2, m, hx, hl, g0, g1, g2⟩ := trod_struct3 ht hf
  rw [c0, o0] at g0
  rw [c1, o1] at g1
  rw [c2, o2] at g2
  obtain ⟨I, hI, hI2, wI⟩ := DataW.trod_int h0 g0
  obtain ⟨Z, hZ, hZ2, wZ⟩ := DataW.trod_int h1 g1
  obtain ⟨a, n, c, ls, es, sp, hsl, hln, h32, hnc, hcm, hnil, hcl, hdd⟩ := sums_of_trod h2 he hq cq ce g2
  have hcs : cs = #[.int .i64 I, .int .i64 Z, .slice a n c] := by
    have hsz : cs.size = 3 := by rw [hs, ct]
    obtain ⟨l⟩ := cs
    match l, hsz with
    | [p0, p1, p2], _ =>
      simp [Value.cells] at hI hZ hsl
      rw [hI, hZ, hsl]
  refine ⟨I, Z, a, n, c, ls, by rw [hcs], hln, h32, hnc, hcm, hnil, hcl, y2.1, es, sp, ?_, hdd, wI, wZ⟩
  simp only [Prod.mk.injEq] at hx
  rw [hx.1, hI2, hZ2]
end
end

section
open Go Go.RowKit Go.ChangeShapes Go.WideShapes Go.ChangeAt Go.Deep

theorem mem_weightsU {H : Type} {P : Program} {e : TypeId} : ∀ {ds : List (DataW H)} {d : DataW H}, d ∈ ds → ∀ n ∈ d.weights P e, n ∈ DataW.weightsAll P e ds
  | d0 :: ds, d, hd, n, hn => by
    rw [DataW.weightsAll, List.mem_append]
    rcases List.mem_cons.1 hd with rfl | hd
    · exact .inl hn
    · exact .inr (mem_weightsU hd n hn)
  | [], _, hd, _, _ => by simp at hd
theorem reach_is : reachBytes = 140737488351232 := by decide

section
variable {H : Type} {enc : TypeId × Value → H} {P : Program} {w : World}
theorem strs_of_trod {base f : Nat} {held : Bool} {t e : TypeId} {cs : List Value} {x : DataW H × List MemPlace} (ht : P.underlying t = some (.slice e)) (he : P.underlying e = some .string) (hc : P.cellsOf e = 1) (hb : P.bytesOf e = 16)
    (hf : DataW.trod enc P w base (fun _ => true) held f t cs = some x) (hw : ∀ n ∈ x.1.weights P t, n ≤ reachBytes) :
    ∃ (a : Option Addr) (n c : Nat) (ls : List ByteArray), cs = [.slice a n c] ∧ ls.length = n ∧ n ≤ c ∧ c ≤ 140737488355328 ∧ Cells w a (ls.map encStr) ∧ ∀ s ∈ ls, s.size ≤ 140737488355328 := by
  rcases open_strs ht he hc hf with ⟨rfl, rfl⟩ | ⟨a, len, m0, m, Sx, rfl, hba, hl, hm, rfl, rfl, hcell⟩
  · exact ⟨none, 0, 0, [], rfl, rfl, Nat.le_refl _, Nat.zero_le _, .inl rfl, by simp⟩
  · simp only [if_true] at hcell hw
    have hm : m ≤ 140737488355328 := by
      have := hw ((len + (m - len)) * P.bytesOf e) (by simp [DataW.weights, ht])
      rw [hb, reach_is] at this
      omega
    refine ⟨some a, len, m, (List.range len).map Sx, rfl, by simp, hl, hm, ?_, ?_⟩
    · by_cases h0 : len = 0
      · left; subst h0; rfl
      · obtain ⟨b, off, spot⟩ := a
        have hspot : spot = none := by
          have := World.cell?_spot (hcell 0 (by omega)).1
          simpa [Addr.add] using this
        subst hspot
        refine .inr ⟨b, off, rfl, fun i u hu => ?_⟩
        have hi : i < len := by
          have := (List.getElem?_eq_some_iff.1 hu).1
          simpa using this
        rw [List.getElem?_map, List.getElem?_map, List.getElem?_range hi] at hu
        have h1 := (hcell i (by omega)).1
        rw [addr_add] at h1
        rw [h1]
        exact hu
    · intro s hs
      obtain ⟨i, hi, rfl⟩ := List.mem_map.1 hs
      have hmem : (DataW.lit (.string (Sx i).data.toList) : DataW H) ∈ (List.range len).map fun i => DataW.lit (.string (Sx i).data.toList) := List.mem_map.2 ⟨i, hi, rfl⟩
      have h3 : (Sx i).data.toList.length ∈ (DataW.lit (.string (Sx i).data.toList) : DataW H).weights P e := by simp [DataW.weights]
      have h4 := hw _ (by
        simp only [DataW.weights, ht, List.mem_cons, List.mem_append]
        exact .inr (.inl (mem_weightsU hmem _ h3)))
      rw [Array.length_toList, reach_is] at h4
      have : (Sx i).size = (Sx i).data.size := rfl
      omega
end

theorem weights_part {H : Type} {P : Program} {t : TypeId} {fs : Array Field} {xs : List (DataW H × List MemPlace)} (ht : P.underlying t = some (.struct fs)) {B : Nat} (hw : ∀ n ∈ (DataW.agg (xs.map (·.1))).weights P t, n ≤ B) {i : Nat} {f : Field} {x : DataW H × List MemPlace} (hf : fs.toList[i]? = some f) (hx : xs[i]? = some x) : ∀ n ∈ x.1.weights P f.type, n ≤ B := by
  intro n hn
  refine hw n ?_
  simp only [DataW.weights, ht]
  exact DataW.weights_mem_each (ts := fs.toList.map (·.type)) (j := i) (by rw [List.getElem?_map, hf]; rfl) (by rw [List.getElem?_map, hx]; rfl) n hn
end

section
open Go Go.RowKit Go.ChangeShapes Go.WideShapes Go.ChangeAt Go.Deep

section
variable {H : Type} {enc : TypeId × Value → H} {P : Program} {w : World}
theorem ints_of_trod {base f : Nat} {held : Bool} {t e : TypeId} {cs : List Value} {x : DataW H × List MemPlace} (ht : P.underlying t = some (.slice e)) (he : P.underlying e = some (.int .i64)) (hc : P.cellsOf e = 1) (hb : P.bytesOf e = 8)
    (hf : DataW.trod enc P w base (fun _ => true) held f t cs = some x) (hw : ∀ n ∈ x.1.weights P t, n ≤ reachBytes) :
    ∃ (a : Option Addr) (n c : Nat) (ls : List Int), cs = [.slice a n c] ∧ ls.length = n ∧ n ≤ c ∧ c ≤ 140737488355328 ∧ Cells w a (ls.map encI) ∧ ∀ z ∈ ls, (Lit.int .i64 z).wf = true := by
  rcases open_ints ht he hc hf with ⟨rfl, rfl⟩ | ⟨a, len, cap, zs, rfl, hba, hl, hm, hzl, rfl, hcell, hwf⟩
  · exact ⟨none, 0, 0, [], rfl, rfl, Nat.le_refl _, Nat.zero_le _, .inl rfl, by simp⟩
  · simp only [if_true] at hzl
    have hcap : cap ≤ 140737488355328 := by
      have := hw ((lits (H := H) .i64 (zs.take len)).length * P.bytesOf e + (lits (H := H) .i64 (zs.drop len)).length * P.bytesOf e) (by simp [DataW.weights, ht, Nat.add_mul])
      rw [hb, reach_is] at this
      simp [lits] at this
      omega
    refine ⟨some a, len, cap, zs.take len, rfl, by simp; omega, hl, hcap, ?_, fun z hz => hwf z (List.mem_of_mem_take hz)⟩
    by_cases h0 : len = 0
    · left; subst h0; simp
    · obtain ⟨b, off, spot⟩ := a
      have hspot : spot = none := by
        have := World.cell?_spot (hcell 0 (by omega))
        simpa [Addr.add] using this
      subst hspot
      refine .inr ⟨b, off, rfl, fun i u hu => ?_⟩
      have hi : i < len := by
        have := (List.getElem?_eq_some_iff.1 hu).1
        simp at this; omega
      have h1 := hcell i (by omega)
      rw [addr_add] at h1
      rw [h1]
      rw [List.getElem?_map, List.getElem?_take_of_lt hi] at hu
      rw [List.getD_eq_getElem?_getD]
      cases hz : zs[i]? with
      | none => rw [hz] at hu; simp at hu
      | some z => rw [hz] at hu; simpa [encI] using hu
end

section
variable {H : Type} {enc : TypeId × Value → H} {w : World}
set_option maxRecDepth 100000 in
theorem rule_of_trod {base f : Nat} {held : Bool} {cs : List Value} {x : DataW H × List MemPlace} (hf : DataW.trod enc Tryz.prog w base (fun _ => true) held f 50 cs = some x) (hw : ∀ n ∈ x.1.weights Tryz.prog 50, n ≤ reachBytes) :
    ∃ r : RuleR, cs = r.v ∧ r.Ok w := by
  have ht := Tryz.underlying50
  obtain ⟨xs, m, _, rfl, hl, hlen, hfs⟩ := DataW.trod_struct ht hf
  have ct : Tryz.prog.cellsOf 50 = 8 := by kernel_rfl
  have c4 : Tryz.prog.cellsOf 4 = 1 := by kernel_rfl
  have c39 : Tryz.prog.cellsOf 36 = 1 := by kernel_rfl
  have c48 : Tryz.prog.cellsOf 48 = 1 := by kernel_rfl
  have c3 : Tryz.prog.cellsOf 3 = 1 := by kernel_rfl
  have c9 : Tryz.prog.cellsOf 9 = 1 := by kernel_rfl
  rw [ct] at hl
  match xs, hlen, cs, hl with
  | [y0, y1, y2, y3, y4, y5, y6, y7], _, [v0, v1, v2, v3, v4, v5, v6, v7], _ =>
  have g0 : DataW.trod enc Tryz.prog w base (fun _ => true) held m 4 [v0] = some y0 := by have := hfs 0 _ rfl; simpa [c4] using this
  have g1 : DataW.trod enc Tryz.prog w base (fun _ => true) held m 36 [v1] = some y1 := by have := hfs 1 _ rfl; simpa [c39] using this
  have g2 : DataW.trod enc Tryz.prog w base (fun _ => true) held m 48 [v2] = some y2 := by have := hfs 2 _ rfl; simpa [c48] using this
  have g3 : DataW.trod enc Tryz.prog w base (fun _ => true) held m 36 [v3] = some y3 := by have := hfs 3 _ rfl; simpa [c39] using this
  have g4 : DataW.trod enc Tryz.prog w base (fun _ => true) held m 3 [v4] = some y4 := by have := hfs 4 _ rfl; simpa [c3] using this
  have g5 : DataW.trod enc Tryz.prog w base (fun _ => true) held m 3 [v5] = some y5 := by have := hfs 5 _ rfl; simpa [c3] using this
  have g6 : DataW.trod enc Tryz.prog w base (fun _ => true) held m 3 [v6] = some y6 := by have := hfs 6 _ rfl; simpa [c3] using this
  have g7 : DataW.trod enc Tryz.prog w base (fun _ => true) held m 9 [v7] = some y7 := by have := hfs 7 _ rfl; simpa [c9] using this
  have w1 := weights_part ht hw (i := 1) rfl rfl
  have w2 := weights_part ht hw (i := 2) rfl rfl
  have w3 := weights_part ht hw (i := 3) rfl rfl
  have w7 := weights_part ht hw (i := 7) rfl rfl
  obtain ⟨b, h0, _⟩ := DataW.trod_bool Tryz.underlying4 g0
  obtain ⟨a1, n1, c1, l1, h1, p1, p2, p3, p4, p5⟩ := strs_of_trod Tryz.underlying36 Tryz.underlying9 c9 (by kernel_rfl) g1 w1
  obtain ⟨a2, n2, c2, l2, h2, q1, q2, q3, q4, q5⟩ := ints_of_trod Tryz.underlying48 Tryz.underlying3 c3 (by kernel_rfl) g2 w2
  obtain ⟨a3, n3, c3', l3, h3, r1, r2, r3, r4, r5⟩ := strs_of_trod Tryz.underlying36 Tryz.underlying9 c9 (by kernel_rfl) g3 w3
  obtain ⟨z4, h4, _, _⟩ := DataW.trod_int Tryz.underlying3 g4
  obtain ⟨z5, h5, _, _⟩ := DataW.trod_int Tryz.underlying3 g5
  obtain ⟨z6, h6, _, _⟩ := DataW.trod_int Tryz.underlying3 g6
  obtain ⟨s7, h7, hx7, _⟩ := DataW.trod_string Tryz.underlying9 g7
  have hs7 : s7.size ≤ 140737488355328 := by
    have := w7 s7.data.toList.length (by rw [hx7]; simp [DataW.weights])
    rw [Array.length_toList, reach_is] at this
    have e : s7.size = s7.data.size := rfl
    omega
  refine ⟨⟨b, a1, n1, c1, l1, a2, n2, c2, l2, a3, n3, c3', l3, z4, z5, z6, s7⟩, ?_, ⟨p1, p2, Nat.le_trans p2 p3, p4, p5, q1, q2, Nat.le_trans q2 q3, q4, q5, r1, r2, Nat.le_trans r2 r3, r4, r5, hs7⟩⟩
  unfold RuleR.v
  simp only [List.cons.injEq, and_true] at h0 h1 h2 h3 h4 h5 h6 h7
  rw [h0, h1, h2, h3, h4, h5, h6, h7]
end
end

section
open Go Go.RowKit Go.ChangeShapes Go.WideShapes Go.ChangeAt Go.Deep

section
variable {H : Type} {enc : TypeId × Value → H} {w : World}
set_option maxRecDepth 100000 in
theorem ask_of_trod {base f : Nat} {held : Bool} {cs : List Value} {x : DataW H × List MemPlace} (hf : DataW.trod enc Tryz.prog w base (fun _ => true) held f 40 cs = some x) (hw : ∀ n ∈ x.1.weights Tryz.prog 40, n ≤ reachBytes) :
    ∃ a : AskR, cs = a.v ∧ a.Ok w := by
  have ht := Tryz.underlying40
  obtain ⟨xs, m, _, rfl, hl, hlen, hfs⟩ := DataW.trod_struct ht hf
  have ct : Tryz.prog.cellsOf 40 = 68 := by kernel_rfl
  have c29 : Tryz.prog.cellsOf 35 = 16 := by kernel_rfl
  have c40 : Tryz.prog.cellsOf 38 = 32 := by kernel_rfl
  have c39 : Tryz.prog.cellsOf 36 = 1 := by kernel_rfl
  have c3 : Tryz.prog.cellsOf 3 = 1 := by kernel_rfl
  have c5 : Tryz.prog.cellsOf 5 = 1 := by kernel_rfl
  have c9 : Tryz.prog.cellsOf 9 = 1 := by kernel_rfl
  rw [ct] at hl
  match xs, hlen with
  | [y0, y1, y2, y3, y4, y5, y6], _ =>
  have g0 : DataW.trod enc Tryz.prog w base (fun _ => true) held m 35 ((cs.drop 0).take 16) = some y0 := by rw [← c29]; exact hfs 0 _ rfl
  have g1 : DataW.trod enc Tryz.prog w base (fun _ => true) held m 36 ((cs.drop 16).take 1) = some y1 := by rw [← c39]; exact hfs 1 _ rfl
  have g2 : DataW.trod enc Tryz.prog w base (fun _ => true) held m 3 ((cs.drop 17).take 1) = some y2 := by rw [← c3]; exact hfs 2 _ rfl
  have g3 : DataW.trod enc Tryz.prog w base (fun _ => true) held m 9 ((cs.drop 18).take 1) = some y3 := by rw [← c9]; exact hfs 3 _ rfl
  have g4 : DataW.trod enc Tryz.prog w base (fun _ => true) held m 35 ((cs.drop 19).take 16) = some y4 := by rw [← c29]; exact hfs 4 _ rfl
  have g5 : DataW.trod enc Tryz.prog w base (fun _ => true) held m 3 ((cs.drop 35).take 1) = some y5 := by rw [← c3]; exact hfs 5 _ rfl
  have g6 : DataW.trod enc Tryz.prog w base (fun _ => true) held m 38 ((cs.drop 36).take 32) = some y6 := by rw [← c40]; exact hfs 6 _ rfl
  have w1 := weights_part ht hw (i := 1) rfl rfl
  have w3 := weights_part ht hw (i := 3) rfl rfl
  obtain ⟨l0, hl0, h0⟩ := octets_of_trod Tryz.underlying35 Tryz.underlying5 c5 c29 g0
  obtain ⟨a1, n1, c1, l1, h1, p1, p2, p3, p4, p5⟩ := strs_of_trod Tryz.underlying36 Tryz.underlying9 c9 (by kernel_rfl) g1 w1
  obtain ⟨z2, h2, _, _⟩ := DataW.trod_int Tryz.underlying3 g2
  obtain ⟨s3, h3, hx3, _⟩ := DataW.trod_string Tryz.underlying9 g3
  obtain ⟨l4, hl4, h4⟩ := octets_of_trod Tryz.underlying35 Tryz.underlying5 c5 c29 g4
  obtain ⟨z5, h5, _, _⟩ := DataW.trod_int Tryz.underlying3 g5
  obtain ⟨l6, hl6, h6⟩ := octets_of_trod Tryz.underlying38 Tryz.underlying5 c5 c40 g6
  have hs3 : s3.size ≤ 140737488355328 := by
    have := w3 s3.data.toList.length (by rw [hx3]; simp [DataW.weights])
    rw [Array.length_toList, reach_is] at this
    have e : s3.size = s3.data.size := rfl
    omega
  refine ⟨⟨l0, a1, n1, c1, l1, z2, s3, l4, z5, l6⟩, ?_, ⟨hl0, hl4, hl6, p1, p2, Nat.le_trans p2 p3, p4, p5, hs3⟩⟩
  unfold AskR.v
  have e : ∀ p q : Nat, cs.take p ++ (cs.drop p).take q = cs.take (p + q) := fun p q => List.take_add.symm
  have s1 : cs = cs.take 16 ++ (cs.drop 16).take 1 ++ (cs.drop 17).take 1 ++ (cs.drop 18).take 1 ++ (cs.drop 19).take 16 ++ (cs.drop 35).take 1 ++ (cs.drop 36).take 32 := by
    rw [e 16 1, e 17 1, e 18 1, e 19 16, e 35 1, e 36 32, List.take_of_length_le (by omega)]
  rw [List.drop_zero] at h0
  rw [s1, h0, h1, h2, h3, h4, h5, h6]
  simp

set_option maxRecDepth 100000 in
theorem open_rule {r : Reach} {b0 base : Nat} {held : Bool} {v : Value} {d : DataW H} {ps : List MemPlace} {ts : List TypeId} {ds : List (DataW H)} {j : Nat} (hsz : (DataW.weightsEach Tryz.prog ts ds).all (· ≤ reachBytes) = true)
    (hval : Value.okWide Tryz.prog w r b0 50 v) (hd : DataW.Trod enc Tryz.prog w base (fun _ => true) held 50 v d ps) (htj : ts[j]? = some 50) (hdj : ds[j]? = some d) : ∃ q : RuleR, v = .agg q.v.toArray ∧ q.Ok w := by
  have hw := fun n hn => of_decide_eq_true (List.all_eq_true.1 hsz n (DataW.weights_mem_each htj hdj n hn))
  obtain ⟨cs, rfl, hs⟩ := okWide_struct Tryz.underlying50 hval
  obtain ⟨fuel, hf⟩ := hd
  obtain ⟨q, hq, hok⟩ := rule_of_trod hf hw
  exact ⟨q, by rw [← hq]; rfl, hok⟩
set_option maxRecDepth 100000 in
theorem open_ask {r : Reach} {b0 base : Nat} {held : Bool} {v : Value} {d : DataW H} {ps : List MemPlace} {ts : List TypeId} {ds : List (DataW H)} {j : Nat} (hsz : (DataW.weightsEach Tryz.prog ts ds).all (· ≤ reachBytes) = true)
    (hval : Value.okWide Tryz.prog w r b0 40 v) (hd : DataW.Trod enc Tryz.prog w base (fun _ => true) held 40 v d ps) (htj : ts[j]? = some 40) (hdj : ds[j]? = some d) : ∃ q : AskR, v = .agg q.v.toArray ∧ q.Ok w := by
  have hw := fun n hn => of_decide_eq_true (List.all_eq_true.1 hsz n (DataW.weights_mem_each htj hdj n hn))
  obtain ⟨cs, rfl, hs⟩ := okWide_struct Tryz.underlying40 hval
  obtain ⟨fuel, hf⟩ := hd
  obtain ⟨q, hq, hok⟩ := ask_of_trod hf hw
  exact ⟨q, by rw [← hq]; rfl, hok⟩
end
end

section
open Go Go.RowKit Go.Maps Go.MapKept Go.WideShapes

structure ApprR where
  member : List UInt8
  sa : Option Addr
  sn : Nat
  sc : Nat
  roles : List ByteArray
def ApprR.v (x : ApprR) : List Value := x.member.map u8v ++ [.slice x.sa x.sn x.sc]
structure ApprR.Ok (w : World) (x : ApprR) : Prop where
  hm : x.member.length = 16
  sl : x.roles.length = x.sn
  snc : x.sn ≤ x.sc
  sm : x.sc ≤ 140737488355328
  scell : Cells w x.sa (x.roles.map encStr)
  ss : ∀ s ∈ x.roles, s.size ≤ 140737488355328
theorem ApprR.Ok.ext {w w' : World} {x : ApprR} (h : x.Ok w) (e : Ext w w') : x.Ok w' := ⟨h.hm, h.sl, h.snc, h.sm, h.scell.ext e, h.ss⟩
theorem ApprR.len {w : World} {x : ApprR} (h : x.Ok w) : x.v.length = 17 := by unfold ApprR.v; simp [h.hm]
theorem ApprR.at16 {w : World} {x : ApprR} (h : x.Ok w) : x.v[16]? = some (.slice x.sa x.sn x.sc) := by
  unfold ApprR.v; rw [List.getElem?_append_right (by simp [h.hm])]; simp [h.hm]
theorem ApprR.part0 {w : World} {x : ApprR} (h : x.Ok w) : (x.v.drop 0).take 16 = x.member.map u8v := by
  unfold ApprR.v; rw [List.drop_zero, List.take_left' (by simp [h.hm])]
theorem ApprR.one (x : ApprR) : ∀ v ∈ x.v, v.oneCell' = true := by
  intro v hv
  unfold ApprR.v at hv
  rcases List.mem_append.1 hv with h | h
  · exact one_u8 x.member v h
  · simp at h; rw [h]; rfl
def apprsV (ls : List ApprR) : List Value := ls.flatMap ApprR.v
structure ApprsOk (w : World) (a : Option Addr) (n c : Nat) (ls : List ApprR) : Prop where
  hl : ls.length = n
  hnc : n ≤ c
  hm : c ≤ 140737488355328
  cell : Cells w a (apprsV ls)
  ok : ∀ x ∈ ls, x.Ok w
theorem ApprsOk.ext {w w' : World} {a : Option Addr} {n c : Nat} {ls : List ApprR} (h : ApprsOk w a n c ls) (e : Ext w w') : ApprsOk w' a n c ls := ⟨h.hl, h.hnc, h.hm, h.cell.ext e, fun x hx => (h.ok x hx).ext e⟩
theorem apprsV_length {w : World} {ls : List ApprR} (h : ∀ x ∈ ls, x.Ok w) : (apprsV ls).length = 17 * ls.length := by
  induction ls with
  | nil => rfl
  | cons x ls ih =>
    unfold apprsV at ih ⊢
    rw [List.flatMap_cons, List.length_append, ih (fun y hy => h y (List.mem_cons_of_mem _ hy)), ApprR.len (h x (by simp)), List.length_cons]; omega
theorem apprsV_at {w : World} {ls : List ApprR} (hok : ∀ x ∈ ls, x.Ok w) {k : Nat} {x : ApprR} (h : ls[k]? = some x) : ((apprsV ls).drop (k * 17)).take 17 = x.v := by
  induction ls generalizing k with
  | nil => simp at h
  | cons y ls ih =>
    unfold apprsV at ih ⊢
    rw [List.flatMap_cons]
    have hy := ApprR.len (hok y (by simp))
    cases k with
    | zero =>
      simp only [List.getElem?_cons_zero, Option.some.injEq] at h
      subst h
      rw [Nat.zero_mul, List.drop_zero, List.take_append_of_le_length (by rw [hy]; exact Nat.le_refl _), List.take_of_length_le (by rw [hy]; exact Nat.le_refl _)]
    | succ k =>
      rw [List.getElem?_cons_succ] at h
      rw [List.drop_append, hy, List.drop_of_length_le (by rw [hy]; omega), List.nil_append, show (k + 1) * 17 - 17 = k * 17 by omega]
      exact ih (fun z hz => hok z (List.mem_cons_of_mem _ hz)) h
theorem ApprsOk.at {w : World} {a : Option Addr} {n c : Nat} {ls : List ApprR} (h : ApprsOk w a n c ls) {k : Nat} {x : ApprR} (hk : ls[k]? = some x) : ∃ A, a = some A ∧ CellsAt w (A.add (k * 17)) x.v := by
  have hk2 := (List.getElem?_eq_some_iff.1 hk).1
  obtain ⟨b, o, rfl, hc⟩ := h.cell.some_of (by rw [apprsV_length h.ok]; omega)
  refine ⟨_, rfl, fun j u hu => ?_⟩
  rw [addr_add, addr_add, Nat.add_assoc]
  refine hc _ _ ?_
  rw [← apprsV_at h.ok hk] at hu
  have hj : j < 17 := by
    have := (List.getElem?_eq_some_iff.1 hu).1
    rw [List.length_take] at this; omega
  rw [List.getElem?_take_of_lt hj, List.getElem?_drop] at hu
  exact hu

/-- what is found in a list of roles, from the place k on -/
def scanF : Option ByteArray → List ByteArray → Int
  | _, [] => 0
  | none, s :: r => if badS s then 6 else scanF (some s) r
  | some p, s :: r => if badS s then 6 else if lessS p s then scanF (some s) r else 9
def prevS (ls : List ByteArray) : Nat → Option ByteArray
  | 0 => none
  | k + 1 => ls[k]?
def scanAt (ls : List ByteArray) (k : Nat) : Int := scanF (prevS ls k) (ls.drop k)
theorem drop_atS {ls : List ByteArray} {k : Nat} {s : ByteArray} (h : ls[k]? = some s) : ls.drop k = s :: ls.drop (k + 1) := by
  obtain ⟨hk, rfl⟩ := List.getElem?_eq_some_iff.1 h
  exact List.drop_eq_getElem_cons hk
theorem scanAt_bad {ls : List ByteArray} {k : Nat} {s : ByteArray} (h : ls[k]? = some s) (hb : badS s = true) : scanAt ls k = 6 := by
  unfold scanAt; rw [drop_atS h]
  cases prevS ls k <;> (unfold scanF; rw [if_pos hb])
theorem scanAt_zero {ls : List ByteArray} {s : ByteArray} (h : ls[0]? = some s) (hb : badS s = false) : scanAt ls 0 = scanAt ls 1 := by
  unfold scanAt; rw [drop_atS h]
  show scanF none (s :: ls.drop 1) = scanF (ls[0]?) (ls.drop 1)
  rw [h]; conv => lhs; unfold scanF
  rw [hb]; simp
theorem scanAt_step {ls : List ByteArray} {k : Nat} {p s : ByteArray} (hp : ls[k]? = some p) (h : ls[k + 1]? = some s) (hb : badS s = false) : (lessS p s = true → scanAt ls (k + 1) = scanAt ls (k + 2)) ∧ (lessS p s = false → scanAt ls (k + 1) = 9) := by
  have e : scanAt ls (k + 1) = scanF (some p) (s :: ls.drop (k + 2)) := by
    unfold scanAt; rw [drop_atS h]; show scanF (ls[k]?) _ = _; rw [hp]
  have e2 : scanAt ls (k + 2) = scanF (some s) (ls.drop (k + 2)) := by
    unfold scanAt; show scanF (ls[k + 1]?) _ = _; rw [h]
  constructor
  · intro hl
    rw [e, e2]; conv => lhs; unfold scanF
    rw [hb, hl]; simp
  · intro hl
    rw [e]; unfold scanF
    rw [hb, hl]; simp
theorem scanAt_end {ls : List ByteArray} {k : Nat} (h : ls.length ≤ k) : scanAt ls k = 0 := by
  unfold scanAt; rw [List.drop_of_length_le h]
  cases prevS ls k <;> rfl
def apprsE : List ApprR → Int
  | [] => 0
  | x :: r => if scanAt x.roles 0 = 0 then apprsE r else scanAt x.roles 0
theorem drop_atA {ls : List ApprR} {k : Nat} {x : ApprR} (h : ls[k]? = some x) : ls.drop k = x :: ls.drop (k + 1) := by
  obtain ⟨hk, rfl⟩ := List.getElem?_eq_some_iff.1 h
  exact List.drop_eq_getElem_cons hk
theorem apprsE_ok {ls : List ApprR} {k : Nat} {x : ApprR} (h : ls[k]? = some x) (h0 : scanAt x.roles 0 = 0) : apprsE (ls.drop k) = apprsE (ls.drop (k + 1)) := by
  rw [drop_atA h]; conv => lhs; unfold apprsE
  rw [if_pos h0]
theorem apprsE_bad {ls : List ApprR} {k : Nat} {x : ApprR} (h : ls[k]? = some x) (h0 : scanAt x.roles 0 ≠ 0) : apprsE (ls.drop k) = scanAt x.roles 0 := by
  rw [drop_atA h]; conv => lhs; unfold apprsE
  rw [if_neg h0]

noncomputable def addK (ks : List Value) (key : Value) : List Value := @ite _ (key ∈ ks) (Classical.propDecidable _) ks (ks ++ [key])
theorem addK_of {ks ks' : List Value} {key : Value} (h : (key ∈ ks ∧ ks' = ks) ∨ (key ∉ ks ∧ ks' = ks ++ [key])) : ks' = addK ks key := by
  unfold addK
  rcases h with ⟨h1, h2⟩ | ⟨h1, h2⟩
  · rw [if_pos h1]; exact h2
  · rw [if_neg h1]; exact h2
def idV (x : ApprR) : Value := .agg (x.member.map u8v).toArray
noncomputable def whoStep (ow : ByteArray) (ks : List Value) (x : ApprR) : List Value := if memT x.roles ow then addK ks (idV x) else ks
noncomputable def whoF (ow : ByteArray) (ls : List ApprR) (ks : List Value) : List Value := ls.foldl (whoStep ow) ks
theorem whoF_at {ow : ByteArray} {ls : List ApprR} {k : Nat} {x : ApprR} {ks : List Value} (h : ls[k]? = some x) : whoF ow (ls.drop k) ks = whoF ow (ls.drop (k + 1)) (whoStep ow ks x) := by
  rw [drop_atA h]; rfl
theorem whoF_end {ow : ByteArray} {ls : List ApprR} {k : Nat} {ks : List Value} (h : ls.length ≤ k) : whoF ow (ls.drop k) ks = ks := by
  rw [List.drop_of_length_le h]; rfl

/-- members as keys -/
theorem id_keyed : Keyed Tryz.prog 35 := Keyed.of_law (WideMaps.ArrKey.law (e := 5) (n := 16) ⟨Tryz.underlying35, by kernel_rfl, by kernel_rfl, by kernel_rfl⟩)
theorem mapM_someU {α β : Type} (g : α → Option β) : ∀ (l : List α), (∀ i ∈ l, ∃ y, g i = some y) → ∃ ys, l.mapM g = some ys
  | [], _ => ⟨[], rfl⟩
  | a :: l, h => by
    obtain ⟨y, hy⟩ := h a (by simp)
    obtain ⟨ys, hys⟩ := mapM_someU g l (fun i hi => h i (List.mem_cons_of_mem _ hi))
    exact ⟨y :: ys, by rw [List.mapM_cons, hy, hys]; rfl⟩
theorem key_id {m : List UInt8} (hm : m.length = 16) : ∃ l, keyOf Tryz.prog 35 (.agg (m.map u8v).toArray) = some l := by
  have ht := Tryz.underlying35
  have hk : Tryz.prog.keyType 35 = true := by kernel_rfl
  have hc : Tryz.prog.cellsOf 35 = 16 := by kernel_rfl
  have hc8 : Tryz.prog.cellsOf 5 = 1 := by kernel_rfl
  have hf : (Value.agg (m.map u8v).toArray).formed Tryz.prog 35 = true := by simp [Value.formed, ht, hc, hm]
  obtain ⟨d, hd⟩ : ∃ d, Tryz.prog.types.size = d + 1 := Nat.exists_eq_succ_of_ne_zero (by
    intro h
    have : decide (Tryz.prog.types.size = 0) = false := by kernel_rfl
    rw [h] at this; simp at this)
  unfold keyOf
  rw [ht]
  simp only [hk, hf, Bool.and_self, if_true]
  have hl : (Value.agg (m.map u8v).toArray).cells.toList = m.map u8v := rfl
  rw [hl, hd]
  unfold Program.keyLits
  rw [ht]
  simp only [List.length_map, hm, hc, if_true, hc8, Nat.mul_one]
  obtain ⟨ys, hys⟩ := mapM_someU (fun i => Tryz.prog.keyLits (d + 1) 5 (((m.map u8v).drop i).take 1)) (List.range 16) (fun i hi => by
    have hi16 : i < m.length := by rw [hm]; exact List.mem_range.1 hi
    have he : ((m.map u8v).drop i).take 1 = [u8v m[i]] := by
      rw [← List.map_drop, ← List.map_take, List.drop_eq_getElem_cons hi16]; rfl
    refine ⟨[.int .u8 (m[i].toNat : Int)], ?_⟩
    rw [he]
    unfold Program.keyLits
    rw [Tryz.underlying5]
    have h2 := m[i].toNat_lt
    have hw : (Lit.int .u8 (m[i].toNat : Int)).wf = true := by
      have e1 : IntKind.u8.min = 0 := by decide
      have e2 : IntKind.u8.max = 255 := by decide
      show (decide (IntKind.u8.min ≤ (m[i].toNat : Int)) && decide ((m[i].toNat : Int) ≤ IntKind.u8.max)) = true
      rw [e1, e2, decide_eq_true (by omega), decide_eq_true (by omega)]; rfl
    simp only [u8v, hw, and_self, if_true])
  rw [hys]
  exact ⟨_, rfl⟩
theorem addK_mem {ks : List Value} {key v : Value} (h : v ∈ addK ks key) : v ∈ ks ∨ v = key := by
  unfold addK at h
  split at h
  · exact .inl h
  · rcases List.mem_append.1 h with h | h
    · exact .inl h
    · simp at h; exact .inr h
end

section
open Go Go.RowKit Go.ChangeShapes Go.WideShapes Go.ChangeAt Go.Deep

instance : Inhabited RuleR := ⟨⟨false, none, 0, 0, [], none, 0, 0, [], none, 0, 0, [], 0, 0, 0, ⟨#[]⟩⟩⟩
instance : Inhabited ApprR := ⟨⟨[], none, 0, 0, []⟩⟩
theorem flatV_length {z : Nat} {V : Nat → List Value} : ∀ len, (∀ i, i < len → (V i).length = z) → ((List.range len).flatMap V).length = len * z
  | 0, _ => by simp
  | len + 1, h => by
    rw [List.range_succ, List.flatMap_append, List.length_append, flatV_length len (fun i hi => h i (by omega))]
    simp [h len (by omega), Nat.add_mul]
theorem flatV_get {z : Nat} {V : Nat → List Value} : ∀ len, (∀ i, i < len → (V i).length = z) → ∀ i r, i < len → r < z → ((List.range len).flatMap V)[i * z + r]? = (V i)[r]?
  | 0, _, i, r, hi, _ => by omega
  | len + 1, h, i, r, hi, hr => by
    rw [List.range_succ, List.flatMap_append]
    have hl := flatV_length (V := V) (z := z) len (fun i hi => h i (by omega))
    by_cases hil : i < len
    · have : i * z + r < len * z := by
        have h1 : (i + 1) * z ≤ len * z := Nat.mul_le_mul_right _ hil
        rw [Nat.add_mul, Nat.one_mul] at h1
        omega
      rw [List.getElem?_append_left (by rw [hl]; exact this)]
      exact flatV_get len (fun i hi => h i (by omega)) i r hil hr
    · obtain rfl : i = len := by omega
      rw [List.getElem?_append_right (by rw [hl]; omega), hl]
      simp
theorem cells_rows {w : World} {a : Addr} {z len : Nat} {V : Nat → List Value} (hz : 0 < z) (hV : ∀ i, i < len → (V i).length = z ∧ CellsAt w (a.add (i * z)) (V i)) : Cells w (some a) ((List.range len).flatMap V) := by
  by_cases h0 : len = 0
  · left; subst h0; rfl
  · obtain ⟨b, off, spot⟩ := a
    have hspot : spot = none := by
      obtain ⟨h1, h2⟩ := hV 0 (by omega)
      have := World.cell?_spot (h2 0 ((V 0)[0]'(by omega)) (by simp))
      simpa [Addr.add] using this
    subst hspot
    refine .inr ⟨b, off, rfl, fun t u hu => ?_⟩
    have hl := flatV_length (V := V) (z := z) len (fun i hi => (hV i hi).1)
    have ht : t < len * z := by
      have := (List.getElem?_eq_some_iff.1 hu).1
      rwa [hl] at this
    have hi : t / z < len := Nat.div_lt_of_lt_mul (by rw [Nat.mul_comm]; exact ht)
    have hr : t % z < z := Nat.mod_lt _ hz
    have hsplit : t / z * z + t % z = t := by rw [Nat.mul_comm]; exact Nat.div_add_mod t z
    have h2 := flatV_get len (fun i hi => (hV i hi).1) (t / z) (t % z) hi hr
    rw [hsplit, hu] at h2
    have h3 := (hV (t / z) hi).2 (t % z) u h2.symm
    rw [addr_add, addr_add, Nat.add_assoc, hsplit] at h3
    exact h3
theorem flatMap_map {α : Type} (f : α → List Value) (g : Nat → α) (len : Nat) : ((List.range len).map g).flatMap f = (List.range len).flatMap (fun i => f (g i)) := by
  rw [List.flatMap_map]

section
variable {H : Type} {enc : TypeId × Value → H} {w : World}
set_option maxRecDepth 100000 in
theorem rules_of_trod {base f : Nat} {held : Bool} {cs : List Value} {x : DataW H × List MemPlace} (hf : DataW.trod enc Tryz.prog w base (fun _ => true) held f 22 cs = some x) (hw : ∀ n ∈ x.1.weights Tryz.prog 22, n ≤ reachBytes) :
    ∃ (a : Option Addr) (n c : Nat) (rs : List RuleR), cs = [.slice a n c] ∧ PolOk w a n c rs := by
  have ct : Tryz.prog.cellsOf 50 = 8 := by kernel_rfl
  have hb : Tryz.prog.bytesOf 50 = 120 := by kernel_rfl
  rcases DataW.trod_slice Tryz.underlying22 hf with ⟨rfl, rfl⟩ | ⟨a, len, cap, elems, rest, m, _, rfl, rfl, hba, hl, hm, hlen, hel, hsp, hns⟩
  · exact ⟨none, 0, 0, [], rfl, rfl, Nat.le_refl _, Nat.zero_le _, .inl rfl, by simp⟩
  · obtain ⟨hrl, _⟩ := hsp rfl
    have hcap : cap ≤ 140737488355328 := by
      have := hw ((elems.map (·.1)).length * Tryz.prog.bytesOf 50 + (rest.map (·.1)).length * Tryz.prog.bytesOf 50) (by simp [DataW.weights, Tryz.underlying22, Nat.add_mul])
      rw [hb, reach_is] at this
      simp at this
      omega
    have each : ∀ i, i < len → ∃ r : RuleR, CellsAt w (a.add (i * 8)) r.v ∧ r.Ok w := by
      intro i hi
      have h1 := hel i hi
      have hx : elems[i]? = some (elems[i]'(by omega)) := by simp
      rw [ct, hx, Option.bind_eq_some_iff] at h1
      obtain ⟨cs', hcs, hy⟩ := h1
      have hwe : ∀ n ∈ (elems[i]'(by omega)).1.weights Tryz.prog 50, n ≤ reachBytes := fun n hn => by
        refine hw n ?_
        simp only [DataW.weights, Tryz.underlying22, List.mem_cons, List.mem_append]
        refine .inr (.inl (mem_weightsU (List.mem_map.2 ⟨elems[i]'(by omega), List.getElem_mem _, rfl⟩) n hn))
      obtain ⟨r, rfl, hok⟩ := rule_of_trod hy hwe
      exact ⟨r, (cells?_at hcs).2, hok⟩
    obtain ⟨g, hg⟩ := choose_lt each
    refine ⟨some a, len, cap, (List.range len).map g, rfl, by simp, hl, Nat.le_trans hl hcap, ?_, ?_⟩
    · unfold rulesV
      rw [flatMap_map]
      exact cells_rows (z := 8) (by omega) (fun i hi => ⟨RuleR.len _, (hg i hi).1⟩)
    · intro r hr
      obtain ⟨i, hi, rfl⟩ := List.mem_map.1 hr
      exact (hg i (List.mem_range.1 hi)).2
set_option maxRecDepth 100000 in
theorem open_policy {r : Reach} {b0 base : Nat} {held : Bool} {v : Value} {d : DataW H} {ps : List MemPlace} {ts : List TypeId} {ds : List (DataW H)} {j : Nat} (hsz : (DataW.weightsEach Tryz.prog ts ds).all (· ≤ reachBytes) = true)
    (hval : Value.okWide Tryz.prog w r b0 24 v) (hd : DataW.Trod enc Tryz.prog w base (fun _ => true) held 24 v d ps) (htj : ts[j]? = some 24) (hdj : ds[j]? = some d) :
    ∃ (pa : Option Addr) (pn pc : Nat) (rs : List RuleR), v = .agg #[.slice pa pn pc] ∧ PolOk w pa pn pc rs := by
  have hw := fun n hn => of_decide_eq_true (List.all_eq_true.1 hsz n (DataW.weights_mem_each htj hdj n hn))
  obtain ⟨cs, rfl, hs⟩ := okWide_struct Tryz.underlying24 hval
  obtain ⟨fuel, hf⟩ := hd
  have ht := Tryz.underlying24
  obtain ⟨xs, m, _, hx, hl, hlen, hfs⟩ := DataW.trod_struct ht hf
  have ct : Tryz.prog.cellsOf 24 = 1 := by kernel_rfl
  have c36 : Tryz.prog.cellsOf 22 = 1 := by kernel_rfl
  simp only [Prod.mk.injEq] at hx
  rw [hx.1] at hw
  rw [ct] at hl
  have hl2 : cs.toList.length = 1 := hl
  match xs, hlen with
  | [y0], _ =>
  have g0 : DataW.trod enc Tryz.prog w base (fun _ => true) held m 22 ((cs.toList.drop 0).take 1) = some y0 := by rw [← c36]; exact hfs 0 _ rfl
  have w0 := weights_part ht hw (i := 0) rfl rfl
  obtain ⟨a, n, c, rs, h0, hok⟩ := rules_of_trod g0 w0
  rw [List.drop_zero, List.take_of_length_le (by omega)] at h0
  refine ⟨a, n, c, rs, ?_, hok⟩
  obtain ⟨cl⟩ := cs
  have h1 : cl = [.slice a n c] := h0
  rw [h1]
end
end
end Go.Proofs.YthfddfgncolnbaaGreat
