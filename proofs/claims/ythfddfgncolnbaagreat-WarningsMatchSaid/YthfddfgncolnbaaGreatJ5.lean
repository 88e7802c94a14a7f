/- Contracts and laws that the claim's row leans on (1 texts, joined): slices.Concat at rules, of nil slices too; decisions and the ask's content; conditions: the lengths. -/
import Derived.Test.YthfddfgncolnbaaGreatJ4
namespace Go.Proofs.YthfddfgncolnbaaGreat
section
open Go Go.RowKit

theorem elem_rule : ElemT Tryz.prog 22 50 8 120 := ⟨Tryz.underlying22, ⟨_, _, (info_parts info_rule).choose_spec.1, (info_parts info_rule).choose_spec.2.1, (info_parts info_rule).choose_spec.2.2.1, (info_parts info_rule).choose_spec.2.2.2, rfl⟩, by decide⟩
set_option maxRecDepth 100000 in
set_option maxHeartbeats 1000000 in
theorem concatN_c (its : List RItem) (g nn cap : Nat) (w : World) (hnn : its.length = nn) (hnn2 : nn ≤ 140737488355328) (hcap : nn ≤ cap) (hg : ∀ (i : Nat) it, its[i]? = some it → w.cell? ⟨g, i, none⟩ = some (itemR it))
    (hc : ∀ it ∈ its, Cells w it.1 (rulesV it.2.2)) (hlen : (catR its).length ≤ 1000) :
    Calls Tryz.prog 14 #[.slice (some ⟨g, 0, none⟩) nn cap] w fun e w' => ∃ v, e = .returned v ∧ w'.ownsRow w.heap.size 50 8 v (catR its).length (rulesV (catR its)) ∧ Ext w w' := by
  have HNN := hid hnn
  have HG := hid hg
  have HC := hid hc
  have HL := hid hlen
  obtain ⟨i0, hi, hz, hs, hb1⟩ := info_parts info_rule
  clear hg hc hlen hnn
  go_enter Tryz.func14, Tryz.ntmps14
  go_wp2
  go_loopw [3, 11] (fun s i wr => ∃ k : Nat, k ≤ nn ∧ s = .int .i64 ((catR (its.take k)).length : Nat) ∧ i = .int .i64 k ∧ wr = w)
    (fun _ i _ => nn - (intOf i).toNat)
  case atStart => exact ⟨0, by omega, by simp [catR], rfl, rfl⟩
  case round =>
    obtain ⟨k, hk, rfl, rfl, hwr⟩ := hrel
    subst wr
    by_cases hlt : k < nn
    · obtain ⟨it, hit⟩ : ∃ it, its[k]? = some it := ⟨its[k]'(by rw [HNN.out]; exact hlt), by simp⟩
      have c1 := HG.out k it hit
      unfold itemR at c1
      have hcs := catR_succ hit
      have hcl := catR_le its (k + 1)
      rw [hcs] at hcl
      have hcl2 := HL.out
      rw [List.length_append] at hcl
      obtain ⟨m, hm⟩ : ∃ m, (catR (its.take k)).length = m := ⟨_, rfl⟩
      obtain ⟨q, hq⟩ : ∃ q, it.2.2.length = q := ⟨_, rfl⟩
      have hsum : (catR (its.take (k + 1))).length = m + q := by rw [hcs, List.length_append, hm, hq]
      rw [hm, hq] at hcl
      rw [hq] at c1
      rw [hm]
      have h3 : IntKind.i64.wrap ((m : Int) + (q : Int)) = (m : Int) + (q : Int) := IntWalk.i64_in _ (by omega)
      have h4 : decide ((m : Int) + (q : Int) < 0) = false := decide_eq_false (by omega)
      have HS := hid hsum
      clear hsum hcs hcl hcl2 hm hq hit
      go_wp2
      go_roundw
      case rel => exact ⟨k + 1, by omega, by rw [HS.out]; go_num, by go_num, by simp⟩
      case measure => simp [intOf]; omega
    · have hkn : k = nn := by omega
      subst k
      have htk : its.take nn = its := List.take_of_length_le (by rw [HNN.out]; omega)
      rw [htk]
      have hl := HL.out
      obtain ⟨N, hN⟩ : ∃ N, (catR its).length = N := ⟨_, rfl⟩
      have HNL := hid hN
      rw [hN] at hl ⊢
      clear htk hN
      go_wp2_with fail
      refine (growR_c N _ hl).mono ?_
      rintro e w1 ⟨v, rfl, own, e1⟩
      go_wp2
      go_loopw [6, 27] (fun v i wr => ∃ k : Nat, k ≤ nn ∧ i = .int .i64 k ∧ wr.ownsRow w.heap.size 50 8 v (catR (its.take k)).length (rulesV (catR (its.take k))) ∧ Ext w wr)
        (fun _ i _ => nn - (intOf i).toNat)
      case atStart => exact ⟨0, by omega, rfl, by simpa [catR, rulesV] using own, e1⟩
      case round =>
        obtain ⟨k, hk, rfl, own2, e2⟩ := hrel
        by_cases hlt : k < nn
        · obtain ⟨it, hit⟩ : ∃ it, its[k]? = some it := ⟨its[k]'(by rw [HNN.out]; exact hlt), by simp⟩
          have c1 := HG.out k it hit
          have hb := block_lt_of_cell c1
          rw [← e2.cell (p := ⟨g, k, none⟩) hb] at c1
          have hcs := catR_succ hit
          have hcl := catR_le its (k + 1)
          rw [hcs, HNL.out, List.length_append] at hcl
          have hci := (HC.out it (List.mem_of_getElem? hit)).ext e2
          unfold itemR at c1
          obtain ⟨x, c, li⟩ := it
          obtain ⟨q, hq⟩ : ∃ q, li.length = q := ⟨_, rfl⟩
          obtain ⟨m, hm⟩ : ∃ m, (catR (its.take k)).length = m := ⟨_, rfl⟩
          simp only at c1 hcs hcl hci
          rw [hq] at c1
          rw [hm, hq] at hcl
          rw [hm] at own2
          have HCS := hid hcs
          have HQ := hid hq
          have HM := hid hm
          clear hcs hq hm hit hb
          go_wp2_with (refine wpl_appendN (n := m) (m := q) (c := c) (news := rulesV li) elem_rule rfl _ _ rfl w.heap.size rfl rfl own2 ?qc1 hci (rulesV_one _) ?qc4 ?qc5 e2.size ?_)
          case qc1 => rw [rulesV_length, HQ.out, Nat.mul_comm]
          case qc4 => omega
          case qc5 => omega
          intro v2 w2 own3 gr _
          have e3 : Ext w w2 := e2.grown gr (fun g' h => (own2.lt g' h).1)
          rw [← rulesV_append] at own3
          have hlen3 : (catR (its.take (k + 1))).length = m + q := by rw [HCS.out, List.length_append, HM.out, HQ.out]
          have HL3 := hid hlen3
          clear own2 gr e2 c1 hci hlen3
          go_wp2
          go_roundw
          case rel => exact ⟨k + 1, by omega, by go_num, by rw [HL3.out, HCS.out]; exact own3, e3⟩
          case measure => simp [intOf]; omega
        · have hkn : k = nn := by omega
          subst k
          rw [List.take_of_length_le (by rw [HNN.out]; omega), HNL.out] at own2
          go_wp2
          go_ret
          exact ⟨_, rfl, by rw [HNL.out]; exact own2, e2⟩

/-- an ask without addresses, as an ask -/
def AskP.r (p : AskP) : AskR := ⟨p.actor, none, 0, 0, p.roles, p.act, p.label, p.key, p.time, p.detail⟩
theorem AskP.r_p (p : AskP) : p.r.p = p := rfl
theorem decF_same {x y : AskR} (h : x.p = y.p) : ∀ (rs : List RuleR) (k : Nat) (b : Option (Nat × RuleR)), decF x rs k b = decF y rs k b := by
  have hm : ∀ r, meetsB r x = meetsB r y := by
    intro r
    have h1 : x.roles = y.roles := congrArg AskP.roles h
    have h2 : x.act = y.act := congrArg AskP.act h
    have h3 : x.label = y.label := congrArg AskP.label h
    have h4 : x.time = y.time := congrArg AskP.time h
    unfold meetsB
    rw [h1, h2, h3, h4]
  intro rs
  induction rs with
  | nil => intro k b; rfl
  | cons r rs ih =>
    intro k b
    unfold decF
    rw [hm r]
    simp only [ih]
noncomputable def decP (rs : List RuleR) (p : AskP) : DecR := decideD p.r rs
theorem decP_of (rs : List RuleR) (x : AskR) : decideD x rs = decP rs x.p := decF_same (by rw [AskP.r_p]) rs 0 none
def sameD (x y : DecR) : Bool := x.al == y.al && x.nd == y.nd && x.ow.toList == y.ow.toList
noncomputable def difP (rs qs : List RuleR) (p : AskP) : Bool := !sameD (decP rs p) (decP qs p)
noncomputable def strP (rs qs : List RuleR) (p : AskP) : Bool := !(decP rs p).al || ((decP qs p).al && !decide ((decP rs p).nd < (decP qs p).nd))
theorem worldP_ok {rs : List RuleR} (hz : ∀ r ∈ rs, ruleE r = 0) : ∀ p ∈ worldP rs, ∃ T : Nat, p.time = (T : Int) ∧ T ≤ 1099511627776 := by
  intro p hp
  unfold worldP at hp
  simp only [List.mem_flatMap, List.mem_map] at hp
  obtain ⟨s, _, a, _, l, _, h, hh, rfl⟩ := hp
  have := hoursW_in (rs := rs) (fun r hr => ruleE_24 (hz r hr)) h hh
  obtain ⟨n, rfl⟩ := Int.eq_ofNat_of_zero_le this.1
  exact ⟨3600 * n, (Int.natCast_mul 3600 n).symm, by omega⟩
end
end Go.Proofs.YthfddfgncolnbaaGreat
