/- Contracts and laws that the claim's row leans on (31 texts, joined): policy.Meets and policy.Decide; conditions: the memory of the arguments. keyref1.Decide; conditions: the memory of both, and that both are right. Approvals as values, what is found of them in order, and the members counted; no condition. policy.Enough; conditions: the approvals' memory. keyref1.Enough; conditions: the approvals' memory. Blocks of a stream: what streamBlock computes; conditions: the lengths. Stream: what it computes; conditions: the lengths. Stream and Cover: what they compute; conditions: the lengths. The reference's Stream: what it computes; conditions: the lengths. The reference's Cover: what it computes; conditions: the lengths. And: what is covered twice. The law StreamsMatch, walked; conditions: the lengths. Appends of which the row's block is told; conditions: the lengths. The reference's Derive: what it computes, where IsName's answer is known; conditions: the key's length, the label's. Two operations that make memory, in either order; mix.Derive; conditions: the lengths. Derive at every input; the law KeysAreDerived, walked; conditions: the lengths, the string's size. Plain laws of lists' trees: parts, paths, growth; no condition. SumOf, short and Framed: what they compute; conditions: the sizes. Node and the reference's: what they compute; conditions: the lengths. split and the reference's half: the greatest power of two less than n; bits.Len by the shelf's template; conditions: n's bounds. How many sums a path has; conditions: place and size. The reference's Node: what it computes; conditions: the lengths. lead: the root to which a path leads; conditions: place, size, the rows' lengths. sides: on which side each sum of a path stands; conditions: place and size. RootBy: the root to which a proof leads, of any proof; conditions: the rows' lengths. The reference's RootBy, of any proof; conditions: the rows' lengths. Proved, of any proof; conditions: the rows' lengths. A head: its cells, its octets; ledger.outside, ledger.PrintHead; no condition. Two chains of two operations in any order; no condition. keyref1.PrintHead; no condition. ledger.SealHead, CheckHead, keyref1.SealHead; conditions: the lengths. ledger.CheckHead, keyref1.SealHead; conditions: the lengths. -/
import Derived.Test.YtelhnimdfepmdaaJ3
import Derived.WideKeyArr
import Derived.Laws.OwnMore
import Derived.Deep.DeepCutAuto
import Derived.Deep.CutBlock
import Derived.Lib.AppendStr
import Derived.Laws.IdiomStrings
import Derived.WalkKit
import Derived.Test.YtelhnimdfepmdaaB1
import Derived.Lib.ItoaNum
import Derived.IntWalk
import Derived.Lib.SlBytesConst
namespace Go.Proofs.Ytelhnimdfepmdaa
section
open Go Go.RowKit

theorem askE_time {a : AskR} (h : askE a = 0) : ∃ T : Nat, a.time = (T : Int) ∧ T ≤ 1099511627776 := by
  have h6 : j6 a = false := by
    cases hj : j6 a with
    | false => rfl
    | true =>
      exfalso
      unfold askE at h
      rw [hj] at h
      repeat' split at h
      all_goals (first | (revert h; decide) | contradiction)
  unfold j6 at h6
  simp only [Bool.or_eq_false_iff, decide_eq_false_iff_not] at h6
  obtain ⟨T, hT⟩ := Int.eq_ofNat_of_zero_le (show 0 ≤ a.time by omega)
  exact ⟨T, hT, by omega⟩
theorem ruleE_parts {r : RuleR} (h : ruleE r = 0) : k4 r = false ∧ k6 r = false := by
  constructor
  · cases hk : k4 r with
    | false => rfl
    | true =>
      exfalso
      unfold ruleE at h
      rw [hk] at h
      repeat' split at h
      all_goals (first | (revert h; decide) | contradiction)
  · cases hk : k6 r with
    | false => rfl
    | true =>
      exfalso
      unfold ruleE at h
      rw [hk] at h
      repeat' split at h
      all_goals (first | (revert h; decide) | contradiction)
theorem ruleE_labels {r : RuleR} (h : ruleE r = 0) : ∀ s ∈ r.labels, patL s.data.toList = true := by
  have h4 := (ruleE_parts h).1
  unfold k4 at h4
  rw [List.any_eq_false] at h4
  intro s hs
  have := h4 s hs
  unfold badP at this
  simpa using this
theorem ruleE_hours {r : RuleR} (h : ruleE r = 0) : r.fr = r.tt → r.fr = 0 := by
  have h6 := (ruleE_parts h).2
  unfold k6 at h6
  simp only [Bool.or_eq_false_iff, Bool.and_eq_false_iff, decide_eq_false_iff_not] at h6
  intro he
  rcases h6.1.2 with h | h
  · exact absurd he h
  · exact Decidable.not_not.1 h

noncomputable def pMeetsV (r : RuleR) (a : AskR) : Value := if ruleE r = 0 then (if askE a = 0 then .tuple #[.bool (meetsB r a), .int .i64 0] else .tuple #[.bool false, .int .i64 (askE a)]) else .tuple #[.bool false, .int .i64 (ruleE r)]

set_option maxRecDepth 100000 in
set_option maxHeartbeats 2000000 in
theorem pMeets_c (r : RuleR) (a : AskR) (w : World) (hr : r.Ok w) (ha : a.Ok w) :
    Calls Try.prog 29 #[.agg r.v.toArray, .agg a.v.toArray] w fun e w' => e = .returned (pMeetsV r a) ∧ Ext w w' := by
  have hrf := hid (fun w' h => ruleFault_c r w' h)
  have hak := hid (fun w' h => checkAsk_c a w' h)
  have hme := hid (fun (h : askE a = 0) w' h1 h2 => (askE_time h).elim fun T hT => meets_c r a T w' h1 h2 hT.1 hT.2)
  have HRO := hid hr
  have HAO := hid ha
  have HLEN := hid (AskR.len ha)
  have HRL := hid (RuleR.len r)
  clear hr ha
  obtain ⟨V, hV⟩ : ∃ V, pMeetsV r a = V := ⟨_, rfl⟩
  have HV := hid hV
  rw [hV]
  clear hV
  go_enter Try.func29, Try.ntmps29
  go_upto_region 1 with (fail)
  generalize hwA : World.alloc (World.alloc w _) _ = wA
  have bA : Blk wA w.heap.size r.v 50 := by rw [← hwA]; exact (Blk.mk_alloc rfl rfl).alloc _
  have gA : Blk wA (w.heap.size + 1) a.v 42 := by rw [← hwA]; exact Blk.mk_alloc (by simp) rfl
  have eA : Ext w wA := by rw [← hwA]; exact ((Ext.refl w).alloc _).alloc _
  have BA := hid bA
  have GA := hid gA
  have EA := hid eA
  have RA := hid (HRO.out.ext eA)
  have QA := hid (HAO.out.ext eA)
  clear hwA bA gA eA HRO HAO
  go_wp2_with (refine wpl_loadw rfl 50 (.tmp 2) rfl rfl BA.out agg_rule HRL.out ?_)
  refine (hrf.out wA RA.out).mono ?_
  rintro e wB ⟨rfl, eB⟩
  have BB := hid (BA.out.ext eB)
  have GB := hid (GA.out.ext eB)
  have EB := hid (EA.out.ext eB)
  have RB := hid (RA.out.ext eB)
  have QB := hid (QA.out.ext eB)
  clear eB BA GA EA RA QA
  by_cases h0 : ruleE r = 0
  case neg =>
    have q1 : (ruleE r != 0) = true := by simp [h0]
    have q2 : decide (ruleE r = 0) = false := decide_eq_false h0
    have HN := hid (show V = .tuple #[.bool false, .int .i64 (ruleE r)] by rw [← HV.out]; unfold pMeetsV; rw [if_neg h0])
    generalize ruleE r = er at *
    clear HV hrf hak hme
    go_wp2
    go_ret2
    exact ⟨by rw [HN.out]; rfl, EB.out⟩
  have HN1 := hid (show V = (if askE a = 0 then .tuple #[.bool (meetsB r a), .int .i64 0] else .tuple #[.bool false, .int .i64 (askE a)]) by rw [← HV.out]; unfold pMeetsV; rw [if_pos h0])
  rw [h0]
  clear h0 HV hrf
  go_wp2_with (refine wpl_loadw rfl 42 (.tmp 3) rfl rfl GB.out agg_ask HLEN.out ?_)
  refine (hak.out wB QB.out).mono ?_
  rintro e wC ⟨rfl, eC⟩
  have BC := hid (BB.out.ext eC)
  have GC := hid (GB.out.ext eC)
  have EC := hid (EB.out.ext eC)
  have RC := hid (RB.out.ext eC)
  have QC := hid (QB.out.ext eC)
  clear eC BB GB EB RB QB
  by_cases h1 : askE a = 0
  case neg =>
    have q1 : (askE a != 0) = true := by simp [h1]
    have q2 : decide (askE a = 0) = false := decide_eq_false h1
    have HN := hid (show V = .tuple #[.bool false, .int .i64 (askE a)] by rw [HN1.out, if_neg h1])
    generalize askE a = er at *
    clear HN1 hak hme
    go_wp2
    go_ret2
    exact ⟨by rw [HN.out]; rfl, EC.out⟩
  have HN := hid (show V = .tuple #[.bool (meetsB r a), .int .i64 0] by rw [HN1.out, if_pos h1])
  have hm2 := hid (hme.out h1)
  rw [h1]
  clear h1 HN1 hak hme
  go_wp2_with (first | (refine wpl_loadw rfl 50 (.tmp 2) rfl rfl BC.out agg_rule HRL.out ?_) | (refine wpl_loadw rfl 42 (.tmp 3) rfl rfl GC.out agg_ask HLEN.out ?_))
  refine (hm2.out wC RC.out QC.out).mono ?_
  rintro e wD ⟨rfl, eD⟩
  have ED := hid (EC.out.ext eD)
  clear eD
  go_wp2_with fail
  go_ret2
  exact ⟨by rw [HN.out]; rfl, ED.out⟩

noncomputable def pDecD (rs : List RuleR) (pn : Nat) (a : AskR) : DecR := if polE rs pn = 0 then (if askE a = 0 then decideD a rs else zeroDec) else zeroDec
noncomputable def pDecE (rs : List RuleR) (pn : Nat) (a : AskR) : Int := if polE rs pn = 0 then askE a else polE rs pn
theorem built_dec0 : Try.prog.built 44 [] = some zeroDec.v.toArray := by kernel_rfl

set_option maxRecDepth 100000 in
set_option maxHeartbeats 2000000 in
theorem pDecide_c (pa : Option Addr) (pn pc : Nat) (rs : List RuleR) (a : AskR) (w : World) (hp : PolOk w pa pn pc rs) (ha : a.Ok w) :
    Calls Try.prog 18 #[.agg #[.slice pa pn pc], .agg a.v.toArray] w fun e w' => e = .returned (.tuple #[.agg (pDecD rs pn a).v.toArray, .int .i64 (pDecE rs pn a)]) ∧ Ext w w' := by
  have hck := hid (fun w' h => check_c pa pn pc rs w' h)
  have hak := hid (fun w' h => checkAsk_c a w' h)
  have hde := hid (fun (h : askE a = 0) w' h1 h2 => (askE_time h).elim fun T hT => decide_c pa pn pc rs a T w' h1 h2 hT.1 hT.2)
  have HPO := hid hp
  have HAO := hid ha
  have HLEN := hid (AskR.len ha)
  clear hp ha
  obtain ⟨D, hD⟩ : ∃ D, pDecD rs pn a = D := ⟨_, rfl⟩
  obtain ⟨E, hE⟩ : ∃ E, pDecE rs pn a = E := ⟨_, rfl⟩
  have HD := hid hD
  have HE := hid hE
  rw [hD, hE]
  clear hD hE
  go_enter Try.func18, Try.ntmps18
  go_upto_region 1 with (fail)
  generalize hwA : World.alloc (World.alloc (World.alloc w _) _) _ = wA
  have bA : Blk wA w.heap.size [.slice pa pn pc] 38 := by rw [← hwA]; exact ((Blk.mk_alloc rfl rfl).alloc _).alloc _
  have gA : Blk wA (w.heap.size + 1) a.v 42 := by rw [← hwA]; exact (Blk.mk_alloc (by simp) rfl).alloc _
  have zA : Blk wA (w.heap.size + 2) zeroDec.v 44 := by rw [← hwA]; exact Blk.mk_alloc (by simp) rfl
  have eA : Ext w wA := by rw [← hwA]; exact (((Ext.refl w).alloc _).alloc _).alloc _
  have BA := hid bA
  have GA := hid gA
  have ZA := hid zA
  have EA := hid eA
  have PA := hid (HPO.out.ext eA)
  have QA := hid (HAO.out.ext eA)
  have c0 := bA.cell' (i := 0) rfl
  clear hwA bA gA zA eA HPO HAO
  go_wp2_with fail
  refine (hck.out wA PA.out).mono ?_
  rintro e wB ⟨rfl, eB⟩
  have BB := hid (BA.out.ext eB)
  have GB := hid (GA.out.ext eB)
  have ZB := hid (ZA.out.ext eB)
  have EB := hid (EA.out.ext eB)
  have PB := hid (PA.out.ext eB)
  have QB := hid (QA.out.ext eB)
  clear eB BA GA ZA EA PA QA
  clear c0
  by_cases h0 : polE rs pn = 0
  case neg =>
    have q1 : (polE rs pn != 0) = true := by simp [h0]
    have q2 : decide (polE rs pn = 0) = false := decide_eq_false h0
    have HN := hid (show D = zeroDec by rw [← HD.out]; unfold pDecD; rw [if_neg h0])
    have HM := hid (show E = polE rs pn by rw [← HE.out]; unfold pDecE; rw [if_neg h0])
    generalize polE rs pn = er at *
    clear HD HE hck hak hde
    go_wp2_with (refine wpl_storew rfl _ (.tmp 4) _ rfl rfl rfl ZB.out agg_dec rfl (DecR.len zeroDec) (decV_one zeroDec) ?_)
    intro wD bD uD
    have ED := hid (uD.ext EB.out (by omega))
    go_wp2_with fail
    exact ret_row2 rfl rfl bD agg_dec rfl rfl ⟨by rw [HN.out, HM.out]; rfl, ED.out⟩
  have HN1 := hid (show D = (if askE a = 0 then decideD a rs else zeroDec) by rw [← HD.out]; unfold pDecD; rw [if_pos h0])
  have HM1 := hid (show E = askE a by rw [← HE.out]; unfold pDecE; rw [if_pos h0])
  rw [h0]
  clear h0 HD HE hck
  go_wp2_with (refine wpl_loadw rfl 42 (.tmp 3) rfl rfl GB.out agg_ask HLEN.out ?_)
  refine (hak.out wB QB.out).mono ?_
  rintro e wC ⟨rfl, eC⟩
  have BC := hid (BB.out.ext eC)
  have GC := hid (GB.out.ext eC)
  have ZC := hid (ZB.out.ext eC)
  have EC := hid (EB.out.ext eC)
  have PC := hid (PB.out.ext eC)
  have QC := hid (QB.out.ext eC)
  clear eC BB GB ZB EB PB QB
  by_cases h1 : askE a = 0
  case neg =>
    have q1 : (askE a != 0) = true := by simp [h1]
    have q2 : decide (askE a = 0) = false := decide_eq_false h1
    have HN := hid (show D = zeroDec by rw [HN1.out, if_neg h1])
    generalize askE a = er at *
    clear HN1 hak hde
    go_wp2_with (refine wpl_storew rfl _ (.tmp 4) _ rfl rfl rfl ZC.out agg_dec rfl (DecR.len zeroDec) (decV_one zeroDec) ?_)
    intro wD bD uD
    have ED := hid (uD.ext EC.out (by omega))
    go_wp2_with fail
    exact ret_row2 rfl rfl bD agg_dec rfl rfl ⟨by rw [HN.out, HM1.out]; rfl, ED.out⟩
  have HN := hid (show D = decideD a rs by rw [HN1.out, if_pos h1])
  have hm2 := hid (hde.out h1)
  rw [h1] at HM1
  rw [h1]
  clear h1 HN1 hak hde
  have c0 := BC.out.cell' (i := 0) rfl
  go_wp2_with (refine wpl_loadw rfl 42 (.tmp 3) rfl rfl GC.out agg_ask HLEN.out ?_)
  refine (hm2.out wC PC.out QC.out).mono ?_
  rintro e wD ⟨rfl, eD⟩
  have ED := hid (EC.out.ext eD)
  have ZD := hid (ZC.out.ext eD)
  clear eD c0
  generalize decideD a rs = DD at *
  go_wp2_with (refine wpl_storew rfl _ (.tmp 4) _ rfl rfl rfl ZD.out agg_dec rfl (DecR.len DD) (decV_one DD) ?_)
  intro wF bF uF
  have EF := hid (uF.ext ED.out (by omega))
  go_wp2_with fail
  exact ret_row2 rfl rfl bF agg_dec (DecR.len DD) rfl ⟨by rw [HN.out, HM1.out]; rfl, EF.out⟩
end

section
open Go Go.RowKit

theorem no_deny {a : AskR} {rs : List RuleR} {k : Nat} {r : RuleR} (h : rs[k]? = some r) (hp : ∀ x ∈ rs.take k, ¬ (meetsB x a = true ∧ x.deny = true)) (hr : ¬ (meetsB r a = true ∧ r.deny = true)) : ∀ x ∈ rs.take (k + 1), ¬ (meetsB x a = true ∧ x.deny = true) := by
  intro x hx
  rw [List.take_add_one, h, List.mem_append] at hx
  rcases hx with hx | hx
  · exact hp x hx
  · simp at hx; rw [hx]; exact hr

set_option maxRecDepth 100000 in
set_option maxHeartbeats 4000000 in
theorem rdecide_c (pa : Option Addr) (pn pc : Nat) (rs : List RuleR) (a : AskR) (w : World) (hp : PolOk w pa pn pc rs) (ha : a.Ok w) (hv : ∀ r ∈ rs, ruleE r = 0) (h0 : askE a = 0) :
    Calls Try.prog 23 #[.agg #[.slice pa pn pc], .agg a.v.toArray] w fun e w' => e = .returned (.agg (decideD a rs).v.toArray) ∧ Ext w w' := by
  obtain ⟨T, hT, hTb⟩ := askE_time h0
  have hme := hid (fun r w' h1 h2 (h3 : ruleE r = 0) => rmeets_c r a T w' h1 h2 hT hTb (ruleE_labels h3) (ruleE_hours h3))
  have HPO := hid hp
  have hn63 : pn ≤ 140737488355328 := by have := hp.hnc; have := hp.hm; omega
  have HLEN := hid (AskR.len ha)
  have HAO := hid ha
  have HVAL := hid hv
  clear hp ha hT hTb hv h0
  obtain ⟨D, hD⟩ : ∃ D, decideD a rs = D := ⟨_, rfl⟩
  have HD := hid hD
  rw [hD]
  clear hD
  go_enter Try.func23, Try.ntmps23
  go_upto_region 1 with (fail)
  generalize hwA : World.alloc (World.alloc (World.alloc w _) _) _ = wA
  have bA : Blk wA w.heap.size [.slice pa pn pc] 38 := by rw [← hwA]; exact ((Blk.mk_alloc rfl rfl).alloc _).alloc _
  have gA : Blk wA (w.heap.size + 1) a.v 42 := by rw [← hwA]; exact (Blk.mk_alloc (by simp) rfl).alloc _
  have zA : Blk wA (w.heap.size + 2) zeroDec.v 44 := by rw [← hwA]; exact Blk.mk_alloc (by simp) rfl
  have eA : Ext w wA := by rw [← hwA]; exact (((Ext.refl w).alloc _).alloc _).alloc _
  have BA := hid bA
  have GA := hid gA
  have ZA := hid zA
  have EA := hid eA
  have hgA : w.heap.size + 2 < wA.heap.size := zA.lt
  clear hwA bA gA zA eA
  go_wp2_with (refine wpl_storew rfl _ (.tmp 5) _ rfl rfl rfl (Blk.mk_alloc (vs := zeroDec.v) rfl rfl) agg_dec rfl (DecR.len noneDec) (decV_one noneDec) ?_)
  intro wB bB uB
  have eB : Ext wA wB := uB.ext ((Ext.refl wA).alloc _) (Nat.le_refl _)
  have NB := hid (show Blk wB wA.heap.size noneDec.v 44 from bB)
  clear uB bB
  have BB := hid (BA.out.ext eB)
  have GB := hid (GA.out.ext eB)
  have ZB := hid (ZA.out.ext eB)
  have EB := hid (EA.out.ext eB)
  clear eB BA GA ZA EA
  have PB := hid (HPO.out.ext EB.out)
  have QB := hid (HAO.out.ext EB.out)
  have c0 := BB.out.cell' (i := 0) rfl
  have hgb : w.heap.size + 2 < wA.heap.size := hgA
  generalize wA.heap.size = g5 at *
  go_wp2
  go_loopw [14] (fun i wr => ∃ k : Nat, k ≤ pn ∧ i = .int .i64 (k : Int) ∧ (∀ x ∈ rs.take k, ¬ (meetsB x a = true ∧ x.deny = true)) ∧ Ext wB wr) (fun i _ => pn - (intOf i).toNat)
  case atStart => exact ⟨0, by omega, rfl, by simp, Ext.refl _⟩
  case round =>
    obtain ⟨k, hk, rfl, hpre, e1⟩ := hrel
    have E1 := hid e1
    have HPR := hid hpre
    clear e1 hpre
    by_cases hlt : k < pn
    · obtain ⟨r, hrk⟩ : ∃ r, rs[k]? = some r := ⟨rs[k]'(by rw [PB.out.hl]; exact hlt), by simp⟩
      obtain ⟨A, rfl, hca⟩ := (PB.out.ext E1.out).at hrk
      have HCA := hid hca
      have HOK := hid ((PB.out.ok r (List.mem_of_getElem? hrk)).ext E1.out)
      have hrv := hid (HVAL.out r (List.mem_of_getElem? hrk))
      have HRL := hid (RuleR.len r)
      have HRK := hid hrk
      clear hca hrk
      have hro := ruleV_one r
      go_wp2_with (first | (refine wpl_run rfl (exec_index (i := k) rfl rfl rfl Try.underlying36 size_rule hlt _) ?_) | (refine wpl_run rfl (exec_load_at rfl rfl HCA.out agg_rule HRL.out) ?_) | (refine wpl_storew rfl _ (.tmp 7) _ rfl rfl rfl (Blk.mk_alloc (vs := zeroRule) rfl rfl) agg_rule rfl HRL.out hro ?_))
      intro wC bC uC
      have eC : Ext wr wC := uC.ext ((Ext.refl wr).alloc _) (Nat.le_refl _)
      have BC := hid bC
      have EC := hid (E1.out.ext eC)
      have HOC := hid (HOK.out.ext eC)
      have GC := hid (GB.out.ext EC.out)
      have QC := hid (QB.out.ext EC.out)
      clear bC uC eC HOK
      generalize wr.heap.size = gr at *
      go_wp2_with (first | (refine wpl_loadw rfl 50 (.tmp 7) rfl rfl BC.out agg_rule HRL.out ?_) | (refine wpl_loadw rfl 42 (.tmp 3) rfl rfl GC.out agg_ask HLEN.out ?_))
      refine (hme.out r wC HOC.out QC.out hrv.out).mono ?_
      rintro e wD ⟨rfl, eD⟩
      have ED := hid (EC.out.ext eD)
      have BD := hid (BC.out.ext eD)
      clear eD BC EC HOC GC QC
      cases hm : meetsB r a with
      | false =>
        have HN := hid (no_deny HRK.out HPR.out (fun h => by rw [hm] at h; cases h.1))
        clear hm HPR HRK
        go_wp2
        go_roundw
        case rel => exact ⟨k + 1, by omega, by go_num, HN.out, ED.out⟩
        case measure => simp [intOf]; omega
      | true =>
      have c9 := BD.out.cell' (i := 0) rfl
      cases hd : r.deny with
      | true =>
        have hN := decF_first rs 0 k r none HRK.out HPR.out hm hd
        rw [Nat.zero_add] at hN
        have HN := hid (hN.symm.trans HD.out)
        have ZD := hid (ZB.out.ext ED.out)
        rw [hd] at c9
        clear hm HPR HRK hN
        go_wp2_with (refine wpl_storew rfl _ (.tmp 4) _ rfl rfl rfl ZD.out agg_dec rfl (DecR.len (denyDec k)) (decV_one (denyDec k)) ?_)
        intro wF bF uF
        have EF := hid (uF.ext (EB.out.ext ED.out) (by omega))
        go_wp2_with fail
        exact ret_row rfl rfl bF agg_dec rfl rfl ⟨by rw [← HN.out]; rfl, EF.out⟩
      | false =>
        have HN := hid (no_deny HRK.out HPR.out (fun h => by rw [hd] at h; cases h.2))
        rw [hd] at c9
        clear hm HPR HRK
        go_wp2
        go_roundw
        case rel => exact ⟨k + 1, by omega, by go_num, HN.out, ED.out⟩
        case measure => simp [intOf]; omega
    · obtain rfl : k = pn := by omega
      have hall := HPR.out
      rw [List.take_of_length_le (by rw [PB.out.hl]; exact Nat.le_refl _)] at hall
      have HALL := hid hall
      have c0' := (BB.out.ext E1.out).cell' (i := 0) rfl
      have NE := hid (NB.out.ext E1.out)
      have GE := hid (GB.out.ext E1.out)
      have ZE := hid (ZB.out.ext E1.out)
      have EE := hid (EB.out.ext E1.out)
      clear hall HPR c0 BB PB QB GB ZB NB
      have hpn : rs.length = k := HPO.out.hl
      generalize hkk : k = pn at *
      clear hkk hk hlt
      have HPN := hid hpn
      clear hpn
      go_wp2
      go_loopw [31] (fun i wr => ∃ (k : Nat) (best : Option (Nat × RuleR)), k ≤ pn ∧ i = .int .i64 (k : Int) ∧ decF a (rs.drop k) k best = D ∧ Blk wr g5 (bestDec best).v 44 ∧ Blk wr (w.heap.size + 1) a.v 42 ∧ Blk wr (w.heap.size + 2) zeroDec.v 44 ∧ Ext w wr) (fun i _ => pn - (intOf i).toNat)
      case atStart => exact ⟨0, none, by omega, rfl, by rw [List.drop_zero]; exact HD.out, NE.out, GE.out, ZE.out, EE.out⟩
      case round =>
        obtain ⟨k, best, hk, rfl, hdec, hnb, hgb2, hzb, e2⟩ := hrel
        have E2 := hid e2
        have HDC := hid hdec
        have NB := hid hnb
        have GB := hid hgb2
        have ZB := hid hzb
        clear e2 hdec hnb hgb2 hzb NE GE ZE EE E1 EB c0'
        by_cases hlt : k < pn
        · obtain ⟨r, hrk⟩ : ∃ r, rs[k]? = some r := ⟨rs[k]'(by rw [HPN.out]; exact hlt), by simp⟩
          obtain ⟨A, rfl, hca⟩ := (HPO.out.ext E2.out).at hrk
          have HCA := hid hca
          have HOK := hid ((HPO.out.ok r (List.mem_of_getElem? hrk)).ext E2.out)
          have hrv := hid (HVAL.out r (List.mem_of_getElem? hrk))
          have hnd := hid (HALL.out r (List.mem_of_getElem? hrk))
          have HRL := hid (RuleR.len r)
          have HRK := hid hrk
          clear hca hrk
          have hro := ruleV_one r
          go_wp2_with (first | (refine wpl_run rfl (exec_index (i := k) rfl rfl rfl Try.underlying36 size_rule hlt _) ?_) | (refine wpl_run rfl (exec_load_at rfl rfl HCA.out agg_rule HRL.out) ?_) | (refine wpl_storew rfl _ (.tmp 9) _ rfl rfl rfl (Blk.mk_alloc (vs := zeroRule) rfl rfl) agg_rule rfl HRL.out hro ?_))
          intro wC bC uC
          have eC : Ext wr wC := uC.ext ((Ext.refl wr).alloc _) (Nat.le_refl _)
          have BC := hid bC
          have EC := hid (E2.out.ext eC)
          have HOC := hid (HOK.out.ext eC)
          have NC := hid (NB.out.ext eC)
          have GC := hid (GB.out.ext eC)
          have ZC := hid (ZB.out.ext eC)
          have QC := hid (HAO.out.ext EC.out)
          clear bC uC eC HOK NB GB ZB E2
          generalize wr.heap.size = gr at *
          go_wp2_with (first | (refine wpl_loadw rfl 50 (.tmp 9) rfl rfl BC.out agg_rule HRL.out ?_) | (refine wpl_loadw rfl 42 (.tmp 3) rfl rfl GC.out agg_ask HLEN.out ?_))
          refine (hme.out r wC HOC.out QC.out hrv.out).mono ?_
          rintro e wD ⟨rfl, eD⟩
          have ED := hid (EC.out.ext eD)
          have BD := hid (BC.out.ext eD)
          have ND := hid (NC.out.ext eD)
          have GD := hid (GC.out.ext eD)
          have ZD := hid (ZC.out.ext eD)
          clear eD BC EC HOC NC GC ZC QC
          cases hm : meetsB r a with
          | false =>
            have HN := hid ((decF_no HRK.out hm).symm.trans HDC.out)
            clear hm HDC HRK
            go_wp2
            go_roundw
            case rel => exact ⟨k + 1, best, by omega, by go_num, HN.out, ND.out, GD.out, ZD.out, ED.out⟩
            case measure => simp [intOf]; omega
          | true =>
          have hd : r.deny = false := by
            cases h : r.deny with
            | false => rfl
            | true => exact absurd ⟨hm, h⟩ hnd.out
          have hN := (decF_yes HRK.out hm hd).symm.trans HDC.out
          have c6 := BD.out.cell' (i := 6) rfl
          have c7 := BD.out.cell' (i := 7) rfl
          have n1 := ND.out.cell' (i := 1) rfl
          have n2 := ND.out.cell' (i := 2) rfl
          have hg5 : w.heap.size ≤ g5 := by omega
          clear hm hd hnd HDC HRK
          have hstep : ∀ (bst : Option (Nat × RuleR)), betterB r best = true → (if betterB r best then some (k, r) else best) = some (k, r) := fun _ h => by rw [h]; rfl
          cases best with
          | none =>
            have HN := hid (show decF a (rs.drop (k + 1)) (k + 1) (some (k, r)) = D from hN)
            have m1 : (bestDec none).ru = -1 := rfl
            have m2 : decide ((bestDec none).ru < 0) = true := by rw [m1]; decide
            rw [m1] at n1
            clear hN hstep m1 m2
            go_wp2_with (refine wpl_storew rfl _ (.tmp 5) _ rfl rfl rfl ND.out agg_dec (DecR.len _) (DecR.len (bestDec (some (k, r)))) (decV_one (bestDec (some (k, r)))) ?_)
            intro wF bF uF
            have EF := hid (uF.ext ED.out hg5)
            have NF := hid bF
            have GF := hid (GD.out.upd uF (by omega))
            have ZF := hid (ZD.out.upd uF (by omega))
            clear bF uF ED ND GD ZD BD
            go_wp2_with fail
            go_roundw
            case rel => exact ⟨k + 1, some (k, r), by omega, by go_num, HN.out, NF.out, GF.out, ZF.out, EF.out⟩
            case measure => simp [intOf]; omega
          | some bq =>
            obtain ⟨b, q⟩ := bq
            have m1 : (bestDec (some (b, q))).ru = (b : Int) := rfl
            have m2 : (bestDec (some (b, q))).nd = q.nd := rfl
            rw [m1] at n1
            rw [m2] at n2
            have m3 : decide (((b : Nat) : Int) < 0) = false := decide_eq_false (by omega)
            by_cases hbt : r.nd < q.nd
            · have q1 : decide (r.nd < q.nd) = true := decide_eq_true hbt
              rw [show betterB r (some (b, q)) = true from q1, if_pos rfl] at hN
              have HN := hid hN
              clear hN hstep m1 m2
              go_wp2_with (refine wpl_storew rfl _ (.tmp 5) _ rfl rfl rfl ND.out agg_dec (DecR.len _) (DecR.len (bestDec (some (k, r)))) (decV_one (bestDec (some (k, r)))) ?_)
              intro wF bF uF
              have EF := hid (uF.ext ED.out hg5)
              have NF := hid bF
              have GF := hid (GD.out.upd uF (by omega))
              have ZF := hid (ZD.out.upd uF (by omega))
              clear bF uF ED ND GD ZD BD
              go_wp2_with fail
              go_roundw
              case rel => exact ⟨k + 1, some (k, r), by omega, by go_num, HN.out, NF.out, GF.out, ZF.out, EF.out⟩
              case measure => simp [intOf]; omega
            · have q1 : decide (r.nd < q.nd) = false := decide_eq_false hbt
              rw [show betterB r (some (b, q)) = false from q1] at hN
              simp only [Bool.false_eq_true, if_false] at hN
              have HN := hid hN
              clear hN hstep m1 m2
              go_wp2
              go_roundw
              case rel => exact ⟨k + 1, some (b, q), by omega, by go_num, HN.out, ND.out, GD.out, ZD.out, ED.out⟩
              case measure => simp [intOf]; omega
        · obtain rfl : k = pn := by omega
          have HN := hid ((decF_end (by rw [HPN.out]; exact Nat.le_refl _)).symm.trans HDC.out)
          have HBL := hid (DecR.len (bestDec best))
          clear HDC
          generalize bestDec best = bd at *
          go_wp2_with (first | (refine wpl_loadw rfl 44 (.tmp 5) rfl rfl NB.out agg_dec HBL.out ?_) | (refine wpl_storew rfl _ (.tmp 4) _ rfl rfl rfl ZB.out agg_dec rfl HBL.out (decV_one bd) ?_))
          intro wF bF uF
          have EF := hid (uF.ext E2.out (by omega))
          go_wp2_with fail
          exact ret_row rfl rfl bF agg_dec HBL.out rfl ⟨by rw [← HN.out], EF.out⟩
end

section
open Go Go.RowKit Go.Maps Go.MapKept Go.WideShapes

structure ApprR where
  member : List UInt8
  sa : Option Addr
  sn : Nat
  sc : Nat
  roles : List ByteArray
def ApprR.v (x : ApprR) : List Value := x.member.map u8v ++ [.slice x.sa x.sn x.sc]
structure ApprR.Ok (w : World) (x : ApprR) : Prop where
  hm : x.member.length = 16
  sl : x.roles.length = x.sn
  snc : x.sn ≤ x.sc
  sm : x.sc ≤ 140737488355328
  scell : Cells w x.sa (x.roles.map encS)
  ss : ∀ s ∈ x.roles, s.size ≤ 140737488355328
theorem ApprR.Ok.ext {w w' : World} {x : ApprR} (h : x.Ok w) (e : Ext w w') : x.Ok w' := ⟨h.hm, h.sl, h.snc, h.sm, h.scell.ext e, h.ss⟩
theorem ApprR.len {w : World} {x : ApprR} (h : x.Ok w) : x.v.length = 17 := by unfold ApprR.v; simp [h.hm]
theorem ApprR.at16 {w : World} {x : ApprR} (h : x.Ok w) : x.v[16]? = some (.slice x.sa x.sn x.sc) := by
  unfold ApprR.v; rw [List.getElem?_append_right (by simp [h.hm])]; simp [h.hm]
theorem ApprR.part0 {w : World} {x : ApprR} (h : x.Ok w) : (x.v.drop 0).take 16 = x.member.map u8v := by
  unfold ApprR.v; rw [List.drop_zero, List.take_left' (by simp [h.hm])]
theorem ApprR.one (x : ApprR) : ∀ v ∈ x.v, v.oneCell' = true := by
  intro v hv
  unfold ApprR.v at hv
  rcases List.mem_append.1 hv with h | h
  · exact one_u8 x.member v h
  · simp at h; rw [h]; rfl
def apprsV (ls : List ApprR) : List Value := ls.flatMap ApprR.v
structure ApprsOk (w : World) (a : Option Addr) (n c : Nat) (ls : List ApprR) : Prop where
  hl : ls.length = n
  hnc : n ≤ c
  hm : c ≤ 140737488355328
  cell : Cells w a (apprsV ls)
  ok : ∀ x ∈ ls, x.Ok w
theorem ApprsOk.ext {w w' : World} {a : Option Addr} {n c : Nat} {ls : List ApprR} (h : ApprsOk w a n c ls) (e : Ext w w') : ApprsOk w' a n c ls := ⟨h.hl, h.hnc, h.hm, h.cell.ext e, fun x hx => (h.ok x hx).ext e⟩
theorem apprsV_length {w : World} {ls : List ApprR} (h : ∀ x ∈ ls, x.Ok w) : (apprsV ls).length = 17 * ls.length := by
  induction ls with
  | nil => rfl
  | cons x ls ih =>
    unfold apprsV at ih ⊢
    rw [List.flatMap_cons, List.length_append, ih (fun y hy => h y (List.mem_cons_of_mem _ hy)), ApprR.len (h x (by simp)), List.length_cons]; omega
theorem apprsV_at {w : World} {ls : List ApprR} (hok : ∀ x ∈ ls, x.Ok w) {k : Nat} {x : ApprR} (h : ls[k]? = some x) : ((apprsV ls).drop (k * 17)).take 17 = x.v := by
  induction ls generalizing k with
  | nil => simp at h
  | cons y ls ih =>
    unfold apprsV at ih ⊢
    rw [List.flatMap_cons]
    have hy := ApprR.len (hok y (by simp))
    cases k with
    | zero =>
      simp only [List.getElem?_cons_zero, Option.some.injEq] at h
      subst h
      rw [Nat.zero_mul, List.drop_zero, List.take_append_of_le_length (by rw [hy]; exact Nat.le_refl _), List.take_of_length_le (by rw [hy]; exact Nat.le_refl _)]
    | succ k =>
      rw [List.getElem?_cons_succ] at h
      rw [List.drop_append, hy, List.drop_of_length_le (by rw [hy]; omega), List.nil_append, show (k + 1) * 17 - 17 = k * 17 by omega]
      exact ih (fun z hz => hok z (List.mem_cons_of_mem _ hz)) h
theorem ApprsOk.at {w : World} {a : Option Addr} {n c : Nat} {ls : List ApprR} (h : ApprsOk w a n c ls) {k : Nat} {x : ApprR} (hk : ls[k]? = some x) : ∃ A, a = some A ∧ CellsAt w (A.add (k * 17)) x.v := by
  have hk2 := (List.getElem?_eq_some_iff.1 hk).1
  obtain ⟨b, o, rfl, hc⟩ := h.cell.some_of (by rw [apprsV_length h.ok]; omega)
  refine ⟨_, rfl, fun j u hu => ?_⟩
  rw [addr_add, addr_add, Nat.add_assoc]
  refine hc _ _ ?_
  rw [← apprsV_at h.ok hk] at hu
  have hj : j < 17 := by
    have := (List.getElem?_eq_some_iff.1 hu).1
    rw [List.length_take] at this; omega
  rw [List.getElem?_take_of_lt hj, List.getElem?_drop] at hu
  exact hu

/-- what is found in a list of roles, from the place k on -/
def scanF : Option ByteArray → List ByteArray → Int
  | _, [] => 0
  | none, s :: r => if badS s then 6 else scanF (some s) r
  | some p, s :: r => if badS s then 6 else if lessS p s then scanF (some s) r else 9
def prevS (ls : List ByteArray) : Nat → Option ByteArray
  | 0 => none
  | k + 1 => ls[k]?
def scanAt (ls : List ByteArray) (k : Nat) : Int := scanF (prevS ls k) (ls.drop k)
theorem drop_atS {ls : List ByteArray} {k : Nat} {s : ByteArray} (h : ls[k]? = some s) : ls.drop k = s :: ls.drop (k + 1) := by
  obtain ⟨hk, rfl⟩ := List.getElem?_eq_some_iff.1 h
  exact List.drop_eq_getElem_cons hk
theorem scanAt_bad {ls : List ByteArray} {k : Nat} {s : ByteArray} (h : ls[k]? = some s) (hb : badS s = true) : scanAt ls k = 6 := by
  unfold scanAt; rw [drop_atS h]
  cases prevS ls k <;> (unfold scanF; rw [if_pos hb])
theorem scanAt_zero {ls : List ByteArray} {s : ByteArray} (h : ls[0]? = some s) (hb : badS s = false) : scanAt ls 0 = scanAt ls 1 := by
  unfold scanAt; rw [drop_atS h]
  show scanF none (s :: ls.drop 1) = scanF (ls[0]?) (ls.drop 1)
  rw [h]; conv => lhs; unfold scanF
  rw [hb]; simp
theorem scanAt_step {ls : List ByteArray} {k : Nat} {p s : ByteArray} (hp : ls[k]? = some p) (h : ls[k + 1]? = some s) (hb : badS s = false) : (lessS p s = true → scanAt ls (k + 1) = scanAt ls (k + 2)) ∧ (lessS p s = false → scanAt ls (k + 1) = 9) := by
  have e : scanAt ls (k + 1) = scanF (some p) (s :: ls.drop (k + 2)) := by
    unfold scanAt; rw [drop_atS h]; show scanF (ls[k]?) _ = _; rw [hp]
  have e2 : scanAt ls (k + 2) = scanF (some s) (ls.drop (k + 2)) := by
    unfold scanAt; show scanF (ls[k + 1]?) _ = _; rw [h]
  constructor
  · intro hl
    rw [e, e2]; conv => lhs; unfold scanF
    rw [hb, hl]; simp
  · intro hl
    rw [e]; unfold scanF
    rw [hb, hl]; simp
theorem scanAt_end {ls : List ByteArray} {k : Nat} (h : ls.length ≤ k) : scanAt ls k = 0 := by
  unfold scanAt; rw [List.drop_of_length_le h]
  cases prevS ls k <;> rfl
def apprsE : List ApprR → Int
  | [] => 0
  | x :: r => if scanAt x.roles 0 = 0 then apprsE r else scanAt x.roles 0
theorem drop_atA {ls : List ApprR} {k : Nat} {x : ApprR} (h : ls[k]? = some x) : ls.drop k = x :: ls.drop (k + 1) := by
  obtain ⟨hk, rfl⟩ := List.getElem?_eq_some_iff.1 h
  exact List.drop_eq_getElem_cons hk
theorem apprsE_ok {ls : List ApprR} {k : Nat} {x : ApprR} (h : ls[k]? = some x) (h0 : scanAt x.roles 0 = 0) : apprsE (ls.drop k) = apprsE (ls.drop (k + 1)) := by
  rw [drop_atA h]; conv => lhs; unfold apprsE
  rw [if_pos h0]
theorem apprsE_bad {ls : List ApprR} {k : Nat} {x : ApprR} (h : ls[k]? = some x) (h0 : scanAt x.roles 0 ≠ 0) : apprsE (ls.drop k) = scanAt x.roles 0 := by
  rw [drop_atA h]; conv => lhs; unfold apprsE
  rw [if_neg h0]

noncomputable def addK (ks : List Value) (key : Value) : List Value := @ite _ (key ∈ ks) (Classical.propDecidable _) ks (ks ++ [key])
theorem addK_of {ks ks' : List Value} {key : Value} (h : (key ∈ ks ∧ ks' = ks) ∨ (key ∉ ks ∧ ks' = ks ++ [key])) : ks' = addK ks key := by
  unfold addK
  rcases h with ⟨h1, h2⟩ | ⟨h1, h2⟩
  · rw [if_pos h1]; exact h2
  · rw [if_neg h1]; exact h2
def idV (x : ApprR) : Value := .agg (x.member.map u8v).toArray
noncomputable def whoStep (ow : ByteArray) (ks : List Value) (x : ApprR) : List Value := if memT x.roles ow then addK ks (idV x) else ks
noncomputable def whoF (ow : ByteArray) (ls : List ApprR) (ks : List Value) : List Value := ls.foldl (whoStep ow) ks
theorem whoF_at {ow : ByteArray} {ls : List ApprR} {k : Nat} {x : ApprR} {ks : List Value} (h : ls[k]? = some x) : whoF ow (ls.drop k) ks = whoF ow (ls.drop (k + 1)) (whoStep ow ks x) := by
  rw [drop_atA h]; rfl
theorem whoF_end {ow : ByteArray} {ls : List ApprR} {k : Nat} {ks : List Value} (h : ls.length ≤ k) : whoF ow (ls.drop k) ks = ks := by
  rw [List.drop_of_length_le h]; rfl

/-- members as keys -/
theorem id_keyed : Keyed Try.prog 29 := Keyed.of_law (WideMaps.ArrKey.law (e := 5) (n := 16) ⟨Try.underlying29, by kernel_rfl, by kernel_rfl, by kernel_rfl⟩)
theorem mapM_someU {α β : Type} (g : α → Option β) : ∀ (l : List α), (∀ i ∈ l, ∃ y, g i = some y) → ∃ ys, l.mapM g = some ys
  | [], _ => ⟨[], rfl⟩
  | a :: l, h => by
    obtain ⟨y, hy⟩ := h a (by simp)
    obtain ⟨ys, hys⟩ := mapM_someU g l (fun i hi => h i (List.mem_cons_of_mem _ hi))
    exact ⟨y :: ys, by rw [List.mapM_cons, hy, hys]; rfl⟩
theorem key_id {m : List UInt8} (hm : m.length = 16) : ∃ l, keyOf Try.prog 29 (.agg (m.map u8v).toArray) = some l := by
  have ht := Try.underlying29
  have hk : Try.prog.keyType 29 = true := by kernel_rfl
  have hc : Try.prog.cellsOf 29 = 16 := by kernel_rfl
  have hc8 : Try.prog.cellsOf 5 = 1 := by kernel_rfl
  have hf : (Value.agg (m.map u8v).toArray).formed Try.prog 29 = true := by simp [Value.formed, ht, hc, hm]
  obtain ⟨d, hd⟩ : ∃ d, Try.prog.types.size = d + 1 := Nat.exists_eq_succ_of_ne_zero (by
    intro h
    have : decide (Try.prog.types.size = 0) = false := by kernel_rfl
    rw [h] at this; simp at this)
  unfold keyOf
  rw [ht]
  simp only [hk, hf, Bool.and_self, if_true]
  have hl : (Value.agg (m.map u8v).toArray).cells.toList = m.map u8v := rfl
  rw [hl, hd]
  unfold Program.keyLits
  rw [ht]
  simp only [List.length_map, hm, hc, if_true, hc8, Nat.mul_one]
  obtain ⟨ys, hys⟩ := mapM_someU (fun i => Try.prog.keyLits (d + 1) 5 (((m.map u8v).drop i).take 1)) (List.range 16) (fun i hi => by
    have hi16 : i < m.length := by rw [hm]; exact List.mem_range.1 hi
    have he : ((m.map u8v).drop i).take 1 = [u8v m[i]] := by
      rw [← List.map_drop, ← List.map_take, List.drop_eq_getElem_cons hi16]; rfl
    refine ⟨[.int .u8 (m[i].toNat : Int)], ?_⟩
    rw [he]
    unfold Program.keyLits
    rw [Try.underlying5]
    have h2 := m[i].toNat_lt
    have hw : (Lit.int .u8 (m[i].toNat : Int)).wf = true := by
      have e1 : IntKind.u8.min = 0 := by decide
      have e2 : IntKind.u8.max = 255 := by decide
      show (decide (IntKind.u8.min ≤ (m[i].toNat : Int)) && decide ((m[i].toNat : Int) ≤ IntKind.u8.max)) = true
      rw [e1, e2, decide_eq_true (by omega), decide_eq_true (by omega)]; rfl
    simp only [u8v, hw, and_self, if_true])
  rw [hys]
  exact ⟨_, rfl⟩
theorem addK_mem {ks : List Value} {key v : Value} (h : v ∈ addK ks key) : v ∈ ks ∨ v = key := by
  unfold addK at h
  split at h
  · exact .inl h
  · rcases List.mem_append.1 h with h | h
    · exact .inl h
    · simp at h; exact .inr h
end

section
open Go Go.RowKit Go.Maps Go.MapKept Go.WideShapes

theorem agg_appr : AggT Try.prog 59 17 := ⟨⟨_, Try.underlying59, rfl⟩, by kernel_rfl⟩
theorem agg_idU : AggT Try.prog 29 16 := ⟨⟨_, Try.underlying29, rfl⟩, by kernel_rfl⟩
theorem size_appr : (Try.prog.info? 59).map (·.size) = some 17 := by kernel_rfl
def zeroAppr : List Value := List.replicate 16 (.int .u8 0) ++ [.slice none 0 0]
theorem zeroV_bool (w : World) : (zeroValue 4).run Try.prog w = .ok (.bool false) w := by kernel_rfl
noncomputable def enoughB (d : DecR) (ls : List ApprR) : Bool := d.al && decide (d.nd ≤ ((whoF d.ow ls []).length : Int))
noncomputable def enoughV (d : DecR) (ls : List ApprR) : Value := if apprsE ls = 0 then .tuple #[.bool (enoughB d ls), .int .i64 0] else .tuple #[.bool false, .int .i64 (apprsE ls)]
def KeysId (ks : List Value) : Prop := Keys Try.prog 29 ks
theorem KeysId.add {ks : List Value} (h : KeysId ks) {x : ApprR} (hm : x.member.length = 16) : KeysId (addK ks (idV x)) := fun v hv => by
  rcases addK_mem hv with h2 | rfl
  · exact h v h2
  · exact key_id hm

set_option maxRecDepth 100000 in
set_option maxHeartbeats 4000000 in
theorem enough_c (d : DecR) (ls : List ApprR) (a : Option Addr) (n c : Nat) (w : World) (hok : ApprsOk w a n c ls) :
    Calls Try.prog 24 #[.agg d.v.toArray, .slice a n c] w fun e w' => e = .returned (enoughV d ls) ∧ Ext w w' := by
  have HPO := hid hok
  have hn63 : n ≤ 140737488355328 := by have := hok.hnc; have := hok.hm; omega
  have hnm := hid (fun (s : ByteArray) w' h => notName_p s w' h)
  have hct := hid (fun (x : ApprR) w' (h : x.Ok w') => containsS_c d.ow x.roles x.sa x.sn x.sc w' h.sl (by have := h.snc; have := h.sm; omega) h.scell)
  clear hok
  obtain ⟨V, hV⟩ : ∃ V, enoughV d ls = V := ⟨_, rfl⟩
  have HV := hid hV
  rw [hV]
  clear hV
  have hmk := fun w => run_makeMapU (P := Try.prog) 108 w
  go_enter Try.func24, Try.ntmps24
  go_upto_region 2 with (fail)
  generalize hwA : World.alloc (World.alloc w _) _ = wA
  have bA : Blk wA w.heap.size d.v 44 := by rw [← hwA]; exact (Blk.mk_alloc rfl rfl).alloc _
  have sA : SetAt wA (w.heap.size + 1) [] := by
    rw [← hwA]
    have := SetAt.new (w.alloc (.cells d.v.toArray 44))
    rwa [show (w.alloc (.cells d.v.toArray 44)).heap.size = w.heap.size + 1 by show (w.heap.push _).size = _; simp] at this
  have eA : Ext w wA := by rw [← hwA]; exact ((Ext.refl w).alloc _).alloc _
  have BA := hid bA
  have SA := hid sA
  have EA := hid eA
  clear hwA bA sA eA hmk
  go_wp2
  go_loopw [14] (fun i wr => ∃ (k : Nat) (ks : List Value), k ≤ n ∧ i = .int .i64 (k : Int) ∧ KeysId ks ∧ SetAt wr (w.heap.size + 1) ks ∧ Blk wr w.heap.size d.v 44 ∧ whoF d.ow (ls.drop k) ks = whoF d.ow ls [] ∧ apprsE (ls.drop k) = apprsE ls ∧ Ext w wr) (fun i _ => n - (intOf i).toNat)
  case atStart => exact ⟨0, [], by omega, rfl, fun v hv => by simp at hv, SA.out, BA.out, rfl, rfl, EA.out⟩
  case round =>
    obtain ⟨k, ks, hk, rfl, hkey, hset, hdb, hwho, hape, e1⟩ := hrel
    have E1 := hid e1
    have HKEY := hid hkey
    have HSET := hid hset
    have HDB := hid hdb
    have HWHO := hid hwho
    have HAPE := hid hape
    clear e1 hkey hset hdb hwho hape BA SA EA
    by_cases hlt : k < n
    · obtain ⟨x, hxk⟩ : ∃ x, ls[k]? = some x := ⟨ls[k]'(by rw [HPO.out.hl]; exact hlt), by simp⟩
      obtain ⟨A, rfl, hca⟩ := (HPO.out.ext E1.out).at hxk
      have HCA := hid hca
      have HOK := hid ((HPO.out.ok x (List.mem_of_getElem? hxk)).ext E1.out)
      have HXL := hid (ApprR.len HOK.out)
      have HXK := hid hxk
      clear hca hxk
      have hxo := ApprR.one x
      go_wp2_with (first | (refine wpl_run rfl (exec_index (i := k) rfl rfl rfl Try.underlying53 size_appr hlt _) ?_) | (refine wpl_run rfl (exec_load_at rfl rfl HCA.out agg_appr HXL.out) ?_) | (refine wpl_storew rfl _ (.tmp 8) _ rfl rfl rfl (Blk.mk_alloc (vs := zeroAppr) rfl rfl) agg_appr rfl HXL.out hxo ?_))
      intro wB bB uB
      have eB : Ext wr wB := uB.ext ((Ext.refl wr).alloc _) (Nat.le_refl _)
      have BB := hid bB
      have EB := hid (E1.out.ext eB)
      have HOB := hid (HOK.out.ext eB)
      have SETB := hid (HSET.out.ext eB)
      have DBB := hid (HDB.out.ext eB)
      have hgr : w.heap.size + 1 < wr.heap.size := HSET.out.lt
      clear bB uB eB HOK HCA HSET HDB E1
      generalize wr.heap.size = gr at *
      have c16 := BB.out.cell' (ApprR.at16 HOB.out)
      have hsn63 : x.sn ≤ 140737488355328 := by have := HOB.out.snc; have := HOB.out.sm; omega
      go_wp2
      go_loopw [21] (fun i wr2 => ∃ j : Nat, j ≤ x.sn ∧ i = .int .i64 (j : Int) ∧ scanAt x.roles j = scanAt x.roles 0 ∧ wr2 = wB) (fun i _ => x.sn - (intOf i).toNat)
      case atStart => exact ⟨0, by omega, rfl, rfl, rfl⟩
      case round =>
        obtain ⟨j, hj, rfl, hscan, rfl⟩ := hrel
        have HSC := hid hscan
        clear hscan
        by_cases hjt : j < x.sn
        · obtain ⟨s, hsj⟩ : ∃ s, x.roles[j]? = some s := ⟨x.roles[j]'(by rw [HOB.out.sl]; exact hjt), by simp⟩
          obtain ⟨A2, hA2, hcs⟩ := strs_at HOB.out.scell hsj
          rw [Nat.mul_one] at hcs
          have hsz := HOB.out.ss s (List.mem_of_getElem? hsj)
          have hnm2 := hid (hnm.out s)
          rw [hA2] at c16
          rw [hA2]
          have HSJ := hid hsj
          have hbs : (!isNameL s.data.toList) = badS s := rfl
          rw [hbs] at hnm2
          clear hbs hsj
          go_wp2_with fail
          refine (hnm2.out wr hsz).mono ?_
          rintro e w4 ⟨rfl, rfl⟩
          cases hb : badS s with
          | true =>
            have h6 := scanAt_bad HSJ.out hb
            have h0 : scanAt x.roles 0 = 6 := HSC.out.symm.trans h6
            have hN := HAPE.out.symm.trans (apprsE_bad HXK.out (by rw [h0]; decide))
            rw [h0] at hN
            have HN := hid (show V = .tuple #[.bool false, .int .i64 6] by rw [← HV.out]; unfold enoughV; rw [hN, if_neg (by decide)])
            clear h6 h0 hN hb
            go_wp2
            go_ret2
            exact ⟨by rw [HN.out]; rfl, EB.out⟩
          | false =>
          cases j with
          | zero =>
            have hst := scanAt_zero HSJ.out hb
            have HST := hid (hst.symm.trans HSC.out)
            clear hst hb
            have hd0 : decide (((0 : Nat) : Int) < ((0 : Nat) : Int)) = false := by decide
            go_wp2
            go_roundw
            case rel => exact ⟨1, by omega, by go_num, HST.out, by first | rfl | trivial⟩
            case measure => simp [intOf]; omega
          | succ j =>
            obtain ⟨p, hpj⟩ : ∃ p, x.roles[j]? = some p := ⟨x.roles[j]'(by rw [HOB.out.sl]; omega), by simp⟩
            obtain ⟨A3, hA3, hcp⟩ := strs_at HOB.out.scell hpj
            rw [Nat.mul_one] at hcp
            rw [hA2] at hA3
            injection hA3 with hA3
            subst hA3
            obtain ⟨hs1, hs2⟩ := scanAt_step hpj HSJ.out hb
            have hlq : (Op.bytesLess s.toList p.toList || s.toList == p.toList) = !lessS p s := less_leq p s
            have hwj : IntKind.i64.wrap ((((j + 1 : Nat) : Int)) - 1) = (j : Int) := by rw [IntWalk.i64_in _ (by omega)]; omega
            have hwj2 : IntKind.i64.wrap (j : Int) = (j : Int) := IntWalk.i64_in _ (by omega)
            have hj0 : decide ((0 : Int) < ((j + 1 : Nat) : Int)) = true := decide_eq_true (by omega)
            have hj1 : decide ((0 : Int) < (j : Int) + 1) = true := decide_eq_true (by omega)
            clear hb hpj
            cases hq : lessS p s with
            | true =>
              have HST := hid ((hs1 hq).symm.trans HSC.out)
              rw [hq] at hlq
              clear hs1 hs2 hq
              go_wp2
              go_roundw
              case rel => exact ⟨j + 2, by omega, by go_num, HST.out, by first | rfl | trivial⟩
              case measure => simp [intOf]; omega
            | false =>
              have h0 : scanAt x.roles 0 = 9 := HSC.out.symm.trans (hs2 hq)
              have hN := HAPE.out.symm.trans (apprsE_bad HXK.out (by rw [h0]; decide))
              rw [h0] at hN
              have HN := hid (show V = .tuple #[.bool false, .int .i64 9] by rw [← HV.out]; unfold enoughV; rw [hN, if_neg (by decide)])
              rw [hq] at hlq
              clear hs1 hs2 hq h0 hN
              go_wp2
              go_ret2
              exact ⟨by rw [HN.out]; rfl, EB.out⟩
        · obtain rfl : j = x.sn := by omega
          have hz : scanAt x.roles 0 = 0 := HSC.out.symm.trans (scanAt_end (by rw [HOB.out.sl]; exact Nat.le_refl _))
          have HAP2 := hid ((apprsE_ok HXK.out hz).symm.trans HAPE.out)
          have hw2 := (whoF_at (ow := d.ow) (ks := ks) HXK.out).symm.trans HWHO.out
          have c3 := DBB.out.cell' (i := 3) rfl
          have hct2 := hid (hct.out x wr HOB.out)
          clear hz HAPE HWHO HSC
          go_wp2_with fail
          refine hct2.out.mono ?_
          rintro e w4 ⟨b, rfl, hb, rfl⟩
          have hbm := memT_of hb
          unfold whoStep at hw2
          rw [← hbm] at hw2
          clear hb hbm hct2
          cases b with
          | false =>
            have HW2 := hid hw2
            clear hw2
            go_wp2
            go_roundw
            case rel => exact ⟨k + 1, ks, by omega, by go_num, HKEY.out, SETB.out, DBB.out, by simpa using HW2.out, HAP2.out, EB.out⟩
            case measure => simp [intOf]; omega
          | true =>
            rw [if_pos rfl] at hw2
            obtain ⟨kl, hkl⟩ := key_id HOB.out.hm
            obtain ⟨wU, ks', hup, hU, hS', hor⟩ := run_update_set id_keyed Try.underlying108 SETB.out HKEY.out hkl
            have hk' : ks' = addK ks (idV x) := addK_of hor
            have HW2 := hid hw2
            have HS' := hid (hk' ▸ hS')
            have HK2 := hid (HKEY.out.add HOB.out.hm)
            have HU := hid hU
            have HUP := hid hup
            have hl0 := ApprR.part0 HOB.out
            have HL0 := hid hl0
            have H16 := hid HXL.out
            clear hw2 hor hU hS' hup hkl hl0 hk'
            have hup2 := HUP.out
            go_wp2_with (refine wpl_loadp rfl 29 _ rfl rfl BB.out agg_idU (by rw [H16.out]; decide) HL0.out ?_)
            have EU := hid (HU.out.ext EB.out (by omega))
            have DBU := hid (DBB.out.upd HU.out (by omega))
            clear hup2 HUP HU
            go_roundw
            case rel => exact ⟨k + 1, addK ks (idV x), by omega, by go_num, HK2.out, HS'.out, DBU.out, HW2.out, HAP2.out, EU.out⟩
            case measure => simp [intOf]; omega
    · obtain rfl : k = n := by omega
      have hA0 : apprsE ls = 0 := by
        rw [← HAPE.out, List.drop_of_length_le (by rw [HPO.out.hl]; exact Nat.le_refl _)]; rfl
      have hW0 : ks = whoF d.ow ls [] := by
        have := HWHO.out
        rwa [whoF_end (by rw [HPO.out.hl]; exact Nat.le_refl _)] at this
      have hN : V = .tuple #[.bool (d.al && decide (d.nd ≤ ((ks.length : Nat) : Int))), .int .i64 0] := by
        rw [← HV.out]; unfold enoughV enoughB; rw [if_pos hA0, ← hW0]
      have HN := hid hN
      have c0 := HDB.out.cell' (i := 0) rfl
      have c2 := HDB.out.cell' (i := 2) rfl
      have hlen := fun ty => run_len_set (ty := ty) Try.underlying108 HSET.out
      clear hA0 hW0 hN HAPE HWHO HKEY
      cases hal : d.al with
      | false =>
        rw [hal] at HN
        rw [hal] at c0
        go_wp2
        go_ret2
        exact ⟨by rw [HN.out]; rfl, E1.out⟩
      | true =>
        rw [hal] at HN
        rw [hal] at c0
        go_wp2
        go_ret2
        exact ⟨by rw [HN.out]; first | rfl | simp, E1.out⟩
end

section
open Go Go.RowKit Go.Maps Go.MapKept Go.WideShapes

set_option maxRecDepth 100000 in
set_option maxHeartbeats 4000000 in
theorem renough_c (d : DecR) (ls : List ApprR) (a : Option Addr) (n c : Nat) (w : World) (hok : ApprsOk w a n c ls) :
    Calls Try.prog 25 #[.agg d.v.toArray, .slice a n c] w fun e w' => e = .returned (.bool (enoughB d ls)) ∧ Ext w w' := by
  have HPO := hid hok
  have hn63 : n ≤ 140737488355328 := by have := hok.hnc; have := hok.hm; omega
  have hct := hid (fun (x : ApprR) w' (h : x.Ok w') => containsS_c d.ow x.roles x.sa x.sn x.sc w' h.sl (by have := h.snc; have := h.sm; omega) h.scell)
  clear hok
  obtain ⟨V, hV⟩ : ∃ V, enoughB d ls = V := ⟨_, rfl⟩
  have HV := hid hV
  rw [hV]
  clear hV
  have hmk := fun w => run_makeMapU (P := Try.prog) 108 w
  go_enter Try.func25, Try.ntmps25
  go_upto_region 2 with (fail)
  generalize hwA : World.alloc (World.alloc w _) _ = wA
  have bA : Blk wA w.heap.size d.v 44 := by rw [← hwA]; exact (Blk.mk_alloc rfl rfl).alloc _
  have sA : SetAt wA (w.heap.size + 1) [] := by
    rw [← hwA]
    have := SetAt.new (w.alloc (.cells d.v.toArray 44))
    rwa [show (w.alloc (.cells d.v.toArray 44)).heap.size = w.heap.size + 1 by show (w.heap.push _).size = _; simp] at this
  have eA : Ext w wA := by rw [← hwA]; exact ((Ext.refl w).alloc _).alloc _
  have BA := hid bA
  have SA := hid sA
  have EA := hid eA
  clear hwA bA sA eA hmk
  go_wp2
  go_loopw [11] (fun i wr => ∃ (k : Nat) (ks : List Value), k ≤ n ∧ i = .int .i64 (k : Int) ∧ KeysId ks ∧ SetAt wr (w.heap.size + 1) ks ∧ Blk wr w.heap.size d.v 44 ∧ whoF d.ow (ls.drop k) ks = whoF d.ow ls [] ∧ Ext w wr) (fun i _ => n - (intOf i).toNat)
  case atStart => exact ⟨0, [], by omega, rfl, fun v hv => by simp at hv, SA.out, BA.out, rfl, EA.out⟩
  case round =>
    obtain ⟨k, ks, hk, rfl, hkey, hset, hdb, hwho, e1⟩ := hrel
    have E1 := hid e1
    have HKEY := hid hkey
    have HSET := hid hset
    have HDB := hid hdb
    have HWHO := hid hwho
    clear e1 hkey hset hdb hwho BA SA EA
    by_cases hlt : k < n
    · obtain ⟨x, hxk⟩ : ∃ x, ls[k]? = some x := ⟨ls[k]'(by rw [HPO.out.hl]; exact hlt), by simp⟩
      obtain ⟨A, rfl, hca⟩ := (HPO.out.ext E1.out).at hxk
      have HCA := hid hca
      have HOK := hid ((HPO.out.ok x (List.mem_of_getElem? hxk)).ext E1.out)
      have HXL := hid (ApprR.len HOK.out)
      have HXK := hid hxk
      clear hca hxk
      have hxo := ApprR.one x
      go_wp2_with (first | (refine wpl_run rfl (exec_index (i := k) rfl rfl rfl Try.underlying53 size_appr hlt _) ?_) | (refine wpl_run rfl (exec_load_at rfl rfl HCA.out agg_appr HXL.out) ?_) | (refine wpl_storew rfl _ (.tmp 7) _ rfl rfl rfl (Blk.mk_alloc (vs := zeroAppr) rfl rfl) agg_appr rfl HXL.out hxo ?_))
      intro wB bB uB
      have eB : Ext wr wB := uB.ext ((Ext.refl wr).alloc _) (Nat.le_refl _)
      have BB := hid bB
      have EB := hid (E1.out.ext eB)
      have HOB := hid (HOK.out.ext eB)
      have SETB := hid (HSET.out.ext eB)
      have DBB := hid (HDB.out.ext eB)
      have hgr : w.heap.size + 1 < wr.heap.size := HSET.out.lt
      clear bB uB eB HOK HCA HSET HDB E1
      generalize wr.heap.size = gr at *
      have c16 := BB.out.cell' (ApprR.at16 HOB.out)
      have hw2 := (whoF_at (ow := d.ow) (ks := ks) HXK.out).symm.trans HWHO.out
      have c3 := DBB.out.cell' (i := 3) rfl
      have hct2 := hid (hct.out x wB HOB.out)
      clear HWHO
      go_wp2_with fail
      refine hct2.out.mono ?_
      rintro e w4 ⟨b, rfl, hb, rfl⟩
      have hbm := memT_of hb
      unfold whoStep at hw2
      rw [← hbm] at hw2
      clear hb hbm hct2
      cases b with
      | false =>
        have HW2 := hid hw2
        clear hw2
        go_wp2
        go_roundw
        case rel => exact ⟨k + 1, ks, by omega, by go_num, HKEY.out, SETB.out, DBB.out, by simpa using HW2.out, EB.out⟩
        case measure => simp [intOf]; omega
      | true =>
        rw [if_pos rfl] at hw2
        obtain ⟨kl, hkl⟩ := key_id HOB.out.hm
        obtain ⟨wU, ks', hup, hU, hS', hor⟩ := run_update_set id_keyed Try.underlying108 SETB.out HKEY.out hkl
        have hk' : ks' = addK ks (idV x) := addK_of hor
        have HW2 := hid hw2
        have HS' := hid (hk' ▸ hS')
        have HK2 := hid (HKEY.out.add HOB.out.hm)
        have HU := hid hU
        have HUP := hid hup
        have hl0 := ApprR.part0 HOB.out
        have HL0 := hid hl0
        have H16 := hid HXL.out
        clear hw2 hor hU hS' hup hkl hl0 hk'
        have hup2 := HUP.out
        go_wp2_with (refine wpl_loadp rfl 29 _ rfl rfl BB.out agg_idU (by rw [H16.out]; decide) HL0.out ?_)
        have EU := hid (HU.out.ext EB.out (by omega))
        have DBU := hid (DBB.out.upd HU.out (by omega))
        clear hup2 HUP HU
        go_roundw
        case rel => exact ⟨k + 1, addK ks (idV x), by omega, by go_num, HK2.out, HS'.out, DBU.out, HW2.out, EU.out⟩
        case measure => simp [intOf]; omega
    · obtain rfl : k = n := by omega
      have hW0 : ks = whoF d.ow ls [] := by
        have := HWHO.out
        rwa [whoF_end (by rw [HPO.out.hl]; exact Nat.le_refl _)] at this
      have hN : V = (d.al && decide (d.nd ≤ ((ks.length : Nat) : Int))) := by
        rw [← HV.out]; unfold enoughB; rw [← hW0]
      have HN := hid hN
      have c0 := HDB.out.cell' (i := 0) rfl
      have c2 := HDB.out.cell' (i := 2) rfl
      have hlen := fun ty => run_len_set (ty := ty) Try.underlying108 HSET.out
      clear hW0 hN HWHO HKEY
      cases hal : d.al with
      | false =>
        rw [hal] at HN
        rw [hal] at c0
        go_wp2
        go_ret
        exact ⟨by rw [HN.out]; rfl, E1.out⟩
      | true =>
        rw [hal] at HN
        rw [hal] at c0
        go_wp2
        go_ret
        exact ⟨by rw [HN.out]; first | rfl | simp, E1.out⟩
end

section
open Go Go.RowKit

/-- block i of a stream -/
def blkL (k n : List UInt8) (i : Nat) : List UInt8 := stirL (k ++ n ++ List.replicate 8 0 ++ longL (UInt64.ofNat i))
theorem blkL_length (k n : List UInt8) (i : Nat) : (blkL k n i).length = 64 := stirL_length _
/-- the octets of a stream from a place on -/
def strmL (k n : List UInt8) (a m : Nat) : List UInt8 := (List.range m).map fun j => (blkL k n ((a + j) / 64))[(a + j) % 64]?.getD 0
theorem strmL_length (k n : List UInt8) (a m : Nat) : (strmL k n a m).length = m := by simp [strmL]
theorem strmL_more (k n : List UInt8) (a m c : Nat) (hc : (a + m) % 64 + c ≤ 64) :
    strmL k n a (m + c) = strmL k n a m ++ ((blkL k n ((a + m) / 64)).drop ((a + m) % 64)).take c := by
  apply List.ext_getElem?
  intro j
  rw [List.getElem?_append, strmL_length]
  unfold strmL
  by_cases h1 : j < m
  · rw [if_pos h1, List.getElem?_map, List.getElem?_map, List.getElem?_range h1, List.getElem?_range (by omega)]
  · rw [if_neg h1]
    by_cases h2 : j < m + c
    · rw [List.getElem?_map, List.getElem?_range h2, List.getElem?_take_of_lt (by omega), List.getElem?_drop]
      have e1 : (a + j) / 64 = (a + m) / 64 := by omega
      have e2 : (a + j) % 64 = (a + m) % 64 + (j - m) := by omega
      simp only [Option.map_some, e1, e2]
      have hl := blkL_length k n ((a + m) / 64)
      rw [List.getElem?_eq_getElem (by omega)]
      rfl
    · rw [List.getElem?_eq_none (by simp; omega), List.getElem?_eq_none (by rw [List.length_take, List.length_drop, blkL_length]; omega)]

theorem zer8 : List.replicate 8 (Value.int .u8 0) = (List.replicate 8 (0 : UInt8)).map u8v := by simp [u8v]

theorem splice3 (k n l : List Value) (hk : k.length = 32) (hn : n.length = 16) (hl : l.length = 8) :
    splice (splice (splice (List.replicate 64 (.int .u8 0)) 0 k) 32 n) 56 l = k ++ n ++ List.replicate 8 (.int .u8 0) ++ l := by
  have h1 : splice (List.replicate 64 (.int .u8 0)) 0 k = k ++ List.replicate 32 (.int .u8 0) := by
    unfold splice
    rw [List.take_zero, List.nil_append, Nat.zero_add, hk, List.drop_replicate]
  have h2 : splice (k ++ List.replicate 32 (Value.int .u8 0)) 32 n = k ++ n ++ List.replicate 16 (.int .u8 0) := by
    unfold splice
    rw [List.take_append_of_le_length (by omega), List.take_of_length_le (by omega), hn, List.drop_append, List.drop_of_length_le (by omega), List.nil_append, hk, List.drop_replicate]
  have hkn : (k ++ n).length = 48 := by rw [List.length_append, hk, hn]
  rw [h1, h2]
  unfold splice
  rw [hl, List.take_append, List.take_of_length_le (by omega), hkn, List.drop_append, List.drop_of_length_le (by omega), hkn, List.nil_append, List.take_replicate, List.drop_replicate]
  simp
end

section
open Go Go.RowKit

def streamPost (k n : List UInt8) (a m : Int) (w : World) (e : Ending) (w' : World) : Prop :=
  (if a < 0 ∨ 1099511627776 < a ∨ m < 0 then e = .returned (.tuple #[.slice none 0 0, .int .i64 4])
  else if 1048576 < m then e = .returned (.tuple #[.slice none 0 0, .int .i64 5])
  else ∃ v, e = .returned (.tuple #[v, .int .i64 0]) ∧ w'.ownsRow w.heap.size 5 1 v m.toNat ((strmL k n a.toNat m.toNat).map u8v)) ∧ Ext w w'
end

section
open Go Go.RowKit

theorem own_some {w : World} {B n : Nat} {v : Value} {xs : List Value} (h : w.ownsRow B 5 1 v n xs) (hn : 0 < n) :
    ∃ g cap, v = .slice (some ⟨g, 0, none⟩) n cap ∧ B ≤ g ∧ n ≤ cap ∧ cap ≤ maxLen := by
  rcases h.2 with ⟨_, h0⟩ | ⟨g, cap, cur, h1, h2, _, h4, h5, _⟩
  · omega
  · exact ⟨g, cap, h1, h2, h4, h5⟩

/-- a text, covered -/
def coverL (k n t : List UInt8) : List UInt8 := mixTo (strmL k n 0 t.length) t t.length
theorem coverL_length (k n t : List UInt8) : (coverL k n t).length = t.length := by rw [coverL, mixTo_length, strmL_length]
end

section
open Go Go.RowKit

theorem own_block_lt {w : World} {B : Nat} {e : TypeId} {size n : Nat} {v : Value} {xs : List Value} (h : w.ownsRow B e size v n xs) : ∀ g, v.ownBlock = some g → g < w.heap.size := by
  intro g hg
  rcases h.2 with ⟨rfl, _⟩ | ⟨g', cap, cur, rfl, hb, hc, _⟩
  · cases hg
  · simp [Value.ownBlock] at hg
    subst hg
    exact (Array.getElem?_eq_some_iff.1 hc).1
end

section
open Go Go.RowKit

theorem mixTo_get (s t : List UInt8) (i j : Nat) : (mixTo s t i)[j]? = if j < i then (s[j]?).map (fun x => xor8 x (t[j]?.getD 0)) else s[j]? := by
  induction i generalizing j with
  | zero => simp [mixTo]
  | succ i ih =>
    rw [mixTo, List.getElem?_set, mixTo_length]
    by_cases h : i = j
    · subst h
      by_cases hl : i < s.length
      · simp [ih, hl]
      · simp [hl]
    · rw [if_neg h, ih]
      by_cases h1 : j < i
      · rw [if_pos h1, if_pos (by omega)]
      · rw [if_neg h1, if_neg (by omega)]
theorem cover_twice (k n t : List UInt8) : coverL k n (coverL k n t) = t := by
  apply List.ext_getElem?
  intro j
  have hl := coverL_length k n t
  have hs := strmL_length k n 0 t.length
  rw [coverL, hl, mixTo_get]
  by_cases hj : j < t.length
  · have h1 : t[j]? = some t[j] := List.getElem?_eq_getElem hj
    have h2 : (strmL k n 0 t.length)[j]? = some ((strmL k n 0 t.length)[j]'(by omega)) := List.getElem?_eq_getElem (by omega)
    rw [if_pos hj, coverL, mixTo_get, if_pos hj, h1, h2]
    simp only [Option.map_some, Option.getD_some, xor8]
    congr 1
    rw [← UInt8.xor_assoc]; simp
  · rw [if_neg hj, List.getElem?_eq_none (by omega), List.getElem?_eq_none (by omega)]
end

section
open Go Go.RowKit

theorem addr_add0 (x : Addr) : x.add 0 = x := by unfold Addr.add; split <;> simp_all
section
variable {P : Program} {ops : Array Oper} {rest : List Oper} {o : Oper} {a : Act} {w : World} {Q : Exit → Act → World → Prop}
theorem run_sliceAt_high {t e : TypeId} {p : Option Addr} {n c k : Nat} (hu : P.underlying t = some (.slice e)) (hs : (P.info? e).map (·.size) = some 1) (hk : k ≤ c) :
    (Instr.sliceAt t (.slice p n c) none (some (.int .i64 (k : Int))) none).run P w = .ok (.slice p k c) w := by
  cases hq : P.info? e with
  | none => simp [hq] at hs
  | some i =>
    have hi : i.size = 1 := by simpa [hq] using hs
    have h1 : (0 : Int) ≤ k ∧ (k : Int) ≤ c := by omega
    have ha : p.map (fun x => x.add 0) = p := by cases p <;> simp [addr_add0]
    simp [Instr.sliceAt, Instr.slice, Instr.sliceBounds, Instr.sliceBound, asIntOf, run_underlying hu, sizeOf, typeInfo, hq, hi, hk, ha]
/-- b[:k] -/
theorem wpl_slice_high (hgd : o.guard = none) (t e : TypeId) (x y : Operand) (ho : o.op = .slice t x none (some y) none) {p : Option Addr} {n c k : Nat}
    (hx : a.eval x = .slice p n c) (hy : a.eval y = .int .i64 (k : Int)) (hu : P.underlying t = some (.slice e)) (hs : (P.info? e).map (·.size) = some 1) (hk : k ≤ c)
    (h : wpList P ops Q rest (a.put o.dst (.slice p k c)) w) : wpList P ops Q (o :: rest) a w :=
  wpList_plain hgd fun K hK => by
    unfold Oper.wp execOp
    simp only [ho, hx, hy, Option.map_some, Option.map_none, run_sliceAt_high hu hs hk, Result.andThen_ok, Sem.run_bind, Sem.run_pure]
    exact hK _ _ h
end
end

section
open Go Go.RowKit

theorem ok_block {r : Result Value} {v v' : Value} {w w' : World} {x : Option Nat} (h1 : r = .ok v w) (h2 : r = .ok v' w') (hv : v.ownBlock = x) : v'.ownBlock = x := by
  rw [h1] at h2
  injection h2 with e1 e2
  rw [← e1, hv]

theorem append8_block (w : World) (B : Nat) (ty : TypeId) {v : Value} {n m c : Nat} {xs ys : List UInt8} {y : Addr} (hown : w.ownsRow B 5 1 v n (xs.map u8v)) (hm : ys.length = m) (hc : Cells w (some y) (ys.map u8v))
    (hb : n + m ≤ 140737488355328) (hbase : B ≤ w.heap.size) :
    ∃ v' w', (Builtin.append_ #[73, 73] ty #[v, .slice (some y) m c]).run Try.prog w = .ok v' w' ∧ w'.ownsRow B 5 1 v' (n + m) ((xs ++ ys).map u8v) ∧ w.grownBy w' v.ownBlock ∧
      (v'.ownBlock = v.ownBlock ∨ v'.ownBlock = some w.heap.size) := by
  obtain ⟨i0, hi, hz, hsz, hb1⟩ := info_parts info_u8
  have hl : (ys.map u8v).length = m * 1 := by rw [List.length_map, hm, Nat.mul_one]
  have hl' : (ys.map u8v).length = m * i0.size := by rw [hsz]; exact hl
  obtain ⟨v', w', hr, h1, h2, h3⟩ := run_append_own (P := Try.prog) w B 73 ty 5 i0 (.int .u8 0) 1 1 Try.underlying73 hi hz hsz hb1 rfl (by decide) v n (xs.map u8v) hown y m c (ys.map u8v) hl (news_cells hc) (one_u8 _) (by unfold maxLen; omega) (by omega) hbase
  refine ⟨v', w', hr, by rw [List.map_append]; exact h1, h2, ?_⟩
  rcases hown.2 with ⟨rfl, rfl⟩ | ⟨g, cap, cur, rfl, hbg, hg, hnc, hcm, hcs, htake⟩
  · by_cases hm0 : m = 0
    · left
      rw [h3.2 ⟨rfl, hm0⟩]
    · right
      have hr2 := run_append_nil (P := Try.prog) w 73 ty 5 i0 (.int .u8 0) Try.underlying73 hi hz y m c (ys.map u8v) hl' (news_cells hc) (by omega) (by omega) (by rw [hb1]; omega)
      exact ok_block hr2 hr rfl
  · by_cases hroom : n + m ≤ cap
    · left
      obtain ⟨w2, hr2, _⟩ := run_append_fits (P := Try.prog) w B 73 ty 5 i0 1 Try.underlying73 hi hsz g n cap (xs.map u8v) hown y m c (ys.map u8v) hl (news_cells hc) (one_u8 _) hroom
      exact ok_block hr2 hr rfl
    · right
      have hr2 := run_append_grow (P := Try.prog) w 73 ty 5 i0 (.int .u8 0) Try.underlying73 hi hz ⟨g, 0, none⟩ n cap (xs.map u8v) (by rw [hsz]; exact hown.1) (hown.cells (g := g) rfl) y m c (ys.map u8v) hl' (news_cells hc) (by omega) (by omega) (growslice_fits (by omega) (by rw [hb1]; omega))
      exact ok_block hr2 hr rfl

section
variable {ops : Array Oper} {rest : List Oper} {o : Oper} {a : Act} {w : World} {Q : Exit → Act → World → Prop}
/-- append onto a row of one's own, whether behind a guard or not -/
theorem wpg_append8 (hw : Region.wanted o (yielded ops a.tmps) = true) (s x : Operand)
    (ho : o.op = .call { callee := .builtin .append, args := #[s, x], argTypes := #[73, 73] }) (base : Nat) {v : Value} {n m c : Nat} {xs ys : List UInt8} {ad : Option Addr}
    (hs : a.eval s = v) (hx : a.eval x = .slice ad m c) (hown : w.ownsRow base 5 1 v n (xs.map u8v)) (hm : ys.length = m) (had : ad = none → m = 0 ∧ c = 0) (hc : Cells w ad (ys.map u8v))
    (hb : n + m ≤ 140737488355328) (hbase : base ≤ w.heap.size)
    (h : ∀ v' w', w'.ownsRow base 5 1 v' (n + m) ((xs ++ ys).map u8v) → w.grownBy w' v.ownBlock → (v'.ownBlock = v.ownBlock ∨ v'.ownBlock = some w.heap.size) → wpList Try.prog ops Q rest (a.put o.dst v') w') : wpList Try.prog ops Q (o :: rest) a w := by
  obtain ⟨i0, hi, hz, hsz, hb1⟩ := info_parts info_u8
  refine wpList_want hw fun K hK => ?_
  cases ad with
  | none =>
    obtain ⟨rfl, rfl⟩ := had rfl
    have hy : ys = [] := List.length_eq_zero_iff.1 hm
    subst hy
    have h' := h v w (by simpa using hown) (grown_refl w _) (.inl rfl)
    have hrun := run_append_owned_none (P := Try.prog) (w := w) base 73 o.type 5 i0 1 Try.underlying73 hi v n (xs.map u8v) hown
    unfold Oper.wp
    simp [execOp, ho, resolve, invoke, builtin, hs, hx, hrun, Result.andThen]
    exact hK _ _ h'
  | some y =>
    obtain ⟨v', w', hr, h1, h2, h3⟩ := append8_block w base o.type (c := c) hown hm hc hb hbase
    exact Lib.wp_append_run w s x _ _ ho v _ hs hx v' w' hr (hK _ _ (h v' w' h1 h2 h3))
end
end

section
open Go Go.RowKit

/-- the key of a key -/
def deriveL (k s : List UInt8) (ep : Nat) : List UInt8 := sumL 7 (k ++ s ++ [0] ++ longL (UInt64.ofNat ep))
def deriveV (k s : List UInt8) (b : Bool) (ep : Int) : Value :=
  if b = false then .tuple #[zeros 32, .int .i64 6] else if ep < 0 ∨ 4294967295 < ep then .tuple #[zeros 32, .int .i64 4] else .tuple #[.agg ((deriveL k s ep.toNat).map u8v).toArray, .int .i64 0]

set_option maxRecDepth 100000 in
set_option maxHeartbeats 1000000 in
theorem rderive_c (k : List UInt8) (s : ByteArray) (ep : Int) (b : Bool) (w : World) (hk : k.length = 32) (hnm : ∀ w, Calls Try.prog 16 #[.string s] w fun e w' => e = .returned (.bool b) ∧ Ext w w') (hsz : b = true → s.size ≤ 32) :
    Calls Try.prog 11 #[.agg (k.map u8v).toArray, .string s, .int .i64 ep] w fun e w' => e = .returned (deriveV k s.data.toList b ep) ∧ Ext w w' := by
  obtain ⟨V, hV⟩ : ∃ V, deriveV k s.data.toList b ep = V := ⟨_, rfl⟩
  rw [hV]
  unfold deriveV at hV
  have HV := hid hV
  have HK := hid hk
  have HNM := hid hnm
  have HSZ := hid hsz
  clear hV hk hnm hsz
  go_enter Try.func11, Try.ntmps11
  go_wp2_with fail
  generalize hwA : World.alloc (World.alloc w _) _ = wA
  have kA : Blk wA w.heap.size (k.map u8v) 23 := by rw [← hwA]; exact (Blk.mk_alloc rfl rfl).alloc _
  have zA : Blk wA (w.heap.size + 1) (List.replicate 32 (.int .u8 0)) 23 := by rw [← hwA]; exact Blk.mk_alloc (by simp) rfl
  have eA : Ext w wA := by rw [← hwA]; exact ((Ext.refl w).alloc _).alloc _
  clear hwA
  refine (HNM.out wA).mono ?_
  rintro e w1 ⟨rfl, e1⟩
  have K1 := hid (kA.ext e1)
  have Z1 := hid (zA.ext e1)
  have E1 := hid (eA.ext e1)
  have l1 : w.heap.size + 1 < w1.heap.size := Z1.out.lt
  clear kA zA eA e1
  cases b with
  | false =>
    have hv := HV.out
    rw [if_pos rfl] at hv
    have HV2 := hid hv
    clear hv HV
    go_wp2_with (refine wpl_storew rfl _ _ _ rfl rfl rfl Z1.out agg_key (by simp) (xs := List.replicate 32 (.int .u8 0)) (by simp) (one_zeros 32) ?_)
    intro w4 b4 u4
    go_wp2
    refine ret_row2 rfl rfl b4 agg_key (by simp) rfl ⟨by rw [← HV2.out]; unfold zeros; rfl, u4.ext E1.out (by omega)⟩
  | true =>
    have hv := HV.out
    rw [if_neg (by decide)] at hv
    have hs32 := HSZ.out rfl
    by_cases hep : ep < 0 ∨ 4294967295 < ep
    · rw [if_pos hep] at hv
      have HV2 := hid hv
      clear hv HV
      by_cases h0 : ep < 0
      · have d1 : decide (ep < 0) = true := decide_eq_true h0
        clear hep
        go_wp2_with (refine wpl_storew rfl _ _ _ rfl rfl rfl Z1.out agg_key (by simp) (xs := List.replicate 32 (.int .u8 0)) (by simp) (one_zeros 32) ?_)
        intro w4 b4 u4
        go_wp2
        refine ret_row2 rfl rfl b4 agg_key (by simp) rfl ⟨by rw [← HV2.out]; unfold zeros; rfl, u4.ext E1.out (by omega)⟩
      · have d1 : decide (ep < 0) = false := decide_eq_false h0
        have d2 : decide (4294967295 < ep) = true := decide_eq_true (by omega)
        clear hep
        go_wp2_with (refine wpl_storew rfl _ _ _ rfl rfl rfl Z1.out agg_key (by simp) (xs := List.replicate 32 (.int .u8 0)) (by simp) (one_zeros 32) ?_)
        intro w4 b4 u4
        go_wp2
        refine ret_row2 rfl rfl b4 agg_key (by simp) rfl ⟨by rw [← HV2.out]; unfold zeros; rfl, u4.ext E1.out (by omega)⟩
    · rw [if_neg hep] at hv
      have d1 : decide (ep < 0) = false := decide_eq_false (by omega)
      have d2 : decide (4294967295 < ep) = false := decide_eq_false (by omega)
      obtain ⟨N, rfl⟩ := Int.eq_ofNat_of_zero_le (show 0 ≤ ep by omega)
      have hNb : N ≤ 4294967295 := by omega
      rw [Int.toNat_natCast] at hv
      have hll : (longL (UInt64.ofNat N)).length = 8 := rfl
      have hlong := hid (fun w => rlong_c N w (by omega))
      have hlen : (k ++ s.data.toList ++ [0] ++ longL (UInt64.ofNat N)).length = 41 + s.size := by
        have : s.data.toList.length = s.size := by rw [Array.length_toList]; rfl
        rw [List.length_append, List.length_append, List.length_append, HK.out, this, hll]; simp only [List.length_cons, List.length_nil]; omega
      have hsum := fun c a w h => rsum_c 7 (k ++ s.data.toList ++ [0] ++ longL (UInt64.ofNat N)) (41 + s.size) c a w (by omega) (by omega) hlen (by omega) h
      have HSL : Hid (((deriveL k s.data.toList N).map u8v).length = 32) := hid (by rw [List.length_map, deriveL, sumL_length])
      have o1 := one_u8 (deriveL k s.data.toList N)
      rw [show sumL 7 (k ++ s.data.toList ++ [0] ++ longL (UInt64.ofNat N)) = deriveL k s.data.toList N from rfl] at hsum
      generalize (deriveL k s.data.toList N).map u8v = dv at *
      generalize longL (UInt64.ofNat N) = ll at *
      have HLL := hid hll
      have HSUM := hid hsum
      have HV2 := hid hv
      obtain ⟨i0, hi, hz, hsz, hb1⟩ := info_parts info_u8
      clear hv HV hep hll hlen hsum
      go_wp2_with fail
      refine (clone_c k (some ⟨w.heap.size, 0, none⟩) 32 32 w1 HK.out (by omega) (Cells.of_blk0 K1.out)).mono ?_
      rintro e w2 ⟨v2, rfl, own2, -, e2⟩
      have O2 := hid own2
      have Z2 := hid (Z1.out.ext e2)
      have E2 := hid (E1.out.ext e2)
      have hb2 : w1.heap.size ≤ w2.heap.size := e2.size
      clear own2 e2 K1
      generalize w1.heap.size = B at *
      go_wp2_with (first | (at_builtin; refine Lib.wpList_append_own_string w2 rfl _ _ 73 9 rfl B 5 i0 Try.underlying73 Try.underlying9 hi hz hsz hb1 _ 32 _ rfl O2.out s rfl (by unfold maxLen; omega) (by omega) hb2 ?_))
      intro v3 w3 own3 g3 _
      have own3' : w3.ownsRow B 5 1 v3 (32 + s.size) ((k ++ s.data.toList).map u8v) := by rw [List.map_append]; exact own3
      have O3 := hid own3'
      have hv3 := own_block_ge O2.out
      have Z3 := hid (Z2.out.grown g3 (by intro h; have := hv3 _ h.symm; omega))
      have E3 := hid (E2.out.grown g3 (by intro q hq; have := hv3 _ hq; omega))
      have hb3 : B ≤ w3.heap.size := Nat.le_trans hb2 g3.size
      clear own3 own3' g3 hv3 O2 Z2 E2 hb2
      have zB : Blk (w3.alloc (.cells #[.int .u8 0] 5)) w3.heap.size (([0] : List UInt8).map u8v) 5 := Blk.mk_alloc rfl rfl
      have eB : Ext w3 (w3.alloc (.cells #[.int .u8 0] 5)) := (Ext.refl w3).alloc _
      have ZB := hid zB
      have O4 := hid (ownsRow_ext O3.out eB)
      have Z4 := hid (Z3.out.ext eB)
      have E4 := hid (E3.out.ext eB)
      have hb4 : B ≤ (w3.alloc (.cells #[.int .u8 0] 5)).heap.size := Nat.le_trans hb3 eB.size
      clear zB eB O3 Z3 E3
      go_wp2_with (first | (at_builtin; refine wpl_append8 rfl _ _ rfl B (ys := [0]) rfl rfl O4.out rfl (by intro h; cases h) (Cells.of_blk0 ZB.out) (by omega) hb4 ?_))
      generalize w3.alloc (.cells #[.int .u8 0] 5) = w4 at *
      intro v5 w5 own5 g5
      have own5' : w5.ownsRow B 5 1 v5 (32 + s.size + 1) ((k ++ s.data.toList ++ [0]).map u8v) := by rw [List.map_append]; simpa using own5
      have O5 := hid own5'
      have hv5 := own_block_ge O4.out
      have Z5 := hid (Z4.out.grown g5 (by intro h; have := hv5 _ h.symm; omega))
      have E5 := hid (E4.out.grown g5 (by intro q hq; have := hv5 _ hq; omega))
      have hb5 : B ≤ w5.heap.size := Nat.le_trans hb4 g5.size
      clear own5 own5' g5 hv5 O4 Z4 E4 hb4 ZB
      go_wp2_with fail
      refine (hlong.out w5).mono ?_
      rintro e w6 ⟨rfl, b6, e6⟩
      have O6 := hid (ownsRow_ext O5.out e6)
      have Z6 := hid (Z5.out.ext e6)
      have E6 := hid (E5.out.ext e6)
      have L6 := hid (Cells.of_blk0 b6)
      have hb6 : B ≤ w6.heap.size := Nat.le_trans hb5 e6.size
      clear b6 e6 O5 Z5 E5 hlong
      go_wp2_with (first | (at_builtin; refine wpl_append8 rfl _ _ rfl B (ys := ll) rfl rfl O6.out HLL.out (by intro h; cases h) L6.out (by omega) hb6 ?_))
      intro v7 w7 own7 g7
      have own7' : w7.ownsRow B 5 1 v7 (41 + s.size) ((k ++ s.data.toList ++ [0] ++ ll).map u8v) := by
        rw [List.map_append, show 41 + s.size = 32 + s.size + 1 + 8 by omega]; simpa using own7
      have hv7 := own_block_ge O6.out
      have Z7 := hid (Z6.out.grown g7 (by intro h; have := hv7 _ h.symm; omega))
      have E7 := hid (E6.out.grown g7 (by intro q hq; have := hv7 _ hq; omega))
      obtain ⟨a8, c8, rfl, -, -, -, hc8⟩ := own_slice own7'
      have HS8 := hid (HSUM.out c8 a8 w7 hc8)
      clear own7 own7' g7 hv7 O6 Z6 E6 L6 hb6 hc8 HSUM
      go_wp2_with fail
      refine HS8.out.mono ?_
      rintro e w9 ⟨rfl, e9⟩
      have Z9 := hid (Z7.out.ext e9)
      have E9 := hid (E7.out.ext e9)
      clear e9 HS8
      go_wp2_with (refine wpl_storew rfl _ _ _ rfl rfl rfl Z9.out agg_key (by simp) HSL.out o1 ?_)
      intro w10 b10 u10
      go_wp2
      refine ret_row2 rfl rfl b10 agg_key HSL.out rfl ⟨by rw [← HV2.out]; rfl, u10.ext E9.out (by omega)⟩
end

section
open Go Go.RowKit

section
variable {P : Program} {ops : Array Oper} {Q : Exit → Act → World → Prop} {S : World → Prop}
/-- two operations that may come up in either order, each of which makes something that stays -/
theorem held_par {i j : Nat} {oi oj : Oper} {ri rj : List Oper} {f : Nat} {listed : Array Bool} {a : Act} {w : World} {βi βj : Type} (vi : βi → Value) (vj : βj → Value) (Φi : βi → World → Prop) (Φj : βj → World → Prop)
    (hr : Region.ready .any ops listed = [i, j]) (hri : Region.ready .any ops (listed.setIfInBounds i true) = [j]) (hrj : Region.ready .any ops (listed.setIfInBounds j true) = [i]) (hne : (i == j) = false)
    (hoi : ops.toList.drop i = oi :: ri) (hoj : ops.toList.drop j = oj :: rj) (hSx : ∀ w w', S w → Ext w w' → S w') (hΦi : ∀ b w w', Φi b w → Ext w w' → Φi b w') (hΦj : ∀ b w w', Φj b w → Ext w w' → Φj b w')
    (hcm : ∀ x y, (a.put oj.dst y).put oi.dst x = (a.put oi.dst x).put oj.dst y)
    (hi : ∀ a', (a' = a ∨ ∃ b, a' = a.put oj.dst (vj b)) → ∀ w, S w → ∀ Q' : Exit → Act → World → Prop, (∀ b w', Ext w w' → Φi b w' → Q' .normal (a'.put oi.dst (vi b)) w') → wpList P ops Q' [oi] a' w)
    (hj : ∀ a', (a' = a ∨ ∃ b, a' = a.put oi.dst (vi b)) → ∀ w, S w → ∀ Q' : Exit → Act → World → Prop, (∀ b w', Ext w w' → Φj b w' → Q' .normal (a'.put oj.dst (vj b)) w') → wpList P ops Q' [oj] a' w)
    (hS : S w)
    (h : ∀ bi bj w', S w' → Φi bi w' → Φj bj w' → wpAnyH P .any ops Q S f ((listed.setIfInBounds i true).setIfInBounds j true) ((a.put oi.dst (vi bi)).put oj.dst (vj bj)) w') :
    wpAnyH P .any ops Q S (f + 2) listed a w := by
  have hne' : i ≠ j := by simpa using hne
  refine wpAnyH_all hr (by simp) fun k hk => ?_
  have hk' : k = i ∨ k = j := by simpa using hk
  rcases hk' with rfl | rfl
  · refine wpOp_of_list (op_of_drop hoi) (hi a (.inl rfl) w hS _ fun bi w1 e1 h1 => ?_)
    have hS1 := hSx _ _ hS e1
    refine ⟨hS1, ?_⟩
    refine held_one hri hoj fun Q' hQ => ?_
    refine hj _ (.inr ⟨bi, rfl⟩) w1 hS1 _ fun bj w2 e2 h2 => ?_
    exact hQ _ _ (hSx _ _ hS1 e2) (h bi bj w2 (hSx _ _ hS1 e2) (hΦi _ _ _ h1 e2) h2)
  · refine wpOp_of_list (op_of_drop hoj) (hj a (.inl rfl) w hS _ fun bj w1 e1 h1 => ?_)
    have hS1 := hSx _ _ hS e1
    refine ⟨hS1, ?_⟩
    refine held_one hrj hoi fun Q' hQ => ?_
    refine hi _ (.inr ⟨bj, rfl⟩) w1 hS1 _ fun bi w2 e2 h2 => ?_
    refine hQ _ _ (hSx _ _ hS1 e2) ?_
    rw [hcm, Array.setIfInBounds_comm _ _ (Ne.symm hne')]
    exact h bi bj w2 (hSx _ _ hS1 e2) h2 (hΦj _ _ _ h1 e2)
end

theorem wpl_stepA {P : Program} {ops : Array Oper} {rest : List Oper} {o : Oper} {a : Act} {w w' : World} {Q : Exit → Act → World → Prop} {v : Value} (hgd : o.guard = none) (hr : (execOp a.eval o).run P w = .ok (.value v) w') (h : wpList P ops Q rest (a.put o.dst v) w') : wpList P ops Q (o :: rest) a w :=
  wpList_plain hgd fun K hK => by
    unfold Oper.wp
    rw [hr, Oper.upon_value]
    exact hK _ _ h
theorem exec_toBytes {o : Oper} {a : Act} {x : Operand} {s : ByteArray} (ho : o.op = .convert 9 73 x) (hx : a.eval x = .string s) (w : World) :
    (execOp a.eval o).run Try.prog w = .ok (.value (.slice (some ⟨w.heap.size, 0, none⟩) s.size (grownCap w s.size 0 5)))
      (w.drew.alloc (.cells (bytesRow s (grownCap w s.size 0 5)) 5 ((bytesRow s (grownCap w s.size 0 5)).size, (bytesRow s (grownCap w s.size 0 5)).size + 1))) := by
  unfold execOp
  simp only [ho, hx, Sem.run_bind, run_bytes_of_string w _ _ _ s Try.underlying9 Try.underlying73 Try.underlying5, Result.andThen_ok, Sem.run_pure]
theorem cells_toBytes (s : ByteArray) (c : Nat) (w : World) (z : Nat × Nat) : Cells (w.drew.alloc (.cells (bytesRow s c) 5 z)) (some ⟨w.heap.size, 0, none⟩) (s.data.toList.map u8v) := by
  refine .inr ⟨w.heap.size, 0, rfl, fun i u hu => ?_⟩
  have hi : i < s.data.size := by
    have := (List.getElem?_eq_some_iff.1 hu).1
    rw [List.length_map, Array.length_toList] at this; exact this
  have hh : (w.drew.alloc (.cells (bytesRow s c) 5 z)).heap[w.heap.size]? = some (.cells (bytesRow s c) 5 z) := by
    show (w.heap.push _)[w.heap.size]? = _
    simp
  rw [Nat.zero_add]
  have hb : (bytesRow s c)[i]? = some u := by
    unfold bytesRow
    rw [Array.getElem?_append_left (by simpa using hi), Array.getElem?_map]
    rw [List.getElem?_map, Array.getElem?_toList] at hu
    exact hu
  simp only [World.cell?, hh]
  exact hb

set_option maxRecDepth 100000 in
set_option maxHeartbeats 2000000 in
theorem derive_ok (k : List UInt8) (s : ByteArray) (N : Nat) (w : World) (hk : k.length = 32) (hs : isNameL s.data.toList = true) (hs32 : s.size ≤ 32) (hN : N ≤ 4294967295) :
    Calls Try.prog 10 #[.agg (k.map u8v).toArray, .string s, .int .i64 (N : Int)] w fun e w' => e = .returned (.tuple #[.agg ((deriveL k s.data.toList N).map u8v).toArray, .int .i64 0]) ∧ Ext w w' := by
  have HK := hid hk
  have hnm := fun w => isName_c s w (by omega)
  rw [hs] at hnm
  have HNM := hid hnm
  have hun : ((UInt64.ofNat N).toNat : Int) = N := by rw [UInt64.toNat_ofNat']; omega
  have hlong := fun w => longOctets_c (UInt64.ofNat N) w
  rw [hun] at hlong
  have hll : (longL (UInt64.ofNat N)).length = 8 := rfl
  have hlv : ((longL (UInt64.ofNat N)).map u8v).length = 8 := rfl
  have o8 := one_u8 (longL (UInt64.ofNat N))
  have hsl : s.data.toList.length = s.size := by rw [Array.length_toList]; rfl
  have hlen : (k ++ s.data.toList ++ [0] ++ longL (UInt64.ofNat N)).length = s.size + 41 := by
    rw [List.length_append, List.length_append, List.length_append, hk, hsl, hll]; simp; omega
  have hdl : deriveL k s.data.toList N = sumL 7 (k ++ s.data.toList ++ [0] ++ longL (UInt64.ofNat N)) := rfl
  have hdll : (deriveL k s.data.toList N).length = 32 := by rw [hdl]; exact sumL_length _ _
  generalize longL (UInt64.ofNat N) = ll at *
  generalize deriveL k s.data.toList N = dl at *
  have odl := one_u8 dl
  have HDV := hid (show (dl.map u8v).length = 32 by rw [List.length_map, hdll])
  have HL := hid hlong
  have HLL := hid hll
  have HLV := hid hlv
  have HDL := hid hdl
  have HSL := hid hsl
  have HLEN := hid hlen
  have d1 : decide ((N : Int) < 0) = false := decide_eq_false (by omega)
  have d2 : decide ((4294967295 : Int) < (N : Int)) = false := decide_eq_false (by omega)
  have d2n : decide (4294967295 < N) = false := decide_eq_false (by omega)
  have hu : IntKind.u64.wrap (N : Int) = (N : Int) := IntWalk.u64_in _ (by omega)
  clear hs hk hnm hun hlong hll hlv hdl hsl hlen hdll
  go_enter Try.func10, Try.ntmps10
  go_wp2_with fail
  generalize hwA : World.alloc (World.alloc w _) _ = wA
  have kA : Blk wA w.heap.size (k.map u8v) 23 := by rw [← hwA]; exact (Blk.mk_alloc rfl rfl).alloc _
  have zA : Blk wA (w.heap.size + 1) (List.replicate 32 (.int .u8 0)) 23 := by rw [← hwA]; exact Blk.mk_alloc (by simp) rfl
  have eA : Ext w wA := by rw [← hwA]; exact ((Ext.refl w).alloc _).alloc _
  clear hwA
  refine (HNM.out wA).mono ?_
  rintro e w1 ⟨rfl, rfl⟩
  have KA := hid kA
  have ZA := hid zA
  have EA := hid eA
  clear kA zA eA HNM
  go_wp2_with fail
  refine (HL.out wA).mono ?_
  rintro e w2 ⟨rfl, e2⟩
  go_wp2_with (refine wpl_storew rfl _ _ _ rfl rfl rfl (Blk.mk_alloc rfl rfl) agg_eight rfl HLV.out o8 ?_)
  intro w3 b3 u3
  have e3 : Ext wA w3 := u3.ext (e2.alloc _) e2.size
  have K3 := hid (KA.out.ext e3)
  have Z3 := hid (ZA.out.ext e3)
  have E3 := hid (EA.out.ext e3)
  have L3 := hid b3
  clear b3 u3 e2 e3 KA ZA EA
  generalize w2.heap.size = g3 at *
  go_wp2_with fail
  obtain ⟨C, hC⟩ : ∃ C : World → Prop, C = Cls w w3 [w.heap.size, w.heap.size + 1, g3] [] := ⟨_, rfl⟩
  have hC0 : ∀ w', C w' ↔ Cls w w3 [w.heap.size, w.heap.size + 1, g3] [] w' := fun w' => by rw [hC]
  clear hC
  have HCC := hid hC0
  clear hC0
  have hCx : ∀ w w', C w → Ext w w' → C w' := fun w w' h1 h2 => (HCC.out w').2 (((HCC.out w).1 h1).ext h2)
  have hCA : C w3 := (HCC.out _).2 (Cls.no_room E3.out (Kept.three K3.out.lt Z3.out.lt L3.out.lt))
  refine wp_region_held_drew (S := C) (by kernel_rfl) (hCx _ _ hCA (Ext.refl _).drew) (fun hS0 => ?_)
  refine held_take 0 (v := ?tv1) rfl (by kernel_rfl) (by kernel_rfl) (by kernel_rfl) (fun _ _ _ h => h) (.inl ⟨rfl, ?ty1⟩) hS0 ?tr1
  case ty1 => (intro _ _; go_simp; try with_reducible rfl)
  case tr1 =>
  simp only [Act.put, List.setIfInBounds_toArray, List.set_cons_succ, List.set_cons_zero]
  refine held_take 1 (v := ?tv2) rfl (by kernel_rfl) (by kernel_rfl) (by kernel_rfl) (fun _ _ _ h => h) (.inl ⟨rfl, ?ty2⟩) hS0 ?tr2
  case ty2 => (intro _ _; go_simp; try with_reducible rfl)
  case tr2 =>
  simp only [Act.put, List.setIfInBounds_toArray, List.set_cons_succ, List.set_cons_zero]
  refine held_take 4 (v := ?tv3) rfl (by kernel_rfl) (by kernel_rfl) (by kernel_rfl) (fun _ _ _ h => h) (.inl ⟨rfl, ?ty3⟩) hS0 ?tr3
  case ty3 => (intro _ _; go_simp; try with_reducible rfl)
  case tr3 =>
  simp only [Act.put, List.setIfInBounds_toArray, List.set_cons_succ, List.set_cons_zero]
  refine held_par (i := 2) (j := 3) (βi := Nat × Nat) (βj := Nat) (fun b => .slice (some ⟨b.1, 0, none⟩) s.size b.2) (fun g => .slice (some ⟨g, 0, none⟩) 1 1) (fun b w' => Cells w' (some ⟨b.1, 0, none⟩) (s.data.toList.map u8v) ∧ s.size ≤ b.2 ∧ b.2 ≤ maxLen) (fun g w' => Blk w' g [.int .u8 0] 5) (by kernel_rfl) (by kernel_rfl) (by kernel_rfl) rfl rfl rfl hCx (fun b w1 w2 h e => ⟨h.1.ext e, h.2⟩) (fun b w1 w2 h e => h.ext e) ?hcm ?hi ?hj hS0 ?rest
  case hcm => intro x y; simp only [Act.put, List.setIfInBounds_toArray, List.set_cons_succ, List.set_cons_zero]
  case hi =>
    rintro a' (rfl | ⟨b, rfl⟩) w4 hS4 Q' hQ
    · refine wpl_stepA rfl (exec_toBytes rfl rfl w4) ?_
      exact hQ (w4.heap.size, _) _ ((Ext.refl w4).drew.alloc _) ⟨cells_toBytes s _ w4 _, grownCap_ge _ _ _ _, grownCap_le_maxLen _ _ _ _ (by unfold maxLen; omega)⟩
    · refine wpl_stepA rfl (exec_toBytes rfl rfl w4) ?_
      exact hQ (w4.heap.size, _) _ ((Ext.refl w4).drew.alloc _) ⟨cells_toBytes s _ w4 _, grownCap_ge _ _ _ _, grownCap_le_maxLen _ _ _ _ (by unfold maxLen; omega)⟩
  case hj =>
    rintro a' (rfl | ⟨b, rfl⟩) w4 hS4 Q' hQ
    · try simp only [Act.put, List.setIfInBounds_toArray, List.set_cons_succ, List.set_cons_zero]
      go_wp2_with fail
      exact hQ w4.heap.size _ ((Ext.refl w4).alloc _) (Blk.mk_alloc rfl rfl)
    · try simp only [Act.put, List.setIfInBounds_toArray, List.set_cons_succ, List.set_cons_zero]
      go_wp2_with fail
      exact hQ w4.heap.size _ ((Ext.refl w4).alloc _) (Blk.mk_alloc rfl rfl)
  case rest =>
  clear hS0
  rintro ⟨gb, cb⟩ gz w5 hS0 ⟨hcb, hb1, hb2⟩ hzb
  try dsimp only
  try simp only [Act.put, List.setIfInBounds_toArray, List.set_cons_succ, List.set_cons_zero]
  simp only at hcb hb1 hb2
  have HCB := hid hcb
  have HZB := hid hzb
  clear hcb hzb
  refine held_one (i := 5) (by kernel_rfl) rfl ?_
  intro Q' hQ
  go_wp2_with fail
  generalize hw6 : World.alloc w5 _ = w6
  have e6 : Ext w5 w6 := by rw [← hw6]; exact (Ext.refl w5).alloc _
  have gA : Blk w6 w5.heap.size [.slice (some ⟨w.heap.size, 0, none⟩) 32 32, .slice (some ⟨gb, 0, none⟩) s.size cb, .slice (some ⟨gz, 0, none⟩) 1 1, .slice (some ⟨g3, 0, none⟩) 8 8] 73 := by rw [← hw6]; exact Blk.mk_alloc rfl rfl
  clear hw6
  have hS6 := hCx _ _ hS0 e6
  refine hQ _ _ hS6 ?_
  clear hQ Q' hS0
  generalize w5.heap.size = g5 at *
  have GA := hid gA
  have CB6 := hid (HCB.out.ext e6)
  have ZB6 := hid (HZB.out.ext e6)
  clear gA e6 HCB HZB
  try dsimp only
  try simp only [Act.put, List.setIfInBounds_toArray, List.set_cons_succ, List.set_cons_zero]
  have hS0 := hS6
  clear hS6
  refine held_one (i := 6) (by kernel_rfl) rfl ?_
  intro Q' hQ
  go_wp2_with fail
  have K6 := ((HCC.out w6).1 hS0).blk K3.out (by simp)
  have L6 := ((HCC.out w6).1 hS0).blk L3.out (by simp)
  have hcat : cat [(some ⟨w.heap.size, 0, none⟩, 32, k), (some ⟨gb, 0, none⟩, cb, s.data.toList), (some ⟨gz, 0, none⟩, 1, [0]), (some ⟨g3, 0, none⟩, 8, ll)] = k ++ s.data.toList ++ [0] ++ ll := by simp [cat]
  refine (summed_c [(some ⟨w.heap.size, 0, none⟩, 32, k), (some ⟨gb, 0, none⟩, cb, s.data.toList), (some ⟨gz, 0, none⟩, 1, [0]), (some ⟨g3, 0, none⟩, 8, ll)] 7 g5 4 4 w6 rfl (by omega) ?hg GA.out.lt ?hc ?hn ?hnc ?hcm).mono ?_
  case hg =>
    intro i it hit
    match i, hit with
    | 0, hit => cases hit; rw [itemV]; simp only; rw [HK.out]; exact GA.out.cell' rfl
    | 1, hit => cases hit; rw [itemV]; simp only; rw [HSL.out]; exact GA.out.cell' rfl
    | 2, hit => cases hit; rw [itemV]; exact GA.out.cell' rfl
    | 3, hit => cases hit; rw [itemV]; simp only; rw [HLL.out]; exact GA.out.cell' rfl
  case hc =>
    intro it hit
    simp only [List.mem_cons, List.not_mem_nil, or_false] at hit
    rcases hit with rfl | rfl | rfl | rfl
    · exact Cells.of_blk0 K6
    · exact CB6.out
    · exact Cells.of_blk0 ZB6.out
    · exact Cells.of_blk0 L6
  case hn =>
    intro it hit
    simp only [List.mem_cons, List.not_mem_nil, or_false] at hit
    rcases hit with rfl | rfl | rfl | rfl <;> (intro h; cases h)
  case hnc =>
    intro it hit
    simp only [List.mem_cons, List.not_mem_nil, or_false] at hit
    rcases hit with rfl | rfl | rfl | rfl
    · rw [HK.out]; exact Nat.le_refl _
    · rw [HSL.out]; exact hb1
    · exact Nat.le_refl _
    · rw [HLL.out]; exact Nat.le_refl _
  case hcm =>
    intro it hit
    simp only [List.mem_cons, List.not_mem_nil, or_false] at hit
    rcases hit with rfl | rfl | rfl | rfl
    · simp
    · exact hb2
    · simp
    · simp
  intro e w7 h
  rw [hcat] at h
  unfold summedPost at h
  obtain ⟨h, e7⟩ := h
  rw [if_neg (by omega), HLEN.out, if_pos (by omega)] at h
  obtain ⟨rfl, h1⟩ := h
  have hS7 := hCx _ _ hS0 e7
  have hsum := sum_c (initS 7) (k ++ s.data.toList ++ [0] ++ ll) (s.size + 41) w6.heap.size SmT w7 (initS_length 7) (by omega) h1
  rw [show (finL (initS 7) (k ++ s.data.toList ++ [0] ++ ll) (s.size + 41)).take 32 = dl by rw [HDL.out, sumL, HLEN.out]] at hsum
  have hsum2 := hid hsum
  clear h1 hcat hsum
  go_wp2_with fail
  refine hQ _ _ hS7 ?_
  clear hQ Q' hS0 K6 L6 CB6 ZB6 GA e7
  generalize w6.heap.size = g6 at *
  try dsimp only
  try simp only [Act.put, List.setIfInBounds_toArray, List.set_cons_succ, List.set_cons_zero]
  have hS0 := hS7
  clear hS7
  refine held_take 7 (v := ?tv4) rfl (by kernel_rfl) (by kernel_rfl) (by kernel_rfl) (fun _ _ _ h => h) (.inl ⟨rfl, ?ty4⟩) hS0 ?tr4
  case ty4 => (intro _ _; go_simp; try with_reducible rfl)
  case tr4 =>
  simp only [Act.put, List.setIfInBounds_toArray, List.set_cons_succ, List.set_cons_zero]
  refine held_take 8 (v := ?tv5) rfl (by kernel_rfl) (by kernel_rfl) (by kernel_rfl) (fun _ _ _ h => h) (.inl ⟨rfl, ?ty5⟩) hS0 ?tr5
  case ty5 => (intro _ _; go_simp; try with_reducible rfl)
  case tr5 =>
  simp only [Act.put, List.setIfInBounds_toArray, List.set_cons_succ, List.set_cons_zero]
  refine held_take 9 (v := ?tv6) rfl (by kernel_rfl) (by kernel_rfl) (by kernel_rfl) (fun _ _ _ h => h) (.inl ⟨rfl, ?ty6⟩) hS0 ?tr6
  case ty6 => (intro _ _; go_simp; try with_reducible rfl)
  case tr6 =>
  simp only [Act.put, List.setIfInBounds_toArray, List.set_cons_succ, List.set_cons_zero]
  refine held_take 10 (v := ?tv7) rfl (by kernel_rfl) (by kernel_rfl) (by kernel_rfl) (fun _ _ _ h => h) (.inl ⟨rfl, ?ty7⟩) hS0 ?tr7
  case ty7 => (intro _ _; go_simp; try with_reducible rfl)
  case tr7 =>
  simp only [Act.put, List.setIfInBounds_toArray, List.set_cons_succ, List.set_cons_zero]
  refine held_take 11 (v := ?tv8) rfl (by kernel_rfl) (by kernel_rfl) (by kernel_rfl) (fun _ _ _ h => h) (.inl ⟨rfl, ?ty8⟩) hS0 ?tr8
  case ty8 => (intro _ _; go_simp; try with_reducible rfl)
  case tr8 =>
  simp only [Act.put, List.setIfInBounds_toArray, List.set_cons_succ, List.set_cons_zero]
  refine wpAnyH_done (by kernel_rfl) ?_ _
  have K8 := hid (((HCC.out w7).1 hS0).blk K3.out (by simp))
  have Z8 := hid (((HCC.out w7).1 hS0).blk Z3.out (by simp))
  have E8 := hid ((HCC.out w7).1 hS0).base
  clear hS0 hCx HCC hCA K3 Z3 L3 E3
  go_wp2_with fail
  refine hsum2.out.mono ?_
  rintro e w9 ⟨rfl, e9⟩
  have Z9 := hid (Z8.out.ext e9)
  have E9 := hid (E8.out.ext e9)
  clear e9 Z8 E8
  go_wp2_with (refine wpl_storew rfl _ _ _ rfl rfl rfl Z9.out agg_key (by simp) HDV.out odl ?_)
  intro wH bH uH
  go_wp2
  exact ret_row2 rfl rfl bH agg_key HDV.out rfl ⟨rfl, uH.ext E9.out (by omega)⟩
end

section
open Go Go.RowKit

theorem exec_cmpA {P : Program} {o : Oper} {a : Act} {op : BinOp} {t u : TypeId} {x y : Operand} {xs ys : Array Value} {b : Value} (ho : o.op = .binOp op t x y u) (hx : a.eval x = .agg xs) (hy : a.eval y = .agg ys)
    (hg : P.eqGuardType P.depth t = false) (hr : ∀ w, (binOp op t (.agg xs) (.agg ys)).run P w = .ok b w) (w : World) : (execOp a.eval o).run P w = .ok (.value b) w := by
  unfold execOp
  simp only [ho, hx, hy, Sem.run_bind, run_eqGuard_agg w op t x y xs ys hg, Result.andThen_ok, hr, Sem.run_pure]
theorem guard_keyA : Try.prog.eqGuardType Try.prog.depth 23 = false := by kernel_rfl
theorem guard_id : Try.prog.eqGuardType Try.prog.depth 29 = false := by kernel_rfl

def zerosL : List UInt8 := List.replicate 32 0
theorem zerosL_map : zerosL.map u8v = List.replicate 32 (.int .u8 0) := by simp [zerosL, u8v]
def derS (k s : List UInt8) (b : Bool) (ep : Int) : List UInt8 := if b = false then zerosL else if ep < 0 ∨ 4294967295 < ep then zerosL else deriveL k s ep.toNat
def derE (b : Bool) (ep : Int) : Int := if b = false then 6 else if ep < 0 ∨ 4294967295 < ep then 4 else 0
theorem derV_eq (k s : List UInt8) (b : Bool) (ep : Int) : deriveV k s b ep = .tuple #[.agg ((derS k s b ep).map u8v).toArray, .int .i64 (derE b ep)] := by
  unfold deriveV derS derE zeros
  split
  · rw [zerosL_map]
  · split
    · rw [zerosL_map]
    · rfl
theorem derS_length (k s : List UInt8) (b : Bool) (ep : Int) : (derS k s b ep).length = 32 := by
  unfold derS
  split
  · simp [zerosL]
  · split
    · simp [zerosL]
    · exact sumL_length _ _

set_option maxRecDepth 100000 in
set_option maxHeartbeats 2000000 in
theorem derive_c (k : List UInt8) (s : ByteArray) (ep : Int) (w : World) (hk : k.length = 32) (hn : s.size ≤ 140737488355328) :
    Calls Try.prog 10 #[.agg (k.map u8v).toArray, .string s, .int .i64 ep] w fun e w' => e = .returned (deriveV k s.data.toList (isNameL s.data.toList) ep) ∧ Ext w w' := by
  have hnm := hid (fun w => isName_c s w hn)
  cases hb : isNameL s.data.toList with
  | false =>
    rw [hb] at hnm
    rw [show deriveV k s.data.toList false ep = .tuple #[.agg (List.replicate 32 (.int .u8 0)).toArray, .int .i64 6] from rfl]
    clear hb hk
    go_enter Try.func10, Try.ntmps10
    go_wp2_with fail
    generalize hwA : World.alloc (World.alloc w _) _ = wA
    have zA : Blk wA (w.heap.size + 1) (List.replicate 32 (.int .u8 0)) 23 := by rw [← hwA]; exact Blk.mk_alloc (by simp) rfl
    have eA : Ext w wA := by rw [← hwA]; exact ((Ext.refl w).alloc _).alloc _
    clear hwA
    refine (hnm.out wA).mono ?_
    rintro e w1 ⟨rfl, rfl⟩
    have ZA := hid zA
    have EA := hid eA
    clear zA eA hnm
    go_wp2_with (first | (refine wpl_storew rfl _ (.tmp 6) _ rfl rfl rfl ZA.out agg_key (by simp) (xs := List.replicate 32 (.int .u8 0)) (by simp) (one_zeros 32) ?_))
    intro w4 b4 u4
    have b5 : Blk w4 (w.heap.size + 1) (List.replicate 32 (.int .u8 0)) 23 := b4
    go_wp2
    exact ret_row2 rfl rfl b5 agg_key (by simp) rfl ⟨rfl, u4.ext EA.out (by omega)⟩
  | true =>
    by_cases hr : ep < 0 ∨ 4294967295 < ep
    · rw [hb] at hnm
      rw [show deriveV k s.data.toList true ep = .tuple #[.agg (List.replicate 32 (.int .u8 0)).toArray, .int .i64 4] by unfold deriveV zeros; rw [if_neg (by simp), if_pos hr]]
      clear hb hk
      go_enter Try.func10, Try.ntmps10
      go_wp2_with fail
      generalize hwA : World.alloc (World.alloc w _) _ = wA
      have zA : Blk wA (w.heap.size + 1) (List.replicate 32 (.int .u8 0)) 23 := by rw [← hwA]; exact Blk.mk_alloc (by simp) rfl
      have eA : Ext w wA := by rw [← hwA]; exact ((Ext.refl w).alloc _).alloc _
      clear hwA
      refine (hnm.out wA).mono ?_
      rintro e w1 ⟨rfl, rfl⟩
      have ZA := hid zA
      have EA := hid eA
      clear zA eA hnm
      by_cases h0 : ep < 0
      · have g1 : decide (ep < 0) = true := decide_eq_true h0
        clear hr
        go_wp2_with (first | (refine wpl_storew rfl _ (.tmp 6) _ rfl rfl rfl ZA.out agg_key (by simp) (xs := List.replicate 32 (.int .u8 0)) (by simp) (one_zeros 32) ?_))
        intro w4 b4 u4
        have b5 : Blk w4 (w.heap.size + 1) (List.replicate 32 (.int .u8 0)) 23 := b4
        go_wp2
        exact ret_row2 rfl rfl b5 agg_key (by simp) rfl ⟨rfl, u4.ext EA.out (by omega)⟩
      · have g1 : decide (ep < 0) = false := decide_eq_false h0
        have g2 : decide (ep > 4294967295) = true := decide_eq_true (by omega)
        have g3 : decide (4294967295 < ep) = true := decide_eq_true (by omega)
        clear hr
        go_wp2_with (first | (refine wpl_storew rfl _ (.tmp 6) _ rfl rfl rfl ZA.out agg_key (by simp) (xs := List.replicate 32 (.int .u8 0)) (by simp) (one_zeros 32) ?_))
        intro w4 b4 u4
        have b5 : Blk w4 (w.heap.size + 1) (List.replicate 32 (.int .u8 0)) 23 := b4
        go_wp2
        exact ret_row2 rfl rfl b5 agg_key (by simp) rfl ⟨rfl, u4.ext EA.out (by omega)⟩
    · obtain ⟨N, rfl⟩ : ∃ N : Nat, ep = (N : Int) := ⟨ep.toNat, by omega⟩
      rw [show deriveV k s.data.toList true (N : Int) = .tuple #[.agg ((deriveL k s.data.toList N).map u8v).toArray, .int .i64 0] by unfold deriveV; rw [if_neg (by simp), if_neg hr]; rfl]
      have h32 : s.size ≤ 32 := by
        have := hb
        unfold isNameL at this
        simp only [Bool.and_eq_true, decide_eq_true_eq] at this
        have hl : s.data.toList.length = s.size := by rw [Array.length_toList]; rfl
        omega
      exact derive_ok k s N w hk hb h32 (by omega)

set_option maxRecDepth 100000 in
set_option maxHeartbeats 2000000 in
theorem keysAreDerived_c (k : List UInt8) (s : ByteArray) (ep : Int) (w : World) (hk : k.length = 32) (hn : s.size ≤ 140737488355328) :
    Calls Try.prog 3 #[.agg (k.map u8v).toArray, .string s, .int .i64 ep] w fun e w' => e = .returned (.bool true) ∧ Ext w w' := by
  have hd := hid (fun w' => derive_c k s ep w' hk hn)
  have h32 : isNameL s.data.toList = true → s.size ≤ 32 := by
    intro this
    unfold isNameL at this
    simp only [Bool.and_eq_true, decide_eq_true_eq] at this
    have hl : s.data.toList.length = s.size := by rw [Array.length_toList]; rfl
    omega
  have hrd := hid (fun w' => rderive_c k s ep (isNameL s.data.toList) w' hk (fun w => risName_c s w (by omega)) h32)
  rw [derV_eq] at hd hrd
  have hSl := derS_length k s.data.toList (isNameL s.data.toList) ep
  have hno := hid (fun w' => nameOf_c k w' hk)
  have hrno := hid (fun w' => rnameOf_c k w' hk)
  have hnl := nameL_length k
  generalize derS k s.data.toList (isNameL s.data.toList) ep = S at *
  generalize derE (isNameL s.data.toList) ep = E at *
  generalize nameL k = nl at *
  have HS := hid (show (S.map u8v).length = 32 by rw [List.length_map, hSl])
  have HK := hid (show (k.map u8v).length = 32 by rw [List.length_map, hk])
  have os := one_u8 S
  have HSE := hid (fun w => eq_self Try.underlying23 S hSl w)
  have HNE := hid (fun w => eq_self Try.underlying29 nl hnl w)
  have kE : (E == E) = true := by simp
  clear hSl hnl hk h32
  go_enter Try.func3, Try.ntmps3
  go_upto_region 1 with (fail)
  generalize hwA : World.alloc w _ = wA
  have kA : Blk wA w.heap.size (k.map u8v) 23 := by rw [← hwA]; exact Blk.mk_alloc rfl rfl
  have eA : Ext w wA := by rw [← hwA]; exact (Ext.refl w).alloc _
  clear hwA
  have KA := hid kA
  have EA := hid eA
  clear kA eA
  go_wp2_with fail
  refine (landed_c wA).mono ?_
  rintro e wB ⟨rfl, eB⟩
  have KB := hid (KA.out.ext eB)
  have EB := hid (EA.out.ext eB)
  clear eB KA EA
  go_wp2_with (first | (refine wpl_loadw rfl 23 (.tmp 3) rfl rfl KB.out agg_key HK.out ?_))
  refine (hd.out _).mono ?_
  rintro e wC ⟨rfl, eC⟩
  have KC := hid (KB.out.ext eC)
  have EC := hid (EB.out.ext eC)
  clear eC KB EB
  go_wp2_with (first | (refine wpl_storew rfl _ (.tmp 7) _ rfl rfl rfl (Blk.mk_alloc (vs := List.replicate 32 (.int .u8 0)) rfl rfl) agg_key (by simp) HS.out os ?_))
  intro wD bD uD
  have eD : Ext wC wD := uD.ext ((Ext.refl wC).alloc _) (Nat.le_refl _)
  have AD := hid bD
  have KD := hid (KC.out.ext eD)
  have ED := hid (EC.out.ext eD)
  clear eD KC EC
  clear uD bD hd
  generalize wC.heap.size = g9 at *
  go_wp2_with (first | (refine wpl_loadw rfl 23 (.tmp 3) rfl rfl KD.out agg_key HK.out ?_))
  refine (hrd.out _).mono ?_
  rintro e wE ⟨rfl, eE⟩
  have KE := hid (KD.out.ext eE)
  have AE := hid (AD.out.ext eE)
  have EE := hid (ED.out.ext eE)
  clear eE KD AD ED
  go_wp2_with (first | (refine wpl_storew rfl _ (.tmp 9) _ rfl rfl rfl (Blk.mk_alloc (vs := List.replicate 32 (.int .u8 0)) rfl rfl) agg_key (by simp) HS.out os ?_))
  intro wF bF uF
  have eF : Ext wE wF := uF.ext ((Ext.refl wE).alloc _) (Nat.le_refl _)
  have BF := hid bF
  have KF := hid (KE.out.ext eF)
  have AF := hid (AE.out.ext eF)
  have EF := hid (EE.out.ext eF)
  clear eF KE AE EE
  clear uF bF hrd
  generalize wE.heap.size = g10 at *
  go_wp2_with fail
  obtain ⟨C, hC⟩ : ∃ C : World → Prop, C = Cls w wF [w.heap.size, g9, g10] [] := ⟨_, rfl⟩
  have hC0 : ∀ w', C w' ↔ Cls w wF [w.heap.size, g9, g10] [] w' := fun w' => by rw [hC]
  clear hC
  have HCC := hid hC0
  clear hC0
  have hCx : ∀ w w', C w → Ext w w' → C w' := fun w w' h1 h2 => (HCC.out w').2 (((HCC.out w).1 h1).ext h2)
  have hCA : C wF := (HCC.out _).2 (Cls.no_room EF.out (Kept.three KF.out.lt AF.out.lt BF.out.lt))
  refine wp_region_held_drew (S := C) (by kernel_rfl) (hCx _ _ hCA (Ext.refl _).drew) (fun hS0 => ?_)
  refine held_take 0 (v := _) rfl (by kernel_rfl) (by kernel_rfl) (by kernel_rfl) (fun _ _ _ h => h) (yieldsI_loadw rfl 23 _ rfl rfl (fun w1 h => ((HCC.out w1).1 h).blk AF.out (by simp)) agg_key HS.out) hS0 ?_
  simp only [Act.put, List.setIfInBounds_toArray, List.set_cons_succ, List.set_cons_zero]
  refine held_take 1 (v := _) rfl (by kernel_rfl) (by kernel_rfl) (by kernel_rfl) (fun _ _ _ h => h) (yieldsI_loadw rfl 23 _ rfl rfl (fun w1 h => ((HCC.out w1).1 h).blk BF.out (by simp)) agg_key HS.out) hS0 ?_
  simp only [Act.put, List.setIfInBounds_toArray, List.set_cons_succ, List.set_cons_zero]
  refine held_take 2 (v := _) rfl (by kernel_rfl) (by kernel_rfl) (by kernel_rfl) (fun _ _ _ h => h) (yieldsI_run rfl (fun w1 _ => exec_cmpA rfl rfl rfl guard_keyA HSE.out w1)) hS0 ?_
  simp only [Act.put, List.setIfInBounds_toArray, List.set_cons_succ, List.set_cons_zero]
  refine held_take 3 (v := ?tv1) rfl (by kernel_rfl) (by kernel_rfl) (by kernel_rfl) (fun _ _ _ h => h) (.inl ⟨rfl, ?ty1⟩) hS0 ?tr1
  case ty1 => (intro _ _; go_simp; try with_reducible rfl)
  case tr1 =>
  simp only [Act.put, List.setIfInBounds_toArray, List.set_cons_succ, List.set_cons_zero]
  refine held_take 4 (v := ?tv2) rfl (by kernel_rfl) (by kernel_rfl) (by kernel_rfl) (fun _ _ _ h => h) (.inl ⟨rfl, ?ty2⟩) hS0 ?tr2
  case ty2 => (intro _ _; go_simp; try with_reducible rfl)
  case tr2 =>
  simp only [Act.put, List.setIfInBounds_toArray, List.set_cons_succ, List.set_cons_zero]
  refine held_take 5 (v := ?tv3) rfl (by kernel_rfl) (by kernel_rfl) (by kernel_rfl) (fun _ _ _ h => h) (.inl ⟨rfl, ?ty3⟩) hS0 ?tr3
  case ty3 => (intro _ _; go_simp; try with_reducible rfl)
  case tr3 =>
  simp only [Act.put, List.setIfInBounds_toArray, List.set_cons_succ, List.set_cons_zero]
  refine held_take 6 (v := ?tv4) rfl (by kernel_rfl) (by kernel_rfl) (by kernel_rfl) (fun _ _ _ h => h) (.inl ⟨rfl, ?ty4⟩) hS0 ?tr4
  case ty4 => (intro _ _; go_simp; try with_reducible rfl)
  case tr4 =>
  simp only [Act.put, List.setIfInBounds_toArray, List.set_cons_succ, List.set_cons_zero]
  refine held_take 7 (v := ?tv5) rfl (by kernel_rfl) (by kernel_rfl) (by kernel_rfl) (fun _ _ _ h => h) (.inl ⟨rfl, ?ty5⟩) hS0 ?tr5
  case ty5 => (intro _ _; go_simp; try with_reducible rfl)
  case tr5 =>
  simp only [Act.put, List.setIfInBounds_toArray, List.set_cons_succ, List.set_cons_zero]
  refine held_take 8 (v := ?tv6) rfl (by kernel_rfl) (by kernel_rfl) (by kernel_rfl) (fun _ _ _ h => h) (.inl ⟨rfl, ?ty6⟩) hS0 ?tr6
  case ty6 => (intro _ _; go_simp; try with_reducible rfl)
  case tr6 =>
  simp only [Act.put, List.setIfInBounds_toArray, List.set_cons_succ, List.set_cons_zero]
  refine held_take 9 (v := _) rfl (by kernel_rfl) (by kernel_rfl) (by kernel_rfl) (fun _ _ _ h => h) (yieldsI_loadw rfl 23 _ rfl rfl (fun w1 h => ((HCC.out w1).1 h).blk KF.out (by simp)) agg_key HK.out) hS0 ?_
  simp only [Act.put, List.setIfInBounds_toArray, List.set_cons_succ, List.set_cons_zero]
  refine held_take 11 (v := _) rfl (by kernel_rfl) (by kernel_rfl) (by kernel_rfl) (fun _ _ _ h => h) (yieldsI_loadw rfl 23 _ rfl rfl (fun w1 h => ((HCC.out w1).1 h).blk KF.out (by simp)) agg_key HK.out) hS0 ?_
  simp only [Act.put, List.setIfInBounds_toArray, List.set_cons_succ, List.set_cons_zero]
  generalize wF.drew = wX at *
  refine held_one (i := 10) (by kernel_rfl) rfl ?_
  intro Q' hQ
  go_wp2_with fail
  refine (hno.out _).mono ?_
  rintro e wY ⟨rfl, eq9⟩
  have hS9 := hCx _ _ hS0 eq9
  go_wp2_with fail
  refine hQ _ _ hS9 ?_
  clear hQ Q' hS0 eq9
  have hS0 := hS9
  clear hS9
  try dsimp only
  try simp only [Act.put, List.setIfInBounds_toArray, List.set_cons_succ, List.set_cons_zero]
  refine held_one (i := 12) (by kernel_rfl) rfl ?_
  intro Q' hQ
  go_wp2_with fail
  refine (hrno.out _).mono ?_
  rintro e wZ ⟨rfl, eq9⟩
  have hS9 := hCx _ _ hS0 eq9
  go_wp2_with fail
  refine hQ _ _ hS9 ?_
  clear hQ Q' hS0 eq9
  have hS0 := hS9
  clear hS9
  try dsimp only
  try simp only [Act.put, List.setIfInBounds_toArray, List.set_cons_succ, List.set_cons_zero]
  refine held_take 13 (v := _) rfl (by kernel_rfl) (by kernel_rfl) (by kernel_rfl) (fun _ _ _ h => h) (yieldsI_run rfl (fun w1 _ => exec_cmpA rfl rfl rfl guard_id HNE.out w1)) hS0 ?_
  simp only [Act.put, List.setIfInBounds_toArray, List.set_cons_succ, List.set_cons_zero]
  refine held_take 14 (v := ?tv7) rfl (by kernel_rfl) (by kernel_rfl) (by kernel_rfl) (fun _ _ _ h => h) (.inl ⟨rfl, ?ty7⟩) hS0 ?tr7
  case ty7 => (intro _ _; go_simp; try with_reducible rfl)
  case tr7 =>
  simp only [Act.put, List.setIfInBounds_toArray, List.set_cons_succ, List.set_cons_zero]
  refine held_take 15 (v := ?tv8) rfl (by kernel_rfl) (by kernel_rfl) (by kernel_rfl) (fun _ _ _ h => h) (.inl ⟨rfl, ?ty8⟩) hS0 ?tr8
  case ty8 => (intro _ _; go_simp; try with_reducible rfl)
  case tr8 =>
  simp only [Act.put, List.setIfInBounds_toArray, List.set_cons_succ, List.set_cons_zero]
  refine wpAnyH_done (by kernel_rfl) ?_ _
  have EZ := hid ((HCC.out wZ).1 hS0).base
  clear hS0 hCx HCC
  go_wp2_with fail
  go_ret
  exact ⟨rfl, EZ.out⟩
end

section
open Go

/-- the greatest power of two less than n (n from 2 on) -/
def splitN (n : Nat) : Nat := 2 ^ Nat.log2 (n - 1)

theorem splitN_spec {n : Nat} (h : 2 ≤ n) : 1 ≤ splitN n ∧ splitN n < n ∧ n ≤ 2 * splitN n := by
  unfold splitN
  have h1 := Nat.log2_self_le (n := n - 1) (by omega)
  have h2 := Nat.lt_log2_self (n := n - 1)
  rw [Nat.pow_succ] at h2
  have h3 : 0 < 2 ^ Nat.log2 (n - 1) := Nat.pow_pos (by omega)
  omega

theorem splitN_eq {n j : Nat} (h1 : 2 ^ j < n) (h2 : n ≤ 2 * 2 ^ j) : 2 ^ j = splitN n := by
  have hp : 0 < 2 ^ j := Nat.pow_pos (by omega)
  have : Nat.log2 (n - 1) = j := (Nat.log2_eq_iff (by omega)).2 ⟨by omega, by rw [Nat.pow_succ]; omega⟩
  rw [splitN, this]

/-- for each sum of a path, from the leaf on: whether it stands on the left -/
def sidesL (i n : Nat) : List Bool :=
  if h : n < 2 then [] else if i < splitN n then sidesL i (splitN n) ++ [false] else sidesL (i - splitN n) (n - splitN n) ++ [true]
termination_by n
decreasing_by
  · have := splitN_spec (n := n) (by omega); omega
  · have := splitN_spec (n := n) (by omega); omega

theorem sidesL_one (i n : Nat) (h : n < 2) : sidesL i n = [] := by rw [sidesL, dif_pos h]
theorem sidesL_left {i n : Nat} (h : 2 ≤ n) (hi : i < splitN n) : sidesL i n = sidesL i (splitN n) ++ [false] := by
  rw [sidesL, dif_neg (by omega), if_pos hi]
theorem sidesL_right {i n : Nat} (h : 2 ≤ n) (hi : ¬ i < splitN n) : sidesL i n = sidesL (i - splitN n) (n - splitN n) ++ [true] := by
  rw [sidesL, dif_neg (by omega), if_neg hi]

theorem sidesL_le (i n : Nat) : (sidesL i n).length ≤ n := by
  induction n using Nat.strongRecOn generalizing i with
  | ind n ih =>
    by_cases h : n < 2
    · rw [sidesL_one _ _ h]; simp
    · have hs := splitN_spec (n := n) (by omega)
      by_cases hi : i < splitN n
      · rw [sidesL_left (by omega) hi, List.length_append]
        have := ih (splitN n) (by omega) i
        simp only [List.length_cons, List.length_nil]; omega
      · rw [sidesL_right (by omega) hi, List.length_append]
        have := ih (n - splitN n) (by omega) (i - splitN n)
        simp only [List.length_cons, List.length_nil]; omega

section
variable (nd : List UInt8 → List UInt8 → List UInt8)
def stepN (x : List UInt8) (p : Bool × List UInt8) : List UInt8 := if p.1 then nd p.2 x else nd x p.2
def leadS (x : List UInt8) (s : List Bool) (path : List (List UInt8)) : List UInt8 := (s.zip path).foldl (stepN nd) x
theorem leadS_nil (x : List UInt8) (path : List (List UInt8)) : leadS nd x [] path = x := rfl
theorem leadS_snoc (x : List UInt8) (s : List Bool) (b : Bool) (path : List (List UInt8)) (y : List UInt8) (h : s.length = path.length) :
    leadS nd x (s ++ [b]) (path ++ [y]) = if b then nd y (leadS nd x s path) else nd (leadS nd x s path) y := by
  unfold leadS
  rw [List.zip_append h, List.foldl_append]
  rfl
theorem leadS_take (x : List UInt8) (s : List Bool) (path : List (List UInt8)) (k : Nat) (hs : k < s.length) (hp : k < path.length) :
    leadS nd x (s.take (k + 1)) (path.take (k + 1)) = if s[k] then nd path[k] (leadS nd x (s.take k) (path.take k)) else nd (leadS nd x (s.take k) (path.take k)) path[k] := by
  rw [List.take_succ_eq_append_getElem hs, List.take_succ_eq_append_getElem hp, leadS_snoc]
  simp; omega
theorem leadS_length (hnd : ∀ a b, (nd a b).length = 32) (x : List UInt8) (s : List Bool) (path : List (List UInt8)) (hx : x.length = 32) : (leadS nd x s path).length = 32 := by
  unfold leadS
  generalize s.zip path = z
  induction z generalizing x with
  | nil => exact hx
  | cons p z ih =>
    rw [List.foldl_cons]
    apply ih
    unfold stepN
    split <;> exact hnd _ _

/-- how many sums a path of growth has -/
def growN (m n : Nat) (whole : Bool) : Nat :=
  if h : n < 2 then (if whole then 0 else 1) else if m = n then (if whole then 0 else 1) else if m ≤ splitN n then growN m (splitN n) whole + 1 else growN (m - splitN n) (n - splitN n) false + 1
termination_by n
decreasing_by
  · have := splitN_spec (n := n) (by omega); omega
  · have := splitN_spec (n := n) (by omega); omega
/-- the older and the newer root -/
def followL (older : List UInt8) (m n : Nat) (whole : Bool) (path : List (List UInt8)) : List UInt8 × List UInt8 :=
  if h : n < 2 then (if whole then (older, older) else (path.headD [], path.headD [])) else if m = n then (if whole then (older, older) else (path.headD [], path.headD [])) else
    if m ≤ splitN n then ((followL older m (splitN n) whole path.dropLast).1, nd (followL older m (splitN n) whole path.dropLast).2 (path.getLastD []))
    else (nd (path.getLastD []) (followL older (m - splitN n) (n - splitN n) false path.dropLast).1, nd (path.getLastD []) (followL older (m - splitN n) (n - splitN n) false path.dropLast).2)
termination_by n
decreasing_by
  all_goals have := splitN_spec (n := n) (by omega); omega
end

theorem growN_eq {n : Nat} (whole : Bool) : growN n n whole = if whole then 0 else 1 := by
  rw [growN]; split
  · rfl
  · rw [if_pos rfl]
theorem growN_left {m n : Nat} {whole : Bool} (h1 : 1 ≤ m) (h : m < n) (hm : m ≤ splitN n) : growN m n whole = growN m (splitN n) whole + 1 := by
  rw [growN, dif_neg (by omega), if_neg (by omega), if_pos hm]
theorem growN_right {m n : Nat} {whole : Bool} (h1 : 1 ≤ m) (h : m < n) (hm : ¬ m ≤ splitN n) : growN m n whole = growN (m - splitN n) (n - splitN n) false + 1 := by
  rw [growN, dif_neg (by omega), if_neg (by omega), if_neg hm]
theorem followL_eq (nd : List UInt8 → List UInt8 → List UInt8) (older : List UInt8) (n : Nat) (whole : Bool) (path : List (List UInt8)) : followL nd older n n whole path = if whole then (older, older) else (path.headD [], path.headD []) := by
  rw [followL]; split
  · rfl
  · rw [if_pos rfl]
theorem followL_left (nd : List UInt8 → List UInt8 → List UInt8) (older : List UInt8) {m n : Nat} (whole : Bool) (rest : List (List UInt8)) (last : List UInt8) (h1 : 1 ≤ m) (h : m < n) (hm : m ≤ splitN n) :
    followL nd older m n whole (rest ++ [last]) = ((followL nd older m (splitN n) whole rest).1, nd (followL nd older m (splitN n) whole rest).2 last) := by
  rw [followL, dif_neg (by omega), if_neg (by omega), if_pos hm]; simp
theorem followL_right (nd : List UInt8 → List UInt8 → List UInt8) (older : List UInt8) {m n : Nat} (whole : Bool) (rest : List (List UInt8)) (last : List UInt8) (h1 : 1 ≤ m) (h : m < n) (hm : ¬ m ≤ splitN n) :
    followL nd older m n whole (rest ++ [last]) = (nd last (followL nd older (m - splitN n) (n - splitN n) false rest).1, nd last (followL nd older (m - splitN n) (n - splitN n) false rest).2) := by
  rw [followL, dif_neg (by omega), if_neg (by omega), if_neg hm]; simp
theorem growN_le (m n : Nat) (whole : Bool) (h : m ≤ n) (h1 : 1 ≤ m) : growN m n whole ≤ n := by
  induction n using Nat.strongRecOn generalizing m whole with
  | ind n ih =>
    rcases Nat.lt_or_ge m n with h2 | h2
    · have hs := splitN_spec (n := n) (by omega)
      by_cases hm : m ≤ splitN n
      · rw [growN_left h1 h2 hm]
        have := ih (splitN n) (by omega) m whole hm h1
        omega
      · rw [growN_right h1 h2 hm]
        have := ih (n - splitN n) (by omega) (m - splitN n) false (by omega) (by omega)
        omega
    · obtain rfl : m = n := by omega
      rw [growN_eq]; split <;> omega
end

section
open Go Go.RowKit

def sumOfV (d : Int) (t : List UInt8) (n : Nat) : Value :=
  if d < 0 ∨ 255 < d then .tuple #[zeros 32, .int .i64 3] else if n ≤ 1048576 then .tuple #[.agg ((sumL d t).map u8v).toArray, .int .i64 0] else .tuple #[zeros 32, .int .i64 5]

set_option maxRecDepth 100000 in
set_option maxHeartbeats 1000000 in
theorem sumOf_c (d : Int) (t : List UInt8) (n c : Nat) (a : Option Addr) (w : World) (ht : t.length = n) (hnc : n ≤ c) (hc : c ≤ 9223372036854775807) (h0 : a = none → c = 0) (hcl : Cells w a (t.map u8v)) :
    Calls Try.prog 65 #[.int .i64 d, .slice a n c] w fun e w' => e = .returned (sumOfV d t n) ∧ Ext w w' := by
  obtain ⟨V, hV⟩ : ∃ V, sumOfV d t n = V := ⟨_, rfl⟩
  rw [hV]
  unfold sumOfV at hV
  have HV := hid hV
  have HT := hid ht
  have HC := hid hcl
  have H0 := hid h0
  clear ht hcl h0 hV
  go_enter Try.func65, Try.ntmps65
  go_wp2_with fail
  generalize hwA : World.alloc (World.alloc w _) _ = wA
  have zA : Blk wA w.heap.size (List.replicate 32 (.int .u8 0)) 40 := by rw [← hwA]; exact (Blk.mk_alloc rfl rfl).alloc _
  have gA : Blk wA (w.heap.size + 1) [.slice a n c] 73 := by rw [← hwA]; exact Blk.mk_alloc (by simp) rfl
  have eA : Ext w wA := by rw [← hwA]; exact ((Ext.refl w).alloc _).alloc _
  clear hwA
  have hcat : cat [(a, c, t)] = t := by simp [cat]
  refine (summed_c [(a, c, t)] d (w.heap.size + 1) 1 1 wA rfl (by omega) ?hg gA.lt ?hc ?hn ?hnc ?hcm).mono ?_
  case hg =>
    intro i it hit
    match i, hit with
    | 0, hit => cases hit; rw [itemV]; simp only; rw [HT.out]; exact gA.cell' rfl
  case hc =>
    intro it hit
    simp only [List.mem_cons, List.not_mem_nil, or_false] at hit
    subst hit
    exact HC.out.ext eA
  case hn =>
    intro it hit
    simp only [List.mem_cons, List.not_mem_nil, or_false] at hit
    subst hit
    exact H0.out
  case hnc =>
    intro it hit
    simp only [List.mem_cons, List.not_mem_nil, or_false] at hit
    subst hit
    simp only
    rw [HT.out]; exact hnc
  case hcm =>
    intro it hit
    simp only [List.mem_cons, List.not_mem_nil, or_false] at hit
    subst hit
    exact hc
  intro e w1 h
  rw [hcat] at h
  unfold summedPost at h
  rw [HT.out] at h
  obtain ⟨h, e1⟩ := h
  have HZ1 := hid (zA.ext e1)
  have HE1 := hid (eA.ext e1)
  have hlA : w.heap.size < wA.heap.size := zA.lt
  clear zA gA eA e1 hcat
  by_cases hd : d < 0 ∨ 255 < d
  · rw [if_pos hd] at h
    have hv := HV.out
    rw [if_pos hd] at hv
    subst h
    have HV2 := hid hv
    clear hd hv HV
    go_wp2_with (refine wpl_storew rfl _ _ _ rfl rfl rfl HZ1.out agg_apisum (by simp) (xs := List.replicate 32 (.int .u8 0)) (by simp) (one_zeros 32) ?_)
    intro w4 b4 u4
    go_wp2
    refine ret_row2 rfl rfl b4 agg_apisum (by simp) rfl ⟨by rw [← HV2.out]; unfold zeros; rfl, u4.ext HE1.out (by omega)⟩
  · rw [if_neg hd] at h
    have hv := HV.out
    rw [if_neg hd] at hv
    by_cases hfit : n ≤ 1048576
    · rw [if_pos hfit] at h hv
      obtain ⟨rfl, h1⟩ := h
      have hsm := sum_c (initS d) t n wA.heap.size SmT w1 (initS_length d) (by omega) h1
      rw [show (finL (initS d) t n).take 32 = sumL d t by rw [sumL, HT.out]] at hsm
      have HSL : Hid (((sumL d t).map u8v).length = 32) := hid (by rw [List.length_map, sumL_length])
      have o1 := one_u8 (sumL d t)
      generalize (sumL d t).map u8v = sv at *
      have HV2 := hid hv
      have HSM := hid hsm
      clear hd hv HV hsm h1 hfit
      go_wp2_with fail
      refine HSM.out.mono ?_
      rintro e w2 ⟨rfl, e2⟩
      have HZ2 := hid (HZ1.out.ext e2)
      have HE2 := hid (HE1.out.ext e2)
      clear e2 HSM
      go_wp2_with (refine wpl_storew rfl _ _ _ rfl rfl rfl HZ2.out agg_apisum (by simp) HSL.out o1 ?_)
      intro w4 b4 u4
      go_wp2
      refine ret_row2 rfl rfl b4 agg_apisum HSL.out rfl ⟨by rw [← HV2.out]; rfl, u4.ext HE2.out (by omega)⟩
    · rw [if_neg hfit] at h hv
      subst h
      have HV2 := hid hv
      clear hd hv HV hfit
      go_wp2_with (refine wpl_storew rfl _ _ _ rfl rfl rfl HZ1.out agg_apisum (by simp) (xs := List.replicate 32 (.int .u8 0)) (by simp) (one_zeros 32) ?_)
      intro w4 b4 u4
      go_wp2
      refine ret_row2 rfl rfl b4 agg_apisum (by simp) rfl ⟨by rw [← HV2.out]; unfold zeros; rfl, u4.ext HE1.out (by omega)⟩

theorem longL_drop (u : UInt64) : (longL u).drop 4 = octL (UInt32.ofNat u.toNat) := rfl

/-- parts, each with its length ahead -/
def frameL (its : List Item) : List UInt8 := (its.map fun it => octL (UInt32.ofNat it.2.2.length) ++ it.2.2).flatten
theorem frameL_succ {its : List Item} {k : Nat} {it : Item} (h : its[k]? = some it) : frameL (its.take (k + 1)) = frameL (its.take k) ++ octL (UInt32.ofNat it.2.2.length) ++ it.2.2 := by
  unfold frameL
  rw [List.take_add_one, h]; simp
theorem frameL_le (its : List Item) (k : Nat) : (frameL (its.take k)).length ≤ (frameL its).length := by
  have h2 : frameL its = frameL (its.take k) ++ frameL (its.drop k) := by
    unfold frameL
    rw [← List.flatten_append, ← List.map_append, List.take_append_drop]
  rw [h2, List.length_append]
  omega
end

section
open Go Go.RowKit

def nodeL (x y : List UInt8) : List UInt8 := sumL 2 (x ++ y)
theorem nodeL_length (x y : List UInt8) : (nodeL x y).length = 32 := sumL_length _ _
end

section
open Go Go.RowKit

theorem bitLen_split {n : Nat} (h : 2 ≤ n) (h2 : n ≤ 4611686018427387904) : ∃ j, Lib.bitLen (n - 1) = j + 1 ∧ j ≤ 61 ∧ 2 ^ j = splitN n := by
  have hb := Lib.bitLenAux_bounds 64 (n - 1) (by omega) (by omega)
  have hle := Lib.bitLen_le (n - 1) 62 (by omega) (by omega)
  unfold Lib.bitLen at *
  obtain ⟨h3, h4, h5⟩ := hb
  generalize Lib.bitLenAux 64 (n - 1) = m at *
  obtain ⟨j, rfl⟩ : ∃ j, m = j + 1 := ⟨m - 1, by omega⟩
  rw [Nat.add_sub_cancel] at h4
  rw [Nat.pow_succ] at h5
  exact ⟨j, rfl, by omega, splitN_eq (by omega) (by omega)⟩
end

section
open Go Go.RowKit
end

section
open Go Go.RowKit
end

section
open Go Go.RowKit

theorem size_apisum : (Try.prog.info? 40).map (·.size) = some 32 := by kernel_rfl
end

section
open Go Go.RowKit

theorem info_bool : (Try.prog.info? 4).map (fun i => (i.zero, i.size, i.bytes)) = some (some (.bool false), 1, 1) := by kernel_rfl
theorem own_sliceT {w : World} {B : Nat} {T : TypeId} {z : Nat} {v : Value} {n : Nat} {xs : List Value} (hz : 0 < z) (h : w.ownsRow B T z v n xs) :
    ∃ a c, v = .slice a n c ∧ n ≤ c ∧ c ≤ maxLen ∧ (a = none → c = 0) ∧ Cells w a xs := by
  obtain ⟨hl, h⟩ := h
  rcases h with ⟨rfl, rfl⟩ | ⟨g, cap, cur, rfl, hb, hg, h1, h2, h3, h4⟩
  · refine ⟨none, 0, rfl, Nat.le_refl _, by unfold maxLen; omega, fun _ => rfl, .inl ?_⟩
    exact List.length_eq_zero_iff.1 (by omega)
  · refine ⟨_, cap, rfl, h1, h2, (fun h => by cases h), .inr ⟨g, 0, rfl, fun i u hu => ?_⟩⟩
    rw [← h4] at hu
    have hi : i < n * z := by
      have := (List.getElem?_eq_some_iff.1 hu).1
      simp only [List.length_take] at this; omega
    rw [List.getElem?_take_of_lt hi] at hu
    rw [Nat.zero_add]
    exact Blk.cell' (vs := cur.toList) (T := T) (by simpa [Blk] using hg) hu
end

section
open Go Go.RowKit

def zero32 : List UInt8 := List.replicate 32 0
theorem zero32_map : zero32.map u8v = List.replicate 32 (.int .u8 0) := by simp [zero32, u8v]
theorem zero32_length : zero32.length = 32 := by simp [zero32]
def rootByL (x : List UInt8) (I Z : Int) (ls : List (List UInt8)) : List UInt8 × Int :=
  if Z < 1 ∨ 65536 < Z then (zero32, 4) else if I < 0 ∨ Z ≤ I then (zero32, 7) else if ls.length = (sidesL I.toNat Z.toNat).length then (leadS nodeL x (sidesL I.toNat Z.toNat) ls, 0) else (zero32, 12)
def sumErr (p : List UInt8 × Int) : Value := .tuple #[.agg (p.1.map u8v).toArray, .int .i64 p.2]
end

section
open Go Go.RowKit
end

section
open Go Go.RowKit

theorem rootByL_length (x : List UInt8) (I Z : Int) (ls : List (List UInt8)) (hx : x.length = 32) : (rootByL x I Z ls).1.length = 32 := by
  unfold rootByL
  split
  · exact zero32_length
  · split
    · exact zero32_length
    · split
      · exact leadS_length _ nodeL_length _ _ _ hx
      · exact zero32_length
def provedL (root x : List UInt8) (I Z : Int) (ls : List (List UInt8)) : Int := if (rootByL x I Z ls).2 = 0 then (if (rootByL x I Z ls).1 == root then 0 else 12) else (rootByL x I Z ls).2
end

section
open Go Go.RowKit

def headE (C T : Int) : Int := if C < 0 ∨ 65536 < C ∨ T < 0 ∨ 1099511627776 < T then 4 else 0
def headV (C T : Int) (r1 r2 : List UInt8) : List Value := .int .i64 C :: .int .i64 T :: (r1.map u8v ++ r2.map u8v)
def headO (C T : Int) (r1 r2 : List UInt8) : List UInt8 := [75, 87, 72, 49] ++ longL (UInt64.ofNat C.toNat) ++ longL (UInt64.ofNat T.toNat) ++ r1 ++ r2
def headPost (C T : Int) (r1 r2 : List UInt8) (w : World) (e : Ending) (w' : World) : Prop :=
  ∃ v, e = .returned (.tuple #[v, .int .i64 (headE C T)]) ∧ (if headE C T = 0 then w'.ownsRow w.heap.size 5 1 v 84 ((headO C T r1 r2).map u8v) else v = .slice none 0 0) ∧ Ext w w'
theorem headV_length (C T : Int) {r1 r2 : List UInt8} (h1 : r1.length = 32) (h2 : r2.length = 32) : (headV C T r1 r2).length = 66 := by simp [headV, h1, h2]
theorem headV_r1 (C T : Int) {r1 r2 : List UInt8} (h1 : r1.length = 32) : ((headV C T r1 r2).drop 2).take 32 = r1.map u8v := by
  simp [headV, ← h1]
theorem headV_r2 (C T : Int) {r1 r2 : List UInt8} (h1 : r1.length = 32) (h2 : r2.length = 32) : ((headV C T r1 r2).drop 34).take 32 = r2.map u8v := by
  have : (headV C T r1 r2).drop 34 = r2.map u8v := by
    show (Value.int .i64 C :: Value.int .i64 T :: (r1.map u8v ++ r2.map u8v)).drop 34 = _
    rw [List.drop_succ_cons, List.drop_succ_cons, List.drop_left' (by simp [h1])]
  rw [this, List.take_of_length_le (by simp [h2])]
theorem agg_head : AggT Try.prog 70 66 := ⟨⟨_, Try.underlying70, rfl⟩, by kernel_rfl⟩

theorem Cls.grownF {w0 W w w' : World} {L : List Nat} {row : Option Nat} (h : Cls w0 W L [] w) (k : w.grownBy w' row) (hr : ∀ g, row = some g → g ∉ L) (h0 : ∀ g, row = some g → w0.heap.size ≤ g) : Cls w0 W L [] w' :=
  ⟨h.base.grown k h0, ⟨Nat.le_trans h.kept.1 k.size, h.kept.2.1, fun g hg => (k.block g (Nat.lt_of_lt_of_le (h.kept.2.1 g hg) h.kept.1) (fun e => hr g e.symm hg)).trans (h.kept.2.2 g hg)⟩, fun x hx => by cases hx⟩
theorem cells_const (ys : List Value) (T : TypeId) (w : World) (z : Nat × Nat) : Cells (w.alloc (.cells ys.toArray T z)) (some ⟨w.heap.size, 0, none⟩) ys := by
  refine .inr ⟨w.heap.size, 0, rfl, fun i u hu => ?_⟩
  have hh : (w.alloc (.cells ys.toArray T z)).heap[w.heap.size]? = some (.cells ys.toArray T z) := by
    show (w.heap.push _)[w.heap.size]? = _
    simp
  rw [Nat.zero_add]
  simp only [World.cell?, hh]
  simpa using hu

theorem outside_c (n a b : Int) (w : World) :
    Calls Try.prog 82 #[.int .i64 n, .int .i64 a, .int .i64 b] w fun e w' => e = .returned (.bool (decide (n < a) || decide (b < n))) ∧ w = w' := by
  by_cases h : n < a
  · have d1 : decide (n < a) = true := decide_eq_true h
    go_enter Try.func82, Try.ntmps82
    go_wp2
    go_ret
    exact ⟨by first | rfl | (rw [d1]; rfl), rfl⟩
  · have d1 : decide (n < a) = false := decide_eq_false h
    go_enter Try.func82, Try.ntmps82
    go_wp2
    go_ret
    exact ⟨by first | rfl | (rw [d1]; rfl), rfl⟩

set_option maxRecDepth 100000 in
set_option maxHeartbeats 2000000 in
theorem printHead_c (C T : Int) (r1 r2 : List UInt8) (w : World) (h1 : r1.length = 32) (h2 : r2.length = 32) :
    Calls Try.prog 32 #[.agg (headV C T r1 r2).toArray] w (headPost C T r1 r2 w) := by
  obtain ⟨E, hE⟩ : ∃ E, headE C T = E := ⟨_, rfl⟩
  have HE := hid hE
  unfold headE at hE
  have hv0 : (headV C T r1 r2)[0]? = some (.int .i64 C) := rfl
  have hv1 : (headV C T r1 r2)[1]? = some (.int .i64 T) := rfl
  have HVL := hid (headV_length C T h1 h2)
  have HR1 := hid (headV_r1 C T (r2 := r2) h1)
  have HR2 := hid (headV_r2 C T h1 h2)
  have HL1 := hid h1
  have HL2 := hid h2
  clear h1 h2
  generalize headV C T r1 r2 = hv at *
  go_enter Try.func32, Try.ntmps32
  go_upto_region 1 with (fail)
  generalize hwA : World.alloc w _ = wA
  have pA : Blk wA w.heap.size hv 70 := by rw [← hwA]; exact Blk.mk_alloc rfl rfl
  have eA : Ext w wA := by rw [← hwA]; exact (Ext.refl w).alloc _
  have c0 : wA.cell? ⟨w.heap.size, 0, none⟩ = some (.int .i64 C) := pA.cell' hv0
  have c1 : wA.cell? ⟨w.heap.size, 1, none⟩ = some (.int .i64 T) := pA.cell' hv1
  have PA := hid pA
  have EA := hid eA
  have HV0 := hid hv0
  have HV1 := hid hv1
  clear hwA pA eA hv0 hv1
  by_cases hbad : C < 0 ∨ 65536 < C
  · rw [if_pos (by omega)] at hE
    have db : (decide (C < 0) || decide (65536 < C)) = true := by simpa using hbad
    subst hE
    go_wp2_with (first | (go_at_call 82; refine (outside_c _ _ _ _).mono ?_; rintro e w' ⟨rfl, rfl⟩; rw [db]))
    go_ret2
    exact ⟨_, by rw [HE.out]; rfl, by rw [HE.out]; rfl, EA.out⟩
  · have db : (decide (C < 0) || decide (65536 < C)) = false := by simp at hbad ⊢; omega
    by_cases hbad2 : T < 0 ∨ 1099511627776 < T
    · rw [if_pos (by omega)] at hE
      have db2 : (decide (T < 0) || decide (1099511627776 < T)) = true := by simpa using hbad2
      subst hE
      go_wp2_with (first | (go_at_call 82; refine (outside_c _ _ _ _).mono ?_; rintro e w' ⟨rfl, rfl⟩; first | rw [db] | rw [db2]))
      go_ret2
      exact ⟨_, by rw [HE.out]; rfl, by rw [HE.out]; rfl, EA.out⟩
    · have db2 : (decide (T < 0) || decide (1099511627776 < T)) = false := by simp at hbad2 ⊢; omega
      rw [if_neg (by omega)] at hE
      subst hE
      obtain ⟨i, rfl⟩ := Int.eq_ofNat_of_zero_le (show 0 ≤ C by omega)
      obtain ⟨z, rfl⟩ := Int.eq_ofNat_of_zero_le (show 0 ≤ T by omega)
      have hlI : longNat (i : Int) = i := by unfold longNat; rw [if_neg (by omega)]; rfl
      have hlZ : longNat (z : Int) = z := by unfold longNat; rw [if_neg (by omega)]; rfl
      have hp1 := hid (fun g w' h => putLong_c [75, 87, 72, 49] (some ⟨g, 0, none⟩) 4 4 (i : Int) w' rfl (by omega) h (fun h => by cases h))
      have hp2 := hid (fun a' c' w' h h0 => putLong_c ([75, 87, 72, 49] ++ longL (UInt64.ofNat i)) a' 12 c' (z : Int) w' rfl (by omega) h h0)
      rw [hlI] at hp1
      rw [hlZ] at hp2
      clear hlI hlZ
      go_wp2_with (first | (go_at_call 82; refine (outside_c _ _ _ _).mono ?_; rintro e w' ⟨rfl, rfl⟩; first | rw [db] | rw [db2]))
      obtain ⟨C, hC⟩ : ∃ C : World → Prop, C = Cls w wA [w.heap.size] [] := ⟨_, rfl⟩
      have hC0 : ∀ w', C w' ↔ Cls w wA [w.heap.size] [] w' := fun w' => by rw [hC]
      clear hC
      have HCC := hid hC0
      clear hC0
      have hCx : ∀ w w', C w → Ext w w' → C w' := fun w w' h1 h2 => (HCC.out w').2 (((HCC.out w).1 h1).ext h2)
      have hCA : C wA := (HCC.out _).2 (Cls.no_room EA.out (Kept.one PA.out.lt))
      have e0 : ∀ w1, C w1 → w1.cell? ⟨w.heap.size, 0, none⟩ = some (.int .i64 (i : Int)) := fun w1 h1 => (((HCC.out w1).1 h1).blk PA.out (by simp)).cell' HV0.out
      have e1 : ∀ w1, C w1 → w1.cell? ⟨w.heap.size, 1, none⟩ = some (.int .i64 (z : Int)) := fun w1 h1 => (((HCC.out w1).1 h1).blk PA.out (by simp)).cell' HV1.out
      clear c0 c1 hbad hbad2 db db2
      refine wp_region_held_drew (S := C) (by kernel_rfl) (hCx _ _ hCA (Ext.refl _).drew) (fun hS0 => ?_)
      refine held_take 2 (v := ?tv1) rfl (by kernel_rfl) (by kernel_rfl) (by kernel_rfl) (fun _ _ _ h => h) (.inl ⟨rfl, ?ty1⟩) hS0 ?tr1
      case ty1 => (intro _ _; go_simp; try with_reducible rfl)
      case tr1 =>
      simp only [Act.put, List.setIfInBounds_toArray, List.set_cons_succ, List.set_cons_zero]
      refine held_take 3 (v := ?tv2) rfl (by kernel_rfl) (by kernel_rfl) (by kernel_rfl) (fun _ _ _ h => h) (.inl ⟨rfl, ?ty2⟩) hS0 ?tr2
      case ty2 => (intro wq hwq; have hcq := (e0) wq hwq; go_simp; try with_reducible rfl)
      case tr2 =>
      simp only [Act.put, List.setIfInBounds_toArray, List.set_cons_succ, List.set_cons_zero]
      refine held_take 5 (v := ?tv3) rfl (by kernel_rfl) (by kernel_rfl) (by kernel_rfl) (fun _ _ _ h => h) (.inl ⟨rfl, ?ty3⟩) hS0 ?tr3
      case ty3 => (intro _ _; go_simp; try with_reducible rfl)
      case tr3 =>
      simp only [Act.put, List.setIfInBounds_toArray, List.set_cons_succ, List.set_cons_zero]
      refine held_take 6 (v := ?tv4) rfl (by kernel_rfl) (by kernel_rfl) (by kernel_rfl) (fun _ _ _ h => h) (.inl ⟨rfl, ?ty4⟩) hS0 ?tr4
      case ty4 => (intro wq hwq; have hcq := (e1) wq hwq; go_simp; try with_reducible rfl)
      case tr4 =>
      simp only [Act.put, List.setIfInBounds_toArray, List.set_cons_succ, List.set_cons_zero]
      generalize wA.drew = wD at *
      have hwD : wA.heap.size ≤ wD.heap.size := ((HCC.out wD).1 hS0).kept.1
      have kc := fun (w : World) (C : Array Value) (n c : Nat) => Lib.run_convert_bytes_const (P := Try.prog) w 73 5 C n c Try.underlying73 Try.underlying5
      refine held_one (i := 0) (by kernel_rfl) rfl ?_
      intro Q' hQ
      go_wp2_with fail
      refine hQ _ _ (hCx _ _ hS0 ((Ext.refl wD).alloc _)) ?_
      clear hQ Q'
      try dsimp only
      try simp only [Act.put, List.setIfInBounds_toArray, List.set_cons_succ, List.set_cons_zero]
      refine held_one (i := 1) (by kernel_rfl) rfl ?_
      intro Q' hQ
      go_wp2_with fail
      refine hQ _ _ (hCx _ _ hS0 ((Ext.refl wD).alloc _)) ?_
      clear hQ Q' kc
      have C4 := hid (show Cells (wD.alloc (.cells #[Value.int .u8 75, Value.int .u8 87, Value.int .u8 72, Value.int .u8 49] 5 (4, 5))) (some ⟨wD.heap.size, 0, none⟩) (List.map u8v [75, 87, 72, 49]) from cells_const ([75, 87, 72, 49].map u8v) 5 wD (4, 5))
      have hE4 := hCx _ _ hS0 ((Ext.refl wD).alloc (.cells #[Value.int .u8 75, Value.int .u8 87, Value.int .u8 72, Value.int .u8 49] 5 (4, 5)))
      clear hS0
      generalize wD.alloc (.cells #[Value.int .u8 75, Value.int .u8 87, Value.int .u8 72, Value.int .u8 49] 5 (4, 5)) = wE at *
      generalize wD.heap.size = g4 at *
      try dsimp only
      try simp only [Act.put, List.setIfInBounds_toArray, List.set_cons_succ, List.set_cons_zero]
      have hS0 := hE4
      clear hE4
      refine held_one (i := 4) (by kernel_rfl) rfl ?_
      intro Q' hQ
      go_wp2_with fail
      refine (hp1.out g4 wE C4.out).mono ?_
      rintro e wF ⟨v1, rfl, own1, eF⟩
      obtain ⟨a1, k1, rfl, -, -, hn1, hc1⟩ := own_slice own1
      have hF := hCx _ _ hS0 eF
      go_wp2_with fail
      refine hQ _ _ hF ?_
      clear hQ Q' hS0 eF own1 hp1 C4
      have C1 := hid hc1
      have N1 := hid hn1
      clear hc1 hn1
      try dsimp only
      try simp only [Act.put, List.setIfInBounds_toArray, List.set_cons_succ, List.set_cons_zero]
      refine held_one (i := 7) (by kernel_rfl) rfl ?_
      intro Q' hQ
      go_wp2_with fail
      refine (hp2.out a1 k1 wF C1.out N1.out).mono ?_
      rintro e wG ⟨v2, rfl, own2, eG⟩
      have hG := hCx _ _ hF eG
      have own3 := own_lower own2 (show w.heap.size + 1 ≤ wF.heap.size from by have := PA.out.lt; have := ((HCC.out wF).1 hF).kept.1; omega)
      obtain ⟨a2, k2, rfl, -, -, hn2, hc2⟩ := own_slice own3
      go_wp2_with fail
      refine hQ _ _ hG ?_
      clear hQ Q' hF eG own2 C1 N1 hp2 hn2 hc2
      have O2 := hid own3
      clear own3
      try dsimp only
      try simp only [Act.put, List.setIfInBounds_toArray, List.set_cons_succ, List.set_cons_zero]
      have hS0 := hG
      clear hG
      refine held_take 8 (v := ?tv5) rfl (by kernel_rfl) (by kernel_rfl) (by kernel_rfl) (fun _ _ _ h => h) (.inl ⟨rfl, ?ty5⟩) hS0 ?tr5
      case ty5 => (intro _ _; go_simp; try with_reducible rfl)
      case tr5 =>
      simp only [Act.put, List.setIfInBounds_toArray, List.set_cons_succ, List.set_cons_zero]
      have PG := hid (((HCC.out wG).1 hS0).blk PA.out (by simp))
      have EG := hid ((HCC.out wG).1 hS0).base
      clear hS0 HCC hCx hCA e0 e1 PA EA
      refine wpAnyH_done (by kernel_rfl) ?_ _
      go_wp2
      obtain ⟨C, hC⟩ : ∃ C : World → Prop, C = Cls w wG [w.heap.size] [] := ⟨_, rfl⟩
      have hC0 : ∀ w', C w' ↔ Cls w wG [w.heap.size] [] w' := fun w' => by rw [hC]
      clear hC
      have HCC := hid hC0
      clear hC0
      have hCx : ∀ w w', C w → Ext w w' → C w' := fun w w' h1 h2 => (HCC.out w').2 (((HCC.out w).1 h1).ext h2)
      have hCA : C wG := (HCC.out _).2 (Cls.no_room EG.out (Kept.one PG.out.lt))
      have e2 : ∀ w1, C w1 → Cells w1 (some ⟨w.heap.size, 2, none⟩) (r1.map u8v) := fun w1 h1 => by
        have := Cells.of_blk (((HCC.out w1).1 h1).blk PG.out (by simp)) 2 32
        rwa [HR1.out] at this
      have e3 : ∀ w1, C w1 → Cells w1 (some ⟨w.heap.size, 34, none⟩) (r2.map u8v) := fun w1 h1 => by
        have := Cells.of_blk (((HCC.out w1).1 h1).blk PG.out (by simp)) 34 32
        rwa [HR2.out] at this
      refine wp_region_held_drew (S := C) (by kernel_rfl) (hCx _ _ hCA (Ext.refl _).drew) (fun hS0 => ?_)
      refine held_take 0 (v := ?tv6) rfl (by kernel_rfl) (by kernel_rfl) (by kernel_rfl) (fun _ _ _ h => h) (.inl ⟨rfl, ?ty6⟩) hS0 ?tr6
      case ty6 => (intro _ _; go_simp; try with_reducible rfl)
      case tr6 =>
      simp only [Act.put, List.setIfInBounds_toArray, List.set_cons_succ, List.set_cons_zero]
      refine held_take 1 (v := ?tv7) rfl (by kernel_rfl) (by kernel_rfl) (by kernel_rfl) (fun _ _ _ h => h) (.inl ⟨rfl, ?ty7⟩) hS0 ?tr7
      case ty7 => (intro _ _; go_simp; try with_reducible rfl)
      case tr7 =>
      simp only [Act.put, List.setIfInBounds_toArray, List.set_cons_succ, List.set_cons_zero]
      refine held_take 2 (v := ?tv8) rfl (by kernel_rfl) (by kernel_rfl) (by kernel_rfl) (fun _ _ _ h => h) (.inl ⟨rfl, ?ty8⟩) hS0 ?tr8
      case ty8 => (intro _ _; go_simp; try with_reducible rfl)
      case tr8 =>
      simp only [Act.put, List.setIfInBounds_toArray, List.set_cons_succ, List.set_cons_zero]
      refine held_take 4 (v := ?tv9) rfl (by kernel_rfl) (by kernel_rfl) (by kernel_rfl) (fun _ _ _ h => h) (.inl ⟨rfl, ?ty9⟩) hS0 ?tr9
      case ty9 => (intro _ _; go_simp; try with_reducible rfl)
      case tr9 =>
      simp only [Act.put, List.setIfInBounds_toArray, List.set_cons_succ, List.set_cons_zero]
      refine held_take 5 (v := ?tv10) rfl (by kernel_rfl) (by kernel_rfl) (by kernel_rfl) (fun _ _ _ h => h) (.inl ⟨rfl, ?ty10⟩) hS0 ?tr10
      case ty10 => (intro _ _; go_simp; try with_reducible rfl)
      case tr10 =>
      simp only [Act.put, List.setIfInBounds_toArray, List.set_cons_succ, List.set_cons_zero]
      have OH := hid (ownsRow_ext O2.out (Ext.refl wG).drew)
      have hbH : w.heap.size + 1 ≤ wG.drew.heap.size := by have := PG.out.lt; have := ((HCC.out _).1 hS0).kept.1; omega
      clear O2
      generalize wG.drew = wH at *
      refine held_one (i := 3) (by kernel_rfl) rfl ?_
      intro Q' hQ
      go_wp2_with (at_builtin; refine wpl_append8 rfl _ _ rfl (w.heap.size + 1) (ys := r1) rfl rfl OH.out HL1.out (fun h => by cases h) (e2 wH hS0) (by omega) hbH ?_)
      intro v3 wI own4 g4
      have OI := hid (show wI.ownsRow (w.heap.size + 1) 5 1 v3 52 (([75, 87, 72, 49] ++ longL (UInt64.ofNat i) ++ longL (UInt64.ofNat z) ++ r1).map u8v) from by simpa using own4)
      clear own4
      have hv := fun g' h => own_block_ge OH.out g' h
      have hI : C wI := (HCC.out _).2 (((HCC.out _).1 hS0).grownF g4 (fun g' h => by have := hv g' h; simp; omega) (fun g' h => by have := hv g' h; omega))
      have hbI : w.heap.size + 1 ≤ wI.heap.size := Nat.le_trans hbH g4.size
      go_wp2_with fail
      refine hQ _ _ hI ?_
      clear hQ Q' hS0 g4 hv OH hbH
      try dsimp only
      try simp only [Act.put, List.setIfInBounds_toArray, List.set_cons_succ, List.set_cons_zero]
      refine held_one (i := 6) (by kernel_rfl) rfl ?_
      intro Q' hQ
      go_wp2_with (at_builtin; refine wpl_append8 rfl _ _ rfl (w.heap.size + 1) (ys := r2) rfl rfl OI.out HL2.out (fun h => by cases h) (e3 wI hI) (by omega) hbI ?_)
      intro v4 wJ own5 g5
      have OJ := hid (show wJ.ownsRow (w.heap.size + 1) 5 1 v4 84 (([75, 87, 72, 49] ++ longL (UInt64.ofNat i) ++ longL (UInt64.ofNat z) ++ r1 ++ r2).map u8v) from by simpa using own5)
      clear own5
      have hv := fun g' h => own_block_ge OI.out g' h
      have hJ : C wJ := (HCC.out _).2 (((HCC.out _).1 hI).grownF g5 (fun g' h => by have := hv g' h; simp; omega) (fun g' h => by have := hv g' h; omega))
      go_wp2_with fail
      refine hQ _ _ hJ ?_
      clear hQ Q' hI g5 hv OI hbI
      try dsimp only
      try simp only [Act.put, List.setIfInBounds_toArray, List.set_cons_succ, List.set_cons_zero]
      have hS0 := hJ
      clear hJ
      refine held_take 7 (v := ?tv11) rfl (by kernel_rfl) (by kernel_rfl) (by kernel_rfl) (fun _ _ _ h => h) (.inl ⟨rfl, ?ty11⟩) hS0 ?tr11
      case ty11 => (intro _ _; go_simp; try with_reducible rfl)
      case tr11 =>
      simp only [Act.put, List.setIfInBounds_toArray, List.set_cons_succ, List.set_cons_zero]
      refine held_take 8 (v := ?tv12) rfl (by kernel_rfl) (by kernel_rfl) (by kernel_rfl) (fun _ _ _ h => h) (.inl ⟨rfl, ?ty12⟩) hS0 ?tr12
      case ty12 => (intro _ _; go_simp; try with_reducible rfl)
      case tr12 =>
      simp only [Act.put, List.setIfInBounds_toArray, List.set_cons_succ, List.set_cons_zero]
      have EJ := hid ((HCC.out wJ).1 hS0).base
      clear hS0 HCC hCx hCA e2 e3 PG EG
      refine wpAnyH_done (by kernel_rfl) ?_ _
      go_wp2
      go_ret2
      refine ⟨_, by rw [HE.out]; rfl, ?_, EJ.out⟩
      rw [if_pos HE.out]
      exact own_lower OJ.out (Nat.le_succ _)
end

section
open Go Go.RowKit

/-- each block has its cells yet; a mark may have been set -/
def Rel (w w' : World) : Prop := w.heap.size ≤ w'.heap.size ∧ ∀ (k : Nat) c e z, w.heap[k]? = some (.cells c e z) → ∃ z', w'.heap[k]? = some (.cells c e z')
theorem Rel.refl (w : World) : Rel w w := ⟨Nat.le_refl _, fun k c e z h => ⟨z, h⟩⟩
theorem Rel.trans {a b c : World} (h : Rel a b) (k : Rel b c) : Rel a c := ⟨Nat.le_trans h.1 k.1, fun i x e z hx => by obtain ⟨z', h'⟩ := h.2 i x e z hx; exact k.2 i x e z' h'⟩
theorem Rel.ofExt {w w' : World} (h : Ext w w') : Rel w w' := ⟨h.size, fun k c e z hk => ⟨z, (h.block k (Array.getElem?_eq_some_iff.1 hk).1).trans hk⟩⟩
theorem Rel.cell {w w' : World} (h : Rel w w') {a : Addr} {v : Value} (hs : a.spot = none) (hc : w.cell? a = some v) : w'.cell? a = some v := by
  simp only [World.cell?] at hc ⊢
  cases hk : w.heap[a.block]? with
  | none => rw [hk] at hc; simp at hc
  | some o =>
    rw [hk] at hc
    cases o with
    | cells c e z => obtain ⟨z', h'⟩ := h.2 _ _ _ _ hk; rw [h']; exact hc
    | _ => simp at hc
theorem Cells.rel {w w' : World} {a : Option Addr} {xs : List Value} (h : Cells w a xs) (k : Rel w w') : Cells w' a xs := by
  rcases h with h | ⟨b, off, ha, h⟩
  · exact .inl h
  · exact .inr ⟨b, off, ha, fun i u hu => k.cell rfl (h i u hu)⟩

section
variable {P : Program} {ops : Array Oper} {Q : Exit → Act → World → Prop} {S : World → Prop}
theorem held_22 {i1 i2 j1 j2 : Nat} {o1 o2 p1 p2 : Oper} {r1 r2 r3 r4 : List Oper} {f : Nat} {listed : Array Bool} {a : Act} {w : World} {β γ1 γ2 : Type} (v : β → Value) (u1 : γ1 → Value) (u2 : γ2 → Value)
    (Φ : β → World → Prop) (Ψ1 : γ1 → World → Prop) (Ψ2 : γ2 → World → Prop) (mk : Value → Value → Value → Value → Act)
    (R0 : Region.ready .any ops listed = [i1, j1]) (Ri : Region.ready .any ops (listed.setIfInBounds i1 true) = [i2, j1]) (Rj : Region.ready .any ops (listed.setIfInBounds j1 true) = [i1, j2])
    (Rii : Region.ready .any ops ((listed.setIfInBounds i1 true).setIfInBounds i2 true) = [j1]) (Rij : Region.ready .any ops ((listed.setIfInBounds i1 true).setIfInBounds j1 true) = [i2, j2]) (Rjj : Region.ready .any ops ((listed.setIfInBounds j1 true).setIfInBounds j2 true) = [i1])
    (Riij : Region.ready .any ops (((listed.setIfInBounds i1 true).setIfInBounds i2 true).setIfInBounds j1 true) = [j2]) (Rijj : Region.ready .any ops (((listed.setIfInBounds i1 true).setIfInBounds j1 true).setIfInBounds j2 true) = [i2])
    (n1 : (i1 == j1) = false) (n2 : (i1 == j2) = false) (n3 : (i2 == j1) = false) (n4 : (i2 == j2) = false)
    (ho1 : ops.toList.drop i1 = o1 :: r1) (ho2 : ops.toList.drop i2 = o2 :: r2) (hp1 : ops.toList.drop j1 = p1 :: r3) (hp2 : ops.toList.drop j2 = p2 :: r4)
    (hΦ : ∀ b w w', Φ b w → Rel w w' → Φ b w') (hΨ1 : ∀ b w w', Ψ1 b w → Rel w w' → Ψ1 b w') (hΨ2 : ∀ b w w', Ψ2 b w → Rel w w' → Ψ2 b w')
    (hi1 : ∀ y1 y2 w, S w → ∀ Q' : Exit → Act → World → Prop, (∀ b w', S w' → Rel w w' → Φ b w' → Q' .normal (mk (v b) undef y1 y2) w') → wpList P ops Q' [o1] (mk undef undef y1 y2) w)
    (hi2 : ∀ b y1 y2 w, S w → Φ b w → ∀ Q' : Exit → Act → World → Prop, (∀ w', S w' → Rel w w' → Q' .normal (mk (v b) (v b) y1 y2) w') → wpList P ops Q' [o2] (mk (v b) undef y1 y2) w)
    (hj1 : ∀ x1 x2 w, S w → ∀ Q' : Exit → Act → World → Prop, (∀ b w', S w' → Rel w w' → Ψ1 b w' → Q' .normal (mk x1 x2 (u1 b) undef) w') → wpList P ops Q' [p1] (mk x1 x2 undef undef) w)
    (hj2 : ∀ x1 x2 b1 w, S w → ∀ Q' : Exit → Act → World → Prop, (∀ b w', S w' → Rel w w' → Ψ2 b w' → Q' .normal (mk x1 x2 (u1 b1) (u2 b)) w') → wpList P ops Q' [p2] (mk x1 x2 (u1 b1) undef) w)
    (ha : a = mk undef undef undef undef) (hS : S w)
    (h : ∀ b c1 c2 w', S w' → Φ b w' → Ψ1 c1 w' → Ψ2 c2 w' → wpAnyH P .any ops Q S f ((((listed.setIfInBounds i1 true).setIfInBounds i2 true).setIfInBounds j1 true).setIfInBounds j2 true) (mk (v b) (v b) (u1 c1) (u2 c2)) w') :
    wpAnyH P .any ops Q S (f + 4) listed a w := by
  have m1 : i1 ≠ j1 := by simpa using n1
  have m2 : i1 ≠ j2 := by simpa using n2
  have m3 : i2 ≠ j1 := by simpa using n3
  have m4 : i2 ≠ j2 := by simpa using n4
  -- i1, i2, j1 are over
  have Eiij : ∀ b c1 w, S w → Φ b w → Ψ1 c1 w → wpAnyH P .any ops Q S (f + 1) (((listed.setIfInBounds i1 true).setIfInBounds i2 true).setIfInBounds j1 true) (mk (v b) (v b) (u1 c1) undef) w := by
    intro b c1 w hS hb hc
    refine held_one Riij hp2 fun Q' hQ => ?_
    refine hj2 _ _ c1 w hS Q' fun c2 w' hS' hr hc2 => ?_
    exact hQ _ _ hS' (h b c1 c2 w' hS' (hΦ _ _ _ hb hr) (hΨ1 _ _ _ hc hr) hc2)
  -- i1, j1, j2 are over
  have Eijj : ∀ b c1 c2 w, S w → Φ b w → Ψ1 c1 w → Ψ2 c2 w → wpAnyH P .any ops Q S (f + 1) (((listed.setIfInBounds i1 true).setIfInBounds j1 true).setIfInBounds j2 true) (mk (v b) undef (u1 c1) (u2 c2)) w := by
    intro b c1 c2 w hS hb hc hc2
    refine held_one Rijj ho2 fun Q' hQ => ?_
    refine hi2 b _ _ w hS hb Q' fun w' hS' hr => ?_
    refine hQ _ _ hS' ?_
    rw [Array.setIfInBounds_comm (xs := (listed.setIfInBounds i1 true).setIfInBounds j1 true) _ _ (Ne.symm m4), Array.setIfInBounds_comm (xs := listed.setIfInBounds i1 true) _ _ (Ne.symm m3)]
    exact h b c1 c2 w' hS' (hΦ _ _ _ hb hr) (hΨ1 _ _ _ hc hr) (hΨ2 _ _ _ hc2 hr)
  have Eii : ∀ b w, S w → Φ b w → wpAnyH P .any ops Q S (f + 2) ((listed.setIfInBounds i1 true).setIfInBounds i2 true) (mk (v b) (v b) undef undef) w := by
    intro b w hS hb
    refine held_one Rii hp1 fun Q' hQ => ?_
    refine hj1 _ _ w hS Q' fun c1 w' hS' hr hc => ?_
    exact hQ _ _ hS' (Eiij b c1 w' hS' (hΦ _ _ _ hb hr) hc)
  have Eij : ∀ b c1 w, S w → Φ b w → Ψ1 c1 w → wpAnyH P .any ops Q S (f + 2) ((listed.setIfInBounds i1 true).setIfInBounds j1 true) (mk (v b) undef (u1 c1) undef) w := by
    intro b c1 w hS hb hc
    refine wpAnyH_all Rij (by simp) fun k hk => ?_
    have hk' : k = i2 ∨ k = j2 := by simpa using hk
    rcases hk' with rfl | rfl
    · refine wpOp_of_list (op_of_drop ho2) (hi2 b _ _ w hS hb _ fun w' hS' hr => ?_)
      refine ⟨hS', ?_⟩
      rw [Array.setIfInBounds_comm (xs := listed.setIfInBounds i1 true) _ _ (Ne.symm m3)]
      exact Eiij b c1 w' hS' (hΦ _ _ _ hb hr) (hΨ1 _ _ _ hc hr)
    · refine wpOp_of_list (op_of_drop hp2) (hj2 _ _ c1 w hS _ fun c2 w' hS' hr hc2 => ?_)
      exact ⟨hS', Eijj b c1 c2 w' hS' (hΦ _ _ _ hb hr) (hΨ1 _ _ _ hc hr) hc2⟩
  have Ejj : ∀ c1 c2 w, S w → Ψ1 c1 w → Ψ2 c2 w → wpAnyH P .any ops Q S (f + 2) ((listed.setIfInBounds j1 true).setIfInBounds j2 true) (mk undef undef (u1 c1) (u2 c2)) w := by
    intro c1 c2 w hS hc hc2
    refine held_one Rjj ho1 fun Q' hQ => ?_
    refine hi1 _ _ w hS Q' fun b w' hS' hr hb => ?_
    refine hQ _ _ hS' ?_
    rw [Array.setIfInBounds_comm (xs := listed.setIfInBounds j1 true) _ _ (Ne.symm m2), Array.setIfInBounds_comm (xs := listed) _ _ (Ne.symm m1)]
    exact Eijj b c1 c2 w' hS' hb (hΨ1 _ _ _ hc hr) (hΨ2 _ _ _ hc2 hr)
  have Ei : ∀ b w, S w → Φ b w → wpAnyH P .any ops Q S (f + 3) (listed.setIfInBounds i1 true) (mk (v b) undef undef undef) w := by
    intro b w hS hb
    refine wpAnyH_all Ri (by simp) fun k hk => ?_
    have hk' : k = i2 ∨ k = j1 := by simpa using hk
    rcases hk' with rfl | rfl
    · refine wpOp_of_list (op_of_drop ho2) (hi2 b _ _ w hS hb _ fun w' hS' hr => ?_)
      exact ⟨hS', Eii b w' hS' (hΦ _ _ _ hb hr)⟩
    · refine wpOp_of_list (op_of_drop hp1) (hj1 _ _ w hS _ fun c1 w' hS' hr hc => ?_)
      exact ⟨hS', Eij b c1 w' hS' (hΦ _ _ _ hb hr) hc⟩
  have Ej : ∀ c1 w, S w → Ψ1 c1 w → wpAnyH P .any ops Q S (f + 3) (listed.setIfInBounds j1 true) (mk undef undef (u1 c1) undef) w := by
    intro c1 w hS hc
    refine wpAnyH_all Rj (by simp) fun k hk => ?_
    have hk' : k = i1 ∨ k = j2 := by simpa using hk
    rcases hk' with rfl | rfl
    · refine wpOp_of_list (op_of_drop ho1) (hi1 _ _ w hS _ fun b w' hS' hr hb => ?_)
      refine ⟨hS', ?_⟩
      rw [Array.setIfInBounds_comm (xs := listed) _ _ (Ne.symm m1)]
      exact Eij b c1 w' hS' hb (hΨ1 _ _ _ hc hr)
    · refine wpOp_of_list (op_of_drop hp2) (hj2 _ _ c1 w hS _ fun c2 w' hS' hr hc2 => ?_)
      exact ⟨hS', Ejj c1 c2 w' hS' (hΨ1 _ _ _ hc hr) hc2⟩
  subst ha
  refine wpAnyH_all R0 (by simp) fun k hk => ?_
  have hk' : k = i1 ∨ k = j1 := by simpa using hk
  rcases hk' with rfl | rfl
  · refine wpOp_of_list (op_of_drop ho1) (hi1 _ _ w hS _ fun b w' hS' hr hb => ?_)
    exact ⟨hS', Ei b w' hS' hb⟩
  · refine wpOp_of_list (op_of_drop hp1) (hj1 _ _ w hS _ fun c1 w' hS' hr hc => ?_)
    exact ⟨hS', Ej c1 w' hS' hc⟩
end
end

section
open Go Go.RowKit

theorem run_conv_mark (t e : TypeId) (g n c : Nat) (cs : Array Value) (e2 : TypeId) (z : Nat × Nat) (w : World) {P : Program} (ht : P.underlying t = some (.slice e)) (he : P.underlying e = some (.int .u8)) (hb : w.heap[g]? = some (.cells cs e2 z)) :
    (convert t t (.slice (some ⟨g, 0, none⟩) n c)).run P w = .ok (.slice (some ⟨g, 0, none⟩) n c) (w.freeze ⟨g, cs.size, none⟩ 1) := by
  have hsh : w.shape? g = some (e2, cs.size) := by
    unfold World.shape?
    rw [hb]
  simp [convert, run_underlying ht, run_underlying he, markStringish, hsh]
theorem freeze_rel (w : World) (a : Addr) : Rel w (w.freeze a 1) := by
  unfold World.freeze
  rw [if_neg (by decide)]
  refine ⟨by simp, fun k c e z hk => ?_⟩
  simp only [Array.getElem?_modify]
  split
  · rw [hk]; simp
  · exact ⟨z, hk⟩
theorem freeze_grown (w : World) (a : Addr) : w.grownBy (w.freeze a 1) (some a.block) := by
  unfold World.freeze
  rw [if_neg (by decide)]
  refine ⟨rfl, rfl, rfl, by simp, fun k _ hk => ?_⟩
  simp only [Array.getElem?_modify]
  rw [if_neg (fun e => hk (by rw [e]))]

set_option maxRecDepth 100000 in
set_option maxHeartbeats 2000000 in
theorem rprintHead_c (C T : Int) (r1 r2 : List UInt8) (w : World) (h1 : r1.length = 32) (h2 : r2.length = 32) :
    Calls Try.prog 33 #[.agg (headV C T r1 r2).toArray] w (headPost C T r1 r2 w) := by
  obtain ⟨E, hE⟩ : ∃ E, headE C T = E := ⟨_, rfl⟩
  have HE := hid hE
  unfold headE at hE
  have hv0 : (headV C T r1 r2)[0]? = some (.int .i64 C) := rfl
  have hv1 : (headV C T r1 r2)[1]? = some (.int .i64 T) := rfl
  have HVL := hid (headV_length C T h1 h2)
  have HR1 := hid (headV_r1 C T (r2 := r2) h1)
  have HR2 := hid (headV_r2 C T h1 h2)
  have HL1 := hid h1
  have HL2 := hid h2
  clear h1 h2
  generalize headV C T r1 r2 = hv at *
  go_enter Try.func33, Try.ntmps33
  go_upto_region 1 with (fail)
  generalize hwA : World.alloc w _ = wA
  have pA : Blk wA w.heap.size hv 70 := by rw [← hwA]; exact Blk.mk_alloc rfl rfl
  have eA : Ext w wA := by rw [← hwA]; exact (Ext.refl w).alloc _
  have c0 : wA.cell? ⟨w.heap.size, 0, none⟩ = some (.int .i64 C) := pA.cell' hv0
  have c1 : wA.cell? ⟨w.heap.size, 1, none⟩ = some (.int .i64 T) := pA.cell' hv1
  have PA := hid pA
  have EA := hid eA
  have HV0 := hid hv0
  have HV1 := hid hv1
  clear hwA pA eA hv0 hv1
  by_cases a1 : C < 0
  · rw [if_pos (by omega)] at hE
    have d1 : decide (C < 0) = true := decide_eq_true a1
    subst hE
    go_wp2
    go_ret2
    exact ⟨_, by rw [HE.out]; rfl, by rw [HE.out]; rfl, EA.out⟩
  have d1 : decide (C < 0) = false := decide_eq_false a1
  by_cases a2 : 65536 < C
  · rw [if_pos (by omega)] at hE
    have d2 : decide (65536 < C) = true := decide_eq_true a2
    subst hE
    go_wp2
    go_ret2
    exact ⟨_, by rw [HE.out]; rfl, by rw [HE.out]; rfl, EA.out⟩
  have d2 : decide (65536 < C) = false := decide_eq_false a2
  by_cases a3 : T < 0
  · rw [if_pos (by omega)] at hE
    have d3 : decide (T < 0) = true := decide_eq_true a3
    subst hE
    go_wp2
    go_ret2
    exact ⟨_, by rw [HE.out]; rfl, by rw [HE.out]; rfl, EA.out⟩
  have d3 : decide (T < 0) = false := decide_eq_false a3
  by_cases a4 : 1099511627776 < T
  · rw [if_pos (by omega)] at hE
    have d4 : decide (1099511627776 < T) = true := decide_eq_true a4
    subst hE
    go_wp2
    go_ret2
    exact ⟨_, by rw [HE.out]; rfl, by rw [HE.out]; rfl, EA.out⟩
  have d4 : decide (1099511627776 < T) = false := decide_eq_false a4
  rw [if_neg (by omega)] at hE
  subst hE
  obtain ⟨i, rfl⟩ := Int.eq_ofNat_of_zero_le (show 0 ≤ C by omega)
  obtain ⟨z, rfl⟩ := Int.eq_ofNat_of_zero_le (show 0 ≤ T by omega)
  have hp1 := hid (fun w' => rlong_c i w' (by omega))
  have hp2 := hid (fun w' => rlong_c z w' (by omega))
  have f1 : decide (i < 0) = false := decide_eq_false (by omega)
  have f2 : decide (65536 < i) = false := decide_eq_false (by omega)
  have f3 : decide (z < 0) = false := decide_eq_false (by omega)
  have f4 : decide (1099511627776 < z) = false := decide_eq_false (by omega)
  go_wp2
  obtain ⟨C, hC⟩ : ∃ C : World → Prop, C = Cls w wA [w.heap.size] [] := ⟨_, rfl⟩
  have hC0 : ∀ w', C w' ↔ Cls w wA [w.heap.size] [] w' := fun w' => by rw [hC]
  clear hC
  have HCC := hid hC0
  clear hC0
  have hCx : ∀ w w', C w → Ext w w' → C w' := fun w w' h1 h2 => (HCC.out w').2 (((HCC.out w).1 h1).ext h2)
  have hCA : C wA := (HCC.out _).2 (Cls.no_room EA.out (Kept.one PA.out.lt))
  have e0 : ∀ w1, C w1 → w1.cell? ⟨w.heap.size, 0, none⟩ = some (.int .i64 (i : Int)) := fun w1 h1 => (((HCC.out w1).1 h1).blk PA.out (by simp)).cell' HV0.out
  have e1 : ∀ w1, C w1 → w1.cell? ⟨w.heap.size, 1, none⟩ = some (.int .i64 (z : Int)) := fun w1 h1 => (((HCC.out w1).1 h1).blk PA.out (by simp)).cell' HV1.out
  clear c0 c1 d1 d2 d3 d4 a1 a2 a3 a4 f1 f2 f3 f4
  refine wp_region_held_drew (S := C) (by kernel_rfl) (hCx _ _ hCA (Ext.refl _).drew) (fun hS0 => ?_)
  refine held_take 2 (v := ?tv1) rfl (by kernel_rfl) (by kernel_rfl) (by kernel_rfl) (fun _ _ _ h => h) (.inl ⟨rfl, ?ty1⟩) hS0 ?tr1
  case ty1 => (intro _ _; go_simp; try with_reducible rfl)
  case tr1 =>
  simp only [Act.put, List.setIfInBounds_toArray, List.set_cons_succ, List.set_cons_zero]
  refine held_take 3 (v := ?tv2) rfl (by kernel_rfl) (by kernel_rfl) (by kernel_rfl) (fun _ _ _ h => h) (.inl ⟨rfl, ?ty2⟩) hS0 ?tr2
  case ty2 => (intro wq hwq; have hcq := (e0) wq hwq; go_simp; try with_reducible rfl)
  case tr2 =>
  simp only [Act.put, List.setIfInBounds_toArray, List.set_cons_succ, List.set_cons_zero]
  refine held_take 5 (v := ?tv3) rfl (by kernel_rfl) (by kernel_rfl) (by kernel_rfl) (fun _ _ _ h => h) (.inl ⟨rfl, ?ty3⟩) hS0 ?tr3
  case ty3 => (intro _ _; go_simp; try with_reducible rfl)
  case tr3 =>
  simp only [Act.put, List.setIfInBounds_toArray, List.set_cons_succ, List.set_cons_zero]
  refine held_take 6 (v := ?tv4) rfl (by kernel_rfl) (by kernel_rfl) (by kernel_rfl) (fun _ _ _ h => h) (.inl ⟨rfl, ?ty4⟩) hS0 ?tr4
  case ty4 => (intro wq hwq; have hcq := (e1) wq hwq; go_simp; try with_reducible rfl)
  case tr4 =>
  simp only [Act.put, List.setIfInBounds_toArray, List.set_cons_succ, List.set_cons_zero]
  refine held_take 8 (v := ?tv5) rfl (by kernel_rfl) (by kernel_rfl) (by kernel_rfl) (fun _ _ _ h => h) (.inl ⟨rfl, ?ty5⟩) hS0 ?tr5
  case ty5 => (intro _ _; go_simp; try with_reducible rfl)
  case tr5 =>
  simp only [Act.put, List.setIfInBounds_toArray, List.set_cons_succ, List.set_cons_zero]
  refine held_take 9 (v := ?tv6) rfl (by kernel_rfl) (by kernel_rfl) (by kernel_rfl) (fun _ _ _ h => h) (.inl ⟨rfl, ?ty6⟩) hS0 ?tr6
  case ty6 => (intro _ _; go_simp; try with_reducible rfl)
  case tr6 =>
  simp only [Act.put, List.setIfInBounds_toArray, List.set_cons_succ, List.set_cons_zero]
  refine held_take 10 (v := ?tv7) rfl (by kernel_rfl) (by kernel_rfl) (by kernel_rfl) (fun _ _ _ h => h) (.inl ⟨rfl, ?ty7⟩) hS0 ?tr7
  case ty7 => (intro _ _; go_simp; try with_reducible rfl)
  case tr7 =>
  simp only [Act.put, List.setIfInBounds_toArray, List.set_cons_succ, List.set_cons_zero]
  refine held_take 11 (v := ?tv8) rfl (by kernel_rfl) (by kernel_rfl) (by kernel_rfl) (fun _ _ _ h => h) (.inl ⟨rfl, ?ty8⟩) hS0 ?tr8
  case ty8 => (intro _ _; go_simp; try with_reducible rfl)
  case tr8 =>
  simp only [Act.put, List.setIfInBounds_toArray, List.set_cons_succ, List.set_cons_zero]
  generalize wA.drew = wD at *
  have hlow : ∀ w1, C w1 → w.heap.size + 1 ≤ w1.heap.size := fun w1 h1 => by have := PA.out.lt; have := ((HCC.out w1).1 h1).kept.1; omega
  refine held_22 (i1 := 0) (i2 := 1) (j1 := 4) (j2 := 7) (β := Nat) (γ1 := Nat) (γ2 := Nat) (fun b => .slice (some ⟨b, 0, none⟩) 4 4) (fun b => .slice (some ⟨b, 0, none⟩) 8 8) (fun b => .slice (some ⟨b, 0, none⟩) 8 8)
    (fun b w1 => w.heap.size + 1 ≤ b ∧ ∃ zz, w1.heap[b]? = some (.cells #[Value.int .u8 75, Value.int .u8 87, Value.int .u8 72, Value.int .u8 49] 5 zz)) (fun b w1 => Cells w1 (some ⟨b, 0, none⟩) ((longL (UInt64.ofNat i)).map u8v)) (fun b w1 => Cells w1 (some ⟨b, 0, none⟩) ((longL (UInt64.ofNat z)).map u8v))
    (fun x1 x2 y1 y2 => { tmps := #[Value.agg hv.toArray, Value.pointer (some { block := w.heap.size, off := 0 }), Value.slice none 0 0, Value.int IntKind.i64 0, Value.pointer (some { block := w.heap.size, off := 0 }), Value.int IntKind.i64 ↑i, Value.bool false, Value.bool false, Value.pointer (some { block := w.heap.size, off := 0 }), Value.int IntKind.i64 ↑i, Value.bool false, Value.bool false, Value.bool false, Value.pointer (some { block := w.heap.size, off := 1 }), Value.int IntKind.i64 ↑z, Value.bool false, Value.bool false, Value.bool false, Value.pointer (some { block := w.heap.size, off := 1 }), Value.int IntKind.i64 ↑z, Value.bool false, Value.bool false, x1, x2, Value.pointer (some { block := w.heap.size, off := 0 }), Value.int IntKind.i64 ↑i, y1, Value.pointer (some { block := w.heap.size, off := 1 }), Value.int IntKind.i64 ↑z, y2, Value.pointer (some { block := w.heap.size, off := 2 }), Value.slice (some { block := w.heap.size, off := 2 }) 32 32, Value.pointer (some { block := w.heap.size, off := 34 }), Value.slice (some { block := w.heap.size, off := 34 }) 32 32, undef, undef], defers := [] })
    (by kernel_rfl) (by kernel_rfl) (by kernel_rfl) (by kernel_rfl) (by kernel_rfl) (by kernel_rfl) (by kernel_rfl) (by kernel_rfl) rfl rfl rfl rfl rfl rfl rfl rfl
    (fun b w1 w2 h k => ⟨h.1, by obtain ⟨z1, hz⟩ := h.2; exact k.2 _ _ _ _ hz⟩) (fun b w1 w2 h k => h.rel k) (fun b w1 w2 h k => h.rel k)
    ?c1 ?c2 ?c3 ?c4 rfl hS0 ?rest
  case c1 =>
    intro y1 y2 w1 hS1 Q' hQ
    have hb := hlow w1 hS1
    clear hS0 e0 e1
    go_wp2_with fail
    exact hQ w1.heap.size _ (hCx _ _ hS1 ((Ext.refl w1).alloc _)) (Rel.ofExt ((Ext.refl w1).alloc _)) ⟨hb, (0, 0), Blk.alloc_new w1 ([75, 87, 72, 49].map u8v) 5⟩
  case c2 =>
    rintro b y1 y2 w1 hS1 ⟨hb, zz, hcb⟩ Q' hQ
    have kc := run_conv_mark (P := Try.prog) 73 5 b 4 4 _ _ _ w1 Try.underlying73 Try.underlying5 hcb
    clear hcb hS0 e0 e1
    go_wp2_with fail
    exact hQ _ ((HCC.out _).2 (((HCC.out _).1 hS1).grownF (freeze_grown w1 _) (fun g h => by cases h; simp; omega) (fun g h => by cases h; show _ ≤ b; omega))) (freeze_rel w1 _)
  case c3 =>
    intro x1 x2 w1 hS1 Q' hQ
    clear hS0 e0 e1
    go_wp2_with fail
    refine (hp1.out w1).mono ?_
    rintro e w2 ⟨rfl, b2, e2⟩
    have hS2 := hCx _ _ hS1 e2
    have C2 := hid (Cells.of_blk0 b2)
    have hr := Rel.ofExt e2
    clear b2 e2
    go_wp2_with fail
    exact hQ _ _ hS2 hr C2.out
  case c4 =>
    intro x1 x2 b1 w1 hS1 Q' hQ
    clear hS0 e0 e1
    go_wp2_with fail
    refine (hp2.out w1).mono ?_
    rintro e w2 ⟨rfl, b2, e2⟩
    have hS2 := hCx _ _ hS1 e2
    have C2 := hid (Cells.of_blk0 b2)
    have hr := Rel.ofExt e2
    clear b2 e2
    go_wp2_with fail
    exact hQ _ _ hS2 hr C2.out
  case rest =>
    clear hS0 hp1 hp2
    rintro b b1 b2 wF hF ⟨hb, zb, hcb⟩ k1 k2
    have k0 : Cells wF (some ⟨b, 0, none⟩) ([75, 87, 72, 49].map u8v) := by
      refine .inr ⟨b, 0, rfl, fun j u hu => ?_⟩
      rw [Nat.zero_add]
      simp only [World.cell?, hcb]
      exact (List.getElem?_toArray (xs := [75, 87, 72, 49].map u8v)).trans hu
    have PF := hid (((HCC.out wF).1 hF).blk PA.out (by simp))
    have k3 : Cells wF (some ⟨w.heap.size, 2, none⟩) (r1.map u8v) := by
      have := Cells.of_blk PF.out 2 32
      rwa [HR1.out] at this
    have k4 : Cells wF (some ⟨w.heap.size, 34, none⟩) (r2.map u8v) := by
      have := Cells.of_blk PF.out 34 32
      rwa [HR2.out] at this
    have K0 := hid k0
    have K1 := hid k1
    have K2 := hid k2
    have K3 := hid k3
    have K4 := hid k4
    clear k0 k1 k2 k3 k4 hcb hb e0 e1 hlow
    try dsimp only
    try simp only [Act.put, List.setIfInBounds_toArray, List.set_cons_succ, List.set_cons_zero]
    refine held_one (i := 12) (by kernel_rfl) rfl ?_
    intro Q' hQ
    go_wp2_with fail
    have hG := hCx _ _ hF ((Ext.refl wF).alloc (.cells #[.slice (some ⟨b, 0, none⟩) 4 4, .slice (some ⟨b1, 0, none⟩) 8 8, .slice (some ⟨b2, 0, none⟩) 8 8, .slice (some ⟨w.heap.size, 2, none⟩) 32 32, .slice (some ⟨w.heap.size, 34, none⟩) 32 32] 73))
    have BG := hid (show Blk (wF.alloc (.cells #[.slice (some ⟨b, 0, none⟩) 4 4, .slice (some ⟨b1, 0, none⟩) 8 8, .slice (some ⟨b2, 0, none⟩) 8 8, .slice (some ⟨w.heap.size, 2, none⟩) 32 32, .slice (some ⟨w.heap.size, 34, none⟩) 32 32] 73)) wF.heap.size [.slice (some ⟨b, 0, none⟩) 4 4, .slice (some ⟨b1, 0, none⟩) 8 8, .slice (some ⟨b2, 0, none⟩) 8 8, .slice (some ⟨w.heap.size, 2, none⟩) 32 32, .slice (some ⟨w.heap.size, 34, none⟩) 32 32] 73 from Blk.mk_alloc rfl rfl)
    have EG := hid ((Ext.refl wF).alloc (.cells #[.slice (some ⟨b, 0, none⟩) 4 4, .slice (some ⟨b1, 0, none⟩) 8 8, .slice (some ⟨b2, 0, none⟩) 8 8, .slice (some ⟨w.heap.size, 2, none⟩) 32 32, .slice (some ⟨w.heap.size, 34, none⟩) 32 32] 73))
    refine hQ _ _ hG ?_
    clear hQ Q'
    generalize wF.alloc (.cells #[.slice (some ⟨b, 0, none⟩) 4 4, .slice (some ⟨b1, 0, none⟩) 8 8, .slice (some ⟨b2, 0, none⟩) 8 8, .slice (some ⟨w.heap.size, 2, none⟩) 32 32, .slice (some ⟨w.heap.size, 34, none⟩) 32 32] 73) = wG at *
    try dsimp only
    try simp only [Act.put, List.setIfInBounds_toArray, List.set_cons_succ, List.set_cons_zero]
    refine held_one (i := 13) (by kernel_rfl) rfl ?_
    intro Q' hQ
    go_wp2_with fail
    have hcat : cat [(some ⟨b, 0, none⟩, 4, [75, 87, 72, 49]), (some ⟨b1, 0, none⟩, 8, longL (UInt64.ofNat i)), (some ⟨b2, 0, none⟩, 8, longL (UInt64.ofNat z)), (some ⟨w.heap.size, 2, none⟩, 32, r1), (some ⟨w.heap.size, 34, none⟩, 32, r2)] = headO (i : Int) (z : Int) r1 r2 := by simp [cat, headO]
    have hlen : (headO (i : Int) (z : Int) r1 r2).length = 84 := by simp [headO, longL_length, HL1.out, HL2.out]
    refine (concat_c [(some ⟨b, 0, none⟩, 4, [75, 87, 72, 49]), (some ⟨b1, 0, none⟩, 8, longL (UInt64.ofNat i)), (some ⟨b2, 0, none⟩, 8, longL (UInt64.ofNat z)), (some ⟨w.heap.size, 2, none⟩, 32, r1), (some ⟨w.heap.size, 34, none⟩, 32, r2)] wF.heap.size 5 5 wG rfl (by omega) (by omega) ?hg ?hc ?hn ?hl).mono ?_
    case hg =>
      intro j it hit
      match j, hit with
      | 0, hit => cases hit; exact BG.out.cell' rfl
      | 1, hit => cases hit; exact BG.out.cell' rfl
      | 2, hit => cases hit; exact BG.out.cell' rfl
      | 3, hit => cases hit; unfold itemV; simp only; rw [HL1.out]; exact BG.out.cell' rfl
      | 4, hit => cases hit; unfold itemV; simp only; rw [HL2.out]; exact BG.out.cell' rfl
    case hc =>
      intro it hit
      simp only [List.mem_cons, List.not_mem_nil, or_false] at hit
      rcases hit with rfl | rfl | rfl | rfl | rfl
      · exact K0.out.ext EG.out
      · exact K1.out.ext EG.out
      · exact K2.out.ext EG.out
      · exact K3.out.ext EG.out
      · exact K4.out.ext EG.out
    case hn =>
      intro it hit
      simp only [List.mem_cons, List.not_mem_nil, or_false] at hit
      rcases hit with rfl | rfl | rfl | rfl | rfl <;> (intro h; cases h)
    case hl => rw [hcat, hlen]; omega
    rw [hcat, hlen]
    rintro e wH ⟨v, rfl, own, eH⟩
    have hH := hCx _ _ hG eH
    have OH := hid own
    clear own hcat hlen
    go_wp2_with fail
    refine hQ _ _ hH ?_
    clear hQ Q' hF hG eH
    try dsimp only
    try simp only [Act.put, List.setIfInBounds_toArray, List.set_cons_succ, List.set_cons_zero]
    have hS0 := hH
    clear hH
    refine held_take 14 (v := ?tv9) rfl (by kernel_rfl) (by kernel_rfl) (by kernel_rfl) (fun _ _ _ h => h) (.inl ⟨rfl, ?ty9⟩) hS0 ?tr9
    case ty9 => (intro _ _; go_simp; try with_reducible rfl)
    case tr9 =>
    simp only [Act.put, List.setIfInBounds_toArray, List.set_cons_succ, List.set_cons_zero]
    refine held_take 15 (v := ?tv10) rfl (by kernel_rfl) (by kernel_rfl) (by kernel_rfl) (fun _ _ _ h => h) (.inl ⟨rfl, ?ty10⟩) hS0 ?tr10
    case ty10 => (intro _ _; go_simp; try with_reducible rfl)
    case tr10 =>
    simp only [Act.put, List.setIfInBounds_toArray, List.set_cons_succ, List.set_cons_zero]
    have EH := hid ((HCC.out wH).1 hS0).base
    have EGs := EG.out.size
    clear hS0 HCC hCx hCA
    refine wpAnyH_done (by kernel_rfl) ?_ _
    go_wp2
    go_ret2
    refine ⟨_, by rw [HE.out]; rfl, ?_, EH.out⟩
    rw [if_pos HE.out]
    exact own_lower OH.out (by have := PF.out.lt; omega)
end

section
open Go Go.RowKit

/-- the seal of a head -/
def sealHeadL (k : List UInt8) (C T : Int) (r1 r2 : List UInt8) : List UInt8 := sealL k (sumL 6 (headO C T r1 r2))
def sealHeadV (k : List UInt8) (C T : Int) (r1 r2 : List UInt8) : Value := if headE C T = 0 then .tuple #[.agg ((sealHeadL k C T r1 r2).map u8v).toArray, .int .i64 0] else .tuple #[zeros 64, .int .i64 4]
theorem headE_cases (C T : Int) : headE C T = 0 ∨ headE C T = 4 := by unfold headE; split <;> simp
theorem headO_length {C T : Int} {r1 r2 : List UInt8} (h1 : r1.length = 32) (h2 : r2.length = 32) : (headO C T r1 r2).length = 84 := by simp [headO, longL_length, h1, h2]

set_option maxRecDepth 100000 in
set_option maxHeartbeats 2000000 in
theorem sealHead_c (k : List UInt8) (C T : Int) (r1 r2 : List UInt8) (w : World) (hk : k.length = 32) (h1 : r1.length = 32) (h2 : r2.length = 32) :
    Calls Try.prog 34 #[.agg (k.map u8v).toArray, .agg (headV C T r1 r2).toArray] w fun e w' => e = .returned (sealHeadV k C T r1 r2) ∧ Ext w w' := by
  have hpr := hid (fun w' => printHead_c C T r1 r2 w' h1 h2)
  have HKL := hid (show (k.map u8v).length = 32 by rw [List.length_map, hk])
  have HVL := hid (headV_length C T h1 h2)
  have hsum := hid (fun (a : Option Addr) (c : Nat) w' hnc hc h0 h => sumOf_c 6 (headO C T r1 r2) 84 c a w' (headO_length h1 h2) hnc hc h0 h)
  have hsl := hid (fun (g : Nat) w' h => sealOf_c k (sumL 6 (headO C T r1 r2)) 32 32 (some ⟨g, 0, none⟩) w' hk (sumL_length _ _) (by omega) (by omega) (fun h => by cases h) h)
  have hsv : sumOfV 6 (headO C T r1 r2) 84 = .tuple #[.agg ((sumL 6 (headO C T r1 r2)).map u8v).toArray, .int .i64 0] := by
    unfold sumOfV; simp
  rw [hsv] at hsum
  have HSV := hid (show ((sumL 6 (headO C T r1 r2)).map u8v).length = 32 by rw [List.length_map, sumL_length])
  have oS := one_u8 (sumL 6 (headO C T r1 r2))
  unfold headPost at hpr
  have hres : sealHeadV k C T r1 r2 = if headE C T = 0 then .tuple #[.agg ((sealL k (sumL 6 (headO C T r1 r2))).map u8v).toArray, .int .i64 0] else .tuple #[zeros 64, .int .i64 4] := rfl
  rw [hres]
  have HSL : Hid (((sealL k (sumL 6 (headO C T r1 r2))).map u8v).length = 64) := hid (by rw [List.length_map, sealL_length])
  have oL := one_u8 (sealL k (sumL 6 (headO C T r1 r2)))
  have hE := headE_cases C T
  clear hsv hres hk h1 h2
  obtain ⟨V, hV⟩ : ∃ V, (if headE C T = 0 then Value.tuple #[.agg ((sealL k (sumL 6 (headO C T r1 r2))).map u8v).toArray, .int .i64 0] else .tuple #[zeros 64, .int .i64 4]) = V := ⟨_, rfl⟩
  rw [hV]
  have HV := hid hV
  clear hV
  generalize sumL 6 (headO C T r1 r2) = sm at *
  generalize headE C T = E at *
  generalize headO C T r1 r2 = ho at *
  generalize headV C T r1 r2 = hv at *
  generalize hkv : k.map u8v = kv at *
  clear hkv
  go_enter Try.func34, Try.ntmps34
  go_upto_region 1 with (fail)
  generalize hwA : World.alloc (World.alloc (World.alloc w _) _) _ = wA
  have kA : Blk wA w.heap.size kv 23 := by rw [← hwA]; exact ((Blk.mk_alloc rfl rfl).alloc _).alloc _
  have pA : Blk wA (w.heap.size + 1) hv 70 := by rw [← hwA]; exact (Blk.mk_alloc (by simp) rfl).alloc _
  have zA : Blk wA (w.heap.size + 2) (List.replicate 64 (.int .u8 0)) 72 := by rw [← hwA]; exact Blk.mk_alloc (by simp) rfl
  have eA : Ext w wA := by rw [← hwA]; exact (((Ext.refl w).alloc _).alloc _).alloc _
  have KA := hid kA
  have PA := hid pA
  have ZA := hid zA
  have EA := hid eA
  clear hwA kA pA zA eA
  go_wp2_with (refine wpl_loadw rfl 70 (.tmp 3) rfl rfl PA.out agg_head HVL.out ?_)
  refine (hpr.out wA).mono ?_
  rintro e wB ⟨v, rfl, hv2, eB⟩
  have KB := hid (KA.out.ext eB)
  have ZB := hid (ZA.out.ext eB)
  have EB := hid (EA.out.ext eB)
  clear eB KA ZA EA PA hpr
  rcases hE with rfl | rfl
  · rw [if_pos rfl] at hv2
    obtain ⟨a, c, rfl, hnc, hcm, h0, hcl⟩ := own_slice hv2
    have CB := hid hcl
    clear hv2 hcl
    go_wp2_with fail
    refine (hsum.out a c wB hnc hcm h0 CB.out).mono ?_
    rintro e wC ⟨rfl, eC⟩
    have KC := hid (KB.out.ext eC)
    have ZC := hid (ZB.out.ext eC)
    have EC := hid (EB.out.ext eC)
    clear eC KB ZB EB CB hsum h0
    go_wp2_with (first | (refine wpl_storew rfl _ (.tmp 8) _ rfl rfl rfl (Blk.mk_alloc (vs := List.replicate 32 (.int .u8 0)) rfl rfl) agg_apisum (by simp) HSV.out oS ?_))
    intro wD bD uD
    have eD : Ext wC wD := uD.ext ((Ext.refl wC).alloc _) (Nat.le_refl _)
    have KD := hid (KC.out.ext eD)
    have ZD := hid (ZC.out.ext eD)
    have ED := hid (EC.out.ext eD)
    have SD := hid bD
    have hgl : w.heap.size + 2 < wC.heap.size := ZC.out.lt
    clear eD KC ZC EC bD uD
    generalize wC.heap.size = gs at *
    go_wp2_with fail
    obtain ⟨C, hC⟩ : ∃ C : World → Prop, C = Cls w wD [w.heap.size, w.heap.size + 2, gs] [] := ⟨_, rfl⟩
    have hC0 : ∀ w', C w' ↔ Cls w wD [w.heap.size, w.heap.size + 2, gs] [] w' := fun w' => by rw [hC]
    clear hC
    have HCC := hid hC0
    clear hC0
    have hCx : ∀ w w', C w → Ext w w' → C w' := fun w w' h1 h2 => (HCC.out w').2 (((HCC.out w).1 h1).ext h2)
    have hCA : C wD := (HCC.out _).2 (Cls.no_room ED.out (Kept.three KD.out.lt ZD.out.lt SD.out.lt))
    have hs1 : ∀ w1, C w1 → Blk w1 w.heap.size kv 23 := fun w1 h1 => ((HCC.out w1).1 h1).blk KD.out (by simp)
    refine wp_region_w (S := C) (W := [5]) (by kernel_rfl) (hCx _ _ hCA (Ext.refl _).drew) (fun hS0 => ?_)
    refine w_take 0 (v := _) rfl (by kernel_rfl) (by kernel_rfl) (by kernel_rfl) (by kernel_rfl) (by kernel_rfl) (fun _ _ _ h => h) (yieldsI_loadw rfl _ _ rfl rfl hs1 agg_key HKL.out) hS0 ?_
    simp only [Act.put, List.setIfInBounds_toArray, List.set_cons_succ, List.set_cons_zero]
    refine w_pure 1 (v := ?tv1) rfl (by kernel_rfl) (by kernel_rfl) (by kernel_rfl) (fun _ _ _ h => h) (.inl ⟨rfl, ?ty1⟩) ?tr1
    case ty1 => (intro _ _; go_simp; try with_reducible rfl)
    case tr1 =>
    simp only [Act.put, List.setIfInBounds_toArray, List.set_cons_succ, List.set_cons_zero]
    generalize wD.drew = wE at *
    refine w_one (i := 2) (by kernel_rfl) rfl (by kernel_rfl) hS0 ?_
    intro Q' hQ
    go_wp2_with fail
    refine (hsl.out gs wE (Cells.of_blk0 (((HCC.out wE).1 hS0).blk SD.out (by simp)))).mono ?_
    rintro e wF ⟨rfl, eq9⟩
    have hS9 := hCx _ _ hS0 eq9
    go_wp2_with fail
    refine hQ _ _ hS9 ?_
    clear hQ Q' hS0 eq9
    have hS0 := hS9
    clear hS9
    try dsimp only
    try simp only [Act.put, List.setIfInBounds_toArray, List.set_cons_succ, List.set_cons_zero]
    have KF := hid (hs1 wF hS0)
    have ZF := hid (((HCC.out wF).1 hS0).blk ZD.out (by simp))
    have EF := hid ((HCC.out wF).1 hS0).base
    clear hS0 HCC hCx hCA hs1 KD ZD ED SD hsl
    refine w_pure 3 (v := ?tv2) rfl (by kernel_rfl) (by kernel_rfl) (by kernel_rfl) (fun _ _ _ h => h) (.inl ⟨rfl, ?ty2⟩) ?tr2
    case ty2 => (intro _ _; go_simp; try with_reducible rfl)
    case tr2 =>
    simp only [Act.put, List.setIfInBounds_toArray, List.set_cons_succ, List.set_cons_zero]
    refine w_pure 4 (v := ?tv3) rfl (by kernel_rfl) (by kernel_rfl) (by kernel_rfl) (fun _ _ _ h => h) (.inl ⟨rfl, ?ty3⟩) ?tr3
    case ty3 => (intro _ _; go_simp; try with_reducible rfl)
    case tr3 =>
    simp only [Act.put, List.setIfInBounds_toArray, List.set_cons_succ, List.set_cons_zero]
    refine w_late (i := 5) (by kernel_rfl) rfl (by kernel_rfl) ?_
    intro Q' hQ
    go_wp2_with (refine wpl_storew rfl _ _ _ rfl rfl rfl ZF.out agg_seal (by simp) HSL.out oL ?_)
    intro wI bI uI
    go_wp2_with fail
    refine hQ _ _ trivial ?_
    clear hQ Q'
    have BI := hid bI
    have EI := hid (uI.ext EF.out (by omega))
    clear bI uI KF ZF EF
    try dsimp only
    try simp only [Act.put, List.setIfInBounds_toArray, List.set_cons_succ, List.set_cons_zero]
    refine w_pure 6 (v := ?tv4) rfl (by kernel_rfl) (by kernel_rfl) (by kernel_rfl) (fun _ _ _ h => h) (.inl ⟨rfl, ?ty4⟩) ?tr4
    case ty4 => (intro _ _; go_simp; try with_reducible rfl)
    case tr4 =>
    simp only [Act.put, List.setIfInBounds_toArray, List.set_cons_succ, List.set_cons_zero]
    refine w_done (by kernel_rfl) ?_ _
    go_wp2
    exact ret_row2 rfl rfl BI.out agg_seal HSL.out rfl ⟨by rw [← HV.out]; rfl, EI.out⟩
  · rw [if_neg (by decide)] at hv2
    subst hv2
    go_wp2_with (refine wpl_storew rfl _ _ _ rfl rfl rfl ZB.out agg_seal (by simp) (xs := List.replicate 64 (.int .u8 0)) (by simp) (one_zeros 64) ?_)
    intro w4 b4 u4
    go_wp2
    exact ret_row2 rfl rfl b4 agg_seal (by simp) rfl ⟨by rw [← HV.out]; rfl, u4.ext EB.out (by omega)⟩
end

section
open Go Go.RowKit

def checkHeadE (k : List UInt8) (C T : Int) (r1 r2 s : List UInt8) : Int := if headE C T = 0 then (if sealHeadL k C T r1 r2 = s then 0 else 13) else 4

set_option maxRecDepth 100000 in
set_option maxHeartbeats 2000000 in
theorem checkHead_c (k : List UInt8) (C T : Int) (r1 r2 s : List UInt8) (w : World) (hk : k.length = 32) (h1 : r1.length = 32) (h2 : r2.length = 32) (hs : s.length = 64) :
    Calls Try.prog 36 #[.agg (k.map u8v).toArray, .agg (headV C T r1 r2).toArray, .agg (s.map u8v).toArray] w fun e w' => e = .returned (.int .i64 (checkHeadE k C T r1 r2 s)) ∧ Ext w w' := by
  have hsh := hid (fun w' => sealHead_c k C T r1 r2 w' hk h1 h2)
  have HKL := hid (show (k.map u8v).length = 32 by rw [List.length_map, hk])
  have HVL := hid (headV_length C T h1 h2)
  have HSV := hid (show (s.map u8v).length = 64 by rw [List.length_map, hs])
  have oS := one_u8 s
  unfold sealHeadV at hsh
  unfold checkHeadE
  obtain ⟨q, hq⟩ : ∃ q, sealHeadL k C T r1 r2 = q := ⟨_, rfl⟩
  have hql : q.length = 64 := by rw [← hq]; exact sealL_length _ _
  rw [hq] at hsh
  rw [hq]
  have HQL := hid (show (q.map u8v).length = 64 by rw [List.length_map, hql])
  have oQ := one_u8 q
  have hE := headE_cases C T
  have HSL := hid hs
  have HQ := hid hql
  clear hq hk h1 h2 hs hql
  generalize headE C T = E at *
  generalize headV C T r1 r2 = hv at *
  generalize hkv : k.map u8v = kv at *
  clear hkv
  obtain ⟨V, hV⟩ : ∃ V, (if E = 0 then (if q = s then (0 : Int) else 13) else 4) = V := ⟨_, rfl⟩
  rw [hV]
  go_enter Try.func36, Try.ntmps36
  go_upto_region 1 with (fail)
  generalize hwA : World.alloc (World.alloc (World.alloc w _) _) _ = wA
  have kA : Blk wA w.heap.size kv 23 := by rw [← hwA]; exact ((Blk.mk_alloc rfl rfl).alloc _).alloc _
  have pA : Blk wA (w.heap.size + 1) hv 70 := by rw [← hwA]; exact (Blk.mk_alloc (by simp) rfl).alloc _
  have sA : Blk wA (w.heap.size + 2) (s.map u8v) 72 := by rw [← hwA]; exact Blk.mk_alloc (by simp) rfl
  have eA : Ext w wA := by rw [← hwA]; exact (((Ext.refl w).alloc _).alloc _).alloc _
  have KA := hid kA
  have PA := hid pA
  have SA := hid sA
  have EA := hid eA
  have HV := hid hV
  clear hwA kA pA sA eA hV
  go_wp2_with (first | (refine wpl_loadw rfl 70 (.tmp 4) rfl rfl PA.out agg_head HVL.out ?_) | (refine wpl_loadw rfl 23 (.tmp 3) rfl rfl KA.out agg_key HKL.out ?_))
  refine (hsh.out wA).mono ?_
  rintro e wB ⟨rfl, eB⟩
  have SB := hid (SA.out.ext eB)
  have EB := hid (EA.out.ext eB)
  clear eB KA SA EA PA hsh
  rcases hE with rfl | rfl
  · have hrv : (if (0 : Int) = 0 then Value.tuple #[.agg (q.map u8v).toArray, .int .i64 0] else .tuple #[zeros 64, .int .i64 4]) = .tuple #[.agg (q.map u8v).toArray, .int .i64 0] := if_pos rfl
    rw [hrv]
    clear hrv
    go_wp2_with (first | (refine wpl_storew rfl _ (.tmp 7) _ rfl rfl rfl (Blk.mk_alloc (vs := List.replicate 64 (.int .u8 0)) rfl rfl) agg_seal (by simp) HQL.out oQ ?_))
    intro wC bC uC
    have eC : Ext wB wC := uC.ext ((Ext.refl wB).alloc _) (Nat.le_refl _)
    have SC := hid (SB.out.ext eC)
    have EC := hid (EB.out.ext eC)
    have QC := hid bC
    clear eC uC bC SB EB
    generalize wB.heap.size = gq at *
    by_cases heq : q = s
    · subst heq
      have HNE := hid (fun w => show (binOp .neq 72 (.agg (q.map u8v).toArray) (.agg (q.map u8v).toArray)).run Try.prog w = .ok (.bool false) w by rw [neq_arr Try.underlying72 _ _ HQ.out HQ.out w]; simp)
      go_wp2_with (first | (refine wpg_loadw rfl 72 (.tmp 7) rfl rfl QC.out agg_seal HQL.out ?_) | (refine wpg_loadw rfl 72 (.tmp 5) rfl rfl SC.out agg_seal HQL.out ?_) | (refine wpg_cmp rfl .neq _ _ _ _ rfl rfl rfl guard_seal HNE.out ?_))
      go_ret
      exact ⟨by rw [← HV.out]; first | rfl | (simp; done), EC.out⟩
    · have hne : (!(q == s)) = true := by simpa using heq
      have HNE := hid (fun w => show (binOp .neq 72 (.agg (q.map u8v).toArray) (.agg (s.map u8v).toArray)).run Try.prog w = .ok (.bool true) w by rw [neq_arr Try.underlying72 _ _ HQ.out HSL.out w, hne])
      have HEQ := hid heq
      clear heq hne
      go_wp2_with (first | (refine wpg_loadw rfl 72 (.tmp 7) rfl rfl QC.out agg_seal HQL.out ?_) | (refine wpg_loadw rfl 72 (.tmp 5) rfl rfl SC.out agg_seal HSV.out ?_) | (refine wpg_cmp rfl .neq _ _ _ _ rfl rfl rfl guard_seal HNE.out ?_))
      go_ret
      exact ⟨by rw [← HV.out]; simp [HEQ.out], EC.out⟩
  · have hrv : (if (4 : Int) = 0 then Value.tuple #[.agg (q.map u8v).toArray, .int .i64 0] else .tuple #[zeros 64, .int .i64 4]) = .tuple #[.agg (List.replicate 64 (.int .u8 0)).toArray, .int .i64 4] := if_neg (by decide)
    rw [hrv]
    clear hrv
    go_wp2_with (first | (refine wpl_storew rfl _ (.tmp 7) _ rfl rfl rfl (Blk.mk_alloc (vs := List.replicate 64 (.int .u8 0)) rfl rfl) agg_seal (by simp) (by simp) (one_zeros 64) ?_))
    intro wC bC uC
    have EC := hid (EB.out.ext (uC.ext ((Ext.refl wB).alloc _) (Nat.le_refl _)))
    clear bC uC EB
    go_wp2_with fail
    go_ret
    exact ⟨by rw [← HV.out]; first | rfl | (simp; done), EC.out⟩

set_option maxRecDepth 100000 in
set_option maxHeartbeats 2000000 in
theorem rsealHead_c (k : List UInt8) (C T : Int) (r1 r2 : List UInt8) (w : World) (hk : k.length = 32) (h1 : r1.length = 32) (h2 : r2.length = 32) (hE : headE C T = 0) :
    Calls Try.prog 37 #[.agg (k.map u8v).toArray, .agg (headV C T r1 r2).toArray] w fun e w' => e = .returned (.agg ((sealHeadL k C T r1 r2).map u8v).toArray) ∧ Ext w w' := by
  have hpr := hid (fun w' => rprintHead_c C T r1 r2 w' h1 h2)
  have HKL := hid (show (k.map u8v).length = 32 by rw [List.length_map, hk])
  have HVL := hid (headV_length C T h1 h2)
  have hsum := hid (fun (a : Option Addr) (c : Nat) w' h => rsum_c 6 (headO C T r1 r2) 84 c a w' (by omega) (by omega) (headO_length h1 h2) (by omega) h)
  have hsl := hid (fun (g : Nat) w' h => rseal_c k (sumL 6 (headO C T r1 r2)) 32 32 (some ⟨g, 0, none⟩) w' hk (sumL_length _ _) (by omega) (fun h => by cases h) h)
  have HSV := hid (show ((sumL 6 (headO C T r1 r2)).map u8v).length = 32 by rw [List.length_map, sumL_length])
  have oS := one_u8 (sumL 6 (headO C T r1 r2))
  unfold headPost at hpr
  rw [hE] at hpr
  unfold sealHeadL
  have HSL : Hid (((sealL k (sumL 6 (headO C T r1 r2))).map u8v).length = 64) := hid (by rw [List.length_map, sealL_length])
  have oL := one_u8 (sealL k (sumL 6 (headO C T r1 r2)))
  clear hk h1 h2 hE
  generalize sumL 6 (headO C T r1 r2) = sm at *
  generalize headO C T r1 r2 = ho at *
  generalize headV C T r1 r2 = hv at *
  generalize hkv : k.map u8v = kv at *
  clear hkv
  go_enter Try.func37, Try.ntmps37
  go_upto_region 1 with (fail)
  generalize hwA : World.alloc (World.alloc (World.alloc w _) _) _ = wA
  have kA : Blk wA w.heap.size kv 23 := by rw [← hwA]; exact ((Blk.mk_alloc rfl rfl).alloc _).alloc _
  have pA : Blk wA (w.heap.size + 1) hv 70 := by rw [← hwA]; exact (Blk.mk_alloc (by simp) rfl).alloc _
  have zA : Blk wA (w.heap.size + 2) (List.replicate 64 (.int .u8 0)) 72 := by rw [← hwA]; exact Blk.mk_alloc (by simp) rfl
  have eA : Ext w wA := by rw [← hwA]; exact (((Ext.refl w).alloc _).alloc _).alloc _
  have KA := hid kA
  have PA := hid pA
  have ZA := hid zA
  have EA := hid eA
  clear hwA kA pA zA eA
  go_wp2_with (refine wpl_loadw rfl 70 (.tmp 3) rfl rfl PA.out agg_head HVL.out ?_)
  refine (hpr.out wA).mono ?_
  rintro e wB ⟨v, rfl, hv2, eB⟩
  have KB := hid (KA.out.ext eB)
  have ZB := hid (ZA.out.ext eB)
  have EB := hid (EA.out.ext eB)
  clear eB KA ZA EA PA hpr
  rw [if_pos trivial] at hv2
  obtain ⟨a, c, rfl, hnc, hcm, h0, hcl⟩ := own_slice hv2
  have CB := hid hcl
  clear hv2 hcl h0 hnc hcm
  go_wp2_with fail
  refine (hsum.out a c wB CB.out).mono ?_
  rintro e wC ⟨rfl, eC⟩
  have KC := hid (KB.out.ext eC)
  have ZC := hid (ZB.out.ext eC)
  have EC := hid (EB.out.ext eC)
  clear eC KB ZB EB CB hsum
  go_wp2_with (first | (refine wpl_storew rfl _ (.tmp 7) _ rfl rfl rfl (Blk.mk_alloc (vs := List.replicate 32 (.int .u8 0)) rfl rfl) agg_apisum (by simp) HSV.out oS ?_))
  intro wD bD uD
  have eD : Ext wC wD := uD.ext ((Ext.refl wC).alloc _) (Nat.le_refl _)
  have KD := hid (KC.out.ext eD)
  have ZD := hid (ZC.out.ext eD)
  have ED := hid (EC.out.ext eD)
  have SD := hid bD
  have hgl : w.heap.size + 2 < wC.heap.size := ZC.out.lt
  clear eD KC ZC EC bD uD
  generalize wC.heap.size = gs at *
  go_wp2_with fail
  obtain ⟨C, hC⟩ : ∃ C : World → Prop, C = Cls w wD [w.heap.size, w.heap.size + 2, gs] [] := ⟨_, rfl⟩
  have hC0 : ∀ w', C w' ↔ Cls w wD [w.heap.size, w.heap.size + 2, gs] [] w' := fun w' => by rw [hC]
  clear hC
  have HCC := hid hC0
  clear hC0
  have hCx : ∀ w w', C w → Ext w w' → C w' := fun w w' h1 h2 => (HCC.out w').2 (((HCC.out w).1 h1).ext h2)
  have hCA : C wD := (HCC.out _).2 (Cls.no_room ED.out (Kept.three KD.out.lt ZD.out.lt SD.out.lt))
  have hs1 : ∀ w1, C w1 → Blk w1 w.heap.size kv 23 := fun w1 h1 => ((HCC.out w1).1 h1).blk KD.out (by simp)
  refine wp_region_w (S := C) (W := [3]) (by kernel_rfl) (hCx _ _ hCA (Ext.refl _).drew) (fun hS0 => ?_)
  refine w_take 0 (v := _) rfl (by kernel_rfl) (by kernel_rfl) (by kernel_rfl) (by kernel_rfl) (by kernel_rfl) (fun _ _ _ h => h) (yieldsI_loadw rfl _ _ rfl rfl hs1 agg_key HKL.out) hS0 ?_
  simp only [Act.put, List.setIfInBounds_toArray, List.set_cons_succ, List.set_cons_zero]
  refine w_pure 1 (v := ?tv1) rfl (by kernel_rfl) (by kernel_rfl) (by kernel_rfl) (fun _ _ _ h => h) (.inl ⟨rfl, ?ty1⟩) ?tr1
  case ty1 => (intro _ _; go_simp; try with_reducible rfl)
  case tr1 =>
  simp only [Act.put, List.setIfInBounds_toArray, List.set_cons_succ, List.set_cons_zero]
  generalize wD.drew = wE at *
  refine w_one (i := 2) (by kernel_rfl) rfl (by kernel_rfl) hS0 ?_
  intro Q' hQ
  go_wp2_with fail
  refine (hsl.out gs wE (Cells.of_blk0 (((HCC.out wE).1 hS0).blk SD.out (by simp)))).mono ?_
  rintro e wF ⟨rfl, eq9⟩
  have hS9 := hCx _ _ hS0 eq9
  go_wp2_with fail
  refine hQ _ _ hS9 ?_
  clear hQ Q' hS0 eq9
  have hS0 := hS9
  clear hS9
  try dsimp only
  try simp only [Act.put, List.setIfInBounds_toArray, List.set_cons_succ, List.set_cons_zero]
  have ZF := hid (((HCC.out wF).1 hS0).blk ZD.out (by simp))
  have EF := hid ((HCC.out wF).1 hS0).base
  clear hS0 HCC hCx hCA hs1 KD ZD ED SD hsl
  refine w_late (i := 3) (by kernel_rfl) rfl (by kernel_rfl) ?_
  intro Q' hQ
  go_wp2_with (refine wpl_storew rfl _ _ _ rfl rfl rfl ZF.out agg_seal (by simp) HSL.out oL ?_)
  intro wI bI uI
  go_wp2_with fail
  refine hQ _ _ trivial ?_
  clear hQ Q'
  have BI := hid bI
  have EI := hid (uI.ext EF.out (by omega))
  clear bI uI ZF EF
  try dsimp only
  try simp only [Act.put, List.setIfInBounds_toArray, List.set_cons_succ, List.set_cons_zero]
  refine w_done (by kernel_rfl) ?_ _
  go_wp2
  exact ret_row rfl rfl BI.out agg_seal HSL.out rfl ⟨rfl, EI.out⟩
end
end Go.Proofs.Ytelhnimdfepmdaa
