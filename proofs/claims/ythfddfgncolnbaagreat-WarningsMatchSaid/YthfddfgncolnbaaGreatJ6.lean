/- Contracts and laws that the claim's row leans on (11 texts, joined): policy.decide without one rule; conditions: the memory of both, and that the ask's time is right. What Lint says and what Trim leaves, plain; no program. policy.sameDecision and common; conditions: the policies' memory. slices.Equal of equal rows of strings; keylaw1.sameAsk of equal asks; slices.EqualFunc of rows of equal asks; conditions: the asks' memory. policy.warning: what Lint says of a rule; conditions: the memory of the policy and of the world's asks, their times are right. policy.Differ; conditions: the policies' memory. policy.Lint; conditions: the policy's memory. slices.Delete of one rule, slices.Clone of rules, keyref1.without; conditions: the rows' memory. slices.Clone of rules, keyref1.without; slices.IndexFunc and ContainsFunc at asks; conditions: the memory. slices.IndexFunc and ContainsFunc at asks; keyref1.Lint's first closure; conditions: the memory. The state of the reference's world under way; conditions: none. -/
import Derived.Test.YthfddfgncolnbaaGreatJ5
import Derived.Deep.DeepCutAuto
namespace Go.Proofs.YthfddfgncolnbaaGreat
section
open Go Go.RowKit

theorem closW_c (k R g5 : Nat) (w : World) (h : w.cell? ⟨g5, 0, none⟩ = some (.int .i64 (R : Int))) : Calls Tryz.prog 74 #[.int .i64 (k : Int), .pointer (some ⟨g5, 0, none⟩)] w fun e w' => e = .returned (.bool (!decide (k = R))) ∧ w = w' := by
  have hd : ((k : Int) == (R : Int)) = decide (k = R) := by
    by_cases e : k = R
    · subst e; simp
    · rw [decide_eq_false e]; simp; omega
  have hd2 : decide ((k : Int) = (R : Int)) = decide (k = R) := by
    by_cases e : k = R
    · subst e; simp
    · rw [decide_eq_false e]; exact decide_eq_false (by omega)
  generalize decide (k = R) = b at *
  go_enter Tryz.func74, Tryz.ntmps74
  go_wp2
  go_ret
  exact ⟨by first | rfl | simp_all [bne], rfl⟩
noncomputable def decFW (a : AskR) (R : Nat) : List RuleR → Nat → Option (Nat × RuleR) → DecR
  | [], _, best => bestDec best
  | r :: rs, i, best => if i ≠ R ∧ meetsB r a = true then (if r.deny then denyDec i else decFW a R rs (i + 1) (if betterB r best then some (i, r) else best)) else decFW a R rs (i + 1) best
noncomputable def decideDW (a : AskR) (R : Nat) (rs : List RuleR) : DecR := decFW a R rs 0 none
section
variable {a : AskR} {R : Nat} {rs : List RuleR} {k : Nat} {r : RuleR} {best : Option (Nat × RuleR)}
theorem decFW_skip (h : rs[k]? = some r) (hk : k = R) : decFW a R (rs.drop k) k best = decFW a R (rs.drop (k + 1)) (k + 1) best := by
  rw [drop_at h]; conv => lhs; unfold decFW
  rw [if_neg (by rintro ⟨h1, _⟩; exact h1 hk)]
theorem decFW_no (h : rs[k]? = some r) (hk : ¬ k = R) (hm : meetsB r a = false) : decFW a R (rs.drop k) k best = decFW a R (rs.drop (k + 1)) (k + 1) best := by
  rw [drop_at h]; conv => lhs; unfold decFW
  rw [if_neg (by rintro ⟨_, h2⟩; rw [hm] at h2; cases h2)]
theorem decFW_deny (h : rs[k]? = some r) (hk : ¬ k = R) (hm : meetsB r a = true) (hd : r.deny = true) : decFW a R (rs.drop k) k best = denyDec k := by
  rw [drop_at h]; unfold decFW; rw [if_pos ⟨hk, hm⟩, if_pos hd]
theorem decFW_yes (h : rs[k]? = some r) (hk : ¬ k = R) (hm : meetsB r a = true) (hd : r.deny = false) : decFW a R (rs.drop k) k best = decFW a R (rs.drop (k + 1)) (k + 1) (if betterB r best then some (k, r) else best) := by
  rw [drop_at h]; conv => lhs; unfold decFW
  rw [if_pos ⟨hk, hm⟩, if_neg (by rw [hd]; decide)]
theorem decFW_end (h : rs.length ≤ k) : decFW a R (rs.drop k) k best = bestDec best := by
  rw [List.drop_of_length_le h]; rfl
end

set_option maxRecDepth 100000 in
set_option maxHeartbeats 2000000 in
theorem decideW_c (pa : Option Addr) (pn pc : Nat) (rs : List RuleR) (a : AskR) (T : Nat) (w : World) (hp : PolOk w pa pn pc rs) (ha : a.Ok w) (hT : a.time = (T : Int)) (hTb : T ≤ 1099511627776) (R g5 : Nat) (h5 : w.cell? ⟨g5, 0, none⟩ = some (.int .i64 (R : Int))) :
    Calls Tryz.prog 36 #[.agg #[.slice pa pn pc], .agg a.v.toArray, .func (.func 74) #[] #[.pointer (some ⟨g5, 0, none⟩)]] w fun e w' => e = .returned (.agg (decideDW a R rs).v.toArray) ∧ Ext w w' := by
  have hme := hid (fun r w' h1 h2 => meets_c r a T w' h1 h2 hT hTb)
  have HPO := hid hp
  have hn63 : pn ≤ 140737488355328 := by have := hp.hnc; have := hp.hm; omega
  have HLEN := hid (AskR.len ha)
  have HAO := hid ha
  have HAG := hid agg_ask
  have H5 := hid h5
  clear hp ha hT hTb h5
  obtain ⟨D, hD⟩ : ∃ D, decideDW a R rs = D := ⟨_, rfl⟩
  have HD := hid hD
  rw [hD]
  clear hD
  go_enter Tryz.func36, Tryz.ntmps36
  go_upto_region 1 with (fail)
  generalize hwA : World.alloc (World.alloc (World.alloc w _) _) _ = wA
  have bA : Blk wA w.heap.size [.slice pa pn pc] 24 := by rw [← hwA]; exact ((Blk.mk_alloc rfl rfl).alloc _).alloc _
  have gA : Blk wA (w.heap.size + 1) a.v 40 := by rw [← hwA]; exact (Blk.mk_alloc (by simp) rfl).alloc _
  have zA : Blk wA (w.heap.size + 2) zeroDec.v 52 := by rw [← hwA]; exact Blk.mk_alloc (by simp) rfl
  have eA : Ext w wA := by rw [← hwA]; exact (((Ext.refl w).alloc _).alloc _).alloc _
  have BA := hid bA
  have GA := hid gA
  have ZA := hid zA
  have EA := hid eA
  have PA := hid (HPO.out.ext eA)
  have QA := hid (HAO.out.ext eA)
  have c0 := bA.cell' (i := 0) rfl
  clear hwA bA gA zA eA HPO HAO
  go_wp2
  go_loopw [7, 14] (fun b i wr => ∃ (k : Nat) (best : Option (Nat × RuleR)), k ≤ pn ∧ i = .int .i64 (k : Int) ∧ b = .int .i64 (bestI best) ∧ (∀ b q, best = some (b, q) → b < pn ∧ rs[b]? = some q) ∧ decFW a R (rs.drop k) k best = D ∧ Ext wA wr) (fun _ i _ => pn - (intOf i).toNat)
  case atStart => exact ⟨0, none, by omega, rfl, rfl, fun b q h => (by cases h), by rw [List.drop_zero]; exact HD.out, Ext.refl _⟩
  case round =>
    obtain ⟨k, best, hk, rfl, rfl, hbest, hdec, e1⟩ := hrel
    have E1 := hid e1
    have HDC := hid hdec
    have HBE := hid hbest
    clear e1 hdec hbest
    by_cases hlt : k < pn
    · obtain ⟨r, hrk⟩ : ∃ r, rs[k]? = some r := ⟨rs[k]'(by rw [PA.out.hl]; exact hlt), by simp⟩
      obtain ⟨A, rfl, hca⟩ := (PA.out.ext E1.out).at hrk
      have HCA := hid hca
      have HOK := hid ((PA.out.ok r (List.mem_of_getElem? hrk)).ext E1.out)
      have HRL := hid (RuleR.len r)
      have HRK := hid hrk
      clear hca hrk
      have hro := ruleV_one r
      go_wp2_with (first | (refine wpl_run rfl (exec_index (i := k) rfl rfl rfl Tryz.underlying22 size_rule hlt _) ?_) | (refine wpl_run rfl (exec_load_at rfl rfl HCA.out agg_rule HRL.out) ?_) | (refine wpl_storew rfl _ (.tmp 9) _ rfl rfl rfl (Blk.mk_alloc (vs := zeroRule) rfl rfl) agg_rule rfl HRL.out hro ?_))
      intro wB bB uB
      have eB : Ext wr wB := uB.ext ((Ext.refl wr).alloc _) (Nat.le_refl _)
      have BB := hid bB
      have EB := hid (E1.out.ext eB)
      have HOB := hid (HOK.out.ext eB)
      have GB := hid (GA.out.ext EB.out)
      have QB := hid (QA.out.ext EB.out)
      clear bB uB eB HOK
      generalize wr.heap.size = gr at *
      have h5B : wB.cell? ⟨g5, 0, none⟩ = some (.int .i64 (R : Int)) := cell_extU H5.out (EA.out.ext EB.out)
      go_wp2_with fail
      refine (closW_c k R g5 wB h5B).mono ?_
      rintro e w4 ⟨rfl, rfl⟩
      by_cases hkR : k = R
      · have HN := hid ((decFW_skip HRK.out hkR).symm.trans HDC.out)
        have dR : decide (k = R) = true := decide_eq_true hkR
        clear HDC HRK
        go_wp2
        go_roundw
        case rel => exact ⟨k + 1, best, by omega, by go_num, rfl, HBE.out, HN.out, EB.out⟩
        case measure => simp [intOf]; omega
      have dR : decide (k = R) = false := decide_eq_false hkR
      go_wp2_with (first | (refine wpg_loadw rfl 50 (.tmp 9) rfl rfl BB.out agg_rule HRL.out ?_) | (refine wpg_loadw rfl 40 (.tmp 4) rfl rfl GB.out agg_ask HLEN.out ?_))
      refine (hme.out r wB HOB.out QB.out).mono ?_
      rintro e wC ⟨rfl, eC⟩
      have EC := hid (EB.out.ext eC)
      have BC := hid (BB.out.ext eC)
      clear eC BB EB HOB GB QB
      cases hm : meetsB r a with
      | false =>
        have HN := hid ((decFW_no HRK.out hkR hm).symm.trans HDC.out)
        clear hm HDC HRK
        go_wp2
        go_roundw
        case rel => exact ⟨k + 1, best, by omega, by go_num, rfl, HBE.out, HN.out, EC.out⟩
        case measure => simp [intOf]; omega
      | true =>
      have c9 := BC.out.cell' (i := 0) rfl
      cases hd : r.deny with
      | true =>
        have HN := hid ((decFW_deny HRK.out hkR hm hd).symm.trans HDC.out)
        have ZC := hid (ZA.out.ext EC.out)
        rw [hd] at c9
        have hbu := fun w => run_build (P := Tryz.prog) w 52 #[(1, .int .i64 (k : Int))] _ (built_dec1 (k : Int))
        clear hm HDC HRK
        clear hbu
        go_wp2_with (refine wpl_storew rfl _ (.tmp 6) _ rfl rfl rfl ZC.out agg_dec rfl (DecR.len (denyDec k)) (decV_one (denyDec k)) ?_)
        intro wD bD uD
        have ED := hid (uD.ext (EA.out.ext EC.out) (by omega))
        go_wp2_with fail
        exact ret_row rfl rfl bD agg_dec rfl rfl ⟨by rw [← HN.out]; rfl, ED.out⟩
      | false =>
        have HN := hid ((decFW_yes HRK.out hkR hm hd).symm.trans HDC.out)
        rw [hd] at c9
        clear hm HDC
        cases best with
        | none =>
          have hN := HN.out
          rw [show (if betterB r none then some (k, r) else none) = some (k, r) from rfl] at hN
          have HN2 := hid hN
          clear hN HN
          go_upto_region 8 with (fail)
          obtain ⟨C, hC⟩ : ∃ C : World → Prop, C = fun w' => Ext wC w' := ⟨_, rfl⟩
          have hC0 : ∀ w', C w' ↔ Ext wC w' := fun w' => by rw [hC]
          clear hC
          have HCC := hid hC0
          clear hC0
          have hCx : ∀ w w', C w → Ext w w' → C w' := fun w w' h1 h2 => (HCC.out w').2 (((HCC.out w).1 h1).ext h2)
          have hCA : C wC := (HCC.out _).2 (Ext.refl wC)
          have hneg : decide (bestI none < 0) = true := rfl
          refine wp_region_held_drew (S := C) (by kernel_rfl) (hCx _ _ hCA (Ext.refl _).drew) (fun hS0 => ?_)
          refine held_take 0 (v := ?tv43) rfl (by kernel_rfl) (by kernel_rfl) (by kernel_rfl) (fun _ _ _ h => h) (.inl ⟨rfl, ?ty43⟩) hS0 ?tr43
          case ty43 => (intro _ _; go_simp; try with_reducible rfl)
          case tr43 =>
          simp only [Act.put, List.setIfInBounds_toArray, List.set_cons_succ, List.set_cons_zero]
          refine held_take 1 (v := ?tv44) rfl (by kernel_rfl) (by kernel_rfl) (by kernel_rfl) (fun _ _ _ h => h) (.inl ⟨rfl, ?ty44⟩) hS0 ?tr44
          case ty44 => (intro _ _; go_simp; try with_reducible rfl)
          case tr44 =>
          simp only [Act.put, List.setIfInBounds_toArray, List.set_cons_succ, List.set_cons_zero]
          refine held_take 2 (v := ?tv45) rfl (by kernel_rfl) (by kernel_rfl) (by kernel_rfl) (fun _ _ _ h => h) (.inl ⟨rfl, ?ty45⟩) hS0 ?tr45
          case ty45 => (intro _ _; go_simp; try with_reducible rfl)
          case tr45 =>
          simp only [Act.put, List.setIfInBounds_toArray, List.set_cons_succ, List.set_cons_zero]
          refine held_take 3 (v := undef) rfl (by kernel_rfl) (by kernel_rfl) (by kernel_rfl) (fun _ _ _ h => h) (.inr ⟨rfl, rfl⟩) hS0 ?_
          simp only [Act.put, List.setIfInBounds_toArray, List.set_cons_succ, List.set_cons_zero]
          refine held_take 4 (v := undef) rfl (by kernel_rfl) (by kernel_rfl) (by kernel_rfl) (fun _ _ _ h => h) (.inr ⟨rfl, rfl⟩) hS0 ?_
          simp only [Act.put, List.setIfInBounds_toArray, List.set_cons_succ, List.set_cons_zero]
          refine held_take 5 (v := undef) rfl (by kernel_rfl) (by kernel_rfl) (by kernel_rfl) (fun _ _ _ h => h) (.inr ⟨rfl, rfl⟩) hS0 ?_
          simp only [Act.put, List.setIfInBounds_toArray, List.set_cons_succ, List.set_cons_zero]
          refine held_take 6 (v := undef) rfl (by kernel_rfl) (by kernel_rfl) (by kernel_rfl) (fun _ _ _ h => h) (.inr ⟨rfl, rfl⟩) hS0 ?_
          simp only [Act.put, List.setIfInBounds_toArray, List.set_cons_succ, List.set_cons_zero]
          refine held_take 7 (v := undef) rfl (by kernel_rfl) (by kernel_rfl) (by kernel_rfl) (fun _ _ _ h => h) (.inr ⟨rfl, rfl⟩) hS0 ?_
          simp only [Act.put, List.setIfInBounds_toArray, List.set_cons_succ, List.set_cons_zero]
          refine held_take 8 (v := undef) rfl (by kernel_rfl) (by kernel_rfl) (by kernel_rfl) (fun _ _ _ h => h) (.inr ⟨rfl, rfl⟩) hS0 ?_
          simp only [Act.put, List.setIfInBounds_toArray, List.set_cons_succ, List.set_cons_zero]
          refine held_take 9 (v := undef) rfl (by kernel_rfl) (by kernel_rfl) (by kernel_rfl) (fun _ _ _ h => h) (.inr ⟨rfl, rfl⟩) hS0 ?_
          simp only [Act.put, List.setIfInBounds_toArray, List.set_cons_succ, List.set_cons_zero]
          refine held_take 10 (v := undef) rfl (by kernel_rfl) (by kernel_rfl) (by kernel_rfl) (fun _ _ _ h => h) (.inr ⟨rfl, rfl⟩) hS0 ?_
          simp only [Act.put, List.setIfInBounds_toArray, List.set_cons_succ, List.set_cons_zero]
          refine held_take 11 (v := undef) rfl (by kernel_rfl) (by kernel_rfl) (by kernel_rfl) (fun _ _ _ h => h) (.inr ⟨rfl, rfl⟩) hS0 ?_
          simp only [Act.put, List.setIfInBounds_toArray, List.set_cons_succ, List.set_cons_zero]
          refine held_take 12 (v := ?tv46) rfl (by kernel_rfl) (by kernel_rfl) (by kernel_rfl) (fun _ _ _ h => h) (.inl ⟨rfl, ?ty46⟩) hS0 ?tr46
          case ty46 => (intro _ _; go_simp; try with_reducible rfl)
          case tr46 =>
          simp only [Act.put, List.setIfInBounds_toArray, List.set_cons_succ, List.set_cons_zero]
          refine wpAnyH_done (by kernel_rfl) ?_ _
          have E2 := hid (EC.out.ext ((HCC.out _).1 hS0))
          clear hS0 hCx hCA HCC
          go_wp2
          go_roundw
          case rel =>
            refine ⟨k + 1, some (k, r), by omega, by go_num, rfl, ?_, HN2.out, E2.out⟩
            intro b q hbq
            cases hbq
            exact ⟨hlt, HRK.out⟩
          case measure => simp [intOf]; omega
        | some bq =>
          obtain ⟨b, q⟩ := bq
          obtain ⟨hbn, hbq⟩ := HBE.out b q rfl
          obtain ⟨A2, hA2, hcq⟩ := PA.out.at hbq
          injection hA2 with hA2
          subst hA2
          have HCQ := hid hcq
          have HBQ := hid hbq
          have HPC := hid (BA.out.ext EC.out)
          clear hcq hbq
          go_upto_region 8 with (fail)
          obtain ⟨C, hC⟩ : ∃ C : World → Prop, C = fun w' => Ext wC w' := ⟨_, rfl⟩
          have hC0 : ∀ w', C w' ↔ Ext wC w' := fun w' => by rw [hC]
          clear hC
          have HCC := hid hC0
          clear hC0
          have hCx : ∀ w w', C w → Ext w w' → C w' := fun w w' h1 h2 => (HCC.out w').2 (((HCC.out w).1 h1).ext h2)
          have hCA : C wC := (HCC.out _).2 (Ext.refl wC)
          have hb0 : decide (((b : Nat) : Int) < 0) = false := decide_eq_false (by omega)
          have hbi : bestI (some (b, q)) = (b : Int) := rfl
          rw [hbi]
          have hc6 : ∀ w1, C w1 → w1.cell? ⟨gr, 6, none⟩ = some (.int .i64 r.nd) := fun w1 h1 => (BC.out.ext ((HCC.out w1).1 h1)).cell' (i := 6) rfl
          have hcp : ∀ w1, C w1 → w1.cell? ⟨w.heap.size, 0, none⟩ = some (.slice (some A) pn pc) := fun w1 h1 => (HPC.out.ext ((HCC.out w1).1 h1)).cell' (i := 0) rfl
          have hcz : ∀ w1, C w1 → w1.cell? ⟨(A.add (b * 8)).block, (A.add (b * 8)).off + 6, none⟩ = some (.int .i64 q.nd) := fun w1 h1 => field_at (HCQ.out.ext (EC.out.ext ((HCC.out w1).1 h1))) (j := 6) rfl
          refine wp_region_held_drew (S := C) (by kernel_rfl) (hCx _ _ hCA (Ext.refl _).drew) (fun hS0 => ?_)
          refine held_take 0 (v := ?tv47) rfl (by kernel_rfl) (by kernel_rfl) (by kernel_rfl) (fun _ _ _ h => h) (.inl ⟨rfl, ?ty47⟩) hS0 ?tr47
          case ty47 => (intro _ _; go_simp; try with_reducible rfl)
          case tr47 =>
          simp only [Act.put, List.setIfInBounds_toArray, List.set_cons_succ, List.set_cons_zero]
          refine held_take 1 (v := ?tv48) rfl (by kernel_rfl) (by kernel_rfl) (by kernel_rfl) (fun _ _ _ h => h) (.inl ⟨rfl, ?ty48⟩) hS0 ?tr48
          case ty48 => (intro _ _; go_simp; try with_reducible rfl)
          case tr48 =>
          simp only [Act.put, List.setIfInBounds_toArray, List.set_cons_succ, List.set_cons_zero]
          refine held_take 2 (v := ?tv49) rfl (by kernel_rfl) (by kernel_rfl) (by kernel_rfl) (fun _ _ _ h => h) (.inl ⟨rfl, ?ty49⟩) hS0 ?tr49
          case ty49 => (intro _ _; go_simp; try with_reducible rfl)
          case tr49 =>
          simp only [Act.put, List.setIfInBounds_toArray, List.set_cons_succ, List.set_cons_zero]
          refine held_take 3 (v := ?tv50) rfl (by kernel_rfl) (by kernel_rfl) (by kernel_rfl) (fun _ _ _ h => h) (.inl ⟨rfl, ?ty50⟩) hS0 ?tr50
          case ty50 => (intro _ _; go_simp; try with_reducible rfl)
          case tr50 =>
          simp only [Act.put, List.setIfInBounds_toArray, List.set_cons_succ, List.set_cons_zero]
          refine held_take 4 (v := ?tv51) rfl (by kernel_rfl) (by kernel_rfl) (by kernel_rfl) (fun _ _ _ h => h) (.inl ⟨rfl, ?ty51⟩) hS0 ?tr51
          case ty51 => (intro wq hwq; have hcq := (hc6) wq hwq; go_simp; try with_reducible rfl)
          case tr51 =>
          simp only [Act.put, List.setIfInBounds_toArray, List.set_cons_succ, List.set_cons_zero]
          refine held_take 5 (v := ?tv52) rfl (by kernel_rfl) (by kernel_rfl) (by kernel_rfl) (fun _ _ _ h => h) (.inl ⟨rfl, ?ty52⟩) hS0 ?tr52
          case ty52 => (intro _ _; go_simp; try with_reducible rfl)
          case tr52 =>
          simp only [Act.put, List.setIfInBounds_toArray, List.set_cons_succ, List.set_cons_zero]
          refine held_take 6 (v := ?tv53) rfl (by kernel_rfl) (by kernel_rfl) (by kernel_rfl) (fun _ _ _ h => h) (.inl ⟨rfl, ?ty53⟩) hS0 ?tr53
          case ty53 => (intro wq hwq; have hcq := (hcp) wq hwq; go_simp; try with_reducible rfl)
          case tr53 =>
          simp only [Act.put, List.setIfInBounds_toArray, List.set_cons_succ, List.set_cons_zero]
          refine held_take 7 (v := ?tv54) rfl (by kernel_rfl) (by kernel_rfl) (by kernel_rfl) (fun _ _ _ h => h) (.inl ⟨rfl, ?ty54⟩) hS0 ?tr54
          case ty54 => (intro _ _; go_simp; try with_reducible rfl)
          case tr54 =>
          simp only [Act.put, List.setIfInBounds_toArray, List.set_cons_succ, List.set_cons_zero]
          refine held_take 8 (v := _) rfl (by kernel_rfl) (by kernel_rfl) (by kernel_rfl) (fun _ _ _ h => h) (yieldsI_run rfl (fun w1 _ => exec_index (i := b) rfl rfl rfl Tryz.underlying22 size_rule hbn w1)) hS0 ?_
          simp only [Act.put, List.setIfInBounds_toArray, List.set_cons_succ, List.set_cons_zero]
          refine held_take 9 (v := ?tv55) rfl (by kernel_rfl) (by kernel_rfl) (by kernel_rfl) (fun _ _ _ h => h) (.inl ⟨rfl, ?ty55⟩) hS0 ?tr55
          case ty55 => (intro _ _; go_simp; try with_reducible rfl)
          case tr55 =>
          simp only [Act.put, List.setIfInBounds_toArray, List.set_cons_succ, List.set_cons_zero]
          refine held_take 10 (v := ?tv56) rfl (by kernel_rfl) (by kernel_rfl) (by kernel_rfl) (fun _ _ _ h => h) (.inl ⟨rfl, ?ty56⟩) hS0 ?tr56
          case ty56 => (intro wq hwq; have hcq := (hcz) wq hwq; go_simp; try with_reducible rfl)
          case tr56 =>
          simp only [Act.put, List.setIfInBounds_toArray, List.set_cons_succ, List.set_cons_zero]
          refine held_take 11 (v := ?tv57) rfl (by kernel_rfl) (by kernel_rfl) (by kernel_rfl) (fun _ _ _ h => h) (.inl ⟨rfl, ?ty57⟩) hS0 ?tr57
          case ty57 => (intro _ _; go_simp; try with_reducible rfl)
          case tr57 =>
          simp only [Act.put, List.setIfInBounds_toArray, List.set_cons_succ, List.set_cons_zero]
          refine held_take 12 (v := ?tv58) rfl (by kernel_rfl) (by kernel_rfl) (by kernel_rfl) (fun _ _ _ h => h) (.inl ⟨rfl, ?ty58⟩) hS0 ?tr58
          case ty58 => (intro _ _; go_simp; try with_reducible rfl)
          case tr58 =>
          simp only [Act.put, List.setIfInBounds_toArray, List.set_cons_succ, List.set_cons_zero]
          refine wpAnyH_done (by kernel_rfl) ?_ _
          have E2 := hid (EC.out.ext ((HCC.out _).1 hS0))
          clear hS0 hCx hCA HCC hc6 hcp hcz hb0
          have hN := HN.out
          by_cases hbt : r.nd < q.nd
          · have q1 : decide (r.nd < q.nd) = true := decide_eq_true hbt
            rw [show betterB r (some (b, q)) = true from q1, if_pos rfl] at hN
            have HN2 := hid hN
            have HRK2 := hid HRK.out
            clear hN HN
            go_wp2
            go_roundw
            case rel =>
              refine ⟨k + 1, some (k, r), by omega, by go_num, rfl, ?_, HN2.out, E2.out⟩
              intro b q hbq
              cases hbq
              exact ⟨hlt, HRK2.out⟩
            case measure => simp [intOf]; omega
          · have q1 : decide (r.nd < q.nd) = false := decide_eq_false hbt
            rw [show betterB r (some (b, q)) = false from q1] at hN
            simp only [Bool.false_eq_true, if_false] at hN
            have HN2 := hid hN
            clear hN HN
            go_wp2
            go_roundw
            case rel => exact ⟨k + 1, some (b, q), by omega, by go_num, by first | rfl | (simp [bestI]; done), HBE.out, HN2.out, E2.out⟩
            case measure => simp [intOf]; omega
    · obtain rfl : k = pn := by omega
      have HN := hid ((decFW_end (by rw [PA.out.hl]; exact Nat.le_refl _)).symm.trans HDC.out)
      have ZC := hid (ZA.out.ext E1.out)
      cases best with
      | none =>
        have hneg : decide (bestI none < 0) = true := rfl
        go_wp2_with (refine wpl_storew rfl _ (.tmp 6) _ rfl rfl rfl ZC.out agg_dec rfl (DecR.len noneDec) (decV_one noneDec) ?_)
        intro wD bD uD
        have ED := hid (uD.ext (EA.out.ext E1.out) (by omega))
        go_wp2_with fail
        exact ret_row rfl rfl bD agg_dec rfl rfl ⟨by rw [← HN.out]; rfl, ED.out⟩
      | some bq =>
        obtain ⟨b, q⟩ := bq
        obtain ⟨hbn, hbq⟩ := HBE.out b q rfl
        obtain ⟨A, rfl, hcq⟩ := PA.out.at hbq
        have HCQ := hid (hcq.ext E1.out)
        have c0' := (BA.out.ext E1.out).cell' (i := 0) rfl
        have hbi : bestI (some (b, q)) = (b : Int) := rfl
        rw [hbi]
        have hb0 : decide (((b : Nat) : Int) < 0) = false := decide_eq_false (by omega)
        have HQL := hid (RuleR.len q)
        have hqo := ruleV_one q
        clear hcq hbq
        go_wp2_with (first | (refine wpl_run rfl (exec_index (i := b) rfl rfl rfl Tryz.underlying22 size_rule hbn _) ?_) | (refine wpl_run rfl (exec_load_at rfl rfl HCQ.out agg_rule HQL.out) ?_) | (refine wpl_storew rfl _ (.tmp 10) _ rfl rfl rfl (Blk.mk_alloc (vs := zeroRule) rfl rfl) agg_rule rfl HQL.out hqo ?_))
        intro wB bB uB
        have eB : Ext wr wB := uB.ext ((Ext.refl wr).alloc _) (Nat.le_refl _)
        have c6 := bB.cell' (i := 6) rfl
        have c7 := bB.cell' (i := 7) rfl
        have EB := hid (E1.out.ext eB)
        have ZB := hid (ZC.out.ext eB)
        clear bB uB eB c0'
        generalize wr.heap.size = gr at *
        go_wp2_with (refine wpl_storew rfl _ (.tmp 6) _ rfl rfl rfl ZB.out agg_dec rfl (DecR.len (bestDec (some (b, q)))) (decV_one (bestDec (some (b, q)))) ?_)
        intro wD bD uD
        have ED := hid (uD.ext (EA.out.ext EB.out) (by omega))
        go_wp2_with fail
        exact ret_row rfl rfl bD agg_dec rfl rfl ⟨by rw [← HN.out]; rfl, ED.out⟩
end

section
open Go Go.RowKit

/-- what a decision tells beside the rule's place -/
def contD (d : DecR) : Bool × Int × List UInt8 := (d.al, d.nd, d.ow.toList)
theorem sameD_iff (x y : DecR) : sameD x y = true ↔ contD x = contD y := by
  unfold sameD contD
  simp only [Bool.and_eq_true, beq_iff_eq, Prod.mk.injEq]
  constructor
  · rintro ⟨⟨h1, h2⟩, h3⟩; exact ⟨h1, h2, h3⟩
  · rintro ⟨h1, h2, h3⟩; exact ⟨⟨h1, h2⟩, h3⟩
theorem sameD_cong {x y z : DecR} (h : contD y = contD z) : sameD x y = sameD x z := by
  have h1 := sameD_iff x y
  have h2 := sameD_iff x z
  rw [h] at h1
  cases hx : sameD x y <;> cases hz : sameD x z
  · rfl
  · rw [hx] at h1; rw [hz] at h2; exact absurd (h1.2 (h2.1 rfl)) (by decide)
  · rw [hx] at h1; rw [hz] at h2; exact absurd (h2.2 (h1.1 rfl)) (by decide)
  · rfl
theorem sameD_self (x : DecR) : sameD x x = true := (sameD_iff x x).2 rfl
/-- the same rule stands best -/
def simB : Option (Nat × RuleR) → Option (Nat × RuleR) → Prop
  | none, none => True
  | some (_, q), some (_, r) => q = r
  | _, _ => False
theorem simB_best {b c : Option (Nat × RuleR)} (h : simB b c) : contD (bestDec b) = contD (bestDec c) := by
  cases b with
  | none => cases c with
    | none => rfl
    | some c => cases h
  | some b => cases c with
    | none => cases h
    | some c =>
      obtain ⟨i, q⟩ := b
      obtain ⟨j, r⟩ := c
      have : q = r := h
      subst this
      rfl
theorem simB_better {r : RuleR} {b c : Option (Nat × RuleR)} (h : simB b c) : betterB r b = betterB r c := by
  cases b with
  | none => cases c with
    | none => rfl
    | some c => cases h
  | some b => cases c with
    | none => cases h
    | some c =>
      obtain ⟨i, q⟩ := b
      obtain ⟨j, s⟩ := c
      have : q = s := h
      subst this
      rfl
theorem simB_next {r : RuleR} {b c : Option (Nat × RuleR)} (h : simB b c) (i j : Nat) : simB (if betterB r b then some (i, r) else b) (if betterB r c then some (j, r) else c) := by
  rw [simB_better h]
  split
  · exact rfl
  · exact h
theorem decF_cons (a : AskR) (r : RuleR) (rs : List RuleR) (i : Nat) (b : Option (Nat × RuleR)) : decF a (r :: rs) i b = if meetsB r a = true then (if r.deny = true then denyDec i else decF a rs (i + 1) (if betterB r b then some (i, r) else b)) else decF a rs (i + 1) b := rfl
theorem decFW_cons (a : AskR) (R : Nat) (r : RuleR) (rs : List RuleR) (i : Nat) (b : Option (Nat × RuleR)) : decFW a R (r :: rs) i b = if i ≠ R ∧ meetsB r a = true then (if r.deny = true then denyDec i else decFW a R rs (i + 1) (if betterB r b then some (i, r) else b)) else decFW a R rs (i + 1) b := rfl
theorem decFW_past {a : AskR} {R : Nat} : ∀ (rs : List RuleR) (i j : Nat) (b c : Option (Nat × RuleR)), R < j → simB b c → contD (decF a rs i b) = contD (decFW a R rs j c)
  | [], i, j, b, c, _, h => simB_best h
  | r :: rs, i, j, b, c, hR, h => by
    rw [decF_cons, decFW_cons]
    by_cases hm : meetsB r a = true
    · rw [if_pos hm, if_pos (show j ≠ R ∧ meetsB r a = true from ⟨by omega, hm⟩)]
      by_cases hd : r.deny = true
      · rw [if_pos hd, if_pos hd]; rfl
      · rw [if_neg hd, if_neg hd]
        exact decFW_past rs _ _ _ _ (by omega) (simB_next h _ _)
    · rw [if_neg hm, if_neg (fun h2 => hm h2.2)]
      exact decFW_past rs _ _ _ _ (by omega) h
theorem decFW_erase {a : AskR} : ∀ (rs : List RuleR) (n i j : Nat) (b c : Option (Nat × RuleR)), n < rs.length → simB b c → contD (decF a (rs.eraseIdx n) i b) = contD (decFW a (j + n) rs j c)
  | [], n, i, j, b, c, hn, _ => by cases hn
  | r :: rs, 0, i, j, b, c, _, h => by
    rw [List.eraseIdx_cons_zero, decFW_cons, if_neg (fun h2 => h2.1 rfl)]
    exact decFW_past rs _ _ _ _ (by omega) h
  | r :: rs, n + 1, i, j, b, c, hn, h => by
    rw [List.eraseIdx_cons_succ]
    have hn' : n < rs.length := by rw [List.length_cons] at hn; omega
    have e : j + (n + 1) = (j + 1) + n := by omega
    rw [decF_cons, decFW_cons]
    by_cases hm : meetsB r a = true
    · rw [if_pos hm, if_pos (show j ≠ j + (n + 1) ∧ meetsB r a = true from ⟨by omega, hm⟩)]
      by_cases hd : r.deny = true
      · rw [if_pos hd, if_pos hd]; rfl
      · rw [if_neg hd, if_neg hd, e]
        exact decFW_erase rs n _ _ _ _ hn' (simB_next h _ _)
    · rw [if_neg hm, if_neg (fun h2 => hm h2.2), e]
      exact decFW_erase rs n _ _ _ _ hn' h
theorem decFW_none {a : AskR} {R : Nat} : ∀ (rs : List RuleR) (j : Nat) (b : Option (Nat × RuleR)), (∀ r, j ≤ R → rs[R - j]? = some r → meetsB r a = false) → decFW a R rs j b = decF a rs j b
  | [], j, b, _ => rfl
  | r :: rs, j, b, h => by
    have hs : ∀ q, j + 1 ≤ R → rs[R - (j + 1)]? = some q → meetsB q a = false := fun q h1 h2 => h q (by omega) (by rw [show R - j = (R - (j + 1)) + 1 by omega, List.getElem?_cons_succ]; exact h2)
    rw [decF_cons, decFW_cons]
    by_cases hm : meetsB r a = true
    · have hj : j ≠ R := by
        intro e
        subst e
        have := h r (Nat.le_refl _) (by rw [Nat.sub_self]; rfl)
        rw [hm] at this
        cases this
      rw [if_pos hm, if_pos (show j ≠ R ∧ meetsB r a = true from ⟨hj, hm⟩)]
      by_cases hd : r.deny = true
      · rw [if_pos hd, if_pos hd]
      · rw [if_neg hd, if_neg hd]
        exact decFW_none rs _ _ hs
    · rw [if_neg hm, if_neg (fun h2 => hm h2.2)]
      exact decFW_none rs _ _ hs
theorem decideDW_erase (a : AskR) (rs : List RuleR) {n : Nat} (hn : n < rs.length) : contD (decideD a (rs.eraseIdx n)) = contD (decideDW a n rs) := by
  have := decFW_erase (a := a) rs n 0 0 none none hn trivial
  rw [Nat.zero_add] at this
  exact this
theorem decideDW_none (a : AskR) (rs : List RuleR) {n : Nat} {r : RuleR} (hr : rs[n]? = some r) (hm : meetsB r a = false) : decideDW a n rs = decideD a rs :=
  decFW_none rs 0 none (fun q _ h => by rw [Nat.sub_zero, hr] at h; injection h with h; subst h; exact hm)
theorem decFW_same {x y : AskR} (R : Nat) (h : x.p = y.p) : ∀ (rs : List RuleR) (k : Nat) (b : Option (Nat × RuleR)), decFW x R rs k b = decFW y R rs k b := by
  have hm : ∀ r, meetsB r x = meetsB r y := by
    intro r
    have h1 : x.roles = y.roles := congrArg AskP.roles h
    have h2 : x.act = y.act := congrArg AskP.act h
    have h3 : x.label = y.label := congrArg AskP.label h
    have h4 : x.time = y.time := congrArg AskP.time h
    unfold meetsB
    rw [h1, h2, h3, h4]
  intro rs
  induction rs with
  | nil => intro k b; rfl
  | cons r rs ih =>
    intro k b
    rw [decFW_cons, decFW_cons, hm r]
    simp only [ih]
theorem decDW_of (rs : List RuleR) (R : Nat) (x : AskR) : decideDW x R rs = decideDW x.p.r R rs := decFW_same R (by rw [AskP.r_p]) rs 0 none
noncomputable def meetP (r : RuleR) (p : AskP) : Bool := meetsB r p.r
theorem meetP_of (r : RuleR) (x : AskR) : meetsB r x = meetP r x.p := by
  unfold meetP meetsB
  rfl
def allR (r : RuleR) : Bool := !r.deny && decide (r.rn = 0) && decide (r.an = 0) && decide (r.ln = 0) && decide (r.nd = 0)
/-- the kind of warning of rule i; 0: none -/
noncomputable def kindW (rs : List RuleR) (W : List AskP) (i : Nat) : Nat :=
  match rs[i]? with
  | none => 0
  | some r => if W.any (meetP r) = false then 1 else if W.any (difP rs (rs.eraseIdx i)) = false then 2 else if allR r = true then 3 else 0
/-- what the program looks for in place of the second -/
noncomputable def deadP (rs : List RuleR) (i : Nat) (p : AskP) : Bool := !sameD (decP rs p) (decideDW p.r i rs)
theorem deadP_of {rs : List RuleR} {i : Nat} {r : RuleR} (hr : rs[i]? = some r) (p : AskP) : deadP rs i p = difP rs (rs.eraseIdx i) p := by
  have hi := (List.getElem?_eq_some_iff.1 hr).1
  unfold deadP difP
  rw [sameD_cong (decideDW_erase p.r rs hi).symm]
  rfl
theorem dif_unmet {rs : List RuleR} {i : Nat} {r : RuleR} (hr : rs[i]? = some r) {p : AskP} (hm : meetP r p = false) : difP rs (rs.eraseIdx i) p = false := by
  rw [← deadP_of hr]
  unfold deadP
  rw [decideDW_none p.r rs hr hm]
  show (!sameD (decP rs p) (decP rs p)) = false
  rw [sameD_self]
  rfl
end

section
open Go Go.RowKit

set_option maxRecDepth 100000 in
set_option maxHeartbeats 1000000 in
theorem sameDec_c (x y : DecR) (w : World) :
    Calls Tryz.prog 35 #[.agg x.v.toArray, .agg y.v.toArray] w fun e w' => e = .returned (.bool (sameD x y)) ∧ Ext w w' := by
  obtain ⟨S, hS⟩ : ∃ S, sameD x y = S := ⟨_, rfl⟩
  have hS2 : (x.al == y.al && x.nd == y.nd && x.ow.toList == y.ow.toList) = S := hS
  have HS := hid hS2
  rw [hS]
  clear hS hS2
  go_enter Tryz.func35, Tryz.ntmps35
  go_upto_region 1 with (fail)
  generalize hwA : World.alloc (World.alloc w _) _ = wA
  have xA : Blk wA w.heap.size x.v 52 := by rw [← hwA]; exact (Blk.mk_alloc rfl rfl).alloc _
  have yA : Blk wA (w.heap.size + 1) y.v 52 := by rw [← hwA]; exact Blk.mk_alloc (size_allocW _ _).symm rfl
  have eA : Ext w wA := by rw [← hwA]; exact ((Ext.refl w).alloc _).alloc _
  have EA := hid eA
  have x0 := xA.cell' (i := 0) rfl
  have x2 := xA.cell' (i := 2) rfl
  have x3 := xA.cell' (i := 3) rfl
  have y0 := yA.cell' (i := 0) rfl
  have y2 := yA.cell' (i := 2) rfl
  have y3 := yA.cell' (i := 3) rfl
  clear hwA xA yA eA
  cases h1 : (x.al == y.al) with
  | false =>
    have hv := HS.out
    rw [h1] at hv
    have HV := hid hv
    clear hv HS
    go_wp2
    go_ret
    exact ⟨by rw [← HV.out]; rfl, EA.out⟩
  | true =>
    cases h2 : (x.nd == y.nd) with
    | false =>
      have hv := HS.out
      rw [h1, h2] at hv
      have HV := hid hv
      clear hv HS
      go_wp2
      go_ret
      exact ⟨by rw [← HV.out]; rfl, EA.out⟩
    | true =>
      have hv := HS.out
      rw [h1, h2] at hv
      have HV := hid hv
      clear hv HS
      go_wp2
      go_ret
      exact ⟨by rw [← HV.out]; first | rfl | simp, EA.out⟩

noncomputable def comE (rs : List RuleR) (pn : Nat) (qs : List RuleR) (qn : Nat) : Int := if polE rs pn ≠ 0 then polE rs pn else if polE qs qn ≠ 0 then polE qs qn else errW (rs ++ qs) (pn + qn)
theorem cat_two (rs qs : List RuleR) (a b : Option Addr) (c d : Nat) : catR [(a, c, rs), (b, d, qs)] = rs ++ qs := by simp [catR]
set_option maxRecDepth 100000 in
set_option maxHeartbeats 2000000 in
theorem common_c (pa : Option Addr) (pn pc : Nat) (rs : List RuleR) (qa : Option Addr) (qn qc : Nat) (qs : List RuleR) (w : World) (hp : PolOk w pa pn pc rs) (hq : PolOk w qa qn qc qs) :
    Calls Tryz.prog 34 #[.agg #[.slice pa pn pc], .agg #[.slice qa qn qc]] w fun e w' => ∃ v xs, e = .returned (.tuple #[v, .int .i64 (comE rs pn qs qn)]) ∧ (comE rs pn qs qn ≠ 0 → v = .slice none 0 0) ∧ (comE rs pn qs qn = 0 → AsksI w' w.heap.size v xs ∧ xs.map AskR.p = worldP (rs ++ qs)) ∧ Ext w w' := by
  have HP := hid hp
  have HQ := hid hq
  have HC1 := hid (fun W (h : Ext w W) => check_c pa pn pc rs W (hp.ext h))
  have HC2 := hid (fun W (h : Ext w W) => check_c qa qn qc qs W (hq.ext h))
  have herr := hid (show comE rs pn qs qn = if polE rs pn ≠ 0 then polE rs pn else if polE qs qn ≠ 0 then polE qs qn else errW (rs ++ qs) (pn + qn) from rfl)
  clear hp hq
  obtain ⟨E, hE⟩ : ∃ E, comE rs pn qs qn = E := ⟨_, rfl⟩
  obtain ⟨F, hF⟩ : ∃ F, polE rs pn = F := ⟨_, rfl⟩
  obtain ⟨G, hG⟩ : ∃ G, polE qs qn = G := ⟨_, rfl⟩
  have hE2 := herr.out.symm.trans hE
  rw [hF, hG] at hE2
  have HE := hid hE2
  have HF := hid hF
  have HG := hid hG
  rw [hF] at HC1
  rw [hG] at HC2
  rw [hE]
  clear hE herr hF hG hE2
  go_enter Tryz.func34, Tryz.ntmps34
  go_upto_region 1 with (fail)
  generalize hwA : World.alloc (World.alloc w _) _ = wA
  have bA : Blk wA w.heap.size [.slice pa pn pc] 24 := by rw [← hwA]; exact (Blk.mk_alloc rfl rfl).alloc _
  have dA : Blk wA (w.heap.size + 1) [.slice qa qn qc] 24 := by rw [← hwA]; exact Blk.mk_alloc (size_allocW _ _).symm rfl
  have eA : Ext w wA := by rw [← hwA]; exact ((Ext.refl w).alloc _).alloc _
  have BA := hid bA
  have DA := hid dA
  have EA := hid eA
  clear hwA bA dA eA
  go_wp2_with (first | (refine wpl_loadw rfl 24 (.tmp 2) rfl rfl BA.out agg_polW rfl ?_) | (refine wpl_loadw rfl 24 (.tmp 3) rfl rfl DA.out agg_polW rfl ?_))
  go_loopw [12] (fun i wr => ∃ j : Nat, j ≤ 2 ∧ i = .int .i64 (j : Int) ∧ (1 ≤ j → F = 0) ∧ (2 ≤ j → G = 0) ∧ Ext wA wr) (fun i _ => 2 - (intOf i).toNat)
  case atStart => exact ⟨0, by omega, rfl, fun h => by omega, fun h => by omega, Ext.refl _⟩
  case round =>
    obtain ⟨j, hj, rfl, h1, h2, e1⟩ := hrel
    have E1 := hid e1
    clear e1
    rcases (show j = 0 ∨ j = 1 ∨ j = 2 by omega) with rfl | rfl | rfl
    · have hri : ∀ W : World, (Instr.index 106 (.agg #[.slice pa pn pc, .slice qa qn qc]) (.int .i64 0)).run Tryz.prog W = .ok (.agg #[.slice pa pn pc]) W := fun W => by kernel_rfl
      go_wp2_with (refine wpl_storew rfl _ (.tmp 7) _ rfl rfl rfl (Blk.mk_alloc (vs := [.slice none 0 0]) rfl rfl) agg_polW rfl (xs := [.slice pa pn pc]) rfl (by simp [Value.oneCell']) ?_)
      intro wB bB uB
      have eB : Ext wr wB := uB.ext ((Ext.refl wr).alloc _) (Nat.le_refl _)
      have BB := hid bB
      have EB := hid (E1.out.ext eB)
      clear bB uB eB E1 hri
      generalize wr.heap.size = gr at *
      go_wp2_with (first | (refine wpl_loadw rfl 24 (.tmp 7) rfl rfl BB.out agg_polW rfl ?_))
      refine (HC1.out wB (EA.out.ext EB.out)).mono ?_
      rintro e wC ⟨rfl, eC⟩
      have EC := hid (EB.out.ext eC)
      clear eC EB BB
      by_cases h0 : F = 0
      · have d0 : decide (F = 0) = true := decide_eq_true h0
        go_wp2
        go_roundw
        case rel => exact ⟨0 + 1, by omega, by go_num, fun _ => h0, fun h => by omega, EC.out⟩
        case measure => simp [intOf]
      · have d0 : decide (F = 0) = false := decide_eq_false h0
        have hEE : F = E := by have := HE.out; rw [if_pos h0] at this; exact this
        subst hEE
        have EW := hid (EA.out.ext EC.out)
        clear HE
        go_wp2
        go_ret2
        exact ⟨_, [], rfl, fun _ => rfl, fun h => absurd h h0, EW.out⟩
    · have hri : ∀ W : World, (Instr.index 106 (.agg #[.slice pa pn pc, .slice qa qn qc]) (.int .i64 1)).run Tryz.prog W = .ok (.agg #[.slice qa qn qc]) W := fun W => by kernel_rfl
      go_wp2_with (refine wpl_storew rfl _ (.tmp 7) _ rfl rfl rfl (Blk.mk_alloc (vs := [.slice none 0 0]) rfl rfl) agg_polW rfl (xs := [.slice qa qn qc]) rfl (by simp [Value.oneCell']) ?_)
      intro wB bB uB
      have eB : Ext wr wB := uB.ext ((Ext.refl wr).alloc _) (Nat.le_refl _)
      have BB := hid bB
      have EB := hid (E1.out.ext eB)
      clear bB uB eB E1 hri
      generalize wr.heap.size = gr at *
      go_wp2_with (first | (refine wpl_loadw rfl 24 (.tmp 7) rfl rfl BB.out agg_polW rfl ?_))
      refine (HC2.out wB (EA.out.ext EB.out)).mono ?_
      rintro e wC ⟨rfl, eC⟩
      have EC := hid (EB.out.ext eC)
      clear eC EB BB
      by_cases h0 : G = 0
      · have d0 : decide (G = 0) = true := decide_eq_true h0
        have hF0 := h1 (by omega)
        go_wp2
        go_roundw
        case rel => exact ⟨1 + 1, by omega, by go_num, fun _ => hF0, fun _ => h0, EC.out⟩
        case measure => simp [intOf]
      · have d0 : decide (G = 0) = false := decide_eq_false h0
        have hEE : G = E := by have := HE.out; rw [if_neg (by rw [h1 (by omega)]; simp), if_pos h0] at this; exact this
        subst hEE
        have EW := hid (EA.out.ext EC.out)
        clear HE
        go_wp2
        go_ret2
        exact ⟨_, [], rfl, fun _ => rfl, fun h => absurd h h0, EW.out⟩
    · have hF0 := h1 (by omega)
      have hG0 := h2 (by omega)
      have hEE : errW (rs ++ qs) (pn + qn) = E := by
        have := HE.out
        rw [if_neg (by rw [hF0]; simp), if_neg (by rw [hG0]; simp)] at this
        exact this
      have HEE := hid hEE
      obtain ⟨hp100, hpz⟩ := polE_zero (HF.out.trans hF0)
      obtain ⟨hq100, hqz⟩ := polE_zero (HG.out.trans hG0)
      have B1 := hid (BA.out.ext E1.out)
      have D1 := hid (DA.out.ext E1.out)
      have c0 := B1.out.cell' (i := 0) rfl
      have d0 := D1.out.cell' (i := 0) rfl
      have EW := hid (EA.out.ext E1.out)
      clear h1 h2 hEE HE E1 EA BA DA HC1 HC2 hF0 hG0 HF HG hpz hqz
      go_wp2_with fail
      obtain ⟨gl, hgl⟩ : ∃ gl, wr.heap.size = gl := ⟨_, rfl⟩
      rw [hgl]
      generalize hwL : World.alloc wr _ = wL
      have bL : Blk wL gl [.slice pa pn pc, .slice qa qn qc] 22 := by rw [← hwL, ← hgl]; exact Blk.mk_alloc rfl rfl
      have eL : Ext wr wL := by rw [← hwL]; exact (Ext.refl wr).alloc _
      have EL := hid (EW.out.ext eL)
      have PL := hid (HP.out.ext EL.out)
      have QL := hid (HQ.out.ext EL.out)
      have BL := hid bL
      clear hwL bL eL hgl c0 d0 B1 D1 EW
      refine (concatN_c [(pa, pc, rs), (qa, qc, qs)] gl 2 2 wL rfl (by omega) (by omega) ?hg ?hc ?hl).mono ?_
      case hg =>
        intro k it hk
        rcases (show k = 0 ∨ k = 1 ∨ 2 ≤ k by omega) with rfl | rfl | h
        · simp at hk; subst hk; unfold itemR; rw [PL.out.hl]; exact BL.out.cell' (i := 0) rfl
        · simp at hk; subst hk; unfold itemR; rw [QL.out.hl]; exact BL.out.cell' (i := 1) rfl
        · rw [List.getElem?_eq_none (by simpa using h)] at hk; cases hk
      case hc =>
        intro it hit
        simp only [List.mem_cons, List.not_mem_nil, or_false] at hit
        rcases hit with rfl | rfl
        · exact PL.out.cell
        · exact QL.out.cell
      case hl =>
        rw [cat_two, List.length_append, PL.out.hl, QL.out.hl]; omega
      rintro e w2 ⟨v, rfl, own, e2⟩
      rw [cat_two] at own
      have hll : (rs ++ qs).length = pn + qn := by rw [List.length_append, PL.out.hl, QL.out.hl]
      rw [hll] at own
      obtain ⟨a, c, rfl, hac, _, hcell⟩ := own_cellsA own
      have PO : Hid (PolOk w2 a (pn + qn) c (rs ++ qs)) := hid ⟨hll, hac, by omega, hcell, fun r hr => by
        rcases List.mem_append.1 hr with hr | hr
        · exact (PL.out.ok r hr).ext e2
        · exact (QL.out.ok r hr).ext e2⟩
      have E2 := hid (EL.out.ext e2)
      have HWO := hid (worldOf_c a (pn + qn) c (rs ++ qs) w2 PO.out)
      rw [HEE.out] at HWO
      clear own hcell e2 PL QL BL EL hll
      go_wp2_with fail
      refine HWO.out.mono ?_
      rintro e w3 ⟨v, xs, rfl, hnz, hz, e3⟩
      have E3 := hid (E2.out.ext e3)
      have HNZ := hid hnz
      have HZ : Hid (E = 0 → AsksI w3 w.heap.size v xs ∧ xs.map AskR.p = worldP (rs ++ qs)) := hid (fun h => by
        obtain ⟨h1, h2⟩ := hz h
        exact ⟨⟨own_monoW h1.row E2.out.size, h1.own⟩, h2⟩)
      clear hnz hz e3 HWO PO
      go_wp2
      go_ret2
      exact ⟨_, xs, rfl, HNZ.out, HZ.out, E3.out⟩
end

section
open Go Go.RowKit

set_option maxRecDepth 100000 in
set_option maxHeartbeats 1000000 in
theorem eqStrs_cW (ls : List ByteArray) (a b : Option Addr) (n c d : Nat) (w : World) (hl : ls.length = n) (hn : n ≤ 140737488355328) (ha : Cells w a (ls.map encStr)) (hb : Cells w b (ls.map encStr)) :
    Calls Tryz.prog 33 #[.slice a n c, .slice b n d] w fun e w' => e = .returned (.bool true) ∧ Ext w w' := by
  have HL := hid hl
  have HA := hid ha
  have HB := hid hb
  clear hl ha hb
  go_enter Tryz.func33, Tryz.ntmps33
  go_wp2_with fail
  go_loopw [13] (fun i wr => ∃ k : Nat, k ≤ n ∧ i = .int .i64 (k : Int) ∧ Ext w wr) (fun i _ => n - (intOf i).toNat)
  case atStart => exact ⟨0, by omega, rfl, Ext.refl _⟩
  case round =>
    obtain ⟨k, hk, rfl, e1⟩ := hrel
    have E1 := hid e1
    clear e1
    by_cases hlt : k < n
    · have d1 : decide ((k : Int) < (n : Int)) = true := decide_eq_true (by omega)
      have d2 : decide (k < n) = true := decide_eq_true hlt
      have HL2 := HL.out
      obtain ⟨x, hxk⟩ : ∃ x, ls[k]? = some x := ⟨ls[k]'(by omega), List.getElem?_eq_getElem _⟩
      obtain ⟨A, rfl, hca⟩ := strs_at HA.out hxk
      obtain ⟨A2, rfl, hcb⟩ := strs_at HB.out hxk
      have CA := hid (cell_extU hca E1.out)
      have CB := hid (cell_extU hcb E1.out)
      clear hca hcb hxk HL2
      go_upto_region 6 with (fail)
      obtain ⟨C, hC⟩ : ∃ C : World → Prop, C = fun w' => Ext wr w' := ⟨_, rfl⟩
      have hC0 : ∀ w', C w' ↔ Ext wr w' := fun w' => by rw [hC]
      clear hC
      have HCC := hid hC0
      clear hC0
      have hCx : ∀ w w', C w → Ext w w' → C w' := fun w w' h1 h2 => (HCC.out w').2 (((HCC.out w).1 h1).ext h2)
      refine wp_region_held_drew (S := C) (by kernel_rfl) ((HCC.out _).2 (Ext.refl wr).drew) (fun hS0 => ?_)
      refine held_take 0 (v := ?tv211) rfl (by kernel_rfl) (by kernel_rfl) (by kernel_rfl) (fun _ _ _ h => h) (.inl ⟨rfl, ?ty211⟩) hS0 ?tr211
      case ty211 => (intro _ _; go_simp; try with_reducible rfl)
      case tr211 =>
      simp only [Act.put, List.setIfInBounds_toArray, List.set_cons_succ, List.set_cons_zero]
      refine held_take 1 (v := ?tv212) rfl (by kernel_rfl) (by kernel_rfl) (by kernel_rfl) (fun _ _ _ h => h) (.inl ⟨rfl, ?ty212⟩) hS0 ?tr212
      case ty212 => (intro _ _; go_simp; try with_reducible rfl)
      case tr212 =>
      simp only [Act.put, List.setIfInBounds_toArray, List.set_cons_succ, List.set_cons_zero]
      refine held_take 2 (v := _) rfl (by kernel_rfl) (by kernel_rfl) (by kernel_rfl) (fun _ _ _ h => h) (yieldsI_run rfl (fun w1 _ => exec_index (i := k) rfl rfl rfl Tryz.underlying36 size_str hlt w1)) hS0 ?_
      simp only [Act.put, List.setIfInBounds_toArray, List.set_cons_succ, List.set_cons_zero]
      refine held_take 3 (v := _) rfl (by kernel_rfl) (by kernel_rfl) (by kernel_rfl) (fun _ _ _ h => h) (yieldsI_run rfl (fun w1 h => exec_load_oneU rfl rfl (cell_extU CA.out ((HCC.out w1).1 h)) one_str)) hS0 ?_
      simp only [Act.put, List.setIfInBounds_toArray, List.set_cons_succ, List.set_cons_zero]
      refine held_take 4 (v := ?tv213) rfl (by kernel_rfl) (by kernel_rfl) (by kernel_rfl) (fun _ _ _ h => h) (.inl ⟨rfl, ?ty213⟩) hS0 ?tr213
      case ty213 => (intro _ _; go_simp; try with_reducible rfl)
      case tr213 =>
      simp only [Act.put, List.setIfInBounds_toArray, List.set_cons_succ, List.set_cons_zero]
      refine held_take 5 (v := ?tv214) rfl (by kernel_rfl) (by kernel_rfl) (by kernel_rfl) (fun _ _ _ h => h) (.inl ⟨rfl, ?ty214⟩) hS0 ?tr214
      case ty214 => (intro _ _; go_simp; try with_reducible rfl)
      case tr214 =>
      simp only [Act.put, List.setIfInBounds_toArray, List.set_cons_succ, List.set_cons_zero]
      refine held_take 6 (v := _) rfl (by kernel_rfl) (by kernel_rfl) (by kernel_rfl) (fun _ _ _ h => h) (yieldsI_run rfl (fun w1 _ => exec_index (i := k) rfl rfl rfl Tryz.underlying36 size_str hlt w1)) hS0 ?_
      simp only [Act.put, List.setIfInBounds_toArray, List.set_cons_succ, List.set_cons_zero]
      refine held_take 7 (v := _) rfl (by kernel_rfl) (by kernel_rfl) (by kernel_rfl) (fun _ _ _ h => h) (yieldsI_run rfl (fun w1 h => exec_load_oneU rfl rfl (cell_extU CB.out ((HCC.out w1).1 h)) one_str)) hS0 ?_
      simp only [Act.put, List.setIfInBounds_toArray, List.set_cons_succ, List.set_cons_zero]
      refine held_take 8 (v := ?tv215) rfl (by kernel_rfl) (by kernel_rfl) (by kernel_rfl) (fun _ _ _ h => h) (.inl ⟨rfl, ?ty215⟩) hS0 ?tr215
      case ty215 => (intro _ _; go_simp; try with_reducible rfl)
      case tr215 =>
      simp only [Act.put, List.setIfInBounds_toArray, List.set_cons_succ, List.set_cons_zero]
      refine wpAnyH_done (by kernel_rfl) ?_ _
      have hqx := (HCC.out _).1 hS0
      go_wp2_with fail
      go_roundw
      case rel => exact ⟨k + 1, by omega, by go_num, E1.out.ext hqx⟩
      case measure => simp [intOf]; omega
    · have d1 : decide ((k : Int) < (n : Int)) = false := decide_eq_false (by omega)
      have d2 : decide (k < n) = false := decide_eq_false hlt
      go_wp2_with fail
      go_ret
      exact ⟨rfl, E1.out⟩

theorem exec_cmpW {P : Program} {o : Oper} {a : Act} {op : BinOp} {t u : TypeId} {x y : Operand} (ho : o.op = .binOp op t x y u) {xs ys : Array Value} {b : Value} (hx : a.eval x = .agg xs) (hy : a.eval y = .agg ys)
    (hg : P.eqGuardType P.depth t = false) (hr : ∀ w, (binOp op t (.agg xs) (.agg ys)).run P w = .ok b w) (w : World) : (execOp a.eval o).run P w = .ok (.value b) w := by
  unfold execOp
  simp only [ho, hx, hy, Sem.run_bind, run_eqGuard_agg w op t x y xs ys hg, Result.andThen_ok, hr, Sem.run_pure]
theorem guard_idW : Tryz.prog.eqGuardType Tryz.prog.depth 35 = false := by kernel_rfl
theorem guard_sumW : Tryz.prog.eqGuardType Tryz.prog.depth 38 = false := by kernel_rfl
theorem agg_idW : AggT Tryz.prog 35 16 := ⟨⟨_, Tryz.underlying35, rfl⟩, by kernel_rfl⟩
theorem agg_sumW : AggT Tryz.prog 38 32 := ⟨⟨_, Tryz.underlying38, rfl⟩, by kernel_rfl⟩
theorem eq_self_arrW {t : TypeId} {n : Nat} (ht : Tryz.prog.underlying t = some (.array n 5)) (x : List UInt8) (hx : x.length = n) (w : World) : (binOp .eql t (.agg (x.map u8v).toArray) (.agg (x.map u8v).toArray)).run Tryz.prog w = .ok (.bool true) w := by
  have h := eq_arr ht x x hx hx w
  rw [beq_self_eq_true] at h; exact h
theorem AskR.actor_at {w : World} {a : AskR} (h : a.Ok w) : (a.v.drop 0).take 16 = a.actor.map u8v := by
  unfold AskR.v
  rw [List.drop_zero, List.take_append_of_le_length (by simp [h.ha]), List.take_of_length_le (by simp [h.ha])]
theorem AskR.key_at {w : World} {a : AskR} (h : a.Ok w) : (a.v.drop 19).take 16 = a.key.map u8v := by
  have e : a.v = (a.actor.map u8v ++ [.slice a.sa a.sn a.sc, .int .i64 a.act, .string a.label]) ++ (a.key.map u8v ++ (.int .i64 a.time :: a.detail.map u8v)) := by unfold AskR.v; simp
  rw [e, List.drop_append_of_le_length (by simp [h.ha]), List.drop_of_length_le (by simp [h.ha]), List.nil_append, List.take_append_of_le_length (by simp [h.hk]), List.take_of_length_le (by simp [h.hk])]
theorem AskR.detail_at {w : World} {a : AskR} (h : a.Ok w) : (a.v.drop 36).take 32 = a.detail.map u8v := by
  have e : a.v = (a.actor.map u8v ++ [.slice a.sa a.sn a.sc, .int .i64 a.act, .string a.label] ++ a.key.map u8v ++ [.int .i64 a.time]) ++ a.detail.map u8v := by unfold AskR.v; simp
  rw [e, List.drop_append_of_le_length (by simp [h.ha, h.hk]), List.drop_of_length_le (by simp [h.ha, h.hk]), List.nil_append, List.take_of_length_le (by simp [h.hd])]

set_option maxRecDepth 100000 in
set_option maxHeartbeats 4000000 in
theorem sameAsk_c (x y : AskR) (w : World) (hx : x.Ok w) (hy : y.Ok w) (hp : x.p = y.p) :
    Calls Tryz.prog 11 #[.agg x.v.toArray, .agg y.v.toArray] w fun e w' => e = .returned (.bool true) ∧ Ext w w' := by
  have p0 : y.actor = x.actor := (congrArg AskP.actor hp).symm
  have p1 : y.roles = x.roles := (congrArg AskP.roles hp).symm
  have p2 : y.act = x.act := (congrArg AskP.act hp).symm
  have p3 : y.label = x.label := (congrArg AskP.label hp).symm
  have p4 : y.key = x.key := (congrArg AskP.key hp).symm
  have p5 : y.time = x.time := (congrArg AskP.time hp).symm
  have p6 : y.detail = x.detail := (congrArg AskP.detail hp).symm
  have HX := hid hx
  have HY := hid hy
  clear hx hy hp
  have s0 : (x.act == x.act) = true := beq_self_eq_true _
  have s1 : (x.time == x.time) = true := beq_self_eq_true _
  have s3 : (x.label.toList == x.label.toList) = true := beq_self_eq_true _
  go_enter Tryz.func11, Tryz.ntmps11
  go_upto_region 1 with (fail)
  generalize hwA : World.alloc (World.alloc w _) _ = wA
  have xA : Blk wA w.heap.size x.v 40 := by rw [← hwA]; exact (Blk.mk_alloc rfl rfl).alloc _
  have yA : Blk wA (w.heap.size + 1) y.v 40 := by rw [← hwA]; exact Blk.mk_alloc (size_allocW _ _).symm rfl
  have eA : Ext w wA := by rw [← hwA]; exact ((Ext.refl w).alloc _).alloc _
  have EA := hid eA
  have HXA := hid (HX.out.ext eA)
  have HYA := hid (HY.out.ext eA)
  have XA := hid xA
  have YA := hid yA
  clear hwA xA yA eA
  have x16 := XA.out.cell' (AskR.at16 HX.out)
  have x17 := XA.out.cell' (AskR.at17 HX.out)
  have x18 := XA.out.cell' (AskR.at18 HX.out)
  have x35 := XA.out.cell' (AskR.at35 HX.out)
  have y16 := YA.out.cell' (AskR.at16 HY.out)
  have y17 := YA.out.cell' (AskR.at17 HY.out)
  have y18 := YA.out.cell' (AskR.at18 HY.out)
  have y35 := YA.out.cell' (AskR.at35 HY.out)
  rw [p2] at y17
  rw [p3] at y18
  rw [p5] at y35
  have cat3 : ∀ (e : AskR) (g : Nat), e.Ok w → Blk wA g e.v 40 → CellsAt wA ⟨g, 0, none⟩ (e.actor.map u8v) ∧ CellsAt wA ⟨g, 19, none⟩ (e.key.map u8v) ∧ CellsAt wA ⟨g, 36, none⟩ (e.detail.map u8v) := by
    intro e g he hb
    have h1 := Cells.of_blk hb 0 16
    have h2 := Cells.of_blk hb 19 16
    have h3 := Cells.of_blk hb 36 32
    rw [AskR.actor_at he] at h1
    rw [AskR.key_at he] at h2
    rw [AskR.detail_at he] at h3
    exact ⟨CellsAt.of h1, CellsAt.of h2, CellsAt.of h3⟩
  have X3 := hid (cat3 x _ HX.out XA.out)
  have y3 := cat3 y _ HY.out YA.out
  rw [p0, p4, p6] at y3
  have Y3 := hid y3
  have L1 := hid (show (x.actor.map u8v).length = 16 by rw [List.length_map, HX.out.ha])
  have L2 := hid (show (x.key.map u8v).length = 16 by rw [List.length_map, HX.out.hk])
  have L3 := hid (show (x.detail.map u8v).length = 32 by rw [List.length_map, HX.out.hd])
  have Q1 := hid (eq_self_arrW Tryz.underlying35 x.actor HX.out.ha)
  have Q2 := hid (eq_self_arrW Tryz.underlying35 x.key HX.out.hk)
  have Q3 := hid (eq_self_arrW Tryz.underlying38 x.detail HX.out.hd)
  have CBX := hid HXA.out.scell
  have cby := HYA.out.scell
  have hyb := HYA.out.sl
  rw [p1] at cby hyb
  have CBY := hid cby
  have hsl := HX.out.sl
  have hsn : y.sn = x.sn := by rw [← hyb]; exact hsl
  rw [hsn] at y16
  have HSL := hid hsl
  have hsm := HX.out.sm
  clear y3 cat3 cby hyb p0 p1 p2 p3 p4 p5 p6 hsl
  go_wp2_with (first | (refine wpg_run rfl (exec_load_at rfl rfl X3.out.1 agg_idW L1.out) ?_) | (refine wpg_run rfl (exec_load_at rfl rfl Y3.out.1 agg_idW L1.out) ?_) | (refine wpg_run rfl (exec_load_at rfl rfl X3.out.2.1 agg_idW L2.out) ?_) | (refine wpg_run rfl (exec_load_at rfl rfl Y3.out.2.1 agg_idW L2.out) ?_) | (refine wpg_run rfl (exec_load_at rfl rfl X3.out.2.2 agg_sumW L3.out) ?_) | (refine wpg_run rfl (exec_load_at rfl rfl Y3.out.2.2 agg_sumW L3.out) ?_) | (refine wpg_run rfl (exec_cmpW rfl rfl rfl guard_idW Q1.out _) ?_) | (refine wpg_run rfl (exec_cmpW rfl rfl rfl guard_idW Q2.out _) ?_) | (refine wpg_run rfl (exec_cmpW rfl rfl rfl guard_sumW Q3.out _) ?_))
  refine (eqStrs_cW x.roles x.sa y.sa x.sn x.sc y.sc wA HSL.out hsm CBX.out CBY.out).mono ?_
  rintro e wB ⟨rfl, eB⟩
  have XB := hid (XA.out.ext eB)
  have YB := hid (YA.out.ext eB)
  have x17 := XB.out.cell' (AskR.at17 HX.out)
  have x18 := XB.out.cell' (AskR.at18 HX.out)
  have x35 := XB.out.cell' (AskR.at35 HX.out)
  have y17' : wB.cell? ⟨w.heap.size + 1, 17, none⟩ = some (.int .i64 x.act) := cell_extU y17 eB
  have y18' : wB.cell? ⟨w.heap.size + 1, 18, none⟩ = some (.string x.label) := cell_extU y18 eB
  have y35' : wB.cell? ⟨w.heap.size + 1, 35, none⟩ = some (.int .i64 x.time) := cell_extU y35 eB
  have X3' := hid (show CellsAt wB _ _ ∧ CellsAt wB _ _ from ⟨X3.out.2.1.ext eB, X3.out.2.2.ext eB⟩)
  have Y3' := hid (show CellsAt wB _ _ ∧ CellsAt wB _ _ from ⟨Y3.out.2.1.ext eB, Y3.out.2.2.ext eB⟩)
  have EB := hid (EA.out.ext eB)
  clear X3 Y3 XA YA EA eB CBX CBY
  go_wp2_with (first | (refine wpg_run rfl (exec_load_at rfl rfl X3'.out.1 agg_idW L2.out) ?_) | (refine wpg_run rfl (exec_load_at rfl rfl Y3'.out.1 agg_idW L2.out) ?_) | (refine wpg_run rfl (exec_load_at rfl rfl X3'.out.2 agg_sumW L3.out) ?_) | (refine wpg_run rfl (exec_load_at rfl rfl Y3'.out.2 agg_sumW L3.out) ?_) | (refine wpg_run rfl (exec_cmpW rfl rfl rfl guard_idW Q2.out _) ?_) | (refine wpg_run rfl (exec_cmpW rfl rfl rfl guard_sumW Q3.out _) ?_))
  go_ret
  exact ⟨rfl, EB.out⟩

/-- a row of asks, as a slice -/
structure AsksOk (w : World) (a : Option Addr) (n c : Nat) (xs : List AskR) : Prop where
  hl : xs.length = n
  hnc : n ≤ c
  cell : Cells w a (asksV xs)
  ok : ∀ x ∈ xs, x.Ok w
theorem AsksOk.ext {w w' : World} {a : Option Addr} {n c : Nat} {xs : List AskR} (h : AsksOk w a n c xs) (e : Ext w w') : AsksOk w' a n c xs := ⟨h.hl, h.hnc, h.cell.ext e, fun x hx => (h.ok x hx).ext e⟩
theorem AsksI.slice {w : World} {B : Nat} {v : Value} {xs : List AskR} (h : AsksI w B v xs) : ∃ a c, v = .slice a xs.length c ∧ AsksOk w a xs.length c xs := by
  obtain ⟨a, c, rfl, hnc, _, hc⟩ := own_cellsA h.row
  exact ⟨a, c, rfl, rfl, hnc, hc, fun x hx => (h.own x hx).ok⟩
theorem asksV_len2 {w : World} : ∀ {xs : List AskR}, (∀ x ∈ xs, x.Ok w) → (asksV xs).length = 68 * xs.length
  | [], _ => rfl
  | x :: xs, h => by
    have h1 := asksV_len2 (xs := xs) (fun y hy => h y (by simp [hy]))
    have h2 := AskR.len (h x (by simp))
    unfold asksV at h1 ⊢
    rw [List.flatMap_cons, List.length_append, h1, h2, List.length_cons]
    omega
theorem AsksOk.at {w : World} {a : Option Addr} {n c : Nat} {xs : List AskR} (h : AsksOk w a n c xs) {k : Nat} {x : AskR} (hk : xs[k]? = some x) : ∃ A, a = some A ∧ CellsAt w (A.add (k * 68)) x.v := by
  obtain ⟨hkl, hx⟩ := List.getElem?_eq_some_iff.1 hk
  have hl := asksV_len2 h.ok
  obtain ⟨b, o, rfl, hc⟩ := h.cell.some_of (by omega)
  have hsplit : asksV xs = asksV (xs.take k) ++ (x.v ++ asksV (xs.drop (k + 1))) := by
    have e : xs = xs.take k ++ (x :: xs.drop (k + 1)) := by rw [← hx, ← List.drop_eq_getElem_cons hkl, List.take_append_drop]
    conv => lhs; rw [e]
    unfold asksV
    rw [List.flatMap_append, List.flatMap_cons]
  have hlt : (asksV (xs.take k)).length = k * 68 := by
    rw [asksV_len2 (fun y hy => h.ok y (List.mem_of_mem_take hy)), List.length_take, Nat.min_eq_left (by omega)]; omega
  have hxl := AskR.len (h.ok x (List.mem_of_getElem? hk))
  refine ⟨_, rfl, fun j u hu => ?_⟩
  rw [addr_add, addr_add, Nat.add_assoc]
  refine hc _ _ ?_
  have hj := (List.getElem?_eq_some_iff.1 hu).1
  rw [hsplit, List.getElem?_append_right (by omega), hlt, show k * 68 + j - k * 68 = j by omega, List.getElem?_append_left (by omega)]
  exact hu

set_option maxRecDepth 100000 in
set_option maxHeartbeats 2000000 in
theorem eqAsks_c (xs ys : List AskR) (a b : Option Addr) (n c d : Nat) (w : World) (hx : AsksOk w a n c xs) (hy : AsksOk w b n d ys) (hn : n ≤ 140737488355328) (hp : xs.map AskR.p = ys.map AskR.p) :
    Calls Tryz.prog 10 #[.slice a n c, .slice b n d, .func (.func 11) #[] #[]] w fun e w' => e = .returned (.bool true) ∧ Ext w w' := by
  have HX := hid hx
  have HY := hid hy
  have HP := hid hp
  have HAG := hid agg_ask
  clear hx hy hp
  go_enter Tryz.func10, Tryz.ntmps10
  go_wp2
  go_loopw [17] (fun i wr => ∃ k : Nat, k ≤ n ∧ i = .int .i64 (k : Int) ∧ Ext w wr) (fun i _ => n - (intOf i).toNat)
  case atStart => exact ⟨0, by omega, rfl, Ext.refl _⟩
  case round =>
    obtain ⟨k, hk, rfl, e1⟩ := hrel
    have E1 := hid e1
    clear e1
    by_cases hlt : k < n
    · obtain ⟨x, hxk⟩ : ∃ x, xs[k]? = some x := ⟨xs[k]'(by rw [HX.out.hl]; exact hlt), by simp⟩
      obtain ⟨y, hyk⟩ : ∃ y, ys[k]? = some y := ⟨ys[k]'(by rw [HY.out.hl]; exact hlt), by simp⟩
      have hxy : x.p = y.p := by
        have := congrArg (fun l => l[k]?) HP.out
        simp only [List.getElem?_map, hxk, hyk, Option.map_some] at this
        injection this
      obtain ⟨A, rfl, hca⟩ := (HX.out.ext E1.out).at hxk
      obtain ⟨A2, rfl, hcb⟩ := (HY.out.ext E1.out).at hyk
      have HCA := hid hca
      have HCB := hid hcb
      have HXO := hid ((HX.out.ext E1.out).ok x (List.mem_of_getElem? hxk))
      have HYO := hid ((HY.out.ext E1.out).ok y (List.mem_of_getElem? hyk))
      have HXL := hid (AskR.len HXO.out)
      have HYL := hid (AskR.len HYO.out)
      have HXY := hid hxy
      have o1 := askW_one x
      have o2 := askW_one y
      clear hca hcb hxk hyk hxy
      go_wp2_with (first | (refine wpl_run rfl (exec_index (i := k) rfl rfl rfl Tryz.underlying26 size_ask hlt _) ?_) | (refine wpl_run rfl (exec_load_at rfl rfl HCA.out HAG.out HXL.out) ?_) | (refine wpl_storew rfl _ (.tmp 8) _ rfl rfl rfl (Blk.mk_alloc (vs := zeroAskV) rfl rfl) HAG.out rfl HXL.out o1 ?_))
      intro wB bB uB
      have eB : Ext wr wB := uB.ext ((Ext.refl wr).alloc _) (Nat.le_refl _)
      have BB := hid bB
      have EB := hid (E1.out.ext eB)
      have HCB2 := hid (HCB.out.ext eB)
      have E12 := hid eB
      have hgl := bB.lt
      clear bB uB eB HCA HCB E1
      generalize wr.heap.size = gr at *
      go_wp2_with (first | (refine wpl_run rfl (exec_index (i := k) rfl rfl rfl Tryz.underlying26 size_ask hlt _) ?_) | (refine wpl_run rfl (exec_load_at rfl rfl HCB2.out HAG.out HYL.out) ?_) | (refine wpl_storew rfl _ (.tmp 9) _ rfl rfl rfl (Blk.mk_alloc (vs := zeroAskV) rfl rfl) HAG.out rfl HYL.out o2 ?_))
      intro wC bC uC
      have eC : Ext wB wC := uC.ext ((Ext.refl wB).alloc _) (Nat.le_refl _)
      have CC := hid bC
      have BC := hid (BB.out.ext eC)
      have EC := hid (EB.out.ext eC)
      have HXC := hid ((HXO.out.ext E12.out).ext eC)
      have HYC := hid ((HYO.out.ext E12.out).ext eC)
      clear bC uC eC HCB2 EB BB E12 HXO HYO
      generalize wB.heap.size = gc at *
      go_wp2_with (first | (refine wpl_loadw rfl 40 (.tmp 8) rfl rfl BC.out HAG.out HXL.out ?_) | (refine wpl_loadw rfl 40 (.tmp 9) rfl rfl CC.out HAG.out HYL.out ?_))
      refine (sameAsk_c x y wC HXC.out HYC.out HXY.out).mono ?_
      rintro e wD ⟨rfl, eD⟩
      have ED := hid (EC.out.ext eD)
      clear eD EC BC CC HXC HYC
      go_wp2
      go_roundw
      case rel => exact ⟨k + 1, by omega, by go_num, ED.out⟩
      case measure => simp [intOf]; omega
    · obtain rfl : k = n := by omega
      go_wp2
      go_ret
      exact ⟨rfl, E1.out⟩
end

section
open Go Go.RowKit

def warnL (i k : Int) : List Value := [.int .i64 i, .int .i64 k, .int .i64 (-1)]
def warnZ : List Value := [.int .i64 0, .int .i64 0, .int .i64 0]
def warnV (k R : Nat) : List Value := if k = 0 then warnZ else warnL (R : Int) (k : Int)
theorem warnV_len (k R : Nat) : (warnV k R).length = 3 := by unfold warnV; split <;> rfl
theorem warnV_one (k R : Nat) : ∀ v ∈ warnV k R, v.oneCell' = true := by
  intro v hv
  unfold warnV at hv
  split at hv
  · unfold warnZ at hv; simp at hv; subst hv; rfl
  · unfold warnL at hv; simp at hv; rcases hv with rfl | rfl | rfl <;> rfl
theorem agg_warn : AggT Tryz.prog 62 3 := ⟨⟨_, Tryz.underlying62, rfl⟩, by kernel_rfl⟩
theorem built_warn (i : Int) : Tryz.prog.built 62 [(0, .int .i64 i), (2, .int .i64 (-1))] = some (warnL i 0).toArray := by kernel_rfl
theorem built_warn0 : Tryz.prog.built 62 [] = some warnZ.toArray := by kernel_rfl
theorem kind_never {rs : List RuleR} {W : List AskP} {i : Nat} {r : RuleR} (hr : rs[i]? = some r) (h : W.any (meetP r) = false) : kindW rs W i = 1 := by
  unfold kindW; rw [hr]; simp only [h, if_true]
theorem any_dif {rs : List RuleR} {W : List AskP} {i : Nat} {r : RuleR} (hr : rs[i]? = some r) : W.any (difP rs (rs.eraseIdx i)) = W.any (fun p => meetP r p && deadP rs i p) := by
  induction W with
  | nil => rfl
  | cons p W ih =>
    rw [List.any_cons, List.any_cons, ih, deadP_of hr]
    cases hm : meetP r p with
    | true => rw [Bool.true_and]
    | false => rw [dif_unmet hr hm]; rfl
theorem kind_dead {rs : List RuleR} {W : List AskP} {i : Nat} {r : RuleR} (hr : rs[i]? = some r) (h : W.any (meetP r) = true) (h2 : W.any (fun p => meetP r p && deadP rs i p) = false) : kindW rs W i = 2 := by
  unfold kindW; rw [hr]; simp only [h, any_dif hr, h2, Bool.true_eq_false, if_false, if_true]
theorem kind_live {rs : List RuleR} {W : List AskP} {i : Nat} {r : RuleR} (hr : rs[i]? = some r) (h2 : W.any (fun p => meetP r p && deadP rs i p) = true) : kindW rs W i = if allR r = true then 3 else 0 := by
  have h : W.any (meetP r) = true := by
    rw [List.any_eq_true] at h2 ⊢
    obtain ⟨p, hp, h3⟩ := h2
    exact ⟨p, hp, (Bool.and_eq_true _ _ ▸ h3).1⟩
  unfold kindW; rw [hr]; simp only [h, any_dif hr, h2, Bool.true_eq_false, if_false]
theorem any_take {α : Type} {l : List α} {k : Nat} {x : α} (p : α → Bool) (h : l[k]? = some x) : (l.take (k + 1)).any p = ((l.take k).any p || p x) := by
  rw [List.take_add_one, h, List.any_append]; simp
theorem any_hit {α : Type} {l : List α} {k : Nat} {x : α} (p : α → Bool) (h : l[k]? = some x) (hp : p x = true) : l.any p = true := List.any_eq_true.2 ⟨x, List.mem_of_getElem? h, hp⟩

set_option maxRecDepth 100000 in
set_option maxHeartbeats 4000000 in
theorem warning_c (pa : Option Addr) (pn pc : Nat) (rs : List RuleR) (wa : Option Addr) (n wc : Nat) (xs : List AskR) (R : Nat) (w : World) (hp : PolOk w pa pn pc rs) (hx : AsksOk w wa n wc xs) (hn : n ≤ 100000) (ht : ∀ p ∈ xs.map AskR.p, ∃ T : Nat, p.time = (T : Int) ∧ T ≤ 1099511627776) (hR : R < pn) :
    Calls Tryz.prog 40 #[.agg #[.slice pa pn pc], .slice wa n wc, .int .i64 (R : Int)] w fun e w' => e = .returned (.tuple #[.agg (warnV (kindW rs (xs.map AskR.p) R) R).toArray, .bool (decide (kindW rs (xs.map AskR.p) R ≠ 0))]) ∧ Ext w w' := by
  have HP := hid hp
  have HX := hid hx
  have HT := hid ht
  obtain ⟨W, hW⟩ : ∃ W, xs.map AskR.p = W := ⟨_, rfl⟩
  have HW := hid hW
  rw [hW] at HT
  rw [hW]
  obtain ⟨r, hrk⟩ : ∃ r, rs[R]? = some r := ⟨rs[R]'(by rw [hp.hl]; exact hR), by simp⟩
  obtain ⟨A, rfl, hca⟩ := hp.at hrk
  have hwl : W.length = n := by rw [← hW, List.length_map]; exact hx.hl
  have HR := hid hrk
  obtain ⟨K, hK⟩ : ∃ K, kindW rs W R = K := ⟨_, rfl⟩
  have HK := hid hK
  rw [hK]
  have HAG := hid agg_ask
  have HRG := hid agg_rule
  have HRL := hid (RuleR.len r)
  have hro := ruleV_one r
  clear hp hx ht hW hrk hK hca
  go_enter Tryz.func40, Tryz.ntmps40
  go_upto_region 2 with (fail)
  generalize hwA : World.alloc (World.alloc (World.alloc w _) _) _ = wA
  have bA : Blk wA w.heap.size [.slice (some A) pn pc] 24 := by rw [← hwA]; exact ((Blk.mk_alloc rfl rfl).alloc _).alloc _
  have iA : Blk wA (w.heap.size + 1) [.int .i64 (R : Int)] 3 := by rw [← hwA]; exact (Blk.mk_alloc (size_allocW _ _).symm rfl).alloc _
  have zA : Blk wA (w.heap.size + 1 + 1) warnZ 62 := by rw [← hwA]; exact Blk.mk_alloc (by rw [size_allocW, size_allocW]) rfl
  have eA : Ext w wA := by rw [← hwA]; exact (((Ext.refl w).alloc _).alloc _).alloc _
  have BA := hid bA
  have IA := hid iA
  have ZA := hid zA
  have EA := hid eA
  have c0 := bA.cell' (i := 0) rfl
  have i0 := iA.cell' (i := 0) rfl
  obtain ⟨A2, hA2, hca⟩ := (HP.out.ext eA).at HR.out
  injection hA2 with hA2
  subst hA2
  have HCA := hid hca
  clear hwA bA iA zA eA hca
  go_wp2_with (first | (refine wpl_run rfl (exec_index (i := R) rfl rfl rfl Tryz.underlying22 size_rule hR _) ?_) | (refine wpl_run rfl (exec_load_at rfl rfl HCA.out HRG.out HRL.out) ?_) | (refine wpl_storew rfl _ (.tmp 10) _ rfl rfl rfl (Blk.mk_alloc (vs := zeroRule) rfl rfl) HRG.out rfl HRL.out hro ?_))
  intro w1 b1 u1
  have e1 : Ext wA w1 := u1.ext ((Ext.refl wA).alloc _) (Nat.le_refl _)
  obtain ⟨g10, hg10⟩ : ∃ g, wA.heap.size = g := ⟨_, rfl⟩
  rw [hg10] at b1 ⊢
  have RB := hid b1
  have E1 := hid (EA.out.ext e1)
  have B1 := hid (BA.out.ext e1)
  have I1 := hid (IA.out.ext e1)
  have Z1 := hid (ZA.out.ext e1)
  have P1 := hid (HP.out.ext E1.out)
  have X1 := hid (HX.out.ext E1.out)
  have RO1 := hid (P1.out.ok r (List.mem_of_getElem? HR.out))
  clear b1 u1 e1 HCA c0 i0 BA IA ZA EA HP HX hg10
  go_wp2
  go_loopw [8, 9, 22] (fun nv dd i wr => ∃ k : Nat, k ≤ n ∧ i = .int .i64 (k : Int) ∧ nv = .bool (!(W.take k).any (meetP r)) ∧ dd = .bool true ∧ (W.take k).any (fun p => meetP r p && deadP rs R p) = false ∧ Ext w1 wr) (fun _ _ i _ => n - (intOf i).toNat)
  case atStart => exact ⟨0, by omega, rfl, rfl, rfl, rfl, Ext.refl _⟩
  case round =>
    obtain ⟨k, hk, rfl, rfl, rfl, hdd, e2⟩ := hrel
    have E2 := hid e2
    have HDD := hid hdd
    clear e2 hdd
    by_cases hlt : k < n
    · obtain ⟨x, hxk⟩ : ∃ x, xs[k]? = some x := ⟨xs[k]'(by rw [X1.out.hl]; exact hlt), by simp⟩
      have hpk : W[k]? = some x.p := by rw [← HW.out, List.getElem?_map, hxk]; rfl
      obtain ⟨T, hT, hTb⟩ := HT.out _ (List.mem_of_getElem? hpk)
      obtain ⟨A3, rfl, hca⟩ := (X1.out.ext E2.out).at hxk
      have HCA := hid hca
      have HXO := hid ((X1.out.ext E2.out).ok x (List.mem_of_getElem? hxk))
      have HXL := hid (AskR.len HXO.out)
      have HPK := hid hpk
      have HTT := hid (show x.time = (T : Int) from hT)
      have o1 := askW_one x
      clear hca hxk hpk hT
      go_wp2_with (first | (refine wpl_run rfl (exec_index (i := k) rfl rfl rfl Tryz.underlying26 size_ask hlt _) ?_) | (refine wpl_run rfl (exec_load_at rfl rfl HCA.out HAG.out HXL.out) ?_) | (refine wpl_storew rfl _ (.tmp 12) _ rfl rfl rfl (Blk.mk_alloc (vs := zeroAskV) rfl rfl) HAG.out rfl HXL.out o1 ?_))
      intro wB bB uB
      have eB : Ext wr wB := uB.ext ((Ext.refl wr).alloc _) (Nat.le_refl _)
      have BX := hid bB
      have EB := hid (E2.out.ext eB)
      have HXB := hid (HXO.out.ext eB)
      have RBB := hid (RB.out.ext EB.out)
      have ROB := hid (RO1.out.ext EB.out)
      clear bB uB eB HCA E2 HXO
      generalize wr.heap.size = gr at *
      go_wp2_with (first | (refine wpl_loadw rfl 50 (.tmp 10) rfl rfl RBB.out HRG.out HRL.out ?_) | (refine wpl_loadw rfl 40 (.tmp 12) rfl rfl BX.out HAG.out HXL.out ?_))
      refine (meets_c r x T wB ROB.out HXB.out HTT.out hTb).mono ?_
      rintro e wC ⟨rfl, eC⟩
      have BXC := hid (BX.out.ext eC)
      have EC := hid (EB.out.ext eC)
      have HXC := hid (HXB.out.ext eC)
      have hmp := meetP_of r x
      have HN1 := hid (any_take (meetP r) HPK.out)
      have HN2 := hid (any_take (fun p => meetP r p && deadP rs R p) HPK.out)
      clear eC BX EB HXB RBB ROB
      rw [hmp]
      clear hmp
      cases hm : meetP r x.p with
      | false =>
        have hn1 : (W.take (k + 1)).any (meetP r) = (W.take k).any (meetP r) := by rw [HN1.out, hm]; simp
        have hn2 : (W.take (k + 1)).any (fun p => meetP r p && deadP rs R p) = false := by rw [HN2.out, HDD.out, hm]; rfl
        have HA1 := hid hn1
        have HA2 := hid hn2
        clear hn1 hn2 HN1 HN2 HDD hm
        go_wp2
        go_roundw
        case rel => exact ⟨k + 1, by omega, by go_num, by rw [HA1.out], rfl, HA2.out, EC.out⟩
        case measure => simp [intOf]; omega
      | true =>
        have PC := hid (P1.out.ext EC.out)
        have BC := hid (B1.out.ext EC.out)
        have IC := hid (I1.out.ext EC.out)
        have hD1 := hid (fun W' (h : Ext wC W') => decideW_c (some A) pn pc rs x T W' (PC.out.ext h) (HXC.out.ext h) HTT.out hTb R (w.heap.size + 1) ((IC.out.ext h).cell' (i := 0) rfl))
        have hD2 := hid (fun W' (h : Ext wC W') => decide_c (some A) pn pc rs x T W' (PC.out.ext h) (HXC.out.ext h) HTT.out hTb)
        obtain ⟨d1, hd1⟩ : ∃ d, decideDW x R rs = d := ⟨_, rfl⟩
        obtain ⟨d2, hd2⟩ : ∃ d, decideD x rs = d := ⟨_, rfl⟩
        have hdp : deadP rs R x.p = !sameD d2 d1 := by
          unfold deadP
          rw [← decP_of, hd2, ← decDW_of, hd1]
        have HDP := hid hdp
        rw [hd1] at hD1
        rw [hd2] at hD2
        have hn1 : (W.take (k + 1)).any (meetP r) = true := by rw [HN1.out, hm]; simp
        have HA1 := hid hn1
        have HM := hid hm
        clear hd1 hd2 hdp hn1 HN1 hm
        go_wp2_with (first | (refine wpl_loadw rfl 24 (.tmp 3) rfl rfl BC.out agg_polW rfl ?_) | (refine wpl_loadw rfl 40 (.tmp 12) rfl rfl BXC.out HAG.out HXL.out ?_))
        refine (hD1.out wC (Ext.refl _)).mono ?_
        rintro e wD ⟨rfl, eD⟩
        have ED := hid eD
        clear eD hD1
        go_wp2_with (refine wpl_storew rfl _ (.tmp 13) _ rfl rfl rfl (Blk.mk_alloc (vs := zeroDec.v) rfl rfl) agg_dec rfl (DecR.len d1) (decV_one d1) ?_)
        intro wE bE uE
        have eE : Ext wD wE := uE.ext ((Ext.refl wD).alloc _) (Nat.le_refl _)
        obtain ⟨g13, hg13⟩ : ∃ g, wD.heap.size = g := ⟨_, rfl⟩
        rw [hg13] at bE ⊢
        have B13 := hid bE
        have EE := hid (ED.out.ext eE)
        clear bE uE eE ED hg13
        go_upto_region 9 with (fail)
        have BCE := hid (BC.out.ext EE.out)
        have BXE := hid (BXC.out.ext EE.out)
        have hxl := HXL.out
        obtain ⟨C, hC⟩ : ∃ C : World → Prop, C = fun w' => Ext wE w' := ⟨_, rfl⟩
        have hC0 : ∀ w', C w' ↔ Ext wE w' := fun w' => by rw [hC]
        clear hC
        have HCC := hid hC0
        clear hC0
        have hCx : ∀ w w', C w → Ext w w' → C w' := fun w w' h1 h2 => (HCC.out w').2 (((HCC.out w).1 h1).ext h2)
        have hCA : C wE := (HCC.out _).2 (Ext.refl wE)
        refine wp_region_held_drew (S := C) (by kernel_rfl) (hCx _ _ hCA (Ext.refl _).drew) (fun hS0 => ?_)
        refine held_take 0 (v := _) rfl (by kernel_rfl) (by kernel_rfl) (by kernel_rfl) (fun _ _ _ h => h) (yieldsI_loadw rfl 24 _ rfl rfl (fun w1 h => BCE.out.ext ((HCC.out w1).1 h)) agg_polW rfl) hS0 ?_
        simp only [Act.put, List.setIfInBounds_toArray, List.set_cons_succ, List.set_cons_zero]
        refine held_take 1 (v := _) rfl (by kernel_rfl) (by kernel_rfl) (by kernel_rfl) (fun _ _ _ h => h) (yieldsI_loadw rfl 40 _ rfl rfl (fun w1 h => BXE.out.ext ((HCC.out w1).1 h)) HAG.out hxl) hS0 ?_
        simp only [Act.put, List.setIfInBounds_toArray, List.set_cons_succ, List.set_cons_zero]
        refine held_take 3 (v := _) rfl (by kernel_rfl) (by kernel_rfl) (by kernel_rfl) (fun _ _ _ h => h) (yieldsI_loadw rfl 52 _ rfl rfl (fun w1 h => B13.out.ext ((HCC.out w1).1 h)) agg_dec (DecR.len d1)) hS0 ?_
        simp only [Act.put, List.setIfInBounds_toArray, List.set_cons_succ, List.set_cons_zero]
        have hx0 := EE.out.ext ((HCC.out _).1 hS0)
        refine held_one (i := 2) (by kernel_rfl) rfl ?_
        intro Q' hQ
        go_wp2_with fail
        refine ((hD2.out _ hx0)).mono ?_
        rintro e wF ⟨rfl, eq9⟩
        have hS9 := hCx _ _ hS0 eq9
        go_wp2_with fail
        refine hQ _ _ hS9 ?_
        clear hQ Q' hS0 eq9
        have hS0 := hS9
        clear hS9
        try dsimp only
        try simp only [Act.put, List.setIfInBounds_toArray, List.set_cons_succ, List.set_cons_zero]
        refine held_one (i := 4) (by kernel_rfl) rfl ?_
        intro Q' hQ
        go_wp2_with fail
        refine ((sameDec_c d2 d1 _)).mono ?_
        rintro e wG ⟨rfl, eq9⟩
        have hS9 := hCx _ _ hS0 eq9
        go_wp2_with fail
        refine hQ _ _ hS9 ?_
        clear hQ Q' hS0 eq9
        have hS0 := hS9
        clear hS9
        try dsimp only
        try simp only [Act.put, List.setIfInBounds_toArray, List.set_cons_succ, List.set_cons_zero]
        refine held_take 5 (v := ?tv59) rfl (by kernel_rfl) (by kernel_rfl) (by kernel_rfl) (fun _ _ _ h => h) (.inl ⟨rfl, ?ty59⟩) hS0 ?tr59
        case ty59 => (intro _ _; go_simp; try with_reducible rfl)
        case tr59 =>
        simp only [Act.put, List.setIfInBounds_toArray, List.set_cons_succ, List.set_cons_zero]
        refine wpAnyH_done (by kernel_rfl) ?_ _
        have EG := hid (EC.out.ext (EE.out.ext ((HCC.out _).1 hS0)))
        clear hS0 hCA hCx HCC hx0 hxl hD2
        cases hsd : sameD d2 d1 with
        | true =>
          have hn2 : (W.take (k + 1)).any (fun p => meetP r p && deadP rs R p) = false := by rw [HN2.out, HDD.out, HM.out, HDP.out, hsd]; rfl
          have HA2 := hid hn2
          clear hn2 HN2 HDD hsd HDP
          go_wp2
          go_roundw
          case rel => exact ⟨k + 1, by omega, by go_num, by rw [HA1.out]; rfl, rfl, HA2.out, EG.out⟩
          case measure => simp [intOf]; omega
        | false =>
          have hlive : K = if allR r = true then 3 else 0 := by
            rw [← HK.out]
            exact kind_live HR.out (any_hit _ HPK.out (by rw [HM.out, HDP.out, hsd]; rfl))
          have HL := hid hlive
          clear hlive HN2 HDD hsd HDP HA1
          have IG := hid (I1.out.ext EG.out)
          have RG := hid (RB.out.ext EG.out)
          have ZG := hid (Z1.out.ext EG.out)
          have EZ := hid (E1.out.ext EG.out)
          have i0 := IG.out.cell' (i := 0) rfl
          have hbw := fun W' => run_build (P := Tryz.prog) W' 62 #[(0, .int .i64 (R : Int)), (2, .int .i64 (-1))] _ (built_warn (R : Int))
          go_wp2_with (refine wpl_storew rfl _ (.tmp 14) _ rfl rfl rfl (Blk.mk_alloc (vs := warnZ) rfl rfl) agg_warn rfl (xs := warnL (R : Int) 0) rfl (by intro v hv; unfold warnL at hv; simp at hv; rcases hv with rfl | rfl | rfl <;> rfl) ?_)
          intro wH bH uH
          obtain ⟨g14, hg14⟩ : ∃ g, wG.heap.size = g := ⟨_, rfl⟩
          have eH : Ext wG wH := uH.ext ((Ext.refl wG).alloc _) (Nat.le_refl _)
          rw [hg14] at bH ⊢
          have hz14 : w.heap.size + 1 + 1 ≠ g14 := by have := ZG.out.lt; omega
          have BH := hid bH
          have RH := hid (RG.out.ext eH)
          have ZH := hid (ZG.out.ext eH)
          have EH := hid (EZ.out.ext eH)
          have hg14w : w.heap.size ≤ g14 := by have := EZ.out.size; omega
          clear bH uH eH i0 IG RG ZG EZ hbw hg14

          have r0 := RH.out.cell' (i := 0) rfl
          have r1 := RH.out.cell' (i := 1) rfl
          have r2 := RH.out.cell' (i := 2) rfl
          have r3 := RH.out.cell' (i := 3) rfl
          have r6 := RH.out.cell' (i := 6) rfl
          go_upto_region 18 with (fail)
          go_cut [50] (fun v wx => v = .bool (allR r) ∧ wx = wH)
          case first =>
            cases h1 : r.deny with
            | true =>
              rw [h1] at r0
              have hv : allR r = false := by unfold allR; rw [h1]; rfl
              have HV := hid hv
              clear hv
              go_wp2
              go_meet
              exact ⟨by rw [HV.out], rfl⟩

            | false =>
              rw [h1] at r0
              by_cases h2 : r.rn = 0
              · have qh2 : ((r.rn : Int) == 0) = true := by rw [h2]; rfl
                have ph2 : decide (r.rn = 0) = true := decide_eq_true h2
                by_cases h3 : r.an = 0
                · have qh3 : ((r.an : Int) == 0) = true := by rw [h3]; rfl
                  have ph3 : decide (r.an = 0) = true := decide_eq_true h3
                  by_cases h4 : r.ln = 0
                  · have qh4 : ((r.ln : Int) == 0) = true := by rw [h4]; rfl
                    have ph4 : decide (r.ln = 0) = true := decide_eq_true h4
                    by_cases h5 : r.nd = 0
                    · have q5 : (r.nd == 0) = true := by rw [h5]; rfl
                      have p5 : decide (r.nd = 0) = true := decide_eq_true h5
                      have hv : allR r = true := by unfold allR; rw [h1, ph2, ph3, ph4, p5]; rfl
                      have HV := hid hv
                      clear hv
                      go_wp2
                      go_meet
                      exact ⟨by rw [HV.out], rfl⟩
                    · have q5 : (r.nd == 0) = false := by rw [beq_eq_false_iff_ne]; exact h5
                      have p5 : decide (r.nd = 0) = false := decide_eq_false h5
                      have hv : allR r = false := by unfold allR; rw [h1, ph2, ph3, ph4, p5]; rfl
                      have HV := hid hv
                      clear hv
                      go_wp2
                      go_meet
                      exact ⟨by rw [HV.out], rfl⟩
                  · have qh4 : ((r.ln : Int) == 0) = false := by rw [beq_eq_false_iff_ne]; omega
                    have ph4 : decide (r.ln = 0) = false := decide_eq_false h4
                    have hv : allR r = false := by unfold allR; rw [h1, ph2, ph3, ph4]; rfl
                    have HV := hid hv
                    clear hv
                    go_wp2
                    go_meet
                    exact ⟨by rw [HV.out], rfl⟩
                · have qh3 : ((r.an : Int) == 0) = false := by rw [beq_eq_false_iff_ne]; omega
                  have ph3 : decide (r.an = 0) = false := decide_eq_false h3
                  have hv : allR r = false := by unfold allR; rw [h1, ph2, ph3]; rfl
                  have HV := hid hv
                  clear hv
                  go_wp2
                  go_meet
                  exact ⟨by rw [HV.out], rfl⟩
              · have qh2 : ((r.rn : Int) == 0) = false := by rw [beq_eq_false_iff_ne]; omega
                have ph2 : decide (r.rn = 0) = false := decide_eq_false h2
                have hv : allR r = false := by unfold allR; rw [h1, ph2]; rfl
                have HV := hid hv
                clear hv
                go_wp2
                go_meet
                exact ⟨by rw [HV.out], rfl⟩

          case rest =>
          obtain ⟨hv50, hww⟩ := hcut
          subst hv50
          subst hww
          clear r0 r1 r2 r3 r6
          cases hall : allR r with
          | true =>
            have hk3 : K = 3 := by rw [HL.out, hall]; rfl
            subst hk3
            clear hall HL HK
            have k1 := BH.out.cell' (i := 1) rfl
            have f1 := BH.out.frozen 1
            go_upto_region 20 with (fail)
            generalize hwX : World.setCell wc _ _ = wX
            have bX : Blk wX g14 (warnL (R : Int) 3) 62 := by rw [← hwX]; exact BH.out.set 1 (.int .i64 3)
            have uX : Upd wc g14 wX := by rw [← hwX]; exact Upd.setCell _
            have ZX := hid (ZH.out.upd uX hz14)
            have EX := hid (uX.ext EH.out hg14w)
            have BX9 := hid bX
            clear hwX bX uX k1 f1 BH ZH EH
            go_wp2_with (first | (refine wpl_loadw rfl 62 (.tmp 14) rfl rfl BX9.out agg_warn rfl ?_) | (refine wpl_storew rfl _ (.tmp 6) _ rfl rfl rfl ZX.out agg_warn rfl (xs := warnL (R : Int) 3) rfl (by intro v hv; unfold warnL at hv; simp at hv; rcases hv with rfl | rfl | rfl <;> rfl) ?_))
            intro wY bY uY
            have EY := hid (uY.ext EX.out (by omega))
            have BY := hid bY
            clear bY uY
            go_wp2_with fail
            exact ret_row2 rfl rfl BY.out agg_warn rfl rfl ⟨by rfl, EY.out⟩

          | false =>
            have hk0 : K = 0 := by rw [HL.out, hall]; rfl
            subst hk0
            clear hall HL HK
            have hb0 := fun W' => run_build (P := Tryz.prog) W' 62 #[] _ built_warn0
            go_wp2_with (first | (refine wpl_storew rfl _ (.tmp 6) _ rfl rfl rfl ZH.out agg_warn rfl (xs := warnZ) rfl (by intro v hv; unfold warnZ at hv; simp at hv; subst hv; rfl) ?_))
            intro wY bY uY
            have EY := hid (uY.ext EH.out (by omega))
            have BY := hid bY
            clear bY uY
            go_wp2_with fail
            exact ret_row2 rfl rfl BY.out agg_warn rfl rfl ⟨by rfl, EY.out⟩
    · obtain rfl : k = n := by omega
      have htk : W.take k = W := List.take_of_length_le (by omega)
      rw [htk] at HDD
      rw [htk]
      have IG := hid (I1.out.ext E2.out)
      have RG := hid (RB.out.ext E2.out)
      have ZG := hid (Z1.out.ext E2.out)
      have EZ := hid (E1.out.ext E2.out)
      have i0 := IG.out.cell' (i := 0) rfl
      clear htk
      cases hany : W.any (meetP r) with
      | false =>
        have hk1 : K = 1 := by rw [← HK.out]; exact kind_never HR.out hany
        subst hk1
        clear hany HDD HK
        have hbw := fun W' => run_build (P := Tryz.prog) W' 62 #[(0, .int .i64 (R : Int)), (2, .int .i64 (-1))] _ (built_warn (R : Int))
        go_wp2_with (refine wpl_storew rfl _ (.tmp 14) _ rfl rfl rfl (Blk.mk_alloc (vs := warnZ) rfl rfl) agg_warn rfl (xs := warnL (R : Int) 0) rfl (by intro v hv; unfold warnL at hv; simp at hv; rcases hv with rfl | rfl | rfl <;> rfl) ?_)
        intro wH bH uH
        obtain ⟨g14, hg14⟩ : ∃ g, wr.heap.size = g := ⟨_, rfl⟩
        have eH : Ext wr wH := uH.ext ((Ext.refl wr).alloc _) (Nat.le_refl _)
        rw [hg14] at bH ⊢
        have hz14 : w.heap.size + 1 + 1 ≠ g14 := by have := ZG.out.lt; omega
        have BH := hid bH
        have RH := hid (RG.out.ext eH)
        have ZH := hid (ZG.out.ext eH)
        have EH := hid (EZ.out.ext eH)
        have hg14w : w.heap.size ≤ g14 := by have := EZ.out.size; omega
        clear bH uH eH i0 IG RG ZG EZ hbw hg14

        have k1 := BH.out.cell' (i := 1) rfl
        have f1 := BH.out.frozen 1
        go_upto_region 20 with (fail)
        generalize hwX : World.setCell wH _ _ = wX
        have bX : Blk wX g14 (warnL (R : Int) 1) 62 := by rw [← hwX]; exact BH.out.set 1 (.int .i64 1)
        have uX : Upd wH g14 wX := by rw [← hwX]; exact Upd.setCell _
        have ZX := hid (ZH.out.upd uX hz14)
        have EX := hid (uX.ext EH.out hg14w)
        have BX9 := hid bX
        clear hwX bX uX k1 f1 BH ZH EH
        go_wp2_with (first | (refine wpl_loadw rfl 62 (.tmp 14) rfl rfl BX9.out agg_warn rfl ?_) | (refine wpl_storew rfl _ (.tmp 6) _ rfl rfl rfl ZX.out agg_warn rfl (xs := warnL (R : Int) 1) rfl (by intro v hv; unfold warnL at hv; simp at hv; rcases hv with rfl | rfl | rfl <;> rfl) ?_))
        intro wY bY uY
        have EY := hid (uY.ext EX.out (by omega))
        have BY := hid bY
        clear bY uY
        go_wp2_with fail
        exact ret_row2 rfl rfl BY.out agg_warn rfl rfl ⟨by rfl, EY.out⟩
      | true =>
        have hk2 : K = 2 := by rw [← HK.out]; exact kind_dead HR.out hany HDD.out
        subst hk2
        clear hany HDD HK
        have hbw := fun W' => run_build (P := Tryz.prog) W' 62 #[(0, .int .i64 (R : Int)), (2, .int .i64 (-1))] _ (built_warn (R : Int))
        go_wp2_with (refine wpl_storew rfl _ (.tmp 14) _ rfl rfl rfl (Blk.mk_alloc (vs := warnZ) rfl rfl) agg_warn rfl (xs := warnL (R : Int) 0) rfl (by intro v hv; unfold warnL at hv; simp at hv; rcases hv with rfl | rfl | rfl <;> rfl) ?_)
        intro wH bH uH
        obtain ⟨g14, hg14⟩ : ∃ g, wr.heap.size = g := ⟨_, rfl⟩
        have eH : Ext wr wH := uH.ext ((Ext.refl wr).alloc _) (Nat.le_refl _)
        rw [hg14] at bH ⊢
        have hz14 : w.heap.size + 1 + 1 ≠ g14 := by have := ZG.out.lt; omega
        have BH := hid bH
        have RH := hid (RG.out.ext eH)
        have ZH := hid (ZG.out.ext eH)
        have EH := hid (EZ.out.ext eH)
        have hg14w : w.heap.size ≤ g14 := by have := EZ.out.size; omega
        clear bH uH eH i0 IG RG ZG EZ hbw hg14

        have k1 := BH.out.cell' (i := 1) rfl
        have f1 := BH.out.frozen 1
        go_upto_region 20 with (fail)
        generalize hwX : World.setCell wH _ _ = wX
        have bX : Blk wX g14 (warnL (R : Int) 2) 62 := by rw [← hwX]; exact BH.out.set 1 (.int .i64 2)
        have uX : Upd wH g14 wX := by rw [← hwX]; exact Upd.setCell _
        have ZX := hid (ZH.out.upd uX hz14)
        have EX := hid (uX.ext EH.out hg14w)
        have BX9 := hid bX
        clear hwX bX uX k1 f1 BH ZH EH
        go_wp2_with (first | (refine wpl_loadw rfl 62 (.tmp 14) rfl rfl BX9.out agg_warn rfl ?_) | (refine wpl_storew rfl _ (.tmp 6) _ rfl rfl rfl ZX.out agg_warn rfl (xs := warnL (R : Int) 2) rfl (by intro v hv; unfold warnL at hv; simp at hv; rcases hv with rfl | rfl | rfl <;> rfl) ?_))
        intro wY bY uY
        have EY := hid (uY.ext EX.out (by omega))
        have BY := hid bY
        clear bY uY
        go_wp2_with fail
        exact ret_row2 rfl rfl BY.out agg_warn rfl rfl ⟨by rfl, EY.out⟩
end

section
open Go Go.RowKit

def zeroP : AskP := ⟨zer 16, [], 0, ⟨#[]⟩, zer 16, 0, zer 32⟩
def zeroA : AskR := zeroP.r
theorem zeroA_v : zeroA.v = zeroAskV := rfl
theorem zeroA_ok (w : World) : zeroA.Ok w := ⟨rfl, rfl, rfl, rfl, Nat.le_refl _, Nat.zero_le _, .inl rfl, (by intro s hs; cases hs), Nat.zero_le _⟩
noncomputable def firstD (rs qs : List RuleR) : Option AskP := (worldP (rs ++ qs)).find? (difP rs qs)
noncomputable def difR (E : Int) (rs qs : List RuleR) : Bool × AskP := if E = 0 then (match firstD rs qs with | none => (false, zeroP) | some p => (true, p)) else (false, zeroP)
theorem comE_zero {rs : List RuleR} {pn : Nat} {qs : List RuleR} {qn : Nat} (h : comE rs pn qs qn = 0) : polE rs pn = 0 ∧ polE qs qn = 0 := by
  unfold comE at h
  by_cases h1 : polE rs pn = 0
  · rw [if_neg (by simp [h1])] at h
    by_cases h2 : polE qs qn = 0
    · exact ⟨h1, h2⟩
    · rw [if_pos h2] at h; exact absurd h h2
  · rw [if_pos h1] at h; exact absurd h h1
theorem built_ask0 : Tryz.prog.built 40 [] = some zeroAskV.toArray := by kernel_rfl
theorem exec_ask0 {o : Oper} {a : Act} (ho : o.op = .build 40 #[]) (w : World) : (execOp a.eval o).run Tryz.prog w = .ok (.value (.agg zeroAskV.toArray)) w := by
  have hr := run_build (P := Tryz.prog) w 40 #[] _ built_ask0
  unfold execOp
  simp only [ho, Sem.run_bind]
  have h2 : (Instr.build 40 (#[].map fun (r : Nat × Operand) => (r.1, a.eval r.2))).run Tryz.prog w = .ok (.agg zeroAskV.toArray) w := by simpa using hr
  rw [h2]
  rfl
theorem worldP_len (rs : List RuleR) : (worldP rs).length = szW rs := by
  unfold worldP szW
  have hl : actsW.length = 12 := rfl
  simp only [List.length_flatMap, List.length_map, List.map_const', List.sum_replicate_nat]
  rw [hl, Nat.mul_assoc, Nat.mul_assoc]
theorem errW_zero {rs : List RuleR} {pn : Nat} (h : errW rs pn = 0) : polE rs pn = 0 ∧ szW rs ≤ 100000 := by
  unfold errW at h
  by_cases h1 : polE rs pn = 0
  · rw [if_neg (by simp [h1])] at h
    by_cases h2 : szW rs ≤ 100000
    · exact ⟨h1, h2⟩
    · rw [if_neg h2] at h; exact absurd h (by decide)
  · rw [if_pos h1] at h; exact absurd h h1
theorem comE_errW {rs : List RuleR} {pn : Nat} {qs : List RuleR} {qn : Nat} (h : comE rs pn qs qn = 0) : errW (rs ++ qs) (pn + qn) = 0 := by
  obtain ⟨h1, h2⟩ := comE_zero h
  unfold comE at h
  rwa [if_neg (by simp [h1]), if_neg (by simp [h2])] at h
theorem find_at {α : Type} {l : List α} {p : α → Bool} {k : Nat} {x : α} (hx : l[k]? = some x) (hp : p x = true) (hb : ∀ y ∈ l.take k, p y = false) : l.find? p = some x := by
  obtain ⟨hk, hx2⟩ := List.getElem?_eq_some_iff.1 hx
  have e : l = l.take k ++ x :: l.drop (k + 1) := by rw [← hx2, ← List.drop_eq_getElem_cons hk, List.take_append_drop]
  rw [e, List.find?_append, List.find?_eq_none.2 (fun y hy => by rw [hb y hy]; simp)]
  simp [hp]
theorem take_false {α : Type} {l : List α} {p : α → Bool} {k : Nat} {x : α} (hx : l[k]? = some x) (hp : p x = false) (hb : ∀ y ∈ l.take k, p y = false) : ∀ y ∈ l.take (k + 1), p y = false := by
  intro y hy
  rw [List.take_add_one, hx] at hy
  rcases List.mem_append.1 hy with hy | hy
  · exact hb y hy
  · simp at hy; subst hy; exact hp

set_option maxRecDepth 100000 in
set_option maxHeartbeats 4000000 in
theorem differ_c (pa : Option Addr) (pn pc : Nat) (rs : List RuleR) (qa : Option Addr) (qn qc : Nat) (qs : List RuleR) (w : World) (hp : PolOk w pa pn pc rs) (hq : PolOk w qa qn qc qs) :
    Calls Tryz.prog 12 #[.agg #[.slice pa pn pc], .agg #[.slice qa qn qc]] w fun e w' => ∃ a : AskR, e = .returned (.tuple #[.agg a.v.toArray, .bool (difR (comE rs pn qs qn) rs qs).1, .int .i64 (comE rs pn qs qn)]) ∧ a.Ok w' ∧ a.p = (difR (comE rs pn qs qn) rs qs).2 ∧ Ext w w' := by
  have HP := hid hp
  have HQ := hid hq
  have HC := hid (fun W (h : Ext w W) => common_c pa pn pc rs qa qn qc qs W (hp.ext h) (hq.ext h))
  have HCZ := hid (comE_zero (rs := rs) (pn := pn) (qs := qs) (qn := qn))
  have HCW := hid (comE_errW (rs := rs) (pn := pn) (qs := qs) (qn := qn))
  clear hp hq
  obtain ⟨E, hE⟩ : ∃ E, comE rs pn qs qn = E := ⟨_, rfl⟩
  rw [hE] at HC HCZ HCW
  rw [hE]
  clear hE
  obtain ⟨DB, hDB⟩ : ∃ x, (difR E rs qs).1 = x := ⟨_, rfl⟩
  obtain ⟨DP, hDP⟩ : ∃ x, (difR E rs qs).2 = x := ⟨_, rfl⟩
  have HD : Hid (difR E rs qs = (DB, DP)) := hid (by rw [← hDB, ← hDP])
  rw [hDB, hDP]
  clear hDB hDP
  have HAG := hid agg_ask
  go_enter Tryz.func12, Tryz.ntmps12
  go_upto_region 1 with (fail)
  generalize hwA : World.alloc (World.alloc (World.alloc w _) _) _ = wA
  have bA : Blk wA w.heap.size [.slice pa pn pc] 24 := by rw [← hwA]; exact ((Blk.mk_alloc rfl rfl).alloc _).alloc _
  have dA : Blk wA (w.heap.size + 1) [.slice qa qn qc] 24 := by rw [← hwA]; exact (Blk.mk_alloc (size_allocW _ _).symm rfl).alloc _
  have zA : Blk wA (w.heap.size + 1 + 1) zeroAskV 40 := by rw [← hwA]; exact Blk.mk_alloc (by rw [size_allocW, size_allocW]) rfl
  have eA : Ext w wA := by rw [← hwA]; exact (((Ext.refl w).alloc _).alloc _).alloc _
  have BA := hid bA
  have DA := hid dA
  have ZA := hid zA
  have EA := hid eA
  clear hwA bA dA zA eA
  go_wp2_with (first | (refine wpl_loadw rfl 24 (.tmp 2) rfl rfl BA.out agg_polW rfl ?_) | (refine wpl_loadw rfl 24 (.tmp 3) rfl rfl DA.out agg_polW rfl ?_))
  refine (HC.out wA EA.out).mono ?_
  rintro e w1 ⟨v, xs, rfl, hnz, hz, e1⟩
  have E1 := hid (EA.out.ext e1)
  have B1 := hid (BA.out.ext e1)
  have D1 := hid (DA.out.ext e1)
  have Z1 := hid (ZA.out.ext e1)
  have HNZ := hid hnz
  have HZ := hid hz
  clear e1 hnz hz BA DA ZA HC
  by_cases h0 : E = 0
  · subst h0
    obtain ⟨hA, hP⟩ := HZ.out (by trivial)
    obtain ⟨hz1, hz2⟩ := HCZ.out (by trivial)
    have HOKP := hid (worldP_ok (rs := rs ++ qs) (fun r hr => by
      rcases List.mem_append.1 hr with hr | hr
      · exact (polE_zero hz1).2 r hr
      · exact (polE_zero hz2).2 r hr))
    obtain ⟨a, c, rfl, hok⟩ := hA.slice
    have AOK := hid hok
    have AOW := hid hA.own
    have HPX := hid hP
    obtain ⟨n, hn⟩ : ∃ n, xs.length = n := ⟨_, rfl⟩
    rw [hn] at AOK
    rw [hn]
    have hn63 : n ≤ 100000 := by
      rw [← hn, ← List.length_map (f := AskR.p), hP, worldP_len]
      exact (errW_zero (HCW.out (by trivial))).2
    clear hA hP hz1 hz2 hok HNZ HZ HCZ HCW
    go_wp2
    go_loopw [23] (fun i wr => ∃ k : Nat, k ≤ n ∧ i = .int .i64 (k : Int) ∧ (∀ p ∈ (worldP (rs ++ qs)).take k, difP rs qs p = false) ∧ Ext w1 wr) (fun i _ => n - (intOf i).toNat)
    case atStart => exact ⟨0, by omega, rfl, (fun p hp => by simp at hp), Ext.refl _⟩
    case round =>
      obtain ⟨k, hk, rfl, hno, e2⟩ := hrel
      have E2 := hid e2
      have HNO := hid hno
      clear e2 hno
      by_cases hlt : k < n
      · obtain ⟨x, hxk⟩ : ∃ x, xs[k]? = some x := ⟨xs[k]'(by omega), by simp⟩
        have hpk : (worldP (rs ++ qs))[k]? = some x.p := by rw [← HPX.out, List.getElem?_map, hxk]; rfl
        obtain ⟨T, hT, hTb⟩ := HOKP.out _ (List.mem_of_getElem? hpk)
        obtain ⟨A, rfl, hca⟩ := (AOK.out.ext E2.out).at hxk
        have HCA := hid hca
        have HXO := hid ((AOW.out x (List.mem_of_getElem? hxk)).ext E2.out)
        have HXL := hid (AskR.len HXO.out.ok)
        have HPK := hid hpk
        have HT := hid (show x.time = (T : Int) from hT)
        have o1 := askW_one x
        clear hca hxk hpk hT
        go_wp2_with (first | (refine wpl_run rfl (exec_index (i := k) rfl rfl rfl Tryz.underlying26 size_ask hlt _) ?_) | (refine wpl_run rfl (exec_load_at rfl rfl HCA.out HAG.out HXL.out) ?_) | (refine wpl_storew rfl _ (.tmp 10) _ rfl rfl rfl (Blk.mk_alloc (vs := zeroAskV) rfl rfl) HAG.out rfl HXL.out o1 ?_))
        intro wB bB uB
        have eB : Ext wr wB := uB.ext ((Ext.refl wr).alloc _) (Nat.le_refl _)
        have BX := hid bB
        have EB := hid (E2.out.ext eB)
        have HXB := hid (HXO.out.ext eB)
        have hgr : w1.heap.size ≤ wr.heap.size := E2.out.size
        clear bB uB eB HCA E2 HXO
        generalize wr.heap.size = gr at *
        have EW := hid (E1.out.ext EB.out)
        have PB := hid (HP.out.ext EW.out)
        have QB := hid (HQ.out.ext EW.out)
        have BB := hid (B1.out.ext EB.out)
        have DB' := hid (D1.out.ext EB.out)
        have ZB := hid (Z1.out.ext EB.out)
        have hD1 := hid (fun W (h : Ext wB W) => decide_c pa pn pc rs x T W (PB.out.ext h) ((HXB.out.ext h).ok) HT.out hTb)
        have hD2 := hid (fun W (h : Ext wB W) => decide_c qa qn qc qs x T W (QB.out.ext h) ((HXB.out.ext h).ok) HT.out hTb)
        obtain ⟨d1, hd1⟩ : ∃ d, decideD x rs = d := ⟨_, rfl⟩
        obtain ⟨d2, hd2⟩ : ∃ d, decideD x qs = d := ⟨_, rfl⟩
        have hdif : difP rs qs x.p = !sameD d1 d2 := by unfold difP; rw [← decP_of, ← decP_of, hd1, hd2]
        have HDIF := hid hdif
        rw [hd1] at hD1
        rw [hd2] at hD2
        have hlv := HXL.out
        clear hd1 hd2 hdif
        go_upto_region 7 with (fail)
        obtain ⟨C, hC⟩ : ∃ C : World → Prop, C = fun w' => Ext wB w' := ⟨_, rfl⟩
        have hC0 : ∀ w', C w' ↔ Ext wB w' := fun w' => by rw [hC]
        clear hC
        have HCC := hid hC0
        clear hC0
        have hCx : ∀ w w', C w → Ext w w' → C w' := fun w w' h1 h2 => (HCC.out w').2 (((HCC.out w).1 h1).ext h2)
        have hCA : C wB := (HCC.out _).2 (Ext.refl wB)
        refine wp_region_held_drew (S := C) (by kernel_rfl) (hCx _ _ hCA (Ext.refl _).drew) (fun hS0 => ?_)
        refine held_take 0 (v := _) rfl (by kernel_rfl) (by kernel_rfl) (by kernel_rfl) (fun _ _ _ h => h) (yieldsI_loadw rfl 24 _ rfl rfl (fun w1 h => BB.out.ext ((HCC.out w1).1 h)) agg_polW rfl) hS0 ?_
        simp only [Act.put, List.setIfInBounds_toArray, List.set_cons_succ, List.set_cons_zero]
        refine held_take 1 (v := _) rfl (by kernel_rfl) (by kernel_rfl) (by kernel_rfl) (fun _ _ _ h => h) (yieldsI_loadw rfl 40 _ rfl rfl (fun w1 h => BX.out.ext ((HCC.out w1).1 h)) HAG.out hlv) hS0 ?_
        simp only [Act.put, List.setIfInBounds_toArray, List.set_cons_succ, List.set_cons_zero]
        refine held_take 3 (v := _) rfl (by kernel_rfl) (by kernel_rfl) (by kernel_rfl) (fun _ _ _ h => h) (yieldsI_loadw rfl 24 _ rfl rfl (fun w1 h => DB'.out.ext ((HCC.out w1).1 h)) agg_polW rfl) hS0 ?_
        simp only [Act.put, List.setIfInBounds_toArray, List.set_cons_succ, List.set_cons_zero]
        refine held_take 4 (v := _) rfl (by kernel_rfl) (by kernel_rfl) (by kernel_rfl) (fun _ _ _ h => h) (yieldsI_loadw rfl 40 _ rfl rfl (fun w1 h => BX.out.ext ((HCC.out w1).1 h)) HAG.out hlv) hS0 ?_
        simp only [Act.put, List.setIfInBounds_toArray, List.set_cons_succ, List.set_cons_zero]
        have hx0 := (HCC.out _).1 hS0
        refine held_one (i := 2) (by kernel_rfl) rfl ?_
        intro Q' hQ
        go_wp2_with fail
        refine ((hD1.out _ hx0)).mono ?_
        rintro e w5 ⟨rfl, eq9⟩
        have hS9 := hCx _ _ hS0 eq9
        go_wp2_with fail
        refine hQ _ _ hS9 ?_
        clear hQ Q' hS0 eq9
        have hS0 := hS9
        clear hS9
        try dsimp only
        try simp only [Act.put, List.setIfInBounds_toArray, List.set_cons_succ, List.set_cons_zero]
        have hx1 := (HCC.out _).1 hS0
        refine held_one (i := 5) (by kernel_rfl) rfl ?_
        intro Q' hQ
        go_wp2_with fail
        refine ((hD2.out _ hx1)).mono ?_
        rintro e w6 ⟨rfl, eq9⟩
        have hS9 := hCx _ _ hS0 eq9
        go_wp2_with fail
        refine hQ _ _ hS9 ?_
        clear hQ Q' hS0 eq9
        have hS0 := hS9
        clear hS9
        try dsimp only
        try simp only [Act.put, List.setIfInBounds_toArray, List.set_cons_succ, List.set_cons_zero]
        refine held_one (i := 6) (by kernel_rfl) rfl ?_
        intro Q' hQ
        go_wp2_with fail
        refine ((sameDec_c d1 d2 _)).mono ?_
        rintro e w7 ⟨rfl, eq9⟩
        have hS9 := hCx _ _ hS0 eq9
        go_wp2_with fail
        refine hQ _ _ hS9 ?_
        clear hQ Q' hS0 eq9
        have hS0 := hS9
        clear hS9
        try dsimp only
        try simp only [Act.put, List.setIfInBounds_toArray, List.set_cons_succ, List.set_cons_zero]
        refine held_take 7 (v := ?tv60) rfl (by kernel_rfl) (by kernel_rfl) (by kernel_rfl) (fun _ _ _ h => h) (.inl ⟨rfl, ?ty60⟩) hS0 ?tr60
        case ty60 => (intro _ _; go_simp; try with_reducible rfl)
        case tr60 =>
        simp only [Act.put, List.setIfInBounds_toArray, List.set_cons_succ, List.set_cons_zero]
        refine wpAnyH_done (by kernel_rfl) ?_ _
        have E7 := hid ((HCC.out _).1 hS0)
        clear hS0 hCA hCx HCC hx0 hx1 hD1 hD2
        cases hsd : sameD d1 d2 with
        | true =>
          have HNO2 := hid (take_false HPK.out (by rw [HDIF.out, hsd]; rfl) HNO.out)
          have EE := hid (EB.out.ext E7.out)
          clear HNO HDIF hsd
          go_wp2
          go_roundw
          case rel => exact ⟨k + 1, by omega, by go_num, HNO2.out, EE.out⟩
          case measure => simp [intOf]; omega
        | false =>
          have hfd : firstD rs qs = some x.p := find_at HPK.out (by rw [HDIF.out, hsd]; rfl) HNO.out
          have hdr := HD.out
          unfold difR at hdr
          rw [if_pos rfl, hfd] at hdr
          injection hdr with hb1 hp1
          subst hb1
          have HP1 := hid hp1
          have HX7 := hid (HXB.out.ext E7.out)
          have BX7 := hid (BX.out.ext E7.out)
          have ZB7 := hid (ZB.out.ext E7.out)
          have EE := hid (EW.out.ext E7.out)
          obtain ⟨hc1, hc2, hc3, hc4⟩ := HX7.out.cells
          have HCL := hid (cloneStr_c (x.roles.map encStr) x.sa x.sn x.sc w7 (by rw [List.length_map]; exact hc1) (by have := HX7.out.sm; omega) hc2 hc3 (by intro v hv; obtain ⟨s, _, rfl⟩ := List.mem_map.1 hv; rfl) hc4)
          have c16 := BX7.out.cell' (AskR.at16 HX7.out.ok)
          clear hc1 hc2 hc3 hc4 HNO HDIF hsd hfd hp1
          go_wp2_with fail
          refine HCL.out.mono ?_
          rintro e w8 ⟨v2, rfl, ho2, e8⟩
          obtain ⟨a2, c2, rfl, hx1, hx2, hx3⟩ := own_cellsA ho2
          clear hx1 hx2 hx3
          have BX8 := hid (BX7.out.ext e8)
          have HX8 := hid (HX7.out.ext e8)
          have ZB8 := hid (ZB7.out.ext e8)
          have E8 := hid (EE.out.ext e8)
          have O8 := hid ho2
          have k16 := BX8.out.cell' (AskR.at16 HX8.out.ok)
          have f16 := BX8.out.frozen 16
          clear e8 ho2 HCL BX7 HX7 ZB7 EE c16
          go_upto_region 9 with (fail)
          generalize hwX : World.setCell w8 _ _ = wX
          have bX : Blk wX gr (x.move a2 c2).v 40 := by
            rw [← hwX, AskR.move_v HX8.out]
            exact BX8.out.set 16 (.slice a2 x.sn c2)
          have uX : Upd w8 gr wX := by rw [← hwX]; exact Upd.setCell _
          have hzg : w.heap.size + 1 + 1 ≠ gr := by have := Z1.out.lt; omega
          have HMX : Hid ((x.move a2 c2).Own wX) := hid (by
            have hx := HX8.out
            refine ⟨hx.ha, hx.hk, hx.hd, ⟨w7.heap.size, ?_⟩, hx.sm, hx.ss, hx.ls⟩
            exact own_updA O8.out uX BX8.out (by decide))
          have ZX := hid (ZB8.out.upd uX hzg)
          have EX := hid (uX.ext E8.out (by have := E1.out.size; omega))
          have BXX := hid bX
          obtain ⟨y, hy⟩ : ∃ y, x.move a2 c2 = y := ⟨_, rfl⟩
          have hyp : y.p = DP := by rw [← hy, AskR.move_p]; exact HP1.out
          rw [hy] at BXX HMX
          have HYL := hid (AskR.len HMX.out.ok)
          have HYO := hid (askW_one y)
          have HYP := hid hyp
          clear hwX bX uX hzg hy hyp BX8 HX8 ZB8 E8 O8 k16 f16 HP1
          go_wp2_with (first | (refine wpl_loadw rfl 40 (.tmp 10) rfl rfl BXX.out HAG.out HYL.out ?_) | (refine wpl_storew rfl _ (.tmp 4) _ rfl rfl rfl ZX.out HAG.out rfl HYL.out HYO.out ?_))
          intro wY bY uY
          have EY := hid (uY.ext EX.out (by omega))
          have HYY : Hid (y.Ok wY) := hid (AskR.Own.ok ⟨HMX.out.ha, HMX.out.hk, HMX.out.hd, (by obtain ⟨B, hr⟩ := HMX.out.row; exact ⟨B, own_updA hr uY ZX.out (by decide)⟩), HMX.out.sm, HMX.out.ss, HMX.out.ls⟩)
          have BY := hid bY
          clear bY uY
          go_wp2_with fail
          exact ret_row3 rfl rfl BY.out HAG.out HYL.out rfl ⟨y, rfl, HYY.out, HYP.out, EY.out⟩
      · obtain rfl : k = n := by omega
        have hfd : firstD rs qs = none := by
          unfold firstD
          rw [List.find?_eq_none]
          intro p hp
          have hl : (worldP (rs ++ qs)).length = k := by rw [← HPX.out, List.length_map]; exact hn
          rw [HNO.out p (by rw [List.take_of_length_le (by omega)]; exact hp)]
          simp
        have hdr := HD.out
        unfold difR at hdr
        rw [if_pos rfl, hfd] at hdr
        injection hdr with hb1 hp1
        subst hb1
        have HP1 := hid hp1
        have ZR := hid (Z1.out.ext E2.out)
        have EE := hid (E1.out.ext E2.out)
        clear hfd hp1 HNO
        go_wp2_with (first | (refine wpl_run rfl (exec_ask0 rfl _) ?_) | (refine wpl_storew rfl _ (.tmp 4) _ rfl rfl rfl ZR.out HAG.out rfl (xs := zeroAskV) rfl (askW_one zeroA) ?_))
        intro wY bY uY
        have EY := hid (uY.ext EE.out (by omega))
        have BY := hid bY
        clear bY uY
        go_wp2_with fail
        exact ret_row3 rfl rfl BY.out HAG.out rfl rfl ⟨zeroA, rfl, zeroA_ok _, HP1.out, EY.out⟩
  · have hdr := HD.out
    unfold difR at hdr
    rw [if_neg h0] at hdr
    injection hdr with hb1 hp1
    subst hb1
    have HP1 := hid hp1
    have hv := HNZ.out h0
    subst hv
    have ZR := hid Z1.out
    have EE := hid E1.out
    have d0 : decide (E = 0) = false := decide_eq_false h0
    clear hp1 HNZ HZ HCZ HCW Z1 E1
    go_wp2_with (first | (refine wpl_run rfl (exec_ask0 rfl _) ?_) | (refine wpl_storew rfl _ (.tmp 4) _ rfl rfl rfl ZR.out HAG.out rfl (xs := zeroAskV) rfl (askW_one zeroA) ?_))
    intro wY bY uY
    have EY := hid (uY.ext EE.out (by omega))
    have BY := hid bY
    clear bY uY
    go_wp2_with fail
    exact ret_row3 rfl rfl BY.out HAG.out rfl rfl ⟨zeroA, rfl, zeroA_ok _, HP1.out, EY.out⟩
end

section
open Go Go.RowKit

theorem info_warn : (Tryz.prog.info? 62).map (fun i => (i.zero, i.size, i.bytes)) = some (some (.agg warnZ.toArray), 3, 24) := by kernel_rfl
theorem elem_warn : ElemT Tryz.prog 55 62 3 24 := ⟨Tryz.underlying55, ⟨_, _, (info_parts info_warn).choose_spec.1, (info_parts info_warn).choose_spec.2.1, (info_parts info_warn).choose_spec.2.2.1, (info_parts info_warn).choose_spec.2.2.2, rfl⟩, by decide⟩
/-- the rules that Lint warns of -/
noncomputable def lintK (rs : List RuleR) (W : List AskP) (k : Nat) : List Nat := (List.range k).filter (fun i => decide (kindW rs W i ≠ 0))
noncomputable def lintV (rs : List RuleR) (W : List AskP) (k : Nat) : List Value := (lintK rs W k).flatMap fun i => warnV (kindW rs W i) i
theorem lintK_succ (rs : List RuleR) (W : List AskP) (k : Nat) : lintK rs W (k + 1) = lintK rs W k ++ (if kindW rs W k ≠ 0 then [k] else []) := by
  unfold lintK
  rw [List.range_succ, List.filter_append]
  congr 1
  by_cases h : kindW rs W k = 0
  · rw [if_neg (by simp [h])]; simp [h]
  · rw [if_pos h]; simp [h]
theorem lintK_len (rs : List RuleR) (W : List AskP) (k : Nat) : (lintK rs W k).length ≤ k := by unfold lintK; exact Nat.le_trans (List.length_filter_le _ _) (by simp)

set_option maxRecDepth 100000 in
set_option maxHeartbeats 2000000 in
theorem lint_c (pa : Option Addr) (pn pc : Nat) (rs : List RuleR) (w : World) (hp : PolOk w pa pn pc rs) :
    Calls Tryz.prog 17 #[.agg #[.slice pa pn pc]] w fun e w' => ∃ v, e = .returned (.tuple #[v, .int .i64 (errW rs pn)]) ∧ (errW rs pn ≠ 0 → v = .slice none 0 0) ∧ (errW rs pn = 0 → w'.ownsRow w.heap.size 62 3 v (lintK rs (worldP rs) pn).length (lintV rs (worldP rs) pn)) ∧ Ext w w' := by
  have HP := hid hp
  have HWD := hid (fun W (h : Ext w W) => worldOf_c pa pn pc rs W (hp.ext h))
  have HEZ := hid (errW_zero (rs := rs) (pn := pn))
  clear hp
  obtain ⟨E, hE⟩ : ∃ E, errW rs pn = E := ⟨_, rfl⟩
  rw [hE] at HWD HEZ ⊢
  clear hE
  go_enter Tryz.func17, Tryz.ntmps17
  go_upto_region 1 with (fail)
  generalize hwA : World.alloc w _ = wA
  have bA : Blk wA w.heap.size [.slice pa pn pc] 24 := by rw [← hwA]; exact Blk.mk_alloc rfl rfl
  have eA : Ext w wA := by rw [← hwA]; exact (Ext.refl w).alloc _
  have BA := hid bA
  have EA := hid eA
  clear hwA bA eA
  go_wp2_with (first | (refine wpl_loadw rfl 24 _ rfl rfl BA.out agg_polW rfl ?_))
  refine (HWD.out wA EA.out).mono ?_
  rintro e w1 ⟨v, xs, rfl, hnz, hz, e1⟩
  have E1 := hid (EA.out.ext e1)
  have B1 := hid (BA.out.ext e1)
  clear e1 EA BA HWD
  by_cases h0 : E = 0
  · subst h0
    obtain ⟨hA, hP⟩ := hz rfl
    obtain ⟨hz1, hsz⟩ := HEZ.out (by trivial)
    obtain ⟨a, c, rfl, hok⟩ := hA.slice
    obtain ⟨n, hn⟩ : ∃ n, xs.length = n := ⟨_, rfl⟩
    have hn63 : n ≤ 100000 := by rw [← hn, ← List.length_map (f := AskR.p), hP, worldP_len]; exact hsz
    have HT := hid (worldP_ok (rs := rs) (fun r hr => (polE_zero hz1).2 r hr))
    have hpn : pn ≤ 100 := (polE_zero hz1).1
    rw [hn] at hok ⊢
    have AOK := hid hok
    have HPX := hid hP
    have P1 := hid (HP.out.ext E1.out)
    have HWC := hid (fun W (h : Ext w1 W) (R : Nat) (hR : R < pn) => warning_c pa pn pc rs a n c xs R W (P1.out.ext h) (AOK.out.ext h) hn63 (by rw [HPX.out]; exact HT.out) hR)
    rw [hP] at HWC
    have HTW := hid elem_warn
    obtain ⟨WW, hWW⟩ : ∃ x, worldP rs = x := ⟨_, rfl⟩
    rw [hWW] at HWC
    have HWW := hid hWW
    have c0 := B1.out.cell' (i := 0) rfl
    clear hA hP hz1 hsz hok hz hnz HEZ hWW HT
    go_wp2
    go_loopw [6, 21] (fun v i wr => ∃ k : Nat, k ≤ pn ∧ i = .int .i64 (k : Int) ∧ wr.ownsRow w1.heap.size 62 3 v (lintK rs WW k).length (lintV rs WW k) ∧ Ext w1 wr) (fun _ i _ => pn - (intOf i).toNat)
    case atStart => exact ⟨0, by omega, rfl, ⟨rfl, .inl ⟨rfl, rfl⟩⟩, Ext.refl _⟩
    case round =>
      obtain ⟨k, hk, rfl, hrow, e2⟩ := hrel
      have E2 := hid e2
      have ROW := hid hrow
      clear e2 hrow
      by_cases hlt : k < pn
      · have B2 := hid (B1.out.ext E2.out)
        go_wp2_with (first | (refine wpl_loadw rfl 24 (.tmp 1) rfl rfl B2.out agg_polW rfl ?_))
        refine (HWC.out wr E2.out k hlt).mono ?_
        rintro e w3 ⟨rfl, e3⟩
        have E3 := hid (E2.out.ext e3)
        have ROW3 := hid (own_extW ROW.out e3)
        have HS := hid (lintK_succ rs WW k)
        have hll := lintK_len rs WW k
        obtain ⟨K, hK⟩ : ∃ K, kindW rs WW k = K := ⟨_, rfl⟩
        rw [hK] at HS ⊢
        have HLV : Hid (lintV rs WW (k + 1) = lintV rs WW k ++ (if K ≠ 0 then warnV K k else [])) := hid (by
          unfold lintV
          rw [lintK_succ, hK, List.flatMap_append]
          congr 1
          by_cases h : K = 0
          · rw [if_neg (by simp [h]), if_neg (by simp [h])]; rfl
          · rw [if_pos h, if_pos h]
            show warnV (kindW rs WW k) k ++ [] = _
            rw [hK, List.append_nil])
        have hvl := warnV_len K k
        have hv1 := warnV_one K k
        clear e3 E2 ROW hK B2
        go_wp2_with (refine wpl_storew rfl _ (.tmp 8) _ rfl rfl rfl (Blk.mk_alloc (vs := warnZ) rfl rfl) agg_warn rfl hvl hv1 ?_)
        intro w4 b4 u4
        have e4 : Ext w3 w4 := u4.ext ((Ext.refl w3).alloc _) (Nat.le_refl _)
        obtain ⟨g8, hg8⟩ : ∃ g, w3.heap.size = g := ⟨_, rfl⟩
        rw [hg8] at b4 ⊢
        have B8 := hid b4
        have E4 := hid (E3.out.ext e4)
        have ROW4 := hid (own_extW ROW3.out e4)
        have hw4 : w1.heap.size ≤ w4.heap.size := E4.out.size
        clear b4 u4 e4 hg8 E3 ROW3
        by_cases h0 : K = 0
        · have dk : decide (K = 0) = true := decide_eq_true h0
          rw [dk]
          have HR1 : Hid (w4.ownsRow w1.heap.size 62 3 u6 (lintK rs WW (k + 1)).length (lintV rs WW (k + 1))) := hid (by
            rw [HS.out, HLV.out, if_neg (by simp [h0]), if_neg (by simp [h0]), List.append_nil, List.append_nil]
            exact ROW4.out)
          clear HS HLV
          go_wp2
          go_roundw
          case rel => exact ⟨k + 1, by omega, by go_num, HR1.out, E4.out⟩
          case measure => simp [intOf]; omega
        · have dk : decide (K = 0) = false := decide_eq_false h0
          rw [dk]
          go_wp2_with (first | (refine wpl_loadw rfl 62 (.tmp 8) rfl rfl B8.out agg_warn hvl ?_) | (refine wpl_buildOne HTW.out (by decide) rfl rfl rfl hvl ?_) | (refine wpl_appendA (m := 1) (c := 1) (news := warnV K k) HTW.out rfl _ _ rfl w1.heap.size rfl rfl (ROW4.out.alloc _) (by rw [hvl]) (by decide) (fun h => by cases h) (Cells.of_blk0 (Blk.mk_alloc (T := 62) rfl rfl)) hv1 (by omega) (by omega) (by rw [size_allocW]; omega) ?_))
          intro v' w5 ho hg _
          have E5 := hid ((E4.out.alloc _).grown hg (fun q hq => (ROW4.out.lt q hq).1))
          have HR1 : Hid (w5.ownsRow w1.heap.size 62 3 v' (lintK rs WW (k + 1)).length (lintV rs WW (k + 1))) := hid (by
            rw [HS.out, HLV.out, if_pos h0, if_pos h0, List.length_append]
            exact ho)
          clear ho hg HS HLV ROW4 E4
          go_wp2
          go_roundw
          case rel => exact ⟨k + 1, by omega, by go_num, HR1.out, E5.out⟩
          case measure => simp [intOf]; omega
      · obtain rfl : k = pn := by omega
        have EE := hid (E1.out.ext E2.out)
        have ROWW := hid (own_monoW ROW.out E1.out.size)
        rw [← HWW.out] at ROWW
        go_wp2
        go_ret2
        first | exact ⟨_, rfl, ROWW.out, EE.out⟩ | exact ⟨rfl, ROWW.out, EE.out⟩ | exact ⟨_, rfl, fun h => absurd rfl h, fun _ => ROWW.out, EE.out⟩
  · have hv := hnz h0
    subst hv
    have d0 : decide (E = 0) = false := decide_eq_false h0
    clear hnz hz HEZ
    go_wp2
    go_ret2
    exact ⟨_, rfl, fun _ => rfl, fun h => absurd h h0, E1.out⟩
end

section
open Go Go.RowKit

theorem own_prefixW {w : World} {B : Nat} {e : TypeId} {z n c k : Nat} {a : Option Addr} {xs : List Value} (h : w.ownsRow B e z (.slice a n c) n xs) (hk : k ≤ n) (hn : 0 < n) : w.ownsRow B e z (.slice a k c) k (xs.take (k * z)) := by
  obtain ⟨hl, h⟩ := h
  have hkz : k * z ≤ n * z := Nat.mul_le_mul_right z hk
  refine ⟨by rw [List.length_take]; omega, ?_⟩
  rcases h with ⟨hv, rfl⟩ | ⟨g, cap, cur, hv, hb, hg, h1, h2, h3, h4⟩
  · omega
  · cases hv
    refine .inr ⟨g, _, cur, rfl, hb, hg, by omega, h2, h3, ?_⟩
    rw [← h4, List.take_take, Nat.min_eq_left hkz]
theorem own_keepW {w w' : World} {B : Nat} {e : TypeId} {z n : Nat} {v : Value} {xs : List Value} (h : w.ownsRow B e z v n xs) (hk : ∀ q, v.ownBlock = some q → w'.heap[q]? = w.heap[q]?) : w'.ownsRow B e z v n xs := by
  obtain ⟨hl, h⟩ := h
  refine ⟨hl, ?_⟩
  rcases h with h | ⟨g, cap, cur, hv, hb, hg, h1⟩
  · exact .inl h
  · refine .inr ⟨g, cap, cur, hv, hb, ?_, h1⟩
    rw [hk g (by rw [hv]; rfl)]; exact hg
theorem Blk.keptW {w w' : World} {g : Nat} {vs : List Value} {T : TypeId} (h : Blk w g vs T) (e : w'.heap[g]? = w.heap[g]?) : Blk w' g vs T := e.trans h
theorem gby_andThenW {a b c : World} {q : Nat} (e : Ext a b) (k : b.grownBy c (some q)) : a.grownBy c (some q) := (gby_ext (gby_self a (some q)) e).andThen k (fun j hj => .inr hj)
theorem own_blockW {w : World} {B q : Nat} {e : TypeId} {z n cap : Nat} {xs : List Value} (h : w.ownsRow B e z (.slice (some ⟨q, 0, none⟩) n cap) n xs) :
    ∃ rest, Blk w q (xs ++ rest) e ∧ (xs ++ rest).length = cap * z ∧ xs.length = n * z ∧ B ≤ q ∧ n ≤ cap ∧ cap ≤ maxLen := by
  obtain ⟨hl, h⟩ := h
  rcases h with ⟨hv, rfl⟩ | ⟨g, c2, cur, hv, hb, hg, h1, h2, h3, h4⟩
  · cases hv
  · cases hv
    refine ⟨cur.toList.drop (n * z), ?_, ?_, hl, hb, h1, h2⟩
    · unfold Blk
      rw [← h4, List.take_append_drop]
      simpa using hg
    · rw [← h4, List.take_append_drop, Array.length_toList, h3]
section
variable {P : Program} {ops : Array Oper} {rest : List Oper} {o : Oper} {a : Act} {w : World} {Q : Exit → Act → World → Prop}
theorem exec_slice3W {t e : TypeId} {x y z m : Operand} {p : Option Addr} {n c k h M s : Nat} (ho : o.op = .slice t x (some y) (some z) (some m)) (hx : a.eval x = .slice p n c) (hy : a.eval y = .int .i64 (k : Int)) (hz : a.eval z = .int .i64 (h : Int)) (hm : a.eval m = .int .i64 (M : Int)) (hu : P.underlying t = some (.slice e)) (hs : (P.info? e).map (·.size) = some s) (hk : k ≤ h) (hh : h ≤ M) (hM : M ≤ c)
    {q : Option Addr} (hq : shiftz p M k s = q) (w : World) : (execOp a.eval o).run P w = .ok (.value (.slice q (h - k) (M - k))) w := by
  subst hq
  have hr : (Instr.sliceAt t (.slice p n c) (some (.int .i64 (k : Int))) (some (.int .i64 (h : Int))) (some (.int .i64 (M : Int)))).run P w = .ok (.slice (shiftz p M k s) (h - k) (M - k)) w := by
    cases hq2 : P.info? e with
    | none => simp [hq2] at hs
    | some i =>
      have hi : i.size = s := by simpa [hq2] using hs
      simp [Instr.sliceAt, Instr.slice, Instr.sliceBounds, Instr.sliceBound, asIntOf, run_underlying hu, sizeOf, typeInfo, hq2, hi, hk, hh, hM, shiftz]
  unfold execOp
  simp only [ho, hx, hy, hz, hm, Option.map_some, Sem.run_bind]
  rw [hr]
  simp only [Result.andThen_ok, Sem.run_pure]
theorem exec_slice2W {t e : TypeId} {x y z : Operand} {p : Option Addr} {n c k h s : Nat} (ho : o.op = .slice t x (some y) (some z) none) (hx : a.eval x = .slice p n c) (hy : a.eval y = .int .i64 (k : Int)) (hz : a.eval z = .int .i64 (h : Int)) (hu : P.underlying t = some (.slice e)) (hs : (P.info? e).map (·.size) = some s) (hk : k ≤ h) (hc : h ≤ c)
    {q : Option Addr} (hq : shiftz p c k s = q) (w : World) : (execOp a.eval o).run P w = .ok (.value (.slice q (h - k) (c - k))) w := by
  subst hq
  have hr : (Instr.sliceAt t (.slice p n c) (some (.int .i64 (k : Int))) (some (.int .i64 (h : Int))) none).run P w = .ok (.slice (shiftz p c k s) (h - k) (c - k)) w := by
    cases hq2 : P.info? e with
    | none => simp [hq2] at hs
    | some i =>
      have hi : i.size = s := by simpa [hq2] using hs
      simp [Instr.sliceAt, Instr.slice, Instr.sliceBounds, Instr.sliceBound, asIntOf, run_underlying hu, sizeOf, typeInfo, hq2, hi, hk, hc, shiftz]
  unfold execOp
  simp only [ho, hx, hy, hz, Option.map_some, Option.map_none, Sem.run_bind]
  rw [hr]
  simp only [Result.andThen_ok, Sem.run_pure]
theorem wpl_append_fitsW (hgd : o.guard = none) (s x : Operand) (t e : TypeId) {i : TypeInfo} {size : Nat} (ho : o.op = .call { callee := .builtin .append, args := #[s, x], argTypes := #[t, t] }) (base : Nat) (hu : P.underlying t = some (.slice e)) (hi : P.info? e = some i) (hsz : i.size = size)
    {g n cap m c : Nat} {xs news : List Value} {ad : Addr} (hs : a.eval s = .slice (some ⟨g, 0, none⟩) n cap) (hx : a.eval x = .slice (some ad) m c) (hown : w.ownsRow base e size (.slice (some ⟨g, 0, none⟩) n cap) n xs) (hl : news.length = m * size) (hnews : ∀ j u, news[j]? = some u → w.cell? (ad.add j) = some u) (h1 : ∀ u ∈ news, u.oneCell' = true) (hroom : n + m ≤ cap)
    (h : ∀ w', w'.ownsRow base e size (.slice (some ⟨g, 0, none⟩) (n + m) cap) (n + m) (xs ++ news) → w.grownBy w' (some g) → wpList P ops Q rest (a.put o.dst (.slice (some ⟨g, 0, none⟩) (n + m) cap)) w') : wpList P ops Q (o :: rest) a w :=
  wpList_plain hgd fun K hK => by
    obtain ⟨w', hrun, r1, r2⟩ := run_append_fits (P := P) w base t o.type e i size hu hi hsz g n cap xs hown ad m c news hl hnews h1 hroom
    unfold Oper.wp
    simp [execOp, ho, resolve, invoke, builtin, hs, hx, hrun, Result.andThen]
    exact hK _ _ (h w' r1 r2)
end

theorem exec_lowW2 {P : Program} {o : Oper} {a : Act} {t e : TypeId} {x y : Operand} {p q : Option Addr} {n c k z : Nat} (hq : shiftz p c k z = q) (ho : o.op = .slice t x (some y) none none) (hx : a.eval x = .slice p n c) (hy : a.eval y = .int .i64 (k : Int)) (hu : P.underlying t = some (.slice e)) (hs : (P.info? e).map (·.size) = some z) (hk : k ≤ n) (w : World) :
    (execOp a.eval o).run P w = .ok (.value (.slice q (n - k) (c - k))) w := by
  rw [← hq]
  exact exec_low ho hx hy hu hs hk w
theorem zero_rule8 (i : Nat) (h : i < 8) : (zeroRule.toArray[i]!).oneCell' = true := by
  rcases (show i = 0 ∨ i = 1 ∨ i = 2 ∨ i = 3 ∨ i = 4 ∨ i = 5 ∨ i = 6 ∨ i = 7 by omega) with rfl | rfl | rfl | rfl | rfl | rfl | rfl | rfl <;> rfl
theorem zcells8R (n : Nat) : ((Builtin.zeroCells zeroRule.toArray n).toList).length = n * 8 ∧ ∀ v ∈ (Builtin.zeroCells zeroRule.toArray n).toList, v.oneCell' = true := by
  have hz : zeroRule.toArray.size = 8 := rfl
  refine ⟨by simp [Builtin.zeroCells, hz], fun v hv => ?_⟩
  unfold Builtin.zeroCells at hv
  rw [Array.toList_map] at hv
  obtain ⟨i, _, rfl⟩ := List.mem_map.1 hv
  have h2 : i % 8 < 8 := Nat.mod_lt _ (by decide)
  rw [hz]
  exact zero_rule8 _ h2
theorem run_clear_rules {w : World} {g off m c : Nat} {vs : List Value} {T : TypeId} (hb : Blk w g vs T) (hm : 0 < m) (hfit : off + m * 8 ≤ vs.length) :
    ∃ zs, zs.length = m * 8 ∧ ∀ ty, (Builtin.clear_ #[22] ty #[.slice (some ⟨g, off, none⟩) m c]).run Tryz.prog w = .ok (.tuple #[]) (w.setRow g (splice vs off zs).toArray) := by
  have hv : (zeroValue 50).run Tryz.prog w = .ok (.agg zeroRule.toArray) w := by kernel_rfl
  obtain ⟨h1, h2⟩ := zcells8R m
  obtain ⟨Z, hZ⟩ : ∃ Z, zeroRule.toArray = Z := ⟨_, rfl⟩
  rw [hZ] at hv h1 h2
  clear hZ
  refine ⟨_, h1, fun ty => ?_⟩
  have hst := run_storeCells_at Tryz.prog g off T _ 0 vs.toArray w hb (by rw [h1]; simpa using hfit) h2
  simp only [Nat.add_zero, List.toList_toArray] at hst
  obtain ⟨k, rfl⟩ : ∃ k, m = k + 1 := ⟨m - 1, by omega⟩
  simp [Builtin.clear_, run_underlying Tryz.underlying22, hv, Value.cells, hst, splice]
theorem rulesV_take : ∀ (ls : List RuleR) (k : Nat), (rulesV ls).take (k * 8) = rulesV (ls.take k)
  | ls, 0 => by simp [rulesV]
  | [], k + 1 => by simp [rulesV]
  | x :: ls, k + 1 => by
    have e : rulesV (x :: ls) = x.v ++ rulesV ls := rfl
    have e2 : rulesV (x :: ls.take k) = x.v ++ rulesV (ls.take k) := rfl
    rw [List.take_succ_cons, e, e2, ← rulesV_take ls k, List.take_append, List.take_of_length_le (by rw [RuleR.len]; omega), RuleR.len, show (k + 1) * 8 - 8 = k * 8 by omega]
theorem rulesV_drop : ∀ (ls : List RuleR) (k : Nat), (rulesV ls).drop (k * 8) = rulesV (ls.drop k)
  | ls, 0 => by simp
  | [], k + 1 => by simp [rulesV]
  | x :: ls, k + 1 => by
    have e : rulesV (x :: ls) = x.v ++ rulesV ls := rfl
    rw [List.drop_succ_cons, e, ← rulesV_drop ls k, List.drop_append, List.drop_of_length_le (by rw [RuleR.len]; omega), List.nil_append, RuleR.len, show (k + 1) * 8 - 8 = k * 8 by omega]

set_option maxRecDepth 100000 in
set_option maxHeartbeats 2000000 in
theorem deleteR_c (es : List RuleR) (B q n cap i : Nat) (w : World) (hn : es.length = n) (hi : i < n) (hn1 : n ≤ 1000) (own : w.ownsRow B 50 8 (.slice (some ⟨q, 0, none⟩) n cap) n (rulesV es)) :
    Calls Tryz.prog 42 #[.slice (some ⟨q, 0, none⟩) n cap, .int .i64 (i : Int), .int .i64 ((i + 1 : Nat) : Int)] w fun e w' =>
      e = .returned (.slice (some ⟨q, 0, none⟩) (n - 1) cap) ∧ w'.ownsRow B 50 8 (.slice (some ⟨q, 0, none⟩) (n - 1) cap) (n - 1) (rulesV (es.eraseIdx i)) ∧ w.grownBy w' (some q) := by
  obtain ⟨i0, hi0, hz0, hsz, hb1⟩ := info_parts info_rule
  have HI0 := hid hi0
  obtain ⟨rest, hb, hlen, hrl, hB, hnc, hcm⟩ := own_blockW own
  have HB := hid hb
  have ho1 := own_prefixW own (k := i) (by omega) (by omega)
  rw [rulesV_take] at ho1
  have O1 := hid ho1
  have htd : rulesV (es.take i) ++ rulesV (es.drop (i + 1)) = rulesV (es.eraseIdx i) := by rw [← rulesV_append, List.eraseIdx_eq_take_drop_succ]
  have HTD := hid htd
  have hdl : (rulesV (es.drop (i + 1))).length = (n - (i + 1)) * 8 := by rw [rulesV_length, List.length_drop, hn]; omega
  have HDL := hid hdl
  obtain ⟨qa, hqa⟩ : ∃ qa, shiftz (some ⟨q, 0, none⟩) cap (i + 1) 8 = some qa := by
    unfold shiftz
    split
    · exact ⟨_, rfl⟩
    · exact ⟨_, rfl⟩
  have hnews : ∀ w' : World, (w'.heap[q]? = w.heap[q]?) → ∀ j u, (rulesV (es.drop (i + 1)))[j]? = some u → w'.cell? (qa.add j) = some u := by
    intro w' hw j u hu
    have hj := (List.getElem?_eq_some_iff.1 hu).1
    rw [hdl] at hj
    have hne : ¬ cap = i + 1 := by intro h; have : n - (i + 1) = 0 := by omega
                                   rw [this] at hj; omega
    unfold shiftz at hqa
    rw [if_neg hne, Option.map_some, addr_add, Nat.zero_add] at hqa
    injection hqa with hqa
    rw [← hqa, addr_add]
    refine (Blk.keptW hb hw).cell' ?_
    have h2 : (rulesV es)[(i + 1) * 8 + j]? = some u := by
      rw [← List.getElem?_drop, rulesV_drop]; exact hu
    rw [List.getElem?_append_left (List.getElem?_eq_some_iff.1 h2).1]
    exact h2
  have HNEWS := hid hnews
  have o1 := rulesV_one (es.drop (i + 1))
  have HQA := hid hqa
  obtain ⟨q3, hq3⟩ : ∃ q3, shiftz (some ⟨q, 0, none⟩) n i 8 = q3 := ⟨_, rfl⟩
  have HQ3 := hid hq3
  have HQ2 := hid (show shiftz (some ⟨q, 0, none⟩) cap (n - 1) 8 = some ⟨q, (n - 1) * 8, none⟩ by
    unfold shiftz
    rw [if_neg (by omega), Option.map_some, addr_add, Nat.zero_add])
  have hw1 : IntKind.i64.wrap ((i : Int) + 1) = ((i + 1 : Nat) : Int) := by rw [IntWalk.i64_in _ (by omega)]; omega
  have hne : ((i : Int) == ((i + 1 : Nat) : Int)) = false := by simp; omega
  have hne2 : (i == i + 1) = false := by simp
  have hic : i ≤ cap := by omega
  have hin1 : i + 1 ≤ n := by omega
  clear own hb ho1 htd hdl hqa hnews hq3 hi0
  obtain ⟨i1, hi1⟩ : ∃ i1, i + 1 = i1 := ⟨_, rfl⟩
  rw [hi1] at HQA HTD HDL HNEWS hw1 hne hne2 hin1 o1 ⊢
  have HI1 := hid hi1
  have hii : i ≤ i1 := by omega
  clear hi1 hrl
  go_enter Tryz.func42, Tryz.ntmps42
  go_wp2_with (first | (refine wpl_run rfl (exec_slice3W (k := i) (h := i1) (M := n) rfl rfl rfl rfl rfl Tryz.underlying22 size_rule hii hin1 hnc HQ3.out _) ?_))
  obtain ⟨C, hC⟩ : ∃ C : World → Prop, C = Cls w w [] [] := ⟨_, rfl⟩
  have hC0 : ∀ w', C w' ↔ Cls w w [] [] w' := fun w' => by rw [hC]
  clear hC
  have HCC := hid hC0
  clear hC0
  have hCx : ∀ w w', C w → Ext w w' → C w' := fun w w' h1 h2 => (HCC.out w').2 (((HCC.out w).1 h1).ext h2)
  have hCA : C w := (HCC.out _).2 (Cls.no_room (Ext.refl w) (Kept.none _))
  have hq0 : ∀ w1, C w1 → w1.heap[q]? = w.heap[q]? := fun w1 h1 => (((HCC.out w1).1 h1).base).block q HB.out.lt
  refine wp_region_w (S := C) (W := [6]) (by kernel_rfl) (hCx _ _ hCA (Ext.refl _).drew) (fun hS0 => ?_)
  refine w_pure 0 (v := ?tv61) rfl (by kernel_rfl) (by kernel_rfl) (by kernel_rfl) (fun _ _ _ h => h) (.inl ⟨rfl, ?ty61⟩) ?tr61
  case ty61 => (intro _ _; go_simp; try with_reducible rfl)
  case tr61 =>
  simp only [Act.put, List.setIfInBounds_toArray, List.set_cons_succ, List.set_cons_zero]
  refine w_pure 1 (v := ?tv62) rfl (by kernel_rfl) (by kernel_rfl) (by kernel_rfl) (fun _ _ _ h => h) (.inl ⟨rfl, ?ty62⟩) ?tr62
  case ty62 => (intro _ _; go_simp; try with_reducible rfl)
  case tr62 =>
  simp only [Act.put, List.setIfInBounds_toArray, List.set_cons_succ, List.set_cons_zero]
  refine w_pure 2 (v := _) rfl (by kernel_rfl) (by kernel_rfl) (by kernel_rfl) (fun _ _ _ h => h) (yieldsI_run rfl (fun w1 _ => exec_high (k := i) rfl rfl rfl Tryz.underlying22 size_rule hic w1)) ?_
  simp only [Act.put, List.setIfInBounds_toArray, List.set_cons_succ, List.set_cons_zero]
  refine w_pure 3 (v := ?tv63) rfl (by kernel_rfl) (by kernel_rfl) (by kernel_rfl) (fun _ _ _ h => h) (.inl ⟨rfl, ?ty63⟩) ?tr63
  case ty63 => (intro _ _; go_simp; try with_reducible rfl)
  case tr63 =>
  simp only [Act.put, List.setIfInBounds_toArray, List.set_cons_succ, List.set_cons_zero]
  refine w_pure 4 (v := ?tv64) rfl (by kernel_rfl) (by kernel_rfl) (by kernel_rfl) (fun _ _ _ h => h) (.inl ⟨rfl, ?ty64⟩) ?tr64
  case ty64 => (intro _ _; go_simp; try with_reducible rfl)
  case tr64 =>
  simp only [Act.put, List.setIfInBounds_toArray, List.set_cons_succ, List.set_cons_zero]
  refine w_pure 5 (v := _) rfl (by kernel_rfl) (by kernel_rfl) (by kernel_rfl) (fun _ _ _ h => h) (yieldsI_run rfl (fun w1 _ => exec_lowW2 (k := i1) HQA.out rfl rfl rfl Tryz.underlying22 size_rule hin1 w1)) ?_
  simp only [Act.put, List.setIfInBounds_toArray, List.set_cons_succ, List.set_cons_zero]
  have EG := hid (((HCC.out _).1 hS0).base)
  have HN2 := hid (HNEWS.out _ (hq0 _ hS0))
  have O2 := hid (own_keepW O1.out (fun z hz => by cases hz; exact hq0 _ hS0))
  clear hS0 hq0 HNEWS O1 HB
  generalize w.drew = wG at *
  refine w_late (i := 6) (by kernel_rfl) rfl (by kernel_rfl) ?_
  intro Q' hQ
  go_wp2_with (at_builtin; refine wpl_append_fitsW rfl _ _ 22 50 rfl B Tryz.underlying22 HI0.out hsz rfl rfl O2.out HDL.out HN2.out o1 (by omega) ?_)
  intro w2 own2 gr2
  rw [HTD.out, show i + (n - i1) = n - 1 by have := HI1.out; omega] at own2
  have G2 := hid (gby_andThenW EG.out gr2)
  obtain ⟨rest2, hb2, hlen2, hrl2, _, _, _⟩ := own_blockW own2
  clear O2 HN2 gr2 own2 EG
  go_wp2_with fail
  refine hQ _ _ trivial ?_
  clear hQ Q'
  refine w_pure 7 (v := ?tv65) rfl (by kernel_rfl) (by kernel_rfl) (by kernel_rfl) (fun _ _ _ h => h) (.inl ⟨rfl, ?ty65⟩) ?tr65
  case ty65 => (intro _ _; go_simp; try with_reducible rfl)
  case tr65 =>
  simp only [Act.put, List.setIfInBounds_toArray, List.set_cons_succ, List.set_cons_zero]
  refine w_done (by kernel_rfl) ?_ _
  have hsum : i + (n - i1) = n - 1 := by have := HI1.out; omega
  rw [hsum]
  obtain ⟨N, hN⟩ : ∃ N, n - 1 = N := ⟨_, rfl⟩
  rw [hN] at HQ2 hrl2 ⊢
  have HNN := hid hN
  clear hN
  obtain ⟨zs, hzl, hcl⟩ := run_clear_rules (c := cap - N) hb2 (show 0 < n - N by have := HNN.out; omega) (show N * 8 + (n - N) * 8 ≤ (rulesV (es.eraseIdx i) ++ rest2).length by rw [hlen2, ← Nat.add_mul]; exact Nat.mul_le_mul_right 8 (by have := HNN.out; omega))
  have hsp : splice (rulesV (es.eraseIdx i) ++ rest2) (N * 8) zs = rulesV (es.eraseIdx i) ++ (zs ++ (rulesV (es.eraseIdx i) ++ rest2).drop (N * 8 + zs.length)) := by
    unfold splice
    rw [List.take_append_of_le_length (by rw [hrl2]; exact Nat.le_refl _), List.take_of_length_le (by rw [hrl2]; exact Nat.le_refl _), List.append_assoc]
  have b3 := Blk.setRow hb2 (splice (rulesV (es.eraseIdx i) ++ rest2) (N * 8) zs)
  have u3 : Upd w2 q (w2.setRow q (splice (rulesV (es.eraseIdx i) ++ rest2) (N * 8) zs).toArray) := Upd.setRow _
  have hl3 : (splice (rulesV (es.eraseIdx i) ++ rest2) (N * 8) zs).length = cap * 8 := by
    unfold splice
    rw [List.length_append, List.length_append, List.length_take, List.length_drop, hlen2, hzl]
    have h1 : N * 8 + (n - N) * 8 ≤ cap * 8 := by rw [← Nat.add_mul]; exact Nat.mul_le_mul_right 8 (by have := HNN.out; omega)
    omega
  rw [hsp] at b3 u3 hl3
  simp only [hsp] at hcl
  have hcap : N ≤ cap := by have := HNN.out; omega
  have own3 := own_mkS b3 hl3 hrl2 hB hcap hcm
  generalize w2.setRow q (rulesV (es.eraseIdx i) ++ (zs ++ (rulesV (es.eraseIdx i) ++ rest2).drop (N * 8 + zs.length))).toArray = w3 at *
  have G3 := hid (gby_upd G2.out u3)
  have O3 := hid own3
  have hNn : N ≤ n := by have := HNN.out; omega
  clear b3 u3 hsp hzl hl3 own3 hb2 hlen2 hrl2 G2
  go_wp2_with (first | (refine wpl_run rfl (exec_slice2W (k := N) (h := n) rfl rfl rfl rfl Tryz.underlying22 size_rule hNn hnc HQ2.out _) ?_) | (simp only [hcl]))
  go_ret
  have hN := HNN.out
  subst hN
  exact ⟨rfl, O3.out, G3.out⟩
end

section
open Go Go.RowKit

set_option maxRecDepth 100000 in
set_option maxHeartbeats 1000000 in
theorem cloneRules_c (rs : List RuleR) (a : Option Addr) (n c : Nat) (w : World) (hl : rs.length = n) (hn : n ≤ 1000) (hcl : Cells w a (rulesV rs)) :
    Calls Tryz.prog 77 #[.slice a n c] w fun e w' => ∃ v, e = .returned v ∧ w'.ownsRow w.heap.size 50 8 v n (rulesV rs) ∧ Ext w w' := by
  have HC := hid hcl
  have HL := hid hl
  have HT := hid elem_rule
  have q26 : ∀ (w : World) (a : Option Addr) (n c n' c' : Nat), (binOp .eql 22 (.slice a n c) (.slice none n' c')).run Tryz.prog w = .ok (.bool a.isNone) w := fun w a n c n' c' => Lib.run_eql_slice_nil w _ _ a n c n' c' Tryz.underlying22
  cases a with
  | none =>
    have hx : rulesV rs = [] := by
      rcases hcl with h | ⟨_, _, h, _⟩
      · exact h
      · cases h
    have hn0 : n = 0 := by
      have := rulesV_length rs
      rw [hx, hl] at this
      simp at this
      omega
    subst hn0
    have HX := hid hx
    clear hl hcl hx
    go_enter Tryz.func77, Tryz.ntmps77
    go_wp2
    go_ret
    exact ⟨_, rfl, by rw [HX.out]; exact ⟨rfl, .inl ⟨rfl, rfl⟩⟩, Ext.refl _⟩
  | some A =>
    clear hl hcl
    go_enter Tryz.func77, Tryz.ntmps77
    go_wp2_with (refine wpl_appendN (n := 0) (m := n) (c := c) (xs := []) (news := rulesV rs) HT.out rfl _ _ rfl w.heap.size rfl rfl (World.ownsRow_made w #[] 0 (Nat.le_refl _) (Nat.zero_le _) (by simp)) (by rw [rulesV_length, HL.out, Nat.mul_comm]) (HC.out.ext ((Ext.refl w).alloc _)) (rulesV_one _) (by omega) (by omega) (by rw [size_allocW]; omega) ?_)
    intro v' w1 hown hgrow hnil
    have e1 : Ext w w1 := ((Ext.refl w).alloc _).grown hgrow (by intro k hk; simp [Value.ownBlock] at hk; omega)
    have HO : Hid (w1.ownsRow w.heap.size 50 8 v' n (rulesV rs)) := hid (by simpa using hown)
    clear hgrow hown hnil
    go_wp2
    go_ret
    exact ⟨v', rfl, HO.out, e1⟩

theorem own_someW {w : World} {B n : Nat} {e : TypeId} {z : Nat} {v : Value} {xs : List Value} (h : w.ownsRow B e z v n xs) (hn : 0 < n) : ∃ q cap, v = .slice (some ⟨q, 0, none⟩) n cap ∧ B ≤ q := by
  rcases h.2 with ⟨_, h0⟩ | ⟨q, cap, cur, hv, hB, _⟩
  · omega
  · exact ⟨q, cap, hv, hB⟩

set_option maxRecDepth 100000 in
set_option maxHeartbeats 1000000 in
theorem without_c (pa : Option Addr) (pn pc : Nat) (rs : List RuleR) (R : Nat) (w : World) (hp : PolOk w pa pn pc rs) (hn : pn ≤ 1000) (hR : R < pn) :
    Calls Tryz.prog 47 #[.agg #[.slice pa pn pc], .int .i64 (R : Int)] w fun e w' => ∃ a c, e = .returned (.agg #[.slice a (pn - 1) c]) ∧ PolOk w' a (pn - 1) c (rs.eraseIdx R) ∧ w'.ownsRow w.heap.size 50 8 (.slice a (pn - 1) c) (pn - 1) (rulesV (rs.eraseIdx R)) ∧ Ext w w' := by
  have HP := hid hp
  clear hp
  have hw1 : IntKind.i64.wrap ((R : Int) + 1) = ((R + 1 : Nat) : Int) := by rw [IntWalk.i64_in _ (by omega)]; omega
  go_enter Tryz.func47, Tryz.ntmps47
  go_upto_region 1 with (fail)
  generalize hwA : World.alloc (World.alloc w _) _ = wA
  have bA : Blk wA w.heap.size [.slice pa pn pc] 24 := by rw [← hwA]; exact (Blk.mk_alloc rfl rfl).alloc _
  have zA : Blk wA (w.heap.size + 1) [.slice none 0 0] 24 := by rw [← hwA]; exact Blk.mk_alloc (size_allocW _ _).symm rfl
  have eA : Ext w wA := by rw [← hwA]; exact ((Ext.refl w).alloc _).alloc _
  have ZA := hid zA
  have EA := hid eA
  have PA := hid (HP.out.ext eA)
  have c0 := bA.cell' (i := 0) rfl
  clear hwA bA zA eA
  go_wp2_with fail
  refine (cloneRules_c rs pa pn pc wA PA.out.hl hn PA.out.cell).mono ?_
  rintro e w1 ⟨v, rfl, own, e1⟩
  obtain ⟨q, cap, rfl, hq⟩ := own_someW own (by omega)
  have OWN := hid own
  have E1 := hid (EA.out.ext e1)
  have Z1 := hid (ZA.out.ext e1)
  have E01 := hid e1
  have hsz : w.heap.size + 1 < wA.heap.size := ZA.out.lt
  have HSZ := hid hsz
  clear own e1 EA ZA c0 hsz
  go_wp2_with fail
  refine (deleteR_c rs wA.heap.size q pn cap R w1 PA.out.hl hR hn OWN.out).mono ?_
  rintro e w2 ⟨rfl, own2, g2⟩
  have E2 := hid (E1.out.grown g2 (fun z hz => by cases hz; have := HSZ.out; omega))
  have Z2 := hid (Z1.out.grown g2 (by intro h; cases h; have := HSZ.out; omega))
  have hlen : (rs.eraseIdx R).length = pn - 1 := by rw [List.length_eraseIdx_of_lt (by rw [HP.out.hl]; exact hR), HP.out.hl]
  have HLEN := hid hlen
  have OWN2 := hid own2
  clear own2 g2 hlen Z1 E1 E01 OWN PA
  go_wp2_with (refine wpl_storew rfl _ (.tmp 4) _ rfl rfl rfl Z2.out agg_polW rfl (xs := [.slice (some ⟨q, 0, none⟩) (pn - 1) cap]) rfl (by simp [Value.oneCell']) ?_)
  intro w3 b3 u3
  have e3 : Ext w w3 := u3.ext E2.out (by omega)
  go_wp2_with fail
  refine ret_row rfl rfl b3 agg_polW rfl rfl ⟨_, _, rfl, ?_, own_monoW (own_keepW OWN2.out (w' := w3) (fun p hp => by cases hp; exact u3.block _ (by have := HSZ.out; show q ≠ _; omega))) (by have := HSZ.out; omega), e3⟩
  obtain ⟨ca, cc, hv, hac, _, hcell⟩ := own_cellsA (own_keepW OWN2.out (w' := w3) (fun p hp => by cases hp; exact u3.block _ (by have := HSZ.out; show q ≠ _; omega)))
  cases hv
  exact ⟨HLEN.out, hac, by omega, hcell, fun r hr => (HP.out.ok r (List.mem_of_mem_eraseIdx hr)).ext e3⟩
end

section
open Go Go.RowKit

set_option maxRecDepth 100000 in
set_option maxHeartbeats 1000000 in
theorem indexFA_c (p : AskP → Bool) (g : Nat) (lb : Array Value) (xs : List AskR) (a : Option Addr) (n c : Nat) (w : World) (eg : ∀ args w, (callFunc g args).run Tryz.prog w = .ok (.enter g args) w) (hn : n ≤ 100000) (hx : AsksOk w a n c xs)
    (hp : ∀ y ∈ xs, ∀ w', Ext w w' → y.Ok w' → Calls Tryz.prog g (#[.agg y.v.toArray] ++ lb) w' fun e w'' => e = .returned (.bool (p y.p)) ∧ Ext w' w'') :
    Calls Tryz.prog 76 #[.slice a n c, .func (.func g) #[] lb] w fun e w' => ∃ z : Int, e = .returned (.int .i64 z) ∧ decide (0 ≤ z) = (xs.map AskR.p).any p ∧ Ext w w' := by
  have HX := hid hx
  have HP := hid hp
  have HAG := hid agg_ask
  clear hx hp
  go_enter Tryz.func76, Tryz.ntmps76
  go_wp2
  go_loopw [8] (fun i wr => ∃ k : Nat, k ≤ n ∧ i = .int .i64 (k : Int) ∧ ((xs.map AskR.p).take k).any p = false ∧ Ext w wr) (fun i _ => n - (intOf i).toNat)
  case atStart => exact ⟨0, by omega, rfl, by simp, Ext.refl _⟩
  case round =>
    obtain ⟨k, hk, rfl, hpre, e1⟩ := hrel
    have E1 := hid e1
    have HPR := hid hpre
    clear e1 hpre
    by_cases hlt : k < n
    · obtain ⟨x, hxk⟩ : ∃ x, xs[k]? = some x := ⟨xs[k]'(by rw [HX.out.hl]; exact hlt), by simp⟩
      obtain ⟨A, rfl, hca⟩ := (HX.out.ext E1.out).at hxk
      have HCA := hid hca
      have hxo := (HX.out.ext E1.out).ok x (List.mem_of_getElem? hxk)
      have HXL := hid (AskR.len hxo)
      have hcall := hid (HP.out x (List.mem_of_getElem? hxk) wr E1.out hxo)
      have hpk : (xs.map AskR.p)[k]? = some x.p := by rw [List.getElem?_map, hxk]; rfl
      have HS := hid (show ((xs.map AskR.p).take (k + 1)).any p = p x.p by rw [any_take p hpk, HPR.out, Bool.false_or])
      have hany : p x.p = true → (xs.map AskR.p).any p = true := fun h => any_hit p hpk h
      clear hca hxk hpk hxo
      cases hq : p x.p with
      | true =>
        rw [hq] at hcall
        have HR := hid (hany hq)
        clear hany hq HS
        go_wp2_with (first | (refine wpl_run rfl (exec_index (i := k) rfl rfl rfl Tryz.underlying26 size_ask hlt _) ?_) | (refine wpl_run rfl (exec_load_at rfl rfl HCA.out HAG.out HXL.out) ?_))
        refine hcall.out.mono ?_
        rintro e w' ⟨rfl, e2⟩
        go_wp2_with fail
        go_ret
        exact ⟨_, rfl, by rw [HR.out]; exact decide_eq_true (by omega), E1.out.ext e2⟩
      | false =>
        rw [hq] at hcall HS
        clear hany hq
        go_wp2_with (first | (refine wpl_run rfl (exec_index (i := k) rfl rfl rfl Tryz.underlying26 size_ask hlt _) ?_) | (refine wpl_run rfl (exec_load_at rfl rfl HCA.out HAG.out HXL.out) ?_))
        refine hcall.out.mono ?_
        rintro e w' ⟨rfl, e2⟩
        go_wp2_with fail
        have E2 := hid (E1.out.ext e2)
        clear e2
        go_roundw
        case rel => exact ⟨k + 1, by omega, by go_num, HS.out, E2.out⟩
        case measure => simp [intOf]; omega
    · obtain rfl : k = n := by omega
      have hres := HPR.out
      rw [List.take_of_length_le (by rw [List.length_map, HX.out.hl]; exact Nat.le_refl _)] at hres
      have HR := hid hres
      clear hres
      go_wp2
      go_ret
      exact ⟨-1, rfl, by rw [HR.out]; rfl, E1.out⟩

set_option maxHeartbeats 1000000 in
theorem containsFA_c (p : AskP → Bool) (g : Nat) (lb : Array Value) (xs : List AskR) (a : Option Addr) (n c : Nat) (w : World) (eg : ∀ args w, (callFunc g args).run Tryz.prog w = .ok (.enter g args) w) (hn : n ≤ 100000) (hx : AsksOk w a n c xs)
    (hp : ∀ y ∈ xs, ∀ w', Ext w w' → y.Ok w' → Calls Tryz.prog g (#[.agg y.v.toArray] ++ lb) w' fun e w'' => e = .returned (.bool (p y.p)) ∧ Ext w' w'') :
    Calls Tryz.prog 43 #[.slice a n c, .func (.func g) #[] lb] w fun e w' => e = .returned (.bool ((xs.map AskR.p).any p)) ∧ Ext w w' := by
  have hi := hid (indexFA_c p g lb xs a n c w eg hn hx hp)
  clear hp hx eg
  generalize (xs.map AskR.p).any p = b at *
  generalize Value.func (.func g) #[] lb = fv at *
  go_enter Tryz.func43, Tryz.ntmps43
  go_wp2_with fail
  refine hi.out.mono ?_
  rintro e w1 ⟨z, rfl, hz, e1⟩
  have E1 := hid e1
  clear e1 hi
  go_wp2_with fail
  go_ret
  exact ⟨by first | rfl | rw [hz], E1.out⟩

set_option maxHeartbeats 1000000 in
theorem rlint1_c (r : RuleR) (a : AskR) (g T : Nat) (w : World) (hg : Blk w g r.v 50) (hr : r.Ok w) (ha : a.Ok w) (hT : a.time = (T : Int)) (hTb : T ≤ 1099511627776) (hE : ruleE r = 0) :
    Calls Tryz.prog 44 #[.agg a.v.toArray, .pointer (some ⟨g, 0, none⟩)] w fun e w' => e = .returned (.bool (meetP r a.p)) ∧ Ext w w' := by
  have HG := hid hg
  have HM := hid (fun W (h : Ext w W) => rmeets_c r a T W (hr.ext h) (ha.ext h) hT hTb (ruleE_labels hE) (ruleE_hours hE))
  have HRL := hid (RuleR.len r)
  have HAL := hid (AskR.len ha)
  have HMP := hid (meetP_of r a)
  have HAG := hid agg_ask
  have HRG := hid agg_rule
  clear hg hr ha hT hTb hE
  go_enter Tryz.func44, Tryz.ntmps44
  go_upto_region 1 with (fail)
  generalize hwA : World.alloc w _ = wA
  have bA : Blk wA w.heap.size a.v 40 := by rw [← hwA]; exact Blk.mk_alloc rfl rfl
  have eA : Ext w wA := by rw [← hwA]; exact (Ext.refl w).alloc _
  have BA := hid bA
  have EA := hid eA
  have GA := hid (HG.out.ext eA)
  clear hwA bA eA HG
  go_wp2_with (first | (refine wpl_loadw rfl 50 _ rfl rfl GA.out HRG.out HRL.out ?_) | (refine wpl_loadw rfl 40 _ rfl rfl BA.out HAG.out HAL.out ?_))
  refine (HM.out wA EA.out).mono ?_
  rintro e w1 ⟨rfl, e1⟩
  go_wp2_with fail
  go_ret
  exact ⟨by first | rfl | rw [HMP.out], EA.out.ext e1⟩
end

section
open Go Go.RowKit Go.Maps Go.MapKept Go.WideShapes

section
variable {w w' w0 : World} {B n : Nat} {v4 v5 v6 v' : Value} {l4 l5 m4 : List (List UInt8)} {l6 m6 : List Int}
theorem RInvW.set4 (h : RInvW w B v4 l4 v5 l5 v6 l6) (hn : m4.length = n) (ho : w'.ownsRow B 9 1 v' n (m4.map sv)) (hg : w.grownBy w' v4.ownBlock) (hb : v'.ownBlock = v4.ownBlock) : RInvW w' B v' m4 v5 l5 v6 l6 :=
  ⟨by rw [hn]; exact ho, Apart.keep h.ap h.r5 hg, Apart.keep (Apart.of_ty h.r4 h.r6 (by decide)) h.r6 hg, Apart.append h.ap h.r5 (.inl hb)⟩
theorem RInvW.set5 (h : RInvW w B v4 l4 v5 l5 v6 l6) (hn : m4.length = n) (ho : w'.ownsRow B 9 1 v' n (m4.map sv)) (hg : w.grownBy w' v5.ownBlock) (hb : v'.ownBlock = v5.ownBlock) : RInvW w' B v4 l4 v' m4 v6 l6 :=
  ⟨Apart.keep h.ap.symm h.r4 hg, by rw [hn]; exact ho, Apart.keep (Apart.of_ty h.r5 h.r6 (by decide)) h.r6 hg, (Apart.append h.ap.symm h.r4 (.inl hb)).symm⟩
theorem RInvW.set6 (h : RInvW w B v4 l4 v5 l5 v6 l6) (hn : m6.length = n) (ho : w'.ownsRow B 3 1 v' n (m6.map iv)) (hg : w.grownBy w' v6.ownBlock) : RInvW w' B v4 l4 v5 l5 v' m6 :=
  ⟨Apart.keep (Apart.of_ty h.r6 h.r4 (by decide)) h.r4 hg, Apart.keep (Apart.of_ty h.r6 h.r5 (by decide)) h.r5 hg, by rw [hn]; exact ho, h.ap⟩
end
/-- the sets under way, beside roles, labels, hours -/
structure PInvW (w : World) (B : Nat) (vo : Value) (ss : List SetR) (L4 L5 : SetR) (v6 : Value) (l6 : List Int) : Prop where
  out : OutI w B vo ss
  o4 : L4.Own w
  o5 : L5.Own w
  r6 : w.ownsRow B 3 1 v6 l6.length (l6.map iv)
section
variable {w w' w0 : World} {B N : Nat} {vo v6 v' : Value} {ss : List SetR} {L4 L5 s : SetR} {l6 : List Int} {l : List (List UInt8)} {o2 : Obj}
theorem PInvW.ext (h : PInvW w B vo ss L4 L5 v6 l6) (e : Ext w w') : PInvW w' B vo ss L4 L5 v6 l6 := ⟨h.out.ext e, h.o4.ext e, h.o5.ext e, own_extW h.r6 e⟩
theorem PInvW.push (h : PInvW w B vo ss L4 L5 v6 l6) (hs : s.Own w) (ho : w'.ownsRow B 36 1 v' (ss.length + 1) (ss.map SetR.v ++ [s.v])) (hg : w.grownBy w' vo.ownBlock) : PInvW w' B v' (ss ++ [s]) L4 L5 v6 l6 :=
  ⟨h.out.push hs ho hg, h.o4.beside h.out.row hg, h.o5.beside h.out.row hg, Apart.keep (Apart.of_ty h.out.row h.r6 (by decide)) h.r6 hg⟩
theorem PInvW.made (h : PInvW w B vo ss L4 L5 v6 l6) (hN : l.length = N) (hl : ∀ x ∈ l, x.length ≤ 140737488355328) (hn : N ≤ 1000000)
    (ho : w'.ownsRow B 36 1 v' (ss.length + 1) (ss.map SetR.v ++ [.slice (some ⟨w.heap.size, 0, none⟩) N N])) (hg : ((w.alloc (.cells (l.map sv).toArray 9)).alloc o2).grownBy w' vo.ownBlock) : PInvW w' B v' (ss ++ [⟨some ⟨w.heap.size, 0, none⟩, N, N, l⟩]) L4 L5 v6 l6 := by
  subst hN
  refine (h.ext (((Ext.refl w).alloc _).alloc _)).push (s := ⟨some ⟨w.heap.size, 0, none⟩, l.length, l.length, l⟩) (SetR.Own.made ?_ hl hn) ho hg
  exact (Blk.mk_alloc (by simp) rfl).alloc _
theorem PInvW.grow (h : PInvW w B vo ss L4 L5 v6 l6) (e : Ext w0 w) (hB : w0.heap.size ≤ B) (hg : w.grownBy w' vo.ownBlock) : Ext w0 w' :=
  e.grown hg (fun q hq => Nat.le_trans hB (h.out.row.lt q hq).1)
theorem PInvW.winv (h : PInvW w B vo ss L4 L5 v6 l6) (B2 : Nat) : WInv w B2 (.slice none 0 0) [] vo ss L5 v6 l6 := ⟨⟨rfl, .inl ⟨rfl, rfl⟩⟩, ⟨_, h.out⟩, h.o5, ⟨_, h.r6⟩⟩
end
theorem world_own2 {w : World} {B : Nat} {v vs vh : Value} {ss : List SetR} {L : SetR} {ls : List (List UInt8)} {hs : List Int} (h : WInv w B v (asksA ss ls hs) vs ss L vh hs) (hsm : ∀ s ∈ ss, s.roles.length ≤ 1700) (hl : ∀ l ∈ ls, l.length ≤ 140737488355328) : AsksI w B v (asksA ss ls hs) := by
  refine ⟨h.row, fun x hx => ?_⟩
  obtain ⟨s, hs, i, hi, l, hl2, z, hz2, rfl⟩ := asksA_mem hx
  obtain ⟨B2, h2⟩ := h.sets
  have ho := h2.own s hs
  have hsn : s.roles.length = s.n := (by
    obtain ⟨B3, h3⟩ := ho.row
    have := h3.1
    rw [List.length_map] at this
    omega)
  exact askW_own ho (by rw [← hsn]; exact Nat.le_trans (hsm s hs) (by decide)) (hl l hl2)
end
end Go.Proofs.YthfddfgncolnbaaGreat
