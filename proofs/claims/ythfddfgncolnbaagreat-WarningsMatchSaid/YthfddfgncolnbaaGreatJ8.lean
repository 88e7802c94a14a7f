/- Contracts and laws that the claim's row leans on (16 texts, joined): keyref1.Lint's second closure; conditions: the memory. keyref1.Lint; conditions: the memory, the rules are right. clones of strings and ints, policy.cloneRule; conditions: the memory. What Trim leaves, plain; no program. keyref1.Trim; conditions: the policy's memory, its check says OK, its world is not too large. The rule for regions whose order is drawn, with operations whose values are not known before and that look at each other's values; no condition. policy.Trim; conditions: the policy's memory. Equal rows of ints, warnings and rules, SamePolicy, few; conditions: the memory. keylaw1.WarningsMatch answers true; conditions: the policy's memory. Readings of arguments are opened; no condition. Readings of slices of octets are opened; no condition. Readings of slices of rows of 32 octets, and of a struct of two ints and such a slice, are opened; no condition. Readings of rows of strings and of parts of structs, with their sizes (taken out of O9); no condition. Readings of rules and asks are opened; no condition. Readings of asks, of lists of rules, and of both as arguments, are opened; no condition. Approvals as values, what is found of them in order, and the members counted; no condition. -/
import Derived.Test.YthfddfgncolnbaaGreatJ7
import Derived.Deep.CutBlock
import Derived.Laws.StructEq
import Derived.ProofKit
import Derived.OpenShut
import Derived.ChangeSlices
import Derived.WideShapes
import Derived.SizedLaws
import Derived.Deep.Strs
import Derived.WideKeyArr
namespace Go.Proofs.YthfddfgncolnbaaGreat
section
open Go Go.RowKit

set_option maxRecDepth 100000 in
set_option maxHeartbeats 4000000 in
theorem rlint2_c (pa : Option Addr) (pn pc : Nat) (rs : List RuleR) (R : Nat) (x : AskR) (gp gi T : Nat) (w : World) (hgp : Blk w gp [.slice pa pn pc] 24) (hgi : Blk w gi [.int .i64 (R : Int)] 3) (hp : PolOk w pa pn pc rs) (hx : x.Ok w) (hz : ∀ r ∈ rs, ruleE r = 0) (hn : pn ≤ 1000) (hR : R < pn) (hT : x.time = (T : Int)) (hTb : T ≤ 1099511627776) :
    Calls Tryz.prog 45 #[.agg x.v.toArray, .pointer (some ⟨gp, 0, none⟩), .pointer (some ⟨gi, 0, none⟩)] w fun e w' => e = .returned (.bool (difP rs (rs.eraseIdx R) x.p)) ∧ Ext w w' := by
  have HWI := hid (fun W (h : Ext w W) => without_c pa pn pc rs R W (hp.ext h) hn hR)
  have HOT := hid (fun W (h : Ext w W) qa qc (hq : PolOk W qa (pn - 1) qc (rs.eraseIdx R)) => otherwise_c pa pn pc rs qa (pn - 1) qc (rs.eraseIdx R) x T W (hp.ext h) hq (hx.ext h) hz (fun r hr => hz r (List.mem_of_mem_eraseIdx hr)) hT hTb)
  have HGP := hid hgp
  have HGI := hid hgi
  have HXL := hid (AskR.len hx)
  have HAG := hid agg_ask
  clear hgp hgi hp hx hz hT
  go_enter Tryz.func45, Tryz.ntmps45
  go_upto_region 1 with (fail)
  generalize hwA : World.alloc w _ = wB
  have bX : Blk wB w.heap.size x.v 40 := by rw [← hwA]; exact Blk.mk_alloc rfl rfl
  have eB : Ext w wB := by rw [← hwA]; exact (Ext.refl w).alloc _
  have BX := hid bX
  have EB := hid eB
  have PB := hid (HGP.out.ext eB)
  have IB := hid (HGI.out.ext eB)
  clear hwA bX eB HGP HGI
  have hlv := HXL.out
  obtain ⟨G, hG⟩ : ∃ G : Nat → Value → World → Prop, G = fun _ v W => ∃ a c, v = .agg #[.slice a (pn - 1) c] ∧ PolOk W a (pn - 1) c (rs.eraseIdx R) := ⟨_, rfl⟩
  have HG := hid hG
  have hGm : ∀ (k : Nat) (v : Value) (W W' : World), G k v W → Ext W W' → G k v W' := by
    intro k v W W' h e
    rw [hG] at h ⊢
    obtain ⟨a, c, h1, h2⟩ := h
    exact ⟨a, c, h1, h2.ext e⟩
  clear hG
  obtain ⟨C, hC⟩ : ∃ C : World → Prop, C = fun w' => Ext wB w' := ⟨_, rfl⟩
  have hC0 : ∀ w', C w' ↔ Ext wB w' := fun w' => by rw [hC]
  clear hC
  have HCC := hid hC0
  clear hC0
  have hCx : ∀ w w', C w → Ext w w' → C w' := fun w w' h1 h2 => (HCC.out w').2 (((HCC.out w).1 h1).ext h2)
  refine wp_region_un (C := C) 5 [3] G (by kernel_rfl) (by kernel_rfl) (by kernel_rfl) ((HCC.out _).2 (Ext.refl wB).drew) hGm ?_
  simp only [List.take_succ_cons, List.take_zero, List.drop_succ_cons, List.drop_zero]
  refine wpQU_do rfl rfl _ (yieldsE_loadw _ _ rfl rfl (fun w1 h => PB.out.ext ((HCC.out w1).1 h)) agg_polW rfl) ?_
  simp only [Act.put, List.setIfInBounds_toArray, List.set_cons_succ, List.set_cons_zero]
  refine wpQU_do rfl rfl _ (yieldsE_loadw _ _ rfl rfl (fun w1 h => PB.out.ext ((HCC.out w1).1 h)) agg_polW rfl) ?_
  simp only [Act.put, List.setIfInBounds_toArray, List.set_cons_succ, List.set_cons_zero]
  refine wpQU_do rfl rfl _ (yieldsE_run (fun w1 h => exec_load_oneU rfl rfl ((IB.out.ext ((HCC.out w1).1 h)).cell' (i := 0) rfl) one_tI)) ?_
  simp only [Act.put, List.setIfInBounds_toArray, List.set_cons_succ, List.set_cons_zero]
  refine wpQU_un rfl rfl (yieldsU_call (args := #[.agg #[.slice pa pn pc], .int .i64 (R : Int)]) rfl Tryz.call47 (by simp [Act.eval]) (fun W h => ?_) hCx) ?_
  · rw [HG.out]
    refine (HWI.out W (EB.out.ext ((HCC.out W).1 h))).mono ?_
    rintro e w1 ⟨a, c, rfl, h1, _, h2⟩
    exact ⟨_, rfl, ⟨a, c, rfl, h1⟩, h2⟩
  simp only [Act.put, List.setIfInBounds_toArray, List.set_cons_succ, List.set_cons_zero]
  refine wpQU_do rfl rfl _ (yieldsE_loadw _ _ rfl rfl (fun w1 h => BX.out.ext ((HCC.out w1).1 h)) HAG.out hlv) ?_
  simp only [Act.put, List.setIfInBounds_toArray, List.set_cons_succ, List.set_cons_zero]
  refine wpQU_nil ?_
  intro us w2 hw2 hus
  have h3 := hus 3 (by simp)
  rw [HG.out] at h3
  obtain ⟨qa, qc, h3, hq⟩ := h3
  simp only [putUn, dstOf, Act.put, List.getElem?_toArray, List.getElem?_cons_succ, List.getElem?_cons_zero, Option.bind_some, List.setIfInBounds_toArray, List.set_cons_succ, List.set_cons_zero]
  rw [h3]
  have E2 := hid (EB.out.ext ((HCC.out w2).1 hw2))
  have Q2 := hid hq
  clear hus hw2 h3 hq hCx HCC hGm HG
  go_wp2_with fail
  refine (HOT.out w2 E2.out qa qc Q2.out).mono ?_
  rintro e w3 ⟨rfl, e3⟩
  go_wp2_with fail
  go_ret
  exact ⟨rfl, E2.out.ext e3⟩
end

section
open Go Go.RowKit

theorem built_warn3 (i k : Int) : Tryz.prog.built 62 [(0, .int .i64 i), (1, .int .i64 k), (2, .int .i64 (-1))] = some (warnL i k).toArray := by kernel_rfl
theorem ruleE_need {r : RuleR} (h : ruleE r = 0) : 0 ≤ r.nd ∧ r.nd ≤ 16 := by
  have h6 := (ruleE_parts h).2
  unfold k6 at h6
  simp only [Bool.or_eq_false_iff, Bool.and_eq_false_iff, decide_eq_false_iff_not] at h6
  omega

set_option maxRecDepth 100000 in
set_option maxHeartbeats 4000000 in
theorem rlint_c (pa : Option Addr) (pn pc : Nat) (rs : List RuleR) (wa : Option Addr) (n wcp : Nat) (xs : List AskR) (w : World) (hp : PolOk w pa pn pc rs) (hx : AsksOk w wa n wcp xs) (hn : n ≤ 100000) (hpn : pn ≤ 1000) (ht : ∀ p ∈ xs.map AskR.p, ∃ T : Nat, p.time = (T : Int) ∧ T ≤ 1099511627776) (hz : ∀ r ∈ rs, ruleE r = 0) :
    Calls Tryz.prog 20 #[.agg #[.slice pa pn pc], .slice wa n wcp] w fun e w' => ∃ v, e = .returned v ∧ w'.ownsRow w.heap.size 62 3 v (lintK rs (xs.map AskR.p) pn).length (lintV rs (xs.map AskR.p) pn) ∧ Ext w w' := by
  have HP := hid hp
  have HX := hid hx
  have HT := hid ht
  have HZ := hid hz
  obtain ⟨W, hW⟩ : ∃ W, xs.map AskR.p = W := ⟨_, rfl⟩
  have HW := hid hW
  rw [hW] at HT
  rw [hW]
  have HRG := hid agg_rule
  have HTW := hid elem_warn
  clear hp hx ht hz hW
  go_enter Tryz.func20, Tryz.ntmps20
  go_upto_region 2 with (fail)
  generalize hwA : World.alloc w _ = wA
  have bA : Blk wA w.heap.size [.slice pa pn pc] 24 := by rw [← hwA]; exact Blk.mk_alloc rfl rfl
  have eA : Ext w wA := by rw [← hwA]; exact (Ext.refl w).alloc _
  have BA := hid bA
  have EA := hid eA
  have c0 := bA.cell' (i := 0) rfl
  have P1 := hid (HP.out.ext eA)
  have X1 := hid (HX.out.ext eA)
  clear hwA bA eA HP HX
  go_wp2
  go_loopw [5, 12] (fun v i wr => ∃ k : Nat, k ≤ pn ∧ i = .int .i64 (k : Int) ∧ wr.ownsRow wA.heap.size 62 3 v (lintK rs W k).length (lintV rs W k) ∧ Ext wA wr) (fun _ i _ => pn - (intOf i).toNat)
  case atStart => exact ⟨0, by omega, rfl, ⟨rfl, .inl ⟨rfl, rfl⟩⟩, Ext.refl _⟩
  case round =>
    obtain ⟨k, hk, rfl, hrow, e2⟩ := hrel
    have E2 := hid e2
    have ROW := hid hrow
    clear e2 hrow
    by_cases hlt : k < pn
    · obtain ⟨r, hrk⟩ : ∃ r, rs[k]? = some r := ⟨rs[k]'(by rw [P1.out.hl]; exact hlt), by simp⟩
      obtain ⟨A, rfl, hca⟩ := (P1.out.ext E2.out).at hrk
      have HCA := hid hca
      have HR := hid hrk
      have HRL := hid (RuleR.len r)
      have hro := ruleV_one r
      have HZR := hid (HZ.out r (List.mem_of_getElem? hrk))
      clear hca hrk
      go_wp2_with (first | (refine wpl_run rfl (exec_index (i := k) rfl rfl rfl Tryz.underlying22 size_rule hlt _) ?_) | (refine wpl_run rfl (exec_load_at rfl rfl HCA.out HRG.out HRL.out) ?_) | (refine wpl_storew rfl _ (.tmp 7) _ rfl rfl rfl (Blk.mk_alloc (vs := zeroRule) (size_allocW _ _).symm rfl) HRG.out rfl HRL.out hro ?_))
      intro w1 b1 u1
      obtain ⟨g6, hg6⟩ : ∃ g, wr.heap.size = g := ⟨_, rfl⟩
      have i1 : Blk w1 wr.heap.size [.int .i64 (k : Int)] 3 := ((Blk.mk_alloc rfl rfl).alloc _).upd u1 (by omega)
      have e1 : Ext wr w1 := u1.ext (((Ext.refl wr).alloc _).alloc _) (Nat.le_succ _)
      rw [hg6] at b1 i1 ⊢
      have RB := hid b1
      have IB := hid i1
      have EB := hid (E2.out.ext e1)
      have ROW1 := hid (own_extW ROW.out e1)
      have BB := hid (BA.out.ext EB.out)
      have i0 := i1.cell' (i := 0) rfl
      have P2 := hid (P1.out.ext EB.out)
      have X2 := hid (X1.out.ext EB.out)
      have RO2 := hid (P2.out.ok r (List.mem_of_getElem? HR.out))
      have h6 : w.heap.size < g6 := by
        have h1 := BA.out.lt
        have h2 := E2.out.size
        rw [hg6] at h2
        omega
      obtain ⟨K, hK⟩ : ∃ K, kindW rs W k = K := ⟨_, rfl⟩
      have hC1 := hid (fun (W' : World) (h : Ext w1 W') => containsFA_c (meetP r) 44 #[.pointer (some ⟨g6 + 1, 0, none⟩)] xs wa n wcp W' Tryz.call44 hn (X2.out.ext h) (fun y hy W2 h2 hyo => by
        obtain ⟨T, hT, hTb⟩ := HT.out y.p (by rw [← HW.out]; exact List.mem_map.2 ⟨y, hy, rfl⟩)
        exact rlint1_c r y (g6 + 1) T W2 (RB.out.ext (h.ext h2)) (RO2.out.ext (h.ext h2)) hyo hT hTb HZR.out))
      have hC2 := hid (fun (W' : World) (h : Ext w1 W') => containsFA_c (difP rs (rs.eraseIdx k)) 45 #[.pointer (some ⟨w.heap.size, 0, none⟩), .pointer (some ⟨g6, 0, none⟩)] xs wa n wcp W' Tryz.call45 hn (X2.out.ext h) (fun y hy W2 h2 hyo => by
        obtain ⟨T, hT, hTb⟩ := HT.out y.p (by rw [← HW.out]; exact List.mem_map.2 ⟨y, hy, rfl⟩)
        exact rlint2_c (some A) pn pc rs k y w.heap.size g6 T W2 (BB.out.ext (h.ext h2)) (IB.out.ext (h.ext h2)) (P2.out.ext (h.ext h2)) hyo HZ.out hpn hlt hT hTb))
      rw [HW.out] at hC1 hC2
      have HK1 := hid (fun h => (kind_never (W := W) HR.out h).symm.trans hK)
      have HK2 := hid (show W.any (meetP r) = true → W.any (difP rs (rs.eraseIdx k)) = false → 2 = K from fun h1 h2 => by rw [← hK]; unfold kindW; rw [HR.out]; simp only [h1, h2]; rfl)
      have HK3 := hid (show W.any (meetP r) = true → W.any (difP rs (rs.eraseIdx k)) = true → (if allR r = true then 3 else 0) = K from fun h1 h2 => by rw [← hK]; unfold kindW; rw [HR.out]; simp only [h1, h2]; rfl)
      have HKK := hid hK
      have r0 := b1.cell' (i := 0) rfl
      have r1 := b1.cell' (i := 1) rfl
      have r2 := b1.cell' (i := 2) rfl
      have r3 := b1.cell' (i := 3) rfl
      have r6 := b1.cell' (i := 6) rfl
      clear b1 i1 u1 e1 HCA E2 ROW hK hg6
      obtain ⟨B1, hB1⟩ : ∃ B, W.any (meetP r) = B := ⟨_, rfl⟩
      obtain ⟨B2, hB2⟩ : ∃ B, W.any (difP rs (rs.eraseIdx k)) = B := ⟨_, rfl⟩
      rw [hB1] at hC1 HK1 HK2 HK3
      rw [hB2] at hC2 HK2 HK3
      clear hB1 hB2
      go_upto_block 2 with (fail)
      go_cut [8] (fun v wx => v = .int .i64 (K : Int) ∧ Ext w1 wx)
      case first =>
        go_upto_region 6 with (fail)
        go_wp2_with fail
        refine (hC1.out w1 (Ext.refl _)).mono ?_
        rintro e w3 ⟨rfl, e3⟩
        have E3 := hid e3
        cases B1 with
        | false =>
          have HKQ : 1 = K := by first | exact HK1.out rfl | exact HK1.out
          subst HKQ
          clear hC1 hC2 HK1 HK2 HK3 i0 r0 r1 r2 r3 r6 e3
          go_wp2
          go_meet
          exact ⟨rfl, E3.out⟩
        | true =>
          have hb3 := (BB.out.ext e3)
          clear e3
          go_wp2_with fail
          refine (hC2.out w3 E3.out).mono ?_
          rintro e w4 ⟨rfl, e4⟩
          have E4 := hid (E3.out.ext e4)
          cases B2 with
          | false =>
            have HKQ : 2 = K := by first | exact HK2.out trivial rfl | exact HK2.out rfl rfl | exact HK2.out rfl | exact HK2.out
            subst HKQ
            clear hC1 hC2 HK1 HK2 HK3 i0 r0 r1 r2 r3 r6 e4
            go_wp2
            go_meet
            exact ⟨rfl, E4.out⟩
          | true =>
            have HKQ : Hid ((if allR r = true then 3 else 0) = K) := hid (by first | exact HK3.out trivial rfl | exact HK3.out rfl rfl | exact HK3.out rfl | exact HK3.out)
            have RB4 := RB.out.ext E4.out
            have r0 := RB4.cell' (i := 0) rfl
            have r1 := RB4.cell' (i := 1) rfl
            have r2 := RB4.cell' (i := 2) rfl
            have r3 := RB4.cell' (i := 3) rfl
            have r6 := RB4.cell' (i := 6) rfl
            obtain ⟨hrn, han, hln⟩ := ruleE_k1 HZR.out
            obtain ⟨hnd0, hnd⟩ := ruleE_need HZR.out
            have s1 : IntKind.i64.wrap ((r.rn : Int) + (r.an : Int)) = (r.rn : Int) + (r.an : Int) := IntWalk.i64_in _ (by omega)
            have s2 : IntKind.i64.wrap ((r.rn : Int) + (r.an : Int) + (r.ln : Int)) = (r.rn : Int) + (r.an : Int) + (r.ln : Int) := IntWalk.i64_in _ (by omega)
            have s3 : IntKind.i64.wrap ((r.rn : Int) + (r.an : Int) + (r.ln : Int) + r.nd) = (r.rn : Int) + (r.an : Int) + (r.ln : Int) + r.nd := IntWalk.i64_in _ (by omega)
            clear hC1 hC2 HK1 HK2 HK3 i0 e4 RB4
            cases h1 : r.deny with
            | true =>
              rw [h1] at r0
              have hv : allR r = false := by unfold allR; rw [h1]; rfl
              have HKR : Hid (0 = K) := hid (by have := HKQ.out; rw [hv, if_neg (by simp)] at this; exact this)
              clear hv
              go_wp2
              go_meet
              exact ⟨by rw [← HKR.out]; rfl, E4.out⟩
            | false =>
              rw [h1] at r0
              by_cases h2 : (r.rn : Int) + (r.an : Int) + (r.ln : Int) + r.nd = 0
              · have q2 : (((r.rn : Int) + (r.an : Int) + (r.ln : Int) + r.nd) == 0) = true := by rw [beq_iff_eq]; exact h2
                have hv : allR r = true := by
                  unfold allR
                  rw [h1, show decide (r.rn = 0) = true from decide_eq_true (by omega), show decide (r.an = 0) = true from decide_eq_true (by omega), show decide (r.ln = 0) = true from decide_eq_true (by omega), show decide (r.nd = 0) = true from decide_eq_true (by omega)]
                  rfl
                have HKR : Hid (3 = K) := hid (by have := HKQ.out; rw [hv, if_pos rfl] at this; exact this)
                clear hv h2
                go_wp2
                go_meet
                exact ⟨by rw [← HKR.out]; rfl, E4.out⟩
              · have q2 : (((r.rn : Int) + (r.an : Int) + (r.ln : Int) + r.nd) == 0) = false := by rw [beq_eq_false_iff_ne]; exact h2
                have hv : allR r = false := by
                  cases ha : allR r with
                  | false => rfl
                  | true =>
                    exfalso
                    unfold allR at ha
                    simp only [Bool.and_eq_true, decide_eq_true_eq] at ha
                    omega
                have HKR : Hid (0 = K) := hid (by have := HKQ.out; rw [hv, if_neg (by simp)] at this; exact this)
                clear hv h2
                go_wp2
                go_meet
                exact ⟨by rw [← HKR.out]; rfl, E4.out⟩
      case rest =>
      obtain ⟨hv8, e3⟩ := hcut
      subst hv8
      have E3 := hid (EB.out.ext e3)
      have I3 := hid (IB.out.ext e3)
      have ROW3 := hid (own_extW ROW1.out e3)
      have i0 := I3.out.cell' (i := 0) rfl
      clear hC1 hC2 HK1 HK2 HK3 r0 r1 r2 r3 r6 e3 EB IB ROW1 RB RO2 P2 X2 BB
      have HS := hid (lintK_succ rs W k)
      have hll := lintK_len rs W k
      rw [HKK.out] at HS
      have HLV : Hid (lintV rs W (k + 1) = lintV rs W k ++ (if K ≠ 0 then warnV K k else [])) := hid (by
        unfold lintV
        rw [lintK_succ, HKK.out, List.flatMap_append]
        congr 1
        by_cases h : K = 0
        · rw [if_neg (by simp [h]), if_neg (by simp [h])]; rfl
        · rw [if_pos h, if_pos h]
          show warnV (kindW rs W k) k ++ [] = _
          rw [HKK.out, List.append_nil])
      have hw4 : wA.heap.size ≤ wc.heap.size := E3.out.size
      by_cases h0 : K = 0
      · have dk : decide ((0 : Int) < (K : Int)) = false := decide_eq_false (by omega)
        have HR1 : Hid (wc.ownsRow wA.heap.size 62 3 u5 (lintK rs W (k + 1)).length (lintV rs W (k + 1))) := hid (by
          rw [HS.out, HLV.out, if_neg (by simp [h0]), if_neg (by simp [h0]), List.append_nil, List.append_nil]
          exact ROW3.out)
        clear HS HLV
        go_wp2
        go_roundw
        case rel => exact ⟨k + 1, by omega, by go_num, HR1.out, E3.out⟩
        case measure => simp [intOf]; omega
      · have dk : decide ((0 : Int) < (K : Int)) = true := decide_eq_true (by omega)
        have hbw := fun W' => run_build (P := Tryz.prog) W' 62 #[(0, .int .i64 (k : Int)), (1, .int .i64 (K : Int)), (2, .int .i64 (-1))] _ (built_warn3 (k : Int) (K : Int))
        have hvl : warnL (k : Int) (K : Int) = warnV K k := by unfold warnV; rw [if_neg h0]
        have hl3 : (warnV K k).length = 3 := warnV_len K k
        have hv1 := warnV_one K k
        have hw1 : ∀ v ∈ warnL (k : Int) (K : Int), v.oneCell' = true := by rw [hvl]; exact hv1
        have hw3 : (warnL (k : Int) (K : Int)).length = 3 := rfl
        have HVL := hid hvl
        clear hvl
        go_wp2_with (first | (refine wpl_buildOne HTW.out (by decide) rfl rfl (cs := warnL (k : Int) (K : Int)) rfl hw3 ?_) | (refine wpl_appendA (m := 1) (c := 1) (news := warnL (k : Int) (K : Int)) HTW.out rfl _ _ rfl wA.heap.size rfl rfl (ROW3.out.alloc _) (by rw [hw3]) (by decide) (fun h => by cases h) (Cells.of_blk0 (Blk.mk_alloc (T := 62) rfl rfl)) hw1 (by omega) (by omega) (by rw [size_allocW]; omega) ?_))
        intro v' w5 ho hg _
        have E5 := hid ((E3.out.alloc _).grown hg (fun q hq => (ROW3.out.lt q hq).1))
        have HR1 : Hid (w5.ownsRow wA.heap.size 62 3 v' (lintK rs W (k + 1)).length (lintV rs W (k + 1))) := hid (by
          rw [HS.out, HLV.out, if_pos h0, if_pos h0, List.length_append]
          rw [← HVL.out]
          exact ho)
        clear ho hg HS HLV ROW3 E3 hbw
        go_wp2
        go_roundw
        case rel => exact ⟨k + 1, by omega, by go_num, HR1.out, E5.out⟩
        case measure => simp [intOf]; omega
    · obtain rfl : k = pn := by omega
      have EE := hid (EA.out.ext E2.out)
      have ROWW := hid (own_monoW ROW.out EA.out.size)
      go_wp2
      go_ret
      exact ⟨_, rfl, ROWW.out, EE.out⟩
end

section
open Go Go.RowKit

set_option maxRecDepth 100000 in
set_option maxHeartbeats 1000000 in
theorem cloneStrN_c (xs : List Value) (a : Option Addr) (n c : Nat) (w : World) (hl : xs.length = n) (hn : n ≤ 1000) (h1 : ∀ v ∈ xs, v.oneCell' = true) (hcl : Cells w a xs) :
    Calls Tryz.prog 25 #[.slice a n c] w fun e w' => ∃ v, e = .returned v ∧ w'.ownsRow w.heap.size 9 1 v n xs ∧ Ext w w' := by
  have HC := hid hcl
  have HL := hid hl
  have H1 := hid h1
  have HT := hid elem_str
  have q26 : ∀ (w : World) (a : Option Addr) (n c n' c' : Nat), (binOp .eql 36 (.slice a n c) (.slice none n' c')).run Tryz.prog w = .ok (.bool a.isNone) w := fun w a n c n' c' => Lib.run_eql_slice_nil w _ _ a n c n' c' Tryz.underlying36
  cases a with
  | none =>
    have hx : xs = [] := by
      rcases hcl with h | ⟨_, _, h, _⟩
      · exact h
      · cases h
    subst hx
    have hn0 : n = 0 := hl.symm
    subst hn0
    clear hl h1 hcl
    go_enter Tryz.func25, Tryz.ntmps25
    go_wp2
    go_ret
    exact ⟨_, rfl, ⟨rfl, .inl ⟨rfl, rfl⟩⟩, Ext.refl _⟩
  | some A =>
    clear hl h1 hcl
    go_enter Tryz.func25, Tryz.ntmps25
    go_wp2_with (refine wpl_appendN (n := 0) (m := n) (c := c) (xs := []) (news := xs) HT.out rfl _ _ rfl w.heap.size rfl rfl (World.ownsRow_made w #[] 0 (Nat.le_refl _) (Nat.zero_le _) (by simp)) (by have := HL.out; omega) (HC.out.ext ((Ext.refl w).alloc _)) H1.out (by omega) (by omega) (by rw [size_allocW]; omega) ?_)
    intro v' w1 hown hgrow hnil
    have e1 : Ext w w1 := ((Ext.refl w).alloc _).grown hgrow (by intro k hk; simp [Value.ownBlock] at hk; omega)
    have HO : Hid (w1.ownsRow w.heap.size 9 1 v' n xs) := hid (by simpa using hown)
    clear hgrow hown hnil
    go_wp2
    go_ret
    exact ⟨v', rfl, HO.out, e1⟩

set_option maxRecDepth 100000 in
set_option maxHeartbeats 1000000 in
theorem cloneIntN_c (xs : List Value) (a : Option Addr) (n c : Nat) (w : World) (hl : xs.length = n) (hn : n ≤ 1000) (h1 : ∀ v ∈ xs, v.oneCell' = true) (hcl : Cells w a xs) :
    Calls Tryz.prog 75 #[.slice a n c] w fun e w' => ∃ v, e = .returned v ∧ w'.ownsRow w.heap.size 3 1 v n xs ∧ Ext w w' := by
  have HC := hid hcl
  have HL := hid hl
  have H1 := hid h1
  have HT := hid elem_int
  have q26 : ∀ (w : World) (a : Option Addr) (n c n' c' : Nat), (binOp .eql 48 (.slice a n c) (.slice none n' c')).run Tryz.prog w = .ok (.bool a.isNone) w := fun w a n c n' c' => Lib.run_eql_slice_nil w _ _ a n c n' c' Tryz.underlying48
  cases a with
  | none =>
    have hx : xs = [] := by
      rcases hcl with h | ⟨_, _, h, _⟩
      · exact h
      · cases h
    subst hx
    have hn0 : n = 0 := hl.symm
    subst hn0
    clear hl h1 hcl
    go_enter Tryz.func75, Tryz.ntmps75
    go_wp2
    go_ret
    exact ⟨_, rfl, ⟨rfl, .inl ⟨rfl, rfl⟩⟩, Ext.refl _⟩
  | some A =>
    clear hl h1 hcl
    go_enter Tryz.func75, Tryz.ntmps75
    go_wp2_with (refine wpl_appendN (n := 0) (m := n) (c := c) (xs := []) (news := xs) HT.out rfl _ _ rfl w.heap.size rfl rfl (World.ownsRow_made w #[] 0 (Nat.le_refl _) (Nat.zero_le _) (by simp)) (by have := HL.out; omega) (HC.out.ext ((Ext.refl w).alloc _)) H1.out (by omega) (by omega) (by rw [size_allocW]; omega) ?_)
    intro v' w1 hown hgrow hnil
    have e1 : Ext w w1 := ((Ext.refl w).alloc _).grown hgrow (by intro k hk; simp [Value.ownBlock] at hk; omega)
    have HO : Hid (w1.ownsRow w.heap.size 3 1 v' n xs) := hid (by simpa using hown)
    clear hgrow hown hnil
    go_wp2
    go_ret
    exact ⟨v', rfl, HO.out, e1⟩

/-- a rule without its places -/
def RuleR.q (r : RuleR) : RuleR := { r with ra := none, rc := 0, aa := none, ac := 0, la := none, lc := 0 }
theorem one_strs : OneT Tryz.prog 36 := ⟨⟨_, Tryz.underlying36, rfl⟩, by kernel_rfl⟩
theorem one_ints : OneT Tryz.prog 48 := ⟨⟨_, Tryz.underlying48, rfl⟩, by kernel_rfl⟩
theorem encs_oneW (ls : List ByteArray) : ∀ v ∈ ls.map encStr, v.oneCell' = true := by
  intro v hv
  obtain ⟨s, _, rfl⟩ := List.mem_map.1 hv
  rfl
theorem encI_oneW (ls : List Int) : ∀ v ∈ ls.map encI, v.oneCell' = true := by
  intro v hv
  obtain ⟨s, _, rfl⟩ := List.mem_map.1 hv
  rfl
/-- a rule whose rows are rows of their own -/
structure RuleR.Own (w : World) (r : RuleR) : Prop where
  ok : r.Ok w
  r1 : ∃ B, w.ownsRow B 9 1 (.slice r.ra r.rn r.rc) r.rn (r.roles.map encStr)
  r2 : ∃ B, w.ownsRow B 3 1 (.slice r.aa r.an r.ac) r.an (r.acts.map encI)
  r3 : ∃ B, w.ownsRow B 9 1 (.slice r.la r.ln r.lc) r.ln (r.labels.map encStr)
theorem own_cellsS {w : World} {B n : Nat} {e : TypeId} {z : Nat} {a : Option Addr} {m c : Nat} {xs : List Value} (h : w.ownsRow B e z (.slice a m c) n xs) : Cells w a xs := by
  obtain ⟨_, _, hv, _, _, hc⟩ := own_cellsA h
  cases hv
  exact hc
theorem RuleR.Own.keep {w w' : World} {r : RuleR} (h : r.Own w) (k1 : ∀ {B n : Nat} {v : Value} {xs : List Value}, w.ownsRow B 9 1 v n xs → w'.ownsRow B 9 1 v n xs) (k2 : ∀ {B n : Nat} {v : Value} {xs : List Value}, w.ownsRow B 3 1 v n xs → w'.ownsRow B 3 1 v n xs) : r.Own w' := by
  obtain ⟨B1, h1⟩ := h.r1
  obtain ⟨B2, h2⟩ := h.r2
  obtain ⟨B3, h3⟩ := h.r3
  have o := h.ok
  exact ⟨⟨o.rl, o.rnc, o.rm, own_cellsS (k1 h1), o.rs, o.al, o.anc, o.am, own_cellsS (k2 h2), o.awf, o.ll, o.lnc, o.lm, own_cellsS (k1 h3), o.ls, o.os⟩, ⟨B1, k1 h1⟩, ⟨B2, k2 h2⟩, ⟨B3, k1 h3⟩⟩
theorem RuleR.Own.ext {w w' : World} {r : RuleR} (h : r.Own w) (e : Ext w w') : r.Own w' := h.keep (fun h => own_extW h e) (fun h => own_extW h e)

set_option maxRecDepth 100000 in
set_option maxHeartbeats 4000000 in
theorem cloneRule_c (r : RuleR) (w : World) (hr : r.Ok w) (hk : r.rn ≤ 16 ∧ r.an ≤ 16 ∧ r.ln ≤ 16) :
    Calls Tryz.prog 41 #[.agg r.v.toArray] w fun e w' => ∃ r' : RuleR, e = .returned (.agg r'.v.toArray) ∧ r'.Own w' ∧ r'.q = r.q ∧ Ext w w' := by
  obtain ⟨hk1, hk2, hk3⟩ := hk
  have HR := hid hr
  have HRG := hid agg_rule
  have HRL := hid (RuleR.len r)
  have HLEN2 := hid (show (r.roles.map encStr).length = r.rn by rw [List.length_map]; exact hr.rl)
  have HLEN5 := hid (show (r.acts.map encI).length = r.an by rw [List.length_map]; exact hr.al)
  have HLEN8 := hid (show (r.labels.map encStr).length = r.ln by rw [List.length_map]; exact hr.ll)
  have HONE2 := hid (encs_oneW r.roles)
  have HONE5 := hid (encI_oneW r.acts)
  have HONE8 := hid (encs_oneW r.labels)
  clear hr
  go_enter Tryz.func41, Tryz.ntmps41
  go_upto_region 1 with (fail)
  generalize hwA : World.alloc (World.alloc w _) _ = wB
  have bB : Blk wB w.heap.size r.v 50 := by rw [← hwA]; exact (Blk.mk_alloc rfl rfl).alloc _
  have zB : Blk wB (w.heap.size + 1) zeroRule 50 := by rw [← hwA]; exact Blk.mk_alloc (size_allocW _ _).symm rfl
  have eB : Ext w wB := by rw [← hwA]; exact ((Ext.refl w).alloc _).alloc _
  have BB := hid bB
  have ZB := hid zB
  have EB := hid eB
  have HCELL2 := hid (HR.out.rcell.ext eB)
  have HCELL5 := hid (HR.out.acell.ext eB)
  have HCELL8 := hid (HR.out.lcell.ext eB)
  clear hwA bB zB eB
  obtain ⟨G, hG⟩ : ∃ G : Nat → Value → World → Prop, G = fun k v W => if k = 2 then W.ownsRow wB.heap.size 9 1 v r.rn (r.roles.map encStr) else if k = 5 then W.ownsRow wB.heap.size 3 1 v r.an (r.acts.map encI) else W.ownsRow wB.heap.size 9 1 v r.ln (r.labels.map encStr) := ⟨_, rfl⟩
  have HG := hid hG
  have hGm : ∀ (k : Nat) (v : Value) (W W' : World), G k v W → Ext W W' → G k v W' := by
    intro k v W W' h e
    rw [hG] at h ⊢
    by_cases q2 : k = 2
    · rw [if_pos q2] at h ⊢
      exact own_extW h e
    · rw [if_neg q2] at h ⊢
      by_cases q5 : k = 5
      · rw [if_pos q5] at h ⊢
        exact own_extW h e
      · rw [if_neg q5] at h ⊢
        exact own_extW h e
  clear hG
  obtain ⟨C, hC⟩ : ∃ C : World → Prop, C = fun w' => Ext wB w' := ⟨_, rfl⟩
  have hC0 : ∀ w', C w' ↔ Ext wB w' := fun w' => by rw [hC]
  clear hC
  have HCC := hid hC0
  clear hC0
  have hCx : ∀ w w', C w → Ext w w' → C w' := fun w w' h1 h2 => (HCC.out w').2 (((HCC.out w).1 h1).ext h2)
  refine wp_region_un (C := C) 10 [2, 5, 8] G (by kernel_rfl) (by kernel_rfl) (by kernel_rfl) ((HCC.out _).2 (Ext.refl wB).drew) hGm ?_
  simp only [List.take_succ_cons, List.take_zero, List.drop_succ_cons, List.drop_zero]
  refine wpQU_do rfl rfl ?dv0 (yieldsE_run (v := ?dv0) ?dy0) ?dr0
  case dy0 => (intro W _; go_simp; try with_reducible rfl)
  case dr0 =>
  simp only [Act.put, List.setIfInBounds_toArray, List.set_cons_succ, List.set_cons_zero]
  refine wpQU_do rfl rfl _ (yieldsE_run (fun w1 h => exec_load_oneU rfl rfl ((BB.out.ext ((HCC.out w1).1 h)).cell' (i := 1) rfl) one_strs)) ?_
  simp only [Act.put, List.setIfInBounds_toArray, List.set_cons_succ, List.set_cons_zero]
  refine wpQU_un rfl rfl (yieldsU_call (args := #[.slice r.ra r.rn r.rc]) rfl Tryz.call25 (by simp [Act.eval]) (fun W h => ?_) hCx) ?_
  · rw [HG.out]
    refine (cloneStrN_c _ r.ra r.rn r.rc W HLEN2.out (by omega) HONE2.out (HCELL2.out.ext ((HCC.out W).1 h))).mono ?_
    rintro e w1 ⟨v, rfl, h1, h2⟩
    exact ⟨_, rfl, own_monoW h1 ((HCC.out W).1 h).size, h2⟩
  simp only [Act.put, List.setIfInBounds_toArray, List.set_cons_succ, List.set_cons_zero]
  refine wpQU_do rfl rfl ?dv3 (yieldsE_run (v := ?dv3) ?dy3) ?dr3
  case dy3 => (intro W _; go_simp; try with_reducible rfl)
  case dr3 =>
  simp only [Act.put, List.setIfInBounds_toArray, List.set_cons_succ, List.set_cons_zero]
  refine wpQU_do rfl rfl _ (yieldsE_run (fun w1 h => exec_load_oneU rfl rfl ((BB.out.ext ((HCC.out w1).1 h)).cell' (i := 2) rfl) one_ints)) ?_
  simp only [Act.put, List.setIfInBounds_toArray, List.set_cons_succ, List.set_cons_zero]
  refine wpQU_un rfl rfl (yieldsU_call (args := #[.slice r.aa r.an r.ac]) rfl Tryz.call75 (by simp [Act.eval]) (fun W h => ?_) hCx) ?_
  · rw [HG.out]
    refine (cloneIntN_c _ r.aa r.an r.ac W HLEN5.out (by omega) HONE5.out (HCELL5.out.ext ((HCC.out W).1 h))).mono ?_
    rintro e w1 ⟨v, rfl, h1, h2⟩
    exact ⟨_, rfl, own_monoW h1 ((HCC.out W).1 h).size, h2⟩
  simp only [Act.put, List.setIfInBounds_toArray, List.set_cons_succ, List.set_cons_zero]
  refine wpQU_do rfl rfl ?dv6 (yieldsE_run (v := ?dv6) ?dy6) ?dr6
  case dy6 => (intro W _; go_simp; try with_reducible rfl)
  case dr6 =>
  simp only [Act.put, List.setIfInBounds_toArray, List.set_cons_succ, List.set_cons_zero]
  refine wpQU_do rfl rfl _ (yieldsE_run (fun w1 h => exec_load_oneU rfl rfl ((BB.out.ext ((HCC.out w1).1 h)).cell' (i := 3) rfl) one_strs)) ?_
  simp only [Act.put, List.setIfInBounds_toArray, List.set_cons_succ, List.set_cons_zero]
  refine wpQU_un rfl rfl (yieldsU_call (args := #[.slice r.la r.ln r.lc]) rfl Tryz.call25 (by simp [Act.eval]) (fun W h => ?_) hCx) ?_
  · rw [HG.out]
    refine (cloneStrN_c _ r.la r.ln r.lc W HLEN8.out (by omega) HONE8.out (HCELL8.out.ext ((HCC.out W).1 h))).mono ?_
    rintro e w1 ⟨v, rfl, h1, h2⟩
    exact ⟨_, rfl, own_monoW h1 ((HCC.out W).1 h).size, h2⟩
  simp only [Act.put, List.setIfInBounds_toArray, List.set_cons_succ, List.set_cons_zero]
  refine wpQU_do rfl rfl ?dv9 (yieldsE_run (v := ?dv9) ?dy9) ?dr9
  case dy9 => (intro W _; go_simp; try with_reducible rfl)
  case dr9 =>
  simp only [Act.put, List.setIfInBounds_toArray, List.set_cons_succ, List.set_cons_zero]
  refine wpQU_nil ?_
  intro us w2 hw2 hus
  have h2 := hus 2 (by simp)
  have h5 := hus 5 (by simp)
  have h8 := hus 8 (by simp)
  rw [HG.out] at h2 h5 h8
  rw [if_pos rfl] at h2
  rw [if_neg (by decide), if_pos rfl] at h5
  rw [if_neg (by decide), if_neg (by decide)] at h8
  simp only [putUn, dstOf, Act.put, List.getElem?_toArray, List.getElem?_cons_succ, List.getElem?_cons_zero, Option.bind_some, List.setIfInBounds_toArray, List.set_cons_succ, List.set_cons_zero]
  have e2 := (HCC.out w2).1 hw2
  have B2 := hid (BB.out.ext e2)
  have Z2 := hid (ZB.out.ext e2)
  have E2 := hid (EB.out.ext e2)
  have hlt := ZB.out.lt
  obtain ⟨a1, c1, hv1, hac1, _, _⟩ := own_cellsA h2
  obtain ⟨a2, c2, hv2, hac2, _, _⟩ := own_cellsA h5
  obtain ⟨a3, c3, hv3, hac3, _, _⟩ := own_cellsA h8
  rw [hv1] at h2
  rw [hv2] at h5
  rw [hv3] at h8
  rw [hv1, hv2, hv3]
  have O1 := hid h2
  have O2 := hid h5
  have O3 := hid h8
  clear hus hw2 h2 h5 h8 hCx HCC hGm HG e2 HCELL2 HCELL5 HCELL8 hv1 hv2 hv3 BB ZB EB
  have c1' := B2.out.cell' (i := 1) rfl
  have c2' := B2.out.cell' (i := 2) rfl
  have c3' := B2.out.cell' (i := 3) rfl
  have f1 := B2.out.frozen 1
  have f2 := B2.out.frozen 2
  have f3 := B2.out.frozen 3
  go_upto_region 2 with (fail)
  obtain ⟨w3, hw3⟩ : ∃ W, ((w2.setCell ⟨w.heap.size, 1, none⟩ (.slice a1 r.rn c1)).setCell ⟨w.heap.size, 2, none⟩ (.slice a2 r.an c2)).setCell ⟨w.heap.size, 3, none⟩ (.slice a3 r.ln c3) = W := ⟨_, rfl⟩
  rw [hw3]
  obtain ⟨r', hr'⟩ : ∃ x : RuleR, ({ r with ra := a1, rc := c1, aa := a2, ac := c2, la := a3, lc := c3 } : RuleR) = x := ⟨_, rfl⟩
  have b3 : Blk w3 w.heap.size r'.v 50 := by
    rw [← hw3, ← hr']
    exact ((B2.out.set 1 _).set 2 _).set 3 _
  have z3 : Blk w3 (w.heap.size + 1) zeroRule 50 := by
    rw [← hw3]
    exact ((Z2.out.set_other _ _ (by simp)).set_other _ _ (by simp)).set_other _ _ (by simp)
  have u3 : Upd w2 w.heap.size w3 := by
    rw [← hw3]
    exact ((Upd.setCell _).trans (Upd.setCell _)).trans (Upd.setCell _)
  have hq : r'.q = r.q := by rw [← hr']; rfl
  have hvo := ruleV_one r'
  have hvl : r'.v.length = 8 := RuleR.len r'
  have B3 := hid b3
  have Z3 := hid z3
  have U3 := hid u3
  have HRR := hid hr'
  clear b3 z3 u3 hr' hw3 c1' c2' c3' f1 f2 f3
  go_wp2_with (first | (refine wpl_loadw rfl 50 _ rfl rfl B3.out HRG.out hvl ?_) | (refine wpl_storew rfl _ (.tmp 2) _ rfl rfl rfl Z3.out HRG.out rfl hvl hvo ?_))
  intro w4 b4 u4
  have e3 : Ext w w3 := U3.out.ext E2.out (Nat.le_refl _)
  have e4 : Ext w w4 := u4.ext e3 (by omega)
  go_wp2_with fail
  refine ret_row rfl rfl b4 HRG.out hvl rfl ⟨r', rfl, ?_, hq, e4⟩
  have keep : ∀ {e : TypeId} {z n : Nat} {v : Value} {xs : List Value}, w2.ownsRow wB.heap.size e z v n xs → w4.ownsRow wB.heap.size e z v n xs := by
    intro e z n v xs h
    refine own_keepW (own_keepW h (w' := w3) (fun q hqb => ?_)) (fun q hqb => ?_)
    · have := (h.lt q hqb).1
      exact U3.out.block _ (by omega)
    · have := (h.lt q hqb).1
      exact u4.block _ (by omega)
  obtain ⟨_, _, hx1, _, _, k1⟩ := own_cellsA (keep O1.out)
  obtain ⟨_, _, hx2, _, _, k2⟩ := own_cellsA (keep O2.out)
  obtain ⟨_, _, hx3, _, _, k3⟩ := own_cellsA (keep O3.out)
  cases hx1
  cases hx2
  cases hx3
  rw [← HRR.out]
  exact ⟨⟨HR.out.rl, hac1, HR.out.rm, k1, HR.out.rs, HR.out.al, hac2, HR.out.am, k2, HR.out.awf, HR.out.ll, hac3, HR.out.lm, k3, HR.out.ls, HR.out.os⟩, ⟨_, keep O1.out⟩, ⟨_, keep O2.out⟩, ⟨_, keep O3.out⟩⟩
end

section
open Go Go.RowKit

theorem rulesV_q {x y : RuleR} (h : x.q = y.q) : x.roles = y.roles ∧ x.acts = y.acts ∧ x.labels = y.labels ∧ x.deny = y.deny ∧ x.fr = y.fr ∧ x.tt = y.tt ∧ x.nd = y.nd ∧ x.ow = y.ow ∧ x.rn = y.rn ∧ x.an = y.an ∧ x.ln = y.ln := by
  unfold RuleR.q at h
  simp only [RuleR.mk.injEq] at h
  obtain ⟨h1, h2, h3, h4, h5, h6, h7, h8, h9, h10, h11, h12, h13, h14, h15, h16, h17⟩ := h
  exact ⟨h5, h9, h13, h1, h14, h15, h16, h17, h3, h7, h11⟩
theorem q_q (r : RuleR) : r.q.q = r.q := rfl
theorem meetsB_q (r : RuleR) (a : AskR) : meetsB r.q a = meetsB r a := rfl
theorem meetP_q (r : RuleR) : meetP r.q = meetP r := rfl
theorem allR_q (r : RuleR) : allR r.q = allR r := rfl
theorem bestDec_q (b : Option (Nat × RuleR)) : bestDec (b.map fun p => (p.1, p.2.q)) = bestDec b := by
  cases b with
  | none => rfl
  | some p => rfl
theorem betterB_q (r : RuleR) (b : Option (Nat × RuleR)) : betterB r.q (b.map fun p => (p.1, p.2.q)) = betterB r b := by
  cases b with
  | none => rfl
  | some p => rfl
theorem decF_q (a : AskR) : ∀ (rs : List RuleR) (i : Nat) (b : Option (Nat × RuleR)), decF a (rs.map RuleR.q) i (b.map fun p => (p.1, p.2.q)) = decF a rs i b
  | [], i, b => bestDec_q b
  | r :: rs, i, b => by
    rw [List.map_cons, decF_cons, decF_cons, meetsB_q, betterB_q]
    have h1 := decF_q a rs (i + 1) (if betterB r b then some (i, r) else b)
    have h2 := decF_q a rs (i + 1) b
    have h3 : (if betterB r b = true then some (i, r.q) else b.map fun p => (p.1, p.2.q)) = (if betterB r b = true then some (i, r) else b).map fun p => (p.1, p.2.q) := by
      split <;> rfl
    rw [h3, h1, h2]
    rfl
theorem decP_q (rs : List RuleR) (p : AskP) : decP (rs.map RuleR.q) p = decP rs p := decF_q p.r rs 0 none
theorem difP_q (rs qs : List RuleR) : difP (rs.map RuleR.q) (qs.map RuleR.q) = difP rs qs := by
  funext p
  unfold difP
  rw [decP_q, decP_q]
theorem erase_q (rs : List RuleR) (i : Nat) : (rs.map RuleR.q).eraseIdx i = (rs.eraseIdx i).map RuleR.q := by
  induction rs generalizing i with
  | nil => rfl
  | cons r rs ih =>
    cases i with
    | zero => rfl
    | succ i => rw [List.map_cons, List.eraseIdx_cons_succ, ih, List.eraseIdx_cons_succ, List.map_cons]
theorem kindW_q (rs : List RuleR) (W : List AskP) (i : Nat) : kindW (rs.map RuleR.q) W i = kindW rs W i := by
  unfold kindW
  rw [List.getElem?_map]
  cases rs[i]? with
  | none => rfl
  | some r =>
    show (if W.any (meetP r.q) = false then 1 else if W.any (difP (rs.map RuleR.q) ((rs.map RuleR.q).eraseIdx i)) = false then 2 else if allR r.q = true then 3 else 0) = _
    rw [erase_q, difP_q, meetP_q, allR_q]
theorem kindW_same {rs qs : List RuleR} (h : rs.map RuleR.q = qs.map RuleR.q) (W : List AskP) (i : Nat) : kindW rs W i = kindW qs W i := by
  rw [← kindW_q rs, h, kindW_q]

/-- a rule that Trim leaves out -/
noncomputable def cutW (rs : List RuleR) (W : List AskP) (i : Nat) : Bool := decide (kindW rs W i ≠ 0) && decide (kindW rs W i ≠ 3)
noncomputable def lastW (rs : List RuleR) (W : List AskP) : Nat → Option Nat
  | 0 => none
  | n + 1 => if cutW rs W n = true then some n else lastW rs W n
noncomputable def trimN (W : List AskP) : Nat → List RuleR → List RuleR
  | 0, rs => rs
  | f + 1, rs => match lastW rs W rs.length with
    | none => rs
    | some i => trimN W f (rs.eraseIdx i)
noncomputable def trimW (W : List AskP) (rs : List RuleR) : List RuleR := trimN W rs.length rs
theorem lastW_succ (rs : List RuleR) (W : List AskP) (n : Nat) : lastW rs W (n + 1) = if cutW rs W n = true then some n else lastW rs W n := rfl
theorem lastW_lt {rs : List RuleR} {W : List AskP} : ∀ {n i : Nat}, lastW rs W n = some i → i < n ∧ cutW rs W i = true
  | 0, i, h => by cases h
  | n + 1, i, h => by
    rw [lastW_succ] at h
    split at h
    · rename_i hc
      injection h with h
      subst h
      exact ⟨Nat.lt_succ_self _, hc⟩
    · have := lastW_lt h
      exact ⟨by omega, this.2⟩
theorem lastW_none {rs : List RuleR} {W : List AskP} : ∀ {n : Nat}, lastW rs W n = none → ∀ i, i < n → cutW rs W i = false
  | 0, _, i, hi => by omega
  | n + 1, h, i, hi => by
    rw [lastW_succ] at h
    split at h
    · cases h
    · rename_i hc
      rcases Nat.lt_or_ge i n with h2 | h2
      · exact lastW_none h i h2
      · obtain rfl : i = n := by omega
        simpa using hc
theorem lastW_same {rs qs : List RuleR} (h : rs.map RuleR.q = qs.map RuleR.q) (W : List AskP) : ∀ n, lastW rs W n = lastW qs W n
  | 0 => rfl
  | n + 1 => by
    rw [lastW_succ, lastW_succ, lastW_same h W n]
    unfold cutW
    rw [kindW_same h]
theorem trimW_none {W : List AskP} {rs : List RuleR} (h : lastW rs W rs.length = none) : trimW W rs = rs := by
  unfold trimW
  cases hl : rs.length with
  | zero => rfl
  | succ n =>
    show (match lastW rs W rs.length with | none => rs | some i => trimN W n (rs.eraseIdx i)) = rs
    rw [h]
theorem trimW_some {W : List AskP} {rs : List RuleR} {i : Nat} (h : lastW rs W rs.length = some i) : trimW W rs = trimW W (rs.eraseIdx i) := by
  have hi := (lastW_lt h).1
  unfold trimW
  rw [List.length_eraseIdx_of_lt hi]
  cases hl : rs.length with
  | zero => omega
  | succ n =>
    show (match lastW rs W rs.length with | none => rs | some i => trimN W n (rs.eraseIdx i)) = _
    rw [h]
    rfl
theorem trim_ind {W : List AskP} {P : List RuleR → List RuleR → Prop} (h0 : ∀ rs, lastW rs W rs.length = none → P rs rs) (h1 : ∀ rs i out, lastW rs W rs.length = some i → P (rs.eraseIdx i) out → P rs out) : ∀ (n : Nat) (rs : List RuleR), rs.length ≤ n → P rs (trimW W rs)
  | 0, rs, h => by
    have hl : rs.length = 0 := by omega
    have hn : lastW rs W rs.length = none := by rw [hl]; rfl
    rw [trimW_none hn]
    exact h0 rs hn
  | n + 1, rs, h => by
    cases hl : lastW rs W rs.length with
    | none => rw [trimW_none hl]; exact h0 rs hl
    | some i =>
      rw [trimW_some hl]
      have hi := (lastW_lt hl).1
      exact h1 rs i _ hl (trim_ind h0 h1 n _ (by rw [List.length_eraseIdx_of_lt hi]; omega))
theorem trimW_sub {W : List AskP} (rs : List RuleR) : (∀ r ∈ trimW W rs, r ∈ rs) ∧ (trimW W rs).length ≤ rs.length := by
  refine trim_ind (P := fun rs out => (∀ r ∈ out, r ∈ rs) ∧ out.length ≤ rs.length) (fun rs _ => ⟨fun r h => h, Nat.le_refl _⟩) (fun rs i out h hp => ?_) rs.length rs (Nat.le_refl _)
  have hi := (lastW_lt h).1
  refine ⟨fun r hr => List.mem_of_mem_eraseIdx (hp.1 r hr), ?_⟩
  have := hp.2
  rw [List.length_eraseIdx_of_lt hi] at this
  omega
theorem trimW_same {W : List AskP} {rs qs : List RuleR} (h : rs.map RuleR.q = qs.map RuleR.q) : (trimW W rs).map RuleR.q = (trimW W qs).map RuleR.q := by
  refine trim_ind (P := fun rs out => ∀ qs : List RuleR, rs.map RuleR.q = qs.map RuleR.q → out.map RuleR.q = (trimW W qs).map RuleR.q) (fun rs hn qs h => ?_) (fun rs i out hs hp qs h => ?_) rs.length rs (Nat.le_refl _) qs h
  · have hl : rs.length = qs.length := by simpa using congrArg List.length h
    rw [lastW_same h, hl] at hn
    rw [trimW_none hn, h]
  · have hl : rs.length = qs.length := by simpa using congrArg List.length h
    rw [lastW_same h, hl] at hs
    rw [trimW_some hs]
    exact hp _ (by rw [← erase_q, ← erase_q, h])
theorem cut_dif {rs : List RuleR} {W : List AskP} {i : Nat} (h : cutW rs W i = true) : ∀ p ∈ W, difP rs (rs.eraseIdx i) p = false := by
  unfold cutW kindW at h
  cases hr : rs[i]? with
  | none => rw [hr] at h; simp at h
  | some r =>
    rw [hr] at h
    by_cases h1 : W.any (meetP r) = false
    · intro p hp
      rw [List.any_eq_false] at h1
      exact dif_unmet hr (by simpa using h1 p hp)
    · by_cases h2 : W.any (difP rs (rs.eraseIdx i)) = false
      · intro p hp
        rw [List.any_eq_false] at h2
        simpa using h2 p hp
      · exfalso
        simp only [if_neg h1, if_neg h2] at h
        split at h <;> simp at h
theorem difP_false {rs qs : List RuleR} {p : AskP} : difP rs qs p = false ↔ contD (decP rs p) = contD (decP qs p) := by
  unfold difP
  rw [← sameD_iff]
  simp
theorem trimW_dec {W : List AskP} (rs : List RuleR) : ∀ p ∈ W, contD (decP rs p) = contD (decP (trimW W rs) p) := by
  refine trim_ind (P := fun rs out => ∀ p ∈ W, contD (decP rs p) = contD (decP out p)) (fun rs _ p _ => rfl) (fun rs i out h hp p hW => ?_) rs.length rs (Nat.le_refl _)
  rw [difP_false.1 (cut_dif (lastW_lt h).2 p hW)]
  exact hp p hW
/-- the last rule of those warned of that Trim leaves out, as the reference looks for it -/
noncomputable def lastK (rs : List RuleR) (W : List AskP) (l : List Nat) : Option Nat := (l.filter fun i => decide (kindW rs W i ≠ 3)).getLast?
theorem lastK_snoc (rs : List RuleR) (W : List AskP) (l : List Nat) (i : Nat) : lastK rs W (l ++ [i]) = if kindW rs W i = 3 then lastK rs W l else some i := by
  unfold lastK
  rw [List.filter_append]
  by_cases h : kindW rs W i = 3
  · rw [if_pos h]
    simp [h]
  · rw [if_neg h]
    simp [h]
theorem lastK_all (rs : List RuleR) (W : List AskP) : ∀ n, lastK rs W (lintK rs W n) = lastW rs W n
  | 0 => rfl
  | n + 1 => by
    rw [lintK_succ, lastW_succ]
    unfold cutW
    by_cases h0 : kindW rs W n = 0
    · rw [if_neg (by simp [h0]), List.append_nil, lastK_all rs W n]
      simp [h0]
    · rw [if_pos h0, lastK_snoc, lastK_all rs W n]
      by_cases h3 : kindW rs W n = 3
      · rw [if_pos h3]; simp [h3]
      · rw [if_neg h3]; simp [h0, h3]
theorem flat3 {α : Type} {f : α → List Value} (hf : ∀ x, (f x).length = 3) {l : List α} {k : Nat} {x : α} (h : l[k]? = some x) : ((l.flatMap f).drop (k * 3)).take 3 = f x := by
  induction l generalizing k with
  | nil => simp at h
  | cons y l ih =>
    rw [List.flatMap_cons]
    cases k with
    | zero =>
      simp only [List.getElem?_cons_zero, Option.some.injEq] at h
      subst h
      rw [Nat.zero_mul, List.drop_zero, List.take_append_of_le_length (by rw [hf]; exact Nat.le_refl _), List.take_of_length_le (by rw [hf]; exact Nat.le_refl _)]
    | succ k =>
      rw [List.getElem?_cons_succ] at h
      rw [show (k + 1) * 3 = (f y).length + k * 3 by rw [hf]; omega, ← List.drop_drop, List.drop_left]
      exact ih h
theorem warns_at {w : World} {a : Option Addr} {rs : List RuleR} {W : List AskP} {n k i : Nat} (h : Cells w a (lintV rs W n)) (hk : (lintK rs W n)[k]? = some i) : ∃ A, a = some A ∧ CellsAt w (A.add (k * 3)) (warnV (kindW rs W i) i) := by
  have hk2 := (List.getElem?_eq_some_iff.1 hk).1
  have hlen : (lintV rs W n).length = 3 * (lintK rs W n).length := by
    unfold lintV
    generalize lintK rs W n = l
    induction l with
    | nil => rfl
    | cons x l ih => rw [List.flatMap_cons, List.length_append, ih, warnV_len, List.length_cons]; omega
  obtain ⟨b, o, rfl, hc⟩ := h.some_of (by rw [hlen]; omega)
  refine ⟨_, rfl, fun j u hu => ?_⟩
  rw [addr_add, addr_add, Nat.add_assoc]
  refine hc _ _ ?_
  have hfl : ((lintV rs W n).drop (k * 3)).take 3 = warnV (kindW rs W i) i := flat3 (fun x => warnV_len _ _) hk
  rw [← hfl] at hu
  have hj : j < 3 := by
    have := (List.getElem?_eq_some_iff.1 hu).1
    rw [List.length_take] at this; omega
  rw [List.getElem?_take_of_lt hj, List.getElem?_drop] at hu
  exact hu
theorem lintK_kind {rs : List RuleR} {W : List AskP} {n k i : Nat} (hk : (lintK rs W n)[k]? = some i) : kindW rs W i ≠ 0 ∧ i < n := by
  have := List.mem_of_getElem? hk
  unfold lintK at this
  rw [List.mem_filter, List.mem_range] at this
  exact ⟨by simpa using this.2, this.1⟩
end

section
open Go Go.RowKit

theorem own_ne {w : World} {B n : Nat} {e : TypeId} {z : Nat} {v : Value} {xs : List Value} {g : Nat} {vs : List Value} {T : TypeId} (h : w.ownsRow B e z v n xs) (hb : Blk w g vs T) (ht : T ≠ e) : ∀ q, v.ownBlock = some q → q ≠ g := by
  intro q hq hqg
  rcases h.2 with ⟨hv, _⟩ | ⟨r, cap, cur, hv, _, hr, _⟩
  · rw [hv] at hq; cases hq
  · rw [hv] at hq
    injection hq with hq
    subst hq
    subst hqg
    unfold Blk at hb
    rw [hb] at hr
    injection hr with hr
    injection hr with h1 h2
    exact ht h2
theorem AsksI.upd {w w' : World} {B : Nat} {v : Value} {xs : List AskR} {g : Nat} {vs : List Value} {T : TypeId} (h : AsksI w B v xs) (hb : Blk w g vs T) (h1 : T ≠ 40) (h2 : T ≠ 9) (u : Upd w g w') : AsksI w' B v xs := by
  refine ⟨own_keepW h.row (fun q hq => u.block _ (own_ne h.row hb h1 q hq)), fun x hx => ?_⟩
  have ho := h.own x hx
  obtain ⟨B2, hr⟩ := ho.row
  exact ⟨ho.ha, ho.hk, ho.hd, ⟨B2, own_keepW hr (fun q hq => u.block _ (own_ne hr hb h2 q hq))⟩, ho.sm, ho.ss, ho.ls⟩
theorem size_warn : (Tryz.prog.info? 62).map (·.size) = some 3 := by kernel_rfl
def slen : Option Value → Nat
  | some (.slice _ n _) => n
  | _ => 0

set_option maxRecDepth 100000 in
set_option maxHeartbeats 4000000 in
theorem rtrim_c (pa : Option Addr) (pn pc : Nat) (rs : List RuleR) (w : World) (hp : PolOk w pa pn pc rs) (hE : polE rs pn = 0) (hS : szW rs ≤ 100000) :
    Calls Tryz.prog 22 #[.agg #[.slice pa pn pc]] w fun e w' => ∃ a n c, e = .returned (.agg #[.slice a n c]) ∧ PolOk w' a n c (trimW (worldP rs) rs) ∧ Ext w w' := by
  obtain ⟨h100, hz⟩ := polE_zero hE
  have HP := hid hp
  have HZ := hid hz
  have HW := hid (fun W (h : Ext w W) => rWorld_c pa pn pc rs W (hp.ext h) hE)
  have HT := hid (worldP_ok (rs := rs) hz)
  have HWL := hid (show (worldP rs).length ≤ 100000 by rw [worldP_len]; exact hS)
  have HSZ := hid hS
  obtain ⟨WP, hWP⟩ : ∃ x, worldP rs = x := ⟨_, rfl⟩
  rw [hWP] at HW HT HWL ⊢
  have HAW := hid agg_warn
  clear hp hz hE hWP
  go_enter Tryz.func22, Tryz.ntmps22
  go_upto_region 1 with (fail)
  generalize hwA : World.alloc (World.alloc w _) _ = wA
  have bA : Blk wA w.heap.size [.slice pa pn pc] 24 := by rw [← hwA]; exact (Blk.mk_alloc rfl rfl).alloc _
  have zA : Blk wA (w.heap.size + 1) [.slice none 0 0] 24 := by rw [← hwA]; exact Blk.mk_alloc (size_allocW _ _).symm rfl
  have eA : Ext w wA := by rw [← hwA]; exact ((Ext.refl w).alloc _).alloc _
  have BA := hid bA
  have ZA := hid zA
  have EA := hid eA
  have c0 := bA.cell' (i := 0) rfl
  clear hwA bA zA eA
  go_wp2_with (first | (refine wpl_loadw rfl 24 _ rfl rfl BA.out agg_polW rfl ?_))
  refine (HW.out wA EA.out).mono ?_
  rintro e w1 (⟨hbig, _⟩ | ⟨_, v, xs, rfl, hxs, hxp, e1⟩)
  · exact absurd HSZ.out hbig
  have E1 := hid (EA.out.ext e1)
  have B1 := hid (BA.out.ext e1)
  have Z1 := hid (ZA.out.ext e1)
  have P1 := hid (HP.out.ext E1.out)
  have X1 := hid hxs
  have HXP := hid hxp
  have hxl : xs.length ≤ 100000 := by rw [← List.length_map (f := AskR.p), hxp]; exact HWL.out
  clear hxs hxp e1 EA BA ZA c0 HW
  go_wp2
  go_loopw [] (fun wr => ∃ a n c qs, n ≤ 100 ∧ Blk wr w.heap.size [.slice a n c] 24 ∧ Blk wr (w.heap.size + 1) [.slice none 0 0] 24 ∧ PolOk wr a n c qs ∧ trimW WP qs = trimW WP rs ∧ (∀ r ∈ qs, r ∈ rs) ∧ AsksI wr wA.heap.size v xs ∧ Ext w wr ∧ (∀ W g vs w', Ext wr W → Blk W g vs 24 → Upd W g w' → Ext w w' → PolOk w' a n c qs)) (fun wr => slen (wr.cell? ⟨w.heap.size, 0, none⟩))
  case atStart => exact ⟨pa, pn, pc, rs, h100, B1.out, Z1.out, P1.out, rfl, fun r h => h, X1.out, E1.out, fun W g vs w' _ _ _ he => HP.out.ext he⟩
  case round =>
    obtain ⟨a, n, c, qs, hn, hB, hZ, hP, htr, hsub, hX, hE, hKP⟩ := hrel
    have KP := hid hKP
    clear hKP
    have BR := hid hB
    have ZR := hid hZ
    have PR := hid hP
    have TR := hid htr
    have SUB := hid hsub
    have XR := hid hX
    have ER := hid hE
    obtain ⟨xa, xc, rfl, hxok⟩ := hX.slice
    have XOK := hid hxok
    have c0 := hB.cell' (i := 0) rfl
    have HSL := hid (show slen (wr.cell? ⟨w.heap.size, 0, none⟩) = n by rw [c0]; rfl)
    have HLI := hid (rlint_c a n c qs xa xs.length xc xs wr hP hxok hxl (by omega) (by rw [HXP.out]; exact HT.out) (fun r hr => HZ.out r (hsub r hr)))
    rw [HXP.out] at HLI
    clear hB hZ hP htr hsub hX hE hxok
    go_wp2_with (first | (refine wpl_loadw rfl 24 (.tmp 1) rfl rfl BR.out agg_polW rfl ?_))
    refine HLI.out.mono ?_
    rintro e w2 ⟨lv, rfl, hrow, e2⟩
    obtain ⟨la, lc, rfl, hlc, _, hlcell⟩ := own_cellsA hrow
    have HLC := hid hlcell
    have E2 := hid e2
    obtain ⟨m, hm⟩ : ∃ m, (lintK qs WP n).length = m := ⟨_, rfl⟩
    have HM := hid hm
    rw [hm] at hlc ⊢
    have hm2 : m ≤ n := by rw [← hm]; exact lintK_len qs WP n
    clear hrow hlcell e2 HLI hm c0
    go_wp2
    go_loopw [5, 17] (fun at' i wq => ∃ k : Nat, k ≤ m ∧ i = .int .i64 (k : Int) ∧ at' = .int .i64 (foI (lastK qs WP ((lintK qs WP n).take k))) ∧ Ext w2 wq) (fun _ i _ => m - (intOf i).toNat)
    case atStart => exact ⟨0, by omega, rfl, rfl, Ext.refl _⟩
    case round =>
      obtain ⟨k, hk, rfl, rfl, e3⟩ := hrel
      have E3 := hid e3
      by_cases hlt : k < m
      · obtain ⟨i, hik⟩ : ∃ i, (lintK qs WP n)[k]? = some i := ⟨(lintK qs WP n)[k]'(by rw [HM.out]; exact hlt), by simp⟩
        obtain ⟨A, rfl, hca⟩ := warns_at (HLC.out.ext e3) hik
        obtain ⟨hk0, hin⟩ := lintK_kind hik
        have hvv : warnV (kindW qs WP i) i = warnL (i : Int) (kindW qs WP i : Int) := by unfold warnV; rw [if_neg hk0]
        rw [hvv] at hca
        have HCA := hid hca
        have HS := hid (show lastK qs WP ((lintK qs WP n).take (k + 1)) = if kindW qs WP i = 3 then lastK qs WP ((lintK qs WP n).take k) else some i by rw [List.take_add_one, hik]; exact lastK_snoc qs WP _ i)
        obtain ⟨K, hK⟩ : ∃ K, kindW qs WP i = K := ⟨_, rfl⟩
        rw [hK] at HS HCA
        have hw1 : ∀ v ∈ warnL (i : Int) (K : Int), v.oneCell' = true := by intro v hv; unfold warnL at hv; simp at hv; rcases hv with rfl | rfl | rfl <;> rfl
        clear hca hvv hK hk0 hik e3
        go_wp2_with (first | (refine wpl_run rfl (exec_index (i := k) rfl rfl rfl Tryz.underlying55 size_warn hlt _) ?_) | (refine wpl_run rfl (exec_load_at rfl rfl HCA.out HAW.out rfl) ?_) | (refine wpl_storew rfl _ (.tmp 7) _ rfl rfl rfl (Blk.mk_alloc (vs := warnZ) rfl rfl) HAW.out rfl (xs := warnL (i : Int) (K : Int)) rfl hw1 ?_))
        intro w4 b4 u4
        have e4 : Ext wr w4 := u4.ext ((Ext.refl wr).alloc _) (Nat.le_refl _)
        have E4 := hid (E3.out.ext e4)
        obtain ⟨g7, hg7⟩ : ∃ g, wr.heap.size = g := ⟨_, rfl⟩
        rw [hg7] at b4 ⊢
        have k0 := b4.cell' (i := 0) rfl
        have k1 := b4.cell' (i := 1) rfl
        clear b4 u4 e4 hg7 HCA E3
        by_cases h3 : K = 3
        · have q3 : ((K : Int) == 3) = true := by rw [h3]; rfl
          have n3 : ((K : Int) != 3) = false := by unfold bne; rw [q3]; rfl
          have HS2 := HS.out
          rw [if_pos h3] at HS2
          have HS3 := hid HS2
          clear HS2 HS
          go_wp2
          go_roundw
          case rel => exact ⟨k + 1, by omega, by go_num, by rw [HS3.out], E4.out⟩
          case measure => simp [intOf]; omega
        · have q3 : ((K : Int) == 3) = false := by rw [beq_eq_false_iff_ne]; omega
          have n3 : ((K : Int) != 3) = true := by unfold bne; rw [q3]; rfl
          have HS2 := HS.out
          rw [if_neg h3] at HS2
          have HS3 := hid HS2
          clear HS2 HS
          go_wp2
          go_roundw
          case rel => exact ⟨k + 1, by omega, by go_num, by rw [HS3.out]; rfl, E4.out⟩
          case measure => simp [intOf]; omega
      · obtain rfl : k = m := by omega
        have hla : lastK qs WP ((lintK qs WP n).take k) = lastW qs WP n := by
          rw [List.take_of_length_le (by rw [HM.out]; exact Nat.le_refl _)]
          exact lastK_all qs WP n
        rw [hla]
        have W3 := hid (E2.out.ext E3.out)
        have KP3 := hid (fun g vs w' => KP.out wr g vs w' W3.out)
        clear KP
        have B3 := hid (BR.out.ext W3.out)
        have Z3 := hid (ZR.out.ext W3.out)
        have X3 := hid (XR.out.ext W3.out)
        have P3 := hid (PR.out.ext W3.out)
        have E5 := hid (ER.out.ext W3.out)
        have hql : qs.length = n := PR.out.hl
        have HQL := hid hql
        clear hla e3 E3 E2 BR ZR PR XR ER XOK HLC hql
        cases hlw : lastW qs WP n with
        | none =>
          have htw : trimW WP rs = qs := by
            rw [← TR.out]
            exact trimW_none (by rw [HQL.out]; exact hlw)
          have HTW := hid htw
          clear htw hlw
          rw [show foI none = (-1 : Int) from rfl]
          go_wp2_with (first | (refine wpl_loadw rfl 24 (.tmp 1) rfl rfl B3.out agg_polW rfl ?_) | (refine wpl_storew rfl _ (.tmp 2) _ rfl rfl rfl Z3.out agg_polW rfl (xs := [.slice a n c]) rfl (by simp [Value.oneCell']) ?_))
          intro w6 b6 u6
          have e6 : Ext w w6 := u6.ext E5.out (by omega)
          have p6 := KP3.out _ _ w6 Z3.out u6 e6
          go_wp2_with fail
          rw [← HTW.out] at p6
          exact ret_row rfl rfl b6 agg_polW rfl rfl ⟨_, _, _, rfl, p6, e6⟩
        | some i =>
          obtain ⟨hi, hcut⟩ := lastW_lt hlw
          have htw : trimW WP (qs.eraseIdx i) = trimW WP rs := by
            rw [← TR.out]
            exact (trimW_some (by rw [HQL.out]; exact hlw)).symm
          have HTW := hid htw
          have hdec : decide ((i : Int) < 0) = false := decide_eq_false (by omega)
          clear htw hlw hcut
          rw [show foI (some i) = (i : Int) from rfl]
          go_wp2_with (first | (refine wpl_loadw rfl 24 (.tmp 1) rfl rfl B3.out agg_polW rfl ?_))
          refine (without_c a n c qs i wr P3.out (by omega) hi).mono ?_
          rintro e w6 ⟨qa, qc, rfl, _, hown, e6⟩
          have OW6 := hid hown
          have B6 := hid (B3.out.ext e6)
          have Z6 := hid (Z3.out.ext e6)
          have X6 := hid (X3.out.ext e6)
          have E6 := hid (E5.out.ext e6)
          have hszw : w.heap.size < wr.heap.size := B3.out.lt
          clear hown e6 B3 Z3 X3 E5
          go_wp2_with (first | (refine wpl_storew rfl _ (.tmp 1) _ rfl rfl rfl B6.out agg_polW rfl (xs := [.slice qa (n - 1) qc]) rfl (by simp [Value.oneCell']) ?_))
          intro w7 b7 u7
          have E7 := hid (u7.ext E6.out (Nat.le_refl _))
          have hrow := own_keepW OW6.out (w' := w7) (fun p hp => u7.block _ (by have := (OW6.out.lt p hp).1; omega))
          have X7 := hid (X6.out.upd B6.out (by decide) (by decide) u7)
          have Z7 := hid (Z6.out.upd u7 (by omega))
          have B7 := hid b7
          obtain ⟨_, _, hv7, hac7, _, hcell7⟩ := own_cellsA hrow
          cases hv7
          have P7 : Hid (PolOk w7 qa (n - 1) qc (qs.eraseIdx i)) := hid ⟨by rw [List.length_eraseIdx_of_lt (by rw [HQL.out]; exact hi), HQL.out], hac7, by omega, hcell7, fun r hr => (HP.out.ok r (SUB.out r (List.mem_of_mem_eraseIdx hr))).ext E7.out⟩
          have KP7 : Hid (∀ W g vs w', Ext w7 W → Blk W g vs 24 → Upd W g w' → Ext w w' → PolOk w' qa (n - 1) qc (qs.eraseIdx i)) := hid (fun W g vs w' hW hb hu he => by
            have hr2 := own_extW hrow hW
            have hr3 := own_keepW hr2 (w' := w') (fun p hp => hu.block _ (own_ne hr2 hb (by decide) p hp))
            obtain ⟨_, _, hv8, hac8, _, hcell8⟩ := own_cellsA hr3
            cases hv8
            exact ⟨P7.out.hl, hac8, by omega, hcell8, fun r hr => (HP.out.ok r (SUB.out r (List.mem_of_mem_eraseIdx hr))).ext he⟩)
          have HSL7 := hid (show slen (w7.cell? ⟨w.heap.size, 0, none⟩) = n - 1 by rw [b7.cell' (i := 0) rfl]; rfl)
          clear b7 u7 hrow hcell7 OW6 B6 Z6 X6 E6
          go_wp2_with fail
          go_roundw
          case rel => exact ⟨_, _, _, _, by omega, B7.out, Z7.out, P7.out, HTW.out, (fun r hr => SUB.out r (List.mem_of_mem_eraseIdx hr)), X7.out, E7.out, KP7.out⟩
          case measure => rw [HSL.out, HSL7.out]; omega
end

section
open Go Go.RowKit

section
variable {P : Program} {ops : Array Oper} {Q : Exit → Act → World → Prop} {C : World → Prop}

theorem Agree.over {n : Nat} {vs : Nat → Value} {a0 a : Act} {S : Nat → Bool} (h : Agree ops n vs a0 S a) {i : Nat} (hin : i < n) (v : Value)
    (hd : ∀ j, j < n → j ≠ i → ∀ t, dstOf ops i = some t → dstOf ops j ≠ some t) : Agree ops n (fun j => if j = i then v else vs j) a0 (fun j => S j || j == i) (a.put (dstOf ops i) v) := by
  cases hdi : dstOf ops i with
  | none =>
    refine ⟨h.dfs, h.sz, fun t ht j hj hSj hdj => ?_, fun t ht hno => h.no t ht fun j hj hSj => hno j hj (by rw [hSj]; rfl)⟩
    have hji : j ≠ i := fun e => by subst e; rw [hdi] at hdj; cases hdj
    have hSj' : S j = true := by simpa [hji] using hSj
    rw [if_neg hji]; exact h.yes t ht j hj hSj' hdj
  | some d =>
    refine ⟨h.dfs, by simp [Act.put, h.sz], fun t ht j hj hSj hdj => ?_, fun t ht hno => ?_⟩
    · by_cases hji : j = i
      · subst hji
        rw [hdi] at hdj
        cases hdj
        have : d < a.tmps.size := by rw [h.sz]; exact ht
        simp [Act.put, this]
      · have hne : d ≠ t := fun e => hd j hj hji d hdi (by rw [hdj, e])
        have hSj' : S j = true := by simpa [hji] using hSj
        simp only [Act.put]
        rw [Array.getElem?_setIfInBounds_ne hne, if_neg hji]
        exact h.yes t ht j hj hSj' hdj
    · have hne : d ≠ t := fun e => hno i hin (by simp) (by rw [hdi, e])
      simp only [Act.put]
      rw [Array.getElem?_setIfInBounds_ne hne]
      exact h.no t ht fun j hj hSj => hno j hj (by rw [hSj]; rfl)
theorem Agree.congS {n : Nat} {vs : Nat → Value} {a0 a : Act} {S S' : Nat → Bool} (h : Agree ops n vs a0 S a) (e : ∀ j, S j = S' j) : Agree ops n vs a0 S' a := by
  have : S = S' := funext e
  rw [← this]; exact h
theorem putUn_over {n : Nat} {a0 : Act} {us : Nat → Value} (hd : ∀ i, i < n → ∀ j, j < n → j ≠ i → ∀ t, dstOf ops i = some t → dstOf ops j ≠ some t) :
    ∀ (un : List Nat) (vs : Nat → Value) (S : Nat → Bool) (a : Act), (∀ x ∈ un, x < n) → Agree ops n vs a0 S a →
      Agree ops n (fun j => if un.contains j then us j else vs j) a0 (fun j => S j || un.contains j) (putUn ops us un a)
  | [], vs, S, a, _, h => by simpa [putUn] using h
  | x :: r, vs, S, a, hx, h => by
    have h1 := hx x (by simp)
    have := putUn_over (us := us) hd r _ _ _ (fun y hy => hx y (by simp [hy])) (h.over h1 (us x) (hd x h1))
    have hcons : ∀ j, (x :: r).contains j = (j == x || r.contains j) := fun j => rfl
    refine Agree.congS (Agree.cong this fun j hj hS => ?_) (fun j => by rw [hcons, Bool.or_assoc])
    show (if r.contains j = true then us j else if j = x then us x else vs j) = if (x :: r).contains j = true then us j else vs j
    by_cases hr : r.contains j = true
    · rw [if_pos hr, if_pos (by rw [hcons, hr, Bool.or_true])]
    · rw [if_neg hr]
      by_cases hjx : j = x
      · subst hjx
        rw [if_pos rfl, if_pos (by rw [hcons]; simp)]
      · rw [if_neg hjx, if_neg]
        rw [hcons]
        simp only [Bool.or_eq_true, beq_iff_eq, not_or]
        exact ⟨hjx, hr⟩

/-- the operation yields a value of which G tells, in each world of the class, whatever the values before it are -/
def yieldsU2 (P : Program) (ops : Array Oper) (C : World → Prop) (un : List Nat) (G : Nat → Value → World → Prop) (o : Oper) (k : Nat) (a : Act) : Prop :=
  ∀ us w, C w → (∀ x ∈ un, waits ops k x = true → G x (us x) w) → uponU P C w (G k) ((execOp (putUn ops us un a).eval o).run P w)

def wpQV (P : Program) (ops : Array Oper) (C : World → Prop) (un : List Nat) (G : Nat → Value → World → Prop) (R : Act → Prop) : List Oper → Nat → Act → Prop
  | [], _, a => R a
  | o :: rest, k, a =>
    if un.contains k then o.guard = none ∧ yieldsU2 P ops C un G o k a ∧ wpQV P ops C un G R rest (k + 1) (a.put o.dst undef)
    else if Region.wanted o (yielded ops a.tmps) then ∃ v, yieldsE P C o a v ∧ wpQV P ops C un G R rest (k + 1) (a.put o.dst v)
    else wpQV P ops C un G R rest (k + 1) (a.put o.dst undef)
theorem wpQV_nil {un : List Nat} {G : Nat → Value → World → Prop} {R : Act → Prop} {k : Nat} {a : Act} (h : R a) : wpQV P ops C un G R [] k a := h
theorem wpQV_un {un : List Nat} {G : Nat → Value → World → Prop} {R : Act → Prop} {k : Nat} {a : Act} {o : Oper} {rest : List Oper} (hk : un.contains k = true) (hg : o.guard = none) (hy : yieldsU2 P ops C un G o k a)
    (h : wpQV P ops C un G R rest (k + 1) (a.put o.dst undef)) : wpQV P ops C un G R (o :: rest) k a := by
  simp only [wpQV, hk, if_true]; exact ⟨hg, hy, h⟩
theorem wpQV_do {un : List Nat} {G : Nat → Value → World → Prop} {R : Act → Prop} {k : Nat} {a : Act} {o : Oper} {rest : List Oper} (hk : un.contains k = false) (hw : Region.wanted o (yielded ops a.tmps) = true) (v : Value)
    (hv : yieldsE P C o a v) (h : wpQV P ops C un G R rest (k + 1) (a.put o.dst v)) : wpQV P ops C un G R (o :: rest) k a := by
  simp only [wpQV, hk, Bool.false_eq_true, if_false, hw, if_true]; exact ⟨v, hv, h⟩
theorem wpQV_no {un : List Nat} {G : Nat → Value → World → Prop} {R : Act → Prop} {k : Nat} {a : Act} {o : Oper} {rest : List Oper} (hk : un.contains k = false) (hw : Region.wanted o (yielded ops a.tmps) = false)
    (h : wpQV P ops C un G R rest (k + 1) (a.put o.dst undef)) : wpQV P ops C un G R (o :: rest) k a := by
  simp only [wpQV, hk, Bool.false_eq_true, if_false, hw]; exact h

def stepV (P : Program) (ops : Array Oper) (C : World → Prop) (un : List Nat) (G : Nat → Value → World → Prop) (o : Oper) (k : Nat) (a : Act) (v : Value) : Prop :=
  (un.contains k = true ∧ o.guard = none ∧ yieldsU2 P ops C un G o k a) ∨ (un.contains k = false ∧ Region.wanted o (yielded ops a.tmps) = true ∧ yieldsE P C o a v) ∨ (un.contains k = false ∧ Region.wanted o (yielded ops a.tmps) = false ∧ v = undef)

theorem lex_valsV {un : List Nat} {G : Nat → Value → World → Prop} {R : Act → Prop} : ∀ (l : List Oper) (k : Nat) (a : Act), (∀ j, j < l.length → ops[k + j]? = l[j]?) → wpQV P ops C un G R l k a →
    ∃ (vs : Nat → Value) (st : Nat → Act), st k = a ∧ (∀ j, k ≤ j → j < k + l.length → st (j + 1) = (st j).put (dstOf ops j) (vs j) ∧ ∃ o, ops[j]? = some o ∧ stepV P ops C un G o j (st j) (vs j)) ∧ R (st (k + l.length))
  | [], k, a, _, h => ⟨fun _ => undef, fun _ => a, rfl, fun j h1 h2 => by simp at h2; omega, h⟩
  | o :: l, k, a, hl, h => by
    have h0 : ops[k]? = some o := by simpa using hl 0 (by simp)
    have hv : ∃ v, stepV P ops C un G o k a v ∧ wpQV P ops C un G R l (k + 1) (a.put o.dst v) := by
      simp only [wpQV] at h
      by_cases h1 : un.contains k = true
      · rw [if_pos h1] at h; exact ⟨undef, .inl ⟨h1, h.1, h.2.1⟩, h.2.2⟩
      · rw [if_neg h1] at h
        have h1' : un.contains k = false := by simpa using h1
        by_cases h2 : Region.wanted o (yielded ops a.tmps) = true
        · rw [if_pos h2] at h
          obtain ⟨v, hv, h⟩ := h
          exact ⟨v, .inr (.inl ⟨h1', h2, hv⟩), h⟩
        · rw [if_neg h2] at h
          exact ⟨undef, .inr (.inr ⟨h1', by simpa using h2, rfl⟩), h⟩
    obtain ⟨v, hy, hK⟩ := hv
    obtain ⟨vs, st, h1, h2, h3⟩ := lex_valsV l (k + 1) _ (fun j hj => by
      have := hl (j + 1) (by simpa using hj)
      simpa [Nat.add_assoc, Nat.add_comm 1 j] using this) hK
    refine ⟨fun j => if j = k then v else vs j, fun j => if j = k then a else st j, by simp, fun j hj hj' => ?_, ?_⟩
    · by_cases hjk : j = k
      · subst hjk
        simp only [if_true, if_neg (show j + 1 ≠ j by omega)]
        refine ⟨by rw [h1]; simp [dstOf, h0], o, h0, hy⟩
      · simp only [if_neg hjk, if_neg (show j + 1 ≠ k by omega)]
        exact h2 j (by omega) (by simp only [List.length_cons] at hj'; omega)
    · simp only [List.length_cons, if_neg (show k + (l.length + 1) ≠ k by omega)]
      have e : k + (l.length + 1) = k + 1 + l.length := by omega
      rw [e]; exact h3

def unOk2 (ops : Array Oper) (n : Nat) (un : List Nat) : Bool :=
  un.all fun x => decide (x < n) && ((List.range n).all fun i => (un.contains i && decide (x < i)) || (ops[i]?).all fun o => (dstOf ops x).all fun t => !(o.looksAt ops).contains t)

/-- A region whose order is drawn: the first n operations read and call quietly in every world of the class C, or yield (un: their numbers) values of which G tells; the others come behind them, one by one. -/
theorem wp_region_un2 {id : Nat} {a : Act} {w : World} {l : List Oper} (n : Nat) (un : List Nat) (G : Nat → Value → World → Prop) (hm : P.follows .mixedOrders = true) (hB : clsOk l.toArray n = true)
    (hA : unOk2 l.toArray n un = true) (hC : C w.drew) (hG : ∀ k v w w', G k v w → Ext w w' → G k v w')
    (h : wpQV P l.toArray C un G (fun a' => ∀ us w', C w' → (∀ x ∈ un, G x (us x) w') →
      wpList P l.toArray Q (l.drop n) (putUn l.toArray us un a') w') (l.take n) 0 a) : (Code.region id l.toArray true).wp P Q a w := by
  obtain ⟨b1, b2, ⟨b3, b5⟩, b4⟩ := clsOk_spec hB
  have hA' : ∀ x ∈ un, x < n ∧ ∀ i, i < n → (un.contains i = true → i ≤ x) → ∀ o, l.toArray[i]? = some o → ∀ t, dstOf l.toArray x = some t → t ∉ o.looksAt l.toArray := by
    intro x hx
    have := List.all_eq_true.1 hA x hx
    simp only [Bool.and_eq_true, decide_eq_true_eq, List.all_eq_true, List.mem_range, Option.all_eq_true, Bool.not_eq_true', Bool.or_eq_true] at this
    refine ⟨this.1, fun i hi hix o ho t ht hmem => ?_⟩
    rcases this.2 i hi with ⟨h1, h2⟩ | h1
    · have := hix h1; omega
    · have := h1 o ho t ht
      rw [List.contains_iff_mem.2 hmem] at this; cases this
  have hnl : n ≤ l.length := by simpa using b4
  have htl : (l.take n).length = n := by simp [hnl]
  have hdd : ∀ i, i < n → ∀ j, j < n → j ≠ i → ∀ t, dstOf l.toArray i = some t → dstOf l.toArray j ≠ some t := by
    intro i hi j hj hji t hd hd'
    have ho : l.toArray[i]? = some l[i] := by simp <;> omega
    have := ((b2 i _ hi ho).2 j t hj hd').1 (Ne.symm hji)
    simp only [dstOf, ho] at hd
    exact this hd
  obtain ⟨vs, st, hst0, hst, hK⟩ := lex_valsV (l.take n) 0 a (fun j hj => by
    have hj' : j < n := by rw [htl] at hj; exact hj
    simp [hj']) h
  rw [htl] at hst hK
  simp only [Nat.zero_add] at hst hK
  have hag : ∀ i, i ≤ n → Agree l.toArray n vs a (fun j => decide (j < i)) (st i) := by
    intro i
    induction i with
    | zero =>
      intro _
      rw [hst0]
      exact ⟨rfl, rfl, fun _ _ _ _ h => by simp at h, fun _ _ _ => rfl⟩
    | succ i ih =>
      intro hi
      obtain ⟨h1, o, ho, _⟩ := hst i (Nat.zero_le _) (by omega)
      rw [h1]
      refine (ih (by omega)).put (by omega) (by simp) (by simp) (fun j hj => ?_) (fun j hj hji t hd => hdd i (by omega) j hj hji t hd)
      simp; omega
  refine wp_region_inv (I := fun listed a' w' =>
    ((∀ t, n ≤ t → listed.getD t false = false) ∧ (∀ i, listed.getD i false = true → ∀ o, l.toArray[i]? = some o → ∀ e ∈ o.after, Region.binds .any e = true → listed.getD e.on false = true) ∧ C w' ∧
      ∃ us : Nat → Value, Agree l.toArray n (fun j => if un.contains j then us j else vs j) a (fun j => listed.getD j false) a' ∧
        (∀ x ∈ un, listed.getD x false = true → G x (us x) w')) ∨
    (∃ m, n ≤ m ∧ m ≤ l.length ∧ (∀ j, j < l.length → listed.getD j false = decide (j < m)) ∧ wpList P l.toArray Q (l.drop m) a' w')) hm ?_ ?_ ?_
  · have hf : ∀ t, (Array.replicate l.toArray.size false).getD t false = false := fun t => by
      simp [Array.getElem?_replicate]
      split <;> rfl
    refine .inl ⟨fun t _ => hf t, fun i hi => (by rw [hf] at hi; cases hi), hC, fun _ => undef, ⟨rfl, rfl, fun _ _ i _ h => (by rw [hf] at h; cases h), fun _ _ _ => rfl⟩, fun x _ h => (by rw [hf] at h; cases h)⟩
  · intro listed a' w' i hsz hI hi
    obtain ⟨hun, o, ho, hall⟩ := mem_ready.1 hi
    have hil : i < l.length := by simpa using (Array.getElem?_eq_some_iff.1 ho).1
    have hun' : listed.getD i false = false := by rw [← getD_ft (by rw [hsz]; simpa using hil)]; exact hun
    have hw8 : ∀ j, waits l.toArray i j = true → listed.getD j false = true := fun j hj => by
      obtain ⟨o', ho', e, he, hb, hon⟩ := waits_spec hj
      have : o' = o := Option.some.inj (ho'.symm.trans ho)
      subst this
      rw [← hon]; exact hall e he hb
    have hsi : (listed.setIfInBounds i true).getD i false = true := by
      have : i < listed.size := by rw [hsz]; simpa using hil
      simp [this]
    have hsn : ∀ j, j ≠ i → (listed.setIfInBounds i true).getD j false = listed.getD j false := fun j hj => by
      simp only [Array.getD_eq_getD_getElem?]
      rw [Array.getElem?_setIfInBounds_ne (Ne.symm hj)]
    have two : ∀ m, n ≤ m → m ≤ l.length → (∀ j, j < l.length → listed.getD j false = decide (j < m)) → wpList P l.toArray Q (l.drop m) a' w' →
        wpOp P l.toArray Q i (fun a'' w'' => (∃ m, n ≤ m ∧ m ≤ l.length ∧ (∀ j, j < l.length → (listed.setIfInBounds i true).getD j false = decide (j < m)) ∧ wpList P l.toArray Q (l.drop m) a'' w'')) a' w' := by
      intro m hnm hml hlist hw
      have him : i = m := by
        have h1 : ¬ i < m := fun hlt => by have := hlist i hil; rw [hun'] at this; simp at this; omega
        rcases Nat.lt_or_ge m i with h2 | h2
        · have h3 := hw8 (i - 1) (b5 i (by omega) (by simpa using hil))
          have h4 := hlist (i - 1) (by omega)
          rw [h3] at h4; simp at h4; omega
        · omega
      subst him
      have hd : l.drop i = o :: l.drop (i + 1) := by
        have ho' : l[i] = o := by
          have := (Array.getElem?_eq_some_iff.1 ho).2
          simpa using this
        rw [← ho']; exact List.drop_eq_getElem_cons hil
      rw [hd] at hw
      have hw' : wpOp P l.toArray Q i (wpList P l.toArray Q (l.drop (i + 1))) a' w' := by
        unfold wpOp; simp only [ho]; exact hw
      refine wpOp_mono (fun a'' w'' h'' => ⟨i + 1, by omega, by omega, fun j hj => ?_, h''⟩) hw'
      by_cases hji : j = i
      · subst hji; rw [hsi]; simp
      · rw [hsn j hji, hlist j hj]
        by_cases hjl : j < i
        · simp [hjl]; omega
        · simp [hjl]; omega
    rcases hI with ⟨hno, hdc, hCw, us, hAg, hbl⟩ | ⟨m, hnm, hml, hlist, hw⟩
    · have hdc' : ∀ k, (listed.setIfInBounds i true).getD k false = true → ∀ ok, l.toArray[k]? = some ok → ∀ e ∈ ok.after, Region.binds .any e = true → (listed.setIfInBounds i true).getD e.on false = true := by
        intro k hk ok hok e he hb
        have hset : ∀ j, listed.getD j false = true → (listed.setIfInBounds i true).getD j false = true := fun j hj => by
          by_cases hji : j = i
          · subst hji; exact hsi
          · rw [hsn j hji]; exact hj
        by_cases hki : k = i
        · subst hki
          have : ok = o := Option.some.inj (hok.symm.trans ho)
          subst this
          exact hset _ (hall e he hb)
        · rw [hsn k hki] at hk
          exact hset _ (hdc k hk ok hok e he hb)
      by_cases hin : i < n
      · have hno' : ∀ t, n ≤ t → (listed.setIfInBounds i true).getD t false = false := fun t ht => by rw [hsn t (by omega)]; exact hno t ht
        have hdo : o.dst = dstOf l.toArray i := by simp [dstOf, ho]
        obtain ⟨_, o', ho', hy⟩ := hst i (Nat.zero_le _) hin
        have : o' = o := Option.some.inj (ho'.symm.trans ho)
        subst this
        obtain ⟨b21, b22⟩ := b2 i o' hin ho
        have hev := fun hui : un.contains i = false => hAg.eval2 (hag i (by omega)) (o := o') b21 (fun j hj t hd ht => by
          have hjal : un.contains j = false := by
            cases hj2 : un.contains j with
            | false => rfl
            | true => exact absurd ht ((hA' j (List.contains_iff_mem.1 hj2)).2 i hin (fun h => by rw [hui] at h; cases h) o' ho t hd)
          refine ⟨?_, by simp only [hjal, Bool.false_eq_true, if_false]⟩
          obtain ⟨_, c2⟩ := b22 j t hj hd
          obtain ⟨c3, c4⟩ := c2 ht
          rcases Nat.lt_trichotomy j i with h1 | h1 | h1
          · simp only [h1, decide_true]; exact hw8 j (c3 h1)
          · subst h1; simp only [Nat.lt_irrefl, decide_false]; exact hun'
          · have : ¬ j < i := by omega
            simp only [this, decide_false]
            cases hl : listed.getD j false with
            | false => rfl
            | true =>
              obtain ⟨oj, hoj, e, he, hb, hon⟩ := waits_spec (c4 h1)
              have := hdc j hl oj hoj e he hb
              rw [hon, hun'] at this; cases this)
        have hev2 := fun hui : un.contains i = true => hAg.eval2 (putUn_over (us := us) hdd un vs _ (st i) (fun x hx => (hA' x hx).1) (hag i (by omega))) (o := o') b21 (fun j hj t hd ht => by
          refine ⟨?_, rfl⟩
          obtain ⟨_, c2⟩ := b22 j t hj hd
          obtain ⟨c3, c4⟩ := c2 ht
          rcases Nat.lt_trichotomy j i with h1 | h1 | h1
          · simp only [h1, decide_true, Bool.true_or]; exact hw8 j (c3 h1)
          · subst h1
            exact absurd ht ((hA' j (List.contains_iff_mem.1 hui)).2 j hin (fun _ => Nat.le_refl _) o' ho t hd)
          · have hjn : ¬ j < i := by omega
            have hju : un.contains j = false := by
              cases hj2 : un.contains j with
              | false => rfl
              | true => exact absurd ht ((hA' j (List.contains_iff_mem.1 hj2)).2 i hin (fun _ => by omega) o' ho t hd)
            simp only [hjn, decide_false, hju, Bool.false_or]
            cases hl : listed.getD j false with
            | false => rfl
            | true =>
              obtain ⟨oj, hoj, e, he, hb, hon⟩ := waits_spec (c4 h1)
              have := hdc j hl oj hoj e he hb
              rw [hon, hun'] at this; cases this)
        have done : ∀ w'' u, C w'' → Ext w' w'' → (un.contains i = true → G i u w'') → (un.contains i = false → u = vs i) → (fun a'' w'' => ((∀ t, n ≤ t → (listed.setIfInBounds i true).getD t false = false) ∧ (∀ k, (listed.setIfInBounds i true).getD k false = true → ∀ o, l.toArray[k]? = some o → ∀ e ∈ o.after, Region.binds .any e = true → (listed.setIfInBounds i true).getD e.on false = true) ∧ C w'' ∧
            ∃ us : Nat → Value, Agree l.toArray n (fun j => if un.contains j then us j else vs j) a (fun j => (listed.setIfInBounds i true).getD j false) a'' ∧
              (∀ x ∈ un, (listed.setIfInBounds i true).getD x false = true → G x (us x) w'')) ∨
          (∃ m, n ≤ m ∧ m ≤ l.length ∧ (∀ j, j < l.length → (listed.setIfInBounds i true).getD j false = decide (j < m)) ∧ wpList P l.toArray Q (l.drop m) a'' w'')) (a'.put o'.dst u) w'' := by
          intro w'' u hC'' hE hGu hku
          refine .inl ⟨hno', hdc', hC'', fun j => if j = i then u else us j, ?_, fun x hx hlx => ?_⟩
          · rw [hdo]
            have h5 : Agree l.toArray n (fun j => if un.contains j then (if j = i then u else us j) else vs j) a (fun j => listed.getD j false) a' :=
              hAg.cong fun j hj hS => by
                by_cases hji : j = i
                · subst hji; rw [hun'] at hS; cases hS
                · simp only [if_neg hji]
            have h6 := h5.put (S' := fun j => (listed.setIfInBounds i true).getD j false) hin hun' hsi (fun j hj => hsn j hj) (fun j hj hji t hd => hdd i hin j hj hji t hd)
            have h9 : (if un.contains i = true then (if i = i then u else us i) else vs i) = u := by
              cases hui : un.contains i with
              | true => simp
              | false => rw [if_neg (by simp)]; exact (hku hui).symm
            have h8 : Agree l.toArray n (fun j => if un.contains j then (if j = i then u else us j) else vs j) a (fun j => (listed.setIfInBounds i true).getD j false) (a'.put (dstOf l.toArray i) (if un.contains i = true then (if i = i then u else us i) else vs i)) := h6
            rw [h9] at h8
            exact h8
          · show G x (if x = i then u else us x) w''
            by_cases hxi : x = i
            · subst hxi; rw [if_pos rfl]; exact hGu (List.contains_iff_mem.2 hx)
            · rw [if_neg hxi]
              rw [hsn x hxi] at hlx
              exact hG _ _ _ _ (hbl x hx hlx) hE
        unfold wpOp
        simp only [ho]
        rcases hy with ⟨hui, hgn, hy⟩ | ⟨hui, hw, hy⟩ | ⟨hui, hw, hy⟩
        · rw [if_pos (by simp [Region.wanted, hgn])]
          refine .inl ?_
          have h3 := hy us w' hCw (fun x hx hwx => hbl x hx (hw8 x hwx))
          rw [← (hev2 hui).1] at h3
          unfold Oper.wp
          generalize (execOp a'.eval o').run P w' = r at h3 ⊢
          have hno2 : un.contains i = false → ∀ u : Value, u = vs i := fun h => by rw [hui] at h; cases h
          cases r with
          | ok nx w'' =>
            cases nx <;> simp only [uponU] at h3 <;> simp only [Oper.upon]
            case value u => exact done _ u h3.1 h3.2.1 (fun _ => h3.2.2) (fun h => hno2 h u)
            case enter f args =>
              obtain ⟨e1, hc⟩ := h3
              rw [e1]
              exact hc.mono fun e w3 ⟨v, he, h0, h1, h2⟩ => by subst he; exact done _ v h1 h2 (fun _ => h0) (fun h => hno2 h v)
          | halt x w'' => simp only [uponU] at h3
        · rw [if_pos (by rw [(hev hui).2]; exact hw)]
          refine .inl ?_
          have h3 := hy w' hCw
          rw [← (hev hui).1] at h3
          unfold Oper.wp
          generalize (execOp a'.eval o').run P w' = r at h3 ⊢
          have hno2 : ∀ v w, un.contains i = true → G i v w := fun v w h => by rw [hui] at h; cases h
          cases r with
          | ok nx w'' =>
            cases nx <;> simp only [uponE] at h3 <;> simp only [Oper.upon]
            case value u =>
              obtain ⟨e1, e2⟩ := h3
              rw [e1, e2]
              exact done _ _ hCw (Ext.refl _) (hno2 _ _) (fun _ => rfl)
            case skip =>
              obtain ⟨e1, e2⟩ := h3
              rw [e1]
              exact done _ _ hCw (Ext.refl _) (hno2 _ _) (fun _ => e2.symm)
            case enter f args =>
              obtain ⟨e1, hc⟩ := h3
              rw [e1]
              exact hc.mono fun e w3 ⟨he, h1, h2⟩ => by subst he; exact done _ _ h1 h2 (hno2 _ _) (fun _ => rfl)
          | halt x w'' => simp only [uponE] at h3
        · rw [if_neg (by rw [(hev hui).2, hw]; simp)]
          exact done _ _ hCw (Ext.refl _) (fun h => by rw [hui] at h; cases h) (fun _ => hy.symm)
      · have hin2 : i = n := by
          rcases Nat.lt_or_ge n i with h1 | h1
          · have h2 := hw8 (i - 1) (b5 i h1 (by simpa using hil))
            rw [hno (i - 1) (by omega)] at h2; cases h2
          · omega
        have hall2 : ∀ j, j < i → listed.getD j false = true := by
          have key : ∀ d j, i - j = d → j < i → listed.getD j false = true := by
            intro d
            induction d using Nat.strongRecOn with
            | _ d ih =>
              intro j hd hj
              obtain ⟨k, hjk, hkn, hw⟩ := b3 (by simpa [hin2] using hil) j (by omega)
              by_cases hki : k = i
              · subst hki; exact hw8 j hw
              · have hk := ih (i - k) (by omega) k rfl (by omega)
                obtain ⟨ok, hok, e, he, hb, hon⟩ := waits_spec hw
                rw [← hon]; exact hdc k hk ok hok e he hb
          exact fun j hj => key _ j rfl hj
        have hfin := putUn_agree (us := us) (S := fun j => decide (j < n)) hdd un vs (st n) (fun x hx => ⟨(hA' x hx).1, by simpa using (hA' x hx).1⟩) (hag n (Nat.le_refl _))
        have hae : a' = putUn l.toArray us un (st n) := hAg.eq hfin fun j hj => by
          rw [hall2 j (by omega)]; simp [hj]
        refine wpOp_mono (fun a'' w'' h'' => .inr h'') (two n (Nat.le_refl _) (by omega) (fun j hj => ?_) ?_)
        · by_cases hjn : j < n
          · rw [hall2 j (by omega)]; simp [hjn]
          · rw [hno j (by omega)]; simp [hjn]
        · rw [hae]
          have hlx : ∀ x ∈ un, listed.getD x false = true := fun x hx => hall2 _ (by have := (hA' x hx).1; omega)
          exact hK us w' hCw (fun x hx => hbl x hx (hlx x hx))
    · exact wpOp_mono (fun a'' w'' h'' => .inr h'') (two m hnm hml hlist hw)
  · intro listed a' w' hsz hI hr
    have hsz' : listed.size = l.length := by rw [hsz]; simp
    rcases hI with ⟨hno, hdc, hCw, us, hAg, hbl⟩ | ⟨m, hnm, hml, hlist, hw⟩
    · have hall : ∀ i, i < l.length → listed.getD i false = true := by
        intro i
        induction i using Nat.strongRecOn with
        | _ i ih =>
          intro hi
          cases hl : listed.getD i false with
          | true => rfl
          | false =>
            have := mem_ready_of (ops := l.toArray) hsz (by simpa using hi) hl (fun j hj => ih j hj (by omega)) (fun o ho e he hb => b1 i o ho e he hb)
            rw [hr] at this; cases this
      have hn : n = l.length := by
        rcases Nat.lt_or_ge n l.length with h1 | h1
        · have := hall n h1
          rw [hno n (Nat.le_refl _)] at this; cases this
        · omega
      have hfin := putUn_agree (us := us) (S := fun j => decide (j < n)) hdd un vs (st n) (fun x hx => ⟨(hA' x hx).1, by simpa using (hA' x hx).1⟩) (hag n (Nat.le_refl _))
      have hae : a' = putUn l.toArray us un (st n) := hAg.eq hfin fun j hj => by
        rw [hall j (by omega)]; simp [hj]
      have hlx : ∀ x ∈ un, listed.getD x false = true := fun x hx => hall _ (by have := (hA' x hx).1; omega)
      have := hK us w' hCw (fun x hx => hbl x hx (hlx x hx))
      rw [hae]
      rw [hn, List.drop_length] at this
      rw [hn]
      exact this
    · have hml' : m = l.length := by
        rcases Nat.lt_or_ge m l.length with h1 | h1
        · have := mem_ready_of (ops := l.toArray) hsz (by simpa using h1) (by rw [hlist m h1]; simp) (fun j hj => by rw [hlist j (by omega)]; simp [hj]) (fun o ho e he hb => b1 m o ho e he hb)
          rw [hr] at this; cases this
        · omega
      rw [hml', List.drop_length] at hw
      exact hw


end
end

section
open Go Go.RowKit

theorem AsksI.besideR {w w' : World} {B B2 n : Nat} {v v2 : Value} {xs : List AskR} {ys : List Value} (h : AsksI w B v xs) (hr : w.ownsRow B2 50 8 v2 n ys) (k : w.grownBy w' v2.ownBlock) : AsksI w' B v xs := by
  refine ⟨Apart.keep (Apart.of_ty hr h.row (by decide)) h.row k, fun x hx => ?_⟩
  have ho := h.own x hx
  obtain ⟨B3, h2⟩ := ho.row
  exact ⟨ho.ha, ho.hk, ho.hd, ⟨B3, Apart.keep (Apart.of_ty hr h2 (by decide)) h2 k⟩, ho.sm, ho.ss, ho.ls⟩
theorem RuleR.Own.besideR {w w' : World} {B2 n : Nat} {v2 : Value} {r : RuleR} {ys : List Value} (h : r.Own w) (hr : w.ownsRow B2 50 8 v2 n ys) (k : w.grownBy w' v2.ownBlock) : r.Own w' :=
  h.keep (fun h2 => Apart.keep (Apart.of_ty hr h2 (by decide)) h2 k) (fun h2 => Apart.keep (Apart.of_ty hr h2 (by decide)) h2 k)
theorem RuleR.Own.upd {w w' : World} {r : RuleR} {g : Nat} {vs : List Value} {T : TypeId} (h : r.Own w) (hb : Blk w g vs T) (h1 : T ≠ 9) (h2 : T ≠ 3) (u : Upd w g w') : r.Own w' :=
  h.keep (fun h3 => own_keepW h3 (fun q hq => u.block _ (own_ne h3 hb h1 q hq))) (fun h3 => own_keepW h3 (fun q hq => u.block _ (own_ne h3 hb h2 q hq)))
/-- the memory of Trim -/
structure TrimS (w0 w : World) (g2 g6 B n : Nat) (v : Value) (qs : List RuleR) (Ba : Nat) (va : Value) (xs : List AskR) : Prop where
  b2 : Blk w g2 [.slice none 0 0] 24
  b6 : Blk w g6 [v] 24
  row : w.ownsRow B 50 8 v n (rulesV qs)
  len : qs.length = n
  own : ∀ r ∈ qs, r.Own w
  asks : AsksI w Ba va xs
  ext : Ext w0 w
  hB : w0.heap.size ≤ B
  hBw : B ≤ w.heap.size
  h26 : g2 ≠ g6
  h6 : w0.heap.size ≤ g6
theorem TrimS.on {w0 w w' : World} {g2 g6 B n : Nat} {v : Value} {qs : List RuleR} {Ba : Nat} {va : Value} {xs : List AskR} (h : TrimS w0 w g2 g6 B n v qs Ba va xs) (e : Ext w w') : TrimS w0 w' g2 g6 B n v qs Ba va xs :=
  ⟨h.b2.ext e, h.b6.ext e, own_extW h.row e, h.len, fun r hr => (h.own r hr).ext e, h.asks.ext e, h.ext.ext e, h.hB, Nat.le_trans h.hBw e.size, h.h26, h.h6⟩
theorem TrimS.put {w0 w w' : World} {g2 g6 B n n' : Nat} {v v' : Value} {qs qs' : List RuleR} {Ba : Nat} {va : Value} {xs : List AskR} (h : TrimS w0 w g2 g6 B n v qs Ba va xs) (k : w.grownBy w' v.ownBlock)
    (hr : w'.ownsRow B 50 8 v' n' (rulesV qs')) (hl : qs'.length = n') (ho : ∀ r ∈ qs', r.Own w) : TrimS w0 (w'.setCell ⟨g6, 0, none⟩ v') g2 g6 B n' v' qs' Ba va xs := by
  have e1 : Ext w0 w' := h.ext.grown k (fun q hq => Nat.le_trans h.hB (h.row.lt q hq).1)
  have n6 : some g6 ≠ v.ownBlock := fun e => own_ne h.row h.b6 (by decide) g6 e.symm rfl
  have n2 : some g2 ≠ v.ownBlock := fun e => own_ne h.row h.b2 (by decide) g2 e.symm rfl
  have b6 := h.b6.grown k n6
  have b2 := h.b2.grown k n2
  have u : Upd w' g6 (w'.setCell ⟨g6, 0, none⟩ v') := Upd.setCell _
  refine ⟨b2.set_other _ _ h.h26, b6.set 0 v', own_keepW hr (fun q hq => u.block _ (own_ne hr b6 (by decide) q hq)), hl, fun r hrr => ((ho r hrr).besideR h.row k).upd b6 (by decide) (by decide) u, (h.asks.besideR h.row k).upd b6 (by decide) (by decide) u, u.ext e1 h.h6, h.hB, ?_, h.h26, h.h6⟩
  rw [u.size]
  have := h.hBw
  have := k.size
  omega
theorem TrimS.pol {w0 w : World} {g2 g6 B n : Nat} {v : Value} {qs : List RuleR} {Ba : Nat} {va : Value} {xs : List AskR} (h : TrimS w0 w g2 g6 B n v qs Ba va xs) (hn : n ≤ 1000) : ∃ a c, v = .slice a n c ∧ PolOk w a n c qs := by
  obtain ⟨a, c, hv, hac, _, hc⟩ := own_cellsA h.row
  exact ⟨a, c, hv, h.len, hac, by omega, hc, fun r hr => (h.own r hr).ok⟩
theorem exec_buildOneW {P : Program} {t e : TypeId} {z y : Nat} {o : Oper} {a : Act} {w : World} (T : ElemT P t e z y) (hz1 : z ≤ 100000) {x : Operand} {cs : List Value} (ho : o.op = .buildSlice t 1 #[(0, x)]) (hx : a.eval x = .agg cs.toArray) (hl : cs.length = z) :
    (execOp a.eval o).run P w = .ok (.value (.slice (some ⟨w.heap.size, 0, none⟩) 1 1)) (w.alloc (.cells cs.toArray e)) := by
  obtain ⟨i0, z0, hi, hz, hsz, hb1, hzs⟩ := T.info
  have hpos := T.pos
  have hf : ∀ cells : Array Value, cells.size = z → Instr.fill (fun i => some (i * z, z)) cells [(0, .agg cs.toArray)] = some cs.toArray := by
    intro cells hc
    have h := Great.fill_whole (s := z) hpos [.agg cs.toArray] cells (by intro v hv; rw [List.mem_singleton.1 hv]; simp [Value.cells, hl]) (by simp [hc])
    simpa [Value.cells] using h
  have h := run_buildSlice (P := P) w t e 1 #[(0, .agg cs.toArray)] cs.toArray i0 _ T.hu hi hz (by rw [hsz]; omega) (by rw [hsz]; omega) (by rw [hsz]; exact hf _ (by simp))
  have he : (#[(0, x)].map fun (p : Nat × Operand) => (p.1, a.eval p.2)) = #[(0, .agg cs.toArray)] := by simp [hx]
  unfold execOp
  simp only [ho, Sem.run_bind]
  have h2 : (Instr.buildSlice t 1 (#[(0, x)].map fun (p : Nat × Operand) => (p.1, a.eval p.2))).run P w = .ok (.slice (some ⟨w.heap.size, 0, none⟩) 1 1) (w.alloc (.cells cs.toArray e)) := by rw [he]; exact h
  rw [h2]
  rfl
theorem uponU_call {P : Program} {C : World → Prop} {o : Oper} {a : Act} {w : World} {f : FuncId} {xs : Array Operand} {ts : Array TypeId} {args : Array Value} {G : Value → World → Prop} (ho : o.op = .call { callee := .value (.func f), args := xs, argTypes := ts })
    (hf : ∀ args w, (callFunc f args).run P w = .ok (.enter f args) w) (ha : xs.map a.eval = args)
    (hc : Calls P f args w (fun e w' => ∃ v, e = .returned v ∧ G v w' ∧ Ext w w')) (hC : ∀ w', Ext w w' → C w') : uponU P C w G ((execOp a.eval o).run P w) := by
  have hr : (execOp a.eval o).run P w = .ok (.enter f args) w := by
    unfold execOp
    simp only [ho, resolve, Act.eval, Deferred.ofValue, Sem.run_bind, Sem.run_pure, Result.andThen_ok, invoke]
    have : (#[] ++ xs.map a.eval ++ #[] : Array Value) = args := by simp [ha]
    simpa [ha] using hf args w
  rw [hr]
  exact ⟨rfl, hc.mono fun e w' ⟨v, h1, h2, h3⟩ => ⟨v, h1, h2, hC _ h3, h3⟩⟩
theorem TrimS.done {w0 w w' : World} {g2 g6 B n c : Nat} {a : Option Addr} {qs : List RuleR} {Ba : Nat} {va : Value} {xs : List AskR} (h : TrimS w0 w g2 g6 B n (.slice a n c) qs Ba va xs) (hn : n ≤ 1000) (u : Upd w g2 w') : PolOk w' a n c qs := by
  obtain ⟨_, _, hv, hac, _, hc⟩ := own_cellsA (own_keepW h.row (w' := w') (fun q hq => u.block _ (own_ne h.row h.b2 (by decide) q hq)))
  cases hv
  exact ⟨h.len, hac, by omega, hc, fun r hr => ((h.own r hr).upd h.b2 (by decide) (by decide) u).ok⟩
theorem one_rules : OneT Tryz.prog 22 := ⟨⟨_, Tryz.underlying22, rfl⟩, by kernel_rfl⟩

set_option maxRecDepth 100000 in
set_option maxHeartbeats 8000000 in
theorem trim_c (pa : Option Addr) (pn pc : Nat) (rs : List RuleR) (w : World) (hp : PolOk w pa pn pc rs) :
    Calls Tryz.prog 18 #[.agg #[.slice pa pn pc]] w fun e w' => ∃ a n c qs, e = .returned (.tuple #[.agg #[.slice a n c], .int .i64 (errW rs pn)]) ∧ (errW rs pn ≠ 0 → a = none ∧ n = 0 ∧ c = 0) ∧ (errW rs pn = 0 → PolOk w' a n c qs ∧ qs.map RuleR.q = (trimW (worldP rs) rs).map RuleR.q) ∧ Ext w w' := by
  have HP := hid hp
  have HWD := hid (fun W (h : Ext w W) => worldOf_c pa pn pc rs W (hp.ext h))
  have HEZ := hid (errW_zero (rs := rs) (pn := pn))
  have HRG := hid agg_rule
  have HAW := hid agg_warn
  have HTR := hid elem_rule
  clear hp
  obtain ⟨WP, hWP⟩ : ∃ x, worldP rs = x := ⟨_, rfl⟩
  rw [hWP] at HWD ⊢
  have HWP := hid hWP
  clear hWP
  obtain ⟨E, hE⟩ : ∃ E, errW rs pn = E := ⟨_, rfl⟩
  rw [hE] at HWD HEZ ⊢
  clear hE
  go_enter Tryz.func18, Tryz.ntmps18
  go_upto_region 1 with (fail)
  generalize hwA : World.alloc (World.alloc w _) _ = wA
  have bA : Blk wA w.heap.size [.slice pa pn pc] 24 := by rw [← hwA]; exact (Blk.mk_alloc rfl rfl).alloc _
  have zA : Blk wA (w.heap.size + 1) [.slice none 0 0] 24 := by rw [← hwA]; exact Blk.mk_alloc (size_allocW _ _).symm rfl
  have eA : Ext w wA := by rw [← hwA]; exact ((Ext.refl w).alloc _).alloc _
  have BA := hid bA
  have ZA := hid zA
  have EA := hid eA
  clear hwA bA zA eA
  go_wp2_with (first | (refine wpl_loadw rfl 24 _ rfl rfl BA.out agg_polW rfl ?_))
  refine (HWD.out wA EA.out).mono ?_
  rintro e w1 ⟨va, xs, rfl, hnz, hz, e1⟩
  have E1 := hid (EA.out.ext e1)
  have B1 := hid (BA.out.ext e1)
  have Z1 := hid (ZA.out.ext e1)
  have z0 := Z1.out.cell' (i := 0) rfl
  clear e1 EA BA ZA HWD
  by_cases h0 : E = 0
  · subst h0
    go_upto_region 5 with (fail)
    obtain ⟨hxs, hxp⟩ := hz (by trivial)
    obtain ⟨hz1, hsz⟩ := HEZ.out (by trivial)
    obtain ⟨hp100, hrz⟩ := polE_zero hz1
    obtain ⟨g6, hg6⟩ : ∃ g, w1.heap.size = g := ⟨_, rfl⟩
    generalize hwB : World.alloc w1 _ = wB
    rw [hg6]
    have b6 : Blk wB g6 [.slice none 0 0] 24 := by rw [← hwB, ← hg6]; exact Blk.mk_alloc rfl rfl
    have eB : Ext w1 wB := by rw [← hwB]; exact (Ext.refl w1).alloc _
    have hB1 := E1.out.size
    have hB2 := eB.size
    have hz1l := Z1.out.lt
    have hb1l := B1.out.lt
    have ht0 : TrimS w wB (w.heap.size + 1) g6 g6 0 (.slice none 0 0) [] wA.heap.size va xs := ⟨Z1.out.ext eB, b6, ⟨rfl, .inl ⟨rfl, rfl⟩⟩, rfl, (fun r hr => by cases hr), hxs.ext eB, E1.out.ext eB, by omega, by omega, by omega, by omega⟩
    have T0 := hid ht0
    have BB := hid (B1.out.ext eB)
    have c0 := BB.out.cell' (i := 0) rfl
    have PB := hid (HP.out.ext (E1.out.ext eB))
    have HXP := hid hxp
    have HRZ := hid hrz
    have HT := hid (worldP_ok (rs := rs) hrz)
    rw [HWP.out] at HT
    have hxl : xs.length ≤ 100000 := by rw [← List.length_map (f := AskR.p), hxp, ← HWP.out, worldP_len]; exact hsz
    have EB := hid eB
    clear ht0 hxs hxp hz1 hsz hrz hnz hz HEZ b6 eB hwB z0 B1 E1 Z1
    go_wp2
    go_loopw [26] (fun i wr => ∃ (k : Nat) (v : Value) (cs : List RuleR), k ≤ pn ∧ i = .int .i64 (k : Int) ∧ TrimS w wr (w.heap.size + 1) g6 g6 k v cs wA.heap.size va xs ∧ cs.map RuleR.q = (rs.take k).map RuleR.q ∧ Ext w wr ∧ Ext w1 wr) (fun i _ => pn - (intOf i).toNat)
    case atStart => exact ⟨0, _, _, by omega, rfl, T0.out, by simp, T0.out.ext, EB.out⟩
    case round =>
      obtain ⟨k, v, cs, hk, rfl, hT, hcs, eW, eW1⟩ := hrel
      have TS := hid hT
      have HCS := hid hcs
      clear hT hcs
      by_cases hlt : k < pn
      · obtain ⟨r, hrk⟩ : ∃ r, rs[k]? = some r := ⟨rs[k]'(by rw [HP.out.hl]; exact hlt), by simp⟩
        obtain ⟨A, rfl, hca⟩ := (HP.out.ext TS.out.ext).at hrk
        have HCA := hid hca
        have HR := hid hrk
        have HRL := hid (RuleR.len r)
        have hro := ruleV_one r
        have HZR := hid (ruleE_k1 (HRZ.out r (List.mem_of_getElem? hrk)))
        clear hca hrk
        go_wp2_with (first | (refine wpl_run rfl (exec_index (i := k) rfl rfl rfl Tryz.underlying22 size_rule hlt _) ?_) | (refine wpl_run rfl (exec_load_at rfl rfl HCA.out HRG.out HRL.out) ?_) | (refine wpl_storew rfl _ (.tmp 8) _ rfl rfl rfl (Blk.mk_alloc (vs := zeroRule) rfl rfl) HRG.out rfl HRL.out hro ?_))
        intro wE b8 u8
        go_upto_region 8 with (fail)
        have eE : Ext wr wE := u8.ext ((Ext.refl wr).alloc _) (Nat.le_refl _)
        obtain ⟨g8, hg8⟩ : ∃ g, wr.heap.size = g := ⟨_, rfl⟩
        rw [hg8] at b8 ⊢
        have B8 := hid b8
        have TE := hid (TS.out.on eE)
        have EWE := hid eE
        have hvl := HRL.out
        have hROK := hid (fun W (h : Ext wE W) => cloneRule_c r W (((HP.out.ok r (List.mem_of_getElem? HR.out)).ext TE.out.ext).ext h) HZR.out)
        clear b8 u8 eE hg8 HCA TS
        obtain ⟨G, hG⟩ : ∃ G : Nat → Value → World → Prop, G = fun k v W => if k = 3 then (∃ r' : RuleR, v = .agg r'.v.toArray ∧ r'.Own W ∧ r'.q = r.q) else (∃ (b : Nat) (r' : RuleR), v = .slice (some ⟨b, 0, none⟩) 1 1 ∧ Blk W b r'.v 50 ∧ r'.Own W ∧ r'.q = r.q) := ⟨_, rfl⟩
        have HG := hid hG
        have hGm : ∀ (k : Nat) (v : Value) (W W' : World), G k v W → Ext W W' → G k v W' := by
          intro k v W W' h e
          rw [hG] at h ⊢
          by_cases q3 : k = 3
          · rw [if_pos q3] at h ⊢
            obtain ⟨r', h1, h2, h3⟩ := h
            exact ⟨r', h1, h2.ext e, h3⟩
          · rw [if_neg q3] at h ⊢
            obtain ⟨b, r', h1, h2, h3, h4⟩ := h
            exact ⟨b, r', h1, h2.ext e, h3.ext e, h4⟩
        have HG3 := hid (show ∀ v W, G 3 v W = (∃ r' : RuleR, v = .agg r'.v.toArray ∧ r'.Own W ∧ r'.q = r.q) from fun v W => by rw [hG]; exact if_pos rfl)
        have HG4 := hid (show ∀ v W, G 4 v W = (∃ (b : Nat) (r' : RuleR), v = .slice (some ⟨b, 0, none⟩) 1 1 ∧ Blk W b r'.v 50 ∧ r'.Own W ∧ r'.q = r.q) from fun v W => by rw [hG]; exact if_neg (by decide))
        clear hG HG
        obtain ⟨C, hC⟩ : ∃ C : World → Prop, C = fun w' => Ext wE w' := ⟨_, rfl⟩
        have hC0 : ∀ w', C w' ↔ Ext wE w' := fun w' => by rw [hC]
        clear hC
        have HCC := hid hC0
        clear hC0
        have hCx : ∀ w w', C w → Ext w w' → C w' := fun w w' h1 h2 => (HCC.out w').2 (((HCC.out w).1 h1).ext h2)
        refine wp_region_un2 (C := C) 5 [3, 4] G (by kernel_rfl) (by kernel_rfl) (by kernel_rfl) ((HCC.out _).2 (Ext.refl wE).drew) hGm ?_
        simp only [List.take_succ_cons, List.take_zero, List.drop_succ_cons, List.drop_zero]
        refine wpQV_do rfl rfl ?dv0 (yieldsE_run (v := ?dv0) ?dy0) ?dr0
        case dy0 => (intro W _; go_simp; try with_reducible rfl)
        case dr0 =>
        simp only [Act.put, List.setIfInBounds_toArray, List.set_cons_succ, List.set_cons_zero]
        refine wpQV_do rfl rfl _ (yieldsE_run (fun w1 h => exec_load_oneU rfl rfl ((TE.out.b6.ext ((HCC.out w1).1 h)).cell' (i := 0) rfl) one_rules)) ?_
        simp only [Act.put, List.setIfInBounds_toArray, List.set_cons_succ, List.set_cons_zero]
        refine wpQV_do rfl rfl _ (yieldsE_loadw _ _ rfl rfl (fun w1 h => B8.out.ext ((HCC.out w1).1 h)) HRG.out hvl) ?_
        simp only [Act.put, List.setIfInBounds_toArray, List.set_cons_succ, List.set_cons_zero]
        refine wpQV_un rfl rfl ?un3 ?_
        case un3 =>
          intro us W hC _
          refine uponU_call (args := #[.agg r.v.toArray]) rfl Tryz.call41 (by simp only [putUn, dstOf, Act.put, List.getElem?_toArray, List.getElem?_cons_succ, List.getElem?_cons_zero, Option.bind_some, List.setIfInBounds_toArray, List.set_cons_succ, List.set_cons_zero]; simp [Act.eval]) ((hROK.out W ((HCC.out W).1 hC)).mono ?_) (fun w' h => hCx _ _ hC h)
          rintro e w' ⟨r', rfl, h1, h2, h3⟩
          exact ⟨_, rfl, by show G 3 _ _; rw [HG3.out]; exact ⟨r', rfl, h1, h2⟩, h3⟩
        simp only [Act.put, List.setIfInBounds_toArray, List.set_cons_succ, List.set_cons_zero]
        refine wpQV_un rfl rfl ?un4 ?_
        case un4 =>
          intro us W hC hus
          have h3 := hus 3 (by simp) (by kernel_rfl)
          rw [HG3.out] at h3
          obtain ⟨r', h3v, h3o, h3q⟩ := h3
          rw [exec_buildOneW (cs := r'.v) HTR.out (by decide) rfl (by simp only [putUn, dstOf, Act.put, List.getElem?_toArray, List.getElem?_cons_succ, List.getElem?_cons_zero, Option.bind_some, List.setIfInBounds_toArray, List.set_cons_succ, List.set_cons_zero]; rw [h3v]; rfl) (RuleR.len r')]
          exact ⟨hCx _ _ hC ((Ext.refl W).alloc _), (Ext.refl W).alloc _, by show G 4 _ _; rw [HG4.out]; exact ⟨_, r', rfl, Blk.mk_alloc rfl rfl, h3o.ext ((Ext.refl W).alloc _), h3q⟩⟩
        simp only [Act.put, List.setIfInBounds_toArray, List.set_cons_succ, List.set_cons_zero]
        refine wpQV_nil ?_
        intro us w2 hw2 hus
        have h4 := hus 4 (by simp)
        rw [HG4.out] at h4
        obtain ⟨b, r', h4v, h4b, h4o, h4q⟩ := h4
        have T2 := hid (TE.out.on ((HCC.out w2).1 hw2))
        have eW2 := hid ((HCC.out w2).1 hw2)
        simp only [putUn, dstOf, Act.put, List.getElem?_toArray, List.getElem?_cons_succ, List.getElem?_cons_zero, Option.bind_some, List.setIfInBounds_toArray, List.set_cons_succ, List.set_cons_zero]
        rw [h4v]
        have H4B := hid h4b
        have H4O := hid h4o
        have hl8 : r'.v.length = 8 := RuleR.len r'
        have hone := ruleV_one r'
        clear hus hw2 hCx HCC hGm HG3 HG4 TE h4v h4b h4o C hROK
        go_wp2_with (refine wpl_appendA (m := 1) (c := 1) (news := r'.v) HTR.out rfl _ _ rfl g6 rfl rfl T2.out.row (by rw [hl8]) (by decide) (fun h => by cases h) (Cells.of_blk0 H4B.out) hone (by omega) (by omega) T2.out.hBw ?_)
        intro v' w3 ho hg _
        obtain ⟨na, nc, rfl, _, _, _⟩ := own_cellsA ho
        have n6 : some g6 ≠ v.ownBlock := fun e => own_ne T2.out.row T2.out.b6 (by decide) g6 e.symm rfl
        have b63 := T2.out.b6.grown hg n6
        have c6 := b63.cell' (i := 0) rfl
        have f6 := b63.frozen 0
        have hx3 := T2.out.ext.grown hg (fun q hq => Nat.le_trans T2.out.hB (T2.out.row.lt q hq).1)
        have hx4 := (eW1.ext (EWE.out.ext eW2.out)).grown hg (fun q hq => by have := (T2.out.row.lt q hq).1; omega)
        have hu3 : Upd w3 g6 (w3.setCell ⟨g6, 0, none⟩ (.slice na (k + 1) nc)) := Upd.setCell _
        have T3 := hid (TrimS.put T2.out hg (qs' := cs ++ [r']) (by rw [rulesV_append, show rulesV [r'] = r'.v by unfold rulesV; simp]; exact ho) (by rw [List.length_append, T2.out.len]; rfl) (fun x hx => by
          rcases List.mem_append.1 hx with h | h
          · exact T2.out.own x h
          · rw [List.mem_singleton.1 h]; exact H4O.out))
        have HC3 := hid (show (cs ++ [r']).map RuleR.q = (rs.take (k + 1)).map RuleR.q by
          rw [List.take_add_one, HR.out, List.map_append, List.map_append, HCS.out, List.map_singleton, h4q]; rfl)
        have EW3 := hid (hu3.ext hx4 (by omega))
        have EW4 := hid (hu3.ext hx3 (by omega))
        clear ho hg n6 b63 H4B H4O hx3 hx4 hu3 HCS
        go_wp2_with fail
        go_roundw
        case rel => exact ⟨k + 1, _, _, by omega, by go_num, T3.out, HC3.out, EW4.out, EW3.out⟩
        case measure => simp [intOf]; omega
      · obtain rfl : k = pn := by omega
        have HC0 := hid (show cs.map RuleR.q = rs.map RuleR.q by rw [HCS.out, List.take_of_length_le (by rw [HP.out.hl]; exact Nat.le_refl _)])
        have HTQ := hid (trimW_same (W := WP) HC0.out)
        have HRZ0 : Hid (∀ r ∈ cs, ruleE r.q = 0) := hid (fun r hr => by
          have h1 : r.q ∈ rs.map RuleR.q := by rw [← HC0.out]; exact List.mem_map.2 ⟨r, hr, rfl⟩
          obtain ⟨r2, h2, h3⟩ := List.mem_map.1 h1
          rw [← h3]
          exact HRZ.out r2 h2)
        have c6 := TS.out.b6.cell' (i := 0) rfl
        clear HCS BB c0 PB
        go_wp2
        go_loopw [9] (fun sh wr => ∃ (n : Nat) (v : Value) (qs : List RuleR) (s : Bool), n ≤ k ∧ sh = .bool s ∧ TrimS w wr (w.heap.size + 1) g6 g6 n v qs wA.heap.size va xs ∧ (trimW WP qs).map RuleR.q = (trimW WP rs).map RuleR.q ∧ (s = false → lastW qs WP n = none)) (fun sh wr => match sh with | .bool true => slen (wr.cell? ⟨g6, 0, none⟩) + 1 | _ => 0)
        case atStart => exact ⟨k, _, cs, true, Nat.le_refl _, rfl, TS.out, HTQ.out, fun h => by cases h⟩
        case round =>
          obtain ⟨n, v, qs, s, hn, rfl, hT, hq, hs⟩ := hrel
          have TS2 := hid hT
          have HQ2 := hid hq
          have HS2 := hid hs
          obtain ⟨fa, fc, rfl, hpol⟩ := hT.pol (by omega)
          have c6 := hT.b6.cell' (i := 0) rfl
          have HSL := hid (show slen (wr.cell? ⟨g6, 0, none⟩) = n by rw [c6]; rfl)
          clear hT hq hs hpol
          cases s with
          | false =>
            go_wp2_with (first | (refine wpl_loadw rfl 24 (.tmp 6) rfl rfl TS2.out.b6 agg_polW rfl ?_) | (refine wpl_storew rfl _ (.tmp 2) _ rfl rfl rfl TS2.out.b2 agg_polW rfl (xs := [.slice fa n fc]) rfl (by simp [Value.oneCell']) ?_))
            intro w2 b2 u2
            have e2 : Ext w w2 := u2.ext TS2.out.ext (by omega)
            have hpo := TS2.out.done (by omega) u2
            go_wp2_with fail
            have htr := HQ2.out
            rw [trimW_none (by rw [TS2.out.len]; first | exact HS2.out rfl | exact HS2.out trivial | exact HS2.out)] at htr
            exact ret_row2 rfl rfl b2 agg_polW rfl rfl ⟨fa, n, fc, rfl, ⟨qs, hpo, htr⟩, e2⟩
          | true =>
            have hwn : IntKind.i64.wrap ((n : Int) - 1) = (n : Int) - 1 := IntWalk.i64_in _ (by omega)
            go_wp2
            go_loopw [9, 10] (fun sh i wr => ∃ (m n' : Nat) (v' : Value) (qs' : List RuleR) (s : Bool), m ≤ n ∧ i = .int .i64 ((m : Int) - 1) ∧ sh = .bool s ∧ TrimS w wr (w.heap.size + 1) g6 g6 n' v' qs' wA.heap.size va xs ∧ (trimW WP qs').map RuleR.q = (trimW WP rs).map RuleR.q ∧ (s = false → n' = n ∧ qs' = qs ∧ lastW qs WP n = lastW qs WP m) ∧ (s = true → n' + 1 = n)) (fun _ i _ => (intOf i + 1).toNat)
            case atStart => exact ⟨n, n, _, qs, false, Nat.le_refl _, rfl, rfl, TS2.out, HQ2.out, fun _ => ⟨rfl, rfl, rfl⟩, fun h => by cases h⟩
            case round =>
              obtain ⟨m, n', v', qs', s, hm, rfl, rfl, hT, hq, hf, ht⟩ := hrel
              have TS3 := hid hT
              have HQ3 := hid hq
              have HF3 := hid hf
              have HT3 := hid ht
              clear hT hq hf ht TS2 HQ2 HS2 c6
              have hwi : IntKind.i64.wrap ((m : Int) - 1 - 1) = (m : Int) - 1 - 1 := IntWalk.i64_in _ (by omega)
              cases s with
              | true =>
                have hn1 : n' + 1 = n := by first | exact HT3.out rfl | exact HT3.out trivial | exact HT3.out
                have HSL3 := hid (show slen (wr.cell? ⟨g6, 0, none⟩) = n' by
                  obtain ⟨a9, c9, hv9, _⟩ := TS3.out.pol (by omega)
                  rw [TS3.out.b6.cell' (i := 0) rfl, hv9]; rfl)
                by_cases hm0 : m = 0
                · have hd : decide ((0 : Int) ≤ (m : Int) - 1) = false := decide_eq_false (by omega)
                  go_wp2
                  go_roundw
                  case rel => exact ⟨n', _, qs', true, by omega, rfl, TS3.out, HQ3.out, fun h => by cases h⟩
                  case measure => (simp only [HSL.out, HSL3.out]; omega)
                · have hd : decide ((0 : Int) ≤ (m : Int) - 1) = true := decide_eq_true (by omega)
                  go_wp2
                  go_roundw
                  case rel => exact ⟨n', _, qs', true, by omega, rfl, TS3.out, HQ3.out, fun h => by cases h⟩
                  case measure => (simp only [HSL.out, HSL3.out]; omega)
              | false =>
                obtain ⟨hnn, hqq, hlast⟩ : n' = n ∧ qs' = qs ∧ lastW qs WP n = lastW qs WP m := by first | exact HF3.out rfl | exact HF3.out trivial | exact HF3.out
                subst hnn
                subst hqq
                have HLAST := hid hlast
                clear hlast
                by_cases hm0 : m = 0
                · have hd : decide ((0 : Int) ≤ (m : Int) - 1) = false := decide_eq_false (by omega)
                  have HL0 := hid (show lastW qs' WP n' = none by rw [HLAST.out, hm0]; rfl)
                  go_wp2
                  go_roundw
                  case rel => exact ⟨n', _, qs', false, by omega, rfl, TS3.out, HQ3.out, fun _ => HL0.out⟩
                  case measure => (simp only [HSL.out]; omega)
                · have hd : decide ((0 : Int) ≤ (m : Int) - 1) = true := decide_eq_true (by omega)
                  obtain ⟨R, rfl⟩ : ∃ R, m = R + 1 := ⟨m - 1, by omega⟩
                  rw [show ((R + 1 : Nat) : Int) - 1 = (R : Int) by omega] at hd hwi ⊢
                  obtain ⟨fa3, fc3, rfl, hpol3⟩ := TS3.out.pol (by omega)
                  have c6 := TS3.out.b6.cell' (i := 0) rfl
                  obtain ⟨xa, xc, hxv, hxok⟩ := TS3.out.asks.slice
                  have HWA := hid (warning_c fa3 n' fc3 qs' xa xs.length xc xs R wr hpol3 hxok hxl (by rw [HXP.out]; exact HT.out) (by omega))
                  rw [HXP.out] at HWA
                  rw [← hxv] at HWA
                  clear hxv hxok hpol3
                  go_wp2_with (first | (refine wpl_loadw rfl 24 (.tmp 6) rfl rfl TS3.out.b6 agg_polW rfl ?_))
                  refine HWA.out.mono ?_
                  rintro e w4 ⟨rfl, e4⟩
                  have TS4 := hid (TS3.out.on e4)
                  obtain ⟨K, hK⟩ : ∃ K, kindW qs' WP R = K := ⟨_, rfl⟩
                  have HCUT := hid (show cutW qs' WP R = (decide (K ≠ 0) && decide (K ≠ 3)) by unfold cutW; rw [hK])
                  have HLS := hid (lastW_succ qs' WP R)
                  rw [hK]
                  obtain ⟨bk, hbk⟩ : ∃ bk, decide (K ≠ 0) = bk := ⟨_, rfl⟩
                  rw [hbk]
                  have hvl := warnV_len K R
                  have hv1 := warnV_one K R
                  clear HWA hK e4 TS3 c6
                  go_wp2_with (first | (refine wpl_storew rfl _ (.tmp 11) _ rfl rfl rfl (Blk.mk_alloc (vs := warnZ) rfl rfl) HAW.out rfl hvl hv1 ?_))
                  intro w5 b5 u5
                  have e5 : Ext w4 w5 := u5.ext ((Ext.refl w4).alloc _) (Nat.le_refl _)
                  obtain ⟨g11, hg11⟩ : ∃ g, w4.heap.size = g := ⟨_, rfl⟩
                  rw [hg11] at b5 ⊢
                  have B11 := hid b5
                  have TS5 := hid (TS4.out.on e5)
                  clear b5 u5 e5 hg11 TS4
                  by_cases h0 : K = 0
                  · have hb : bk = false := by rw [← hbk]; simp [h0]
                    subst hb
                    have hnc := HCUT.out
                    rw [hbk, Bool.false_and] at hnc
                    have HNX := hid (show lastW qs' WP n' = lastW qs' WP R by rw [HLAST.out, HLS.out, hnc]; rfl)
                    clear hnc HLS HLAST HCUT hbk
                    go_wp2
                    go_roundw
                    case rel => exact ⟨R, n', _, qs', false, by omega, rfl, rfl, TS5.out, HQ3.out, fun _ => ⟨rfl, rfl, HNX.out⟩, fun h => by cases h⟩
                    case measure => simp [intOf] <;> omega
                  · have hb : bk = true := by rw [← hbk]; simp [h0]
                    subst hb
                    have hvv : warnV K R = warnL (R : Int) (K : Int) := by unfold warnV; rw [if_neg h0]
                    rw [hvv] at B11
                    have k1 := B11.out.cell' (i := 1) rfl
                    clear hvv
                    by_cases h3 : K = 3
                    · have q3 : ((K : Int) == 3) = true := by rw [h3]; rfl
                      have n3 : ((K : Int) != 3) = false := by unfold bne; rw [q3]; rfl
                      have hnc := HCUT.out
                      rw [hbk, Bool.true_and, show decide (K ≠ 3) = false from by simp [h3]] at hnc
                      have HNX := hid (show lastW qs' WP n' = lastW qs' WP R by rw [HLAST.out, HLS.out, hnc]; rfl)
                      clear hnc HLS HLAST HCUT hbk
                      go_wp2
                      go_roundw
                      case rel => exact ⟨R, n', _, qs', false, by omega, rfl, rfl, TS5.out, HQ3.out, fun _ => ⟨rfl, rfl, HNX.out⟩, fun h => by cases h⟩
                      case measure => simp [intOf] <;> omega
                    · have q3 : ((K : Int) == 3) = false := by rw [beq_eq_false_iff_ne]; omega
                      have n3 : ((K : Int) != 3) = true := by unfold bne; rw [q3]; rfl
                      have hnc := HCUT.out
                      rw [hbk, Bool.true_and, show decide (K ≠ 3) = true from by simp [h3]] at hnc
                      have HNX := hid (show lastW qs' WP n' = some R by rw [HLAST.out, HLS.out, hnc]; rfl)
                      have hRn : R < n' := by omega
                      obtain ⟨q, cap, hq1, hq2⟩ := own_someW TS5.out.row (by omega)
                      cases hq1
                      have HDL := hid (deleteR_c qs' g6 q n' fc3 R w5 TS5.out.len hRn (by omega) TS5.out.row)
                      have c6 := TS5.out.b6.cell' (i := 0) rfl
                      have hw1 : IntKind.i64.wrap ((R : Int) + 1) = ((R + 1 : Nat) : Int) := by rw [IntWalk.i64_in _ (by omega)]; omega
                      clear hnc HLS HLAST HCUT hbk
                      go_wp2_with fail
                      refine HDL.out.mono ?_
                      rintro e w6 ⟨rfl, own6, g66⟩
                      have n6 : some g6 ≠ some q := fun e => own_ne TS5.out.row TS5.out.b6 (by decide) g6 e.symm rfl
                      have b66 := TS5.out.b6.grown g66 n6
                      have c66 := b66.cell' (i := 0) rfl
                      have f66 := b66.frozen 0
                      have hlen : (qs'.eraseIdx R).length = n' - 1 := by rw [List.length_eraseIdx_of_lt (by rw [TS5.out.len]; exact hRn), TS5.out.len]
                      have T7 := hid (TrimS.put TS5.out g66 own6 hlen (fun r hr => TS5.out.own r (List.mem_of_mem_eraseIdx hr)))
                      have HTQ7 := hid (show (trimW WP (qs'.eraseIdx R)).map RuleR.q = (trimW WP rs).map RuleR.q by rw [← HQ3.out, ← trimW_some (by rw [TS5.out.len]; exact HNX.out)])
                      clear own6 g66 b66 hlen HDL c6 k1 B11
                      go_wp2_with fail
                      go_roundw
                      case rel => exact ⟨R, n' - 1, _, qs'.eraseIdx R, true, by omega, rfl, rfl, T7.out, HTQ7.out, (fun h => by cases h), (fun _ => by omega)⟩
                      case measure => simp [intOf] <;> omega
  · have hv := hnz h0
    subst hv
    have d0 : (E == 0) = false := by rw [beq_eq_false_iff_ne]; exact h0
    have d1 : (E != 0) = true := by unfold bne; rw [d0]; rfl
    clear hnz hz HEZ
    go_wp2_with (first | (refine wpl_storew rfl _ (.tmp 2) _ rfl rfl rfl Z1.out agg_polW rfl (xs := [.slice none 0 0]) rfl (by simp [Value.oneCell']) ?_))
    intro w2 b2 u2
    have e2 : Ext w w2 := u2.ext E1.out (by omega)
    go_wp2_with fail
    exact ret_row2 rfl rfl b2 agg_polW rfl rfl ⟨none, 0, 0, [], rfl, fun _ => ⟨rfl, rfl, rfl⟩, fun h => absurd h h0, e2⟩
end

section
open Go Go.RowKit

theorem ints_atW {w : World} {a : Option Addr} {ls : List Int} {k : Nat} {x : Int} (h : Cells w a (ls.map encI)) (hx : ls[k]? = some x) : ∃ A, a = some A ∧ w.cell? (A.add (k * 1)) = some (.int .i64 x) := by
  obtain ⟨g, o, rfl, h2⟩ := h.some_of (by rw [List.length_map]; have := (List.getElem?_eq_some_iff.1 hx).1; omega)
  refine ⟨_, rfl, ?_⟩
  rw [addr_add, Nat.mul_one]
  exact h2 k _ (by rw [List.getElem?_map, hx]; rfl)
theorem size_intW : (Tryz.prog.info? 3).map (·.size) = some 1 := by kernel_rfl
theorem guard_warn : Tryz.prog.eqGuardType Tryz.prog.depth 62 = false := by kernel_rfl
theorem stood_warn : Tryz.prog.stoodInHeld 62 = false := by kernel_rfl
theorem fieldsAt_warn : (Tryz.prog.fieldsOf 62).toList.map (fun f => (f.name, f.type, f.offset)) = [("Rule", 3, 0), ("Kind", 3, 1), ("By", 3, 2)] := by kernel_rfl
theorem eqWarn_self (a b c : Int) (w : World) : (Op.equalIn 10000 62 (.agg #[.int .i64 a, .int .i64 b, .int .i64 c]) (.agg #[.int .i64 a, .int .i64 b, .int .i64 c])).run Tryz.prog w = .ok true w := by
  have hu : Tryz.prog.underlying 62 = some (.struct (Tryz.prog.fieldsOf 62)) := by unfold Program.fieldsOf; rw [Tryz.underlying62]
  rw [show (10000 : Nat) = 9999 + 1 from rfl, run_equalIn_struct w 9999 _ _ _ hu stood_warn]
  have h := fieldsAt_warn
  generalize (Tryz.prog.fieldsOf 62).toList = fs at h
  obtain ⟨f1, fs1, rfl, k1, h⟩ := List.map_eq_cons_iff.1 h
  obtain ⟨f2, fs2, rfl, k2, h⟩ := List.map_eq_cons_iff.1 h
  obtain ⟨f3, fs3, rfl, k3, h⟩ := List.map_eq_cons_iff.1 h
  obtain rfl := List.map_eq_nil_iff.1 h
  simp only [Prod.mk.injEq] at k1 k2 k3
  obtain ⟨a1, a2, a3⟩ := k1
  obtain ⟨b1, b2, b3⟩ := k2
  obtain ⟨c1, c2, c3⟩ := k3
  have p1 : (part f1.type #[Value.int .i64 a, .int .i64 b, .int .i64 c] f1.offset).run Tryz.prog w = .ok (.int .i64 a) w := by rw [a2, a3]; exact run_part_int Tryz.underlying3 rfl
  have p2 : (part f2.type #[Value.int .i64 a, .int .i64 b, .int .i64 c] f2.offset).run Tryz.prog w = .ok (.int .i64 b) w := by rw [b2, b3]; exact run_part_int Tryz.underlying3 rfl
  have p3 : (part f3.type #[Value.int .i64 a, .int .i64 b, .int .i64 c] f3.offset).run Tryz.prog w = .ok (.int .i64 c) w := by rw [c2, c3]; exact run_part_int Tryz.underlying3 rfl
  have e1 : ∀ z : Int, (Op.equalIn 9999 3 (.int .i64 z) (.int .i64 z)).run Tryz.prog w = .ok true w := fun z => by
    rw [run_equalIn_int w 9998 _ _ _ _ _ Tryz.underlying3]; simp
  rw [run_eqFields_cons (by rw [a1]; decide) p1 p1 (by rw [a2]; exact e1 _), run_eqFields_cons (by rw [b1]; decide) p2 p2 (by rw [b2]; exact e1 _), run_eqFields_cons (by rw [c1]; decide) p3 p3 (by rw [c2]; exact e1 _)]
  simp [Op.eqFields]
theorem warn_neq (K R : Nat) (w : World) : (binOp .neq 62 (.agg (warnV K R).toArray) (.agg (warnV K R).toArray)).run Tryz.prog w = .ok (.bool false) w := by
  obtain ⟨a, b, c, h⟩ : ∃ a b c : Int, (warnV K R).toArray = #[.int .i64 a, .int .i64 b, .int .i64 c] := by
    unfold warnV
    split
    · exact ⟨_, _, _, rfl⟩
    · exact ⟨_, _, _, rfl⟩
  rw [h, run_neq_struct, eqWarn_self a b c w]; rfl

set_option maxRecDepth 100000 in
set_option maxHeartbeats 1000000 in
theorem eqInts_cW (ls : List Int) (a b : Option Addr) (n c d : Nat) (w : World) (hl : ls.length = n) (hn : n ≤ 140737488355328) (ha : Cells w a (ls.map encI)) (hb : Cells w b (ls.map encI)) :
    Calls Tryz.prog 50 #[.slice a n c, .slice b n d] w fun e w' => e = .returned (.bool true) ∧ Ext w w' := by
  have HL := hid hl
  have HA := hid ha
  have HB := hid hb
  clear hl ha hb
  go_enter Tryz.func50, Tryz.ntmps50
  go_wp2_with fail
  go_loopw [13] (fun i wr => ∃ k : Nat, k ≤ n ∧ i = .int .i64 (k : Int) ∧ Ext w wr) (fun i _ => n - (intOf i).toNat)
  case atStart => exact ⟨0, by omega, rfl, Ext.refl _⟩
  case round =>
    obtain ⟨k, hk, rfl, e1⟩ := hrel
    have E1 := hid e1
    clear e1
    by_cases hlt : k < n
    · have d1 : decide ((k : Int) < (n : Int)) = true := decide_eq_true (by omega)
      have d2 : decide (k < n) = true := decide_eq_true hlt
      have HL2 := HL.out
      obtain ⟨x, hxk⟩ : ∃ x, ls[k]? = some x := ⟨ls[k]'(by omega), List.getElem?_eq_getElem _⟩
      obtain ⟨A, rfl, hca⟩ := ints_atW HA.out hxk
      obtain ⟨A2, rfl, hcb⟩ := ints_atW HB.out hxk
      have CA := hid (cell_extU hca E1.out)
      have CB := hid (cell_extU hcb E1.out)
      clear hca hcb hxk HL2
      go_upto_region 6 with (fail)
      obtain ⟨C, hC⟩ : ∃ C : World → Prop, C = fun w' => Ext wr w' := ⟨_, rfl⟩
      have hC0 : ∀ w', C w' ↔ Ext wr w' := fun w' => by rw [hC]
      clear hC
      have HCC := hid hC0
      clear hC0
      have hCx : ∀ w w', C w → Ext w w' → C w' := fun w w' h1 h2 => (HCC.out w').2 (((HCC.out w).1 h1).ext h2)
      refine wp_region_held_drew (S := C) (by kernel_rfl) ((HCC.out _).2 (Ext.refl wr).drew) (fun hS0 => ?_)
      refine held_take 0 (v := ?tv211) rfl (by kernel_rfl) (by kernel_rfl) (by kernel_rfl) (fun _ _ _ h => h) (.inl ⟨rfl, ?ty211⟩) hS0 ?tr211
      case ty211 => (intro _ _; go_simp; try with_reducible rfl)
      case tr211 =>
      simp only [Act.put, List.setIfInBounds_toArray, List.set_cons_succ, List.set_cons_zero]
      refine held_take 1 (v := ?tv212) rfl (by kernel_rfl) (by kernel_rfl) (by kernel_rfl) (fun _ _ _ h => h) (.inl ⟨rfl, ?ty212⟩) hS0 ?tr212
      case ty212 => (intro _ _; go_simp; try with_reducible rfl)
      case tr212 =>
      simp only [Act.put, List.setIfInBounds_toArray, List.set_cons_succ, List.set_cons_zero]
      refine held_take 2 (v := _) rfl (by kernel_rfl) (by kernel_rfl) (by kernel_rfl) (fun _ _ _ h => h) (yieldsI_run rfl (fun w1 _ => exec_index (i := k) rfl rfl rfl Tryz.underlying48 size_intW hlt w1)) hS0 ?_
      simp only [Act.put, List.setIfInBounds_toArray, List.set_cons_succ, List.set_cons_zero]
      refine held_take 3 (v := _) rfl (by kernel_rfl) (by kernel_rfl) (by kernel_rfl) (fun _ _ _ h => h) (yieldsI_run rfl (fun w1 h => exec_load_oneU rfl rfl (cell_extU CA.out ((HCC.out w1).1 h)) one_tI)) hS0 ?_
      simp only [Act.put, List.setIfInBounds_toArray, List.set_cons_succ, List.set_cons_zero]
      refine held_take 4 (v := ?tv213) rfl (by kernel_rfl) (by kernel_rfl) (by kernel_rfl) (fun _ _ _ h => h) (.inl ⟨rfl, ?ty213⟩) hS0 ?tr213
      case ty213 => (intro _ _; go_simp; try with_reducible rfl)
      case tr213 =>
      simp only [Act.put, List.setIfInBounds_toArray, List.set_cons_succ, List.set_cons_zero]
      refine held_take 5 (v := ?tv214) rfl (by kernel_rfl) (by kernel_rfl) (by kernel_rfl) (fun _ _ _ h => h) (.inl ⟨rfl, ?ty214⟩) hS0 ?tr214
      case ty214 => (intro _ _; go_simp; try with_reducible rfl)
      case tr214 =>
      simp only [Act.put, List.setIfInBounds_toArray, List.set_cons_succ, List.set_cons_zero]
      refine held_take 6 (v := _) rfl (by kernel_rfl) (by kernel_rfl) (by kernel_rfl) (fun _ _ _ h => h) (yieldsI_run rfl (fun w1 _ => exec_index (i := k) rfl rfl rfl Tryz.underlying48 size_intW hlt w1)) hS0 ?_
      simp only [Act.put, List.setIfInBounds_toArray, List.set_cons_succ, List.set_cons_zero]
      refine held_take 7 (v := _) rfl (by kernel_rfl) (by kernel_rfl) (by kernel_rfl) (fun _ _ _ h => h) (yieldsI_run rfl (fun w1 h => exec_load_oneU rfl rfl (cell_extU CB.out ((HCC.out w1).1 h)) one_tI)) hS0 ?_
      simp only [Act.put, List.setIfInBounds_toArray, List.set_cons_succ, List.set_cons_zero]
      refine held_take 8 (v := ?tv215) rfl (by kernel_rfl) (by kernel_rfl) (by kernel_rfl) (fun _ _ _ h => h) (.inl ⟨rfl, ?ty215⟩) hS0 ?tr215
      case ty215 => (intro _ _; go_simp; try with_reducible rfl)
      case tr215 =>
      simp only [Act.put, List.setIfInBounds_toArray, List.set_cons_succ, List.set_cons_zero]
      refine wpAnyH_done (by kernel_rfl) ?_ _
      have hqx := (HCC.out _).1 hS0
      go_wp2_with fail
      go_roundw
      case rel => exact ⟨k + 1, by omega, by go_num, E1.out.ext hqx⟩
      case measure => simp [intOf]; omega
    · have d1 : decide ((k : Int) < (n : Int)) = false := decide_eq_false (by omega)
      have d2 : decide (k < n) = false := decide_eq_false hlt
      go_wp2_with fail
      go_ret
      exact ⟨rfl, E1.out⟩

set_option maxRecDepth 100000 in
set_option maxHeartbeats 1000000 in
theorem eqWarns_c (rs : List RuleR) (WP : List AskP) (N : Nat) (a b : Option Addr) (n c d : Nat) (w : World) (hl : (lintK rs WP N).length = n) (hn : n ≤ 140737488355328) (ha : Cells w a (lintV rs WP N)) (hb : Cells w b (lintV rs WP N)) :
    Calls Tryz.prog 19 #[.slice a n c, .slice b n d] w fun e w' => e = .returned (.bool true) ∧ Ext w w' := by
  have HL := hid hl
  have HA := hid ha
  have HB := hid hb
  clear hl ha hb
  go_enter Tryz.func19, Tryz.ntmps19
  go_wp2_with fail
  go_loopw [13] (fun i wr => ∃ k : Nat, k ≤ n ∧ i = .int .i64 (k : Int) ∧ Ext w wr) (fun i _ => n - (intOf i).toNat)
  case atStart => exact ⟨0, by omega, rfl, Ext.refl _⟩
  case round =>
    obtain ⟨k, hk, rfl, e1⟩ := hrel
    have E1 := hid e1
    clear e1
    by_cases hlt : k < n
    · have d1 : decide ((k : Int) < (n : Int)) = true := decide_eq_true (by omega)
      have d2 : decide (k < n) = true := decide_eq_true hlt
      have HL2 := HL.out
      obtain ⟨x, hxk⟩ : ∃ x, (lintK rs WP N)[k]? = some x := ⟨(lintK rs WP N)[k]'(by omega), List.getElem?_eq_getElem _⟩
      obtain ⟨A, rfl, hca⟩ := warns_at (HA.out.ext E1.out) hxk
      obtain ⟨A2, rfl, hcb⟩ := warns_at (HB.out.ext E1.out) hxk
      have CA := hid hca
      have CB := hid hcb
      clear hca hcb hxk HL2
      go_upto_region 6 with (fail)
      obtain ⟨C, hC⟩ : ∃ C : World → Prop, C = fun w' => Ext wr w' := ⟨_, rfl⟩
      have hC0 : ∀ w', C w' ↔ Ext wr w' := fun w' => by rw [hC]
      clear hC
      have HCC := hid hC0
      clear hC0
      have hCx : ∀ w w', C w → Ext w w' → C w' := fun w w' h1 h2 => (HCC.out w').2 (((HCC.out w).1 h1).ext h2)
      refine wp_region_held_drew (S := C) (by kernel_rfl) ((HCC.out _).2 (Ext.refl wr).drew) (fun hS0 => ?_)
      refine held_take 0 (v := ?tv211) rfl (by kernel_rfl) (by kernel_rfl) (by kernel_rfl) (fun _ _ _ h => h) (.inl ⟨rfl, ?ty211⟩) hS0 ?tr211
      case ty211 => (intro _ _; go_simp; try with_reducible rfl)
      case tr211 =>
      simp only [Act.put, List.setIfInBounds_toArray, List.set_cons_succ, List.set_cons_zero]
      refine held_take 1 (v := ?tv212) rfl (by kernel_rfl) (by kernel_rfl) (by kernel_rfl) (fun _ _ _ h => h) (.inl ⟨rfl, ?ty212⟩) hS0 ?tr212
      case ty212 => (intro _ _; go_simp; try with_reducible rfl)
      case tr212 =>
      simp only [Act.put, List.setIfInBounds_toArray, List.set_cons_succ, List.set_cons_zero]
      refine held_take 2 (v := _) rfl (by kernel_rfl) (by kernel_rfl) (by kernel_rfl) (fun _ _ _ h => h) (yieldsI_run rfl (fun w1 _ => exec_index (i := k) rfl rfl rfl Tryz.underlying55 size_warn hlt w1)) hS0 ?_
      simp only [Act.put, List.setIfInBounds_toArray, List.set_cons_succ, List.set_cons_zero]
      refine held_take 3 (v := _) rfl (by kernel_rfl) (by kernel_rfl) (by kernel_rfl) (fun _ _ _ h => h) (yieldsI_run rfl (fun w1 h => exec_load_at rfl rfl (CA.out.ext ((HCC.out w1).1 h)) agg_warn (warnV_len _ _))) hS0 ?_
      simp only [Act.put, List.setIfInBounds_toArray, List.set_cons_succ, List.set_cons_zero]
      refine held_take 4 (v := ?tv213) rfl (by kernel_rfl) (by kernel_rfl) (by kernel_rfl) (fun _ _ _ h => h) (.inl ⟨rfl, ?ty213⟩) hS0 ?tr213
      case ty213 => (intro _ _; go_simp; try with_reducible rfl)
      case tr213 =>
      simp only [Act.put, List.setIfInBounds_toArray, List.set_cons_succ, List.set_cons_zero]
      refine held_take 5 (v := ?tv214) rfl (by kernel_rfl) (by kernel_rfl) (by kernel_rfl) (fun _ _ _ h => h) (.inl ⟨rfl, ?ty214⟩) hS0 ?tr214
      case ty214 => (intro _ _; go_simp; try with_reducible rfl)
      case tr214 =>
      simp only [Act.put, List.setIfInBounds_toArray, List.set_cons_succ, List.set_cons_zero]
      refine held_take 6 (v := _) rfl (by kernel_rfl) (by kernel_rfl) (by kernel_rfl) (fun _ _ _ h => h) (yieldsI_run rfl (fun w1 _ => exec_index (i := k) rfl rfl rfl Tryz.underlying55 size_warn hlt w1)) hS0 ?_
      simp only [Act.put, List.setIfInBounds_toArray, List.set_cons_succ, List.set_cons_zero]
      refine held_take 7 (v := _) rfl (by kernel_rfl) (by kernel_rfl) (by kernel_rfl) (fun _ _ _ h => h) (yieldsI_run rfl (fun w1 h => exec_load_at rfl rfl (CB.out.ext ((HCC.out w1).1 h)) agg_warn (warnV_len _ _))) hS0 ?_
      simp only [Act.put, List.setIfInBounds_toArray, List.set_cons_succ, List.set_cons_zero]
      refine held_take 8 (v := _) rfl (by kernel_rfl) (by kernel_rfl) (by kernel_rfl) (fun _ _ _ h => h) (yieldsI_run rfl (fun w1 _ => exec_cmpW rfl rfl rfl guard_warn (warn_neq (kindW rs WP x) x) w1)) hS0 ?_
      simp only [Act.put, List.setIfInBounds_toArray, List.set_cons_succ, List.set_cons_zero]
      refine wpAnyH_done (by kernel_rfl) ?_ _
      have hqx := (HCC.out _).1 hS0
      go_wp2_with fail
      go_roundw
      case rel => exact ⟨k + 1, by omega, by go_num, E1.out.ext hqx⟩
      case measure => simp [intOf]; omega
    · have d1 : decide ((k : Int) < (n : Int)) = false := decide_eq_false (by omega)
      have d2 : decide (k < n) = false := decide_eq_false hlt
      go_wp2_with fail
      go_ret
      exact ⟨rfl, E1.out⟩

set_option maxRecDepth 100000 in
set_option maxHeartbeats 2000000 in
theorem sameRule_c (x y : RuleR) (w : World) (hx : x.Ok w) (hy : y.Ok w) (hq : x.q = y.q) :
    Calls Tryz.prog 49 #[.agg x.v.toArray, .agg y.v.toArray] w fun e w' => e = .returned (.bool true) ∧ Ext w w' := by
  obtain ⟨q1, q2, q3, q4, q5, q6, q7, q8, q9, q10, q11⟩ := rulesV_q hq
  have HX := hid hx
  have hy1 := hy.rcell
  have hy2 := hy.acell
  have hy3 := hy.lcell
  rw [← q1] at hy1
  rw [← q2] at hy2
  rw [← q3] at hy3
  have HY1 := hid hy1
  have HY2 := hid hy2
  have HY3 := hid hy3
  have hm1 := hx.rm
  have hm2 := hx.am
  have hm3 := hx.lm
  have Q4 := hid q4
  have Q5 := hid q5
  have Q6 := hid q6
  have Q7 := hid q7
  have Q8 := hid q8
  have Q9 := hid q9
  have Q10 := hid q10
  have Q11 := hid q11
  clear hx hy hy1 hy2 hy3 q1 q2 q3 hq q4 q5 q6 q7 q8 q9 q10 q11
  go_enter Tryz.func49, Tryz.ntmps49
  go_upto_region 1 with (fail)
  generalize hwA : World.alloc (World.alloc w _) _ = wA
  have bX : Blk wA w.heap.size x.v 50 := by rw [← hwA]; exact (Blk.mk_alloc rfl rfl).alloc _
  have bY : Blk wA (w.heap.size + 1) y.v 50 := by rw [← hwA]; exact Blk.mk_alloc (size_allocW _ _).symm rfl
  have eA : Ext w wA := by rw [← hwA]; exact ((Ext.refl w).alloc _).alloc _
  have BX := hid bX
  have BY := hid bY
  have EA := hid eA
  have x0 := bX.cell' (i := 0) rfl
  have y0 := bY.cell' (i := 0) (v := .bool x.deny) (by rw [Q4.out]; rfl)
  have x1 := bX.cell' (i := 1) rfl
  have y1 := bY.cell' (i := 1) (v := .slice y.ra x.rn y.rc) (by rw [Q9.out]; rfl)
  clear hwA bX bY eA
  go_wp2_with fail
  refine (eqStrs_cW x.roles x.ra y.ra x.rn x.rc y.rc wA HX.out.rl (by omega) (HX.out.rcell.ext EA.out) (HY1.out.ext EA.out)).mono ?_
  rintro e wB ⟨rfl, eB⟩
  have EB := hid (EA.out.ext eB)
  have BX2 := hid (BX.out.ext eB)
  have BY2 := hid (BY.out.ext eB)
  have x2 := BX2.out.cell' (i := 2) rfl
  have y2 := BY2.out.cell' (i := 2) (v := .slice y.aa x.an y.ac) (by rw [Q10.out]; rfl)
  clear eB BX BY EA x0 y0 x1 y1
  go_wp2_with fail
  refine (eqInts_cW x.acts x.aa y.aa x.an x.ac y.ac wB HX.out.al (by omega) (HX.out.acell.ext EB.out) (HY2.out.ext EB.out)).mono ?_
  rintro e wC ⟨rfl, eC⟩
  have EC := hid (EB.out.ext eC)
  have BX3 := hid (BX2.out.ext eC)
  have BY3 := hid (BY2.out.ext eC)
  have x3 := BX3.out.cell' (i := 3) rfl
  have y3 := BY3.out.cell' (i := 3) (v := .slice y.la x.ln y.lc) (by rw [Q11.out]; rfl)
  clear eC BX2 BY2 EB x2 y2
  go_wp2_with fail
  refine (eqStrs_cW x.labels x.la y.la x.ln x.lc y.lc wC HX.out.ll (by omega) (HX.out.lcell.ext EC.out) (HY3.out.ext EC.out)).mono ?_
  rintro e wD ⟨rfl, eD⟩
  have ED := hid (EC.out.ext eD)
  have bX := BX3.out.ext eD
  have bY := BY3.out.ext eD
  have x4 := bX.cell' (i := 4) rfl
  have y4 := bY.cell' (i := 4) (v := .int .i64 x.fr) (by rw [Q5.out]; rfl)
  have x5 := bX.cell' (i := 5) rfl
  have y5 := bY.cell' (i := 5) (v := .int .i64 x.tt) (by rw [Q6.out]; rfl)
  have x6 := bX.cell' (i := 6) rfl
  have y6 := bY.cell' (i := 6) (v := .int .i64 x.nd) (by rw [Q7.out]; rfl)
  have x7 := bX.cell' (i := 7) rfl
  have y7 := bY.cell' (i := 7) (v := .string x.ow) (by rw [Q8.out]; rfl)
  clear eD bX bY BX3 BY3 EC x3 y3
  go_wp2_with fail
  go_ret
  exact ⟨rfl, ED.out⟩

set_option maxRecDepth 100000 in
set_option maxHeartbeats 2000000 in
theorem eqRules_c (xs ys : List RuleR) (a b : Option Addr) (n c d : Nat) (w : World) (hx : PolOk w a n c xs) (hy : PolOk w b n d ys) (hp : xs.map RuleR.q = ys.map RuleR.q) :
    Calls Tryz.prog 48 #[.slice a n c, .slice b n d, .func (.func 49) #[] #[]] w fun e w' => e = .returned (.bool true) ∧ Ext w w' := by
  have HX := hid hx
  have HY := hid hy
  have HP := hid hp
  have hn := hx.hm
  have HAG := hid agg_rule
  clear hx hy hp
  go_enter Tryz.func48, Tryz.ntmps48
  go_wp2
  go_loopw [17] (fun i wr => ∃ k : Nat, k ≤ n ∧ i = .int .i64 (k : Int) ∧ Ext w wr) (fun i _ => n - (intOf i).toNat)
  case atStart => exact ⟨0, by omega, rfl, Ext.refl _⟩
  case round =>
    obtain ⟨k, hk, rfl, e1⟩ := hrel
    have E1 := hid e1
    clear e1
    by_cases hlt : k < n
    · obtain ⟨x, hxk⟩ : ∃ x, xs[k]? = some x := ⟨xs[k]'(by rw [HX.out.hl]; exact hlt), by simp⟩
      obtain ⟨y, hyk⟩ : ∃ y, ys[k]? = some y := ⟨ys[k]'(by rw [HY.out.hl]; exact hlt), by simp⟩
      have hxy : x.q = y.q := by
        have := congrArg (fun l => l[k]?) HP.out
        simp only [List.getElem?_map, hxk, hyk, Option.map_some] at this
        injection this
      obtain ⟨A, rfl, hca⟩ := (HX.out.ext E1.out).at hxk
      obtain ⟨A2, rfl, hcb⟩ := (HY.out.ext E1.out).at hyk
      have HCA := hid hca
      have HCB := hid hcb
      have HXO := hid ((HX.out.ext E1.out).ok x (List.mem_of_getElem? hxk))
      have HYO := hid ((HY.out.ext E1.out).ok y (List.mem_of_getElem? hyk))
      have HXL := hid (RuleR.len x)
      have HYL := hid (RuleR.len y)
      have HXY := hid hxy
      have o1 := ruleV_one x
      have o2 := ruleV_one y
      clear hca hcb hxk hyk hxy
      go_wp2_with (first | (refine wpl_run rfl (exec_index (i := k) rfl rfl rfl Tryz.underlying22 size_rule hlt _) ?_) | (refine wpl_run rfl (exec_load_at rfl rfl HCA.out HAG.out HXL.out) ?_) | (refine wpl_storew rfl _ (.tmp 8) _ rfl rfl rfl (Blk.mk_alloc (vs := zeroRule) rfl rfl) HAG.out rfl HXL.out o1 ?_))
      intro wB bB uB
      have eB : Ext wr wB := uB.ext ((Ext.refl wr).alloc _) (Nat.le_refl _)
      have BB := hid bB
      have EB := hid (E1.out.ext eB)
      have HCB2 := hid (HCB.out.ext eB)
      have E12 := hid eB
      have hgl := bB.lt
      clear bB uB eB HCA HCB E1
      generalize wr.heap.size = gr at *
      go_wp2_with (first | (refine wpl_run rfl (exec_index (i := k) rfl rfl rfl Tryz.underlying22 size_rule hlt _) ?_) | (refine wpl_run rfl (exec_load_at rfl rfl HCB2.out HAG.out HYL.out) ?_) | (refine wpl_storew rfl _ (.tmp 9) _ rfl rfl rfl (Blk.mk_alloc (vs := zeroRule) rfl rfl) HAG.out rfl HYL.out o2 ?_))
      intro wC bC uC
      have eC : Ext wB wC := uC.ext ((Ext.refl wB).alloc _) (Nat.le_refl _)
      have CC := hid bC
      have BC := hid (BB.out.ext eC)
      have EC := hid (EB.out.ext eC)
      have HXC := hid ((HXO.out.ext E12.out).ext eC)
      have HYC := hid ((HYO.out.ext E12.out).ext eC)
      clear bC uC eC HCB2 EB BB E12 HXO HYO
      generalize wB.heap.size = gc at *
      go_wp2_with (first | (refine wpl_loadw rfl 50 (.tmp 8) rfl rfl BC.out HAG.out HXL.out ?_) | (refine wpl_loadw rfl 50 (.tmp 9) rfl rfl CC.out HAG.out HYL.out ?_))
      refine (sameRule_c x y wC HXC.out HYC.out HXY.out).mono ?_
      rintro e wD ⟨rfl, eD⟩
      have ED := hid (EC.out.ext eD)
      clear eD EC BC CC HXC HYC
      go_wp2
      go_roundw
      case rel => exact ⟨k + 1, by omega, by go_num, ED.out⟩
      case measure => simp [intOf]; omega
    · obtain rfl : k = n := by omega
      go_wp2
      go_ret
      exact ⟨rfl, E1.out⟩
set_option maxRecDepth 100000 in
set_option maxHeartbeats 1000000 in
theorem samePol_c (pa : Option Addr) (pn pc : Nat) (rs : List RuleR) (qa : Option Addr) (qc : Nat) (qs : List RuleR) (w : World) (hp : PolOk w pa pn pc rs) (hq : PolOk w qa pn qc qs) (he : rs.map RuleR.q = qs.map RuleR.q) :
    Calls Tryz.prog 21 #[.agg #[.slice pa pn pc], .agg #[.slice qa pn qc]] w fun e w' => e = .returned (.bool true) ∧ Ext w w' := by
  have HE := hid (fun W (h : Ext w W) => eqRules_c rs qs pa qa pn pc qc W (hp.ext h) (hq.ext h) he)
  clear hp hq he
  go_enter Tryz.func21, Tryz.ntmps21
  go_upto_region 1 with (fail)
  generalize hwA : World.alloc (World.alloc w _) _ = wA
  have bX : Blk wA w.heap.size [.slice pa pn pc] 24 := by rw [← hwA]; exact (Blk.mk_alloc rfl rfl).alloc _
  have bY : Blk wA (w.heap.size + 1) [.slice qa pn qc] 24 := by rw [← hwA]; exact Blk.mk_alloc (size_allocW _ _).symm rfl
  have eA : Ext w wA := by rw [← hwA]; exact ((Ext.refl w).alloc _).alloc _
  have EA := hid eA
  have x0 := bX.cell' (i := 0) rfl
  have y0 := bY.cell' (i := 0) rfl
  clear hwA bX bY eA
  go_wp2_with fail
  refine (HE.out wA EA.out).mono ?_
  rintro e wB ⟨rfl, eB⟩
  go_wp2_with fail
  go_ret
  exact ⟨rfl, EA.out.ext eB⟩

theorem few_c (pa : Option Addr) (pn pc : Nat) (w : World) :
    Calls Tryz.prog 16 #[.agg #[.slice pa pn pc]] w fun e w' => e = .returned (.bool (decide (pn ≤ 6))) ∧ Ext w w' := by
  go_enter Tryz.func16, Tryz.ntmps16
  go_wp2
  go_ret
  refine ⟨?_, (Ext.refl w).alloc _⟩
  first
    | rfl
    | (congr 3; simp; omega)
end

section
open Go Go.RowKit

theorem ruleE_q (r : RuleR) : ruleE r.q = ruleE r := rfl

set_option maxRecDepth 100000 in
set_option maxHeartbeats 8000000 in
theorem warningsMatch_c (pa : Option Addr) (pn pc : Nat) (rs : List RuleR) (w : World) (hp : PolOk w pa pn pc rs) :
    Calls Tryz.prog 5 #[.agg #[.slice pa pn pc]] w fun e w' => e = .returned (.bool true) ∧ Ext w w' := by
  have HP := hid hp
  have HLI := hid (fun W (h : Ext w W) => lint_c pa pn pc rs W (hp.ext h))
  have HTM := hid (fun W (h : Ext w W) => trim_c pa pn pc rs W (hp.ext h))
  have HCP := hid (fun W (h : Ext w W) => checkPolicy_c pa pn pc rs W (hp.ext h))
  have HRW := hid (fun W (h : Ext w W) (hE : polE rs pn = 0) => rWorld_c pa pn pc rs W (hp.ext h) hE)
  have HRT := hid (fun W (h : Ext w W) (hE : polE rs pn = 0) (hS : szW rs ≤ 100000) => rtrim_c pa pn pc rs W (hp.ext h) hE hS)
  have herr := hid (show errW rs pn = if polE rs pn ≠ 0 then polE rs pn else if szW rs ≤ 100000 then 0 else 5 from rfl)
  clear hp
  obtain ⟨E, hE⟩ : ∃ E, errW rs pn = E := ⟨_, rfl⟩
  obtain ⟨F, hF⟩ : ∃ F, polE rs pn = F := ⟨_, rfl⟩
  rw [hE] at HLI HTM
  have HE := hid (herr.out.symm.trans hE)
  have HF := hid hF
  rw [hF] at HCP HE HRW HRT
  clear hE herr hF
  go_enter Tryz.func5, Tryz.ntmps5
  go_upto_region 1 with (fail)
  generalize hwA : World.alloc w _ = wA
  have bA : Blk wA w.heap.size [.slice pa pn pc] 24 := by rw [← hwA]; exact Blk.mk_alloc rfl rfl
  have eA : Ext w wA := by rw [← hwA]; exact (Ext.refl w).alloc _
  have BA := hid bA
  have EA := hid eA
  clear hwA bA eA
  go_wp2_with fail
  refine (landed_c wA).mono ?_
  rintro e w1 ⟨rfl, e1⟩
  have E1 := hid (EA.out.ext e1)
  have B1 := hid (BA.out.ext e1)
  clear e1 EA BA
  go_wp2_with (first | (refine wpl_loadw rfl 24 _ rfl rfl B1.out agg_polW rfl ?_))
  refine (few_c pa pn pc w1).mono ?_
  rintro e w2 ⟨rfl, e2⟩
  have E2 := hid (E1.out.ext e2)
  have B2 := hid (B1.out.ext e2)
  clear e2 E1 B1
  by_cases h6 : pn ≤ 6
  · have dfew : decide (pn ≤ 6) = true := decide_eq_true h6
    rw [dfew]
    go_wp2_with (first | (refine wpl_loadw rfl 24 _ rfl rfl B2.out agg_polW rfl ?_))
    refine (HLI.out w2 E2.out).mono ?_
    rintro e w3 ⟨lv, rfl, hlnz, hlz, e3⟩
    have E3 := hid (E2.out.ext e3)
    have B3 := hid (B2.out.ext e3)
    have HLNZ := hid hlnz
    have HLZ := hid hlz
    clear e3 E2 B2 hlnz hlz HLI
    go_wp2_with (first | (refine wpl_loadw rfl 24 _ rfl rfl B3.out agg_polW rfl ?_))
    refine (HTM.out w3 E3.out).mono ?_
    rintro e w4 ⟨ta, tn, tc, ts, rfl, htnz, htz, e4⟩
    have E4 := hid (E3.out.ext e4)
    have B4 := hid (B3.out.ext e4)
    have E34 := hid e4
    have HTNZ := hid htnz
    have HTZ := hid htz
    clear e4 E3 B3 htnz htz HTM
    go_wp2_with (first | (refine wpl_storew rfl _ (.tmp 5) _ rfl rfl rfl (Blk.mk_alloc (vs := [.slice none 0 0]) rfl rfl) agg_polW rfl (xs := [.slice ta tn tc]) rfl (by simp [Value.oneCell']) ?_))
    intro w5 b5 u5
    have e5 : Ext w4 w5 := u5.ext ((Ext.refl w4).alloc _) (Nat.le_refl _)
    obtain ⟨g5, hg5⟩ : ∃ g, w4.heap.size = g := ⟨_, rfl⟩
    rw [hg5] at b5 ⊢
    have T5 := hid b5
    have B5 := hid (B4.out.ext e5)
    have E5 := hid (E4.out.ext e5)
    have E45 := hid e5
    clear b5 u5 e5 hg5 E4 B4
    go_wp2_with (first | (refine wpl_loadw rfl 24 (.tmp 1) rfl rfl B5.out agg_polW rfl ?_))
    refine (HCP.out w5 E5.out).mono ?_
    rintro e w6 ⟨rfl, e6⟩
    have E6 := hid (E5.out.ext e6)
    have B6 := hid (B5.out.ext e6)
    have T6 := hid (T5.out.ext e6)
    have E46 := hid (E45.out.ext e6)
    clear e6 E5 B5 T5 E45 HCP
    by_cases h0 : F = 0
    · have qf : (F == 0) = true := by rw [h0]; rfl
      have nf : (F != 0) = false := by unfold bne; rw [qf]; rfl
      go_wp2_with (first | (refine wpl_loadw rfl 24 (.tmp 1) rfl rfl B6.out agg_polW rfl ?_))
      refine (HRW.out w6 E6.out h0).mono ?_
      rintro e w7 (⟨hbig, rfl, e7⟩ | ⟨hle, xv, xs, rfl, hxs, hxp, e7⟩)
      · have hE5 : E = 5 := by
          have := HE.out
          rw [if_neg (by simp [h0]), if_neg hbig] at this
          exact this.symm
        subst hE5
        have E7 := hid (E6.out.ext e7)
        clear e7 hbig HLNZ HLZ HTNZ HTZ HE
        go_wp2
        go_ret
        exact ⟨rfl, E7.out⟩
      · have hE0 : E = 0 := by
          have := HE.out
          rw [if_neg (by simp [h0]), if_pos hle] at this
          exact this.symm
        subst hE0
        have E7 := hid (E6.out.ext e7)
        have B7 := hid (B6.out.ext e7)
        have T7 := hid (T6.out.ext e7)
        have E47 := hid (E46.out.ext e7)
        obtain ⟨ya, yc, rfl, hyok⟩ := hxs.slice
        have YOK := hid hyok
        have HXP := hid hxp
        obtain ⟨n, hn⟩ : ∃ n, xs.length = n := ⟨_, rfl⟩
        rw [hn] at YOK ⊢
        have hn5 : n ≤ 100000 := by
          have := congrArg List.length hxp
          rw [List.length_map, worldP_len, hn] at this
          omega
        clear e7 hxs hxp hyok E6 B6 T6 E46 HE
        by_cases h20 : n ≤ 20000
        · have d20 : decide ((20000 : Int) < (n : Int)) = false := decide_eq_false (by omega)
          obtain ⟨hpo, htq⟩ := HTZ.out (by trivial)
          have hlr := HLZ.out (by trivial)
          have PT := hid (hpo.ext E47.out)
          have HTQ := hid htq
          have hrow := own_extW hlr (E34.out.ext E47.out)
          obtain ⟨la, lc, rfl, hlc, _, hlcell⟩ := own_cellsA hrow
          have HLC := hid hlcell
          obtain ⟨h100, hrz⟩ := polE_zero (HF.out.trans h0)
          have HRZ := hid hrz
          have HT := hid (worldP_ok (rs := rs) hrz)
          have P7 := hid (HP.out.ext E7.out)
          have hlint := hid (fun W (h : Ext w7 W) => rlint_c pa pn pc rs ya n yc xs W (P7.out.ext h) (YOK.out.ext h) hn5 (by omega) (by rw [HXP.out]; exact HT.out) hrz)
          rw [HXP.out] at hlint
          obtain ⟨m, hm⟩ : ∃ m, (lintK rs (worldP rs) pn).length = m := ⟨_, rfl⟩
          have HM := hid hm
          rw [hm] at hlc hlint
          have hm6 : m ≤ 100 := by rw [← hm]; exact Nat.le_trans (lintK_len rs (worldP rs) pn) h100
          have htrim := hid (fun W (h : Ext w7 W) => HRT.out W (E7.out.ext h) h0 hle)
          have htl : tn = (trimW (worldP rs) rs).length := by
            rw [← hpo.hl]
            have := congrArg List.length htq
            simpa using this
          have HTL := hid htl
          clear hpo htq hlr hrow hlcell hrz hm HLNZ HLZ HTNZ HTZ HRT HRW htl
          go_upto_region 15 with (fail)
          rw [HM.out]
          obtain ⟨C, hC⟩ : ∃ C : World → Prop, C = fun w' => Ext w7 w' := ⟨_, rfl⟩
          have hC0 : ∀ w', C w' ↔ Ext w7 w' := fun w' => by rw [hC]
          clear hC
          have HCC := hid hC0
          clear hC0
          have hCx : ∀ w w', C w → Ext w w' → C w' := fun w w' h1 h2 => (HCC.out w').2 (((HCC.out w).1 h1).ext h2)
          refine wp_region_held_drew (S := C) (by kernel_rfl) ((HCC.out _).2 (Ext.refl w7).drew) (fun hS0 => ?_)
          refine held_take 0 (v := ?pv1) rfl (by kernel_rfl) (by kernel_rfl) (by kernel_rfl) (fun _ _ _ h => h) (.inl ⟨rfl, ?py1⟩) hS0 ?pr1
          case py1 => (intro _ _; go_simp; try with_reducible rfl)
          case pr1 =>
          simp only [Act.put, List.setIfInBounds_toArray, List.set_cons_succ, List.set_cons_zero]
          refine held_take 1 (v := ?pv2) rfl (by kernel_rfl) (by kernel_rfl) (by kernel_rfl) (fun _ _ _ h => h) (.inl ⟨rfl, ?py2⟩) hS0 ?pr2
          case py2 => (intro _ _; go_simp; try with_reducible rfl)
          case pr2 =>
          simp only [Act.put, List.setIfInBounds_toArray, List.set_cons_succ, List.set_cons_zero]
          refine held_take 2 (v := ?pv3) rfl (by kernel_rfl) (by kernel_rfl) (by kernel_rfl) (fun _ _ _ h => h) (.inl ⟨rfl, ?py3⟩) hS0 ?pr3
          case py3 => (intro _ _; go_simp; try with_reducible rfl)
          case pr3 =>
          simp only [Act.put, List.setIfInBounds_toArray, List.set_cons_succ, List.set_cons_zero]
          refine held_take 3 (v := ?pv4) rfl (by kernel_rfl) (by kernel_rfl) (by kernel_rfl) (fun _ _ _ h => h) (.inl ⟨rfl, ?py4⟩) hS0 ?pr4
          case py4 => (intro _ _; go_simp; try with_reducible rfl)
          case pr4 =>
          simp only [Act.put, List.setIfInBounds_toArray, List.set_cons_succ, List.set_cons_zero]
          refine held_take 4 (v := ?pv5) rfl (by kernel_rfl) (by kernel_rfl) (by kernel_rfl) (fun _ _ _ h => h) (.inl ⟨rfl, ?py5⟩) hS0 ?pr5
          case py5 => (intro _ _; go_simp; try with_reducible rfl)
          case pr5 =>
          simp only [Act.put, List.setIfInBounds_toArray, List.set_cons_succ, List.set_cons_zero]
          refine held_take 5 (v := ?pv6) rfl (by kernel_rfl) (by kernel_rfl) (by kernel_rfl) (fun _ _ _ h => h) (.inl ⟨rfl, ?py6⟩) hS0 ?pr6
          case py6 => (intro _ _; go_simp; try with_reducible rfl)
          case pr6 =>
          simp only [Act.put, List.setIfInBounds_toArray, List.set_cons_succ, List.set_cons_zero]
          refine held_take 6 (v := ?pv7) rfl (by kernel_rfl) (by kernel_rfl) (by kernel_rfl) (fun _ _ _ h => h) (.inl ⟨rfl, ?py7⟩) hS0 ?pr7
          case py7 => (intro _ _; go_simp; try with_reducible rfl)
          case pr7 =>
          simp only [Act.put, List.setIfInBounds_toArray, List.set_cons_succ, List.set_cons_zero]
          refine held_take 7 (v := ?pv8) rfl (by kernel_rfl) (by kernel_rfl) (by kernel_rfl) (fun _ _ _ h => h) (.inl ⟨rfl, ?py8⟩) hS0 ?pr8
          case py8 => (intro _ _; go_simp; try with_reducible rfl)
          case pr8 =>
          simp only [Act.put, List.setIfInBounds_toArray, List.set_cons_succ, List.set_cons_zero]
          refine held_take 8 (v := _) rfl (by kernel_rfl) (by kernel_rfl) (by kernel_rfl) (fun _ _ _ h => h) (yieldsI_loadw rfl _ _ rfl rfl (fun w1 h => B7.out.ext ((HCC.out w1).1 h)) agg_polW rfl) hS0 ?_
          simp only [Act.put, List.setIfInBounds_toArray, List.set_cons_succ, List.set_cons_zero]
          refine held_take 9 (v := ?pv9) rfl (by kernel_rfl) (by kernel_rfl) (by kernel_rfl) (fun _ _ _ h => h) (.inl ⟨rfl, ?py9⟩) hS0 ?pr9
          case py9 => (intro _ _; go_simp; try with_reducible rfl)
          case pr9 =>
          simp only [Act.put, List.setIfInBounds_toArray, List.set_cons_succ, List.set_cons_zero]
          refine held_one (i := 10) (by kernel_rfl) rfl ?_
          intro Q' hQ
          go_wp2_with fail
          refine (hlint.out _ ((HCC.out _).1 hS0)).mono ?_
          rintro e w8 ⟨lv2, rfl, hrow2, eq9⟩
          have hS9 := hCx _ _ hS0 eq9
          obtain ⟨lb, ld, rfl, _, _, hlcell2⟩ := own_cellsA hrow2
          have hc1 := HLC.out.ext ((HCC.out _).1 hS9)
          clear hrow2
          go_wp2_with fail
          refine hQ _ _ hS9 ?_
          clear hQ Q' hS0 eq9
          have hS0 := hS9
          clear hS9
          try dsimp only
          try simp only [Act.put, List.setIfInBounds_toArray, List.set_cons_succ, List.set_cons_zero]
          refine held_one (i := 11) (by kernel_rfl) rfl ?_
          intro Q' hQ
          go_wp2_with fail
          refine (eqWarns_c rs (worldP rs) pn la lb m lc ld _ HM.out (by omega) hc1 hlcell2).mono ?_
          rintro e w9 ⟨rfl, eq9⟩
          have hS9 := hCx _ _ hS0 eq9
          clear hc1 hlcell2
          go_wp2_with fail
          refine hQ _ _ hS9 ?_
          clear hQ Q' hS0 eq9
          have hS0 := hS9
          clear hS9
          try dsimp only
          try simp only [Act.put, List.setIfInBounds_toArray, List.set_cons_succ, List.set_cons_zero]
          refine held_take 12 (v := ?pv10) rfl (by kernel_rfl) (by kernel_rfl) (by kernel_rfl) (fun _ _ _ h => h) (.inl ⟨rfl, ?py10⟩) hS0 ?pr10
          case py10 => (intro _ _; go_simp; try with_reducible rfl)
          case pr10 =>
          simp only [Act.put, List.setIfInBounds_toArray, List.set_cons_succ, List.set_cons_zero]
          refine held_take 13 (v := ?pv11) rfl (by kernel_rfl) (by kernel_rfl) (by kernel_rfl) (fun _ _ _ h => h) (.inl ⟨rfl, ?py11⟩) hS0 ?pr11
          case py11 => (intro _ _; go_simp; try with_reducible rfl)
          case pr11 =>
          simp only [Act.put, List.setIfInBounds_toArray, List.set_cons_succ, List.set_cons_zero]
          refine held_take 14 (v := ?pv12) rfl (by kernel_rfl) (by kernel_rfl) (by kernel_rfl) (fun _ _ _ h => h) (.inl ⟨rfl, ?py12⟩) hS0 ?pr12
          case py12 => (intro _ _; go_simp; try with_reducible rfl)
          case pr12 =>
          simp only [Act.put, List.setIfInBounds_toArray, List.set_cons_succ, List.set_cons_zero]
          refine held_take 15 (v := _) rfl (by kernel_rfl) (by kernel_rfl) (by kernel_rfl) (fun _ _ _ h => h) (yieldsI_loadw rfl _ _ rfl rfl (fun w1 h => T7.out.ext ((HCC.out w1).1 h)) agg_polW rfl) hS0 ?_
          simp only [Act.put, List.setIfInBounds_toArray, List.set_cons_succ, List.set_cons_zero]
          refine held_take 16 (v := _) rfl (by kernel_rfl) (by kernel_rfl) (by kernel_rfl) (fun _ _ _ h => h) (yieldsI_loadw rfl _ _ rfl rfl (fun w1 h => B7.out.ext ((HCC.out w1).1 h)) agg_polW rfl) hS0 ?_
          simp only [Act.put, List.setIfInBounds_toArray, List.set_cons_succ, List.set_cons_zero]
          refine held_one (i := 17) (by kernel_rfl) rfl ?_
          intro Q' hQ
          go_wp2_with fail
          refine (htrim.out _ ((HCC.out _).1 hS0)).mono ?_
          rintro e w10 ⟨ra, rn, rc, rfl, hrp, eq9⟩
          have hS9 := hCx _ _ hS0 eq9
          have hrl : rn = tn := by rw [HTL.out]; exact hrp.hl.symm
          subst hrl
          have hpt := PT.out.ext ((HCC.out _).1 hS9)
          go_wp2_with fail
          refine hQ _ _ hS9 ?_
          clear hQ Q' hS0 eq9
          have hS0 := hS9
          clear hS9
          try dsimp only
          try simp only [Act.put, List.setIfInBounds_toArray, List.set_cons_succ, List.set_cons_zero]
          refine held_one (i := 18) (by kernel_rfl) rfl ?_
          intro Q' hQ
          go_wp2_with fail
          refine (samePol_c ta rn tc ts ra rc _ _ hpt hrp HTQ.out).mono ?_
          rintro e w11 ⟨rfl, eq9⟩
          have hS9 := hCx _ _ hS0 eq9
          clear hpt hrp
          go_wp2_with fail
          refine hQ _ _ hS9 ?_
          clear hQ Q' hS0 eq9
          have hS0 := hS9
          clear hS9
          try dsimp only
          try simp only [Act.put, List.setIfInBounds_toArray, List.set_cons_succ, List.set_cons_zero]
          refine held_take 19 (v := ?pv13) rfl (by kernel_rfl) (by kernel_rfl) (by kernel_rfl) (fun _ _ _ h => h) (.inl ⟨rfl, ?py13⟩) hS0 ?pr13
          case py13 => (intro _ _; go_simp; try with_reducible rfl)
          case pr13 =>
          simp only [Act.put, List.setIfInBounds_toArray, List.set_cons_succ, List.set_cons_zero]
          refine held_take 20 (v := ?pv14) rfl (by kernel_rfl) (by kernel_rfl) (by kernel_rfl) (fun _ _ _ h => h) (.inl ⟨rfl, ?py14⟩) hS0 ?pr14
          case py14 => (intro _ _; go_simp; try with_reducible rfl)
          case pr14 =>
          simp only [Act.put, List.setIfInBounds_toArray, List.set_cons_succ, List.set_cons_zero]
          refine wpAnyH_done (by kernel_rfl) ?_ _
          have EX := hid ((HCC.out _).1 hS0)
          clear hS0 hCx HCC C hlint htrim
          obtain ⟨D, hD⟩ : ∃ D, trimW (worldP rs) rs = D := ⟨_, rfl⟩
          have HDEC := hid (trimW_dec (W := worldP rs) rs)
          rw [hD] at HTQ HDEC
          have HZ2 : Hid (∀ r ∈ ts, ruleE r = 0) := hid (fun r hr => by
            have h1 : r.q ∈ D.map RuleR.q := by rw [← HTQ.out]; exact List.mem_map.2 ⟨r, hr, rfl⟩
            obtain ⟨r2, h2, h3⟩ := List.mem_map.1 h1
            rw [← ruleE_q, ← h3, ruleE_q]
            exact HRZ.out r2 ((trimW_sub (W := worldP rs) rs).1 r2 (by rw [hD]; exact h2)))
          have HPQ := hid (show ∀ p, decP ts p = decP D p from fun p => by rw [← decP_q, HTQ.out, decP_q])
          have B11 := hid (B7.out.ext EX.out)
          have T11 := hid (T7.out.ext EX.out)
          have P11 := hid (P7.out.ext EX.out)
          have Q11 := hid (PT.out.ext EX.out)
          have Y11 := hid (YOK.out.ext EX.out)
          have EE11 := hid (E7.out.ext EX.out)
          have HAG := hid agg_ask
          clear hD HTQ B7 T7 P7 PT YOK EX E7 E47 E34
          go_wp2
          go_loopw [91] (fun i wr => ∃ k : Nat, k ≤ n ∧ i = .int .i64 (k : Int) ∧ Ext w11 wr) (fun i _ => n - (intOf i).toNat)
          case atStart => exact ⟨0, by omega, rfl, Ext.refl _⟩
          case round =>
            obtain ⟨k, hk, rfl, e12⟩ := hrel
            have E12 := hid e12
            clear e12
            by_cases hlt : k < n
            · obtain ⟨x, hxk⟩ : ∃ x, xs[k]? = some x := ⟨xs[k]'(by omega), by simp⟩
              have hpk : (worldP rs)[k]? = some x.p := by rw [← HXP.out, List.getElem?_map, hxk]; rfl
              obtain ⟨T, hT, hTb⟩ := HT.out _ (List.mem_of_getElem? hpk)
              obtain ⟨A, rfl, hca⟩ := (Y11.out.ext E12.out).at hxk
              have HCA := hid hca
              have HXO := hid ((Y11.out.ext E12.out).ok x (List.mem_of_getElem? hxk))
              have HXL := hid (AskR.len HXO.out)
              have HTT := hid (show x.time = (T : Int) from hT)
              have HDX := hid (HDEC.out _ (List.mem_of_getElem? hpk))
              have o1 := askW_one x
              clear hca hxk hpk hT
              go_wp2_with (first | (refine wpl_run rfl (exec_index (i := k) rfl rfl rfl Tryz.underlying26 size_ask hlt _) ?_) | (refine wpl_run rfl (exec_load_at rfl rfl HCA.out HAG.out HXL.out) ?_) | (refine wpl_storew rfl _ (.tmp 11) _ rfl rfl rfl (Blk.mk_alloc (vs := zeroAskV) rfl rfl) HAG.out rfl HXL.out o1 ?_))
              intro wB bB uB
              have eB : Ext wr wB := uB.ext ((Ext.refl wr).alloc _) (Nat.le_refl _)
              have BX := hid bB
              have EB := hid (E12.out.ext eB)
              have HXB := hid (HXO.out.ext eB)
              clear bB uB eB HCA E12 HXO
              generalize wr.heap.size = gr at *
              have PB := hid (P11.out.ext EB.out)
              have QB := hid (Q11.out.ext EB.out)
              have BB := hid (B11.out.ext EB.out)
              have DB' := hid (T11.out.ext EB.out)
              have hD1 := hid (fun W (h : Ext wB W) => rdecideT_c pa pn pc rs x T W (PB.out.ext h) (HXB.out.ext h) HRZ.out HTT.out hTb)
              have hD2 := hid (fun W (h : Ext wB W) => rdecideT_c ta rn tc ts x T W (QB.out.ext h) (HXB.out.ext h) HZ2.out HTT.out hTb)
              obtain ⟨d1, hd1⟩ : ∃ d, decideD x rs = d := ⟨_, rfl⟩
              obtain ⟨d2, hd2⟩ : ∃ d, decideD x ts = d := ⟨_, rfl⟩
              have hsame : contD d1 = contD d2 := by
                rw [← hd1, ← hd2, decP_of, decP_of, HPQ.out]
                exact HDX.out
              have HSAME := hid hsame
              rw [hd1] at hD1
              rw [hd2] at hD2
              have hlv := HXL.out
              clear hd1 hd2 hsame
              go_upto_region 20 with (fail)
              obtain ⟨C, hC⟩ : ∃ C : World → Prop, C = fun w' => Ext wB w' := ⟨_, rfl⟩
              have hC0 : ∀ w', C w' ↔ Ext wB w' := fun w' => by rw [hC]
              clear hC
              have HCC := hid hC0
              clear hC0
              have hCx : ∀ w w', C w → Ext w w' → C w' := fun w w' h1 h2 => (HCC.out w').2 (((HCC.out w).1 h1).ext h2)
              refine wp_region_al (C := C) 8 [(6, zeroDec.v, 52), (7, zeroDec.v, 52)] wB.heap.size (by kernel_rfl) (by kernel_rfl) (by kernel_rfl)
                ((HCC.out _).2 (Ext.refl wB).drew) (fun w o h => hCx _ _ h ((Ext.refl w).alloc o)) (fun w h => ((HCC.out w).1 h).size) ?_ ?_
              · intro x hx
                simp only [List.mem_cons, List.not_mem_nil, or_false] at hx
                rcases hx with rfl | rfl
                · exact ⟨_, rfl, rfl, fun _ _ => by rfl⟩
                · exact ⟨_, rfl, rfl, fun _ _ => by rfl⟩
              simp only [List.take_succ_cons, List.take_zero, List.drop_succ_cons, List.drop_zero]
              refine wpQE_do rfl rfl _ (yieldsE_loadw _ _ rfl rfl (fun w1 h => BB.out.ext ((HCC.out w1).1 h)) agg_polW rfl) ?_
              simp only [Act.put, List.setIfInBounds_toArray, List.set_cons_succ, List.set_cons_zero]
              refine wpQE_do rfl rfl _ (yieldsE_loadw _ _ rfl rfl (fun w1 h => BX.out.ext ((HCC.out w1).1 h)) HAG.out hlv) ?_
              simp only [Act.put, List.setIfInBounds_toArray, List.set_cons_succ, List.set_cons_zero]
              refine wpQE_do rfl rfl _ (yieldsE_call rfl Tryz.call15 (by simp [Act.eval]) (fun w h => hD1.out w ((HCC.out w).1 h)) hCx) ?_
              simp only [Act.put, List.setIfInBounds_toArray, List.set_cons_succ, List.set_cons_zero]
              refine wpQE_do rfl rfl _ (yieldsE_loadw _ _ rfl rfl (fun w1 h => DB'.out.ext ((HCC.out w1).1 h)) agg_polW rfl) ?_
              simp only [Act.put, List.setIfInBounds_toArray, List.set_cons_succ, List.set_cons_zero]
              refine wpQE_do rfl rfl _ (yieldsE_loadw _ _ rfl rfl (fun w1 h => BX.out.ext ((HCC.out w1).1 h)) HAG.out hlv) ?_
              simp only [Act.put, List.setIfInBounds_toArray, List.set_cons_succ, List.set_cons_zero]
              refine wpQE_do rfl rfl _ (yieldsE_call rfl Tryz.call15 (by simp [Act.eval]) (fun w h => hD2.out w ((HCC.out w).1 h)) hCx) ?_
              simp only [Act.put, List.setIfInBounds_toArray, List.set_cons_succ, List.set_cons_zero]
              refine wpQE_al rfl ?_
              refine wpQE_al rfl ?_
              refine wpQE_nil ?_
              intro gs w2 hw2 hbl hdis
              have hb6 := hbl _ (List.mem_cons_self)
              have hb7 := hbl _ (List.mem_cons_of_mem _ List.mem_cons_self)
              have hne := hdis _ (List.mem_cons_self) _ (List.mem_cons_of_mem _ List.mem_cons_self) (by simp)
              simp only at hb6 hb7 hne
              simp only [putAl, dstOf, ptrOf, Act.put, List.getElem?_toArray, List.getElem?_cons_succ, List.getElem?_cons_zero, Option.bind_some, List.setIfInBounds_toArray, List.set_cons_succ, List.set_cons_zero]
              generalize gs 6 = gk at *
              generalize gs 7 = gv at *
              have e2 := (HCC.out w2).1 hw2
              have hgw1 : wB.heap.size ≤ gk := hb6.2
              have hgw2 : wB.heap.size ≤ gv := hb7.2
              have K2 := hid hb6.1
              have V2 := hid hb7.1
              have E2B := hid e2
              clear hbl hdis hCx HCC hw2 hb6 hb7 e2 C
              refine wpl_storew rfl _ _ _ rfl rfl rfl K2.out agg_dec rfl (DecR.len d1) (decV_one d1) ?_
              intro w3 b3 u3
              have E3B := hid (u3.ext E2B.out hgw1)
              have V3 := hid (V2.out.upd u3 (by omega))
              have K3 := hid b3
              clear b3 u3 K2 V2 E2B
              refine wpl_storew rfl _ _ _ rfl rfl rfl V3.out agg_dec rfl (DecR.len d2) (decV_one d2) ?_
              intro w4 b4 u4
              have E4B := hid (u4.ext E3B.out hgw2)
              have K4 := hid (K3.out.upd u4 (by omega))
              have V4 := hid b4
              clear b4 u4 E3B V3 K3
              refine wpList_nil ?_
              have k0 := K4.out.cell' (i := 0) rfl
              have k2 := K4.out.cell' (i := 2) rfl
              have k3 := K4.out.cell' (i := 3) rfl
              have v0 := V4.out.cell' (i := 0) rfl
              have v2 := V4.out.cell' (i := 2) rfl
              have v3 := V4.out.cell' (i := 3) rfl
              have EW := hid (EB.out.ext E4B.out)
              have hsd := (sameD_iff d1 d2).2 HSAME.out
              unfold sameD at hsd
              simp only [Bool.and_eq_true] at hsd
              obtain ⟨⟨h1, h2⟩, h3⟩ := hsd
              have n1 : (d1.al != d2.al) = false := by unfold bne; rw [h1]; rfl
              have n2 : (d1.nd != d2.nd) = false := by unfold bne; rw [h2]; rfl
              have n3 : (d1.ow.toList != d2.ow.toList) = false := by unfold bne; rw [h3]; rfl
              clear HSAME HDX hD1 hD2 BX PB QB BB DB' HXB
              go_upto_region 21 with (fail)
              go_wp2
              go_roundw
              case rel => exact ⟨k + 1, by omega, by go_num, EW.out⟩
              case measure => simp [intOf]; omega
            · go_wp2
              go_ret
              exact ⟨rfl, EE11.out.ext E12.out⟩
        · have d20 : decide ((20000 : Int) < (n : Int)) = true := decide_eq_true (by omega)
          clear HLNZ HLZ HTNZ HTZ
          go_wp2
          go_ret
          exact ⟨rfl, E7.out⟩
    · have hEF : E = F := by
        have := HE.out
        rw [if_pos h0] at this
        exact this.symm
      subst hEF
      have hlv := HLNZ.out h0
      subst hlv
      obtain ⟨rfl, rfl, rfl⟩ := HTNZ.out h0
      have qf : (E == 0) = false := by rw [beq_eq_false_iff_ne]; exact h0
      have nf : (E != 0) = true := by unfold bne; rw [qf]; rfl
      have t0 := T6.out.cell' (i := 0) rfl
      clear HLNZ HLZ HTNZ HTZ HE HRW HRT
      go_wp2
      go_ret
      exact ⟨rfl, E6.out⟩
  · have dfew : decide (pn ≤ 6) = false := decide_eq_false h6
    rw [dfew]
    go_wp2
    go_ret
    exact ⟨rfl, E2.out⟩
end

section
open Go Go.RowKit Go.ChangeShapes Go.WideShapes Go.ChangeAt

theorem u8_of {n : Int} (h : (Lit.int .u8 n).wf = true) : ∃ x : UInt8, Value.int .u8 n = u8v x := by
  have hb := bounds_u8 h
  refine ⟨UInt8.ofNat n.toNat, ?_⟩
  unfold u8v
  congr 1
  rw [UInt8.toNat_ofNat']
  omega

theorem u8s_of : ∀ (vs : List Value), (∀ (i : Nat) (v : Value), vs[i]? = some v → ∃ x : UInt8, v = u8v x) → ∃ l : List UInt8, vs = l.map u8v
  | [], _ => ⟨[], rfl⟩
  | v :: vs, h => by
    obtain ⟨x, hx⟩ := h 0 v rfl
    obtain ⟨l, hl⟩ := u8s_of vs fun i u hu => h (i + 1) u (by simpa using hu)
    exact ⟨x :: l, by rw [hx, hl]; rfl⟩

section
variable {H : Type} {enc : TypeId × Value → H} {P : Program} {w : World}
/-- an array of octets -/
theorem open_octets {r : Reach} {b0 base : Nat} {sp : Nat → Bool} {held : Bool} {t e : TypeId} {n : Nat} {v : Value} {d : DataW H} {ps : List MemPlace} (ht : P.underlying t = some (.array n e)) (he : P.underlying e = some (.int .u8)) (hce : P.cellsOf e = 1) (hct : P.cellsOf t = n)
    (hval : Value.okWide P w r b0 t v) (hd : DataW.Trod enc P w base sp held t v d ps) : ∃ l : List UInt8, l.length = n ∧ v = .agg (l.map u8v).toArray := by
  unfold Value.okWide at hval
  rw [ht] at hval
  obtain ⟨cs, rfl, hs, _⟩ := hval
  obtain ⟨fuel, hf⟩ := hd
  obtain ⟨xs, m, _, _, hlen, hxl, hel⟩ := DataW.trod_array ht hf
  have hcl : cs.toList.length = n := by rw [Array.length_toList, hs, hct]
  obtain ⟨l, hl⟩ := u8s_of cs.toList fun i u hu => by
    have hi : i < n := by
      have := (List.getElem?_eq_some_iff.1 hu).1
      omega
    have h1 := hel i hi
    rw [hce, Nat.mul_one] at h1
    have hx : xs[i]? = some xs[i] := by simp
    have h2 : (cs.toList.drop i).take 1 = [u] := by
      have h3 := List.getElem?_drop (xs := cs.toList) (i := i) (j := 0)
      rw [Nat.add_zero, hu] at h3
      cases hd : cs.toList.drop i with
      | nil => rw [hd] at h3; simp at h3
      | cons y r => rw [hd] at h3; simp at h3; simp [h3]
    have h4 : DataW.trod enc P w base sp held m e [u] = some xs[i] := by
      rw [← h2, ← hx]; exact h1
    obtain ⟨k, hk, _, hw⟩ := DataW.trod_int he h4
    have hu' : u = .int .u8 k := by simpa using hk
    rw [hu']; exact u8_of hw
  refine ⟨l, ?_, ?_⟩
  · have := congrArg List.length hl
    rw [hcl, List.length_map] at this; exact this.symm
  · rw [← hl]
end
end

section
open Go Go.RowKit Go.ChangeShapes Go.WideShapes Go.ChangeAt

section
variable {H : Type} {enc : TypeId × Value → H} {P : Program} {w : World}
/-- a slice of octets, read whole -/
theorem open_bytes {r : Reach} {b0 base : Nat} {held : Bool} {t e : TypeId} {v : Value} {d : DataW H} {ps : List MemPlace} (ht : P.underlying t = some (.slice e)) (he : P.underlying e = some (.int .u8)) (hce : P.cellsOf e = 1)
    (hval : Value.okWide P w r b0 t v) (hd : DataW.Trod enc P w base (fun _ => true) held t v d ps) :
    ∃ (a : Option Addr) (n c : Nat) (l : List UInt8) (es sp : List (DataW H)), v = .slice a n c ∧ l.length = n ∧ n ≤ c ∧ (a = none → c = 0) ∧ Cells w a (l.map u8v) ∧ ((d = .nil ∧ c = 0) ∨ (d = .slice es sp ∧ es.length + sp.length = c)) := by
  obtain ⟨a, n, c, rfl⟩ := okWide_slice ht hval
  obtain ⟨fuel, hf⟩ := hd
  rcases open_ints ht he hce hf with ⟨hcs, hx⟩ | ⟨ad, len, cap, zs, hcs, _, hle, hmax, hlen, hx, hcell, hwf⟩
  · simp [Value.cells] at hcs
    obtain ⟨rfl, rfl, rfl⟩ := hcs
    simp only [Prod.mk.injEq] at hx
    exact ⟨none, 0, 0, [], [], [], rfl, rfl, Nat.le_refl _, fun _ => rfl, .inl rfl, .inl ⟨hx.1, rfl⟩⟩
  · simp [Value.cells] at hcs
    obtain ⟨rfl, rfl, rfl⟩ := hcs
    simp only [Prod.mk.injEq] at hx
    simp only [if_true] at hlen
    obtain ⟨l, hl⟩ := u8s_of ((zs.take n).map (Value.int .u8)) fun i u hu => by
      have hm := List.mem_of_getElem? hu
      obtain ⟨z, hz, rfl⟩ := List.mem_map.1 hm
      exact u8_of (hwf z (List.mem_of_mem_take hz))
    have hll : l.length = n := by
      have := congrArg List.length hl
      simp only [List.length_map, List.length_take] at this
      omega
    refine ⟨some ad, n, c, l, lits .u8 (zs.take n), lits .u8 (zs.drop n), rfl, hll, hle, (fun h => by cases h), ?_, .inr ⟨hx.1, ?_⟩⟩
    · by_cases hn : n = 0
      · left
        have : l = [] := List.length_eq_zero_iff.1 (by omega)
        rw [this]; rfl
      · obtain ⟨b, off, rfl, hat⟩ := ints_at hcell (by omega)
        refine .inr ⟨b, off, rfl, fun i u hu => ?_⟩
        rw [← hl] at hu
        have hi : i < n := by
          have := (List.getElem?_eq_some_iff.1 hu).1
          simp at this; omega
        rw [hat i (by omega)]
        rw [List.getElem?_map, List.getElem?_take_of_lt hi] at hu
        rw [List.getD_eq_getElem?_getD]
        cases hz : zs[i]? with
        | none => rw [hz] at hu; simp at hu
        | some z => rw [hz] at hu; simpa using hu
    · simp [lits]; omega
end
end

section
open Go Go.RowKit Go.ChangeShapes Go.WideShapes Go.ChangeAt Go.Deep

theorem cells?_at {w : World} {base : Nat} {p : Addr} {k : Nat} {cs : List Value} (h : w.cells? base p k = some cs) : cs.length = k ∧ CellsAt w p cs := by
  unfold World.cells? at h
  split at h
  · refine ⟨by simpa using mapM_some_length h, fun j u hu => ?_⟩
    have hj : j < k := by
      have h1 := (List.getElem?_eq_some_iff.1 hu).1
      have h2 := mapM_some_length h
      simp at h2; omega
    have := mapM_some_get h j j (by simp [hj])
    rw [hu] at this
    exact this
  · cases h

section
variable {H : Type} {enc : TypeId × Value → H} {P : Program} {w : World}
theorem octets_of_trod {base : Nat} {sp : Nat → Bool} {held : Bool} {t e : TypeId} {n f : Nat} {cs : List Value} {x : DataW H × List MemPlace} (ht : P.underlying t = some (.array n e)) (he : P.underlying e = some (.int .u8)) (hce : P.cellsOf e = 1) (hct : P.cellsOf t = n)
    (hf : DataW.trod enc P w base sp held f t cs = some x) : ∃ l : List UInt8, l.length = n ∧ cs = l.map u8v := by
  obtain ⟨xs, m, _, _, hlen, hxl, hel⟩ := DataW.trod_array ht hf
  have hcl : cs.length = n := by rw [hlen, hct]
  obtain ⟨l, hl⟩ := u8s_of cs fun i u hu => by
    have hi : i < n := by
      have := (List.getElem?_eq_some_iff.1 hu).1
      omega
    have h1 := hel i hi
    rw [hce, Nat.mul_one] at h1
    have hx : xs[i]? = some xs[i] := by simp
    have h2 : (cs.drop i).take 1 = [u] := by
      have h3 := List.getElem?_drop (xs := cs) (i := i) (j := 0)
      rw [Nat.add_zero, hu] at h3
      cases hd : cs.drop i with
      | nil => rw [hd] at h3; simp at h3
      | cons y r => rw [hd] at h3; simp at h3; simp [h3]
    have h4 : DataW.trod enc P w base sp held m e [u] = some xs[i] := by
      rw [← h2, ← hx]; exact h1
    obtain ⟨k, hk, _, hw⟩ := DataW.trod_int he h4
    have hu' : u = .int .u8 k := by simpa using hk
    rw [hu']; exact u8_of hw
  refine ⟨l, ?_, hl⟩
  have := congrArg List.length hl
  rw [hcl, List.length_map] at this; exact this.symm

/-- a slice of rows, its cell read -/
theorem sums_of_trod {base f : Nat} {held : Bool} {t e q : TypeId} {cs : List Value} {x : DataW H × List MemPlace} (ht : P.underlying t = some (.slice e)) (he : P.underlying e = some (.array 32 q)) (hq : P.underlying q = some (.int .u8)) (cq : P.cellsOf q = 1) (ce : P.cellsOf e = 32)
    (hf : DataW.trod enc P w base (fun _ => true) held f t cs = some x) :
    ∃ (a : Option Addr) (n c : Nat) (ls : List (List UInt8)) (es sp : List (DataW H)), cs = [.slice a n c] ∧ ls.length = n ∧ All32 ls ∧ n ≤ c ∧ c ≤ maxLen ∧ (a = none → c = 0) ∧ Cells w a (rows ls) ∧ ((x.1 = .nil ∧ c = 0) ∨ (x.1 = .slice es sp ∧ es.length + sp.length = c)) := by
  rcases DataW.trod_slice ht hf with ⟨h0, h1⟩ | ⟨a, len, cap, elems, rest, n, _, rfl, rfl, hb, hl, hm, hlen, hel, hsp, hns⟩
  · exact ⟨none, 0, 0, [], [], [], h0, rfl, All32.nil, Nat.le_refl _, Nat.zero_le _, fun _ => rfl, .inl rfl, .inl ⟨by rw [h1], rfl⟩⟩
  · have each : ∀ i, i < len → ∃ l : List UInt8, l.length = 32 ∧ CellsAt w (a.add (i * 32)) (l.map u8v) := by
      intro i hi
      have h1 := hel i hi
      have hx : elems[i]? = some (elems[i]'(by omega)) := by simp
      rw [ce, hx, Option.bind_eq_some_iff] at h1
      obtain ⟨cs', hcs, hy⟩ := h1
      obtain ⟨l, hl1, rfl⟩ := octets_of_trod he hq cq ce hy
      exact ⟨l, hl1, (cells?_at hcs).2⟩
    obtain ⟨g, hg⟩ := choose_lt each
    have h32 : All32 ((List.range len).map g) := fun l hl => by
      obtain ⟨i, hi, rfl⟩ := List.mem_map.1 hl
      exact (hg i (List.mem_range.1 hi)).1
    obtain ⟨hrl, _⟩ := hsp rfl
    refine ⟨some a, len, cap, (List.range len).map g, _, _, rfl, by simp, h32, hl, hm, (fun h => by cases h), ?_, .inr ⟨rfl, by simp; omega⟩⟩
    by_cases h0 : len = 0
    · left; subst h0; rfl
    · obtain ⟨hl0, hc0⟩ := hg 0 (by omega)
      obtain ⟨b, off, spot⟩ := a
      have hspot : spot = none := by
        have := hc0 0 (u8v ((g 0)[0]'(by omega))) (by simp [hl0])
        simpa [Addr.add] using World.cell?_spot this
      subst hspot
      refine .inr ⟨b, off, rfl, fun i u hu => ?_⟩
      have hi : i < 32 * len := by
        have := (List.getElem?_eq_some_iff.1 hu).1
        rw [rows_length h32] at this; simpa using this
      obtain ⟨_, hcr⟩ := hg (i / 32) (by omega)
      have hrow : ((List.range len).map g)[i / 32]? = some (g (i / 32)) := by
        rw [List.getElem?_map, List.getElem?_range (by omega)]; rfl
      have h2 := rows_at h32 hrow
      have h3 : ((g (i / 32)).map u8v)[i % 32]? = some u := by
        rw [← h2, List.getElem?_take_of_lt (Nat.mod_lt _ (by omega)), List.getElem?_drop, Nat.div_add_mod]; exact hu
      have h4 := hcr _ _ h3
      rw [addr_add, addr_add] at h4
      rw [show off + i / 32 * 32 + i % 32 = off + i by omega] at h4
      exact h4

/-- a struct of two ints and a slice of rows -/
theorem open_proof {r : Reach} {b0 base : Nat} {held : Bool} {t e q : TypeId} {f0 f1 f2 : Field} {v : Value} {d : DataW H} {ps : List MemPlace} (ht : P.underlying t = some (.struct #[f0, f1, f2])) (h0 : P.underlying f0.type = some (.int .i64)) (h1 : P.underlying f1.type = some (.int .i64))
    (h2 : P.underlying f2.type = some (.slice e)) (he : P.underlying e = some (.array 32 q)) (hq : P.underlying q = some (.int .u8)) (cq : P.cellsOf q = 1) (ce : P.cellsOf e = 32) (c0 : P.cellsOf f0.type = 1) (c1 : P.cellsOf f1.type = 1) (c2 : P.cellsOf f2.type = 1) (ct : P.cellsOf t = 3)
    (o0 : f0.offset = 0) (o1 : f1.offset = 1) (o2 : f2.offset = 2)
    (hval : Value.okWide P w r b0 t v) (hd : DataW.Trod enc P w base (fun _ => true) held t v d ps) :
    ∃ (I Z : Int) (a : Option Addr) (n c : Nat) (ls : List (List UInt8)), v = .agg #[.int .i64 I, .int .i64 Z, .slice a n c] ∧ ls.length = n ∧ All32 ls ∧ n ≤ c ∧ c ≤ maxLen ∧ (a = none → c = 0) ∧ Cells w a (rows ls) ∧
      ∃ (D : DataW H) (es sp : List (DataW H)), d = .agg [.lit (.int .i64 I), .lit (.int .i64 Z), D] ∧ ((D = .nil ∧ c = 0) ∨ (D = .slice es sp ∧ es.length + sp.length = c)) ∧ (Lit.int .i64 I).wf = true ∧ (Lit.int .i64 Z).wf = true := by
  obtain ⟨cs, rfl, hs⟩ := okWide_struct ht hval
  obtain ⟨fuel, hf⟩ := hd
  obtain ⟨y0, y1, y2, m, hx, hl, g0, g1, g2⟩ := trod_struct3 ht hf
  rw [c0, o0] at g0
  rw [c1, o1] at g1
  rw [c2, o2] at g2
  obtain ⟨I, hI, hI2, wI⟩ := DataW.trod_int h0 g0
  obtain ⟨Z, hZ, hZ2, wZ⟩ := DataW.trod_int h1 g1
  obtain ⟨a, n, c, ls, es, sp, hsl, hln, h32, hnc, hcm, hnil, hcl, hdd⟩ := sums_of_trod h2 he hq cq ce g2
  have hcs : cs = #[.int .i64 I, .int .i64 Z, .slice a n c] := by
    have hsz : cs.size = 3 := by rw [hs, ct]
    obtain ⟨l⟩ := cs
    match l, hsz with
    | [p0, p1, p2], _ =>
      simp [Value.cells] at hI hZ hsl
      rw [hI, hZ, hsl]
  refine ⟨I, Z, a, n, c, ls, by rw [hcs], hln, h32, hnc, hcm, hnil, hcl, y2.1, es, sp, ?_, hdd, wI, wZ⟩
  simp only [Prod.mk.injEq] at hx
  rw [hx.1, hI2, hZ2]
end
end

section
open Go Go.RowKit Go.ChangeShapes Go.WideShapes Go.ChangeAt Go.Deep

theorem mem_weightsU {H : Type} {P : Program} {e : TypeId} : ∀ {ds : List (DataW H)} {d : DataW H}, d ∈ ds → ∀ n ∈ d.weights P e, n ∈ DataW.weightsAll P e ds
  | d0 :: ds, d, hd, n, hn => by
    rw [DataW.weightsAll, List.mem_append]
    rcases List.mem_cons.1 hd with rfl | hd
    · exact .inl hn
    · exact .inr (mem_weightsU hd n hn)
  | [], _, hd, _, _ => by simp at hd
theorem reach_is : reachBytes = 140737488351232 := by decide

section
variable {H : Type} {enc : TypeId × Value → H} {P : Program} {w : World}
theorem strs_of_trod {base f : Nat} {held : Bool} {t e : TypeId} {cs : List Value} {x : DataW H × List MemPlace} (ht : P.underlying t = some (.slice e)) (he : P.underlying e = some .string) (hc : P.cellsOf e = 1) (hb : P.bytesOf e = 16)
    (hf : DataW.trod enc P w base (fun _ => true) held f t cs = some x) (hw : ∀ n ∈ x.1.weights P t, n ≤ reachBytes) :
    ∃ (a : Option Addr) (n c : Nat) (ls : List ByteArray), cs = [.slice a n c] ∧ ls.length = n ∧ n ≤ c ∧ c ≤ 140737488355328 ∧ Cells w a (ls.map encStr) ∧ ∀ s ∈ ls, s.size ≤ 140737488355328 := by
  rcases open_strs ht he hc hf with ⟨rfl, rfl⟩ | ⟨a, len, m0, m, Sx, rfl, hba, hl, hm, rfl, rfl, hcell⟩
  · exact ⟨none, 0, 0, [], rfl, rfl, Nat.le_refl _, Nat.zero_le _, .inl rfl, by simp⟩
  · simp only [if_true] at hcell hw
    have hm : m ≤ 140737488355328 := by
      have := hw ((len + (m - len)) * P.bytesOf e) (by simp [DataW.weights, ht])
      rw [hb, reach_is] at this
      omega
    refine ⟨some a, len, m, (List.range len).map Sx, rfl, by simp, hl, hm, ?_, ?_⟩
    · by_cases h0 : len = 0
      · left; subst h0; rfl
      · obtain ⟨b, off, spot⟩ := a
        have hspot : spot = none := by
          have := World.cell?_spot (hcell 0 (by omega)).1
          simpa [Addr.add] using this
        subst hspot
        refine .inr ⟨b, off, rfl, fun i u hu => ?_⟩
        have hi : i < len := by
          have := (List.getElem?_eq_some_iff.1 hu).1
          simpa using this
        rw [List.getElem?_map, List.getElem?_map, List.getElem?_range hi] at hu
        have h1 := (hcell i (by omega)).1
        rw [addr_add] at h1
        rw [h1]
        exact hu
    · intro s hs
      obtain ⟨i, hi, rfl⟩ := List.mem_map.1 hs
      have hmem : (DataW.lit (.string (Sx i).data.toList) : DataW H) ∈ (List.range len).map fun i => DataW.lit (.string (Sx i).data.toList) := List.mem_map.2 ⟨i, hi, rfl⟩
      have h3 : (Sx i).data.toList.length ∈ (DataW.lit (.string (Sx i).data.toList) : DataW H).weights P e := by simp [DataW.weights]
      have h4 := hw _ (by
        simp only [DataW.weights, ht, List.mem_cons, List.mem_append]
        exact .inr (.inl (mem_weightsU hmem _ h3)))
      rw [Array.length_toList, reach_is] at h4
      have : (Sx i).size = (Sx i).data.size := rfl
      omega
end

theorem weights_part {H : Type} {P : Program} {t : TypeId} {fs : Array Field} {xs : List (DataW H × List MemPlace)} (ht : P.underlying t = some (.struct fs)) {B : Nat} (hw : ∀ n ∈ (DataW.agg (xs.map (·.1))).weights P t, n ≤ B) {i : Nat} {f : Field} {x : DataW H × List MemPlace} (hf : fs.toList[i]? = some f) (hx : xs[i]? = some x) : ∀ n ∈ x.1.weights P f.type, n ≤ B := by
  intro n hn
  refine hw n ?_
  simp only [DataW.weights, ht]
  exact DataW.weights_mem_each (ts := fs.toList.map (·.type)) (j := i) (by rw [List.getElem?_map, hf]; rfl) (by rw [List.getElem?_map, hx]; rfl) n hn
end

section
open Go Go.RowKit Go.ChangeShapes Go.WideShapes Go.ChangeAt Go.Deep

section
variable {H : Type} {enc : TypeId × Value → H} {P : Program} {w : World}
theorem ints_of_trod {base f : Nat} {held : Bool} {t e : TypeId} {cs : List Value} {x : DataW H × List MemPlace} (ht : P.underlying t = some (.slice e)) (he : P.underlying e = some (.int .i64)) (hc : P.cellsOf e = 1) (hb : P.bytesOf e = 8)
    (hf : DataW.trod enc P w base (fun _ => true) held f t cs = some x) (hw : ∀ n ∈ x.1.weights P t, n ≤ reachBytes) :
    ∃ (a : Option Addr) (n c : Nat) (ls : List Int), cs = [.slice a n c] ∧ ls.length = n ∧ n ≤ c ∧ c ≤ 140737488355328 ∧ Cells w a (ls.map encI) ∧ ∀ z ∈ ls, (Lit.int .i64 z).wf = true := by
  rcases open_ints ht he hc hf with ⟨rfl, rfl⟩ | ⟨a, len, cap, zs, rfl, hba, hl, hm, hzl, rfl, hcell, hwf⟩
  · exact ⟨none, 0, 0, [], rfl, rfl, Nat.le_refl _, Nat.zero_le _, .inl rfl, by simp⟩
  · simp only [if_true] at hzl
    have hcap : cap ≤ 140737488355328 := by
      have := hw ((lits (H := H) .i64 (zs.take len)).length * P.bytesOf e + (lits (H := H) .i64 (zs.drop len)).length * P.bytesOf e) (by simp [DataW.weights, ht, Nat.add_mul])
      rw [hb, reach_is] at this
      simp [lits] at this
      omega
    refine ⟨some a, len, cap, zs.take len, rfl, by simp; omega, hl, hcap, ?_, fun z hz => hwf z (List.mem_of_mem_take hz)⟩
    by_cases h0 : len = 0
    · left; subst h0; simp
    · obtain ⟨b, off, spot⟩ := a
      have hspot : spot = none := by
        have := World.cell?_spot (hcell 0 (by omega))
        simpa [Addr.add] using this
      subst hspot
      refine .inr ⟨b, off, rfl, fun i u hu => ?_⟩
      have hi : i < len := by
        have := (List.getElem?_eq_some_iff.1 hu).1
        simp at this; omega
      have h1 := hcell i (by omega)
      rw [addr_add] at h1
      rw [h1]
      rw [List.getElem?_map, List.getElem?_take_of_lt hi] at hu
      rw [List.getD_eq_getElem?_getD]
      cases hz : zs[i]? with
      | none => rw [hz] at hu; simp at hu
      | some z => rw [hz] at hu; simpa [encI] using hu
end

section
variable {H : Type} {enc : TypeId × Value → H} {w : World}
set_option maxRecDepth 100000 in
theorem rule_of_trod {base f : Nat} {held : Bool} {cs : List Value} {x : DataW H × List MemPlace} (hf : DataW.trod enc Tryz.prog w base (fun _ => true) held f 50 cs = some x) (hw : ∀ n ∈ x.1.weights Tryz.prog 50, n ≤ reachBytes) :
    ∃ r : RuleR, cs = r.v ∧ r.Ok w := by
  have ht := Tryz.underlying50
  obtain ⟨xs, m, _, rfl, hl, hlen, hfs⟩ := DataW.trod_struct ht hf
  have ct : Tryz.prog.cellsOf 50 = 8 := by kernel_rfl
  have c4 : Tryz.prog.cellsOf 4 = 1 := by kernel_rfl
  have c39 : Tryz.prog.cellsOf 36 = 1 := by kernel_rfl
  have c48 : Tryz.prog.cellsOf 48 = 1 := by kernel_rfl
  have c3 : Tryz.prog.cellsOf 3 = 1 := by kernel_rfl
  have c9 : Tryz.prog.cellsOf 9 = 1 := by kernel_rfl
  rw [ct] at hl
  match xs, hlen, cs, hl with
  | [y0, y1, y2, y3, y4, y5, y6, y7], _, [v0, v1, v2, v3, v4, v5, v6, v7], _ =>
  have g0 : DataW.trod enc Tryz.prog w base (fun _ => true) held m 4 [v0] = some y0 := by have := hfs 0 _ rfl; simpa [c4] using this
  have g1 : DataW.trod enc Tryz.prog w base (fun _ => true) held m 36 [v1] = some y1 := by have := hfs 1 _ rfl; simpa [c39] using this
  have g2 : DataW.trod enc Tryz.prog w base (fun _ => true) held m 48 [v2] = some y2 := by have := hfs 2 _ rfl; simpa [c48] using this
  have g3 : DataW.trod enc Tryz.prog w base (fun _ => true) held m 36 [v3] = some y3 := by have := hfs 3 _ rfl; simpa [c39] using this
  have g4 : DataW.trod enc Tryz.prog w base (fun _ => true) held m 3 [v4] = some y4 := by have := hfs 4 _ rfl; simpa [c3] using this
  have g5 : DataW.trod enc Tryz.prog w base (fun _ => true) held m 3 [v5] = some y5 := by have := hfs 5 _ rfl; simpa [c3] using this
  have g6 : DataW.trod enc Tryz.prog w base (fun _ => true) held m 3 [v6] = some y6 := by have := hfs 6 _ rfl; simpa [c3] using this
  have g7 : DataW.trod enc Tryz.prog w base (fun _ => true) held m 9 [v7] = some y7 := by have := hfs 7 _ rfl; simpa [c9] using this
  have w1 := weights_part ht hw (i := 1) rfl rfl
  have w2 := weights_part ht hw (i := 2) rfl rfl
  have w3 := weights_part ht hw (i := 3) rfl rfl
  have w7 := weights_part ht hw (i := 7) rfl rfl
  obtain ⟨b, h0, _⟩ := DataW.trod_bool Tryz.underlying4 g0
  obtain ⟨a1, n1, c1, l1, h1, p1, p2, p3, p4, p5⟩ := strs_of_trod Tryz.underlying36 Tryz.underlying9 c9 (by kernel_rfl) g1 w1
  obtain ⟨a2, n2, c2, l2, h2, q1, q2, q3, q4, q5⟩ := ints_of_trod Tryz.underlying48 Tryz.underlying3 c3 (by kernel_rfl) g2 w2
  obtain ⟨a3, n3, c3', l3, h3, r1, r2, r3, r4, r5⟩ := strs_of_trod Tryz.underlying36 Tryz.underlying9 c9 (by kernel_rfl) g3 w3
  obtain ⟨z4, h4, _, _⟩ := DataW.trod_int Tryz.underlying3 g4
  obtain ⟨z5, h5, _, _⟩ := DataW.trod_int Tryz.underlying3 g5
  obtain ⟨z6, h6, _, _⟩ := DataW.trod_int Tryz.underlying3 g6
  obtain ⟨s7, h7, hx7, _⟩ := DataW.trod_string Tryz.underlying9 g7
  have hs7 : s7.size ≤ 140737488355328 := by
    have := w7 s7.data.toList.length (by rw [hx7]; simp [DataW.weights])
    rw [Array.length_toList, reach_is] at this
    have e : s7.size = s7.data.size := rfl
    omega
  refine ⟨⟨b, a1, n1, c1, l1, a2, n2, c2, l2, a3, n3, c3', l3, z4, z5, z6, s7⟩, ?_, ⟨p1, p2, Nat.le_trans p2 p3, p4, p5, q1, q2, Nat.le_trans q2 q3, q4, q5, r1, r2, Nat.le_trans r2 r3, r4, r5, hs7⟩⟩
  unfold RuleR.v
  simp only [List.cons.injEq, and_true] at h0 h1 h2 h3 h4 h5 h6 h7
  rw [h0, h1, h2, h3, h4, h5, h6, h7]
end
end

section
open Go Go.RowKit Go.ChangeShapes Go.WideShapes Go.ChangeAt Go.Deep

section
variable {H : Type} {enc : TypeId × Value → H} {w : World}
set_option maxRecDepth 100000 in
theorem ask_of_trod {base f : Nat} {held : Bool} {cs : List Value} {x : DataW H × List MemPlace} (hf : DataW.trod enc Tryz.prog w base (fun _ => true) held f 40 cs = some x) (hw : ∀ n ∈ x.1.weights Tryz.prog 40, n ≤ reachBytes) :
    ∃ a : AskR, cs = a.v ∧ a.Ok w := by
  have ht := Tryz.underlying40
  obtain ⟨xs, m, _, rfl, hl, hlen, hfs⟩ := DataW.trod_struct ht hf
  have ct : Tryz.prog.cellsOf 40 = 68 := by kernel_rfl
  have c29 : Tryz.prog.cellsOf 35 = 16 := by kernel_rfl
  have c40 : Tryz.prog.cellsOf 38 = 32 := by kernel_rfl
  have c39 : Tryz.prog.cellsOf 36 = 1 := by kernel_rfl
  have c3 : Tryz.prog.cellsOf 3 = 1 := by kernel_rfl
  have c5 : Tryz.prog.cellsOf 5 = 1 := by kernel_rfl
  have c9 : Tryz.prog.cellsOf 9 = 1 := by kernel_rfl
  rw [ct] at hl
  match xs, hlen with
  | [y0, y1, y2, y3, y4, y5, y6], _ =>
  have g0 : DataW.trod enc Tryz.prog w base (fun _ => true) held m 35 ((cs.drop 0).take 16) = some y0 := by rw [← c29]; exact hfs 0 _ rfl
  have g1 : DataW.trod enc Tryz.prog w base (fun _ => true) held m 36 ((cs.drop 16).take 1) = some y1 := by rw [← c39]; exact hfs 1 _ rfl
  have g2 : DataW.trod enc Tryz.prog w base (fun _ => true) held m 3 ((cs.drop 17).take 1) = some y2 := by rw [← c3]; exact hfs 2 _ rfl
  have g3 : DataW.trod enc Tryz.prog w base (fun _ => true) held m 9 ((cs.drop 18).take 1) = some y3 := by rw [← c9]; exact hfs 3 _ rfl
  have g4 : DataW.trod enc Tryz.prog w base (fun _ => true) held m 35 ((cs.drop 19).take 16) = some y4 := by rw [← c29]; exact hfs 4 _ rfl
  have g5 : DataW.trod enc Tryz.prog w base (fun _ => true) held m 3 ((cs.drop 35).take 1) = some y5 := by rw [← c3]; exact hfs 5 _ rfl
  have g6 : DataW.trod enc Tryz.prog w base (fun _ => true) held m 38 ((cs.drop 36).take 32) = some y6 := by rw [← c40]; exact hfs 6 _ rfl
  have w1 := weights_part ht hw (i := 1) rfl rfl
  have w3 := weights_part ht hw (i := 3) rfl rfl
  obtain ⟨l0, hl0, h0⟩ := octets_of_trod Tryz.underlying35 Tryz.underlying5 c5 c29 g0
  obtain ⟨a1, n1, c1, l1, h1, p1, p2, p3, p4, p5⟩ := strs_of_trod Tryz.underlying36 Tryz.underlying9 c9 (by kernel_rfl) g1 w1
  obtain ⟨z2, h2, _, _⟩ := DataW.trod_int Tryz.underlying3 g2
  obtain ⟨s3, h3, hx3, _⟩ := DataW.trod_string Tryz.underlying9 g3
  obtain ⟨l4, hl4, h4⟩ := octets_of_trod Tryz.underlying35 Tryz.underlying5 c5 c29 g4
  obtain ⟨z5, h5, _, _⟩ := DataW.trod_int Tryz.underlying3 g5
  obtain ⟨l6, hl6, h6⟩ := octets_of_trod Tryz.underlying38 Tryz.underlying5 c5 c40 g6
  have hs3 : s3.size ≤ 140737488355328 := by
    have := w3 s3.data.toList.length (by rw [hx3]; simp [DataW.weights])
    rw [Array.length_toList, reach_is] at this
    have e : s3.size = s3.data.size := rfl
    omega
  refine ⟨⟨l0, a1, n1, c1, l1, z2, s3, l4, z5, l6⟩, ?_, ⟨hl0, hl4, hl6, p1, p2, Nat.le_trans p2 p3, p4, p5, hs3⟩⟩
  unfold AskR.v
  have e : ∀ p q : Nat, cs.take p ++ (cs.drop p).take q = cs.take (p + q) := fun p q => List.take_add.symm
  have s1 : cs = cs.take 16 ++ (cs.drop 16).take 1 ++ (cs.drop 17).take 1 ++ (cs.drop 18).take 1 ++ (cs.drop 19).take 16 ++ (cs.drop 35).take 1 ++ (cs.drop 36).take 32 := by
    rw [e 16 1, e 17 1, e 18 1, e 19 16, e 35 1, e 36 32, List.take_of_length_le (by omega)]
  rw [List.drop_zero] at h0
  rw [s1, h0, h1, h2, h3, h4, h5, h6]
  simp

set_option maxRecDepth 100000 in
theorem open_rule {r : Reach} {b0 base : Nat} {held : Bool} {v : Value} {d : DataW H} {ps : List MemPlace} {ts : List TypeId} {ds : List (DataW H)} {j : Nat} (hsz : (DataW.weightsEach Tryz.prog ts ds).all (· ≤ reachBytes) = true)
    (hval : Value.okWide Tryz.prog w r b0 50 v) (hd : DataW.Trod enc Tryz.prog w base (fun _ => true) held 50 v d ps) (htj : ts[j]? = some 50) (hdj : ds[j]? = some d) : ∃ q : RuleR, v = .agg q.v.toArray ∧ q.Ok w := by
  have hw := fun n hn => of_decide_eq_true (List.all_eq_true.1 hsz n (DataW.weights_mem_each htj hdj n hn))
  obtain ⟨cs, rfl, hs⟩ := okWide_struct Tryz.underlying50 hval
  obtain ⟨fuel, hf⟩ := hd
  obtain ⟨q, hq, hok⟩ := rule_of_trod hf hw
  exact ⟨q, by rw [← hq]; rfl, hok⟩
set_option maxRecDepth 100000 in
theorem open_ask {r : Reach} {b0 base : Nat} {held : Bool} {v : Value} {d : DataW H} {ps : List MemPlace} {ts : List TypeId} {ds : List (DataW H)} {j : Nat} (hsz : (DataW.weightsEach Tryz.prog ts ds).all (· ≤ reachBytes) = true)
    (hval : Value.okWide Tryz.prog w r b0 40 v) (hd : DataW.Trod enc Tryz.prog w base (fun _ => true) held 40 v d ps) (htj : ts[j]? = some 40) (hdj : ds[j]? = some d) : ∃ q : AskR, v = .agg q.v.toArray ∧ q.Ok w := by
  have hw := fun n hn => of_decide_eq_true (List.all_eq_true.1 hsz n (DataW.weights_mem_each htj hdj n hn))
  obtain ⟨cs, rfl, hs⟩ := okWide_struct Tryz.underlying40 hval
  obtain ⟨fuel, hf⟩ := hd
  obtain ⟨q, hq, hok⟩ := ask_of_trod hf hw
  exact ⟨q, by rw [← hq]; rfl, hok⟩
end
end

section
open Go Go.RowKit Go.Maps Go.MapKept Go.WideShapes

structure ApprR where
  member : List UInt8
  sa : Option Addr
  sn : Nat
  sc : Nat
  roles : List ByteArray
def ApprR.v (x : ApprR) : List Value := x.member.map u8v ++ [.slice x.sa x.sn x.sc]
structure ApprR.Ok (w : World) (x : ApprR) : Prop where
  hm : x.member.length = 16
  sl : x.roles.length = x.sn
  snc : x.sn ≤ x.sc
  sm : x.sc ≤ 140737488355328
  scell : Cells w x.sa (x.roles.map encStr)
  ss : ∀ s ∈ x.roles, s.size ≤ 140737488355328
theorem ApprR.Ok.ext {w w' : World} {x : ApprR} (h : x.Ok w) (e : Ext w w') : x.Ok w' := ⟨h.hm, h.sl, h.snc, h.sm, h.scell.ext e, h.ss⟩
theorem ApprR.len {w : World} {x : ApprR} (h : x.Ok w) : x.v.length = 17 := by unfold ApprR.v; simp [h.hm]
theorem ApprR.at16 {w : World} {x : ApprR} (h : x.Ok w) : x.v[16]? = some (.slice x.sa x.sn x.sc) := by
  unfold ApprR.v; rw [List.getElem?_append_right (by simp [h.hm])]; simp [h.hm]
theorem ApprR.part0 {w : World} {x : ApprR} (h : x.Ok w) : (x.v.drop 0).take 16 = x.member.map u8v := by
  unfold ApprR.v; rw [List.drop_zero, List.take_left' (by simp [h.hm])]
theorem ApprR.one (x : ApprR) : ∀ v ∈ x.v, v.oneCell' = true := by
  intro v hv
  unfold ApprR.v at hv
  rcases List.mem_append.1 hv with h | h
  · exact one_u8 x.member v h
  · simp at h; rw [h]; rfl
def apprsV (ls : List ApprR) : List Value := ls.flatMap ApprR.v
structure ApprsOk (w : World) (a : Option Addr) (n c : Nat) (ls : List ApprR) : Prop where
  hl : ls.length = n
  hnc : n ≤ c
  hm : c ≤ 140737488355328
  cell : Cells w a (apprsV ls)
  ok : ∀ x ∈ ls, x.Ok w
theorem ApprsOk.ext {w w' : World} {a : Option Addr} {n c : Nat} {ls : List ApprR} (h : ApprsOk w a n c ls) (e : Ext w w') : ApprsOk w' a n c ls := ⟨h.hl, h.hnc, h.hm, h.cell.ext e, fun x hx => (h.ok x hx).ext e⟩
theorem apprsV_length {w : World} {ls : List ApprR} (h : ∀ x ∈ ls, x.Ok w) : (apprsV ls).length = 17 * ls.length := by
  induction ls with
  | nil => rfl
  | cons x ls ih =>
    unfold apprsV at ih ⊢
    rw [List.flatMap_cons, List.length_append, ih (fun y hy => h y (List.mem_cons_of_mem _ hy)), ApprR.len (h x (by simp)), List.length_cons]; omega
theorem apprsV_at {w : World} {ls : List ApprR} (hok : ∀ x ∈ ls, x.Ok w) {k : Nat} {x : ApprR} (h : ls[k]? = some x) : ((apprsV ls).drop (k * 17)).take 17 = x.v := by
  induction ls generalizing k with
  | nil => simp at h
  | cons y ls ih =>
    unfold apprsV at ih ⊢
    rw [List.flatMap_cons]
    have hy := ApprR.len (hok y (by simp))
    cases k with
    | zero =>
      simp only [List.getElem?_cons_zero, Option.some.injEq] at h
      subst h
      rw [Nat.zero_mul, List.drop_zero, List.take_append_of_le_length (by rw [hy]; exact Nat.le_refl _), List.take_of_length_le (by rw [hy]; exact Nat.le_refl _)]
    | succ k =>
      rw [List.getElem?_cons_succ] at h
      rw [List.drop_append, hy, List.drop_of_length_le (by rw [hy]; omega), List.nil_append, show (k + 1) * 17 - 17 = k * 17 by omega]
      exact ih (fun z hz => hok z (List.mem_cons_of_mem _ hz)) h
theorem ApprsOk.at {w : World} {a : Option Addr} {n c : Nat} {ls : List ApprR} (h : ApprsOk w a n c ls) {k : Nat} {x : ApprR} (hk : ls[k]? = some x) : ∃ A, a = some A ∧ CellsAt w (A.add (k * 17)) x.v := by
  have hk2 := (List.getElem?_eq_some_iff.1 hk).1
  obtain ⟨b, o, rfl, hc⟩ := h.cell.some_of (by rw [apprsV_length h.ok]; omega)
  refine ⟨_, rfl, fun j u hu => ?_⟩
  rw [addr_add, addr_add, Nat.add_assoc]
  refine hc _ _ ?_
  rw [← apprsV_at h.ok hk] at hu
  have hj : j < 17 := by
    have := (List.getElem?_eq_some_iff.1 hu).1
    rw [List.length_take] at this; omega
  rw [List.getElem?_take_of_lt hj, List.getElem?_drop] at hu
  exact hu

/-- what is found in a list of roles, from the place k on -/
def scanF : Option ByteArray → List ByteArray → Int
  | _, [] => 0
  | none, s :: r => if badS s then 6 else scanF (some s) r
  | some p, s :: r => if badS s then 6 else if lessS p s then scanF (some s) r else 9
def prevS (ls : List ByteArray) : Nat → Option ByteArray
  | 0 => none
  | k + 1 => ls[k]?
def scanAt (ls : List ByteArray) (k : Nat) : Int := scanF (prevS ls k) (ls.drop k)
theorem drop_atS {ls : List ByteArray} {k : Nat} {s : ByteArray} (h : ls[k]? = some s) : ls.drop k = s :: ls.drop (k + 1) := by
  obtain ⟨hk, rfl⟩ := List.getElem?_eq_some_iff.1 h
  exact List.drop_eq_getElem_cons hk
theorem scanAt_bad {ls : List ByteArray} {k : Nat} {s : ByteArray} (h : ls[k]? = some s) (hb : badS s = true) : scanAt ls k = 6 := by
  unfold scanAt; rw [drop_atS h]
  cases prevS ls k <;> (unfold scanF; rw [if_pos hb])
theorem scanAt_zero {ls : List ByteArray} {s : ByteArray} (h : ls[0]? = some s) (hb : badS s = false) : scanAt ls 0 = scanAt ls 1 := by
  unfold scanAt; rw [drop_atS h]
  show scanF none (s :: ls.drop 1) = scanF (ls[0]?) (ls.drop 1)
  rw [h]; conv => lhs; unfold scanF
  rw [hb]; simp
theorem scanAt_step {ls : List ByteArray} {k : Nat} {p s : ByteArray} (hp : ls[k]? = some p) (h : ls[k + 1]? = some s) (hb : badS s = false) : (lessS p s = true → scanAt ls (k + 1) = scanAt ls (k + 2)) ∧ (lessS p s = false → scanAt ls (k + 1) = 9) := by
  have e : scanAt ls (k + 1) = scanF (some p) (s :: ls.drop (k + 2)) := by
    unfold scanAt; rw [drop_atS h]; show scanF (ls[k]?) _ = _; rw [hp]
  have e2 : scanAt ls (k + 2) = scanF (some s) (ls.drop (k + 2)) := by
    unfold scanAt; show scanF (ls[k + 1]?) _ = _; rw [h]
  constructor
  · intro hl
    rw [e, e2]; conv => lhs; unfold scanF
    rw [hb, hl]; simp
  · intro hl
    rw [e]; unfold scanF
    rw [hb, hl]; simp
theorem scanAt_end {ls : List ByteArray} {k : Nat} (h : ls.length ≤ k) : scanAt ls k = 0 := by
  unfold scanAt; rw [List.drop_of_length_le h]
  cases prevS ls k <;> rfl
def apprsE : List ApprR → Int
  | [] => 0
  | x :: r => if scanAt x.roles 0 = 0 then apprsE r else scanAt x.roles 0
theorem drop_atA {ls : List ApprR} {k : Nat} {x : ApprR} (h : ls[k]? = some x) : ls.drop k = x :: ls.drop (k + 1) := by
  obtain ⟨hk, rfl⟩ := List.getElem?_eq_some_iff.1 h
  exact List.drop_eq_getElem_cons hk
theorem apprsE_ok {ls : List ApprR} {k : Nat} {x : ApprR} (h : ls[k]? = some x) (h0 : scanAt x.roles 0 = 0) : apprsE (ls.drop k) = apprsE (ls.drop (k + 1)) := by
  rw [drop_atA h]; conv => lhs; unfold apprsE
  rw [if_pos h0]
theorem apprsE_bad {ls : List ApprR} {k : Nat} {x : ApprR} (h : ls[k]? = some x) (h0 : scanAt x.roles 0 ≠ 0) : apprsE (ls.drop k) = scanAt x.roles 0 := by
  rw [drop_atA h]; conv => lhs; unfold apprsE
  rw [if_neg h0]

noncomputable def addK (ks : List Value) (key : Value) : List Value := @ite _ (key ∈ ks) (Classical.propDecidable _) ks (ks ++ [key])
theorem addK_of {ks ks' : List Value} {key : Value} (h : (key ∈ ks ∧ ks' = ks) ∨ (key ∉ ks ∧ ks' = ks ++ [key])) : ks' = addK ks key := by
  unfold addK
  rcases h with ⟨h1, h2⟩ | ⟨h1, h2⟩
  · rw [if_pos h1]; exact h2
  · rw [if_neg h1]; exact h2
def idV (x : ApprR) : Value := .agg (x.member.map u8v).toArray
noncomputable def whoStep (ow : ByteArray) (ks : List Value) (x : ApprR) : List Value := if memT x.roles ow then addK ks (idV x) else ks
noncomputable def whoF (ow : ByteArray) (ls : List ApprR) (ks : List Value) : List Value := ls.foldl (whoStep ow) ks
theorem whoF_at {ow : ByteArray} {ls : List ApprR} {k : Nat} {x : ApprR} {ks : List Value} (h : ls[k]? = some x) : whoF ow (ls.drop k) ks = whoF ow (ls.drop (k + 1)) (whoStep ow ks x) := by
  rw [drop_atA h]; rfl
theorem whoF_end {ow : ByteArray} {ls : List ApprR} {k : Nat} {ks : List Value} (h : ls.length ≤ k) : whoF ow (ls.drop k) ks = ks := by
  rw [List.drop_of_length_le h]; rfl

/-- members as keys -/
theorem id_keyed : Keyed Tryz.prog 35 := Keyed.of_law (WideMaps.ArrKey.law (e := 5) (n := 16) ⟨Tryz.underlying35, by kernel_rfl, by kernel_rfl, by kernel_rfl⟩)
theorem mapM_someU {α β : Type} (g : α → Option β) : ∀ (l : List α), (∀ i ∈ l, ∃ y, g i = some y) → ∃ ys, l.mapM g = some ys
  | [], _ => ⟨[], rfl⟩
  | a :: l, h => by
    obtain ⟨y, hy⟩ := h a (by simp)
    obtain ⟨ys, hys⟩ := mapM_someU g l (fun i hi => h i (List.mem_cons_of_mem _ hi))
    exact ⟨y :: ys, by rw [List.mapM_cons, hy, hys]; rfl⟩
theorem key_id {m : List UInt8} (hm : m.length = 16) : ∃ l, keyOf Tryz.prog 35 (.agg (m.map u8v).toArray) = some l := by
  have ht := Tryz.underlying35
  have hk : Tryz.prog.keyType 35 = true := by kernel_rfl
  have hc : Tryz.prog.cellsOf 35 = 16 := by kernel_rfl
  have hc8 : Tryz.prog.cellsOf 5 = 1 := by kernel_rfl
  have hf : (Value.agg (m.map u8v).toArray).formed Tryz.prog 35 = true := by simp [Value.formed, ht, hc, hm]
  obtain ⟨d, hd⟩ : ∃ d, Tryz.prog.types.size = d + 1 := Nat.exists_eq_succ_of_ne_zero (by
    intro h
    have : decide (Tryz.prog.types.size = 0) = false := by kernel_rfl
    rw [h] at this; simp at this)
  unfold keyOf
  rw [ht]
  simp only [hk, hf, Bool.and_self, if_true]
  have hl : (Value.agg (m.map u8v).toArray).cells.toList = m.map u8v := rfl
  rw [hl, hd]
  unfold Program.keyLits
  rw [ht]
  simp only [List.length_map, hm, hc, if_true, hc8, Nat.mul_one]
  obtain ⟨ys, hys⟩ := mapM_someU (fun i => Tryz.prog.keyLits (d + 1) 5 (((m.map u8v).drop i).take 1)) (List.range 16) (fun i hi => by
    have hi16 : i < m.length := by rw [hm]; exact List.mem_range.1 hi
    have he : ((m.map u8v).drop i).take 1 = [u8v m[i]] := by
      rw [← List.map_drop, ← List.map_take, List.drop_eq_getElem_cons hi16]; rfl
    refine ⟨[.int .u8 (m[i].toNat : Int)], ?_⟩
    rw [he]
    unfold Program.keyLits
    rw [Tryz.underlying5]
    have h2 := m[i].toNat_lt
    have hw : (Lit.int .u8 (m[i].toNat : Int)).wf = true := by
      have e1 : IntKind.u8.min = 0 := by decide
      have e2 : IntKind.u8.max = 255 := by decide
      show (decide (IntKind.u8.min ≤ (m[i].toNat : Int)) && decide ((m[i].toNat : Int) ≤ IntKind.u8.max)) = true
      rw [e1, e2, decide_eq_true (by omega), decide_eq_true (by omega)]; rfl
    simp only [u8v, hw, and_self, if_true])
  rw [hys]
  exact ⟨_, rfl⟩
theorem addK_mem {ks : List Value} {key v : Value} (h : v ∈ addK ks key) : v ∈ ks ∨ v = key := by
  unfold addK at h
  split at h
  · exact .inl h
  · rcases List.mem_append.1 h with h | h
    · exact .inl h
    · simp at h; exact .inr h
end
end Go.Proofs.YthfddfgncolnbaaGreat
