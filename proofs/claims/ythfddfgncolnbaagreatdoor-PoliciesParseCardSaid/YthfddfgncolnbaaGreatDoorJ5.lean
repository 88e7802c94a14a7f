/- Contracts and laws that the claim's row leans on (6 texts, joined): policy.readRule; conditions: the memory, the library's variables. What both readers of a policy do line by line: plain laws, and what stands in memory between the lines; no condition. policy.Parse; conditions: the text's size, the library's variables. The reference's small readers: words by FieldsFunc, partWord, small, and the closure that takes a part; conditions: the memory, the library's variables. The reference's closure that takes a part of a line; conditions: the memory. What stands in memory while the reference reads a rule; no condition. -/
import Derived.Test.YthfddfgncolnbaaGreatDoorJ4
import Derived.Great.BuildSlice
import Derived.Lib.AtoiAllCases
namespace Go.Proofs.YthfddfgncolnbaaGreatDoor
section
open Go Go.RowKit

theorem size_allocQ (w : World) (o : Obj) : (w.alloc o).heap.size = w.heap.size + 1 := Array.size_push ..
theorem zero_v (d : Bool) : (x0R d).v = .bool d :: zeroRule.tail := rfl
theorem upN_tail (ws : List ByteArray) : (if secB wdRole ws = true then ws.tail else ws) = (if secB wdRole ws = true then ws.tail else ws) := rfl

set_option maxRecDepth 100000 in
set_option maxHeartbeats 8000000 in
theorem readRule_c (B : Nat) (a0 : Option Addr) (n0 c0 : Nat) (ws : List ByteArray) (w : World) (hw : Wds w B a0 n0 c0 ws) (hl : LibP w) (hB : B ≤ w.heap.size) :
    Calls Tryz.prog 21 #[.slice a0 n0 c0] w fun e w' => ∃ r : RuleR, e = .returned (.tuple #[.agg r.v.toArray, .bool (okR ws)]) ∧ (okR ws = true → r.bare = ruleOf ws ∧ r.Ok w' ∧ r.Hi B) ∧ Ext w w' := by
  have HL := hid hl
  have HW := hid hw
  have HAG := hid agg_rule
  clear hl hw
  go_enter Tryz.func21, Tryz.ntmps21
  go_upto_region 1 with (fail)
  generalize hwA : World.alloc (World.alloc w _) _ = wA
  have bA : Blk wA w.heap.size [.slice a0 n0 c0] 46 := by rw [← hwA]; exact (Blk.mk_alloc rfl rfl).alloc _
  have zA : Blk wA (w.heap.size + 1) zeroRule 51 := by rw [← hwA]; exact Blk.mk_alloc (size_allocQ _ _).symm rfl
  have eA : Ext w wA := by rw [← hwA]; exact ((Ext.refl w).alloc _).alloc _
  have hsA : wA.heap.size = w.heap.size + 2 := by rw [← hwA, size_allocQ, size_allocQ]
  have HSA := hid hsA
  clear hwA hsA
  go_wp2_with (refine wpl_storew rfl _ _ _ rfl rfl rfl (Blk.mk_alloc (vs := zeroRule) rfl rfl) HAG.out rfl (xs := zeroRule) rfl (ruleV_one (x0R false)) ?_)
  intro w1 b1 u1
  rw [HSA.out] at b1 u1 ⊢
  have e1 : Ext wA w1 := u1.ext ((Ext.refl wA).alloc _) (by rw [HSA.out]; exact Nat.le_refl _)
  have I0 : RdI w B w.heap.size (w.heap.size + 1) (w.heap.size + 2) true (x0R false) ws (x0R false) a0 n0 c0 w1 := ⟨eA.ext e1, bA.ext e1, HW.out, zA.ext e1, b1, fun _ => RSt.zero w w1 B _ false⟩
  clear b1 bA zA eA e1 u1 HSA HW
  obtain ⟨G1, hG1⟩ : ∃ G, w.heap.size = G := ⟨_, rfl⟩
  obtain ⟨G2, hG2⟩ : ∃ G, w.heap.size + 1 = G := ⟨_, rfl⟩
  obtain ⟨G4, hG4⟩ : ∃ G, w.heap.size + 2 = G := ⟨_, rfl⟩
  have hg1 : w.heap.size ≤ G1 := by omega
  have hg12 : G1 < G2 := by omega
  have hg24 : G2 < G4 := by omega
  have hBG : B ≤ G4 := by omega
  rw [hG4, hG2, hG1] at I0 ⊢
  clear hG1 hG2 hG4
  have HOK := hid (show okR ws = (headB ws && (!secB wdRole (wd1 ws) || !(rolesL ws).isEmpty) && (!secB wdAct (wd2 ws) || (actsB (actsL ws) && !(actsL ws).isEmpty)) && (!secB wdOn (wd3 ws) || !(labsL ws).isEmpty) && (!secB wdAt (wd4 ws) || atB (atL ws)) && (!secB wdNeed (wd5 ws) || needB (needL ws)) && (wd6 ws).isEmpty) from rfl)
  go_wp2_with fail
  refine (is_c G1 B _ a0 n0 c0 ws wdDeny w1 I0.b1 (I0.wd.ext I0.e)).mono ?_
  rintro e w2 ⟨rfl, a1, n1, c1, hb2, hw2, hu2⟩
  have I1 := I0.words hg1 hg12 hg24 hb2 (hw2 w I0.wd) hu2
  clear hb2 hw2 hu2 I0
  obtain ⟨d, hd⟩ : ∃ d, secB wdDeny ws = d := ⟨_, rfl⟩
  have HD := hid hd
  rw [hd] at I1 ⊢
  clear hd
  have k0 := I1.b4.cell' (i := 0) rfl
  have f0 := I1.b4.frozen 0
  go_upto_region 3 with fail
  obtain ⟨w3, hw3⟩ : ∃ W, World.setCell w2 ⟨G4, 0, none⟩ (.bool d) = W := ⟨_, rfl⟩
  rw [hw3]
  have I2 : RdI w B G1 G2 G4 true (x0R d) (if d = true then ws.tail else ws) (x0R d) a1 n1 c1 w3 := I1.rule (r' := x0R d) hg1 hg12 hg24 (by rw [← hw3]; exact I1.b4.set 0 (.bool d)) (by rw [← hw3]; exact Upd.setCell _) (fun _ => ⟨rfl, fun _ => RSt.zero _ _ _ _ _⟩)
  clear hw3 I1 k0 f0
  have k0 := I2.b4.cell' (i := 0) (v := .bool d) rfl
  go_cut [21] (fun v wx => v = .bool (!(headB ws)) ∧ ∃ ws' a n c, (headB ws = true → ws' = wd1 ws) ∧ RdI w B G1 G2 G4 true (x0R d) ws' (x0R d) a n c wx)
  case first =>
    cases d with
    | true =>
      have hh : headB ws = true := by unfold headB; rw [HD.out]; rfl
      go_wp2_with fail
      go_meet
      exact ⟨by rw [hh]; rfl, _, a1, n1, c1, fun _ => rfl, I2⟩
    | false =>
      go_wp2_with fail
      refine (is_c G1 B _ a1 n1 c1 ws wdAllow w3 I2.b1 (I2.wd.ext I2.e)).mono ?_
      rintro e w4 ⟨rfl, a2, n2, c2, hb2, hw2, hu2⟩
      have hh : headB ws = secB wdAllow ws := by unfold headB; rw [HD.out]; rfl
      have I3 := I2.words hg1 hg12 hg24 hb2 (hw2 w I2.wd) hu2
      clear hb2 hw2 hu2 I2 k0
      generalize secB wdAllow ws = b at *
      cases b with
      | true =>
        go_wp2_with fail
        go_meet
        exact ⟨by rw [hh]; rfl, _, a2, n2, c2, fun _ => rfl, I3⟩
      | false =>
        go_wp2_with fail
        go_meet
        exact ⟨by rw [hh]; rfl, _, a2, n2, c2, (fun h => by rw [hh] at h; cases h), I3⟩
  case rest =>
  obtain ⟨rfl, ws1, a1, n1, c1, hws, I1⟩ := hcut
  clear I2 k0
  obtain ⟨hb, hhb⟩ : ∃ b, headB ws = b := ⟨_, rfl⟩
  have HHB := hid hhb
  rw [hhb] at hws ⊢
  clear hhb
  obtain ⟨u0, hwc⟩ : ∃ u0, wc = u0 := ⟨_, rfl⟩
  rw [hwc] at I1 ⊢
  clear hwc wc
  cases hb with
  | false =>
    have hf : okR ws = false := by rw [HOK.out, HHB.out]; rfl
    have B4 := hid I1.b4
    have B2 := hid I1.b2
    have E1 := hid I1.e
    go_wp2_with (first | (refine wpl_loadw rfl 51 _ rfl rfl B4.out HAG.out rfl ?_) | (refine wpl_storew rfl _ _ _ rfl rfl rfl B2.out HAG.out rfl (xs := (x0R d).v) rfl (ruleV_one _) ?_))
    intro u1 b9 u9
    go_wp2_with fail
    refine ret_row2 rfl rfl b9 HAG.out rfl rfl ⟨x0R d, by rw [hf]; rfl, (fun h => by rw [hf] at h; cases h), u9.ext E1.out (by omega)⟩
  | true =>
  obtain rfl := hws rfl
  clear hws
  obtain ⟨r0, hr0⟩ : ∃ r, x0R d = r := ⟨_, rfl⟩
  have I1 : RdI w B G1 G2 G4 true (x0R d) (wd1 ws) r0 a1 n1 c1 u0 := by rw [← hr0]; exact I1
  clear hr0
  obtain ⟨s1, hs1⟩ : ∃ b, (!secB wdRole (wd1 ws) || !(rolesL ws).isEmpty) = b := ⟨_, rfl⟩
  have HS1 := hid hs1
  clear hs1
  go_wp2_with fail
  refine (is_c G1 B _ a1 n1 c1 (wd1 ws) wdRole u0 I1.b1 (I1.wd.ext I1.e)).mono ?_
  rintro e v0 ⟨rfl, a2, n2, c2, hb2, hw2, hu2⟩
  have I2 := I1.words hg1 hg12 hg24 hb2 (hw2 w I1.wd) hu2
  clear hb2 hw2 hu2 I1
  obtain ⟨b, hb⟩ : ∃ b, secB wdRole (wd1 ws) = b := ⟨_, rfl⟩
  have HB1 := hid hb
  rw [hb] at I2 ⊢
  clear hb
  go_upto_if 23 with fail
  go_cut [5] (fun v wx => v = .bool (true && s1) ∧ ∃ r a n c, RdI w B G1 G2 G4 (true && s1) (x1R d ws) (wd2 ws) r a n c wx)
  case first =>
    cases b with
    | false =>
      have hrest : wd2 ws = wd1 ws := by show secR _ _ = _; unfold secR; rw [HB1.out]; rfl
      have hsk : s1 = true := by rw [← HS1.out, HB1.out]; rfl
      have hx : x1R d ws = x0R d := x1R_no (secL_off HB1.out)
      have IF : RdI w B G1 G2 G4 (true && s1) (x1R d ws) (wd2 ws) r0 a2 n2 c2 v0 := by
        rw [hrest]
        exact I2.weak (fun h => by first | rfl | (rw [Bool.and_eq_true] at h; exact h.1)) (fun _ => hx)
      clear I2 hrest hx
      go_wp2_with fail
      go_meet
      exact ⟨by rw [hsk, Bool.and_true], _, a2, n2, c2, IF⟩
    | true =>
      have hlist : rolesL ws = (wd1 ws).tail.take (upN (wd1 ws).tail) := by show secL _ _ = _; unfold secL; rw [HB1.out]; rfl
      have hrest : wd2 ws = (wd1 ws).tail.drop (upN (wd1 ws).tail) := by show secR _ _ = _; unfold secR; rw [HB1.out]; rfl
      go_wp2_with fail
      refine (list_c G1 B _ a2 n2 c2 (wd1 ws).tail v0 I2.b1 (I2.wd.ext I2.e)).mono ?_
      rintro e v1 ⟨m, rfl, hb3, hmu, hmn, hu3⟩
      have I3z := I2.words hg1 hg12 hg24 hb3 (I2.wd.drop hmn) hu3
      have HWL : Hid (Wds w B a2 m m (rolesL ws)) := hid (by rw [hlist, ← hmu]; exact I2.wd.take hmn (Nat.le_refl _))
      have I3 : RdI w B G1 G2 G4 true (x0R d) (wd2 ws) r0 (shift a2 c2 m) (n2 - m) (c2 - m) v1 := by rw [hrest, ← hmu]; exact I3z
      clear I3z hb3 hmu hmn hu3 I2 hlist hrest
      generalize shift a2 c2 m = a3 at *
      generalize n2 - m = n3 at *
      generalize c2 - m = c3 at *
      have kf := I3.b4.cell' (i := 1) rfl
      have ff := I3.b4.frozen 1
      go_upto_region 8 with fail
      obtain ⟨v2, hv2⟩ : ∃ W, World.setCell v1 ⟨G4, 1, none⟩ (.slice a2 m m) = W := ⟨_, rfl⟩
      rw [hv2]
      have I4 := I3.rule (r' := { r0 with ra := a2, rn := m, rc := m, roles := rolesL ws }) (x' := (x1R d ws)) (ok' := true) (wy := v2) hg1 hg12 hg24 (by rw [← hv2]; exact I3.b4.set 1 _) (by rw [← hv2]; exact Upd.setCell _) (fun h => ⟨h, fun s => s.roles HWL.out⟩)
      clear hv2 kf ff I3
      have kf := I4.b4.cell' (i := 1) (v := .slice a2 m m) rfl
      have hml : m = (rolesL ws).length := HWL.out.hl.symm
      have hde : decide ((0 : Int) < (m : Int)) = !(rolesL ws).isEmpty := by
        rw [hml]
        cases rolesL ws with
        | nil => rfl
        | cons y z => simp
      have hden : decide (0 < m) = !(rolesL ws).isEmpty := by
        rw [hml]
        cases rolesL ws with
        | nil => rfl
        | cons y z => simp
      have hsk : s1 = !(rolesL ws).isEmpty := by rw [← HS1.out, HB1.out]; rfl
      rw [← hsk] at hde hden
      clear hml hsk
      have IF := I4.weak (ok' := (true && s1)) (fun h => by first | rfl | (rw [Bool.and_eq_true] at h; exact h.1)) (fun _ => rfl)
      cases s1
      all_goals (
        go_wp2_with fail
        go_meet
        exact ⟨rfl, _, a3, n3, c3, IF⟩)
  case rest =>
  obtain ⟨rfl, r1, a1, n1, c1, I1⟩ := hcut
  clear I2
  obtain ⟨o1, ho1⟩ : ∃ b, (true && s1) = b := ⟨_, rfl⟩
  have HO1 := hid ho1
  rw [ho1] at I1 ⊢
  clear ho1
  obtain ⟨u1, hwc⟩ : ∃ u, wc = u := ⟨_, rfl⟩
  rw [hwc] at I1 ⊢
  clear hwc wc
  obtain ⟨s2, hs2⟩ : ∃ b, (!secB wdAct (wd2 ws) || (actsB (actsL ws) && !(actsL ws).isEmpty)) = b := ⟨_, rfl⟩
  have HS2 := hid hs2
  clear hs2
  go_wp2_with fail
  refine (is_c G1 B _ a1 n1 c1 (wd2 ws) wdAct u1 I1.b1 (I1.wd.ext I1.e)).mono ?_
  rintro e v0 ⟨rfl, a2, n2, c2, hb2, hw2, hu2⟩
  have I2 := I1.words hg1 hg12 hg24 hb2 (hw2 w I1.wd) hu2
  clear hb2 hw2 hu2 I1
  obtain ⟨b, hb⟩ : ∃ b, secB wdAct (wd2 ws) = b := ⟨_, rfl⟩
  have HB2 := hid hb
  rw [hb] at I2 ⊢
  clear hb
  go_upto_if 30 with fail
  go_cut [5] (fun v wx => v = .bool (o1 && s2) ∧ ∃ r a n c, RdI w B G1 G2 G4 (o1 && s2) (x2R d ws) (wd3 ws) r a n c wx)
  case first =>
    cases b with
    | false =>
      have hrest : wd3 ws = wd2 ws := by show secR _ _ = _; unfold secR; rw [HB2.out]; rfl
      have hsk : s2 = true := by rw [← HS2.out, HB2.out]; rfl
      have hx : x2R d ws = x1R d ws := x2R_no (secL_off HB2.out)
      have IF : RdI w B G1 G2 G4 (o1 && s2) (x2R d ws) (wd3 ws) r1 a2 n2 c2 v0 := by
        rw [hrest]
        exact I2.weak (fun h => by first | rfl | (rw [Bool.and_eq_true] at h; exact h.1)) (fun _ => hx)
      clear I2 hrest hx
      go_wp2_with fail
      go_meet
      exact ⟨by rw [hsk, Bool.and_true], _, a2, n2, c2, IF⟩
    | true =>
      have hlist : actsL ws = (wd2 ws).tail.take (upN (wd2 ws).tail) := by show secL _ _ = _; unfold secL; rw [HB2.out]; rfl
      have hrest : wd3 ws = (wd2 ws).tail.drop (upN (wd2 ws).tail) := by show secR _ _ = _; unfold secR; rw [HB2.out]; rfl
      go_wp2_with fail
      refine (list_c G1 B _ a2 n2 c2 (wd2 ws).tail v0 I2.b1 (I2.wd.ext I2.e)).mono ?_
      rintro e v1 ⟨m, rfl, hb3, hmu, hmn, hu3⟩
      have I3z := I2.words hg1 hg12 hg24 hb3 (I2.wd.drop hmn) hu3
      have HWL : Hid (Wds w B a2 m m (actsL ws)) := hid (by rw [hlist, ← hmu]; exact I2.wd.take hmn (Nat.le_refl _))
      have I3 : RdI w B G1 G2 G4 o1 (x1R d ws) (wd3 ws) r1 (shift a2 c2 m) (n2 - m) (c2 - m) v1 := by rw [hrest, ← hmu]; exact I3z
      clear I3z hb3 hmu hmn hu3 I2 hlist hrest
      generalize shift a2 c2 m = a3 at *
      generalize n2 - m = n3 at *
      generalize c2 - m = c3 at *
      go_wp2_with fail
      refine (acts_c B a2 m m (actsL ws) v1 (HWL.out.ext I3.e) (HL.out.ext I3.e).sp).mono ?_
      rintro e v2 ⟨va, rfl, ho, e4⟩
      obtain ⟨av, cv, rfl, _, _, _⟩ := own_cellsA ho
      have hG4 := I3.b4.lt
      have I4 := I3.ext e4
      have HO2 := hid ho
      clear ho e4 I3
      obtain ⟨f, hf⟩ : ∃ f, actsB (actsL ws) = f := ⟨_, rfl⟩
      have HF := hid hf
      rw [hf]
      clear hf
      obtain ⟨L, hL⟩ : ∃ L, (actsVs (actsL ws)).length = L := ⟨_, rfl⟩
      have HLL := hid hL
      rw [hL] at HO2 ⊢
      clear hL
      have kf := I4.b4.cell' (i := 2) rfl
      have ff := I4.b4.frozen 2
      go_upto_region 12 with fail
      obtain ⟨v3, hv3⟩ : ∃ W, World.setCell v2 ⟨G4, 2, none⟩ (.slice av L cv) = W := ⟨_, rfl⟩
      rw [hv3]
      have hU : Upd v2 G4 v3 := by rw [← hv3]; exact Upd.setCell _
      have hO3 : v3.ownsRow v1.heap.size 3 1 (.slice av L cv) L ((actsVs (actsL ws)).map encI) := own_beside HO2.out (upd_grownA hU) (fun g hg he => by
        have := (HO2.out.lt g hg).1
        injection he with he
        omega)
      rw [← HLL.out] at hO3
      have hlen0 : (actsVs (actsL ws)).length ≤ 1000000 := by
        have h1 := HWL.out.hm
        have h2 := HWL.out.hl
        unfold actsVs
        split
        · rw [List.length_map]; omega
        · simp
      have hsk : s2 = (f && !(actsL ws).isEmpty) := by rw [← HS2.out, HB2.out, HF.out]; rfl
      have I5 := I4.rule (r' := { r1 with aa := av, an := (actsVs (actsL ws)).length, ac := cv, acts := actsVs (actsL ws) }) (x' := (x2R d ws)) (ok' := o1 && f) hg1 hg12 hg24 (by rw [← hv3, ← HLL.out]; exact I4.b4.set 2 _) hU (fun h => by
        have h1 : o1 = true := by revert h; cases o1 <;> simp
        have h2 : f = true := by revert h; cases f <;> simp
        refine ⟨h1, fun s => ?_⟩
        have := s.acts (r := r1) (zs := actsVs (actsL ws)) (a := av) (n := (actsVs (actsL ws)).length) (c := cv) hO3 hG4 hlen0 (act_wf _)
        have hz : actsVs (actsL ws) = (actsL ws).map actI := by unfold actsVs; rw [HF.out, h2]; rfl
        rw [hz, List.length_map] at this
        rw [hz, List.length_map]
        exact this)
      clear hv3 kf ff I4 hU hO3 hlen0 hG4
      have hde : f = true → decide ((0 : Int) < (L : Int)) = !(actsL ws).isEmpty := by
        intro h
        rw [← HLL.out]
        unfold actsVs
        rw [HF.out, h]
        cases actsL ws with
        | nil => rfl
        | cons y z => simp
      have hden : f = true → decide (0 < L) = !(actsL ws).isEmpty := by
        intro h
        rw [← HLL.out]
        unfold actsVs
        rw [HF.out, h]
        cases actsL ws with
        | nil => rfl
        | cons y z => simp
      have IF := I5.weak (ok' := (o1 && s2)) (fun h => by rw [hsk] at h; revert h; cases o1 <;> cases f <;> simp) (fun _ => rfl)
      clear I5
      generalize (!(actsL ws).isEmpty) = em at *
      subst hsk
      cases f with
      | false =>
        clear hde hden
        cases o1
        all_goals (
          go_wp2_with fail
          go_meet
          exact ⟨rfl, _, a3, n3, c3, IF⟩)
      | true =>
        have g1 := hde rfl
        have g2 := hden rfl
        clear hde hden
        cases o1 <;> cases em
        all_goals (
          go_wp2_with fail
          go_meet
          exact ⟨rfl, _, a3, n3, c3, IF⟩)
  case rest =>
  obtain ⟨rfl, r2, a1, n1, c1, I1⟩ := hcut
  clear I2
  obtain ⟨o2, ho2⟩ : ∃ b, (o1 && s2) = b := ⟨_, rfl⟩
  have HO2 := hid ho2
  rw [ho2] at I1 ⊢
  clear ho2
  obtain ⟨u2, hwc⟩ : ∃ u, wc = u := ⟨_, rfl⟩
  rw [hwc] at I1 ⊢
  clear hwc wc
  obtain ⟨s3, hs3⟩ : ∃ b, (!secB wdOn (wd3 ws) || !(labsL ws).isEmpty) = b := ⟨_, rfl⟩
  have HS3 := hid hs3
  clear hs3
  go_wp2_with fail
  refine (is_c G1 B _ a1 n1 c1 (wd3 ws) wdOn u2 I1.b1 (I1.wd.ext I1.e)).mono ?_
  rintro e v0 ⟨rfl, a2, n2, c2, hb2, hw2, hu2⟩
  have I2 := I1.words hg1 hg12 hg24 hb2 (hw2 w I1.wd) hu2
  clear hb2 hw2 hu2 I1
  obtain ⟨b, hb⟩ : ∃ b, secB wdOn (wd3 ws) = b := ⟨_, rfl⟩
  have HB3 := hid hb
  rw [hb] at I2 ⊢
  clear hb
  go_upto_if 47 with fail
  go_cut [5] (fun v wx => v = .bool (o2 && s3) ∧ ∃ r a n c, RdI w B G1 G2 G4 (o2 && s3) (x3R d ws) (wd4 ws) r a n c wx)
  case first =>
    cases b with
    | false =>
      have hrest : wd4 ws = wd3 ws := by show secR _ _ = _; unfold secR; rw [HB3.out]; rfl
      have hsk : s3 = true := by rw [← HS3.out, HB3.out]; rfl
      have hx : x3R d ws = x2R d ws := x3R_no (secL_off HB3.out)
      have IF : RdI w B G1 G2 G4 (o2 && s3) (x3R d ws) (wd4 ws) r2 a2 n2 c2 v0 := by
        rw [hrest]
        exact I2.weak (fun h => by first | rfl | (rw [Bool.and_eq_true] at h; exact h.1)) (fun _ => hx)
      clear I2 hrest hx
      go_wp2_with fail
      go_meet
      exact ⟨by rw [hsk, Bool.and_true], _, a2, n2, c2, IF⟩
    | true =>
      have hlist : labsL ws = (wd3 ws).tail.take (upN (wd3 ws).tail) := by show secL _ _ = _; unfold secL; rw [HB3.out]; rfl
      have hrest : wd4 ws = (wd3 ws).tail.drop (upN (wd3 ws).tail) := by show secR _ _ = _; unfold secR; rw [HB3.out]; rfl
      go_wp2_with fail
      refine (list_c G1 B _ a2 n2 c2 (wd3 ws).tail v0 I2.b1 (I2.wd.ext I2.e)).mono ?_
      rintro e v1 ⟨m, rfl, hb3, hmu, hmn, hu3⟩
      have I3z := I2.words hg1 hg12 hg24 hb3 (I2.wd.drop hmn) hu3
      have HWL : Hid (Wds w B a2 m m (labsL ws)) := hid (by rw [hlist, ← hmu]; exact I2.wd.take hmn (Nat.le_refl _))
      have I3 : RdI w B G1 G2 G4 o2 (x2R d ws) (wd4 ws) r2 (shift a2 c2 m) (n2 - m) (c2 - m) v1 := by rw [hrest, ← hmu]; exact I3z
      clear I3z hb3 hmu hmn hu3 I2 hlist hrest
      generalize shift a2 c2 m = a3 at *
      generalize n2 - m = n3 at *
      generalize c2 - m = c3 at *
      have kf := I3.b4.cell' (i := 3) rfl
      have ff := I3.b4.frozen 3
      go_upto_region 15 with fail
      obtain ⟨v2, hv2⟩ : ∃ W, World.setCell v1 ⟨G4, 3, none⟩ (.slice a2 m m) = W := ⟨_, rfl⟩
      rw [hv2]
      have I4 := I3.rule (r' := { r2 with la := a2, ln := m, lc := m, labels := labsL ws }) (x' := (x3R d ws)) (ok' := o2) (wy := v2) hg1 hg12 hg24 (by rw [← hv2]; exact I3.b4.set 3 _) (by rw [← hv2]; exact Upd.setCell _) (fun h => ⟨h, fun s => s.labels HWL.out⟩)
      clear hv2 kf ff I3
      have kf := I4.b4.cell' (i := 3) (v := .slice a2 m m) rfl
      have hml : m = (labsL ws).length := HWL.out.hl.symm
      have hde : decide ((0 : Int) < (m : Int)) = !(labsL ws).isEmpty := by
        rw [hml]
        cases labsL ws with
        | nil => rfl
        | cons y z => simp
      have hden : decide (0 < m) = !(labsL ws).isEmpty := by
        rw [hml]
        cases labsL ws with
        | nil => rfl
        | cons y z => simp
      have hsk : s3 = !(labsL ws).isEmpty := by rw [← HS3.out, HB3.out]; rfl
      rw [← hsk] at hde hden
      clear hml hsk
      have IF := I4.weak (ok' := (o2 && s3)) (fun h => by first | rfl | (rw [Bool.and_eq_true] at h; exact h.1)) (fun _ => rfl)
      cases o2 <;> cases s3
      all_goals (
        go_wp2_with fail
        go_meet
        exact ⟨rfl, _, a3, n3, c3, IF⟩)
  case rest =>
  obtain ⟨rfl, r3, a1, n1, c1, I1⟩ := hcut
  clear I2
  obtain ⟨o3, ho3⟩ : ∃ b, (o2 && s3) = b := ⟨_, rfl⟩
  have HO3 := hid ho3
  rw [ho3] at I1 ⊢
  clear ho3
  obtain ⟨u3, hwc⟩ : ∃ u, wc = u := ⟨_, rfl⟩
  rw [hwc] at I1 ⊢
  clear hwc wc
  obtain ⟨s4, hs4⟩ : ∃ b, (!secB wdAt (wd4 ws) || atB (atL ws)) = b := ⟨_, rfl⟩
  have HS4 := hid hs4
  clear hs4
  go_wp2_with fail
  refine (is_c G1 B _ a1 n1 c1 (wd4 ws) wdAt u3 I1.b1 (I1.wd.ext I1.e)).mono ?_
  rintro e v0 ⟨rfl, a2, n2, c2, hb2, hw2, hu2⟩
  have I2 := I1.words hg1 hg12 hg24 hb2 (hw2 w I1.wd) hu2
  clear hb2 hw2 hu2 I1
  obtain ⟨b, hb⟩ : ∃ b, secB wdAt (wd4 ws) = b := ⟨_, rfl⟩
  have HB4 := hid hb
  rw [hb] at I2 ⊢
  clear hb
  go_upto_if 57 with fail
  go_cut [5] (fun v wx => v = .bool (o3 && s4) ∧ ∃ r a n c, RdI w B G1 G2 G4 (o3 && s4) (x4R d ws) (wd5 ws) r a n c wx)
  case first =>
    cases b with
    | false =>
      have hrest : wd5 ws = wd4 ws := by show secR _ _ = _; unfold secR; rw [HB4.out]; rfl
      have hsk : s4 = true := by rw [← HS4.out, HB4.out]; rfl
      have hx : x4R d ws = x3R d ws := x4R_no (secL_off HB4.out)
      have IF : RdI w B G1 G2 G4 (o3 && s4) (x4R d ws) (wd5 ws) r3 a2 n2 c2 v0 := by
        rw [hrest]
        exact I2.weak (fun h => by first | rfl | (rw [Bool.and_eq_true] at h; exact h.1)) (fun _ => hx)
      clear I2 hrest hx
      go_wp2_with fail
      go_meet
      exact ⟨by rw [hsk, Bool.and_true], _, a2, n2, c2, IF⟩
    | true =>
      have hlist : atL ws = (wd4 ws).tail.take (upN (wd4 ws).tail) := by show secL _ _ = _; unfold secL; rw [HB4.out]; rfl
      have hrest : wd5 ws = (wd4 ws).tail.drop (upN (wd4 ws).tail) := by show secR _ _ = _; unfold secR; rw [HB4.out]; rfl
      go_wp2_with fail
      refine (list_c G1 B _ a2 n2 c2 (wd4 ws).tail v0 I2.b1 (I2.wd.ext I2.e)).mono ?_
      rintro e v1 ⟨m, rfl, hb3, hmu, hmn, hu3⟩
      have I3z := I2.words hg1 hg12 hg24 hb3 (I2.wd.drop hmn) hu3
      have HWL : Hid (Wds w B a2 m m (atL ws)) := hid (by rw [hlist, ← hmu]; exact I2.wd.take hmn (Nat.le_refl _))
      have I3 : RdI w B G1 G2 G4 o3 (x3R d ws) (wd5 ws) r3 (shift a2 c2 m) (n2 - m) (c2 - m) v1 := by rw [hrest, ← hmu]; exact I3z
      clear I3z hb3 hmu hmn hu3 I2 hlist hrest
      generalize shift a2 c2 m = a3 at *
      generalize n2 - m = n3 at *
      generalize c2 - m = c3 at *
      have hml : (atL ws).length = m := HWL.out.hl
      have hsk : s4 = atB (atL ws) := by rw [← HS4.out, HB4.out]; rfl
      cases o3 with
      | false =>
        go_wp2_with fail
        go_meet
        exact ⟨rfl, _, a3, n3, c3, I3.weak (fun h => by cases h) (fun h => by cases h)⟩
      | true =>
      by_cases hm1 : m = 1
      · obtain ⟨x, hx⟩ : ∃ x, atL ws = [x] := List.length_eq_one_iff.1 (by rw [hml]; exact hm1)
        obtain ⟨A, rfl, hca⟩ := (HWL.out.ext I3.e).at (k := 0) (x := x) (by rw [hx]; rfl)
        rw [addr_a0] at hca
        have hxs : x.size < 4294967281 := Nat.lt_of_le_of_lt (HWL.out.hs x (by rw [hx]; simp)) (by omega)
        have d1 : decide ((m : Int) = 1) = true := decide_eq_true (by omega)
        have d2 : ((m : Int) == 1) = true := by simp [hm1]
        have hsx : s4 = hrB x := by rw [hsk, hx]; rfl
        have HX := hid hx
        subst hm1
        clear hml hsk hx
        go_wp2_with fail
        refine (hours_c x r3 G4 v1 hxs I3.b4 (HL.out.ext I3.e).lw.ml).mono ?_
        rintro e v2 ⟨rfl, hb4, hg4⟩
        have I4 := I3.ruleG (x' := (x4R d ws)) (ok' := hrB x) hg1 hg12 hg24 hb4 hg4 (fun h => ⟨rfl, fun s => by
          have := s.hours (nval (cutA x).1) (nval (cutA x).2.1)
          unfold hrB at h
          simp only [Bool.and_eq_true] at h
          exact this.to (x4R_yes HX.out h.1.2 h.2)⟩)
        have IF := I4.weak (ok' := (true && s4)) (fun h => by rw [hsx] at h; exact h) (fun _ => rfl)
        clear hb4 hg4 I3
        go_wp2_with fail
        go_meet
        exact ⟨by rw [hsx]; rfl, _, a3, n3, c3, IF⟩
      · have hf : s4 = false := by
          rw [hsk]
          match hq : atL ws, hml with
          | [], _ => rfl
          | [y], h => exact absurd h.symm hm1
          | y :: z :: l, _ => rfl
        have d1 : decide ((m : Int) = 1) = false := decide_eq_false (by omega)
        have d2 : ((m : Int) == 1) = false := by simp; omega
        clear hml hsk
        go_wp2_with fail
        go_meet
        exact ⟨by rw [hf]; rfl, _, a3, n3, c3, I3.weak (fun h => absurd h (by rw [hf]; decide)) (fun h => absurd h (by rw [hf]; decide))⟩
  case rest =>
  obtain ⟨rfl, r4, a1, n1, c1, I1⟩ := hcut
  clear I2
  obtain ⟨o4, ho4⟩ : ∃ b, (o3 && s4) = b := ⟨_, rfl⟩
  have HO4 := hid ho4
  rw [ho4] at I1 ⊢
  clear ho4
  obtain ⟨u4, hwc⟩ : ∃ u, wc = u := ⟨_, rfl⟩
  rw [hwc] at I1 ⊢
  clear hwc wc
  obtain ⟨s5, hs5⟩ : ∃ b, (!secB wdNeed (wd5 ws) || needB (needL ws)) = b := ⟨_, rfl⟩
  have HS5 := hid hs5
  clear hs5
  go_wp2_with fail
  refine (is_c G1 B _ a1 n1 c1 (wd5 ws) wdNeed u4 I1.b1 (I1.wd.ext I1.e)).mono ?_
  rintro e v0 ⟨rfl, a2, n2, c2, hb2, hw2, hu2⟩
  have I2 := I1.words hg1 hg12 hg24 hb2 (hw2 w I1.wd) hu2
  clear hb2 hw2 hu2 I1
  obtain ⟨b, hb⟩ : ∃ b, secB wdNeed (wd5 ws) = b := ⟨_, rfl⟩
  have HB5 := hid hb
  rw [hb] at I2 ⊢
  clear hb
  go_upto_if 71 with fail
  go_cut [5] (fun v wx => v = .bool (o4 && s5) ∧ ∃ r a n c, RdI w B G1 G2 G4 (o4 && s5) (x5R d ws) (wd6 ws) r a n c wx)
  case first =>
    cases b with
    | false =>
      have hrest : wd6 ws = wd5 ws := by show secR _ _ = _; unfold secR; rw [HB5.out]; rfl
      have hsk : s5 = true := by rw [← HS5.out, HB5.out]; rfl
      have hx : x5R d ws = x4R d ws := x5R_no (secL_off HB5.out)
      have IF : RdI w B G1 G2 G4 (o4 && s5) (x5R d ws) (wd6 ws) r4 a2 n2 c2 v0 := by
        rw [hrest]
        exact I2.weak (fun h => by first | rfl | (rw [Bool.and_eq_true] at h; exact h.1)) (fun _ => hx)
      clear I2 hrest hx
      go_wp2_with fail
      go_meet
      exact ⟨by rw [hsk, Bool.and_true], _, a2, n2, c2, IF⟩
    | true =>
      have hlist : needL ws = (wd5 ws).tail.take (upN (wd5 ws).tail) := by show secL _ _ = _; unfold secL; rw [HB5.out]; rfl
      have hrest : wd6 ws = (wd5 ws).tail.drop (upN (wd5 ws).tail) := by show secR _ _ = _; unfold secR; rw [HB5.out]; rfl
      go_wp2_with fail
      refine (list_c G1 B _ a2 n2 c2 (wd5 ws).tail v0 I2.b1 (I2.wd.ext I2.e)).mono ?_
      rintro e v1 ⟨m, rfl, hb3, hmu, hmn, hu3⟩
      have I3z := I2.words hg1 hg12 hg24 hb3 (I2.wd.drop hmn) hu3
      have HWL : Hid (Wds w B a2 m m (needL ws)) := hid (by rw [hlist, ← hmu]; exact I2.wd.take hmn (Nat.le_refl _))
      have I3 : RdI w B G1 G2 G4 o4 (x4R d ws) (wd6 ws) r4 (shift a2 c2 m) (n2 - m) (c2 - m) v1 := by rw [hrest, ← hmu]; exact I3z
      clear I3z hb3 hmu hmn hu3 I2 hlist hrest
      generalize shift a2 c2 m = a3 at *
      generalize n2 - m = n3 at *
      generalize c2 - m = c3 at *
      have hml : (needL ws).length = m := HWL.out.hl
      have hsk : s5 = needB (needL ws) := by rw [← HS5.out, HB5.out]; rfl
      by_cases hm2 : m = 2
      · obtain ⟨x, y, hx⟩ : ∃ x y, needL ws = [x, y] := two_of _ (by rw [hml]; exact hm2)
        obtain ⟨gb, go, rfl, hcc⟩ := (HWL.out.ext I3.e).cell.some_of (by rw [List.length_map, hml]; omega)
        have hca : v1.cell? ⟨gb, go, none⟩ = some (.string x) := hcc 0 _ (by rw [hx]; rfl)
        have hcb : v1.cell? ⟨gb, go + 1, none⟩ = some (.string y) := hcc 1 _ (by rw [hx]; rfl)
        clear hcc
        have hxs : x.size ≤ 140737488355328 := Nat.le_trans (HWL.out.hs x (by rw [hx]; simp)) (by omega)
        have hys : y.size ≤ 140737488355328 := Nat.le_trans (HWL.out.hs y (by rw [hx]; simp)) (by omega)
        have d1 : decide ((m : Int) = 2) = true := decide_eq_true (by omega)
        have d2 : ((m : Int) == 2) = true := by simp [hm2]
        have hsx : s5 = numB x.data.toList := by rw [hsk, hx]; rfl
        have HX := hid hx
        subst hm2
        clear hml hsk hx
        have hnum := hid (fun w => number_c x w hxs)
        have hval : numB x.data.toList = true → (if numB x.data.toList = true then (numV x.data.toList : Int) else 0) = ndV [x, y] := fun h => by rw [if_pos h]; rfl
        generalize (if numB x.data.toList = true then (numV x.data.toList : Int) else 0) = nv at *
        generalize numB x.data.toList = nb at *
        have kf := I3.b4.cell' (i := 6) rfl
        have ff := I3.b4.frozen 6
        have kg := I3.b4.cell' (i := 7) rfl
        have fg := I3.b4.frozen 7
        go_wp2_with fail
        refine (hnum.out v1).mono ?_
        rintro e v2 ⟨rfl, rfl⟩
        clear hnum
        go_upto_region 25 with fail
        obtain ⟨v2, hv2⟩ : ∃ W, (World.setCell (World.setCell v1 ⟨G4, 6, none⟩ (.int .i64 nv)) ⟨G4, 7, none⟩ (.string y)) = W := ⟨_, rfl⟩
        rw [hv2]
        have I4 := I3.rule (r' := { r4 with nd := nv, ow := y }) (x' := (x5R d ws)) (ok' := o4 && nb) (wy := v2) hg1 hg12 hg24 (by rw [← hv2]; exact (I3.b4.set 6 (.int .i64 nv)).set 7 (.string y)) (by rw [← hv2]; exact (Upd.setCell _).trans (Upd.setCell _)) (fun h => by
          have h1 : o4 = true := by revert h; cases o4 <;> simp
          have h2 : nb = true := by revert h; cases nb <;> simp
          refine ⟨h1, fun s => ?_⟩
          have := s.need nv y hys
          exact this.to (x5R_yes HX.out (hval h2)))
        subst hsx
        clear hv2 I3 kf ff kg fg hval
        cases o4 <;> cases s5
        all_goals (
          go_wp2_with fail
          go_meet
          exact ⟨rfl, _, a3, n3, c3, I4⟩)
      · have hf : s5 = false := by
          rw [hsk]
          match hq : needL ws, hml with
          | [], _ => rfl
          | [y], _ => rfl
          | [y, z], h => exact absurd h.symm hm2
          | y :: z :: l :: t, _ => rfl
        have d1 : decide ((m : Int) = 2) = false := decide_eq_false (by omega)
        have d2 : ((m : Int) == 2) = false := by simp; omega
        clear hml hsk
        cases o4
        all_goals (
          go_wp2_with fail
          go_meet
          exact ⟨by rw [hf]; rfl, _, a3, n3, c3, I3.weak (fun h => absurd h (by rw [hf]; decide)) (fun h => absurd h (by rw [hf]; decide))⟩)
  case rest =>
  obtain ⟨rfl, r5, a1, n1, c1, I1⟩ := hcut
  clear I2
  obtain ⟨o5, ho5⟩ : ∃ b, (o4 && s5) = b := ⟨_, rfl⟩
  have HO5 := hid ho5
  rw [ho5] at I1 ⊢
  clear ho5
  obtain ⟨u5, hwc⟩ : ∃ u, wc = u := ⟨_, rfl⟩
  rw [hwc] at I1 ⊢
  clear hwc wc
  have hfin : okR ws = (o5 && (wd6 ws).isEmpty) := by
    rw [HOK.out, HHB.out, HS1.out, HS2.out, HS3.out, HS4.out, HS5.out, HO1.out, HO2.out, HO3.out, HO4.out, HO5.out]
  have hem : (wd6 ws).isEmpty = decide (n1 = 0) := by
    have := I1.wd.hl
    cases hq : wd6 ws with
    | nil => rw [hq] at this; simp at this; simp [← this]
    | cons y z => rw [hq] at this; simp at this; simp; omega
  obtain ⟨C, hC⟩ : ∃ C : World → Prop, C = fun w' => Ext w w' ∧ Blk w' G1 [.slice a1 n1 c1] 46 ∧ Blk w' G4 r5.v 51 ∧ (∃ vs : List Value, vs.length = 8 ∧ Blk w' G2 vs 51) ∧ (o5 = true → RSt w w' B G4 r5 (x5R d ws)) := ⟨_, rfl⟩
  have hC0 : ∀ w', C w' ↔ (Ext w w' ∧ Blk w' G1 [.slice a1 n1 c1] 46 ∧ Blk w' G4 r5.v 51 ∧ (∃ vs : List Value, vs.length = 8 ∧ Blk w' G2 vs 51) ∧ (o5 = true → RSt w w' B G4 r5 (x5R d ws))) := fun w' => by rw [hC]
  clear hC
  have HCC := hid hC0
  clear hC0
  have hCx : ∀ w w', C w → Ext w w' → C w' := fun w w' h1 h2 => by
    obtain ⟨p1, p2, p3, ⟨vs, p4, p6⟩, p5⟩ := (HCC.out w).1 h1
    exact (HCC.out w').2 ⟨p1.ext h2, p2.ext h2, p3.ext h2, ⟨vs, p4, p6.ext h2⟩, fun h => (p5 h).ext h2⟩
  have hCA : C u5 := (HCC.out _).2 ⟨I1.e, I1.b1, I1.b4, ⟨_, rfl, I1.b2⟩, I1.st⟩
  have HFIN := hid hfin
  have HEM := hid hem
  clear I1 hfin hem
  go_upto_region 26 with fail
  cases o5 with
  | false =>
    refine wp_region_held_drew (S := C) (by kernel_rfl) (hCx _ _ hCA (Ext.refl _).drew) (fun hS0 => ?_)
    refine held_take 0 (v := _) rfl (by kernel_rfl) (by kernel_rfl) (by kernel_rfl) (fun _ _ _ h => h) ((yieldsI_loadw rfl 51 _ rfl rfl (fun w1 h => ((HCC.out w1).1 h).2.2.1) agg_rule (RuleR.len r5))) hS0 ?_
    simp only [Act.put, List.setIfInBounds_toArray, List.set_cons_succ, List.set_cons_zero]
    refine held_take 1 (v := ?tv1) rfl (by kernel_rfl) (by kernel_rfl) (by kernel_rfl) (fun _ _ _ h => h) (.inl ⟨rfl, ?ty1⟩) hS0 ?tr1
    case ty1 => (intro _ _; go_simp; try with_reducible rfl)
    case tr1 =>
    simp only [Act.put, List.setIfInBounds_toArray, List.set_cons_succ, List.set_cons_zero]
    refine held_take 2 (v := ?tv2) rfl (by kernel_rfl) (by kernel_rfl) (by kernel_rfl) (fun _ _ _ h => h) (.inl ⟨rfl, ?ty2⟩) hS0 ?tr2
    case ty2 => (intro _ _; go_simp; try with_reducible rfl)
    case tr2 =>
    simp only [Act.put, List.setIfInBounds_toArray, List.set_cons_succ, List.set_cons_zero]
    refine held_take 3 (v := undef) rfl (by kernel_rfl) (by kernel_rfl) (by kernel_rfl) (fun _ _ _ h => h) (.inr ⟨rfl, rfl⟩) hS0 ?_
    simp only [Act.put, List.setIfInBounds_toArray, List.set_cons_succ, List.set_cons_zero]
    refine held_take 4 (v := undef) rfl (by kernel_rfl) (by kernel_rfl) (by kernel_rfl) (fun _ _ _ h => h) (.inr ⟨rfl, rfl⟩) hS0 ?_
    simp only [Act.put, List.setIfInBounds_toArray, List.set_cons_succ, List.set_cons_zero]
    refine held_take 5 (v := undef) rfl (by kernel_rfl) (by kernel_rfl) (by kernel_rfl) (fun _ _ _ h => h) (.inr ⟨rfl, rfl⟩) hS0 ?_
    simp only [Act.put, List.setIfInBounds_toArray, List.set_cons_succ, List.set_cons_zero]
    refine held_take 6 (v := ?tv3) rfl (by kernel_rfl) (by kernel_rfl) (by kernel_rfl) (fun _ _ _ h => h) (.inl ⟨rfl, ?ty3⟩) hS0 ?tr3
    case ty3 => (intro _ _; go_simp; try with_reducible rfl)
    case tr3 =>
    simp only [Act.put, List.setIfInBounds_toArray, List.set_cons_succ, List.set_cons_zero]
    obtain ⟨vz, hvz, zG⟩ := ((HCC.out _).1 hS0).2.2.2.1
    have ZG := hid zG
    have HVZ := hid hvz
    have HSS := hid hS0
    clear zG hvz hS0
    refine held_one (i := 7) (by kernel_rfl) rfl ?_
    intro Q' hQ
    go_wp2_with (refine wpl_storew rfl _ _ _ rfl rfl rfl ZG.out HAG.out HVZ.out (RuleR.len r5) (ruleV_one r5) ?_)
    intro uE b9 u9
    have hSE : C uE := by
      obtain ⟨p1, p2, p3, p4, p5⟩ := (HCC.out _).1 HSS.out
      exact (HCC.out _).2 ⟨u9.ext p1 (by omega), p2.upd u9 (by omega), p3.upd u9 (by omega), ⟨_, RuleR.len r5, b9⟩, fun h => (p5 h).upd u9 (by omega)⟩
    have B9 := hid b9
    clear b9 u9 HSS ZG HVZ
    go_wp2_with fail
    refine hQ _ _ hSE ?_
    have hS0 := hSE
    clear hQ Q' hSE
    try dsimp only
    try simp only [Act.put, List.setIfInBounds_toArray, List.set_cons_succ, List.set_cons_zero]
    refine held_take 8 (v := ?tv4) rfl (by kernel_rfl) (by kernel_rfl) (by kernel_rfl) (fun _ _ _ h => h) (.inl ⟨rfl, ?ty4⟩) hS0 ?tr4
    case ty4 => (intro _ _; go_simp; try with_reducible rfl)
    case tr4 =>
    simp only [Act.put, List.setIfInBounds_toArray, List.set_cons_succ, List.set_cons_zero]
    refine wpAnyH_done (by kernel_rfl) ?_ _
    obtain ⟨p1, p2, p3, p4, p5⟩ := (HCC.out _).1 hS0
    have P1 := hid p1
    have P5 := hid p5
    clear p1 p2 p3 p4 p5 hS0 hCx hCA HCC
    go_wp2_with fail
    have hok : okR ws = false := HFIN.out
    exact ret_row2 rfl rfl B9.out agg_rule (RuleR.len r5) rfl ⟨r5, by rw [hok]; rfl, (fun h => by rw [hok] at h; cases h), P1.out⟩
  | true =>
    refine wp_region_held_drew (S := C) (by kernel_rfl) (hCx _ _ hCA (Ext.refl _).drew) (fun hS0 => ?_)
    refine held_take 0 (v := _) rfl (by kernel_rfl) (by kernel_rfl) (by kernel_rfl) (fun _ _ _ h => h) ((yieldsI_loadw rfl 51 _ rfl rfl (fun w1 h => ((HCC.out w1).1 h).2.2.1) agg_rule (RuleR.len r5))) hS0 ?_
    simp only [Act.put, List.setIfInBounds_toArray, List.set_cons_succ, List.set_cons_zero]
    refine held_take 1 (v := ?tv5) rfl (by kernel_rfl) (by kernel_rfl) (by kernel_rfl) (fun _ _ _ h => h) (.inl ⟨rfl, ?ty5⟩) hS0 ?tr5
    case ty5 => (intro _ _; go_simp; try with_reducible rfl)
    case tr5 =>
    simp only [Act.put, List.setIfInBounds_toArray, List.set_cons_succ, List.set_cons_zero]
    refine held_take 2 (v := ?tv6) rfl (by kernel_rfl) (by kernel_rfl) (by kernel_rfl) (fun _ _ _ h => h) (.inl ⟨rfl, ?ty6⟩) hS0 ?tr6
    case ty6 => (intro _ _; go_simp; try with_reducible rfl)
    case tr6 =>
    simp only [Act.put, List.setIfInBounds_toArray, List.set_cons_succ, List.set_cons_zero]
    refine held_take 3 (v := ?tv7) rfl (by kernel_rfl) (by kernel_rfl) (by kernel_rfl) (fun _ _ _ h => h) (.inl ⟨rfl, ?ty7⟩) hS0 ?tr7
    case ty7 => (intro wq hwq; have hcq := (fun w1 h => ((HCC.out w1).1 h).2.1.cell' (i := 0) rfl) wq hwq; go_simp; try with_reducible rfl)
    case tr7 =>
    simp only [Act.put, List.setIfInBounds_toArray, List.set_cons_succ, List.set_cons_zero]
    refine held_take 4 (v := ?tv8) rfl (by kernel_rfl) (by kernel_rfl) (by kernel_rfl) (fun _ _ _ h => h) (.inl ⟨rfl, ?ty8⟩) hS0 ?tr8
    case ty8 => (intro _ _; go_simp; try with_reducible rfl)
    case tr8 =>
    simp only [Act.put, List.setIfInBounds_toArray, List.set_cons_succ, List.set_cons_zero]
    refine held_take 5 (v := ?tv9) rfl (by kernel_rfl) (by kernel_rfl) (by kernel_rfl) (fun _ _ _ h => h) (.inl ⟨rfl, ?ty9⟩) hS0 ?tr9
    case ty9 => (intro _ _; go_simp; try with_reducible rfl)
    case tr9 =>
    simp only [Act.put, List.setIfInBounds_toArray, List.set_cons_succ, List.set_cons_zero]
    refine held_take 6 (v := ?tv10) rfl (by kernel_rfl) (by kernel_rfl) (by kernel_rfl) (fun _ _ _ h => h) (.inl ⟨rfl, ?ty10⟩) hS0 ?tr10
    case ty10 => (intro _ _; go_simp; try with_reducible rfl)
    case tr10 =>
    simp only [Act.put, List.setIfInBounds_toArray, List.set_cons_succ, List.set_cons_zero]
    obtain ⟨vz, hvz, zG⟩ := ((HCC.out _).1 hS0).2.2.2.1
    have ZG := hid zG
    have HVZ := hid hvz
    have HSS := hid hS0
    clear zG hvz hS0
    refine held_one (i := 7) (by kernel_rfl) rfl ?_
    intro Q' hQ
    go_wp2_with (refine wpl_storew rfl _ _ _ rfl rfl rfl ZG.out HAG.out HVZ.out (RuleR.len r5) (ruleV_one r5) ?_)
    intro uE b9 u9
    have hSE : C uE := by
      obtain ⟨p1, p2, p3, p4, p5⟩ := (HCC.out _).1 HSS.out
      exact (HCC.out _).2 ⟨u9.ext p1 (by omega), p2.upd u9 (by omega), p3.upd u9 (by omega), ⟨_, RuleR.len r5, b9⟩, fun h => (p5 h).upd u9 (by omega)⟩
    have B9 := hid b9
    clear b9 u9 HSS ZG HVZ
    go_wp2_with fail
    refine hQ _ _ hSE ?_
    have hS0 := hSE
    clear hQ Q' hSE
    try dsimp only
    try simp only [Act.put, List.setIfInBounds_toArray, List.set_cons_succ, List.set_cons_zero]
    refine held_take 8 (v := ?tv11) rfl (by kernel_rfl) (by kernel_rfl) (by kernel_rfl) (fun _ _ _ h => h) (.inl ⟨rfl, ?ty11⟩) hS0 ?tr11
    case ty11 => (intro _ _; go_simp; try with_reducible rfl)
    case tr11 =>
    simp only [Act.put, List.setIfInBounds_toArray, List.set_cons_succ, List.set_cons_zero]
    refine wpAnyH_done (by kernel_rfl) ?_ _
    obtain ⟨p1, p2, p3, p4, p5⟩ := (HCC.out _).1 hS0
    have P1 := hid p1
    have P5 := hid p5
    clear p1 p2 p3 p4 p5 hS0 hCx hCA HCC
    go_wp2_with fail
    have hok : okR ws = decide (n1 = 0) := by rw [HFIN.out, HEM.out]; rfl
    refine ret_row2 rfl rfl B9.out agg_rule (RuleR.len r5) rfl ⟨r5, ?_, fun _ => ?_, P1.out⟩
    · rw [hok]
      by_cases h0 : n1 = 0
      · subst h0; rfl
      · have : ((n1 : Int) == 0) = false := by simp; exact h0
        simp [h0]
    · have s : RSt w uE B G4 r5 (x5R d ws) := by first | exact P5.out rfl | exact P5.out trivial
      refine ⟨?_, s.ok P1.out, s.hi hBG⟩
      rw [s.q, ← x5R_eq, HD.out]
end

section
open Go Go.RowKit

section
variable {P : Program} {t e : TypeId} {z y : Nat} {ops : Array Oper} {rest : List Oper} {o : Oper} {a : Act} {w : World} {Q : Exit → Act → World → Prop}
theorem wpl_buildOneP (T : ElemT P t e z y) (hz1 : z ≤ 100000) (hgd : o.guard = none) {x : Operand} {cs : List Value} (ho : o.op = .buildSlice t 1 #[(0, x)]) (hx : a.eval x = .agg cs.toArray) (hl : cs.length = z)
    (h : wpList P ops Q rest (a.put o.dst (.slice (some ⟨w.heap.size, 0, none⟩) 1 1)) (w.alloc (.cells cs.toArray e))) : wpList P ops Q (o :: rest) a w := by
  obtain ⟨i0, z0, hi, hz, hsz, hb1, hzs⟩ := T.info
  have hpos := T.pos
  refine wpList_plain hgd fun K hK => ?_
  have hf : ∀ cells : Array Value, cells.size = z → Instr.fill (fun i => some (i * z, z)) cells [(0, .agg cs.toArray)] = some cs.toArray := by
    intro cells hc
    have h := Great.fill_whole (s := z) hpos [.agg cs.toArray] cells (by intro v hv; rw [List.mem_singleton.1 hv]; simp [Value.cells, hl]) (by simp [hc])
    simpa [Value.cells] using h
  have hr : (execOp a.eval o).run P w = .ok (.value (.slice (some ⟨w.heap.size, 0, none⟩) 1 1)) (w.alloc (.cells cs.toArray e)) := by
    have h := run_buildSlice (P := P) w t e 1 #[(0, .agg cs.toArray)] cs.toArray i0 _ T.hu hi hz (by rw [hsz]; omega) (by rw [hsz]; omega) (by rw [hsz]; exact hf _ (by simp))
    have he : (#[(0, x)].map fun (p : Nat × Operand) => (p.1, a.eval p.2)) = #[(0, .agg cs.toArray)] := by simp [hx]
    unfold execOp
    simp only [ho, Sem.run_bind]
    have h2 : (Instr.buildSlice t 1 (#[(0, x)].map fun (p : Nat × Operand) => (p.1, a.eval p.2))).run P w = .ok (.slice (some ⟨w.heap.size, 0, none⟩) 1 1) (w.alloc (.cells cs.toArray e)) := by rw [he]; exact h
    rw [h2]
    rfl
  unfold Oper.wp
  rw [hr, Oper.upon_value]
  exact hK _ _ h
end
theorem info_ruleP : (Tryz.prog.info? 51).map (fun i => (i.zero, i.size, i.bytes)) = some (some (.agg zeroRule.toArray), 8, 120) := by kernel_rfl
theorem elem_ruleP : ElemT Tryz.prog 23 51 8 120 := ⟨Tryz.underlying23, ⟨_, _, (info_parts info_ruleP).choose_spec.1, (info_parts info_ruleP).choose_spec.2.1, (info_parts info_ruleP).choose_spec.2.2.1, (info_parts info_ruleP).choose_spec.2.2.2, rfl⟩, by decide⟩

/-! ### bounds -/
theorem consHd_len (b : UInt8) (ls : List (List UInt8)) (h : ls ≠ []) : (consHd b ls).length = ls.length := by
  cases ls with
  | nil => exact absurd rfl h
  | cons x r => rfl
theorem splitR_cnt (c : UInt8) : ∀ l : List UInt8, (splitR c l).length ≤ l.length + 1
  | [] => by simp [splitR]
  | b :: l => by
    have ih := splitR_cnt c l
    unfold splitR
    split
    · simp; omega
    · rw [consHd_len b _ (splitR_ne c l), List.length_cons]; omega
theorem splitR_len (c : UInt8) : ∀ (l : List UInt8), ∀ x ∈ splitR c l, x.length ≤ l.length
  | [], x, h => by simp [splitR] at h; subst h; simp
  | b :: l, x, h => by
    have ih := splitR_len c l
    unfold splitR at h
    split at h
    · rcases List.mem_cons.1 h with rfl | h
      · simp
      · have := ih x h; simp; omega
    · cases hs : splitR c l with
      | nil => exact absurd hs (splitR_ne c l)
      | cons y r =>
        rw [hs] at h ih
        rcases List.mem_cons.1 h with rfl | h
        · have := ih y (by simp); simp; omega
        · have := ih x (List.mem_cons_of_mem _ h); simp; omega
theorem wordsG_len (q : UInt8 → Bool) : ∀ (l cur : List UInt8), ∀ x ∈ wordsG q cur l, x.length ≤ cur.length + l.length
  | [], cur, x, h => by
    unfold wordsG at h
    split at h
    · cases h
    · simp at h; subst h; simp
  | b :: l, cur, x, h => by
    unfold wordsG at h
    split at h
    · split at h
      · have := wordsG_len q l [] x h; simp at this ⊢; omega
      · rcases List.mem_cons.1 h with rfl | h
        · simp
        · have := wordsG_len q l [] x h; simp at this ⊢; omega
    · have := wordsG_len q l (cur ++ [b]) x h; simp at this ⊢; omega
theorem wordsG_cnt (q : UInt8 → Bool) : ∀ (l cur : List UInt8), (wordsG q cur l).length ≤ l.length + 1
  | [], cur => by
    unfold wordsG
    split <;> simp
  | b :: l, cur => by
    unfold wordsG
    split
    · split
      · have := wordsG_cnt q l []; simp; omega
      · have := wordsG_cnt q l []; simp; omega
    · have := wordsG_cnt q l (cur ++ [b]); simp; omega
theorem words_cnt (l : List UInt8) : (wordsOf l).length ≤ l.length + 1 := by
  unfold wordsOf
  rw [List.length_map]
  have h1 := wordsG_cnt blankB (Lib.cut l [35]).1 []
  have h2 := (cut_lens l [35]).1
  show (wordsG blankB [] (Lib.cut l [35]).1).length ≤ _
  omega
theorem words_size (l : List UInt8) : ∀ x ∈ wordsOf l, x.size ≤ l.length := by
  intro x hx
  unfold wordsOf at hx
  obtain ⟨y, hy, rfl⟩ := List.mem_map.1 hx
  have h1 := wordsG_len blankB (Lib.cut l [35]).1 [] y hy
  have h2 := (cut_lens l [35]).1
  rw [size_strOf]
  simp at h1
  omega
/-- the words as the first reader finds them -/
theorem words_first (l : List UInt8) : ((splitR 32 (Lib.replaceAll l [9] [32])).map strOf).filter (fun s => !emptyB s) = (wordsTL l).map strOf := by
  have h := words_one l
  rw [splitR_of] at h
  rw [← h, List.filter_map]
  congr 1
  apply List.filter_congr
  intro x _
  show (!emptyB (strOf x)) = !x.isEmpty
  unfold emptyB
  rw [ByteArray.toList_eq, toList_strOf]

/-! ### what is said of a text -/
noncomputable def parE (s : List UInt8) : Int := if 65536 < s.length then 5 else match badAt (linesOf s) with | some _ => 11 | none => polE (rulesOf (linesOf s)) (rulesOf (linesOf s)).length
def parN (s : List UInt8) : Int := if 65536 < s.length then 0 else match badAt (linesOf s) with | some k => (k : Int) | none => 0
noncomputable def parR (s : List UInt8) : List RuleR := if parE s = 0 then rulesOf (linesOf s) else []
theorem ruleE_bare (r : RuleR) : ruleE r.bare = ruleE r := rfl
theorem firstE_bare : ∀ rs : List RuleR, firstE (rs.map RuleR.bare) = firstE rs
  | [] => rfl
  | r :: rs => by
    rw [List.map_cons]
    unfold firstE
    rw [ruleE_bare, firstE_bare rs]
theorem polE_bare {rs qs : List RuleR} (h : rs.map RuleR.bare = qs) (n : Nat) : polE qs n = polE rs n := by
  unfold polE
  rw [← h, firstE_bare]
theorem par_large {s : List UInt8} (h : 65536 < s.length) : parE s = 5 ∧ parN s = 0 ∧ parR s = [] := by
  have h1 : parE s = 5 := by unfold parE; rw [if_pos h]
  refine ⟨h1, by unfold parN; rw [if_pos h], ?_⟩
  unfold parR; rw [h1, if_neg (by decide)]
theorem par_bad {s : List UInt8} {k : Nat} (h : ¬ 65536 < s.length) (hb : badAt (linesOf s) = some k) : parE s = 11 ∧ parN s = k ∧ parR s = [] := by
  have h1 : parE s = 11 := by unfold parE; rw [if_neg h, hb]
  refine ⟨h1, by unfold parN; rw [if_neg h, hb], ?_⟩
  unfold parR; rw [h1, if_neg (by decide)]
theorem par_all {s : List UInt8} (h : ¬ 65536 < s.length) (hb : badAt (linesOf s) = none) : parE s = polE (rulesOf (linesOf s)) (rulesOf (linesOf s)).length ∧ parN s = 0 := by
  exact ⟨by unfold parE; rw [if_neg h, hb], by unfold parN; rw [if_neg h, hb]⟩

/-! ### rows that lie off a block -/
def OffA (q : Option Nat) (a : Option Addr) (n : Nat) : Prop := n = 0 ∨ ∃ A, a = some A ∧ q ≠ some A.block
structure RuleR.Off (q : Option Nat) (r : RuleR) : Prop where
  r1 : OffA q r.ra r.rn
  r2 : OffA q r.aa r.an
  r3 : OffA q r.la r.ln
theorem HiA.off {B : Nat} {a : Option Addr} {n : Nat} {q : Option Nat} (h : HiA B a n) (hq : ∀ g, q = some g → g < B) : OffA q a n :=
  h.imp id fun ⟨A, h1, h2⟩ => ⟨A, h1, fun e => by have := hq _ e; omega⟩
theorem RuleR.Hi.off {B : Nat} {r : RuleR} {q : Option Nat} (h : r.Hi B) (hq : ∀ g, q = some g → g < B) : r.Off q := ⟨h.r1.off hq, h.r2.off hq, h.r3.off hq⟩
theorem RuleR.Hi.mono {B B' : Nat} {r : RuleR} (h : r.Hi B) (hb : B' ≤ B) : r.Hi B' :=
  ⟨h.r1.imp id (fun ⟨A, h1, h2⟩ => ⟨A, h1, by omega⟩), h.r2.imp id (fun ⟨A, h1, h2⟩ => ⟨A, h1, by omega⟩), h.r3.imp id (fun ⟨A, h1, h2⟩ => ⟨A, h1, by omega⟩)⟩
theorem OffA.cells {w w' : World} {q : Option Nat} {a : Option Addr} {n : Nat} {xs : List Value} (h : OffA q a n) (hl : xs.length = n) (hc : Cells w a xs) (k : w.grownBy w' q) : Cells w' a xs := by
  rcases h with h0 | ⟨A, hA, hne⟩
  · have : xs = [] := List.length_eq_zero_iff.1 (by omega)
    rw [this]
    exact .inl rfl
  · refine hc.grown k (fun y hy => ?_)
    rw [hA] at hy
    injection hy with hy
    rw [← hy]
    exact fun e => hne e.symm
theorem RuleR.Ok.gro {w w' : World} {r : RuleR} {q : Option Nat} (h : r.Ok w) (ho : r.Off q) (k : w.grownBy w' q) : r.Ok w' :=
  { h with rcell := ho.r1.cells (by rw [List.length_map]; exact h.rl) h.rcell k, acell := ho.r2.cells (by rw [List.length_map]; exact h.al) h.acell k, lcell := ho.r3.cells (by rw [List.length_map]; exact h.ll) h.lcell k }
/-- a row of an Ok rule lies in memory that is there -/
theorem cells_lt {w : World} {a : Option Addr} {xs : List Value} (hc : Cells w a xs) (h : xs ≠ []) : ∃ A, a = some A ∧ A.block < w.heap.size := by
  rcases hc with h0 | ⟨b, o, rfl, hc⟩
  · exact absurd h0 h
  · obtain ⟨x, r, rfl⟩ : ∃ x r, xs = x :: r := by
      cases xs with
      | nil => exact absurd rfl h
      | cons x r => exact ⟨x, r, rfl⟩
    have := hc 0 x rfl
    exact ⟨_, rfl, block_lt_of_cell this⟩
theorem offA_new {w : World} {a : Option Addr} {n : Nat} {xs : List Value} (hc : Cells w a xs) (hl : xs.length = n) : OffA (some w.heap.size) a n := by
  by_cases h : xs = []
  · left; rw [← hl, h]; rfl
  · obtain ⟨A, h1, h2⟩ := cells_lt hc h
    exact .inr ⟨A, h1, fun e => by injection e with e; omega⟩
theorem RuleR.Ok.off_new {w : World} {r : RuleR} (h : r.Ok w) : r.Off (some w.heap.size) :=
  ⟨offA_new h.rcell (by rw [List.length_map]; exact h.rl), offA_new h.acell (by rw [List.length_map]; exact h.al), offA_new h.lcell (by rw [List.length_map]; exact h.ll)⟩

/-- between the lines: the policy in block G, its rules' row behind B -/
structure PIv (w : World) (G2 G5 g0 B : Nat) (s : List UInt8) (k : Nat) (a : Option Addr) (c : Nat) (rs : List RuleR) (wx : World) : Prop where
  e : Ext w wx
  b2 : Blk wx G2 [.slice none 0 0] 25
  b5 : Blk wx G5 [.slice a rs.length c] 25
  ln : Blk wx g0 (((splitR 10 s).map strOf).map encStr) 9
  own : wx.ownsRow B 51 8 (.slice a rs.length c) rs.length (rulesV rs)
  ru : rs.map RuleR.bare = rulesOf ((linesOf s).take k)
  ok : ∀ r ∈ rs, r.Ok wx
  hi : ∀ r ∈ rs, r.Hi B
  off : ∀ r ∈ rs, r.Off (Value.slice a rs.length c).ownBlock
  good : ∀ x ∈ (linesOf s).take k, goodB x = true
  cnt : rs.length ≤ k
variable {w wx wy wz : World} {G2 G5 g0 B k c c' : Nat} {s : List UInt8} {a a' : Option Addr} {rs : List RuleR} {r : RuleR}
theorem PIv.ext (h : PIv w G2 G5 g0 B s k a c rs wx) (e : Ext wx wy) : PIv w G2 G5 g0 B s k a c rs wy :=
  { h with e := h.e.ext e, b2 := h.b2.ext e, b5 := h.b5.ext e, ln := h.ln.ext e, own := own_extP h.own e, ok := fun r hr => (h.ok r hr).ext e }
theorem PIv.skip (h : PIv w G2 G5 g0 B s k a c rs wx) {ws : List ByteArray} (hk : (linesOf s)[k]? = some ws) (h0 : ws = []) : PIv w G2 G5 g0 B s (k + 1) a c rs wx := by
  subst h0
  refine { h with ru := ?_, good := ?_, cnt := by have := h.cnt; omega }
  · rw [rules_step hk, h.ru]
    simp
  · intro x hx
    rw [List.take_add_one, hk, List.mem_append] at hx
    rcases hx with hx | hx
    · exact h.good x hx
    · simp at hx; rw [hx]; rfl
theorem rulesV_snoc (rs : List RuleR) (r : RuleR) : rulesV (rs ++ [r]) = rulesV rs ++ r.v := by
  unfold rulesV
  rw [List.flatMap_append]
  simp
/-- a rule is appended, then the policy's cell is set -/
theorem PIv.push (h : PIv w G2 G5 g0 B s k a c rs wx) {ws : List ByteArray} (hk : (linesOf s)[k]? = some ws) (h0 : ws ≠ []) (hok : okR ws = true) (hG2 : w.heap.size ≤ G2) (h2 : G2 ≠ G5) (hG5 : w.heap.size ≤ G5) (h05 : g0 ≠ G5) (h5B : G5 < B) (h2B : G2 < B) (h0B : g0 < B) (hwB : w.heap.size ≤ B)
    {g1 : Nat} (hb : r.bare = ruleOf ws) (hr : r.Ok wx) (hh : r.Hi g1) (hg1 : B ≤ g1) (hq : ∀ g, (Value.slice a rs.length c).ownBlock = some g → g < g1)
    (ho : wy.ownsRow B 51 8 (.slice a' (rs.length + 1) c') (rs.length + 1) (rulesV rs ++ r.v)) (hg : wx.grownBy wy (Value.slice a rs.length c).ownBlock) (hn : (Value.slice a' (rs.length + 1) c').ownBlock = (Value.slice a rs.length c).ownBlock ∨ (Value.slice a' (rs.length + 1) c').ownBlock = some wx.heap.size)
    (u : Upd wy G5 wz) (b5 : Blk wz G5 [.slice a' (rs.length + 1) c'] 25) :
    PIv w G2 G5 g0 B s (k + 1) a' c' (rs ++ [r]) wz := by
  have hl : (rs ++ [r]).length = rs.length + 1 := by simp
  have hB : ∀ g, (Value.slice a rs.length c).ownBlock = some g → B ≤ g := fun g e => (h.own.lt g e).1
  have hne : ∀ g, g < B → some g ≠ (Value.slice a rs.length c).ownBlock := fun g hg e => by have := hB g e.symm; omega
  have okall : ∀ x ∈ rs ++ [r], x.Ok wz ∧ x.Hi B ∧ x.Off (Value.slice a' (rs.length + 1) c').ownBlock := by
    intro x hx
    have main : x.Ok wx ∧ x.Hi B ∧ x.Off (Value.slice a rs.length c).ownBlock := by
      rcases List.mem_append.1 hx with hx | hx
      · exact ⟨h.ok x hx, h.hi x hx, h.off x hx⟩
      · rw [List.mem_singleton] at hx
        subst hx
        exact ⟨hr, hh.mono hg1, hh.off hq⟩
    obtain ⟨m1, m2, m3⟩ := main
    refine ⟨(m1.gro m3 hg).gro (m2.off (q := some G5) (fun g e => by injection e with e; omega)) (upd_grownA u), m2, ?_⟩
    rcases hn with hn | hn
    · rw [hn]; exact m3
    · rw [hn]; exact m1.off_new
  refine ⟨?_, ?_, by rw [hl]; exact b5, ?_, ?_, ?_, fun x hx => (okall x hx).1, fun x hx => (okall x hx).2.1, fun x hx => by rw [hl]; exact (okall x hx).2.2, ?_, by have := h.cnt; omega⟩
  · exact u.ext (h.e.grown hg (fun g e => Nat.le_trans hwB (hB g e))) hG5
  · exact (h.b2.grown hg (hne _ h2B)).upd u h2
  · exact (h.ln.grown hg (hne _ h0B)).upd u h05
  · rw [hl, rulesV_snoc]
    refine own_beside ho (upd_grownA u) (fun g hg2 e => ?_)
    injection e with e
    have := (ho.lt g hg2).1
    omega
  · rw [rules_step hk, List.map_append, h.ru]
    have : ws.isEmpty = false := by
      cases ws with
      | nil => exact absurd rfl h0
      | cons y z => rfl
    rw [this]
    simp [hb]
  · intro x hx
    rw [List.take_add_one, hk, List.mem_append] at hx
    rcases hx with hx | hx
    · exact h.good x hx
    · simp at hx
      rw [hx]
      unfold goodB
      rw [hok, Bool.or_true]
theorem PIv.pol (h : PIv w G2 G5 g0 B s k a c rs wx) (hk : k ≤ 1000000) : PolOk wx a rs.length c rs := by
  obtain ⟨ad, c2, hv, hnc, _, hc⟩ := own_cellsA h.own
  injection hv with e1 e2 e3
  subst e1 e3
  exact ⟨rfl, hnc, by have := h.cnt; omega, hc, h.ok⟩
theorem lines_at {s : List UInt8} {k : Nat} {l : List UInt8} (h : (splitR 10 s)[k]? = some l) : (linesOf s)[k]? = some (wordsOf l) := by
  unfold linesOf
  rw [List.getElem?_map, h]; rfl
theorem lines_len (s : List UInt8) : (linesOf s).length = (splitR 10 s).length := by unfold linesOf; rw [List.length_map]
end

section
open Go Go.RowKit

theorem agg_polP : AggT Tryz.prog 25 1 := ⟨⟨_, Tryz.underlying25, rfl⟩, by kernel_rfl⟩
theorem pol_nil (w : World) : PolOk w none 0 0 [] := ⟨rfl, Nat.le_refl _, by omega, .inl rfl, fun _ h => by cases h⟩
theorem wds_first {w : World} {g cap : Nat} {l : List UInt8} {vs : List Value} (hb : Blk w g ((((splitR 32 (Lib.replaceAll (Lib.cut l [35]).1 [9] [32])).map strOf).filter fun s => !emptyB s).map encStr ++ vs) 9) (hc : (((splitR 32 (Lib.replaceAll (Lib.cut l [35]).1 [9] [32])).map strOf).filter fun s => !emptyB s).length ≤ cap) (hl : l.length ≤ 100000) :
    Wds w g (some ⟨g, 0, none⟩) (((splitR 32 (Lib.replaceAll (Lib.cut l [35]).1 [9] [32])).map strOf).filter fun s => !emptyB s).length cap (wordsOf l) := by
  have hw : (((splitR 32 (Lib.replaceAll (Lib.cut l [35]).1 [9] [32])).map strOf).filter fun s => !emptyB s) = wordsOf l := words_first _
  rw [hw] at hb hc ⊢
  have h1 := words_cnt l
  refine ⟨rfl, hc, by omega, fun s hs => by have := words_size l s hs; omega, .inr ⟨_, rfl, Nat.le_refl _⟩, ?_⟩
  have := (Cells.of_blk0 hb).take ((wordsOf l).map encStr).length
  rw [List.take_left'] at this
  · exact this
  · rfl

set_option maxRecDepth 100000 in
set_option maxHeartbeats 4000000 in
theorem parse_c (s : List UInt8) (w : World) (hl : LibP w) (hs63 : s.length ≤ 9223372036854775807) :
    Calls Tryz.prog 6 #[.string (strOf s)] w fun e w' => ∃ pa pn pc rs, e = .returned (.tuple #[.agg #[.slice pa pn pc], .int .i64 (parN s), .int .i64 (parE s)]) ∧ PolOk w' pa pn pc rs ∧ rs.map RuleR.bare = parR s ∧ Ext w w' := by
  have HL := hid hl
  have HAP := hid agg_polP
  have HAR := hid agg_rule
  have hsn := size_strOf s
  have HP := hid (show parE s = parE s from rfl)
  clear hl
  obtain ⟨R, hR⟩ : ∃ R : Ending → World → Prop, R = fun e w' => ∃ pa pn pc rs, e = .returned (.tuple #[.agg #[.slice pa pn pc], .int .i64 (parN s), .int .i64 (parE s)]) ∧ PolOk w' pa pn pc rs ∧ rs.map RuleR.bare = parR s ∧ Ext w w' := ⟨_, rfl⟩
  rw [← hR]
  have HR := hid hR
  clear hR HP
  go_enter Tryz.func6, Tryz.ntmps6
  go_upto_region 1 with fail
  generalize hwA : World.alloc w _ = wA
  have bA : Blk wA w.heap.size [.slice none 0 0] 25 := by rw [← hwA]; exact Blk.mk_alloc rfl rfl
  have eA : Ext w wA := by rw [← hwA]; exact (Ext.refl w).alloc _
  have hsA : wA.heap.size = w.heap.size + 1 := by rw [← hwA, size_allocP]
  have BA := hid bA
  have EA := hid eA
  have HSA := hid hsA
  clear hwA bA eA hsA
  by_cases hbig : 65536 < s.length
  · have d1 : decide ((65536 : Int) < (s.length : Int)) = true := decide_eq_true (by omega)
    have d2 : decide (65536 < s.length) = true := decide_eq_true (by omega)
    have HB := hid (par_large hbig)
    clear hbig
    go_wp2_with (refine wpl_storew rfl _ _ _ rfl rfl rfl BA.out HAP.out rfl (xs := [.slice none 0 0]) rfl (fun v hv => by simp at hv; rw [hv]; rfl) ?_)
    intro w1 b1 u1
    go_wp2_with fail
    refine ret_row3 rfl rfl b1 HAP.out rfl rfl ?_
    rw [HR.out]
    refine ⟨none, 0, 0, [], ?_, pol_nil _, ?_, u1.ext EA.out (Nat.le_refl _)⟩
    · rw [HB.out.1, HB.out.2.1]; rfl
    · rw [HB.out.2.2]; rfl
  have d1 : decide ((65536 : Int) < (s.length : Int)) = false := decide_eq_false (by omega)
  have d2 : decide (65536 < s.length) = false := decide_eq_false (by omega)
  have hlen : s.length ≤ 65536 := by omega
  have HBIG := hid hbig
  clear hbig
  go_upto_region 3 with fail
  go_wp2_with (refine wpl_storew rfl _ _ _ rfl rfl rfl (Blk.mk_alloc (vs := [.slice none 0 0]) rfl rfl) HAP.out rfl (xs := [.slice none 0 0]) rfl (fun v hv => by simp at hv; rw [hv]; rfl) ?_)
  intro w1 b1 u1
  have e1 : Ext wA w1 := u1.ext ((Ext.refl wA).alloc _) (Nat.le_refl _)
  have B5 := hid b1
  have B2 := hid (BA.out.ext e1)
  have E1 := hid (EA.out.ext e1)
  have hs1 : w1.heap.size = w.heap.size + 2 := by rw [u1.size, size_allocP, HSA.out]
  have HS1 := hid hs1
  rw [HSA.out] at B5 ⊢
  clear b1 u1 e1 BA EA hs1 d1 d2
  go_wp2_with fail
  refine (split_c s 10 w1 (by omega) (HL.out.ext E1.out).lw.ml).mono ?_
  rintro e w2 ⟨rfl, bL, e2⟩
  obtain ⟨N, hN⟩ : ∃ N, (splitR 10 s).length = N := ⟨_, rfl⟩
  have hNle : N ≤ 65537 := by have := splitR_cnt 10 s; omega
  have hg0 : w1.heap.size < w2.heap.size := bL.lt
  obtain ⟨G2, hG2⟩ : ∃ G, w.heap.size = G := ⟨_, rfl⟩
  obtain ⟨G5, hG5⟩ : ∃ G, w.heap.size + 1 = G := ⟨_, rfl⟩
  obtain ⟨g0, hgg⟩ : ∃ G, w1.heap.size = G := ⟨_, rfl⟩
  have I0 : PIv w G2 G5 g0 w2.heap.size s 0 none 0 [] w2 := by
    rw [← hG2, ← hG5, ← hgg]
    exact ⟨E1.out.ext e2, B2.out.ext e2, B5.out.ext e2, bL, ⟨rfl, .inl ⟨rfl, rfl⟩⟩, rfl, (fun _ h => by cases h), (fun _ h => by cases h), (fun _ h => by cases h), (fun _ h => by simp at h), Nat.le_refl _⟩
  have hGG : w.heap.size ≤ G2 ∧ G2 ≠ G5 ∧ w.heap.size ≤ G5 ∧ g0 ≠ G5 ∧ G5 < w2.heap.size ∧ G2 < w2.heap.size ∧ g0 < w2.heap.size ∧ w.heap.size ≤ w2.heap.size := by
    have := HS1.out
    omega
  have HGG := hid hGG
  have HNN := hid hN
  rw [hN, hG5, hG2, hgg]
  obtain ⟨BB, hBB⟩ : ∃ B, w2.heap.size = B := ⟨_, rfl⟩
  rw [hBB] at I0 HGG
  have HBB := hid hBB
  clear bL e2 hN hG5 hG2 hgg B2 B5 E1 HS1 HSA hg0 hGG hBB
  go_wp2_with fail
  go_loopw [20] (fun i wr => ∃ (k : Nat) (a : Option Addr) (c : Nat) (rs : List RuleR), k ≤ N ∧ i = .int .i64 (k : Int) ∧ PIv w G2 G5 g0 BB s k a c rs wr ∧ BB ≤ wr.heap.size) (fun i _ => N - (intOf i).toNat)
  case atStart => exact ⟨0, none, 0, [], by omega, rfl, I0, by rw [HBB.out]; exact Nat.le_refl _⟩
  case round =>
    obtain ⟨k, a, c, rs, hk, rfl, hI, hBw⟩ := hrel
    have P0 := hid hI
    have HOB : Hid (∀ g, (Value.slice a rs.length c).ownBlock = some g → g < wr.heap.size) := hid (fun g hg => (hI.own.lt g hg).2)
    clear hI I0
    by_cases hlt : k < N
    · have d1 : decide ((k : Int) < (N : Int)) = true := decide_eq_true (by omega)
      have d2 : decide (k < N) = true := decide_eq_true hlt
      obtain ⟨l, hlk⟩ : ∃ l, (splitR 10 s)[k]? = some l := ⟨(splitR 10 s)[k]'(by rw [HNN.out]; exact hlt), by simp⟩
      have hll : l.length ≤ 65536 := Nat.le_trans (splitR_len 10 s l (List.mem_of_getElem? hlk)) hlen
      have ck := P0.out.ln.cell' (i := k) (v := .string (strOf l)) (by rw [List.getElem?_map, List.getElem?_map, hlk]; rfl)
      have HLK := hid (lines_at hlk)
      have hcl := (cut_lens l [35]).1
      have hrl : (Lib.replaceAll (Lib.cut l [35]).1 [9] [32]).length = (Lib.cut l [35]).1.length := by rw [replaceAll_map, List.length_map]
      clear hlk
      go_wp2_with fail
      refine (cutS_c l [35] wr (by omega) (HL.out.ext P0.out.e).lw.ml).mono ?_
      rintro e v1 ⟨rfl, e1⟩
      have E1 := hid e1
      clear e1 ck
      go_wp2_with fail
      refine (repl_c (Lib.cut l [35]).1 v1 (by omega) (HL.out.ext (P0.out.e.ext E1.out)).lw.ml).mono ?_
      rintro e v2 ⟨rfl, e2⟩
      have E2 := hid (E1.out.ext e2)
      clear e2 E1
      go_wp2_with fail
      refine (split_c (Lib.replaceAll (Lib.cut l [35]).1 [9] [32]) 32 v2 (by omega) (HL.out.ext (P0.out.e.ext E2.out)).lw.ml).mono ?_
      rintro e v3 ⟨rfl, b3, e3⟩
      have E3 := hid (E2.out.ext e3)
      have hcnt := splitR_cnt 32 (Lib.replaceAll (Lib.cut l [35]).1 [9] [32])
      have hs2 := E2.out.size
      have B3 := hid b3
      clear e3 E2 b3
      obtain ⟨g1, hg1⟩ : ∃ g, v2.heap.size = g := ⟨_, rfl⟩
      rw [hg1] at B3 hs2 ⊢
      clear hg1
      have hdel := hid (del_c ((splitR 32 (Lib.replaceAll (Lib.cut l [35]).1 [9] [32])).map strOf) g1 (splitR 32 (Lib.replaceAll (Lib.cut l [35]).1 [9] [32])).length v3 B3.out (by rw [List.length_map]; omega) (by rw [List.length_map]; exact Nat.le_refl _))
      rw [List.length_map] at hdel
      have hfl : (((splitR 32 (Lib.replaceAll (Lib.cut l [35]).1 [9] [32])).map strOf).filter fun s => !emptyB s).length ≤ (splitR 32 (Lib.replaceAll (Lib.cut l [35]).1 [9] [32])).length := by
        have := List.length_filter_le (fun s => !emptyB s) ((splitR 32 (Lib.replaceAll (Lib.cut l [35]).1 [9] [32])).map strOf)
        rw [List.length_map] at this
        exact this
      go_wp2_with fail
      refine hdel.out.mono ?_
      rintro e v4 ⟨rfl, ⟨vs, b4⟩, u4⟩
      have hw := wds_first b4 hfl (by omega)
      have e4 : Ext wr v4 := u4.ext E3.out hs2
      have P4 := hid (P0.out.ext e4)
      have hs4 := e4.size
      have hg14 : g1 < v4.heap.size := b4.lt
      clear hdel b4 u4 e4 E3 B3 P0 hcnt hfl hrl hcl
      generalize (((splitR 32 (Lib.replaceAll (Lib.cut l [35]).1 [9] [32])).map strOf).filter fun s => !emptyB s).length = m at *
      generalize (splitR 32 (Lib.replaceAll (Lib.cut l [35]).1 [9] [32])).length = cap at *
      have hwl := hw.hl
      have HW := hid hw
      clear hw
      by_cases h0 : m = 0
      · have HW0 := hid (List.length_eq_zero_iff.1 (hwl.trans h0))
        subst h0
        clear hwl HW
        go_wp2_with fail
        go_roundw
        case rel => exact ⟨k + 1, a, c, rs, by omega, by go_num, P4.out.skip HLK.out HW0.out, by omega⟩
        case measure => simp [intOf]; omega
      have g1' : ((m : Int) == 0) = false := by simp; exact h0
      have g2' : decide ((m : Int) = 0) = false := decide_eq_false (by omega)
      have g3' : decide (m = 0) = false := decide_eq_false h0
      have HWN : Hid (wordsOf l ≠ []) := hid (fun e => h0 (by rw [← hwl, e]; rfl))
      clear hwl
      go_wp2_with fail
      refine (readRule_c g1 (some ⟨g1, 0, none⟩) m cap (wordsOf l) v4 HW.out (HL.out.ext P4.out.e) (by omega)).mono ?_
      rintro e v5 ⟨r, rfl, hr, e5⟩
      have P5 := hid (P4.out.ext e5)
      have hs5 := e5.size
      have HRK := hid hr
      obtain ⟨b, hb⟩ : ∃ b, okR (wordsOf l) = b := ⟨_, rfl⟩
      have HBK := hid hb
      rw [hb] at HRK ⊢
      clear hb hr e5 P4 HW h0 g1' g2' g3'
      have HRL := hid (RuleR.len r)
      have HRO := hid (ruleV_one r)
      go_wp2_with (refine wpl_storew rfl _ _ _ rfl rfl rfl (Blk.mk_alloc (vs := zeroRule) rfl rfl) HAR.out rfl (xs := r.v) HRL.out HRO.out ?_)
      intro v6 b9 u9
      have e6 : Ext v5 v6 := u9.ext ((Ext.refl v5).alloc _) (Nat.le_refl _)
      have P6 := hid (P5.out.ext e6)
      have B9 := hid b9
      have E6 := hid e6
      have hs6 := e6.size
      clear b9 u9 e6 P5
      cases b with
      | false =>
        have hbad : badAt (linesOf s) = some k := badAt_some HLK.out P6.out.good (by
          unfold goodB
          rw [HBK.out, Bool.or_false]
          cases hq : wordsOf l with
          | nil => exact absurd hq HWN.out
          | cons y z => rfl)
        have HPB := hid (par_bad HBIG.out hbad)
        clear hbad
        go_wp2_with (refine wpl_storew rfl _ _ _ rfl rfl rfl P6.out.b2 HAP.out rfl (xs := [.slice none 0 0]) rfl (fun v hv => by simp at hv; rw [hv]; rfl) ?_)
        intro v7 b7 u7
        go_wp2_with fail
        refine ret_row3 rfl rfl b7 HAP.out rfl rfl ?_
        rw [HR.out]
        refine ⟨none, 0, 0, [], ?_, pol_nil _, ?_, u7.ext P6.out.e HGG.out.1⟩
        · rw [HPB.out.1, HPB.out.2.1]; rfl
        · rw [HPB.out.2.2]; rfl
      | true =>
        have hr2 : r.bare = ruleOf (wordsOf l) ∧ r.Ok v5 ∧ r.Hi g1 := by first | exact HRK.out rfl | exact HRK.out trivial
        have HR2 := hid hr2
        have c5 := P6.out.b5.cell' (i := 0) rfl
        have HTE := hid elem_ruleP
        have hrk := P6.out.cnt
        clear hr2 HRK
        go_wp2_with (first | (refine wpl_loadw rfl 51 _ rfl rfl B9.out HAR.out HRL.out ?_) | (refine wpl_buildOneP HTE.out (by decide) rfl rfl rfl HRL.out ?_) | (refine wpl_appendA (n := rs.length) (m := 1) (c := 1) (xs := rulesV rs) (news := r.v) HTE.out rfl _ _ rfl BB rfl rfl (own_extP P6.out.own ((Ext.refl _).alloc _)) HRL.out (Nat.le_refl _) (fun h => by cases h) (Cells.of_blk0 (Blk.mk_alloc rfl rfl)) HRO.out (by omega) (by omega) (by rw [size_allocP]; omega) ?_))
        intro va v8 hown hgrow hnil
        obtain ⟨a', c', rfl, _, _, _⟩ := own_cellsA hown
        have HOW := hid hown
        have HGR := hid hgrow
        have HNL := hid hnil
        have hge : ∀ g, (Value.slice a rs.length c).ownBlock = some g → BB ≤ g := fun g hg => (P6.out.own.lt g hg).1
        have b8 : Blk v8 G5 [.slice a rs.length c] 25 := (P6.out.b5.alloc _).grown hgrow (fun e => by
          have h1 := hge G5 e.symm
          have h2 := HGG.out
          omega)
        have hs8 := hgrow.size
        rw [size_allocP] at hs8
        have B8 := hid b8
        have c8 := b8.cell' (i := 0) rfl
        have f8 := b8.frozen 0
        clear hown hgrow hnil hge b8 c5
        go_wp2_with fail
        go_roundw
        case rel =>
          refine ⟨k + 1, a', c', rs ++ [r], by omega, by go_num, ?_, by rw [(Upd.setCell (w := v8) (g := G5) (i := 0) _).size]; omega⟩
          obtain ⟨q1, q2, q3, q4, q5, q6, q7, q8⟩ := HGG.out
          exact (P6.out.ext ((Ext.refl _).alloc _)).push HLK.out HWN.out HBK.out q1 q2 q3 q4 q5 q6 q7 q8 (g1 := g1) HR2.out.1 ((HR2.out.2.1.ext E6.out).ext ((Ext.refl _).alloc _)) HR2.out.2.2 (by omega) (fun g hg => Nat.lt_of_lt_of_le (HOB.out g hg) hs2) HOW.out HGR.out (by rw [size_allocP]; exact HNL.out) (Upd.setCell _) (B8.out.set 0 _)
        case measure => simp [intOf]; omega
    · obtain rfl : k = N := by omega
      have d1 : decide ((k : Int) < (k : Int)) = false := decide_eq_false (by omega)
      have hall : (linesOf s).take k = linesOf s := List.take_of_length_le (by rw [lines_len, HNN.out]; exact Nat.le_refl _)
      have hru := P0.out.ru
      have hgo := P0.out.good
      rw [hall] at hru hgo
      have hpa := par_all HBIG.out (badAt_none hgo)
      have hle : (rulesOf (linesOf s)).length = rs.length := by rw [← hru, List.length_map]
      rw [hle, polE_bare hru] at hpa
      have HRU := hid hru
      have HPA := hid hpa
      have HPO := hid (P0.out.pol (by omega))
      clear hall hru hgo hpa hle
      have hck := hid (fun w1 (h : PolOk w1 a rs.length c rs) => check_c a rs.length c rs w1 h)
      go_wp2_with (refine wpl_loadw rfl 25 _ rfl rfl P0.out.b5 HAP.out rfl ?_)
      refine (hck.out wr HPO.out).mono ?_
      rintro e v1 ⟨rfl, e1⟩
      have P1 := hid (P0.out.ext e1)
      have HPO1 := hid (HPO.out.ext e1)
      clear e1 hck P0 HPO
      by_cases hE : polE rs rs.length = 0
      · have HR0 := hid (show parE s = 0 from HPA.out.1.trans hE)
        have n1 : (polE rs rs.length != 0) = false := by simp [hE]
        have n2 : decide (polE rs rs.length = 0) = true := decide_eq_true hE
        generalize polE rs rs.length = E at *
        subst hE
        go_wp2_with (first | (refine wpl_loadw rfl 25 _ rfl rfl P1.out.b5 HAP.out rfl ?_) | (refine wpl_storew rfl _ _ _ rfl rfl rfl P1.out.b2 HAP.out rfl (xs := [.slice a rs.length c]) rfl (fun v hv => by simp at hv; rw [hv]; rfl) ?_))
        intro v7 b7 u7
        go_wp2_with fail
        refine ret_row3 rfl rfl b7 HAP.out rfl rfl ?_
        rw [HR.out]
        refine ⟨a, rs.length, c, rs, ?_, ?_, ?_, u7.ext P1.out.e HGG.out.1⟩
        · rw [HR0.out, HPA.out.2]; rfl
        · have p := P1.out
          have q := HGG.out
          refine ⟨rfl, HPO1.out.hnc, HPO1.out.hm, ?_, fun r hr => (p.ok r hr).gro ((p.hi r hr).off (q := some G2) (fun g e => by injection e with e; omega)) (upd_grownA u7)⟩
          obtain ⟨_, _, hv, _, _, hc⟩ := own_cellsA (own_beside p.own (upd_grownA u7) (fun g hg e => by
            injection e with e
            have := (p.own.lt g hg).1
            omega))
          injection hv with e1 e2 e3
          rw [e1]
          exact hc
        · unfold parR
          rw [if_pos HR0.out]
          exact HRU.out
      · have HR0 := hid (show parE s ≠ 0 from fun e => hE (HPA.out.1.symm.trans e))
        have n1 : (polE rs rs.length != 0) = true := by simp [hE]
        have n2 : decide (polE rs rs.length = 0) = false := decide_eq_false hE
        have HPA1 := hid HPA.out.1
        generalize polE rs rs.length = E at *
        clear hE
        go_wp2_with (refine wpl_storew rfl _ _ _ rfl rfl rfl P1.out.b2 HAP.out rfl (xs := [.slice none 0 0]) rfl (fun v hv => by simp at hv; rw [hv]; rfl) ?_)
        intro v7 b7 u7
        go_wp2_with fail
        refine ret_row3 rfl rfl b7 HAP.out rfl rfl ?_
        rw [HR.out]
        refine ⟨none, 0, 0, [], ?_, pol_nil _, ?_, u7.ext P1.out.e HGG.out.1⟩
        · rw [HPA1.out, HPA.out.2]; rfl
        · unfold parR
          rw [if_neg HR0.out]
          rfl
end

section
open Go Go.RowKit Go.Shelf

theorem blankF (x : Nat) (w : World) : Calls Tryz.prog 23 #[.int .i32 (x : Int)] w fun e w' => e = .returned (.bool (blankR x)) ∧ ∃ q, w' = w.drewN q := by
  unfold blankR
  by_cases h1 : x = 32
  · subst h1
    go_enter Tryz.func23, Tryz.ntmps23
    go_wp2
    go_ret
    exact ⟨rfl, 0, rfl⟩
  by_cases h2 : x = 9
  · subst h2
    go_enter Tryz.func23, Tryz.ntmps23
    go_wp2
    go_ret
    exact ⟨rfl, 0, rfl⟩
  have a1 : ((x : Int) == 32) = false := by simp; omega
  have a2 : decide ((x : Int) = 32) = false := decide_eq_false (by omega)
  have a3 : ((x : Int) == 9) = false := by simp; omega
  have a4 : decide ((x : Int) = 9) = false := decide_eq_false (by omega)
  have R : (x == 32 || x == 9) = false := by simp; exact ⟨h1, h2⟩
  rw [R]
  clear R
  go_enter Tryz.func23, Tryz.ntmps23
  go_wp2
  go_ret
  exact ⟨rfl, 0, rfl⟩
theorem ff_c (l : List UInt8) (w : World) (hl : l.length ≤ 100000) :
    Calls Tryz.prog 22 #[.string (strOf l), .func (.func 23) #[] #[]] w fun e w' => ∃ A, e = .returned (.slice (some ⟨A, 0, none⟩) (wordsTL l).length (wordsTL l).length) ∧
      Wds w' w.heap.size (some ⟨A, 0, none⟩) (wordsTL l).length (wordsTL l).length ((wordsTL l).map strOf) ∧ Ext w w' := by
  have h := Any.strings_FieldsFunc_runes ffL 23 #[] (enters_ofU Tryz.func23 (by kernel_rfl) rfl) blankR (strOf l) w (by rw [size_strOf]; omega) (fun W x _ _ => blankF x W) (by kernel_rfl) (by kernel_rfl)
  have hg : Lib.goFieldsP blankR (strOf l) = (wordsTL l).map strOf := by
    have := words_two (strOf l)
    rw [toList_strOf] at this
    rw [← this, map_strOf_back]
  rw [hg, List.length_map] at h
  refine h.mono ?_
  rintro e w' ⟨A, rfl, h1, h2, h3⟩
  obtain ⟨_, _, hv, _, _, hc⟩ := own_cellsA h2
  injection hv with e1 e2 e3
  rw [← e1] at hc
  have h5 := wordsG_cnt blankB l []
  refine ⟨A, rfl, ⟨by rw [List.length_map], Nat.le_refl _, ?_, ?_, .inr ⟨_, rfl, h1⟩, hc⟩, h3⟩
  · show (wordsG blankB [] l).length ≤ _
    omega
  · intro s hs
    obtain ⟨y, hy, rfl⟩ := List.mem_map.1 hs
    have := wordsG_len blankB l [] y hy
    rw [size_strOf]
    simp at this
    omega

def partWs : List ByteArray := [wdRole, wdAct, wdOn, wdAt, wdNeed]
theorem partWs_mem (x : ByteArray) : partB x = true ↔ x ∈ partWs := by
  unfold partB partWs
  simp only [Bool.or_eq_true, decide_eq_true_eq, List.mem_cons, List.not_mem_nil, or_false, or_assoc]
theorem partWord_c (x : ByteArray) (w : World) : Calls Tryz.prog 46 #[.string x] w fun e w' => e = .returned (.bool (partB x)) ∧ Ext w w' := by
  go_enter Tryz.func46, Tryz.ntmps46
  go_wp2_with fail
  generalize hwA : World.alloc w _ = wA
  have bA : Blk wA w.heap.size (partWs.map encStr) 9 := by rw [← hwA]; exact Blk.mk_alloc rfl rfl
  have eA : Ext w wA := by rw [← hwA]; exact (Ext.refl w).alloc _
  have BA := hid bA
  have EA := hid eA
  clear hwA bA eA
  refine (containsS_c x partWs (some ⟨w.heap.size, 0, none⟩) 5 5 wA rfl (by omega) (Cells.of_blk0 BA.out)).mono ?_
  rintro e w1 ⟨b, rfl, hb, rfl⟩
  have hbb : b = partB x := by
    rw [Bool.eq_iff_iff, hb, partWs_mem]
  subst hbb
  clear hb
  go_wp2_with fail
  go_ret
  exact ⟨rfl, EA.out⟩

theorem numOfP_b (l : List UInt8) : -9223372036854775808 ≤ numOf l ∧ numOf l ≤ 9223372036854775807 := by
  unfold numOf
  cases h : Lib.atoiAll l with
  | ok v => exact Lib.atoiAll_bounds h
  | range =>
    simp only [Lib.atoiSat]
    split <;> omega
  | _ => simp

set_option maxHeartbeats 1000000 in
theorem small_c (l : List UInt8) (w : World) (hl : l.length ≤ 1000000) (hw : LibW w) :
    Calls Tryz.prog 49 #[.string (strOf l)] w fun e w' => e = .returned (.tuple #[.int .i64 (numOf l), .bool (numB l)]) ∧ Ext w w' := by
  have hsm := (smallB_eq l).1
  rw [← hsm]
  clear hsm
  have hsn := size_strOf l
  have heqs := bytes_eqW (strOf (Lib.itoa (numOf l))) (strOf l)
  have hdd : decide (strOf (Lib.itoa (numOf l)) = strOf l) = decide (Lib.itoa (numOf l) = l) := by
    congr 1
    exact propext ⟨fun e => by have := congrArg (fun s => s.data.toList) e; simpa [strOf] using this, fun e => by rw [e]⟩
  rw [hdd] at heqs
  have hnb := numOfP_b l
  have hit := hid (fun w h => itoa_c (numOf l) w hnb.1 hnb.2 h)
  have HW := hid hw
  have hok := hid (fun h => atoi_ok l w (by omega) h)
  have hno := hid (fun h => atoi_no l w (by omega) h hw)
  have HSM := hid (show smallB l = (numOk l && decide (0 ≤ numOf l) && decide (l.length ≤ 3) && decide (Lib.itoa (numOf l) = l)) from rfl)
  clear hdd hw
  obtain ⟨S, hS⟩ : ∃ S, smallB l = S := ⟨_, rfl⟩
  have HS := hid hS
  rw [hS]
  clear hS hnb
  generalize hO : numOk l = ok at *
  generalize Lib.itoa (numOf l) = it at *
  generalize numOf l = N at *
  cases ok with
  | false =>
    have hsf : S = false := by rw [← HS.out, HSM.out]; rfl
    have HSF := hid hsf
    clear hsf
    go_enter Tryz.func49, Tryz.ntmps49
    go_wp2_with fail
    refine (hno.out (by first | rfl | trivial | exact hO)).mono ?_
    rintro e w1 ⟨NN, rfl, e1⟩
    have E1 := hid e1
    clear e1
    go_wp2_with fail
    go_ret2
    exact ⟨by rw [HSF.out]; rfl, E1.out⟩
  | true =>
    by_cases h0 : 0 ≤ N
    · by_cases h3 : l.length ≤ 3
      · have d0 : decide (0 ≤ N) = true := decide_eq_true h0
        have d3 : decide (l.length ≤ 3) = true := decide_eq_true h3
        have d3i : decide ((l.length : Int) ≤ 3) = true := decide_eq_true (by omega)
        have hsf : S = decide (it = l) := by rw [← HS.out, HSM.out, d0, d3]; rfl
        have HSF := hid hsf
        clear hsf
        generalize decide (it = l) = q at *
        go_enter Tryz.func49, Tryz.ntmps49
        go_wp2_with fail
        refine (hok.out (by first | rfl | trivial | exact hO)).mono ?_
        rintro e w1 ⟨rfl, e1⟩
        have E1 := hid e1
        clear e1
        go_wp2_with fail
        refine (hit.out w1 (HW.out.ext E1.out).pw).mono ?_
        rintro e w2 ⟨rfl, e2⟩
        have E2 := hid (E1.out.ext e2)
        clear e2
        go_wp2_with fail
        go_ret2
        exact ⟨by rw [HSF.out]; rfl, E2.out⟩
      · have d0 : decide (0 ≤ N) = true := decide_eq_true h0
        have d3 : decide (l.length ≤ 3) = false := decide_eq_false h3
        have d3i : decide ((l.length : Int) ≤ 3) = false := decide_eq_false (by omega)
        have hsf : S = false := by rw [← HS.out, HSM.out, d0, d3]; rfl
        have HSF := hid hsf
        clear hsf hit
        go_enter Tryz.func49, Tryz.ntmps49
        go_wp2_with fail
        refine (hok.out (by first | rfl | trivial | exact hO)).mono ?_
        rintro e w1 ⟨rfl, e1⟩
        have E1 := hid e1
        clear e1
        go_wp2_with fail
        go_ret2
        exact ⟨by rw [HSF.out]; rfl, E1.out⟩
    · have d0 : decide (0 ≤ N) = false := decide_eq_false h0
      have hsf : S = false := by rw [← HS.out, HSM.out, d0]; rfl
      have HSF := hid hsf
      clear hsf hit
      go_enter Tryz.func49, Tryz.ntmps49
      go_wp2_with fail
      refine (hok.out (by first | rfl | trivial | exact hO)).mono ?_
      rintro e w1 ⟨rfl, e1⟩
      have E1 := hid e1
      clear e1
      go_wp2_with fail
      go_ret2
      exact ⟨by rw [HSF.out]; rfl, E1.out⟩
end

section
open Go Go.RowKit

theorem gbw_ext0 {w w1 : World} {r : Option Nat} (e : Ext w w1) : w.grownBy w1 r := gbw_ext (gbw_self w r) e

set_option maxRecDepth 100000 in
set_option maxHeartbeats 2000000 in
theorem rlist_c (G B : Nat) (T : TypeId) (a : Option Addr) (n c : Nat) (ws : List ByteArray) (nm : ByteArray) (w0 w : World) (hG : Blk w G [.slice a n c] T) (hw : Wds w0 B a n c ws) (he : Ext w0 w) (hg : w0.heap.size ≤ G) :
    Calls Tryz.prog 45 #[.string nm, .pointer (some ⟨G, 0, none⟩)] w fun e w' => ∃ al nl cl a' n' c', e = .returned (.tuple #[.slice al nl cl, .bool (!secB nm ws || !(secL nm ws).isEmpty)]) ∧
      Wds w0 B al nl cl (secL nm ws) ∧ Wds w0 B a' n' c' (secR nm ws) ∧ Blk w' G [.slice a' n' c'] T ∧ w.grownBy w' (some G) := by
  have c0 := hG.cell' (i := 0) rfl
  have f0 := hG.frozen 0
  have HG := hid hG
  have HE := hid he
  have HW := hid hw
  obtain ⟨b, hb⟩ : ∃ b, secB nm ws = b := ⟨_, rfl⟩
  have HB := hid hb
  rw [hb]
  obtain ⟨lst, hlst⟩ : ∃ lst, secL nm ws = lst := ⟨_, rfl⟩
  have HLST := hid hlst
  rw [hlst]
  obtain ⟨R, hR⟩ : ∃ R : Ending → World → Prop, R = fun e w' => ∃ al nl cl a' n' c', e = .returned (.tuple #[.slice al nl cl, .bool (!b || !lst.isEmpty)]) ∧
      Wds w0 B al nl cl lst ∧ Wds w0 B a' n' c' (secR nm ws) ∧ Blk w' G [.slice a' n' c'] T ∧ w.grownBy w' (some G) := ⟨_, rfl⟩
  rw [← hR]
  have HR := hid hR
  clear hR hlst hb
  by_cases hbt : b = false
  · subst hbt
    have hl0 : lst = [] := by rw [← HLST.out]; exact secL_off HB.out
    have hr0 : secR nm ws = ws := by unfold secR; rw [HB.out]; rfl
    have fin : ∀ e, e = Ending.returned (.tuple #[.slice none 0 0, .bool true]) → R e w := by
      rintro e rfl
      rw [HR.out, hr0, hl0]
      exact ⟨none, 0, 0, a, n, c, rfl, Wds.nil _ _, HW.out, HG.out, gbw_self _ _⟩
    have FIN := hid fin
    clear fin hl0 hr0
    cases ws with
    | nil =>
      obtain rfl : n = 0 := HW.out.hl.symm
      clear hw hG he
      go_enter Tryz.func45, Tryz.ntmps45
      go_wp2
      (try go_ret2)
      exact FIN.out _ rfl
    | cons x r =>
      obtain ⟨A, rfl, hca⟩ := (HW.out.ext HE.out).at (k := 0) (x := x) rfl
      rw [addr_a0] at hca
      have hn : 1 ≤ n := by have := HW.out.hl; simp at this; omega
      have n0 : ((n : Int) == 0) = false := by simp; omega
      have n1 : decide ((n : Int) = 0) = false := by simp; omega
      have n2 : decide (n = 0) = false := by simp; omega
      have n3 : 0 < n := by omega
      have hq := bytes_eqW x nm
      rw [show decide (x = nm) = false from HB.out] at hq
      clear hw hG he hn
      go_enter Tryz.func45, Tryz.ntmps45
      go_wp2
      (try go_ret2)
      exact FIN.out _ rfl
  obtain rfl : b = true := by cases b <;> simp_all
  obtain ⟨x, r, rfl⟩ : ∃ x r, ws = x :: r := by
    cases ws with
    | nil => exact absurd HB.out (by simp [secB])
    | cons x r => exact ⟨x, r, rfl⟩
  have hl1 : lst = r.take (upN r) := by rw [← HLST.out]; unfold secL; rw [HB.out]; rfl
  have hr1 : secR nm (x :: r) = r.drop (upN r) := by unfold secR; rw [HB.out]; rfl
  rw [hr1] at HR
  have HL1 := hid hl1
  obtain ⟨A, rfl, hca⟩ := (HW.out.ext HE.out).at (k := 0) (x := x) rfl
  rw [addr_a0] at hca
  have hn : 1 ≤ n := by have := HW.out.hl; simp at this; omega
  have HN := hid hn
  have n0 : ((n : Int) == 0) = false := by simp; omega
  have n1 : decide ((n : Int) = 0) = false := by simp; omega
  have n2 : decide (n = 0) = false := by simp; omega
  have hq := bytes_eqW x nm
  rw [show decide (x = nm) = true from HB.out] at hq
  have HW1 := hid (HW.out.drop hn)
  clear hw hG he hn hl1 hr1 hbt HLST
  go_enter Tryz.func45, Tryz.ntmps45
  go_upto_region 4 with (refine wpl_run rfl (exec_slLow (p := some A) (n := n) (c := c) (k := 1) rfl rfl rfl Tryz.underlying42 size_str1 HN.out _) ?_)
  have hw1 := HW1.out
  rw [show (x :: r).drop 1 = r from rfl] at hw1
  obtain ⟨a1, ha1⟩ : ∃ a1, shift (some A) c 1 = a1 := ⟨_, rfl⟩
  obtain ⟨m1, hm1⟩ : ∃ m1, n - 1 = m1 := ⟨_, rfl⟩
  obtain ⟨c1, hc1⟩ : ∃ c1, c - 1 = c1 := ⟨_, rfl⟩
  rw [ha1, hm1, hc1] at hw1 ⊢
  obtain ⟨w1, hw1e⟩ : ∃ W, World.setCell w ⟨G, 0, none⟩ (.slice a1 m1 c1) = W := ⟨_, rfl⟩
  rw [hw1e]
  have b1 : Blk w1 G [.slice a1 m1 c1] T := by rw [← hw1e]; exact HG.out.set 0 (.slice a1 m1 c1)
  have u1 : Upd w G w1 := by rw [← hw1e]; exact Upd.setCell _
  have HW2 := hid hw1
  have B1 := hid b1
  have E1 := hid (u1.ext HE.out hg)
  have G1 := hid (gbw_upd (gbw_self w (some G)) u1)
  have hm63 := hw1.hm
  clear hw1 b1 u1 hw1e ha1 hm1 hc1 HW1 HN n0 n1 n2 hq hca c0 f0 HG HE HB
  go_wp2_with fail
  go_loopw [5] (fun i wr => ∃ k : Nat, k ≤ m1 ∧ i = .int .i64 (k : Int) ∧ (∀ x ∈ r.take k, partB x = false) ∧ Ext w1 wr) (fun i _ => m1 - (intOf i).toNat)
  case atStart => exact ⟨0, by omega, rfl, by simp, Ext.refl _⟩
  case round =>
    obtain ⟨k, hk, rfl, hpre, e1⟩ := hrel
    have HP := hid hpre
    have ER := hid e1
    have BR := hid (B1.out.ext e1)
    have ck := BR.out.cell' (i := 0) rfl
    have fk := BR.out.frozen 0
    clear hpre e1
    have fin : ∀ (k : Nat) (w2 w3 : World), k ≤ m1 → k = upN r → Ext w1 w2 → Blk w3 G [.slice (shift a1 c1 k) (m1 - k) (c1 - k)] T → Upd w2 G w3 → ∀ e, e = Ending.returned (.tuple #[.slice a1 k c1, .bool (decide ((0 : Int) < (k : Int)))]) → R e w3 := by
      rintro k w2 w3 hk hu e2 b3 u3 e rfl
      rw [HR.out]
      have hnc := HW2.out.hnc
      have hll : lst = r.take k := by rw [HL1.out, hu]
      refine ⟨a1, k, c1, shift a1 c1 k, m1 - k, c1 - k, ?_, ?_, ?_, b3, gbw_upd (gbw_ext G1.out e2) u3⟩
      · have : decide ((0 : Int) < (k : Int)) = (!true || !lst.isEmpty) := by
          have hlen : lst.length = k := by
            have := (HW2.out.take hk (Nat.le_trans hk hnc)).hl
            rw [hll]; exact this
          cases lst with
          | nil => simp at hlen; subst hlen; rfl
          | cons y z => simp at hlen; simp; omega
        rw [this]
      · rw [hll]; exact HW2.out.take hk (Nat.le_trans hk hnc)
      · rw [← hu]; exact HW2.out.drop hk
    have FIN := hid fin
    clear fin
    by_cases hlt : k < m1
    · have d1 : decide ((k : Int) < (m1 : Int)) = true := decide_eq_true (by omega)
      have d2 : decide (k < m1) = true := decide_eq_true hlt
      obtain ⟨y, hy⟩ : ∃ y, r[k]? = some y := ⟨r[k]'(by rw [HW2.out.hl]; exact hlt), by simp⟩
      obtain ⟨A1, rfl, hcy⟩ := (HW2.out.ext (E1.out.ext ER.out)).at hy
      have HY := hid hy
      have hp := partWord_c y wr
      obtain ⟨q, hqq⟩ : ∃ q, partB y = q := ⟨_, rfl⟩
      rw [hqq] at hp
      have HQ := hid hqq
      have HPW := hid hp
      clear hy hqq hp
      go_wp2_with fail
      refine HPW.out.mono ?_
      rintro e w2 ⟨rfl, e2⟩
      have ER2 := hid (ER.out.ext e2)
      have BR2 := hid (BR.out.ext e2)
      clear e2 HPW ck fk BR ER
      have ck := BR2.out.cell' (i := 0) rfl
      have fk := BR2.out.frozen 0
      cases q with
      | false =>
        go_wp2_with fail
        go_roundw
        case rel =>
          refine ⟨k + 1, by omega, by go_num, (fun z hz => ?_), ER2.out⟩
          rw [List.take_add_one, HY.out, List.mem_append] at hz
          rcases hz with hz | hz
          · exact HP.out z hz
          · simp at hz; rw [hz]; exact HQ.out
        case measure => simp [intOf]; omega
      | true =>
        have HU := hid (show k = upN r from (upN_of (by rw [HW2.out.hl]; exact hk) HP.out (fun z hz => by rw [HY.out] at hz; injection hz with hz; rw [← hz]; exact HQ.out)).symm)
        have HLT := hid hlt
        have HNC := hid HW2.out.hnc
        clear hlt d1 d2 hk hcy HP
        go_upto_region 7 with fail
        go_wp2_with (first | (refine wpl_run rfl (exec_slHigh (p := some A1) (n := m1) (c := c1) (k := k) rfl rfl rfl Tryz.underlying42 size_str1 (by have := HLT.out; have := HNC.out; omega) _) ?_) | (refine wpl_run rfl (exec_slLow (p := some A1) (n := m1) (c := c1) (k := k) rfl rfl rfl Tryz.underlying42 size_str1 (by have := HLT.out; omega) _) ?_))
        (try go_ret2)
        exact FIN.out k w2 _ (Nat.le_of_lt HLT.out) HU.out ER2.out (BR2.out.set 0 _) (Upd.setCell _) _ (by first | rfl | simp)
    · obtain rfl : k = m1 := by omega
      have HU := hid (show k = upN r from (upN_of (by rw [HW2.out.hl]; exact hk) HP.out (fun z hz => by
        have := (List.getElem?_eq_some_iff.1 hz).1
        rw [HW2.out.hl] at this
        omega)).symm)
      have HNC := hid HW2.out.hnc
      clear HP hk
      go_upto_region 7 with fail
      go_wp2_with (first | (refine wpl_run rfl (exec_slHigh (p := a1) (n := k) (c := c1) (k := k) rfl rfl rfl Tryz.underlying42 size_str1 HNC.out _) ?_) | (refine wpl_run rfl (exec_slLow (p := a1) (n := k) (c := c1) (k := k) rfl rfl rfl Tryz.underlying42 size_str1 (Nat.le_refl _) _) ?_))
      (try go_ret2)
      refine FIN.out k wr _ (Nat.le_refl _) HU.out ER.out ?_ (Upd.setCell _) _ (by first | rfl | simp)
      rw [Nat.sub_self]
      exact BR.out.set 0 _
end

section
open Go Go.RowKit

structure Sl where
  a : Option Addr
  n : Nat
  c : Nat
def Sl.v (s : Sl) : Value := .slice s.a s.n s.c
def nilS : Sl := ⟨none, 0, 0⟩
def nmS : Nat → ByteArray
  | 0 => wdRole
  | 1 => wdAct
  | 2 => wdOn
  | 3 => wdAt
  | _ => wdNeed
def wdS : Nat → List ByteArray → List ByteArray
  | 0, ws => wd1 ws
  | k + 1, ws => secR (nmS k) (wdS k ws)
def seS (k : Nat) (ws : List ByteArray) : List ByteArray := secL (nmS k) (wdS k ws)
def fiS (k : Nat) (ws : List ByteArray) : Bool := !secB (nmS k) (wdS k ws) || !(seS k ws).isEmpty
def updS (q : Nat → Sl) (k : Nat) (s : Sl) : Nat → Sl := fun j => if j = k then s else q j
/-- the rule that is made, as far as the lists go -/
def rqR (d : Bool) (q : Nat → Sl) (ro la : List ByteArray) : RuleR := { x0R d with ra := (q 0).a, rn := (q 0).n, rc := (q 0).c, roles := ro, la := (q 2).a, ln := (q 2).n, lc := (q 2).c, labels := la }
def y1R (d : Bool) (ws : List ByteArray) : RuleR := { x0R d with rn := (rolesL ws).length, roles := rolesL ws, ln := (labsL ws).length, labels := labsL ws }
def y2R (d : Bool) (ws : List ByteArray) : RuleR := { y1R d ws with an := (actsL ws).length, acts := (actsL ws).map actI }
def y3R (d : Bool) (ws : List ByteArray) : RuleR := { y2R d ws with fr := frV (atL ws), tt := toV (atL ws) }
def y4R (d : Bool) (ws : List ByteArray) : RuleR := { y3R d ws with nd := ndV (needL ws), ow := ofV (needL ws) }
theorem y4R_eq (ws : List ByteArray) : y4R (secB wdDeny ws) ws = ruleOf ws := rfl
theorem y3R_no {d : Bool} {ws : List ByteArray} (h : atL ws = []) : y3R d ws = y2R d ws := by
  show ({ y2R d ws with fr := frV (atL ws), tt := toV (atL ws) } : RuleR) = y2R d ws
  rw [h]; rfl
theorem y4R_no {d : Bool} {ws : List ByteArray} (h : needL ws = []) : y4R d ws = y3R d ws := by
  show ({ y3R d ws with nd := ndV (needL ws), ow := ofV (needL ws) } : RuleR) = y3R d ws
  rw [h]; rfl
theorem y3R_yes {d : Bool} {ws : List ByteArray} {x : ByteArray} (h : atL ws = [x]) (h1 : numB (cutA x).1 = true) (h2 : numB (cutA x).2.1 = true) : { y2R d ws with fr := numOf (cutA x).1, tt := numOf (cutA x).2.1 } = y3R d ws := by
  show _ = ({ y2R d ws with fr := frV (atL ws), tt := toV (atL ws) } : RuleR)
  rw [h, (smallB_eq _).2 h1, (smallB_eq _).2 h2]
  rfl
theorem y4R_yes {d : Bool} {ws : List ByteArray} {x y : ByteArray} (h : needL ws = [x, y]) (h1 : numB x.data.toList = true) : { y3R d ws with nd := numOf x.data.toList, ow := y } = y4R d ws := by
  show _ = ({ y3R d ws with nd := ndV (needL ws), ow := ofV (needL ws) } : RuleR)
  rw [h, (smallB_eq _).2 h1]
  rfl
theorem okF_S (ws : List ByteArray) : okF ws = (headB ws && fiS 0 ws && fiS 1 ws && fiS 2 ws && fiS 3 ws && fiS 4 ws && (wd6 ws).isEmpty && actsB (actsL ws) && ((atL ws).isEmpty || atB (atL ws)) && ((needL ws).isEmpty || needB (needL ws))) := rfl
theorem okF_no {ws : List ByteArray} {k : Nat} (hk : k < 5) (h : fiS k ws = false) : okR ws = false := by
  rw [← okF_eq, okF_S]
  rcases (show k = 0 ∨ k = 1 ∨ k = 2 ∨ k = 3 ∨ k = 4 by omega) with rfl | rfl | rfl | rfl | rfl <;> rw [h] <;> simp
theorem okF_rest {ws : List ByteArray} (hh : headB ws = true) (h : ∀ j, j < 5 → fiS j ws = true) : okR ws = ((wd6 ws).isEmpty && actsB (actsL ws) && ((atL ws).isEmpty || atB (atL ws)) && ((needL ws).isEmpty || needB (needL ws))) := by
  rw [← okF_eq, okF_S, hh, h 0 (by omega), h 1 (by omega), h 2 (by omega), h 3 (by omega), h 4 (by omega)]
  simp

structure RfI (w : World) (B G1 G2 G5 G6 G7 G8 : Nat) (d : Bool) (ws : List ByteArray) (k : Nat) (q : Nat → Sl) (a : Option Addr) (n c : Nat) (wx : World) : Prop where
  e : Ext w wx
  b1 : Blk wx G1 [.slice a n c] 42
  wd : Wds w B a n c (wdS k ws)
  b2 : Blk wx G2 (rqR d q [] []).v 51
  b5 : Blk wx G5 [(q 1).v] 42
  b6 : Blk wx G6 [(q 3).v] 42
  b7 : Blk wx G7 [(q 4).v] 42
  b8 : Blk wx G8 [.pointer (some ⟨G2, 1, none⟩), .pointer (some ⟨G5, 0, none⟩), .pointer (some ⟨G2, 3, none⟩), .pointer (some ⟨G6, 0, none⟩), .pointer (some ⟨G7, 0, none⟩)] 81
  ql : ∀ j, j < 5 → Wds w B (q j).a (q j).n (q j).c (if j < k then seS j ws else [])
/-- the block that the place k lies in -/
def tgS (G2 G5 G6 G7 : Nat) : Nat → Nat
  | 0 => G2
  | 1 => G5
  | 2 => G2
  | 3 => G6
  | _ => G7
def ofS : Nat → Nat
  | 0 => 1
  | 2 => 3
  | _ => 0
variable {w wx wy wz : World} {B G1 G2 G5 G6 G7 G8 k n c n' c' : Nat} {d : Bool} {ws : List ByteArray} {q : Nat → Sl} {a a' : Option Addr} {s : Sl}
theorem RfI.ext (h : RfI w B G1 G2 G5 G6 G7 G8 d ws k q a n c wx) (e : Ext wx wy) : RfI w B G1 G2 G5 G6 G7 G8 d ws k q a n c wy :=
  { h with e := h.e.ext e, b1 := h.b1.ext e, b2 := h.b2.ext e, b5 := h.b5.ext e, b6 := h.b6.ext e, b7 := h.b7.ext e, b8 := h.b8.ext e }
/-- the closure took a part, its list is stored -/
theorem RfI.step (h : RfI w B G1 G2 G5 G6 G7 G8 d ws k q a n c wx) (hk : k < 5) (h0 : w.heap.size ≤ G1) (h12 : G1 < G2) (h25 : G2 < G5) (h56 : G5 < G6) (h67 : G6 < G7) (h78 : G7 < G8)
    (hb : Blk wy G1 [.slice a' n' c'] 42) (hg : wx.grownBy wy (some G1)) (hs : Wds w B s.a s.n s.c (seS k ws)) (hw : Wds w B a' n' c' (wdS (k + 1) ws))
    (hz : wz = wy.setCell ⟨tgS G2 G5 G6 G7 k, ofS k, none⟩ s.v) : RfI w B G1 G2 G5 G6 G7 G8 d ws (k + 1) (updS q k s) a' n' c' wz := by
  have u : Upd wy (tgS G2 G5 G6 G7 k) wz := by rw [hz]; exact Upd.setCell _
  have t1 : tgS G2 G5 G6 G7 k ≠ G1 := by
    rcases (show k = 0 ∨ k = 1 ∨ k = 2 ∨ k = 3 ∨ k = 4 by omega) with rfl | rfl | rfl | rfl | rfl <;> (simp only [tgS]; omega)
  have t8 : tgS G2 G5 G6 G7 k ≠ G8 := by
    rcases (show k = 0 ∨ k = 1 ∨ k = 2 ∨ k = 3 ∨ k = 4 by omega) with rfl | rfl | rfl | rfl | rfl <;> (simp only [tgS]; omega)
  have t0 : w.heap.size ≤ tgS G2 G5 G6 G7 k := by
    rcases (show k = 0 ∨ k = 1 ∨ k = 2 ∨ k = 3 ∨ k = 4 by omega) with rfl | rfl | rfl | rfl | rfl <;> (simp only [tgS]; omega)
  have ey : Ext w wy := h.e.grown hg (fun g e => by injection e with e; omega)
  have b2 := h.b2.grown hg (fun e => by injection e with e; omega)
  have b5 := h.b5.grown hg (fun e => by injection e with e; omega)
  have b6 := h.b6.grown hg (fun e => by injection e with e; omega)
  have b7 := h.b7.grown hg (fun e => by injection e with e; omega)
  have b8 := h.b8.grown hg (fun e => by injection e with e; omega)
  have ql : ∀ j, j < 5 → Wds w B (updS q k s j).a (updS q k s j).n (updS q k s j).c (if j < k + 1 then seS j ws else []) := by
    intro j hj
    unfold updS
    by_cases hjk : j = k
    · subst hjk
      rw [if_pos rfl, if_pos (by omega)]
      exact hs
    · have h1 := h.ql j hj
      rw [if_neg hjk]
      by_cases hlt : j < k
      · rw [if_pos hlt] at h1; rw [if_pos (by omega)]; exact h1
      · rw [if_neg hlt] at h1; rw [if_neg (by omega)]; exact h1
  refine ⟨u.ext ey t0, hb.upd u t1.symm, hw, ?_, ?_, ?_, ?_, b8.upd u t8.symm, ql⟩
  all_goals
    subst hz
    rcases (show k = 0 ∨ k = 1 ∨ k = 2 ∨ k = 3 ∨ k = 4 by omega) with rfl | rfl | rfl | rfl | rfl
  · exact b2.set 1 s.v
  · exact b2.upd u (by show G2 ≠ G5; omega)
  · exact b2.set 3 s.v
  · exact b2.upd u (by show G2 ≠ G6; omega)
  · exact b2.upd u (by show G2 ≠ G7; omega)
  · exact b5.upd u (by show G5 ≠ G2; omega)
  · exact b5.set 0 s.v
  · exact b5.upd u (by show G5 ≠ G2; omega)
  · exact b5.upd u (by show G5 ≠ G6; omega)
  · exact b5.upd u (by show G5 ≠ G7; omega)
  · exact b6.upd u (by show G6 ≠ G2; omega)
  · exact b6.upd u (by show G6 ≠ G5; omega)
  · exact b6.upd u (by show G6 ≠ G2; omega)
  · exact b6.set 0 s.v
  · exact b6.upd u (by show G6 ≠ G7; omega)
  · exact b7.upd u (by show G7 ≠ G2; omega)
  · exact b7.upd u (by show G7 ≠ G5; omega)
  · exact b7.upd u (by show G7 ≠ G2; omega)
  · exact b7.upd u (by show G7 ≠ G6; omega)
  · exact b7.set 0 s.v
theorem RfI.st (h : RfI w B G1 G2 G5 G6 G7 G8 d ws 5 q a n c wx) : RSt w wx B G2 (rqR d q (rolesL ws) (labsL ws)) (y1R d ws) := by
  have h0 := h.ql 0 (by omega)
  have h2 := h.ql 2 (by omega)
  exact ((RSt.zero w wx B G2 d).roles (a := (q 0).a) (n := (q 0).n) (c := (q 0).c) (ws := rolesL ws) h0).labels (a := (q 2).a) (n := (q 2).n) (c := (q 2).c) (ws := labsL ws) h2

/-- behind the lists: the rule and the three lists that are still to be looked at -/
structure RfJ (w : World) (B G2 G5 G6 G7 : Nat) (ws : List ByteArray) (q : Nat → Sl) (r x : RuleR) (wx : World) : Prop where
  e : Ext w wx
  b2 : Blk wx G2 r.v 51
  b5 : Blk wx G5 [(q 1).v] 42
  b6 : Blk wx G6 [(q 3).v] 42
  b7 : Blk wx G7 [(q 4).v] 42
  w1 : Wds w B (q 1).a (q 1).n (q 1).c (actsL ws)
  w3 : Wds w B (q 3).a (q 3).n (q 3).c (atL ws)
  w4 : Wds w B (q 4).a (q 4).n (q 4).c (needL ws)
  st : RSt w wx B G2 r x
theorem RSt.fr {W : World} {G : Nat} {r x : RuleR} (h : RSt w W B G r x) (f : Int) : RSt w W B G { r with fr := f } { x with fr := f } := { h with q := by rw [← h.q]; rfl }
theorem RSt.tt {W : World} {G : Nat} {r x : RuleR} (h : RSt w W B G r x) (f : Int) : RSt w W B G { r with tt := f } { x with tt := f } := { h with q := by rw [← h.q]; rfl }
theorem RSt.nd {W : World} {G : Nat} {r x : RuleR} (h : RSt w W B G r x) (f : Int) : RSt w W B G { r with nd := f } { x with nd := f } := { h with q := by rw [← h.q]; rfl }
theorem RSt.ow {W : World} {G : Nat} {r x : RuleR} (h : RSt w W B G r x) (o : ByteArray) (ho : o.size ≤ 140737488355328) : RSt w W B G { r with ow := o } { x with ow := o } := { h with q := by rw [← h.q]; rfl, os := ho }
structure RfK (w : World) (G2 G5 G6 G7 : Nat) (q : Nat → Sl) (r : RuleR) (wx : World) : Prop where
  e : Ext w wx
  b2 : Blk wx G2 r.v 51
  b5 : Blk wx G5 [(q 1).v] 42
  b6 : Blk wx G6 [(q 3).v] 42
  b7 : Blk wx G7 [(q 4).v] 42
theorem RfK.ext {r : RuleR} (h : RfK w G2 G5 G6 G7 q r wx) (e : Ext wx wy) : RfK w G2 G5 G6 G7 q r wy := ⟨h.e.ext e, h.b2.ext e, h.b5.ext e, h.b6.ext e, h.b7.ext e⟩
theorem RfK.gro {r : RuleR} {p : Option Nat} (h : RfK w G2 G5 G6 G7 q r wx) (h25 : G2 < G5) (h56 : G5 < G6) (h67 : G6 < G7) (g : wx.grownBy wy p) (hp : ∀ g, p = some g → w.heap.size ≤ g ∧ G7 < g) : RfK w G2 G5 G6 G7 q r wy :=
  ⟨h.e.grown g (fun i hi => (hp i hi).1), h.b2.grown g (fun e => by have := (hp _ e.symm).2; omega), h.b5.grown g (fun e => by have := (hp _ e.symm).2; omega), h.b6.grown g (fun e => by have := (hp _ e.symm).2; omega), h.b7.grown g (fun e => by have := (hp _ e.symm).2; omega)⟩
theorem RfK.rule {r r' : RuleR} (h : RfK w G2 G5 G6 G7 q r wx) (h0 : w.heap.size ≤ G2) (h25 : G2 < G5) (h56 : G5 < G6) (h67 : G6 < G7) (hb : Blk wy G2 r'.v 51) (u : Upd wx G2 wy) : RfK w G2 G5 G6 G7 q r' wy :=
  ⟨u.ext h.e h0, hb, h.b5.upd u (by omega), h.b6.upd u (by omega), h.b7.upd u (by omega)⟩
theorem act_wf2 (l : List ByteArray) : ∀ z ∈ l.map actI, (Lit.int .i64 z).wf = true := by
  intro z hz
  obtain ⟨y, _, rfl⟩ := List.mem_map.1 hz
  have := actI_b y
  obtain ⟨m, hm⟩ : ∃ m : Nat, actI y = (m : Int) := ⟨(actI y).toNat, by omega⟩
  rw [hm] at this ⊢
  have hlt : m < 13 := by omega
  exact (show ∀ m < 13, (Lit.int .i64 ((m : Nat) : Int)).wf = true by decide) m hlt
theorem RfI.j (h : RfI w B G1 G2 G5 G6 G7 G8 d ws 5 q a n c wx) : RfJ w B G2 G5 G6 G7 ws q (rqR d q (rolesL ws) (labsL ws)) (y1R d ws) wx :=
  ⟨h.e, h.b2, h.b5, h.b6, h.b7, h.ql 1 (by omega), h.ql 3 (by omega), h.ql 4 (by omega), h.st⟩
variable {r x r' x' : RuleR}
theorem RfJ.toK (h : RfJ w B G2 G5 G6 G7 ws q r x wx) : RfK w G2 G5 G6 G7 q r wx := ⟨h.e, h.b2, h.b5, h.b6, h.b7⟩
theorem RfK.j (h : RfK w G2 G5 G6 G7 q r wx) (h1 : Wds w B (q 1).a (q 1).n (q 1).c (actsL ws)) (h3 : Wds w B (q 3).a (q 3).n (q 3).c (atL ws)) (h4 : Wds w B (q 4).a (q 4).n (q 4).c (needL ws)) (st : RSt w wx B G2 r x) : RfJ w B G2 G5 G6 G7 ws q r x wx :=
  ⟨h.e, h.b2, h.b5, h.b6, h.b7, h1, h3, h4, st⟩
theorem RfJ.ext (h : RfJ w B G2 G5 G6 G7 ws q r x wx) (e : Ext wx wy) : RfJ w B G2 G5 G6 G7 ws q r x wy :=
  { h with e := h.e.ext e, b2 := h.b2.ext e, b5 := h.b5.ext e, b6 := h.b6.ext e, b7 := h.b7.ext e, st := h.st.ext e }
theorem RfJ.rule (h : RfJ w B G2 G5 G6 G7 ws q r x wx) (h0 : w.heap.size ≤ G2) (h25 : G2 < G5) (h56 : G5 < G6) (h67 : G6 < G7) (hb : Blk wy G2 r'.v 51) (u : Upd wx G2 wy) (hs : RSt w wy B G2 r x → RSt w wy B G2 r' x') :
    RfJ w B G2 G5 G6 G7 ws q r' x' wy :=
  ⟨u.ext h.e h0, hb, h.b5.upd u (by omega), h.b6.upd u (by omega), h.b7.upd u (by omega), h.w1, h.w3, h.w4, hs (h.st.upd u (Nat.le_refl _))⟩
end
end Go.Proofs.YthfddfgncolnbaaGreatDoor
