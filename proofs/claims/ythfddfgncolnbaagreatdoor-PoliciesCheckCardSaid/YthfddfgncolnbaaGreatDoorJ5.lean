/- Contracts and laws that the claim's row leans on (4 texts, joined): policy.readRule; conditions: the memory, the library's variables. What both readers of a policy do line by line: plain laws, and what stands in memory between the lines; no condition. strings.Join and strings.Builder laid at this program by the shelf's contracts; what a policy is as text, plain; conditions: the sizes. Texts are joined; no condition. -/
import Derived.Test.YthfddfgncolnbaaGreatDoorJ4
import Derived.Great.BuildSlice
import Derived.Shelf.Strings.OnBuilder
import Derived.Shelf.Strings.Builder1
namespace Go.Proofs.YthfddfgncolnbaaGreatDoor
section
open Go Go.RowKit

theorem size_allocQ (w : World) (o : Obj) : (w.alloc o).heap.size = w.heap.size + 1 := Array.size_push ..
theorem zero_v (d : Bool) : (x0R d).v = .bool d :: zeroRule.tail := rfl
theorem upN_tail (ws : List ByteArray) : (if secB wdRole ws = true then ws.tail else ws) = (if secB wdRole ws = true then ws.tail else ws) := rfl

set_option maxRecDepth 100000 in
set_option maxHeartbeats 8000000 in
theorem readRule_c (B : Nat) (a0 : Option Addr) (n0 c0 : Nat) (ws : List ByteArray) (w : World) (hw : Wds w B a0 n0 c0 ws) (hl : LibP w) (hB : B ≤ w.heap.size) :
    Calls Tryz.prog 21 #[.slice a0 n0 c0] w fun e w' => ∃ r : RuleR, e = .returned (.tuple #[.agg r.v.toArray, .bool (okR ws)]) ∧ (okR ws = true → r.bare = ruleOf ws ∧ r.Ok w' ∧ r.Hi B) ∧ Ext w w' := by
  have HL := hid hl
  have HW := hid hw
  have HAG := hid agg_rule
  clear hl hw
  go_enter Tryz.func21, Tryz.ntmps21
  go_upto_region 1 with (fail)
  generalize hwA : World.alloc (World.alloc w _) _ = wA
  have bA : Blk wA w.heap.size [.slice a0 n0 c0] 46 := by rw [← hwA]; exact (Blk.mk_alloc rfl rfl).alloc _
  have zA : Blk wA (w.heap.size + 1) zeroRule 51 := by rw [← hwA]; exact Blk.mk_alloc (size_allocQ _ _).symm rfl
  have eA : Ext w wA := by rw [← hwA]; exact ((Ext.refl w).alloc _).alloc _
  have hsA : wA.heap.size = w.heap.size + 2 := by rw [← hwA, size_allocQ, size_allocQ]
  have HSA := hid hsA
  clear hwA hsA
  go_wp2_with (refine wpl_storew rfl _ _ _ rfl rfl rfl (Blk.mk_alloc (vs := zeroRule) rfl rfl) HAG.out rfl (xs := zeroRule) rfl (ruleV_one (x0R false)) ?_)
  intro w1 b1 u1
  rw [HSA.out] at b1 u1 ⊢
  have e1 : Ext wA w1 := u1.ext ((Ext.refl wA).alloc _) (by rw [HSA.out]; exact Nat.le_refl _)
  have I0 : RdI w B w.heap.size (w.heap.size + 1) (w.heap.size + 2) true (x0R false) ws (x0R false) a0 n0 c0 w1 := ⟨eA.ext e1, bA.ext e1, HW.out, zA.ext e1, b1, fun _ => RSt.zero w w1 B _ false⟩
  clear b1 bA zA eA e1 u1 HSA HW
  obtain ⟨G1, hG1⟩ : ∃ G, w.heap.size = G := ⟨_, rfl⟩
  obtain ⟨G2, hG2⟩ : ∃ G, w.heap.size + 1 = G := ⟨_, rfl⟩
  obtain ⟨G4, hG4⟩ : ∃ G, w.heap.size + 2 = G := ⟨_, rfl⟩
  have hg1 : w.heap.size ≤ G1 := by omega
  have hg12 : G1 < G2 := by omega
  have hg24 : G2 < G4 := by omega
  have hBG : B ≤ G4 := by omega
  rw [hG4, hG2, hG1] at I0 ⊢
  clear hG1 hG2 hG4
  have HOK := hid (show okR ws = (headB ws && (!secB wdRole (wd1 ws) || !(rolesL ws).isEmpty) && (!secB wdAct (wd2 ws) || (actsB (actsL ws) && !(actsL ws).isEmpty)) && (!secB wdOn (wd3 ws) || !(labsL ws).isEmpty) && (!secB wdAt (wd4 ws) || atB (atL ws)) && (!secB wdNeed (wd5 ws) || needB (needL ws)) && (wd6 ws).isEmpty) from rfl)
  go_wp2_with fail
  refine (is_c G1 B _ a0 n0 c0 ws wdDeny w1 I0.b1 (I0.wd.ext I0.e)).mono ?_
  rintro e w2 ⟨rfl, a1, n1, c1, hb2, hw2, hu2⟩
  have I1 := I0.words hg1 hg12 hg24 hb2 (hw2 w I0.wd) hu2
  clear hb2 hw2 hu2 I0
  obtain ⟨d, hd⟩ : ∃ d, secB wdDeny ws = d := ⟨_, rfl⟩
  have HD := hid hd
  rw [hd] at I1 ⊢
  clear hd
  have k0 := I1.b4.cell' (i := 0) rfl
  have f0 := I1.b4.frozen 0
  go_upto_region 3 with fail
  obtain ⟨w3, hw3⟩ : ∃ W, World.setCell w2 ⟨G4, 0, none⟩ (.bool d) = W := ⟨_, rfl⟩
  rw [hw3]
  have I2 : RdI w B G1 G2 G4 true (x0R d) (if d = true then ws.tail else ws) (x0R d) a1 n1 c1 w3 := I1.rule (r' := x0R d) hg1 hg12 hg24 (by rw [← hw3]; exact I1.b4.set 0 (.bool d)) (by rw [← hw3]; exact Upd.setCell _) (fun _ => ⟨rfl, fun _ => RSt.zero _ _ _ _ _⟩)
  clear hw3 I1 k0 f0
  have k0 := I2.b4.cell' (i := 0) (v := .bool d) rfl
  go_cut [21] (fun v wx => v = .bool (!(headB ws)) ∧ ∃ ws' a n c, (headB ws = true → ws' = wd1 ws) ∧ RdI w B G1 G2 G4 true (x0R d) ws' (x0R d) a n c wx)
  case first =>
    cases d with
    | true =>
      have hh : headB ws = true := by unfold headB; rw [HD.out]; rfl
      go_wp2_with fail
      go_meet
      exact ⟨by rw [hh]; rfl, _, a1, n1, c1, fun _ => rfl, I2⟩
    | false =>
      go_wp2_with fail
      refine (is_c G1 B _ a1 n1 c1 ws wdAllow w3 I2.b1 (I2.wd.ext I2.e)).mono ?_
      rintro e w4 ⟨rfl, a2, n2, c2, hb2, hw2, hu2⟩
      have hh : headB ws = secB wdAllow ws := by unfold headB; rw [HD.out]; rfl
      have I3 := I2.words hg1 hg12 hg24 hb2 (hw2 w I2.wd) hu2
      clear hb2 hw2 hu2 I2 k0
      generalize secB wdAllow ws = b at *
      cases b with
      | true =>
        go_wp2_with fail
        go_meet
        exact ⟨by rw [hh]; rfl, _, a2, n2, c2, fun _ => rfl, I3⟩
      | false =>
        go_wp2_with fail
        go_meet
        exact ⟨by rw [hh]; rfl, _, a2, n2, c2, (fun h => by rw [hh] at h; cases h), I3⟩
  case rest =>
  obtain ⟨rfl, ws1, a1, n1, c1, hws, I1⟩ := hcut
  clear I2 k0
  obtain ⟨hb, hhb⟩ : ∃ b, headB ws = b := ⟨_, rfl⟩
  have HHB := hid hhb
  rw [hhb] at hws ⊢
  clear hhb
  obtain ⟨u0, hwc⟩ : ∃ u0, wc = u0 := ⟨_, rfl⟩
  rw [hwc] at I1 ⊢
  clear hwc wc
  cases hb with
  | false =>
    have hf : okR ws = false := by rw [HOK.out, HHB.out]; rfl
    have B4 := hid I1.b4
    have B2 := hid I1.b2
    have E1 := hid I1.e
    go_wp2_with (first | (refine wpl_loadw rfl 51 _ rfl rfl B4.out HAG.out rfl ?_) | (refine wpl_storew rfl _ _ _ rfl rfl rfl B2.out HAG.out rfl (xs := (x0R d).v) rfl (ruleV_one _) ?_))
    intro u1 b9 u9
    go_wp2_with fail
    refine ret_row2 rfl rfl b9 HAG.out rfl rfl ⟨x0R d, by rw [hf]; rfl, (fun h => by rw [hf] at h; cases h), u9.ext E1.out (by omega)⟩
  | true =>
  obtain rfl := hws rfl
  clear hws
  obtain ⟨r0, hr0⟩ : ∃ r, x0R d = r := ⟨_, rfl⟩
  have I1 : RdI w B G1 G2 G4 true (x0R d) (wd1 ws) r0 a1 n1 c1 u0 := by rw [← hr0]; exact I1
  clear hr0
  obtain ⟨s1, hs1⟩ : ∃ b, (!secB wdRole (wd1 ws) || !(rolesL ws).isEmpty) = b := ⟨_, rfl⟩
  have HS1 := hid hs1
  clear hs1
  go_wp2_with fail
  refine (is_c G1 B _ a1 n1 c1 (wd1 ws) wdRole u0 I1.b1 (I1.wd.ext I1.e)).mono ?_
  rintro e v0 ⟨rfl, a2, n2, c2, hb2, hw2, hu2⟩
  have I2 := I1.words hg1 hg12 hg24 hb2 (hw2 w I1.wd) hu2
  clear hb2 hw2 hu2 I1
  obtain ⟨b, hb⟩ : ∃ b, secB wdRole (wd1 ws) = b := ⟨_, rfl⟩
  have HB1 := hid hb
  rw [hb] at I2 ⊢
  clear hb
  go_upto_if 23 with fail
  go_cut [5] (fun v wx => v = .bool (true && s1) ∧ ∃ r a n c, RdI w B G1 G2 G4 (true && s1) (x1R d ws) (wd2 ws) r a n c wx)
  case first =>
    cases b with
    | false =>
      have hrest : wd2 ws = wd1 ws := by show secR _ _ = _; unfold secR; rw [HB1.out]; rfl
      have hsk : s1 = true := by rw [← HS1.out, HB1.out]; rfl
      have hx : x1R d ws = x0R d := x1R_no (secL_off HB1.out)
      have IF : RdI w B G1 G2 G4 (true && s1) (x1R d ws) (wd2 ws) r0 a2 n2 c2 v0 := by
        rw [hrest]
        exact I2.weak (fun h => by first | rfl | (rw [Bool.and_eq_true] at h; exact h.1)) (fun _ => hx)
      clear I2 hrest hx
      go_wp2_with fail
      go_meet
      exact ⟨by rw [hsk, Bool.and_true], _, a2, n2, c2, IF⟩
    | true =>
      have hlist : rolesL ws = (wd1 ws).tail.take (upN (wd1 ws).tail) := by show secL _ _ = _; unfold secL; rw [HB1.out]; rfl
      have hrest : wd2 ws = (wd1 ws).tail.drop (upN (wd1 ws).tail) := by show secR _ _ = _; unfold secR; rw [HB1.out]; rfl
      go_wp2_with fail
      refine (list_c G1 B _ a2 n2 c2 (wd1 ws).tail v0 I2.b1 (I2.wd.ext I2.e)).mono ?_
      rintro e v1 ⟨m, rfl, hb3, hmu, hmn, hu3⟩
      have I3z := I2.words hg1 hg12 hg24 hb3 (I2.wd.drop hmn) hu3
      have HWL : Hid (Wds w B a2 m m (rolesL ws)) := hid (by rw [hlist, ← hmu]; exact I2.wd.take hmn (Nat.le_refl _))
      have I3 : RdI w B G1 G2 G4 true (x0R d) (wd2 ws) r0 (shift a2 c2 m) (n2 - m) (c2 - m) v1 := by rw [hrest, ← hmu]; exact I3z
      clear I3z hb3 hmu hmn hu3 I2 hlist hrest
      generalize shift a2 c2 m = a3 at *
      generalize n2 - m = n3 at *
      generalize c2 - m = c3 at *
      have kf := I3.b4.cell' (i := 1) rfl
      have ff := I3.b4.frozen 1
      go_upto_region 8 with fail
      obtain ⟨v2, hv2⟩ : ∃ W, World.setCell v1 ⟨G4, 1, none⟩ (.slice a2 m m) = W := ⟨_, rfl⟩
      rw [hv2]
      have I4 := I3.rule (r' := { r0 with ra := a2, rn := m, rc := m, roles := rolesL ws }) (x' := (x1R d ws)) (ok' := true) (wy := v2) hg1 hg12 hg24 (by rw [← hv2]; exact I3.b4.set 1 _) (by rw [← hv2]; exact Upd.setCell _) (fun h => ⟨h, fun s => s.roles HWL.out⟩)
      clear hv2 kf ff I3
      have kf := I4.b4.cell' (i := 1) (v := .slice a2 m m) rfl
      have hml : m = (rolesL ws).length := HWL.out.hl.symm
      have hde : decide ((0 : Int) < (m : Int)) = !(rolesL ws).isEmpty := by
        rw [hml]
        cases rolesL ws with
        | nil => rfl
        | cons y z => simp
      have hden : decide (0 < m) = !(rolesL ws).isEmpty := by
        rw [hml]
        cases rolesL ws with
        | nil => rfl
        | cons y z => simp
      have hsk : s1 = !(rolesL ws).isEmpty := by rw [← HS1.out, HB1.out]; rfl
      rw [← hsk] at hde hden
      clear hml hsk
      have IF := I4.weak (ok' := (true && s1)) (fun h => by first | rfl | (rw [Bool.and_eq_true] at h; exact h.1)) (fun _ => rfl)
      cases s1
      all_goals (
        go_wp2_with fail
        go_meet
        exact ⟨rfl, _, a3, n3, c3, IF⟩)
  case rest =>
  obtain ⟨rfl, r1, a1, n1, c1, I1⟩ := hcut
  clear I2
  obtain ⟨o1, ho1⟩ : ∃ b, (true && s1) = b := ⟨_, rfl⟩
  have HO1 := hid ho1
  rw [ho1] at I1 ⊢
  clear ho1
  obtain ⟨u1, hwc⟩ : ∃ u, wc = u := ⟨_, rfl⟩
  rw [hwc] at I1 ⊢
  clear hwc wc
  obtain ⟨s2, hs2⟩ : ∃ b, (!secB wdAct (wd2 ws) || (actsB (actsL ws) && !(actsL ws).isEmpty)) = b := ⟨_, rfl⟩
  have HS2 := hid hs2
  clear hs2
  go_wp2_with fail
  refine (is_c G1 B _ a1 n1 c1 (wd2 ws) wdAct u1 I1.b1 (I1.wd.ext I1.e)).mono ?_
  rintro e v0 ⟨rfl, a2, n2, c2, hb2, hw2, hu2⟩
  have I2 := I1.words hg1 hg12 hg24 hb2 (hw2 w I1.wd) hu2
  clear hb2 hw2 hu2 I1
  obtain ⟨b, hb⟩ : ∃ b, secB wdAct (wd2 ws) = b := ⟨_, rfl⟩
  have HB2 := hid hb
  rw [hb] at I2 ⊢
  clear hb
  go_upto_if 30 with fail
  go_cut [5] (fun v wx => v = .bool (o1 && s2) ∧ ∃ r a n c, RdI w B G1 G2 G4 (o1 && s2) (x2R d ws) (wd3 ws) r a n c wx)
  case first =>
    cases b with
    | false =>
      have hrest : wd3 ws = wd2 ws := by show secR _ _ = _; unfold secR; rw [HB2.out]; rfl
      have hsk : s2 = true := by rw [← HS2.out, HB2.out]; rfl
      have hx : x2R d ws = x1R d ws := x2R_no (secL_off HB2.out)
      have IF : RdI w B G1 G2 G4 (o1 && s2) (x2R d ws) (wd3 ws) r1 a2 n2 c2 v0 := by
        rw [hrest]
        exact I2.weak (fun h => by first | rfl | (rw [Bool.and_eq_true] at h; exact h.1)) (fun _ => hx)
      clear I2 hrest hx
      go_wp2_with fail
      go_meet
      exact ⟨by rw [hsk, Bool.and_true], _, a2, n2, c2, IF⟩
    | true =>
      have hlist : actsL ws = (wd2 ws).tail.take (upN (wd2 ws).tail) := by show secL _ _ = _; unfold secL; rw [HB2.out]; rfl
      have hrest : wd3 ws = (wd2 ws).tail.drop (upN (wd2 ws).tail) := by show secR _ _ = _; unfold secR; rw [HB2.out]; rfl
      go_wp2_with fail
      refine (list_c G1 B _ a2 n2 c2 (wd2 ws).tail v0 I2.b1 (I2.wd.ext I2.e)).mono ?_
      rintro e v1 ⟨m, rfl, hb3, hmu, hmn, hu3⟩
      have I3z := I2.words hg1 hg12 hg24 hb3 (I2.wd.drop hmn) hu3
      have HWL : Hid (Wds w B a2 m m (actsL ws)) := hid (by rw [hlist, ← hmu]; exact I2.wd.take hmn (Nat.le_refl _))
      have I3 : RdI w B G1 G2 G4 o1 (x1R d ws) (wd3 ws) r1 (shift a2 c2 m) (n2 - m) (c2 - m) v1 := by rw [hrest, ← hmu]; exact I3z
      clear I3z hb3 hmu hmn hu3 I2 hlist hrest
      generalize shift a2 c2 m = a3 at *
      generalize n2 - m = n3 at *
      generalize c2 - m = c3 at *
      go_wp2_with fail
      refine (acts_c B a2 m m (actsL ws) v1 (HWL.out.ext I3.e) (HL.out.ext I3.e).sp).mono ?_
      rintro e v2 ⟨va, rfl, ho, e4⟩
      obtain ⟨av, cv, rfl, _, _, _⟩ := own_cellsA ho
      have hG4 := I3.b4.lt
      have I4 := I3.ext e4
      have HO2 := hid ho
      clear ho e4 I3
      obtain ⟨f, hf⟩ : ∃ f, actsB (actsL ws) = f := ⟨_, rfl⟩
      have HF := hid hf
      rw [hf]
      clear hf
      obtain ⟨L, hL⟩ : ∃ L, (actsVs (actsL ws)).length = L := ⟨_, rfl⟩
      have HLL := hid hL
      rw [hL] at HO2 ⊢
      clear hL
      have kf := I4.b4.cell' (i := 2) rfl
      have ff := I4.b4.frozen 2
      go_upto_region 12 with fail
      obtain ⟨v3, hv3⟩ : ∃ W, World.setCell v2 ⟨G4, 2, none⟩ (.slice av L cv) = W := ⟨_, rfl⟩
      rw [hv3]
      have hU : Upd v2 G4 v3 := by rw [← hv3]; exact Upd.setCell _
      have hO3 : v3.ownsRow v1.heap.size 3 1 (.slice av L cv) L ((actsVs (actsL ws)).map encI) := own_beside HO2.out (upd_grownA hU) (fun g hg he => by
        have := (HO2.out.lt g hg).1
        injection he with he
        omega)
      rw [← HLL.out] at hO3
      have hlen0 : (actsVs (actsL ws)).length ≤ 1000000 := by
        have h1 := HWL.out.hm
        have h2 := HWL.out.hl
        unfold actsVs
        split
        · rw [List.length_map]; omega
        · simp
      have hsk : s2 = (f && !(actsL ws).isEmpty) := by rw [← HS2.out, HB2.out, HF.out]; rfl
      have I5 := I4.rule (r' := { r1 with aa := av, an := (actsVs (actsL ws)).length, ac := cv, acts := actsVs (actsL ws) }) (x' := (x2R d ws)) (ok' := o1 && f) hg1 hg12 hg24 (by rw [← hv3, ← HLL.out]; exact I4.b4.set 2 _) hU (fun h => by
        have h1 : o1 = true := by revert h; cases o1 <;> simp
        have h2 : f = true := by revert h; cases f <;> simp
        refine ⟨h1, fun s => ?_⟩
        have := s.acts (r := r1) (zs := actsVs (actsL ws)) (a := av) (n := (actsVs (actsL ws)).length) (c := cv) hO3 hG4 hlen0 (act_wf _)
        have hz : actsVs (actsL ws) = (actsL ws).map actI := by unfold actsVs; rw [HF.out, h2]; rfl
        rw [hz, List.length_map] at this
        rw [hz, List.length_map]
        exact this)
      clear hv3 kf ff I4 hU hO3 hlen0 hG4
      have hde : f = true → decide ((0 : Int) < (L : Int)) = !(actsL ws).isEmpty := by
        intro h
        rw [← HLL.out]
        unfold actsVs
        rw [HF.out, h]
        cases actsL ws with
        | nil => rfl
        | cons y z => simp
      have hden : f = true → decide (0 < L) = !(actsL ws).isEmpty := by
        intro h
        rw [← HLL.out]
        unfold actsVs
        rw [HF.out, h]
        cases actsL ws with
        | nil => rfl
        | cons y z => simp
      have IF := I5.weak (ok' := (o1 && s2)) (fun h => by rw [hsk] at h; revert h; cases o1 <;> cases f <;> simp) (fun _ => rfl)
      clear I5
      generalize (!(actsL ws).isEmpty) = em at *
      subst hsk
      cases f with
      | false =>
        clear hde hden
        cases o1
        all_goals (
          go_wp2_with fail
          go_meet
          exact ⟨rfl, _, a3, n3, c3, IF⟩)
      | true =>
        have g1 := hde rfl
        have g2 := hden rfl
        clear hde hden
        cases o1 <;> cases em
        all_goals (
          go_wp2_with fail
          go_meet
          exact ⟨rfl, _, a3, n3, c3, IF⟩)
  case rest =>
  obtain ⟨rfl, r2, a1, n1, c1, I1⟩ := hcut
  clear I2
  obtain ⟨o2, ho2⟩ : ∃ b, (o1 && s2) = b := ⟨_, rfl⟩
  have HO2 := hid ho2
  rw [ho2] at I1 ⊢
  clear ho2
  obtain ⟨u2, hwc⟩ : ∃ u, wc = u := ⟨_, rfl⟩
  rw [hwc] at I1 ⊢
  clear hwc wc
  obtain ⟨s3, hs3⟩ : ∃ b, (!secB wdOn (wd3 ws) || !(labsL ws).isEmpty) = b := ⟨_, rfl⟩
  have HS3 := hid hs3
  clear hs3
  go_wp2_with fail
  refine (is_c G1 B _ a1 n1 c1 (wd3 ws) wdOn u2 I1.b1 (I1.wd.ext I1.e)).mono ?_
  rintro e v0 ⟨rfl, a2, n2, c2, hb2, hw2, hu2⟩
  have I2 := I1.words hg1 hg12 hg24 hb2 (hw2 w I1.wd) hu2
  clear hb2 hw2 hu2 I1
  obtain ⟨b, hb⟩ : ∃ b, secB wdOn (wd3 ws) = b := ⟨_, rfl⟩
  have HB3 := hid hb
  rw [hb] at I2 ⊢
  clear hb
  go_upto_if 47 with fail
  go_cut [5] (fun v wx => v = .bool (o2 && s3) ∧ ∃ r a n c, RdI w B G1 G2 G4 (o2 && s3) (x3R d ws) (wd4 ws) r a n c wx)
  case first =>
    cases b with
    | false =>
      have hrest : wd4 ws = wd3 ws := by show secR _ _ = _; unfold secR; rw [HB3.out]; rfl
      have hsk : s3 = true := by rw [← HS3.out, HB3.out]; rfl
      have hx : x3R d ws = x2R d ws := x3R_no (secL_off HB3.out)
      have IF : RdI w B G1 G2 G4 (o2 && s3) (x3R d ws) (wd4 ws) r2 a2 n2 c2 v0 := by
        rw [hrest]
        exact I2.weak (fun h => by first | rfl | (rw [Bool.and_eq_true] at h; exact h.1)) (fun _ => hx)
      clear I2 hrest hx
      go_wp2_with fail
      go_meet
      exact ⟨by rw [hsk, Bool.and_true], _, a2, n2, c2, IF⟩
    | true =>
      have hlist : labsL ws = (wd3 ws).tail.take (upN (wd3 ws).tail) := by show secL _ _ = _; unfold secL; rw [HB3.out]; rfl
      have hrest : wd4 ws = (wd3 ws).tail.drop (upN (wd3 ws).tail) := by show secR _ _ = _; unfold secR; rw [HB3.out]; rfl
      go_wp2_with fail
      refine (list_c G1 B _ a2 n2 c2 (wd3 ws).tail v0 I2.b1 (I2.wd.ext I2.e)).mono ?_
      rintro e v1 ⟨m, rfl, hb3, hmu, hmn, hu3⟩
      have I3z := I2.words hg1 hg12 hg24 hb3 (I2.wd.drop hmn) hu3
      have HWL : Hid (Wds w B a2 m m (labsL ws)) := hid (by rw [hlist, ← hmu]; exact I2.wd.take hmn (Nat.le_refl _))
      have I3 : RdI w B G1 G2 G4 o2 (x2R d ws) (wd4 ws) r2 (shift a2 c2 m) (n2 - m) (c2 - m) v1 := by rw [hrest, ← hmu]; exact I3z
      clear I3z hb3 hmu hmn hu3 I2 hlist hrest
      generalize shift a2 c2 m = a3 at *
      generalize n2 - m = n3 at *
      generalize c2 - m = c3 at *
      have kf := I3.b4.cell' (i := 3) rfl
      have ff := I3.b4.frozen 3
      go_upto_region 15 with fail
      obtain ⟨v2, hv2⟩ : ∃ W, World.setCell v1 ⟨G4, 3, none⟩ (.slice a2 m m) = W := ⟨_, rfl⟩
      rw [hv2]
      have I4 := I3.rule (r' := { r2 with la := a2, ln := m, lc := m, labels := labsL ws }) (x' := (x3R d ws)) (ok' := o2) (wy := v2) hg1 hg12 hg24 (by rw [← hv2]; exact I3.b4.set 3 _) (by rw [← hv2]; exact Upd.setCell _) (fun h => ⟨h, fun s => s.labels HWL.out⟩)
      clear hv2 kf ff I3
      have kf := I4.b4.cell' (i := 3) (v := .slice a2 m m) rfl
      have hml : m = (labsL ws).length := HWL.out.hl.symm
      have hde : decide ((0 : Int) < (m : Int)) = !(labsL ws).isEmpty := by
        rw [hml]
        cases labsL ws with
        | nil => rfl
        | cons y z => simp
      have hden : decide (0 < m) = !(labsL ws).isEmpty := by
        rw [hml]
        cases labsL ws with
        | nil => rfl
        | cons y z => simp
      have hsk : s3 = !(labsL ws).isEmpty := by rw [← HS3.out, HB3.out]; rfl
      rw [← hsk] at hde hden
      clear hml hsk
      have IF := I4.weak (ok' := (o2 && s3)) (fun h => by first | rfl | (rw [Bool.and_eq_true] at h; exact h.1)) (fun _ => rfl)
      cases o2 <;> cases s3
      all_goals (
        go_wp2_with fail
        go_meet
        exact ⟨rfl, _, a3, n3, c3, IF⟩)
  case rest =>
  obtain ⟨rfl, r3, a1, n1, c1, I1⟩ := hcut
  clear I2
  obtain ⟨o3, ho3⟩ : ∃ b, (o2 && s3) = b := ⟨_, rfl⟩
  have HO3 := hid ho3
  rw [ho3] at I1 ⊢
  clear ho3
  obtain ⟨u3, hwc⟩ : ∃ u, wc = u := ⟨_, rfl⟩
  rw [hwc] at I1 ⊢
  clear hwc wc
  obtain ⟨s4, hs4⟩ : ∃ b, (!secB wdAt (wd4 ws) || atB (atL ws)) = b := ⟨_, rfl⟩
  have HS4 := hid hs4
  clear hs4
  go_wp2_with fail
  refine (is_c G1 B _ a1 n1 c1 (wd4 ws) wdAt u3 I1.b1 (I1.wd.ext I1.e)).mono ?_
  rintro e v0 ⟨rfl, a2, n2, c2, hb2, hw2, hu2⟩
  have I2 := I1.words hg1 hg12 hg24 hb2 (hw2 w I1.wd) hu2
  clear hb2 hw2 hu2 I1
  obtain ⟨b, hb⟩ : ∃ b, secB wdAt (wd4 ws) = b := ⟨_, rfl⟩
  have HB4 := hid hb
  rw [hb] at I2 ⊢
  clear hb
  go_upto_if 57 with fail
  go_cut [5] (fun v wx => v = .bool (o3 && s4) ∧ ∃ r a n c, RdI w B G1 G2 G4 (o3 && s4) (x4R d ws) (wd5 ws) r a n c wx)
  case first =>
    cases b with
    | false =>
      have hrest : wd5 ws = wd4 ws := by show secR _ _ = _; unfold secR; rw [HB4.out]; rfl
      have hsk : s4 = true := by rw [← HS4.out, HB4.out]; rfl
      have hx : x4R d ws = x3R d ws := x4R_no (secL_off HB4.out)
      have IF : RdI w B G1 G2 G4 (o3 && s4) (x4R d ws) (wd5 ws) r3 a2 n2 c2 v0 := by
        rw [hrest]
        exact I2.weak (fun h => by first | rfl | (rw [Bool.and_eq_true] at h; exact h.1)) (fun _ => hx)
      clear I2 hrest hx
      go_wp2_with fail
      go_meet
      exact ⟨by rw [hsk, Bool.and_true], _, a2, n2, c2, IF⟩
    | true =>
      have hlist : atL ws = (wd4 ws).tail.take (upN (wd4 ws).tail) := by show secL _ _ = _; unfold secL; rw [HB4.out]; rfl
      have hrest : wd5 ws = (wd4 ws).tail.drop (upN (wd4 ws).tail) := by show secR _ _ = _; unfold secR; rw [HB4.out]; rfl
      go_wp2_with fail
      refine (list_c G1 B _ a2 n2 c2 (wd4 ws).tail v0 I2.b1 (I2.wd.ext I2.e)).mono ?_
      rintro e v1 ⟨m, rfl, hb3, hmu, hmn, hu3⟩
      have I3z := I2.words hg1 hg12 hg24 hb3 (I2.wd.drop hmn) hu3
      have HWL : Hid (Wds w B a2 m m (atL ws)) := hid (by rw [hlist, ← hmu]; exact I2.wd.take hmn (Nat.le_refl _))
      have I3 : RdI w B G1 G2 G4 o3 (x3R d ws) (wd5 ws) r3 (shift a2 c2 m) (n2 - m) (c2 - m) v1 := by rw [hrest, ← hmu]; exact I3z
      clear I3z hb3 hmu hmn hu3 I2 hlist hrest
      generalize shift a2 c2 m = a3 at *
      generalize n2 - m = n3 at *
      generalize c2 - m = c3 at *
      have hml : (atL ws).length = m := HWL.out.hl
      have hsk : s4 = atB (atL ws) := by rw [← HS4.out, HB4.out]; rfl
      cases o3 with
      | false =>
        go_wp2_with fail
        go_meet
        exact ⟨rfl, _, a3, n3, c3, I3.weak (fun h => by cases h) (fun h => by cases h)⟩
      | true =>
      by_cases hm1 : m = 1
      · obtain ⟨x, hx⟩ : ∃ x, atL ws = [x] := List.length_eq_one_iff.1 (by rw [hml]; exact hm1)
        obtain ⟨A, rfl, hca⟩ := (HWL.out.ext I3.e).at (k := 0) (x := x) (by rw [hx]; rfl)
        rw [addr_a0] at hca
        have hxs : x.size < 4294967281 := Nat.lt_of_le_of_lt (HWL.out.hs x (by rw [hx]; simp)) (by omega)
        have d1 : decide ((m : Int) = 1) = true := decide_eq_true (by omega)
        have d2 : ((m : Int) == 1) = true := by simp [hm1]
        have hsx : s4 = hrB x := by rw [hsk, hx]; rfl
        have HX := hid hx
        subst hm1
        clear hml hsk hx
        go_wp2_with fail
        refine (hours_c x r3 G4 v1 hxs I3.b4 (HL.out.ext I3.e).lw.ml).mono ?_
        rintro e v2 ⟨rfl, hb4, hg4⟩
        have I4 := I3.ruleG (x' := (x4R d ws)) (ok' := hrB x) hg1 hg12 hg24 hb4 hg4 (fun h => ⟨rfl, fun s => by
          have := s.hours (nval (cutA x).1) (nval (cutA x).2.1)
          unfold hrB at h
          simp only [Bool.and_eq_true] at h
          exact this.to (x4R_yes HX.out h.1.2 h.2)⟩)
        have IF := I4.weak (ok' := (true && s4)) (fun h => by rw [hsx] at h; exact h) (fun _ => rfl)
        clear hb4 hg4 I3
        go_wp2_with fail
        go_meet
        exact ⟨by rw [hsx]; rfl, _, a3, n3, c3, IF⟩
      · have hf : s4 = false := by
          rw [hsk]
          match hq : atL ws, hml with
          | [], _ => rfl
          | [y], h => exact absurd h.symm hm1
          | y :: z :: l, _ => rfl
        have d1 : decide ((m : Int) = 1) = false := decide_eq_false (by omega)
        have d2 : ((m : Int) == 1) = false := by simp; omega
        clear hml hsk
        go_wp2_with fail
        go_meet
        exact ⟨by rw [hf]; rfl, _, a3, n3, c3, I3.weak (fun h => absurd h (by rw [hf]; decide)) (fun h => absurd h (by rw [hf]; decide))⟩
  case rest =>
  obtain ⟨rfl, r4, a1, n1, c1, I1⟩ := hcut
  clear I2
  obtain ⟨o4, ho4⟩ : ∃ b, (o3 && s4) = b := ⟨_, rfl⟩
  have HO4 := hid ho4
  rw [ho4] at I1 ⊢
  clear ho4
  obtain ⟨u4, hwc⟩ : ∃ u, wc = u := ⟨_, rfl⟩
  rw [hwc] at I1 ⊢
  clear hwc wc
  obtain ⟨s5, hs5⟩ : ∃ b, (!secB wdNeed (wd5 ws) || needB (needL ws)) = b := ⟨_, rfl⟩
  have HS5 := hid hs5
  clear hs5
  go_wp2_with fail
  refine (is_c G1 B _ a1 n1 c1 (wd5 ws) wdNeed u4 I1.b1 (I1.wd.ext I1.e)).mono ?_
  rintro e v0 ⟨rfl, a2, n2, c2, hb2, hw2, hu2⟩
  have I2 := I1.words hg1 hg12 hg24 hb2 (hw2 w I1.wd) hu2
  clear hb2 hw2 hu2 I1
  obtain ⟨b, hb⟩ : ∃ b, secB wdNeed (wd5 ws) = b := ⟨_, rfl⟩
  have HB5 := hid hb
  rw [hb] at I2 ⊢
  clear hb
  go_upto_if 71 with fail
  go_cut [5] (fun v wx => v = .bool (o4 && s5) ∧ ∃ r a n c, RdI w B G1 G2 G4 (o4 && s5) (x5R d ws) (wd6 ws) r a n c wx)
  case first =>
    cases b with
    | false =>
      have hrest : wd6 ws = wd5 ws := by show secR _ _ = _; unfold secR; rw [HB5.out]; rfl
      have hsk : s5 = true := by rw [← HS5.out, HB5.out]; rfl
      have hx : x5R d ws = x4R d ws := x5R_no (secL_off HB5.out)
      have IF : RdI w B G1 G2 G4 (o4 && s5) (x5R d ws) (wd6 ws) r4 a2 n2 c2 v0 := by
        rw [hrest]
        exact I2.weak (fun h => by first | rfl | (rw [Bool.and_eq_true] at h; exact h.1)) (fun _ => hx)
      clear I2 hrest hx
      go_wp2_with fail
      go_meet
      exact ⟨by rw [hsk, Bool.and_true], _, a2, n2, c2, IF⟩
    | true =>
      have hlist : needL ws = (wd5 ws).tail.take (upN (wd5 ws).tail) := by show secL _ _ = _; unfold secL; rw [HB5.out]; rfl
      have hrest : wd6 ws = (wd5 ws).tail.drop (upN (wd5 ws).tail) := by show secR _ _ = _; unfold secR; rw [HB5.out]; rfl
      go_wp2_with fail
      refine (list_c G1 B _ a2 n2 c2 (wd5 ws).tail v0 I2.b1 (I2.wd.ext I2.e)).mono ?_
      rintro e v1 ⟨m, rfl, hb3, hmu, hmn, hu3⟩
      have I3z := I2.words hg1 hg12 hg24 hb3 (I2.wd.drop hmn) hu3
      have HWL : Hid (Wds w B a2 m m (needL ws)) := hid (by rw [hlist, ← hmu]; exact I2.wd.take hmn (Nat.le_refl _))
      have I3 : RdI w B G1 G2 G4 o4 (x4R d ws) (wd6 ws) r4 (shift a2 c2 m) (n2 - m) (c2 - m) v1 := by rw [hrest, ← hmu]; exact I3z
      clear I3z hb3 hmu hmn hu3 I2 hlist hrest
      generalize shift a2 c2 m = a3 at *
      generalize n2 - m = n3 at *
      generalize c2 - m = c3 at *
      have hml : (needL ws).length = m := HWL.out.hl
      have hsk : s5 = needB (needL ws) := by rw [← HS5.out, HB5.out]; rfl
      by_cases hm2 : m = 2
      · obtain ⟨x, y, hx⟩ : ∃ x y, needL ws = [x, y] := two_of _ (by rw [hml]; exact hm2)
        obtain ⟨gb, go, rfl, hcc⟩ := (HWL.out.ext I3.e).cell.some_of (by rw [List.length_map, hml]; omega)
        have hca : v1.cell? ⟨gb, go, none⟩ = some (.string x) := hcc 0 _ (by rw [hx]; rfl)
        have hcb : v1.cell? ⟨gb, go + 1, none⟩ = some (.string y) := hcc 1 _ (by rw [hx]; rfl)
        clear hcc
        have hxs : x.size ≤ 140737488355328 := Nat.le_trans (HWL.out.hs x (by rw [hx]; simp)) (by omega)
        have hys : y.size ≤ 140737488355328 := Nat.le_trans (HWL.out.hs y (by rw [hx]; simp)) (by omega)
        have d1 : decide ((m : Int) = 2) = true := decide_eq_true (by omega)
        have d2 : ((m : Int) == 2) = true := by simp [hm2]
        have hsx : s5 = numB x.data.toList := by rw [hsk, hx]; rfl
        have HX := hid hx
        subst hm2
        clear hml hsk hx
        have hnum := hid (fun w => number_c x w hxs)
        have hval : numB x.data.toList = true → (if numB x.data.toList = true then (numV x.data.toList : Int) else 0) = ndV [x, y] := fun h => by rw [if_pos h]; rfl
        generalize (if numB x.data.toList = true then (numV x.data.toList : Int) else 0) = nv at *
        generalize numB x.data.toList = nb at *
        have kf := I3.b4.cell' (i := 6) rfl
        have ff := I3.b4.frozen 6
        have kg := I3.b4.cell' (i := 7) rfl
        have fg := I3.b4.frozen 7
        go_wp2_with fail
        refine (hnum.out v1).mono ?_
        rintro e v2 ⟨rfl, rfl⟩
        clear hnum
        go_upto_region 25 with fail
        obtain ⟨v2, hv2⟩ : ∃ W, (World.setCell (World.setCell v1 ⟨G4, 6, none⟩ (.int .i64 nv)) ⟨G4, 7, none⟩ (.string y)) = W := ⟨_, rfl⟩
        rw [hv2]
        have I4 := I3.rule (r' := { r4 with nd := nv, ow := y }) (x' := (x5R d ws)) (ok' := o4 && nb) (wy := v2) hg1 hg12 hg24 (by rw [← hv2]; exact (I3.b4.set 6 (.int .i64 nv)).set 7 (.string y)) (by rw [← hv2]; exact (Upd.setCell _).trans (Upd.setCell _)) (fun h => by
          have h1 : o4 = true := by revert h; cases o4 <;> simp
          have h2 : nb = true := by revert h; cases nb <;> simp
          refine ⟨h1, fun s => ?_⟩
          have := s.need nv y hys
          exact this.to (x5R_yes HX.out (hval h2)))
        subst hsx
        clear hv2 I3 kf ff kg fg hval
        cases o4 <;> cases s5
        all_goals (
          go_wp2_with fail
          go_meet
          exact ⟨rfl, _, a3, n3, c3, I4⟩)
      · have hf : s5 = false := by
          rw [hsk]
          match hq : needL ws, hml with
          | [], _ => rfl
          | [y], _ => rfl
          | [y, z], h => exact absurd h.symm hm2
          | y :: z :: l :: t, _ => rfl
        have d1 : decide ((m : Int) = 2) = false := decide_eq_false (by omega)
        have d2 : ((m : Int) == 2) = false := by simp; omega
        clear hml hsk
        cases o4
        all_goals (
          go_wp2_with fail
          go_meet
          exact ⟨by rw [hf]; rfl, _, a3, n3, c3, I3.weak (fun h => absurd h (by rw [hf]; decide)) (fun h => absurd h (by rw [hf]; decide))⟩)
  case rest =>
  obtain ⟨rfl, r5, a1, n1, c1, I1⟩ := hcut
  clear I2
  obtain ⟨o5, ho5⟩ : ∃ b, (o4 && s5) = b := ⟨_, rfl⟩
  have HO5 := hid ho5
  rw [ho5] at I1 ⊢
  clear ho5
  obtain ⟨u5, hwc⟩ : ∃ u, wc = u := ⟨_, rfl⟩
  rw [hwc] at I1 ⊢
  clear hwc wc
  have hfin : okR ws = (o5 && (wd6 ws).isEmpty) := by
    rw [HOK.out, HHB.out, HS1.out, HS2.out, HS3.out, HS4.out, HS5.out, HO1.out, HO2.out, HO3.out, HO4.out, HO5.out]
  have hem : (wd6 ws).isEmpty = decide (n1 = 0) := by
    have := I1.wd.hl
    cases hq : wd6 ws with
    | nil => rw [hq] at this; simp at this; simp [← this]
    | cons y z => rw [hq] at this; simp at this; simp; omega
  obtain ⟨C, hC⟩ : ∃ C : World → Prop, C = fun w' => Ext w w' ∧ Blk w' G1 [.slice a1 n1 c1] 46 ∧ Blk w' G4 r5.v 51 ∧ (∃ vs : List Value, vs.length = 8 ∧ Blk w' G2 vs 51) ∧ (o5 = true → RSt w w' B G4 r5 (x5R d ws)) := ⟨_, rfl⟩
  have hC0 : ∀ w', C w' ↔ (Ext w w' ∧ Blk w' G1 [.slice a1 n1 c1] 46 ∧ Blk w' G4 r5.v 51 ∧ (∃ vs : List Value, vs.length = 8 ∧ Blk w' G2 vs 51) ∧ (o5 = true → RSt w w' B G4 r5 (x5R d ws))) := fun w' => by rw [hC]
  clear hC
  have HCC := hid hC0
  clear hC0
  have hCx : ∀ w w', C w → Ext w w' → C w' := fun w w' h1 h2 => by
    obtain ⟨p1, p2, p3, ⟨vs, p4, p6⟩, p5⟩ := (HCC.out w).1 h1
    exact (HCC.out w').2 ⟨p1.ext h2, p2.ext h2, p3.ext h2, ⟨vs, p4, p6.ext h2⟩, fun h => (p5 h).ext h2⟩
  have hCA : C u5 := (HCC.out _).2 ⟨I1.e, I1.b1, I1.b4, ⟨_, rfl, I1.b2⟩, I1.st⟩
  have HFIN := hid hfin
  have HEM := hid hem
  clear I1 hfin hem
  go_upto_region 26 with fail
  cases o5 with
  | false =>
    refine wp_region_held_drew (S := C) (by kernel_rfl) (hCx _ _ hCA (Ext.refl _).drew) (fun hS0 => ?_)
    refine held_take 0 (v := _) rfl (by kernel_rfl) (by kernel_rfl) (by kernel_rfl) (fun _ _ _ h => h) ((yieldsI_loadw rfl 51 _ rfl rfl (fun w1 h => ((HCC.out w1).1 h).2.2.1) agg_rule (RuleR.len r5))) hS0 ?_
    simp only [Act.put, List.setIfInBounds_toArray, List.set_cons_succ, List.set_cons_zero]
    refine held_take 1 (v := ?tv1) rfl (by kernel_rfl) (by kernel_rfl) (by kernel_rfl) (fun _ _ _ h => h) (.inl ⟨rfl, ?ty1⟩) hS0 ?tr1
    case ty1 => (intro _ _; go_simp; try with_reducible rfl)
    case tr1 =>
    simp only [Act.put, List.setIfInBounds_toArray, List.set_cons_succ, List.set_cons_zero]
    refine held_take 2 (v := ?tv2) rfl (by kernel_rfl) (by kernel_rfl) (by kernel_rfl) (fun _ _ _ h => h) (.inl ⟨rfl, ?ty2⟩) hS0 ?tr2
    case ty2 => (intro _ _; go_simp; try with_reducible rfl)
    case tr2 =>
    simp only [Act.put, List.setIfInBounds_toArray, List.set_cons_succ, List.set_cons_zero]
    refine held_take 3 (v := undef) rfl (by kernel_rfl) (by kernel_rfl) (by kernel_rfl) (fun _ _ _ h => h) (.inr ⟨rfl, rfl⟩) hS0 ?_
    simp only [Act.put, List.setIfInBounds_toArray, List.set_cons_succ, List.set_cons_zero]
    refine held_take 4 (v := undef) rfl (by kernel_rfl) (by kernel_rfl) (by kernel_rfl) (fun _ _ _ h => h) (.inr ⟨rfl, rfl⟩) hS0 ?_
    simp only [Act.put, List.setIfInBounds_toArray, List.set_cons_succ, List.set_cons_zero]
    refine held_take 5 (v := undef) rfl (by kernel_rfl) (by kernel_rfl) (by kernel_rfl) (fun _ _ _ h => h) (.inr ⟨rfl, rfl⟩) hS0 ?_
    simp only [Act.put, List.setIfInBounds_toArray, List.set_cons_succ, List.set_cons_zero]
    refine held_take 6 (v := ?tv3) rfl (by kernel_rfl) (by kernel_rfl) (by kernel_rfl) (fun _ _ _ h => h) (.inl ⟨rfl, ?ty3⟩) hS0 ?tr3
    case ty3 => (intro _ _; go_simp; try with_reducible rfl)
    case tr3 =>
    simp only [Act.put, List.setIfInBounds_toArray, List.set_cons_succ, List.set_cons_zero]
    obtain ⟨vz, hvz, zG⟩ := ((HCC.out _).1 hS0).2.2.2.1
    have ZG := hid zG
    have HVZ := hid hvz
    have HSS := hid hS0
    clear zG hvz hS0
    refine held_one (i := 7) (by kernel_rfl) rfl ?_
    intro Q' hQ
    go_wp2_with (refine wpl_storew rfl _ _ _ rfl rfl rfl ZG.out HAG.out HVZ.out (RuleR.len r5) (ruleV_one r5) ?_)
    intro uE b9 u9
    have hSE : C uE := by
      obtain ⟨p1, p2, p3, p4, p5⟩ := (HCC.out _).1 HSS.out
      exact (HCC.out _).2 ⟨u9.ext p1 (by omega), p2.upd u9 (by omega), p3.upd u9 (by omega), ⟨_, RuleR.len r5, b9⟩, fun h => (p5 h).upd u9 (by omega)⟩
    have B9 := hid b9
    clear b9 u9 HSS ZG HVZ
    go_wp2_with fail
    refine hQ _ _ hSE ?_
    have hS0 := hSE
    clear hQ Q' hSE
    try dsimp only
    try simp only [Act.put, List.setIfInBounds_toArray, List.set_cons_succ, List.set_cons_zero]
    refine held_take 8 (v := ?tv4) rfl (by kernel_rfl) (by kernel_rfl) (by kernel_rfl) (fun _ _ _ h => h) (.inl ⟨rfl, ?ty4⟩) hS0 ?tr4
    case ty4 => (intro _ _; go_simp; try with_reducible rfl)
    case tr4 =>
    simp only [Act.put, List.setIfInBounds_toArray, List.set_cons_succ, List.set_cons_zero]
    refine wpAnyH_done (by kernel_rfl) ?_ _
    obtain ⟨p1, p2, p3, p4, p5⟩ := (HCC.out _).1 hS0
    have P1 := hid p1
    have P5 := hid p5
    clear p1 p2 p3 p4 p5 hS0 hCx hCA HCC
    go_wp2_with fail
    have hok : okR ws = false := HFIN.out
    exact ret_row2 rfl rfl B9.out agg_rule (RuleR.len r5) rfl ⟨r5, by rw [hok]; rfl, (fun h => by rw [hok] at h; cases h), P1.out⟩
  | true =>
    refine wp_region_held_drew (S := C) (by kernel_rfl) (hCx _ _ hCA (Ext.refl _).drew) (fun hS0 => ?_)
    refine held_take 0 (v := _) rfl (by kernel_rfl) (by kernel_rfl) (by kernel_rfl) (fun _ _ _ h => h) ((yieldsI_loadw rfl 51 _ rfl rfl (fun w1 h => ((HCC.out w1).1 h).2.2.1) agg_rule (RuleR.len r5))) hS0 ?_
    simp only [Act.put, List.setIfInBounds_toArray, List.set_cons_succ, List.set_cons_zero]
    refine held_take 1 (v := ?tv5) rfl (by kernel_rfl) (by kernel_rfl) (by kernel_rfl) (fun _ _ _ h => h) (.inl ⟨rfl, ?ty5⟩) hS0 ?tr5
    case ty5 => (intro _ _; go_simp; try with_reducible rfl)
    case tr5 =>
    simp only [Act.put, List.setIfInBounds_toArray, List.set_cons_succ, List.set_cons_zero]
    refine held_take 2 (v := ?tv6) rfl (by kernel_rfl) (by kernel_rfl) (by kernel_rfl) (fun _ _ _ h => h) (.inl ⟨rfl, ?ty6⟩) hS0 ?tr6
    case ty6 => (intro _ _; go_simp; try with_reducible rfl)
    case tr6 =>
    simp only [Act.put, List.setIfInBounds_toArray, List.set_cons_succ, List.set_cons_zero]
    refine held_take 3 (v := ?tv7) rfl (by kernel_rfl) (by kernel_rfl) (by kernel_rfl) (fun _ _ _ h => h) (.inl ⟨rfl, ?ty7⟩) hS0 ?tr7
    case ty7 => (intro wq hwq; have hcq := (fun w1 h => ((HCC.out w1).1 h).2.1.cell' (i := 0) rfl) wq hwq; go_simp; try with_reducible rfl)
    case tr7 =>
    simp only [Act.put, List.setIfInBounds_toArray, List.set_cons_succ, List.set_cons_zero]
    refine held_take 4 (v := ?tv8) rfl (by kernel_rfl) (by kernel_rfl) (by kernel_rfl) (fun _ _ _ h => h) (.inl ⟨rfl, ?ty8⟩) hS0 ?tr8
    case ty8 => (intro _ _; go_simp; try with_reducible rfl)
    case tr8 =>
    simp only [Act.put, List.setIfInBounds_toArray, List.set_cons_succ, List.set_cons_zero]
    refine held_take 5 (v := ?tv9) rfl (by kernel_rfl) (by kernel_rfl) (by kernel_rfl) (fun _ _ _ h => h) (.inl ⟨rfl, ?ty9⟩) hS0 ?tr9
    case ty9 => (intro _ _; go_simp; try with_reducible rfl)
    case tr9 =>
    simp only [Act.put, List.setIfInBounds_toArray, List.set_cons_succ, List.set_cons_zero]
    refine held_take 6 (v := ?tv10) rfl (by kernel_rfl) (by kernel_rfl) (by kernel_rfl) (fun _ _ _ h => h) (.inl ⟨rfl, ?ty10⟩) hS0 ?tr10
    case ty10 => (intro _ _; go_simp; try with_reducible rfl)
    case tr10 =>
    simp only [Act.put, List.setIfInBounds_toArray, List.set_cons_succ, List.set_cons_zero]
    obtain ⟨vz, hvz, zG⟩ := ((HCC.out _).1 hS0).2.2.2.1
    have ZG := hid zG
    have HVZ := hid hvz
    have HSS := hid hS0
    clear zG hvz hS0
    refine held_one (i := 7) (by kernel_rfl) rfl ?_
    intro Q' hQ
    go_wp2_with (refine wpl_storew rfl _ _ _ rfl rfl rfl ZG.out HAG.out HVZ.out (RuleR.len r5) (ruleV_one r5) ?_)
    intro uE b9 u9
    have hSE : C uE := by
      obtain ⟨p1, p2, p3, p4, p5⟩ := (HCC.out _).1 HSS.out
      exact (HCC.out _).2 ⟨u9.ext p1 (by omega), p2.upd u9 (by omega), p3.upd u9 (by omega), ⟨_, RuleR.len r5, b9⟩, fun h => (p5 h).upd u9 (by omega)⟩
    have B9 := hid b9
    clear b9 u9 HSS ZG HVZ
    go_wp2_with fail
    refine hQ _ _ hSE ?_
    have hS0 := hSE
    clear hQ Q' hSE
    try dsimp only
    try simp only [Act.put, List.setIfInBounds_toArray, List.set_cons_succ, List.set_cons_zero]
    refine held_take 8 (v := ?tv11) rfl (by kernel_rfl) (by kernel_rfl) (by kernel_rfl) (fun _ _ _ h => h) (.inl ⟨rfl, ?ty11⟩) hS0 ?tr11
    case ty11 => (intro _ _; go_simp; try with_reducible rfl)
    case tr11 =>
    simp only [Act.put, List.setIfInBounds_toArray, List.set_cons_succ, List.set_cons_zero]
    refine wpAnyH_done (by kernel_rfl) ?_ _
    obtain ⟨p1, p2, p3, p4, p5⟩ := (HCC.out _).1 hS0
    have P1 := hid p1
    have P5 := hid p5
    clear p1 p2 p3 p4 p5 hS0 hCx hCA HCC
    go_wp2_with fail
    have hok : okR ws = decide (n1 = 0) := by rw [HFIN.out, HEM.out]; rfl
    refine ret_row2 rfl rfl B9.out agg_rule (RuleR.len r5) rfl ⟨r5, ?_, fun _ => ?_, P1.out⟩
    · rw [hok]
      by_cases h0 : n1 = 0
      · subst h0; rfl
      · have : ((n1 : Int) == 0) = false := by simp; exact h0
        simp [h0]
    · have s : RSt w uE B G4 r5 (x5R d ws) := by first | exact P5.out rfl | exact P5.out trivial
      refine ⟨?_, s.ok P1.out, s.hi hBG⟩
      rw [s.q, ← x5R_eq, HD.out]
end

section
open Go Go.RowKit

section
variable {P : Program} {t e : TypeId} {z y : Nat} {ops : Array Oper} {rest : List Oper} {o : Oper} {a : Act} {w : World} {Q : Exit → Act → World → Prop}
theorem wpl_buildOneP (T : ElemT P t e z y) (hz1 : z ≤ 100000) (hgd : o.guard = none) {x : Operand} {cs : List Value} (ho : o.op = .buildSlice t 1 #[(0, x)]) (hx : a.eval x = .agg cs.toArray) (hl : cs.length = z)
    (h : wpList P ops Q rest (a.put o.dst (.slice (some ⟨w.heap.size, 0, none⟩) 1 1)) (w.alloc (.cells cs.toArray e))) : wpList P ops Q (o :: rest) a w := by
  obtain ⟨i0, z0, hi, hz, hsz, hb1, hzs⟩ := T.info
  have hpos := T.pos
  refine wpList_plain hgd fun K hK => ?_
  have hf : ∀ cells : Array Value, cells.size = z → Instr.fill (fun i => some (i * z, z)) cells [(0, .agg cs.toArray)] = some cs.toArray := by
    intro cells hc
    have h := Great.fill_whole (s := z) hpos [.agg cs.toArray] cells (by intro v hv; rw [List.mem_singleton.1 hv]; simp [Value.cells, hl]) (by simp [hc])
    simpa [Value.cells] using h
  have hr : (execOp a.eval o).run P w = .ok (.value (.slice (some ⟨w.heap.size, 0, none⟩) 1 1)) (w.alloc (.cells cs.toArray e)) := by
    have h := run_buildSlice (P := P) w t e 1 #[(0, .agg cs.toArray)] cs.toArray i0 _ T.hu hi hz (by rw [hsz]; omega) (by rw [hsz]; omega) (by rw [hsz]; exact hf _ (by simp))
    have he : (#[(0, x)].map fun (p : Nat × Operand) => (p.1, a.eval p.2)) = #[(0, .agg cs.toArray)] := by simp [hx]
    unfold execOp
    simp only [ho, Sem.run_bind]
    have h2 : (Instr.buildSlice t 1 (#[(0, x)].map fun (p : Nat × Operand) => (p.1, a.eval p.2))).run P w = .ok (.slice (some ⟨w.heap.size, 0, none⟩) 1 1) (w.alloc (.cells cs.toArray e)) := by rw [he]; exact h
    rw [h2]
    rfl
  unfold Oper.wp
  rw [hr, Oper.upon_value]
  exact hK _ _ h
end
theorem info_ruleP : (Tryz.prog.info? 51).map (fun i => (i.zero, i.size, i.bytes)) = some (some (.agg zeroRule.toArray), 8, 120) := by kernel_rfl
theorem elem_ruleP : ElemT Tryz.prog 23 51 8 120 := ⟨Tryz.underlying23, ⟨_, _, (info_parts info_ruleP).choose_spec.1, (info_parts info_ruleP).choose_spec.2.1, (info_parts info_ruleP).choose_spec.2.2.1, (info_parts info_ruleP).choose_spec.2.2.2, rfl⟩, by decide⟩

/-! ### bounds -/
theorem consHd_len (b : UInt8) (ls : List (List UInt8)) (h : ls ≠ []) : (consHd b ls).length = ls.length := by
  cases ls with
  | nil => exact absurd rfl h
  | cons x r => rfl
theorem splitR_cnt (c : UInt8) : ∀ l : List UInt8, (splitR c l).length ≤ l.length + 1
  | [] => by simp [splitR]
  | b :: l => by
    have ih := splitR_cnt c l
    unfold splitR
    split
    · simp; omega
    · rw [consHd_len b _ (splitR_ne c l), List.length_cons]; omega
theorem splitR_len (c : UInt8) : ∀ (l : List UInt8), ∀ x ∈ splitR c l, x.length ≤ l.length
  | [], x, h => by simp [splitR] at h; subst h; simp
  | b :: l, x, h => by
    have ih := splitR_len c l
    unfold splitR at h
    split at h
    · rcases List.mem_cons.1 h with rfl | h
      · simp
      · have := ih x h; simp; omega
    · cases hs : splitR c l with
      | nil => exact absurd hs (splitR_ne c l)
      | cons y r =>
        rw [hs] at h ih
        rcases List.mem_cons.1 h with rfl | h
        · have := ih y (by simp); simp; omega
        · have := ih x (List.mem_cons_of_mem _ h); simp; omega
theorem wordsG_len (q : UInt8 → Bool) : ∀ (l cur : List UInt8), ∀ x ∈ wordsG q cur l, x.length ≤ cur.length + l.length
  | [], cur, x, h => by
    unfold wordsG at h
    split at h
    · cases h
    · simp at h; subst h; simp
  | b :: l, cur, x, h => by
    unfold wordsG at h
    split at h
    · split at h
      · have := wordsG_len q l [] x h; simp at this ⊢; omega
      · rcases List.mem_cons.1 h with rfl | h
        · simp
        · have := wordsG_len q l [] x h; simp at this ⊢; omega
    · have := wordsG_len q l (cur ++ [b]) x h; simp at this ⊢; omega
theorem wordsG_cnt (q : UInt8 → Bool) : ∀ (l cur : List UInt8), (wordsG q cur l).length ≤ l.length + 1
  | [], cur => by
    unfold wordsG
    split <;> simp
  | b :: l, cur => by
    unfold wordsG
    split
    · split
      · have := wordsG_cnt q l []; simp; omega
      · have := wordsG_cnt q l []; simp; omega
    · have := wordsG_cnt q l (cur ++ [b]); simp; omega
theorem words_cnt (l : List UInt8) : (wordsOf l).length ≤ l.length + 1 := by
  unfold wordsOf
  rw [List.length_map]
  have h1 := wordsG_cnt blankB (Lib.cut l [35]).1 []
  have h2 := (cut_lens l [35]).1
  show (wordsG blankB [] (Lib.cut l [35]).1).length ≤ _
  omega
theorem words_size (l : List UInt8) : ∀ x ∈ wordsOf l, x.size ≤ l.length := by
  intro x hx
  unfold wordsOf at hx
  obtain ⟨y, hy, rfl⟩ := List.mem_map.1 hx
  have h1 := wordsG_len blankB (Lib.cut l [35]).1 [] y hy
  have h2 := (cut_lens l [35]).1
  rw [size_strOf]
  simp at h1
  omega
/-- the words as the first reader finds them -/
theorem words_first (l : List UInt8) : ((splitR 32 (Lib.replaceAll l [9] [32])).map strOf).filter (fun s => !emptyB s) = (wordsTL l).map strOf := by
  have h := words_one l
  rw [splitR_of] at h
  rw [← h, List.filter_map]
  congr 1
  apply List.filter_congr
  intro x _
  show (!emptyB (strOf x)) = !x.isEmpty
  unfold emptyB
  rw [ByteArray.toList_eq, toList_strOf]

/-! ### what is said of a text -/
noncomputable def parE (s : List UInt8) : Int := if 65536 < s.length then 5 else match badAt (linesOf s) with | some _ => 11 | none => polE (rulesOf (linesOf s)) (rulesOf (linesOf s)).length
def parN (s : List UInt8) : Int := if 65536 < s.length then 0 else match badAt (linesOf s) with | some k => (k : Int) | none => 0
noncomputable def parR (s : List UInt8) : List RuleR := if parE s = 0 then rulesOf (linesOf s) else []
theorem ruleE_bare (r : RuleR) : ruleE r.bare = ruleE r := rfl
theorem firstE_bare : ∀ rs : List RuleR, firstE (rs.map RuleR.bare) = firstE rs
  | [] => rfl
  | r :: rs => by
    rw [List.map_cons]
    unfold firstE
    rw [ruleE_bare, firstE_bare rs]
theorem polE_bare {rs qs : List RuleR} (h : rs.map RuleR.bare = qs) (n : Nat) : polE qs n = polE rs n := by
  unfold polE
  rw [← h, firstE_bare]
theorem par_large {s : List UInt8} (h : 65536 < s.length) : parE s = 5 ∧ parN s = 0 ∧ parR s = [] := by
  have h1 : parE s = 5 := by unfold parE; rw [if_pos h]
  refine ⟨h1, by unfold parN; rw [if_pos h], ?_⟩
  unfold parR; rw [h1, if_neg (by decide)]
theorem par_bad {s : List UInt8} {k : Nat} (h : ¬ 65536 < s.length) (hb : badAt (linesOf s) = some k) : parE s = 11 ∧ parN s = k ∧ parR s = [] := by
  have h1 : parE s = 11 := by unfold parE; rw [if_neg h, hb]
  refine ⟨h1, by unfold parN; rw [if_neg h, hb], ?_⟩
  unfold parR; rw [h1, if_neg (by decide)]
theorem par_all {s : List UInt8} (h : ¬ 65536 < s.length) (hb : badAt (linesOf s) = none) : parE s = polE (rulesOf (linesOf s)) (rulesOf (linesOf s)).length ∧ parN s = 0 := by
  exact ⟨by unfold parE; rw [if_neg h, hb], by unfold parN; rw [if_neg h, hb]⟩

/-! ### rows that lie off a block -/
def OffA (q : Option Nat) (a : Option Addr) (n : Nat) : Prop := n = 0 ∨ ∃ A, a = some A ∧ q ≠ some A.block
structure RuleR.Off (q : Option Nat) (r : RuleR) : Prop where
  r1 : OffA q r.ra r.rn
  r2 : OffA q r.aa r.an
  r3 : OffA q r.la r.ln
theorem HiA.off {B : Nat} {a : Option Addr} {n : Nat} {q : Option Nat} (h : HiA B a n) (hq : ∀ g, q = some g → g < B) : OffA q a n :=
  h.imp id fun ⟨A, h1, h2⟩ => ⟨A, h1, fun e => by have := hq _ e; omega⟩
theorem RuleR.Hi.off {B : Nat} {r : RuleR} {q : Option Nat} (h : r.Hi B) (hq : ∀ g, q = some g → g < B) : r.Off q := ⟨h.r1.off hq, h.r2.off hq, h.r3.off hq⟩
theorem RuleR.Hi.mono {B B' : Nat} {r : RuleR} (h : r.Hi B) (hb : B' ≤ B) : r.Hi B' :=
  ⟨h.r1.imp id (fun ⟨A, h1, h2⟩ => ⟨A, h1, by omega⟩), h.r2.imp id (fun ⟨A, h1, h2⟩ => ⟨A, h1, by omega⟩), h.r3.imp id (fun ⟨A, h1, h2⟩ => ⟨A, h1, by omega⟩)⟩
theorem OffA.cells {w w' : World} {q : Option Nat} {a : Option Addr} {n : Nat} {xs : List Value} (h : OffA q a n) (hl : xs.length = n) (hc : Cells w a xs) (k : w.grownBy w' q) : Cells w' a xs := by
  rcases h with h0 | ⟨A, hA, hne⟩
  · have : xs = [] := List.length_eq_zero_iff.1 (by omega)
    rw [this]
    exact .inl rfl
  · refine hc.grown k (fun y hy => ?_)
    rw [hA] at hy
    injection hy with hy
    rw [← hy]
    exact fun e => hne e.symm
theorem RuleR.Ok.gro {w w' : World} {r : RuleR} {q : Option Nat} (h : r.Ok w) (ho : r.Off q) (k : w.grownBy w' q) : r.Ok w' :=
  { h with rcell := ho.r1.cells (by rw [List.length_map]; exact h.rl) h.rcell k, acell := ho.r2.cells (by rw [List.length_map]; exact h.al) h.acell k, lcell := ho.r3.cells (by rw [List.length_map]; exact h.ll) h.lcell k }
/-- a row of an Ok rule lies in memory that is there -/
theorem cells_lt {w : World} {a : Option Addr} {xs : List Value} (hc : Cells w a xs) (h : xs ≠ []) : ∃ A, a = some A ∧ A.block < w.heap.size := by
  rcases hc with h0 | ⟨b, o, rfl, hc⟩
  · exact absurd h0 h
  · obtain ⟨x, r, rfl⟩ : ∃ x r, xs = x :: r := by
      cases xs with
      | nil => exact absurd rfl h
      | cons x r => exact ⟨x, r, rfl⟩
    have := hc 0 x rfl
    exact ⟨_, rfl, block_lt_of_cell this⟩
theorem offA_new {w : World} {a : Option Addr} {n : Nat} {xs : List Value} (hc : Cells w a xs) (hl : xs.length = n) : OffA (some w.heap.size) a n := by
  by_cases h : xs = []
  · left; rw [← hl, h]; rfl
  · obtain ⟨A, h1, h2⟩ := cells_lt hc h
    exact .inr ⟨A, h1, fun e => by injection e with e; omega⟩
theorem RuleR.Ok.off_new {w : World} {r : RuleR} (h : r.Ok w) : r.Off (some w.heap.size) :=
  ⟨offA_new h.rcell (by rw [List.length_map]; exact h.rl), offA_new h.acell (by rw [List.length_map]; exact h.al), offA_new h.lcell (by rw [List.length_map]; exact h.ll)⟩

/-- between the lines: the policy in block G, its rules' row behind B -/
structure PIv (w : World) (G2 G5 g0 B : Nat) (s : List UInt8) (k : Nat) (a : Option Addr) (c : Nat) (rs : List RuleR) (wx : World) : Prop where
  e : Ext w wx
  b2 : Blk wx G2 [.slice none 0 0] 25
  b5 : Blk wx G5 [.slice a rs.length c] 25
  ln : Blk wx g0 (((splitR 10 s).map strOf).map encStr) 9
  own : wx.ownsRow B 51 8 (.slice a rs.length c) rs.length (rulesV rs)
  ru : rs.map RuleR.bare = rulesOf ((linesOf s).take k)
  ok : ∀ r ∈ rs, r.Ok wx
  hi : ∀ r ∈ rs, r.Hi B
  off : ∀ r ∈ rs, r.Off (Value.slice a rs.length c).ownBlock
  good : ∀ x ∈ (linesOf s).take k, goodB x = true
  cnt : rs.length ≤ k
variable {w wx wy wz : World} {G2 G5 g0 B k c c' : Nat} {s : List UInt8} {a a' : Option Addr} {rs : List RuleR} {r : RuleR}
theorem PIv.ext (h : PIv w G2 G5 g0 B s k a c rs wx) (e : Ext wx wy) : PIv w G2 G5 g0 B s k a c rs wy :=
  { h with e := h.e.ext e, b2 := h.b2.ext e, b5 := h.b5.ext e, ln := h.ln.ext e, own := own_extP h.own e, ok := fun r hr => (h.ok r hr).ext e }
theorem PIv.skip (h : PIv w G2 G5 g0 B s k a c rs wx) {ws : List ByteArray} (hk : (linesOf s)[k]? = some ws) (h0 : ws = []) : PIv w G2 G5 g0 B s (k + 1) a c rs wx := by
  subst h0
  refine { h with ru := ?_, good := ?_, cnt := by have := h.cnt; omega }
  · rw [rules_step hk, h.ru]
    simp
  · intro x hx
    rw [List.take_add_one, hk, List.mem_append] at hx
    rcases hx with hx | hx
    · exact h.good x hx
    · simp at hx; rw [hx]; rfl
theorem rulesV_snoc (rs : List RuleR) (r : RuleR) : rulesV (rs ++ [r]) = rulesV rs ++ r.v := by
  unfold rulesV
  rw [List.flatMap_append]
  simp
/-- a rule is appended, then the policy's cell is set -/
theorem PIv.push (h : PIv w G2 G5 g0 B s k a c rs wx) {ws : List ByteArray} (hk : (linesOf s)[k]? = some ws) (h0 : ws ≠ []) (hok : okR ws = true) (hG2 : w.heap.size ≤ G2) (h2 : G2 ≠ G5) (hG5 : w.heap.size ≤ G5) (h05 : g0 ≠ G5) (h5B : G5 < B) (h2B : G2 < B) (h0B : g0 < B) (hwB : w.heap.size ≤ B)
    {g1 : Nat} (hb : r.bare = ruleOf ws) (hr : r.Ok wx) (hh : r.Hi g1) (hg1 : B ≤ g1) (hq : ∀ g, (Value.slice a rs.length c).ownBlock = some g → g < g1)
    (ho : wy.ownsRow B 51 8 (.slice a' (rs.length + 1) c') (rs.length + 1) (rulesV rs ++ r.v)) (hg : wx.grownBy wy (Value.slice a rs.length c).ownBlock) (hn : (Value.slice a' (rs.length + 1) c').ownBlock = (Value.slice a rs.length c).ownBlock ∨ (Value.slice a' (rs.length + 1) c').ownBlock = some wx.heap.size)
    (u : Upd wy G5 wz) (b5 : Blk wz G5 [.slice a' (rs.length + 1) c'] 25) :
    PIv w G2 G5 g0 B s (k + 1) a' c' (rs ++ [r]) wz := by
  have hl : (rs ++ [r]).length = rs.length + 1 := by simp
  have hB : ∀ g, (Value.slice a rs.length c).ownBlock = some g → B ≤ g := fun g e => (h.own.lt g e).1
  have hne : ∀ g, g < B → some g ≠ (Value.slice a rs.length c).ownBlock := fun g hg e => by have := hB g e.symm; omega
  have okall : ∀ x ∈ rs ++ [r], x.Ok wz ∧ x.Hi B ∧ x.Off (Value.slice a' (rs.length + 1) c').ownBlock := by
    intro x hx
    have main : x.Ok wx ∧ x.Hi B ∧ x.Off (Value.slice a rs.length c).ownBlock := by
      rcases List.mem_append.1 hx with hx | hx
      · exact ⟨h.ok x hx, h.hi x hx, h.off x hx⟩
      · rw [List.mem_singleton] at hx
        subst hx
        exact ⟨hr, hh.mono hg1, hh.off hq⟩
    obtain ⟨m1, m2, m3⟩ := main
    refine ⟨(m1.gro m3 hg).gro (m2.off (q := some G5) (fun g e => by injection e with e; omega)) (upd_grownA u), m2, ?_⟩
    rcases hn with hn | hn
    · rw [hn]; exact m3
    · rw [hn]; exact m1.off_new
  refine ⟨?_, ?_, by rw [hl]; exact b5, ?_, ?_, ?_, fun x hx => (okall x hx).1, fun x hx => (okall x hx).2.1, fun x hx => by rw [hl]; exact (okall x hx).2.2, ?_, by have := h.cnt; omega⟩
  · exact u.ext (h.e.grown hg (fun g e => Nat.le_trans hwB (hB g e))) hG5
  · exact (h.b2.grown hg (hne _ h2B)).upd u h2
  · exact (h.ln.grown hg (hne _ h0B)).upd u h05
  · rw [hl, rulesV_snoc]
    refine own_beside ho (upd_grownA u) (fun g hg2 e => ?_)
    injection e with e
    have := (ho.lt g hg2).1
    omega
  · rw [rules_step hk, List.map_append, h.ru]
    have : ws.isEmpty = false := by
      cases ws with
      | nil => exact absurd rfl h0
      | cons y z => rfl
    rw [this]
    simp [hb]
  · intro x hx
    rw [List.take_add_one, hk, List.mem_append] at hx
    rcases hx with hx | hx
    · exact h.good x hx
    · simp at hx
      rw [hx]
      unfold goodB
      rw [hok, Bool.or_true]
theorem PIv.pol (h : PIv w G2 G5 g0 B s k a c rs wx) (hk : k ≤ 1000000) : PolOk wx a rs.length c rs := by
  obtain ⟨ad, c2, hv, hnc, _, hc⟩ := own_cellsA h.own
  injection hv with e1 e2 e3
  subst e1 e3
  exact ⟨rfl, hnc, by have := h.cnt; omega, hc, h.ok⟩
theorem lines_at {s : List UInt8} {k : Nat} {l : List UInt8} (h : (splitR 10 s)[k]? = some l) : (linesOf s)[k]? = some (wordsOf l) := by
  unfold linesOf
  rw [List.getElem?_map, h]; rfl
theorem lines_len (s : List UInt8) : (linesOf s).length = (splitR 10 s).length := by unfold linesOf; rw [List.length_map]
end

section
open Go Go.RowKit Go.Shelf

def joinL_ren : Go.Shelf.Ren := ⟨fun | 156 => 65 | 165 => 83 | 166 => 59 | 169 => 62 | 240 => 95 | 241 => 110 | 276 => 119 | 277 => 127 | n => n, fun | 0 => 0 | 3 => 3 | 4 => 4 | 5 => 5 | 9 => 9 | 20 => 20 | 31 => 42 | 37 => 39 | 70 => 90 | 72 => 92 | 75 => 94 | 76 => 95 | 80 => 99 | 127 => 124 | 164 => 144 | n => n, fun | n => n⟩
theorem joinL : Go.Proofs.Lays.n156 Tryz.prog joinL_ren where
  mixed := by kernel_rfl
  f156 := Tryz.func65.trans (congrArg some (by kernel_rfl))
  f165 := Tryz.func83.trans (congrArg some (by kernel_rfl))
  f166 := Tryz.func59.trans (congrArg some (by kernel_rfl))
  f169 := Tryz.func62.trans (congrArg some (by kernel_rfl))
  f240 := Tryz.func95.trans (congrArg some (by kernel_rfl))
  f241 := Tryz.func110.trans (congrArg some (by kernel_rfl))
  f276 := Tryz.func119.trans (congrArg some (by kernel_rfl))
  f277 := Tryz.func127.trans (congrArg some (by kernel_rfl))
  t0 := Tryz.underlying0
  a0 := Tryz.isAgg0
  z0 := Tryz.sizeOf0
  v0 := Tryz.zeroValue0
  t3 := Tryz.underlying3
  a3 := Tryz.isAgg3
  z3 := Tryz.sizeOf3
  v3 := Tryz.zeroValue3
  t4 := Tryz.underlying4
  a4 := Tryz.isAgg4
  z4 := Tryz.sizeOf4
  v4 := Tryz.zeroValue4
  t9 := Tryz.underlying9
  a9 := Tryz.isAgg9
  z9 := Tryz.sizeOf9
  v9 := Tryz.zeroValue9
  t20 := Tryz.underlying20
  a20 := Tryz.isAgg20
  z20 := Tryz.sizeOf20
  v20 := Tryz.zeroValue20
  t31 := Tryz.underlying42
  a31 := Tryz.isAgg42
  z31 := Tryz.sizeOf42
  v31 := Tryz.zeroValue42
  t37 := Tryz.underlying39
  a37 := Tryz.isAgg39
  z37 := Tryz.sizeOf39
  v37 := Tryz.zeroValue39
  t70 := Tryz.underlying90
  a70 := Tryz.isAgg90
  z70 := Tryz.sizeOf90
  v70 := Tryz.zeroValue90
  t72 := Tryz.underlying92
  a72 := Tryz.isAgg92
  z72 := Tryz.sizeOf92
  v72 := Tryz.zeroValue92
  t75 := Tryz.underlying94
  a75 := Tryz.isAgg94
  z75 := Tryz.sizeOf94
  v75 := Tryz.zeroValue94
  t76 := Tryz.underlying95
  a76 := Tryz.isAgg95
  z76 := Tryz.sizeOf95
  v76 := Tryz.zeroValue95
  t127 := Tryz.underlying124
  a127 := Tryz.isAgg124
  z127 := Tryz.sizeOf124
  v127 := Tryz.zeroValue124
  t164 := Tryz.underlying144
  a164 := Tryz.isAgg144
  z164 := Tryz.sizeOf144
  v164 := Tryz.zeroValue144
theorem extra_joinL : Go.Proofs.Builder.Extra Tryz.prog joinL_ren where
  sizeBuilder := by kernel_rfl
  liesBuilder := by kernel_rfl
  t5 := Tryz.underlying5
  a5 := Tryz.isAgg5
  z5 := Tryz.sizeOf5
  v5 := Tryz.zeroValue5
  infoByte := by kernel_rfl
  cellsByte := by kernel_rfl
  sizeByte := by kernel_rfl
  neB5 := by decide

def wrsL_ren : Go.Shelf.Ren := ⟨fun | 166 => 59 | 240 => 95 | 276 => 119 | n => n, fun | 0 => 0 | 3 => 3 | 4 => 4 | 5 => 5 | 9 => 9 | 20 => 20 | 37 => 39 | 70 => 90 | 72 => 92 | 75 => 94 | 80 => 99 | 164 => 144 | n => n, fun | n => n⟩
theorem wrsL : Go.Proofs.Lays.n166 Tryz.prog wrsL_ren where
  mixed := by kernel_rfl
  f166 := Tryz.func59.trans (congrArg some (by kernel_rfl))
  f240 := Tryz.func95.trans (congrArg some (by kernel_rfl))
  f276 := Tryz.func119.trans (congrArg some (by kernel_rfl))
  t0 := Tryz.underlying0
  a0 := Tryz.isAgg0
  z0 := Tryz.sizeOf0
  v0 := Tryz.zeroValue0
  t3 := Tryz.underlying3
  a3 := Tryz.isAgg3
  z3 := Tryz.sizeOf3
  v3 := Tryz.zeroValue3
  t4 := Tryz.underlying4
  a4 := Tryz.isAgg4
  z4 := Tryz.sizeOf4
  v4 := Tryz.zeroValue4
  t9 := Tryz.underlying9
  a9 := Tryz.isAgg9
  z9 := Tryz.sizeOf9
  v9 := Tryz.zeroValue9
  t20 := Tryz.underlying20
  a20 := Tryz.isAgg20
  z20 := Tryz.sizeOf20
  v20 := Tryz.zeroValue20
  t37 := Tryz.underlying39
  a37 := Tryz.isAgg39
  z37 := Tryz.sizeOf39
  v37 := Tryz.zeroValue39
  t70 := Tryz.underlying90
  a70 := Tryz.isAgg90
  z70 := Tryz.sizeOf90
  v70 := Tryz.zeroValue90
  t72 := Tryz.underlying92
  a72 := Tryz.isAgg92
  z72 := Tryz.sizeOf92
  v72 := Tryz.zeroValue92
  t75 := Tryz.underlying94
  a75 := Tryz.isAgg94
  z75 := Tryz.sizeOf94
  v75 := Tryz.zeroValue94
  t164 := Tryz.underlying144
  a164 := Tryz.isAgg144
  z164 := Tryz.sizeOf144
  v164 := Tryz.zeroValue144
theorem extra_wrsL : Go.Proofs.Builder.Extra Tryz.prog wrsL_ren where
  sizeBuilder := by kernel_rfl
  liesBuilder := by kernel_rfl
  t5 := Tryz.underlying5
  a5 := Tryz.isAgg5
  z5 := Tryz.sizeOf5
  v5 := Tryz.zeroValue5
  infoByte := by kernel_rfl
  cellsByte := by kernel_rfl
  sizeByte := by kernel_rfl
  neB5 := by decide

def wrbL_ren : Go.Shelf.Ren := ⟨fun | 167 => 61 | 240 => 95 | 276 => 119 | n => n, fun | 0 => 0 | 4 => 4 | 5 => 5 | 9 => 9 | 20 => 20 | 37 => 39 | 70 => 90 | 72 => 92 | 75 => 94 | 80 => 99 | 164 => 144 | n => n, fun | n => n⟩
theorem wrbL : Go.Proofs.Lays.n167 Tryz.prog wrbL_ren where
  mixed := by kernel_rfl
  f167 := Tryz.func61.trans (congrArg some (by kernel_rfl))
  f240 := Tryz.func95.trans (congrArg some (by kernel_rfl))
  f276 := Tryz.func119.trans (congrArg some (by kernel_rfl))
  t0 := Tryz.underlying0
  a0 := Tryz.isAgg0
  z0 := Tryz.sizeOf0
  v0 := Tryz.zeroValue0
  t4 := Tryz.underlying4
  a4 := Tryz.isAgg4
  z4 := Tryz.sizeOf4
  v4 := Tryz.zeroValue4
  t5 := Tryz.underlying5
  a5 := Tryz.isAgg5
  z5 := Tryz.sizeOf5
  v5 := Tryz.zeroValue5
  t9 := Tryz.underlying9
  a9 := Tryz.isAgg9
  z9 := Tryz.sizeOf9
  v9 := Tryz.zeroValue9
  t20 := Tryz.underlying20
  a20 := Tryz.isAgg20
  z20 := Tryz.sizeOf20
  v20 := Tryz.zeroValue20
  t37 := Tryz.underlying39
  a37 := Tryz.isAgg39
  z37 := Tryz.sizeOf39
  v37 := Tryz.zeroValue39
  t70 := Tryz.underlying90
  a70 := Tryz.isAgg90
  z70 := Tryz.sizeOf90
  v70 := Tryz.zeroValue90
  t72 := Tryz.underlying92
  a72 := Tryz.isAgg92
  z72 := Tryz.sizeOf92
  v72 := Tryz.zeroValue92
  t75 := Tryz.underlying94
  a75 := Tryz.isAgg94
  z75 := Tryz.sizeOf94
  v75 := Tryz.zeroValue94
  t164 := Tryz.underlying144
  a164 := Tryz.isAgg144
  z164 := Tryz.sizeOf144
  v164 := Tryz.zeroValue144
theorem extra_wrbL : Go.Proofs.Builder.Extra Tryz.prog wrbL_ren where
  sizeBuilder := by kernel_rfl
  liesBuilder := by kernel_rfl
  t5 := Tryz.underlying5
  a5 := Tryz.isAgg5
  z5 := Tryz.sizeOf5
  v5 := Tryz.zeroValue5
  infoByte := by kernel_rfl
  cellsByte := by kernel_rfl
  sizeByte := by kernel_rfl
  neB5 := by decide

def strL_ren : Go.Shelf.Ren := ⟨fun | 169 => 62 | n => n, fun | 0 => 0 | 3 => 3 | 5 => 5 | 9 => 9 | 37 => 39 | 70 => 90 | 72 => 92 | 127 => 124 | n => n, fun | n => n⟩
theorem strL : Go.Proofs.Lays.n169 Tryz.prog strL_ren where
  mixed := by kernel_rfl
  f169 := Tryz.func62.trans (congrArg some (by kernel_rfl))
  t0 := Tryz.underlying0
  a0 := Tryz.isAgg0
  z0 := Tryz.sizeOf0
  v0 := Tryz.zeroValue0
  t3 := Tryz.underlying3
  a3 := Tryz.isAgg3
  z3 := Tryz.sizeOf3
  v3 := Tryz.zeroValue3
  t9 := Tryz.underlying9
  a9 := Tryz.isAgg9
  z9 := Tryz.sizeOf9
  v9 := Tryz.zeroValue9
  t37 := Tryz.underlying39
  a37 := Tryz.isAgg39
  z37 := Tryz.sizeOf39
  v37 := Tryz.zeroValue39
  t70 := Tryz.underlying90
  a70 := Tryz.isAgg90
  z70 := Tryz.sizeOf90
  v70 := Tryz.zeroValue90
  t72 := Tryz.underlying92
  a72 := Tryz.isAgg92
  z72 := Tryz.sizeOf92
  v72 := Tryz.zeroValue92
  t127 := Tryz.underlying124
  a127 := Tryz.isAgg124
  z127 := Tryz.sizeOf124
  v127 := Tryz.zeroValue124
theorem extra_strL : Go.Proofs.Builder.Extra Tryz.prog strL_ren where
  sizeBuilder := by kernel_rfl
  liesBuilder := by kernel_rfl
  t5 := Tryz.underlying5
  a5 := Tryz.isAgg5
  z5 := Tryz.sizeOf5
  v5 := Tryz.zeroValue5
  infoByte := by kernel_rfl
  cellsByte := by kernel_rfl
  sizeByte := by kernel_rfl
  neB5 := by decide


/-! ### a builder -/
/-- the builder in block b holds these octets; its memory is block B or behind -/
def BldAt (B b : Nat) (l : List UInt8) (w : World) : Prop := Lib.IsBuilder 92 5 B b (Lib.byteCells l) w
theorem BldAt.ext {B b : Nat} {l : List UInt8} {w w' : World} (h : BldAt B b l w) (e : Ext w w') : BldAt B b l w' := by
  have at_ : ∀ p, Lib.BuilderAt 92 5 B b p (Lib.byteCells l) w → Lib.BuilderAt 92 5 B b p (Lib.byteCells l) w' := by
    intro p h
    have hlt := h.lt
    obtain ⟨h1, v, h2, h3, h4⟩ := h
    exact ⟨h1, v, (e.block b hlt).trans h2, own_extP h3 e, h4⟩
  rcases h with h | h
  · exact .inl (at_ _ h)
  · exact .inr (at_ _ h)
theorem wrs_c (B b : Nat) (l s : List UInt8) (w : World) (h : BldAt B b l w) (hl : l.length + s.length ≤ 140737488355328) (hB : B ≤ w.heap.size) :
    Calls Tryz.prog 59 #[.pointer (some ⟨b, 0, none⟩), .string (strOf s)] w fun e w' => e = .returned (.tuple #[.int .i64 (s.length : Int), .nilIface]) ∧ BldAt B b (l ++ s) w' ∧ Below B w w' := by
  have hc := Any.Builder_WriteString wrsL extra_wrsL B b (Lib.byteCells l) (strOf s) w h (by rw [size_strOf, Lib.byteCells_length]; exact hl) hB
  refine hc.mono ?_
  rintro e w' ⟨rfl, h1, h2⟩
  refine ⟨by rw [size_strOf], .inr ?_, h2⟩
  have he : Lib.byteCells (l ++ s) = Lib.byteCells l ++ Lib.strCells (strOf s) := by
    unfold Lib.byteCells Lib.strCells
    rw [toList_strOf, List.map_append]
  rw [he]
  exact h1
theorem wrb_c (B b : Nat) (l : List UInt8) (w : World) (h : BldAt B b l w) (hl : l.length + 1 ≤ 140737488355328) (hB : B ≤ w.heap.size) :
    Calls Tryz.prog 61 #[.pointer (some ⟨b, 0, none⟩), .int .u8 10] w fun e w' => e = .returned .nilIface ∧ BldAt B b (l ++ [10]) w' ∧ Below B w w' := by
  have hc := Any.Builder_WriteByte wrbL extra_wrbL B b (Lib.byteCells l) 10 w h (by rw [Lib.byteCells_length]; exact hl) hB
  refine hc.mono ?_
  rintro e w' ⟨rfl, h1, h2⟩
  refine ⟨rfl, .inr ?_, h2⟩
  have he : Lib.byteCells (l ++ [10]) = Lib.byteCells l ++ [.int .u8 10] := by
    unfold Lib.byteCells
    rw [List.map_append]
    rfl
  rw [he]
  exact h1
theorem str_c (B b : Nat) (l : List UInt8) (w : World) (h : BldAt B b l w) (hB : B ≤ w.heap.size) :
    Calls Tryz.prog 62 #[.pointer (some ⟨b, 0, none⟩)] w fun e w' => e = .returned (.string (strOf l)) ∧ Below B w w' :=
  Any.Builder_String_any strL extra_strL B b l w h hB
theorem join_c (a : Option Addr) (n c : Nat) (xs : List ByteArray) (w : World) (hl : xs.length = n) (hnc : n ≤ c) (hne : xs ≠ []) (hn : n ≤ 140737488355328) (hcl : Cells w a (xs.map encStr))
    (hlen : (Lib.join (xs.map (·.data.toList)) [32]).length ≤ 140737488355328) :
    Calls Tryz.prog 65 #[.slice a n c, .string (strOf [32])] w fun e w' => e = .returned (.string (strOf (Lib.join (xs.map (·.data.toList)) [32]))) ∧ Ext w w' := by
  subst hl
  obtain ⟨bk, o, rfl, hc⟩ := hcl.some_of (by
    rw [List.length_map]
    cases xs with
    | nil => exact absurd rfl hne
    | cons x r => simp)
  have hx : ∀ (j : Nat) x, xs[j]? = some x → w.cell? ⟨bk, o + j, none⟩ = some (.string x) := fun j x h => hc j _ (by rw [List.getElem?_map, h]; rfl)
  have hbk : bk < w.heap.size := by
    cases xs with
    | nil => exact absurd rfl hne
    | cons x r => exact block_lt_of_cell (hx 0 x rfl)
  have h := Any.strings_Join joinL extra_joinL bk o c xs (strOf [32]) w hx hbk hn hnc (by rw [toList_strOf]; exact hlen)
  rw [toList_strOf] at h
  exact h

/-! ### the words of a rule -/
def actTx (z : Int) : ByteArray := actW.getD (z - 1).toNat ⟨#[]⟩
def hourTx (f t : Int) : ByteArray := strOf (Lib.itoa f ++ 45 :: Lib.itoa t)
def roleWs (r : RuleR) : List ByteArray := if r.roles = [] then [] else wdRole :: r.roles
def actWs (r : RuleR) : List ByteArray := if r.acts = [] then [] else wdAct :: r.acts.map actTx
def labWs (r : RuleR) : List ByteArray := if r.labels = [] then [] else wdOn :: r.labels
def hourWs (r : RuleR) : List ByteArray := if r.fr = r.tt then [] else [wdAt, hourTx r.fr r.tt]
def needWs (r : RuleR) : List ByteArray := if 0 < r.nd then [wdNeed, strOf (Lib.itoa r.nd), r.ow] else []
def headW (d : Bool) : ByteArray := if d then wdDeny else wdAllow
def ruleWs (r : RuleR) : List ByteArray := [headW r.deny] ++ roleWs r ++ actWs r ++ labWs r ++ hourWs r ++ needWs r
def ruleTx (r : RuleR) : List UInt8 := Lib.join ((ruleWs r).map (·.data.toList)) [32]
def polTx (rs : List RuleR) : List UInt8 := rs.flatMap fun r => ruleTx r ++ [10]
theorem ruleTx_bare (r : RuleR) : ruleTx r.bare = ruleTx r := rfl
theorem polTx_bare (rs : List RuleR) : polTx (rs.map RuleR.bare) = polTx rs := by
  unfold polTx
  rw [List.flatMap_map]
  rfl
end

section
open Go Go.RowKit

theorem strOf_app (x y : List UInt8) : strOf x ++ strOf y = strOf (x ++ y) := by
  apply ByteArray.ext
  simp [strOf, ByteArray.data_append]

theorem exec_cat {o : Oper} {a : Act} {x y : Operand} {u v : List UInt8} (ho : o.op = .binOp .add 9 x y 9) (hx : a.eval x = .string (strOf u)) (hy : a.eval y = .string (strOf v)) (h : u.length + v.length ≤ 9223372036854775807) (w : World) :
    (execOp a.eval o).run Tryz.prog w = .ok (.value (.string (strOf (u ++ v)))) w := by
  have h2 : ¬ 9223372036854775807 < (strOf u).size + (strOf v).size := by
    show ¬ 9223372036854775807 < u.toArray.size + v.toArray.size
    simp; omega
  unfold execOp
  simp only [ho, hx, hy, Sem.run_bind]
  go_simp
  simp [h2, strOf_app]

/-- the same, the joined text told: the walk keeps texts nested to the right -/
theorem exec_catR {o : Oper} {a : Act} {x y : Operand} {u v r : List UInt8} (hr : u ++ v = r) (ho : o.op = .binOp .add 9 x y 9) (hx : a.eval x = .string (strOf u)) (hy : a.eval y = .string (strOf v)) (h : u.length + v.length ≤ 9223372036854775807) (w : World) :
    (execOp a.eval o).run Tryz.prog w = .ok (.value (.string (strOf r))) w := by
  subst hr
  exact exec_cat ho hx hy h w
end
end Go.Proofs.YthfddfgncolnbaaGreatDoor
