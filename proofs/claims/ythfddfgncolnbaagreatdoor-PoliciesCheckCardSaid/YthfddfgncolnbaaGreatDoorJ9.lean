/- Contracts and laws that the claim's row leans on (3 texts, joined): keyref1.parseRule; conditions: the memory, the library's variables. keyref1.ParsePolicy; conditions: the text's size, the library's variables. keyref1.PrintPolicy; conditions: the policy's memory, the library's variables. -/
import Derived.Test.YthfddfgncolnbaaGreatDoorJ8
namespace Go.Proofs.YthfddfgncolnbaaGreatDoor
section
open Go Go.RowKit

theorem part_at5 {k : Nat} (hk : k < 5) : (partWs.map encStr)[k]? = some (.string (nmS k)) := by
  rcases (show k = 0 ∨ k = 1 ∨ k = 2 ∨ k = 3 ∨ k = 4 by omega) with rfl | rfl | rfl | rfl | rfl <;> rfl
theorem ptr_at5 {G2 G5 G6 G7 k : Nat} (hk : k < 5) : ([Value.pointer (some ⟨G2, 1, none⟩), .pointer (some ⟨G5, 0, none⟩), .pointer (some ⟨G2, 3, none⟩), .pointer (some ⟨G6, 0, none⟩), .pointer (some ⟨G7, 0, none⟩)] : List Value)[k]? = some (.pointer (some ⟨tgS G2 G5 G6 G7 k, ofS k, none⟩)) := by
  rcases (show k = 0 ∨ k = 1 ∨ k = 2 ∨ k = 3 ∨ k = 4 by omega) with rfl | rfl | rfl | rfl | rfl <;> rfl

set_option maxRecDepth 100000 in
set_option maxHeartbeats 8000000 in
theorem parseRule_c (B : Nat) (a0 : Option Addr) (n0 c0 : Nat) (ws : List ByteArray) (w : World) (hw : Wds w B a0 n0 c0 ws) (hne : ws ≠ []) (hl : LibP w) (hB : B ≤ w.heap.size) :
    Calls Tryz.prog 24 #[.slice a0 n0 c0] w fun e w' => ∃ r : RuleR, e = .returned (.tuple #[.agg r.v.toArray, .bool (okR ws)]) ∧ (okR ws = true → r.bare = ruleOf ws ∧ r.Ok w' ∧ r.Hi B) ∧ Ext w w' := by
  have HL := hid hl
  have HW := hid hw
  have HAG := hid agg_rule
  obtain ⟨x, r0, hxr⟩ : ∃ x r, ws = x :: r := by
    cases ws with
    | nil => exact absurd rfl hne
    | cons x r => exact ⟨x, r, rfl⟩
  have HXR := hid hxr
  obtain ⟨A, hA, hca⟩ := hw.at (k := 0) (x := x) (by rw [hxr]; rfl)
  rw [addr_a0] at hca
  have HCA := hid hca
  have hn : 0 < n0 := by have := hw.hl; rw [hxr] at this; simp at this; omega
  subst hA
  obtain ⟨R, hR⟩ : ∃ R : Ending → World → Prop, R = fun e w' => ∃ r : RuleR, e = .returned (.tuple #[.agg r.v.toArray, .bool (okR ws)]) ∧ (okR ws = true → r.bare = ruleOf ws ∧ r.Ok w' ∧ r.Hi B) ∧ Ext w w' := ⟨_, rfl⟩
  rw [← hR]
  have HR := hid hR
  have bad : okR ws = false → ∀ (r : RuleR) (w' : World), Ext w w' → R (.returned (.tuple #[.agg r.v.toArray, .bool false])) w' := fun h r w' e => by
    rw [HR.out]
    exact ⟨r, by rw [h], (fun h2 => by rw [h] at h2; cases h2), e⟩
  have BAD := hid bad
  clear hR bad hl hw hne hxr hca
  go_enter Tryz.func24, Tryz.ntmps24
  go_upto_region 1 with (fail)
  generalize hwA : World.alloc (World.alloc w _) _ = wA
  have bA : Blk wA w.heap.size [.slice (some A) n0 c0] 42 := by rw [← hwA]; exact (Blk.mk_alloc rfl rfl).alloc _
  have zA : Blk wA (w.heap.size + 1) (x0R false).v 51 := by rw [← hwA]; exact Blk.mk_alloc (size_allocQ _ _).symm rfl
  have eA : Ext w wA := by rw [← hwA]; exact ((Ext.refl w).alloc _).alloc _
  have hsA : wA.heap.size = w.heap.size + 2 := by rw [← hwA, size_allocQ, size_allocQ]
  have HSA := hid hsA
  have BA := hid bA
  have ZA := hid zA
  have EA := hid eA
  clear hwA hsA bA zA eA
  have k1 := BA.out.cell' (i := 0) rfl
  have kx : wA.cell? A = some (.string x) := by
    rw [EA.out.cell (block_lt_of_cell HCA.out)]; exact HCA.out
  have l1 := lit_allow x
  have l2 := lit_deny x
  have hhead : headB ws = (decide (x = wdDeny) || decide (x = wdAllow)) := by rw [HXR.out]; rfl
  have hdeny : secB wdDeny ws = decide (x = wdDeny) := by rw [HXR.out]; rfl
  obtain ⟨d, hd⟩ : ∃ d, decide (x = wdDeny) = d := ⟨_, rfl⟩
  obtain ⟨al, hal⟩ : ∃ d, decide (x = wdAllow) = d := ⟨_, rfl⟩
  rw [hd, hal] at hhead
  rw [hd] at hdeny l2
  rw [hal] at l1
  have HHEAD := hid hhead
  have HDENY := hid hdeny
  clear hhead hdeny hd hal
  go_cut [27] (fun v wx => v = .bool (!(d || al)) ∧ wx = wA)
  case first =>
    cases al <;> cases d
    all_goals (
      go_wp2_with fail
      go_meet
      exact ⟨rfl, rfl⟩)
  case rest =>
  obtain ⟨rfl, rfl⟩ := hcut
  by_cases hh : (d || al) = false
  · rw [hh]
    have hok : okR ws = false := by
      rw [← okF_eq, okF_S, HHEAD.out, hh]; rfl
    have HOK := hid hok
    clear l1 l2 hok
    go_wp2_with (first | (refine wpl_loadw rfl 51 _ rfl rfl ZA.out HAG.out rfl ?_) | (refine wpl_storew rfl _ _ _ rfl rfl rfl ZA.out HAG.out rfl (xs := (x0R false).v) rfl (ruleV_one _) ?_))
    intro u1 b9 u9
    go_wp2_with fail
    exact ret_row2 rfl rfl b9 HAG.out rfl rfl (BAD.out HOK.out (x0R false) u1 (u9.ext EA.out (by omega)))
  have hh2 : (d || al) = true := by revert hh; cases (d || al) <;> simp
  rw [hh2]
  have HHD := hid (HHEAD.out.trans hh2)
  clear l1 hh hh2 HHEAD
  have kz := ZA.out.cell' (i := 0) rfl
  have fz := ZA.out.frozen 0
  have f1 := BA.out.frozen 0
  go_upto_region 4 with fail
  obtain ⟨w1, hw1⟩ : ∃ W, World.setCell wc ⟨w.heap.size + 1, 0, none⟩ (.bool d) = W := ⟨_, rfl⟩
  rw [hw1]
  have b1 : Blk w1 w.heap.size [.slice (some A) n0 c0] 42 := by rw [← hw1]; exact BA.out.set_other _ _ (by simp)
  have z1 : Blk w1 (w.heap.size + 1) (x0R d).v 51 := by rw [← hw1]; exact ZA.out.set 0 (.bool d)
  have e1 : Ext w w1 := by rw [← hw1]; exact EA.out.set _ (by simp)
  have hs1 : w1.heap.size = w.heap.size + 2 := by rw [← hw1, ← HSA.out]; exact (Upd.setCell (w := wc) (g := w.heap.size + 1) (i := 0) (.bool d)).size
  have B1 := hid b1
  have Z1 := hid z1
  have E1 := hid e1
  have HS1 := hid hs1
  have HN1 := hid (show 1 ≤ n0 from hn)
  clear hw1 b1 z1 e1 hs1 kz fz f1 k1 kx l2 BA ZA EA HSA hn
  have k1 := B1.out.cell' (i := 0) rfl
  have f1 := B1.out.frozen 0
  go_upto_region 5 with (refine wpl_run rfl (exec_slLow (p := some A) (n := n0) (c := c0) (k := 1) rfl rfl rfl Tryz.underlying42 size_str1 HN1.out _) ?_)
  obtain ⟨w2, hw2⟩ : ∃ W, World.setCell w1 ⟨w.heap.size, 0, none⟩ (.slice (shift (some A) c0 1) (n0 - 1) (c0 - 1)) = W := ⟨_, rfl⟩
  rw [hw2]
  have b2 : Blk w2 w.heap.size [.slice (shift (some A) c0 1) (n0 - 1) (c0 - 1)] 42 := by rw [← hw2]; exact B1.out.set 0 _
  have z2 : Blk w2 (w.heap.size + 1) (x0R d).v 51 := by rw [← hw2]; exact Z1.out.set_other _ _ (by simp)
  have e2 : Ext w w2 := by rw [← hw2]; exact E1.out.set _ (by simp)
  have hs2 : w2.heap.size = w.heap.size + 2 := by rw [← hw2, ← HS1.out]; exact (Upd.setCell (w := w1) (g := w.heap.size) (i := 0) _).size
  have hwd : Wds w B (shift (some A) c0 1) (n0 - 1) (c0 - 1) (wdS 0 ws) := by
    have := HW.out.drop HN1.out
    rw [HXR.out] at this ⊢
    exact this
  generalize shift (some A) c0 1 = a1 at *
  generalize n0 - 1 = n1 at *
  generalize c0 - 1 = c1 at *
  have B2 := hid b2
  have Z2 := hid z2
  have E2 := hid e2
  have HS2 := hid hs2
  have HWD := hid hwd
  clear hw2 b2 z2 e2 hs2 hwd k1 f1 B1 Z1 E1 HS1 HN1
  go_upto_region 8 with fail
  generalize hwB : World.alloc (World.alloc (World.alloc (World.alloc w2 _) _) _) _ = wB
  have I0 : RfI w B w.heap.size (w.heap.size + 1) w2.heap.size (w2.heap.size + 1) (w2.heap.size + 1 + 1) (w2.heap.size + 1 + 1 + 1) d ws 0 (fun _ => nilS) a1 n1 c1 wB := by
    rw [← hwB]
    refine ⟨(((E2.out.alloc _).alloc _).alloc _).alloc _, (((B2.out.alloc _).alloc _).alloc _).alloc _, HWD.out, (((Z2.out.alloc _).alloc _).alloc _).alloc _, (((Blk.mk_alloc rfl rfl).alloc _).alloc _).alloc _, ((Blk.mk_alloc (size_allocQ _ _).symm rfl).alloc _).alloc _, (Blk.mk_alloc (by rw [size_allocQ, size_allocQ]) rfl).alloc _, Blk.mk_alloc (by rw [size_allocQ, size_allocQ, size_allocQ]) rfl, fun j hj => ?_⟩
    rw [if_neg (by omega)]
    exact Wds.nil _ _
  obtain ⟨G8, hG8⟩ : ∃ G, w2.heap.size + 1 + 1 + 1 = G := ⟨_, rfl⟩
  obtain ⟨G7, hG7⟩ : ∃ G, w2.heap.size + 1 + 1 = G := ⟨_, rfl⟩
  obtain ⟨G6, hG6⟩ : ∃ G, w2.heap.size + 1 = G := ⟨_, rfl⟩
  obtain ⟨G5, hG5⟩ : ∃ G, w2.heap.size = G := ⟨_, rfl⟩
  obtain ⟨G2, hG2⟩ : ∃ G, w.heap.size + 1 = G := ⟨_, rfl⟩
  obtain ⟨G1, hG1⟩ : ∃ G, w.heap.size = G := ⟨_, rfl⟩
  have hG : w.heap.size ≤ G1 ∧ G1 < G2 ∧ G2 < G5 ∧ G5 < G6 ∧ G6 < G7 ∧ G7 < G8 ∧ B ≤ G2 := by
    have := HS2.out
    omega
  obtain ⟨q0, q12, q25, q56, q67, q78, qB⟩ := hG
  have HGB := hid qB
  have hsw := hid hG1
  rw [hG8, hG7, hG6, hG5, hG2, hG1] at I0
  rw [hG8, hG7, hG6, hG5, hG2, hG1]
  clear hG8 hG7 hG6 hG5 hG2 hG1 hwB B2 Z2 E2 HS2 HWD HW HCA qB
  go_wp2_with fail
  go_loopw [41] (fun i wr => ∃ (k : Nat) (q : Nat → Sl) (a : Option Addr) (n c : Nat), k ≤ 5 ∧ i = .int .i64 (k : Int) ∧ RfI w B G1 G2 G5 G6 G7 G8 d ws k q a n c wr ∧ (∀ j, j < k → fiS j ws = true)) (fun i _ => 5 - (intOf i).toNat)
  case atStart => exact ⟨0, _, a1, n1, c1, by omega, rfl, I0, fun j hj => by omega⟩
  case round =>
    obtain ⟨k, q, a, n, c, hk, rfl, hI, hfi⟩ := hrel
    have P0 := hid hI
    have FI := hid hfi
    clear hI hfi I0
    rcases (show k = 0 ∨ k = 1 ∨ k = 2 ∨ k = 3 ∨ k = 4 ∨ k = 5 by omega) with rfl | rfl | rfl | rfl | rfl | rfl
    · have c8 := P0.out.b8.cell' (i := 0) (v := .pointer (some ⟨G2, 1, none⟩)) rfl
      go_upto_region 10 with fail
      go_wp2_with fail
      generalize hwC : World.alloc wr _ = wC
      have P1 := hid (P0.out.ext (show Ext wr wC by rw [← hwC]; exact (Ext.refl wr).alloc _))
      clear hwC c8 P0
      refine (rlist_c G1 B _ a n c (wdS 0 ws) (nmS 0) w wC P1.out.b1 P1.out.wd P1.out.e q0).mono ?_
      rintro e wD ⟨al1, nl1, cl1, a', n', c', rfl, hs1, hw1, hb1, hg1⟩
      have HS1 := hid hs1
      have HW1 := hid hw1
      have HB1 := hid hb1
      have HG1 := hid hg1
      obtain ⟨f, hf⟩ : ∃ f, (!secB (nmS 0) (wdS 0 ws) || !(secL (nmS 0) (wdS 0 ws)).isEmpty) = f := ⟨_, rfl⟩
      rw [hf]
      have HF := hid (show fiS 0 ws = f from hf)
      have bT := P1.out.b2.grown hg1 (fun e => by injection e with e; omega)
      have cT := bT.cell' (i := 1) rfl
      have fT := bT.frozen 1
      clear hs1 hw1 hb1 hg1 hf bT
      go_upto_region 11 with fail
      obtain ⟨wE, hwE⟩ : ∃ W, World.setCell wD ⟨G2, 1, none⟩ (.slice al1 nl1 cl1) = W := ⟨_, rfl⟩
      rw [hwE]
      have P2 := hid (P1.out.step (s := ⟨al1, nl1, cl1⟩) (by omega) q0 q12 q25 q56 q67 q78 HB1.out HG1.out HS1.out HW1.out hwE.symm)
      clear hwE cT fT P1 HS1 HW1 HB1 HG1
      cases f with
      | false =>
        have HOK := hid (okF_no (by omega) HF.out)
        have HRL := hid (RuleR.len (rqR d (updS q 0 ⟨al1, nl1, cl1⟩) [] []))
        go_wp2_with (first | (refine wpl_loadw rfl 51 _ rfl rfl P2.out.b2 HAG.out HRL.out ?_) | (refine wpl_storew rfl _ _ _ rfl rfl rfl P2.out.b2 HAG.out HRL.out HRL.out (ruleV_one _) ?_))
        intro u1 b9 u9
        go_wp2_with fail
        exact ret_row2 rfl rfl b9 HAG.out HRL.out rfl (BAD.out HOK.out (rqR d (updS q 0 ⟨al1, nl1, cl1⟩) [] []) u1 (u9.ext P2.out.e (by omega)))
      | true =>
        go_wp2_with fail
        go_roundw
        case rel => exact ⟨0 + 1, _, a', n', c', by omega, by go_num, P2.out, fun j hj => by
          by_cases hjk : j = 0
          · rw [hjk]; exact HF.out
          · exact FI.out j (by omega)⟩
        case measure => simp [intOf]
    · have c8 := P0.out.b8.cell' (i := 1) (v := .pointer (some ⟨G5, 0, none⟩)) rfl
      go_upto_region 10 with fail
      go_wp2_with fail
      generalize hwC : World.alloc wr _ = wC
      have P1 := hid (P0.out.ext (show Ext wr wC by rw [← hwC]; exact (Ext.refl wr).alloc _))
      clear hwC c8 P0
      refine (rlist_c G1 B _ a n c (wdS 1 ws) (nmS 1) w wC P1.out.b1 P1.out.wd P1.out.e q0).mono ?_
      rintro e wD ⟨al1, nl1, cl1, a', n', c', rfl, hs1, hw1, hb1, hg1⟩
      have HS1 := hid hs1
      have HW1 := hid hw1
      have HB1 := hid hb1
      have HG1 := hid hg1
      obtain ⟨f, hf⟩ : ∃ f, (!secB (nmS 1) (wdS 1 ws) || !(secL (nmS 1) (wdS 1 ws)).isEmpty) = f := ⟨_, rfl⟩
      rw [hf]
      have HF := hid (show fiS 1 ws = f from hf)
      have bT := P1.out.b5.grown hg1 (fun e => by injection e with e; omega)
      have cT := bT.cell' (i := 0) rfl
      have fT := bT.frozen 0
      clear hs1 hw1 hb1 hg1 hf bT
      go_upto_region 11 with fail
      obtain ⟨wE, hwE⟩ : ∃ W, World.setCell wD ⟨G5, 0, none⟩ (.slice al1 nl1 cl1) = W := ⟨_, rfl⟩
      rw [hwE]
      have P2 := hid (P1.out.step (s := ⟨al1, nl1, cl1⟩) (by omega) q0 q12 q25 q56 q67 q78 HB1.out HG1.out HS1.out HW1.out hwE.symm)
      clear hwE cT fT P1 HS1 HW1 HB1 HG1
      cases f with
      | false =>
        have HOK := hid (okF_no (by omega) HF.out)
        have HRL := hid (RuleR.len (rqR d (updS q 1 ⟨al1, nl1, cl1⟩) [] []))
        go_wp2_with (first | (refine wpl_loadw rfl 51 _ rfl rfl P2.out.b2 HAG.out HRL.out ?_) | (refine wpl_storew rfl _ _ _ rfl rfl rfl P2.out.b2 HAG.out HRL.out HRL.out (ruleV_one _) ?_))
        intro u1 b9 u9
        go_wp2_with fail
        exact ret_row2 rfl rfl b9 HAG.out HRL.out rfl (BAD.out HOK.out (rqR d (updS q 1 ⟨al1, nl1, cl1⟩) [] []) u1 (u9.ext P2.out.e (by omega)))
      | true =>
        go_wp2_with fail
        go_roundw
        case rel => exact ⟨1 + 1, _, a', n', c', by omega, by go_num, P2.out, fun j hj => by
          by_cases hjk : j = 1
          · rw [hjk]; exact HF.out
          · exact FI.out j (by omega)⟩
        case measure => simp [intOf]
    · have c8 := P0.out.b8.cell' (i := 2) (v := .pointer (some ⟨G2, 3, none⟩)) rfl
      go_upto_region 10 with fail
      go_wp2_with fail
      generalize hwC : World.alloc wr _ = wC
      have P1 := hid (P0.out.ext (show Ext wr wC by rw [← hwC]; exact (Ext.refl wr).alloc _))
      clear hwC c8 P0
      refine (rlist_c G1 B _ a n c (wdS 2 ws) (nmS 2) w wC P1.out.b1 P1.out.wd P1.out.e q0).mono ?_
      rintro e wD ⟨al1, nl1, cl1, a', n', c', rfl, hs1, hw1, hb1, hg1⟩
      have HS1 := hid hs1
      have HW1 := hid hw1
      have HB1 := hid hb1
      have HG1 := hid hg1
      obtain ⟨f, hf⟩ : ∃ f, (!secB (nmS 2) (wdS 2 ws) || !(secL (nmS 2) (wdS 2 ws)).isEmpty) = f := ⟨_, rfl⟩
      rw [hf]
      have HF := hid (show fiS 2 ws = f from hf)
      have bT := P1.out.b2.grown hg1 (fun e => by injection e with e; omega)
      have cT := bT.cell' (i := 3) rfl
      have fT := bT.frozen 3
      clear hs1 hw1 hb1 hg1 hf bT
      go_upto_region 11 with fail
      obtain ⟨wE, hwE⟩ : ∃ W, World.setCell wD ⟨G2, 3, none⟩ (.slice al1 nl1 cl1) = W := ⟨_, rfl⟩
      rw [hwE]
      have P2 := hid (P1.out.step (s := ⟨al1, nl1, cl1⟩) (by omega) q0 q12 q25 q56 q67 q78 HB1.out HG1.out HS1.out HW1.out hwE.symm)
      clear hwE cT fT P1 HS1 HW1 HB1 HG1
      cases f with
      | false =>
        have HOK := hid (okF_no (by omega) HF.out)
        have HRL := hid (RuleR.len (rqR d (updS q 2 ⟨al1, nl1, cl1⟩) [] []))
        go_wp2_with (first | (refine wpl_loadw rfl 51 _ rfl rfl P2.out.b2 HAG.out HRL.out ?_) | (refine wpl_storew rfl _ _ _ rfl rfl rfl P2.out.b2 HAG.out HRL.out HRL.out (ruleV_one _) ?_))
        intro u1 b9 u9
        go_wp2_with fail
        exact ret_row2 rfl rfl b9 HAG.out HRL.out rfl (BAD.out HOK.out (rqR d (updS q 2 ⟨al1, nl1, cl1⟩) [] []) u1 (u9.ext P2.out.e (by omega)))
      | true =>
        go_wp2_with fail
        go_roundw
        case rel => exact ⟨2 + 1, _, a', n', c', by omega, by go_num, P2.out, fun j hj => by
          by_cases hjk : j = 2
          · rw [hjk]; exact HF.out
          · exact FI.out j (by omega)⟩
        case measure => simp [intOf]
    · have c8 := P0.out.b8.cell' (i := 3) (v := .pointer (some ⟨G6, 0, none⟩)) rfl
      go_upto_region 10 with fail
      go_wp2_with fail
      generalize hwC : World.alloc wr _ = wC
      have P1 := hid (P0.out.ext (show Ext wr wC by rw [← hwC]; exact (Ext.refl wr).alloc _))
      clear hwC c8 P0
      refine (rlist_c G1 B _ a n c (wdS 3 ws) (nmS 3) w wC P1.out.b1 P1.out.wd P1.out.e q0).mono ?_
      rintro e wD ⟨al1, nl1, cl1, a', n', c', rfl, hs1, hw1, hb1, hg1⟩
      have HS1 := hid hs1
      have HW1 := hid hw1
      have HB1 := hid hb1
      have HG1 := hid hg1
      obtain ⟨f, hf⟩ : ∃ f, (!secB (nmS 3) (wdS 3 ws) || !(secL (nmS 3) (wdS 3 ws)).isEmpty) = f := ⟨_, rfl⟩
      rw [hf]
      have HF := hid (show fiS 3 ws = f from hf)
      have bT := P1.out.b6.grown hg1 (fun e => by injection e with e; omega)
      have cT := bT.cell' (i := 0) rfl
      have fT := bT.frozen 0
      clear hs1 hw1 hb1 hg1 hf bT
      go_upto_region 11 with fail
      obtain ⟨wE, hwE⟩ : ∃ W, World.setCell wD ⟨G6, 0, none⟩ (.slice al1 nl1 cl1) = W := ⟨_, rfl⟩
      rw [hwE]
      have P2 := hid (P1.out.step (s := ⟨al1, nl1, cl1⟩) (by omega) q0 q12 q25 q56 q67 q78 HB1.out HG1.out HS1.out HW1.out hwE.symm)
      clear hwE cT fT P1 HS1 HW1 HB1 HG1
      cases f with
      | false =>
        have HOK := hid (okF_no (by omega) HF.out)
        have HRL := hid (RuleR.len (rqR d (updS q 3 ⟨al1, nl1, cl1⟩) [] []))
        go_wp2_with (first | (refine wpl_loadw rfl 51 _ rfl rfl P2.out.b2 HAG.out HRL.out ?_) | (refine wpl_storew rfl _ _ _ rfl rfl rfl P2.out.b2 HAG.out HRL.out HRL.out (ruleV_one _) ?_))
        intro u1 b9 u9
        go_wp2_with fail
        exact ret_row2 rfl rfl b9 HAG.out HRL.out rfl (BAD.out HOK.out (rqR d (updS q 3 ⟨al1, nl1, cl1⟩) [] []) u1 (u9.ext P2.out.e (by omega)))
      | true =>
        go_wp2_with fail
        go_roundw
        case rel => exact ⟨3 + 1, _, a', n', c', by omega, by go_num, P2.out, fun j hj => by
          by_cases hjk : j = 3
          · rw [hjk]; exact HF.out
          · exact FI.out j (by omega)⟩
        case measure => simp [intOf]
    · have c8 := P0.out.b8.cell' (i := 4) (v := .pointer (some ⟨G7, 0, none⟩)) rfl
      go_upto_region 10 with fail
      go_wp2_with fail
      generalize hwC : World.alloc wr _ = wC
      have P1 := hid (P0.out.ext (show Ext wr wC by rw [← hwC]; exact (Ext.refl wr).alloc _))
      clear hwC c8 P0
      refine (rlist_c G1 B _ a n c (wdS 4 ws) (nmS 4) w wC P1.out.b1 P1.out.wd P1.out.e q0).mono ?_
      rintro e wD ⟨al1, nl1, cl1, a', n', c', rfl, hs1, hw1, hb1, hg1⟩
      have HS1 := hid hs1
      have HW1 := hid hw1
      have HB1 := hid hb1
      have HG1 := hid hg1
      obtain ⟨f, hf⟩ : ∃ f, (!secB (nmS 4) (wdS 4 ws) || !(secL (nmS 4) (wdS 4 ws)).isEmpty) = f := ⟨_, rfl⟩
      rw [hf]
      have HF := hid (show fiS 4 ws = f from hf)
      have bT := P1.out.b7.grown hg1 (fun e => by injection e with e; omega)
      have cT := bT.cell' (i := 0) rfl
      have fT := bT.frozen 0
      clear hs1 hw1 hb1 hg1 hf bT
      go_upto_region 11 with fail
      obtain ⟨wE, hwE⟩ : ∃ W, World.setCell wD ⟨G7, 0, none⟩ (.slice al1 nl1 cl1) = W := ⟨_, rfl⟩
      rw [hwE]
      have P2 := hid (P1.out.step (s := ⟨al1, nl1, cl1⟩) (by omega) q0 q12 q25 q56 q67 q78 HB1.out HG1.out HS1.out HW1.out hwE.symm)
      clear hwE cT fT P1 HS1 HW1 HB1 HG1
      cases f with
      | false =>
        have HOK := hid (okF_no (by omega) HF.out)
        have HRL := hid (RuleR.len (rqR d (updS q 4 ⟨al1, nl1, cl1⟩) [] []))
        go_wp2_with (first | (refine wpl_loadw rfl 51 _ rfl rfl P2.out.b2 HAG.out HRL.out ?_) | (refine wpl_storew rfl _ _ _ rfl rfl rfl P2.out.b2 HAG.out HRL.out HRL.out (ruleV_one _) ?_))
        intro u1 b9 u9
        go_wp2_with fail
        exact ret_row2 rfl rfl b9 HAG.out HRL.out rfl (BAD.out HOK.out (rqR d (updS q 4 ⟨al1, nl1, cl1⟩) [] []) u1 (u9.ext P2.out.e (by omega)))
      | true =>
        go_wp2_with fail
        go_roundw
        case rel => exact ⟨4 + 1, _, a', n', c', by omega, by go_num, P2.out, fun j hj => by
          by_cases hjk : j = 4
          · rw [hjk]; exact HF.out
          · exact FI.out j (by omega)⟩
        case measure => simp [intOf]
    · have PJ := hid (RfI.j P0.out)
      have hwd6 : Wds w B a n c (wd6 ws) := P0.out.wd
      have hem : (wd6 ws).isEmpty = decide (n = 0) := by
        have := hwd6.hl
        cases hq : wd6 ws with
        | nil => rw [hq] at this; simp at this; simp [← this]
        | cons y z => rw [hq] at this; simp at this; simp; omega
      have hokr := okF_rest HHD.out FI.out
      rw [hem] at hokr
      have k1 := P0.out.b1.cell' (i := 0) rfl
      have HRL := hid (RuleR.len (rqR d q (rolesL ws) (labsL ws)))
      obtain ⟨wL, hwL⟩ : ∃ W, wr = W := ⟨_, rfl⟩
      rw [hwL] at PJ k1 ⊢
      have W0 : Hid (Wds w B (q 0).a (q 0).n (q 0).c (rolesL ws)) := hid (P0.out.ql 0 (by omega))
      have W2 : Hid (Wds w B (q 2).a (q 2).n (q 2).c (labsL ws)) := hid (P0.out.ql 2 (by omega))
      have W1 := hid PJ.out.w1
      have W3 := hid PJ.out.w3
      have W4 := hid PJ.out.w4
      have hG7 : G7 < wL.heap.size := PJ.out.b7.lt
      clear hwd6 hem P0 FI hwL wr hk
      by_cases h0 : n ≠ 0
      · have HOK := hid (show okR ws = false by rw [hokr, decide_eq_false h0]; simp)
        have g1 : decide ((0 : Int) < (n : Int)) = true := decide_eq_true (by omega)
        have g2 : decide (0 < n) = true := decide_eq_true (by omega)
        clear hokr
        go_wp2_with (first | (refine wpl_loadw rfl 51 _ rfl rfl PJ.out.b2 HAG.out HRL.out ?_) | (refine wpl_storew rfl _ _ _ rfl rfl rfl PJ.out.b2 HAG.out HRL.out HRL.out (ruleV_one _) ?_))
        intro u1 b9 u9
        go_wp2_with fail
        exact ret_row2 rfl rfl b9 HAG.out HRL.out rfl (BAD.out HOK.out (rqR d q (rolesL ws) (labsL ws)) u1 (u9.ext PJ.out.e (by omega)))
      have h0 : n = 0 := by omega
      rw [decide_eq_true h0, Bool.true_and] at hokr
      subst h0
      have HOKR := hid hokr
      clear hokr
      go_upto_region 16 with fail
      clear k1
      have k5 := PJ.out.b5.cell' (i := 0) (v := .slice (q 1).a (q 1).n (q 1).c) rfl
      have hlt2 : G2 < wL.heap.size := PJ.out.b2.lt
      have HB3 := hid (show w.heap.size ≤ wL.heap.size from PJ.out.e.size)
      obtain ⟨B3, hB3⟩ : ∃ B3, wL.heap.size = B3 := ⟨_, rfl⟩
      rw [hB3] at hlt2 HB3 hG7
      have I2 : RfK w G2 G5 G6 G7 q { rqR d q (rolesL ws) (labsL ws) with aa := none, an := 0, ac := 0, acts := [] } wL := PJ.out.toK
      go_wp2_with fail
      clear k5 PJ
      go_loopw [67] (fun i wr2 => ∃ (j : Nat) (ad : Option Addr) (cd : Nat) (zs : List Int), j ≤ (q 1).n ∧ i = .int .i64 (j : Int) ∧ RfK w G2 G5 G6 G7 q { rqR d q (rolesL ws) (labsL ws) with aa := ad, an := j, ac := cd, acts := zs } wr2 ∧ wr2.ownsRow B3 3 1 (.slice ad j cd) j (zs.map encI) ∧ zs = ((actsL ws).take j).map actI ∧ (∀ x ∈ (actsL ws).take j, actI x ≠ 0) ∧ B3 ≤ wr2.heap.size) (fun i _ => (q 1).n - (intOf i).toNat)
      case atStart => exact ⟨0, none, 0, [], by omega, rfl, I2, ⟨rfl, .inl ⟨rfl, rfl⟩⟩, rfl, (fun _ h => by simp at h), by omega⟩
      case round =>
        obtain ⟨j, ad, cd, zs, hj, rfl, hJ, hown, hzs, hpre, hB3w⟩ := hrel
        have P0 := hid hJ
        have HO := hid hown
        have HP := hid hpre
        have HZS := hid hzs
        have hm1 := W1.out.hm
        clear hJ hown hpre I2 hzs
        by_cases hlt : j < (q 1).n
        · have d1 : decide ((j : Int) < ((q 1).n : Int)) = true := decide_eq_true (by omega)
          have d2 : decide (j < (q 1).n) = true := decide_eq_true hlt
          obtain ⟨y, hy⟩ : ∃ y, (actsL ws)[j]? = some y := ⟨(actsL ws)[j]'(by rw [W1.out.hl]; exact hlt), by simp⟩
          obtain ⟨A5, hA5, hcy⟩ := (W1.out.ext P0.out.e).at hy
          have HY := hid hy
          have htk : (actsL ws).take (j + 1) = (actsL ws).take j ++ [y] := by rw [List.take_add_one, hy]; rfl
          have HTK := hid htk
          have hib := hid (fun w1 a1 (h : Cells w1 a1 (((⟨#[]⟩ : ByteArray) :: actW).map encStr)) => idxS_c y (⟨#[]⟩ :: actW) a1 13 13 w1 rfl (by omega) h)
          have hra := ref_act y
          clear hy htk
          rw [hA5]
          go_wp2_with fail
          refine (actWordsR_c wr).mono ?_
          rintro e v1 ⟨rfl, hc1, e1⟩
          have HC1 := hid hc1
          have P1 := hid (P0.out.ext e1)
          have HO1 := hid (own_extP HO.out e1)
          have hs1 := e1.size
          clear hc1 e1 HO
          go_wp2_with fail
          refine (hib.out v1 _ HC1.out).mono ?_
          rintro e v2 ⟨rfl, rfl⟩
          clear hib HC1 P0
          by_cases hz : actI y = 0
          · have t1 := hra.1
            rw [decide_eq_true hz] at t1
            have HOK := hid (show okR ws = false by
              rw [HOKR.out]
              have : actsB (actsL ws) = false := by
                unfold actsB
                rw [List.all_eq_false]
                exact ⟨y, List.mem_of_getElem? HY.out, by simp [hz]⟩
              rw [this]; rfl)
            have HRL := hid (RuleR.len { rqR d q (rolesL ws) (labsL ws) with aa := ad, an := j, ac := cd, acts := zs })
            clear hra hz
            generalize idxI y (⟨#[]⟩ :: actW) = Z at *
            go_wp2_with (first | (refine wpl_loadw rfl 51 _ rfl rfl P1.out.b2 HAG.out HRL.out ?_) | (refine wpl_storew rfl _ _ _ rfl rfl rfl P1.out.b2 HAG.out HRL.out HRL.out (ruleV_one _) ?_))
            intro u1 b9 u9
            go_wp2_with fail
            exact ret_row2 rfl rfl b9 HAG.out HRL.out rfl (BAD.out HOK.out _ u1 (u9.ext P1.out.e (by omega)))
          · have t1 := hra.1
            rw [decide_eq_false hz, hra.2 hz] at t1
            rw [hra.2 hz]
            have HZ := hid hz
            clear hra hz
            obtain ⟨z, hze⟩ : ∃ z, actI y = z := ⟨_, rfl⟩
            rw [hze] at t1 ⊢
            have HZE := hid hze
            have c2 := P1.out.b2.cell' (i := 2) (v := .slice ad j cd) rfl
            have HTE := hid elem_intP
            clear hze
            go_upto_region 22 with fail
            go_wp2_with (refine wpl_appendA (n := j) (m := 1) (c := 1) (news := [.int .i64 z]) HTE.out rfl _ _ rfl B3 rfl rfl (own_extP HO1.out ((Ext.refl _).alloc _)) rfl (Nat.le_refl _) (fun h => by cases h) (Cells.of_blk0 (Blk.mk_alloc rfl rfl)) (fun u hu => by simp at hu; rw [hu]; rfl) (by omega) (by omega) (by rw [size_allocP]; omega) ?_)
            intro v' v3 hown3 hgrow hnil
            obtain ⟨ad3, cd3, rfl, _, _, _⟩ := own_cellsA hown3
            have P3 := hid ((P1.out.ext ((Ext.refl _).alloc _)).gro q25 q56 q67 hgrow (fun g hg => by
              have := (HO1.out.lt g hg).1
              have := HB3.out
              omega))
            have HO3 := hid hown3
            have hs3 := hgrow.size
            rw [size_allocP] at hs3
            have c3 := P3.out.b2.cell' (i := 2) (v := .slice ad j cd) rfl
            have f3 := P3.out.b2.frozen 2
            clear hown3 hgrow hnil c2 P1 HO1
            go_wp2_with fail
            go_roundw
            case rel =>
              refine ⟨j + 1, ad3, cd3, zs ++ [z], by omega, by go_num, P3.out.rule (by omega) q25 q56 q67 (P3.out.b2.set 2 (.slice ad3 (j + 1) cd3)) (Upd.setCell _), ?_, ?_, ?_, ?_⟩
              · have h2 : v3.ownsRow B3 3 1 (.slice ad3 (j + 1) cd3) (j + 1) ((zs ++ [z]).map encI) := by
                  rw [List.map_append]
                  exact HO3.out
                exact own_beside h2 (upd_grownA (Upd.setCell _)) (fun g hg e => by
                  injection e with e
                  have := (h2.lt g hg).1
                  omega)
              · rw [HTK.out, List.map_append, ← HZS.out, ← HZE.out]; rfl
              · intro x2 hx2
                rw [HTK.out, List.mem_append] at hx2
                rcases hx2 with hx2 | hx2
                · exact HP.out x2 hx2
                · simp at hx2; rw [hx2]; exact HZ.out
              · rw [(Upd.setCell (w := v3) (g := G2) (i := 2) _).size]; omega
            case measure => simp [intOf]; omega
        · have hj2 : j = (q 1).n := by omega
          have d1 : decide ((j : Int) < ((q 1).n : Int)) = false := decide_eq_false (by omega)
          have d2 : decide (j < (q 1).n) = false := decide_eq_false (by omega)
          have htk : (actsL ws).take j = actsL ws := List.take_of_length_le (by rw [W1.out.hl]; omega)
          have hp2 := HP.out
          have hzz := HZS.out
          rw [htk] at hp2 hzz
          have hlen : zs.length = j := by rw [hzz, List.length_map, W1.out.hl]; omega
          have hst : RSt w wr B G2 { rqR d q (rolesL ws) (labsL ws) with aa := ad, an := j, ac := cd, acts := zs } (y2R d ws) := by
            have h1 := ((RSt.zero w wr B G2 d).roles W0.out).labels W2.out
            have h2 := h1.acts (a := ad) (n := j) (c := cd) (zs := zs) (B0 := B3) (by rw [hlen]; exact HO.out) hlt2 (by rw [hlen]; omega) (by rw [hzz]; exact act_wf2 _)
            exact h2.to (by rw [hzz, List.length_map]; rfl)
          have hact : actsB (actsL ws) = true := by
            unfold actsB
            rw [List.all_eq_true]
            intro y hy
            simp [hp2 y hy]
          have hokr := HOKR.out
          rw [hact, Bool.true_and] at hokr
          have HOKR := hid hokr
          have J0 := hid (P0.out.j W1.out W3.out W4.out hst)
          obtain ⟨r2, hr2⟩ : ∃ r : RuleR, { rqR d q (rolesL ws) (labsL ws) with aa := ad, an := j, ac := cd, acts := zs } = r := ⟨_, rfl⟩
          rw [hr2] at J0
          obtain ⟨v0, hv0⟩ : ∃ W, wr = W := ⟨_, rfl⟩
          rw [hv0] at J0 ⊢
          obtain ⟨s3, hs3⟩ : ∃ s, q 3 = s := ⟨_, rfl⟩
          obtain ⟨a6, n6, c6⟩ := s3
          obtain ⟨s4, hs4⟩ : ∃ s, q 4 = s := ⟨_, rfl⟩
          obtain ⟨a7, n7, c7⟩ := s4
          have hw3 := W3.out
          have hw4 := W4.out
          rw [hs3] at hw3
          rw [hs4] at hw4
          dsimp only at hw3 hw4
          have W3 := hid hw3
          have W4 := hid hw4
          have V3 := hid (show (q 3).v = .slice a6 n6 c6 by rw [hs3]; rfl)
          have V4 := hid (show (q 4).v = .slice a7 n7 c7 by rw [hs4]; rfl)
          clear hst hact hp2 hzz hlen hokr htk hj2 hr2 hv0 wr hs3 hs4 hw3 hw4 HP HZS HO P0 hB3w hj W0 W2
          have k6 := J0.out.b6.cell' (i := 0) (v := .slice a6 n6 c6) (by rw [← V3.out]; rfl)
          go_upto_if 86 with fail
          go_cut [] (fun wx => ∃ r, RfJ w B G2 G5 G6 G7 ws q r (y3R d ws) wx ∧ ((atL ws).isEmpty || atB (atL ws)) = true)
          case first =>
            by_cases h0 : n6 = 0
            · have hat : atL ws = [] := List.length_eq_zero_iff.1 (W3.out.hl.trans h0)
              have HAT := hid hat
              subst h0
              clear hat
              go_wp2_with fail
              go_meet
              exact ⟨r2, by rw [y3R_no HAT.out]; exact J0.out, by rw [HAT.out]; rfl⟩
            have g1 : decide ((0 : Int) < (n6 : Int)) = true := decide_eq_true (by omega)
            have g2 : decide (0 < n6) = true := decide_eq_true (by omega)
            have g3 : 0 < n6 := by omega
            obtain ⟨x5, t5, hx⟩ : ∃ x t, atL ws = x :: t := by
              cases hq : atL ws with
              | nil => exact absurd (W3.out.hl.symm.trans (by rw [hq]; rfl)) h0
              | cons y z => exact ⟨y, z, rfl⟩
            obtain ⟨A6, rfl, hca⟩ := (W3.out.ext J0.out.e).at (k := 0) (x := x5) (by rw [hx]; rfl)
            rw [addr_a0] at hca
            have hxs := W3.out.hs x5 (by rw [hx]; simp)
            have HX := hid hx
            have hsl : x5.data.toList.length ≤ 1000000 := by rw [Array.length_toList]; exact hxs
            have hcut := hid (cutS_c x5.data.toList [45] v0 (by omega) (HL.out.ext J0.out.e).lw.ml)
            rw [strOf_back] at hcut
            have hcl := cut_lens x5.data.toList [45]
            have hA : Lib.cut x5.data.toList [45] = cutA x5 := rfl
            rw [hA] at hcut hcl
            have hat1 : ∀ b, n6 = 1 → atB (atL ws) = b → hrB x5 = b := by
              intro b h1 h2
              have : t5 = [] := by
                have := W3.out.hl
                rw [hx, h1] at this
                simpa using this
              rw [hx, this] at h2
              exact h2
            have hat2 : n6 ≠ 1 → atB (atL ws) = false := by
              intro h1
              have := W3.out.hl
              rw [hx] at this ⊢
              cases t5 with
              | nil => exact absurd this.symm h1
              | cons y z => rfl
            have hatx : n6 = 1 → atL ws = [x5] := by
              intro h1
              have := W3.out.hl
              rw [hx, h1] at this
              rw [hx]
              simp at this
              rw [this]
            have HAT1 := hid hat1
            have HAT2 := hid hat2
            have HATX := hid hatx
            have HRB := hid (show hrB x5 = ((cutA x5).2.2 && numB (cutA x5).1 && numB (cutA x5).2.1) from rfl)
            have HYES := hid (fun (h : atL ws = [x5]) (h1 : numB (cutA x5).1 = true) (h2 : numB (cutA x5).2.1 = true) => y3R_yes (d := d) h h1 h2)
            clear hA hx hat1 hat2 hatx
            generalize cutA x5 = ct at *
            obtain ⟨ca, cb, cok⟩ := ct
            dsimp only at *
            go_wp2_with fail
            refine hcut.out.mono ?_
            rintro e v1 ⟨rfl, e1⟩
            have J1 := hid (J0.out.ext e1)
            clear e1 hcut k6 hca
            have s1 := hid (small_c ca v1 (by omega) (HL.out.ext J1.out.e).lw)
            clear J0
            go_wp2_with fail
            refine s1.out.mono ?_
            rintro e v2 ⟨rfl, e2⟩
            have J2 := hid (J1.out.ext e2)
            have c4 := J2.out.b2.cell' (i := 4) rfl
            have f4 := J2.out.b2.frozen 4
            clear e2 s1 J1
            go_upto_region 28 with fail
            obtain ⟨v3, hv3⟩ : ∃ W, World.setCell v2 ⟨G2, 4, none⟩ (.int .i64 (numOf ca)) = W := ⟨_, rfl⟩
            rw [hv3]
            have J3 := hid (J2.out.rule (r' := { r2 with fr := numOf ca }) (x' := { y2R d ws with fr := numOf ca }) (wy := v3) (by omega) q25 q56 q67 (by rw [← hv3]; exact J2.out.b2.set 4 (.int .i64 (numOf ca))) (by rw [← hv3]; exact Upd.setCell _) (fun s => s.fr _))
            clear hv3 c4 f4 J2
            have s2 := hid (small_c cb v3 (by omega) (HL.out.ext J3.out.e).lw)
            go_wp2_with fail
            refine s2.out.mono ?_
            rintro e v4 ⟨rfl, e4⟩
            have J4 := hid (J3.out.ext e4)
            have c5 := J4.out.b2.cell' (i := 5) rfl
            have f5 := J4.out.b2.frozen 5
            clear e4 s2 J3
            go_upto_region 29 with fail
            obtain ⟨v5, hv5⟩ : ∃ W, World.setCell v4 ⟨G2, 5, none⟩ (.int .i64 (numOf cb)) = W := ⟨_, rfl⟩
            rw [hv5]
            have J5 := hid (J4.out.rule (r' := { r2 with fr := numOf ca, tt := numOf cb }) (x' := { y2R d ws with fr := numOf ca, tt := numOf cb }) (wy := v5) (by omega) q25 q56 q67 (by rw [← hv5]; exact J4.out.b2.set 5 (.int .i64 (numOf cb))) (by rw [← hv5]; exact Upd.setCell _) (fun s => s.tt _))
            clear hv5 c5 f5 J4
            have k6 := J5.out.b6.cell' (i := 0) (v := .slice (some A6) n6 c6) (by rw [← V3.out]; rfl)
            by_cases hall : n6 = 1 ∧ (cok && numB ca && numB cb) = true
            · obtain ⟨h1, h2⟩ := hall
              have hb3 : cok = true ∧ numB ca = true ∧ numB cb = true := by
                simp only [Bool.and_eq_true] at h2
                exact ⟨h2.1.1, h2.1.2, h2.2⟩
              have HFIN : Hid (((atL ws).isEmpty || atB (atL ws)) = true) := hid (by
                have := HAT1.out _ h1 rfl
                rw [HRB.out] at this
                rw [← this, h2, Bool.or_true])
              have JF : Hid (RfJ w B G2 G5 G6 G7 ws q { r2 with fr := numOf ca, tt := numOf cb } (y3R d ws) v5) := hid { J5.out with st := J5.out.st.to (HYES.out (HATX.out h1) hb3.2.1 hb3.2.2) }
              obtain ⟨e1, e2, e3⟩ := hb3
              rw [e1, e2, e3]
              subst h1
              clear HATX HAT1 HAT2 HYES h2 e1 e2 e3 J5
              go_wp2_with fail
              go_meet
              exact ⟨_, JF.out, HFIN.out⟩
            · have HOK := hid (show okR ws = false by
                have hb : ((atL ws).isEmpty || atB (atL ws)) = false := by
                  rw [HX.out]
                  show (false || atB (x5 :: t5)) = false
                  rw [← HX.out, Bool.false_or]
                  by_cases h1 : n6 = 1
                  · cases hq : atB (atL ws) with
                    | false => rfl
                    | true =>
                      have := HAT1.out _ h1 hq
                      rw [HRB.out] at this
                      exact absurd ⟨h1, this⟩ hall
                  · exact HAT2.out h1
                rw [HOKR.out, hb]; rfl)
              have hcase : (n6 ≠ 1) ∨ (n6 = 1 ∧ (cok && numB ca && numB cb) = false) := by
                by_cases h1 : n6 = 1
                · exact .inr ⟨h1, by cases hq : (cok && numB ca && numB cb) with
                    | false => rfl
                    | true => exact absurd ⟨h1, hq⟩ hall⟩
                · exact .inl h1
              clear hall HATX HAT1 HAT2 HYES HRB
              rcases hcase with h1 | ⟨h1, h2⟩
              · have m1 : ((n6 : Int) != 1) = true := by simp; omega
                have m2 : decide ((n6 : Int) = 1) = false := decide_eq_false (by omega)
                have m3 : decide (n6 = 1) = false := decide_eq_false h1
                go_wp2_with (first | (refine wpl_loadw rfl 51 _ rfl rfl J5.out.b2 HAG.out (RuleR.len _) ?_) | (refine wpl_storew rfl _ _ _ rfl rfl rfl J5.out.b2 HAG.out (RuleR.len _) (RuleR.len _) (ruleV_one _) ?_))
                intro u1 b9 u9
                go_wp2_with fail
                exact ret_row2 rfl rfl b9 HAG.out (RuleR.len _) rfl (BAD.out HOK.out _ u1 (u9.ext J5.out.e (by omega)))
              · subst h1
                generalize numB ca = na at *
                generalize numB cb = nb at *
                cases cok
                · clear h2
                  go_wp2_with (first | (refine wpl_loadw rfl 51 _ rfl rfl J5.out.b2 HAG.out (RuleR.len _) ?_) | (refine wpl_storew rfl _ _ _ rfl rfl rfl J5.out.b2 HAG.out (RuleR.len _) (RuleR.len _) (ruleV_one _) ?_))
                  intro u1 b9 u9
                  go_wp2_with fail
                  exact ret_row2 rfl rfl b9 HAG.out (RuleR.len _) rfl (BAD.out HOK.out _ u1 (u9.ext J5.out.e (by omega)))
                · cases na
                  · clear h2
                    go_wp2_with (first | (refine wpl_loadw rfl 51 _ rfl rfl J5.out.b2 HAG.out (RuleR.len _) ?_) | (refine wpl_storew rfl _ _ _ rfl rfl rfl J5.out.b2 HAG.out (RuleR.len _) (RuleR.len _) (ruleV_one _) ?_))
                    intro u1 b9 u9
                    go_wp2_with fail
                    exact ret_row2 rfl rfl b9 HAG.out (RuleR.len _) rfl (BAD.out HOK.out _ u1 (u9.ext J5.out.e (by omega)))
                  · cases nb
                    · clear h2
                      go_wp2_with (first | (refine wpl_loadw rfl 51 _ rfl rfl J5.out.b2 HAG.out (RuleR.len _) ?_) | (refine wpl_storew rfl _ _ _ rfl rfl rfl J5.out.b2 HAG.out (RuleR.len _) (RuleR.len _) (ruleV_one _) ?_))
                      intro u1 b9 u9
                      go_wp2_with fail
                      exact ret_row2 rfl rfl b9 HAG.out (RuleR.len _) rfl (BAD.out HOK.out _ u1 (u9.ext J5.out.e (by omega)))
                    · cases h2
          case rest =>
          obtain ⟨r3, hJ3, hat⟩ := hcut
          have hokr := HOKR.out
          rw [hat, Bool.true_and] at hokr
          have HOKR := hid hokr
          clear J0 k6 hokr hat
          obtain ⟨v1, hv1⟩ : ∃ W, wc = W := ⟨_, rfl⟩
          have J0 : Hid (RfJ w B G2 G5 G6 G7 ws q r3 (y3R d ws) v1) := hid (by rw [← hv1]; exact hJ3)
          rw [hv1]
          clear hv1 hJ3 wc
          have k7 := J0.out.b7.cell' (i := 0) (v := .slice a7 n7 c7) (by rw [← V4.out]; rfl)
          go_upto_if 125 with fail
          go_cut [] (fun wx => ∃ r, RfJ w B G2 G5 G6 G7 ws q r (y4R d ws) wx ∧ ((needL ws).isEmpty || needB (needL ws)) = true)
          case first =>
            by_cases h0 : n7 = 0
            · have hat : needL ws = [] := List.length_eq_zero_iff.1 (W4.out.hl.trans h0)
              have HAT := hid hat
              subst h0
              clear hat
              go_wp2_with fail
              go_meet
              exact ⟨r3, by rw [y4R_no HAT.out]; exact J0.out, by rw [HAT.out]; rfl⟩
            have g1 : decide ((0 : Int) < (n7 : Int)) = true := decide_eq_true (by omega)
            have g2 : decide (0 < n7) = true := decide_eq_true (by omega)
            by_cases h2 : n7 ≠ 2
            · have hnb : ((needL ws).isEmpty || needB (needL ws)) = false := by
                have := W4.out.hl
                match hq : needL ws, this with
                | [], h => exact absurd h.symm h0
                | [y], _ => rfl
                | [y, z], h => exact absurd h.symm h2
                | y :: z :: l :: t, _ => rfl
              have HOK := hid (show okR ws = false by rw [HOKR.out, hnb])
              have m1 : ((n7 : Int) != 2) = true := by simp; omega
              have m2 : decide ((n7 : Int) = 2) = false := decide_eq_false (by omega)
              have m3 : decide (n7 = 2) = false := decide_eq_false h2
              clear hnb
              go_wp2_with (first | (refine wpl_loadw rfl 51 _ rfl rfl J0.out.b2 HAG.out (RuleR.len _) ?_) | (refine wpl_storew rfl _ _ _ rfl rfl rfl J0.out.b2 HAG.out (RuleR.len _) (RuleR.len _) (ruleV_one _) ?_))
              intro u1 b9 u9
              go_wp2_with fail
              exact ret_row2 rfl rfl b9 HAG.out (RuleR.len _) rfl (BAD.out HOK.out _ u1 (u9.ext J0.out.e (by omega)))
            have h2 : n7 = 2 := by omega
            subst h2
            obtain ⟨x, y, hx⟩ := two_of (needL ws) W4.out.hl
            obtain ⟨gb, go, rfl, hcc⟩ := (W4.out.ext J0.out.e).cell.some_of (by rw [List.length_map, W4.out.hl]; omega)
            have hca : v1.cell? ⟨gb, go, none⟩ = some (.string x) := hcc 0 _ (by rw [hx]; rfl)
            have HCC : Hid (∀ W : World, Ext w W → W.cell? ⟨gb, go + 1, none⟩ = some (.string y)) := hid (fun W h => by
              obtain ⟨gb2, go2, he, hcc2⟩ := (W4.out.ext h).cell.some_of (by rw [List.length_map, W4.out.hl]; omega)
              have e1 : gb2 = gb := by simp at he; exact he.1.symm
              have e2 : go2 = go := by simp at he; exact he.2.symm
              subst e1
              subst e2
              exact hcc2 1 _ (by rw [hx]; rfl))
            have hxs := W4.out.hs x (by rw [hx]; simp)
            have hys : y.size ≤ 140737488355328 := Nat.le_trans (W4.out.hs y (by rw [hx]; simp)) (by omega)
            have hsl : x.data.toList.length ≤ 1000000 := by rw [Array.length_toList]; exact hxs
            have hnd : ((needL ws).isEmpty || needB (needL ws)) = numB x.data.toList := by rw [hx]; rfl
            have HYES := hid (fun (h1 : numB x.data.toList = true) => y4R_yes (d := d) hx h1)
            have HND := hid hnd
            have s1 := hid (small_c x.data.toList v1 hsl (HL.out.ext J0.out.e).lw)
            rw [strOf_back] at s1
            clear hcc hnd hx h0 g1 g2
            generalize numOf x.data.toList = nv at *
            generalize numB x.data.toList = nb at *
            go_wp2_with fail
            refine s1.out.mono ?_
            rintro e v2 ⟨rfl, e2⟩
            have J2 := hid (J0.out.ext e2)
            have c6' := J2.out.b2.cell' (i := 6) rfl
            have f6 := J2.out.b2.frozen 6
            clear e2 s1 J0 k7 hca
            go_upto_region 35 with fail
            obtain ⟨v3, hv3⟩ : ∃ W, World.setCell v2 ⟨G2, 6, none⟩ (.int .i64 nv) = W := ⟨_, rfl⟩
            rw [hv3]
            have J3 := hid (J2.out.rule (r' := { r3 with nd := nv }) (x' := { y3R d ws with nd := nv }) (wy := v3) (by omega) q25 q56 q67 (by rw [← hv3]; exact J2.out.b2.set 6 (.int .i64 nv)) (by rw [← hv3]; exact Upd.setCell _) (fun s => s.nd _))
            clear hv3 c6' f6 J2
            cases nb with
            | false =>
              have HOK := hid (show okR ws = false by rw [HOKR.out, HND.out])
              go_wp2_with (first | (refine wpl_loadw rfl 51 _ rfl rfl J3.out.b2 HAG.out (RuleR.len _) ?_) | (refine wpl_storew rfl _ _ _ rfl rfl rfl J3.out.b2 HAG.out (RuleR.len _) (RuleR.len _) (ruleV_one _) ?_))
              intro u1 b9 u9
              go_wp2_with fail
              exact ret_row2 rfl rfl b9 HAG.out (RuleR.len _) rfl (BAD.out HOK.out _ u1 (u9.ext J3.out.e (by omega)))
            | true =>
              have k7 := J3.out.b7.cell' (i := 0) (v := .slice (some ⟨gb, go, none⟩) 2 c7) (by rw [← V4.out]; rfl)
              have hcb := HCC.out v3 J3.out.e
              have c7' := J3.out.b2.cell' (i := 7) rfl
              have f7 := J3.out.b2.frozen 7
              go_wp2_with fail
              obtain ⟨v4, hv4⟩ : ∃ W, World.setCell v3 ⟨G2, 7, none⟩ (.string y) = W := ⟨_, rfl⟩
              try rw [hv4]
              have J4 := hid (J3.out.rule (r' := { r3 with nd := nv, ow := y }) (x' := { y3R d ws with nd := nv, ow := y }) (wy := v4) (by omega) q25 q56 q67 (by rw [← hv4]; exact J3.out.b2.set 7 (.string y)) (by rw [← hv4]; exact Upd.setCell _) (fun s => s.ow _ hys))
              have JF : Hid (RfJ w B G2 G5 G6 G7 ws q { r3 with nd := nv, ow := y } (y4R d ws) v4) := hid { J4.out with st := J4.out.st.to (by first | exact HYES.out rfl | exact HYES.out trivial) }
              clear hv4
              go_meet
              exact ⟨_, JF.out, HND.out⟩
          case rest =>
          obtain ⟨r4, hJ4, hat⟩ := hcut
          have HOK := hid (show okR ws = true by rw [HOKR.out, hat])
          obtain ⟨v2, hv2⟩ : ∃ W, wc = W := ⟨_, rfl⟩
          have J4 : Hid (RfJ w B G2 G5 G6 G7 ws q r4 (y4R d ws) v2) := hid (by rw [← hv2]; exact hJ4)
          rw [hv2]
          clear J0 k7 hv2 hJ4 hat wc
          go_wp2_with (first | (refine wpl_loadw rfl 51 _ rfl rfl J4.out.b2 HAG.out (RuleR.len _) ?_) | (refine wpl_storew rfl _ _ _ rfl rfl rfl J4.out.b2 HAG.out (RuleR.len _) (RuleR.len _) (ruleV_one _) ?_))
          intro u1 b9 u9
          go_wp2_with fail
          refine ret_row2 rfl rfl b9 HAG.out (RuleR.len _) rfl ?_
          rw [HR.out]
          have st := J4.out.st.upd u9 (Nat.le_refl _)
          have ee : Ext w u1 := u9.ext J4.out.e (by omega)
          refine ⟨r4, by rw [HOK.out]; rfl, fun _ => ⟨?_, st.ok ee, st.hi HGB.out⟩, ee⟩
          rw [st.q, ← y4R_eq, HDENY.out]
end

section
open Go Go.RowKit

set_option maxRecDepth 100000 in
set_option maxHeartbeats 4000000 in
theorem parsePolicy_c (s : List UInt8) (w : World) (hl : LibP w) (hs63 : s.length ≤ 9223372036854775807) :
    Calls Tryz.prog 7 #[.string (strOf s)] w fun e w' => ∃ pa pn pc rs, e = .returned (.tuple #[.agg #[.slice pa pn pc], .int .i64 (parN s), .int .i64 (parE s)]) ∧ PolOk w' pa pn pc rs ∧ rs.map RuleR.bare = parR s ∧ Ext w w' := by
  have HL := hid hl
  have HAP := hid agg_polP
  have HAR := hid agg_rule
  have hsn := size_strOf s
  have HP := hid (show parE s = parE s from rfl)
  clear hl
  obtain ⟨R, hR⟩ : ∃ R : Ending → World → Prop, R = fun e w' => ∃ pa pn pc rs, e = .returned (.tuple #[.agg #[.slice pa pn pc], .int .i64 (parN s), .int .i64 (parE s)]) ∧ PolOk w' pa pn pc rs ∧ rs.map RuleR.bare = parR s ∧ Ext w w' := ⟨_, rfl⟩
  rw [← hR]
  have HR := hid hR
  clear hR HP
  go_enter Tryz.func7, Tryz.ntmps7
  go_upto_region 1 with fail
  generalize hwA : World.alloc w _ = wA
  have bA : Blk wA w.heap.size [.slice none 0 0] 25 := by rw [← hwA]; exact Blk.mk_alloc rfl rfl
  have eA : Ext w wA := by rw [← hwA]; exact (Ext.refl w).alloc _
  have hsA : wA.heap.size = w.heap.size + 1 := by rw [← hwA, size_allocP]
  have BA := hid bA
  have EA := hid eA
  have HSA := hid hsA
  clear hwA bA eA hsA
  by_cases hbig : 65536 < s.length
  · have d1 : decide ((65536 : Int) < (s.length : Int)) = true := decide_eq_true (by omega)
    have d2 : decide (65536 < s.length) = true := decide_eq_true (by omega)
    have HB := hid (par_large hbig)
    clear hbig
    go_wp2_with (refine wpl_storew rfl _ _ _ rfl rfl rfl BA.out HAP.out rfl (xs := [.slice none 0 0]) rfl (fun v hv => by simp at hv; rw [hv]; rfl) ?_)
    intro w1 b1 u1
    go_wp2_with fail
    refine ret_row3 rfl rfl b1 HAP.out rfl rfl ?_
    rw [HR.out]
    refine ⟨none, 0, 0, [], ?_, pol_nil _, ?_, u1.ext EA.out (Nat.le_refl _)⟩
    · rw [HB.out.1, HB.out.2.1]; rfl
    · rw [HB.out.2.2]; rfl
  have d1 : decide ((65536 : Int) < (s.length : Int)) = false := decide_eq_false (by omega)
  have d2 : decide (65536 < s.length) = false := decide_eq_false (by omega)
  have hlen : s.length ≤ 65536 := by omega
  have HBIG := hid hbig
  clear hbig
  go_upto_region 3 with fail
  go_upto_region 4 with fail
  obtain ⟨w1, hw1⟩ : ∃ W, World.alloc wA (.cells #[.slice none 0 0] 25) = W := ⟨_, rfl⟩
  rw [hw1]
  have b1 : Blk w1 wA.heap.size [.slice none 0 0] 25 := by rw [← hw1]; exact Blk.mk_alloc rfl rfl
  have e1 : Ext wA w1 := by rw [← hw1]; exact (Ext.refl wA).alloc _
  have B5 := hid b1
  have B2 := hid (BA.out.ext e1)
  have E1 := hid (EA.out.ext e1)
  have hs1 : w1.heap.size = w.heap.size + 2 := by rw [← hw1, size_allocP, HSA.out]
  have HS1 := hid hs1
  rw [HSA.out] at B5 ⊢
  clear b1 hw1 e1 BA EA hs1 d1 d2
  go_wp2_with fail
  refine (split_c s 10 w1 (by omega) (HL.out.ext E1.out).lw.ml).mono ?_
  rintro e w2 ⟨rfl, bL, e2⟩
  obtain ⟨N, hN⟩ : ∃ N, (splitR 10 s).length = N := ⟨_, rfl⟩
  have hNle : N ≤ 65537 := by have := splitR_cnt 10 s; omega
  have hg0 : w1.heap.size < w2.heap.size := bL.lt
  obtain ⟨G2, hG2⟩ : ∃ G, w.heap.size = G := ⟨_, rfl⟩
  obtain ⟨G5, hG5⟩ : ∃ G, w.heap.size + 1 = G := ⟨_, rfl⟩
  obtain ⟨g0, hgg⟩ : ∃ G, w1.heap.size = G := ⟨_, rfl⟩
  have I0 : PIv w G2 G5 g0 w2.heap.size s 0 none 0 [] w2 := by
    rw [← hG2, ← hG5, ← hgg]
    exact ⟨E1.out.ext e2, B2.out.ext e2, B5.out.ext e2, bL, ⟨rfl, .inl ⟨rfl, rfl⟩⟩, rfl, (fun _ h => by cases h), (fun _ h => by cases h), (fun _ h => by cases h), (fun _ h => by simp at h), Nat.le_refl _⟩
  have hGG : w.heap.size ≤ G2 ∧ G2 ≠ G5 ∧ w.heap.size ≤ G5 ∧ g0 ≠ G5 ∧ G5 < w2.heap.size ∧ G2 < w2.heap.size ∧ g0 < w2.heap.size ∧ w.heap.size ≤ w2.heap.size := by
    have := HS1.out
    omega
  have HGG := hid hGG
  have HNN := hid hN
  rw [hN, hG5, hG2, hgg]
  obtain ⟨BB, hBB⟩ : ∃ B, w2.heap.size = B := ⟨_, rfl⟩
  rw [hBB] at I0 HGG
  have HBB := hid hBB
  clear bL e2 hN hG5 hG2 hgg B2 B5 E1 HS1 HSA hg0 hGG hBB
  go_wp2_with fail
  go_loopw [19] (fun i wr => ∃ (k : Nat) (a : Option Addr) (c : Nat) (rs : List RuleR), k ≤ N ∧ i = .int .i64 (k : Int) ∧ PIv w G2 G5 g0 BB s k a c rs wr ∧ BB ≤ wr.heap.size) (fun i _ => N - (intOf i).toNat)
  case atStart => exact ⟨0, none, 0, [], by omega, rfl, I0, by rw [HBB.out]; exact Nat.le_refl _⟩
  case round =>
    obtain ⟨k, a, c, rs, hk, rfl, hI, hBw⟩ := hrel
    have P0 := hid hI
    have HOB : Hid (∀ g, (Value.slice a rs.length c).ownBlock = some g → g < wr.heap.size) := hid (fun g hg => (hI.own.lt g hg).2)
    clear hI I0
    by_cases hlt : k < N
    · have d1 : decide ((k : Int) < (N : Int)) = true := decide_eq_true (by omega)
      have d2 : decide (k < N) = true := decide_eq_true hlt
      obtain ⟨l, hlk⟩ : ∃ l, (splitR 10 s)[k]? = some l := ⟨(splitR 10 s)[k]'(by rw [HNN.out]; exact hlt), by simp⟩
      have hll : l.length ≤ 65536 := Nat.le_trans (splitR_len 10 s l (List.mem_of_getElem? hlk)) hlen
      have ck := P0.out.ln.cell' (i := k) (v := .string (strOf l)) (by rw [List.getElem?_map, List.getElem?_map, hlk]; rfl)
      have HLK := hid (lines_at hlk)
      have hcl := (cut_lens l [35]).1
      clear hlk
      go_wp2_with fail
      refine (cutS_c l [35] wr (by omega) (HL.out.ext P0.out.e).lw.ml).mono ?_
      rintro e v1 ⟨rfl, e1⟩
      have E1 := hid e1
      clear e1 ck
      go_wp2_with fail
      refine (ff_c (Lib.cut l [35]).1 v1 (by omega)).mono ?_
      rintro e v4 ⟨g1, rfl, hw0, e4⟩
      have hs14 := e4.size
      have P4 := hid (P0.out.ext (E1.out.ext e4))
      have hs2 := E1.out.size
      have hs4 := (E1.out.ext e4).size
      have hw : Wds v4 v1.heap.size (some ⟨g1, 0, none⟩) (wordsTL (Lib.cut l [35]).1).length (wordsTL (Lib.cut l [35]).1).length (wordsOf l) := hw0
      clear hw0 e4 E1 P0 hcl
      have hsz4 : v1.heap.size ≤ v4.heap.size := by omega
      generalize (wordsTL (Lib.cut l [35]).1).length = m at *
      have hwl := hw.hl
      have HW := hid hw
      clear hw
      by_cases h0 : m = 0
      · have HW0 := hid (List.length_eq_zero_iff.1 (hwl.trans h0))
        subst h0
        clear hwl HW
        go_wp2_with fail
        go_roundw
        case rel => exact ⟨k + 1, a, c, rs, by omega, by go_num, P4.out.skip HLK.out HW0.out, by omega⟩
        case measure => simp [intOf]; omega
      have g1' : ((m : Int) == 0) = false := by simp; exact h0
      have g2' : decide ((m : Int) = 0) = false := decide_eq_false (by omega)
      have g3' : decide (m = 0) = false := decide_eq_false h0
      have HWN : Hid (wordsOf l ≠ []) := hid (fun e => h0 (by rw [← hwl, e]; rfl))
      clear hwl
      go_wp2_with fail
      refine (parseRule_c v1.heap.size (some ⟨g1, 0, none⟩) m m (wordsOf l) v4 HW.out HWN.out (HL.out.ext P4.out.e) hsz4).mono ?_
      rintro e v5 ⟨r, rfl, hr, e5⟩
      have P5 := hid (P4.out.ext e5)
      have hs5 := e5.size
      have HRK := hid hr
      obtain ⟨b, hb⟩ : ∃ b, okR (wordsOf l) = b := ⟨_, rfl⟩
      have HBK := hid hb
      rw [hb] at HRK ⊢
      clear hb hr e5 P4 HW h0 g1' g2' g3'
      have HRL := hid (RuleR.len r)
      have HRO := hid (ruleV_one r)
      go_wp2_with (refine wpl_storew rfl _ _ _ rfl rfl rfl (Blk.mk_alloc (vs := zeroRule) rfl rfl) HAR.out rfl (xs := r.v) HRL.out HRO.out ?_)
      intro v6 b9 u9
      have e6 : Ext v5 v6 := u9.ext ((Ext.refl v5).alloc _) (Nat.le_refl _)
      have P6 := hid (P5.out.ext e6)
      have B9 := hid b9
      have E6 := hid e6
      have hs6 := e6.size
      clear b9 u9 e6 P5
      cases b with
      | false =>
        have hbad : badAt (linesOf s) = some k := badAt_some HLK.out P6.out.good (by
          unfold goodB
          rw [HBK.out, Bool.or_false]
          cases hq : wordsOf l with
          | nil => exact absurd hq HWN.out
          | cons y z => rfl)
        have HPB := hid (par_bad HBIG.out hbad)
        clear hbad
        go_wp2_with (refine wpl_storew rfl _ _ _ rfl rfl rfl P6.out.b2 HAP.out rfl (xs := [.slice none 0 0]) rfl (fun v hv => by simp at hv; rw [hv]; rfl) ?_)
        intro v7 b7 u7
        go_wp2_with fail
        refine ret_row3 rfl rfl b7 HAP.out rfl rfl ?_
        rw [HR.out]
        refine ⟨none, 0, 0, [], ?_, pol_nil _, ?_, u7.ext P6.out.e HGG.out.1⟩
        · rw [HPB.out.1, HPB.out.2.1]; rfl
        · rw [HPB.out.2.2]; rfl
      | true =>
        have hr2 : r.bare = ruleOf (wordsOf l) ∧ r.Ok v5 ∧ r.Hi v1.heap.size := by first | exact HRK.out rfl | exact HRK.out trivial
        have HR2 := hid hr2
        have c5 := P6.out.b5.cell' (i := 0) rfl
        have HTE := hid elem_ruleP
        have hrk := P6.out.cnt
        clear hr2 HRK
        go_wp2_with (first | (refine wpl_loadw rfl 51 _ rfl rfl B9.out HAR.out HRL.out ?_) | (refine wpl_buildOneP HTE.out (by decide) rfl rfl rfl HRL.out ?_) | (refine wpl_appendA (n := rs.length) (m := 1) (c := 1) (xs := rulesV rs) (news := r.v) HTE.out rfl _ _ rfl BB rfl rfl (own_extP P6.out.own ((Ext.refl _).alloc _)) HRL.out (Nat.le_refl _) (fun h => by cases h) (Cells.of_blk0 (Blk.mk_alloc rfl rfl)) HRO.out (by omega) (by omega) (by rw [size_allocP]; omega) ?_))
        intro va v8 hown hgrow hnil
        obtain ⟨a', c', rfl, _, _, _⟩ := own_cellsA hown
        have HOW := hid hown
        have HGR := hid hgrow
        have HNL := hid hnil
        have hge : ∀ g, (Value.slice a rs.length c).ownBlock = some g → BB ≤ g := fun g hg => (P6.out.own.lt g hg).1
        have b8 : Blk v8 G5 [.slice a rs.length c] 25 := (P6.out.b5.alloc _).grown hgrow (fun e => by
          have h1 := hge G5 e.symm
          have h2 := HGG.out
          omega)
        have hs8 := hgrow.size
        rw [size_allocP] at hs8
        have B8 := hid b8
        have c8 := b8.cell' (i := 0) rfl
        have f8 := b8.frozen 0
        clear hown hgrow hnil hge b8 c5
        go_wp2_with fail
        go_roundw
        case rel =>
          refine ⟨k + 1, a', c', rs ++ [r], by omega, by go_num, ?_, by rw [(Upd.setCell (w := v8) (g := G5) (i := 0) _).size]; omega⟩
          obtain ⟨q1, q2, q3, q4, q5, q6, q7, q8⟩ := HGG.out
          exact (P6.out.ext ((Ext.refl _).alloc _)).push HLK.out HWN.out HBK.out q1 q2 q3 q4 q5 q6 q7 q8 (g1 := v1.heap.size) HR2.out.1 ((HR2.out.2.1.ext E6.out).ext ((Ext.refl _).alloc _)) HR2.out.2.2 (by omega) (fun g hg => Nat.lt_of_lt_of_le (HOB.out g hg) hs2) HOW.out HGR.out (by rw [size_allocP]; exact HNL.out) (Upd.setCell _) (B8.out.set 0 _)
        case measure => simp [intOf]; omega
    · obtain rfl : k = N := by omega
      have d1 : decide ((k : Int) < (k : Int)) = false := decide_eq_false (by omega)
      have hall : (linesOf s).take k = linesOf s := List.take_of_length_le (by rw [lines_len, HNN.out]; exact Nat.le_refl _)
      have hru := P0.out.ru
      have hgo := P0.out.good
      rw [hall] at hru hgo
      have hpa := par_all HBIG.out (badAt_none hgo)
      have hle : (rulesOf (linesOf s)).length = rs.length := by rw [← hru, List.length_map]
      rw [hle, polE_bare hru] at hpa
      have HRU := hid hru
      have HPA := hid hpa
      have HPO := hid (P0.out.pol (by omega))
      clear hall hru hgo hpa hle
      have hck := hid (fun w1 (h : PolOk w1 a rs.length c rs) => checkPolicy_c a rs.length c rs w1 h)
      go_wp2_with (refine wpl_loadw rfl 25 _ rfl rfl P0.out.b5 HAP.out rfl ?_)
      refine (hck.out wr HPO.out).mono ?_
      rintro e v1 ⟨rfl, e1⟩
      have P1 := hid (P0.out.ext e1)
      have HPO1 := hid (HPO.out.ext e1)
      clear e1 hck P0 HPO
      by_cases hE : polE rs rs.length = 0
      · have HR0 := hid (show parE s = 0 from HPA.out.1.trans hE)
        have n1 : (polE rs rs.length != 0) = false := by simp [hE]
        have n2 : decide (polE rs rs.length = 0) = true := decide_eq_true hE
        generalize polE rs rs.length = E at *
        subst hE
        go_wp2_with (first | (refine wpl_loadw rfl 25 _ rfl rfl P1.out.b5 HAP.out rfl ?_) | (refine wpl_storew rfl _ _ _ rfl rfl rfl P1.out.b2 HAP.out rfl (xs := [.slice a rs.length c]) rfl (fun v hv => by simp at hv; rw [hv]; rfl) ?_))
        intro v7 b7 u7
        go_wp2_with fail
        refine ret_row3 rfl rfl b7 HAP.out rfl rfl ?_
        rw [HR.out]
        refine ⟨a, rs.length, c, rs, ?_, ?_, ?_, u7.ext P1.out.e HGG.out.1⟩
        · rw [HR0.out, HPA.out.2]; rfl
        · have p := P1.out
          have q := HGG.out
          refine ⟨rfl, HPO1.out.hnc, HPO1.out.hm, ?_, fun r hr => (p.ok r hr).gro ((p.hi r hr).off (q := some G2) (fun g e => by injection e with e; omega)) (upd_grownA u7)⟩
          obtain ⟨_, _, hv, _, _, hc⟩ := own_cellsA (own_beside p.own (upd_grownA u7) (fun g hg e => by
            injection e with e
            have := (p.own.lt g hg).1
            omega))
          injection hv with e1 e2 e3
          rw [e1]
          exact hc
        · unfold parR
          rw [if_pos HR0.out]
          exact HRU.out
      · have HR0 := hid (show parE s ≠ 0 from fun e => hE (HPA.out.1.symm.trans e))
        have n1 : (polE rs rs.length != 0) = true := by simp [hE]
        have n2 : decide (polE rs rs.length = 0) = false := decide_eq_false hE
        have HPA1 := hid HPA.out.1
        generalize polE rs rs.length = E at *
        clear hE
        go_wp2_with (refine wpl_storew rfl _ _ _ rfl rfl rfl P1.out.b2 HAP.out rfl (xs := [.slice none 0 0]) rfl (fun v hv => by simp at hv; rw [hv]; rfl) ?_)
        intro v7 b7 u7
        go_wp2_with fail
        refine ret_row3 rfl rfl b7 HAP.out rfl rfl ?_
        rw [HR.out]
        refine ⟨none, 0, 0, [], ?_, pol_nil _, ?_, u7.ext P1.out.e HGG.out.1⟩
        · rw [HPA1.out, HPA.out.2]; rfl
        · unfold parR
          rw [if_neg HR0.out]
          rfl
end

section
open Go Go.RowKit

set_option maxRecDepth 100000 in
set_option maxHeartbeats 2000000 in
theorem printPolicy_c (pa : Option Addr) (pn pc : Nat) (rs : List RuleR) (w : World) (hp : PolOk w pa pn pc rs) (hl : LibP w) :
    Calls Tryz.prog 11 #[.agg #[.slice pa pn pc]] w fun e w' => e = .returned (.tuple #[.string (strOf (prtT rs pn)), .int .i64 (prtE rs pn)]) ∧ Ext w w' := by
  have HPO := hid hp
  have HL := hid hl
  have HAP := hid agg_polP
  obtain ⟨R, hR⟩ : ∃ R : Ending → World → Prop, R = fun e w' => e = .returned (.tuple #[.string (strOf (prtT rs pn)), .int .i64 (prtE rs pn)]) ∧ Ext w w' := ⟨_, rfl⟩
  rw [← hR]
  have HR := hid hR
  have hck := hid (fun w1 (h : PolOk w1 pa pn pc rs) => checkPolicy_c pa pn pc rs w1 h)
  clear hR hp hl
  go_enter Tryz.func11, Tryz.ntmps11
  go_upto_region 1 with fail
  generalize hwA : World.alloc w _ = wA
  have bA : Blk wA w.heap.size [.slice pa pn pc] 25 := by rw [← hwA]; exact Blk.mk_alloc rfl rfl
  have eA : Ext w wA := by rw [← hwA]; exact (Ext.refl w).alloc _
  have BA := hid bA
  have EA := hid eA
  clear hwA bA eA
  go_wp2_with (refine wpl_loadw rfl 25 _ rfl rfl BA.out HAP.out rfl ?_)
  refine (hck.out wA (HPO.out.ext EA.out)).mono ?_
  rintro e wB ⟨rfl, eB⟩
  have BB := hid (BA.out.ext eB)
  have EB := hid (EA.out.ext eB)
  clear eB BA EA hck
  by_cases hE : polE rs pn ≠ 0
  · have HP1 := hid (prt_bad hE)
    have n1 : (polE rs pn != 0) = true := by simp; exact hE
    have n2 : decide (polE rs pn = 0) = false := decide_eq_false hE
    generalize polE rs pn = E at *
    clear hE
    go_wp2_with fail
    (try go_ret2)
    rw [HR.out]
    exact ⟨by rw [HP1.out.1, HP1.out.2]; rfl, EB.out⟩
  have hE0 : polE rs pn = 0 := Classical.not_not.1 hE
  have hval := pol_valid hE0
  have HGOOD := hid (fun h => prt_good (rs := rs) hE0 h)
  have HFORM := hid (fun h => prt_form (rs := rs) hE0 h)
  rw [hE0]
  have htl := polTx_len (W := w) (fun r hr => HPO.out.ok r hr) hval.2
  have hrl : rs.length ≤ 100 := by rw [HPO.out.hl]; exact hval.1
  have htl2 : (polTx rs).length ≤ 400100 := by
    have : rs.length * 4001 ≤ 100 * 4001 := Nat.mul_le_mul_right _ hrl
    omega
  have htx := hid (fun w1 (h : PolOk w1 pa pn pc rs) h2 => showPolicy_c pa pn pc rs w1 h hval.2 hval.1 h2)
  have hpa := hid (fun w1 h => parsePolicy_c (polTx rs) w1 h (by omega))
  clear hE hE0 hval htl hrl htl2
  go_wp2_with (refine wpl_loadw rfl 25 _ rfl rfl BB.out HAP.out rfl ?_)
  refine (htx.out wB (HPO.out.ext EB.out) (HL.out.ext EB.out)).mono ?_
  rintro e wC ⟨rfl, eC⟩
  have BC := hid (BB.out.ext eC)
  have EC := hid (EB.out.ext eC)
  clear eC BB EB htx
  generalize polTx rs = S at *
  go_wp2_with fail
  refine (hpa.out wC (HL.out.ext EC.out)).mono ?_
  rintro e wD ⟨qa, qn, qc, qs, rfl, hq, hqr, eD⟩
  have HQ := hid hq
  have HSR := hid (show sameRs rs (parR S) = sameRs rs qs by rw [← hqr, sameRs_bare])
  have BD := hid (BC.out.ext eD)
  have ED := hid (EC.out.ext eD)
  clear hq hqr eD BC EC hpa
  go_wp2_with (refine wpl_storew rfl _ _ _ rfl rfl rfl (Blk.mk_alloc (vs := [.slice none 0 0]) rfl rfl) HAP.out rfl (xs := [.slice qa qn qc]) rfl (fun v hv => by simp at hv; rw [hv]; rfl) ?_)
  intro wE bE uE
  have eE : Ext wD wE := uE.ext ((Ext.refl wD).alloc _) (Nat.le_refl _)
  have BE := hid bE
  have BE1 := hid (BD.out.ext eE)
  have EE := hid (ED.out.ext eE)
  have HQE := hid (HQ.out.ext eE)
  clear bE uE eE BD ED HQ
  generalize wD.heap.size = G6 at *
  by_cases hpe : parE S ≠ 0
  · have HP1 := hid (HFORM.out (fun h => hpe h.1))
    have n1 : (parE S != 0) = true := by simp; exact hpe
    have n2 : decide (parE S = 0) = false := decide_eq_false hpe
    generalize parE S = E at *
    clear hpe
    go_wp2_with fail
    (try go_ret2)
    rw [HR.out]
    exact ⟨by rw [HP1.out.1, HP1.out.2]; rfl, EE.out⟩
  have hpe0 : parE S = 0 := Classical.not_not.1 hpe
  rw [hpe0] at HGOOD HFORM ⊢
  have ca := BE1.out.cell' (i := 0) rfl
  have cb := BE.out.cell' (i := 0) rfl
  have heq := hid (samePolX_c pa pn pc rs qa qn qc qs wE (HPO.out.ext EE.out) HQE.out)
  clear hpe hpe0
  go_wp2_with (first | (refine wpg_loadw rfl 25 (.tmp 1) rfl rfl BE1.out HAP.out rfl ?_) | (refine wpg_loadw rfl 25 (.tmp 6) rfl rfl BE.out HAP.out rfl ?_))
  refine heq.out.mono ?_
  rintro e wF ⟨rfl, eF⟩
  have EF := hid (EE.out.ext eF)
  clear eF heq
  obtain ⟨sb, hsb⟩ : ∃ sb, sameRs rs qs = sb := ⟨_, rfl⟩
  have HSB := hid hsb
  rw [hsb]
  clear hsb
  cases sb with
  | false =>
    have HP1 := hid (HFORM.out (fun h => by have := h.2; rw [HSR.out, HSB.out] at this; cases this))
    go_wp2_with fail
    (try go_ret2)
    rw [HR.out]
    exact ⟨by rw [HP1.out.1, HP1.out.2]; rfl, EF.out⟩
  | true =>
    have HP1 := hid (HGOOD.out ⟨by first | rfl | trivial, by rw [HSR.out, HSB.out]⟩)
    go_wp2_with fail
    (try go_ret2)
    rw [HR.out]
    exact ⟨by rw [HP1.out.1, HP1.out.2]; rfl, EF.out⟩
end
end Go.Proofs.YthfddfgncolnbaaGreatDoor
