/- Contracts and laws that the claim's row leans on (4 texts, joined): keyref1.showPolicy of a right policy; conditions: the policy's memory, the library's variables. The reference's small readers: words by FieldsFunc, partWord, small, and the closure that takes a part; conditions: the memory, the library's variables. The reference's closure that takes a part of a line; conditions: the memory. What stands in memory while the reference reads a rule; no condition. -/
import Derived.Test.YthfddfgncolnbaaGreatDoorJ7
import Derived.Lib.AtoiAllCases
namespace Go.Proofs.YthfddfgncolnbaaGreatDoor
section
open Go Go.RowKit

theorem refAct {z : Int} (h : 1 ≤ z ∧ z ≤ 12) : ∃ j : Nat, z = (j : Int) ∧ j < 13 ∧ (((⟨#[]⟩ : ByteArray) :: actW))[j]? = some (actTx z) := by
  obtain ⟨j, rfl⟩ : ∃ j : Nat, z = (j : Int) := ⟨z.toNat, by omega⟩
  obtain ⟨i, rfl⟩ : ∃ i, j = i + 1 := ⟨j - 1, by omega⟩
  refine ⟨i + 1, rfl, by omega, ?_⟩
  rw [List.getElem?_cons_succ]
  unfold actTx
  have hi : i < actW.length := by show i < 12; omega
  rw [show (((i + 1 : Nat) : Int) - 1).toNat = i by omega, List.getD_eq_getElem?_getD, List.getElem?_eq_getElem hi]
  rfl
theorem hour_or {r : RuleR} (h : ruleE r = 0) : (r.fr ≠ 0 ∨ r.tt ≠ 0) ↔ r.fr ≠ r.tt := by
  constructor
  · intro h1 h2
    have hk : k6 r = false := by
      unfold ruleE at h
      repeat' split at h
      all_goals first | (cases h; done) | skip
      all_goals (rename_i a b c d e f g; revert f; cases k6 r <;> simp)
    unfold k6 at hk
    simp only [Bool.or_eq_false_iff, Bool.and_eq_false_iff, decide_eq_false_iff_not] at hk
    obtain ⟨⟨_, h3⟩, _⟩ := hk
    rcases h3 with h3 | h3
    · exact h3 h2
    · have : r.fr = 0 := Classical.not_not.1 (by simpa using h3)
      rcases h1 with h1 | h1
      · exact h1 this
      · exact h1 (by rw [← h2]; exact this)
  · intro h1
    by_cases h2 : r.fr = 0
    · exact .inr (fun h3 => h1 (by rw [h2, h3]))
    · exact .inl h2

theorem off_old {w : World} {p : Option Nat} {a : Option Addr} {n : Nat} {xs : List Value} (hc : Cells w a xs) (hl : xs.length = n) (hp : ∀ q, p = some q → w.heap.size ≤ q) : OffA p a n := by
  by_cases h : xs = []
  · left; rw [← hl, h]; rfl
  · obtain ⟨A, h1, h2⟩ := cells_lt hc h
    exact .inr ⟨A, h1, fun e => by have := hp _ e; omega⟩
theorem off_own {w : World} {B n c : Nat} {e : TypeId} {a : Option Addr} {xs : List Value} {p : Option Nat} (h : w.ownsRow B e 1 (.slice a n c) n xs) (hp : ∀ q, p = some q → q < B) : OffA p a n := by
  rcases h.2 with ⟨_, hn⟩ | ⟨g, cap, cur, hv, hb, _⟩
  · left
    exact hn
  · right
    injection hv with e1 e2 e3
    refine ⟨_, e1, fun e => ?_⟩
    have h1 : g < B := hp g e
    have h2 : B ≤ g := hb
    omega
theorem ShI.gro {w wx wy : World} {G5 G6 B B2 : Nat} {r : RuleR} {ws : List ByteArray} {a : Option Addr} {c : Nat} {p : Option Nat} (h : ShI w G5 G6 B r ws a c wx) (g : wx.grownBy wy p) (hp : ∀ q, p = some q → B2 ≤ q) (hw : w.heap.size ≤ B2) (h5 : G5 < B2) (h6 : G6 < B2) (ho : ∀ q, (Value.slice a ws.length c).ownBlock = some q → q < B2) :
    ShI w G5 G6 B r ws a c wy :=
  ⟨h.e.grown g (fun q hq => Nat.le_trans hw (hp q hq)), h.b5.grown g (fun e => by have := hp _ e.symm; omega), h.b6.grown g (fun e => by have := hp _ e.symm; omega), own_beside h.own g (fun q hq e => by have h1 := hp _ e; have h2 := ho q hq; omega), Nat.le_trans h.sz g.size⟩

theorem partWd_len {nm : ByteArray} {ls : List ByteArray} {n : Nat} (h : ls.length ≤ n) : (partWd nm ls).length ≤ n + 1 := by
  unfold partWd
  split
  · simp
  · rw [List.length_cons]; omega
theorem part_acts (r : RuleR) : actWs r = partWd wdAct (r.acts.map actTx) := by
  unfold actWs partWd
  by_cases h : r.acts = []
  · rw [if_pos h, h]; rfl
  · rw [if_neg h, if_neg (fun e => h (List.map_eq_nil_iff.1 e))]
theorem ShI.mid {w wx wy : World} {G5 G6 B : Nat} {r : RuleR} {ws : List ByteArray} {a : Option Addr} {c : Nat} (h : ShI w G5 G6 B r ws a c wx) (hwB : w.heap.size ≤ B) (g : wx.grownBy wy (Value.slice a ws.length c).ownBlock) :
    Ext w wy ∧ Blk wy G5 r.v 51 ∧ Blk wy G6 [.slice a ws.length c] 42 :=
  ⟨h.e.grown g (fun q hq => Nat.le_trans hwB (h.own.lt q hq).1), h.b5.besides h.own g (by decide), h.b6.besides h.own g (by decide)⟩
theorem ShI.put {w wx wy : World} {G5 G6 B : Nat} {r : RuleR} {ws news : List ByteArray} {a a' : Option Addr} {c c' m : Nat} (h : ShI w G5 G6 B r ws a c wx) (hwB : w.heap.size ≤ B) (h56 : G5 ≠ G6) (hw6 : w.heap.size ≤ G6) (hm : news.length = m)
    (ho : wy.ownsRow B 9 1 (.slice a' (ws.length + m) c') (ws.length + m) (ws.map encStr ++ news.map encStr)) (g : wx.grownBy wy (Value.slice a ws.length c).ownBlock) :
    ShI w G5 G6 B r (ws ++ news) a' c' (wy.setCell ⟨G6, 0, none⟩ (.slice a' (ws.length + m) c')) := by
  obtain ⟨h1, h2, h3⟩ := h.mid hwB g
  have u : Upd wy G6 (wy.setCell ⟨G6, 0, none⟩ (.slice a' (ws.length + m) c')) := Upd.setCell _
  have hl : (ws ++ news).length = ws.length + m := by rw [List.length_append, hm]
  refine ⟨u.ext h1 hw6, h2.upd u h56, ?_, ?_, by rw [u.size]; exact Nat.le_trans h.sz g.size⟩
  · rw [hl]; exact h3.set 0 _
  · rw [hl, List.map_append]; exact own_updA ho u h3 (by decide)

set_option maxRecDepth 100000 in
set_option maxHeartbeats 8000000 in
theorem showPolicy_c (pa : Option Addr) (pn pc : Nat) (rs : List RuleR) (w : World) (hp : PolOk w pa pn pc rs) (hv : ∀ r ∈ rs, ruleE r = 0) (h100 : pn ≤ 100) (hl : LibP w) :
    Calls Tryz.prog 32 #[.agg #[.slice pa pn pc]] w fun e w' => e = .returned (.string (strOf (polTx rs))) ∧ Ext w w' := by
  have HPO := hid hp
  have HV := hid hv
  have HL := hid hl
  have HAG := hid agg_rule
  have HT := hid elem_strP
  have hlen : ∀ k, (polTx (rs.take k)).length ≤ 400100 := by
    intro k
    have h1 := polTx_len (rs := rs.take k) (W := w) (fun r hr => hp.ok r (List.mem_of_mem_take hr)) (fun r hr => hv r (List.mem_of_mem_take hr))
    have h2 : (rs.take k).length ≤ 100 := by rw [List.length_take]; have := hp.hl; omega
    have : (rs.take k).length * 4001 ≤ 100 * 4001 := Nat.mul_le_mul_right _ h2
    omega
  have HLEN := hid hlen
  clear hp hv hl hlen
  go_enter Tryz.func32, Tryz.ntmps32
  go_upto_region 2 with fail
  generalize hwA : World.alloc w _ = wA
  have bA : Blk wA w.heap.size [.slice pa pn pc] 25 := by rw [← hwA]; exact Blk.mk_alloc rfl rfl
  have eA : Ext w wA := by rw [← hwA]; exact (Ext.refl w).alloc _
  have c0 := bA.cell' (i := 0) rfl
  have EA := hid eA
  clear hwA bA eA
  go_wp2
  go_loopw [3, 14] (fun v i wr => ∃ k : Nat, k ≤ pn ∧ i = .int .i64 (k : Int) ∧ v = .string (strOf (polTx (rs.take k))) ∧ Ext w wr) (fun _ i _ => pn - (intOf i).toNat)
  case atStart => exact ⟨0, by omega, rfl, rfl, EA.out⟩
  case round =>
    obtain ⟨k, hk, rfl, rfl, e1⟩ := hrel
    have E1 := hid e1
    clear e1
    by_cases hlt : k < pn
    · obtain ⟨r, hrk⟩ : ∃ r, rs[k]? = some r := ⟨rs[k]'(by rw [HPO.out.hl]; exact hlt), by simp⟩
      obtain ⟨A, rfl, hca⟩ := (HPO.out.ext E1.out).at hrk
      have HCA := hid hca
      have HOK := hid ((HPO.out.ext E1.out).ok r (List.mem_of_getElem? hrk))
      have HOW := hid (HPO.out.ok r (List.mem_of_getElem? hrk))
      have HRE := hid (HV.out r (List.mem_of_getElem? hrk))
      have HRV := hid (ruleV_of HOK.out HRE.out)
      have HRL := hid (RuleR.len r)
      have HST := hid (polTx_step hrk)
      have hro := ruleV_one r
      have hl1 := HLEN.out k
      have hn1 := HRV.out.n1
      have hn2 := HRV.out.n2
      have hn3 := HRV.out.n3
      clear hca hrk
      go_wp2_with (first | (refine wpl_run rfl (exec_index (i := k) rfl rfl rfl Tryz.underlying23 size_rule hlt _) ?_) | (refine wpl_run rfl (exec_load_at rfl rfl HCA.out HAG.out HRL.out) ?_) | (refine wpl_storew rfl _ (.tmp 5) _ rfl rfl rfl (Blk.mk_alloc (vs := zeroRule) rfl rfl) HAG.out rfl HRL.out hro ?_))
      intro wB bB uB
      have eB : Ext wr wB := uB.ext ((Ext.refl wr).alloc _) (Nat.le_refl _)
      have BB := hid bB
      have EB := hid (E1.out.ext eB)
      have hgB : wr.heap.size < wB.heap.size := bB.lt
      have hwr := E1.out.size
      clear bB uB eB HCA E1 HOK
      obtain ⟨G5, hG5⟩ : ∃ G, wr.heap.size = G := ⟨_, rfl⟩
      rw [hG5] at BB hgB hwr ⊢
      clear hG5
      have k0 := BB.out.cell' (i := 0) rfl
      go_upto_region 6 with fail
      generalize hwC : World.alloc (World.alloc wB _) _ = wC
      have b5 : Blk wC G5 r.v 51 := by rw [← hwC]; exact (BB.out.alloc _).alloc _
      have bs : Blk wC wB.heap.size [encStr (headW false)] 9 := by rw [← hwC]; exact (Blk.mk_alloc rfl rfl).alloc _
      have b6 : Blk wC (wB.heap.size + 1) [.slice (some ⟨wB.heap.size, 0, none⟩) 1 1] 42 := by rw [← hwC]; exact Blk.mk_alloc (size_allocP _ _).symm rfl
      have eC : Ext wB wC := by rw [← hwC]; exact ((Ext.refl wB).alloc _).alloc _
      obtain ⟨S, hS⟩ : ∃ S, wB.heap.size = S := ⟨_, rfl⟩
      obtain ⟨G6, hG6⟩ : ∃ S, wB.heap.size + 1 = S := ⟨_, rfl⟩
      have hwS : w.heap.size ≤ S := by have := EB.out.size; omega
      have h56 : G5 ≠ G6 := by omega
      have h5S : G5 < S := by omega
      have hw6 : w.heap.size ≤ G6 := by omega
      have hSG : S + 1 = G6 := by omega
      have ECw := hid (EB.out.ext eC)
      rw [hG6, hS] at b6
      rw [hS] at bs
      rw [hG6, hS]
      have B5 := hid b5
      have BS := hid bs
      have B6 := hid b6
      have k0 := b5.cell' (i := 0) rfl
      have k6 := b6.cell' (i := 0) rfl
      have ks := bs.cell' (i := 0) rfl
      have fs := bs.frozen 0
      clear hwC b5 bs b6 eC hS hG6 hgB EB BB
      obtain ⟨d, hd⟩ : ∃ d, r.deny = d := ⟨_, rfl⟩
      have HD := hid hd
      rw [hd] at k0
      clear hd
      go_upto_if 20 with fail
      go_cut [] (fun wx => Ext w wx ∧ Blk wx G5 r.v 51 ∧ Blk wx S [encStr (headW d)] 9 ∧ Blk wx G6 [.slice (some ⟨S, 0, none⟩) 1 1] 42)
      case first =>
        cases d with
        | false =>
          go_wp2_with fail
          go_meet
          exact ⟨ECw.out, B5.out, BS.out, B6.out⟩
        | true =>
          go_wp2_with fail
          go_meet
          exact ⟨ECw.out.set _ hwS, B5.out.set_other _ _ (by show G5 ≠ S; omega), BS.out.set 0 _, B6.out.set_other _ _ (by show G6 ≠ S; omega)⟩
      case rest =>
      obtain ⟨q1, q2, q3, q4⟩ := hcut
      obtain ⟨u0, hwc⟩ : ∃ u0, wc = u0 := ⟨_, rfl⟩
      rw [hwc] at q1 q2 q3 q4 ⊢
      have hG6l := q4.lt
      have hG5l := q2.lt
      have I0 : ShI w G5 G6 S r [headW d] (some ⟨S, 0, none⟩) 1 u0 := ⟨q1, q2, q4, own_mkP (rest := []) (by simpa using q3) (by simp) rfl (Nat.le_refl _) (Nat.le_refl _) (by unfold maxLen; omega), by omega⟩
      have J0 := hid I0
      have k1 := I0.b5.cell' (i := 1) (v := .slice r.ra r.rn r.rc) rfl
      clear hwc wc q1 q2 q3 q4 I0 ECw B5 BS B6 k0 k6 ks fs
      go_upto_region 9 with fail
      go_wp2_with fail
      refine (radd_c w G5 G6 S r [headW d] (some ⟨S, 0, none⟩) 1 wdRole r.ra r.rn r.rc r.roles u0 J0.out hwS h56 hw6 HOW.out.rl HOW.out.rnc (HOW.out.rcell.ext J0.out.e) (off_old HOW.out.rcell (by rw [List.length_map]; exact HOW.out.rl) (fun q hq => Nat.le_trans hwS (J0.out.own.lt q hq).1)) (by simp; omega)).mono ?_
      rintro e u1 ⟨rfl, a1, c1, hI1⟩
      have J1 := hid hI1
      have k2 := hI1.b5.cell' (i := 2) (v := .slice r.aa r.an r.ac) rfl
      have hpl : (partWd wdRole r.roles).length ≤ 17 := by
        unfold partWd
        split
        · simp
        · rw [List.length_cons, HOW.out.rl]; omega
      obtain ⟨P1, hP1⟩ : ∃ P, [headW d] ++ partWd wdRole r.roles = P := ⟨_, rfl⟩
      have HP1 := hid hP1
      have hL1 : P1.length ≤ 18 := by rw [← hP1, List.length_append]; simp only [List.length_cons, List.length_nil]; omega
      rw [hP1] at J1
      have hB5 : G5 < u1.heap.size := J1.out.b5.lt
      have hB6 : G6 < u1.heap.size := J1.out.b6.lt
      obtain ⟨B2, hB2⟩ : ∃ B2, u1.heap.size = B2 := ⟨_, rfl⟩
      have HOB : Hid (∀ q, (Value.slice a1 P1.length c1).ownBlock = some q → q < B2) := hid (fun q hq => by rw [← hB2]; exact (J1.out.own.lt q hq).2)
      have hwB2 : w.heap.size ≤ B2 := by rw [← hB2]; exact J1.out.e.size
      rw [hB2] at hB5 hB6
      have HB2 := hid hB2
      clear hI1 J0 k1 hpl hP1 hB2
      go_wp2_with fail
      go_loopw [8, 31] (fun v i wr2 => ∃ (j : Nat) (a : Option Addr) (c : Nat), j ≤ r.an ∧ i = .int .i64 (j : Int) ∧ v = .slice a j c ∧ wr2.ownsRow B2 9 1 (.slice a j c) j (((r.acts.take j).map actTx).map encStr) ∧ ShI w G5 G6 S r P1 a1 c1 wr2 ∧ B2 ≤ wr2.heap.size) (fun _ i _ => r.an - (intOf i).toNat)
      case atStart => exact ⟨0, none, 0, by omega, rfl, rfl, ⟨rfl, .inl ⟨rfl, rfl⟩⟩, J1.out, by rw [HB2.out]; exact Nat.le_refl _⟩
      case round =>
        obtain ⟨j, a, c, hj, rfl, rfl, hown, hI, hBw⟩ := hrel
        have P := hid hI
        have OW := hid hown
        clear hown hI J1 k2
        by_cases hjl : j < r.an
        · have d1 : decide ((j : Int) < (r.an : Int)) = true := decide_eq_true (by omega)
          have d2 : decide (j < r.an) = true := decide_eq_true hjl
          obtain ⟨z, hz⟩ : ∃ z, r.acts[j]? = some z := ⟨r.acts[j]'(by rw [HOW.out.al]; exact hjl), by simp⟩
          have hza := HRV.out.a1 z (List.mem_of_getElem? hz)
          obtain ⟨A5, hA, hca⟩ : ∃ A, r.aa = some A ∧ wr.cell? (A.add j) = some (.int .i64 z) := by
            obtain ⟨g, o, e, h⟩ := (HOW.out.acell.ext P.out.e).some_of (by rw [List.length_map, HOW.out.al]; omega)
            exact ⟨_, e, by rw [addr_add]; exact h j _ (by rw [List.getElem?_map, hz]; rfl)⟩
          have htk : r.acts.take (j + 1) = r.acts.take j ++ [z] := by rw [List.take_add_one, hz]; rfl
          have HTK := hid htk
          obtain ⟨m, hm, hm13, hmx⟩ := refAct hza
          have HMX := hid hmx
          have HM := hid hm
          clear hz htk hza hmx
          rw [hA]
          rw [hm] at hca
          clear hm
          go_wp2_with fail
          refine (actWordsR_c wr).mono ?_
          rintro e v1 ⟨rfl, hc1, e1⟩
          have P1' := hid (P.out.ext e1)
          have OW1 := hid (own_extP OW.out e1)
          have hs1 := e1.size
          have cj : v1.cell? ⟨wr.heap.size, m, none⟩ = some (.string (actTx z)) := by
            obtain ⟨b, o, he, h⟩ := hc1.some_of (by decide)
            have e2 : b = wr.heap.size := by simp at he; exact he.1.symm
            have e3 : o = 0 := by simp at he; exact he.2.symm
            have := h m (.string (actTx z)) (by rw [List.getElem?_map, HMX.out]; rfl)
            rw [e2, e3, Nat.zero_add] at this
            exact this
          clear hc1 e1 P OW
          obtain ⟨x, hxz⟩ : ∃ x, actTx z = x := ⟨_, rfl⟩
          have HXZ := hid hxz
          rw [hxz] at cj
          clear hxz
          go_wp2_with (refine wpl_appendA (n := j) (m := 1) (c := 1) (xs := ((r.acts.take j).map actTx).map encStr) (news := [.string x]) HT.out rfl _ _ rfl B2 rfl rfl (own_extP OW1.out ((Ext.refl _).alloc _)) rfl (Nat.le_refl _) (fun h => by cases h) (Cells.of_blk0 (Blk.mk_alloc rfl rfl)) (fun u hu => by simp at hu; rw [hu]; rfl) (by omega) (by omega) (by rw [size_allocP]; omega) ?_)
          intro v2' v2 own2 g2 hn2
          obtain ⟨a2, c2, rfl, _, _, _⟩ := own_cellsA own2
          have I2 := hid ((P1'.out.ext ((Ext.refl _).alloc _)).gro g2 (fun q hq => (OW1.out.lt q hq).1) hwB2 hB5 hB6 HOB.out)
          have O2 := hid own2
          have hs2 := g2.size
          rw [size_allocP] at hs2
          clear own2 g2 hn2 cj
          go_wp2_with fail
          go_roundw
          case rel => exact ⟨j + 1, a2, c2, by omega, by go_num, rfl, by rw [HTK.out, List.map_append, List.map_append]; simp only [List.map_cons, List.map_nil]; rw [HXZ.out]; simp only [List.map_take, List.map_map]; exact O2.out, I2.out, by omega⟩
          case measure => simp [intOf]; omega
        · obtain rfl : j = r.an := by omega
          have d1 : decide ((r.an : Int) < (r.an : Int)) = false := decide_eq_false (by omega)
          have d2 : decide (r.an < r.an) = false := decide_eq_false (by omega)
          have htk : r.acts.take r.an = r.acts := List.take_of_length_le (by have := HOW.out.al; omega)
          rw [htk] at OW
          have hoff := off_own OW.out HOB.out
          obtain ⟨ad, cd, hsl, hnc, _, hcl⟩ := own_cellsA OW.out
          injection hsl with e1 e2 e3
          subst e1
          subst e3
          have hmj : (r.acts.map actTx).length = r.an := by rw [List.length_map, HOW.out.al]
          have hra := hid (radd_c w G5 G6 S r P1 a1 c1 wdAct a r.an c (r.acts.map actTx) wr P.out hwS h56 hw6 hmj hnc hcl hoff (by omega))
          clear htk hoff hnc hcl hmj
          go_wp2_with fail
          refine hra.out.mono ?_
          rintro e u2 ⟨rfl, a2, c2, hI2⟩
          have k3 := hI2.b5.cell' (i := 3) (v := .slice r.la r.ln r.lc) rfl
          have hpl : (partWd wdAct (r.acts.map actTx)).length ≤ 17 := partWd_len (by rw [List.length_map, HOW.out.al]; exact hn2)
          obtain ⟨P2, hP2⟩ : ∃ Q, P1 ++ partWd wdAct (r.acts.map actTx) = Q := ⟨_, rfl⟩
          have HP2 := hid hP2
          have hL2 : P2.length ≤ 35 := by rw [← hP2, List.length_append]; omega
          rw [hP2] at hI2
          have J2 := hid hI2
          have hrb := hid (radd_c w G5 G6 S r P2 a2 c2 wdOn r.la r.ln r.lc r.labels u2 J2.out hwS h56 hw6 HOW.out.ll HOW.out.lnc (HOW.out.lcell.ext J2.out.e) (off_old HOW.out.lcell (by rw [List.length_map]; exact HOW.out.ll) (fun q hq => Nat.le_trans hwS (J2.out.own.lt q hq).1)) (by omega))
          clear hI2 hpl hP2 hra P OW d1 d2
          go_wp2_with fail
          refine hrb.out.mono ?_
          rintro e u3 ⟨rfl, a3, c3, hI3⟩
          have hpl : (partWd wdOn r.labels).length ≤ 17 := partWd_len (by rw [HOW.out.ll]; exact hn3)
          obtain ⟨P3, hP3⟩ : ∃ Q, P2 ++ partWd wdOn r.labels = Q := ⟨_, rfl⟩
          have HP3 := hid hP3
          have hL3 : P3.length ≤ 52 := by rw [← hP3, List.length_append]; omega
          rw [hP3] at hI3
          have J3 := hid hI3
          have k4 := hI3.b5.cell' (i := 4) (v := .int .i64 r.fr) rfl
          have k5 := hI3.b5.cell' (i := 5) (v := .int .i64 r.tt) rfl
          have HHO := hid (hour_or HRE.out)
          clear hI3 hpl hP3 hrb J2 k3
          go_upto_region 18 with fail
          go_cut [57] (fun v wx => v = .bool (decide (r.fr ≠ r.tt)) ∧ wx = u3)
          case first =>
            by_cases h0 : r.fr = 0
            · have n1 : (r.fr != 0) = false := by simp [h0]
              have n2 : decide (r.fr = 0) = true := decide_eq_true h0
              have N3 := hid (show decide (r.fr ≠ r.tt) = decide (r.tt ≠ 0) from decide_eq_decide.2 (by rw [← HHO.out]; exact ⟨fun h => h.resolve_left (fun h => h h0), .inr⟩))
              go_wp2_with fail
              go_meet
              exact ⟨by rw [N3.out]; first | rfl | (simp [bne, BEq.beq]; done) | (congr 1; by_cases h9 : r.tt = 0 <;> simp [h9]), rfl⟩
            · have n1 : (r.fr != 0) = true := by simp [h0]
              have n2 : decide (r.fr = 0) = false := decide_eq_false h0
              have N3 := hid (show decide (r.fr ≠ r.tt) = true from decide_eq_true (HHO.out.1 (.inl h0)))
              go_wp2_with fail
              go_meet
              exact ⟨by rw [N3.out], rfl⟩
          case rest =>
          obtain ⟨rfl, hwc⟩ := hcut
          rw [hwc]
          clear hwc wc
          clear k4 k5
          go_upto_if 57 with fail
          go_cut [] (fun wx => ∃ a c, ShI w G5 G6 S r (P3 ++ hourWs r) a c wx)
          case first =>
            by_cases h0 : r.fr = r.tt
            · have HW0 := hid (show hourWs r = [] by unfold hourWs; rw [if_pos h0])
              have g1 : decide (r.fr ≠ r.tt) = false := decide_eq_false (fun h => h h0)
              rw [g1]
              go_wp2_with fail
              go_meet
              exact ⟨a3, c3, by rw [HW0.out, List.append_nil]; exact J3.out⟩
            · have HW1 := hid (show hourWs r = [wdAt, hourTx r.fr r.tt] by unfold hourWs; rw [if_neg h0])
              have g1 : decide (r.fr ≠ r.tt) = true := decide_eq_true h0
              rw [g1]
              go_upto_region 19 with fail
              clear g1
              obtain ⟨C, hC⟩ : ∃ C : World → Prop, C = fun w' => Ext w w' ∧ Blk w' G5 r.v 51 ∧ Blk w' G6 [.slice a3 P3.length c3] 42 := ⟨_, rfl⟩
              have hC0 : ∀ w', C w' ↔ (Ext w w' ∧ Blk w' G5 r.v 51 ∧ Blk w' G6 [.slice a3 P3.length c3] 42) := fun w' => by rw [hC]
              clear hC
              have HCC := hid hC0
              clear hC0
              have hCx : ∀ w w', C w → Ext w w' → C w' := fun w w' h1 h2 => (HCC.out w').2 ⟨((HCC.out w).1 h1).1.ext h2, ((HCC.out w).1 h1).2.1.ext h2, ((HCC.out w).1 h1).2.2.ext h2⟩
              have hCA : C u3 := (HCC.out _).2 ⟨J3.out.e, J3.out.b5, J3.out.b6⟩
              have hi1 := itoa_20 HRV.out.f1.1 HRV.out.f1.2
              have hi2 := itoa_20 HRV.out.t1.1 HRV.out.t1.2
              refine wp_region_w (S := C) (W := [11]) (by kernel_rfl) (hCx _ _ hCA (Ext.refl _).drew) (fun hS0 => ?_)
              refine w_pure 1 (v := ?tv32) rfl (by kernel_rfl) (by kernel_rfl) (by kernel_rfl) (fun _ _ _ h => h) (.inl ⟨rfl, ?ty32⟩) ?tr32
              case ty32 => (intro _ _; go_simp; try with_reducible rfl)
              case tr32 =>
              simp only [Act.put, List.setIfInBounds_toArray, List.set_cons_succ, List.set_cons_zero]
              refine w_pure 5 (v := ?tv33) rfl (by kernel_rfl) (by kernel_rfl) (by kernel_rfl) (fun _ _ _ h => h) (.inl ⟨rfl, ?ty33⟩) ?tr33
              case ty33 => (intro _ _; go_simp; try with_reducible rfl)
              case tr33 =>
              simp only [Act.put, List.setIfInBounds_toArray, List.set_cons_succ, List.set_cons_zero]
              refine w_take 0 (v := ?tv34) rfl (by kernel_rfl) (by kernel_rfl) (by kernel_rfl) (by kernel_rfl) (by kernel_rfl) (fun _ _ _ h => h) (.inl ⟨rfl, ?ty34⟩) hS0 ?tr34
              case ty34 => (intro wq hwq; have hcq := (fun w1 h => ((HCC.out w1).1 h).2.2.cell' (i := 0) rfl) wq hwq; go_simp; try with_reducible rfl)
              case tr34 =>
              simp only [Act.put, List.setIfInBounds_toArray, List.set_cons_succ, List.set_cons_zero]
              refine w_take 2 (v := ?tv35) rfl (by kernel_rfl) (by kernel_rfl) (by kernel_rfl) (by kernel_rfl) (by kernel_rfl) (fun _ _ _ h => h) (.inl ⟨rfl, ?ty35⟩) hS0 ?tr35
              case ty35 => (intro wq hwq; have hcq := (fun w1 h => ((HCC.out w1).1 h).2.1.cell' (i := 4) (v := .int .i64 r.fr) rfl) wq hwq; go_simp; try with_reducible rfl)
              case tr35 =>
              simp only [Act.put, List.setIfInBounds_toArray, List.set_cons_succ, List.set_cons_zero]
              refine w_take 6 (v := ?tv36) rfl (by kernel_rfl) (by kernel_rfl) (by kernel_rfl) (by kernel_rfl) (by kernel_rfl) (fun _ _ _ h => h) (.inl ⟨rfl, ?ty36⟩) hS0 ?tr36
              case ty36 => (intro wq hwq; have hcq := (fun w1 h => ((HCC.out w1).1 h).2.1.cell' (i := 5) (v := .int .i64 r.tt) rfl) wq hwq; go_simp; try with_reducible rfl)
              case tr36 =>
              simp only [Act.put, List.setIfInBounds_toArray, List.set_cons_succ, List.set_cons_zero]
              refine w_one (i := 3) (by kernel_rfl) rfl (by kernel_rfl) hS0 ?_
              intro Q' hQ
              go_wp2_with fail
              refine (itoa_c r.fr _ (by have := HRV.out.f1; omega) (by have := HRV.out.f1; omega) (HL.out.ext ((HCC.out _).1 hS0).1).lw.pw).mono ?_
              rintro e v1 ⟨rfl, e1⟩
              have I1 := hid (J3.out.ext (show Ext u3 v1 from ((Ext.refl u3).drew).ext e1))
              have hS9 := hCx _ _ hS0 e1
              go_wp2_with fail
              refine hQ _ _ hS9 ?_
              clear hQ Q' hS0 e1
              have hS0 := hS9
              clear hS9
              try dsimp only
              try simp only [Act.put, List.setIfInBounds_toArray, List.set_cons_succ, List.set_cons_zero]
              refine w_pure 4 (v := _) rfl (by kernel_rfl) (by kernel_rfl) (by kernel_rfl) (fun _ _ _ h => h) (yieldsI_run rfl (fun w1 _ => exec_catR (u := Lib.itoa r.fr) (v := [45]) rfl rfl rfl rfl (by simp; omega) w1)) ?_
              simp only [Act.put, List.setIfInBounds_toArray, List.set_cons_succ, List.set_cons_zero]
              refine w_one (i := 7) (by kernel_rfl) rfl (by kernel_rfl) hS0 ?_
              intro Q' hQ
              go_wp2_with fail
              refine (itoa_c r.tt _ (by have := HRV.out.t1; omega) (by have := HRV.out.t1; omega) (HL.out.ext ((HCC.out _).1 hS0).1).lw.pw).mono ?_
              rintro e v2 ⟨rfl, e1⟩
              have I2 := hid (I1.out.ext (show Ext v1 v2 from e1))
              have hS9 := hCx _ _ hS0 e1
              go_wp2_with fail
              refine hQ _ _ hS9 ?_
              clear hQ Q' hS0 e1
              have hS0 := hS9
              clear hS9
              try dsimp only
              try simp only [Act.put, List.setIfInBounds_toArray, List.set_cons_succ, List.set_cons_zero]
              refine w_pure 8 (v := _) rfl (by kernel_rfl) (by kernel_rfl) (by kernel_rfl) (fun _ _ _ h => h) (yieldsI_run rfl (fun w1 _ => exec_catR (u := Lib.itoa r.fr ++ [45]) (v := Lib.itoa r.tt) rfl rfl rfl rfl (by simp; omega) w1)) ?_
              simp only [Act.put, List.setIfInBounds_toArray, List.set_cons_succ, List.set_cons_zero]
              refine w_one (i := 9) (by kernel_rfl) rfl (by kernel_rfl) hS0 ?_
              intro Q' hQ
              go_wp2_with fail
              refine hQ _ _ (hCx _ _ hS0 ((Ext.refl _).alloc _)) ?_
              clear hQ Q'
              generalize hwB : World.alloc v2 _ = v3
              have nB : Blk v3 v2.heap.size [encStr wdAt, encStr (hourTx r.fr r.tt)] 9 := by rw [← hwB]; exact Blk.mk_alloc rfl rfl
              have eB : Ext v2 v3 := by rw [← hwB]; exact (Ext.refl v2).alloc _
              have I7 := hid (I2.out.ext eB)
              have NB := hid nB
              have hS9 : C v3 := (HCC.out _).2 ⟨I7.out.e, I7.out.b5, I7.out.b6⟩
              clear hS0 hwB nB eB
              have hS0 := hS9
              clear hS9
              try dsimp only
              try simp only [Act.put, List.setIfInBounds_toArray, List.set_cons_succ, List.set_cons_zero]
              refine w_one (i := 10) (by kernel_rfl) rfl (by kernel_rfl) hS0 ?_
              intro Q' hQ
              go_wp2_with (at_builtin; refine wpl_appendA (n := P3.length) (m := 2) (c := 2) (xs := P3.map encStr) (news := [encStr wdAt, encStr (hourTx r.fr r.tt)]) HT.out rfl _ _ rfl S rfl rfl I7.out.own rfl (Nat.le_refl _) (fun h => by cases h) (Cells.of_blk0 NB.out) (fun u hu => by simp only [List.mem_cons, List.not_mem_nil, or_false] at hu; rcases hu with rfl | rfl <;> rfl) (by omega) (by omega) I7.out.sz ?_)
              intro v9' v9 own9 g9 hn9
              obtain ⟨a9, c9, rfl, _, _, _⟩ := own_cellsA own9
              have M9 := hid (I7.out.mid hwS g9)
              have I9 := hid (I7.out.put hwS h56 hw6 (news := [wdAt, hourTx r.fr r.tt]) rfl own9 g9)
              have c6 := M9.out.2.2.cell' (i := 0) rfl
              have f6 := M9.out.2.2.frozen 0
              have hS9 : C v9 := (HCC.out _).2 M9.out
              clear own9 g9 hn9
              go_wp2_with fail
              refine hQ _ _ hS9 ?_
              clear hQ Q' hS0
              have hS0 := hS9
              clear hS9
              try dsimp only
              try simp only [Act.put, List.setIfInBounds_toArray, List.set_cons_succ, List.set_cons_zero]
              refine w_late (i := 11) (by kernel_rfl) rfl (by kernel_rfl) ?_
              intro Q' hQ
              go_wp2_with fail
              refine hQ _ _ trivial ?_
              clear hQ Q'
              try dsimp only
              try simp only [Act.put, List.setIfInBounds_toArray, List.set_cons_succ, List.set_cons_zero]
              refine w_done (by kernel_rfl) ?_ _
              clear hS0 hCx hCA HCC I7 NB M9 c6 f6
              go_wp2_with fail
              go_meet
              exact ⟨a9, c9, by rw [HW1.out]; exact I9.out⟩
          case rest =>
          obtain ⟨a4, c4, hI4⟩ := hcut
          obtain ⟨P4, hP4⟩ : ∃ P, P3 ++ hourWs r = P := ⟨_, rfl⟩
          have HP4 := hid hP4
          rw [hP4] at hI4
          have hL4 : P4.length ≤ 54 := by
            rw [← hP4, List.length_append]
            have : (hourWs r).length ≤ 2 := by unfold hourWs; split <;> simp
            omega
          obtain ⟨u4, hwc⟩ : ∃ u, wc = u := ⟨_, rfl⟩
          have J4 := hid hI4
          rw [hwc] at J4 ⊢
          clear hwc wc hI4 hP4 J3
          have k6 := J4.out.b5.cell' (i := 6) (v := .int .i64 r.nd) rfl
          go_upto_if 71 with fail
          go_cut [] (fun wx => ∃ a c, ShI w G5 G6 S r (P4 ++ needWs r) a c wx)
          case first =>
            by_cases h0 : 0 < r.nd
            · have HW1 := hid (show needWs r = [wdNeed, strOf (Lib.itoa r.nd), r.ow] by unfold needWs; rw [if_pos h0])
              have g2 : decide (0 < r.nd) = true := decide_eq_true h0
              go_upto_region 21 with fail
              clear g2 k6
              obtain ⟨C, hC⟩ : ∃ C : World → Prop, C = fun w' => Ext w w' ∧ Blk w' G5 r.v 51 ∧ Blk w' G6 [.slice a4 P4.length c4] 42 := ⟨_, rfl⟩
              have hC0 : ∀ w', C w' ↔ (Ext w w' ∧ Blk w' G5 r.v 51 ∧ Blk w' G6 [.slice a4 P4.length c4] 42) := fun w' => by rw [hC]
              clear hC
              have HCC := hid hC0
              clear hC0
              have hCx : ∀ w w', C w → Ext w w' → C w' := fun w w' h1 h2 => (HCC.out w').2 ⟨((HCC.out w).1 h1).1.ext h2, ((HCC.out w).1 h1).2.1.ext h2, ((HCC.out w).1 h1).2.2.ext h2⟩
              have hCA : C u4 := (HCC.out _).2 ⟨J4.out.e, J4.out.b5, J4.out.b6⟩
              refine wp_region_w (S := C) (W := [8]) (by kernel_rfl) (hCx _ _ hCA (Ext.refl _).drew) (fun hS0 => ?_)
              refine w_pure 1 (v := ?tv37) rfl (by kernel_rfl) (by kernel_rfl) (by kernel_rfl) (fun _ _ _ h => h) (.inl ⟨rfl, ?ty37⟩) ?tr37
              case ty37 => (intro _ _; go_simp; try with_reducible rfl)
              case tr37 =>
              simp only [Act.put, List.setIfInBounds_toArray, List.set_cons_succ, List.set_cons_zero]
              refine w_pure 4 (v := ?tv38) rfl (by kernel_rfl) (by kernel_rfl) (by kernel_rfl) (fun _ _ _ h => h) (.inl ⟨rfl, ?ty38⟩) ?tr38
              case ty38 => (intro _ _; go_simp; try with_reducible rfl)
              case tr38 =>
              simp only [Act.put, List.setIfInBounds_toArray, List.set_cons_succ, List.set_cons_zero]
              refine w_take 0 (v := ?tv39) rfl (by kernel_rfl) (by kernel_rfl) (by kernel_rfl) (by kernel_rfl) (by kernel_rfl) (fun _ _ _ h => h) (.inl ⟨rfl, ?ty39⟩) hS0 ?tr39
              case ty39 => (intro wq hwq; have hcq := (fun w1 h => ((HCC.out w1).1 h).2.2.cell' (i := 0) rfl) wq hwq; go_simp; try with_reducible rfl)
              case tr39 =>
              simp only [Act.put, List.setIfInBounds_toArray, List.set_cons_succ, List.set_cons_zero]
              refine w_take 2 (v := ?tv40) rfl (by kernel_rfl) (by kernel_rfl) (by kernel_rfl) (by kernel_rfl) (by kernel_rfl) (fun _ _ _ h => h) (.inl ⟨rfl, ?ty40⟩) hS0 ?tr40
              case ty40 => (intro wq hwq; have hcq := (fun w1 h => ((HCC.out w1).1 h).2.1.cell' (i := 6) (v := .int .i64 r.nd) rfl) wq hwq; go_simp; try with_reducible rfl)
              case tr40 =>
              simp only [Act.put, List.setIfInBounds_toArray, List.set_cons_succ, List.set_cons_zero]
              refine w_take 5 (v := ?tv41) rfl (by kernel_rfl) (by kernel_rfl) (by kernel_rfl) (by kernel_rfl) (by kernel_rfl) (fun _ _ _ h => h) (.inl ⟨rfl, ?ty41⟩) hS0 ?tr41
              case ty41 => (intro wq hwq; have hcq := (fun w1 h => ((HCC.out w1).1 h).2.1.cell' (i := 7) (v := .string r.ow) rfl) wq hwq; go_simp; try with_reducible rfl)
              case tr41 =>
              simp only [Act.put, List.setIfInBounds_toArray, List.set_cons_succ, List.set_cons_zero]
              refine w_one (i := 3) (by kernel_rfl) rfl (by kernel_rfl) hS0 ?_
              intro Q' hQ
              go_wp2_with fail
              refine (itoa_c r.nd _ (by have := HRV.out.d1; omega) (by have := HRV.out.d1; omega) (HL.out.ext ((HCC.out _).1 hS0).1).lw.pw).mono ?_
              rintro e v1 ⟨rfl, e1⟩
              have I1 := hid (J4.out.ext (show Ext u4 v1 from ((Ext.refl u4).drew).ext e1))
              have hS9 := hCx _ _ hS0 e1
              go_wp2_with fail
              refine hQ _ _ hS9 ?_
              clear hQ Q' hS0 e1
              have hS0 := hS9
              clear hS9
              try dsimp only
              try simp only [Act.put, List.setIfInBounds_toArray, List.set_cons_succ, List.set_cons_zero]
              refine w_one (i := 6) (by kernel_rfl) rfl (by kernel_rfl) hS0 ?_
              intro Q' hQ
              go_wp2_with fail
              refine hQ _ _ (hCx _ _ hS0 ((Ext.refl _).alloc _)) ?_
              clear hQ Q'
              generalize hwB : World.alloc v1 _ = v2
              have nB : Blk v2 v1.heap.size [encStr wdNeed, encStr (strOf (Lib.itoa r.nd)), encStr r.ow] 9 := by rw [← hwB]; exact Blk.mk_alloc rfl rfl
              have eB : Ext v1 v2 := by rw [← hwB]; exact (Ext.refl v1).alloc _
              have I7 := hid (I1.out.ext eB)
              have NB := hid nB
              have hS9 : C v2 := (HCC.out _).2 ⟨I7.out.e, I7.out.b5, I7.out.b6⟩
              clear hS0 hwB nB eB
              have hS0 := hS9
              clear hS9
              try dsimp only
              try simp only [Act.put, List.setIfInBounds_toArray, List.set_cons_succ, List.set_cons_zero]
              refine w_one (i := 7) (by kernel_rfl) rfl (by kernel_rfl) hS0 ?_
              intro Q' hQ
              go_wp2_with (at_builtin; refine wpl_appendA (n := P4.length) (m := 3) (c := 3) (xs := P4.map encStr) (news := [encStr wdNeed, encStr (strOf (Lib.itoa r.nd)), encStr r.ow]) HT.out rfl _ _ rfl S rfl rfl I7.out.own rfl (Nat.le_refl _) (fun h => by cases h) (Cells.of_blk0 NB.out) (fun u hu => by simp only [List.mem_cons, List.not_mem_nil, or_false] at hu; rcases hu with rfl | rfl | rfl <;> rfl) (by omega) (by omega) I7.out.sz ?_)
              intro v9' v9 own9 g9 hn9
              obtain ⟨a9, c9, rfl, _, _, _⟩ := own_cellsA own9
              have M9 := hid (I7.out.mid hwS g9)
              have I9 := hid (I7.out.put hwS h56 hw6 (news := [wdNeed, strOf (Lib.itoa r.nd), r.ow]) rfl own9 g9)
              have c6 := M9.out.2.2.cell' (i := 0) rfl
              have f6 := M9.out.2.2.frozen 0
              have hS9 : C v9 := (HCC.out _).2 M9.out
              clear own9 g9 hn9
              go_wp2_with fail
              refine hQ _ _ hS9 ?_
              clear hQ Q' hS0
              have hS0 := hS9
              clear hS9
              try dsimp only
              try simp only [Act.put, List.setIfInBounds_toArray, List.set_cons_succ, List.set_cons_zero]
              refine w_late (i := 8) (by kernel_rfl) rfl (by kernel_rfl) ?_
              intro Q' hQ
              go_wp2_with fail
              refine hQ _ _ trivial ?_
              clear hQ Q'
              try dsimp only
              try simp only [Act.put, List.setIfInBounds_toArray, List.set_cons_succ, List.set_cons_zero]
              refine w_done (by kernel_rfl) ?_ _
              clear hS0 hCx hCA HCC I7 NB M9 c6 f6
              go_wp2_with fail
              go_meet
              exact ⟨a9, c9, by rw [HW1.out]; exact I9.out⟩
            · have HW0 := hid (show needWs r = [] by unfold needWs; rw [if_neg h0])
              have g2 : decide (0 < r.nd) = false := decide_eq_false h0
              go_wp2_with fail
              go_meet
              exact ⟨a4, c4, by rw [HW0.out, List.append_nil]; exact J4.out⟩
          case rest =>
          obtain ⟨a5, c5, hI5⟩ := hcut
          obtain ⟨P5, hP5⟩ : ∃ P, P4 ++ needWs r = P := ⟨_, rfl⟩
          have HP5 := hid hP5
          rw [hP5] at hI5
          have hL5 : P5.length ≤ 57 := by
            rw [← hP5, List.length_append]
            have : (needWs r).length ≤ 3 := by unfold needWs; split <;> simp
            omega
          obtain ⟨u5, hwc⟩ : ∃ u, wc = u := ⟨_, rfl⟩
          have J5 := hid hI5
          rw [hwc] at J5 ⊢
          clear hwc wc hI5 hP5 J4 k6
          have hws : P5 = ruleWs r := by
            rw [← HP5.out, ← HP4.out, ← HP3.out, ← HP2.out, ← HP1.out, ← HD.out]
            unfold ruleWs
            rw [part_acts]
            rfl
          have hjl := ruleTx_len HOW.out HRV.out
          obtain ⟨ad, cc, hsl, hnc, _, hcl⟩ := own_cellsA J5.out.own
          injection hsl with e1 e2 e3
          subst e1
          subst e3
          have hjn := hid (fun w1 (h : Cells w1 a5 (P5.map encStr)) => join_c a5 P5.length c5 P5 w1 rfl hnc (by rw [hws]; simp [ruleWs]) (by omega) h (by rw [hws]; exact Nat.le_trans hjl (by omega)))
          have HWS := hid hws
          have HTX := hid (show Lib.join (P5.map (·.data.toList)) [32] = ruleTx r by rw [hws]; rfl)
          have k6 := J5.out.b6.cell' (i := 0) rfl
          clear hws hnc
          go_wp2_with fail
          refine (hjn.out u5 hcl).mono ?_
          rintro e v1 ⟨rfl, e1⟩
          have EF := hid (J5.out.e.ext e1)
          rw [HTX.out]
          clear e1 hcl k6 hjn
          go_wp2_with (first | (refine wpl_run rfl (exec_catR (u := ruleTx r) (v := [10]) rfl rfl rfl rfl (by simp; omega) _) ?_) | (refine wpl_run rfl (exec_catR (u := polTx (rs.take k)) (v := ruleTx r ++ [10]) rfl rfl rfl rfl (by simp; omega) _) ?_))
          go_roundw
          case rel => exact ⟨k + 1, by omega, by go_num, by rw [HST.out, List.append_assoc], EF.out⟩
          case measure => simp [intOf]; omega
    · obtain rfl : k = pn := by omega
      have hall : rs.take k = rs := List.take_of_length_le (by rw [HPO.out.hl]; exact Nat.le_refl _)
      rw [hall]
      go_wp2_with fail
      go_ret
      exact ⟨rfl, E1.out⟩
end

section
open Go Go.RowKit Go.Shelf

theorem blankF (x : Nat) (w : World) : Calls Tryz.prog 23 #[.int .i32 (x : Int)] w fun e w' => e = .returned (.bool (blankR x)) ∧ ∃ q, w' = w.drewN q := by
  unfold blankR
  by_cases h1 : x = 32
  · subst h1
    go_enter Tryz.func23, Tryz.ntmps23
    go_wp2
    go_ret
    exact ⟨rfl, 0, rfl⟩
  by_cases h2 : x = 9
  · subst h2
    go_enter Tryz.func23, Tryz.ntmps23
    go_wp2
    go_ret
    exact ⟨rfl, 0, rfl⟩
  have a1 : ((x : Int) == 32) = false := by simp; omega
  have a2 : decide ((x : Int) = 32) = false := decide_eq_false (by omega)
  have a3 : ((x : Int) == 9) = false := by simp; omega
  have a4 : decide ((x : Int) = 9) = false := decide_eq_false (by omega)
  have R : (x == 32 || x == 9) = false := by simp; exact ⟨h1, h2⟩
  rw [R]
  clear R
  go_enter Tryz.func23, Tryz.ntmps23
  go_wp2
  go_ret
  exact ⟨rfl, 0, rfl⟩
theorem ff_c (l : List UInt8) (w : World) (hl : l.length ≤ 100000) :
    Calls Tryz.prog 22 #[.string (strOf l), .func (.func 23) #[] #[]] w fun e w' => ∃ A, e = .returned (.slice (some ⟨A, 0, none⟩) (wordsTL l).length (wordsTL l).length) ∧
      Wds w' w.heap.size (some ⟨A, 0, none⟩) (wordsTL l).length (wordsTL l).length ((wordsTL l).map strOf) ∧ Ext w w' := by
  have h := Any.strings_FieldsFunc_runes ffL 23 #[] (enters_ofU Tryz.func23 (by kernel_rfl) rfl) blankR (strOf l) w (by rw [size_strOf]; omega) (fun W x _ _ => blankF x W) (by kernel_rfl) (by kernel_rfl)
  have hg : Lib.goFieldsP blankR (strOf l) = (wordsTL l).map strOf := by
    have := words_two (strOf l)
    rw [toList_strOf] at this
    rw [← this, map_strOf_back]
  rw [hg, List.length_map] at h
  refine h.mono ?_
  rintro e w' ⟨A, rfl, h1, h2, h3⟩
  obtain ⟨_, _, hv, _, _, hc⟩ := own_cellsA h2
  injection hv with e1 e2 e3
  rw [← e1] at hc
  have h5 := wordsG_cnt blankB l []
  refine ⟨A, rfl, ⟨by rw [List.length_map], Nat.le_refl _, ?_, ?_, .inr ⟨_, rfl, h1⟩, hc⟩, h3⟩
  · show (wordsG blankB [] l).length ≤ _
    omega
  · intro s hs
    obtain ⟨y, hy, rfl⟩ := List.mem_map.1 hs
    have := wordsG_len blankB l [] y hy
    rw [size_strOf]
    simp at this
    omega

def partWs : List ByteArray := [wdRole, wdAct, wdOn, wdAt, wdNeed]
theorem partWs_mem (x : ByteArray) : partB x = true ↔ x ∈ partWs := by
  unfold partB partWs
  simp only [Bool.or_eq_true, decide_eq_true_eq, List.mem_cons, List.not_mem_nil, or_false, or_assoc]
theorem partWord_c (x : ByteArray) (w : World) : Calls Tryz.prog 46 #[.string x] w fun e w' => e = .returned (.bool (partB x)) ∧ Ext w w' := by
  go_enter Tryz.func46, Tryz.ntmps46
  go_wp2_with fail
  generalize hwA : World.alloc w _ = wA
  have bA : Blk wA w.heap.size (partWs.map encStr) 9 := by rw [← hwA]; exact Blk.mk_alloc rfl rfl
  have eA : Ext w wA := by rw [← hwA]; exact (Ext.refl w).alloc _
  have BA := hid bA
  have EA := hid eA
  clear hwA bA eA
  refine (containsS_c x partWs (some ⟨w.heap.size, 0, none⟩) 5 5 wA rfl (by omega) (Cells.of_blk0 BA.out)).mono ?_
  rintro e w1 ⟨b, rfl, hb, rfl⟩
  have hbb : b = partB x := by
    rw [Bool.eq_iff_iff, hb, partWs_mem]
  subst hbb
  clear hb
  go_wp2_with fail
  go_ret
  exact ⟨rfl, EA.out⟩

theorem numOfP_b (l : List UInt8) : -9223372036854775808 ≤ numOf l ∧ numOf l ≤ 9223372036854775807 := by
  unfold numOf
  cases h : Lib.atoiAll l with
  | ok v => exact Lib.atoiAll_bounds h
  | range =>
    simp only [Lib.atoiSat]
    split <;> omega
  | _ => simp

set_option maxHeartbeats 1000000 in
theorem small_c (l : List UInt8) (w : World) (hl : l.length ≤ 1000000) (hw : LibW w) :
    Calls Tryz.prog 49 #[.string (strOf l)] w fun e w' => e = .returned (.tuple #[.int .i64 (numOf l), .bool (numB l)]) ∧ Ext w w' := by
  have hsm := (smallB_eq l).1
  rw [← hsm]
  clear hsm
  have hsn := size_strOf l
  have heqs := bytes_eqW (strOf (Lib.itoa (numOf l))) (strOf l)
  have hdd : decide (strOf (Lib.itoa (numOf l)) = strOf l) = decide (Lib.itoa (numOf l) = l) := by
    congr 1
    exact propext ⟨fun e => by have := congrArg (fun s => s.data.toList) e; simpa [strOf] using this, fun e => by rw [e]⟩
  rw [hdd] at heqs
  have hnb := numOfP_b l
  have hit := hid (fun w h => itoa_c (numOf l) w hnb.1 hnb.2 h)
  have HW := hid hw
  have hok := hid (fun h => atoi_ok l w (by omega) h)
  have hno := hid (fun h => atoi_no l w (by omega) h hw)
  have HSM := hid (show smallB l = (numOk l && decide (0 ≤ numOf l) && decide (l.length ≤ 3) && decide (Lib.itoa (numOf l) = l)) from rfl)
  clear hdd hw
  obtain ⟨S, hS⟩ : ∃ S, smallB l = S := ⟨_, rfl⟩
  have HS := hid hS
  rw [hS]
  clear hS hnb
  generalize hO : numOk l = ok at *
  generalize Lib.itoa (numOf l) = it at *
  generalize numOf l = N at *
  cases ok with
  | false =>
    have hsf : S = false := by rw [← HS.out, HSM.out]; rfl
    have HSF := hid hsf
    clear hsf
    go_enter Tryz.func49, Tryz.ntmps49
    go_wp2_with fail
    refine (hno.out (by first | rfl | trivial | exact hO)).mono ?_
    rintro e w1 ⟨NN, rfl, e1⟩
    have E1 := hid e1
    clear e1
    go_wp2_with fail
    go_ret2
    exact ⟨by rw [HSF.out]; rfl, E1.out⟩
  | true =>
    by_cases h0 : 0 ≤ N
    · by_cases h3 : l.length ≤ 3
      · have d0 : decide (0 ≤ N) = true := decide_eq_true h0
        have d3 : decide (l.length ≤ 3) = true := decide_eq_true h3
        have d3i : decide ((l.length : Int) ≤ 3) = true := decide_eq_true (by omega)
        have hsf : S = decide (it = l) := by rw [← HS.out, HSM.out, d0, d3]; rfl
        have HSF := hid hsf
        clear hsf
        generalize decide (it = l) = q at *
        go_enter Tryz.func49, Tryz.ntmps49
        go_wp2_with fail
        refine (hok.out (by first | rfl | trivial | exact hO)).mono ?_
        rintro e w1 ⟨rfl, e1⟩
        have E1 := hid e1
        clear e1
        go_wp2_with fail
        refine (hit.out w1 (HW.out.ext E1.out).pw).mono ?_
        rintro e w2 ⟨rfl, e2⟩
        have E2 := hid (E1.out.ext e2)
        clear e2
        go_wp2_with fail
        go_ret2
        exact ⟨by rw [HSF.out]; rfl, E2.out⟩
      · have d0 : decide (0 ≤ N) = true := decide_eq_true h0
        have d3 : decide (l.length ≤ 3) = false := decide_eq_false h3
        have d3i : decide ((l.length : Int) ≤ 3) = false := decide_eq_false (by omega)
        have hsf : S = false := by rw [← HS.out, HSM.out, d0, d3]; rfl
        have HSF := hid hsf
        clear hsf hit
        go_enter Tryz.func49, Tryz.ntmps49
        go_wp2_with fail
        refine (hok.out (by first | rfl | trivial | exact hO)).mono ?_
        rintro e w1 ⟨rfl, e1⟩
        have E1 := hid e1
        clear e1
        go_wp2_with fail
        go_ret2
        exact ⟨by rw [HSF.out]; rfl, E1.out⟩
    · have d0 : decide (0 ≤ N) = false := decide_eq_false h0
      have hsf : S = false := by rw [← HS.out, HSM.out, d0]; rfl
      have HSF := hid hsf
      clear hsf hit
      go_enter Tryz.func49, Tryz.ntmps49
      go_wp2_with fail
      refine (hok.out (by first | rfl | trivial | exact hO)).mono ?_
      rintro e w1 ⟨rfl, e1⟩
      have E1 := hid e1
      clear e1
      go_wp2_with fail
      go_ret2
      exact ⟨by rw [HSF.out]; rfl, E1.out⟩
end

section
open Go Go.RowKit

theorem gbw_ext0 {w w1 : World} {r : Option Nat} (e : Ext w w1) : w.grownBy w1 r := gbw_ext (gbw_self w r) e

set_option maxRecDepth 100000 in
set_option maxHeartbeats 2000000 in
theorem rlist_c (G B : Nat) (T : TypeId) (a : Option Addr) (n c : Nat) (ws : List ByteArray) (nm : ByteArray) (w0 w : World) (hG : Blk w G [.slice a n c] T) (hw : Wds w0 B a n c ws) (he : Ext w0 w) (hg : w0.heap.size ≤ G) :
    Calls Tryz.prog 45 #[.string nm, .pointer (some ⟨G, 0, none⟩)] w fun e w' => ∃ al nl cl a' n' c', e = .returned (.tuple #[.slice al nl cl, .bool (!secB nm ws || !(secL nm ws).isEmpty)]) ∧
      Wds w0 B al nl cl (secL nm ws) ∧ Wds w0 B a' n' c' (secR nm ws) ∧ Blk w' G [.slice a' n' c'] T ∧ w.grownBy w' (some G) := by
  have c0 := hG.cell' (i := 0) rfl
  have f0 := hG.frozen 0
  have HG := hid hG
  have HE := hid he
  have HW := hid hw
  obtain ⟨b, hb⟩ : ∃ b, secB nm ws = b := ⟨_, rfl⟩
  have HB := hid hb
  rw [hb]
  obtain ⟨lst, hlst⟩ : ∃ lst, secL nm ws = lst := ⟨_, rfl⟩
  have HLST := hid hlst
  rw [hlst]
  obtain ⟨R, hR⟩ : ∃ R : Ending → World → Prop, R = fun e w' => ∃ al nl cl a' n' c', e = .returned (.tuple #[.slice al nl cl, .bool (!b || !lst.isEmpty)]) ∧
      Wds w0 B al nl cl lst ∧ Wds w0 B a' n' c' (secR nm ws) ∧ Blk w' G [.slice a' n' c'] T ∧ w.grownBy w' (some G) := ⟨_, rfl⟩
  rw [← hR]
  have HR := hid hR
  clear hR hlst hb
  by_cases hbt : b = false
  · subst hbt
    have hl0 : lst = [] := by rw [← HLST.out]; exact secL_off HB.out
    have hr0 : secR nm ws = ws := by unfold secR; rw [HB.out]; rfl
    have fin : ∀ e, e = Ending.returned (.tuple #[.slice none 0 0, .bool true]) → R e w := by
      rintro e rfl
      rw [HR.out, hr0, hl0]
      exact ⟨none, 0, 0, a, n, c, rfl, Wds.nil _ _, HW.out, HG.out, gbw_self _ _⟩
    have FIN := hid fin
    clear fin hl0 hr0
    cases ws with
    | nil =>
      obtain rfl : n = 0 := HW.out.hl.symm
      clear hw hG he
      go_enter Tryz.func45, Tryz.ntmps45
      go_wp2
      (try go_ret2)
      exact FIN.out _ rfl
    | cons x r =>
      obtain ⟨A, rfl, hca⟩ := (HW.out.ext HE.out).at (k := 0) (x := x) rfl
      rw [addr_a0] at hca
      have hn : 1 ≤ n := by have := HW.out.hl; simp at this; omega
      have n0 : ((n : Int) == 0) = false := by simp; omega
      have n1 : decide ((n : Int) = 0) = false := by simp; omega
      have n2 : decide (n = 0) = false := by simp; omega
      have n3 : 0 < n := by omega
      have hq := bytes_eqW x nm
      rw [show decide (x = nm) = false from HB.out] at hq
      clear hw hG he hn
      go_enter Tryz.func45, Tryz.ntmps45
      go_wp2
      (try go_ret2)
      exact FIN.out _ rfl
  obtain rfl : b = true := by cases b <;> simp_all
  obtain ⟨x, r, rfl⟩ : ∃ x r, ws = x :: r := by
    cases ws with
    | nil => exact absurd HB.out (by simp [secB])
    | cons x r => exact ⟨x, r, rfl⟩
  have hl1 : lst = r.take (upN r) := by rw [← HLST.out]; unfold secL; rw [HB.out]; rfl
  have hr1 : secR nm (x :: r) = r.drop (upN r) := by unfold secR; rw [HB.out]; rfl
  rw [hr1] at HR
  have HL1 := hid hl1
  obtain ⟨A, rfl, hca⟩ := (HW.out.ext HE.out).at (k := 0) (x := x) rfl
  rw [addr_a0] at hca
  have hn : 1 ≤ n := by have := HW.out.hl; simp at this; omega
  have HN := hid hn
  have n0 : ((n : Int) == 0) = false := by simp; omega
  have n1 : decide ((n : Int) = 0) = false := by simp; omega
  have n2 : decide (n = 0) = false := by simp; omega
  have hq := bytes_eqW x nm
  rw [show decide (x = nm) = true from HB.out] at hq
  have HW1 := hid (HW.out.drop hn)
  clear hw hG he hn hl1 hr1 hbt HLST
  go_enter Tryz.func45, Tryz.ntmps45
  go_upto_region 4 with (refine wpl_run rfl (exec_slLow (p := some A) (n := n) (c := c) (k := 1) rfl rfl rfl Tryz.underlying42 size_str1 HN.out _) ?_)
  have hw1 := HW1.out
  rw [show (x :: r).drop 1 = r from rfl] at hw1
  obtain ⟨a1, ha1⟩ : ∃ a1, shift (some A) c 1 = a1 := ⟨_, rfl⟩
  obtain ⟨m1, hm1⟩ : ∃ m1, n - 1 = m1 := ⟨_, rfl⟩
  obtain ⟨c1, hc1⟩ : ∃ c1, c - 1 = c1 := ⟨_, rfl⟩
  rw [ha1, hm1, hc1] at hw1 ⊢
  obtain ⟨w1, hw1e⟩ : ∃ W, World.setCell w ⟨G, 0, none⟩ (.slice a1 m1 c1) = W := ⟨_, rfl⟩
  rw [hw1e]
  have b1 : Blk w1 G [.slice a1 m1 c1] T := by rw [← hw1e]; exact HG.out.set 0 (.slice a1 m1 c1)
  have u1 : Upd w G w1 := by rw [← hw1e]; exact Upd.setCell _
  have HW2 := hid hw1
  have B1 := hid b1
  have E1 := hid (u1.ext HE.out hg)
  have G1 := hid (gbw_upd (gbw_self w (some G)) u1)
  have hm63 := hw1.hm
  clear hw1 b1 u1 hw1e ha1 hm1 hc1 HW1 HN n0 n1 n2 hq hca c0 f0 HG HE HB
  go_wp2_with fail
  go_loopw [5] (fun i wr => ∃ k : Nat, k ≤ m1 ∧ i = .int .i64 (k : Int) ∧ (∀ x ∈ r.take k, partB x = false) ∧ Ext w1 wr) (fun i _ => m1 - (intOf i).toNat)
  case atStart => exact ⟨0, by omega, rfl, by simp, Ext.refl _⟩
  case round =>
    obtain ⟨k, hk, rfl, hpre, e1⟩ := hrel
    have HP := hid hpre
    have ER := hid e1
    have BR := hid (B1.out.ext e1)
    have ck := BR.out.cell' (i := 0) rfl
    have fk := BR.out.frozen 0
    clear hpre e1
    have fin : ∀ (k : Nat) (w2 w3 : World), k ≤ m1 → k = upN r → Ext w1 w2 → Blk w3 G [.slice (shift a1 c1 k) (m1 - k) (c1 - k)] T → Upd w2 G w3 → ∀ e, e = Ending.returned (.tuple #[.slice a1 k c1, .bool (decide ((0 : Int) < (k : Int)))]) → R e w3 := by
      rintro k w2 w3 hk hu e2 b3 u3 e rfl
      rw [HR.out]
      have hnc := HW2.out.hnc
      have hll : lst = r.take k := by rw [HL1.out, hu]
      refine ⟨a1, k, c1, shift a1 c1 k, m1 - k, c1 - k, ?_, ?_, ?_, b3, gbw_upd (gbw_ext G1.out e2) u3⟩
      · have : decide ((0 : Int) < (k : Int)) = (!true || !lst.isEmpty) := by
          have hlen : lst.length = k := by
            have := (HW2.out.take hk (Nat.le_trans hk hnc)).hl
            rw [hll]; exact this
          cases lst with
          | nil => simp at hlen; subst hlen; rfl
          | cons y z => simp at hlen; simp; omega
        rw [this]
      · rw [hll]; exact HW2.out.take hk (Nat.le_trans hk hnc)
      · rw [← hu]; exact HW2.out.drop hk
    have FIN := hid fin
    clear fin
    by_cases hlt : k < m1
    · have d1 : decide ((k : Int) < (m1 : Int)) = true := decide_eq_true (by omega)
      have d2 : decide (k < m1) = true := decide_eq_true hlt
      obtain ⟨y, hy⟩ : ∃ y, r[k]? = some y := ⟨r[k]'(by rw [HW2.out.hl]; exact hlt), by simp⟩
      obtain ⟨A1, rfl, hcy⟩ := (HW2.out.ext (E1.out.ext ER.out)).at hy
      have HY := hid hy
      have hp := partWord_c y wr
      obtain ⟨q, hqq⟩ : ∃ q, partB y = q := ⟨_, rfl⟩
      rw [hqq] at hp
      have HQ := hid hqq
      have HPW := hid hp
      clear hy hqq hp
      go_wp2_with fail
      refine HPW.out.mono ?_
      rintro e w2 ⟨rfl, e2⟩
      have ER2 := hid (ER.out.ext e2)
      have BR2 := hid (BR.out.ext e2)
      clear e2 HPW ck fk BR ER
      have ck := BR2.out.cell' (i := 0) rfl
      have fk := BR2.out.frozen 0
      cases q with
      | false =>
        go_wp2_with fail
        go_roundw
        case rel =>
          refine ⟨k + 1, by omega, by go_num, (fun z hz => ?_), ER2.out⟩
          rw [List.take_add_one, HY.out, List.mem_append] at hz
          rcases hz with hz | hz
          · exact HP.out z hz
          · simp at hz; rw [hz]; exact HQ.out
        case measure => simp [intOf]; omega
      | true =>
        have HU := hid (show k = upN r from (upN_of (by rw [HW2.out.hl]; exact hk) HP.out (fun z hz => by rw [HY.out] at hz; injection hz with hz; rw [← hz]; exact HQ.out)).symm)
        have HLT := hid hlt
        have HNC := hid HW2.out.hnc
        clear hlt d1 d2 hk hcy HP
        go_upto_region 7 with fail
        go_wp2_with (first | (refine wpl_run rfl (exec_slHigh (p := some A1) (n := m1) (c := c1) (k := k) rfl rfl rfl Tryz.underlying42 size_str1 (by have := HLT.out; have := HNC.out; omega) _) ?_) | (refine wpl_run rfl (exec_slLow (p := some A1) (n := m1) (c := c1) (k := k) rfl rfl rfl Tryz.underlying42 size_str1 (by have := HLT.out; omega) _) ?_))
        (try go_ret2)
        exact FIN.out k w2 _ (Nat.le_of_lt HLT.out) HU.out ER2.out (BR2.out.set 0 _) (Upd.setCell _) _ (by first | rfl | simp)
    · obtain rfl : k = m1 := by omega
      have HU := hid (show k = upN r from (upN_of (by rw [HW2.out.hl]; exact hk) HP.out (fun z hz => by
        have := (List.getElem?_eq_some_iff.1 hz).1
        rw [HW2.out.hl] at this
        omega)).symm)
      have HNC := hid HW2.out.hnc
      clear HP hk
      go_upto_region 7 with fail
      go_wp2_with (first | (refine wpl_run rfl (exec_slHigh (p := a1) (n := k) (c := c1) (k := k) rfl rfl rfl Tryz.underlying42 size_str1 HNC.out _) ?_) | (refine wpl_run rfl (exec_slLow (p := a1) (n := k) (c := c1) (k := k) rfl rfl rfl Tryz.underlying42 size_str1 (Nat.le_refl _) _) ?_))
      (try go_ret2)
      refine FIN.out k wr _ (Nat.le_refl _) HU.out ER.out ?_ (Upd.setCell _) _ (by first | rfl | simp)
      rw [Nat.sub_self]
      exact BR.out.set 0 _
end

section
open Go Go.RowKit

structure Sl where
  a : Option Addr
  n : Nat
  c : Nat
def Sl.v (s : Sl) : Value := .slice s.a s.n s.c
def nilS : Sl := ⟨none, 0, 0⟩
def nmS : Nat → ByteArray
  | 0 => wdRole
  | 1 => wdAct
  | 2 => wdOn
  | 3 => wdAt
  | _ => wdNeed
def wdS : Nat → List ByteArray → List ByteArray
  | 0, ws => wd1 ws
  | k + 1, ws => secR (nmS k) (wdS k ws)
def seS (k : Nat) (ws : List ByteArray) : List ByteArray := secL (nmS k) (wdS k ws)
def fiS (k : Nat) (ws : List ByteArray) : Bool := !secB (nmS k) (wdS k ws) || !(seS k ws).isEmpty
def updS (q : Nat → Sl) (k : Nat) (s : Sl) : Nat → Sl := fun j => if j = k then s else q j
/-- the rule that is made, as far as the lists go -/
def rqR (d : Bool) (q : Nat → Sl) (ro la : List ByteArray) : RuleR := { x0R d with ra := (q 0).a, rn := (q 0).n, rc := (q 0).c, roles := ro, la := (q 2).a, ln := (q 2).n, lc := (q 2).c, labels := la }
def y1R (d : Bool) (ws : List ByteArray) : RuleR := { x0R d with rn := (rolesL ws).length, roles := rolesL ws, ln := (labsL ws).length, labels := labsL ws }
def y2R (d : Bool) (ws : List ByteArray) : RuleR := { y1R d ws with an := (actsL ws).length, acts := (actsL ws).map actI }
def y3R (d : Bool) (ws : List ByteArray) : RuleR := { y2R d ws with fr := frV (atL ws), tt := toV (atL ws) }
def y4R (d : Bool) (ws : List ByteArray) : RuleR := { y3R d ws with nd := ndV (needL ws), ow := ofV (needL ws) }
theorem y4R_eq (ws : List ByteArray) : y4R (secB wdDeny ws) ws = ruleOf ws := rfl
theorem y3R_no {d : Bool} {ws : List ByteArray} (h : atL ws = []) : y3R d ws = y2R d ws := by
  show ({ y2R d ws with fr := frV (atL ws), tt := toV (atL ws) } : RuleR) = y2R d ws
  rw [h]; rfl
theorem y4R_no {d : Bool} {ws : List ByteArray} (h : needL ws = []) : y4R d ws = y3R d ws := by
  show ({ y3R d ws with nd := ndV (needL ws), ow := ofV (needL ws) } : RuleR) = y3R d ws
  rw [h]; rfl
theorem y3R_yes {d : Bool} {ws : List ByteArray} {x : ByteArray} (h : atL ws = [x]) (h1 : numB (cutA x).1 = true) (h2 : numB (cutA x).2.1 = true) : { y2R d ws with fr := numOf (cutA x).1, tt := numOf (cutA x).2.1 } = y3R d ws := by
  show _ = ({ y2R d ws with fr := frV (atL ws), tt := toV (atL ws) } : RuleR)
  rw [h, (smallB_eq _).2 h1, (smallB_eq _).2 h2]
  rfl
theorem y4R_yes {d : Bool} {ws : List ByteArray} {x y : ByteArray} (h : needL ws = [x, y]) (h1 : numB x.data.toList = true) : { y3R d ws with nd := numOf x.data.toList, ow := y } = y4R d ws := by
  show _ = ({ y3R d ws with nd := ndV (needL ws), ow := ofV (needL ws) } : RuleR)
  rw [h, (smallB_eq _).2 h1]
  rfl
theorem okF_S (ws : List ByteArray) : okF ws = (headB ws && fiS 0 ws && fiS 1 ws && fiS 2 ws && fiS 3 ws && fiS 4 ws && (wd6 ws).isEmpty && actsB (actsL ws) && ((atL ws).isEmpty || atB (atL ws)) && ((needL ws).isEmpty || needB (needL ws))) := rfl
theorem okF_no {ws : List ByteArray} {k : Nat} (hk : k < 5) (h : fiS k ws = false) : okR ws = false := by
  rw [← okF_eq, okF_S]
  rcases (show k = 0 ∨ k = 1 ∨ k = 2 ∨ k = 3 ∨ k = 4 by omega) with rfl | rfl | rfl | rfl | rfl <;> rw [h] <;> simp
theorem okF_rest {ws : List ByteArray} (hh : headB ws = true) (h : ∀ j, j < 5 → fiS j ws = true) : okR ws = ((wd6 ws).isEmpty && actsB (actsL ws) && ((atL ws).isEmpty || atB (atL ws)) && ((needL ws).isEmpty || needB (needL ws))) := by
  rw [← okF_eq, okF_S, hh, h 0 (by omega), h 1 (by omega), h 2 (by omega), h 3 (by omega), h 4 (by omega)]
  simp

structure RfI (w : World) (B G1 G2 G5 G6 G7 G8 : Nat) (d : Bool) (ws : List ByteArray) (k : Nat) (q : Nat → Sl) (a : Option Addr) (n c : Nat) (wx : World) : Prop where
  e : Ext w wx
  b1 : Blk wx G1 [.slice a n c] 42
  wd : Wds w B a n c (wdS k ws)
  b2 : Blk wx G2 (rqR d q [] []).v 51
  b5 : Blk wx G5 [(q 1).v] 42
  b6 : Blk wx G6 [(q 3).v] 42
  b7 : Blk wx G7 [(q 4).v] 42
  b8 : Blk wx G8 [.pointer (some ⟨G2, 1, none⟩), .pointer (some ⟨G5, 0, none⟩), .pointer (some ⟨G2, 3, none⟩), .pointer (some ⟨G6, 0, none⟩), .pointer (some ⟨G7, 0, none⟩)] 81
  ql : ∀ j, j < 5 → Wds w B (q j).a (q j).n (q j).c (if j < k then seS j ws else [])
/-- the block that the place k lies in -/
def tgS (G2 G5 G6 G7 : Nat) : Nat → Nat
  | 0 => G2
  | 1 => G5
  | 2 => G2
  | 3 => G6
  | _ => G7
def ofS : Nat → Nat
  | 0 => 1
  | 2 => 3
  | _ => 0
variable {w wx wy wz : World} {B G1 G2 G5 G6 G7 G8 k n c n' c' : Nat} {d : Bool} {ws : List ByteArray} {q : Nat → Sl} {a a' : Option Addr} {s : Sl}
theorem RfI.ext (h : RfI w B G1 G2 G5 G6 G7 G8 d ws k q a n c wx) (e : Ext wx wy) : RfI w B G1 G2 G5 G6 G7 G8 d ws k q a n c wy :=
  { h with e := h.e.ext e, b1 := h.b1.ext e, b2 := h.b2.ext e, b5 := h.b5.ext e, b6 := h.b6.ext e, b7 := h.b7.ext e, b8 := h.b8.ext e }
/-- the closure took a part, its list is stored -/
theorem RfI.step (h : RfI w B G1 G2 G5 G6 G7 G8 d ws k q a n c wx) (hk : k < 5) (h0 : w.heap.size ≤ G1) (h12 : G1 < G2) (h25 : G2 < G5) (h56 : G5 < G6) (h67 : G6 < G7) (h78 : G7 < G8)
    (hb : Blk wy G1 [.slice a' n' c'] 42) (hg : wx.grownBy wy (some G1)) (hs : Wds w B s.a s.n s.c (seS k ws)) (hw : Wds w B a' n' c' (wdS (k + 1) ws))
    (hz : wz = wy.setCell ⟨tgS G2 G5 G6 G7 k, ofS k, none⟩ s.v) : RfI w B G1 G2 G5 G6 G7 G8 d ws (k + 1) (updS q k s) a' n' c' wz := by
  have u : Upd wy (tgS G2 G5 G6 G7 k) wz := by rw [hz]; exact Upd.setCell _
  have t1 : tgS G2 G5 G6 G7 k ≠ G1 := by
    rcases (show k = 0 ∨ k = 1 ∨ k = 2 ∨ k = 3 ∨ k = 4 by omega) with rfl | rfl | rfl | rfl | rfl <;> (simp only [tgS]; omega)
  have t8 : tgS G2 G5 G6 G7 k ≠ G8 := by
    rcases (show k = 0 ∨ k = 1 ∨ k = 2 ∨ k = 3 ∨ k = 4 by omega) with rfl | rfl | rfl | rfl | rfl <;> (simp only [tgS]; omega)
  have t0 : w.heap.size ≤ tgS G2 G5 G6 G7 k := by
    rcases (show k = 0 ∨ k = 1 ∨ k = 2 ∨ k = 3 ∨ k = 4 by omega) with rfl | rfl | rfl | rfl | rfl <;> (simp only [tgS]; omega)
  have ey : Ext w wy := h.e.grown hg (fun g e => by injection e with e; omega)
  have b2 := h.b2.grown hg (fun e => by injection e with e; omega)
  have b5 := h.b5.grown hg (fun e => by injection e with e; omega)
  have b6 := h.b6.grown hg (fun e => by injection e with e; omega)
  have b7 := h.b7.grown hg (fun e => by injection e with e; omega)
  have b8 := h.b8.grown hg (fun e => by injection e with e; omega)
  have ql : ∀ j, j < 5 → Wds w B (updS q k s j).a (updS q k s j).n (updS q k s j).c (if j < k + 1 then seS j ws else []) := by
    intro j hj
    unfold updS
    by_cases hjk : j = k
    · subst hjk
      rw [if_pos rfl, if_pos (by omega)]
      exact hs
    · have h1 := h.ql j hj
      rw [if_neg hjk]
      by_cases hlt : j < k
      · rw [if_pos hlt] at h1; rw [if_pos (by omega)]; exact h1
      · rw [if_neg hlt] at h1; rw [if_neg (by omega)]; exact h1
  refine ⟨u.ext ey t0, hb.upd u t1.symm, hw, ?_, ?_, ?_, ?_, b8.upd u t8.symm, ql⟩
  all_goals
    subst hz
    rcases (show k = 0 ∨ k = 1 ∨ k = 2 ∨ k = 3 ∨ k = 4 by omega) with rfl | rfl | rfl | rfl | rfl
  · exact b2.set 1 s.v
  · exact b2.upd u (by show G2 ≠ G5; omega)
  · exact b2.set 3 s.v
  · exact b2.upd u (by show G2 ≠ G6; omega)
  · exact b2.upd u (by show G2 ≠ G7; omega)
  · exact b5.upd u (by show G5 ≠ G2; omega)
  · exact b5.set 0 s.v
  · exact b5.upd u (by show G5 ≠ G2; omega)
  · exact b5.upd u (by show G5 ≠ G6; omega)
  · exact b5.upd u (by show G5 ≠ G7; omega)
  · exact b6.upd u (by show G6 ≠ G2; omega)
  · exact b6.upd u (by show G6 ≠ G5; omega)
  · exact b6.upd u (by show G6 ≠ G2; omega)
  · exact b6.set 0 s.v
  · exact b6.upd u (by show G6 ≠ G7; omega)
  · exact b7.upd u (by show G7 ≠ G2; omega)
  · exact b7.upd u (by show G7 ≠ G5; omega)
  · exact b7.upd u (by show G7 ≠ G2; omega)
  · exact b7.upd u (by show G7 ≠ G6; omega)
  · exact b7.set 0 s.v
theorem RfI.st (h : RfI w B G1 G2 G5 G6 G7 G8 d ws 5 q a n c wx) : RSt w wx B G2 (rqR d q (rolesL ws) (labsL ws)) (y1R d ws) := by
  have h0 := h.ql 0 (by omega)
  have h2 := h.ql 2 (by omega)
  exact ((RSt.zero w wx B G2 d).roles (a := (q 0).a) (n := (q 0).n) (c := (q 0).c) (ws := rolesL ws) h0).labels (a := (q 2).a) (n := (q 2).n) (c := (q 2).c) (ws := labsL ws) h2

/-- behind the lists: the rule and the three lists that are still to be looked at -/
structure RfJ (w : World) (B G2 G5 G6 G7 : Nat) (ws : List ByteArray) (q : Nat → Sl) (r x : RuleR) (wx : World) : Prop where
  e : Ext w wx
  b2 : Blk wx G2 r.v 51
  b5 : Blk wx G5 [(q 1).v] 42
  b6 : Blk wx G6 [(q 3).v] 42
  b7 : Blk wx G7 [(q 4).v] 42
  w1 : Wds w B (q 1).a (q 1).n (q 1).c (actsL ws)
  w3 : Wds w B (q 3).a (q 3).n (q 3).c (atL ws)
  w4 : Wds w B (q 4).a (q 4).n (q 4).c (needL ws)
  st : RSt w wx B G2 r x
theorem RSt.fr {W : World} {G : Nat} {r x : RuleR} (h : RSt w W B G r x) (f : Int) : RSt w W B G { r with fr := f } { x with fr := f } := { h with q := by rw [← h.q]; rfl }
theorem RSt.tt {W : World} {G : Nat} {r x : RuleR} (h : RSt w W B G r x) (f : Int) : RSt w W B G { r with tt := f } { x with tt := f } := { h with q := by rw [← h.q]; rfl }
theorem RSt.nd {W : World} {G : Nat} {r x : RuleR} (h : RSt w W B G r x) (f : Int) : RSt w W B G { r with nd := f } { x with nd := f } := { h with q := by rw [← h.q]; rfl }
theorem RSt.ow {W : World} {G : Nat} {r x : RuleR} (h : RSt w W B G r x) (o : ByteArray) (ho : o.size ≤ 140737488355328) : RSt w W B G { r with ow := o } { x with ow := o } := { h with q := by rw [← h.q]; rfl, os := ho }
structure RfK (w : World) (G2 G5 G6 G7 : Nat) (q : Nat → Sl) (r : RuleR) (wx : World) : Prop where
  e : Ext w wx
  b2 : Blk wx G2 r.v 51
  b5 : Blk wx G5 [(q 1).v] 42
  b6 : Blk wx G6 [(q 3).v] 42
  b7 : Blk wx G7 [(q 4).v] 42
theorem RfK.ext {r : RuleR} (h : RfK w G2 G5 G6 G7 q r wx) (e : Ext wx wy) : RfK w G2 G5 G6 G7 q r wy := ⟨h.e.ext e, h.b2.ext e, h.b5.ext e, h.b6.ext e, h.b7.ext e⟩
theorem RfK.gro {r : RuleR} {p : Option Nat} (h : RfK w G2 G5 G6 G7 q r wx) (h25 : G2 < G5) (h56 : G5 < G6) (h67 : G6 < G7) (g : wx.grownBy wy p) (hp : ∀ g, p = some g → w.heap.size ≤ g ∧ G7 < g) : RfK w G2 G5 G6 G7 q r wy :=
  ⟨h.e.grown g (fun i hi => (hp i hi).1), h.b2.grown g (fun e => by have := (hp _ e.symm).2; omega), h.b5.grown g (fun e => by have := (hp _ e.symm).2; omega), h.b6.grown g (fun e => by have := (hp _ e.symm).2; omega), h.b7.grown g (fun e => by have := (hp _ e.symm).2; omega)⟩
theorem RfK.rule {r r' : RuleR} (h : RfK w G2 G5 G6 G7 q r wx) (h0 : w.heap.size ≤ G2) (h25 : G2 < G5) (h56 : G5 < G6) (h67 : G6 < G7) (hb : Blk wy G2 r'.v 51) (u : Upd wx G2 wy) : RfK w G2 G5 G6 G7 q r' wy :=
  ⟨u.ext h.e h0, hb, h.b5.upd u (by omega), h.b6.upd u (by omega), h.b7.upd u (by omega)⟩
theorem act_wf2 (l : List ByteArray) : ∀ z ∈ l.map actI, (Lit.int .i64 z).wf = true := by
  intro z hz
  obtain ⟨y, _, rfl⟩ := List.mem_map.1 hz
  have := actI_b y
  obtain ⟨m, hm⟩ : ∃ m : Nat, actI y = (m : Int) := ⟨(actI y).toNat, by omega⟩
  rw [hm] at this ⊢
  have hlt : m < 13 := by omega
  exact (show ∀ m < 13, (Lit.int .i64 ((m : Nat) : Int)).wf = true by decide) m hlt
theorem RfI.j (h : RfI w B G1 G2 G5 G6 G7 G8 d ws 5 q a n c wx) : RfJ w B G2 G5 G6 G7 ws q (rqR d q (rolesL ws) (labsL ws)) (y1R d ws) wx :=
  ⟨h.e, h.b2, h.b5, h.b6, h.b7, h.ql 1 (by omega), h.ql 3 (by omega), h.ql 4 (by omega), h.st⟩
variable {r x r' x' : RuleR}
theorem RfJ.toK (h : RfJ w B G2 G5 G6 G7 ws q r x wx) : RfK w G2 G5 G6 G7 q r wx := ⟨h.e, h.b2, h.b5, h.b6, h.b7⟩
theorem RfK.j (h : RfK w G2 G5 G6 G7 q r wx) (h1 : Wds w B (q 1).a (q 1).n (q 1).c (actsL ws)) (h3 : Wds w B (q 3).a (q 3).n (q 3).c (atL ws)) (h4 : Wds w B (q 4).a (q 4).n (q 4).c (needL ws)) (st : RSt w wx B G2 r x) : RfJ w B G2 G5 G6 G7 ws q r x wx :=
  ⟨h.e, h.b2, h.b5, h.b6, h.b7, h1, h3, h4, st⟩
theorem RfJ.ext (h : RfJ w B G2 G5 G6 G7 ws q r x wx) (e : Ext wx wy) : RfJ w B G2 G5 G6 G7 ws q r x wy :=
  { h with e := h.e.ext e, b2 := h.b2.ext e, b5 := h.b5.ext e, b6 := h.b6.ext e, b7 := h.b7.ext e, st := h.st.ext e }
theorem RfJ.rule (h : RfJ w B G2 G5 G6 G7 ws q r x wx) (h0 : w.heap.size ≤ G2) (h25 : G2 < G5) (h56 : G5 < G6) (h67 : G6 < G7) (hb : Blk wy G2 r'.v 51) (u : Upd wx G2 wy) (hs : RSt w wy B G2 r x → RSt w wy B G2 r' x') :
    RfJ w B G2 G5 G6 G7 ws q r' x' wy :=
  ⟨u.ext h.e h0, hb, h.b5.upd u (by omega), h.b6.upd u (by omega), h.b7.upd u (by omega), h.w1, h.w3, h.w4, hs (h.st.upd u (Nat.le_refl _))⟩
end
end Go.Proofs.YthfddfgncolnbaaGreatDoor
