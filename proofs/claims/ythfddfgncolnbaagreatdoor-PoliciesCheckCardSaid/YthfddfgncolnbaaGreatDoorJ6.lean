/- Contracts and laws that the claim's row leans on (2 texts, joined): policy.ruleText of a right rule; conditions: the memory, the library's variables. SamePolicy of the reference at policies of the same rules; conditions: the memory. -/
import Derived.Test.YthfddfgncolnbaaGreatDoorJ5
import Derived.Deep.DeepCutAuto
import Derived.Deep.CutBlock
import Derived.Laws.StructEq
namespace Go.Proofs.YthfddfgncolnbaaGreatDoor
section
open Go Go.RowKit

theorem own_mkP {w : World} {B q : Nat} {e : TypeId} {z n cap : Nat} {xs rest : List Value} (hb : Blk w q (xs ++ rest) e) (hl : (xs ++ rest).length = cap * z) (hx : xs.length = n * z) (hB : B ≤ q) (hn : n ≤ cap) (hc : cap ≤ maxLen) :
    w.ownsRow B e z (.slice (some ⟨q, 0, none⟩) n cap) n xs :=
  ⟨hx, .inr ⟨q, cap, (xs ++ rest).toArray, rfl, hB, hb, hn, hc, by simpa using hl, by simp [← hx]⟩⟩
theorem info_strP : (Tryz.prog.info? 9).map (fun i => (i.zero, i.size, i.bytes)) = some (some (.string ⟨#[]⟩), 1, 16) := by kernel_rfl
theorem elem_strP : ElemT Tryz.prog 42 9 1 16 := ⟨Tryz.underlying42, ⟨_, _, (info_parts info_strP).choose_spec.1, (info_parts info_strP).choose_spec.2.1, (info_parts info_strP).choose_spec.2.2.1, (info_parts info_strP).choose_spec.2.2.2, rfl⟩, by decide⟩
/-- what a right rule is made of -/
structure RuleV (r : RuleR) : Prop where
  n1 : r.rn ≤ 16
  n2 : r.an ≤ 16
  n3 : r.ln ≤ 16
  s1 : ∀ s ∈ r.roles, s.size ≤ 33
  s3 : ∀ s ∈ r.labels, s.size ≤ 33
  a1 : ∀ z ∈ r.acts, 1 ≤ z ∧ z ≤ 12
  f1 : 0 ≤ r.fr ∧ r.fr ≤ 24
  t1 : 0 ≤ r.tt ∧ r.tt ≤ 24
  d1 : 0 ≤ r.nd ∧ r.nd ≤ 16
  o1 : r.ow.size ≤ 33
theorem name_len {s : ByteArray} (h : badS s = false) : s.size ≤ 33 := by
  unfold badS isNameL at h
  have h2 : s.data.toList.length ≤ 32 := by
    simp only [Bool.not_eq_false', Bool.and_eq_true, decide_eq_true_eq] at h
    exact h.2
  rw [Array.length_toList] at h2
  exact Nat.le_trans h2 (by omega)
theorem pat_len {s : ByteArray} (h : badP s = false) : s.size ≤ 33 := by
  unfold badP patL at h
  simp only [Bool.not_eq_false', Bool.or_eq_true, Bool.and_eq_true] at h
  have hh : (headL s.data.toList).length ≤ 32 := by
    rcases h with h | h
    · unfold isNameL at h
      simp only [Bool.and_eq_true, decide_eq_true_eq] at h
      exact h.2
    · rw [List.isEmpty_iff.1 h.2]; simp
  have hs : s.data.toList.length ≤ (headL s.data.toList).length + 1 := by
    unfold headL Lib.trimSuffix
    split
    · simp; omega
    · omega
  rw [Array.length_toList] at hs
  exact Nat.le_trans hs (by omega)
theorem ruleV_of {r : RuleR} {W : World} (hr : r.Ok W) (h : ruleE r = 0) : RuleV r := by
  unfold ruleE at h
  split at h
  · cases h
  rename_i h1
  split at h
  · cases h
  rename_i h2
  split at h
  · cases h
  rename_i h3
  split at h
  · cases h
  rename_i h4
  split at h
  · cases h
  split at h
  · cases h
  rename_i h6
  unfold k1 at h1
  unfold k2 at h2
  unfold k3 at h3
  unfold k4 at h4
  unfold k6 at h6
  simp only [Bool.or_eq_true, decide_eq_true_eq, not_or] at h1
  simp only [Bool.or_eq_true, Bool.and_eq_true, decide_eq_true_eq, not_or] at h6
  have r2 : r.roles.any badS = false ∧ (emptyB r.ow = true ∨ badS r.ow = false) := by
    revert h2
    cases r.roles.any badS <;> cases emptyB r.ow <;> cases badS r.ow <;> simp
  have r3 : r.acts.any badA = false := by revert h3; cases r.acts.any badA <;> simp
  have r4 : r.labels.any badP = false := by revert h4; cases r.labels.any badP <;> simp
  rw [List.any_eq_false] at r3 r4
  have r21 := r2.1
  rw [List.any_eq_false] at r21
  obtain ⟨⟨⟨⟨f0, f1⟩, t0, t1⟩, _⟩, d0, d1⟩ := h6
  refine ⟨by omega, by omega, by omega, fun s hs => name_len (by simpa using r21 s hs), fun s hs => pat_len (by simpa using r4 s hs), fun z hz => ?_, ⟨by omega, by omega⟩, ⟨by omega, by omega⟩, ⟨by omega, by omega⟩, ?_⟩
  · have := r3 z hz
    unfold badA actB at this
    simp at this
    exact this
  · rcases r2.2 with h | h
    · unfold emptyB at h
      rw [ByteArray.toList_eq, List.isEmpty_iff] at h
      have : r.ow.data.toList.length = 0 := by rw [h]; rfl
      rw [Array.length_toList] at this
      show r.ow.data.size ≤ 33
      omega
    · exact name_len h

theorem itoa_20 {n : Int} (h0 : 0 ≤ n) (h1 : n ≤ 24) : (Lib.itoa n).length ≤ 20 := itoa_len (by omega) (by omega)
theorem act_len (z : Int) : (actTx z).size ≤ 60 := by
  unfold actTx
  rw [List.getD_eq_getElem?_getD]
  cases h : actW[(z - 1).toNat]? with
  | none => show (⟨#[]⟩ : ByteArray).size ≤ 60; decide
  | some x =>
    have := List.mem_of_getElem? h
    exact (show ∀ x ∈ actW, x.size ≤ 60 by decide) x this
theorem ws_size {r : RuleR} (h : RuleV r) : ∀ x ∈ ruleWs r, x.size ≤ 60 := by
  intro x hx
  unfold ruleWs at hx
  simp only [List.mem_append] at hx
  rcases hx with ((((hx | hx) | hx) | hx) | hx) | hx
  · rw [List.mem_singleton] at hx
    subst hx
    unfold headW
    split
    · show wdDeny.size ≤ 60; decide
    · show wdAllow.size ≤ 60; decide
  · unfold roleWs at hx
    split at hx
    · cases hx
    · rcases List.mem_cons.1 hx with rfl | hx
      · show wdRole.size ≤ 60; decide
      · have := h.s1 x hx; omega
  · unfold actWs at hx
    split at hx
    · cases hx
    · rcases List.mem_cons.1 hx with rfl | hx
      · show wdAct.size ≤ 60; decide
      · obtain ⟨z, _, rfl⟩ := List.mem_map.1 hx
        exact act_len z
  · unfold labWs at hx
    split at hx
    · cases hx
    · rcases List.mem_cons.1 hx with rfl | hx
      · show wdOn.size ≤ 60; decide
      · have := h.s3 x hx; omega
  · unfold hourWs at hx
    split at hx
    · cases hx
    · rcases List.mem_cons.1 hx with rfl | hx
      · show wdAt.size ≤ 60; decide
      · rw [List.mem_singleton] at hx
        subst hx
        unfold hourTx
        rw [size_strOf]
        have h1 := itoa_20 h.f1.1 h.f1.2
        have h2 := itoa_20 h.t1.1 h.t1.2
        simp; omega
  · unfold needWs at hx
    split at hx
    · rcases List.mem_cons.1 hx with rfl | hx
      · show wdNeed.size ≤ 60; decide
      · rcases List.mem_cons.1 hx with rfl | hx
        · rw [size_strOf]
          have h1 := itoa_20 h.d1.1 (by have := h.d1.2; omega)
          omega
        · rw [List.mem_singleton] at hx
          subst hx
          have := h.o1
          omega
    · cases hx
theorem ws_len {r : RuleR} {W : World} (hr : r.Ok W) (h : RuleV r) : (ruleWs r).length ≤ 60 := by
  have l1 : (roleWs r).length ≤ 17 := by
    have := hr.rl; have := h.n1
    unfold roleWs
    split
    · simp
    · rw [List.length_cons]; omega
  have l2 : (actWs r).length ≤ 17 := by
    have := hr.al; have := h.n2
    unfold actWs
    split
    · simp
    · rw [List.length_cons, List.length_map]; omega
  have l3 : (labWs r).length ≤ 17 := by
    have := hr.ll; have := h.n3
    unfold labWs
    split
    · simp
    · rw [List.length_cons]; omega
  have l4 : (hourWs r).length ≤ 2 := by unfold hourWs; split <;> simp
  have l5 : (needWs r).length ≤ 3 := by unfold needWs; split <;> simp
  unfold ruleWs
  simp only [List.length_append, List.length_cons, List.length_nil]
  omega
theorem join_len (M : Nat) : ∀ xs : List (List UInt8), (∀ x ∈ xs, x.length ≤ M) → (Lib.join xs [32]).length ≤ xs.length * (M + 1)
  | [], _ => by simp [Lib.join]
  | [x], h => by
    have := h x (by simp)
    simp [Lib.join]; omega
  | x :: y :: r, h => by
    have h1 := h x (by simp)
    have h2 := join_len M (y :: r) (fun z hz => h z (List.mem_cons_of_mem _ hz))
    have e : Lib.join (x :: y :: r) [32] = x ++ [32] ++ Lib.join (y :: r) [32] := by simp [Lib.join]
    rw [e, List.length_append, List.length_append, List.length_cons (a := x), Nat.add_mul]
    simp only [List.length_cons, List.length_nil]
    simp only [List.length_cons] at h2
    omega
theorem ruleTx_len {r : RuleR} {W : World} (hr : r.Ok W) (h : RuleV r) : (ruleTx r).length ≤ 4000 := by
  have h1 := join_len 60 ((ruleWs r).map (·.data.toList)) (fun x hx => by
    obtain ⟨y, hy, rfl⟩ := List.mem_map.1 hx
    rw [Array.length_toList]
    exact ws_size h y hy)
  have h2 := ws_len hr h
  rw [List.length_map] at h1
  show (Lib.join _ _).length ≤ 4000
  have : (ruleWs r).length * (60 + 1) ≤ 60 * 61 := Nat.mul_le_mul_right _ h2
  omega
/-- the words that are made, in a row of their own -/
structure TxI (w : World) (G1 B : Nat) (r : RuleR) (ws : List ByteArray) (a : Option Addr) (c : Nat) (wx : World) : Prop where
  e : Ext w wx
  b1 : Blk wx G1 r.v 51
  own : wx.ownsRow B 9 1 (.slice a ws.length c) ws.length (ws.map encStr)
  sz : B ≤ wx.heap.size
variable {w wx wy : World} {G1 B : Nat} {r : RuleR} {ws news : List ByteArray} {a a' : Option Addr} {c c' : Nat}
theorem TxI.ext (h : TxI w G1 B r ws a c wx) (e : Ext wx wy) : TxI w G1 B r ws a c wy := ⟨h.e.ext e, h.b1.ext e, own_extP h.own e, Nat.le_trans h.sz e.size⟩
theorem TxI.more (h : TxI w G1 B r ws a c wx) (hwB : w.heap.size ≤ B) (hG : G1 < B) {m : Nat} (hm : news.length = m) (ho : wy.ownsRow B 9 1 (.slice a' (ws.length + m) c') (ws.length + m) (ws.map encStr ++ news.map encStr)) (g : wx.grownBy wy (Value.slice a ws.length c).ownBlock) :
    TxI w G1 B r (ws ++ news) a' c' wy := by
  have hge : ∀ q, (Value.slice a ws.length c).ownBlock = some q → B ≤ q := fun q hq => (h.own.lt q hq).1
  refine ⟨h.e.grown g (fun q hq => Nat.le_trans hwB (hge q hq)), h.b1.grown g (fun e => by have := hge _ e.symm; omega), ?_, Nat.le_trans h.sz g.size⟩
  rw [List.length_append, List.map_append, hm]
  exact ho

set_option maxRecDepth 100000 in
set_option maxHeartbeats 8000000 in
theorem ruleText_c (r : RuleR) (w : World) (hr : r.Ok w) (hv : ruleE r = 0) (hl : LibP w) :
    Calls Tryz.prog 60 #[.agg r.v.toArray] w fun e w' => e = .returned (.string (strOf (ruleTx r))) ∧ Ext w w' := by
  have HV := hid (ruleV_of hr hv)
  have HRO := hid hr
  have HL := hid hl
  have HT := hid elem_strP
  have hn1 := HV.out.n1
  have hn2 := HV.out.n2
  have hn3 := HV.out.n3
  clear hr hv hl
  go_enter Tryz.func60, Tryz.ntmps60
  go_upto_region 2 with (fail)
  generalize hwA : World.alloc (World.alloc w _) _ = wA
  have bA : Blk wA w.heap.size r.v 51 := by rw [← hwA]; exact (Blk.mk_alloc rfl rfl).alloc _
  have cA : Blk wA (w.heap.size + 1) [encStr (headW false)] 9 := by rw [← hwA]; exact Blk.mk_alloc (size_allocP _ _).symm rfl
  have eA : Ext w wA := by rw [← hwA]; exact ((Ext.refl w).alloc _).alloc _
  have BA := hid bA
  have CA := hid cA
  have EA := hid eA
  have k0 := bA.cell' (i := 0) rfl
  have k3 := cA.cell' (i := 0) rfl
  have f3 := cA.frozen 0
  clear hwA bA cA eA
  obtain ⟨d, hd⟩ : ∃ d, r.deny = d := ⟨_, rfl⟩
  have HD := hid hd
  rw [hd] at k0
  clear hd
  go_upto_if 8 with fail
  go_cut [] (fun wx => Ext w wx ∧ Blk wx w.heap.size r.v 51 ∧ Blk wx (w.heap.size + 1) [encStr (headW d)] 9)
  case first =>
    cases d with
    | false =>
      go_wp2_with fail
      go_meet
      exact ⟨EA.out, BA.out, CA.out⟩
    | true =>
      go_wp2_with fail
      go_meet
      exact ⟨EA.out.set _ (by simp), BA.out.set_other _ _ (by simp), CA.out.set 0 _⟩
  case rest =>
  obtain ⟨hE, hB1, hB2⟩ := hcut
  obtain ⟨u0, hwc⟩ : ∃ u0, wc = u0 := ⟨_, rfl⟩
  rw [hwc] at hE hB1 hB2 ⊢
  have hG := hB2.lt
  have hown : u0.ownsRow (w.heap.size + 1) 9 1 (.slice (some ⟨w.heap.size + 1, 0, none⟩) 1 1) 1 [encStr (headW d)] := own_mkP (rest := []) (by simpa using hB2) (by simp) rfl (Nat.le_refl _) (Nat.le_refl _) (by unfold maxLen; omega)
  obtain ⟨G1, hG1⟩ : ∃ G, w.heap.size = G := ⟨_, rfl⟩
  obtain ⟨B, hB⟩ : ∃ B, w.heap.size + 1 = B := ⟨_, rfl⟩
  have I0 : TxI w G1 B r [headW d] (some ⟨B, 0, none⟩) 1 u0 := by
    rw [← hG1, ← hB]
    exact ⟨hE, hB1, hown, by omega⟩
  have hwB : w.heap.size ≤ B := by omega
  have hGB : G1 < B := by omega
  rw [hB, hG1]
  clear hwc wc hE hB1 hB2 hG hown hG1 hB k0 k3 f3 BA CA EA
  have J0 := hid I0
  clear I0
  have kf := J0.out.b1.cell' (i := 1) (v := .slice r.ra r.rn r.rc) rfl
  go_upto_if 14 with fail
  go_cut [3] (fun v wx => ∃ a c, v = .slice a ([headW d] ++ roleWs r).length c ∧ TxI w G1 B r ([headW d] ++ roleWs r) a c wx)
  case first =>
    by_cases h0 : r.rn = 0
    · have hw0 : roleWs r = [] := by unfold roleWs; rw [if_pos (List.length_eq_zero_iff.1 (HRO.out.rl.trans h0))]
      have g1 : decide ((0 : Int) < (r.rn : Int)) = false := decide_eq_false (by omega)
      have g2 : decide (0 < r.rn) = false := decide_eq_false (by omega)
      have IF := hid (show TxI w G1 B r ([headW d] ++ roleWs r) _ _ _ by rw [hw0, List.append_nil]; exact J0.out)
      have HW0 := hid hw0
      clear hw0
      go_wp2_with fail
      go_meet
      exact ⟨_, _, by rw [HW0.out, List.append_nil] <;> rfl, IF.out⟩
    · have hne : r.roles ≠ [] := fun e => h0 (by rw [← HRO.out.rl, e]; rfl)
      have HW1 := hid (show roleWs r = wdRole :: r.roles by unfold roleWs; rw [if_neg hne])
      have g1 : decide ((0 : Int) < (r.rn : Int)) = true := decide_eq_true (by omega)
      have g2 : decide (0 < r.rn) = true := decide_eq_true (by omega)
      have g3 : 0 < r.rn := by omega
      have HRA := hid (show r.ra = none → r.rc = 0 from fun h => by
        obtain ⟨b, o, e, _⟩ := HRO.out.rcell.some_of (by rw [List.length_map, HRO.out.rl]; omega)
        rw [e] at h
        cases h)
      clear hne h0
      go_upto_region 5 with fail
      clear g1 g2 g3 kf
      obtain ⟨C, hC⟩ : ∃ C : World → Prop, C = fun w' => Ext w w' ∧ Blk w' G1 r.v 51 := ⟨_, rfl⟩
      have hC0 : ∀ w', C w' ↔ (Ext w w' ∧ Blk w' G1 r.v 51) := fun w' => by rw [hC]
      clear hC
      have HCC := hid hC0
      clear hC0
      have hCx : ∀ w w', C w → Ext w w' → C w' := fun w w' h1 h2 => (HCC.out w').2 ⟨((HCC.out w).1 h1).1.ext h2, ((HCC.out w).1 h1).2.ext h2⟩
      have hCA : C u0 := (HCC.out _).2 ⟨J0.out.e, J0.out.b1⟩
      refine wp_region_held_drew (S := C) (by kernel_rfl) (hCx _ _ hCA (Ext.refl _).drew) (fun hS0 => ?_)
      refine held_take 0 (v := ?tv12) rfl (by kernel_rfl) (by kernel_rfl) (by kernel_rfl) (fun _ _ _ h => h) (.inl ⟨rfl, ?ty12⟩) hS0 ?tr12
      case ty12 => (intro _ _; go_simp; try with_reducible rfl)
      case tr12 =>
      simp only [Act.put, List.setIfInBounds_toArray, List.set_cons_succ, List.set_cons_zero]
      refine held_take 3 (v := ?tv13) rfl (by kernel_rfl) (by kernel_rfl) (by kernel_rfl) (fun _ _ _ h => h) (.inl ⟨rfl, ?ty13⟩) hS0 ?tr13
      case ty13 => (intro _ _; go_simp; try with_reducible rfl)
      case tr13 =>
      simp only [Act.put, List.setIfInBounds_toArray, List.set_cons_succ, List.set_cons_zero]
      refine held_take 4 (v := ?tv14) rfl (by kernel_rfl) (by kernel_rfl) (by kernel_rfl) (fun _ _ _ h => h) (.inl ⟨rfl, ?ty14⟩) hS0 ?tr14
      case ty14 => (intro wq hwq; have hcq := (fun w1 h => ((HCC.out w1).1 h).2.cell' (i := 1) (v := .slice r.ra r.rn r.rc) rfl) wq hwq; go_simp; try with_reducible rfl)
      case tr14 =>
      simp only [Act.put, List.setIfInBounds_toArray, List.set_cons_succ, List.set_cons_zero]
      refine held_one (i := 1) (by kernel_rfl) rfl ?_
      intro Q' hQ
      go_wp2_with fail
      refine hQ _ _ (hCx _ _ hS0 ((Ext.refl _).alloc _)) ?_
      clear hQ Q'
      generalize hwB : World.drew (World.alloc u0 _) = v1
      have nB : Blk v1 u0.heap.size [encStr wdRole] 9 := by rw [← hwB]; exact (Blk.mk_alloc (w := u0) (vs := [encStr wdRole]) rfl rfl).drew
      have eB : Ext u0 v1 := by rw [← hwB]; exact ((Ext.refl u0).alloc _).drew
      have I1 := hid (J0.out.ext eB)
      have NB := hid nB
      have hS9 : C v1 := (HCC.out _).2 ⟨I1.out.e, I1.out.b1⟩
      clear hS0 hwB nB eB
      have hS0 := hS9
      clear hS9
      try dsimp only
      try simp only [Act.put, List.setIfInBounds_toArray, List.set_cons_succ, List.set_cons_zero]
      refine held_one (i := 2) (by kernel_rfl) rfl ?_
      intro Q' hQ
      go_wp2_with (at_builtin; refine wpl_appendA (n := [headW d].length) (m := 1) (c := 1) (xs := [headW d].map encStr) (news := [encStr wdRole]) HT.out rfl _ _ rfl B rfl rfl I1.out.own rfl (Nat.le_refl _) (fun h => by cases h) (Cells.of_blk0 NB.out) (fun u hu => by simp at hu; rw [hu]; rfl) (by first | omega | (simp; done) | (simp; omega)) (by first | omega | (simp; done) | (simp; omega)) I1.out.sz ?_)
      intro v2' v2 own2 g2 hn2
      obtain ⟨a2, c2, rfl, _, _, _⟩ := own_cellsA own2
      have OW2 := hid own2
      have I2 := hid (I1.out.more hwB hGB (news := [wdRole]) rfl own2 g2)
      have hS9 : C v2 := (HCC.out _).2 ⟨I2.out.e, I2.out.b1⟩
      clear own2 g2 hn2
      go_wp2_with fail
      refine hQ _ _ hS9 ?_
      clear hQ Q' hS0
      have hS0 := hS9
      clear hS9
      try dsimp only
      try simp only [Act.put, List.setIfInBounds_toArray, List.set_cons_succ, List.set_cons_zero]
      refine held_one (i := 5) (by kernel_rfl) rfl ?_
      intro Q' hQ
      go_wp2_with (at_builtin; refine wpl_appendA (n := [headW d].length + 1) (m := r.rn) (c := r.rc) (xs := [headW d].map encStr ++ [encStr wdRole]) (news := r.roles.map encStr) HT.out rfl _ _ rfl B rfl rfl OW2.out (by rw [List.length_map, Nat.mul_one]; exact HRO.out.rl) HRO.out.rnc HRA.out (HRO.out.rcell.ext I2.out.e) (fun u hu => by obtain ⟨s, _, rfl⟩ := List.mem_map.1 hu; rfl) (by first | omega | (simp; done) | (simp; omega)) (by first | omega | (simp; done) | (simp; omega)) I2.out.sz ?_)
      intro v3' v3 own3 g3 hn3
      obtain ⟨a3, c3, rfl, _, _, _⟩ := own_cellsA own3
      have hl2 : ([headW d] ++ [wdRole]).length = [headW d].length + 1 := by simp
      have I3 : TxI w G1 B r (([headW d] ++ [wdRole]) ++ r.roles) a3 c3 v3 := I2.out.more hwB hGB (news := r.roles) HRO.out.rl (by rw [hl2, List.map_append]; first | exact own3 | simpa using own3) (by rw [hl2]; exact g3)
      have I4 := hid I3
      have hS9 : C v3 := (HCC.out _).2 ⟨I3.e, I3.b1⟩
      clear own3 g3 hn3 I3 hl2
      go_wp2_with fail
      refine hQ _ _ hS9 ?_
      clear hQ Q' hS0
      have hS0 := hS9
      clear hS9
      try dsimp only
      try simp only [Act.put, List.setIfInBounds_toArray, List.set_cons_succ, List.set_cons_zero]
      refine held_take 6 (v := ?tv15) rfl (by kernel_rfl) (by kernel_rfl) (by kernel_rfl) (fun _ _ _ h => h) (.inl ⟨rfl, ?ty15⟩) hS0 ?tr15
      case ty15 => (intro _ _; go_simp; try with_reducible rfl)
      case tr15 =>
      simp only [Act.put, List.setIfInBounds_toArray, List.set_cons_succ, List.set_cons_zero]
      refine wpAnyH_done (by kernel_rfl) ?_ _
      clear hS0 hCx hCA HCC I1 I2 OW2 NB
      go_wp2_with fail
      go_meet
      refine ⟨a3, c3, ?_, ?_⟩
      · refine congrArg (fun n => Value.slice a3 n c3) ?_
        rw [HW1.out]
        have hlm := HRO.out.rl
        simp only [List.length_append, List.length_cons, List.length_nil]
        omega
      · rw [HW1.out, show [headW d] ++ wdRole :: r.roles = ([headW d] ++ [wdRole]) ++ r.roles by simp]
        exact I4.out
  case rest =>
  obtain ⟨a1, c1, rfl, hI1⟩ := hcut
  obtain ⟨P1, hP1⟩ : ∃ P, [headW d] ++ roleWs r = P := ⟨_, rfl⟩
  have HP1 := hid hP1
  rw [hP1] at hI1 ⊢
  have hL1 : P1.length ≤ 18 := by
    rw [← hP1, List.length_append]
    have : (roleWs r).length ≤ 17 := by
      unfold roleWs
      split
      · simp
      · rw [List.length_cons, HRO.out.rl]; omega
    first | omega | (simp; done) | (simp; omega)
  obtain ⟨u1, hwc⟩ : ∃ u, wc = u := ⟨_, rfl⟩
  have J1 := hid hI1
  rw [hwc] at J1 ⊢
  clear hwc wc hI1 hP1 J0 kf
  have kf := J1.out.b1.cell' (i := 2) (v := .slice r.aa r.an r.ac) rfl
  go_wp2_with fail
  go_loopw [3, 24] (fun v i wr => ∃ (k : Nat) (a : Option Addr) (c : Nat), k ≤ r.an ∧ i = .int .i64 (k : Int) ∧ v = .slice a (P1 ++ (if k = 0 then [] else wdAct :: (r.acts.take k).map actTx)).length c ∧ TxI w G1 B r (P1 ++ (if k = 0 then [] else wdAct :: (r.acts.take k).map actTx)) a c wr) (fun _ i _ => r.an - (intOf i).toNat)
  case atStart => exact ⟨0, a1, c1, by omega, rfl, by rw [if_pos rfl, List.append_nil], by rw [if_pos rfl, List.append_nil]; exact J1.out⟩
  case round =>
    obtain ⟨k, a, c, hk, rfl, rfl, hI⟩ := hrel
    have P := hid hI
    clear hI J1 kf
    by_cases hlt : k < r.an
    · have d1 : decide ((k : Int) < (r.an : Int)) = true := decide_eq_true (by omega)
      have d2 : decide (k < r.an) = true := decide_eq_true hlt
      obtain ⟨z, hz⟩ : ∃ z, r.acts[k]? = some z := ⟨r.acts[k]'(by rw [HRO.out.al]; exact hlt), by simp⟩
      have hza := HV.out.a1 z (List.mem_of_getElem? hz)
      obtain ⟨A, hA, hca⟩ : ∃ A, r.aa = some A ∧ wr.cell? (A.add k) = some (.int .i64 z) := by
        obtain ⟨g, o, e, h⟩ := (HRO.out.acell.ext P.out.e).some_of (by rw [List.length_map, HRO.out.al]; omega)
        exact ⟨_, e, by rw [addr_add]; exact h k _ (by rw [List.getElem?_map, hz]; rfl)⟩
      have htk : r.acts.take (k + 1) = r.acts.take k ++ [z] := by rw [List.take_add_one, hz]; rfl
      have HTK := hid htk
      obtain ⟨j, hj⟩ : ∃ j : Nat, z = (j : Int) + 1 := ⟨(z - 1).toNat, by omega⟩
      have hj12 : j < 12 := by omega
      obtain ⟨x, hx⟩ : ∃ x, actW[j]? = some x := ⟨actW[j]'(by show j < 12; omega), by simp⟩
      have HTX := hid (show actTx z = x by
        unfold actTx
        rw [hj, show ((j : Int) + 1 - 1).toNat = j by omega, List.getD_eq_getElem?_getD, hx]; rfl)
      have HX := hid hx
      obtain ⟨Q, hQ0⟩ : ∃ Q, P1 ++ wdAct :: (r.acts.take k).map actTx = Q := ⟨_, rfl⟩
      have HQ := hid hQ0
      have hQl : Q.length = P1.length + 1 + k := by
        rw [← hQ0, List.length_append, List.length_cons, List.length_map, List.length_take, HRO.out.al]
        omega
      have HQL := hid hQl
      clear hz htk hx hza hQ0 hQl
      rw [hA]
      go_upto_if 30 with fail
      go_cut [3] (fun v wx => ∃ a c, v = .slice a Q.length c ∧ TxI w G1 B r Q a c wx)
      case first =>
        by_cases h0 : k = 0
        · subst h0
          have P0 : Hid (TxI w G1 B r P1 a c wr) := hid (by have := P.out; rw [if_pos rfl, List.append_nil] at this; exact this)
          have HQ1 := hid (show Q = P1 ++ [wdAct] by rw [← HQ.out]; rfl)
          rw [if_pos rfl, List.append_nil]
          go_wp2_with (refine wpl_appendA (n := P1.length) (m := 1) (c := 1) (xs := P1.map encStr) (news := [encStr wdAct]) HT.out rfl _ _ rfl B rfl rfl (own_extP P0.out.own ((Ext.refl _).alloc _)) rfl (Nat.le_refl _) (fun h => by cases h) (Cells.of_blk0 (Blk.mk_alloc rfl rfl)) (fun u hu => by simp at hu; rw [hu]; rfl) (by omega) (by omega) (Nat.le_trans P0.out.sz (by rw [size_allocP]; omega)) ?_)
          intro v2' v2 own2 g2 hn2
          obtain ⟨a2, c2, rfl, _, _, _⟩ := own_cellsA own2
          have I2 := hid ((P0.out.ext ((Ext.refl _).alloc _)).more hwB hGB (news := [wdAct]) rfl own2 g2)
          clear own2 g2 hn2
          go_wp2_with fail
          go_meet
          exact ⟨a2, c2, by rw [HQ1.out, List.length_append]; rfl, by rw [HQ1.out]; exact I2.out⟩
        · have g1 : ((k : Int) == 0) = false := by simp; omega
          have g2 : decide ((k : Int) = 0) = false := decide_eq_false (by omega)
          have g3 : decide (k = 0) = false := decide_eq_false h0
          have P0 : Hid (TxI w G1 B r Q a c wr) := hid (by have := P.out; rw [if_neg h0, HQ.out] at this; exact this)
          rw [if_neg h0, HQ.out]
          go_wp2_with fail
          go_meet
          exact ⟨a, c, rfl, P0.out⟩
      case rest =>
      obtain ⟨aq, cq, rfl, hIQ⟩ := hcut
      obtain ⟨uq, hwc⟩ : ∃ u, wc = u := ⟨_, rfl⟩
      have JQ := hid hIQ
      rw [hwc] at JQ ⊢
      clear hwc wc hIQ P hca
      have w1' : IntKind.i64.wrap ((j : Int) + 1 - 1) = (j : Int) := by rw [Int.add_sub_cancel]; exact Go.wrap_small _ (by omega) (by omega)
      have w2' : IntKind.i64.wrap (j : Int) = (j : Int) := Go.wrap_small _ (by omega) (by omega)
      try rw [hj]
      go_wp2_with fail
      refine (actWordsP_c uq (HL.out.ext JQ.out.e).sp).mono ?_
      rintro e v1 ⟨rfl, hc1, e1⟩
      have JQ1 := hid (JQ.out.ext e1)
      have cj : v1.cell? ⟨uq.heap.size, j, none⟩ = some (.string x) := by
        obtain ⟨b, o, he, h⟩ := hc1.some_of (by decide)
        have e2 : b = uq.heap.size := by simp at he; exact he.1.symm
        have e3 : o = 0 := by simp at he; exact he.2.symm
        have := h j (.string x) (by rw [List.getElem?_map, HX.out]; rfl)
        rw [e2, e3, Nat.zero_add] at this
        exact this
      clear hc1 e1 JQ
      go_wp2_with (refine wpl_appendA (n := Q.length) (m := 1) (c := 1) (xs := Q.map encStr) (news := [.string x]) HT.out rfl _ _ rfl B rfl rfl (own_extP JQ1.out.own ((Ext.refl _).alloc _)) rfl (Nat.le_refl _) (fun h => by cases h) (Cells.of_blk0 (Blk.mk_alloc rfl rfl)) (fun u hu => by simp at hu; rw [hu]; rfl) (by have := HQL.out; omega) (by have := HQL.out; omega) (Nat.le_trans JQ1.out.sz (by rw [size_allocP]; omega)) ?_)
      intro v2' v2 own2 g2 hn2
      obtain ⟨a2, c2, rfl, _, _, _⟩ := own_cellsA own2
      have I2 := hid ((JQ1.out.ext ((Ext.refl _).alloc _)).more hwB hGB (news := [x]) rfl own2 g2)
      clear own2 g2 hn2 cj
      have HNX := hid (show P1 ++ (if k + 1 = 0 then [] else wdAct :: (r.acts.take (k + 1)).map actTx) = Q ++ [x] by
        rw [if_neg (by omega), HTK.out, List.map_append, ← HQ.out, List.map_cons, HTX.out]
        simp)
      go_wp2_with fail
      go_roundw
      case rel =>
        refine ⟨k + 1, a2, c2, by omega, by go_num, ?_, ?_⟩
        · rw [HNX.out, List.length_append]; rfl
        · rw [HNX.out]; exact I2.out
      case measure => simp [intOf]; omega
    · have hke : k = r.an := by omega
      have d1 : decide ((k : Int) < (r.an : Int)) = false := decide_eq_false (by omega)
      have d2 : decide (k < r.an) = false := decide_eq_false (by omega)
      have hw2 : (if k = 0 then [] else wdAct :: (r.acts.take k).map actTx) = actWs r := by
        unfold actWs
        have hal := HRO.out.al
        by_cases h0 : k = 0
        · rw [if_pos h0, if_pos (List.length_eq_zero_iff.1 (by omega))]
        · rw [if_neg h0, if_neg (fun e => h0 (by rw [e] at hal; simp at hal; omega)), List.take_of_length_le (by omega)]
      have J2 := P
      rw [hw2] at J2 ⊢
      have hal2 : (actWs r).length ≤ 17 := by
        have hal := HRO.out.al
        unfold actWs
        split
        · simp
        · rw [List.length_cons, List.length_map]; omega
      obtain ⟨P2, hP2⟩ : ∃ P, P1 ++ actWs r = P := ⟨_, rfl⟩
      have HP2 := hid hP2
      have hL2 : P2.length ≤ 35 := by rw [← hP2, List.length_append]; omega
      rw [hP2] at J2 ⊢
      obtain ⟨u2, hu2⟩ : ∃ u, wr = u := ⟨_, rfl⟩
      rw [hu2] at J2 ⊢
      clear hw2 hal2 hP2 P hke hk hlt hu2 wr
      go_upto_region 13 with fail
      clear d1 d2
      have kf := J2.out.b1.cell' (i := 3) (v := .slice r.la r.ln r.lc) rfl
      go_upto_if 46 with fail
      go_cut [3] (fun v wx => ∃ a c, v = .slice a (P2 ++ labWs r).length c ∧ TxI w G1 B r (P2 ++ labWs r) a c wx)
      case first =>
        by_cases h0 : r.ln = 0
        · have hw0 : labWs r = [] := by unfold labWs; rw [if_pos (List.length_eq_zero_iff.1 (HRO.out.ll.trans h0))]
          have g1 : decide ((0 : Int) < (r.ln : Int)) = false := decide_eq_false (by omega)
          have g2 : decide (0 < r.ln) = false := decide_eq_false (by omega)
          have IF := hid (show TxI w G1 B r (P2 ++ labWs r) _ _ _ by rw [hw0, List.append_nil]; exact J2.out)
          have HW0 := hid hw0
          clear hw0
          go_wp2_with fail
          go_meet
          exact ⟨_, _, by rw [HW0.out, List.append_nil] <;> rfl, IF.out⟩
        · have hne : r.labels ≠ [] := fun e => h0 (by rw [← HRO.out.ll, e]; rfl)
          have HW1 := hid (show labWs r = wdOn :: r.labels by unfold labWs; rw [if_neg hne])
          have g1 : decide ((0 : Int) < (r.ln : Int)) = true := decide_eq_true (by omega)
          have g2 : decide (0 < r.ln) = true := decide_eq_true (by omega)
          have g3 : 0 < r.ln := by omega
          have HRA := hid (show r.la = none → r.lc = 0 from fun h => by
            obtain ⟨b, o, e, _⟩ := HRO.out.lcell.some_of (by rw [List.length_map, HRO.out.ll]; omega)
            rw [e] at h
            cases h)
          clear hne h0
          go_upto_region 14 with fail
          clear g1 g2 g3 kf
          obtain ⟨C, hC⟩ : ∃ C : World → Prop, C = fun w' => Ext w w' ∧ Blk w' G1 r.v 51 := ⟨_, rfl⟩
          have hC0 : ∀ w', C w' ↔ (Ext w w' ∧ Blk w' G1 r.v 51) := fun w' => by rw [hC]
          clear hC
          have HCC := hid hC0
          clear hC0
          have hCx : ∀ w w', C w → Ext w w' → C w' := fun w w' h1 h2 => (HCC.out w').2 ⟨((HCC.out w).1 h1).1.ext h2, ((HCC.out w).1 h1).2.ext h2⟩
          have hCA : C u2 := (HCC.out _).2 ⟨J2.out.e, J2.out.b1⟩
          refine wp_region_held_drew (S := C) (by kernel_rfl) (hCx _ _ hCA (Ext.refl _).drew) (fun hS0 => ?_)
          refine held_take 0 (v := ?tv16) rfl (by kernel_rfl) (by kernel_rfl) (by kernel_rfl) (fun _ _ _ h => h) (.inl ⟨rfl, ?ty16⟩) hS0 ?tr16
          case ty16 => (intro _ _; go_simp; try with_reducible rfl)
          case tr16 =>
          simp only [Act.put, List.setIfInBounds_toArray, List.set_cons_succ, List.set_cons_zero]
          refine held_take 3 (v := ?tv17) rfl (by kernel_rfl) (by kernel_rfl) (by kernel_rfl) (fun _ _ _ h => h) (.inl ⟨rfl, ?ty17⟩) hS0 ?tr17
          case ty17 => (intro _ _; go_simp; try with_reducible rfl)
          case tr17 =>
          simp only [Act.put, List.setIfInBounds_toArray, List.set_cons_succ, List.set_cons_zero]
          refine held_take 4 (v := ?tv18) rfl (by kernel_rfl) (by kernel_rfl) (by kernel_rfl) (fun _ _ _ h => h) (.inl ⟨rfl, ?ty18⟩) hS0 ?tr18
          case ty18 => (intro wq hwq; have hcq := (fun w1 h => ((HCC.out w1).1 h).2.cell' (i := 3) (v := .slice r.la r.ln r.lc) rfl) wq hwq; go_simp; try with_reducible rfl)
          case tr18 =>
          simp only [Act.put, List.setIfInBounds_toArray, List.set_cons_succ, List.set_cons_zero]
          refine held_one (i := 1) (by kernel_rfl) rfl ?_
          intro Q' hQ
          go_wp2_with fail
          refine hQ _ _ (hCx _ _ hS0 ((Ext.refl _).alloc _)) ?_
          clear hQ Q'
          generalize hwB : World.drew (World.alloc u2 _) = v1
          have nB : Blk v1 u2.heap.size [encStr wdOn] 9 := by rw [← hwB]; exact (Blk.mk_alloc (w := u2) (vs := [encStr wdOn]) rfl rfl).drew
          have eB : Ext u2 v1 := by rw [← hwB]; exact ((Ext.refl u2).alloc _).drew
          have I1 := hid (J2.out.ext eB)
          have NB := hid nB
          have hS9 : C v1 := (HCC.out _).2 ⟨I1.out.e, I1.out.b1⟩
          clear hS0 hwB nB eB
          have hS0 := hS9
          clear hS9
          try dsimp only
          try simp only [Act.put, List.setIfInBounds_toArray, List.set_cons_succ, List.set_cons_zero]
          refine held_one (i := 2) (by kernel_rfl) rfl ?_
          intro Q' hQ
          go_wp2_with (at_builtin; refine wpl_appendA (n := P2.length) (m := 1) (c := 1) (xs := P2.map encStr) (news := [encStr wdOn]) HT.out rfl _ _ rfl B rfl rfl I1.out.own rfl (Nat.le_refl _) (fun h => by cases h) (Cells.of_blk0 NB.out) (fun u hu => by simp at hu; rw [hu]; rfl) (by first | omega | (simp; done) | (simp; omega)) (by first | omega | (simp; done) | (simp; omega)) I1.out.sz ?_)
          intro v2' v2 own2 g2 hn2
          obtain ⟨a2, c2, rfl, _, _, _⟩ := own_cellsA own2
          have OW2 := hid own2
          have I2 := hid (I1.out.more hwB hGB (news := [wdOn]) rfl own2 g2)
          have hS9 : C v2 := (HCC.out _).2 ⟨I2.out.e, I2.out.b1⟩
          clear own2 g2 hn2
          go_wp2_with fail
          refine hQ _ _ hS9 ?_
          clear hQ Q' hS0
          have hS0 := hS9
          clear hS9
          try dsimp only
          try simp only [Act.put, List.setIfInBounds_toArray, List.set_cons_succ, List.set_cons_zero]
          refine held_one (i := 5) (by kernel_rfl) rfl ?_
          intro Q' hQ
          go_wp2_with (at_builtin; refine wpl_appendA (n := P2.length + 1) (m := r.ln) (c := r.lc) (xs := P2.map encStr ++ [encStr wdOn]) (news := r.labels.map encStr) HT.out rfl _ _ rfl B rfl rfl OW2.out (by rw [List.length_map, Nat.mul_one]; exact HRO.out.ll) HRO.out.lnc HRA.out (HRO.out.lcell.ext I2.out.e) (fun u hu => by obtain ⟨s, _, rfl⟩ := List.mem_map.1 hu; rfl) (by first | omega | (simp; done) | (simp; omega)) (by first | omega | (simp; done) | (simp; omega)) I2.out.sz ?_)
          intro v3' v3 own3 g3 hn3
          obtain ⟨a3, c3, rfl, _, _, _⟩ := own_cellsA own3
          have hl2 : (P2 ++ [wdOn]).length = P2.length + 1 := by simp
          have I3 : TxI w G1 B r ((P2 ++ [wdOn]) ++ r.labels) a3 c3 v3 := I2.out.more hwB hGB (news := r.labels) HRO.out.ll (by rw [hl2, List.map_append]; first | exact own3 | simpa using own3) (by rw [hl2]; exact g3)
          have I4 := hid I3
          have hS9 : C v3 := (HCC.out _).2 ⟨I3.e, I3.b1⟩
          clear own3 g3 hn3 I3 hl2
          go_wp2_with fail
          refine hQ _ _ hS9 ?_
          clear hQ Q' hS0
          have hS0 := hS9
          clear hS9
          try dsimp only
          try simp only [Act.put, List.setIfInBounds_toArray, List.set_cons_succ, List.set_cons_zero]
          refine held_take 6 (v := ?tv19) rfl (by kernel_rfl) (by kernel_rfl) (by kernel_rfl) (fun _ _ _ h => h) (.inl ⟨rfl, ?ty19⟩) hS0 ?tr19
          case ty19 => (intro _ _; go_simp; try with_reducible rfl)
          case tr19 =>
          simp only [Act.put, List.setIfInBounds_toArray, List.set_cons_succ, List.set_cons_zero]
          refine wpAnyH_done (by kernel_rfl) ?_ _
          clear hS0 hCx hCA HCC I1 I2 OW2 NB
          go_wp2_with fail
          go_meet
          refine ⟨a3, c3, ?_, ?_⟩
          · refine congrArg (fun n => Value.slice a3 n c3) ?_
            rw [HW1.out]
            have hlm := HRO.out.ll
            simp only [List.length_append, List.length_cons, List.length_nil]
            omega
          · rw [HW1.out, show P2 ++ wdOn :: r.labels = (P2 ++ [wdOn]) ++ r.labels by simp]
            exact I4.out
      case rest =>
      obtain ⟨a3, c3, rfl, hI3⟩ := hcut
      obtain ⟨P3, hP3⟩ : ∃ P, P2 ++ labWs r = P := ⟨_, rfl⟩
      have HP3 := hid hP3
      rw [hP3] at hI3 ⊢
      have hL3 : P3.length ≤ 52 := by
        rw [← hP3, List.length_append]
        have : (labWs r).length ≤ 17 := by
          unfold labWs
          split
          · simp
          · rw [List.length_cons, HRO.out.ll]; omega
        first | omega | (simp; done) | (simp; omega)
      obtain ⟨u3, hwc⟩ : ∃ u, wc = u := ⟨_, rfl⟩
      have J3 := hid hI3
      rw [hwc] at J3 ⊢
      clear hwc wc hI3 hP3 J2 kf
      have kf := J3.out.b1.cell' (i := 4) (v := .int .i64 r.fr) rfl
      have kg := J3.out.b1.cell' (i := 5) (v := .int .i64 r.tt) rfl
      go_upto_if 57 with fail
      go_cut [3] (fun v wx => ∃ a c, v = .slice a (P3 ++ hourWs r).length c ∧ TxI w G1 B r (P3 ++ hourWs r) a c wx)
      case first =>
        by_cases h0 : r.fr = r.tt
        · have HW0 := hid (show hourWs r = [] by unfold hourWs; rw [if_pos h0])
          have g1 : (r.fr != r.tt) = false := by simp [h0]
          have g2 : decide (r.fr = r.tt) = true := decide_eq_true h0
          have IF := hid (show TxI w G1 B r (P3 ++ hourWs r) _ _ _ by rw [HW0.out, List.append_nil]; exact J3.out)
          go_wp2_with fail
          go_meet
          exact ⟨_, _, by rw [HW0.out, List.append_nil] <;> rfl, IF.out⟩
        · have HW1 := hid (show hourWs r = [wdAt, hourTx r.fr r.tt] by unfold hourWs; rw [if_neg h0])
          have g1 : (r.fr != r.tt) = true := by simp [h0]
          have g2 : decide (r.fr = r.tt) = false := decide_eq_false h0
          go_upto_region 16 with fail
          clear g1 g2 kf kg
          obtain ⟨C, hC⟩ : ∃ C : World → Prop, C = fun w' => Ext w w' ∧ Blk w' G1 r.v 51 := ⟨_, rfl⟩
          have hC0 : ∀ w', C w' ↔ (Ext w w' ∧ Blk w' G1 r.v 51) := fun w' => by rw [hC]
          clear hC
          have HCC := hid hC0
          clear hC0
          have hCx : ∀ w w', C w → Ext w w' → C w' := fun w w' h1 h2 => (HCC.out w').2 ⟨((HCC.out w).1 h1).1.ext h2, ((HCC.out w).1 h1).2.ext h2⟩
          have hCA : C u3 := (HCC.out _).2 ⟨J3.out.e, J3.out.b1⟩
          have hi1 := itoa_20 HV.out.f1.1 HV.out.f1.2
          have hi2 := itoa_20 HV.out.t1.1 HV.out.t1.2
          refine wp_region_held_drew (S := C) (by kernel_rfl) (hCx _ _ hCA (Ext.refl _).drew) (fun hS0 => ?_)
          refine held_take 0 (v := ?tv20) rfl (by kernel_rfl) (by kernel_rfl) (by kernel_rfl) (fun _ _ _ h => h) (.inl ⟨rfl, ?ty20⟩) hS0 ?tr20
          case ty20 => (intro _ _; go_simp; try with_reducible rfl)
          case tr20 =>
          simp only [Act.put, List.setIfInBounds_toArray, List.set_cons_succ, List.set_cons_zero]
          refine held_take 1 (v := ?tv21) rfl (by kernel_rfl) (by kernel_rfl) (by kernel_rfl) (fun _ _ _ h => h) (.inl ⟨rfl, ?ty21⟩) hS0 ?tr21
          case ty21 => (intro _ _; go_simp; try with_reducible rfl)
          case tr21 =>
          simp only [Act.put, List.setIfInBounds_toArray, List.set_cons_succ, List.set_cons_zero]
          refine held_take 5 (v := ?tv22) rfl (by kernel_rfl) (by kernel_rfl) (by kernel_rfl) (fun _ _ _ h => h) (.inl ⟨rfl, ?ty22⟩) hS0 ?tr22
          case ty22 => (intro _ _; go_simp; try with_reducible rfl)
          case tr22 =>
          simp only [Act.put, List.setIfInBounds_toArray, List.set_cons_succ, List.set_cons_zero]
          refine held_take 2 (v := ?tv23) rfl (by kernel_rfl) (by kernel_rfl) (by kernel_rfl) (fun _ _ _ h => h) (.inl ⟨rfl, ?ty23⟩) hS0 ?tr23
          case ty23 => (intro wq hwq; have hcq := (fun w1 h => ((HCC.out w1).1 h).2.cell' (i := 4) (v := .int .i64 r.fr) rfl) wq hwq; go_simp; try with_reducible rfl)
          case tr23 =>
          simp only [Act.put, List.setIfInBounds_toArray, List.set_cons_succ, List.set_cons_zero]
          refine held_take 6 (v := ?tv24) rfl (by kernel_rfl) (by kernel_rfl) (by kernel_rfl) (fun _ _ _ h => h) (.inl ⟨rfl, ?ty24⟩) hS0 ?tr24
          case ty24 => (intro wq hwq; have hcq := (fun w1 h => ((HCC.out w1).1 h).2.cell' (i := 5) (v := .int .i64 r.tt) rfl) wq hwq; go_simp; try with_reducible rfl)
          case tr24 =>
          simp only [Act.put, List.setIfInBounds_toArray, List.set_cons_succ, List.set_cons_zero]
          refine held_one (i := 3) (by kernel_rfl) rfl ?_
          intro Q' hQ
          go_wp2_with fail
          refine (itoa_c r.fr _ (by have := HV.out.f1; omega) (by have := HV.out.f1; omega) (HL.out.ext ((HCC.out _).1 hS0).1).lw.pw).mono ?_
          rintro e v1 ⟨rfl, e1⟩
          have I1 := hid (J3.out.ext (show Ext u3 v1 from ((Ext.refl u3).drew).ext e1))
          have hS9 := hCx _ _ hS0 e1
          go_wp2_with fail
          refine hQ _ _ hS9 ?_
          clear hQ Q' hS0 e1
          have hS0 := hS9
          clear hS9
          try dsimp only
          try simp only [Act.put, List.setIfInBounds_toArray, List.set_cons_succ, List.set_cons_zero]
          refine held_take 4 (v := _) rfl (by kernel_rfl) (by kernel_rfl) (by kernel_rfl) (fun _ _ _ h => h) ((yieldsI_run rfl (fun w1 _ => exec_catR (u := Lib.itoa r.fr) (v := [45]) rfl rfl rfl rfl (by simp; omega) w1))) hS0 ?_
          simp only [Act.put, List.setIfInBounds_toArray, List.set_cons_succ, List.set_cons_zero]
          refine held_one (i := 7) (by kernel_rfl) rfl ?_
          intro Q' hQ
          go_wp2_with fail
          refine (itoa_c r.tt _ (by have := HV.out.t1; omega) (by have := HV.out.t1; omega) (HL.out.ext ((HCC.out _).1 hS0).1).lw.pw).mono ?_
          rintro e v2 ⟨rfl, e1⟩
          have I2 := hid (I1.out.ext (show Ext v1 v2 from e1))
          have hS9 := hCx _ _ hS0 e1
          go_wp2_with fail
          refine hQ _ _ hS9 ?_
          clear hQ Q' hS0 e1
          have hS0 := hS9
          clear hS9
          try dsimp only
          try simp only [Act.put, List.setIfInBounds_toArray, List.set_cons_succ, List.set_cons_zero]
          refine held_take 8 (v := _) rfl (by kernel_rfl) (by kernel_rfl) (by kernel_rfl) (fun _ _ _ h => h) ((yieldsI_run rfl (fun w1 _ => exec_catR (u := Lib.itoa r.fr ++ [45]) (v := Lib.itoa r.tt) rfl rfl rfl rfl (by simp; omega) w1))) hS0 ?_
          simp only [Act.put, List.setIfInBounds_toArray, List.set_cons_succ, List.set_cons_zero]
          refine held_one (i := 9) (by kernel_rfl) rfl ?_
          intro Q' hQ
          go_wp2_with fail
          refine hQ _ _ (hCx _ _ hS0 ((Ext.refl _).alloc _)) ?_
          clear hQ Q'
          generalize hwB : World.alloc v2 _ = v3
          have nB : Blk v3 v2.heap.size [encStr wdAt, encStr (hourTx r.fr r.tt)] 9 := by rw [← hwB]; exact Blk.mk_alloc rfl rfl
          have eB : Ext v2 v3 := by rw [← hwB]; exact (Ext.refl v2).alloc _
          have I7 := hid (I2.out.ext eB)
          have NB := hid nB
          have hS9 : C v3 := (HCC.out _).2 ⟨I7.out.e, I7.out.b1⟩
          clear hS0 hwB nB eB
          have hS0 := hS9
          clear hS9
          try dsimp only
          try simp only [Act.put, List.setIfInBounds_toArray, List.set_cons_succ, List.set_cons_zero]
          refine held_one (i := 10) (by kernel_rfl) rfl ?_
          intro Q' hQ
          go_wp2_with (at_builtin; refine wpl_appendA (n := P3.length) (m := 2) (c := 2) (xs := P3.map encStr) (news := [encStr wdAt, encStr (hourTx r.fr r.tt)]) HT.out rfl _ _ rfl B rfl rfl I7.out.own rfl (Nat.le_refl _) (fun h => by cases h) (Cells.of_blk0 NB.out) (fun u hu => by simp only [List.mem_cons, List.not_mem_nil, or_false] at hu; rcases hu with rfl | rfl <;> rfl) (by omega) (by omega) I7.out.sz ?_)
          intro v9' v9 own9 g9 hn9
          obtain ⟨a9, c9, rfl, _, _, _⟩ := own_cellsA own9
          have I9 := hid (I7.out.more hwB hGB (news := [wdAt, hourTx r.fr r.tt]) rfl own9 g9)
          have hS9 : C v9 := (HCC.out _).2 ⟨I9.out.e, I9.out.b1⟩
          clear own9 g9 hn9
          go_wp2_with fail
          refine hQ _ _ hS9 ?_
          clear hQ Q' hS0
          have hS0 := hS9
          clear hS9
          try dsimp only
          try simp only [Act.put, List.setIfInBounds_toArray, List.set_cons_succ, List.set_cons_zero]
          refine held_take 11 (v := ?tv25) rfl (by kernel_rfl) (by kernel_rfl) (by kernel_rfl) (fun _ _ _ h => h) (.inl ⟨rfl, ?ty25⟩) hS0 ?tr25
          case ty25 => (intro _ _; go_simp; try with_reducible rfl)
          case tr25 =>
          simp only [Act.put, List.setIfInBounds_toArray, List.set_cons_succ, List.set_cons_zero]
          refine wpAnyH_done (by kernel_rfl) ?_ _
          clear hS0 hCx hCA HCC I7 NB
          go_wp2_with fail
          go_meet
          exact ⟨a9, c9, by rw [HW1.out, List.length_append]; rfl, by rw [HW1.out]; exact I9.out⟩
      case rest =>
      obtain ⟨a4, c4, rfl, hI4⟩ := hcut
      obtain ⟨P4, hP4⟩ : ∃ P, P3 ++ hourWs r = P := ⟨_, rfl⟩
      have HP4 := hid hP4
      rw [hP4] at hI4 ⊢
      have hL4 : P4.length ≤ 54 := by
        rw [← hP4, List.length_append]
        have : (hourWs r).length ≤ 2 := by unfold hourWs; split <;> simp
        omega
      obtain ⟨u4, hwc⟩ : ∃ u, wc = u := ⟨_, rfl⟩
      have J4 := hid hI4
      rw [hwc] at J4 ⊢
      clear hwc wc hI4 hP4 J3 kf kg
      have kf := J4.out.b1.cell' (i := 6) (v := .int .i64 r.nd) rfl
      have kg := J4.out.b1.cell' (i := 7) (v := .string r.ow) rfl
      go_upto_if 71 with fail
      go_cut [3] (fun v wx => ∃ a c, v = .slice a (P4 ++ needWs r).length c ∧ TxI w G1 B r (P4 ++ needWs r) a c wx)
      case first =>
        by_cases h0 : 0 < r.nd
        · have HW1 := hid (show needWs r = [wdNeed, strOf (Lib.itoa r.nd), r.ow] by unfold needWs; rw [if_pos h0])
          have g2 : decide (0 < r.nd) = true := decide_eq_true h0
          go_upto_region 18 with fail
          clear g2 kf kg
          obtain ⟨C, hC⟩ : ∃ C : World → Prop, C = fun w' => Ext w w' ∧ Blk w' G1 r.v 51 := ⟨_, rfl⟩
          have hC0 : ∀ w', C w' ↔ (Ext w w' ∧ Blk w' G1 r.v 51) := fun w' => by rw [hC]
          clear hC
          have HCC := hid hC0
          clear hC0
          have hCx : ∀ w w', C w → Ext w w' → C w' := fun w w' h1 h2 => (HCC.out w').2 ⟨((HCC.out w).1 h1).1.ext h2, ((HCC.out w).1 h1).2.ext h2⟩
          have hCA : C u4 := (HCC.out _).2 ⟨J4.out.e, J4.out.b1⟩
          refine wp_region_held_drew (S := C) (by kernel_rfl) (hCx _ _ hCA (Ext.refl _).drew) (fun hS0 => ?_)
          refine held_take 0 (v := ?tv26) rfl (by kernel_rfl) (by kernel_rfl) (by kernel_rfl) (fun _ _ _ h => h) (.inl ⟨rfl, ?ty26⟩) hS0 ?tr26
          case ty26 => (intro _ _; go_simp; try with_reducible rfl)
          case tr26 =>
          simp only [Act.put, List.setIfInBounds_toArray, List.set_cons_succ, List.set_cons_zero]
          refine held_take 1 (v := ?tv27) rfl (by kernel_rfl) (by kernel_rfl) (by kernel_rfl) (fun _ _ _ h => h) (.inl ⟨rfl, ?ty27⟩) hS0 ?tr27
          case ty27 => (intro _ _; go_simp; try with_reducible rfl)
          case tr27 =>
          simp only [Act.put, List.setIfInBounds_toArray, List.set_cons_succ, List.set_cons_zero]
          refine held_take 4 (v := ?tv28) rfl (by kernel_rfl) (by kernel_rfl) (by kernel_rfl) (fun _ _ _ h => h) (.inl ⟨rfl, ?ty28⟩) hS0 ?tr28
          case ty28 => (intro _ _; go_simp; try with_reducible rfl)
          case tr28 =>
          simp only [Act.put, List.setIfInBounds_toArray, List.set_cons_succ, List.set_cons_zero]
          refine held_take 2 (v := ?tv29) rfl (by kernel_rfl) (by kernel_rfl) (by kernel_rfl) (fun _ _ _ h => h) (.inl ⟨rfl, ?ty29⟩) hS0 ?tr29
          case ty29 => (intro wq hwq; have hcq := (fun w1 h => ((HCC.out w1).1 h).2.cell' (i := 6) (v := .int .i64 r.nd) rfl) wq hwq; go_simp; try with_reducible rfl)
          case tr29 =>
          simp only [Act.put, List.setIfInBounds_toArray, List.set_cons_succ, List.set_cons_zero]
          refine held_take 5 (v := ?tv30) rfl (by kernel_rfl) (by kernel_rfl) (by kernel_rfl) (fun _ _ _ h => h) (.inl ⟨rfl, ?ty30⟩) hS0 ?tr30
          case ty30 => (intro wq hwq; have hcq := (fun w1 h => ((HCC.out w1).1 h).2.cell' (i := 7) (v := .string r.ow) rfl) wq hwq; go_simp; try with_reducible rfl)
          case tr30 =>
          simp only [Act.put, List.setIfInBounds_toArray, List.set_cons_succ, List.set_cons_zero]
          refine held_one (i := 3) (by kernel_rfl) rfl ?_
          intro Q' hQ
          go_wp2_with fail
          refine (itoa_c r.nd _ (by have := HV.out.d1; omega) (by have := HV.out.d1; omega) (HL.out.ext ((HCC.out _).1 hS0).1).lw.pw).mono ?_
          rintro e v1 ⟨rfl, e1⟩
          have I1 := hid (J4.out.ext (show Ext u4 v1 from ((Ext.refl u4).drew).ext e1))
          have hS9 := hCx _ _ hS0 e1
          go_wp2_with fail
          refine hQ _ _ hS9 ?_
          clear hQ Q' hS0 e1
          have hS0 := hS9
          clear hS9
          try dsimp only
          try simp only [Act.put, List.setIfInBounds_toArray, List.set_cons_succ, List.set_cons_zero]
          refine held_one (i := 6) (by kernel_rfl) rfl ?_
          intro Q' hQ
          go_wp2_with fail
          refine hQ _ _ (hCx _ _ hS0 ((Ext.refl _).alloc _)) ?_
          clear hQ Q'
          generalize hwB : World.alloc v1 _ = v2
          have nB : Blk v2 v1.heap.size [encStr wdNeed, encStr (strOf (Lib.itoa r.nd)), encStr r.ow] 9 := by rw [← hwB]; exact Blk.mk_alloc rfl rfl
          have eB : Ext v1 v2 := by rw [← hwB]; exact (Ext.refl v1).alloc _
          have I7 := hid (I1.out.ext eB)
          have NB := hid nB
          have hS9 : C v2 := (HCC.out _).2 ⟨I7.out.e, I7.out.b1⟩
          clear hS0 hwB nB eB
          have hS0 := hS9
          clear hS9
          try dsimp only
          try simp only [Act.put, List.setIfInBounds_toArray, List.set_cons_succ, List.set_cons_zero]
          refine held_one (i := 7) (by kernel_rfl) rfl ?_
          intro Q' hQ
          go_wp2_with (at_builtin; refine wpl_appendA (n := P4.length) (m := 3) (c := 3) (xs := P4.map encStr) (news := [encStr wdNeed, encStr (strOf (Lib.itoa r.nd)), encStr r.ow]) HT.out rfl _ _ rfl B rfl rfl I7.out.own rfl (Nat.le_refl _) (fun h => by cases h) (Cells.of_blk0 NB.out) (fun u hu => by simp only [List.mem_cons, List.not_mem_nil, or_false] at hu; rcases hu with rfl | rfl | rfl <;> rfl) (by omega) (by omega) I7.out.sz ?_)
          intro v9' v9 own9 g9 hn9
          obtain ⟨a9, c9, rfl, _, _, _⟩ := own_cellsA own9
          have I9 := hid (I7.out.more hwB hGB (news := [wdNeed, strOf (Lib.itoa r.nd), r.ow]) rfl own9 g9)
          have hS9 : C v9 := (HCC.out _).2 ⟨I9.out.e, I9.out.b1⟩
          clear own9 g9 hn9
          go_wp2_with fail
          refine hQ _ _ hS9 ?_
          clear hQ Q' hS0
          have hS0 := hS9
          clear hS9
          try dsimp only
          try simp only [Act.put, List.setIfInBounds_toArray, List.set_cons_succ, List.set_cons_zero]
          refine held_take 8 (v := ?tv31) rfl (by kernel_rfl) (by kernel_rfl) (by kernel_rfl) (fun _ _ _ h => h) (.inl ⟨rfl, ?ty31⟩) hS0 ?tr31
          case ty31 => (intro _ _; go_simp; try with_reducible rfl)
          case tr31 =>
          simp only [Act.put, List.setIfInBounds_toArray, List.set_cons_succ, List.set_cons_zero]
          refine wpAnyH_done (by kernel_rfl) ?_ _
          clear hS0 hCx hCA HCC I7 NB
          go_wp2_with fail
          go_meet
          exact ⟨a9, c9, by rw [HW1.out, List.length_append]; rfl, by rw [HW1.out]; exact I9.out⟩
        · have HW0 := hid (show needWs r = [] by unfold needWs; rw [if_neg h0])
          have g2 : decide (0 < r.nd) = false := decide_eq_false h0
          have IF := hid (show TxI w G1 B r (P4 ++ needWs r) _ _ _ by rw [HW0.out, List.append_nil]; exact J4.out)
          go_wp2_with fail
          go_meet
          exact ⟨_, _, by rw [HW0.out, List.append_nil] <;> rfl, IF.out⟩
      case rest =>
      obtain ⟨a5, c5, rfl, hI5⟩ := hcut
      obtain ⟨P5, hP5⟩ : ∃ P, P4 ++ needWs r = P := ⟨_, rfl⟩
      have HP5 := hid hP5
      rw [hP5] at hI5 ⊢
      have hL5 : P5.length ≤ 57 := by
        rw [← hP5, List.length_append]
        have : (needWs r).length ≤ 3 := by unfold needWs; split <;> simp
        omega
      obtain ⟨u5, hwc⟩ : ∃ u, wc = u := ⟨_, rfl⟩
      have J5 := hid hI5
      rw [hwc] at J5 ⊢
      clear hwc wc hI5 hP5 J4 kf kg
      have hws : P5 = ruleWs r := by
        rw [← HP5.out, ← HP4.out, ← HP3.out, ← HP2.out, ← HP1.out, ← HD.out]
        rfl
      have hjl := ruleTx_len HRO.out HV.out
      obtain ⟨ad, cc, hsl, hnc, _, hcl⟩ := own_cellsA J5.out.own
      injection hsl with e1 e2 e3
      rw [e1, e3]
      have hjn := hid (fun w1 (h : Cells w1 ad (P5.map encStr)) => join_c ad P5.length cc P5 w1 rfl hnc (by rw [hws]; simp [ruleWs]) (by omega) h (by rw [hws]; exact Nat.le_trans hjl (by omega)))
      have HWS := hid hws
      clear hws hjl e1 e2 e3 hnc
      go_wp2_with fail
      refine (hjn.out u5 hcl).mono ?_
      rintro e v1 ⟨rfl, e1⟩
      have EF := hid (J5.out.e.ext e1)
      clear e1
      go_wp2_with fail
      go_ret
      exact ⟨by rw [HWS.out]; rfl, EF.out⟩
end

section
open Go Go.RowKit

set_option maxRecDepth 100000 in
set_option maxHeartbeats 1000000 in
theorem eqStrs_cP (ls : List ByteArray) (a b : Option Addr) (n c d : Nat) (w : World) (hl : ls.length = n) (hn : n ≤ 140737488355328) (ha : Cells w a (ls.map encStr)) (hb : Cells w b (ls.map encStr)) :
    Calls Tryz.prog 27 #[.slice a n c, .slice b n d] w fun e w' => e = .returned (.bool true) ∧ Ext w w' := by
  have HL := hid hl
  have HA := hid ha
  have HB := hid hb
  clear hl ha hb
  go_enter Tryz.func27, Tryz.ntmps27
  go_wp2_with fail
  go_loopw [13] (fun i wr => ∃ k : Nat, k ≤ n ∧ i = .int .i64 (k : Int) ∧ Ext w wr) (fun i _ => n - (intOf i).toNat)
  case atStart => exact ⟨0, by omega, rfl, Ext.refl _⟩
  case round =>
    obtain ⟨k, hk, rfl, e1⟩ := hrel
    have E1 := hid e1
    clear e1
    by_cases hlt : k < n
    · have d1 : decide ((k : Int) < (n : Int)) = true := decide_eq_true (by omega)
      have d2 : decide (k < n) = true := decide_eq_true hlt
      have HL2 := HL.out
      obtain ⟨x, hxk⟩ : ∃ x, ls[k]? = some x := ⟨ls[k]'(by omega), List.getElem?_eq_getElem _⟩
      obtain ⟨A, rfl, hca⟩ := strs_at HA.out hxk
      obtain ⟨A2, rfl, hcb⟩ := strs_at HB.out hxk
      have CA := hid (cell_extU hca E1.out)
      have CB := hid (cell_extU hcb E1.out)
      clear hca hcb hxk HL2
      go_upto_region 6 with (fail)
      obtain ⟨C, hC⟩ : ∃ C : World → Prop, C = fun w' => Ext wr w' := ⟨_, rfl⟩
      have hC0 : ∀ w', C w' ↔ Ext wr w' := fun w' => by rw [hC]
      clear hC
      have HCC := hid hC0
      clear hC0
      have hCx : ∀ w w', C w → Ext w w' → C w' := fun w w' h1 h2 => (HCC.out w').2 (((HCC.out w).1 h1).ext h2)
      refine wp_region_held_drew (S := C) (by kernel_rfl) ((HCC.out _).2 (Ext.refl wr).drew) (fun hS0 => ?_)
      refine held_take 0 (v := ?tv211) rfl (by kernel_rfl) (by kernel_rfl) (by kernel_rfl) (fun _ _ _ h => h) (.inl ⟨rfl, ?ty211⟩) hS0 ?tr211
      case ty211 => (intro _ _; go_simp; try with_reducible rfl)
      case tr211 =>
      simp only [Act.put, List.setIfInBounds_toArray, List.set_cons_succ, List.set_cons_zero]
      refine held_take 1 (v := ?tv212) rfl (by kernel_rfl) (by kernel_rfl) (by kernel_rfl) (fun _ _ _ h => h) (.inl ⟨rfl, ?ty212⟩) hS0 ?tr212
      case ty212 => (intro _ _; go_simp; try with_reducible rfl)
      case tr212 =>
      simp only [Act.put, List.setIfInBounds_toArray, List.set_cons_succ, List.set_cons_zero]
      refine held_take 2 (v := _) rfl (by kernel_rfl) (by kernel_rfl) (by kernel_rfl) (fun _ _ _ h => h) (yieldsI_run rfl (fun w1 _ => exec_index (i := k) rfl rfl rfl Tryz.underlying42 size_str hlt w1)) hS0 ?_
      simp only [Act.put, List.setIfInBounds_toArray, List.set_cons_succ, List.set_cons_zero]
      refine held_take 3 (v := _) rfl (by kernel_rfl) (by kernel_rfl) (by kernel_rfl) (fun _ _ _ h => h) (yieldsI_run rfl (fun w1 h => exec_load_oneU rfl rfl (cell_extU CA.out ((HCC.out w1).1 h)) one_str)) hS0 ?_
      simp only [Act.put, List.setIfInBounds_toArray, List.set_cons_succ, List.set_cons_zero]
      refine held_take 4 (v := ?tv213) rfl (by kernel_rfl) (by kernel_rfl) (by kernel_rfl) (fun _ _ _ h => h) (.inl ⟨rfl, ?ty213⟩) hS0 ?tr213
      case ty213 => (intro _ _; go_simp; try with_reducible rfl)
      case tr213 =>
      simp only [Act.put, List.setIfInBounds_toArray, List.set_cons_succ, List.set_cons_zero]
      refine held_take 5 (v := ?tv214) rfl (by kernel_rfl) (by kernel_rfl) (by kernel_rfl) (fun _ _ _ h => h) (.inl ⟨rfl, ?ty214⟩) hS0 ?tr214
      case ty214 => (intro _ _; go_simp; try with_reducible rfl)
      case tr214 =>
      simp only [Act.put, List.setIfInBounds_toArray, List.set_cons_succ, List.set_cons_zero]
      refine held_take 6 (v := _) rfl (by kernel_rfl) (by kernel_rfl) (by kernel_rfl) (fun _ _ _ h => h) (yieldsI_run rfl (fun w1 _ => exec_index (i := k) rfl rfl rfl Tryz.underlying42 size_str hlt w1)) hS0 ?_
      simp only [Act.put, List.setIfInBounds_toArray, List.set_cons_succ, List.set_cons_zero]
      refine held_take 7 (v := _) rfl (by kernel_rfl) (by kernel_rfl) (by kernel_rfl) (fun _ _ _ h => h) (yieldsI_run rfl (fun w1 h => exec_load_oneU rfl rfl (cell_extU CB.out ((HCC.out w1).1 h)) one_str)) hS0 ?_
      simp only [Act.put, List.setIfInBounds_toArray, List.set_cons_succ, List.set_cons_zero]
      refine held_take 8 (v := ?tv215) rfl (by kernel_rfl) (by kernel_rfl) (by kernel_rfl) (fun _ _ _ h => h) (.inl ⟨rfl, ?ty215⟩) hS0 ?tr215
      case ty215 => (intro _ _; go_simp; try with_reducible rfl)
      case tr215 =>
      simp only [Act.put, List.setIfInBounds_toArray, List.set_cons_succ, List.set_cons_zero]
      refine wpAnyH_done (by kernel_rfl) ?_ _
      have hqx := (HCC.out _).1 hS0
      go_wp2_with fail
      go_roundw
      case rel => exact ⟨k + 1, by omega, by go_num, E1.out.ext hqx⟩
      case measure => simp [intOf]; omega
    · have d1 : decide ((k : Int) < (n : Int)) = false := decide_eq_false (by omega)
      have d2 : decide (k < n) = false := decide_eq_false hlt
      go_wp2_with fail
      go_ret
      exact ⟨rfl, E1.out⟩

theorem ints_atP {w : World} {a : Option Addr} {ls : List Int} {k : Nat} {x : Int} (h : Cells w a (ls.map encI)) (hx : ls[k]? = some x) : ∃ A, a = some A ∧ w.cell? (A.add (k * 1)) = some (.int .i64 x) := by
  obtain ⟨g, o, rfl, h2⟩ := h.some_of (by rw [List.length_map]; have := (List.getElem?_eq_some_iff.1 hx).1; omega)
  refine ⟨_, rfl, ?_⟩
  rw [addr_add, Nat.mul_one]
  exact h2 k _ (by rw [List.getElem?_map, hx]; rfl)
theorem size_intP : (Tryz.prog.info? 3).map (·.size) = some 1 := by kernel_rfl
set_option maxRecDepth 100000 in
set_option maxHeartbeats 1000000 in
theorem eqInts_cP (ls : List Int) (a b : Option Addr) (n c d : Nat) (w : World) (hl : ls.length = n) (hn : n ≤ 140737488355328) (ha : Cells w a (ls.map encI)) (hb : Cells w b (ls.map encI)) :
    Calls Tryz.prog 28 #[.slice a n c, .slice b n d] w fun e w' => e = .returned (.bool true) ∧ Ext w w' := by
  have HL := hid hl
  have HA := hid ha
  have HB := hid hb
  clear hl ha hb
  go_enter Tryz.func28, Tryz.ntmps28
  go_wp2_with fail
  go_loopw [13] (fun i wr => ∃ k : Nat, k ≤ n ∧ i = .int .i64 (k : Int) ∧ Ext w wr) (fun i _ => n - (intOf i).toNat)
  case atStart => exact ⟨0, by omega, rfl, Ext.refl _⟩
  case round =>
    obtain ⟨k, hk, rfl, e1⟩ := hrel
    have E1 := hid e1
    clear e1
    by_cases hlt : k < n
    · have d1 : decide ((k : Int) < (n : Int)) = true := decide_eq_true (by omega)
      have d2 : decide (k < n) = true := decide_eq_true hlt
      have HL2 := HL.out
      obtain ⟨x, hxk⟩ : ∃ x, ls[k]? = some x := ⟨ls[k]'(by omega), List.getElem?_eq_getElem _⟩
      obtain ⟨A, rfl, hca⟩ := ints_atP HA.out hxk
      obtain ⟨A2, rfl, hcb⟩ := ints_atP HB.out hxk
      have CA := hid (cell_extU hca E1.out)
      have CB := hid (cell_extU hcb E1.out)
      clear hca hcb hxk HL2
      go_upto_region 6 with (fail)
      obtain ⟨C, hC⟩ : ∃ C : World → Prop, C = fun w' => Ext wr w' := ⟨_, rfl⟩
      have hC0 : ∀ w', C w' ↔ Ext wr w' := fun w' => by rw [hC]
      clear hC
      have HCC := hid hC0
      clear hC0
      have hCx : ∀ w w', C w → Ext w w' → C w' := fun w w' h1 h2 => (HCC.out w').2 (((HCC.out w).1 h1).ext h2)
      refine wp_region_held_drew (S := C) (by kernel_rfl) ((HCC.out _).2 (Ext.refl wr).drew) (fun hS0 => ?_)
      refine held_take 0 (v := ?tv211) rfl (by kernel_rfl) (by kernel_rfl) (by kernel_rfl) (fun _ _ _ h => h) (.inl ⟨rfl, ?ty211⟩) hS0 ?tr211
      case ty211 => (intro _ _; go_simp; try with_reducible rfl)
      case tr211 =>
      simp only [Act.put, List.setIfInBounds_toArray, List.set_cons_succ, List.set_cons_zero]
      refine held_take 1 (v := ?tv212) rfl (by kernel_rfl) (by kernel_rfl) (by kernel_rfl) (fun _ _ _ h => h) (.inl ⟨rfl, ?ty212⟩) hS0 ?tr212
      case ty212 => (intro _ _; go_simp; try with_reducible rfl)
      case tr212 =>
      simp only [Act.put, List.setIfInBounds_toArray, List.set_cons_succ, List.set_cons_zero]
      refine held_take 2 (v := _) rfl (by kernel_rfl) (by kernel_rfl) (by kernel_rfl) (fun _ _ _ h => h) (yieldsI_run rfl (fun w1 _ => exec_index (i := k) rfl rfl rfl Tryz.underlying49 size_intP hlt w1)) hS0 ?_
      simp only [Act.put, List.setIfInBounds_toArray, List.set_cons_succ, List.set_cons_zero]
      refine held_take 3 (v := _) rfl (by kernel_rfl) (by kernel_rfl) (by kernel_rfl) (fun _ _ _ h => h) (yieldsI_run rfl (fun w1 h => exec_load_oneU rfl rfl (cell_extU CA.out ((HCC.out w1).1 h)) one_tI)) hS0 ?_
      simp only [Act.put, List.setIfInBounds_toArray, List.set_cons_succ, List.set_cons_zero]
      refine held_take 4 (v := ?tv213) rfl (by kernel_rfl) (by kernel_rfl) (by kernel_rfl) (fun _ _ _ h => h) (.inl ⟨rfl, ?ty213⟩) hS0 ?tr213
      case ty213 => (intro _ _; go_simp; try with_reducible rfl)
      case tr213 =>
      simp only [Act.put, List.setIfInBounds_toArray, List.set_cons_succ, List.set_cons_zero]
      refine held_take 5 (v := ?tv214) rfl (by kernel_rfl) (by kernel_rfl) (by kernel_rfl) (fun _ _ _ h => h) (.inl ⟨rfl, ?ty214⟩) hS0 ?tr214
      case ty214 => (intro _ _; go_simp; try with_reducible rfl)
      case tr214 =>
      simp only [Act.put, List.setIfInBounds_toArray, List.set_cons_succ, List.set_cons_zero]
      refine held_take 6 (v := _) rfl (by kernel_rfl) (by kernel_rfl) (by kernel_rfl) (fun _ _ _ h => h) (yieldsI_run rfl (fun w1 _ => exec_index (i := k) rfl rfl rfl Tryz.underlying49 size_intP hlt w1)) hS0 ?_
      simp only [Act.put, List.setIfInBounds_toArray, List.set_cons_succ, List.set_cons_zero]
      refine held_take 7 (v := _) rfl (by kernel_rfl) (by kernel_rfl) (by kernel_rfl) (fun _ _ _ h => h) (yieldsI_run rfl (fun w1 h => exec_load_oneU rfl rfl (cell_extU CB.out ((HCC.out w1).1 h)) one_tI)) hS0 ?_
      simp only [Act.put, List.setIfInBounds_toArray, List.set_cons_succ, List.set_cons_zero]
      refine held_take 8 (v := ?tv215) rfl (by kernel_rfl) (by kernel_rfl) (by kernel_rfl) (fun _ _ _ h => h) (.inl ⟨rfl, ?ty215⟩) hS0 ?tr215
      case ty215 => (intro _ _; go_simp; try with_reducible rfl)
      case tr215 =>
      simp only [Act.put, List.setIfInBounds_toArray, List.set_cons_succ, List.set_cons_zero]
      refine wpAnyH_done (by kernel_rfl) ?_ _
      have hqx := (HCC.out _).1 hS0
      go_wp2_with fail
      go_roundw
      case rel => exact ⟨k + 1, by omega, by go_num, E1.out.ext hqx⟩
      case measure => simp [intOf]; omega
    · have d1 : decide ((k : Int) < (n : Int)) = false := decide_eq_false (by omega)
      have d2 : decide (k < n) = false := decide_eq_false hlt
      go_wp2_with fail
      go_ret
      exact ⟨rfl, E1.out⟩

theorem bare_eqs {x y : RuleR} (h : x.bare = y.bare) : x.roles = y.roles ∧ x.acts = y.acts ∧ x.labels = y.labels ∧ x.deny = y.deny ∧ x.fr = y.fr ∧ x.tt = y.tt ∧ x.nd = y.nd ∧ x.ow = y.ow ∧ x.rn = y.rn ∧ x.an = y.an ∧ x.ln = y.ln := by
  unfold RuleR.bare at h
  simp only [RuleR.mk.injEq] at h
  obtain ⟨h1, h2, h3, h4, h5, h6, h7, h8, h9, h10, h11, h12, h13, h14, h15, h16, h17⟩ := h
  exact ⟨h5, h9, h13, h1, h14, h15, h16, h17, h3, h7, h11⟩
set_option maxRecDepth 100000 in
set_option maxHeartbeats 2000000 in
theorem sameRuleP_c (x y : RuleR) (w : World) (hx : x.Ok w) (hy : y.Ok w) (hq : x.bare = y.bare) :
    Calls Tryz.prog 26 #[.agg x.v.toArray, .agg y.v.toArray] w fun e w' => e = .returned (.bool true) ∧ Ext w w' := by
  obtain ⟨q1, q2, q3, q4, q5, q6, q7, q8, q9, q10, q11⟩ := bare_eqs hq
  have HX := hid hx
  have hy1 := hy.rcell
  have hy2 := hy.acell
  have hy3 := hy.lcell
  rw [← q1] at hy1
  rw [← q2] at hy2
  rw [← q3] at hy3
  have HY1 := hid hy1
  have HY2 := hid hy2
  have HY3 := hid hy3
  have hm1 := hx.rm
  have hm2 := hx.am
  have hm3 := hx.lm
  have Q4 := hid q4
  have Q5 := hid q5
  have Q6 := hid q6
  have Q7 := hid q7
  have Q8 := hid q8
  have Q9 := hid q9
  have Q10 := hid q10
  have Q11 := hid q11
  clear hx hy hy1 hy2 hy3 q1 q2 q3 hq q4 q5 q6 q7 q8 q9 q10 q11
  go_enter Tryz.func26, Tryz.ntmps26
  go_upto_region 1 with (fail)
  generalize hwA : World.alloc (World.alloc w _) _ = wA
  have bX : Blk wA w.heap.size x.v 51 := by rw [← hwA]; exact (Blk.mk_alloc rfl rfl).alloc _
  have bY : Blk wA (w.heap.size + 1) y.v 51 := by rw [← hwA]; exact Blk.mk_alloc (size_allocP _ _).symm rfl
  have eA : Ext w wA := by rw [← hwA]; exact ((Ext.refl w).alloc _).alloc _
  have BX := hid bX
  have BY := hid bY
  have EA := hid eA
  have x0 := bX.cell' (i := 0) rfl
  have y0 := bY.cell' (i := 0) (v := .bool x.deny) (by rw [Q4.out]; rfl)
  have x1 := bX.cell' (i := 1) rfl
  have y1 := bY.cell' (i := 1) (v := .slice y.ra x.rn y.rc) (by rw [Q9.out]; rfl)
  clear hwA bX bY eA
  go_wp2_with fail
  refine (eqStrs_cP x.roles x.ra y.ra x.rn x.rc y.rc wA HX.out.rl (by omega) (HX.out.rcell.ext EA.out) (HY1.out.ext EA.out)).mono ?_
  rintro e wB ⟨rfl, eB⟩
  have EB := hid (EA.out.ext eB)
  have BX2 := hid (BX.out.ext eB)
  have BY2 := hid (BY.out.ext eB)
  have x2 := BX2.out.cell' (i := 2) rfl
  have y2 := BY2.out.cell' (i := 2) (v := .slice y.aa x.an y.ac) (by rw [Q10.out]; rfl)
  clear eB BX BY EA x0 y0 x1 y1
  go_wp2_with fail
  refine (eqInts_cP x.acts x.aa y.aa x.an x.ac y.ac wB HX.out.al (by omega) (HX.out.acell.ext EB.out) (HY2.out.ext EB.out)).mono ?_
  rintro e wC ⟨rfl, eC⟩
  have EC := hid (EB.out.ext eC)
  have BX3 := hid (BX2.out.ext eC)
  have BY3 := hid (BY2.out.ext eC)
  have x3 := BX3.out.cell' (i := 3) rfl
  have y3 := BY3.out.cell' (i := 3) (v := .slice y.la x.ln y.lc) (by rw [Q11.out]; rfl)
  clear eC BX2 BY2 EB x2 y2
  go_wp2_with fail
  refine (eqStrs_cP x.labels x.la y.la x.ln x.lc y.lc wC HX.out.ll (by omega) (HX.out.lcell.ext EC.out) (HY3.out.ext EC.out)).mono ?_
  rintro e wD ⟨rfl, eD⟩
  have ED := hid (EC.out.ext eD)
  have bX := BX3.out.ext eD
  have bY := BY3.out.ext eD
  have x4 := bX.cell' (i := 4) rfl
  have y4 := bY.cell' (i := 4) (v := .int .i64 x.fr) (by rw [Q5.out]; rfl)
  have x5 := bX.cell' (i := 5) rfl
  have y5 := bY.cell' (i := 5) (v := .int .i64 x.tt) (by rw [Q6.out]; rfl)
  have x6 := bX.cell' (i := 6) rfl
  have y6 := bY.cell' (i := 6) (v := .int .i64 x.nd) (by rw [Q7.out]; rfl)
  have x7 := bX.cell' (i := 7) rfl
  have y7 := bY.cell' (i := 7) (v := .string x.ow) (by rw [Q8.out]; rfl)
  clear eD bX bY BX3 BY3 EC x3 y3
  go_wp2_with fail
  go_ret
  exact ⟨rfl, ED.out⟩

set_option maxRecDepth 100000 in
set_option maxHeartbeats 2000000 in
theorem eqRulesP_c (xs ys : List RuleR) (a b : Option Addr) (n c d : Nat) (w : World) (hx : PolOk w a n c xs) (hy : PolOk w b n d ys) (hp : xs.map RuleR.bare = ys.map RuleR.bare) :
    Calls Tryz.prog 25 #[.slice a n c, .slice b n d, .func (.func 26) #[] #[]] w fun e w' => e = .returned (.bool true) ∧ Ext w w' := by
  have HX := hid hx
  have HY := hid hy
  have HP := hid hp
  have hn := hx.hm
  have HAG := hid agg_rule
  clear hx hy hp
  go_enter Tryz.func25, Tryz.ntmps25
  go_wp2
  go_loopw [17] (fun i wr => ∃ k : Nat, k ≤ n ∧ i = .int .i64 (k : Int) ∧ Ext w wr) (fun i _ => n - (intOf i).toNat)
  case atStart => exact ⟨0, by omega, rfl, Ext.refl _⟩
  case round =>
    obtain ⟨k, hk, rfl, e1⟩ := hrel
    have E1 := hid e1
    clear e1
    by_cases hlt : k < n
    · obtain ⟨x, hxk⟩ : ∃ x, xs[k]? = some x := ⟨xs[k]'(by rw [HX.out.hl]; exact hlt), by simp⟩
      obtain ⟨y, hyk⟩ : ∃ y, ys[k]? = some y := ⟨ys[k]'(by rw [HY.out.hl]; exact hlt), by simp⟩
      have hxy : x.bare = y.bare := by
        have := congrArg (fun l => l[k]?) HP.out
        simp only [List.getElem?_map, hxk, hyk, Option.map_some] at this
        injection this
      obtain ⟨A, rfl, hca⟩ := (HX.out.ext E1.out).at hxk
      obtain ⟨A2, rfl, hcb⟩ := (HY.out.ext E1.out).at hyk
      have HCA := hid hca
      have HCB := hid hcb
      have HXO := hid ((HX.out.ext E1.out).ok x (List.mem_of_getElem? hxk))
      have HYO := hid ((HY.out.ext E1.out).ok y (List.mem_of_getElem? hyk))
      have HXL := hid (RuleR.len x)
      have HYL := hid (RuleR.len y)
      have HXY := hid hxy
      have o1 := ruleV_one x
      have o2 := ruleV_one y
      clear hca hcb hxk hyk hxy
      go_wp2_with (first | (refine wpl_run rfl (exec_index (i := k) rfl rfl rfl Tryz.underlying23 size_rule hlt _) ?_) | (refine wpl_run rfl (exec_load_at rfl rfl HCA.out HAG.out HXL.out) ?_) | (refine wpl_storew rfl _ (.tmp 8) _ rfl rfl rfl (Blk.mk_alloc (vs := zeroRule) rfl rfl) HAG.out rfl HXL.out o1 ?_))
      intro wB bB uB
      have eB : Ext wr wB := uB.ext ((Ext.refl wr).alloc _) (Nat.le_refl _)
      have BB := hid bB
      have EB := hid (E1.out.ext eB)
      have HCB2 := hid (HCB.out.ext eB)
      have E12 := hid eB
      have hgl := bB.lt
      clear bB uB eB HCA HCB E1
      generalize wr.heap.size = gr at *
      go_wp2_with (first | (refine wpl_run rfl (exec_index (i := k) rfl rfl rfl Tryz.underlying23 size_rule hlt _) ?_) | (refine wpl_run rfl (exec_load_at rfl rfl HCB2.out HAG.out HYL.out) ?_) | (refine wpl_storew rfl _ (.tmp 9) _ rfl rfl rfl (Blk.mk_alloc (vs := zeroRule) rfl rfl) HAG.out rfl HYL.out o2 ?_))
      intro wC bC uC
      have eC : Ext wB wC := uC.ext ((Ext.refl wB).alloc _) (Nat.le_refl _)
      have CC := hid bC
      have BC := hid (BB.out.ext eC)
      have EC := hid (EB.out.ext eC)
      have HXC := hid ((HXO.out.ext E12.out).ext eC)
      have HYC := hid ((HYO.out.ext E12.out).ext eC)
      clear bC uC eC HCB2 EB BB E12 HXO HYO
      generalize wB.heap.size = gc at *
      go_wp2_with (first | (refine wpl_loadw rfl 51 (.tmp 8) rfl rfl BC.out HAG.out HXL.out ?_) | (refine wpl_loadw rfl 51 (.tmp 9) rfl rfl CC.out HAG.out HYL.out ?_))
      refine (sameRuleP_c x y wC HXC.out HYC.out HXY.out).mono ?_
      rintro e wD ⟨rfl, eD⟩
      have ED := hid (EC.out.ext eD)
      clear eD EC BC CC HXC HYC
      go_wp2
      go_roundw
      case rel => exact ⟨k + 1, by omega, by go_num, ED.out⟩
      case measure => simp [intOf]; omega
    · obtain rfl : k = n := by omega
      go_wp2
      go_ret
      exact ⟨rfl, E1.out⟩
set_option maxRecDepth 100000 in
set_option maxHeartbeats 1000000 in
theorem samePolP_c (pa : Option Addr) (pn pc : Nat) (rs : List RuleR) (qa : Option Addr) (qc : Nat) (qs : List RuleR) (w : World) (hp : PolOk w pa pn pc rs) (hq : PolOk w qa pn qc qs) (he : rs.map RuleR.bare = qs.map RuleR.bare) :
    Calls Tryz.prog 8 #[.agg #[.slice pa pn pc], .agg #[.slice qa pn qc]] w fun e w' => e = .returned (.bool true) ∧ Ext w w' := by
  have HE := hid (fun W (h : Ext w W) => eqRulesP_c rs qs pa qa pn pc qc W (hp.ext h) (hq.ext h) he)
  clear hp hq he
  go_enter Tryz.func8, Tryz.ntmps8
  go_upto_region 1 with (fail)
  generalize hwA : World.alloc (World.alloc w _) _ = wA
  have bX : Blk wA w.heap.size [.slice pa pn pc] 25 := by rw [← hwA]; exact (Blk.mk_alloc rfl rfl).alloc _
  have bY : Blk wA (w.heap.size + 1) [.slice qa pn qc] 25 := by rw [← hwA]; exact Blk.mk_alloc (size_allocP _ _).symm rfl
  have eA : Ext w wA := by rw [← hwA]; exact ((Ext.refl w).alloc _).alloc _
  have EA := hid eA
  have x0 := bX.cell' (i := 0) rfl
  have y0 := bY.cell' (i := 0) rfl
  clear hwA bX bY eA
  go_wp2_with fail
  refine (HE.out wA EA.out).mono ?_
  rintro e wB ⟨rfl, eB⟩
  go_wp2_with fail
  go_ret
  exact ⟨rfl, EA.out.ext eB⟩
end
end Go.Proofs.YthfddfgncolnbaaGreatDoor
