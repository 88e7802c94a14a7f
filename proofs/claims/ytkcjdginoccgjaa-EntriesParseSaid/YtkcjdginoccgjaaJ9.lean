/- Contracts and laws that the claim's row leans on (2 texts, joined): ledger.ParseEntry; conditions: the sizes. keyref1.cut with any capacity; the closure of the reference's ParseEntry; conditions: the sizes. -/
import Derived.Test.YtkcjdginoccgjaaJ8
namespace Go.Proofs.Ytkcjdginoccgjaa
section
open Go Go.RowKit

theorem w64_out {x : Nat} (h : 4611686018427387904 < x) (h2 : x < 18446744073709551616) : w64 x < 0 ∨ 1099511627776 < w64 x := by
  unfold w64; simp only [IntKind.wrap_i64]; omega
theorem own_upd {w w' : World} {B b : Nat} {e T : TypeId} {z n : Nat} {v : Value} {xs vs : List Value} (h : w.ownsRow B e z v n xs) (u : Upd w b w') (hb : Blk w b vs T) (hne : e ≠ T) : w'.ownsRow B e z v n xs := by
  refine ⟨h.1, ?_⟩
  rcases h.2 with h | ⟨g, cap, cur, h1, h2, h3, h4⟩
  · exact .inl h
  · have hg : g ≠ b := by
      rintro rfl
      unfold Blk at hb
      rw [h3] at hb
      injection hb with hb
      injection hb with _ hb
      exact hne hb
    exact .inr ⟨g, cap, cur, h1, h2, (u.block g hg).trans h3, h4⟩
theorem word4_part {l : List UInt8} {p M k : Nat} (h : k + 4 ≤ M) : word4 ((l.drop p).take M) k = word4 l (p + k) := by
  unfold word4
  have e : ∀ j, j < 4 → ((l.drop p).take M)[k + j]? = l[p + k + j]? := fun j hj => by
    rw [List.getElem?_take_of_lt (by omega), List.getElem?_drop, Nat.add_assoc]
  have e0 := e 0 (by omega)
  rw [Nat.add_zero, Nat.add_zero] at e0
  rw [e0, e 1 (by omega), e 2 (by omega), e 3 (by omega)]
theorem long8_part {l : List UInt8} {p M k : Nat} (h : k + 8 ≤ M) : long8 ((l.drop p).take M) k = long8 l (p + k) := by
  unfold long8
  rw [word4_part (by omega), word4_part (by omega), ← Nat.add_assoc]
theorem longOf_cases (Y : List UInt8) (M k : Nat) (h : k + 8 ≤ M) : ∃ cnt one : Int, longOf Y M (k : Int) = .tuple #[.int .i64 cnt, .int .i64 one] ∧ ((one = 0 ∧ cnt = (long8 Y k : Nat) ∧ long8 Y k ≤ 4611686018427387904) ∨ (one = 4 ∧ 4611686018427387904 < long8 Y k)) := by
  unfold longOf
  rw [if_pos (by unfold roomE; rw [if_neg (by omega), if_neg (by omega)]), Int.toNat_natCast]
  by_cases h : long8 Y k ≤ 4611686018427387904
  · rw [if_pos h]; exact ⟨_, _, rfl, .inl ⟨rfl, rfl, h⟩⟩
  · rw [if_neg h]; exact ⟨_, _, rfl, .inr ⟨rfl, by omega⟩⟩
theorem entEP_out {x : EntP} (h : outB x.num 0 65535 = true ∨ outB x.time 0 1099511627776 = true) : entEP x = 4 := by
  unfold entEP entE EntP.r
  simp only
  rw [if_pos (by simpa using h)]
theorem fin_ep {x : EntP} {e : Int} {PE : EntP × Int × Int} (h : (if entEP x = 0 then (x, e, 0) else (zeroEP, 0, entEP x)) = PE) : (entEP x = 0 ∧ PE = (x, e, 0)) ∨ (entEP x ≠ 0 ∧ PE = (zeroEP, 0, entEP x)) := by
  by_cases q : entEP x = 0
  · rw [if_pos q] at h; exact .inl ⟨q, h.symm⟩
  · rw [if_neg q] at h; exact .inr ⟨q, h.symm⟩
theorem fin_four {x : EntP} {e : Int} {PE : EntP × Int × Int} (h : (entEP x = 0 ∧ PE = (x, e, 0)) ∨ (entEP x ≠ 0 ∧ PE = (zeroEP, 0, entEP x))) (h4 : entEP x = 4) : PE = (zeroEP, 0, 4) := by
  rcases h with ⟨h, -⟩ | ⟨-, h⟩
  · omega
  · rw [h, h4]
theorem outB_time {A : Int} (h : A < 0 ∨ 1099511627776 < A) : outB A 0 1099511627776 = true := by
  unfold outB
  rcases h with h | h
  · rw [decide_eq_true h]; rfl
  · rw [decide_eq_true h, Bool.or_true]
theorem outB_num {A : Int} (h : A < 0 ∨ 1099511627776 < A) : outB A 0 65535 = true := by
  unfold outB
  rcases h with h | h
  · rw [decide_eq_true h]; rfl
  · rw [decide_eq_true (show 65535 < A by omega), Bool.or_true]
theorem pe_four {l : List UInt8} {p N : Nat} (h : 4611686018427387904 < long8 l (p + 4) ∨ 4611686018427387904 < long8 l (p + 12)) : entEP (entAt l p N) = 4 := by
  refine entEP_out ?_
  rcases h with h | h
  · exact .inl (outB_num (w64_out h (long8_lt _ _)))
  · exact .inr (outB_time (w64_out h (long8_lt _ _)))
theorem exec_lowE {P : Program} {o : Oper} {a : Act} {t e : TypeId} {x y : Operand} {p q : Option Addr} {n c k z : Nat} (hq : shiftz p c k z = q) (ho : o.op = .slice t x (some y) none none) (hx : a.eval x = .slice p n c) (hy : a.eval y = .int .i64 (k : Int)) (hu : P.underlying t = some (.slice e)) (hs : (P.info? e).map (·.size) = some z) (hk : k ≤ n) (w : World) :
    (execOp a.eval o).run P w = .ok (.value (.slice q (n - k) (c - k))) w := by
  rw [← hq]
  exact exec_low ho hx hy hu hs hk w

set_option maxRecDepth 100000 in
set_option maxHeartbeats 4000000 in
theorem lparseEntry_c (l : List UInt8) (a : Option Addr) (n c : Nat) (at_ : Int) (w : World) (hl : l.length = n) (hnc : n ≤ c) (hn : n ≤ 140737488355328) (hc : c ≤ 9223372036854775807) (hcl : Cells w a (l.map u8v)) :
    Calls Try.prog 44 #[.slice a n c, .int .i64 at_] w (PEPost l at_ w) := by
  have HL := hid hl
  have HC := hid hcl
  have hsz := hid (fun w' h => size_c l a n c at_ w' hl hnc hn h)
  have hzp := fun E w' h e => zeroE_post (l := l) (at_ := at_) (w := w) (w' := w') (E := E) h e
  have HZP := hid hzp
  obtain ⟨PE, hPE⟩ : ∃ PE, parseEP l at_ = PE := ⟨_, rfl⟩
  rw [hPE] at HZP
  have HPE0 := hid hPE
  unfold parseEP at hPE
  obtain ⟨E, hE⟩ : ∃ E, headC l at_ = E := ⟨_, rfl⟩
  rw [hE] at hsz hPE
  clear hcl hzp
  by_cases q : E = 0
  rotate_left
  · rw [if_pos q] at hPE
    have d1 : (E != 0) = true := by simpa using q
    rw [if_neg q] at hsz
    have HP := hid hPE.symm
    clear hPE q hE
    go_enter Try.func44, Try.ntmps44
    go_upto_region 1 with (fail)
    generalize hwA : World.alloc w _ = wA
    have zA : Blk wA w.heap.size zeroE.v 79 := by rw [← hwA]; exact Blk.mk_alloc rfl rfl
    have eA : Ext w wA := by rw [← hwA]; exact (Ext.refl w).alloc _
    have ZA := hid zA
    have EA := hid eA
    clear hwA zA eA
    go_wp2_with fail
    refine (hsz.out wA (HC.out.ext EA.out)).mono ?_
    rintro x wB ⟨rfl, eB⟩
    have ZB := hid (ZA.out.ext eB)
    have EB := hid (EA.out.ext eB)
    clear eB ZA EA hsz
    go_wp2_with (refine wpl_storew rfl _ _ _ rfl rfl rfl ZB.out agg_ent zeroE_len (xs := zeroE.v) zeroE_len (ent_one zeroE) ?_)
    intro wC bC uC
    go_wp2_with fail
    exact ret_row3e rfl rfl bC agg_ent zeroE_len rfl (HZP.out E _ HP.out (uC.ext EB.out (Nat.le_refl _)))
  rw [if_neg (by simpa using q)] at hPE
  rw [if_pos q] at hsz
  obtain ⟨p, rfl, hp89, hmg, hbn⟩ := headC_zero (hE.trans q)
  rw [Int.toNat_natCast] at hPE hsz
  obtain ⟨N, hN⟩ : ∃ N, bodyN l p = N := ⟨_, rfl⟩
  rw [hN] at hPE hsz hbn
  subst q
  rw [hl] at hPE hp89
  clear hE hmg hN
  have hw1 : IntKind.i64.wrap ((n : Int) - p) = (n : Int) - p := IntWalk.i64_in _ (by omega)
  by_cases q2 : n < p + 121 + N
  · rw [if_pos q2] at hPE
    have HP := hid hPE.symm
    have d2 : decide ((n : Int) - p < ((121 + N : Nat) : Int)) = true := decide_eq_true (by omega)
    clear hPE q2
    obtain ⟨M, hM⟩ : ∃ M, 121 + N = M := ⟨_, rfl⟩
    rw [hM] at hsz d2
    go_enter Try.func44, Try.ntmps44
    go_upto_region 1 with (fail)
    generalize hwA : World.alloc w _ = wA
    have zA : Blk wA w.heap.size zeroE.v 79 := by rw [← hwA]; exact Blk.mk_alloc rfl rfl
    have eA : Ext w wA := by rw [← hwA]; exact (Ext.refl w).alloc _
    have ZA := hid zA
    have EA := hid eA
    clear hwA zA eA
    go_wp2_with fail
    refine (hsz.out wA (HC.out.ext EA.out)).mono ?_
    rintro x wB ⟨rfl, eB⟩
    have ZB := hid (ZA.out.ext eB)
    have EB := hid (EA.out.ext eB)
    clear eB ZA EA hsz
    go_wp2_with (refine wpl_storew rfl _ _ _ rfl rfl rfl ZB.out agg_ent zeroE_len (xs := zeroE.v) zeroE_len (ent_one zeroE) ?_)
    intro wC bC uC
    go_wp2_with fail
    exact ret_row3e rfl rfl bC agg_ent zeroE_len rfl (HZP.out 1 _ HP.out (uC.ext EB.out (Nat.le_refl _)))
  rw [if_neg q2] at hPE
  have d2 : decide ((n : Int) - p < ((121 + N : Nat) : Int)) = false := decide_eq_false (by omega)
  obtain ⟨b, off, rfl, hcell⟩ := HC.out.some_of (by rw [List.length_map, HL.out]; omega)
  have hq1 : shift (some ⟨b, off, none⟩) c p = some ⟨b, off + p, none⟩ := by unfold shift; rw [if_neg (by omega), Option.map_some, addr_add]
  have HQ1 := hid hq1
  obtain ⟨K, hK⟩ : ∃ K, 89 + N = K := ⟨_, rfl⟩
  obtain ⟨M, hM⟩ : ∃ M, 121 + N = M := ⟨_, rfl⟩
  obtain ⟨S, hS⟩ : ∃ S, sumL 3 ((l.drop p).take K) = S := ⟨_, rfl⟩
  obtain ⟨SX, hSX⟩ : ∃ SX, (l.drop (p + K)).take 32 = SX := ⟨_, rfl⟩
  have hsb : sealB l p N = (S == SX) := by unfold sealB; rw [hK, Nat.add_assoc, hK, hS, hSX]
  rw [hsb] at hPE
  rw [hM] at hsz d2
  have hSl : S.length = 32 := by rw [← hS]; exact sumL_length _ _
  have hSXl : SX.length = 32 := by rw [← hSX, List.length_take, List.length_drop, HL.out]; omega
  have hso := hid (fun w' h => sumOf_c 3 ((l.drop p).take K) K (c - p) (some ⟨b, off + p, none⟩) w' (by rw [List.length_take, List.length_drop, HL.out]; omega) (by omega) (by omega) (fun h => by cases h) h)
  have hsv : sumOfV 3 ((l.drop p).take K) K = .tuple #[.agg (S.map u8v).toArray, .int .i64 0] := by
    unfold sumOfV; rw [if_neg (by omega), if_pos (by omega), hS]
  rw [hsv] at hso
  have hne := hid (fun w => neq_arr Try.underlying32 S SX hSl hSXl w)
  have HSM := hid (show (S.map u8v).length = 32 by rw [List.length_map, hSl])
  have HSX := hid (show (SX.map u8v).length = 32 by rw [List.length_map, hSXl])
  have oS := one_u8 S
  have cK : Cells w (some ⟨b, off + p, none⟩) (((l.drop p).take K).map u8v) := part_cells hcell p K
  have cX : CellsAt w ⟨b, off + p + K * 1, none⟩ (SX.map u8v) := by
    rw [← hSX, Nat.mul_one, Nat.add_assoc]; exact part_at hcell (p + K) 32
  have CK := hid cK
  have CX := hid cX
  have HCELL := hid hcell
  have hwM : IntKind.i64.wrap ((p : Int) + (M : Int)) = ((p + M : Nat) : Int) := by rw [IntWalk.i64_in _ (by omega)]; omega
  have hwK : IntKind.i64.wrap ((M : Int) - 32) = (K : Int) := by rw [IntWalk.i64_in _ (by omega)]; omega
  have hcM : p + M ≤ c := by omega
  have hKc : K ≤ c - p := by omega
  have hMK : M - K = 32 := by omega
  have hz1 : shiftz (some ⟨b, off + p, none⟩) (c - p) K 1 = some ⟨b, off + p + K * 1, none⟩ := by unfold shiftz; rw [if_neg (by omega), Option.map_some, addr_add]
  have HZ1 := hid hz1
  have HPE := hid hPE
  clear hcell hq1 hS hSX hsb hsv hSl hSXl cK cX hz1 hPE
  go_enter Try.func44, Try.ntmps44
  go_upto_region 1 with (fail)
  generalize hwA : World.alloc w _ = wA
  have zA : Blk wA w.heap.size zeroE.v 79 := by rw [← hwA]; exact Blk.mk_alloc rfl rfl
  have eA : Ext w wA := by rw [← hwA]; exact (Ext.refl w).alloc _
  have ZA := hid zA
  have EA := hid eA
  clear hwA zA eA
  go_wp2_with fail
  refine (hsz.out wA (HC.out.ext EA.out)).mono ?_
  rintro x wB ⟨rfl, eB⟩
  have ZB := hid (ZA.out.ext eB)
  have EB := hid (EA.out.ext eB)
  clear eB ZA EA hsz
  go_wp2_with (first | (refine wpl_run rfl (exec_slice2 (k := p) (h := p + M) rfl rfl rfl rfl Try.underlying28 size_u8 (by omega) hcM HQ1.out _) ?_) | (refine wpl_run rfl (exec_high (k := K) rfl rfl rfl Try.underlying28 size_u8 hKc _) ?_))
  refine (hso.out wB (CK.out.ext EB.out)).mono ?_
  rintro x wC0 ⟨rfl, eC⟩
  have ZC0 := hid (ZB.out.ext eC)
  have EC0 := hid (EB.out.ext eC)
  clear eC ZB EB hso CK
  go_wp2_with (refine wpl_storew rfl _ _ _ rfl rfl rfl (Blk.mk_alloc (vs := List.replicate 32 (.int .u8 0)) rfl rfl) agg_es (by simp) HSM.out oS ?_)
  intro wC sC uC
  have eC : Ext wC0 wC := uC.ext ((Ext.refl wC0).alloc _) (Nat.le_refl _)
  have ZC := hid (ZC0.out.ext eC)
  have EC := hid (EC0.out.ext eC)
  have SC := hid sC
  have hgw : w.heap.size < wC0.heap.size := ZC0.out.lt
  clear uC eC sC ZC0 EC0 oS
  obtain ⟨gs, hgs⟩ : ∃ gs, wC0.heap.size = gs := ⟨_, rfl⟩
  rw [hgs] at SC hgw ⊢
  clear hgs
  go_upto_region 9 with (fail)
  obtain ⟨C, hC⟩ : ∃ C : World → Prop, C = Cls w wC [w.heap.size,gs] [] := ⟨_, rfl⟩
  have hC0 : ∀ w', C w' ↔ Cls w wC [w.heap.size,gs] [] w' := fun w' => by rw [hC]
  clear hC
  have HCC := hid hC0
  clear hC0
  have hCx : ∀ w w', C w → Ext w w' → C w' := fun w w' h1 h2 => (HCC.out w').2 (((HCC.out w).1 h1).ext h2)
  have hCA : C wC := (HCC.out _).2 (Cls.no_room EC.out (Kept.two ZC.out.lt SC.out.lt))
  have hp0 : ∀ w1, C w1 → CellsAt w1 ⟨gs, 0, none⟩ (S.map u8v) := fun w1 h1 => CellsAt.of (Cells.of_blk0 (((HCC.out w1).1 h1).blk SC.out (by simp)))
  have hp1 : ∀ w1, C w1 → CellsAt w1 ⟨b, off + p + K * 1, none⟩ (SX.map u8v) := fun w1 h1 => CX.out.ext ((HCC.out w1).1 h1).base
  refine wp_region_held_drew (S := C) (by kernel_rfl) (hCx _ _ hCA (Ext.refl _).drew) (fun hS0 => ?_)
  refine held_take 0 (v := _) rfl (by kernel_rfl) (by kernel_rfl) (by kernel_rfl) (fun _ _ _ h => h) (yieldsI_run rfl (fun w1 h => exec_load_at rfl rfl (hp0 w1 h) agg_es HSM.out)) hS0 ?_
  simp only [Act.put, List.setIfInBounds_toArray, List.set_cons_succ, List.set_cons_zero]
  refine held_take 1 (v := ?tv57) rfl (by kernel_rfl) (by kernel_rfl) (by kernel_rfl) (fun _ _ _ h => h) (.inl ⟨rfl, ?ty57⟩) hS0 ?tr57
  case ty57 => (intro _ _; go_simp; try with_reducible rfl)
  case tr57 =>
  simp only [Act.put, List.setIfInBounds_toArray, List.set_cons_succ, List.set_cons_zero]
  refine held_take 2 (v := ?tv58) rfl (by kernel_rfl) (by kernel_rfl) (by kernel_rfl) (fun _ _ _ h => h) (.inl ⟨rfl, ?ty58⟩) hS0 ?tr58
  case ty58 => (intro _ _; go_simp; try with_reducible rfl)
  case tr58 =>
  simp only [Act.put, List.setIfInBounds_toArray, List.set_cons_succ, List.set_cons_zero]
  refine held_take 3 (v := _) rfl (by kernel_rfl) (by kernel_rfl) (by kernel_rfl) (fun _ _ _ h => h) (yieldsI_run rfl (fun w1 _ => exec_lowE (k := K) HZ1.out rfl rfl rfl Try.underlying28 size_u8 (by omega) w1)) hS0 ?_
  simp only [Act.put, List.setIfInBounds_toArray, List.set_cons_succ, List.set_cons_zero]
  refine held_take 4 (v := _) rfl (by kernel_rfl) (by kernel_rfl) (by kernel_rfl) (fun _ _ _ h => h) (yieldsI_run rfl (fun w1 _ => exec_arrayAt (n := 32) rfl rfl Try.underlying32 (by omega) w1)) hS0 ?_
  simp only [Act.put, List.setIfInBounds_toArray, List.set_cons_succ, List.set_cons_zero]
  refine held_take 5 (v := _) rfl (by kernel_rfl) (by kernel_rfl) (by kernel_rfl) (fun _ _ _ h => h) (yieldsI_run rfl (fun w1 h => exec_load_at rfl rfl (hp1 w1 h) agg_es HSX.out)) hS0 ?_
  simp only [Act.put, List.setIfInBounds_toArray, List.set_cons_succ, List.set_cons_zero]
  refine held_take 6 (v := _) rfl (by kernel_rfl) (by kernel_rfl) (by kernel_rfl) (fun _ _ _ h => h) (yieldsI_run rfl (fun w1 _ => exec_cmpE rfl rfl rfl guard_es hne.out w1)) hS0 ?_
  simp only [Act.put, List.setIfInBounds_toArray, List.set_cons_succ, List.set_cons_zero]
  generalize wC.drew = wD at *
  have ZD := hid (((HCC.out wD).1 hS0).blk ZC.out (by simp))
  have ED := hid ((HCC.out wD).1 hS0).base
  clear hS0 HCC hCx hCA hp0 hp1 ZC EC SC CX HSX hne
  refine wpAnyH_done (by kernel_rfl) ?_ _
  cases q3 : (S == SX) with
  | false =>
    have HP := hid (show PE = (zeroEP, 0, 13) by have h := HPE.out; rw [q3, if_pos rfl] at h; exact h.symm)
    clear HPE
    go_wp2_with (refine wpl_storew rfl _ _ _ rfl rfl rfl ZD.out agg_ent zeroE_len (xs := zeroE.v) zeroE_len (ent_one zeroE) ?_)
    intro wE bE uE
    go_wp2_with fail
    exact ret_row3e rfl rfl bE agg_ent zeroE_len rfl (HZP.out 13 _ HP.out (uE.ext ED.out (Nat.le_refl _)))
  | true =>
  have hPE := HPE.out
  rw [q3, if_neg (by decide)] at hPE
  replace hPE := fin_ep hPE
  clear HPE q3
  obtain ⟨Y, hY⟩ : ∃ Y, (l.drop p).take M = Y := ⟨_, rfl⟩
  have hYl : Y.length = M := by rw [← hY, List.length_take, List.length_drop, HL.out]; omega
  have hY4 : long8 Y 4 = long8 l (p + 4) := by rw [← hY]; exact long8_part (by omega)
  have hY12 : long8 Y 12 = long8 l (p + 12) := by rw [← hY]; exact long8_part (by omega)
  obtain ⟨cnt, one, ho1, hc1⟩ := longOf_cases Y M 4 (by omega)
  obtain ⟨tim, two, ho2, hc2⟩ := longOf_cases Y M 12 (by omega)
  rw [hY4] at hc1
  rw [hY12] at hc2
  have cY : ∀ w', Ext w w' → Cells w' (some ⟨b, off + p, none⟩) (Y.map u8v) := fun w' e => by rw [← hY]; exact (part_cells HCELL.out p M).ext e
  have hg1 := hid (fun w' h => long_c Y (some ⟨b, off + p, none⟩) M (c - p) 4 w' hYl (by omega) (by omega) h)
  have hg2 := hid (fun w' h => long_c Y (some ⟨b, off + p, none⟩) M (c - p) 12 w' hYl (by omega) (by omega) h)
  have ho1' : longOf Y M 4 = .tuple #[.int .i64 cnt, .int .i64 one] := ho1
  have ho2' : longOf Y M 12 = .tuple #[.int .i64 tim, .int .i64 two] := ho2
  rw [ho1'] at hg1
  rw [ho2'] at hg2
  have CY := hid cY
  clear ho1 ho2 ho1' ho2' cY hY4 hY12
  go_wp2_with fail
  refine (hg1.out wD (CY.out _ ED.out)).mono ?_
  rintro x wE ⟨rfl, eE⟩
  have ZE := hid (ZD.out.ext eE)
  have EE := hid (ED.out.ext eE)
  clear eE ZD ED hg1
  go_wp2_with fail
  refine (hg2.out wE (CY.out _ EE.out)).mono ?_
  rintro x wF ⟨rfl, eF⟩
  have ZF := hid (ZE.out.ext eF)
  have EF := hid (EE.out.ext eF)
  clear eF ZE EE hg2
  by_cases q4 : one = 0 ∧ two = 0
  rotate_left
  · have hbig : 4611686018427387904 < long8 l (p + 4) ∨ 4611686018427387904 < long8 l (p + 12) := by
      rcases hc1 with ⟨h1, -, -⟩ | ⟨-, h1⟩
      · rcases hc2 with ⟨h2, -, -⟩ | ⟨-, h2⟩
        · exact absurd ⟨h1, h2⟩ q4
        · exact .inr h2
      · exact .inl h1
    have h4 : entEP (entAt l p N) = 4 := pe_four hbig
    have HP := hid (fin_four hPE h4)
    have d4 : ((one != 0) || (two != 0)) = true := by
      by_cases h1 : one = 0
      · have h2 : two ≠ 0 := fun h2 => q4 ⟨h1, h2⟩
        simp [h1, h2]
      · simp [h1]
    clear hPE h4 hc1 hc2 hbig
    by_cases h1 : one = 0
    · subst h1
      have h2 : (two != 0) = true := by simpa using d4
      clear q4 d4
      go_wp2_with (refine wpl_storew rfl _ _ _ rfl rfl rfl ZF.out agg_ent zeroE_len (xs := zeroE.v) zeroE_len (ent_one zeroE) ?_)
      intro wG bG uG
      go_wp2_with fail
      exact ret_row3e rfl rfl bG agg_ent zeroE_len rfl (HZP.out 4 _ HP.out (uG.ext EF.out (Nat.le_refl _)))
    · have h1 : (one != 0) = true := by simpa using h1
      clear q4 d4
      go_wp2_with (refine wpl_storew rfl _ _ _ rfl rfl rfl ZF.out agg_ent zeroE_len (xs := zeroE.v) zeroE_len (ent_one zeroE) ?_)
      intro wG bG uG
      go_wp2_with fail
      exact ret_row3e rfl rfl bG agg_ent zeroE_len rfl (HZP.out 4 _ HP.out (uG.ext EF.out (Nat.le_refl _)))
  obtain ⟨rfl, rfl⟩ := q4
  obtain ⟨rfl, hc1⟩ : cnt = (long8 l (p + 4) : Nat) ∧ long8 l (p + 4) ≤ 4611686018427387904 := by rcases hc1 with ⟨-, h, h'⟩ | ⟨h, -⟩; exact ⟨h, h'⟩; cases h
  obtain ⟨rfl, hc2⟩ : tim = (long8 l (p + 12) : Nat) ∧ long8 l (p + 12) ≤ 4611686018427387904 := by rcases hc2 with ⟨-, h, h'⟩ | ⟨h, -⟩; exact ⟨h, h'⟩; cases h
  have hx8 : ∃ x8, l[p + 20]?.getD 0 = x8 := ⟨_, rfl⟩
  obtain ⟨x8, hx8⟩ := hx8
  obtain ⟨A1, hA1⟩ : ∃ A1, (l.drop (p + 21)).take 16 = A1 := ⟨_, rfl⟩
  obtain ⟨A2, hA2⟩ : ∃ A2, (l.drop (p + 37)).take 16 = A2 := ⟨_, rfl⟩
  obtain ⟨A3, hA3⟩ : ∃ A3, (l.drop (p + 53)).take 32 = A3 := ⟨_, rfl⟩
  obtain ⟨BD, hBD⟩ : ∃ BD, (l.drop (p + 89)).take N = BD := ⟨_, rfl⟩
  have hA1l : A1.length = 16 := by rw [← hA1, List.length_take, List.length_drop, HL.out]; clear hPE; omega
  have hA2l : A2.length = 16 := by rw [← hA2, List.length_take, List.length_drop, HL.out]; clear hPE; omega
  have hA3l : A3.length = 32 := by rw [← hA3, List.length_take, List.length_drop, HL.out]; clear hPE; omega
  have hBDl : BD.length = N := by rw [← hBD, List.length_take, List.length_drop, HL.out]; clear hPE; omega
  have hea : entAt l p N = ⟨(long8 l (p + 4) : Nat), (long8 l (p + 12) : Nat), (x8.toNat : Int), A1, A2, A3, BD⟩ := by
    unfold entAt; rw [w64_small (by clear hPE; omega), w64_small (by clear hPE; omega), hx8, hA1, hA2, hA3, hBD]
  rw [hea] at hPE
  have ca1 : CellsAt w ⟨b, off + p + 21, none⟩ (A1.map u8v) := by rw [← hA1, Nat.add_assoc]; exact part_at HCELL.out (p + 21) 16
  have ca2 : CellsAt w ⟨b, off + p + 37, none⟩ (A2.map u8v) := by rw [← hA2, Nat.add_assoc]; exact part_at HCELL.out (p + 37) 16
  have ca3 : CellsAt w ⟨b, off + p + 53, none⟩ (A3.map u8v) := by rw [← hA3, Nat.add_assoc]; exact part_at HCELL.out (p + 53) 32
  have cbd : Cells w (some ⟨b, off + p + 89, none⟩) (BD.map u8v) := by rw [← hBD, Nat.add_assoc]; exact part_cells HCELL.out (p + 89) N
  have c20 : w.cell? ⟨b, off + p + 20 * 1, none⟩ = some (.int .u8 (x8.toNat : Nat)) := by
    have h := HCELL.out (p + 20) (u8v x8) (by rw [List.getElem?_map]; have : l[p + 20]? = some (l[p + 20]'(by rw [HL.out]; clear hPE; omega)) := List.getElem?_eq_getElem _; rw [this] at hx8 ⊢; rw [← hx8]; rfl)
    rw [← Nat.add_assoc] at h; exact h
  obtain ⟨cn, hcn⟩ : ∃ cn : Int, ((long8 l (p + 4) : Nat) : Int) = cn := ⟨_, rfl⟩
  obtain ⟨tm, htm⟩ : ∃ tm : Int, ((long8 l (p + 12) : Nat) : Int) = tm := ⟨_, rfl⟩
  rw [hcn, htm] at hPE
  rw [hcn, htm]
  have HPE := hid hPE
  clear hPE
  have hw8 : IntKind.i64.wrap (x8.toNat : Int) = (x8.toNat : Int) := IntWalk.i64_in _ (by have := x8.toNat_lt; omega)
  have hs1 : shift (some ⟨b, off + p, none⟩) (c - p) 21 = some ⟨b, off + p + 21, none⟩ := by unfold shift; rw [if_neg (by omega), Option.map_some, addr_add]
  have hs2 : shift (some ⟨b, off + p, none⟩) (c - p) 37 = some ⟨b, off + p + 37, none⟩ := by unfold shift; rw [if_neg (by omega), Option.map_some, addr_add]
  have hs3 : shift (some ⟨b, off + p, none⟩) (c - p) 53 = some ⟨b, off + p + 53, none⟩ := by unfold shift; rw [if_neg (by omega), Option.map_some, addr_add]
  have hs4 : shift (some ⟨b, off + p, none⟩) (c - p) 89 = some ⟨b, off + p + 89, none⟩ := by unfold shift; rw [if_neg (by omega), Option.map_some, addr_add]
  have HS1 := hid hs1
  have HS2 := hid hs2
  have HS3 := hid hs3
  have HS4 := hid hs4
  have CA1 := hid ca1
  have CA2 := hid ca2
  have CA3 := hid ca3
  have C20 := hid c20
  have hKN : K - 89 = N := by omega
  have hcln := hid (fun w' e => clone_c BD (some ⟨b, off + p + 89, none⟩) N (c - p - 89) w' hBDl (by omega) (cbd.ext e))
  have HL1 := hid (show (A1.map u8v).length = 16 by rw [List.length_map, hA1l])
  have HL2 := hid (show (A2.map u8v).length = 16 by rw [List.length_map, hA2l])
  have HL3 := hid (show (A3.map u8v).length = 32 by rw [List.length_map, hA3l])
  have HA1 := hid hA1l
  have HA2 := hid hA2l
  have HA3 := hid hA3l
  have hc37 : 37 ≤ c - p := by omega
  have hc53 : 53 ≤ c - p := by omega
  have hc85 : 85 ≤ c - p := by omega
  have hM20 : 20 < M := by omega
  have hK89 : 89 ≤ K := by omega
  clear hs1 hs2 hs3 hs4 ca1 ca2 ca3 c20 cbd hA1l hA2l hA3l hea hcn htm hx8 hc1 hc2 hA1 hA2 hA3 hBD
  go_upto_region 15 with (fail)
  obtain ⟨C, hC⟩ : ∃ C : World → Prop, C = Cls w wF [w.heap.size] [] := ⟨_, rfl⟩
  have hC0 : ∀ w', C w' ↔ Cls w wF [w.heap.size] [] w' := fun w' => by rw [hC]
  clear hC
  have HCC := hid hC0
  clear hC0
  have hCx : ∀ w w', C w → Ext w w' → C w' := fun w w' h1 h2 => (HCC.out w').2 (((HCC.out w).1 h1).ext h2)
  have hCA : C wF := (HCC.out _).2 (Cls.no_room EF.out (Kept.one ZF.out.lt))
  have hp0 : ∀ w1, C w1 → w1.cell? ⟨b, off + p + 20 * 1, none⟩ = some (.int .u8 (x8.toNat : Nat)) := fun w1 h1 => cell_extU C20.out ((HCC.out w1).1 h1).base
  have hp1 : ∀ w1, C w1 → CellsAt w1 ⟨b, off + p + 21, none⟩ (A1.map u8v) := fun w1 h1 => CA1.out.ext ((HCC.out w1).1 h1).base
  have hp2 : ∀ w1, C w1 → CellsAt w1 ⟨b, off + p + 37, none⟩ (A2.map u8v) := fun w1 h1 => CA2.out.ext ((HCC.out w1).1 h1).base
  have hp3 : ∀ w1, C w1 → CellsAt w1 ⟨b, off + p + 53, none⟩ (A3.map u8v) := fun w1 h1 => CA3.out.ext ((HCC.out w1).1 h1).base
  refine wp_region_held_drew (S := C) (by kernel_rfl) (hCx _ _ hCA (Ext.refl _).drew) (fun hS0 => ?_)
  refine held_take 0 (v := ?tv59) rfl (by kernel_rfl) (by kernel_rfl) (by kernel_rfl) (fun _ _ _ h => h) (.inl ⟨rfl, ?ty59⟩) hS0 ?tr59
  case ty59 => (intro _ _; go_simp; try with_reducible rfl)
  case tr59 =>
  simp only [Act.put, List.setIfInBounds_toArray, List.set_cons_succ, List.set_cons_zero]
  refine held_take 1 (v := ?tv60) rfl (by kernel_rfl) (by kernel_rfl) (by kernel_rfl) (fun _ _ _ h => h) (.inl ⟨rfl, ?ty60⟩) hS0 ?tr60
  case ty60 => (intro _ _; go_simp; try with_reducible rfl)
  case tr60 =>
  simp only [Act.put, List.setIfInBounds_toArray, List.set_cons_succ, List.set_cons_zero]
  refine held_take 2 (v := ?tv61) rfl (by kernel_rfl) (by kernel_rfl) (by kernel_rfl) (fun _ _ _ h => h) (.inl ⟨rfl, ?ty61⟩) hS0 ?tr61
  case ty61 => (intro _ _; go_simp; try with_reducible rfl)
  case tr61 =>
  simp only [Act.put, List.setIfInBounds_toArray, List.set_cons_succ, List.set_cons_zero]
  refine held_take 3 (v := _) rfl (by kernel_rfl) (by kernel_rfl) (by kernel_rfl) (fun _ _ _ h => h) (yieldsI_run rfl (fun w1 _ => exec_index (i := 20) rfl rfl rfl Try.underlying28 size_u8 hM20 w1)) hS0 ?_
  simp only [Act.put, List.setIfInBounds_toArray, List.set_cons_succ, List.set_cons_zero]
  refine held_take 4 (v := _) rfl (by kernel_rfl) (by kernel_rfl) (by kernel_rfl) (fun _ _ _ h => h) (yieldsI_run rfl (fun w1 h => exec_load_oneU rfl rfl (hp0 w1 h) one_u8t)) hS0 ?_
  simp only [Act.put, List.setIfInBounds_toArray, List.set_cons_succ, List.set_cons_zero]
  refine held_take 5 (v := ?tv62) rfl (by kernel_rfl) (by kernel_rfl) (by kernel_rfl) (fun _ _ _ h => h) (.inl ⟨rfl, ?ty62⟩) hS0 ?tr62
  case ty62 => (intro _ _; go_simp; try with_reducible rfl)
  case tr62 =>
  simp only [Act.put, List.setIfInBounds_toArray, List.set_cons_succ, List.set_cons_zero]
  refine held_take 6 (v := ?tv63) rfl (by kernel_rfl) (by kernel_rfl) (by kernel_rfl) (fun _ _ _ h => h) (.inl ⟨rfl, ?ty63⟩) hS0 ?tr63
  case ty63 => (intro _ _; go_simp; try with_reducible rfl)
  case tr63 =>
  simp only [Act.put, List.setIfInBounds_toArray, List.set_cons_succ, List.set_cons_zero]
  refine held_take 7 (v := _) rfl (by kernel_rfl) (by kernel_rfl) (by kernel_rfl) (fun _ _ _ h => h) (yieldsI_run rfl (fun w1 _ => exec_slice2 (k := 21) (h := 37) rfl rfl rfl rfl Try.underlying28 size_u8 (by omega) hc37 HS1.out w1)) hS0 ?_
  simp only [Act.put, List.setIfInBounds_toArray, List.set_cons_succ, List.set_cons_zero]
  refine held_take 8 (v := _) rfl (by kernel_rfl) (by kernel_rfl) (by kernel_rfl) (fun _ _ _ h => h) (yieldsI_run rfl (fun w1 _ => exec_arrayAt (n := 16) rfl rfl Try.underlying68 (by omega) w1)) hS0 ?_
  simp only [Act.put, List.setIfInBounds_toArray, List.set_cons_succ, List.set_cons_zero]
  refine held_take 9 (v := _) rfl (by kernel_rfl) (by kernel_rfl) (by kernel_rfl) (fun _ _ _ h => h) (yieldsI_run rfl (fun w1 h => exec_load_at rfl rfl (hp1 w1 h) agg_id HL1.out)) hS0 ?_
  simp only [Act.put, List.setIfInBounds_toArray, List.set_cons_succ, List.set_cons_zero]
  refine held_take 10 (v := ?tv64) rfl (by kernel_rfl) (by kernel_rfl) (by kernel_rfl) (fun _ _ _ h => h) (.inl ⟨rfl, ?ty64⟩) hS0 ?tr64
  case ty64 => (intro _ _; go_simp; try with_reducible rfl)
  case tr64 =>
  simp only [Act.put, List.setIfInBounds_toArray, List.set_cons_succ, List.set_cons_zero]
  refine held_take 11 (v := _) rfl (by kernel_rfl) (by kernel_rfl) (by kernel_rfl) (fun _ _ _ h => h) (yieldsI_run rfl (fun w1 _ => exec_slice2 (k := 37) (h := 53) rfl rfl rfl rfl Try.underlying28 size_u8 (by omega) hc53 HS2.out w1)) hS0 ?_
  simp only [Act.put, List.setIfInBounds_toArray, List.set_cons_succ, List.set_cons_zero]
  refine held_take 12 (v := _) rfl (by kernel_rfl) (by kernel_rfl) (by kernel_rfl) (fun _ _ _ h => h) (yieldsI_run rfl (fun w1 _ => exec_arrayAt (n := 16) rfl rfl Try.underlying68 (by omega) w1)) hS0 ?_
  simp only [Act.put, List.setIfInBounds_toArray, List.set_cons_succ, List.set_cons_zero]
  refine held_take 13 (v := _) rfl (by kernel_rfl) (by kernel_rfl) (by kernel_rfl) (fun _ _ _ h => h) (yieldsI_run rfl (fun w1 h => exec_load_at rfl rfl (hp2 w1 h) agg_id HL2.out)) hS0 ?_
  simp only [Act.put, List.setIfInBounds_toArray, List.set_cons_succ, List.set_cons_zero]
  refine held_take 14 (v := ?tv65) rfl (by kernel_rfl) (by kernel_rfl) (by kernel_rfl) (fun _ _ _ h => h) (.inl ⟨rfl, ?ty65⟩) hS0 ?tr65
  case ty65 => (intro _ _; go_simp; try with_reducible rfl)
  case tr65 =>
  simp only [Act.put, List.setIfInBounds_toArray, List.set_cons_succ, List.set_cons_zero]
  refine held_take 15 (v := _) rfl (by kernel_rfl) (by kernel_rfl) (by kernel_rfl) (fun _ _ _ h => h) (yieldsI_run rfl (fun w1 _ => exec_slice2 (k := 53) (h := 85) rfl rfl rfl rfl Try.underlying28 size_u8 (by omega) hc85 HS3.out w1)) hS0 ?_
  simp only [Act.put, List.setIfInBounds_toArray, List.set_cons_succ, List.set_cons_zero]
  refine held_take 16 (v := _) rfl (by kernel_rfl) (by kernel_rfl) (by kernel_rfl) (fun _ _ _ h => h) (yieldsI_run rfl (fun w1 _ => exec_arrayAt (n := 32) rfl rfl Try.underlying32 (by omega) w1)) hS0 ?_
  simp only [Act.put, List.setIfInBounds_toArray, List.set_cons_succ, List.set_cons_zero]
  refine held_take 17 (v := _) rfl (by kernel_rfl) (by kernel_rfl) (by kernel_rfl) (fun _ _ _ h => h) (yieldsI_run rfl (fun w1 h => exec_load_at rfl rfl (hp3 w1 h) agg_es HL3.out)) hS0 ?_
  simp only [Act.put, List.setIfInBounds_toArray, List.set_cons_succ, List.set_cons_zero]
  refine held_take 18 (v := ?tv66) rfl (by kernel_rfl) (by kernel_rfl) (by kernel_rfl) (fun _ _ _ h => h) (.inl ⟨rfl, ?ty66⟩) hS0 ?tr66
  case ty66 => (intro _ _; go_simp; try with_reducible rfl)
  case tr66 =>
  simp only [Act.put, List.setIfInBounds_toArray, List.set_cons_succ, List.set_cons_zero]
  refine held_take 19 (v := ?tv67) rfl (by kernel_rfl) (by kernel_rfl) (by kernel_rfl) (fun _ _ _ h => h) (.inl ⟨rfl, ?ty67⟩) hS0 ?tr67
  case ty67 => (intro _ _; go_simp; try with_reducible rfl)
  case tr67 =>
  simp only [Act.put, List.setIfInBounds_toArray, List.set_cons_succ, List.set_cons_zero]
  refine held_take 20 (v := _) rfl (by kernel_rfl) (by kernel_rfl) (by kernel_rfl) (fun _ _ _ h => h) (yieldsI_run rfl (fun w1 _ => exec_slice2 (k := 89) (h := K) rfl rfl rfl rfl Try.underlying28 size_u8 hK89 hKc HS4.out w1)) hS0 ?_
  simp only [Act.put, List.setIfInBounds_toArray, List.set_cons_succ, List.set_cons_zero]
  rw [hKN]
  refine Fl_start (B := World.heap wF |>.size) (A := 23) (d := 17) (T := 79) (vs := zeroE.v) (D := C) undef rfl hCx (fun _ h => h) (fun _ h => ((HCC.out _).1 h).kept.1) hS0 ?_
  try dsimp only
  simp only [Act.put, List.setIfInBounds_toArray, List.set_cons_succ, List.set_cons_zero]
  refine Fl_step 21 (β := Option Addr × Nat) (fun z => .slice z.1 N z.2) (fun z w' => w'.ownsRow (w.heap.size + 1) 5 1 (.slice z.1 N z.2) N (BD.map u8v)) rfl rfl rfl rfl (fun _ _ => rfl) (by kernel_rfl) (by kernel_rfl) (by kernel_rfl) rfl (fun _ _ => by simp only [Act.put, List.setIfInBounds_toArray, List.set_cons_succ, List.set_cons_zero]) ?phi21 ?step21 ?rest21
  case phi21 => exact fun z w1 w2 h e => ownsRow_ext h e
  case step21 =>
    intro x w1 hD Q' hQ
    have hb1 : w.heap.size + 1 ≤ w1.heap.size := by have := ZF.out.lt; have := ((HCC.out w1).1 hD).kept.1; omega
    have e1 := ((HCC.out w1).1 hD).base
    clear hS0
    go_wp2_with fail
    refine (hcln.out w1 e1).mono ?_
    rintro e w2 ⟨v, rfl, own, -, e2⟩
    obtain ⟨a', c', rfl, -, -, -, -⟩ := own_slice own
    go_wp2_with fail
    exact hQ (a', c') _ e2 (own_lower own hb1)
  case rest21 =>
  rintro ⟨ba, bc⟩
  try dsimp only
  try simp only [Act.put, List.setIfInBounds_toArray, List.set_cons_succ, List.set_cons_zero]
  refine Fl_take 22 (v := _) rfl (by kernel_rfl) (by kernel_rfl) (by kernel_rfl) (by kernel_rfl) (by kernel_rfl) rfl (fun _ _ _ h => h) (fun _ => yieldsI_run rfl (fun w1 _ => exec_ent7 BD rfl rfl rfl rfl rfl rfl rfl rfl HA1.out HA2.out HA3.out w1)) ?_
  try dsimp only
  simp only [Act.put, List.setIfInBounds_toArray, List.set_cons_succ, List.set_cons_zero]
  refine Fl_end rfl rfl rfl (fun _ _ => rfl) (by kernel_rfl) (fun _ _ => by simp only [Act.put, List.setIfInBounds_toArray, List.set_cons_succ, List.set_cons_zero]) ?_
  rintro b2 w3 ⟨hC3, own3⟩ lb hb
  have HB := hid hb
  have HC3 := hid ((HCC.out w3).1 hC3)
  have OW3 := hid own3
  clear hb hC3 own3 hp0 hp1 hp2 hp3 hcln
  obtain ⟨R, hR⟩ : ∃ R : EntR, R = ⟨cn, tm, (x8.toNat : Int), A1, A2, A3, ba, N, bc, BD⟩ := ⟨_, rfl⟩
  rw [← hR]
  have HR := hid hR
  have HRL := hid (show R.v.length = 68 by rw [hR]; unfold EntR.v; simp [HA1.out, HA2.out, HA3.out])
  clear hR
  refine held_one (i := 24) (by kernel_rfl) rfl ?_
  intro Q' hQ
  go_wp2_with (refine wpl_storew rfl _ _ _ rfl rfl rfl HB.out agg_ent zeroE_len (xs := R.v) HRL.out (ent_one R) ?_)
  intro w4 b4 u4
  have hC4 := Cls.upd HC3.out u4 lb EF.out.size
  refine hQ _ _ ((HCC.out w4).2 hC4) ?_
  have B4 := hid b4
  have Z4 := hid (hC4.blk ZF.out (by simp))
  have E4 := hid hC4.base
  have OW4 := hid (own_upd OW3.out u4 HB.out (by decide))
  have hgb : w.heap.size < b2 := Nat.lt_of_lt_of_le ZF.out.lt lb
  clear hQ Q' u4 b4 hC4 HC3 HB EF ZF OW3
  refine wpAnyH_done (by kernel_rfl) ?_ _
  unfold ptrAt
  have hok : ∀ w', w'.ownsRow (w.heap.size + 1) 5 1 (.slice ba N bc) N (BD.map u8v) → R.Ok w' := by
    intro w' h
    obtain ⟨a', c', he, h1, h2, h3, h4⟩ := own_slice h
    cases he
    have hNb : N ≤ 140737488355328 := by clear h4 HPE; omega
    rw [HR.out]
    refine ⟨HA1.out, HA2.out, HA3.out, hBDl, h1, hNb, fun h => ?_, h4⟩
    have := h3 h
    exact ⟨by simp only; omega, this⟩
  have HOK := hid hok
  have hRp : R.p = ⟨cn, tm, (x8.toNat : Int), A1, A2, A3, BD⟩ := by rw [HR.out]; rfl
  have hef := hid (fun w' h => entryFault_c R w' h)
  rw [entE_p, hRp] at hef
  have HRP := hid hRp
  obtain ⟨PX, hPX⟩ : ∃ PX : EntP, (⟨cn, tm, (x8.toNat : Int), A1, A2, A3, BD⟩ : EntP) = PX := ⟨_, rfl⟩
  rw [hPX] at HPE hef HRP
  obtain ⟨EE, hEE⟩ : ∃ EE, entEP PX = EE := ⟨_, rfl⟩
  rw [hEE] at HPE hef
  have hend : ((p + 121 + N : Nat) : Int) = ((p + M : Nat) : Int) := by clear hok; omega
  rw [hend] at HPE
  clear hok hRp hPX hEE hend
  go_wp2_with (refine wpl_loadw rfl 79 (.tmp 17) rfl rfl B4.out agg_ent HRL.out ?_)
  refine (hef.out w4 (HOK.out _ OW4.out)).mono ?_
  rintro x w5 ⟨rfl, e5⟩
  have Z5 := hid (Z4.out.ext e5)
  have B5 := hid (B4.out.ext e5)
  have E5 := hid (E4.out.ext e5)
  have OW5 := hid (ownsRow_ext OW4.out e5)
  clear e5 Z4 B4 E4 OW4 hef
  rcases HPE.out with ⟨hz, hP⟩ | ⟨hz, hP⟩
  · subst hz
    have HP := hid hP
    clear HPE hP
    go_wp2_with (first | (refine wpl_loadw rfl 79 (.tmp 17) rfl rfl B5.out agg_ent HRL.out ?_) | (refine wpl_storew rfl _ _ _ rfl rfl rfl Z5.out agg_ent zeroE_len (xs := R.v) HRL.out (ent_one R) ?_))
    intro w6 b6 u6
    go_wp2_with fail
    refine ret_row3e rfl rfl b6 agg_ent HRL.out rfl ⟨R, ?_, HOK.out _ (own_upd OW5.out u6 Z5.out (by decide)), ?_, u6.ext E5.out (Nat.le_refl _)⟩
    · rw [HPE0.out, HP.out]; rfl
    · rw [HPE0.out, HP.out, HRP.out]
  · have HP := hid hP
    have d9 : (EE != 0) = true := by simpa using hz
    clear HPE hP hz
    go_wp2_with (refine wpl_storew rfl _ _ _ rfl rfl rfl Z5.out agg_ent zeroE_len (xs := zeroE.v) zeroE_len (ent_one zeroE) ?_)
    intro w6 b6 u6
    go_wp2_with fail
    exact ret_row3e rfl rfl b6 agg_ent zeroE_len rfl (HZP.out EE _ HP.out (u6.ext E5.out (Nat.le_refl _)))
end

section
open Go Go.RowKit

set_option maxHeartbeats 400000 in
theorem rcutW_c (a : Option Addr) (n c : Nat) (at_ many : Int) (w : World) (hn : n ≤ 140737488355328) (hc : n ≤ c) (hc2 : c ≤ 9223372036854775807) (hm : 0 ≤ many) (hm2 : many ≤ 1099511627776) :
    Calls Try.prog 102 #[.slice a n c, .int .i64 at_, .int .i64 many] w (CutPost a n c at_ many w) := by
  by_cases h1 : at_ < 0
  · have hp : ∀ e w', (e = Ending.returned (.tuple #[.slice none 0 0, .int .i64 4]) ∧ w = w') → CutPost a n c at_ many w e w' := by
      rintro e w' ⟨rfl, rfl⟩
      have : roomE n at_ many = 4 := by simp [roomE, h1]
      refine ⟨rfl, ?_⟩
      rw [if_neg (by omega), this]
    refine Calls.mono ?_ hp
    clear hp
    go_enter Try.func102, Try.ntmps102
    go_wp2
    go_ret2
    exact ⟨rfl, rfl⟩
  · have h0 : 0 ≤ at_ := by omega
    by_cases h2 : (n : Int) < at_
    · have hp : ∀ e w', (e = Ending.returned (.tuple #[.slice none 0 0, .int .i64 1]) ∧ w = w') → CutPost a n c at_ many w e w' := by
        rintro e w' ⟨rfl, rfl⟩
        have : roomE n at_ many = 1 := by simp only [roomE, h1, if_false]; rw [if_pos (by omega)]
        refine ⟨rfl, ?_⟩
        rw [if_neg (by omega), this]
      refine Calls.mono ?_ hp
      clear hp
      go_enter Try.func102, Try.ntmps102
      go_wp2
      go_ret2
      exact ⟨rfl, rfl⟩
    · by_cases h3 : (n : Int) - at_ < many
      · have hp : ∀ e w', (e = Ending.returned (.tuple #[.slice none 0 0, .int .i64 1]) ∧ w = w') → CutPost a n c at_ many w e w' := by
          rintro e w' ⟨rfl, rfl⟩
          have : roomE n at_ many = 1 := by simp only [roomE, h1, if_false]; rw [if_pos (by omega)]
          refine ⟨rfl, ?_⟩
          rw [if_neg (by omega), this]
        refine Calls.mono ?_ hp
        clear hp
        go_enter Try.func102, Try.ntmps102
        go_wp2
        go_ret2
        exact ⟨rfl, rfl⟩
      · have hE : roomE n at_ many = 0 := by simp only [roomE, h1, if_false]; rw [if_neg (by omega)]
        have HE := hid hE
        clear hE
        obtain ⟨p, rfl⟩ := Int.eq_ofNat_of_zero_le h0
        obtain ⟨m, rfl⟩ := Int.eq_ofNat_of_zero_le hm
        go_enter Try.func102, Try.ntmps102
        go_wp2
        all_goals
          go_ret2
          refine ⟨rfl, ?_⟩
          rw [if_pos HE.out]
          simp [shift, *]

set_option maxRecDepth 100000 in
theorem noE_c (E : Int) (w : World) :
    Calls Try.prog 101 #[.int .i64 E] w fun e w' => e = .returned (.tuple #[.agg zeroE.v.toArray, .int .i64 0, .int .i64 E]) ∧ Ext w w' := by
  go_enter Try.func101, Try.ntmps101
  go_upto_region 1 with (fail)
  generalize hwA : World.alloc w _ = wA
  have zA : Blk wA w.heap.size zeroE.v 79 := by rw [← hwA]; exact Blk.mk_alloc rfl rfl
  have eA : Ext w wA := by rw [← hwA]; exact (Ext.refl w).alloc _
  have ZA := hid zA
  have EA := hid eA
  clear hwA zA eA
  go_wp2_with (refine wpl_storew rfl _ _ _ rfl rfl rfl ZA.out agg_ent zeroE_len (xs := zeroE.v) zeroE_len (ent_one zeroE) ?_)
  intro wC bC uC
  go_wp2_with fail
  exact ret_row3e rfl rfl bC agg_ent zeroE_len rfl ⟨rfl, uC.ext EA.out (Nat.le_refl _)⟩
end
end Go.Proofs.Ytkcjdginoccgjaa
