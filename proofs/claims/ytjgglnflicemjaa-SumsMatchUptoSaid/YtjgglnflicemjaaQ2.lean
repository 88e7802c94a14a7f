/- The law TagsMatch, walked; conditions: the lengths. -/
import Derived.Test.YtjgglnflicemjaaP13
import Derived.Test.YtjgglnflicemjaaQ1
namespace Go.Proofs.Ytjgglnflicemjaa
open Go Go.RowKit

theorem guard_tag : Try.prog.eqGuardType Try.prog.depth 72 = false := by kernel_rfl
theorem guard_seal : Try.prog.eqGuardType Try.prog.depth 75 = false := by kernel_rfl
section
variable {P : Program} {ops : Array Oper} {rest : List Oper} {o : Oper} {a : Act} {w : World} {Q : Exit → Act → World → Prop}
theorem wpList_want (hw : Region.wanted o (yielded ops a.tmps) = true) (h : ∀ K : Act → World → Prop, (∀ a w, wpList P ops Q rest a w → K a w) → o.wp P a w K Q) : wpList P ops Q (o :: rest) a w :=
  wpList_step fun K hK => by rw [if_pos hw]; exact h K hK
/-- a load that stands behind a guard -/
theorem wpg_loadw (hw : Region.wanted o (yielded ops a.tmps) = true) (ty : TypeId) (x : Operand) (ho : o.op = .load ty x) {g : Nat} {vs : List Value} {T : TypeId}
    (hx : a.eval x = .pointer (some ⟨g, 0, none⟩)) (hb : Blk w g vs T) {n : Nat} (ht : AggT P ty n) (hn : vs.length = n)
    (h : wpList P ops Q rest (a.put o.dst (.agg vs.toArray)) w) : wpList P ops Q (o :: rest) a w :=
  wpList_want hw fun K hK => by
    have h1 := run_load_sub (P := P) (off := 0) hb ht (by omega)
    have h2 : (vs.drop 0).take n = vs := by simp [← hn]
    rw [h2] at h1
    unfold Oper.wp execOp
    simp only [ho, hx, Instr.loadAt, Instr.sureAddr, Sem.run_bind, Sem.run_pure, Result.andThen_ok, h1]
    exact hK _ _ h
/-- a comparison of arrays, whether behind a guard or not -/
theorem wpg_cmp (hw : Region.wanted o (yielded ops a.tmps) = true) (op : BinOp) (t u : TypeId) (x y : Operand) (ho : o.op = .binOp op t x y u) {xs ys : Array Value} {b : Value} (hx : a.eval x = .agg xs) (hy : a.eval y = .agg ys)
    (hg : P.eqGuardType P.depth t = false) (hr : ∀ w, (binOp op t (.agg xs) (.agg ys)).run P w = .ok b w)
    (h : wpList P ops Q rest (a.put o.dst b) w) : wpList P ops Q (o :: rest) a w :=
  wpList_want hw fun K hK => by
    unfold Oper.wp execOp
    simp only [ho, hx, hy, Sem.run_bind, run_eqGuard_agg w op t x y xs ys hg, Result.andThen_ok, hr, Sem.run_pure]
    exact hK _ _ h
end
theorem zeros_u8 (n : Nat) : List.replicate n (Value.int .u8 0) = (List.replicate n (0 : UInt8)).map u8v := by simp [u8v]

set_option maxRecDepth 100000 in
set_option maxHeartbeats 1000000 in
theorem tags_c (k t : List UInt8) (n c : Nat) (a : Option Addr) (w : World) (hk : k.length = 32) (ht : t.length = n) (hnc : n ≤ c) (hc : c ≤ 140737488351232) (hcl : Cells w a (t.map u8v)) (h0 : a = none → c = 0) :
    Calls Try.prog 9 #[.agg (k.map u8v).toArray, .slice a n c] w fun e w' => e = .returned (.bool true) ∧ Ext w w' := by
  have HC := hid hcl
  have HKL : Hid ((k.map u8v).length = 32) := hid (by rw [List.length_map]; exact hk)
  have htag := fun w h => tagOf_c k t n c a w hk ht hnc (by omega) h0 h
  have hseal := fun w h => sealOf_c k t n c a w hk ht hnc (by omega) h0 h
  by_cases hfit : n ≤ 1048544
  · simp only [if_pos hfit] at htag hseal
    have hrtag := fun w h => rtag_c k t n c a w hk ht hfit h0 h
    have hrseal := fun w h => rseal_c k t n c a w hk ht hfit h0 h
    have hle : decide ((1048544 : Int) < (n : Int)) = false := decide_eq_false (by omega)
    have o1 := one_u8 (tagL k t)
    have o2 := one_u8 (sealL k t)
    have HT1 : Hid ((tagL k t).length = 16) := hid (tagL_length k t)
    have HT2 : Hid ((sealL k t).length = 64) := hid (sealL_length k t)
    have HT3 : Hid (((tagL k t).map u8v).length = 16) := hid (by rw [List.length_map, tagL_length])
    have HT4 : Hid (((sealL k t).map u8v).length = 64) := hid (by rw [List.length_map, sealL_length])
    generalize tagL k t = tg at *
    generalize sealL k t = sl at *
    clear hk ht hcl h0
    go_enter Try.func9, Try.ntmps9
    go_wp2_with fail
    generalize hwA : World.alloc w _ = wA
    have kA : Blk wA w.heap.size (k.map u8v) 54 := by rw [← hwA]; exact Blk.mk_alloc rfl rfl
    have eA : Ext w wA := by rw [← hwA]; exact (Ext.refl w).alloc _
    clear hwA
    refine (landed_c _).mono ?_
    rintro e w1 ⟨rfl, e1⟩
    have HK1 := hid (kA.ext e1)
    have HE1 := hid (eA.ext e1)
    clear kA eA e1
    go_wp2_with (refine wpl_loadw rfl _ _ rfl rfl HK1.out agg_key HKL.out ?_)
    refine (htag w1 (HC.out.ext HE1.out)).mono ?_
    rintro e w2 ⟨rfl, e2⟩
    have HK2 := hid (HK1.out.ext e2)
    have HE2 := hid (HE1.out.ext e2)
    clear e2
    go_wp2_with (first | (refine wpl_storew rfl _ _ _ rfl rfl rfl (Blk.mk_alloc rfl rfl) agg_tag rfl HT3.out o1 ?_))
    intro w3 b3 u3
    have e3 : Ext w2 w3 := u3.ext ((Ext.refl w2).alloc _) (Nat.le_refl _)
    have HK3 := hid (HK2.out.ext e3)
    have HE3 := hid (HE2.out.ext e3)
    have HB3 := hid b3
    have l2 := HK2.out.lt
    have l3 := e3.size
    clear e3 u3 b3 HK2 HE2
    generalize w2.heap.size = g2 at *
    go_wp2_with (first | (refine wpl_loadw rfl _ _ rfl rfl HK3.out agg_key HKL.out ?_))
    refine (hseal w3 (HC.out.ext HE3.out)).mono ?_
    rintro e w4 ⟨rfl, e4⟩
    have HK4 := hid (HK3.out.ext e4)
    have HB4 := hid (HB3.out.ext e4)
    have HE4 := hid (HE3.out.ext e4)
    have l4 := HB4.out.lt
    clear e4
    go_wp2_with (first | (refine wpl_storew rfl _ _ _ rfl rfl rfl (Blk.mk_alloc rfl rfl) agg_seal rfl HT4.out o2 ?_))
    intro w5 b5 u5
    have e5 : Ext w4 w5 := u5.ext ((Ext.refl w4).alloc _) (Nat.le_refl _)
    have HK5 := hid (HK4.out.ext e5)
    have HB5 := hid (HB4.out.ext e5)
    have HE5 := hid (HE4.out.ext e5)
    have HS5 := hid b5
    clear e5 u5 b5 HK4 HB4 HE4
    generalize w4.heap.size = g4 at *
    go_wp2
    obtain ⟨C, hC⟩ : ∃ C : World → Prop, C = fun w' => Ext w5 w' := ⟨_, rfl⟩
    have hC0 : ∀ w', C w' ↔ Ext w5 w' := fun w' => by rw [hC]
    clear hC
    have HCC := hid hC0
    clear hC0
    have hCx : ∀ w w', C w → Ext w w' → C w' := fun w w' h1 h2 => (HCC.out w').2 (((HCC.out w).1 h1).ext h2)
    have hs1 : ∀ w', C w' → Blk w' g2 (tg.map u8v) 72 := fun w' h => HB5.out.ext ((HCC.out w').1 h)
    have hs2 : ∀ w', C w' → Blk w' g4 (sl.map u8v) 75 := fun w' h => HS5.out.ext ((HCC.out w').1 h)
    have hs3 : ∀ w', C w' → Blk w' w.heap.size (k.map u8v) 54 := fun w' h => HK5.out.ext ((HCC.out w').1 h)
    have hs4 : ∀ w', C w' → Cells w' a (t.map u8v) := fun w' h => (HC.out.ext HE5.out).ext ((HCC.out w').1 h)
    refine wp_region_al (C := C) 21 [] w5.heap.size (by kernel_rfl) (by kernel_rfl) (by kernel_rfl) ((HCC.out _).2 (Ext.refl w5).drew) (fun w o h => hCx _ _ h ((Ext.refl w).alloc o)) (fun w h => ((HCC.out w).1 h).size) (by simp) ?_
    simp only [List.take_succ_cons, List.take_zero, List.drop_succ_cons, List.drop_zero]
    refine wpQE_do rfl rfl _ (fun _ _ => ⟨rfl, rfl⟩) ?_
    simp only [Act.put, List.setIfInBounds_toArray, List.set_cons_succ, List.set_cons_zero]
    refine wpQE_do rfl rfl _ (fun _ _ => ⟨rfl, rfl⟩) ?_
    simp only [Act.put, List.setIfInBounds_toArray, List.set_cons_succ, List.set_cons_zero]
    refine wpQE_do rfl rfl _ (fun _ _ => ⟨rfl, rfl⟩) ?_
    simp only [Act.put, List.setIfInBounds_toArray, List.set_cons_succ, List.set_cons_zero]
    refine wpQE_do rfl rfl _ (fun _ _ => ⟨rfl, rfl⟩) ?_
    simp only [Act.put, List.setIfInBounds_toArray, List.set_cons_succ, List.set_cons_zero]
    refine wpQE_do rfl rfl _ (fun _ _ => ⟨rfl, rfl⟩) ?_
    simp only [Act.put, List.setIfInBounds_toArray, List.set_cons_succ, List.set_cons_zero]
    refine wpQE_do rfl rfl _ (fun _ _ => ⟨rfl, rfl⟩) ?_
    simp only [Act.put, List.setIfInBounds_toArray, List.set_cons_succ, List.set_cons_zero]
    refine wpQE_do rfl rfl _ (fun _ _ => ⟨rfl, rfl⟩) ?_
    simp only [Act.put, List.setIfInBounds_toArray, List.set_cons_succ, List.set_cons_zero]
    refine wpQE_do rfl rfl _ (yieldsE_loadw _ _ rfl rfl hs1 agg_tag HT3.out) ?_
    simp only [Act.put, List.setIfInBounds_toArray, List.set_cons_succ, List.set_cons_zero]
    refine wpQE_do rfl rfl _ (yieldsE_loadw _ _ rfl rfl hs3 agg_key HKL.out) ?_
    simp only [Act.put, List.setIfInBounds_toArray, List.set_cons_succ, List.set_cons_zero]
    refine wpQE_do rfl rfl _ (fun _ _ => ⟨rfl, rfl⟩) ?_
    simp only [Act.put, List.setIfInBounds_toArray, List.set_cons_succ, List.set_cons_zero]
    refine wpQE_do rfl rfl _ (yieldsE_call rfl Try.call41 (by simp [Act.eval]) (fun w h => hrtag w (hs4 w h)) hCx) ?_
    simp only [Act.put, List.setIfInBounds_toArray, List.set_cons_succ, List.set_cons_zero]
    refine wpQE_do rfl rfl _ (yieldsE_cmp .eql _ _ _ _ rfl rfl rfl guard_tag (eq_self Try.underlying72 tg HT1.out)) ?_
    simp only [Act.put, List.setIfInBounds_toArray, List.set_cons_succ, List.set_cons_zero]
    refine wpQE_do rfl rfl _ (fun _ _ => ⟨rfl, rfl⟩) ?_
    simp only [Act.put, List.setIfInBounds_toArray, List.set_cons_succ, List.set_cons_zero]
    refine wpQE_do rfl rfl _ (fun _ _ => ⟨rfl, rfl⟩) ?_
    simp only [Act.put, List.setIfInBounds_toArray, List.set_cons_succ, List.set_cons_zero]
    refine wpQE_do rfl rfl _ (yieldsE_loadw _ _ rfl rfl hs2 agg_seal HT4.out) ?_
    simp only [Act.put, List.setIfInBounds_toArray, List.set_cons_succ, List.set_cons_zero]
    refine wpQE_do rfl rfl _ (yieldsE_loadw _ _ rfl rfl hs3 agg_key HKL.out) ?_
    simp only [Act.put, List.setIfInBounds_toArray, List.set_cons_succ, List.set_cons_zero]
    refine wpQE_do rfl rfl _ (fun _ _ => ⟨rfl, rfl⟩) ?_
    simp only [Act.put, List.setIfInBounds_toArray, List.set_cons_succ, List.set_cons_zero]
    refine wpQE_do rfl rfl _ (yieldsE_call rfl Try.call42 (by simp [Act.eval]) (fun w h => hrseal w (hs4 w h)) hCx) ?_
    simp only [Act.put, List.setIfInBounds_toArray, List.set_cons_succ, List.set_cons_zero]
    refine wpQE_do rfl rfl _ (yieldsE_cmp .eql _ _ _ _ rfl rfl rfl guard_seal (eq_self Try.underlying75 sl HT2.out)) ?_
    simp only [Act.put, List.setIfInBounds_toArray, List.set_cons_succ, List.set_cons_zero]
    refine wpQE_do rfl rfl _ (fun _ _ => ⟨rfl, rfl⟩) ?_
    simp only [Act.put, List.setIfInBounds_toArray, List.set_cons_succ, List.set_cons_zero]
    refine wpQE_do rfl rfl _ (fun _ _ => ⟨rfl, rfl⟩) ?_
    simp only [Act.put, List.setIfInBounds_toArray, List.set_cons_succ, List.set_cons_zero]
    refine wpQE_nil ?_
    intro gs w7 hCw7 _ _
    have ew7 := (HCC.out w7).1 hCw7
    simp only [putAl, Act.put, List.setIfInBounds_toArray, List.set_cons_succ, List.set_cons_zero]
    have e7 := hid (HE5.out.ext ew7)
    clear hs1 hs2 hs3 hs4 hCx HCC hCw7 ew7
    go_wp2
    go_ret
    exact ⟨rfl, e7.out⟩
  · simp only [if_neg hfit] at htag hseal
    have hle : decide ((1048544 : Int) < (n : Int)) = true := decide_eq_true (by omega)
    have q1 := eq_self Try.underlying72 (List.replicate 16 0) (by simp)
    have q2 := eq_self Try.underlying75 (List.replicate 64 0) (by simp)
    rw [← zeros_u8] at q1 q2
    have Q1 := hid q1
    have Q2 := hid q2
    clear q1 q2
    clear hk ht hcl h0
    go_enter Try.func9, Try.ntmps9
    go_wp2_with fail
    generalize hwA : World.alloc w _ = wA
    have kA : Blk wA w.heap.size (k.map u8v) 54 := by rw [← hwA]; exact Blk.mk_alloc rfl rfl
    have eA : Ext w wA := by rw [← hwA]; exact (Ext.refl w).alloc _
    clear hwA
    refine (landed_c _).mono ?_
    rintro e w1 ⟨rfl, e1⟩
    have HK1 := hid (kA.ext e1)
    have HE1 := hid (eA.ext e1)
    clear kA eA e1
    go_wp2_with (refine wpl_loadw rfl _ _ rfl rfl HK1.out agg_key HKL.out ?_)
    refine (htag w1 (HC.out.ext HE1.out)).mono ?_
    rintro e w2 ⟨rfl, e2⟩
    have HK2 := hid (HK1.out.ext e2)
    have HE2 := hid (HE1.out.ext e2)
    clear e2
    unfold zeros
    go_wp2_with (first | (refine wpl_storew rfl _ _ _ rfl rfl rfl (Blk.mk_alloc rfl rfl) agg_tag rfl (xs := List.replicate 16 (.int .u8 0)) (by simp) (one_zeros 16) ?_))
    intro w3 b3 u3
    have e3 : Ext w2 w3 := u3.ext ((Ext.refl w2).alloc _) (Nat.le_refl _)
    have HK3 := hid (HK2.out.ext e3)
    have HE3 := hid (HE2.out.ext e3)
    have HB3 := hid b3
    have l2 := HK2.out.lt
    have l3 := e3.size
    clear e3 u3 b3 HK2 HE2
    generalize w2.heap.size = g2 at *
    go_wp2_with (first | (refine wpl_loadw rfl _ _ rfl rfl HK3.out agg_key HKL.out ?_))
    refine (hseal w3 (HC.out.ext HE3.out)).mono ?_
    rintro e w4 ⟨rfl, e4⟩
    have HB4 := hid (HB3.out.ext e4)
    have HE4 := hid (HE3.out.ext e4)
    have l4 := HB4.out.lt
    clear e4
    unfold zeros
    go_wp2_with (first | (refine wpl_storew rfl _ _ _ rfl rfl rfl (Blk.mk_alloc rfl rfl) agg_seal rfl (xs := List.replicate 64 (.int .u8 0)) (by simp) (one_zeros 64) ?_))
    intro w5 b5 u5
    have e5 : Ext w4 w5 := u5.ext ((Ext.refl w4).alloc _) (Nat.le_refl _)
    have HB5 := hid (HB4.out.ext e5)
    have HE5 := hid (HE4.out.ext e5)
    have HS5 := hid b5
    clear e5 u5 b5 HB4 HE4
    generalize w4.heap.size = g4 at *
    go_wp2_with (first | (refine wpg_loadw (by rfl) _ _ rfl rfl HB5.out agg_tag (by simp) ?_) | (refine wpg_loadw (by rfl) _ _ rfl rfl HS5.out agg_seal (by simp) ?_) | (refine wpg_cmp (by rfl) .eql 72 _ _ _ rfl rfl rfl guard_tag Q1.out ?_) | (refine wpg_cmp (by rfl) .eql 75 _ _ _ rfl rfl rfl guard_seal Q2.out ?_))
    go_ret
    exact ⟨rfl, HE5.out⟩
end Go.Proofs.Ytjgglnflicemjaa
