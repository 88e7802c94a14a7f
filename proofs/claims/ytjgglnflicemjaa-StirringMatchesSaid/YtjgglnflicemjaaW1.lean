/- The law StirringMatches, walked; condition: the array's length. -/
import Derived.Test.YtjgglnflicemjaaL1
import Derived.Test.YtjgglnflicemjaaS5
import Derived.Test.YtjgglnflicemjaaS6
import Derived.Test.YtjgglnflicemjaaS7
import Derived.Test.YtjgglnflicemjaaH
import Derived.Test.YtjgglnflicemjaaE
namespace Go.Proofs.Ytjgglnflicemjaa
open Go Go.RowKit

theorem guard22 : Try.prog.eqGuardType Try.prog.depth 22 = false := by kernel_rfl

theorem unstir_s (l : List UInt8) (hl : l.length = 64) (w : World) :
    Calls Try.prog 15 #[.agg ((stirL l).map u8v).toArray] w fun e w' => e = .returned (.agg (l.map u8v).toArray) ∧ Ext w w' := by
  have := unstir_c (stirL l) (stirL_length l) w
  rwa [unstir_stir l hl] at this
theorem stir_u (l : List UInt8) (hl : l.length = 64) (w : World) :
    Calls Try.prog 14 #[.agg ((unstirL l).map u8v).toArray] w fun e w' => e = .returned (.agg (l.map u8v).toArray) ∧ Ext w w' := by
  have := stir_c (unstirL l) (unstirL_length l) w
  rwa [stir_unstir l hl] at this

set_option maxRecDepth 100000 in
set_option maxHeartbeats 1000000 in
theorem stirring_c (l : List UInt8) (hl : l.length = 64) (w : World) :
    Calls Try.prog 3 #[.agg (l.map u8v).toArray] w fun e w' => e = .returned (.bool true) ∧ Ext w w' := by
  have hl' : (l.map u8v).length = 64 := by rw [List.length_map]; exact hl
  have HL := hid hl'
  clear hl'
  have HL2 := hid hl
  clear hl
  go_enter Try.func3, Try.ntmps3
  go_wp2_with fail
  refine (landed_c _).mono ?_
  rintro e w1 ⟨rfl, hb1⟩
  have s1 : Blk w1 w.heap.size (l.map u8v) 22 := Blk.ext (Blk.mk_alloc rfl rfl) hb1
  have e1 : Ext w w1 := ((Ext.refl w).alloc _).ext hb1
  clear hb1
  go_wp2_with fail
  obtain ⟨C, hC⟩ : ∃ C : World → Prop, C = fun w' => Ext w1 w' := ⟨_, rfl⟩
  have hC0 : ∀ w', C w' ↔ Ext w1 w' := fun w' => by rw [hC]
  clear hC
  have HC := hid hC0
  clear hC0
  have hCx : ∀ w w', C w → Ext w w' → C w' := fun w w' h1 h2 => (HC.out w').2 (((HC.out w).1 h1).ext h2)
  have hCs : ∀ w', C w' → Blk w' w.heap.size (l.map u8v) 22 := fun w' h => s1.ext ((HC.out w').1 h)
  refine wp_region_al (C := C) 6 [(4, List.replicate 64 (.int .u8 0), 22), (5, List.replicate 64 (.int .u8 0), 22)] w1.heap.size (by kernel_rfl) (by kernel_rfl) (by kernel_rfl)
    ((HC.out _).2 (Ext.refl w1).drew) (fun w o h => hCx _ _ h ((Ext.refl w).alloc o)) (fun w h => ((HC.out w).1 h).size) ?_ ?_
  · intro x hx
    simp only [List.mem_cons, List.not_mem_nil, or_false] at hx
    rcases hx with rfl | rfl
    · exact ⟨_, rfl, rfl, fun _ _ => by rfl⟩
    · exact ⟨_, rfl, rfl, fun _ _ => by rfl⟩
  simp only [List.take_succ_cons, List.take_zero, List.drop_succ_cons, List.drop_zero]
  refine wpQE_do rfl rfl _ (yieldsE_loadw _ _ rfl rfl hCs agg_state HL.out) ?_
  simp only [Act.put, List.setIfInBounds_toArray, List.set_cons_succ, List.set_cons_zero]
  refine wpQE_do rfl rfl _ (yieldsE_call rfl Try.call14 (by simp [Act.eval]) (fun w _ => stir_c l HL2.out w) hCx) ?_
  simp only [Act.put, List.setIfInBounds_toArray, List.set_cons_succ, List.set_cons_zero]
  refine wpQE_do rfl rfl _ (yieldsE_loadw _ _ rfl rfl hCs agg_state HL.out) ?_
  simp only [Act.put, List.setIfInBounds_toArray, List.set_cons_succ, List.set_cons_zero]
  refine wpQE_do rfl rfl _ (yieldsE_call rfl Try.call15 (by simp [Act.eval]) (fun w _ => unstir_c l HL2.out w) hCx) ?_
  simp only [Act.put, List.setIfInBounds_toArray, List.set_cons_succ, List.set_cons_zero]
  refine wpQE_al rfl ?_
  refine wpQE_al rfl ?_
  refine wpQE_nil ?_
  intro gs w2 hw2 hbl hdis
  have hb4 := hbl _ (List.mem_cons_self)
  have hb5 := hbl _ (List.mem_cons_of_mem _ List.mem_cons_self)
  have hne := hdis _ (List.mem_cons_self) _ (List.mem_cons_of_mem _ List.mem_cons_self) (by simp)
  simp only at hb4 hb5 hne
  simp only [putAl, dstOf, ptrOf, Act.put, List.getElem?_toArray, List.getElem?_cons_succ, List.getElem?_cons_zero, Option.bind_some, List.setIfInBounds_toArray, List.set_cons_succ, List.set_cons_zero]
  generalize gs 4 = g4 at *
  generalize gs 5 = g5 at *
  have e2 : Ext w w2 := e1.ext ((HC.out w2).1 hw2)
  have s2 := hCs _ hw2
  have hs1 : ((stirL l).map u8v).length = 64 := by rw [List.length_map, stirL_length]
  have hs2 : ((unstirL l).map u8v).length = 64 := by rw [List.length_map, unstirL_length]
  have HS1 := hid hs1
  have HS2 := hid hs2
  have lt1 := s1.lt
  clear hs1 hs2 hbl hdis hCx hCs HC hw2
  refine wpl_storew rfl _ _ _ rfl rfl rfl hb4.1 agg_state (by simp) HS1.out (one_u8 _) ?_
  intro w3 p4 u4
  have p5 := hb5.1.upd u4 hne.symm
  have s3 := s2.upd u4 (by omega)
  have e3 := u4.ext e2 (by have := e1.size; omega)
  refine wpl_storew rfl _ _ _ rfl rfl rfl p5 agg_state (by simp) HS2.out (one_u8 _) ?_
  intro w4 q5 u5
  have q4 := p4.upd u5 hne
  have s4 := s3.upd u5 (by omega)
  have e4 := u5.ext e3 (by have := e1.size; omega)
  clear p4 u4 p5 s3 e3 u5 hb4 hb5 hne e2 s2 e1 s1 lt1
  refine wpList_nil ?_
  go_wp2_with fail
  obtain ⟨C, hC⟩ : ∃ C : World → Prop, C = fun w' => Ext w4 w' := ⟨_, rfl⟩
  have hC0 : ∀ w', C w' ↔ Ext w4 w' := fun w' => by rw [hC]
  clear hC
  have HC := hid hC0
  clear hC0
  have hCx : ∀ w w', C w → Ext w w' → C w' := fun w w' h1 h2 => (HC.out w').2 (((HC.out w).1 h1).ext h2)
  have hs : ∀ w', C w' → Blk w' w.heap.size (l.map u8v) 22 := fun w' h => s4.ext ((HC.out w').1 h)
  have h4 : ∀ w', C w' → Blk w' g4 ((stirL l).map u8v) 22 := fun w' h => q4.ext ((HC.out w').1 h)
  have h5 : ∀ w', C w' → Blk w' g5 ((unstirL l).map u8v) 22 := fun w' h => q5.ext ((HC.out w').1 h)
  refine wp_region_al (C := C) 22 [] w4.heap.size (by kernel_rfl) (by kernel_rfl) (by kernel_rfl)
    ((HC.out _).2 (Ext.refl w4).drew) (fun w o h => hCx _ _ h ((Ext.refl w).alloc o)) (fun w h => ((HC.out w).1 h).size) (by simp) ?_
  simp only [List.take_succ_cons, List.take_zero, List.drop_succ_cons, List.drop_zero]
  refine wpQE_do rfl rfl _ (yieldsE_loadw _ _ rfl rfl h4 agg_state HS1.out) ?_
  simp only [Act.put, List.setIfInBounds_toArray, List.set_cons_succ, List.set_cons_zero]
  refine wpQE_do rfl rfl _ (yieldsE_loadw _ _ rfl rfl hs agg_state HL.out) ?_
  simp only [Act.put, List.setIfInBounds_toArray, List.set_cons_succ, List.set_cons_zero]
  refine wpQE_do rfl rfl _ (yieldsE_call rfl Try.call16 (by simp [Act.eval]) (fun w _ => rstir_c l HL2.out w) hCx) ?_
  simp only [Act.put, List.setIfInBounds_toArray, List.set_cons_succ, List.set_cons_zero]
  refine wpQE_do rfl rfl _ (yieldsE_cmp .eql _ _ _ _ rfl rfl rfl guard22 (eq_self Try.underlying22 (stirL l) (stirL_length l))) ?_
  simp only [Act.put, List.setIfInBounds_toArray, List.set_cons_succ, List.set_cons_zero]
  refine wpQE_do rfl rfl _ (fun _ _ => ⟨rfl, rfl⟩) ?_
  simp only [Act.put, List.setIfInBounds_toArray, List.set_cons_succ, List.set_cons_zero]
  refine wpQE_do rfl rfl _ (yieldsE_loadw _ _ rfl rfl h5 agg_state HS2.out) ?_
  simp only [Act.put, List.setIfInBounds_toArray, List.set_cons_succ, List.set_cons_zero]
  refine wpQE_do rfl rfl _ (yieldsE_loadw _ _ rfl rfl hs agg_state HL.out) ?_
  simp only [Act.put, List.setIfInBounds_toArray, List.set_cons_succ, List.set_cons_zero]
  refine wpQE_do rfl rfl _ (yieldsE_call rfl Try.call17 (by simp [Act.eval]) (fun w _ => runstir_c l HL2.out w) hCx) ?_
  simp only [Act.put, List.setIfInBounds_toArray, List.set_cons_succ, List.set_cons_zero]
  refine wpQE_do rfl rfl _ (yieldsE_cmp .eql _ _ _ _ rfl rfl rfl guard22 (eq_self Try.underlying22 (unstirL l) (unstirL_length l))) ?_
  simp only [Act.put, List.setIfInBounds_toArray, List.set_cons_succ, List.set_cons_zero]
  refine wpQE_do rfl rfl _ (fun _ _ => ⟨rfl, rfl⟩) ?_
  simp only [Act.put, List.setIfInBounds_toArray, List.set_cons_succ, List.set_cons_zero]
  refine wpQE_do rfl rfl _ (fun _ _ => ⟨rfl, rfl⟩) ?_
  simp only [Act.put, List.setIfInBounds_toArray, List.set_cons_succ, List.set_cons_zero]
  refine wpQE_do rfl rfl _ (yieldsE_loadw _ _ rfl rfl h4 agg_state HS1.out) ?_
  simp only [Act.put, List.setIfInBounds_toArray, List.set_cons_succ, List.set_cons_zero]
  refine wpQE_do rfl rfl _ (yieldsE_call rfl Try.call15 (by simp [Act.eval]) (fun w _ => unstir_s l HL2.out w) hCx) ?_
  simp only [Act.put, List.setIfInBounds_toArray, List.set_cons_succ, List.set_cons_zero]
  refine wpQE_do rfl rfl _ (yieldsE_loadw _ _ rfl rfl hs agg_state HL.out) ?_
  simp only [Act.put, List.setIfInBounds_toArray, List.set_cons_succ, List.set_cons_zero]
  refine wpQE_do rfl rfl _ (yieldsE_cmp .eql _ _ _ _ rfl rfl rfl guard22 (eq_self Try.underlying22 l HL2.out)) ?_
  simp only [Act.put, List.setIfInBounds_toArray, List.set_cons_succ, List.set_cons_zero]
  refine wpQE_do rfl rfl _ (fun _ _ => ⟨rfl, rfl⟩) ?_
  simp only [Act.put, List.setIfInBounds_toArray, List.set_cons_succ, List.set_cons_zero]
  refine wpQE_do rfl rfl _ (fun _ _ => ⟨rfl, rfl⟩) ?_
  simp only [Act.put, List.setIfInBounds_toArray, List.set_cons_succ, List.set_cons_zero]
  refine wpQE_do rfl rfl _ (yieldsE_loadw _ _ rfl rfl h5 agg_state HS2.out) ?_
  simp only [Act.put, List.setIfInBounds_toArray, List.set_cons_succ, List.set_cons_zero]
  refine wpQE_do rfl rfl _ (yieldsE_call rfl Try.call14 (by simp [Act.eval]) (fun w _ => stir_u l HL2.out w) hCx) ?_
  simp only [Act.put, List.setIfInBounds_toArray, List.set_cons_succ, List.set_cons_zero]
  refine wpQE_do rfl rfl _ (yieldsE_loadw _ _ rfl rfl hs agg_state HL.out) ?_
  simp only [Act.put, List.setIfInBounds_toArray, List.set_cons_succ, List.set_cons_zero]
  refine wpQE_do rfl rfl _ (yieldsE_cmp .eql _ _ _ _ rfl rfl rfl guard22 (eq_self Try.underlying22 l HL2.out)) ?_
  simp only [Act.put, List.setIfInBounds_toArray, List.set_cons_succ, List.set_cons_zero]
  refine wpQE_do rfl rfl _ (fun _ _ => ⟨rfl, rfl⟩) ?_
  simp only [Act.put, List.setIfInBounds_toArray, List.set_cons_succ, List.set_cons_zero]
  refine wpQE_nil ?_
  intro gs w5 hw5 _ _
  have e5 := e4.ext ((HC.out w5).1 hw5)
  simp only [putAl, Act.put, List.setIfInBounds_toArray, List.set_cons_succ, List.set_cons_zero]
  clear hs h4 h5 hCx HC hw5 s4 q4 q5 e4
  go_wp2
  go_ret
  exact ⟨rfl, e5⟩
end Go.Proofs.Ytjgglnflicemjaa
