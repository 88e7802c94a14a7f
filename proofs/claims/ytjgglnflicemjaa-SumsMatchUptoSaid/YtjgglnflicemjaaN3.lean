/- Contract of Long; conditions: the slice's size. -/
import Derived.Test.YtjgglnflicemjaaN2
import Derived.Test.YtjgglnflicemjaaS3
namespace Go.Proofs.Ytjgglnflicemjaa
open Go Go.RowKit

section
variable {P : Program} {C : World → Prop} {o : Oper} {a : Act} {K : Act → Prop}
theorem run_load_cells {b off n : Nat} {w : World} {vs : List Value} {ty : TypeId} (hb : ∀ j u, vs[j]? = some u → w.cell? ⟨b, off + j, none⟩ = some u) (ht : AggT P ty n) (hn : vs.length = n) :
    (loadVar ty ⟨b, off, none⟩).run P w = .ok (.agg vs.toArray) w := by
  obtain ⟨⟨d, hu, hd⟩, hi⟩ := ht
  have hl : (loadCells ⟨b, off, none⟩ vs.length).run P w = .ok vs.toArray w :=
    run_loadCells_list (P := P) w ⟨b, off, none⟩ _ (fun j v hv => by
      have hadd : (⟨b, off, none⟩ : Addr).add j = ⟨b, off + j, none⟩ := by unfold Addr.add; split <;> simp_all
      rw [hadd]
      exact hb j v hv)
  rw [hn] at hl
  cases hq : P.info? ty with
  | none => simp [hq] at hi
  | some i =>
    have hs : i.size = n := by simpa [hq] using hi
    have hagg : (isAgg ty).run P w = .ok true w := by
      unfold isAgg
      rw [Sem.run_bind, run_underlying hu w]
      cases d <;> simp_all
    simp [loadVar, hagg, sizeOf, typeInfo, hq, hs, hl]
theorem quiet_loadc (ty : TypeId) (x : Operand) (ho : o.op = .load ty x) {b off n : Nat} {vs : List Value}
    (hx : a.eval x = .pointer (some ⟨b, off, none⟩)) (hb : ∀ w, C w → ∀ j u, vs[j]? = some u → w.cell? ⟨b, off + j, none⟩ = some u) (ht : AggT P ty n) (hn : vs.length = n)
    (h : K (a.put o.dst (.agg vs.toArray))) : o.quiet P a C K :=
  ⟨_, fun w hw => by
    unfold Oper.quietAt execOp
    simp only [ho, hx, Instr.loadAt, Instr.sureAddr, Sem.run_bind, Sem.run_pure, Result.andThen_ok, run_load_cells (hb w hw) ht hn]
    exact ⟨rfl, rfl⟩, h⟩
theorem quiet_callw {f : FuncId} {xs : Array Operand} {ts : Array TypeId} {args : Array Value} {v : Value} (ho : o.op = .call { callee := .value (.func f), args := xs, argTypes := ts })
    (hf : ∀ args w, (callFunc f args).run P w = .ok (.enter f args) w) (ha : xs.map a.eval = args)
    (hc : ∀ w, C w → Calls P f args w (fun e w' => e = .returned v ∧ C w')) (h : K (a.put o.dst v)) : o.quiet P a C K :=
  ⟨v, fun w hw => by
    have hr : (execOp a.eval o).run P w = .ok (.enter f args) w := by
      unfold execOp
      simp only [ho, resolve, Act.eval, Deferred.ofValue, Sem.run_bind, Sem.run_pure, Result.andThen_ok, invoke]
      have : (#[] ++ xs.map a.eval ++ #[] : Array Value) = args := by simp [ha]
      simpa [ha] using hf args w
    unfold Oper.quietAt
    rw [hr]
    exact ⟨rfl, hc w hw⟩, h⟩
end


set_option maxRecDepth 100000 in
set_option maxHeartbeats 1000000 in
theorem long_c (l : List UInt8) (a : Option Addr) (n c : Nat) (at_ : Int) (w : World) (hnl : l.length = n) (hn : n ≤ 140737488355328) (hc : n ≤ c) (hcl : Cells w a (l.map u8v)) :
    Calls Try.prog 27 #[.slice a n c, .int .i64 at_] w fun e w' => e = .returned (longOf l n at_) ∧ Ext w w' := by
  by_cases h : roomE n at_ 8 = 0
  · obtain ⟨p, rfl, hp⟩ := roomE_zero h (by omega)
    have hv : longOf l n (p : Int) = if long8 l p ≤ 4611686018427387904 then .tuple #[.int .i64 (long8 l p : Nat), .int .i64 0] else .tuple #[.int .i64 0, .int .i64 4] := by rw [longOf, if_pos h]; rfl
    obtain ⟨b, off, rfl, hcell⟩ := hcl.some_of (by rw [List.length_map]; omega)
    have c0 := cells4 hcell p (by omega)
    have c1 := cells4 hcell (p + 1) (by omega)
    have c2 := cells4 hcell (p + 2) (by omega)
    have c3 := cells4 hcell (p + 3) (by omega)
    have c4 := cells4 hcell (p + 4) (by omega)
    have c5 := cells4 hcell (p + 5) (by omega)
    have c6 := cells4 hcell (p + 6) (by omega)
    have c7 := cells4 hcell (p + 7) (by omega)
    simp only [← Nat.add_assoc] at c1 c2 c3 c4 c5 c6 c7
    have hlt := block_lt_of_cell c0
    have H := hid h
    have HV := hid hv
    have HN := hid hnl
    clear h hv hcl hcell hnl
    have ne : ¬ c = p := by omega
    have ne4 : ¬ c = p + 4 := by omega
    have ha := run_arrayAt (P := Try.prog) Try.underlying111 (len := 4) (Nat.le_refl 4)
    go_enter Try.func27, Try.ntmps27
    go_wp2_with fail
    refine (room_c _ n c _ 8 w (by omega) (by omega) (by omega)).mono ?_
    rintro e w' ⟨rfl, rfl⟩
    rw [H.out]
    go_wp2_with fail
    obtain ⟨C, hC⟩ : ∃ C : World → Prop, C = fun w' => Ext w w' := ⟨_, rfl⟩
    have hC0 : ∀ w', C w' ↔ Ext w w' := fun w' => by rw [hC]
    clear hC
    have HC := hid hC0
    clear hC0
    have hCx : ∀ w w', C w → Ext w w' → C w' := fun w w' h1 h2 => (HC.out w').2 (((HC.out w).1 h1).ext h2)
    have hCa : ∀ w', C w' → ∀ j u, [u8v (l[p]?.getD 0), u8v (l[p + 1]?.getD 0), u8v (l[p + 2]?.getD 0), u8v (l[p + 3]?.getD 0)][j]? = some u → w'.cell? ⟨b, off + p + j, none⟩ = some u := by
      intro w' h j u hu
      rw [((HC.out w').1 h).cell (p := ⟨b, _, none⟩) hlt]
      match j, hu with
      | 0, hu => cases hu; exact c0
      | 1, hu => cases hu; exact c1
      | 2, hu => cases hu; exact c2
      | 3, hu => cases hu; exact c3
    have hCb : ∀ w', C w' → ∀ j u, [u8v (l[p + 4]?.getD 0), u8v (l[p + 5]?.getD 0), u8v (l[p + 6]?.getD 0), u8v (l[p + 7]?.getD 0)][j]? = some u → w'.cell? ⟨b, off + (p + 4) + j, none⟩ = some u := by
      intro w' h j u hu
      rw [((HC.out w').1 h).cell (p := ⟨b, _, none⟩) hlt]
      match j, hu with
      | 0, hu => cases hu; exact c4
      | 1, hu => cases hu; exact c5
      | 2, hu => cases hu; exact c6
      | 3, hu => cases hu; exact c7
    clear c0 c1 c2 c3 c4 c5 c6 c7
    refine wp_region_cls (C := C) 21 (by kernel_rfl) (by kernel_rfl) ((HC.out _).2 (Ext.refl w).drew) ?_
    simp only [List.take_succ_cons, List.take_zero, List.drop_succ_cons, List.drop_zero]
    have k4 : IntKind.i64.wrap ((p : Int) + 4) = (p : Int) + 4 := IntWalk.i64_in _ (by omega)
    have k8 : IntKind.i64.wrap ((p : Int) + 8) = (p : Int) + 8 := IntWalk.i64_in _ (by omega)
    have i0 : (0 : Int) ≤ (p : Int) + 4 := by omega
    have i1 : (p : Int) + 4 ≤ (c : Int) := by omega
    have i2 : (p : Int) ≤ (p : Int) + 4 := by omega
    have i3 : (0 : Int) ≤ (p : Int) + 8 := by omega
    have i4 : (p : Int) + 8 ≤ (c : Int) := by omega
    have t4 : ((p : Int) + 4).toNat = p + 4 := by omega
    have t8 : ((p : Int) + 8).toNat = p + 8 := by omega
    have d8 : p + 8 - (p + 4) = 4 := by omega
    have hx := (word4 l p).toNat_lt
    have hy := (word4 l (p + 4)).toNat_lt
    have wx : IntKind.u64.wrap ((word4 l p).toNat : Int) = ((word4 l p).toNat : Int) := IntWalk.u64_in _ (by omega)
    have wy : IntKind.u64.wrap ((word4 l (p + 4)).toNat : Int) = ((word4 l (p + 4)).toNat : Int) := IntWalk.u64_in _ (by omega)
    have wz : IntKind.u64.wrap ((word4 l p).toNat * 4294967296 : Int) = ((word4 l p).toNat * 4294967296 : Int) := IntWalk.u64_in _ (by omega)
    have ho := or_u64 (word4 l p) (word4 l (p + 4))
    rw [show (word4 l p).toNat * 4294967296 + (word4 l (p + 4)).toNat = long8 l p from rfl] at ho
    have hw4 : ∀ q w', C w' → Calls Try.prog 70 #[.agg #[.int .u8 (l[q]?.getD 0).toNat, .int .u8 (l[q + 1]?.getD 0).toNat, .int .u8 (l[q + 2]?.getD 0).toNat, .int .u8 (l[q + 3]?.getD 0).toNat]] w' fun e w'' => e = .returned (.int .u32 (word4 l q).toNat) ∧ C w'' :=
      fun q w' h => (word_c _ _ _ _ w').mono fun e w'' ⟨h1, h2⟩ => ⟨h1, hCx _ _ h h2⟩
    clear hx hy
    iterate 6
      refine wpQuiet_step (fun K hK => ?_)
      rw [if_pos (by rfl)]
      apply Exists.intro
      refine ⟨fun w hw => ?_, hK _ ?_⟩
      go_simp
      first | exact rfl | exact ⟨rfl, rfl⟩
      clear hK K
      simp only [Act.put, List.setIfInBounds_toArray, List.set_cons_succ, List.set_cons_zero]
    refine wpQuiet_step (fun K hK => ?_)
    rw [if_pos (by rfl)]
    refine quiet_loadc _ _ rfl rfl hCa agg_four rfl (hK _ ?_)
    clear hK K
    simp only [Act.put, List.setIfInBounds_toArray, List.set_cons_succ, List.set_cons_zero]
    refine wpQuiet_step (fun K hK => ?_)
    rw [if_pos (by rfl)]
    refine quiet_callw rfl Try.call70 (by simp [Act.eval, u8v]) (hw4 p) (hK _ ?_)
    clear hK K
    simp only [Act.put, List.setIfInBounds_toArray, List.set_cons_succ, List.set_cons_zero]
    iterate 8
      refine wpQuiet_step (fun K hK => ?_)
      rw [if_pos (by rfl)]
      apply Exists.intro
      refine ⟨fun w hw => ?_, hK _ ?_⟩
      go_simp
      first | exact rfl | exact ⟨rfl, rfl⟩
      clear hK K
      simp only [Act.put, List.setIfInBounds_toArray, List.set_cons_succ, List.set_cons_zero]
    refine wpQuiet_step (fun K hK => ?_)
    rw [if_pos (by rfl)]
    apply Exists.intro
    refine ⟨fun w hw => ?_, hK _ ?_⟩
    go_simp
    first | exact rfl | exact ⟨rfl, rfl⟩
    clear hK K
    simp only [Act.put, List.setIfInBounds_toArray, List.set_cons_succ, List.set_cons_zero]
    refine wpQuiet_step (fun K hK => ?_)
    rw [if_pos (by rfl)]
    refine quiet_loadc _ _ rfl rfl hCb agg_four rfl (hK _ ?_)
    clear hK K
    simp only [Act.put, List.setIfInBounds_toArray, List.set_cons_succ, List.set_cons_zero]
    refine wpQuiet_step (fun K hK => ?_)
    rw [if_pos (by rfl)]
    refine quiet_callw rfl Try.call70 (by simp [Act.eval, u8v]) (hw4 (p + 4)) (hK _ ?_)
    clear hK K
    simp only [Act.put, List.setIfInBounds_toArray, List.set_cons_succ, List.set_cons_zero]
    refine wpQuiet_step (fun K hK => ?_)
    rw [if_pos (by rfl)]
    apply Exists.intro
    refine ⟨fun w hw => ?_, hK _ ?_⟩
    go_simp
    first | exact rfl | exact ⟨rfl, rfl⟩
    clear hK K
    simp only [Act.put, List.setIfInBounds_toArray, List.set_cons_succ, List.set_cons_zero]
    refine wpQuiet_step (fun K hK => ?_)
    rw [if_pos (by rfl)]
    apply Exists.intro
    refine ⟨fun w hw => ?_, hK _ ?_⟩
    go_simp
    first | exact rfl | exact ⟨rfl, rfl⟩
    clear hK K
    simp only [Act.put, List.setIfInBounds_toArray, List.set_cons_succ, List.set_cons_zero]
    refine wpQuiet_nil ?_
    intro w2 hw2
    have e2 := (HC.out w2).1 hw2
    clear hw2 HC hCx hCa hCb hw4 wx wy wz ho k4 k8 i0 i1 i2 i3 i4 t4 t8 d8 ha ne ne4 hp hc
    by_cases hbig : long8 l p ≤ 4611686018427387904
    · rw [if_pos hbig] at HV
      have hdec : decide ((4611686018427387904 : Int) < (long8 l p : Int)) = false := decide_eq_false (by omega)
      have hk : IntKind.i64.wrap (long8 l p : Int) = (long8 l p : Int) := IntWalk.i64_in _ (by omega)
      go_wp2
      go_ret2
      exact ⟨by rw [HV.out]; rfl, e2⟩
    · rw [if_neg hbig] at HV
      have hdec : decide ((4611686018427387904 : Int) < (long8 l p : Int)) = true := decide_eq_true (by omega)
      go_wp2
      go_ret2
      exact ⟨by rw [HV.out]; rfl, e2⟩
  · have hv : longOf l n at_ = .tuple #[.int .i64 0, .int .i64 (roomE n at_ 8)] := by rw [longOf, if_neg h]
    rw [hv]
    have hne : (roomE n at_ 8 != 0) = true := by rw [bne_iff_ne]; exact h
    clear hv hcl h hnl
    go_enter Try.func27, Try.ntmps27
    go_wp2_with fail
    refine (room_c _ n c _ 8 w (by omega) (by omega) (by omega)).mono ?_
    rintro e w' ⟨rfl, rfl⟩
    go_wp2
    go_ret2
    exact ⟨rfl, Ext.refl _⟩
end Go.Proofs.Ytjgglnflicemjaa
