/- Ref32, Take32, Take64 and Part; conditions: the slice's size. -/
import Derived.Test.YtjgglnflicemjaaP19
namespace Go.Proofs.Ytjgglnflicemjaa
open Go Go.RowKit

section
variable {P : Program} {ops : Array Oper} {rest : List Oper} {o : Oper} {a : Act} {w : World} {Q : Exit → Act → World → Prop}
/-- b[k:h:h] -/
theorem wpl_slice3 (hgd : o.guard = none) (t e : TypeId) (x y z m : Operand) (ho : o.op = .slice t x (some y) (some z) (some m)) {p : Option Addr} {n c k h : Nat}
    (hx : a.eval x = .slice p n c) (hy : a.eval y = .int .i64 (k : Int)) (hz : a.eval z = .int .i64 (h : Int)) (hm : a.eval m = .int .i64 (h : Int)) (hu : P.underlying t = some (.slice e)) (hs : (P.info? e).map (·.size) = some 1) (hk : k ≤ h) (hh : h ≤ c)
    (hq : wpList P ops Q rest (a.put o.dst (.slice (shift p h k) (h - k) (h - k))) w) : wpList P ops Q (o :: rest) a w :=
  wpList_plain hgd fun K hK => by
    cases hq2 : P.info? e with
    | none => simp [hq2] at hs
    | some i =>
      have hi : i.size = 1 := by simpa [hq2] using hs
      have hr : (Instr.sliceAt t (.slice p n c) (some (.int .i64 (k : Int))) (some (.int .i64 (h : Int))) (some (.int .i64 (h : Int)))).run P w = .ok (.slice (shift p h k) (h - k) (h - k)) w := by
        have h1 : (0 : Int) ≤ k ∧ (k : Int) ≤ h := by omega
        have h2 : (0 : Int) ≤ h ∧ (h : Int) ≤ c := by omega
        simp [Instr.sliceAt, Instr.slice, Instr.sliceBounds, Instr.sliceBound, asIntOf, run_underlying hu, sizeOf, typeInfo, hq2, hi, hk, hh, shift]
      unfold Oper.wp execOp
      simp only [ho, hx, hy, hz, hm, Option.map_some, hr, Result.andThen_ok, Sem.run_bind, Sem.run_pure]
      exact hK _ _ hq
end

def refV (a : Option Addr) (c n : Nat) (at_ : Int) : Value :=
  if roomE n at_ 32 = 0 then .tuple #[.pointer (shift a c at_.toNat), .int .i64 0] else .tuple #[.pointer none, .int .i64 (roomE n at_ 32)]

set_option maxRecDepth 100000 in
set_option maxHeartbeats 1000000 in
theorem ref32_c (a : Option Addr) (n c : Nat) (at_ : Int) (w : World) (hn : n ≤ 140737488355328) (hc : n ≤ c) :
    Calls Try.prog 24 #[.slice a n c, .int .i64 at_] w fun e w' => e = .returned (refV a c n at_) ∧ w = w' := by
  by_cases h : roomE n at_ 32 = 0
  · obtain ⟨p, rfl, hp⟩ := roomE_zero h (by omega)
    have hv : refV a c n (p : Int) = .tuple #[.pointer (shift a c p), .int .i64 0] := by unfold refV; rw [if_pos h]; rfl
    rw [hv]
    have H := hid h
    have hpn : p ≤ n := by omega
    have ha := run_arrayAt (P := Try.prog) Try.underlying34 (len := n - p) (by omega)
    clear hv h
    go_enter Try.func24, Try.ntmps24
    go_wp2_with fail
    refine (room_c _ n c _ 32 _ (by omega) (by omega) (by omega)).mono ?_
    rintro e w' ⟨rfl, rfl⟩
    rw [H.out]
    generalize hsh : shift a c p = x at *
    have HSH := hid hsh
    clear hsh
    go_wp2_with (first | (refine wpl_slice_low rfl _ _ _ _ rfl (k := p) rfl rfl Try.underlying26 size_u8 hpn ?_; rw [HSH.out]))
    go_ret2
    exact ⟨by rw [HSH.out]; rfl, rfl⟩
  · have hv : refV a c n at_ = .tuple #[.pointer none, .int .i64 (roomE n at_ 32)] := by unfold refV; rw [if_neg h]
    rw [hv]
    have hne : (roomE n at_ 32 != 0) = true := by rw [bne_iff_ne]; exact h
    clear hv h
    go_enter Try.func24, Try.ntmps24
    go_wp2_with fail
    refine (room_c _ n c _ 32 _ (by omega) (by omega) (by omega)).mono ?_
    rintro e w' ⟨rfl, rfl⟩
    go_wp2
    go_ret2
    exact ⟨rfl, rfl⟩

set_option maxRecDepth 100000 in
set_option maxHeartbeats 1000000 in
theorem take32_c (l : List UInt8) (a : Option Addr) (n c : Nat) (at_ : Int) (w : World) (hnl : l.length = n) (hn : n ≤ 140737488355328) (hc : n ≤ c) (hcl : Cells w a (l.map u8v)) :
    Calls Try.prog 21 #[.slice a n c, .int .i64 at_] w fun e w' => e = .returned (takeV l n 32 at_) ∧ Ext w w' := by
  have HN := hid hnl
  have HC := hid hcl
  have href := fun w => ref32_c a n c at_ w hn hc
  clear hnl hcl
  have zA : Blk (w.alloc (.cells (List.replicate 32 (.int .u8 0)).toArray 34)) w.heap.size (List.replicate 32 (.int .u8 0)) 34 := Blk.mk_alloc rfl rfl
  have eA : Ext w (w.alloc (.cells (List.replicate 32 (.int .u8 0)).toArray 34)) := (Ext.refl w).alloc _
  change Blk (w.alloc (.cells #[.int .u8 0, .int .u8 0, .int .u8 0, .int .u8 0, .int .u8 0, .int .u8 0, .int .u8 0, .int .u8 0, .int .u8 0, .int .u8 0, .int .u8 0, .int .u8 0, .int .u8 0, .int .u8 0, .int .u8 0, .int .u8 0, .int .u8 0, .int .u8 0, .int .u8 0, .int .u8 0, .int .u8 0, .int .u8 0, .int .u8 0, .int .u8 0, .int .u8 0, .int .u8 0, .int .u8 0, .int .u8 0, .int .u8 0, .int .u8 0, .int .u8 0, .int .u8 0] 34)) w.heap.size (List.replicate 32 (.int .u8 0)) 34 at zA
  change Ext w (w.alloc (.cells #[.int .u8 0, .int .u8 0, .int .u8 0, .int .u8 0, .int .u8 0, .int .u8 0, .int .u8 0, .int .u8 0, .int .u8 0, .int .u8 0, .int .u8 0, .int .u8 0, .int .u8 0, .int .u8 0, .int .u8 0, .int .u8 0, .int .u8 0, .int .u8 0, .int .u8 0, .int .u8 0, .int .u8 0, .int .u8 0, .int .u8 0, .int .u8 0, .int .u8 0, .int .u8 0, .int .u8 0, .int .u8 0, .int .u8 0, .int .u8 0, .int .u8 0, .int .u8 0] 34)) at eA
  by_cases h : roomE n at_ 32 = 0
  · obtain ⟨p, rfl, hp⟩ := roomE_zero h (by omega)
    have hv : takeV l n 32 (p : Int) = .tuple #[.agg (((l.drop p).take 32).map u8v).toArray, .int .i64 0] := by unfold takeV; rw [if_pos (by exact h)]; rfl
    have hr : refV a c n (p : Int) = .tuple #[.pointer (shift a c p), .int .i64 0] := by unfold refV; rw [if_pos h]; rfl
    rw [hv]
    obtain ⟨b, off, rfl, hcell⟩ := HC.out.some_of (by rw [List.length_map, HN.out]; omega)
    rw [shift_some b off c p (by omega)] at hr
    have hol : (((l.drop p).take 32).map u8v).length = 32 := by rw [List.length_map, List.length_take, List.length_drop, HN.out]; omega
    have hcs := (HC.out.ext eA).part p 32
    simp only [← List.map_drop, ← List.map_take] at hcs
    have h1v := one_u8 ((l.drop p).take 32)
    generalize ((l.drop p).take 32).map u8v = vs at *
    have HOL := hid hol
    have HCS := hid hcs
    have HR := hid hr
    clear hv h hcell hol hcs hr
    go_enter Try.func21, Try.ntmps21
    go_wp2_with fail
    generalize w.alloc (.cells #[.int .u8 0, .int .u8 0, .int .u8 0, .int .u8 0, .int .u8 0, .int .u8 0, .int .u8 0, .int .u8 0, .int .u8 0, .int .u8 0, .int .u8 0, .int .u8 0, .int .u8 0, .int .u8 0, .int .u8 0, .int .u8 0, .int .u8 0, .int .u8 0, .int .u8 0, .int .u8 0, .int .u8 0, .int .u8 0, .int .u8 0, .int .u8 0, .int .u8 0, .int .u8 0, .int .u8 0, .int .u8 0, .int .u8 0, .int .u8 0, .int .u8 0, .int .u8 0] 34) = wA at *
    refine (href wA).mono ?_
    rw [HR.out]
    rintro e w' ⟨rfl, rfl⟩
    have hcells : ∀ j u, vs[j]? = some u → wA.cell? ⟨b, off + p + j, none⟩ = some u := by
      rcases HCS.out with h | ⟨_, _, h, h2⟩
      · rw [h]; intro j u hu; simp at hu
      · cases h; exact h2
    go_wp2_with (first | (refine wpl_loadc rfl _ _ rfl rfl hcells agg_sum HOL.out ?_) | (refine wpl_storew rfl _ _ _ rfl rfl rfl zA agg_sum (by simp) HOL.out h1v ?_))
    intro w2 b2 u2
    go_wp2
    refine ret_row2 rfl rfl b2 agg_sum HOL.out rfl ⟨rfl, u2.ext eA (Nat.le_refl _)⟩
  · have hv : takeV l n 32 at_ = .tuple #[.agg (List.replicate 32 (.int .u8 0)).toArray, .int .i64 (roomE n at_ 32)] := by unfold takeV; rw [if_neg (by exact h)]; rfl
    have hr : refV a c n at_ = .tuple #[.pointer none, .int .i64 (roomE n at_ 32)] := by unfold refV; rw [if_neg h]
    rw [hv]
    have hne : (roomE n at_ 32 != 0) = true := by rw [bne_iff_ne]; exact h
    have HR := hid hr
    clear hv h hr
    go_enter Try.func21, Try.ntmps21
    go_wp2_with fail
    generalize w.alloc (.cells #[.int .u8 0, .int .u8 0, .int .u8 0, .int .u8 0, .int .u8 0, .int .u8 0, .int .u8 0, .int .u8 0, .int .u8 0, .int .u8 0, .int .u8 0, .int .u8 0, .int .u8 0, .int .u8 0, .int .u8 0, .int .u8 0, .int .u8 0, .int .u8 0, .int .u8 0, .int .u8 0, .int .u8 0, .int .u8 0, .int .u8 0, .int .u8 0, .int .u8 0, .int .u8 0, .int .u8 0, .int .u8 0, .int .u8 0, .int .u8 0, .int .u8 0, .int .u8 0] 34) = wA at *
    refine (href wA).mono ?_
    rw [HR.out]
    rintro e w' ⟨rfl, rfl⟩
    go_wp2_with (first | (refine wpl_storew rfl _ _ _ rfl rfl rfl zA agg_sum (by simp) (xs := List.replicate 32 (.int .u8 0)) (by simp) (one_zeros 32) ?_))
    intro w2 b2 u2
    go_wp2
    refine ret_row2 rfl rfl b2 agg_sum (by simp) rfl ⟨rfl, u2.ext eA (Nat.le_refl _)⟩

set_option maxRecDepth 100000 in
set_option maxHeartbeats 1000000 in
theorem take64_c (l : List UInt8) (a : Option Addr) (n c : Nat) (at_ : Int) (w : World) (hnl : l.length = n) (hn : n ≤ 140737488355328) (hc : n ≤ c) (hcl : Cells w a (l.map u8v)) :
    Calls Try.prog 22 #[.slice a n c, .int .i64 at_] w fun e w' => e = .returned (takeV l n 64 at_) ∧ Ext w w' := by
  have HN := hid hnl
  have HC := hid hcl
  clear hnl hcl
  by_cases h : roomE n at_ 64 = 0
  · obtain ⟨p, rfl, hp⟩ := roomE_zero h (by omega)
    have hv : takeV l n 64 (p : Int) = .tuple #[.agg (((l.drop p).take 64).map u8v).toArray, .int .i64 0] := by
      unfold takeV
      rw [if_pos (by exact h)]; rfl
    rw [hv]
    obtain ⟨b, off, rfl, hcell⟩ := HC.out.some_of (by rw [List.length_map, HN.out]; omega)
    have hol : (((l.drop p).take 64).map u8v).length = 64 := by rw [List.length_map, List.length_take, List.length_drop, HN.out]; omega
    have H := hid h
    have ne : ¬ c = p := by omega
    have k64 : IntKind.i64.wrap ((p : Int) + 64) = (p : Int) + 64 := IntWalk.i64_in _ (by omega)
    have ha := run_arrayAt (P := Try.prog) Try.underlying22 (len := 64) (Nat.le_refl 64)
    have hpart := fun (w' : World) (e : Ext w w') => (HC.out.ext e).part p 64
    simp only [← List.map_drop, ← List.map_take] at hpart
    have h1v := one_u8 ((l.drop p).take 64)
    generalize ((l.drop p).take 64).map u8v = vs at *
    have HOL := hid hol
    clear hv h hcell hol
    go_enter Try.func22, Try.ntmps22
    go_wp2_with fail
    refine (room_c _ n c _ 64 _ (by omega) (by omega) (by omega)).mono ?_
    rintro e w' ⟨rfl, rfl⟩
    rw [H.out]
    have hcs : ∀ j u, vs[j]? = some u → (w.alloc (.cells (List.replicate 64 (.int .u8 0)).toArray 22)).cell? ⟨b, off + p + j, none⟩ = some u := by
      rcases hpart _ ((Ext.refl w).alloc _) with h | ⟨_, _, h, h2⟩
      · rw [h]; intro j u hu; simp at hu
      · cases h; exact h2
    go_wp2_with (first | (refine wpl_loadc rfl _ _ rfl rfl hcs agg_state HOL.out ?_) | (refine wpl_storew rfl _ _ _ rfl rfl rfl (Blk.mk_alloc rfl rfl) agg_state rfl HOL.out h1v ?_))
    intro w2 b2 u2
    go_wp2
    refine ret_row2 rfl rfl b2 agg_state HOL.out rfl ⟨rfl, u2.ext ((Ext.refl w).alloc _) (Nat.le_refl _)⟩
  · have hv : takeV l n 64 at_ = .tuple #[.agg (List.replicate 64 (.int .u8 0)).toArray, .int .i64 (roomE n at_ 64)] := by
      unfold takeV
      rw [if_neg (by exact h)]; rfl
    rw [hv]
    have hne : (roomE n at_ 64 != 0) = true := by rw [bne_iff_ne]; exact h
    clear hv h
    go_enter Try.func22, Try.ntmps22
    go_wp2_with fail
    refine (room_c _ n c _ 64 _ (by omega) (by omega) (by omega)).mono ?_
    rintro e w' ⟨rfl, rfl⟩
    go_wp2_with (first | (refine wpl_storew rfl _ _ _ rfl rfl rfl (Blk.mk_alloc rfl rfl) agg_state rfl rfl (by intro v hv; simp at hv; rw [hv]; rfl) ?_))
    intro w2 b2 u2
    go_wp2
    refine ret_row2 rfl rfl b2 agg_state rfl rfl ⟨rfl, u2.ext ((Ext.refl w).alloc _) (Nat.le_refl _)⟩

/-- what Part gives -/
def partV (a : Option Addr) (n : Nat) (f t : Int) : Value :=
  if f < 0 ∨ t < f then .tuple #[.slice none 0 0, .int .i64 4] else if (n : Int) < t then .tuple #[.slice none 0 0, .int .i64 1]
  else .tuple #[.slice (shift a t.toNat f.toNat) (t.toNat - f.toNat) (t.toNat - f.toNat), .int .i64 0]

set_option maxRecDepth 100000 in
set_option maxHeartbeats 1000000 in
theorem part_c (a : Option Addr) (n c : Nat) (f t : Int) (w : World) (hn : n ≤ 140737488355328) (hc : n ≤ c) :
    Calls Try.prog 69 #[.slice a n c, .int .i64 f, .int .i64 t] w fun e w' => e = .returned (partV a n f t) ∧ w = w' := by
  by_cases h1 : f < 0 ∨ t < f
  · have hv : partV a n f t = .tuple #[.slice none 0 0, .int .i64 4] := by unfold partV; rw [if_pos h1]
    rw [hv]
    clear hv
    by_cases h2 : f < 0
    · have d1 : decide (f < 0) = true := decide_eq_true h2
      clear h1
      go_enter Try.func69, Try.ntmps69
      go_wp2
      go_ret2
      exact ⟨rfl, rfl⟩
    · have d1 : decide (f < 0) = false := decide_eq_false h2
      have d2 : decide (t < f) = true := decide_eq_true (by omega)
      clear h1
      go_enter Try.func69, Try.ntmps69
      go_wp2
      go_ret2
      exact ⟨rfl, rfl⟩
  · have d1 : decide (f < 0) = false := decide_eq_false (by omega)
    have d2 : decide (t < f) = false := decide_eq_false (by omega)
    by_cases h3 : (n : Int) < t
    · have hv : partV a n f t = .tuple #[.slice none 0 0, .int .i64 1] := by unfold partV; rw [if_neg h1, if_pos h3]
      rw [hv]
      have d3 : decide ((n : Int) < t) = true := decide_eq_true h3
      clear hv h1
      go_enter Try.func69, Try.ntmps69
      go_wp2
      go_ret2
      exact ⟨rfl, rfl⟩
    · have hv : partV a n f t = .tuple #[.slice (shift a t.toNat f.toNat) (t.toNat - f.toNat) (t.toNat - f.toNat), .int .i64 0] := by unfold partV; rw [if_neg h1, if_neg h3]
      rw [hv]
      have d3 : decide ((n : Int) < t) = false := decide_eq_false h3
      obtain ⟨F, rfl⟩ := Int.eq_ofNat_of_zero_le (show 0 ≤ f by omega)
      obtain ⟨T, rfl⟩ := Int.eq_ofNat_of_zero_le (show 0 ≤ t by omega)
      simp only [Int.toNat_natCast]
      have hFT : F ≤ T := by omega
      have hTc : T ≤ c := by omega
      have dn2 : decide (T < F) = false := decide_eq_false (by omega)
      have dn3 : decide (n < T) = false := decide_eq_false (by omega)
      clear hv h1 h3
      go_enter Try.func69, Try.ntmps69
      go_wp2_with (first | (refine wpl_slice3 rfl _ _ _ _ _ _ rfl (k := F) (h := T) rfl rfl rfl rfl Try.underlying26 size_u8 hFT hTc ?_))
      go_ret2
      exact ⟨rfl, rfl⟩
end Go.Proofs.Ytjgglnflicemjaa
