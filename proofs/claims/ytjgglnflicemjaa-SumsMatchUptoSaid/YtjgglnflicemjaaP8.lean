/- The reference's long; condition: a number that is not negative. -/
import Derived.Test.YtjgglnflicemjaaP7
namespace Go.Proofs.Ytjgglnflicemjaa
open Go Go.RowKit

theorem longL_at (N i : Nat) (hN : N < 18446744073709551616) (hi : i < 8) : ((((longL (UInt64.ofNat N))[i]?.getD 0).toNat : Nat) : Int) = (N : Int) / 2 ^ (56 - 8 * i) % 256 := by
  have hN' : (UInt64.ofNat N).toNat = N := by rw [UInt64.toNat_ofNat']; omega
  unfold longL
  rw [hN']
  have h1 : (UInt32.ofNat (N / 4294967296)).toNat = N / 4294967296 % 4294967296 := UInt32.toNat_ofNat' ..
  have h2 : (UInt32.ofNat N).toNat = N % 4294967296 := UInt32.toNat_ofNat' ..
  rcases (by omega : i = 0 ∨ i = 1 ∨ i = 2 ∨ i = 3 ∨ i = 4 ∨ i = 5 ∨ i = 6 ∨ i = 7) with rfl | rfl | rfl | rfl | rfl | rfl | rfl | rfl
  all_goals
    simp only [octL, h1, h2, List.cons_append, List.nil_append, List.getElem?_cons_zero, List.getElem?_cons_succ, Option.getD_some, u8_ofNat]
    simp
    try omega

set_option maxRecDepth 100000 in
set_option maxHeartbeats 1000000 in
theorem rlong_c (N : Nat) (w : World) (hN : N ≤ 4611686018427387904) :
    Calls Try.prog 75 #[.int .i64 (N : Int)] w fun e w' => e = .returned (.slice (some ⟨w.heap.size, 0, none⟩) 8 8) ∧ Blk w' w.heap.size ((longL (UInt64.ofNat N)).map u8v) 5 ∧ Ext w w' := by
  have hmk := fun w => run_mk8 w 8 (by omega)
  obtain ⟨f, hf⟩ : ∃ f : Nat → UInt8, (fun i => (longL (UInt64.ofNat N))[i]?.getD 0) = f := ⟨_, rfl⟩
  have hle : longL (UInt64.ofNat N) = fill (fun i => (longL (UInt64.ofNat N))[i]?.getD 0) 0 8 8 := by
    rw [fill_all _ _ _ _ (Nat.le_refl _)]; rfl
  have HLE := hid hle
  have hat : ∀ i, i < 8 → (N : Int) / 2 ^ (56 - 8 * i) % 256 = ((f i).toNat : Int) := fun i hi => by rw [← hf, longL_at N i (by omega) hi]
  rw [hf] at HLE
  clear hle hf
  generalize longL (UInt64.ofNat N) = ll at *
  go_enter Try.func75, Try.ntmps75
  go_wp2_with (refine wpl_mk8 rfl _ _ rfl (n := 8) rfl rfl (by omega) ?_)
  generalize hwA : World.alloc w _ = wA
  have zA : Blk wA w.heap.size ((fill f 0 8 0).map u8v) 5 := by rw [← hwA]; exact Blk.mk_alloc rfl (by rw [fill_zero]; simp)
  have eA : Ext w wA := by rw [← hwA]; exact (Ext.refl w).alloc _
  clear hwA
  go_loopw [8] (fun x wr => ∃ i : Nat, i ≤ 8 ∧ x = .int .i64 i ∧ Blk wr w.heap.size ((fill f 0 8 i).map u8v) 5 ∧ Ext w wr)
    (fun x _ => 8 - (intOf x).toNat)
  case atStart => exact ⟨0, by omega, rfl, zA, eA⟩
  case round =>
    obtain ⟨i, hi, rfl, q1, q2⟩ := hrel
    by_cases hlt : i < 8
    · have hd : decide ((i : Int) < 8) = true := decide_eq_true (by omega)
      have so := hat i hlt
      have c1 := q1.cell' (i := i) (u8_at (by rw [fill_length]; exact hlt))
      have f1 := q1.frozen i
      have i0 : (0 : Int) ≤ (i : Int) := by omega
      have i1 : (i : Int) < 8 := by omega
      have k1 : IntKind.i64.wrap (8 * (i : Int)) = 8 * (i : Int) := IntWalk.i64_in _ (by omega)
      have k2 : IntKind.i64.wrap (56 - 8 * (i : Int)) = ((56 - 8 * i : Nat) : Int) := by rw [IntWalk.i64_in _ (by omega)]; omega
      go_wp2
      go_roundw
      case rel => exact ⟨i + 1, by omega, by go_num, q1.fill8, q2.set _ (Nat.le_refl _)⟩
      case measure => simp [intOf]; omega
    · obtain rfl : i = 8 := by omega
      go_wp2
      go_ret
      exact ⟨rfl, by rw [HLE.out]; exact q1, q2⟩
end Go.Proofs.Ytjgglnflicemjaa
