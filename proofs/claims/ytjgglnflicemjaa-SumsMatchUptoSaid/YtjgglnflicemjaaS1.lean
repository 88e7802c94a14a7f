/- Contracts of the small functions under Stir: rotation and turn; conditions: the ranges of the counters. -/
import Derived.Test.YtjgglnflicemjaaProg
import Derived.Test.YtjgglnflicemjaaV
import Derived.Test.YtjgglnflicemjaaK
import Derived.WalkSpells
import Derived.WalkLawsBesides
namespace Go.Proofs.Ytjgglnflicemjaa
open Go Go.RowKit

theorem and31_u64 (k : Nat) (h : k < 32) : bits .and .u64 (k : Int) 31 = (k : Int) := by
  have ea : (BitVec.ofInt 64 (k : Int)).toNat = k := by simp; omega
  have eb : (BitVec.ofInt 64 (31 : Int)).toNat = 31 := by simp
  change IntKind.u64.wrap ((BitVec.ofInt 64 (k : Int) &&& BitVec.ofInt 64 31).toNat : Int) = _
  rw [BitVec.toNat_and, ea, eb, Nat.and_two_pow_sub_one_eq_mod k 5, IntKind.wrap_u64]; omega

theorem rot_int (x : UInt32) (k : Nat) : bits .or .u32 ((x.toNat : Int) * 2 ^ k % 4294967296) ((x.toNat : Int) / 2 ^ (32 - k)) = ((rotl x k).toNat : Int) := by
  have e1 : (x.toNat : Int) * 2 ^ k % 4294967296 = ((x.toNat * 2 ^ k % 4294967296 : Nat) : Int) := by
    rw [Int.natCast_emod, Int.natCast_mul, Int.natCast_pow]; rfl
  have e2 : (x.toNat : Int) / 2 ^ (32 - k) = ((x.toNat / 2 ^ (32 - k) : Nat) : Int) := by
    rw [Int.natCast_ediv, Int.natCast_pow]; rfl
  rw [e1, e2, (bits_u32 _ _ (Nat.mod_lt _ (by omega)) (Nat.lt_of_le_of_lt (Nat.div_le_self _ _) x.toNat_lt)).2.1, rotl_nat]

set_option maxHeartbeats 400000 in
theorem rot_c (x : UInt32) (k : Nat) (w : World) (h1 : k < 32) :
    Calls Try.prog 62 #[.int .u32 x.toNat, .int .i64 k] w fun e w' => e = .returned (.int .u32 (rotl x k).toNat) ∧ w = w' := by
  have hk := and31_u64 k h1
  have hx := u32_lt x
  go_enter Try.func62, Try.ntmps62
  go_wp2
  go_ret
  refine ⟨?_, rfl⟩
  rw [← rot_int]; rfl

set_option maxHeartbeats 400000 in
theorem rturn_c (x : UInt32) (k : Nat) (w : World) (h1 : k < 32) :
    Calls Try.prog 65 #[.int .u32 x.toNat, .int .i64 k] w fun e w' => e = .returned (.int .u32 (rotl x k).toNat) ∧ ∃ n, w' = w.drewN n := by
  have hx := u32_lt x
  have h0 : 0 ≤ (k : Int) := by omega
  have h3 : (k : Int) ≤ 32 := by omega
  have h4 : (0 : Int) ≤ 32 - (k : Int) := by omega
  have h5 : IntKind.i64.wrap (32 - (k : Int)) = 32 - (k : Int) := IntWalk.i64_in _ (by omega)
  have h6 : (32 - (k : Int)).toNat = 32 - k := by omega
  have h7 : IntKind.u32.wrap ((x.toNat : Int) * 2 ^ k) = (x.toNat : Int) * 2 ^ k % 4294967296 := IntKind.wrap_u32' _
  go_enter Try.func65, Try.ntmps65
  go_wp2
  go_quiet (fail)
  go_wp2
  go_ret
  exact ⟨by rw [← rot_int]; rfl, nq, rfl⟩

/-- what is added to a word -/
def turnW (ws : List UInt32) (r i : Nat) : UInt32 := rotl (ws.getD ((i + 1 + r) % 16) 0) (5 + i) ^^^ UInt32.ofNat (2654435769 * (16 * r + i + 1))

theorem mulc_int (m : Nat) : (2654435769 * (m : Int) % 4294967296) = ((UInt32.ofNat (2654435769 * m)).toNat : Int) := by
  rw [UInt32.toNat_ofNat']; omega
theorem turn_int (ws : List UInt32) (r i : Nat) : bits .xor .u32 ((rotl (ws[(i + 1 + r) % 16]?.getD 0) (5 + i)).toNat : Int) (2654435769 * (16 * (r : Int) + i + 1) % 4294967296) = ((turnW ws r i).toNat : Int) := by
  have e : (16 * (r : Int) + i + 1) = ((16 * r + i + 1 : Nat) : Int) := by omega
  rw [e, mulc_int, xor_u32]; simp [turnW]

set_option maxHeartbeats 400000 in
theorem turn_c (g : Nat) (ws : List UInt32) (r i : Nat) (w : World) (hr : r < 8) (hi : i < 16) (hc : ∀ j, j < 16 → w.cell? ⟨g, j, none⟩ = some (u32v (ws.getD j 0))) :
    Calls Try.prog 61 #[.pointer (some ⟨g, 0, none⟩), .int .i64 r, .int .i64 i] w fun e w' => e = .returned (.int .u32 (turnW ws r i).toNat) ∧ w = w' := by
  have hc1 := hc ((i + 1 + r) % 16) (by omega)
  clear hc
  go_enter Try.func61, Try.ntmps61
  go_wp2_with (go_at_call 62; refine (rot_c _ (5 + i) _ (by omega)).mono ?_; rintro e w' ⟨rfl, rfl⟩)
  go_ret
  refine ⟨?_, rfl⟩
  rw [← turn_int]; rfl
end Go.Proofs.Ytjgglnflicemjaa
