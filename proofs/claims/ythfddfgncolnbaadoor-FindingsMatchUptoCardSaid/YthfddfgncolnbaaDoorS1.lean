/- Contracts of the small functions under Stir: rotation and turn; conditions: the ranges of the counters. -/
import Derived.Test.YthfddfgncolnbaaDoorProg
import Derived.Test.YthfddfgncolnbaaDoorV
import Derived.Test.YthfddfgncolnbaaDoorK
import Derived.WalkSpells
import Derived.WalkLawsBesides
namespace Go.Proofs.YthfddfgncolnbaaDoor
open Go Go.RowKit

theorem and31_u64 (k : Nat) (h : k < 32) : bits .and .u64 (k : Int) 31 = (k : Int) := by
  have ea : (BitVec.ofInt 64 (k : Int)).toNat = k := by simp; omega
  have eb : (BitVec.ofInt 64 (31 : Int)).toNat = 31 := by simp
  change IntKind.u64.wrap ((BitVec.ofInt 64 (k : Int) &&& BitVec.ofInt 64 31).toNat : Int) = _
  rw [BitVec.toNat_and, ea, eb, Nat.and_two_pow_sub_one_eq_mod k 5, IntKind.wrap_u64]; omega

theorem rot_int (x : UInt32) (k : Nat) : bits .or .u32 ((x.toNat : Int) * 2 ^ k % 4294967296) ((x.toNat : Int) / 2 ^ (32 - k)) = ((rotl x k).toNat : Int) := by
  have e1 : (x.toNat : Int) * 2 ^ k % 4294967296 = ((x.toNat * 2 ^ k % 4294967296 : Nat) : Int) := by
    rw [Int.natCast_emod, Int.natCast_mul, Int.natCast_pow]; rfl
  have e2 : (x.toNat : Int) / 2 ^ (32 - k) = ((x.toNat / 2 ^ (32 - k) : Nat) : Int) := by
    rw [Int.natCast_ediv, Int.natCast_pow]; rfl
  rw [e1, e2, (bits_u32 _ _ (Nat.mod_lt _ (by omega)) (Nat.lt_of_le_of_lt (Nat.div_le_self _ _) x.toNat_lt)).2.1, rotl_nat]

/-- what is added to a word -/
def turnW (ws : List UInt32) (r i : Nat) : UInt32 := rotl (ws.getD ((i + 1 + r) % 16) 0) (5 + i) ^^^ UInt32.ofNat (2654435769 * (16 * r + i + 1))

theorem mulc_int (m : Nat) : (2654435769 * (m : Int) % 4294967296) = ((UInt32.ofNat (2654435769 * m)).toNat : Int) := by
  rw [UInt32.toNat_ofNat']; omega
theorem turn_int (ws : List UInt32) (r i : Nat) : bits .xor .u32 ((rotl (ws[(i + 1 + r) % 16]?.getD 0) (5 + i)).toNat : Int) (2654435769 * (16 * (r : Int) + i + 1) % 4294967296) = ((turnW ws r i).toNat : Int) := by
  have e : (16 * (r : Int) + i + 1) = ((16 * r + i + 1 : Nat) : Int) := by omega
  rw [e, mulc_int, xor_u32]; simp [turnW]

end Go.Proofs.YthfddfgncolnbaaDoor
