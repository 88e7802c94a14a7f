/- Plain values: octets and words as values of the model; no condition. -/
import Derived.WalkKit
namespace Go.Proofs.YthfddfgncolnbaaDoor
open Go

def u8v (x : UInt8) : Value := .int .u8 (x.toNat : Int)
def u32v (x : UInt32) : Value := .int .u32 (x.toNat : Int)

theorem u8_lt (x : UInt8) : (x.toNat : Int) < 256 := by have := x.toNat_lt; omega
theorem u32_lt (x : UInt32) : (x.toNat : Int) < 4294967296 := by have := x.toNat_lt; omega

theorem bits_u32 (a b : Nat) (ha : a < 4294967296) (hb : b < 4294967296) :
    bits .xor .u32 a b = ((a ^^^ b : Nat) : Int) ∧ bits .or .u32 a b = ((a ||| b : Nat) : Int) ∧ bits .and .u32 a b = ((a &&& b : Nat) : Int) := by
  have h1 : a ^^^ b < 2 ^ 32 := Nat.xor_lt_two_pow (by omega) (by omega)
  have h2 : a ||| b < 2 ^ 32 := Nat.or_lt_two_pow (by omega) (by omega)
  have h3 : a &&& b < 2 ^ 32 := Nat.and_lt_two_pow _ (by omega)
  have ea : (BitVec.ofInt 32 (a : Int)).toNat = a := by simp; omega
  have eb : (BitVec.ofInt 32 (b : Int)).toNat = b := by simp; omega
  refine ⟨?_, ?_, ?_⟩
  · change IntKind.u32.wrap ((BitVec.ofInt 32 (a : Int) ^^^ BitVec.ofInt 32 (b : Int)).toNat : Int) = _
    rw [BitVec.toNat_xor, ea, eb, IntKind.wrap_u32']; omega
  · change IntKind.u32.wrap ((BitVec.ofInt 32 (a : Int) ||| BitVec.ofInt 32 (b : Int)).toNat : Int) = _
    rw [BitVec.toNat_or, ea, eb, IntKind.wrap_u32']; omega
  · change IntKind.u32.wrap ((BitVec.ofInt 32 (a : Int) &&& BitVec.ofInt 32 (b : Int)).toNat : Int) = _
    rw [BitVec.toNat_and, ea, eb, IntKind.wrap_u32']; omega

theorem bits_u8 (a b : Nat) (ha : a < 256) (hb : b < 256) :
    bits .xor .u8 a b = ((a ^^^ b : Nat) : Int) ∧ bits .or .u8 a b = ((a ||| b : Nat) : Int) ∧ bits .and .u8 a b = ((a &&& b : Nat) : Int) := by
  have h1 : a ^^^ b < 2 ^ 8 := Nat.xor_lt_two_pow (by omega) (by omega)
  have h2 : a ||| b < 2 ^ 8 := Nat.or_lt_two_pow (by omega) (by omega)
  have h3 : a &&& b < 2 ^ 8 := Nat.and_lt_two_pow _ (by omega)
  have ea : (BitVec.ofInt 8 (a : Int)).toNat = a := by simp; omega
  have eb : (BitVec.ofInt 8 (b : Int)).toNat = b := by simp; omega
  refine ⟨?_, ?_, ?_⟩
  · change IntKind.u8.wrap ((BitVec.ofInt 8 (a : Int) ^^^ BitVec.ofInt 8 (b : Int)).toNat : Int) = _
    rw [BitVec.toNat_xor, ea, eb, IntKind.wrap_u8']; omega
  · change IntKind.u8.wrap ((BitVec.ofInt 8 (a : Int) ||| BitVec.ofInt 8 (b : Int)).toNat : Int) = _
    rw [BitVec.toNat_or, ea, eb, IntKind.wrap_u8']; omega
  · change IntKind.u8.wrap ((BitVec.ofInt 8 (a : Int) &&& BitVec.ofInt 8 (b : Int)).toNat : Int) = _
    rw [BitVec.toNat_and, ea, eb, IntKind.wrap_u8']; omega

theorem xor_u32 (x y : UInt32) : bits .xor .u32 x.toNat y.toNat = ((x ^^^ y).toNat : Int) := by
  rw [(bits_u32 _ _ x.toNat_lt y.toNat_lt).1, UInt32.toNat_xor]
theorem add_u32 (x y : UInt32) : IntKind.u32.wrap ((x.toNat : Int) + y.toNat) = ((x + y).toNat : Int) := by
  rw [IntKind.wrap_u32', UInt32.toNat_add]; omega
theorem sub_u32 (x y : UInt32) : IntKind.u32.wrap ((x.toNat : Int) - y.toNat) = ((x - y).toNat : Int) := by
  have h1 := x.toNat_lt
  have h2 := y.toNat_lt
  rw [IntKind.wrap_u32', UInt32.toNat_sub]; omega
theorem xor_u8 (x y : UInt8) : bits .xor .u8 x.toNat y.toNat = ((x ^^^ y).toNat : Int) := by
  rw [(bits_u8 _ _ x.toNat_lt y.toNat_lt).1, UInt8.toNat_xor]

def add32 (x y : UInt32) : UInt32 := x + y
def sub32 (x y : UInt32) : UInt32 := x - y
def xor32 (x y : UInt32) : UInt32 := x ^^^ y
def xor8 (x y : UInt8) : UInt8 := x ^^^ y
theorem add32_w (x y : UInt32) : IntKind.u32.wrap ((x.toNat : Int) + y.toNat) = ((add32 x y).toNat : Int) := add_u32 x y
theorem sub32_w (x y : UInt32) : IntKind.u32.wrap ((x.toNat : Int) - y.toNat) = ((sub32 x y).toNat : Int) := sub_u32 x y
theorem add32_m (x y : UInt32) : ((x.toNat : Int) + y.toNat) % 4294967296 = ((add32 x y).toNat : Int) := by rw [← add32_w, IntKind.wrap_u32']
theorem sub32_m (x y : UInt32) : ((x.toNat : Int) - y.toNat) % 4294967296 = ((sub32 x y).toNat : Int) := by rw [← sub32_w, IntKind.wrap_u32']
theorem xor32_b (x y : UInt32) : bits .xor .u32 x.toNat y.toNat = ((xor32 x y).toNat : Int) := xor_u32 x y
theorem xor8_b (x y : UInt8) : bits .xor .u8 x.toNat y.toNat = ((xor8 x y).toNat : Int) := xor_u8 x y

/-- rotate left, k < 32 -/
def rotl (x : UInt32) (k : Nat) : UInt32 := UInt32.ofNat ((x.toNat * 2 ^ k % 4294967296) ||| (x.toNat / 2 ^ (32 - k)))

theorem rotl_nat (x : UInt32) (k : Nat) : ((rotl x k).toNat : Int) = (((x.toNat * 2 ^ k % 4294967296) ||| (x.toNat / 2 ^ (32 - k)) : Nat) : Int) := by
  unfold rotl
  have h1 : x.toNat / 2 ^ (32 - k) < 2 ^ 32 := Nat.lt_of_le_of_lt (Nat.div_le_self _ _) x.toNat_lt
  have h2 : x.toNat * 2 ^ k % 4294967296 < 2 ^ 32 := Nat.mod_lt _ (by omega)
  have h3 := Nat.or_lt_two_pow h2 h1
  rw [UInt32.toNat_ofNat']
  omega
end Go.Proofs.YthfddfgncolnbaaDoor
