/- Contracts of word, octets, longOctets; no condition. -/
import Derived.Test.YthfddfgncolnbaaDoorS1
import Derived.Test.YthfddfgncolnbaaDoorM
namespace Go.Proofs.YthfddfgncolnbaaDoor
open Go Go.RowKit

def wordOf (a b c d : UInt8) : UInt32 := UInt32.ofNat (a.toNat * 16777216 + b.toNat * 65536 + c.toNat * 256 + d.toNat)

theorem or_add (a b k : Nat) (h : b < 2 ^ k) : (a * 2 ^ k ||| b) = a * 2 ^ k + b := by
  rw [Nat.mul_comm, ← Nat.two_pow_add_eq_or_of_lt h]

theorem word_int (a b c d : UInt8) : bits .or .u32 (bits .or .u32 (bits .or .u32 ((a.toNat : Int) * 16777216) ((b.toNat : Int) * 65536)) ((c.toNat : Int) * 256)) (d.toNat : Int) = ((wordOf a b c d).toNat : Int) := by
  have ha := a.toNat_lt
  have hb := b.toNat_lt
  have hc := c.toNat_lt
  have hd := d.toNat_lt
  have e1 : (a.toNat : Int) * 16777216 = ((a.toNat * 16777216 : Nat) : Int) := by omega
  have e2 : (b.toNat : Int) * 65536 = ((b.toNat * 65536 : Nat) : Int) := by omega
  have e3 : (c.toNat : Int) * 256 = ((c.toNat * 256 : Nat) : Int) := by omega
  rw [e1, e2, e3, (bits_u32 _ _ (by omega) (by omega)).2.1]
  have f1 : (a.toNat * 16777216 ||| b.toNat * 65536) = a.toNat * 16777216 + b.toNat * 65536 := or_add a.toNat (b.toNat * 65536) 24 (by omega)
  rw [f1, (bits_u32 _ _ (by omega) (by omega)).2.1]
  have f2 : (a.toNat * 16777216 + b.toNat * 65536 ||| c.toNat * 256) = a.toNat * 16777216 + b.toNat * 65536 + c.toNat * 256 := by
    have := or_add (a.toNat * 256 + b.toNat) (c.toNat * 256) 16 (by omega)
    have e : (a.toNat * 256 + b.toNat) * 2 ^ 16 = a.toNat * 16777216 + b.toNat * 65536 := by omega
    rwa [e] at this
  rw [f2, (bits_u32 _ _ (by omega) (by omega)).2.1]
  have f3 : (a.toNat * 16777216 + b.toNat * 65536 + c.toNat * 256 ||| d.toNat) = a.toNat * 16777216 + b.toNat * 65536 + c.toNat * 256 + d.toNat := by
    have := or_add (a.toNat * 65536 + b.toNat * 256 + c.toNat) d.toNat 8 (by omega)
    have e : (a.toNat * 65536 + b.toNat * 256 + c.toNat) * 2 ^ 8 = a.toNat * 16777216 + b.toNat * 65536 + c.toNat * 256 := by omega
    rwa [e] at this
  rw [f3]
  unfold wordOf
  rw [UInt32.toNat_ofNat']; omega

/-- the four octets of a word -/
def octL (n : UInt32) : List UInt8 := [UInt8.ofNat (n.toNat / 16777216), UInt8.ofNat (n.toNat / 65536), UInt8.ofNat (n.toNat / 256), UInt8.ofNat n.toNat]

theorem u8_ofNat (m : Nat) : ((UInt8.ofNat m).toNat : Int) = (m : Int) % 256 := by
  rw [UInt8.toNat_ofNat']; omega

theorem octL_vals (n : UInt32) : (octL n).map u8v = [.int .u8 ((n.toNat : Int) / 16777216 % 256), .int .u8 ((n.toNat : Int) / 65536 % 256), .int .u8 ((n.toNat : Int) / 256 % 256), .int .u8 ((n.toNat : Int) % 256)] := by
  simp only [octL, List.map_cons, List.map_nil, u8v, u8_ofNat, Int.natCast_ediv, Int.cast_ofNat_Int]

def longL (n : UInt64) : List UInt8 := octL (UInt32.ofNat (n.toNat / 4294967296)) ++ octL (UInt32.ofNat n.toNat)

theorem u32_ofNat (m : Nat) : ((UInt32.ofNat m).toNat : Int) = (m : Int) % 4294967296 := by
  rw [UInt32.toNat_ofNat']; omega

theorem longL_vals (n : UInt64) : (longL n).map u8v = [.int .u8 (((UInt32.ofNat (n.toNat / 4294967296)).toNat : Int) / 16777216 % 256), .int .u8 (((UInt32.ofNat (n.toNat / 4294967296)).toNat : Int) / 65536 % 256), .int .u8 (((UInt32.ofNat (n.toNat / 4294967296)).toNat : Int) / 256 % 256), .int .u8 (((UInt32.ofNat (n.toNat / 4294967296)).toNat : Int) % 256),
    .int .u8 (((UInt32.ofNat n.toNat).toNat : Int) / 16777216 % 256), .int .u8 (((UInt32.ofNat n.toNat).toNat : Int) / 65536 % 256), .int .u8 (((UInt32.ofNat n.toNat).toNat : Int) / 256 % 256), .int .u8 (((UInt32.ofNat n.toNat).toNat : Int) % 256)] := by
  unfold longL
  rw [List.map_append, octL_vals, octL_vals]; rfl

end Go.Proofs.YthfddfgncolnbaaDoor
