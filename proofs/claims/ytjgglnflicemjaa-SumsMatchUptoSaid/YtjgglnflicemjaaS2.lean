/- Contracts of word, octets, longOctets; no condition. -/
import Derived.Test.YtjgglnflicemjaaS1
import Derived.Test.YtjgglnflicemjaaM
namespace Go.Proofs.Ytjgglnflicemjaa
open Go Go.RowKit

def wordOf (a b c d : UInt8) : UInt32 := UInt32.ofNat (a.toNat * 16777216 + b.toNat * 65536 + c.toNat * 256 + d.toNat)

theorem or_add (a b k : Nat) (h : b < 2 ^ k) : (a * 2 ^ k ||| b) = a * 2 ^ k + b := by
  rw [Nat.mul_comm, ← Nat.two_pow_add_eq_or_of_lt h]

theorem word_int (a b c d : UInt8) : bits .or .u32 (bits .or .u32 (bits .or .u32 ((a.toNat : Int) * 16777216) ((b.toNat : Int) * 65536)) ((c.toNat : Int) * 256)) (d.toNat : Int) = ((wordOf a b c d).toNat : Int) := by
  have ha := a.toNat_lt
  have hb := b.toNat_lt
  have hc := c.toNat_lt
  have hd := d.toNat_lt
  have e1 : (a.toNat : Int) * 16777216 = ((a.toNat * 16777216 : Nat) : Int) := by omega
  have e2 : (b.toNat : Int) * 65536 = ((b.toNat * 65536 : Nat) : Int) := by omega
  have e3 : (c.toNat : Int) * 256 = ((c.toNat * 256 : Nat) : Int) := by omega
  rw [e1, e2, e3, (bits_u32 _ _ (by omega) (by omega)).2.1]
  have f1 : (a.toNat * 16777216 ||| b.toNat * 65536) = a.toNat * 16777216 + b.toNat * 65536 := or_add a.toNat (b.toNat * 65536) 24 (by omega)
  rw [f1, (bits_u32 _ _ (by omega) (by omega)).2.1]
  have f2 : (a.toNat * 16777216 + b.toNat * 65536 ||| c.toNat * 256) = a.toNat * 16777216 + b.toNat * 65536 + c.toNat * 256 := by
    have := or_add (a.toNat * 256 + b.toNat) (c.toNat * 256) 16 (by omega)
    have e : (a.toNat * 256 + b.toNat) * 2 ^ 16 = a.toNat * 16777216 + b.toNat * 65536 := by omega
    rwa [e] at this
  rw [f2, (bits_u32 _ _ (by omega) (by omega)).2.1]
  have f3 : (a.toNat * 16777216 + b.toNat * 65536 + c.toNat * 256 ||| d.toNat) = a.toNat * 16777216 + b.toNat * 65536 + c.toNat * 256 + d.toNat := by
    have := or_add (a.toNat * 65536 + b.toNat * 256 + c.toNat) d.toNat 8 (by omega)
    have e : (a.toNat * 65536 + b.toNat * 256 + c.toNat) * 2 ^ 8 = a.toNat * 16777216 + b.toNat * 65536 + c.toNat * 256 := by omega
    rwa [e] at this
  rw [f3]
  unfold wordOf
  rw [UInt32.toNat_ofNat']; omega

set_option maxHeartbeats 400000 in
theorem word_c (a b c d : UInt8) (w : World) :
    Calls Try.prog 70 #[.agg #[.int .u8 a.toNat, .int .u8 b.toNat, .int .u8 c.toNat, .int .u8 d.toNat]] w fun e w' => e = .returned (.int .u32 (wordOf a b c d).toNat) ∧ Ext w w' := by
  have ha := u8_lt a
  have hb := u8_lt b
  have hc := u8_lt c
  have hd := u8_lt d
  go_enter Try.func70, Try.ntmps70
  go_wp2
  go_ret
  refine ⟨?_, (Ext.refl _).alloc _⟩
  rw [← word_int]; rfl

/-- the four octets of a word -/
def octL (n : UInt32) : List UInt8 := [UInt8.ofNat (n.toNat / 16777216), UInt8.ofNat (n.toNat / 65536), UInt8.ofNat (n.toNat / 256), UInt8.ofNat n.toNat]

theorem u8_ofNat (m : Nat) : ((UInt8.ofNat m).toNat : Int) = (m : Int) % 256 := by
  rw [UInt8.toNat_ofNat']; omega

theorem octL_vals (n : UInt32) : (octL n).map u8v = [.int .u8 ((n.toNat : Int) / 16777216 % 256), .int .u8 ((n.toNat : Int) / 65536 % 256), .int .u8 ((n.toNat : Int) / 256 % 256), .int .u8 ((n.toNat : Int) % 256)] := by
  simp only [octL, List.map_cons, List.map_nil, u8v, u8_ofNat, Int.natCast_ediv, Int.cast_ofNat_Int]

set_option maxHeartbeats 400000 in
theorem octets_c (n : UInt32) (w : World) :
    Calls Try.prog 73 #[.int .u32 n.toNat] w fun e w' => e = .returned (.agg ((octL n).map u8v).toArray) ∧ Ext w w' := by
  rw [octL_vals]
  go_enter Try.func73, Try.ntmps73
  go_wp2
  exact bodyPost_ret (v := .agg #[.int .u8 ((n.toNat : Int) / 16777216 % 256), .int .u8 ((n.toNat : Int) / 65536 % 256), .int .u8 ((n.toNat : Int) / 256 % 256), .int .u8 ((n.toNat : Int) % 256)])
    (by simp [results, Try.results73, go_sem]) rfl ⟨rfl, (Ext.refl _).alloc _⟩

def longL (n : UInt64) : List UInt8 := octL (UInt32.ofNat (n.toNat / 4294967296)) ++ octL (UInt32.ofNat n.toNat)

theorem u32_ofNat (m : Nat) : ((UInt32.ofNat m).toNat : Int) = (m : Int) % 4294967296 := by
  rw [UInt32.toNat_ofNat']; omega

theorem octets_lit (n : UInt32) (w : World) :
    Calls Try.prog 73 #[.int .u32 n.toNat] w fun e w' => e = .returned (.agg #[.int .u8 ((n.toNat : Int) / 16777216 % 256), .int .u8 ((n.toNat : Int) / 65536 % 256), .int .u8 ((n.toNat : Int) / 256 % 256), .int .u8 ((n.toNat : Int) % 256)]) ∧ Ext w w' := by
  have := octets_c n w
  rw [octL_vals] at this
  exact this

theorem longL_vals (n : UInt64) : (longL n).map u8v = [.int .u8 (((UInt32.ofNat (n.toNat / 4294967296)).toNat : Int) / 16777216 % 256), .int .u8 (((UInt32.ofNat (n.toNat / 4294967296)).toNat : Int) / 65536 % 256), .int .u8 (((UInt32.ofNat (n.toNat / 4294967296)).toNat : Int) / 256 % 256), .int .u8 (((UInt32.ofNat (n.toNat / 4294967296)).toNat : Int) % 256),
    .int .u8 (((UInt32.ofNat n.toNat).toNat : Int) / 16777216 % 256), .int .u8 (((UInt32.ofNat n.toNat).toNat : Int) / 65536 % 256), .int .u8 (((UInt32.ofNat n.toNat).toNat : Int) / 256 % 256), .int .u8 (((UInt32.ofNat n.toNat).toNat : Int) % 256)] := by
  unfold longL
  rw [List.map_append, octL_vals, octL_vals]; rfl

theorem agg_eight : AggT Try.prog 113 8 := ⟨⟨_, Try.underlying113, rfl⟩, by kernel_rfl⟩

set_option maxHeartbeats 400000 in
theorem longOctets_c (n : UInt64) (w : World) :
    Calls Try.prog 71 #[.int .u64 n.toNat] w fun e w' => e = .returned (.agg ((longL n).map u8v).toArray) ∧ Ext w w' := by
  rw [longL_vals]
  have hn : (n.toNat : Int) < 18446744073709551616 := by have := n.toNat_lt; omega
  have h1 : (n.toNat : Int) / 4294967296 = ((UInt32.ofNat (n.toNat / 4294967296)).toNat : Int) := by rw [u32_ofNat]; omega
  have h2 : ((n.toNat : Int) % 4294967296) = ((UInt32.ofNat n.toNat).toNat : Int) := by rw [u32_ofNat]
  generalize UInt32.ofNat (n.toNat / 4294967296) = x at *
  generalize UInt32.ofNat n.toNat = y at *
  go_enter Try.func71, Try.ntmps71
  go_wp2_with fail
  refine (octets_lit _ _).mono ?_
  rintro e w1 ⟨rfl, hb1⟩
  obtain ⟨hc1, hf1⟩ := bcell hb1
  have hz1 : w.heap.size < w1.heap.size := by have := hb1.size; simp at this; omega
  go_wp2_with fail
  refine (octets_lit _ _).mono ?_
  rintro e w2 ⟨rfl, hb2⟩
  obtain ⟨hc2, hf2⟩ := bcell hb2
  have hz2 : w.heap.size < w2.heap.size := by have := hb2.size; omega
  go_wp2_with fail
  have b2 : Ext w w2 := (((Ext.refl w).alloc _).ext hb1).ext hb2
  have k2 : Blk w2 w.heap.size (List.replicate 8 (.int .u8 0)) 113 :=
    ((Blk.alloc_new w (List.replicate 8 (.int .u8 0)) 113).below hb1 (by simp)).below hb2 hz1
  have k3 := ((((((((k2.set 0 (.int .u8 (↑x.toNat / 16777216 % 256))).set 1 (.int .u8 (↑x.toNat / 65536 % 256))).set 2 (.int .u8 (↑x.toNat / 256 % 256))).set 3 (.int .u8 (↑x.toNat % 256))).set 4 (.int .u8 (↑y.toNat / 16777216 % 256))).set 5 (.int .u8 (↑y.toNat / 65536 % 256))).set 6 (.int .u8 (↑y.toNat / 256 % 256))).set 7 (.int .u8 (↑y.toNat % 256)))
  refine ret_row (g := w.heap.size) rfl rfl ((k3.alloc _).alloc _) agg_eight rfl rfl ⟨rfl, ?_⟩
  refine Ext.alloc (Ext.alloc ?_ _) _
  iterate 8 refine Ext.set ?_ _ (Nat.le_refl _)
  exact b2
end Go.Proofs.Ytjgglnflicemjaa
