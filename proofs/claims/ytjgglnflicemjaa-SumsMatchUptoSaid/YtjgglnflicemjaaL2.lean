/- Plain laws: a word's and a long's octets are read back; no condition but lengths. -/
import Derived.Test.YtjgglnflicemjaaN3
namespace Go.Proofs.Ytjgglnflicemjaa
open Go Go.RowKit

theorem word_octL (x : UInt32) : wordOf (UInt8.ofNat (x.toNat / 16777216)) (UInt8.ofNat (x.toNat / 65536)) (UInt8.ofNat (x.toNat / 256)) (UInt8.ofNat x.toNat) = x := by
  have hx := x.toNat_lt
  unfold wordOf
  apply UInt32.toNat_inj.1
  rw [UInt32.toNat_ofNat', UInt8.toNat_ofNat', UInt8.toNat_ofNat', UInt8.toNat_ofNat', UInt8.toNat_ofNat']
  omega

theorem octL_word (a b c d : UInt8) : octL (wordOf a b c d) = [a, b, c, d] := by
  have ha := a.toNat_lt
  have hb := b.toNat_lt
  have hc := c.toNat_lt
  have hd := d.toNat_lt
  have hw : (wordOf a b c d).toNat = a.toNat * 16777216 + b.toNat * 65536 + c.toNat * 256 + d.toNat := by
    unfold wordOf
    rw [UInt32.toNat_ofNat']; omega
  unfold octL
  rw [hw]
  congr 1
  · apply UInt8.toNat_inj.1; rw [UInt8.toNat_ofNat']; omega
  congr 1
  · apply UInt8.toNat_inj.1; rw [UInt8.toNat_ofNat']; omega
  congr 1
  · apply UInt8.toNat_inj.1; rw [UInt8.toNat_ofNat']; omega
  congr 1
  · apply UInt8.toNat_inj.1; rw [UInt8.toNat_ofNat']; omega

theorem word4_app (l m : List UInt8) (a b c d : UInt8) (r : List UInt8) (q : Nat) (h : l.length = q) (hm : m = a :: b :: c :: d :: r) : word4 (l ++ m) q = wordOf a b c d := by
  subst hm; subst h
  unfold word4
  rw [List.getElem?_append_right (by omega), List.getElem?_append_right (by omega), List.getElem?_append_right (by omega), List.getElem?_append_right (by omega)]
  rw [show l.length - l.length = 0 by omega, show l.length + 1 - l.length = 1 by omega, show l.length + 2 - l.length = 2 by omega, show l.length + 3 - l.length = 3 by omega]
  rfl
theorem word4_octL (l : List UInt8) (x : UInt32) (q : Nat) (h : l.length = q) : word4 (l ++ octL x) q = x := by
  rw [word4_app l (octL x) _ _ _ _ [] q h rfl, word_octL]

theorem long8_longL (l : List UInt8) (u : UInt64) (q : Nat) (h : l.length = q) : long8 (l ++ longL u) q = u.toNat := by
  have hu := u.toNat_lt
  unfold long8 longL
  rw [← List.append_assoc, word4_octL (l ++ octL _) _ (q + 4) (by rw [List.length_append, h]; rfl)]
  rw [List.append_assoc, word4_app l (octL _ ++ octL _) _ _ _ _ _ q h rfl, word_octL, UInt32.toNat_ofNat', UInt32.toNat_ofNat']
  omega

theorem longL_long8 (l : List UInt8) (p : Nat) (h : p + 8 ≤ l.length) : longL (UInt64.ofNat (long8 l p)) = (l.drop p).take 8 := by
  have hx := (word4 l p).toNat_lt
  have hy := (word4 l (p + 4)).toNat_lt
  have hl : (UInt64.ofNat (long8 l p)).toNat = long8 l p := by
    rw [UInt64.toNat_ofNat']; unfold long8; omega
  unfold longL
  rw [hl]
  have h1 : UInt32.ofNat (long8 l p / 4294967296) = word4 l p := by
    apply UInt32.toNat_inj.1; rw [UInt32.toNat_ofNat']; unfold long8; omega
  have h2 : UInt32.ofNat (long8 l p) = word4 l (p + 4) := by
    apply UInt32.toNat_inj.1; rw [UInt32.toNat_ofNat']; unfold long8; omega
  rw [h1, h2]
  unfold word4
  rw [octL_word, octL_word]
  apply List.ext_getElem?
  intro i
  by_cases hi : i < 8
  · rw [List.getElem?_take_of_lt hi, List.getElem?_drop]
    have he : l[p + i]? = some (l[p + i]?.getD 0) := by
      rw [List.getElem?_eq_getElem (by omega)]; rfl
    rw [he]
    have : i = 0 ∨ i = 1 ∨ i = 2 ∨ i = 3 ∨ i = 4 ∨ i = 5 ∨ i = 6 ∨ i = 7 := by omega
    rcases this with rfl | rfl | rfl | rfl | rfl | rfl | rfl | rfl <;> rfl
  · rw [List.getElem?_eq_none (by simp; omega), List.getElem?_eq_none (by simp; omega)]
end Go.Proofs.Ytjgglnflicemjaa
