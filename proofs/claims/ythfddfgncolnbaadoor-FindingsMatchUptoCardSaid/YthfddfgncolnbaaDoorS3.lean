/- Contracts of wordsOf, stateOf, and of the references' words and octets; condition: the array's length. -/
import Derived.Test.YthfddfgncolnbaaDoorS2
namespace Go.Proofs.YthfddfgncolnbaaDoor
open Go Go.RowKit

def wordAt (l : List UInt8) (i : Nat) : UInt32 := wordOf (l[4 * i]?.getD 0) (l[4 * i + 1]?.getD 0) (l[4 * i + 2]?.getD 0) (l[4 * i + 3]?.getD 0)
def wordsL (l : List UInt8) : List UInt32 := (List.range 16).map (wordAt l)

theorem cell_u8 {w : World} {g : Nat} {l : List UInt8} {T : TypeId} (h : Blk w g (l.map u8v) T) {i : Nat} (hi : i < l.length) : w.cell? ⟨g, i, none⟩ = some (.int .u8 (((l[i]?.getD 0).toNat : Nat) : Int)) := by
  refine h.cell' ?_
  simp [hi, u8v]
theorem cell_u32 {w : World} {g : Nat} {l : List UInt32} {T : TypeId} (h : Blk w g (l.map u32v) T) {i : Nat} (hi : i < l.length) : w.cell? ⟨g, i, none⟩ = some (.int .u32 (((l[i]?.getD 0).toNat : Nat) : Int)) := by
  refine h.cell' ?_
  simp [hi, u32v]

theorem zeros32 (n : Nat) : (List.replicate n (0 : UInt32)).map u32v = List.replicate n (.int .u32 0) := by simp [u32v]
theorem zeros8 (n : Nat) : (List.replicate n (0 : UInt8)).map u8v = List.replicate n (.int .u8 0) := by simp [u8v]

theorem one_u8t : OneT Tryd.prog 5 := ⟨⟨_, Tryd.underlying5, rfl⟩, by kernel_rfl⟩
theorem one_u32t : OneT Tryd.prog 66 := ⟨⟨_, Tryd.underlying66, rfl⟩, by kernel_rfl⟩
theorem agg_state : AggT Tryd.prog 86 64 := ⟨⟨_, Tryd.underlying86, rfl⟩, by kernel_rfl⟩
/-- R.words: word j after i octets -/
def wordPart (l : List UInt8) (i j : Nat) : UInt32 :=
  if i ≤ 4 * j then 0 else if i = 4 * j + 1 then wordOf 0 0 0 (l[4 * j]?.getD 0) else if i = 4 * j + 2 then wordOf 0 0 (l[4 * j]?.getD 0) (l[4 * j + 1]?.getD 0)
  else if i = 4 * j + 3 then wordOf 0 (l[4 * j]?.getD 0) (l[4 * j + 1]?.getD 0) (l[4 * j + 2]?.getD 0) else wordAt l j
def wordsPart (l : List UInt8) (i : Nat) : List UInt32 := (List.range 16).map (wordPart l i)

theorem shl_or (a b c d e : UInt8) : bits .or .u32 (((wordOf a b c d).toNat : Int) * 256 % 4294967296) (e.toNat : Int) = ((wordOf b c d e).toNat : Int) := by
  have ha := a.toNat_lt
  have hb := b.toNat_lt
  have hc := c.toNat_lt
  have hd := d.toNat_lt
  have he := e.toNat_lt
  have e1 : ((wordOf a b c d).toNat : Int) * 256 % 4294967296 = ((b.toNat * 65536 + c.toNat * 256 + d.toNat) * 256 : Nat) := by
    unfold wordOf
    rw [UInt32.toNat_ofNat']; omega
  rw [e1, (bits_u32 _ _ (by omega) (by omega)).2.1]
  have f3 := or_add (b.toNat * 65536 + c.toNat * 256 + d.toNat) e.toNat 8 (by omega)
  rw [show (2 : Nat) ^ 8 = 256 from rfl] at f3
  rw [f3]
  unfold wordOf
  rw [UInt32.toNat_ofNat']; omega

theorem wordPart_step (l : List UInt8) (i : Nat) : ∃ a b c d, wordPart l i (i / 4) = wordOf a b c d ∧ wordPart l (i + 1) (i / 4) = wordOf b c d (l[i]?.getD 0) := by
  have h := Nat.div_add_mod i 4
  have hm : i % 4 < 4 := Nat.mod_lt _ (by omega)
  have e : ∃ q, i / 4 = q := ⟨_, rfl⟩
  obtain ⟨q, hq⟩ := e
  rw [hq] at h ⊢
  clear hq
  unfold wordPart
  rcases (by omega : i % 4 = 0 ∨ i % 4 = 1 ∨ i % 4 = 2 ∨ i % 4 = 3) with h0 | h0 | h0 | h0
  · obtain rfl : i = 4 * q := by omega
    exact ⟨0, 0, 0, 0, by rw [if_pos (by omega)]; rfl, by rw [if_neg (by omega), if_pos (by omega)]⟩
  · obtain rfl : i = 4 * q + 1 := by omega
    exact ⟨0, 0, 0, _, by rw [if_neg (by omega), if_pos (by omega)], by rw [if_neg (by omega), if_neg (by omega), if_pos (by omega)]⟩
  · obtain rfl : i = 4 * q + 2 := by omega
    exact ⟨0, 0, _, _, by rw [if_neg (by omega), if_neg (by omega), if_pos (by omega)], by rw [if_neg (by omega), if_neg (by omega), if_neg (by omega), if_pos (by omega)]⟩
  · obtain rfl : i = 4 * q + 3 := by omega
    exact ⟨0, _, _, _, by rw [if_neg (by omega), if_neg (by omega), if_neg (by omega), if_pos (by omega)], by rw [if_neg (by omega), if_neg (by omega), if_neg (by omega), if_neg (by omega)]; rfl⟩

theorem wordPart_other (l : List UInt8) (i j : Nat) (h : j ≠ i / 4) : wordPart l (i + 1) j = wordPart l i j := by
  have h1 := Nat.div_add_mod i 4
  have hm : i % 4 < 4 := Nat.mod_lt _ (by omega)
  generalize i / 4 = q at *
  unfold wordPart
  by_cases h2 : j < q
  · rw [if_neg (by omega), if_neg (by omega), if_neg (by omega), if_neg (by omega)]
    by_cases h3 : i = 4 * j + 3
    · omega
    · rw [if_neg (by omega), if_neg (by omega), if_neg (by omega), if_neg (by omega)]
  · rw [if_pos (by omega), if_pos (by omega)]

theorem wordsPart_step (l : List UInt8) (i : Nat) : (wordsPart l i).set (i / 4) (wordPart l (i + 1) (i / 4)) = wordsPart l (i + 1) := by
  unfold wordsPart
  apply List.ext_getElem?
  intro j
  rw [List.getElem?_set]
  by_cases hj : i / 4 = j
  · subst hj
    simp only [if_true, List.length_map, List.length_range, List.getElem?_map]
    by_cases h16 : i / 4 < 16
    · simp [h16]
    · simp [h16]
  · rw [if_neg hj]
    simp only [List.getElem?_map]
    by_cases h16 : j < 16
    · simp [h16, wordPart_other l i j (Ne.symm hj)]
    · simp [h16]

def octAt (ws : List UInt32) (j : Nat) : UInt8 := (octL (ws[j / 4]?.getD 0))[j % 4]?.getD 0
def stateL (ws : List UInt32) : List UInt8 := (List.range 64).map (octAt ws)

theorem octL_range (ws : List UInt32) (k : Nat) : octL (ws[k]?.getD 0) = (List.range 4).map fun j => octAt ws (4 * k + j) := by
  have e : ∀ j, j < 4 → octAt ws (4 * k + j) = (octL (ws[k]?.getD 0))[j]?.getD 0 := fun j hj => by
    unfold octAt
    rw [show (4 * k + j) / 4 = k by omega, show (4 * k + j) % 4 = j by omega]
  show _ = [octAt ws (4 * k + 0), octAt ws (4 * k + 1), octAt ws (4 * k + 2), octAt ws (4 * k + 3)]
  rw [e 0 (by omega), e 1 (by omega), e 2 (by omega), e 3 (by omega)]
  rfl

theorem shr_oct (n : UInt32) (m : Nat) (hm : m < 4) : ((n.toNat : Int) / 2 ^ (24 - 8 * m) % 256) = (((octL n)[m]?.getD 0).toNat : Int) := by
  rcases (by omega : m = 0 ∨ m = 1 ∨ m = 2 ∨ m = 3) with rfl | rfl | rfl | rfl
  all_goals simp only [octL]; simp; try rw [UInt8.toNat_ofNat']; omega

end Go.Proofs.YthfddfgncolnbaaDoor
