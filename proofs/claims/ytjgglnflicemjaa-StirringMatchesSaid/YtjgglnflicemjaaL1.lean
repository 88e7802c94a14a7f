/- Plain laws: Stir and Unstir undo each other; condition: the array's length. -/
import Derived.Test.YtjgglnflicemjaaS4
namespace Go.Proofs.Ytjgglnflicemjaa
open Go Go.RowKit

theorem get_set_ne {ws : List UInt32} {i j : Nat} (x : UInt32) (h : i ≠ j) : (ws.set i x)[j]?.getD 0 = ws[j]?.getD 0 := by
  rw [List.getElem?_set_ne h]
theorem get_set_eq {ws : List UInt32} {i : Nat} (x : UInt32) (h : i < ws.length) : (ws.set i x)[i]?.getD 0 = x := by
  simp [h]
theorem set_back {ws : List UInt32} {i : Nat} (h : i < ws.length) : ws.set i (ws[i]?.getD 0) = ws := by
  apply List.ext_getElem?
  intro j
  rw [List.getElem?_set]
  by_cases hij : i = j
  · subst hij; simp [h]
  · rw [if_neg hij]

theorem turnW_set (ws : List UInt32) (r i k : Nat) (x : UInt32) (h : k ≠ (i + 1 + r) % 16) : turnW (ws.set k x) r i = turnW ws r i := by
  unfold turnW
  rw [List.getD_eq_getElem?_getD, List.getD_eq_getElem?_getD, List.getElem?_set_ne h]

theorem addsub (x t : UInt32) : sub32 (add32 x t) t = x := by unfold sub32 add32; exact UInt32.add_sub_cancel x t
theorem subadd (x t : UInt32) : add32 (sub32 x t) t = x := by unfold sub32 add32; exact UInt32.sub_add_cancel x t
theorem xorxor (x t : UInt32) : xor32 (xor32 x t) t = x := by unfold xor32; rw [UInt32.xor_assoc, UInt32.xor_self, UInt32.xor_zero]

theorem sub_add_W (ws : List UInt32) (r i : Nat) (hl : ws.length = 16) (hi : i < 16) (hr : r < 8) : subW (addW ws r i) r i = ws := by
  unfold subW addW
  rw [turnW_set _ _ _ _ _ (by omega), get_set_eq _ (by omega), addsub, List.set_set, set_back (by omega)]
theorem add_sub_W (ws : List UInt32) (r i : Nat) (hl : ws.length = 16) (hi : i < 16) (hr : r < 8) : addW (subW ws r i) r i = ws := by
  unfold subW addW
  rw [turnW_set _ _ _ _ _ (by omega), get_set_eq _ (by omega), subadd, List.set_set, set_back (by omega)]
theorem xor_xor_W (ws : List UInt32) (i : Nat) (hl : ws.length = 16) (hi : i < 16) : xorW (xorW ws i) i = ws := by
  unfold xorW
  rw [get_set_eq _ (by omega), get_set_ne _ (by omega), xorxor, List.set_set, set_back (by omega)]

theorem unstep_step (ws : List UInt32) (r i : Nat) (hl : ws.length = 16) (hi : i < 16) (hr : r < 8) : unstepW (stepW ws r i) r i = ws := by
  unfold unstepW stepW
  rw [xor_xor_W _ _ (by rw [addW_length]; exact hl) hi, sub_add_W _ _ _ hl hi hr]
theorem step_unstep (ws : List UInt32) (r i : Nat) (hl : ws.length = 16) (hi : i < 16) (hr : r < 8) : stepW (unstepW ws r i) r i = ws := by
  unfold unstepW stepW
  rw [add_sub_W _ _ _ (by rw [xorW_length]; exact hl) hi hr, xor_xor_W _ _ hl hi]

theorem unround_round (r : Nat) (ws : List UInt32) (hl : ws.length = 16) (hr : r < 8) : ∀ j, j ≤ 16 → unroundTo r (roundTo r ws 16) j = roundTo r ws (16 - j) := by
  intro j
  induction j with
  | zero => intro _; rfl
  | succ j ih =>
    intro hj
    rw [unroundTo, ih (by omega), show 16 - j = (15 - j) + 1 by omega, roundTo, unstep_step _ _ _ (by rw [roundTo_length]; exact hl) (by omega) hr]
    congr 1
    omega
theorem round_unround (r : Nat) (ws : List UInt32) (hl : ws.length = 16) (hr : r < 8) : ∀ j, j ≤ 16 → roundTo r (unroundTo r ws 16) j = unroundTo r ws (16 - j) := by
  intro j
  induction j with
  | zero => intro _; rfl
  | succ j ih =>
    intro hj
    rw [roundTo, ih (by omega), show 16 - j = (15 - j) + 1 by omega, unroundTo, show 15 - (15 - j) = j by omega, step_unstep _ _ _ (by rw [unroundTo_length]; exact hl) (by omega) hr]
    congr 1
    omega
theorem unstir_stir_W (ws : List UInt32) (hl : ws.length = 16) : ∀ j, j ≤ 8 → unstirTo (stirTo ws 8) j = stirTo ws (8 - j) := by
  intro j
  induction j with
  | zero => intro _; rfl
  | succ j ih =>
    intro hj
    rw [unstirTo, ih (by omega), show 8 - j = (7 - j) + 1 by omega, stirTo, unround_round _ _ (by rw [stirTo_length]; exact hl) (by omega) 16 (by omega)]
    show stirTo ws (7 - j) = _
    congr 1
    omega
theorem stir_unstir_W (ws : List UInt32) (hl : ws.length = 16) : ∀ j, j ≤ 8 → stirTo (unstirTo ws 8) j = unstirTo ws (8 - j) := by
  intro j
  induction j with
  | zero => intro _; rfl
  | succ j ih =>
    intro hj
    rw [stirTo, ih (by omega), show 8 - j = (7 - j) + 1 by omega, unstirTo, show 7 - (7 - j) = j by omega, round_unround _ _ (by rw [unstirTo_length]; exact hl) (by omega) 16 (by omega)]
    show unstirTo ws (7 - j) = _
    congr 1
    omega

theorem octL_word (a b c d : UInt8) : octL (wordOf a b c d) = [a, b, c, d] := by
  have ha := a.toNat_lt
  have hb := b.toNat_lt
  have hc := c.toNat_lt
  have hd := d.toNat_lt
  have e : (wordOf a b c d).toNat = a.toNat * 16777216 + b.toNat * 65536 + c.toNat * 256 + d.toNat := by
    unfold wordOf
    rw [UInt32.toNat_ofNat']; omega
  unfold octL
  rw [e]
  have f : ∀ (m : Nat) (x : UInt8), m % 256 = x.toNat → UInt8.ofNat m = x := fun m x h => by
    apply UInt8.toNat_inj.1
    rw [UInt8.toNat_ofNat']; exact h
  rw [f _ a (by omega), f _ b (by omega), f _ c (by omega), f _ d (by omega)]
theorem word_octL (n : UInt32) : wordOf (UInt8.ofNat (n.toNat / 16777216)) (UInt8.ofNat (n.toNat / 65536)) (UInt8.ofNat (n.toNat / 256)) (UInt8.ofNat n.toNat) = n := by
  have h := n.toNat_lt
  apply UInt32.toNat_inj.1
  unfold wordOf
  rw [UInt32.toNat_ofNat', UInt8.toNat_ofNat', UInt8.toNat_ofNat', UInt8.toNat_ofNat', UInt8.toNat_ofNat']
  omega

theorem state_words (l : List UInt8) (hl : l.length = 64) : stateL (wordsL l) = l := by
  apply List.ext_getElem?
  intro j
  by_cases hj : j < 64
  · have h1 : (wordsL l)[j / 4]?.getD 0 = wordAt l (j / 4) := by simp [wordsL, show j / 4 < 16 by omega]
    simp only [stateL, List.getElem?_map, List.getElem?_range hj, Option.map_some, octAt, h1, wordAt, octL_word]
    have fin : ∀ k, k = j → some (l[k]?.getD 0) = l[j]? := fun k hk => by subst hk; simp [hl, hj]
    rcases (by omega : j % 4 = 0 ∨ j % 4 = 1 ∨ j % 4 = 2 ∨ j % 4 = 3) with h | h | h | h
    all_goals
      rw [h]
      simp only [List.getElem?_cons_zero, List.getElem?_cons_succ, Option.getD_some]
      exact fin _ (by omega)
  · rw [List.getElem?_eq_none (by rw [stateL_length]; omega), List.getElem?_eq_none (by omega)]
theorem words_state (ws : List UInt32) (hl : ws.length = 16) : wordsL (stateL ws) = ws := by
  apply List.ext_getElem?
  intro j
  by_cases hj : j < 16
  · have g : ∀ k, k < 4 → (stateL ws)[4 * j + k]?.getD 0 = (octL (ws[j]?.getD 0))[k]?.getD 0 := fun k hk => by
      simp only [stateL, List.getElem?_map, List.getElem?_range (show 4 * j + k < 64 by omega), Option.map_some, octAt, Option.getD_some, show (4 * j + k) / 4 = j by omega, show (4 * j + k) % 4 = k by omega]
    have g0 := g 0 (by omega)
    have g1 := g 1 (by omega)
    have g2 := g 2 (by omega)
    have g3 := g 3 (by omega)
    simp only [wordsL, List.getElem?_map, List.getElem?_range hj, Option.map_some, wordAt]
    rw [Nat.add_zero] at g0
    rw [g0, g1, g2, g3]
    simp only [octL, List.getElem?_cons_zero, List.getElem?_cons_succ, Option.getD_some, word_octL]
    simp [hl, hj]
  · rw [List.getElem?_eq_none (by rw [wordsL_length]; omega), List.getElem?_eq_none (by omega)]

theorem unstir_stir (l : List UInt8) (hl : l.length = 64) : unstirL (stirL l) = l := by
  unfold unstirL stirL
  rw [words_state _ (by rw [stirTo_length, wordsL_length]), unstir_stir_W _ (wordsL_length l) 8 (by omega)]
  exact state_words l hl
theorem stir_unstir (l : List UInt8) (hl : l.length = 64) : stirL (unstirL l) = l := by
  unfold unstirL stirL
  rw [words_state _ (by rw [unstirTo_length, wordsL_length]), stir_unstir_W _ (wordsL_length l) 8 (by omega)]
  exact state_words l hl
theorem stirL_length (l : List UInt8) : (stirL l).length = 64 := stateL_length _
theorem unstirL_length (l : List UInt8) : (unstirL l).length = 64 := stateL_length _
end Go.Proofs.Ytjgglnflicemjaa
