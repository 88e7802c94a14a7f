/- Contracts and laws that the claim's row leans on (16 texts, joined): The reference's IsName; conditions: the string's size. The reference's IsName, whole; conditions: the string's size. Blocks of a stream: what streamBlock computes; conditions: the lengths. Stream: what it computes; conditions: the lengths. Stream and Cover: what they compute; conditions: the lengths. The reference's Stream: what it computes; conditions: the lengths. The reference's Cover: what it computes; conditions: the lengths. And: what is covered twice. Arrays of octets are compared; condition: their lengths. The law SummersAreBounded, walked; no condition. The law TagsMatch, walked; conditions: the lengths. The law StreamsMatch, walked; conditions: the lengths. Appends of which the row's block is told; conditions: the lengths. The reference's Derive: what it computes, where IsName's answer is known; conditions: the key's length, the label's. Two operations that make memory, in either order; mix.Derive; conditions: the lengths. Derive at every input; the law KeysAreDerived, walked; conditions: the lengths, the string's size. Readings of arguments are opened; no condition. -/
import Derived.Test.YtelhnimdfepmdaaJ2
import Derived.Laws.OwnMore
import Derived.Test.YtelhnimdfepmdaaProg
import Derived.Stop.BytesEq
import Derived.Deep.DeepCutAuto
import Derived.Deep.CutBlock
import Derived.Lib.AppendStr
import Derived.Laws.IdiomStrings
import Derived.ProofKit
import Derived.OpenShut
namespace Go.Proofs.Ytelhnimdfepmdaa
section
open Go Go.RowKit

theorem nameOct_high {c : UInt8} (h : 128 ≤ c.toNat) : nameOct c = false := by
  unfold nameOct
  simp
  omega
theorem runeOk_low {r : Nat} (h : r < 128) : runeOk r = nameOct (UInt8.ofNat r) := by
  unfold runeOk
  rw [decide_eq_true h, Bool.true_and]
theorem runeOk_high {r : Nat} (h : 128 ≤ r) : runeOk r = false := by
  unfold runeOk
  rw [decide_eq_false (by omega), Bool.false_and]
theorem runeOk_oct (c : UInt8) (h : c.toNat < 128) : runeOk c.toNat = nameOct c := by
  rw [runeOk_low h, UInt8.ofNat_toNat]

set_option maxRecDepth 100000 in
set_option maxHeartbeats 1000000 in
theorem indexRune_c (r : Nat) (w : World) (h : r ≤ 1114111) :
    Calls Try.prog 97 #[.string alpha, .int .i32 (r : Int)] w fun e w' => ∃ z : Int, e = .returned (.int .i64 z) ∧ decide (0 ≤ z) = runeOk r ∧ Ext w w' := by
  by_cases h1 : r < 128
  · refine (indexRune_low r w h1).mono ?_
    rintro e w' ⟨rfl, rfl⟩
    refine ⟨_, rfl, ?_, Ext.refl _⟩
    rw [firstIdx_nonneg, runeOk_low h1]
    have := alpha_any ⟨r, by omega⟩
    exact this
  · by_cases h2 : r = 65533
    · subst h2
      refine (indexRune_err w).mono ?_
      rintro e w' ⟨rfl, e1⟩
      exact ⟨_, rfl, by rw [runeOk_high (by omega)]; rfl, e1⟩
    · by_cases h3 : 55296 ≤ r ∧ r ≤ 57343
      · refine (indexRune_bad r w h3.1 h3.2).mono ?_
        rintro e w' ⟨rfl, rfl⟩
        exact ⟨_, rfl, by rw [runeOk_high (by omega)]; rfl, Ext.refl _⟩
      · refine (indexRune_high r w (by omega) h (by omega) h2).mono ?_
        rintro e w' ⟨rfl, e1⟩
        exact ⟨_, rfl, by rw [runeOk_high (by omega)]; rfl, e1⟩

set_option maxRecDepth 100000 in
set_option maxHeartbeats 1000000 in
theorem containsRune_c (r : Nat) (w : World) (h : r ≤ 1114111) :
    Calls Try.prog 54 #[.string alpha, .int .i32 (r : Int)] w fun e w' => e = .returned (.bool (runeOk r)) ∧ Ext w w' := by
  have hi := hid (fun w' => indexRune_c r w' h)
  generalize runeOk r = R at *
  generalize alpha = s at *
  go_enter Try.func54, Try.ntmps54
  go_wp2_with fail
  refine (hi.out w).mono ?_
  rintro e w1 ⟨z, rfl, hz, e1⟩
  have E1 := hid e1
  clear e1 hi
  go_wp2_with fail
  go_ret
  exact ⟨by first | rfl | rw [hz], E1.out⟩

set_option maxRecDepth 100000 in
set_option maxHeartbeats 1000000 in
theorem notName_rune (r : Nat) (w : World) (h : r ≤ 1114111) :
    Calls Try.prog 53 #[.int .i32 (r : Int)] w fun e w' => e = .returned (.bool (!runeOk r)) ∧ Ext w w' := by
  have hi := hid (fun w' => containsRune_c r w' h)
  generalize runeOk r = R at *
  go_enter Try.func53, Try.ntmps53
  go_wp2_with fail
  refine (hi.out w).mono ?_
  rintro e w1 ⟨rfl, e1⟩
  have E1 := hid e1
  clear e1 hi
  go_wp2_with fail
  go_ret
  exact ⟨rfl, E1.out⟩

def predV : Value := .func (.func 53) #[] #[]

set_option maxRecDepth 100000 in
set_option maxHeartbeats 2000000 in
theorem indexFunc_c (s : ByteArray) (w : World) :
    Calls Try.prog 121 #[.string s, predV, .bool true] w fun e w' => ∃ z : Int, e = .returned (.int .i64 z) ∧ decide (0 ≤ z) = !(s.data.toList.all nameOct) ∧ Ext w w' := by
  obtain ⟨N, hN⟩ : ∃ N, s.size = N := ⟨_, rfl⟩
  have hll : s.data.toList.length = N := by rw [← hN, Array.length_toList]; rfl
  have HLL := hid hll
  have HN := hid hN
  clear hll hN
  unfold predV
  go_enter Try.func121, Try.ntmps121
  go_wp2
  go_loopg [] N (fun gf wx => ∃ pos : Nat, wx.heap[w.heap.size]? = some (.stringIter s pos) ∧ Below w.heap.size w wx ∧ Hid ((s.data.toList.take pos).all nameOct = true) ∧ N ≤ pos + gf)
  case atStart => exact ⟨0, World.iter_heap w s 0, (Below.refl _ w).alloc (Nat.le_refl _) _, hid (by simp), by omega⟩
  case round =>
    obtain ⟨pos, hit, hbw, hall, hfu⟩ := hrel
    by_cases hps : pos < s.size
    · have hpN : pos < N := by rw [← HN.out]; exact hps
      obtain ⟨g', rfl⟩ : ∃ g', gk = g' + 1 := ⟨gk - 1, by omega⟩
      have hnx : ∀ ty, (Instr.next (.pointer (some ⟨w.heap.size, 0, none⟩)) true ty).run Try.prog wr = _ := fun ty => Lib.run_next_any_at wr w.heap.size s pos ty hit hps
      have hrl := Lib.rune_le s pos
      have hc : s.data.toList[pos]? = some (s[pos]'hps) := by rw [Array.getElem?_toList]; exact Array.getElem?_eq_getElem hps
      obtain ⟨R, hR⟩ : ∃ R, (Utf8.decode s pos).1 = R := ⟨_, rfl⟩
      obtain ⟨K, hK⟩ : ∃ K, (Utf8.decode s pos).2 = K := ⟨_, rfl⟩
      have hok : runeOk R = nameOct (s[pos]'hps) ∧ (nameOct (s[pos]'hps) = true → K = 1) := by
        by_cases hb : (s[pos]'hps).toNat < 128
        · have hdec := decode_ascii s pos hps hb
          rw [hdec] at hR hK
          simp only at hR hK
          rw [← hR]
          exact ⟨runeOk_oct _ hb, fun _ => hK.symm⟩
        · have hh := (decode_high s pos hps (by omega)).1
          rw [hR] at hh
          refine ⟨by rw [runeOk_high hh, nameOct_high (by omega)], fun h => ?_⟩
          rw [nameOct_high (by omega)] at h; cases h
      rw [hR] at hnx hrl
      rw [hK] at hnx
      obtain ⟨b, hb⟩ : ∃ b, (s[pos]'hps) = b := ⟨_, rfl⟩
      rw [hb] at hok hc
      obtain ⟨hok1, hok2⟩ := hok
      have hit2 := Lib.iterAt_heap wr w.heap.size s pos (pos + K) hit
      have hbw2 := Lib.below_iterAt hbw (k := w.heap.size) (Nat.le_refl _) s (pos + K)
      have HIT := hid hit2
      have HBW := hid hbw2
      have hcl := hid (fun w' => notName_rune R w' hrl)
      have HC := hid hc
      generalize wr.iterAt w.heap.size s (pos + K) = wX at *
      have hgt : w.heap.size < wX.heap.size := (Array.getElem?_eq_some_iff.1 HIT.out).1
      cases hnm : nameOct b with
      | true =>
        rw [hnm] at hok1
        have hK1 := hok2 hnm
        subst hK1
        rw [hok1] at hcl
        have hst : (s.data.toList.take (pos + 1)).all nameOct = true := by
          rw [List.take_add_one, HC.out, List.all_append, hall.out]; simp [hnm]
        have HST := hid hst
        clear hit hbw hit2 hbw2 hR hK hok1 hok2 hc hst hb hrl
        go_wp2_with fail
        refine (hcl.out wX).mono ?_
        rintro e wY ⟨rfl, eY⟩
        have hit3 : wY.heap[w.heap.size]? = some (.stringIter s (pos + 1)) := by rw [eY.block _ hgt]; exact HIT.out
        have HIT3 := hid hit3
        have HBW3 := hid (HBW.out.trans (eY.mono HBW.out.size))
        clear eY hit3 hcl
        go_wp2_with fail
        go_roundg g'
        case measure => omega
        case rel => exact ⟨pos + 1, HIT3.out, HBW3.out, HST, by omega⟩
      | false =>
        rw [hnm] at hok1
        rw [hok1] at hcl
        have hbad : s.data.toList.all nameOct = false := by
          rw [List.all_eq_false]
          exact ⟨b, List.mem_of_getElem? HC.out, by rw [hnm]; simp⟩
        have HBAD := hid hbad
        clear hit hbw hit2 hbw2 hR hK hok1 hok2 hc hbad hb hrl
        go_wp2_with fail
        refine (hcl.out wX).mono ?_
        rintro e wY ⟨rfl, eY⟩
        have HBW3 := hid (HBW.out.trans (eY.mono HBW.out.size))
        clear eY hcl
        go_wp2_with fail
        go_ret
        exact ⟨_, rfl, by rw [HBAD.out]; exact decide_eq_true (by omega), HBW3.out⟩
    · have hnx : ∀ ty, (Instr.next (.pointer (some ⟨w.heap.size, 0, none⟩)) true ty).run Try.prog wr = _ := fun ty => Lib.run_next_end_at wr w.heap.size s pos ty hit hps
      have hfull : s.data.toList.take pos = s.data.toList := List.take_of_length_le (by rw [HLL.out]; have := HN.out; omega)
      have hall2 := hall.out
      rw [hfull] at hall2
      have HALL := hid hall2
      have HBW := hid hbw
      clear hit hbw hall hall2 hfull
      go_wp2_with fail
      go_ret
      exact ⟨_, rfl, by rw [HALL.out]; rfl, HBW.out⟩
end

section
open Go Go.RowKit

set_option maxRecDepth 100000 in
set_option maxHeartbeats 1000000 in
theorem containsFunc_c (s : ByteArray) (w : World) :
    Calls Try.prog 52 #[.string s, predV] w fun e w' => e = .returned (.bool (!(s.data.toList.all nameOct))) ∧ Ext w w' := by
  have hi := hid (fun w' => indexFunc_c s w')
  generalize s.data.toList.all nameOct = b at *
  generalize predV = pv at *
  have hj : Hid (∀ w, Calls Try.prog 96 #[.string s, pv] w fun e w' => ∃ z : Int, e = .returned (.int .i64 z) ∧ decide (0 ≤ z) = (!b) ∧ Ext w w') := by
    refine hid fun w => ?_
    go_enter Try.func96, Try.ntmps96
    go_wp2_with fail
    refine (hi.out w).mono ?_
    rintro e w1 ⟨z, rfl, hz, e1⟩
    have E1 := hid e1
    have HZ := hid hz
    clear e1 hi hz
    go_wp2_with fail
    go_ret
    exact ⟨z, rfl, HZ.out, E1.out⟩
  clear hi
  go_enter Try.func52, Try.ntmps52
  go_wp2_with fail
  refine (hj.out w).mono ?_
  rintro e w1 ⟨z, rfl, hz, e1⟩
  have E1 := hid e1
  clear e1 hj
  go_wp2_with fail
  go_ret
  exact ⟨by first | rfl | rw [hz], E1.out⟩

set_option maxRecDepth 100000 in
set_option maxHeartbeats 1000000 in
theorem risName_c (s : ByteArray) (w : World) (hn : s.size ≤ 9223372036854775807) :
    Calls Try.prog 16 #[.string s] w fun e w' => e = .returned (.bool (isNameL s.data.toList)) ∧ Ext w w' := by
  have hc := hid (fun w' => containsFunc_c s w')
  obtain ⟨n, hsn⟩ : ∃ n, s.size = n := ⟨_, rfl⟩
  have hll : s.data.toList.length = n := by rw [← hsn, Array.length_toList]; rfl
  obtain ⟨R, hR⟩ : ∃ R, isNameL s.data.toList = R := ⟨_, rfl⟩
  rw [hR]
  unfold isNameL at hR
  have hem : s.data.toList.isEmpty = decide (n = 0) := by
    rw [Bool.eq_iff_iff, List.isEmpty_iff, decide_eq_true_eq, ← hll, List.length_eq_zero_iff]
  have hse : s = ByteArray.empty ↔ n = 0 := by
    constructor
    · rintro rfl; rw [← hsn]; rfl
    · intro h
      have : s.data.toList = [] := List.length_eq_zero_iff.1 (by rw [hll]; exact h)
      cases s with
      | mk d => cases d with
        | mk l => simp at this; subst this; rfl
  rw [hem, hll] at hR
  generalize s.data.toList.all nameOct = b at *
  by_cases h0 : n = 0
  · have hs := hse.2 h0
    subst hs
    subst h0
    simp at hR
    subst hR
    clear hc hse hem hll hsn
    go_enter Try.func16, Try.ntmps16
    go_wp2
    go_ret
    exact ⟨rfl, Ext.refl _⟩
  · have hsne : ¬ s = ByteArray.empty := fun h => h0 (hse.1 h)
    have hne1 : s.toList.isEmpty = false := by
      have := decide_eq_emptyBytes s
      rw [decide_eq_false hsne] at this
      exact this.symm
    have hne2 : ¬ s.toList = [] := by
      intro h
      rw [h] at hne1
      cases hne1
    rw [decide_eq_false h0] at hR
    by_cases h32 : n ≤ 32
    · have g1 : decide ((n : Int) ≤ 32) = true := decide_eq_true (by omega)
      have g2 : decide (n ≤ 32) = true := decide_eq_true h32
      rw [g2] at hR
      simp at hR
      subst hR
      clear hse hem hll
      unfold predV at hc
      go_enter Try.func16, Try.ntmps16
      go_wp2_with fail
      refine (hc.out w).mono ?_
      rintro e w1 ⟨rfl, e1⟩
      have E1 := hid e1
      clear e1 hc
      go_wp2_with fail
      go_ret
      exact ⟨by first | rfl | simp, E1.out⟩
    · have g1 : decide ((n : Int) ≤ 32) = false := decide_eq_false (by omega)
      have g2 : decide (n ≤ 32) = false := decide_eq_false h32
      rw [g2] at hR
      simp at hR
      subst hR
      clear hc hse hem hll
      go_enter Try.func16, Try.ntmps16
      go_wp2
      go_ret
      exact ⟨rfl, Ext.refl _⟩
end

section
open Go Go.RowKit

/-- block i of a stream -/
def blkL (k n : List UInt8) (i : Nat) : List UInt8 := stirL (k ++ n ++ List.replicate 8 0 ++ longL (UInt64.ofNat i))
theorem blkL_length (k n : List UInt8) (i : Nat) : (blkL k n i).length = 64 := stirL_length _
/-- the octets of a stream from a place on -/
def strmL (k n : List UInt8) (a m : Nat) : List UInt8 := (List.range m).map fun j => (blkL k n ((a + j) / 64))[(a + j) % 64]?.getD 0
theorem strmL_length (k n : List UInt8) (a m : Nat) : (strmL k n a m).length = m := by simp [strmL]
theorem strmL_more (k n : List UInt8) (a m c : Nat) (hc : (a + m) % 64 + c ≤ 64) :
    strmL k n a (m + c) = strmL k n a m ++ ((blkL k n ((a + m) / 64)).drop ((a + m) % 64)).take c := by
  apply List.ext_getElem?
  intro j
  rw [List.getElem?_append, strmL_length]
  unfold strmL
  by_cases h1 : j < m
  · rw [if_pos h1, List.getElem?_map, List.getElem?_map, List.getElem?_range h1, List.getElem?_range (by omega)]
  · rw [if_neg h1]
    by_cases h2 : j < m + c
    · rw [List.getElem?_map, List.getElem?_range h2, List.getElem?_take_of_lt (by omega), List.getElem?_drop]
      have e1 : (a + j) / 64 = (a + m) / 64 := by omega
      have e2 : (a + j) % 64 = (a + m) % 64 + (j - m) := by omega
      simp only [Option.map_some, e1, e2]
      have hl := blkL_length k n ((a + m) / 64)
      rw [List.getElem?_eq_getElem (by omega)]
      rfl
    · rw [List.getElem?_eq_none (by simp; omega), List.getElem?_eq_none (by rw [List.length_take, List.length_drop, blkL_length]; omega)]

theorem zer8 : List.replicate 8 (Value.int .u8 0) = (List.replicate 8 (0 : UInt8)).map u8v := by simp [u8v]

theorem splice3 (k n l : List Value) (hk : k.length = 32) (hn : n.length = 16) (hl : l.length = 8) :
    splice (splice (splice (List.replicate 64 (.int .u8 0)) 0 k) 32 n) 56 l = k ++ n ++ List.replicate 8 (.int .u8 0) ++ l := by
  have h1 : splice (List.replicate 64 (.int .u8 0)) 0 k = k ++ List.replicate 32 (.int .u8 0) := by
    unfold splice
    rw [List.take_zero, List.nil_append, Nat.zero_add, hk, List.drop_replicate]
  have h2 : splice (k ++ List.replicate 32 (Value.int .u8 0)) 32 n = k ++ n ++ List.replicate 16 (.int .u8 0) := by
    unfold splice
    rw [List.take_append_of_le_length (by omega), List.take_of_length_le (by omega), hn, List.drop_append, List.drop_of_length_le (by omega), List.nil_append, hk, List.drop_replicate]
  have hkn : (k ++ n).length = 48 := by rw [List.length_append, hk, hn]
  rw [h1, h2]
  unfold splice
  rw [hl, List.take_append, List.take_of_length_le (by omega), hkn, List.drop_append, List.drop_of_length_le (by omega), hkn, List.nil_append, List.take_replicate, List.drop_replicate]
  simp
end

section
open Go Go.RowKit

def streamPost (k n : List UInt8) (a m : Int) (w : World) (e : Ending) (w' : World) : Prop :=
  (if a < 0 ∨ 1099511627776 < a ∨ m < 0 then e = .returned (.tuple #[.slice none 0 0, .int .i64 4])
  else if 1048576 < m then e = .returned (.tuple #[.slice none 0 0, .int .i64 5])
  else ∃ v, e = .returned (.tuple #[v, .int .i64 0]) ∧ w'.ownsRow w.heap.size 5 1 v m.toNat ((strmL k n a.toNat m.toNat).map u8v)) ∧ Ext w w'
end

section
open Go Go.RowKit

theorem own_some {w : World} {B n : Nat} {v : Value} {xs : List Value} (h : w.ownsRow B 5 1 v n xs) (hn : 0 < n) :
    ∃ g cap, v = .slice (some ⟨g, 0, none⟩) n cap ∧ B ≤ g ∧ n ≤ cap ∧ cap ≤ maxLen := by
  rcases h.2 with ⟨_, h0⟩ | ⟨g, cap, cur, h1, h2, _, h4, h5, _⟩
  · omega
  · exact ⟨g, cap, h1, h2, h4, h5⟩

/-- a text, covered -/
def coverL (k n t : List UInt8) : List UInt8 := mixTo (strmL k n 0 t.length) t t.length
theorem coverL_length (k n t : List UInt8) : (coverL k n t).length = t.length := by rw [coverL, mixTo_length, strmL_length]
end

section
open Go Go.RowKit

theorem own_block_lt {w : World} {B : Nat} {e : TypeId} {size n : Nat} {v : Value} {xs : List Value} (h : w.ownsRow B e size v n xs) : ∀ g, v.ownBlock = some g → g < w.heap.size := by
  intro g hg
  rcases h.2 with ⟨rfl, _⟩ | ⟨g', cap, cur, rfl, hb, hc, _⟩
  · cases hg
  · simp [Value.ownBlock] at hg
    subst hg
    exact (Array.getElem?_eq_some_iff.1 hc).1
end

section
open Go Go.RowKit

theorem mixTo_get (s t : List UInt8) (i j : Nat) : (mixTo s t i)[j]? = if j < i then (s[j]?).map (fun x => xor8 x (t[j]?.getD 0)) else s[j]? := by
  induction i generalizing j with
  | zero => simp [mixTo]
  | succ i ih =>
    rw [mixTo, List.getElem?_set, mixTo_length]
    by_cases h : i = j
    · subst h
      by_cases hl : i < s.length
      · simp [ih, hl]
      · simp [hl]
    · rw [if_neg h, ih]
      by_cases h1 : j < i
      · rw [if_pos h1, if_pos (by omega)]
      · rw [if_neg h1, if_neg (by omega)]
theorem cover_twice (k n t : List UInt8) : coverL k n (coverL k n t) = t := by
  apply List.ext_getElem?
  intro j
  have hl := coverL_length k n t
  have hs := strmL_length k n 0 t.length
  rw [coverL, hl, mixTo_get]
  by_cases hj : j < t.length
  · have h1 : t[j]? = some t[j] := List.getElem?_eq_getElem hj
    have h2 : (strmL k n 0 t.length)[j]? = some ((strmL k n 0 t.length)[j]'(by omega)) := List.getElem?_eq_getElem (by omega)
    rw [if_pos hj, coverL, mixTo_get, if_pos hj, h1, h2]
    simp only [Option.map_some, Option.getD_some, xor8]
    congr 1
    rw [← UInt8.xor_assoc]; simp
  · rw [if_neg hj, List.getElem?_eq_none (by omega), List.getElem?_eq_none (by omega)]
end

section
open Go Go.RowKit

theorem eq_arr {t : TypeId} {n : Nat} (ht : Try.prog.underlying t = some (.array n 5)) (xs ys : List UInt8) (hx : xs.length = n) (hy : ys.length = n) (w : World) :
    (binOp .eql t (.agg (xs.map u8v).toArray) (.agg (ys.map u8v).toArray)).run Try.prog w = .ok (.bool (xs == ys)) w :=
  run_eql_bytes w t 5 n ht Try.underlying5 (fun w => by kernel_rfl) xs ys hx hy
theorem neq_arr {t : TypeId} {n : Nat} (ht : Try.prog.underlying t = some (.array n 5)) (xs ys : List UInt8) (hx : xs.length = n) (hy : ys.length = n) (w : World) :
    (binOp .neq t (.agg (xs.map u8v).toArray) (.agg (ys.map u8v).toArray)).run Try.prog w = .ok (.bool (!(xs == ys))) w := by
  have h := run_equalIn_bytes w 9998 t 5 n ht Try.underlying5 (fun w => by kernel_rfl) xs ys hx hy
  rw [run_neq_struct]
  have h2 : (Op.equalIn 10000 t (.agg (xs.map u8v).toArray) (.agg (ys.map u8v).toArray)).run Try.prog w = .ok (xs == ys) w := h
  rw [h2]; rfl
theorem eq_self {t : TypeId} {n : Nat} (ht : Try.prog.underlying t = some (.array n 5)) (xs : List UInt8) (hx : xs.length = n) (w : World) :
    (binOp .eql t (.agg (xs.map u8v).toArray) (.agg (xs.map u8v).toArray)).run Try.prog w = .ok (.bool true) w := by
  rw [eq_arr ht xs xs hx hx]; simp
end

section
open Go Go.RowKit

theorem guard_sum : Try.prog.eqGuardType Try.prog.depth 40 = false := by kernel_rfl
end

section
open Go Go.RowKit

theorem guard_seal : Try.prog.eqGuardType Try.prog.depth 72 = false := by kernel_rfl
section
variable {P : Program} {ops : Array Oper} {rest : List Oper} {o : Oper} {a : Act} {w : World} {Q : Exit → Act → World → Prop}
theorem wpList_want (hw : Region.wanted o (yielded ops a.tmps) = true) (h : ∀ K : Act → World → Prop, (∀ a w, wpList P ops Q rest a w → K a w) → o.wp P a w K Q) : wpList P ops Q (o :: rest) a w :=
  wpList_step fun K hK => by rw [if_pos hw]; exact h K hK
/-- a load that stands behind a guard -/
theorem wpg_loadw (hw : Region.wanted o (yielded ops a.tmps) = true) (ty : TypeId) (x : Operand) (ho : o.op = .load ty x) {g : Nat} {vs : List Value} {T : TypeId}
    (hx : a.eval x = .pointer (some ⟨g, 0, none⟩)) (hb : Blk w g vs T) {n : Nat} (ht : AggT P ty n) (hn : vs.length = n)
    (h : wpList P ops Q rest (a.put o.dst (.agg vs.toArray)) w) : wpList P ops Q (o :: rest) a w :=
  wpList_want hw fun K hK => by
    have h1 := run_load_sub (P := P) (off := 0) hb ht (by omega)
    have h2 : (vs.drop 0).take n = vs := by simp [← hn]
    rw [h2] at h1
    unfold Oper.wp execOp
    simp only [ho, hx, Instr.loadAt, Instr.sureAddr, Sem.run_bind, Sem.run_pure, Result.andThen_ok, h1]
    exact hK _ _ h
/-- a comparison of arrays, whether behind a guard or not -/
theorem wpg_cmp (hw : Region.wanted o (yielded ops a.tmps) = true) (op : BinOp) (t u : TypeId) (x y : Operand) (ho : o.op = .binOp op t x y u) {xs ys : Array Value} {b : Value} (hx : a.eval x = .agg xs) (hy : a.eval y = .agg ys)
    (hg : P.eqGuardType P.depth t = false) (hr : ∀ w, (binOp op t (.agg xs) (.agg ys)).run P w = .ok b w)
    (h : wpList P ops Q rest (a.put o.dst b) w) : wpList P ops Q (o :: rest) a w :=
  wpList_want hw fun K hK => by
    unfold Oper.wp execOp
    simp only [ho, hx, hy, Sem.run_bind, run_eqGuard_agg w op t x y xs ys hg, Result.andThen_ok, hr, Sem.run_pure]
    exact hK _ _ h
end
theorem zeros_u8 (n : Nat) : List.replicate n (Value.int .u8 0) = (List.replicate n (0 : UInt8)).map u8v := by simp [u8v]
end

section
open Go Go.RowKit

theorem addr_add0 (x : Addr) : x.add 0 = x := by unfold Addr.add; split <;> simp_all
section
variable {P : Program} {ops : Array Oper} {rest : List Oper} {o : Oper} {a : Act} {w : World} {Q : Exit → Act → World → Prop}
theorem run_sliceAt_high {t e : TypeId} {p : Option Addr} {n c k : Nat} (hu : P.underlying t = some (.slice e)) (hs : (P.info? e).map (·.size) = some 1) (hk : k ≤ c) :
    (Instr.sliceAt t (.slice p n c) none (some (.int .i64 (k : Int))) none).run P w = .ok (.slice p k c) w := by
  cases hq : P.info? e with
  | none => simp [hq] at hs
  | some i =>
    have hi : i.size = 1 := by simpa [hq] using hs
    have h1 : (0 : Int) ≤ k ∧ (k : Int) ≤ c := by omega
    have ha : p.map (fun x => x.add 0) = p := by cases p <;> simp [addr_add0]
    simp [Instr.sliceAt, Instr.slice, Instr.sliceBounds, Instr.sliceBound, asIntOf, run_underlying hu, sizeOf, typeInfo, hq, hi, hk, ha]
/-- b[:k] -/
theorem wpl_slice_high (hgd : o.guard = none) (t e : TypeId) (x y : Operand) (ho : o.op = .slice t x none (some y) none) {p : Option Addr} {n c k : Nat}
    (hx : a.eval x = .slice p n c) (hy : a.eval y = .int .i64 (k : Int)) (hu : P.underlying t = some (.slice e)) (hs : (P.info? e).map (·.size) = some 1) (hk : k ≤ c)
    (h : wpList P ops Q rest (a.put o.dst (.slice p k c)) w) : wpList P ops Q (o :: rest) a w :=
  wpList_plain hgd fun K hK => by
    unfold Oper.wp execOp
    simp only [ho, hx, hy, Option.map_some, Option.map_none, run_sliceAt_high hu hs hk, Result.andThen_ok, Sem.run_bind, Sem.run_pure]
    exact hK _ _ h
end
end

section
open Go Go.RowKit

theorem ok_block {r : Result Value} {v v' : Value} {w w' : World} {x : Option Nat} (h1 : r = .ok v w) (h2 : r = .ok v' w') (hv : v.ownBlock = x) : v'.ownBlock = x := by
  rw [h1] at h2
  injection h2 with e1 e2
  rw [← e1, hv]

theorem append8_block (w : World) (B : Nat) (ty : TypeId) {v : Value} {n m c : Nat} {xs ys : List UInt8} {y : Addr} (hown : w.ownsRow B 5 1 v n (xs.map u8v)) (hm : ys.length = m) (hc : Cells w (some y) (ys.map u8v))
    (hb : n + m ≤ 140737488355328) (hbase : B ≤ w.heap.size) :
    ∃ v' w', (Builtin.append_ #[73, 73] ty #[v, .slice (some y) m c]).run Try.prog w = .ok v' w' ∧ w'.ownsRow B 5 1 v' (n + m) ((xs ++ ys).map u8v) ∧ w.grownBy w' v.ownBlock ∧
      (v'.ownBlock = v.ownBlock ∨ v'.ownBlock = some w.heap.size) := by
  obtain ⟨i0, hi, hz, hsz, hb1⟩ := info_parts info_u8
  have hl : (ys.map u8v).length = m * 1 := by rw [List.length_map, hm, Nat.mul_one]
  have hl' : (ys.map u8v).length = m * i0.size := by rw [hsz]; exact hl
  obtain ⟨v', w', hr, h1, h2, h3⟩ := run_append_own (P := Try.prog) w B 73 ty 5 i0 (.int .u8 0) 1 1 Try.underlying73 hi hz hsz hb1 rfl (by decide) v n (xs.map u8v) hown y m c (ys.map u8v) hl (news_cells hc) (one_u8 _) (by unfold maxLen; omega) (by omega) hbase
  refine ⟨v', w', hr, by rw [List.map_append]; exact h1, h2, ?_⟩
  rcases hown.2 with ⟨rfl, rfl⟩ | ⟨g, cap, cur, rfl, hbg, hg, hnc, hcm, hcs, htake⟩
  · by_cases hm0 : m = 0
    · left
      rw [h3.2 ⟨rfl, hm0⟩]
    · right
      have hr2 := run_append_nil (P := Try.prog) w 73 ty 5 i0 (.int .u8 0) Try.underlying73 hi hz y m c (ys.map u8v) hl' (news_cells hc) (by omega) (by omega) (by rw [hb1]; omega)
      exact ok_block hr2 hr rfl
  · by_cases hroom : n + m ≤ cap
    · left
      obtain ⟨w2, hr2, _⟩ := run_append_fits (P := Try.prog) w B 73 ty 5 i0 1 Try.underlying73 hi hsz g n cap (xs.map u8v) hown y m c (ys.map u8v) hl (news_cells hc) (one_u8 _) hroom
      exact ok_block hr2 hr rfl
    · right
      have hr2 := run_append_grow (P := Try.prog) w 73 ty 5 i0 (.int .u8 0) Try.underlying73 hi hz ⟨g, 0, none⟩ n cap (xs.map u8v) (by rw [hsz]; exact hown.1) (hown.cells (g := g) rfl) y m c (ys.map u8v) hl' (news_cells hc) (by omega) (by omega) (growslice_fits (by omega) (by rw [hb1]; omega))
      exact ok_block hr2 hr rfl

section
variable {ops : Array Oper} {rest : List Oper} {o : Oper} {a : Act} {w : World} {Q : Exit → Act → World → Prop}
/-- append onto a row of one's own, whether behind a guard or not -/
theorem wpg_append8 (hw : Region.wanted o (yielded ops a.tmps) = true) (s x : Operand)
    (ho : o.op = .call { callee := .builtin .append, args := #[s, x], argTypes := #[73, 73] }) (base : Nat) {v : Value} {n m c : Nat} {xs ys : List UInt8} {ad : Option Addr}
    (hs : a.eval s = v) (hx : a.eval x = .slice ad m c) (hown : w.ownsRow base 5 1 v n (xs.map u8v)) (hm : ys.length = m) (had : ad = none → m = 0 ∧ c = 0) (hc : Cells w ad (ys.map u8v))
    (hb : n + m ≤ 140737488355328) (hbase : base ≤ w.heap.size)
    (h : ∀ v' w', w'.ownsRow base 5 1 v' (n + m) ((xs ++ ys).map u8v) → w.grownBy w' v.ownBlock → (v'.ownBlock = v.ownBlock ∨ v'.ownBlock = some w.heap.size) → wpList Try.prog ops Q rest (a.put o.dst v') w') : wpList Try.prog ops Q (o :: rest) a w := by
  obtain ⟨i0, hi, hz, hsz, hb1⟩ := info_parts info_u8
  refine wpList_want hw fun K hK => ?_
  cases ad with
  | none =>
    obtain ⟨rfl, rfl⟩ := had rfl
    have hy : ys = [] := List.length_eq_zero_iff.1 hm
    subst hy
    have h' := h v w (by simpa using hown) (grown_refl w _) (.inl rfl)
    have hrun := run_append_owned_none (P := Try.prog) (w := w) base 73 o.type 5 i0 1 Try.underlying73 hi v n (xs.map u8v) hown
    unfold Oper.wp
    simp [execOp, ho, resolve, invoke, builtin, hs, hx, hrun, Result.andThen]
    exact hK _ _ h'
  | some y =>
    obtain ⟨v', w', hr, h1, h2, h3⟩ := append8_block w base o.type (c := c) hown hm hc hb hbase
    exact Lib.wp_append_run w s x _ _ ho v _ hs hx v' w' hr (hK _ _ (h v' w' h1 h2 h3))
end
end

section
open Go Go.RowKit

/-- the key of a key -/
def deriveL (k s : List UInt8) (ep : Nat) : List UInt8 := sumL 7 (k ++ s ++ [0] ++ longL (UInt64.ofNat ep))
def deriveV (k s : List UInt8) (b : Bool) (ep : Int) : Value :=
  if b = false then .tuple #[zeros 32, .int .i64 6] else if ep < 0 ∨ 4294967295 < ep then .tuple #[zeros 32, .int .i64 4] else .tuple #[.agg ((deriveL k s ep.toNat).map u8v).toArray, .int .i64 0]

set_option maxRecDepth 100000 in
set_option maxHeartbeats 1000000 in
theorem rderive_c (k : List UInt8) (s : ByteArray) (ep : Int) (b : Bool) (w : World) (hk : k.length = 32) (hnm : ∀ w, Calls Try.prog 16 #[.string s] w fun e w' => e = .returned (.bool b) ∧ Ext w w') (hsz : b = true → s.size ≤ 32) :
    Calls Try.prog 11 #[.agg (k.map u8v).toArray, .string s, .int .i64 ep] w fun e w' => e = .returned (deriveV k s.data.toList b ep) ∧ Ext w w' := by
  obtain ⟨V, hV⟩ : ∃ V, deriveV k s.data.toList b ep = V := ⟨_, rfl⟩
  rw [hV]
  unfold deriveV at hV
  have HV := hid hV
  have HK := hid hk
  have HNM := hid hnm
  have HSZ := hid hsz
  clear hV hk hnm hsz
  go_enter Try.func11, Try.ntmps11
  go_wp2_with fail
  generalize hwA : World.alloc (World.alloc w _) _ = wA
  have kA : Blk wA w.heap.size (k.map u8v) 23 := by rw [← hwA]; exact (Blk.mk_alloc rfl rfl).alloc _
  have zA : Blk wA (w.heap.size + 1) (List.replicate 32 (.int .u8 0)) 23 := by rw [← hwA]; exact Blk.mk_alloc (by simp) rfl
  have eA : Ext w wA := by rw [← hwA]; exact ((Ext.refl w).alloc _).alloc _
  clear hwA
  refine (HNM.out wA).mono ?_
  rintro e w1 ⟨rfl, e1⟩
  have K1 := hid (kA.ext e1)
  have Z1 := hid (zA.ext e1)
  have E1 := hid (eA.ext e1)
  have l1 : w.heap.size + 1 < w1.heap.size := Z1.out.lt
  clear kA zA eA e1
  cases b with
  | false =>
    have hv := HV.out
    rw [if_pos rfl] at hv
    have HV2 := hid hv
    clear hv HV
    go_wp2_with (refine wpl_storew rfl _ _ _ rfl rfl rfl Z1.out agg_key (by simp) (xs := List.replicate 32 (.int .u8 0)) (by simp) (one_zeros 32) ?_)
    intro w4 b4 u4
    go_wp2
    refine ret_row2 rfl rfl b4 agg_key (by simp) rfl ⟨by rw [← HV2.out]; unfold zeros; rfl, u4.ext E1.out (by omega)⟩
  | true =>
    have hv := HV.out
    rw [if_neg (by decide)] at hv
    have hs32 := HSZ.out rfl
    by_cases hep : ep < 0 ∨ 4294967295 < ep
    · rw [if_pos hep] at hv
      have HV2 := hid hv
      clear hv HV
      by_cases h0 : ep < 0
      · have d1 : decide (ep < 0) = true := decide_eq_true h0
        clear hep
        go_wp2_with (refine wpl_storew rfl _ _ _ rfl rfl rfl Z1.out agg_key (by simp) (xs := List.replicate 32 (.int .u8 0)) (by simp) (one_zeros 32) ?_)
        intro w4 b4 u4
        go_wp2
        refine ret_row2 rfl rfl b4 agg_key (by simp) rfl ⟨by rw [← HV2.out]; unfold zeros; rfl, u4.ext E1.out (by omega)⟩
      · have d1 : decide (ep < 0) = false := decide_eq_false h0
        have d2 : decide (4294967295 < ep) = true := decide_eq_true (by omega)
        clear hep
        go_wp2_with (refine wpl_storew rfl _ _ _ rfl rfl rfl Z1.out agg_key (by simp) (xs := List.replicate 32 (.int .u8 0)) (by simp) (one_zeros 32) ?_)
        intro w4 b4 u4
        go_wp2
        refine ret_row2 rfl rfl b4 agg_key (by simp) rfl ⟨by rw [← HV2.out]; unfold zeros; rfl, u4.ext E1.out (by omega)⟩
    · rw [if_neg hep] at hv
      have d1 : decide (ep < 0) = false := decide_eq_false (by omega)
      have d2 : decide (4294967295 < ep) = false := decide_eq_false (by omega)
      obtain ⟨N, rfl⟩ := Int.eq_ofNat_of_zero_le (show 0 ≤ ep by omega)
      have hNb : N ≤ 4294967295 := by omega
      rw [Int.toNat_natCast] at hv
      have hll : (longL (UInt64.ofNat N)).length = 8 := rfl
      have hlong := hid (fun w => rlong_c N w (by omega))
      have hlen : (k ++ s.data.toList ++ [0] ++ longL (UInt64.ofNat N)).length = 41 + s.size := by
        have : s.data.toList.length = s.size := by rw [Array.length_toList]; rfl
        rw [List.length_append, List.length_append, List.length_append, HK.out, this, hll]; simp only [List.length_cons, List.length_nil]; omega
      have hsum := fun c a w h => rsum_c 7 (k ++ s.data.toList ++ [0] ++ longL (UInt64.ofNat N)) (41 + s.size) c a w (by omega) (by omega) hlen (by omega) h
      have HSL : Hid (((deriveL k s.data.toList N).map u8v).length = 32) := hid (by rw [List.length_map, deriveL, sumL_length])
      have o1 := one_u8 (deriveL k s.data.toList N)
      rw [show sumL 7 (k ++ s.data.toList ++ [0] ++ longL (UInt64.ofNat N)) = deriveL k s.data.toList N from rfl] at hsum
      generalize (deriveL k s.data.toList N).map u8v = dv at *
      generalize longL (UInt64.ofNat N) = ll at *
      have HLL := hid hll
      have HSUM := hid hsum
      have HV2 := hid hv
      obtain ⟨i0, hi, hz, hsz, hb1⟩ := info_parts info_u8
      clear hv HV hep hll hlen hsum
      go_wp2_with fail
      refine (clone_c k (some ⟨w.heap.size, 0, none⟩) 32 32 w1 HK.out (by omega) (Cells.of_blk0 K1.out)).mono ?_
      rintro e w2 ⟨v2, rfl, own2, -, e2⟩
      have O2 := hid own2
      have Z2 := hid (Z1.out.ext e2)
      have E2 := hid (E1.out.ext e2)
      have hb2 : w1.heap.size ≤ w2.heap.size := e2.size
      clear own2 e2 K1
      generalize w1.heap.size = B at *
      go_wp2_with (first | (at_builtin; refine Lib.wpList_append_own_string w2 rfl _ _ 73 9 rfl B 5 i0 Try.underlying73 Try.underlying9 hi hz hsz hb1 _ 32 _ rfl O2.out s rfl (by unfold maxLen; omega) (by omega) hb2 ?_))
      intro v3 w3 own3 g3 _
      have own3' : w3.ownsRow B 5 1 v3 (32 + s.size) ((k ++ s.data.toList).map u8v) := by rw [List.map_append]; exact own3
      have O3 := hid own3'
      have hv3 := own_block_ge O2.out
      have Z3 := hid (Z2.out.grown g3 (by intro h; have := hv3 _ h.symm; omega))
      have E3 := hid (E2.out.grown g3 (by intro q hq; have := hv3 _ hq; omega))
      have hb3 : B ≤ w3.heap.size := Nat.le_trans hb2 g3.size
      clear own3 own3' g3 hv3 O2 Z2 E2 hb2
      have zB : Blk (w3.alloc (.cells #[.int .u8 0] 5)) w3.heap.size (([0] : List UInt8).map u8v) 5 := Blk.mk_alloc rfl rfl
      have eB : Ext w3 (w3.alloc (.cells #[.int .u8 0] 5)) := (Ext.refl w3).alloc _
      have ZB := hid zB
      have O4 := hid (ownsRow_ext O3.out eB)
      have Z4 := hid (Z3.out.ext eB)
      have E4 := hid (E3.out.ext eB)
      have hb4 : B ≤ (w3.alloc (.cells #[.int .u8 0] 5)).heap.size := Nat.le_trans hb3 eB.size
      clear zB eB O3 Z3 E3
      go_wp2_with (first | (at_builtin; refine wpl_append8 rfl _ _ rfl B (ys := [0]) rfl rfl O4.out rfl (by intro h; cases h) (Cells.of_blk0 ZB.out) (by omega) hb4 ?_))
      generalize w3.alloc (.cells #[.int .u8 0] 5) = w4 at *
      intro v5 w5 own5 g5
      have own5' : w5.ownsRow B 5 1 v5 (32 + s.size + 1) ((k ++ s.data.toList ++ [0]).map u8v) := by rw [List.map_append]; simpa using own5
      have O5 := hid own5'
      have hv5 := own_block_ge O4.out
      have Z5 := hid (Z4.out.grown g5 (by intro h; have := hv5 _ h.symm; omega))
      have E5 := hid (E4.out.grown g5 (by intro q hq; have := hv5 _ hq; omega))
      have hb5 : B ≤ w5.heap.size := Nat.le_trans hb4 g5.size
      clear own5 own5' g5 hv5 O4 Z4 E4 hb4 ZB
      go_wp2_with fail
      refine (hlong.out w5).mono ?_
      rintro e w6 ⟨rfl, b6, e6⟩
      have O6 := hid (ownsRow_ext O5.out e6)
      have Z6 := hid (Z5.out.ext e6)
      have E6 := hid (E5.out.ext e6)
      have L6 := hid (Cells.of_blk0 b6)
      have hb6 : B ≤ w6.heap.size := Nat.le_trans hb5 e6.size
      clear b6 e6 O5 Z5 E5 hlong
      go_wp2_with (first | (at_builtin; refine wpl_append8 rfl _ _ rfl B (ys := ll) rfl rfl O6.out HLL.out (by intro h; cases h) L6.out (by omega) hb6 ?_))
      intro v7 w7 own7 g7
      have own7' : w7.ownsRow B 5 1 v7 (41 + s.size) ((k ++ s.data.toList ++ [0] ++ ll).map u8v) := by
        rw [List.map_append, show 41 + s.size = 32 + s.size + 1 + 8 by omega]; simpa using own7
      have hv7 := own_block_ge O6.out
      have Z7 := hid (Z6.out.grown g7 (by intro h; have := hv7 _ h.symm; omega))
      have E7 := hid (E6.out.grown g7 (by intro q hq; have := hv7 _ hq; omega))
      obtain ⟨a8, c8, rfl, -, -, -, hc8⟩ := own_slice own7'
      have HS8 := hid (HSUM.out c8 a8 w7 hc8)
      clear own7 own7' g7 hv7 O6 Z6 E6 L6 hb6 hc8 HSUM
      go_wp2_with fail
      refine HS8.out.mono ?_
      rintro e w9 ⟨rfl, e9⟩
      have Z9 := hid (Z7.out.ext e9)
      have E9 := hid (E7.out.ext e9)
      clear e9 HS8
      go_wp2_with (refine wpl_storew rfl _ _ _ rfl rfl rfl Z9.out agg_key (by simp) HSL.out o1 ?_)
      intro w10 b10 u10
      go_wp2
      refine ret_row2 rfl rfl b10 agg_key HSL.out rfl ⟨by rw [← HV2.out]; rfl, u10.ext E9.out (by omega)⟩
end

section
open Go Go.RowKit

section
variable {P : Program} {ops : Array Oper} {Q : Exit → Act → World → Prop} {S : World → Prop}
/-- two operations that may come up in either order, each of which makes something that stays -/
theorem held_par {i j : Nat} {oi oj : Oper} {ri rj : List Oper} {f : Nat} {listed : Array Bool} {a : Act} {w : World} {βi βj : Type} (vi : βi → Value) (vj : βj → Value) (Φi : βi → World → Prop) (Φj : βj → World → Prop)
    (hr : Region.ready .any ops listed = [i, j]) (hri : Region.ready .any ops (listed.setIfInBounds i true) = [j]) (hrj : Region.ready .any ops (listed.setIfInBounds j true) = [i]) (hne : (i == j) = false)
    (hoi : ops.toList.drop i = oi :: ri) (hoj : ops.toList.drop j = oj :: rj) (hSx : ∀ w w', S w → Ext w w' → S w') (hΦi : ∀ b w w', Φi b w → Ext w w' → Φi b w') (hΦj : ∀ b w w', Φj b w → Ext w w' → Φj b w')
    (hcm : ∀ x y, (a.put oj.dst y).put oi.dst x = (a.put oi.dst x).put oj.dst y)
    (hi : ∀ a', (a' = a ∨ ∃ b, a' = a.put oj.dst (vj b)) → ∀ w, S w → ∀ Q' : Exit → Act → World → Prop, (∀ b w', Ext w w' → Φi b w' → Q' .normal (a'.put oi.dst (vi b)) w') → wpList P ops Q' [oi] a' w)
    (hj : ∀ a', (a' = a ∨ ∃ b, a' = a.put oi.dst (vi b)) → ∀ w, S w → ∀ Q' : Exit → Act → World → Prop, (∀ b w', Ext w w' → Φj b w' → Q' .normal (a'.put oj.dst (vj b)) w') → wpList P ops Q' [oj] a' w)
    (hS : S w)
    (h : ∀ bi bj w', S w' → Φi bi w' → Φj bj w' → wpAnyH P .any ops Q S f ((listed.setIfInBounds i true).setIfInBounds j true) ((a.put oi.dst (vi bi)).put oj.dst (vj bj)) w') :
    wpAnyH P .any ops Q S (f + 2) listed a w := by
  have hne' : i ≠ j := by simpa using hne
  refine wpAnyH_all hr (by simp) fun k hk => ?_
  have hk' : k = i ∨ k = j := by simpa using hk
  rcases hk' with rfl | rfl
  · refine wpOp_of_list (op_of_drop hoi) (hi a (.inl rfl) w hS _ fun bi w1 e1 h1 => ?_)
    have hS1 := hSx _ _ hS e1
    refine ⟨hS1, ?_⟩
    refine held_one hri hoj fun Q' hQ => ?_
    refine hj _ (.inr ⟨bi, rfl⟩) w1 hS1 _ fun bj w2 e2 h2 => ?_
    exact hQ _ _ (hSx _ _ hS1 e2) (h bi bj w2 (hSx _ _ hS1 e2) (hΦi _ _ _ h1 e2) h2)
  · refine wpOp_of_list (op_of_drop hoj) (hj a (.inl rfl) w hS _ fun bj w1 e1 h1 => ?_)
    have hS1 := hSx _ _ hS e1
    refine ⟨hS1, ?_⟩
    refine held_one hrj hoi fun Q' hQ => ?_
    refine hi _ (.inr ⟨bj, rfl⟩) w1 hS1 _ fun bi w2 e2 h2 => ?_
    refine hQ _ _ (hSx _ _ hS1 e2) ?_
    rw [hcm, Array.setIfInBounds_comm _ _ (Ne.symm hne')]
    exact h bi bj w2 (hSx _ _ hS1 e2) h2 (hΦj _ _ _ h1 e2)
end

theorem wpl_stepA {P : Program} {ops : Array Oper} {rest : List Oper} {o : Oper} {a : Act} {w w' : World} {Q : Exit → Act → World → Prop} {v : Value} (hgd : o.guard = none) (hr : (execOp a.eval o).run P w = .ok (.value v) w') (h : wpList P ops Q rest (a.put o.dst v) w') : wpList P ops Q (o :: rest) a w :=
  wpList_plain hgd fun K hK => by
    unfold Oper.wp
    rw [hr, Oper.upon_value]
    exact hK _ _ h
theorem exec_toBytes {o : Oper} {a : Act} {x : Operand} {s : ByteArray} (ho : o.op = .convert 9 73 x) (hx : a.eval x = .string s) (w : World) :
    (execOp a.eval o).run Try.prog w = .ok (.value (.slice (some ⟨w.heap.size, 0, none⟩) s.size (grownCap w s.size 0 5)))
      (w.drew.alloc (.cells (bytesRow s (grownCap w s.size 0 5)) 5 ((bytesRow s (grownCap w s.size 0 5)).size, (bytesRow s (grownCap w s.size 0 5)).size + 1))) := by
  unfold execOp
  simp only [ho, hx, Sem.run_bind, run_bytes_of_string w _ _ _ s Try.underlying9 Try.underlying73 Try.underlying5, Result.andThen_ok, Sem.run_pure]
theorem cells_toBytes (s : ByteArray) (c : Nat) (w : World) (z : Nat × Nat) : Cells (w.drew.alloc (.cells (bytesRow s c) 5 z)) (some ⟨w.heap.size, 0, none⟩) (s.data.toList.map u8v) := by
  refine .inr ⟨w.heap.size, 0, rfl, fun i u hu => ?_⟩
  have hi : i < s.data.size := by
    have := (List.getElem?_eq_some_iff.1 hu).1
    rw [List.length_map, Array.length_toList] at this; exact this
  have hh : (w.drew.alloc (.cells (bytesRow s c) 5 z)).heap[w.heap.size]? = some (.cells (bytesRow s c) 5 z) := by
    show (w.heap.push _)[w.heap.size]? = _
    simp
  rw [Nat.zero_add]
  have hb : (bytesRow s c)[i]? = some u := by
    unfold bytesRow
    rw [Array.getElem?_append_left (by simpa using hi), Array.getElem?_map]
    rw [List.getElem?_map, Array.getElem?_toList] at hu
    exact hu
  simp only [World.cell?, hh]
  exact hb

set_option maxRecDepth 100000 in
set_option maxHeartbeats 2000000 in
theorem derive_ok (k : List UInt8) (s : ByteArray) (N : Nat) (w : World) (hk : k.length = 32) (hs : isNameL s.data.toList = true) (hs32 : s.size ≤ 32) (hN : N ≤ 4294967295) :
    Calls Try.prog 10 #[.agg (k.map u8v).toArray, .string s, .int .i64 (N : Int)] w fun e w' => e = .returned (.tuple #[.agg ((deriveL k s.data.toList N).map u8v).toArray, .int .i64 0]) ∧ Ext w w' := by
  have HK := hid hk
  have hnm := fun w => isName_c s w (by omega)
  rw [hs] at hnm
  have HNM := hid hnm
  have hun : ((UInt64.ofNat N).toNat : Int) = N := by rw [UInt64.toNat_ofNat']; omega
  have hlong := fun w => longOctets_c (UInt64.ofNat N) w
  rw [hun] at hlong
  have hll : (longL (UInt64.ofNat N)).length = 8 := rfl
  have hlv : ((longL (UInt64.ofNat N)).map u8v).length = 8 := rfl
  have o8 := one_u8 (longL (UInt64.ofNat N))
  have hsl : s.data.toList.length = s.size := by rw [Array.length_toList]; rfl
  have hlen : (k ++ s.data.toList ++ [0] ++ longL (UInt64.ofNat N)).length = s.size + 41 := by
    rw [List.length_append, List.length_append, List.length_append, hk, hsl, hll]; simp; omega
  have hdl : deriveL k s.data.toList N = sumL 7 (k ++ s.data.toList ++ [0] ++ longL (UInt64.ofNat N)) := rfl
  have hdll : (deriveL k s.data.toList N).length = 32 := by rw [hdl]; exact sumL_length _ _
  generalize longL (UInt64.ofNat N) = ll at *
  generalize deriveL k s.data.toList N = dl at *
  have odl := one_u8 dl
  have HDV := hid (show (dl.map u8v).length = 32 by rw [List.length_map, hdll])
  have HL := hid hlong
  have HLL := hid hll
  have HLV := hid hlv
  have HDL := hid hdl
  have HSL := hid hsl
  have HLEN := hid hlen
  have d1 : decide ((N : Int) < 0) = false := decide_eq_false (by omega)
  have d2 : decide ((4294967295 : Int) < (N : Int)) = false := decide_eq_false (by omega)
  have d2n : decide (4294967295 < N) = false := decide_eq_false (by omega)
  have hu : IntKind.u64.wrap (N : Int) = (N : Int) := IntWalk.u64_in _ (by omega)
  clear hs hk hnm hun hlong hll hlv hdl hsl hlen hdll
  go_enter Try.func10, Try.ntmps10
  go_wp2_with fail
  generalize hwA : World.alloc (World.alloc w _) _ = wA
  have kA : Blk wA w.heap.size (k.map u8v) 23 := by rw [← hwA]; exact (Blk.mk_alloc rfl rfl).alloc _
  have zA : Blk wA (w.heap.size + 1) (List.replicate 32 (.int .u8 0)) 23 := by rw [← hwA]; exact Blk.mk_alloc (by simp) rfl
  have eA : Ext w wA := by rw [← hwA]; exact ((Ext.refl w).alloc _).alloc _
  clear hwA
  refine (HNM.out wA).mono ?_
  rintro e w1 ⟨rfl, rfl⟩
  have KA := hid kA
  have ZA := hid zA
  have EA := hid eA
  clear kA zA eA HNM
  go_wp2_with fail
  refine (HL.out wA).mono ?_
  rintro e w2 ⟨rfl, e2⟩
  go_wp2_with (refine wpl_storew rfl _ _ _ rfl rfl rfl (Blk.mk_alloc rfl rfl) agg_eight rfl HLV.out o8 ?_)
  intro w3 b3 u3
  have e3 : Ext wA w3 := u3.ext (e2.alloc _) e2.size
  have K3 := hid (KA.out.ext e3)
  have Z3 := hid (ZA.out.ext e3)
  have E3 := hid (EA.out.ext e3)
  have L3 := hid b3
  clear b3 u3 e2 e3 KA ZA EA
  generalize w2.heap.size = g3 at *
  go_wp2_with fail
  obtain ⟨C, hC⟩ : ∃ C : World → Prop, C = Cls w w3 [w.heap.size, w.heap.size + 1, g3] [] := ⟨_, rfl⟩
  have hC0 : ∀ w', C w' ↔ Cls w w3 [w.heap.size, w.heap.size + 1, g3] [] w' := fun w' => by rw [hC]
  clear hC
  have HCC := hid hC0
  clear hC0
  have hCx : ∀ w w', C w → Ext w w' → C w' := fun w w' h1 h2 => (HCC.out w').2 (((HCC.out w).1 h1).ext h2)
  have hCA : C w3 := (HCC.out _).2 (Cls.no_room E3.out (Kept.three K3.out.lt Z3.out.lt L3.out.lt))
  refine wp_region_held_drew (S := C) (by kernel_rfl) (hCx _ _ hCA (Ext.refl _).drew) (fun hS0 => ?_)
  refine held_take 0 (v := ?tv1) rfl (by kernel_rfl) (by kernel_rfl) (by kernel_rfl) (fun _ _ _ h => h) (.inl ⟨rfl, ?ty1⟩) hS0 ?tr1
  case ty1 => (intro _ _; go_simp; try with_reducible rfl)
  case tr1 =>
  simp only [Act.put, List.setIfInBounds_toArray, List.set_cons_succ, List.set_cons_zero]
  refine held_take 1 (v := ?tv2) rfl (by kernel_rfl) (by kernel_rfl) (by kernel_rfl) (fun _ _ _ h => h) (.inl ⟨rfl, ?ty2⟩) hS0 ?tr2
  case ty2 => (intro _ _; go_simp; try with_reducible rfl)
  case tr2 =>
  simp only [Act.put, List.setIfInBounds_toArray, List.set_cons_succ, List.set_cons_zero]
  refine held_take 4 (v := ?tv3) rfl (by kernel_rfl) (by kernel_rfl) (by kernel_rfl) (fun _ _ _ h => h) (.inl ⟨rfl, ?ty3⟩) hS0 ?tr3
  case ty3 => (intro _ _; go_simp; try with_reducible rfl)
  case tr3 =>
  simp only [Act.put, List.setIfInBounds_toArray, List.set_cons_succ, List.set_cons_zero]
  refine held_par (i := 2) (j := 3) (βi := Nat × Nat) (βj := Nat) (fun b => .slice (some ⟨b.1, 0, none⟩) s.size b.2) (fun g => .slice (some ⟨g, 0, none⟩) 1 1) (fun b w' => Cells w' (some ⟨b.1, 0, none⟩) (s.data.toList.map u8v) ∧ s.size ≤ b.2 ∧ b.2 ≤ maxLen) (fun g w' => Blk w' g [.int .u8 0] 5) (by kernel_rfl) (by kernel_rfl) (by kernel_rfl) rfl rfl rfl hCx (fun b w1 w2 h e => ⟨h.1.ext e, h.2⟩) (fun b w1 w2 h e => h.ext e) ?hcm ?hi ?hj hS0 ?rest
  case hcm => intro x y; simp only [Act.put, List.setIfInBounds_toArray, List.set_cons_succ, List.set_cons_zero]
  case hi =>
    rintro a' (rfl | ⟨b, rfl⟩) w4 hS4 Q' hQ
    · refine wpl_stepA rfl (exec_toBytes rfl rfl w4) ?_
      exact hQ (w4.heap.size, _) _ ((Ext.refl w4).drew.alloc _) ⟨cells_toBytes s _ w4 _, grownCap_ge _ _ _ _, grownCap_le_maxLen _ _ _ _ (by unfold maxLen; omega)⟩
    · refine wpl_stepA rfl (exec_toBytes rfl rfl w4) ?_
      exact hQ (w4.heap.size, _) _ ((Ext.refl w4).drew.alloc _) ⟨cells_toBytes s _ w4 _, grownCap_ge _ _ _ _, grownCap_le_maxLen _ _ _ _ (by unfold maxLen; omega)⟩
  case hj =>
    rintro a' (rfl | ⟨b, rfl⟩) w4 hS4 Q' hQ
    · try simp only [Act.put, List.setIfInBounds_toArray, List.set_cons_succ, List.set_cons_zero]
      go_wp2_with fail
      exact hQ w4.heap.size _ ((Ext.refl w4).alloc _) (Blk.mk_alloc rfl rfl)
    · try simp only [Act.put, List.setIfInBounds_toArray, List.set_cons_succ, List.set_cons_zero]
      go_wp2_with fail
      exact hQ w4.heap.size _ ((Ext.refl w4).alloc _) (Blk.mk_alloc rfl rfl)
  case rest =>
  clear hS0
  rintro ⟨gb, cb⟩ gz w5 hS0 ⟨hcb, hb1, hb2⟩ hzb
  try dsimp only
  try simp only [Act.put, List.setIfInBounds_toArray, List.set_cons_succ, List.set_cons_zero]
  simp only at hcb hb1 hb2
  have HCB := hid hcb
  have HZB := hid hzb
  clear hcb hzb
  refine held_one (i := 5) (by kernel_rfl) rfl ?_
  intro Q' hQ
  go_wp2_with fail
  generalize hw6 : World.alloc w5 _ = w6
  have e6 : Ext w5 w6 := by rw [← hw6]; exact (Ext.refl w5).alloc _
  have gA : Blk w6 w5.heap.size [.slice (some ⟨w.heap.size, 0, none⟩) 32 32, .slice (some ⟨gb, 0, none⟩) s.size cb, .slice (some ⟨gz, 0, none⟩) 1 1, .slice (some ⟨g3, 0, none⟩) 8 8] 73 := by rw [← hw6]; exact Blk.mk_alloc rfl rfl
  clear hw6
  have hS6 := hCx _ _ hS0 e6
  refine hQ _ _ hS6 ?_
  clear hQ Q' hS0
  generalize w5.heap.size = g5 at *
  have GA := hid gA
  have CB6 := hid (HCB.out.ext e6)
  have ZB6 := hid (HZB.out.ext e6)
  clear gA e6 HCB HZB
  try dsimp only
  try simp only [Act.put, List.setIfInBounds_toArray, List.set_cons_succ, List.set_cons_zero]
  have hS0 := hS6
  clear hS6
  refine held_one (i := 6) (by kernel_rfl) rfl ?_
  intro Q' hQ
  go_wp2_with fail
  have K6 := ((HCC.out w6).1 hS0).blk K3.out (by simp)
  have L6 := ((HCC.out w6).1 hS0).blk L3.out (by simp)
  have hcat : cat [(some ⟨w.heap.size, 0, none⟩, 32, k), (some ⟨gb, 0, none⟩, cb, s.data.toList), (some ⟨gz, 0, none⟩, 1, [0]), (some ⟨g3, 0, none⟩, 8, ll)] = k ++ s.data.toList ++ [0] ++ ll := by simp [cat]
  refine (summed_c [(some ⟨w.heap.size, 0, none⟩, 32, k), (some ⟨gb, 0, none⟩, cb, s.data.toList), (some ⟨gz, 0, none⟩, 1, [0]), (some ⟨g3, 0, none⟩, 8, ll)] 7 g5 4 4 w6 rfl (by omega) ?hg GA.out.lt ?hc ?hn ?hnc ?hcm).mono ?_
  case hg =>
    intro i it hit
    match i, hit with
    | 0, hit => cases hit; rw [itemV]; simp only; rw [HK.out]; exact GA.out.cell' rfl
    | 1, hit => cases hit; rw [itemV]; simp only; rw [HSL.out]; exact GA.out.cell' rfl
    | 2, hit => cases hit; rw [itemV]; exact GA.out.cell' rfl
    | 3, hit => cases hit; rw [itemV]; simp only; rw [HLL.out]; exact GA.out.cell' rfl
  case hc =>
    intro it hit
    simp only [List.mem_cons, List.not_mem_nil, or_false] at hit
    rcases hit with rfl | rfl | rfl | rfl
    · exact Cells.of_blk0 K6
    · exact CB6.out
    · exact Cells.of_blk0 ZB6.out
    · exact Cells.of_blk0 L6
  case hn =>
    intro it hit
    simp only [List.mem_cons, List.not_mem_nil, or_false] at hit
    rcases hit with rfl | rfl | rfl | rfl <;> (intro h; cases h)
  case hnc =>
    intro it hit
    simp only [List.mem_cons, List.not_mem_nil, or_false] at hit
    rcases hit with rfl | rfl | rfl | rfl
    · rw [HK.out]; exact Nat.le_refl _
    · rw [HSL.out]; exact hb1
    · exact Nat.le_refl _
    · rw [HLL.out]; exact Nat.le_refl _
  case hcm =>
    intro it hit
    simp only [List.mem_cons, List.not_mem_nil, or_false] at hit
    rcases hit with rfl | rfl | rfl | rfl
    · simp
    · exact hb2
    · simp
    · simp
  intro e w7 h
  rw [hcat] at h
  unfold summedPost at h
  obtain ⟨h, e7⟩ := h
  rw [if_neg (by omega), HLEN.out, if_pos (by omega)] at h
  obtain ⟨rfl, h1⟩ := h
  have hS7 := hCx _ _ hS0 e7
  have hsum := sum_c (initS 7) (k ++ s.data.toList ++ [0] ++ ll) (s.size + 41) w6.heap.size SmT w7 (initS_length 7) (by omega) h1
  rw [show (finL (initS 7) (k ++ s.data.toList ++ [0] ++ ll) (s.size + 41)).take 32 = dl by rw [HDL.out, sumL, HLEN.out]] at hsum
  have hsum2 := hid hsum
  clear h1 hcat hsum
  go_wp2_with fail
  refine hQ _ _ hS7 ?_
  clear hQ Q' hS0 K6 L6 CB6 ZB6 GA e7
  generalize w6.heap.size = g6 at *
  try dsimp only
  try simp only [Act.put, List.setIfInBounds_toArray, List.set_cons_succ, List.set_cons_zero]
  have hS0 := hS7
  clear hS7
  refine held_take 7 (v := ?tv4) rfl (by kernel_rfl) (by kernel_rfl) (by kernel_rfl) (fun _ _ _ h => h) (.inl ⟨rfl, ?ty4⟩) hS0 ?tr4
  case ty4 => (intro _ _; go_simp; try with_reducible rfl)
  case tr4 =>
  simp only [Act.put, List.setIfInBounds_toArray, List.set_cons_succ, List.set_cons_zero]
  refine held_take 8 (v := ?tv5) rfl (by kernel_rfl) (by kernel_rfl) (by kernel_rfl) (fun _ _ _ h => h) (.inl ⟨rfl, ?ty5⟩) hS0 ?tr5
  case ty5 => (intro _ _; go_simp; try with_reducible rfl)
  case tr5 =>
  simp only [Act.put, List.setIfInBounds_toArray, List.set_cons_succ, List.set_cons_zero]
  refine held_take 9 (v := ?tv6) rfl (by kernel_rfl) (by kernel_rfl) (by kernel_rfl) (fun _ _ _ h => h) (.inl ⟨rfl, ?ty6⟩) hS0 ?tr6
  case ty6 => (intro _ _; go_simp; try with_reducible rfl)
  case tr6 =>
  simp only [Act.put, List.setIfInBounds_toArray, List.set_cons_succ, List.set_cons_zero]
  refine held_take 10 (v := ?tv7) rfl (by kernel_rfl) (by kernel_rfl) (by kernel_rfl) (fun _ _ _ h => h) (.inl ⟨rfl, ?ty7⟩) hS0 ?tr7
  case ty7 => (intro _ _; go_simp; try with_reducible rfl)
  case tr7 =>
  simp only [Act.put, List.setIfInBounds_toArray, List.set_cons_succ, List.set_cons_zero]
  refine held_take 11 (v := ?tv8) rfl (by kernel_rfl) (by kernel_rfl) (by kernel_rfl) (fun _ _ _ h => h) (.inl ⟨rfl, ?ty8⟩) hS0 ?tr8
  case ty8 => (intro _ _; go_simp; try with_reducible rfl)
  case tr8 =>
  simp only [Act.put, List.setIfInBounds_toArray, List.set_cons_succ, List.set_cons_zero]
  refine wpAnyH_done (by kernel_rfl) ?_ _
  have K8 := hid (((HCC.out w7).1 hS0).blk K3.out (by simp))
  have Z8 := hid (((HCC.out w7).1 hS0).blk Z3.out (by simp))
  have E8 := hid ((HCC.out w7).1 hS0).base
  clear hS0 hCx HCC hCA K3 Z3 L3 E3
  go_wp2_with fail
  refine hsum2.out.mono ?_
  rintro e w9 ⟨rfl, e9⟩
  have Z9 := hid (Z8.out.ext e9)
  have E9 := hid (E8.out.ext e9)
  clear e9 Z8 E8
  go_wp2_with (refine wpl_storew rfl _ _ _ rfl rfl rfl Z9.out agg_key (by simp) HDV.out odl ?_)
  intro wH bH uH
  go_wp2
  exact ret_row2 rfl rfl bH agg_key HDV.out rfl ⟨rfl, uH.ext E9.out (by omega)⟩
end

section
open Go Go.RowKit

theorem exec_cmpA {P : Program} {o : Oper} {a : Act} {op : BinOp} {t u : TypeId} {x y : Operand} {xs ys : Array Value} {b : Value} (ho : o.op = .binOp op t x y u) (hx : a.eval x = .agg xs) (hy : a.eval y = .agg ys)
    (hg : P.eqGuardType P.depth t = false) (hr : ∀ w, (binOp op t (.agg xs) (.agg ys)).run P w = .ok b w) (w : World) : (execOp a.eval o).run P w = .ok (.value b) w := by
  unfold execOp
  simp only [ho, hx, hy, Sem.run_bind, run_eqGuard_agg w op t x y xs ys hg, Result.andThen_ok, hr, Sem.run_pure]
theorem guard_keyA : Try.prog.eqGuardType Try.prog.depth 23 = false := by kernel_rfl
theorem guard_id : Try.prog.eqGuardType Try.prog.depth 29 = false := by kernel_rfl

def zerosL : List UInt8 := List.replicate 32 0
theorem zerosL_map : zerosL.map u8v = List.replicate 32 (.int .u8 0) := by simp [zerosL, u8v]
def derS (k s : List UInt8) (b : Bool) (ep : Int) : List UInt8 := if b = false then zerosL else if ep < 0 ∨ 4294967295 < ep then zerosL else deriveL k s ep.toNat
def derE (b : Bool) (ep : Int) : Int := if b = false then 6 else if ep < 0 ∨ 4294967295 < ep then 4 else 0
theorem derV_eq (k s : List UInt8) (b : Bool) (ep : Int) : deriveV k s b ep = .tuple #[.agg ((derS k s b ep).map u8v).toArray, .int .i64 (derE b ep)] := by
  unfold deriveV derS derE zeros
  split
  · rw [zerosL_map]
  · split
    · rw [zerosL_map]
    · rfl
theorem derS_length (k s : List UInt8) (b : Bool) (ep : Int) : (derS k s b ep).length = 32 := by
  unfold derS
  split
  · simp [zerosL]
  · split
    · simp [zerosL]
    · exact sumL_length _ _

set_option maxRecDepth 100000 in
set_option maxHeartbeats 2000000 in
theorem derive_c (k : List UInt8) (s : ByteArray) (ep : Int) (w : World) (hk : k.length = 32) (hn : s.size ≤ 140737488355328) :
    Calls Try.prog 10 #[.agg (k.map u8v).toArray, .string s, .int .i64 ep] w fun e w' => e = .returned (deriveV k s.data.toList (isNameL s.data.toList) ep) ∧ Ext w w' := by
  have hnm := hid (fun w => isName_c s w hn)
  cases hb : isNameL s.data.toList with
  | false =>
    rw [hb] at hnm
    rw [show deriveV k s.data.toList false ep = .tuple #[.agg (List.replicate 32 (.int .u8 0)).toArray, .int .i64 6] from rfl]
    clear hb hk
    go_enter Try.func10, Try.ntmps10
    go_wp2_with fail
    generalize hwA : World.alloc (World.alloc w _) _ = wA
    have zA : Blk wA (w.heap.size + 1) (List.replicate 32 (.int .u8 0)) 23 := by rw [← hwA]; exact Blk.mk_alloc (by simp) rfl
    have eA : Ext w wA := by rw [← hwA]; exact ((Ext.refl w).alloc _).alloc _
    clear hwA
    refine (hnm.out wA).mono ?_
    rintro e w1 ⟨rfl, rfl⟩
    have ZA := hid zA
    have EA := hid eA
    clear zA eA hnm
    go_wp2_with (first | (refine wpl_storew rfl _ (.tmp 6) _ rfl rfl rfl ZA.out agg_key (by simp) (xs := List.replicate 32 (.int .u8 0)) (by simp) (one_zeros 32) ?_))
    intro w4 b4 u4
    have b5 : Blk w4 (w.heap.size + 1) (List.replicate 32 (.int .u8 0)) 23 := b4
    go_wp2
    exact ret_row2 rfl rfl b5 agg_key (by simp) rfl ⟨rfl, u4.ext EA.out (by omega)⟩
  | true =>
    by_cases hr : ep < 0 ∨ 4294967295 < ep
    · rw [hb] at hnm
      rw [show deriveV k s.data.toList true ep = .tuple #[.agg (List.replicate 32 (.int .u8 0)).toArray, .int .i64 4] by unfold deriveV zeros; rw [if_neg (by simp), if_pos hr]]
      clear hb hk
      go_enter Try.func10, Try.ntmps10
      go_wp2_with fail
      generalize hwA : World.alloc (World.alloc w _) _ = wA
      have zA : Blk wA (w.heap.size + 1) (List.replicate 32 (.int .u8 0)) 23 := by rw [← hwA]; exact Blk.mk_alloc (by simp) rfl
      have eA : Ext w wA := by rw [← hwA]; exact ((Ext.refl w).alloc _).alloc _
      clear hwA
      refine (hnm.out wA).mono ?_
      rintro e w1 ⟨rfl, rfl⟩
      have ZA := hid zA
      have EA := hid eA
      clear zA eA hnm
      by_cases h0 : ep < 0
      · have g1 : decide (ep < 0) = true := decide_eq_true h0
        clear hr
        go_wp2_with (first | (refine wpl_storew rfl _ (.tmp 6) _ rfl rfl rfl ZA.out agg_key (by simp) (xs := List.replicate 32 (.int .u8 0)) (by simp) (one_zeros 32) ?_))
        intro w4 b4 u4
        have b5 : Blk w4 (w.heap.size + 1) (List.replicate 32 (.int .u8 0)) 23 := b4
        go_wp2
        exact ret_row2 rfl rfl b5 agg_key (by simp) rfl ⟨rfl, u4.ext EA.out (by omega)⟩
      · have g1 : decide (ep < 0) = false := decide_eq_false h0
        have g2 : decide (ep > 4294967295) = true := decide_eq_true (by omega)
        have g3 : decide (4294967295 < ep) = true := decide_eq_true (by omega)
        clear hr
        go_wp2_with (first | (refine wpl_storew rfl _ (.tmp 6) _ rfl rfl rfl ZA.out agg_key (by simp) (xs := List.replicate 32 (.int .u8 0)) (by simp) (one_zeros 32) ?_))
        intro w4 b4 u4
        have b5 : Blk w4 (w.heap.size + 1) (List.replicate 32 (.int .u8 0)) 23 := b4
        go_wp2
        exact ret_row2 rfl rfl b5 agg_key (by simp) rfl ⟨rfl, u4.ext EA.out (by omega)⟩
    · obtain ⟨N, rfl⟩ : ∃ N : Nat, ep = (N : Int) := ⟨ep.toNat, by omega⟩
      rw [show deriveV k s.data.toList true (N : Int) = .tuple #[.agg ((deriveL k s.data.toList N).map u8v).toArray, .int .i64 0] by unfold deriveV; rw [if_neg (by simp), if_neg hr]; rfl]
      have h32 : s.size ≤ 32 := by
        have := hb
        unfold isNameL at this
        simp only [Bool.and_eq_true, decide_eq_true_eq] at this
        have hl : s.data.toList.length = s.size := by rw [Array.length_toList]; rfl
        omega
      exact derive_ok k s N w hk hb h32 (by omega)

set_option maxRecDepth 100000 in
set_option maxHeartbeats 2000000 in
theorem keysAreDerived_c (k : List UInt8) (s : ByteArray) (ep : Int) (w : World) (hk : k.length = 32) (hn : s.size ≤ 140737488355328) :
    Calls Try.prog 3 #[.agg (k.map u8v).toArray, .string s, .int .i64 ep] w fun e w' => e = .returned (.bool true) ∧ Ext w w' := by
  have hd := hid (fun w' => derive_c k s ep w' hk hn)
  have h32 : isNameL s.data.toList = true → s.size ≤ 32 := by
    intro this
    unfold isNameL at this
    simp only [Bool.and_eq_true, decide_eq_true_eq] at this
    have hl : s.data.toList.length = s.size := by rw [Array.length_toList]; rfl
    omega
  have hrd := hid (fun w' => rderive_c k s ep (isNameL s.data.toList) w' hk (fun w => risName_c s w (by omega)) h32)
  rw [derV_eq] at hd hrd
  have hSl := derS_length k s.data.toList (isNameL s.data.toList) ep
  have hno := hid (fun w' => nameOf_c k w' hk)
  have hrno := hid (fun w' => rnameOf_c k w' hk)
  have hnl := nameL_length k
  generalize derS k s.data.toList (isNameL s.data.toList) ep = S at *
  generalize derE (isNameL s.data.toList) ep = E at *
  generalize nameL k = nl at *
  have HS := hid (show (S.map u8v).length = 32 by rw [List.length_map, hSl])
  have HK := hid (show (k.map u8v).length = 32 by rw [List.length_map, hk])
  have os := one_u8 S
  have HSE := hid (fun w => eq_self Try.underlying23 S hSl w)
  have HNE := hid (fun w => eq_self Try.underlying29 nl hnl w)
  have kE : (E == E) = true := by simp
  clear hSl hnl hk h32
  go_enter Try.func3, Try.ntmps3
  go_upto_region 1 with (fail)
  generalize hwA : World.alloc w _ = wA
  have kA : Blk wA w.heap.size (k.map u8v) 23 := by rw [← hwA]; exact Blk.mk_alloc rfl rfl
  have eA : Ext w wA := by rw [← hwA]; exact (Ext.refl w).alloc _
  clear hwA
  have KA := hid kA
  have EA := hid eA
  clear kA eA
  go_wp2_with fail
  refine (landed_c wA).mono ?_
  rintro e wB ⟨rfl, eB⟩
  have KB := hid (KA.out.ext eB)
  have EB := hid (EA.out.ext eB)
  clear eB KA EA
  go_wp2_with (first | (refine wpl_loadw rfl 23 (.tmp 3) rfl rfl KB.out agg_key HK.out ?_))
  refine (hd.out _).mono ?_
  rintro e wC ⟨rfl, eC⟩
  have KC := hid (KB.out.ext eC)
  have EC := hid (EB.out.ext eC)
  clear eC KB EB
  go_wp2_with (first | (refine wpl_storew rfl _ (.tmp 7) _ rfl rfl rfl (Blk.mk_alloc (vs := List.replicate 32 (.int .u8 0)) rfl rfl) agg_key (by simp) HS.out os ?_))
  intro wD bD uD
  have eD : Ext wC wD := uD.ext ((Ext.refl wC).alloc _) (Nat.le_refl _)
  have AD := hid bD
  have KD := hid (KC.out.ext eD)
  have ED := hid (EC.out.ext eD)
  clear eD KC EC
  clear uD bD hd
  generalize wC.heap.size = g9 at *
  go_wp2_with (first | (refine wpl_loadw rfl 23 (.tmp 3) rfl rfl KD.out agg_key HK.out ?_))
  refine (hrd.out _).mono ?_
  rintro e wE ⟨rfl, eE⟩
  have KE := hid (KD.out.ext eE)
  have AE := hid (AD.out.ext eE)
  have EE := hid (ED.out.ext eE)
  clear eE KD AD ED
  go_wp2_with (first | (refine wpl_storew rfl _ (.tmp 9) _ rfl rfl rfl (Blk.mk_alloc (vs := List.replicate 32 (.int .u8 0)) rfl rfl) agg_key (by simp) HS.out os ?_))
  intro wF bF uF
  have eF : Ext wE wF := uF.ext ((Ext.refl wE).alloc _) (Nat.le_refl _)
  have BF := hid bF
  have KF := hid (KE.out.ext eF)
  have AF := hid (AE.out.ext eF)
  have EF := hid (EE.out.ext eF)
  clear eF KE AE EE
  clear uF bF hrd
  generalize wE.heap.size = g10 at *
  go_wp2_with fail
  obtain ⟨C, hC⟩ : ∃ C : World → Prop, C = Cls w wF [w.heap.size, g9, g10] [] := ⟨_, rfl⟩
  have hC0 : ∀ w', C w' ↔ Cls w wF [w.heap.size, g9, g10] [] w' := fun w' => by rw [hC]
  clear hC
  have HCC := hid hC0
  clear hC0
  have hCx : ∀ w w', C w → Ext w w' → C w' := fun w w' h1 h2 => (HCC.out w').2 (((HCC.out w).1 h1).ext h2)
  have hCA : C wF := (HCC.out _).2 (Cls.no_room EF.out (Kept.three KF.out.lt AF.out.lt BF.out.lt))
  refine wp_region_held_drew (S := C) (by kernel_rfl) (hCx _ _ hCA (Ext.refl _).drew) (fun hS0 => ?_)
  refine held_take 0 (v := _) rfl (by kernel_rfl) (by kernel_rfl) (by kernel_rfl) (fun _ _ _ h => h) (yieldsI_loadw rfl 23 _ rfl rfl (fun w1 h => ((HCC.out w1).1 h).blk AF.out (by simp)) agg_key HS.out) hS0 ?_
  simp only [Act.put, List.setIfInBounds_toArray, List.set_cons_succ, List.set_cons_zero]
  refine held_take 1 (v := _) rfl (by kernel_rfl) (by kernel_rfl) (by kernel_rfl) (fun _ _ _ h => h) (yieldsI_loadw rfl 23 _ rfl rfl (fun w1 h => ((HCC.out w1).1 h).blk BF.out (by simp)) agg_key HS.out) hS0 ?_
  simp only [Act.put, List.setIfInBounds_toArray, List.set_cons_succ, List.set_cons_zero]
  refine held_take 2 (v := _) rfl (by kernel_rfl) (by kernel_rfl) (by kernel_rfl) (fun _ _ _ h => h) (yieldsI_run rfl (fun w1 _ => exec_cmpA rfl rfl rfl guard_keyA HSE.out w1)) hS0 ?_
  simp only [Act.put, List.setIfInBounds_toArray, List.set_cons_succ, List.set_cons_zero]
  refine held_take 3 (v := ?tv1) rfl (by kernel_rfl) (by kernel_rfl) (by kernel_rfl) (fun _ _ _ h => h) (.inl ⟨rfl, ?ty1⟩) hS0 ?tr1
  case ty1 => (intro _ _; go_simp; try with_reducible rfl)
  case tr1 =>
  simp only [Act.put, List.setIfInBounds_toArray, List.set_cons_succ, List.set_cons_zero]
  refine held_take 4 (v := ?tv2) rfl (by kernel_rfl) (by kernel_rfl) (by kernel_rfl) (fun _ _ _ h => h) (.inl ⟨rfl, ?ty2⟩) hS0 ?tr2
  case ty2 => (intro _ _; go_simp; try with_reducible rfl)
  case tr2 =>
  simp only [Act.put, List.setIfInBounds_toArray, List.set_cons_succ, List.set_cons_zero]
  refine held_take 5 (v := ?tv3) rfl (by kernel_rfl) (by kernel_rfl) (by kernel_rfl) (fun _ _ _ h => h) (.inl ⟨rfl, ?ty3⟩) hS0 ?tr3
  case ty3 => (intro _ _; go_simp; try with_reducible rfl)
  case tr3 =>
  simp only [Act.put, List.setIfInBounds_toArray, List.set_cons_succ, List.set_cons_zero]
  refine held_take 6 (v := ?tv4) rfl (by kernel_rfl) (by kernel_rfl) (by kernel_rfl) (fun _ _ _ h => h) (.inl ⟨rfl, ?ty4⟩) hS0 ?tr4
  case ty4 => (intro _ _; go_simp; try with_reducible rfl)
  case tr4 =>
  simp only [Act.put, List.setIfInBounds_toArray, List.set_cons_succ, List.set_cons_zero]
  refine held_take 7 (v := ?tv5) rfl (by kernel_rfl) (by kernel_rfl) (by kernel_rfl) (fun _ _ _ h => h) (.inl ⟨rfl, ?ty5⟩) hS0 ?tr5
  case ty5 => (intro _ _; go_simp; try with_reducible rfl)
  case tr5 =>
  simp only [Act.put, List.setIfInBounds_toArray, List.set_cons_succ, List.set_cons_zero]
  refine held_take 8 (v := ?tv6) rfl (by kernel_rfl) (by kernel_rfl) (by kernel_rfl) (fun _ _ _ h => h) (.inl ⟨rfl, ?ty6⟩) hS0 ?tr6
  case ty6 => (intro _ _; go_simp; try with_reducible rfl)
  case tr6 =>
  simp only [Act.put, List.setIfInBounds_toArray, List.set_cons_succ, List.set_cons_zero]
  refine held_take 9 (v := _) rfl (by kernel_rfl) (by kernel_rfl) (by kernel_rfl) (fun _ _ _ h => h) (yieldsI_loadw rfl 23 _ rfl rfl (fun w1 h => ((HCC.out w1).1 h).blk KF.out (by simp)) agg_key HK.out) hS0 ?_
  simp only [Act.put, List.setIfInBounds_toArray, List.set_cons_succ, List.set_cons_zero]
  refine held_take 11 (v := _) rfl (by kernel_rfl) (by kernel_rfl) (by kernel_rfl) (fun _ _ _ h => h) (yieldsI_loadw rfl 23 _ rfl rfl (fun w1 h => ((HCC.out w1).1 h).blk KF.out (by simp)) agg_key HK.out) hS0 ?_
  simp only [Act.put, List.setIfInBounds_toArray, List.set_cons_succ, List.set_cons_zero]
  generalize wF.drew = wX at *
  refine held_one (i := 10) (by kernel_rfl) rfl ?_
  intro Q' hQ
  go_wp2_with fail
  refine (hno.out _).mono ?_
  rintro e wY ⟨rfl, eq9⟩
  have hS9 := hCx _ _ hS0 eq9
  go_wp2_with fail
  refine hQ _ _ hS9 ?_
  clear hQ Q' hS0 eq9
  have hS0 := hS9
  clear hS9
  try dsimp only
  try simp only [Act.put, List.setIfInBounds_toArray, List.set_cons_succ, List.set_cons_zero]
  refine held_one (i := 12) (by kernel_rfl) rfl ?_
  intro Q' hQ
  go_wp2_with fail
  refine (hrno.out _).mono ?_
  rintro e wZ ⟨rfl, eq9⟩
  have hS9 := hCx _ _ hS0 eq9
  go_wp2_with fail
  refine hQ _ _ hS9 ?_
  clear hQ Q' hS0 eq9
  have hS0 := hS9
  clear hS9
  try dsimp only
  try simp only [Act.put, List.setIfInBounds_toArray, List.set_cons_succ, List.set_cons_zero]
  refine held_take 13 (v := _) rfl (by kernel_rfl) (by kernel_rfl) (by kernel_rfl) (fun _ _ _ h => h) (yieldsI_run rfl (fun w1 _ => exec_cmpA rfl rfl rfl guard_id HNE.out w1)) hS0 ?_
  simp only [Act.put, List.setIfInBounds_toArray, List.set_cons_succ, List.set_cons_zero]
  refine held_take 14 (v := ?tv7) rfl (by kernel_rfl) (by kernel_rfl) (by kernel_rfl) (fun _ _ _ h => h) (.inl ⟨rfl, ?ty7⟩) hS0 ?tr7
  case ty7 => (intro _ _; go_simp; try with_reducible rfl)
  case tr7 =>
  simp only [Act.put, List.setIfInBounds_toArray, List.set_cons_succ, List.set_cons_zero]
  refine held_take 15 (v := ?tv8) rfl (by kernel_rfl) (by kernel_rfl) (by kernel_rfl) (fun _ _ _ h => h) (.inl ⟨rfl, ?ty8⟩) hS0 ?tr8
  case ty8 => (intro _ _; go_simp; try with_reducible rfl)
  case tr8 =>
  simp only [Act.put, List.setIfInBounds_toArray, List.set_cons_succ, List.set_cons_zero]
  refine wpAnyH_done (by kernel_rfl) ?_ _
  have EZ := hid ((HCC.out wZ).1 hS0).base
  clear hS0 hCx HCC
  go_wp2_with fail
  go_ret
  exact ⟨rfl, EZ.out⟩
end

section
open Go Go.RowKit Go.ChangeShapes Go.WideShapes Go.ChangeAt

theorem u8_of {n : Int} (h : (Lit.int .u8 n).wf = true) : ∃ x : UInt8, Value.int .u8 n = u8v x := by
  have hb := bounds_u8 h
  refine ⟨UInt8.ofNat n.toNat, ?_⟩
  unfold u8v
  congr 1
  rw [UInt8.toNat_ofNat']
  omega

theorem u8s_of : ∀ (vs : List Value), (∀ (i : Nat) (v : Value), vs[i]? = some v → ∃ x : UInt8, v = u8v x) → ∃ l : List UInt8, vs = l.map u8v
  | [], _ => ⟨[], rfl⟩
  | v :: vs, h => by
    obtain ⟨x, hx⟩ := h 0 v rfl
    obtain ⟨l, hl⟩ := u8s_of vs fun i u hu => h (i + 1) u (by simpa using hu)
    exact ⟨x :: l, by rw [hx, hl]; rfl⟩

section
variable {H : Type} {enc : TypeId × Value → H} {P : Program} {w : World}
/-- an array of octets -/
theorem open_octets {r : Reach} {b0 base : Nat} {sp : Nat → Bool} {held : Bool} {t e : TypeId} {n : Nat} {v : Value} {d : DataW H} {ps : List MemPlace} (ht : P.underlying t = some (.array n e)) (he : P.underlying e = some (.int .u8)) (hce : P.cellsOf e = 1) (hct : P.cellsOf t = n)
    (hval : Value.okWide P w r b0 t v) (hd : DataW.Trod enc P w base sp held t v d ps) : ∃ l : List UInt8, l.length = n ∧ v = .agg (l.map u8v).toArray := by
  unfold Value.okWide at hval
  rw [ht] at hval
  obtain ⟨cs, rfl, hs, _⟩ := hval
  obtain ⟨fuel, hf⟩ := hd
  obtain ⟨xs, m, _, _, hlen, hxl, hel⟩ := DataW.trod_array ht hf
  have hcl : cs.toList.length = n := by rw [Array.length_toList, hs, hct]
  obtain ⟨l, hl⟩ := u8s_of cs.toList fun i u hu => by
    have hi : i < n := by
      have := (List.getElem?_eq_some_iff.1 hu).1
      omega
    have h1 := hel i hi
    rw [hce, Nat.mul_one] at h1
    have hx : xs[i]? = some xs[i] := by simp
    have h2 : (cs.toList.drop i).take 1 = [u] := by
      have h3 := List.getElem?_drop (xs := cs.toList) (i := i) (j := 0)
      rw [Nat.add_zero, hu] at h3
      cases hd : cs.toList.drop i with
      | nil => rw [hd] at h3; simp at h3
      | cons y r => rw [hd] at h3; simp at h3; simp [h3]
    have h4 : DataW.trod enc P w base sp held m e [u] = some xs[i] := by
      rw [← h2, ← hx]; exact h1
    obtain ⟨k, hk, _, hw⟩ := DataW.trod_int he h4
    have hu' : u = .int .u8 k := by simpa using hk
    rw [hu']; exact u8_of hw
  refine ⟨l, ?_, ?_⟩
  · have := congrArg List.length hl
    rw [hcl, List.length_map] at this; exact this.symm
  · rw [← hl]
end
end
end Go.Proofs.Ytelhnimdfepmdaa
