/- Contracts and laws that the claim's row leans on (4 texts, joined): The reference's IsName; conditions: the string's size. The reference's IsName, whole; conditions: the string's size. Patterns: isPattern of the law and of the program, Fits of both; conditions: the string's size. Readings of arguments are opened; no condition. -/
import Derived.Test.YtelhnimdfepmdaaJ2
import Derived.Test.YtelhnimdfepmdaaB3
import Derived.ProofKit
import Derived.OpenShut
namespace Go.Proofs.Ytelhnimdfepmdaa
section
open Go Go.RowKit

theorem nameOct_high {c : UInt8} (h : 128 ≤ c.toNat) : nameOct c = false := by
  unfold nameOct
  simp
  omega
theorem runeOk_low {r : Nat} (h : r < 128) : runeOk r = nameOct (UInt8.ofNat r) := by
  unfold runeOk
  rw [decide_eq_true h, Bool.true_and]
theorem runeOk_high {r : Nat} (h : 128 ≤ r) : runeOk r = false := by
  unfold runeOk
  rw [decide_eq_false (by omega), Bool.false_and]
theorem runeOk_oct (c : UInt8) (h : c.toNat < 128) : runeOk c.toNat = nameOct c := by
  rw [runeOk_low h, UInt8.ofNat_toNat]

set_option maxRecDepth 100000 in
set_option maxHeartbeats 1000000 in
theorem indexRune_c (r : Nat) (w : World) (h : r ≤ 1114111) :
    Calls Try.prog 97 #[.string alpha, .int .i32 (r : Int)] w fun e w' => ∃ z : Int, e = .returned (.int .i64 z) ∧ decide (0 ≤ z) = runeOk r ∧ Ext w w' := by
  by_cases h1 : r < 128
  · refine (indexRune_low r w h1).mono ?_
    rintro e w' ⟨rfl, rfl⟩
    refine ⟨_, rfl, ?_, Ext.refl _⟩
    rw [firstIdx_nonneg, runeOk_low h1]
    have := alpha_any ⟨r, by omega⟩
    exact this
  · by_cases h2 : r = 65533
    · subst h2
      refine (indexRune_err w).mono ?_
      rintro e w' ⟨rfl, e1⟩
      exact ⟨_, rfl, by rw [runeOk_high (by omega)]; rfl, e1⟩
    · by_cases h3 : 55296 ≤ r ∧ r ≤ 57343
      · refine (indexRune_bad r w h3.1 h3.2).mono ?_
        rintro e w' ⟨rfl, rfl⟩
        exact ⟨_, rfl, by rw [runeOk_high (by omega)]; rfl, Ext.refl _⟩
      · refine (indexRune_high r w (by omega) h (by omega) h2).mono ?_
        rintro e w' ⟨rfl, e1⟩
        exact ⟨_, rfl, by rw [runeOk_high (by omega)]; rfl, e1⟩

set_option maxRecDepth 100000 in
set_option maxHeartbeats 1000000 in
theorem containsRune_c (r : Nat) (w : World) (h : r ≤ 1114111) :
    Calls Try.prog 54 #[.string alpha, .int .i32 (r : Int)] w fun e w' => e = .returned (.bool (runeOk r)) ∧ Ext w w' := by
  have hi := hid (fun w' => indexRune_c r w' h)
  generalize runeOk r = R at *
  generalize alpha = s at *
  go_enter Try.func54, Try.ntmps54
  go_wp2_with fail
  refine (hi.out w).mono ?_
  rintro e w1 ⟨z, rfl, hz, e1⟩
  have E1 := hid e1
  clear e1 hi
  go_wp2_with fail
  go_ret
  exact ⟨by first | rfl | rw [hz], E1.out⟩

set_option maxRecDepth 100000 in
set_option maxHeartbeats 1000000 in
theorem notName_rune (r : Nat) (w : World) (h : r ≤ 1114111) :
    Calls Try.prog 53 #[.int .i32 (r : Int)] w fun e w' => e = .returned (.bool (!runeOk r)) ∧ Ext w w' := by
  have hi := hid (fun w' => containsRune_c r w' h)
  generalize runeOk r = R at *
  go_enter Try.func53, Try.ntmps53
  go_wp2_with fail
  refine (hi.out w).mono ?_
  rintro e w1 ⟨rfl, e1⟩
  have E1 := hid e1
  clear e1 hi
  go_wp2_with fail
  go_ret
  exact ⟨rfl, E1.out⟩

def predV : Value := .func (.func 53) #[] #[]

set_option maxRecDepth 100000 in
set_option maxHeartbeats 2000000 in
theorem indexFunc_c (s : ByteArray) (w : World) :
    Calls Try.prog 121 #[.string s, predV, .bool true] w fun e w' => ∃ z : Int, e = .returned (.int .i64 z) ∧ decide (0 ≤ z) = !(s.data.toList.all nameOct) ∧ Ext w w' := by
  obtain ⟨N, hN⟩ : ∃ N, s.size = N := ⟨_, rfl⟩
  have hll : s.data.toList.length = N := by rw [← hN, Array.length_toList]; rfl
  have HLL := hid hll
  have HN := hid hN
  clear hll hN
  unfold predV
  go_enter Try.func121, Try.ntmps121
  go_wp2
  go_loopg [] N (fun gf wx => ∃ pos : Nat, wx.heap[w.heap.size]? = some (.stringIter s pos) ∧ Below w.heap.size w wx ∧ Hid ((s.data.toList.take pos).all nameOct = true) ∧ N ≤ pos + gf)
  case atStart => exact ⟨0, World.iter_heap w s 0, (Below.refl _ w).alloc (Nat.le_refl _) _, hid (by simp), by omega⟩
  case round =>
    obtain ⟨pos, hit, hbw, hall, hfu⟩ := hrel
    by_cases hps : pos < s.size
    · have hpN : pos < N := by rw [← HN.out]; exact hps
      obtain ⟨g', rfl⟩ : ∃ g', gk = g' + 1 := ⟨gk - 1, by omega⟩
      have hnx : ∀ ty, (Instr.next (.pointer (some ⟨w.heap.size, 0, none⟩)) true ty).run Try.prog wr = _ := fun ty => Lib.run_next_any_at wr w.heap.size s pos ty hit hps
      have hrl := Lib.rune_le s pos
      have hc : s.data.toList[pos]? = some (s[pos]'hps) := by rw [Array.getElem?_toList]; exact Array.getElem?_eq_getElem hps
      obtain ⟨R, hR⟩ : ∃ R, (Utf8.decode s pos).1 = R := ⟨_, rfl⟩
      obtain ⟨K, hK⟩ : ∃ K, (Utf8.decode s pos).2 = K := ⟨_, rfl⟩
      have hok : runeOk R = nameOct (s[pos]'hps) ∧ (nameOct (s[pos]'hps) = true → K = 1) := by
        by_cases hb : (s[pos]'hps).toNat < 128
        · have hdec := decode_ascii s pos hps hb
          rw [hdec] at hR hK
          simp only at hR hK
          rw [← hR]
          exact ⟨runeOk_oct _ hb, fun _ => hK.symm⟩
        · have hh := (decode_high s pos hps (by omega)).1
          rw [hR] at hh
          refine ⟨by rw [runeOk_high hh, nameOct_high (by omega)], fun h => ?_⟩
          rw [nameOct_high (by omega)] at h; cases h
      rw [hR] at hnx hrl
      rw [hK] at hnx
      obtain ⟨b, hb⟩ : ∃ b, (s[pos]'hps) = b := ⟨_, rfl⟩
      rw [hb] at hok hc
      obtain ⟨hok1, hok2⟩ := hok
      have hit2 := Lib.iterAt_heap wr w.heap.size s pos (pos + K) hit
      have hbw2 := Lib.below_iterAt hbw (k := w.heap.size) (Nat.le_refl _) s (pos + K)
      have HIT := hid hit2
      have HBW := hid hbw2
      have hcl := hid (fun w' => notName_rune R w' hrl)
      have HC := hid hc
      generalize wr.iterAt w.heap.size s (pos + K) = wX at *
      have hgt : w.heap.size < wX.heap.size := (Array.getElem?_eq_some_iff.1 HIT.out).1
      cases hnm : nameOct b with
      | true =>
        rw [hnm] at hok1
        have hK1 := hok2 hnm
        subst hK1
        rw [hok1] at hcl
        have hst : (s.data.toList.take (pos + 1)).all nameOct = true := by
          rw [List.take_add_one, HC.out, List.all_append, hall.out]; simp [hnm]
        have HST := hid hst
        clear hit hbw hit2 hbw2 hR hK hok1 hok2 hc hst hb hrl
        go_wp2_with fail
        refine (hcl.out wX).mono ?_
        rintro e wY ⟨rfl, eY⟩
        have hit3 : wY.heap[w.heap.size]? = some (.stringIter s (pos + 1)) := by rw [eY.block _ hgt]; exact HIT.out
        have HIT3 := hid hit3
        have HBW3 := hid (HBW.out.trans (eY.mono HBW.out.size))
        clear eY hit3 hcl
        go_wp2_with fail
        go_roundg g'
        case measure => omega
        case rel => exact ⟨pos + 1, HIT3.out, HBW3.out, HST, by omega⟩
      | false =>
        rw [hnm] at hok1
        rw [hok1] at hcl
        have hbad : s.data.toList.all nameOct = false := by
          rw [List.all_eq_false]
          exact ⟨b, List.mem_of_getElem? HC.out, by rw [hnm]; simp⟩
        have HBAD := hid hbad
        clear hit hbw hit2 hbw2 hR hK hok1 hok2 hc hbad hb hrl
        go_wp2_with fail
        refine (hcl.out wX).mono ?_
        rintro e wY ⟨rfl, eY⟩
        have HBW3 := hid (HBW.out.trans (eY.mono HBW.out.size))
        clear eY hcl
        go_wp2_with fail
        go_ret
        exact ⟨_, rfl, by rw [HBAD.out]; exact decide_eq_true (by omega), HBW3.out⟩
    · have hnx : ∀ ty, (Instr.next (.pointer (some ⟨w.heap.size, 0, none⟩)) true ty).run Try.prog wr = _ := fun ty => Lib.run_next_end_at wr w.heap.size s pos ty hit hps
      have hfull : s.data.toList.take pos = s.data.toList := List.take_of_length_le (by rw [HLL.out]; have := HN.out; omega)
      have hall2 := hall.out
      rw [hfull] at hall2
      have HALL := hid hall2
      have HBW := hid hbw
      clear hit hbw hall hall2 hfull
      go_wp2_with fail
      go_ret
      exact ⟨_, rfl, by rw [HALL.out]; rfl, HBW.out⟩
end

section
open Go Go.RowKit

set_option maxRecDepth 100000 in
set_option maxHeartbeats 1000000 in
theorem containsFunc_c (s : ByteArray) (w : World) :
    Calls Try.prog 52 #[.string s, predV] w fun e w' => e = .returned (.bool (!(s.data.toList.all nameOct))) ∧ Ext w w' := by
  have hi := hid (fun w' => indexFunc_c s w')
  generalize s.data.toList.all nameOct = b at *
  generalize predV = pv at *
  have hj : Hid (∀ w, Calls Try.prog 96 #[.string s, pv] w fun e w' => ∃ z : Int, e = .returned (.int .i64 z) ∧ decide (0 ≤ z) = (!b) ∧ Ext w w') := by
    refine hid fun w => ?_
    go_enter Try.func96, Try.ntmps96
    go_wp2_with fail
    refine (hi.out w).mono ?_
    rintro e w1 ⟨z, rfl, hz, e1⟩
    have E1 := hid e1
    have HZ := hid hz
    clear e1 hi hz
    go_wp2_with fail
    go_ret
    exact ⟨z, rfl, HZ.out, E1.out⟩
  clear hi
  go_enter Try.func52, Try.ntmps52
  go_wp2_with fail
  refine (hj.out w).mono ?_
  rintro e w1 ⟨z, rfl, hz, e1⟩
  have E1 := hid e1
  clear e1 hj
  go_wp2_with fail
  go_ret
  exact ⟨by first | rfl | rw [hz], E1.out⟩

set_option maxRecDepth 100000 in
set_option maxHeartbeats 1000000 in
theorem risName_c (s : ByteArray) (w : World) (hn : s.size ≤ 9223372036854775807) :
    Calls Try.prog 16 #[.string s] w fun e w' => e = .returned (.bool (isNameL s.data.toList)) ∧ Ext w w' := by
  have hc := hid (fun w' => containsFunc_c s w')
  obtain ⟨n, hsn⟩ : ∃ n, s.size = n := ⟨_, rfl⟩
  have hll : s.data.toList.length = n := by rw [← hsn, Array.length_toList]; rfl
  obtain ⟨R, hR⟩ : ∃ R, isNameL s.data.toList = R := ⟨_, rfl⟩
  rw [hR]
  unfold isNameL at hR
  have hem : s.data.toList.isEmpty = decide (n = 0) := by
    rw [Bool.eq_iff_iff, List.isEmpty_iff, decide_eq_true_eq, ← hll, List.length_eq_zero_iff]
  have hse : s = ByteArray.empty ↔ n = 0 := by
    constructor
    · rintro rfl; rw [← hsn]; rfl
    · intro h
      have : s.data.toList = [] := List.length_eq_zero_iff.1 (by rw [hll]; exact h)
      cases s with
      | mk d => cases d with
        | mk l => simp at this; subst this; rfl
  rw [hem, hll] at hR
  generalize s.data.toList.all nameOct = b at *
  by_cases h0 : n = 0
  · have hs := hse.2 h0
    subst hs
    subst h0
    simp at hR
    subst hR
    clear hc hse hem hll hsn
    go_enter Try.func16, Try.ntmps16
    go_wp2
    go_ret
    exact ⟨rfl, Ext.refl _⟩
  · have hsne : ¬ s = ByteArray.empty := fun h => h0 (hse.1 h)
    have hne1 : s.toList.isEmpty = false := by
      have := decide_eq_emptyBytes s
      rw [decide_eq_false hsne] at this
      exact this.symm
    have hne2 : ¬ s.toList = [] := by
      intro h
      rw [h] at hne1
      cases hne1
    rw [decide_eq_false h0] at hR
    by_cases h32 : n ≤ 32
    · have g1 : decide ((n : Int) ≤ 32) = true := decide_eq_true (by omega)
      have g2 : decide (n ≤ 32) = true := decide_eq_true h32
      rw [g2] at hR
      simp at hR
      subst hR
      clear hse hem hll
      unfold predV at hc
      go_enter Try.func16, Try.ntmps16
      go_wp2_with fail
      refine (hc.out w).mono ?_
      rintro e w1 ⟨rfl, e1⟩
      have E1 := hid e1
      clear e1 hc
      go_wp2_with fail
      go_ret
      exact ⟨by first | rfl | simp, E1.out⟩
    · have g1 : decide ((n : Int) ≤ 32) = false := decide_eq_false (by omega)
      have g2 : decide (n ≤ 32) = false := decide_eq_false h32
      rw [g2] at hR
      simp at hR
      subst hR
      clear hc hse hem hll
      go_enter Try.func16, Try.ntmps16
      go_wp2
      go_ret
      exact ⟨rfl, Ext.refl _⟩
end

section
open Go Go.RowKit

/-- the head of a pattern, and whether a star ends it -/
def headL (l : List UInt8) : List UInt8 := Lib.trimSuffix l [42]
def starL (l : List UInt8) : Bool := Lib.hasSuffix l [42]
def patL (l : List UInt8) : Bool := isNameL (headL l) || (starL l && (headL l).isEmpty)
def fitsL (p l : List UInt8) : Bool := if starL p then Lib.hasPrefix l (headL p) else p == l

theorem notName_p (s : ByteArray) (w : World) (hn : s.size ≤ 140737488355328) :
    Calls Try.prog 48 #[.string s] w fun e w' => e = .returned (.bool (!isNameL s.data.toList)) ∧ w = w' := by
  have hc := hid (fun w' => isName_c s w' hn)
  generalize isNameL s.data.toList = b at *
  clear hn
  go_enter Try.func48, Try.ntmps48
  go_wp2_with fail
  refine (hc.out w).mono ?_
  rintro e w1 ⟨rfl, rfl⟩
  go_wp2_with fail
  go_ret
  exact ⟨rfl, rfl⟩

set_option maxRecDepth 100000 in
set_option maxHeartbeats 1000000 in
theorem fits_p (p s : ByteArray) (w : World) (hp : p.size ≤ 140737488355328) :
    Calls Try.prog 49 #[.string p, .string s] w fun e w' => e = .returned (.bool (fitsL p.data.toList s.data.toList)) ∧ w = w' := by
  have hcut := hid (fun w' => cutSuffix_c p ⟨#[42]⟩ w' (by omega))
  have hpre := hid (fun w' => hasPrefix_c s ⟨(headL p.data.toList).toArray⟩ w')
  obtain ⟨H, hH⟩ : ∃ H : ByteArray, (⟨(headL p.data.toList).toArray⟩ : ByteArray) = H := ⟨_, rfl⟩
  rw [hH] at hpre
  have hH2 : H = ⟨(Lib.trimSuffix p.data.toList [42]).toArray⟩ := hH.symm
  have hcut2 : Hid (∀ w', Calls Try.prog 55 #[.string p, .string ⟨#[42]⟩] w' fun e w'' => e = .returned (.tuple #[.string H, .bool (starL p.data.toList)]) ∧ w'' = w') := by
    rw [hH2]; exact hcut
  clear hcut
  unfold fitsL
  cases hst : starL p.data.toList with
  | true =>
    rw [hst] at hcut2
    have hh : headL p.data.toList = H.data.toList := by rw [← hH]
    rw [if_pos rfl, hh]
    clear hH hH2 hh hst hp
    generalize Lib.hasPrefix s.data.toList H.data.toList = b at *
    go_enter Try.func49, Try.ntmps49
    go_wp2_with fail
    refine (hcut2.out w).mono ?_
    rintro e w1 ⟨rfl, rfl⟩
    go_wp2_with fail
    refine (hpre.out _).mono ?_
    rintro e w1 ⟨rfl, rfl⟩
    go_wp2_with fail
    go_ret
    exact ⟨rfl, rfl⟩
  | false =>
    rw [hst] at hcut2
    rw [if_neg (by simp)]
    clear hH hH2 hst hp hpre
    go_enter Try.func49, Try.ntmps49
    go_wp2_with fail
    refine (hcut2.out w).mono ?_
    rintro e w1 ⟨rfl, rfl⟩
    go_wp2_with fail
    go_ret
    exact ⟨by rw [Lib.toList_data, Lib.toList_data]; rfl, rfl⟩

set_option maxRecDepth 100000 in
set_option maxHeartbeats 1000000 in
theorem rfits_c (p s : ByteArray) (w : World) (hp : p.size ≤ 140737488355328) :
    Calls Try.prog 17 #[.string p, .string s] w fun e w' => e = .returned (.bool (fitsL p.data.toList s.data.toList)) ∧ w = w' := by
  have hcut := hid (fun w' => cutSuffix_c p ⟨#[42]⟩ w' (by omega))
  have hpre := hid (fun w' => hasPrefix_c s ⟨(headL p.data.toList).toArray⟩ w')
  obtain ⟨H, hH⟩ : ∃ H : ByteArray, (⟨(headL p.data.toList).toArray⟩ : ByteArray) = H := ⟨_, rfl⟩
  rw [hH] at hpre
  have hH2 : H = ⟨(Lib.trimSuffix p.data.toList [42]).toArray⟩ := hH.symm
  have hcut2 : Hid (∀ w', Calls Try.prog 55 #[.string p, .string ⟨#[42]⟩] w' fun e w'' => e = .returned (.tuple #[.string H, .bool (starL p.data.toList)]) ∧ w'' = w') := by
    rw [hH2]; exact hcut
  clear hcut
  unfold fitsL
  cases hst : starL p.data.toList with
  | true =>
    rw [hst] at hcut2
    have hh : headL p.data.toList = H.data.toList := by rw [← hH]
    rw [if_pos rfl, hh]
    clear hH hH2 hh hst hp
    generalize Lib.hasPrefix s.data.toList H.data.toList = b at *
    go_enter Try.func17, Try.ntmps17
    go_wp2_with fail
    refine (hcut2.out w).mono ?_
    rintro e w1 ⟨rfl, rfl⟩
    go_wp2_with fail
    refine (hpre.out _).mono ?_
    rintro e w1 ⟨rfl, rfl⟩
    go_wp2_with fail
    go_ret
    exact ⟨rfl, rfl⟩
  | false =>
    rw [hst] at hcut2
    rw [if_neg (by simp)]
    clear hH hH2 hst hp hpre
    go_enter Try.func17, Try.ntmps17
    go_wp2_with fail
    refine (hcut2.out w).mono ?_
    rintro e w1 ⟨rfl, rfl⟩
    go_wp2_with fail
    go_ret
    exact ⟨by rw [Lib.toList_data, Lib.toList_data]; rfl, rfl⟩

theorem trim_size (s : ByteArray) : (⟨(headL s.data.toList).toArray⟩ : ByteArray).size ≤ s.size := by
  show (headL s.data.toList).toArray.size ≤ s.size
  rw [List.size_toArray, Lib.size_eq]
  unfold headL Lib.trimSuffix
  split
  · rw [List.length_take]; omega
  · exact Nat.le_refl _
theorem empty_toList (H : ByteArray) : H.toList.isEmpty = H.data.toList.isEmpty := by rw [Lib.toList_data]

set_option maxRecDepth 100000 in
set_option maxHeartbeats 1000000 in
theorem isPattern_c (s : ByteArray) (w : World) (hn : s.size ≤ 140737488355328) :
    Calls Try.prog 47 #[.string s] w fun e w' => e = .returned (.bool (patL s.data.toList)) ∧ w = w' := by
  have hcut := hid (fun w' => cutSuffix_c s ⟨#[42]⟩ w' (by omega))
  have hts := trim_size s
  obtain ⟨H, hH⟩ : ∃ H : ByteArray, (⟨(headL s.data.toList).toArray⟩ : ByteArray) = H := ⟨_, rfl⟩
  have hH2 : H = ⟨(Lib.trimSuffix s.data.toList [42]).toArray⟩ := hH.symm
  have hcut2 : Hid (∀ w', Calls Try.prog 55 #[.string s, .string ⟨#[42]⟩] w' fun e w'' => e = .returned (.tuple #[.string H, .bool (starL s.data.toList)]) ∧ w'' = w') := by
    rw [hH2]; exact hcut
  rw [hH] at hts
  have hnm := hid (fun w' => isName_c H w' (by omega))
  have hh : headL s.data.toList = H.data.toList := by rw [← hH]
  unfold patL
  rw [hh]
  have HEM := hid (empty_toList H)
  clear hcut hH hH2 hh hts hn
  generalize starL s.data.toList = st at *
  generalize isNameL H.data.toList = nm at *
  cases nm with
  | true =>
    go_enter Try.func47, Try.ntmps47
    go_wp2_with fail
    refine (hcut2.out w).mono ?_
    rintro e w1 ⟨rfl, rfl⟩
    go_wp2_with fail
    refine (hnm.out _).mono ?_
    rintro e w2 ⟨rfl, rfl⟩
    go_wp2_with fail
    go_ret
    exact ⟨rfl, rfl⟩
  | false =>
    cases st with
    | false =>
      go_enter Try.func47, Try.ntmps47
      go_wp2_with fail
      refine (hcut2.out w).mono ?_
      rintro e w1 ⟨rfl, rfl⟩
      go_wp2_with fail
      refine (hnm.out _).mono ?_
      rintro e w2 ⟨rfl, rfl⟩
      go_wp2_with fail
      go_ret
      exact ⟨rfl, rfl⟩
    | true =>
      go_enter Try.func47, Try.ntmps47
      go_wp2_with fail
      refine (hcut2.out w).mono ?_
      rintro e w1 ⟨rfl, rfl⟩
      go_wp2_with fail
      refine (hnm.out _).mono ?_
      rintro e w2 ⟨rfl, rfl⟩
      go_wp2_with fail
      go_ret
      exact ⟨by show Ending.returned (Value.bool H.toList.isEmpty) = Ending.returned (Value.bool H.data.toList.isEmpty); rw [HEM.out], rfl⟩

/-- the law's own test of a pattern -/
def pat2L (l : List UInt8) : Bool := l == [42] || (isNameL (headL l) && decide (Lib.countByte l 42 ≤ 1))

theorem policyFits_c (p s : ByteArray) (w : World) (hp : p.size ≤ 140737488355328) (hs : s.size ≤ 140737488355328) :
    Calls Try.prog 14 #[.string p, .string s] w fun e w' => e = .returned (.tuple (if patL p.data.toList && isNameL s.data.toList then #[.bool (fitsL p.data.toList s.data.toList), .int .i64 0] else #[.bool false, .int .i64 6])) ∧ w = w' := by
  have h1 := hid (fun w' => isPattern_c p w' hp)
  have h2 := hid (fun w' => notName_p s w' hs)
  have h3 := hid (fun w' => fits_p p s w' hp)
  clear hp hs
  generalize patL p.data.toList = b1 at *
  generalize isNameL s.data.toList = b2 at *
  generalize fitsL p.data.toList s.data.toList = b3 at *
  cases b1 with
  | false =>
    go_enter Try.func14, Try.ntmps14
    go_wp2_with fail
    refine (h1.out w).mono ?_
    rintro e w1 ⟨rfl, rfl⟩
    go_wp2_with fail
    go_ret2
    exact ⟨rfl, rfl⟩
  | true =>
    cases b2 with
    | false =>
      go_enter Try.func14, Try.ntmps14
      go_wp2_with fail
      refine (h1.out w).mono ?_
      rintro e w1 ⟨rfl, rfl⟩
      go_wp2_with fail
      refine (h2.out _).mono ?_
      rintro e w1 ⟨rfl, rfl⟩
      go_wp2_with fail
      go_ret2
      exact ⟨rfl, rfl⟩
    | true =>
      go_enter Try.func14, Try.ntmps14
      go_wp2_with fail
      refine (h1.out w).mono ?_
      rintro e w1 ⟨rfl, rfl⟩
      go_wp2_with fail
      refine (h2.out _).mono ?_
      rintro e w1 ⟨rfl, rfl⟩
      go_wp2_with fail
      refine (h3.out _).mono ?_
      rintro e w1 ⟨rfl, rfl⟩
      go_wp2_with fail
      go_ret2
      exact ⟨rfl, rfl⟩

set_option maxRecDepth 100000 in
set_option maxHeartbeats 1000000 in
theorem lawPattern_c (s : ByteArray) (w : World) (hn : s.size ≤ 140737488355328) :
    Calls Try.prog 15 #[.string s] w fun e w' => e = .returned (.bool (pat2L s.data.toList)) ∧ Ext w w' := by
  have htr := hid (fun w' => trimSuffix_c s ⟨#[42]⟩ w' (by omega))
  have hct := hid (fun w' => countOne_c s 42 w')
  have hts := trim_size s
  obtain ⟨H, hH⟩ : ∃ H : ByteArray, (⟨(headL s.data.toList).toArray⟩ : ByteArray) = H := ⟨_, rfl⟩
  have hH2 : H = ⟨(Lib.trimSuffix s.data.toList [42]).toArray⟩ := hH.symm
  have htr2 : Hid (∀ w', Calls Try.prog 50 #[.string s, .string ⟨#[42]⟩] w' fun e w'' => e = .returned (.string H) ∧ w'' = w') := by
    rw [hH2]; exact htr
  rw [hH] at hts
  have hnm := hid (fun w' => risName_c H w' (by omega))
  have hh : headL s.data.toList = H.data.toList := by rw [← hH]
  have hle : s.data.toList.count 42 ≤ s.data.toList.length := List.count_le_length
  rw [← Lib.size_eq] at hle
  obtain ⟨q, hq⟩ : ∃ q, Lib.countByte s.data.toList 42 = q := ⟨_, rfl⟩
  have hq1 : q ≤ 140737488355328 := by rw [← hq]; exact Nat.le_trans hle hn
  unfold pat2L
  rw [hh, hq]
  rw [hq] at hct
  have HH := hid hh
  clear htr hH hH2 hh hts hn hq hle
  generalize isNameL H.data.toList = nm at *
  by_cases hs : s.toList = [42]
  · have hs2 : (s.data.toList == [42]) = true := by rw [← Lib.toList_data, hs]; rfl
    rw [hs2]
    clear hs2
    go_enter Try.func15, Try.ntmps15
    go_wp2_with fail
    go_ret
    exact ⟨rfl, Ext.refl _⟩
  · have hs2 : (s.data.toList == [42]) = false := by rw [← Lib.toList_data]; simpa using hs
    have hs3 : (s.toList == [42]) = false := by simpa using hs
    rw [hs2]
    clear hs2
    cases nm with
    | false =>
      go_enter Try.func15, Try.ntmps15
      go_wp2_with fail
      refine (htr2.out w).mono ?_
      rintro e w1 ⟨rfl, rfl⟩
      go_wp2_with fail
      refine (hnm.out _).mono ?_
      rintro e w2 ⟨rfl, e2⟩
      have E2 := hid e2
      clear e2
      go_wp2_with fail
      go_ret
      exact ⟨rfl, E2.out⟩
    | true =>
      go_enter Try.func15, Try.ntmps15
      go_wp2_with fail
      refine (htr2.out w).mono ?_
      rintro e w1 ⟨rfl, rfl⟩
      go_wp2_with fail
      refine (hnm.out _).mono ?_
      rintro e w2 ⟨rfl, e2⟩
      have E2 := hid e2
      clear e2
      go_wp2_with fail
      refine (hct.out _).mono ?_
      rintro e w3 ⟨rfl, rfl⟩
      go_wp2_with fail
      go_ret
      exact ⟨by first | rfl | (simp; done) | (simp; omega), E2.out⟩

theorem mem_name {l : List UInt8} (h : isNameL l = true) : ∀ c ∈ l, nameOct c = true := by
  unfold isNameL at h
  simp only [Bool.and_eq_true] at h
  exact List.all_eq_true.1 h.1.1
theorem count_name {l : List UInt8} (h : isNameL l = true) : l.count 42 = 0 := by
  rw [List.count_eq_zero]
  intro hm
  have := mem_name h 42 hm
  revert this
  decide

/-- the two tests of a pattern are one -/
theorem pat_eq (l : List UInt8) : pat2L l = patL l := by
  cases hs : Lib.hasSuffix l [42] with
  | false =>
    have hh : headL l = l := by unfold headL Lib.trimSuffix; rw [if_neg (by rw [hs]; simp)]
    have h0 : (l == [42]) = false := by
      cases h : l == [42] with
      | false => rfl
      | true => rw [beq_iff_eq.1 h] at hs; revert hs; decide
    unfold pat2L patL starL Lib.countByte
    rw [hh, h0, hs]
    cases hn : isNameL l with
    | false => rfl
    | true => rw [count_name hn]; rfl
  | true =>
    obtain ⟨t, ht⟩ : ∃ t, t ++ [42] = l := List.isSuffixOf_iff_suffix.1 hs
    have hh : headL l = t := by unfold headL Lib.trimSuffix; rw [if_pos hs, ← ht]; simp
    unfold pat2L patL starL Lib.countByte
    rw [hh, hs, ← ht]
    cases htn : t.isEmpty with
    | true =>
      rw [List.isEmpty_iff] at htn
      subst htn
      decide
    | false =>
      have h0 : (t ++ [42] == [42]) = false := by
        cases t with
        | nil => simp at htn
        | cons a t => cases t <;> simp
      rw [h0]
      cases hn : isNameL t with
      | false => rfl
      | true => rw [List.count_append, count_name hn]; rfl

set_option maxRecDepth 100000 in
set_option maxHeartbeats 1000000 in
theorem patternsFit_c (p s : ByteArray) (w : World) (hp : p.size ≤ 140737488355328) (hs : s.size ≤ 140737488355328) :
    Calls Try.prog 4 #[.string p, .string s] w fun e w' => e = .returned (.bool true) ∧ Ext w w' := by
  have h1 := hid (fun w' => policyFits_c p s w' hp hs)
  have h2 := hid (fun w' => lawPattern_c p w' hp)
  have h3 := hid (fun w' => risName_c s w' (by omega))
  have h4 := hid (fun w' => rfits_c p s w' hp)
  rw [pat_eq] at h2
  clear hp hs
  generalize patL p.data.toList = b1 at *
  generalize isNameL s.data.toList = b2 at *
  generalize fitsL p.data.toList s.data.toList = b3 at *
  have H33 : (b3 == b3) = true := by simp
  cases b1 with
  | false =>
    go_enter Try.func4, Try.ntmps4
    go_wp2_with fail
    refine (landed_c w).mono ?_
    rintro e wB ⟨rfl, eB⟩
    have EB := hid eB
    clear eB
    go_wp2_with fail
    refine (h1.out wB).mono ?_
    rintro e w1 ⟨rfl, rfl⟩
    go_wp2_with fail
    refine (h2.out _).mono ?_
    rintro e w2 ⟨rfl, e2⟩
    have E2 := hid (EB.out.ext e2)
    clear e2 EB
    go_wp2_with fail
    go_ret
    exact ⟨rfl, E2.out⟩
  | true =>
    cases b2 with
    | false =>
      go_enter Try.func4, Try.ntmps4
      go_wp2_with fail
      refine (landed_c w).mono ?_
      rintro e wB ⟨rfl, eB⟩
      have EB := hid eB
      clear eB
      go_wp2_with fail
      refine (h1.out wB).mono ?_
      rintro e w1 ⟨rfl, rfl⟩
      go_wp2_with fail
      refine (h2.out _).mono ?_
      rintro e w2 ⟨rfl, e2⟩
      have E2 := hid (EB.out.ext e2)
      clear e2 EB
      go_wp2_with fail
      refine (h3.out _).mono ?_
      rintro e w3 ⟨rfl, e3⟩
      have E3 := hid (E2.out.ext e3)
      clear e3 E2
      go_wp2_with fail
      go_ret
      exact ⟨rfl, E3.out⟩
    | true =>
      go_enter Try.func4, Try.ntmps4
      go_wp2_with fail
      refine (landed_c w).mono ?_
      rintro e wB ⟨rfl, eB⟩
      have EB := hid eB
      clear eB
      go_wp2_with fail
      refine (h1.out wB).mono ?_
      rintro e w1 ⟨rfl, rfl⟩
      go_wp2_with fail
      refine (h2.out _).mono ?_
      rintro e w2 ⟨rfl, e2⟩
      have E2 := hid (EB.out.ext e2)
      clear e2 EB
      go_wp2_with fail
      refine (h3.out _).mono ?_
      rintro e w3 ⟨rfl, e3⟩
      have E3 := hid (E2.out.ext e3)
      clear e3 E2
      go_wp2_with fail
      refine (h4.out _).mono ?_
      rintro e w4 ⟨rfl, rfl⟩
      go_wp2_with fail
      go_ret
      exact ⟨by first | rfl | (simp; done), E3.out⟩
end

section
open Go Go.RowKit Go.ChangeShapes Go.WideShapes Go.ChangeAt

theorem u8_of {n : Int} (h : (Lit.int .u8 n).wf = true) : ∃ x : UInt8, Value.int .u8 n = u8v x := by
  have hb := bounds_u8 h
  refine ⟨UInt8.ofNat n.toNat, ?_⟩
  unfold u8v
  congr 1
  rw [UInt8.toNat_ofNat']
  omega

theorem u8s_of : ∀ (vs : List Value), (∀ (i : Nat) (v : Value), vs[i]? = some v → ∃ x : UInt8, v = u8v x) → ∃ l : List UInt8, vs = l.map u8v
  | [], _ => ⟨[], rfl⟩
  | v :: vs, h => by
    obtain ⟨x, hx⟩ := h 0 v rfl
    obtain ⟨l, hl⟩ := u8s_of vs fun i u hu => h (i + 1) u (by simpa using hu)
    exact ⟨x :: l, by rw [hx, hl]; rfl⟩

section
variable {H : Type} {enc : TypeId × Value → H} {P : Program} {w : World}
/-- an array of octets -/
theorem open_octets {r : Reach} {b0 base : Nat} {sp : Nat → Bool} {held : Bool} {t e : TypeId} {n : Nat} {v : Value} {d : DataW H} {ps : List MemPlace} (ht : P.underlying t = some (.array n e)) (he : P.underlying e = some (.int .u8)) (hce : P.cellsOf e = 1) (hct : P.cellsOf t = n)
    (hval : Value.okWide P w r b0 t v) (hd : DataW.Trod enc P w base sp held t v d ps) : ∃ l : List UInt8, l.length = n ∧ v = .agg (l.map u8v).toArray := by
  unfold Value.okWide at hval
  rw [ht] at hval
  obtain ⟨cs, rfl, hs, _⟩ := hval
  obtain ⟨fuel, hf⟩ := hd
  obtain ⟨xs, m, _, _, hlen, hxl, hel⟩ := DataW.trod_array ht hf
  have hcl : cs.toList.length = n := by rw [Array.length_toList, hs, hct]
  obtain ⟨l, hl⟩ := u8s_of cs.toList fun i u hu => by
    have hi : i < n := by
      have := (List.getElem?_eq_some_iff.1 hu).1
      omega
    have h1 := hel i hi
    rw [hce, Nat.mul_one] at h1
    have hx : xs[i]? = some xs[i] := by simp
    have h2 : (cs.toList.drop i).take 1 = [u] := by
      have h3 := List.getElem?_drop (xs := cs.toList) (i := i) (j := 0)
      rw [Nat.add_zero, hu] at h3
      cases hd : cs.toList.drop i with
      | nil => rw [hd] at h3; simp at h3
      | cons y r => rw [hd] at h3; simp at h3; simp [h3]
    have h4 : DataW.trod enc P w base sp held m e [u] = some xs[i] := by
      rw [← h2, ← hx]; exact h1
    obtain ⟨k, hk, _, hw⟩ := DataW.trod_int he h4
    have hu' : u = .int .u8 k := by simpa using hk
    rw [hu']; exact u8_of hw
  refine ⟨l, ?_, ?_⟩
  · have := congrArg List.length hl
    rw [hcl, List.length_map] at this; exact this.symm
  · rw [← hl]
end
end
end Go.Proofs.Ytelhnimdfepmdaa
