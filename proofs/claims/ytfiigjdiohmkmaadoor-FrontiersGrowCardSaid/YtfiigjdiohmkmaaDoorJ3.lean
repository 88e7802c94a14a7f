/- Contracts and laws that the claim's row leans on (22 texts, joined): Plain laws of a frontier: the peaks of a growing list, the root out of the peaks; no condition. rootOf: the root of a list that is not empty; conditions: the list's size, the rows' lengths. The reference's Root: the root of a list that is not empty; conditions: the list's size, the rows' lengths. Readings of arguments are opened; no condition. Readings of slices of octets are opened; no condition. Readings of slices of slices of octets are opened; no condition. The leaves of the beginnings of texts, by the law's helper and by the program; conditions: the sizes. leaves: the leaves of the beginnings of at most forty texts; conditions: the sizes. tree.Root; conditions: the list's size, the rows' lengths. The law RootsMatch, walked; conditions: the sizes. proofFault and PrintProof; conditions: the rows' lengths. The reference's PrintProof; conditions: the rows' lengths. slices.Equal at octets and at sums, sameProof; conditions: the lengths. slices.Clone of sums; tree.FrontierOf, Size, Peaks; conditions: the sizes. The law FrontiersCheck, walked; conditions: the size's range. math/bits.TrailingZeros where its table lies as it was laid; conditions: the number is not 0 and below 2^64. Rows of one's own: append with the row's block told; a row's beginning; blocks that are kept; no condition. Frontier.Add; conditions: the sizes, the table of TrailingZeros. Frontier.Root, NewFrontier; conditions: the sizes. keyref1.Peaks; conditions: the list's size. slices.Backward of sums: what its iterator hands over; no condition but the list's size. keyref1.Bag; conditions: the list's size. -/
import Derived.Test.YtfiigjdiohmkmaaDoorJ2
import Derived.Lib.TrailingZeros
import Derived.ProofKit
import Derived.OpenShut
import Derived.ChangeSlices
import Derived.WideShapes
import Derived.SizedLaws
import Derived.Deep.Matrix
import Derived.Great.BuildSlice
import Derived.Shelf.Spec.TrailingZeros
import Derived.RangeFuncNested
import Derived.RangeFuncBound
import Derived.RangeFuncCalls
import Derived.RangeFuncLeaves
import Derived.Shelf.Abstract
import Derived.Shelf.RegionOpen
import Derived.OwnWalkIn
import Derived.TacticsInMore
import Derived.LoopNIn
import Derived.LoopIn
namespace Go.Proofs.YtfiigjdiohmkmaaDoor
section
open Go Go.RowKit

theorem ctz_pow (f b : Nat) (h : b < f) : Lib.ctzFrom f (2 ^ b) = b := by
  induction b generalizing f with
  | zero =>
    cases f with
    | zero => omega
    | succ f => simp [Lib.ctzFrom]
  | succ b ih =>
    cases f with
    | zero => omega
    | succ f =>
      have e1 : (2 ^ (b + 1)) % 2 = 0 := by rw [Nat.pow_succ]; omega
      have e2 : 2 ^ (b + 1) / 2 = 2 ^ b := by rw [Nat.pow_succ]; omega
      simp only [Lib.ctzFrom, e1, e2]
      rw [if_neg (by omega), ih f (by omega)]; omega
theorem ctz_add (f b y : Nat) (h0 : 0 < y) (h : y < 2 ^ b) : Lib.ctzFrom f (2 ^ b + y) = Lib.ctzFrom f y := by
  induction f generalizing b y with
  | zero => rfl
  | succ f ih =>
    cases b with
    | zero => simp at h; omega
    | succ b =>
      have e0 : 2 ^ (b + 1) = 2 * 2 ^ b := by rw [Nat.pow_succ]; omega
      have e1 : (2 ^ (b + 1) + y) % 2 = y % 2 := by omega
      have e2 : (2 ^ (b + 1) + y) / 2 = 2 ^ b + y / 2 := by omega
      simp only [Lib.ctzFrom, e1, e2]
      split
      · rfl
      · rw [ih b (y / 2) (by omega) (by omega)]

section
variable (nd : List UInt8 → List UInt8 → List UInt8)
theorem rootS_pow {ls : List (List UInt8)} {b : Nat} (h : ls.length = 2 ^ (b + 1)) : rootS nd ls = nd (rootS nd (ls.take (2 ^ b))) (rootS nd (ls.drop (2 ^ b))) := by
  have e0 : 2 ^ (b + 1) = 2 * 2 ^ b := by rw [Nat.pow_succ]; omega
  have hp : 0 < 2 ^ b := Nat.two_pow_pos b
  have hs : 2 ^ b = splitN ls.length := splitN_eq (by omega) (by omega)
  rw [rootS_two nd (by omega), ← hs]
theorem rootS_high {ls : List (List UInt8)} {b : Nat} (h1 : 2 ^ b < ls.length) (h2 : ls.length < 2 ^ (b + 1)) : rootS nd ls = nd (rootS nd (ls.take (2 ^ b))) (rootS nd (ls.drop (2 ^ b))) := by
  have e0 : 2 ^ (b + 1) = 2 * 2 ^ b := by rw [Nat.pow_succ]; omega
  have hp : 0 < 2 ^ b := Nat.two_pow_pos b
  have hs : 2 ^ b = splitN ls.length := splitN_eq (by omega) (by omega)
  rw [rootS_two nd (by omega), ← hs]

/-- the peaks of a list of less than 2 ^ b sums -/
def peaksB : Nat → List (List UInt8) → List (List UInt8)
  | 0, _ => []
  | b + 1, l => if 2 ^ b ≤ l.length then rootS nd (l.take (2 ^ b)) :: peaksB b (l.drop (2 ^ b)) else peaksB b l
theorem peaksB_nil (b : Nat) : peaksB nd b [] = [] := by
  induction b with
  | zero => rfl
  | succ b ih =>
    have := Nat.two_pow_pos b
    simp only [peaksB, List.length_nil]
    rw [if_neg (by omega)]; exact ih
theorem peaksB_32 (hnd : ∀ a b, (nd a b).length = 32) (b : Nat) {l : List (List UInt8)} (h : All32 l) : All32 (peaksB nd b l) := by
  induction b generalizing l with
  | zero => exact All32.nil
  | succ b ih =>
    simp only [peaksB]
    split
    · intro x hx
      rcases List.mem_cons.1 hx with rfl | hx
      · exact rootS_length nd hnd (h.take _)
      · exact ih (h.drop _) x hx
    · exact ih h
theorem peaksB_length (b : Nat) (l : List (List UInt8)) (h : l.length < 2 ^ b) : (peaksB nd b l).length = popF b l.length := by
  induction b generalizing l with
  | zero => rfl
  | succ b ih =>
    have e0 : 2 ^ (b + 1) = 2 * 2 ^ b := by rw [Nat.pow_succ]; omega
    simp only [peaksB]
    split
    · rename_i hle
      have hd : (l.drop (2 ^ b)).length = l.length - 2 ^ b := List.length_drop
      rw [List.length_cons, ih _ (by omega), hd]
      have := popF_split b 1 (l.length - 2 ^ b) (by omega) 1
      rw [show 2 ^ b * 1 + (l.length - 2 ^ b) = l.length by omega] at this
      rw [this]; rfl
    · rename_i hlt
      rw [ih _ (by omega)]
      exact (popF_more b 1 _ (by omega)).symm
/-- the last two put together -/
def mergeE (l : List (List UInt8)) : List (List UInt8) := l.take (l.length - 2) ++ [nd (l[l.length - 2]?.getD []) (l[l.length - 1]?.getD [])]
def mergeN : Nat → List (List UInt8) → List (List UInt8)
  | 0, l => l
  | t + 1, l => mergeN t (mergeE nd l)
theorem mergeE_length {l : List (List UInt8)} (h : 2 ≤ l.length) : (mergeE nd l).length = l.length - 1 := by
  unfold mergeE
  rw [List.length_append, List.length_take, List.length_singleton]; omega
theorem mergeE_cons (x : List UInt8) {q : List (List UInt8)} (h : 2 ≤ q.length) : mergeE nd (x :: q) = x :: mergeE nd q := by
  unfold mergeE
  rw [List.length_cons, show q.length + 1 - 2 = (q.length - 2) + 1 by omega, show q.length + 1 - 1 = (q.length - 1) + 1 by omega, List.take_succ_cons, List.getElem?_cons_succ, List.getElem?_cons_succ]
  rfl
theorem mergeE_two (a b : List UInt8) : mergeE nd [a, b] = [nd a b] := rfl
theorem mergeN_cons (x : List UInt8) (t : Nat) {q : List (List UInt8)} (h : t < q.length) : mergeN nd t (x :: q) = x :: mergeN nd t q := by
  induction t generalizing q with
  | zero => rfl
  | succ t ih =>
    simp only [mergeN]
    rw [mergeE_cons nd x (by omega), ih (by rw [mergeE_length nd (by omega)]; omega)]
theorem mergeN_last (t : Nat) (l : List (List UInt8)) : mergeN nd (t + 1) l = mergeE nd (mergeN nd t l) := by
  induction t generalizing l with
  | zero => rfl
  | succ t ih =>
    have : mergeN nd (t + 1 + 1) l = mergeN nd (t + 1) (mergeE nd l) := rfl
    rw [this, ih]; rfl
theorem mergeE_32 (hnd : ∀ a b, (nd a b).length = 32) {l : List (List UInt8)} (h : All32 l) : All32 (mergeE nd l) := (h.take _).append (All32.one (hnd _ _))
theorem mergeN_32 (hnd : ∀ a b, (nd a b).length = 32) (t : Nat) {l : List (List UInt8)} (h : All32 l) : All32 (mergeN nd t l) := by
  induction t generalizing l with
  | zero => exact h
  | succ t ih => exact ih (mergeE_32 nd hnd h)

/-- one leaf more: it is appended, and as many pairs are put together as the new size has zeros at its end -/
theorem peaks_add (y : List UInt8) (b : Nat) (l : List (List UInt8)) (f : Nat) (hf : b < f) (h : l.length < 2 ^ b) :
    Lib.ctzFrom f (l.length + 1) ≤ (peaksB nd b l).length ∧
    (l.length + 1 < 2 ^ b → mergeN nd (Lib.ctzFrom f (l.length + 1)) (peaksB nd b l ++ [y]) = peaksB nd b (l ++ [y])) ∧
    (l.length + 1 = 2 ^ b → Lib.ctzFrom f (l.length + 1) = b ∧ mergeN nd b (peaksB nd b l ++ [y]) = [rootS nd (l ++ [y])]) := by
  induction b generalizing l with
  | zero =>
    have h0 : l.length = 0 := by simpa using h
    obtain rfl := List.length_eq_zero_iff.1 h0
    have hc := ctz_pow f 0 hf
    refine ⟨?_, ?_, ?_⟩
    · simp only [List.length_nil, Nat.zero_add]
      rw [show (1 : Nat) = 2 ^ 0 from rfl, hc]; omega
    · intro h1; simp at h1
    · intro _
      refine ⟨by simpa using hc, ?_⟩
      show mergeN nd 0 ([] ++ [y]) = [rootS nd ([] ++ [y])]
      rw [List.nil_append, rootS_one]; rfl
  | succ b ih =>
    have e0 : 2 ^ (b + 1) = 2 * 2 ^ b := by rw [Nat.pow_succ]; omega
    have hp : 0 < 2 ^ b := Nat.two_pow_pos b
    by_cases hle : 2 ^ b ≤ l.length
    · have hd : (l.drop (2 ^ b)).length = l.length - 2 ^ b := List.length_drop
      have ht : (l.take (2 ^ b)).length = 2 ^ b := by rw [List.length_take]; omega
      have hpk : peaksB nd (b + 1) l = rootS nd (l.take (2 ^ b)) :: peaksB nd b (l.drop (2 ^ b)) := by simp only [peaksB]; rw [if_pos hle]
      obtain ⟨i1, i2, i3⟩ := ih (l.drop (2 ^ b)) (by omega) (by omega)
      rw [hd] at i1 i2 i3
      have htk : (l ++ [y]).take (2 ^ b) = l.take (2 ^ b) := List.take_append_of_le_length hle
      have hdr : (l ++ [y]).drop (2 ^ b) = l.drop (2 ^ b) ++ [y] := List.drop_append_of_le_length hle
      have hnx : peaksB nd (b + 1) (l ++ [y]) = rootS nd (l.take (2 ^ b)) :: peaksB nd b (l.drop (2 ^ b) ++ [y]) := by
        simp only [peaksB]
        rw [if_pos (by simp; omega), htk, hdr]
      by_cases hm : l.length - 2 ^ b + 1 < 2 ^ b
      · have hc : Lib.ctzFrom f (l.length + 1) = Lib.ctzFrom f (l.length - 2 ^ b + 1) := by
          have := ctz_add f b (l.length - 2 ^ b + 1) (by omega) hm
          rw [show 2 ^ b + (l.length - 2 ^ b + 1) = l.length + 1 by omega] at this
          exact this
        rw [hc, hpk]
        refine ⟨by rw [List.length_cons]; omega, fun _ => ?_, fun h1 => by omega⟩
        rw [List.cons_append, mergeN_cons nd _ _ (by rw [List.length_append, List.length_singleton]; omega), i2 hm, hnx]
      · have hm2 : l.length - 2 ^ b + 1 = 2 ^ b := by omega
        obtain ⟨j1, j2⟩ := i3 hm2
        have hc : Lib.ctzFrom f (l.length + 1) = b + 1 := by
          rw [show l.length + 1 = 2 ^ (b + 1) by omega]
          exact ctz_pow f (b + 1) hf
        rw [hc, hpk]
        rw [j1] at i1
        refine ⟨by rw [List.length_cons]; omega, fun h1 => by omega, fun _ => ⟨rfl, ?_⟩⟩
        rw [mergeN_last, List.cons_append, mergeN_cons nd _ _ (by rw [List.length_append, List.length_singleton]; omega), j2, mergeE_two, rootS_pow nd (ls := l ++ [y]) (b := b) (by simp; omega), htk, hdr]
    · have hpk : peaksB nd (b + 1) l = peaksB nd b l := by simp only [peaksB]; rw [if_neg hle]
      obtain ⟨i1, i2, i3⟩ := ih l (by omega) (by omega)
      rw [hpk]
      by_cases hm : l.length + 1 < 2 ^ b
      · refine ⟨i1, fun _ => ?_, fun h1 => by omega⟩
        rw [i2 hm]
        simp only [peaksB]
        rw [if_neg (by simp; omega)]
      · have hm2 : l.length + 1 = 2 ^ b := by omega
        obtain ⟨j1, j2⟩ := i3 hm2
        refine ⟨i1, fun _ => ?_, fun h1 => by omega⟩
        rw [j1, j2]
        simp only [peaksB]
        have hl : (l ++ [y]).length = 2 ^ b := by simp; omega
        rw [if_pos (by omega), ← hl, List.take_length, List.drop_length, peaksB_nil]
/-- the root out of the peaks -/
def bagL : List (List UInt8) → List UInt8
  | [] => zero32
  | [x] => x
  | x :: q => nd x (bagL q)
theorem bagL_cons (x : List UInt8) {q : List (List UInt8)} (h : q ≠ []) : bagL nd (x :: q) = nd x (bagL nd q) := by
  cases q with
  | nil => exact absurd rfl h
  | cons a q => rfl
theorem peaksB_ne (b : Nat) {l : List (List UInt8)} (h0 : 0 < l.length) (h : l.length < 2 ^ b) : peaksB nd b l ≠ [] := by
  induction b with
  | zero => rw [Nat.pow_zero] at h; omega
  | succ b ih =>
    simp only [peaksB]
    split
    · simp
    · exact ih (by omega)
theorem bag_root (b : Nat) {l : List (List UInt8)} (h0 : 0 < l.length) (h : l.length < 2 ^ b) : bagL nd (peaksB nd b l) = rootS nd l := by
  induction b generalizing l with
  | zero => rw [Nat.pow_zero] at h; omega
  | succ b ih =>
    have e0 : 2 ^ (b + 1) = 2 * 2 ^ b := by rw [Nat.pow_succ]; omega
    simp only [peaksB]
    split
    · rename_i hle
      have hd : (l.drop (2 ^ b)).length = l.length - 2 ^ b := List.length_drop
      by_cases he : l.length = 2 ^ b
      · rw [← he, List.take_length, List.drop_length, peaksB_nil]; rfl
      · rw [bagL_cons nd _ (peaksB_ne nd b (by omega) (by omega)), ih (by omega) (by omega), rootS_high nd (ls := l) (b := b) (by omega) (by omega)]
    · exact ih h0 (by omega)
theorem bagL_length (hnd : ∀ a b, (nd a b).length = 32) {l : List (List UInt8)} (h : All32 l) : (bagL nd l).length = 32 := by
  match l, h with
  | [], _ => exact zero32_length
  | [x], h => exact h x (by simp)
  | x :: y :: q, h => exact hnd _ _
end
end

section
open Go Go.RowKit
end

section
open Go Go.RowKit

set_option maxRecDepth 100000 in
set_option maxHeartbeats 2000000 in
theorem rroot_c : ∀ (n : Nat) (ls : List (List UInt8)) (c : Nat) (a : Option Addr) (w : World), ls.length = n → 1 ≤ n → n ≤ 65536 → All32 ls → n ≤ c → c ≤ 9223372036854775807 → Cells w a (rows ls) →
    Calls Tryd.prog 15 #[.slice a n c] w fun e w' => e = .returned (.agg ((rootS nodeL ls).map u8v).toArray) ∧ Ext w w' := by
  intro n
  induction n using Nat.strongRecOn with
  | ind n ih =>
  intro ls c a w hl h1 h2 h32 hnc hc63 hcl
  have HIH := hid ih
  clear ih
  by_cases hn : n = 1
  · subst hn
    obtain ⟨y, rfl⟩ := List.length_eq_one_iff.1 hl
    obtain ⟨A, rfl, hca⟩ : ∃ A, a = some A ∧ CellsAt w (A.add (0 * 32)) (y.map u8v) := by
      cases a with
      | none => rcases hcl with h | ⟨_, _, h, _⟩
                · have := rows_length h32; rw [h] at this; simp at this
                · cases h
      | some A => exact ⟨A, rfl, hcl.rowAt h32 rfl⟩
    have hy := h32 y (by simp)
    rw [rootS_one]
    have HCA := hid hca
    have HY : Hid ((y.map u8v).length = 32) := hid (by rw [List.length_map, hy])
    have oy := one_u8 y
    clear HIH hcl h32 hl hca hy
    generalize y.map u8v = yv at *
    go_enter Tryd.func15, Tryd.ntmps15
    go_upto_region 1 with (fail)
    generalize hwA : World.alloc w _ = wA
    have zA : Blk wA w.heap.size (List.replicate 32 (.int .u8 0)) 31 := by rw [← hwA]; exact Blk.mk_alloc rfl rfl
    have eA : Ext w wA := by rw [← hwA]; exact (Ext.refl w).alloc _
    clear hwA
    have ZA := hid zA
    have EA := hid eA
    have CA := hid (HCA.out.ext eA)
    clear zA eA
    go_wp2_with (first | (refine wpl_run rfl (exec_index (i := 0) rfl rfl rfl Tryd.underlying22 size_apisum (by omega) wA) ?_) | (refine wpl_run rfl (exec_load_at rfl rfl CA.out agg_apisum HY.out) ?_) | (refine wpl_storew rfl _ _ _ rfl rfl rfl ZA.out agg_apisum (by simp) HY.out oy ?_))
    intro w4 b4 u4
    go_wp2
    refine ret_row rfl rfl b4 agg_apisum HY.out rfl ⟨rfl, u4.ext EA.out (Nat.le_refl _)⟩
  · have hsp := splitN_spec (n := n) (by omega)
    have hc := hid (fun w => half_c n w (by omega) (by omega))
    have hr := rootS_two nodeL (ls := ls) (by omega)
    rw [hl] at hr
    have hl1 : (ls.take (splitN n)).length = splitN n := by rw [List.length_take]; omega
    have hl2 : (ls.drop (splitN n)).length = n - splitN n := by rw [List.length_drop]; omega
    have ha1 := hid (fun w' hc' => HIH.out (splitN n) (by omega) (ls.take (splitN n)) c a w' hl1 (by omega) (by omega) (h32.take _) (by omega) hc63 hc')
    have ha2 := hid (fun w' hc' => HIH.out (n - splitN n) (by omega) (ls.drop (splitN n)) (c - splitN n) (shiftz a c (splitN n) 32) w' hl2 (by omega) (by omega) (h32.drop _) (by omega) (by omega) hc')
    have hq1 := rootS_length nodeL nodeL_length (h32.take (splitN n))
    have hq2 := rootS_length nodeL nodeL_length (h32.drop (splitN n))
    have hk1 := hcl.rowsTake h32 (splitN n)
    have hk2 := hcl.rowsShift h32 c (splitN n) (by omega)
    rw [hr]
    generalize rootS nodeL (ls.take (splitN n)) = p at *
    generalize rootS nodeL (ls.drop (splitN n)) = q at *
    generalize ls.take (splitN n) = l1 at *
    generalize ls.drop (splitN n) = l2 at *
    generalize splitN n = k at *
    obtain ⟨k1, k2, k3⟩ := hsp
    have HK1 := hid hk1
    have HK2 := hid hk2
    have ND := hid (fun w' => rnode_c p q w' hq1 hq2)
    have HV : Hid (((nodeL p q).map u8v).length = 32) := hid (by rw [List.length_map, nodeL_length])
    have ov := one_u8 (nodeL p q)
    have d1 : ((n : Int) == 1) = false := by simp; omega
    have d2 : (n == 1) = false := by simp [hn]
    clear HIH hcl h32 hl hr hl1 hl2 hk1 hk2 hq1 hq2
    go_enter Tryd.func15, Tryd.ntmps15
    go_upto_region 1 with (fail)
    generalize hwA : World.alloc w _ = wA
    have zA : Blk wA w.heap.size (List.replicate 32 (.int .u8 0)) 31 := by rw [← hwA]; exact Blk.mk_alloc rfl rfl
    have eA : Ext w wA := by rw [← hwA]; exact (Ext.refl w).alloc _
    clear hwA
    have ZA := hid zA
    have EA := hid eA
    clear zA eA
    go_wp2_with (go_at_call 24; refine (hc.out _).mono ?_; rintro e w' ⟨rfl, rfl⟩)
    obtain ⟨C, hC⟩ : ∃ C : World → Prop, C = Cls w wA [] [(w.heap.size, 32, 31)] := ⟨_, rfl⟩
    have hC0 : ∀ w', C w' ↔ Cls w wA [] [(w.heap.size, 32, 31)] w' := fun w' => by rw [hC]
    clear hC
    have HCC := hid hC0
    clear hC0
    have hCx : ∀ w w', C w → Ext w w' → C w' := fun w w' h1 h2 => (HCC.out w').2 (((HCC.out w).1 h1).ext h2)
    have hCA : C wA := (HCC.out _).2 (Cls.one_room EA.out (Kept.none _) ZA.out (by simp))
    refine wp_region_held_drew (S := C) (by kernel_rfl) (hCx _ _ hCA (Ext.refl _).drew) (fun hS0 => ?_)
    refine held_take 0 (v := ?tv1) rfl (by kernel_rfl) (by kernel_rfl) (by kernel_rfl) (fun _ _ _ h => h) (.inl ⟨rfl, ?ty1⟩) hS0 ?tr1
    case ty1 => (intro _ _; go_simp; try with_reducible rfl)
    case tr1 =>
    simp only [Act.put, List.setIfInBounds_toArray, List.set_cons_succ, List.set_cons_zero]
    refine held_take 1 (v := ?tv2) rfl (by kernel_rfl) (by kernel_rfl) (by kernel_rfl) (fun _ _ _ h => h) (.inl ⟨rfl, ?ty2⟩) hS0 ?tr2
    case ty2 => (intro _ _; go_simp; try with_reducible rfl)
    case tr2 =>
    simp only [Act.put, List.setIfInBounds_toArray, List.set_cons_succ, List.set_cons_zero]
    refine held_take 2 (v := _) rfl (by kernel_rfl) (by kernel_rfl) (by kernel_rfl) (fun _ _ _ h => h) (yieldsI_run rfl (fun w1 _ => exec_high (k := k) rfl rfl rfl Tryd.underlying22 size_apisum (by omega) w1)) hS0 ?_
    simp only [Act.put, List.setIfInBounds_toArray, List.set_cons_succ, List.set_cons_zero]
    refine held_take 4 (v := ?tv3) rfl (by kernel_rfl) (by kernel_rfl) (by kernel_rfl) (fun _ _ _ h => h) (.inl ⟨rfl, ?ty3⟩) hS0 ?tr3
    case ty3 => (intro _ _; go_simp; try with_reducible rfl)
    case tr3 =>
    simp only [Act.put, List.setIfInBounds_toArray, List.set_cons_succ, List.set_cons_zero]
    refine held_take 5 (v := ?tv4) rfl (by kernel_rfl) (by kernel_rfl) (by kernel_rfl) (fun _ _ _ h => h) (.inl ⟨rfl, ?ty4⟩) hS0 ?tr4
    case ty4 => (intro _ _; go_simp; try with_reducible rfl)
    case tr4 =>
    simp only [Act.put, List.setIfInBounds_toArray, List.set_cons_succ, List.set_cons_zero]
    refine held_take 6 (v := _) rfl (by kernel_rfl) (by kernel_rfl) (by kernel_rfl) (fun _ _ _ h => h) (yieldsI_run rfl (fun w1 _ => exec_low (k := k) rfl rfl rfl Tryd.underlying22 size_apisum (by omega) w1)) hS0 ?_
    simp only [Act.put, List.setIfInBounds_toArray, List.set_cons_succ, List.set_cons_zero]
    generalize wA.drew = wD at *
    refine held_one (i := 3) (by kernel_rfl) rfl ?_
    intro Q' hQ
    go_wp2_with fail
    refine (ha1.out wD (HK1.out.ext ((HCC.out wD).1 hS0).base)).mono ?_
    rintro e wE ⟨rfl, eE⟩
    have hE := hCx _ _ hS0 eE
    go_wp2_with fail
    refine hQ _ _ hE ?_
    clear hQ Q' hS0 eE ha1
    try dsimp only
    try simp only [Act.put, List.setIfInBounds_toArray, List.set_cons_succ, List.set_cons_zero]
    refine held_one (i := 7) (by kernel_rfl) rfl ?_
    intro Q' hQ
    go_wp2_with fail
    refine (ha2.out wE (HK2.out.ext ((HCC.out wE).1 hE).base)).mono ?_
    rintro e wF ⟨rfl, eF⟩
    have hF := hCx _ _ hE eF
    go_wp2_with fail
    refine hQ _ _ hF ?_
    clear hQ Q' hE eF ha2
    try dsimp only
    try simp only [Act.put, List.setIfInBounds_toArray, List.set_cons_succ, List.set_cons_zero]
    refine held_one (i := 8) (by kernel_rfl) rfl ?_
    intro Q' hQ
    go_wp2_with fail
    refine (ND.out wF).mono ?_
    rintro e wG ⟨rfl, eG⟩
    have hG := hCx _ _ hF eG
    go_wp2_with fail
    refine hQ _ _ hG ?_
    clear hQ Q' hF eG ND
    obtain ⟨vz, hvz, zG⟩ := ((HCC.out wG).1 hG).at_room (r := w.heap.size) (n := 32) (T := 31) (by simp)
    have ZG := hid zG
    have HVZ := hid hvz
    have HG := hid hG
    clear zG hvz hG
    try dsimp only
    try simp only [Act.put, List.setIfInBounds_toArray, List.set_cons_succ, List.set_cons_zero]
    refine held_one (i := 9) (by kernel_rfl) rfl ?_
    intro Q' hQ
    go_wp2_with (refine wpl_storew rfl _ _ _ rfl rfl rfl ZG.out agg_apisum HVZ.out HV.out ov ?_)
    intro wH bH uH
    have hH : C wH := (HCC.out wH).2 (((HCC.out wG).1 HG.out).store uH bH (by simp [HV.out]) (Nat.le_refl _) (by simp))
    go_wp2_with fail
    refine hQ _ _ hH ?_
    clear hQ Q'
    have EH := hid ((HCC.out wH).1 hH).base
    refine wpAnyH_done (by kernel_rfl) ?_ _
    go_wp2
    refine ret_row rfl rfl bH agg_apisum HV.out rfl ⟨rfl, EH.out⟩
end

section
open Go Go.RowKit Go.ChangeShapes Go.WideShapes Go.ChangeAt

theorem u8_of {n : Int} (h : (Lit.int .u8 n).wf = true) : ∃ x : UInt8, Value.int .u8 n = u8v x := by
  have hb := bounds_u8 h
  refine ⟨UInt8.ofNat n.toNat, ?_⟩
  unfold u8v
  congr 1
  rw [UInt8.toNat_ofNat']
  omega

theorem u8s_of : ∀ (vs : List Value), (∀ (i : Nat) (v : Value), vs[i]? = some v → ∃ x : UInt8, v = u8v x) → ∃ l : List UInt8, vs = l.map u8v
  | [], _ => ⟨[], rfl⟩
  | v :: vs, h => by
    obtain ⟨x, hx⟩ := h 0 v rfl
    obtain ⟨l, hl⟩ := u8s_of vs fun i u hu => h (i + 1) u (by simpa using hu)
    exact ⟨x :: l, by rw [hx, hl]; rfl⟩

section
variable {H : Type} {enc : TypeId × Value → H} {P : Program} {w : World}
/-- an array of octets -/
theorem open_octets {r : Reach} {b0 base : Nat} {sp : Nat → Bool} {held : Bool} {t e : TypeId} {n : Nat} {v : Value} {d : DataW H} {ps : List MemPlace} (ht : P.underlying t = some (.array n e)) (he : P.underlying e = some (.int .u8)) (hce : P.cellsOf e = 1) (hct : P.cellsOf t = n)
    (hval : Value.okWide P w r b0 t v) (hd : DataW.Trod enc P w base sp held t v d ps) : ∃ l : List UInt8, l.length = n ∧ v = .agg (l.map u8v).toArray := by
  unfold Value.okWide at hval
  rw [ht] at hval
  obtain ⟨cs, rfl, hs, _⟩ := hval
  obtain ⟨fuel, hf⟩ := hd
  obtain ⟨xs, m, _, _, hlen, hxl, hel⟩ := DataW.trod_array ht hf
  have hcl : cs.toList.length = n := by rw [Array.length_toList, hs, hct]
  obtain ⟨l, hl⟩ := u8s_of cs.toList fun i u hu => by
    have hi : i < n := by
      have := (List.getElem?_eq_some_iff.1 hu).1
      omega
    have h1 := hel i hi
    rw [hce, Nat.mul_one] at h1
    have hx : xs[i]? = some xs[i] := by simp
    have h2 : (cs.toList.drop i).take 1 = [u] := by
      have h3 := List.getElem?_drop (xs := cs.toList) (i := i) (j := 0)
      rw [Nat.add_zero, hu] at h3
      cases hd : cs.toList.drop i with
      | nil => rw [hd] at h3; simp at h3
      | cons y r => rw [hd] at h3; simp at h3; simp [h3]
    have h4 : DataW.trod enc P w base sp held m e [u] = some xs[i] := by
      rw [← h2, ← hx]; exact h1
    obtain ⟨k, hk, _, hw⟩ := DataW.trod_int he h4
    have hu' : u = .int .u8 k := by simpa using hk
    rw [hu']; exact u8_of hw
  refine ⟨l, ?_, ?_⟩
  · have := congrArg List.length hl
    rw [hcl, List.length_map] at this; exact this.symm
  · rw [← hl]
end
end

section
open Go Go.RowKit Go.ChangeShapes Go.WideShapes Go.ChangeAt

section
variable {H : Type} {enc : TypeId × Value → H} {P : Program} {w : World}
/-- a slice of octets, read whole -/
theorem open_bytes {r : Reach} {b0 base : Nat} {held : Bool} {t e : TypeId} {v : Value} {d : DataW H} {ps : List MemPlace} (ht : P.underlying t = some (.slice e)) (he : P.underlying e = some (.int .u8)) (hce : P.cellsOf e = 1)
    (hval : Value.okWide P w r b0 t v) (hd : DataW.Trod enc P w base (fun _ => true) held t v d ps) :
    ∃ (a : Option Addr) (n c : Nat) (l : List UInt8) (es sp : List (DataW H)), v = .slice a n c ∧ l.length = n ∧ n ≤ c ∧ (a = none → c = 0) ∧ Cells w a (l.map u8v) ∧ ((d = .nil ∧ c = 0) ∨ (d = .slice es sp ∧ es.length + sp.length = c)) := by
  obtain ⟨a, n, c, rfl⟩ := okWide_slice ht hval
  obtain ⟨fuel, hf⟩ := hd
  rcases open_ints ht he hce hf with ⟨hcs, hx⟩ | ⟨ad, len, cap, zs, hcs, _, hle, hmax, hlen, hx, hcell, hwf⟩
  · simp [Value.cells] at hcs
    obtain ⟨rfl, rfl, rfl⟩ := hcs
    simp only [Prod.mk.injEq] at hx
    exact ⟨none, 0, 0, [], [], [], rfl, rfl, Nat.le_refl _, fun _ => rfl, .inl rfl, .inl ⟨hx.1, rfl⟩⟩
  · simp [Value.cells] at hcs
    obtain ⟨rfl, rfl, rfl⟩ := hcs
    simp only [Prod.mk.injEq] at hx
    simp only [if_true] at hlen
    obtain ⟨l, hl⟩ := u8s_of ((zs.take n).map (Value.int .u8)) fun i u hu => by
      have hm := List.mem_of_getElem? hu
      obtain ⟨z, hz, rfl⟩ := List.mem_map.1 hm
      exact u8_of (hwf z (List.mem_of_mem_take hz))
    have hll : l.length = n := by
      have := congrArg List.length hl
      simp only [List.length_map, List.length_take] at this
      omega
    refine ⟨some ad, n, c, l, lits .u8 (zs.take n), lits .u8 (zs.drop n), rfl, hll, hle, (fun h => by cases h), ?_, .inr ⟨hx.1, ?_⟩⟩
    · by_cases hn : n = 0
      · left
        have : l = [] := List.length_eq_zero_iff.1 (by omega)
        rw [this]; rfl
      · obtain ⟨b, off, rfl, hat⟩ := ints_at hcell (by omega)
        refine .inr ⟨b, off, rfl, fun i u hu => ?_⟩
        rw [← hl] at hu
        have hi : i < n := by
          have := (List.getElem?_eq_some_iff.1 hu).1
          simp at this; omega
        rw [hat i (by omega)]
        rw [List.getElem?_map, List.getElem?_take_of_lt hi] at hu
        rw [List.getD_eq_getElem?_getD]
        cases hz : zs[i]? with
        | none => rw [hz] at hu; simp at hu
        | some z => rw [hz] at hu; simpa using hu
    · simp [lits]; omega
end
end

section
open Go Go.RowKit Go.ChangeShapes Go.WideShapes Go.ChangeAt Go.Deep

theorem mem_weights {H : Type} {P : Program} {e : TypeId} : ∀ {ds : List (DataW H)} {d : DataW H}, d ∈ ds → ∀ n ∈ d.weights P e, n ∈ DataW.weightsAll P e ds
  | d0 :: ds, d, hd, n, hn => by
    simp only [DataW.weightsAll, List.mem_append]
    rcases List.mem_cons.1 hd with rfl | hd
    · exact .inl hn
    · exact .inr (mem_weights hd n hn)
  | [], _, hd, _, _ => by simp at hd

section
variable {H : Type} {enc : TypeId × Value → H} {P : Program} {w : World}
theorem open_bytess {r : Reach} {b0 base : Nat} {held : Bool} {t e q : TypeId} {v : Value} {d : DataW H} {ps : List MemPlace} {ts : List TypeId} {ds : List (DataW H)} {j : Nat}
    (hsz : (DataW.weightsEach P ts ds).all (· ≤ reachBytes) = true) (ht : P.underlying t = some (.slice e)) (he : P.underlying e = some (.slice q)) (hq : P.underlying q = some (.int .u8)) (ce : P.cellsOf e = 1) (cq : P.cellsOf q = 1) (hbe : P.bytesOf e = 24) (hbq : P.bytesOf q = 1)
    (hval : Value.okWide P w r b0 t v) (hd : DataW.Trod enc P w base (fun _ => true) held t v d ps) (htj : ts[j]? = some t) (hdj : ds[j]? = some d) :
    ∃ (a : Option Addr) (n c : Nat) (its : List Item), v = .slice a n c ∧ its.length = n ∧ n ≤ c ∧ c ≤ 140737488351232 ∧ (a = none → c = 0) ∧ Cells w a (its.map itemV) ∧
      ∀ it ∈ its, Cells w it.1 (it.2.2.map u8v) ∧ (it.1 = none → it.2.1 = 0) ∧ it.2.2.length ≤ it.2.1 ∧ it.2.1 ≤ 140737488351232 := by
  have hw := fun n hn => List.all_eq_true.1 hsz n (DataW.weights_mem_each htj hdj n hn)
  obtain ⟨a, n, c, rfl⟩ := okWide_slice ht hval
  obtain ⟨fuel, hf⟩ := hd
  rcases open_int_rows ht he hq ce cq hf with ⟨hcs, hx⟩ | ⟨ad, len, cap, A, L, C, Z, hcs, _, hle, hmax, hx, hrow⟩
  · simp [Value.cells] at hcs
    obtain ⟨rfl, rfl, rfl⟩ := hcs
    exact ⟨none, 0, 0, [], rfl, rfl, Nat.le_refl _, Nat.zero_le _, fun _ => rfl, .inl rfl, by simp⟩
  · simp [Value.cells] at hcs
    obtain ⟨rfl, rfl, rfl⟩ := hcs
    simp only [Prod.mk.injEq] at hx
    obtain ⟨rfl, _⟩ := hx
    have hcap : c ≤ 140737488351232 := by
      have := hw ((n + (c - n)) * P.bytesOf e) (by simp [DataW.weights, ht])
      simp only [decide_eq_true_eq] at this
      rw [hbe] at this
      have h2 : reachBytes = 140737488351232 := by decide
      omega
    have hbnd : ∀ i, i < n → C i ≤ 140737488351232 := by
      intro i hi
      obtain ⟨_, hlc, _, hzl, _, hn0, _⟩ := hrow i (by omega)
      cases hA : A i with
      | none => have := hn0 hA; omega
      | some a' =>
        have hmem : intRow (H := H) .u8 (A i) (L i) (Z i) ∈ (List.range n).map fun r => intRow (H := H) .u8 (A r) (L r) (Z r) := List.mem_map.2 ⟨i, List.mem_range.2 hi, rfl⟩
        have h3 : C i * P.bytesOf q ∈ (intRow (H := H) .u8 (A i) (L i) (Z i)).weights P e := by
          unfold intRow
          rw [hA]
          simp only [DataW.weights, he, List.mem_cons]
          left
          congr 1
          simp [lits, hzl]; omega
        have h4 := hw (C i * P.bytesOf q) (by
          simp only [DataW.weights, ht, List.mem_cons, List.mem_append]
          exact .inr (.inl (mem_weights hmem _ h3)))
        simp only [decide_eq_true_eq] at h4
        rw [hbq] at h4
        have h2 : reachBytes = 140737488351232 := by decide
        omega
    have hits : ∀ i, i < n → ∃ it : Item, itemV it = .slice (A i) (L i) (C i) ∧ Cells w it.1 (it.2.2.map u8v) ∧ (it.1 = none → it.2.1 = 0) ∧ it.2.2.length ≤ it.2.1 ∧ it.2.1 ≤ 140737488351232 := by
      intro i hi
      obtain ⟨_, hlc, _, hzl, hwf, hn0, hcell⟩ := hrow i (by omega)
      obtain ⟨l, hl⟩ := u8s_of (((Z i).take (L i)).map (Value.int .u8)) fun k u hu => by
        have hm := List.mem_of_getElem? hu
        obtain ⟨z, hz, rfl⟩ := List.mem_map.1 hm
        exact u8_of (hwf z (List.mem_of_mem_take hz))
      have hll : l.length = L i := by
        have := congrArg List.length hl
        simp only [List.length_map, List.length_take] at this
        omega
      refine ⟨(A i, C i, l), by rw [itemV, hll], ?_, hn0, by simp only; omega, hbnd i hi⟩
      simp only
      by_cases h0 : L i = 0
      · left
        have : l = [] := List.length_eq_zero_iff.1 (by omega)
        rw [this]; rfl
      · cases hA : A i with
        | none => have := hn0 hA; omega
        | some a' =>
          obtain ⟨b, off, rfl, hat⟩ := ints_at (zs := Z i) (fun c hc => (hcell a' hA).2 c (by omega)) (by omega)
          refine .inr ⟨b, off, rfl, fun k u hu => ?_⟩
          rw [← hl] at hu
          have hk : k < L i := by
            have := (List.getElem?_eq_some_iff.1 hu).1
            simp at this; omega
          rw [hat k (by omega)]
          rw [List.getElem?_map, List.getElem?_take_of_lt hk] at hu
          rw [List.getD_eq_getElem?_getD]
          cases hz : (Z i)[k]? with
          | none => rw [hz] at hu; simp at hu
          | some z => rw [hz] at hu; simpa using hu
    obtain ⟨f, hfi⟩ := choose_lt hits
    refine ⟨some ad, n, c, (List.range n).map f, rfl, by simp, hle, hcap, (fun h => by cases h), ?_, ?_⟩
    · by_cases h0 : n = 0
      · left; subst h0; rfl
      · have hc0 := (hrow 0 (by omega)).1
        obtain ⟨b, off, spot⟩ := ad
        have hspot : spot = none := by simpa [Addr.add] using World.cell?_spot hc0
        subst hspot
        refine .inr ⟨b, off, rfl, fun i u hu => ?_⟩
        have hi : i < n := by
          have := (List.getElem?_eq_some_iff.1 hu).1
          simpa using this
        rw [List.getElem?_map, List.getElem?_map, List.getElem?_range hi] at hu
        simp only [Option.map_some, Option.some.injEq] at hu
        rw [← hu, (hfi i hi).1]
        have h9 := (hrow i (by omega)).1
        have hadd : (⟨b, off, none⟩ : Addr).add i = ⟨b, off + i, none⟩ := by unfold Addr.add; split <;> simp_all
        rw [hadd] at h9
        exact h9
    · intro it hit
      obtain ⟨i, hi, rfl⟩ := List.mem_map.1 hit
      exact (hfi i (List.mem_range.1 hi)).2
end
end

section
open Go Go.RowKit

def leafL (t : List UInt8) : List UInt8 := sumL 1 (t.take 3000)
theorem leafL_length (t : List UInt8) : (leafL t).length = 32 := sumL_length _ _

theorem min_cast (n k : Nat) : min (n : Int) (k : Int) = ((min n k : Nat) : Int) := by omega

set_option maxHeartbeats 400000 in
theorem short_c (a : Option Addr) (n c : Nat) (w : World) (hnc : n ≤ c) :
    Calls Tryd.prog 23 #[.slice a n c] w fun e w' => e = .returned (.slice a (min n 3000) c) ∧ w = w' := by
  have hm : min (n : Int) 3000 = ((min n 3000 : Nat) : Int) := by omega
  have hc : min n 3000 ≤ c := by omega
  go_enter Tryd.func23, Tryd.ntmps23
  go_wp2_with fail
  go_ret
  exact ⟨rfl, rfl⟩

set_option maxRecDepth 100000 in
set_option maxHeartbeats 400000 in
theorem rleaf_c (t : List UInt8) (a : Option Addr) (n c : Nat) (w : World) (ht : t.length = n) (hn : n ≤ 3000) (hcl : Cells w a (t.map u8v)) :
    Calls Tryd.prog 22 #[.slice a n c] w fun e w' => e = .returned (.agg ((sumL 1 t).map u8v).toArray) ∧ Ext w w' := by
  have hs := hid (fun w' h => rsum_c 1 t n c a w' (by omega) (by omega) ht (by omega) h)
  have HV : Hid (((sumL 1 t).map u8v).length = 32) := hid (by rw [List.length_map, sumL_length])
  have ov := one_u8 (sumL 1 t)
  have HC := hid hcl
  clear ht hcl
  generalize (sumL 1 t).map u8v = sv at *
  go_enter Tryd.func22, Tryd.ntmps22
  go_upto_region 1 with (fail)
  generalize hwA : World.alloc w _ = wA
  have zA : Blk wA w.heap.size (List.replicate 32 (.int .u8 0)) 31 := by rw [← hwA]; exact Blk.mk_alloc rfl rfl
  have eA : Ext w wA := by rw [← hwA]; exact (Ext.refl w).alloc _
  clear hwA
  go_wp2_with fail
  refine (hs.out wA (HC.out.ext eA)).mono ?_
  rintro e w1 ⟨rfl, e1⟩
  have Z1 := hid (zA.ext e1)
  have E1 := hid (eA.ext e1)
  clear zA eA e1
  go_wp2_with (refine wpl_storew rfl _ _ _ rfl rfl rfl Z1.out agg_apisum (by simp) HV.out ov ?_)
  intro w4 b4 u4
  go_wp2
  refine ret_row rfl rfl b4 agg_apisum HV.out rfl ⟨rfl, u4.ext E1.out (Nat.le_refl _)⟩

theorem info_sum : (Tryd.prog.info? 31).map (fun i => (i.zero, i.size, i.bytes)) = some (some (.agg (List.replicate 32 (.int .u8 0)).toArray), 32, 32) := by kernel_rfl
theorem zsum_size : (Value.agg (List.replicate 32 (.int .u8 0)).toArray).cells.size = 32 := by simp [Value.cells]

/-- append one row onto a row of one's own -/
theorem wpl_append_row {ops : Array Oper} {rest : List Oper} {o : Oper} {a : Act} {w : World} {Q : Exit → Act → World → Prop} (hgd : o.guard = none) (s x : Operand)
    (ho : o.op = .call { callee := .builtin .append, args := #[s, x], argTypes := #[22, 22] }) (base : Nat) {v : Value} {n c g : Nat} {ls : List (List UInt8)} {y : List UInt8} {T : TypeId}
    (hs : a.eval s = v) (hx : a.eval x = .slice (some ⟨g, 0, none⟩) 1 c) (hown : w.ownsRow base 31 32 v n (rows ls)) (hy : y.length = 32) (hb : Blk w g (y.map u8v) T)
    (hn : (n + 1) * 32 ≤ 140737488355328) (hbase : base ≤ w.heap.size)
    (h : ∀ v' w', w'.ownsRow base 31 32 v' (n + 1) (rows (ls ++ [y])) → w.grownBy w' v.ownBlock → wpList Tryd.prog ops Q rest (a.put o.dst v') w') : wpList Tryd.prog ops Q (o :: rest) a w := by
  obtain ⟨i0, hi, hz, hsz, hb1⟩ := info_parts info_sum
  exact wpList_append_own w hgd s x 22 ho base 31 i0 _ 32 32 Tryd.underlying22 hi hz hsz hb1 zsum_size (by decide) v n (rows ls) hs hown ⟨g, 0, none⟩ 1 c (y.map u8v) hx
    (by rw [List.length_map, hy]) (news_blk hb) (one_u8 _) (by unfold maxLen; omega) hn hbase (fun v' w' h1 h2 _ => h v' w' (by rw [rows_append, rows_one]; exact h1) h2)

theorem fill_row (y : List UInt8) (hy : y.length = 32) (cells : Array Value) (hc : cells.size = 32) : Instr.fill (fun i => some (i * 32, 32)) cells [(0, .agg (y.map u8v).toArray)] = some (y.map u8v).toArray := by
  have h := Great.fill_whole (s := 32) (by omega) [.agg (y.map u8v).toArray] cells (by intro v hv; rw [List.mem_singleton.1 hv]; simp [Value.cells, hy]) (by simp [hc])
  simpa [Value.cells] using h
theorem exec_buildRow {P : Program} {o : Oper} {a : Act} {t e : TypeId} {x : Operand} {y : List UInt8} (ho : o.op = .buildSlice t 1 #[(0, x)]) (hx : a.eval x = .agg (y.map u8v).toArray) (hy : y.length = 32) (hu : P.underlying t = some (.slice e))
    {ie : TypeInfo} {z : Value} (hie : P.info? e = some ie) (hz : ie.zero = some z) (hsz : ie.size = 32) (hzs : z.cells.size = 32) (w : World) :
    (execOp a.eval o).run P w = .ok (.value (.slice (some ⟨w.heap.size, 0, none⟩) 1 1)) (w.alloc (.cells (y.map u8v).toArray e)) := by
  have h := run_buildSlice (P := P) w t e 1 #[(0, .agg (y.map u8v).toArray)] (y.map u8v).toArray ie z hu hie hz (by rw [hsz]; omega) (by rw [hsz]; omega) (by rw [hsz]; exact fill_row y hy _ (by simp))
  have he : (#[(0, x)].map fun (p : Nat × Operand) => (p.1, a.eval p.2)) = #[(0, .agg (y.map u8v).toArray)] := by simp [hx]
  unfold execOp
  simp only [ho, Sem.run_bind]
  have h2 : (Instr.buildSlice t 1 (#[(0, x)].map fun (p : Nat × Operand) => (p.1, a.eval p.2))).run P w = .ok (.slice (some ⟨w.heap.size, 0, none⟩) 1 1) (w.alloc (.cells (y.map u8v).toArray e)) := by rw [he]; exact h
  rw [h2]
  rfl
theorem wpl_step {P : Program} {ops : Array Oper} {rest : List Oper} {o : Oper} {a : Act} {w w' : World} {Q : Exit → Act → World → Prop} {v : Value} (hgd : o.guard = none) (hr : (execOp a.eval o).run P w = .ok (.value v) w') (h : wpList P ops Q rest (a.put o.dst v) w') : wpList P ops Q (o :: rest) a w :=
  wpList_plain hgd fun K hK => by
    unfold Oper.wp
    rw [hr, Oper.upon_value]
    exact hK _ _ h
theorem wpl_buildRow {ops : Array Oper} {rest : List Oper} {o : Oper} {a : Act} {w : World} {Q : Exit → Act → World → Prop} (hgd : o.guard = none) {x : Operand} {y : List UInt8} (ho : o.op = .buildSlice 22 1 #[(0, x)]) (hx : a.eval x = .agg (y.map u8v).toArray) (hy : y.length = 32)
    (h : wpList Tryd.prog ops Q rest (a.put o.dst (.slice (some ⟨w.heap.size, 0, none⟩) 1 1)) (w.alloc (.cells (y.map u8v).toArray 31))) : wpList Tryd.prog ops Q (o :: rest) a w := by
  obtain ⟨i0, hi, hz, hsz, hb1⟩ := info_parts info_sum
  exact wpl_step hgd (exec_buildRow ho hx hy Tryd.underlying22 hi hz hsz zsum_size w) h
end

section
open Go Go.RowKit

def leavesL (its : List Item) : List (List UInt8) := (its.take 40).map fun it => leafL it.2.2
theorem leavesL_length (its : List Item) : (leavesL its).length = min its.length 40 := by simp [leavesL]; omega
theorem leavesL_32 (its : List Item) : All32 (leavesL its) := fun l hl => by
  obtain ⟨it, _, rfl⟩ := List.mem_map.1 hl
  exact leafL_length _

set_option maxRecDepth 100000 in
set_option maxHeartbeats 1000000 in
theorem leaves_c (its : List Item) (a : Option Addr) (n c : Nat) (w : World) (hl : its.length = n) (hnc : n ≤ c) (hcl : Cells w a (its.map itemV))
    (hits : ∀ it ∈ its, Cells w it.1 (it.2.2.map u8v) ∧ (it.1 = none → it.2.1 = 0) ∧ it.2.2.length ≤ it.2.1 ∧ it.2.1 ≤ 140737488351232) :
    Calls Tryd.prog 11 #[.slice a n c] w fun e w' => ∃ v, e = .returned v ∧ w'.ownsRow w.heap.size 31 32 v (min n 40) (rows (leavesL its)) ∧ Ext w w' := by
  have hm : min (n : Int) 40 = ((min n 40 : Nat) : Int) := by omega
  have hc : min n 40 ≤ c := by omega
  have HL := hid hl
  have HC := hid hcl
  have HI := hid hits
  clear hl hcl hits
  generalize hM : min n 40 = M at *
  have HM := hid hM
  have hMn : M ≤ n := by omega
  have hM40 : M ≤ 40 := by omega
  clear hM
  go_enter Tryd.func11, Tryd.ntmps11
  go_wp2
  go_loopw [3, 12] (fun v i wr => ∃ k : Nat, k ≤ M ∧ i = .int .i64 (k : Int) ∧ wr.ownsRow w.heap.size 31 32 v k (rows (leavesL (its.take k))) ∧ Ext w wr) (fun _ i _ => M - (intOf i).toNat)
  case atStart => exact ⟨0, by omega, rfl, World.ownsRow_nil _ _ _ _, Ext.refl w⟩
  case round =>
    obtain ⟨k, hk, rfl, own, e1⟩ := hrel
    have O1 := hid own
    have E1 := hid e1
    have hb1 := e1.size
    clear own e1
    by_cases hlt : k < M
    · obtain ⟨it, hit⟩ : ∃ it, its[k]? = some it := ⟨its[k]'(by rw [HL.out]; omega), by simp⟩
      obtain ⟨b, off, rfl, hcell⟩ := (HC.out.ext E1.out).some_of (by rw [List.length_map, HL.out]; omega)
      have hck := hcell k (itemV it) (by rw [List.getElem?_map, hit]; rfl)
      obtain ⟨hci, h0, hle, hcap⟩ := HI.out it (List.mem_of_getElem? hit)
      have hnext : leavesL (its.take (k + 1)) = leavesL (its.take k) ++ [leafL it.2.2] := by
        unfold leavesL
        rw [List.take_take, List.take_take, Nat.min_eq_right (by omega), Nat.min_eq_right (by omega), List.take_add_one, hit]
        simp
      obtain ⟨x, ci, t⟩ := it
      simp only at hci h0 hle hcap hnext
      unfold itemV at hck
      simp only at hck
      obtain ⟨q, hq⟩ : ∃ q, t.length = q := ⟨_, rfl⟩
      rw [hq] at hck hle
      have hs := hid (fun w' => short_c x q ci w' hle)
      have htl : (t.take 3000).length = min q 3000 := by rw [List.length_take, hq]; omega
      have hlf := hid (fun w' h => rleaf_c (t.take 3000) x (min q 3000) ci w' htl (by omega) h)
      rw [show sumL 1 (t.take 3000) = leafL t from rfl] at hlf
      have HY := hid (leafL_length t)
      have HYV : Hid (((leafL t).map u8v).length = 32) := hid (by rw [List.length_map, leafL_length])
      have oy := one_u8 (leafL t)
      have HN := hid hnext
      have hct : Cells w x ((t.take 3000).map u8v) := by rw [List.map_take]; exact hci.take _
      have HCT := hid hct
      clear hnext hct hci htl hq hle hcap h0 hcell hit
      generalize leafL t = y at *
      generalize min q 3000 = q3 at *
      go_wp2_with (first | (go_at_call 23; refine (hs.out _).mono ?_; rintro e w' ⟨rfl, rfl⟩))
      refine (hlf.out wr (HCT.out.ext E1.out)).mono ?_
      rintro e w2 ⟨rfl, e2⟩
      have zB : Blk (w2.alloc (.cells (y.map u8v).toArray 31)) w2.heap.size (y.map u8v) 31 := Blk.mk_alloc rfl rfl
      have e3 : Ext wr (w2.alloc (.cells (y.map u8v).toArray 31)) := e2.alloc _
      have O3 := hid (ownsRow_ext O1.out e3)
      have E3 := hid (E1.out.ext e3)
      have ZB := hid zB
      have hb3 : w.heap.size ≤ (w2.alloc (.cells (y.map u8v).toArray 31)).heap.size := E3.out.size
      clear e2 e3 zB O1 E1 hck hlf hs
      go_wp2_with (first | (refine wpl_buildRow rfl rfl rfl HY.out ?_) | (at_builtin; refine wpl_append_row rfl _ _ rfl w.heap.size rfl rfl O3.out HY.out ZB.out (by omega) hb3 ?_))
      intro v4 w4 own4 g4
      have hv4 := own_block_ge O3.out
      have E4 := hid (E3.out.grown g4 (by intro q hq; exact hv4 _ hq))
      have O4 := hid own4
      clear own4 g4 hv4 O3 E3 ZB
      go_wp2
      go_roundw
      case rel => exact ⟨k + 1, by omega, by go_num, by rw [HN.out]; exact O4.out, E4.out⟩
      case measure => simp [intOf]; omega
    · obtain rfl : k = M := by omega
      have hfin : leavesL (its.take k) = leavesL its := by
        unfold leavesL
        rw [List.take_take, ← HM.out, HL.out.symm]
        congr 1
        rcases Nat.le_total its.length 40 with h | h
        · rw [Nat.min_eq_left h, Nat.min_eq_right h, List.take_of_length_le (Nat.le_refl _), List.take_of_length_le h]
        · rw [Nat.min_eq_right h, Nat.min_self]
      have own := O1.out
      rw [hfin] at own
      have O2 := hid own
      clear own O1 hfin
      go_wp2
      go_ret
      exact ⟨_, rfl, O2.out, E1.out⟩
end

section
open Go Go.RowKit

def rootV (ls : List (List UInt8)) : List UInt8 × Int := if ls.length = 0 then (zero32, 10) else (rootS nodeL ls, 0)
end

section
open Go Go.RowKit

theorem exec_cmp {P : Program} {o : Oper} {a : Act} {op : BinOp} {t u : TypeId} {x y : Operand} (ho : o.op = .binOp op t x y u) {xs ys : Array Value} {b : Value} (hx : a.eval x = .agg xs) (hy : a.eval y = .agg ys)
    (hg : P.eqGuardType P.depth t = false) (hr : ∀ w, (binOp op t (.agg xs) (.agg ys)).run P w = .ok b w) (w : World) : (execOp a.eval o).run P w = .ok (.value b) w := by
  unfold execOp
  simp only [ho, hx, hy, Sem.run_bind, run_eqGuard_agg w op t x y xs ys hg, Result.andThen_ok, hr, Sem.run_pure]
end

section
open Go Go.RowKit

def printE (I Z : Int) (m : Nat) : Int := if I < 0 ∨ 65536 < I ∨ Z < 0 ∨ 65536 < Z then 4 else if 64 < m then 5 else 0
def printL (I Z : Int) (ls : List (List UInt8)) : List UInt8 := longL (UInt64.ofNat I.toNat) ++ longL (UInt64.ofNat Z.toNat) ++ octL (UInt32.ofNat ls.length) ++ ls.flatten
theorem octL_length (x : UInt32) : (octL x).length = 4 := rfl
theorem printL_length (I Z : Int) {ls : List (List UInt8)} (h : All32 ls) : (printL I Z ls).length = 20 + 32 * ls.length := by
  unfold printL
  rw [List.length_append, List.length_append, List.length_append, longL_length, longL_length, octL_length, flat_length h]

def printPost (I Z : Int) (ls : List (List UInt8)) (w : World) (e : Ending) (w' : World) : Prop :=
  ∃ v, e = .returned (.tuple #[v, .int .i64 (printE I Z ls.length)]) ∧ (if printE I Z ls.length = 0 then w'.ownsRow w.heap.size 5 1 v (20 + 32 * ls.length) ((printL I Z ls).map u8v) else v = .slice none 0 0) ∧ Ext w w'
end

section
open Go Go.RowKit

theorem own_of_blk {w : World} {g : Nat} {l : List UInt8} {n base : Nat} (hb : Blk w g (l.map u8v) 5) (hn : l.length = n) (hg : base ≤ g) (hm : n ≤ 9223372036854775807) : w.ownsRow base 5 1 (.slice (some ⟨g, 0, none⟩) n n) n (l.map u8v) := by
  refine ⟨by simp [hn], .inr ⟨g, n, (l.map u8v).toArray, rfl, hg, hb, Nat.le_refl _, by unfold maxLen; omega, by simp [hn], ?_⟩⟩
  rw [List.take_of_length_le (by simp [hn])]
end

section
open Go Go.RowKit

theorem list_eq_step {α : Type} [BEq α] [LawfulBEq α] {xs ys : List α} {k : Nat} {x y : α} (hx : xs[k]? = some x) (hy : ys[k]? = some y) (h : xs.take k = ys.take k) : (x = y → xs.take (k + 1) = ys.take (k + 1)) ∧ (x ≠ y → (xs == ys) = false) := by
  refine ⟨fun e => ?_, fun e => ?_⟩
  · rw [List.take_add_one, List.take_add_one, hx, hy, h, e]
  · rw [beq_eq_false_iff_ne]
    intro he
    rw [he, hy] at hx
    exact e (Option.some.inj hx).symm

set_option maxRecDepth 100000 in
set_option maxHeartbeats 1000000 in
theorem equalS_c (xs ys : List (List UInt8)) (a b : Option Addr) (n m c d : Nat) (w : World) (hn : xs.length = n) (hm : ys.length = m) (hb63 : n ≤ 4611686018427387904) (h1 : All32 xs) (h2 : All32 ys) (hx : Cells w a (rows xs)) (hy : Cells w b (rows ys)) :
    Calls Tryd.prog 8 #[.slice a n c, .slice b m d] w fun e w' => e = .returned (.bool (xs == ys)) ∧ Ext w w' := by
  have HN := hid hn
  have HM := hid hm
  have H1 := hid h1
  have H2 := hid h2
  have HX := hid hx
  have HY := hid hy
  clear hn hm h1 h2 hx hy
  by_cases hnm : n = m
  · subst hnm
    have g1 : ((n : Int) != (n : Int)) = false := by simp
    have g2 : (n != n) = false := by simp
    go_enter Tryd.func8, Tryd.ntmps8
    go_wp2
    go_loopw [13] (fun i wr => ∃ k : Nat, k ≤ n ∧ i = .int .i64 (k : Int) ∧ xs.take k = ys.take k ∧ Ext w wr) (fun i _ => n - (intOf i).toNat)
    case atStart => exact ⟨0, by omega, rfl, by simp, Ext.refl _⟩
    case round =>
      obtain ⟨k, hk, rfl, hpre, e1⟩ := hrel
      have E1 := hid e1
      have HP := hid hpre
      clear e1 hpre
      by_cases hlt : k < n
      · obtain ⟨x, hxk⟩ : ∃ x, xs[k]? = some x := ⟨xs[k]'(by rw [HN.out]; exact hlt), by simp⟩
        obtain ⟨y, hyk⟩ : ∃ y, ys[k]? = some y := ⟨ys[k]'(by rw [HM.out]; exact hlt), by simp⟩
        have hst := list_eq_step hxk hyk HP.out
        have hx0 := H1.out.at hxk
        have hy0 := H2.out.at hyk
        obtain ⟨A, rfl, hca⟩ : ∃ A, a = some A ∧ CellsAt w (A.add (k * 32)) (x.map u8v) := by
          cases a with
          | none => rcases HX.out with h | ⟨_, _, h, _⟩
                    · have := rows_length H1.out; rw [h, HN.out] at this; simp at this; omega
                    · cases h
          | some A => exact ⟨A, rfl, HX.out.rowAt H1.out hxk⟩
        obtain ⟨B, rfl, hcb⟩ : ∃ B, b = some B ∧ CellsAt w (B.add (k * 32)) (y.map u8v) := by
          cases b with
          | none => rcases HY.out with h | ⟨_, _, h, _⟩
                    · have := rows_length H2.out; rw [h, HM.out] at this; simp at this; omega
                    · cases h
          | some B => exact ⟨B, rfl, HY.out.rowAt H2.out hyk⟩
        have HCA := hid hca
        have HCB := hid hcb
        have HXV : Hid ((x.map u8v).length = 32) := hid (by rw [List.length_map, hx0])
        have HYV : Hid ((y.map u8v).length = 32) := hid (by rw [List.length_map, hy0])
        have hne := neq_arr Tryd.underlying31 x y hx0 hy0
        have HST := hid hst
        clear hca hcb hx0 hy0 hxk hyk hst
        cases hxy : (x == y) with
        | true =>
          rw [hxy] at hne
          have HNE := hid hne
          have HXY := hid (HST.out.1 (eq_of_beq hxy))
          clear hne hxy HST
          go_wp2
          obtain ⟨C, hC⟩ : ∃ C : World → Prop, C = Cls w wr [] [] := ⟨_, rfl⟩
          have hC0 : ∀ w', C w' ↔ Cls w wr [] [] w' := fun w' => by rw [hC]
          clear hC
          have HCC := hid hC0
          clear hC0
          have hCx : ∀ w w', C w → Ext w w' → C w' := fun w w' h1 h2 => (HCC.out w').2 (((HCC.out w).1 h1).ext h2)
          have hCA : C wr := (HCC.out _).2 (Cls.no_room E1.out (Kept.none _))
          have hca : ∀ w1, C w1 → CellsAt w1 (A.add (k * 32)) (x.map u8v) := fun w1 h1 => HCA.out.ext ((HCC.out w1).1 h1).base
          have hcb : ∀ w1, C w1 → CellsAt w1 (B.add (k * 32)) (y.map u8v) := fun w1 h1 => HCB.out.ext ((HCC.out w1).1 h1).base
          refine wp_region_held_drew (S := C) (by kernel_rfl) (hCx _ _ hCA (Ext.refl _).drew) (fun hS0 => ?_)
          refine held_take 0 (v := ?tv1) rfl (by kernel_rfl) (by kernel_rfl) (by kernel_rfl) (fun _ _ _ h => h) (.inl ⟨rfl, ?ty1⟩) hS0 ?tr1
          case ty1 => (intro _ _; go_simp; try with_reducible rfl)
          case tr1 =>
          simp only [Act.put, List.setIfInBounds_toArray, List.set_cons_succ, List.set_cons_zero]
          refine held_take 1 (v := ?tv2) rfl (by kernel_rfl) (by kernel_rfl) (by kernel_rfl) (fun _ _ _ h => h) (.inl ⟨rfl, ?ty2⟩) hS0 ?tr2
          case ty2 => (intro _ _; go_simp; try with_reducible rfl)
          case tr2 =>
          simp only [Act.put, List.setIfInBounds_toArray, List.set_cons_succ, List.set_cons_zero]
          refine held_take 2 (v := _) rfl (by kernel_rfl) (by kernel_rfl) (by kernel_rfl) (fun _ _ _ h => h) (yieldsI_run rfl (fun w1 _ => exec_index (i := k) rfl rfl rfl Tryd.underlying22 size_apisum hlt w1)) hS0 ?_
          simp only [Act.put, List.setIfInBounds_toArray, List.set_cons_succ, List.set_cons_zero]
          refine held_take 3 (v := _) rfl (by kernel_rfl) (by kernel_rfl) (by kernel_rfl) (fun _ _ _ h => h) (yieldsI_run rfl (fun w1 h => exec_load_at rfl rfl (hca w1 h) agg_apisum HXV.out)) hS0 ?_
          simp only [Act.put, List.setIfInBounds_toArray, List.set_cons_succ, List.set_cons_zero]
          refine held_take 4 (v := ?tv3) rfl (by kernel_rfl) (by kernel_rfl) (by kernel_rfl) (fun _ _ _ h => h) (.inl ⟨rfl, ?ty3⟩) hS0 ?tr3
          case ty3 => (intro _ _; go_simp; try with_reducible rfl)
          case tr3 =>
          simp only [Act.put, List.setIfInBounds_toArray, List.set_cons_succ, List.set_cons_zero]
          refine held_take 5 (v := ?tv4) rfl (by kernel_rfl) (by kernel_rfl) (by kernel_rfl) (fun _ _ _ h => h) (.inl ⟨rfl, ?ty4⟩) hS0 ?tr4
          case ty4 => (intro _ _; go_simp; try with_reducible rfl)
          case tr4 =>
          simp only [Act.put, List.setIfInBounds_toArray, List.set_cons_succ, List.set_cons_zero]
          refine held_take 6 (v := _) rfl (by kernel_rfl) (by kernel_rfl) (by kernel_rfl) (fun _ _ _ h => h) (yieldsI_run rfl (fun w1 _ => exec_index (i := k) rfl rfl rfl Tryd.underlying22 size_apisum hlt w1)) hS0 ?_
          simp only [Act.put, List.setIfInBounds_toArray, List.set_cons_succ, List.set_cons_zero]
          refine held_take 7 (v := _) rfl (by kernel_rfl) (by kernel_rfl) (by kernel_rfl) (fun _ _ _ h => h) (yieldsI_run rfl (fun w1 h => exec_load_at rfl rfl (hcb w1 h) agg_apisum HYV.out)) hS0 ?_
          simp only [Act.put, List.setIfInBounds_toArray, List.set_cons_succ, List.set_cons_zero]
          refine held_take 8 (v := _) rfl (by kernel_rfl) (by kernel_rfl) (by kernel_rfl) (fun _ _ _ h => h) (yieldsI_run rfl (fun w1 _ => exec_cmp rfl rfl rfl guard_sum HNE.out w1)) hS0 ?_
          simp only [Act.put, List.setIfInBounds_toArray, List.set_cons_succ, List.set_cons_zero]
          refine wpAnyH_done (by kernel_rfl) ?_ _
          have E2 := hid ((HCC.out _).1 hS0).base
          clear hS0 hca hcb hCx hCA HCC
          go_wp2
          go_roundw
          case rel => exact ⟨k + 1, by omega, by go_num, HXY.out, E2.out⟩
          case measure => simp [intOf]; omega
        | false =>
          rw [hxy] at hne
          have HNE := hid hne
          have hres := HST.out.2 (fun e => by rw [e] at hxy; simp at hxy)
          have HRES := hid hres
          clear hne hxy HST hres
          go_wp2
          obtain ⟨C, hC⟩ : ∃ C : World → Prop, C = Cls w wr [] [] := ⟨_, rfl⟩
          have hC0 : ∀ w', C w' ↔ Cls w wr [] [] w' := fun w' => by rw [hC]
          clear hC
          have HCC := hid hC0
          clear hC0
          have hCx : ∀ w w', C w → Ext w w' → C w' := fun w w' h1 h2 => (HCC.out w').2 (((HCC.out w).1 h1).ext h2)
          have hCA : C wr := (HCC.out _).2 (Cls.no_room E1.out (Kept.none _))
          have hca : ∀ w1, C w1 → CellsAt w1 (A.add (k * 32)) (x.map u8v) := fun w1 h1 => HCA.out.ext ((HCC.out w1).1 h1).base
          have hcb : ∀ w1, C w1 → CellsAt w1 (B.add (k * 32)) (y.map u8v) := fun w1 h1 => HCB.out.ext ((HCC.out w1).1 h1).base
          refine wp_region_held_drew (S := C) (by kernel_rfl) (hCx _ _ hCA (Ext.refl _).drew) (fun hS0 => ?_)
          refine held_take 0 (v := ?tv5) rfl (by kernel_rfl) (by kernel_rfl) (by kernel_rfl) (fun _ _ _ h => h) (.inl ⟨rfl, ?ty5⟩) hS0 ?tr5
          case ty5 => (intro _ _; go_simp; try with_reducible rfl)
          case tr5 =>
          simp only [Act.put, List.setIfInBounds_toArray, List.set_cons_succ, List.set_cons_zero]
          refine held_take 1 (v := ?tv6) rfl (by kernel_rfl) (by kernel_rfl) (by kernel_rfl) (fun _ _ _ h => h) (.inl ⟨rfl, ?ty6⟩) hS0 ?tr6
          case ty6 => (intro _ _; go_simp; try with_reducible rfl)
          case tr6 =>
          simp only [Act.put, List.setIfInBounds_toArray, List.set_cons_succ, List.set_cons_zero]
          refine held_take 2 (v := _) rfl (by kernel_rfl) (by kernel_rfl) (by kernel_rfl) (fun _ _ _ h => h) (yieldsI_run rfl (fun w1 _ => exec_index (i := k) rfl rfl rfl Tryd.underlying22 size_apisum hlt w1)) hS0 ?_
          simp only [Act.put, List.setIfInBounds_toArray, List.set_cons_succ, List.set_cons_zero]
          refine held_take 3 (v := _) rfl (by kernel_rfl) (by kernel_rfl) (by kernel_rfl) (fun _ _ _ h => h) (yieldsI_run rfl (fun w1 h => exec_load_at rfl rfl (hca w1 h) agg_apisum HXV.out)) hS0 ?_
          simp only [Act.put, List.setIfInBounds_toArray, List.set_cons_succ, List.set_cons_zero]
          refine held_take 4 (v := ?tv7) rfl (by kernel_rfl) (by kernel_rfl) (by kernel_rfl) (fun _ _ _ h => h) (.inl ⟨rfl, ?ty7⟩) hS0 ?tr7
          case ty7 => (intro _ _; go_simp; try with_reducible rfl)
          case tr7 =>
          simp only [Act.put, List.setIfInBounds_toArray, List.set_cons_succ, List.set_cons_zero]
          refine held_take 5 (v := ?tv8) rfl (by kernel_rfl) (by kernel_rfl) (by kernel_rfl) (fun _ _ _ h => h) (.inl ⟨rfl, ?ty8⟩) hS0 ?tr8
          case ty8 => (intro _ _; go_simp; try with_reducible rfl)
          case tr8 =>
          simp only [Act.put, List.setIfInBounds_toArray, List.set_cons_succ, List.set_cons_zero]
          refine held_take 6 (v := _) rfl (by kernel_rfl) (by kernel_rfl) (by kernel_rfl) (fun _ _ _ h => h) (yieldsI_run rfl (fun w1 _ => exec_index (i := k) rfl rfl rfl Tryd.underlying22 size_apisum hlt w1)) hS0 ?_
          simp only [Act.put, List.setIfInBounds_toArray, List.set_cons_succ, List.set_cons_zero]
          refine held_take 7 (v := _) rfl (by kernel_rfl) (by kernel_rfl) (by kernel_rfl) (fun _ _ _ h => h) (yieldsI_run rfl (fun w1 h => exec_load_at rfl rfl (hcb w1 h) agg_apisum HYV.out)) hS0 ?_
          simp only [Act.put, List.setIfInBounds_toArray, List.set_cons_succ, List.set_cons_zero]
          refine held_take 8 (v := _) rfl (by kernel_rfl) (by kernel_rfl) (by kernel_rfl) (fun _ _ _ h => h) (yieldsI_run rfl (fun w1 _ => exec_cmp rfl rfl rfl guard_sum HNE.out w1)) hS0 ?_
          simp only [Act.put, List.setIfInBounds_toArray, List.set_cons_succ, List.set_cons_zero]
          refine wpAnyH_done (by kernel_rfl) ?_ _
          have E2 := hid ((HCC.out _).1 hS0).base
          clear hS0 hca hcb hCx hCA HCC
          go_wp2
          go_ret
          exact ⟨by rw [HRES.out]; rfl, E2.out⟩
      · obtain rfl : k = n := by omega
        have he : xs = ys := by
          have := HP.out
          rwa [List.take_of_length_le (by rw [HN.out]; exact Nat.le_refl _), List.take_of_length_le (by rw [HM.out]; exact Nat.le_refl _)] at this
        have hb : (xs == ys) = true := by rw [he]; simp
        have HRES := hid hb
        clear he hb
        go_wp2
        go_ret
        exact ⟨by rw [HRES.out]; rfl, E1.out⟩
  · have g1 : ((n : Int) != (m : Int)) = true := by simp; omega
    have g2 : (n != m) = true := by simp [hnm]
    have hb : (xs == ys) = false := by
      rw [beq_eq_false_iff_ne]
      intro he
      exact hnm (by rw [← HN.out, ← HM.out, he])
    rw [hb]
    clear hb hnm
    go_enter Tryd.func8, Tryd.ntmps8
    go_wp2
    go_ret
    exact ⟨rfl, Ext.refl _⟩
end

section
open Go Go.RowKit

set_option maxRecDepth 100000 in
set_option maxHeartbeats 1000000 in
theorem cloneS_c (ls : List (List UInt8)) (a : Option Addr) (n c : Nat) (w : World) (hnl : ls.length = n) (h32 : All32 ls) (hn : n * 32 ≤ 140737488355320) (hcl : Cells w a (rows ls)) :
    Calls Tryd.prog 19 #[.slice a n c] w fun e w' => ∃ v, e = .returned v ∧ w'.ownsRow w.heap.size 31 32 v n (rows ls) ∧ (v = .slice none 0 0 ↔ a = none) ∧ Ext w w' := by
  have hrl := rows_length h32
  rw [hnl] at hrl
  have HR := hid hrl
  have HN := hid hnl
  have HC := hid hcl
  clear hnl hcl h32 hrl
  obtain ⟨i0, hi, hz, hs, hb1⟩ := info_parts info_sum
  have q26 : ∀ (w : World) (a : Option Addr) (n c n' c' : Nat), (binOp .eql 22 (.slice a n c) (.slice none n' c')).run Tryd.prog w = .ok (.bool a.isNone) w := fun w a n c n' c' => Lib.run_eql_slice_nil w _ _ a n c n' c' Tryd.underlying22
  have o1 : ∀ v ∈ rows ls, v.oneCell' = true := one_u8 _
  cases a with
  | none =>
    have hl : rows ls = [] := by
      rcases HC.out with h | ⟨_, _, h, _⟩
      · exact h
      · cases h
    have hn0 : n = 0 := by have := HR.out; rw [hl] at this; simp at this; omega
    subst hn0
    have HL := hid hl
    clear hl HN HC
    go_enter Tryd.func19, Tryd.ntmps19
    go_wp2
    go_ret
    exact ⟨_, rfl, by rw [HL.out]; exact World.ownsRow_nil _ _ _ _, by simp, Ext.refl _⟩
  | some ad =>
    generalize rows ls = rl at *
    go_enter Tryd.func19, Tryd.ntmps19
    go_wp2_with (at_builtin; refine wpList_append_own _ rfl _ _ 22 rfl w.heap.size 31 i0 _ 32 32 Tryd.underlying22 hi hz hs hb1 zsum_size (by decide) _ _ _ rfl (World.ownsRow_made w #[] 0 (Nat.le_refl _) (Nat.zero_le _) (by simp)) ad n c rl rfl ?qc1 (news_cells (HC.out.ext ((Ext.refl w).alloc _))) o1 ?qc4 ?qc5 ?qc6 ?_)
    case qc1 => have := HR.out; omega
    case qc4 => unfold maxLen; omega
    case qc5 => omega
    case qc6 => simp
    intro v' w1 hown hgrow hnil
    have e1 : Ext w w1 := ((Ext.refl w).alloc _).grown hgrow (by intro k hk; simp [Value.ownBlock] at hk; omega)
    clear hgrow
    go_wp2
    go_ret
    exact ⟨v', rfl, by simpa using hown, by simp [hnil], e1⟩

theorem own_block_lt' {w : World} {B : Nat} {e : TypeId} {size n : Nat} {v : Value} {xs : List Value} (h : w.ownsRow B e size v n xs) : ∀ g, v.ownBlock = some g → g < w.heap.size := by
  intro g hg
  rcases h.2 with ⟨rfl, _⟩ | ⟨g', cap, cur, rfl, hb, hc, _⟩
  · cases hg
  · simp [Value.ownBlock] at hg
    subst hg
    exact (Array.getElem?_eq_some_iff.1 hc).1

/-- a frontier's cells -/
def frL (n : Nat) (v : Value) : List Value := [.int .i64 (n : Int), v]

set_option maxRecDepth 100000 in
set_option maxHeartbeats 1000000 in
theorem frontierOf_range (z : Int) (a : Option Addr) (n c : Nat) (w : World) (hz : z < 0 ∨ 65536 < z) :
    Calls Tryd.prog 6 #[.int .i64 z, .slice a n c] w fun e w' => e = .returned (.tuple #[.pointer none, .int .i64 4]) ∧ w = w' := by
  by_cases h0 : z < 0
  · have g1 : decide (z < 0) = true := decide_eq_true h0
    clear hz
    go_enter Tryd.func6, Tryd.ntmps6
    go_wp2
    go_ret2
    exact ⟨rfl, rfl⟩
  · have g1 : decide (z < 0) = false := decide_eq_false h0
    have g2 : decide (z > 65536) = true := decide_eq_true (by omega)
    have g3 : decide (65536 < z) = true := decide_eq_true (by omega)
    go_enter Tryd.func6, Tryd.ntmps6
    go_wp2
    go_ret2
    exact ⟨rfl, rfl⟩

set_option maxRecDepth 100000 in
set_option maxHeartbeats 1000000 in
theorem frontierOf_form (S : Nat) (a : Option Addr) (n c : Nat) (w : World) (hS : S ≤ 65536) (hn : n ≠ popF 63 S) :
    Calls Tryd.prog 6 #[.int .i64 (S : Int), .slice a n c] w fun e w' => e = .returned (.tuple #[.pointer none, .int .i64 2]) ∧ w = w' := by
  have ho := hid (fun w' => onesCount_c S w' (by omega))
  rw [oc_size hS] at ho
  generalize popF 63 S = p at *
  have g1 : decide ((S : Int) < 0) = false := decide_eq_false (by omega)
  have g2 : decide ((S : Int) > 65536) = false := decide_eq_false (by omega)
  have g3 : decide (65536 < (S : Int)) = false := decide_eq_false (by omega)
  have g4 : ((n : Int) != (p : Int)) = true := by simp; omega
  have g5 : (n != p) = true := by simp [hn]
  have g6 : IntKind.u64.wrap (S : Int) = S := IntWalk.u64_in _ (by omega)
  go_enter Tryd.func6, Tryd.ntmps6
  go_wp2_with (first | (go_at_call 18; refine (ho.out _).mono ?_; rintro e w' ⟨rfl, rfl⟩))
  go_ret2
  exact ⟨rfl, rfl⟩

set_option maxRecDepth 100000 in
set_option maxHeartbeats 1000000 in
theorem frontierOf_c (S : Nat) (ls : List (List UInt8)) (a : Option Addr) (n c : Nat) (w : World) (hS : S ≤ 65536) (hl : ls.length = n) (h32 : All32 ls) (hcl : Cells w a (rows ls)) (hn : n = popF 63 S) :
    Calls Tryd.prog 6 #[.int .i64 (S : Int), .slice a n c] w fun e w' => ∃ g v, e = .returned (.tuple #[.pointer (some ⟨g, 0, none⟩), .int .i64 0]) ∧ w.heap.size ≤ g ∧ Blk w' g (frL S v) 48 ∧ w'.ownsRow w.heap.size 31 32 v n (rows ls) ∧ v.ownBlock ≠ some g ∧ Ext w w' := by
  have hp := popF_le 63 S
  have ho := hid (fun w' => onesCount_c S w' (by omega))
  rw [oc_size hS] at ho
  have hcn := hid (cloneS_c ls a n c w hl h32 (by omega) hcl)
  clear hl h32 hcl
  generalize popF 63 S = p at *
  subst hn
  have g1 : decide ((S : Int) < 0) = false := decide_eq_false (by omega)
  have g2 : decide ((S : Int) > 65536) = false := decide_eq_false (by omega)
  have g3 : decide (65536 < (S : Int)) = false := decide_eq_false (by omega)
  have g4 : ((n : Int) != (n : Int)) = false := by simp
  have g5 : (n != n) = false := by simp
  have g6 : IntKind.u64.wrap (S : Int) = S := IntWalk.u64_in _ (by omega)
  go_enter Tryd.func6, Tryd.ntmps6
  go_wp2_with (first | (go_at_call 18; refine (ho.out _).mono ?_; rintro e w' ⟨rfl, rfl⟩))
  refine hcn.out.mono ?_
  rintro e w1 ⟨v, rfl, own, -, e1⟩
  have O1 := hid own
  have E1 := hid e1
  obtain ⟨va, vc, rfl, -⟩ := own_sliceT (by decide) own
  clear own e1 hcn
  go_wp2
  go_ret2
  refine ⟨w1.heap.size, .slice va n vc, rfl, E1.out.size, ?_, ownsRow_ext O1.out ((Ext.refl w1).alloc _), ?_, E1.out.alloc _⟩
  · exact Blk.mk_alloc rfl rfl
  · intro h
    have := own_block_lt' O1.out _ h
    omega

set_option maxRecDepth 100000 in
set_option maxHeartbeats 1000000 in
theorem size_c (g S : Nat) (v : Value) (T : TypeId) (w : World) (hb : Blk w g (frL S v) T) :
    Calls Tryd.prog 7 #[.pointer (some ⟨g, 0, none⟩)] w fun e w' => e = .returned (.int .i64 (S : Int)) ∧ w = w' := by
  have c0 : w.cell? ⟨g, 0, none⟩ = some (.int .i64 (S : Int)) := hb.cell' rfl
  clear hb
  go_enter Tryd.func7, Tryd.ntmps7
  go_wp2
  go_ret
  exact ⟨rfl, rfl⟩

set_option maxRecDepth 100000 in
set_option maxHeartbeats 1000000 in
theorem peaks_c (g S : Nat) (T : TypeId) (ls : List (List UInt8)) (a : Option Addr) (n c : Nat) (w : World) (hb : Blk w g (frL S (.slice a n c)) T) (hnl : ls.length = n) (h32 : All32 ls) (hn : n * 32 ≤ 140737488355320) (hcl : Cells w a (rows ls)) :
    Calls Tryd.prog 9 #[.pointer (some ⟨g, 0, none⟩)] w fun e w' => ∃ v, e = .returned v ∧ w'.ownsRow w.heap.size 31 32 v n (rows ls) ∧ Ext w w' := by
  have c1 : w.cell? ⟨g, 1, none⟩ = some (.slice a n c) := hb.cell' rfl
  have hcn := hid (cloneS_c ls a n c w hnl h32 hn hcl)
  clear hb hnl h32 hcl
  go_enter Tryd.func9, Tryd.ntmps9
  go_wp2_with fail
  refine hcn.out.mono ?_
  rintro e w1 ⟨v, rfl, own, -, e1⟩
  go_wp2_with fail
  go_ret
  exact ⟨v, rfl, own, e1⟩

set_option maxRecDepth 100000 in
set_option maxHeartbeats 1000000 in
theorem add_large (g : Nat) (v : Value) (y : List UInt8) (T : TypeId) (w : World) (hb : Blk w g (frL 65536 v) T) :
    Calls Tryd.prog 10 #[.pointer (some ⟨g, 0, none⟩), .agg (y.map u8v).toArray] w fun e w' => e = .returned (.int .i64 5) ∧ Ext w w' := by
  have c0 : w.cell? ⟨g, 0, none⟩ = some (.int .i64 65536) := hb.cell' rfl
  have hg := hb.lt
  have c1 : (w.alloc (.cells (y.map u8v).toArray 31)).cell? ⟨g, 0, none⟩ = some (.int .i64 65536) := (hb.alloc _).cell' rfl
  clear hb
  go_enter Tryd.func10, Tryd.ntmps10
  go_wp2
  go_ret
  exact ⟨rfl, (Ext.refl w).alloc _⟩
end

section
open Go Go.RowKit

theorem popF_succ (f k : Nat) : popF (f + 1) k = k % 2 + popF f (k / 2) := rfl
attribute [local irreducible] popF

theorem and_one64 (k : Nat) (hk : k < 9223372036854775808) : bits .and .i64 (k : Int) 1 = ((k % 2 : Nat) : Int) := by
  have ea : (BitVec.ofInt 64 (k : Int)).toNat = k := by rw [BitVec.toNat_ofInt]; omega
  have eb : (BitVec.ofInt 64 (1 : Int)).toNat = 1 := by decide
  change IntKind.i64.wrap ((BitVec.ofInt 64 (k : Int) &&& BitVec.ofInt 64 (1 : Int)).toNat : Int) = _
  rw [BitVec.toNat_and, ea, eb, Nat.and_one_is_mod, IntWalk.i64_in _ (by omega)]

set_option maxRecDepth 100000 in
set_option maxHeartbeats 1000000 in
theorem frontiersCheck_neg (z : Int) (a : Option Addr) (n c : Nat) (w : World) (hz : z < 0) :
    Calls Tryd.prog 3 #[.int .i64 z, .slice a n c] w fun e w' => e = .returned (.bool true) ∧ Ext w w' := by
  have hfo := hid (fun w' => frontierOf_range z a n c w' (.inl hz))
  have g1 : decide (z < 0) = true := decide_eq_true hz
  have g2 : decide (z > 0) = false := decide_eq_false (by omega)
  have g3 : decide (0 < z) = false := decide_eq_false (by omega)
  clear hz
  go_enter Tryd.func3, Tryd.ntmps3
  go_wp2_with fail
  refine (landed_c w).mono ?_
  rintro e wB ⟨rfl, eB⟩
  have EB := hid eB
  clear eB
  go_wp2_with (first | (go_at_call 6; refine (hfo.out _).mono ?_; rintro e w' ⟨rfl, rfl⟩))
  go_loopw [7, 8] (fun x y wr => y = .int .i64 z ∧ wr = wB) (fun _ _ _ => 0)
  case atStart => exact ⟨rfl, by first | trivial | rfl⟩
  case round =>
    obtain ⟨rfl, rfl⟩ := hrel
    go_wp2
    go_ret
    exact ⟨rfl, EB.out⟩

set_option maxRecDepth 100000 in
set_option maxHeartbeats 1000000 in
theorem frontiersCheck_high (Z : Nat) (a : Option Addr) (n c : Nat) (w : World) (hZ : Z < 9223372036854775808) (hz : 65536 < Z) :
    Calls Tryd.prog 3 #[.int .i64 (Z : Int), .slice a n c] w fun e w' => e = .returned (.bool true) ∧ Ext w w' := by
  have hfo := hid (fun w' => frontierOf_range (Z : Int) a n c w' (.inr (by omega)))
  have j1 : decide ((Z : Int) < 0) = false := decide_eq_false (by omega)
  have j2 : decide ((Z : Int) > 65536) = true := decide_eq_true (by omega)
  have j3 : decide (65536 < (Z : Int)) = true := decide_eq_true (by omega)
  have j4 : decide (65536 < Z) = true := decide_eq_true (by omega)
  have hM63 := popF_le 63 Z
  obtain ⟨M, hM⟩ : ∃ M, popF 63 Z = M := ⟨_, rfl⟩
  rw [hM] at hM63
  have HM := hid hM
  clear hM hz
  go_enter Tryd.func3, Tryd.ntmps3
  go_wp2_with fail
  refine (landed_c w).mono ?_
  rintro e wB ⟨rfl, eB⟩
  have EB := hid eB
  clear eB
  go_wp2_with (first | (go_at_call 6; refine (hfo.out _).mono ?_; rintro e w' ⟨rfl, rfl⟩))
  go_loopw [7, 8] (fun x y wr => ∃ (f k q : Nat), f ≤ 63 ∧ k < 9223372036854775808 ∧ k < 2 ^ f ∧ x = .int .i64 (q : Int) ∧ y = .int .i64 (k : Int) ∧ q + popF f k = M ∧ wr = wB) (fun _ y _ => (intOf y).toNat)
  case atStart => exact ⟨63, Z, 0, Nat.le_refl _, hZ, hZ, rfl, rfl, by rw [HM.out]; omega, by first | trivial | rfl⟩
  case round =>
    obtain ⟨f, k, q, hf, hk, hkf, rfl, rfl, hq, rfl⟩ := hrel
    have HQ := hid hq
    have hqM : q ≤ M := by omega
    clear hq
    by_cases h0 : k = 0
    · subst h0
      have hq : q = M := by have := HQ.out; rw [popF_zero] at this; omega
      subst hq
      clear HQ HM hk hkf
      go_wp2
      go_ret
      exact ⟨rfl, EB.out⟩
    · obtain ⟨f', rfl⟩ : ∃ f', f = f' + 1 := ⟨f - 1, by
        cases f with
        | zero => simp at hkf; omega
        | succ f => rfl⟩
      have hst : popF (f' + 1) k = k % 2 + popF f' (k / 2) := popF_succ _ _
      have hq2 := HQ.out
      rw [hst] at hq2
      have hk2 : k / 2 < 2 ^ f' := by rw [Nat.pow_succ] at hkf; omega
      have HQ2 := hid hq2
      have hand := and_one64 k hk
      have hb : k % 2 < 2 := Nat.mod_lt _ (by omega)
      have g1 : decide ((k : Int) > 0) = true := decide_eq_true (by omega)
      have g2 : decide ((0 : Int) < (k : Int)) = true := decide_eq_true (by omega)
      have g3 : decide (0 < k) = true := decide_eq_true (by omega)
      have hadd : IntKind.i64.wrap ((q : Int) + ((k % 2 : Nat) : Int)) = ((q + k % 2 : Nat) : Int) := by rw [IntWalk.i64_in _ (by omega)]; omega
      have hquo : IntKind.i64.wrap ((k : Int).tdiv 2) = ((k / 2 : Nat) : Int) := by rw [show (k : Int).tdiv 2 = ((k / 2 : Nat) : Int) by rw [Int.tdiv_eq_ediv_of_nonneg (by omega)]; omega, IntWalk.i64_in _ (by omega)]
      generalize hkm : k % 2 = km at *
      generalize hkd : k / 2 = kd at *
      have HKD := hid hkd
      clear hst hq2 HQ hkm hkd
      go_wp2_with fail
      go_roundw
      case rel => exact ⟨f', kd, q + km, by omega, by have := HKD.out; omega, hk2, by first | rfl | go_num, by have := HKD.out; first | rfl | (congr 1; omega), by have := HQ2.out; omega, by first | trivial | rfl⟩
      case measure => have := HKD.out; first | (simp [intOf]; done) | (simp [intOf]; omega)

set_option maxRecDepth 100000 in
set_option maxHeartbeats 1000000 in
theorem frontiersCheck_form (Z : Nat) (a : Option Addr) (n c : Nat) (w : World) (hz : Z ≤ 65536) (hn : n ≠ popF 63 Z) :
    Calls Tryd.prog 3 #[.int .i64 (Z : Int), .slice a n c] w fun e w' => e = .returned (.bool true) ∧ Ext w w' := by
  have hfo := hid (fun w' => frontierOf_form Z a n c w' hz hn)
  have hZ : Z < 9223372036854775808 := by omega
  have j1 : decide ((Z : Int) < 0) = false := decide_eq_false (by omega)
  have j2 : decide ((Z : Int) > 65536) = false := decide_eq_false (by omega)
  have j3 : decide (65536 < (Z : Int)) = false := decide_eq_false (by omega)
  have j4 : decide (65536 < Z) = false := decide_eq_false (by omega)
  have hM63 := popF_le 63 Z
  obtain ⟨M, hM⟩ : ∃ M, popF 63 Z = M := ⟨_, rfl⟩
  rw [hM] at hM63 hn
  have HM := hid hM
  have j5 : ((M : Int) != (n : Int)) = true := by simp; omega
  have j6 : (M != n) = true := by simp; omega
  clear hM hz hn
  go_enter Tryd.func3, Tryd.ntmps3
  go_wp2_with fail
  refine (landed_c w).mono ?_
  rintro e wB ⟨rfl, eB⟩
  have EB := hid eB
  clear eB
  go_wp2_with (first | (go_at_call 6; refine (hfo.out _).mono ?_; rintro e w' ⟨rfl, rfl⟩))
  go_loopw [7, 8] (fun x y wr => ∃ (f k q : Nat), f ≤ 63 ∧ k < 9223372036854775808 ∧ k < 2 ^ f ∧ x = .int .i64 (q : Int) ∧ y = .int .i64 (k : Int) ∧ q + popF f k = M ∧ wr = wB) (fun _ y _ => (intOf y).toNat)
  case atStart => exact ⟨63, Z, 0, Nat.le_refl _, hZ, hZ, rfl, rfl, by rw [HM.out]; omega, by first | trivial | rfl⟩
  case round =>
    obtain ⟨f, k, q, hf, hk, hkf, rfl, rfl, hq, rfl⟩ := hrel
    have HQ := hid hq
    have hqM : q ≤ M := by omega
    clear hq
    by_cases h0 : k = 0
    · subst h0
      have hq : q = M := by have := HQ.out; rw [popF_zero] at this; omega
      subst hq
      clear HQ HM hk hkf
      go_wp2
      go_ret
      exact ⟨rfl, EB.out⟩
    · obtain ⟨f', rfl⟩ : ∃ f', f = f' + 1 := ⟨f - 1, by
        cases f with
        | zero => simp at hkf; omega
        | succ f => rfl⟩
      have hst : popF (f' + 1) k = k % 2 + popF f' (k / 2) := popF_succ _ _
      have hq2 := HQ.out
      rw [hst] at hq2
      have hk2 : k / 2 < 2 ^ f' := by rw [Nat.pow_succ] at hkf; omega
      have HQ2 := hid hq2
      have hand := and_one64 k hk
      have hb : k % 2 < 2 := Nat.mod_lt _ (by omega)
      have g1 : decide ((k : Int) > 0) = true := decide_eq_true (by omega)
      have g2 : decide ((0 : Int) < (k : Int)) = true := decide_eq_true (by omega)
      have g3 : decide (0 < k) = true := decide_eq_true (by omega)
      have hadd : IntKind.i64.wrap ((q : Int) + ((k % 2 : Nat) : Int)) = ((q + k % 2 : Nat) : Int) := by rw [IntWalk.i64_in _ (by omega)]; omega
      have hquo : IntKind.i64.wrap ((k : Int).tdiv 2) = ((k / 2 : Nat) : Int) := by rw [show (k : Int).tdiv 2 = ((k / 2 : Nat) : Int) by rw [Int.tdiv_eq_ediv_of_nonneg (by omega)]; omega, IntWalk.i64_in _ (by omega)]
      generalize hkm : k % 2 = km at *
      generalize hkd : k / 2 = kd at *
      have HKD := hid hkd
      clear hst hq2 HQ hkm hkd
      go_wp2_with fail
      go_roundw
      case rel => exact ⟨f', kd, q + km, by omega, by have := HKD.out; omega, hk2, by first | rfl | go_num, by have := HKD.out; first | rfl | (congr 1; omega), by have := HQ2.out; omega, by first | trivial | rfl⟩
      case measure => have := HKD.out; first | (simp [intOf]; done) | (simp [intOf]; omega)

set_option maxRecDepth 100000 in
set_option maxHeartbeats 1000000 in
theorem frontiersCheck_ok (Z : Nat) (ls : List (List UInt8)) (a : Option Addr) (n c : Nat) (w : World) (hz : Z ≤ 65536) (hl : ls.length = n) (h32 : All32 ls) (hcl : Cells w a (rows ls)) (hn : n = popF 63 Z) :
    Calls Tryd.prog 3 #[.int .i64 (Z : Int), .slice a n c] w fun e w' => e = .returned (.bool true) ∧ Ext w w' := by
  have hfo := hid (fun w' h => frontierOf_c Z ls a n c w' hz hl h32 h hn)
  have hZ : Z < 9223372036854775808 := by omega
  have hM63 := popF_le 63 Z
  have hpk := hid (fun g a' c' w' hb h => peaks_c g Z 48 ls a' n c' w' hb hl h32 (by omega) h)
  have heq := hid (fun b d' w' hx hy => equalS_c ls ls b a n n d' c w' hl hl (by omega) h32 h32 hx hy)
  have hsame : (ls == ls) = true := by simp
  have HC := hid hcl
  have j1 : decide ((Z : Int) < 0) = false := decide_eq_false (by omega)
  have j2 : decide ((Z : Int) > 65536) = false := decide_eq_false (by omega)
  have j3 : decide (65536 < (Z : Int)) = false := decide_eq_false (by omega)
  have j4 : decide (65536 < Z) = false := decide_eq_false (by omega)
  obtain ⟨M, hM⟩ : ∃ M, popF 63 Z = M := ⟨_, rfl⟩
  rw [hM] at hM63 hn
  have HM := hid hM
  subst hn
  have j5 : ((n : Int) != (n : Int)) = false := by simp
  have j6 : (n != n) = false := by simp
  have HZ := hid hz
  clear hM hl h32 hcl
  go_enter Tryd.func3, Tryd.ntmps3
  go_wp2_with fail
  refine (landed_c w).mono ?_
  rintro e wB ⟨rfl, eB⟩
  have EB := hid eB
  clear eB
  go_wp2_with fail
  refine (hfo.out wB (HC.out.ext EB.out)).mono ?_
  rintro e wC ⟨g, v, rfl, hg, hb, own, hvg, eC⟩
  have BC := hid hb
  have OC := hid own
  have EC := hid (EB.out.ext eC)
  have c0 : wC.cell? ⟨g, 0, none⟩ = some (.int .i64 (Z : Int)) := hb.cell' rfl
  obtain ⟨va, vc, rfl, -, -, -, hvl⟩ := own_sliceT (by decide) own
  have HVL := hid hvl
  have HC0 := hid c0
  clear hb own eC hvg hfo hvl c0
  go_wp2_with fail
  go_loopw [7, 8] (fun x y wr => ∃ (f k q : Nat), f ≤ 63 ∧ k < 9223372036854775808 ∧ k < 2 ^ f ∧ x = .int .i64 (q : Int) ∧ y = .int .i64 (k : Int) ∧ q + popF f k = n ∧ wr = wC) (fun _ y _ => (intOf y).toNat)
  case atStart => exact ⟨63, Z, 0, Nat.le_refl _, hZ, hZ, rfl, rfl, by rw [HM.out]; omega, by first | trivial | rfl⟩
  case round =>
    obtain ⟨f, k, q, hf, hk, hkf, rfl, rfl, hq, rfl⟩ := hrel
    have HQ := hid hq
    have hqM : q ≤ n := by omega
    clear hq
    by_cases h0 : k = 0
    · subst h0
      have hq : q = n := by have := HQ.out; rw [popF_zero] at this; omega
      subst hq
      clear HQ HM hk hkf
      have hsz := hid (fun w' => size_c g Z (.slice va q vc) 48 w')
      have hle : q ≤ q := Nat.le_refl _
      clear hM63 hqM hle hf
      by_cases h6 : Z = 65536
      · have HAD := hid (fun w' (hb : Blk w' g (frL Z (.slice va q vc)) 48) => add_large g (.slice va q vc) zero32 48 w' (by rw [← h6]; exact hb))
        have k1 : decide ((Z : Int) < 65536) = false := decide_eq_false (by omega)
        have k2 : decide (Z < 65536) = false := decide_eq_false (by omega)
        have H6 := hid h6
        clear h6
        go_wp2_with (first | (go_at_call 7; refine (hsz.out _ BC.out).mono ?_; rintro e w' ⟨rfl, rfl⟩))
        refine (hpk.out g va vc _ BC.out HVL.out).mono ?_
        rintro e wD ⟨v2, rfl, own2, eD⟩
        obtain ⟨pa, pc, rfl, -, -, -, hpl⟩ := own_sliceT (by decide) own2
        have HPL := hid hpl
        have ED := hid (EC.out.ext eD)
        have BD := hid (BC.out.ext eD)
        clear own2 hpl eD
        go_wp2_with fail
        refine (heq.out pa pc _ HPL.out (HC.out.ext ED.out)).mono ?_
        rintro e wE ⟨rfl, eE⟩
        have EE := hid (ED.out.ext eE)
        have BE := hid (BD.out.ext eE)
        clear eE
        rw [hsame]
        go_wp2_with fail
        refine (HAD.out _ BE.out).mono ?_
        rintro e wF ⟨rfl, eF⟩
        have EF := hid (EE.out.ext eF)
        clear eF
        go_wp2_with fail
        go_ret
        exact ⟨rfl, EF.out⟩
      · have k1 : decide ((Z : Int) < 65536) = true := decide_eq_true (by omega)
        have k2 : decide (Z < 65536) = true := decide_eq_true (by omega)
        go_wp2_with (first | (go_at_call 7; refine (hsz.out _ BC.out).mono ?_; rintro e w' ⟨rfl, rfl⟩))
        refine (hpk.out g va vc _ BC.out HVL.out).mono ?_
        rintro e wD ⟨v2, rfl, own2, eD⟩
        obtain ⟨pa, pc, rfl, -, -, -, hpl⟩ := own_sliceT (by decide) own2
        have HPL := hid hpl
        have ED := hid (EC.out.ext eD)
        have BD := hid (BC.out.ext eD)
        clear own2 hpl eD
        go_wp2_with fail
        refine (heq.out pa pc _ HPL.out (HC.out.ext ED.out)).mono ?_
        rintro e wE ⟨rfl, eE⟩
        have EE := hid (ED.out.ext eE)
        clear eE
        rw [hsame]
        go_wp2_with fail
        go_ret
        exact ⟨rfl, EE.out⟩
    · obtain ⟨f', rfl⟩ : ∃ f', f = f' + 1 := ⟨f - 1, by
        cases f with
        | zero => simp at hkf; omega
        | succ f => rfl⟩
      have hst : popF (f' + 1) k = k % 2 + popF f' (k / 2) := popF_succ _ _
      have hq2 := HQ.out
      rw [hst] at hq2
      have hk2 : k / 2 < 2 ^ f' := by rw [Nat.pow_succ] at hkf; omega
      have HQ2 := hid hq2
      have hand := and_one64 k hk
      have hb : k % 2 < 2 := Nat.mod_lt _ (by omega)
      have g1 : decide ((k : Int) > 0) = true := decide_eq_true (by omega)
      have g2 : decide ((0 : Int) < (k : Int)) = true := decide_eq_true (by omega)
      have g3 : decide (0 < k) = true := decide_eq_true (by omega)
      have hadd : IntKind.i64.wrap ((q : Int) + ((k % 2 : Nat) : Int)) = ((q + k % 2 : Nat) : Int) := by rw [IntWalk.i64_in _ (by omega)]; omega
      have hquo : IntKind.i64.wrap ((k : Int).tdiv 2) = ((k / 2 : Nat) : Int) := by rw [show (k : Int).tdiv 2 = ((k / 2 : Nat) : Int) by rw [Int.tdiv_eq_ediv_of_nonneg (by omega)]; omega, IntWalk.i64_in _ (by omega)]
      generalize hkm : k % 2 = km at *
      generalize hkd : k / 2 = kd at *
      have HKD := hid hkd
      clear hst hq2 HQ hkm hkd
      go_wp2_with fail
      go_roundw
      case rel => exact ⟨f', kd, q + km, by omega, by have := HKD.out; omega, hk2, by first | rfl | go_num, by have := HKD.out; first | rfl | (congr 1; omega), by have := HQ2.out; omega, by first | trivial | rfl⟩
      case measure => have := HKD.out; first | (simp [intOf]; done) | (simp [intOf]; omega)

theorem frontiersCheck_c (z : Int) (ls : List (List UInt8)) (a : Option Addr) (n c : Nat) (w : World) (hz : z < 9223372036854775808) (hl : ls.length = n) (h32 : All32 ls) (hcl : Cells w a (rows ls)) :
    Calls Tryd.prog 3 #[.int .i64 z, .slice a n c] w fun e w' => e = .returned (.bool true) ∧ Ext w w' := by
  by_cases h0 : z < 0
  · exact frontiersCheck_neg z a n c w h0
  · obtain ⟨Z, rfl⟩ : ∃ Z : Nat, z = (Z : Int) := ⟨z.toNat, by omega⟩
    by_cases h1 : 65536 < Z
    · exact frontiersCheck_high Z a n c w (by omega) h1
    · by_cases h2 : n = popF 63 Z
      · exact frontiersCheck_ok Z ls a n c w (by omega) hl h32 hcl h2
      · exact frontiersCheck_form Z a n c w (by omega) h2
end

section
open Go Go.RowKit

/-- the table of 64 -/
def Tab64 (w : World) : Prop := ∀ j, j < 64 → w.cell? ⟨1, j, none⟩ = some (.int .u8 ((Lib.deBruijn64tab.getD j 0 : Nat) : Int))
theorem Tab64.ext {w w' : World} (h : Tab64 w) (k : Ext w w') : Tab64 w' := by
  intro j hj
  have h1 := h j hj
  have hb := block_lt_of_cell h1
  rw [k.cell hb]; exact h1

set_option maxRecDepth 100000 in
set_option maxHeartbeats 1000000 in
theorem tz64_core (x k idx : Nat) (w : World) (hx0 : ((x : Int) == 0) = false) (hx1 : (x == 0) = false)
    (key : IntKind.u64.wrap (bits BinOp.and IntKind.u64 (x : Int) (IntKind.u64.wrap (-(x : Int))) * 285870213051353865) / 288230376151711744 = (idx : Int))
    (hi : idx < 64) (hk : k < 64) (hcell : w.cell? ⟨1, idx, none⟩ = some (.int .u8 k)) :
    Calls Tryd.prog 30 #[.int .u64 x] w fun e w' => e = .returned (.int .i64 k) ∧ w = w' := by
  go_enter Tryd.func30, Tryd.ntmps30
  go_wp2_with (simp only [key])
  go_ret
  exact ⟨rfl, rfl⟩

theorem trailingZeros64_c (x : Nat) (w : World) (h0 : x ≠ 0) (hx : x < 18446744073709551616) (hT : Tab64 w) :
    Calls Tryd.prog 30 #[.int .u64 x] w fun e w' => e = .returned (.int .i64 ((Lib.ctzFrom 64 x : Nat) : Int)) ∧ w = w' := by
  obtain ⟨hlow, hk⟩ := Lib.lowest_bit 64 x h0 hx
  have hctz : Lib.ctz 64 x = Lib.ctzFrom 64 x := by unfold Lib.ctz; rw [if_neg h0]
  rw [hctz] at hlow hk
  obtain ⟨hi, htab⟩ := Lib.deBruijn64_at _ hk
  have hcell := hT _ hi
  rw [htab] at hcell
  exact tz64_core x _ _ w (by simp; omega) (by simp [h0]) (tz64_key x _ hx h0 hlow) hi hk hcell

set_option maxRecDepth 100000 in
set_option maxHeartbeats 1000000 in
theorem trailingZeros_c (x : Nat) (w : World) (h0 : x ≠ 0) (hx : x < 18446744073709551616) (hT : Tab64 w) :
    Calls Tryd.prog 20 #[.int .u64 x] w fun e w' => e = .returned (.int .i64 ((Lib.ctzFrom 64 x : Nat) : Int)) ∧ w = w' := by
  have h := hid (trailingZeros64_c x w h0 hx hT)
  generalize Lib.ctzFrom 64 x = t at *
  clear hT
  go_enter Tryd.func20, Tryd.ntmps20
  go_wp2_with (first | (go_at_call 30; refine h.out.mono ?_; rintro e w' ⟨rfl, rfl⟩))
  go_ret
  exact ⟨rfl, rfl⟩
end

section
open Go Go.RowKit

theorem append_rowblkF (w : World) (B : Nat) (t e ty : TypeId) {i0 : TypeInfo} {z0 : Value} {z : Nat} (hu : Tryd.prog.underlying t = some (.slice e)) (hi : Tryd.prog.info? e = some i0) (hz : i0.zero = some z0) (hsz : i0.size = z) (hb1 : i0.bytes = z) (hzs : z0.cells.size = z) (h0 : 0 < z)
    {v : Value} {n m c : Nat} {xs news : List Value} {y : Addr} (hown : w.ownsRow B e z v n xs) (hl : news.length = m * z) (hc : ∀ j u, news[j]? = some u → w.cell? (y.add j) = some u) (h1 : ∀ u ∈ news, u.oneCell' = true)
    (hb : (n + m) * z ≤ 140737488355328) (hbase : B ≤ w.heap.size) :
    ∃ v' w', (Builtin.append_ #[t, t] ty #[v, .slice (some y) m c]).run Tryd.prog w = .ok v' w' ∧ w'.ownsRow B e z v' (n + m) (xs ++ news) ∧ w.grownBy w' v.ownBlock ∧
      (v'.ownBlock = v.ownBlock ∨ v'.ownBlock = some w.heap.size) := by
  have hnm : n + m ≤ 140737488355328 := Nat.le_trans (Nat.le_mul_of_pos_right _ h0) hb
  have hmz : m * z ≤ 140737488355328 := Nat.le_trans (Nat.mul_le_mul_right z (Nat.le_add_left m n)) hb
  have hl' : news.length = m * i0.size := by rw [hsz]; exact hl
  obtain ⟨v', w', hr, h1', h2, h3⟩ := run_append_own (P := Tryd.prog) w B t ty e i0 z0 z z hu hi hz hsz hb1 hzs h0 v n xs hown y m c news hl hc h1 (by unfold maxLen; omega) hb hbase
  refine ⟨v', w', hr, h1', h2, ?_⟩
  rcases hown.2 with ⟨rfl, rfl⟩ | ⟨g, cap, cur, rfl, hbg, hg, hnc, hcm, hcs, htake⟩
  · by_cases hm0 : m = 0
    · left
      rw [h3.2 ⟨rfl, hm0⟩]
    · right
      have hr2 := run_append_nil (P := Tryd.prog) w t ty e i0 z0 hu hi hz y m c news hl' hc (by omega) (by omega) (by rw [hb1]; omega)
      exact ok_block hr2 hr rfl
  · by_cases hroom : n + m ≤ cap
    · left
      obtain ⟨w2, hr2, _⟩ := run_append_fits (P := Tryd.prog) w B t ty e i0 z hu hi hsz g n cap xs hown y m c news hl hc h1 hroom
      exact ok_block hr2 hr rfl
    · right
      have hr2 := run_append_grow (P := Tryd.prog) w t ty e i0 z0 hu hi hz ⟨g, 0, none⟩ n cap xs (by rw [hsz]; exact hown.1) (hown.cells (g := g) rfl) y m c news hl' hc (by omega) (by omega) (growslice_fits (by omega) (by rw [hb1]; omega))
      exact ok_block hr2 hr rfl

/-- append one row onto a row of one's own, the block told -/
theorem wpl_append_rowB {ops : Array Oper} {rest : List Oper} {o : Oper} {a : Act} {w : World} {Q : Exit → Act → World → Prop} (hgd : o.guard = none) (s x : Operand)
    (ho : o.op = .call { callee := .builtin .append, args := #[s, x], argTypes := #[22, 22] }) (base : Nat) {v : Value} {n c g : Nat} {ls : List (List UInt8)} {y : List UInt8} {T : TypeId}
    (hs : a.eval s = v) (hx : a.eval x = .slice (some ⟨g, 0, none⟩) 1 c) (hown : w.ownsRow base 31 32 v n (rows ls)) (hy : y.length = 32) (hb : Blk w g (y.map u8v) T)
    (hn : (n + 1) * 32 ≤ 140737488355328) (hbase : base ≤ w.heap.size)
    (h : ∀ v' w', w'.ownsRow base 31 32 v' (n + 1) (rows (ls ++ [y])) → w.grownBy w' v.ownBlock → (v'.ownBlock = v.ownBlock ∨ v'.ownBlock = some w.heap.size) → wpList Tryd.prog ops Q rest (a.put o.dst v') w') : wpList Tryd.prog ops Q (o :: rest) a w := by
  obtain ⟨i0, hi, hz, hsz, hb1⟩ := info_parts info_sum
  obtain ⟨v', w', hr, h1, h2, h3⟩ := append_rowblkF w base 22 31 o.type (m := 1) (c := c) Tryd.underlying22 hi hz hsz hb1 zsum_size (by decide) hown (by rw [List.length_map, hy]) (news_blk hb) (one_u8 _) hn hbase
  exact wpList_plain hgd fun K hK => Lib.wp_append_run w s x _ _ ho v _ hs hx v' w' hr (hK _ _ (h v' w' (by rw [rows_append, rows_one]; exact h1) h2 h3))

/-- the beginning of a row of one's own -/
theorem own_prefix {w : World} {B : Nat} {e : TypeId} {z n c k : Nat} {a : Option Addr} {xs : List Value} (h : w.ownsRow B e z (.slice a n c) n xs) (hk : k ≤ n) (hn : 0 < n) : w.ownsRow B e z (.slice a k c) k (xs.take (k * z)) := by
  obtain ⟨hl, h⟩ := h
  have hkz : k * z ≤ n * z := Nat.mul_le_mul_right z hk
  refine ⟨by rw [List.length_take]; omega, ?_⟩
  rcases h with ⟨hv, rfl⟩ | ⟨g, cap, cur, hv, hb, hg, h1, h2, h3, h4⟩
  · omega
  · cases hv
    refine .inr ⟨g, _, cur, rfl, hb, hg, by omega, h2, h3, ?_⟩
    rw [← h4, List.take_take, Nat.min_eq_left hkz]
theorem own_keep {w w' : World} {B : Nat} {e : TypeId} {z n : Nat} {v : Value} {xs : List Value} (h : w.ownsRow B e z v n xs) (hk : ∀ q, v.ownBlock = some q → w'.heap[q]? = w.heap[q]?) : w'.ownsRow B e z v n xs := by
  obtain ⟨hl, h⟩ := h
  refine ⟨hl, ?_⟩
  rcases h with h | ⟨g, cap, cur, hv, hb, hg, h1⟩
  · exact .inl h
  · refine .inr ⟨g, cap, cur, hv, hb, ?_, h1⟩
    rw [hk g (by rw [hv]; rfl)]; exact hg
theorem CellsAt.keep {w w' : World} {p : Addr} {xs : List Value} (h : CellsAt w p xs) (hp : p.spot = none) (hk : w'.heap[p.block]? = w.heap[p.block]?) : CellsAt w' p xs := by
  intro j u hu
  have h1 := h j u hu
  obtain ⟨b, off, sl⟩ := p
  simp only at hp hk
  subst hp
  rw [addr_add] at h1 ⊢
  simp only [World.cell?] at h1 ⊢
  rw [hk]; exact h1
end

section
open Go Go.RowKit

theorem Cls.grownD {w0 W w w' : World} {L : List Nat} {row : Option Nat} (h : Cls w0 W L [] w) (k : w.grownBy w' row) (hr : ∀ g, row = some g → g ∉ L) (h0 : ∀ g, row = some g → w0.heap.size ≤ g) : Cls w0 W L [] w' :=
  ⟨h.base.grown k h0, ⟨Nat.le_trans h.kept.1 k.size, h.kept.2.1, fun g hg => (k.block g (Nat.lt_of_lt_of_le (h.kept.2.1 g hg) h.kept.1) (fun e => hr g e.symm hg)).trans (h.kept.2.2 g hg)⟩, by simp⟩

theorem mergeN_length (nd : List UInt8 → List UInt8 → List UInt8) (t : Nat) (l : List (List UInt8)) (h : t < l.length) : (mergeN nd t l).length = l.length - t := by
  induction t generalizing l with
  | zero => rfl
  | succ t ih =>
    have h2 := mergeE_length nd (l := l) (by omega)
    show (mergeN nd t (mergeE nd l)).length = _
    rw [ih _ (by omega), h2]; omega
theorem own_someB {w : World} {B : Nat} {e : TypeId} {z n c : Nat} {a : Option Addr} {xs : List Value} (h : w.ownsRow B e z (.slice a n c) n xs) (hn : 0 < n) : ∃ q, a = some ⟨q, 0, none⟩ ∧ q < w.heap.size ∧ n ≤ c := by
  rcases h.2 with ⟨hv, rfl⟩ | ⟨g, cap, cur, hv, hb, hg, h1, _⟩
  · omega
  · cases hv
    exact ⟨g, rfl, (Array.getElem?_eq_some_iff.1 hg).1, h1⟩

/-- a frontier behind the world W1: its size, its peaks -/
def FrontAt (W1 w : World) (g S : Nat) (ls : List (List UInt8)) : Prop :=
  ∃ a n c, ls.length = n ∧ W1.heap.size ≤ g ∧ Blk w g (frL S (.slice a n c)) 48 ∧ w.ownsRow W1.heap.size 31 32 (.slice a n c) n (rows ls) ∧ (Value.slice a n c).ownBlock ≠ some g ∧ Ext W1 w

set_option maxRecDepth 100000 in
set_option maxHeartbeats 2000000 in
theorem add_c (g S : Nat) (y : List UInt8) (ls : List (List UInt8)) (W1 w : World) (hF : FrontAt W1 w g S ls) (h32 : All32 ls) (hS : S < 65536) (hn30 : ls.length ≤ 30) (hy : y.length = 32) (hT : Tab64 W1) (ht : Lib.ctzFrom 64 (S + 1) ≤ ls.length) :
    Calls Tryd.prog 10 #[.pointer (some ⟨g, 0, none⟩), .agg (y.map u8v).toArray] w fun e w' => e = .returned (.int .i64 0) ∧ FrontAt W1 w' g (S + 1) (mergeN nodeL (Lib.ctzFrom 64 (S + 1)) (ls ++ [y])) := by
  obtain ⟨a, n, c, hl, hg, hb, hown, hne, hE⟩ := hF
  have htz := hid (fun w' h => trailingZeros_c (S + 1) w' (by omega) (by omega) h)
  have HY := hid hy
  have HYV := hid (show (y.map u8v).length = 32 by rw [List.length_map, hy])
  have hglt := hb.lt
  have hvlt := own_block_lt' hown
  have HT := hid hT
  have hL0 : (ls ++ [y]).length = n + 1 := by rw [List.length_append, hl]; rfl
  have h32L : All32 (ls ++ [y]) := h32.append (All32.one hy)
  have HL0 := hid hL0
  have H32L := hid h32L
  clear hL0 h32L
  rw [hl] at hn30 ht
  generalize htv : Lib.ctzFrom 64 (S + 1) = T at *
  have hsz : IntKind.i64.wrap ((S : Int) + 1) = ((S + 1 : Nat) : Int) := by rw [IntWalk.i64_in _ (by omega)]; omega
  have hS1 : S + 1 ≤ 65536 := by omega
  generalize S + 1 = S1 at *
  have g1 : decide ((S : Int) ≥ 65536) = false := decide_eq_false (by omega)
  have g2 : decide (65536 ≤ (S : Int)) = false := decide_eq_false (by omega)
  have g3 : decide (65536 ≤ S) = false := decide_eq_false (by omega)
  generalize hL0e : ls ++ [y] = L0 at *
  have HL0E := hid hL0e
  clear hL0e
  clear hT hy h32 hl htv
  go_enter Tryd.func10, Tryd.ntmps10
  go_upto_region 1 with (fail)
  generalize hwA : World.alloc w _ = wA
  have yA : Blk wA w.heap.size (y.map u8v) 31 := by rw [← hwA]; exact Blk.mk_alloc rfl rfl
  have eA : Ext w wA := by rw [← hwA]; exact (Ext.refl w).alloc _
  have bA := hb.ext eA
  have oA := ownsRow_ext hown eA
  have EA := hid (hE.ext eA)
  have c0 : wA.cell? ⟨g, 0, none⟩ = some (.int .i64 (S : Int)) := bA.cell' rfl
  have f0 : wA.frozen? ⟨g, 0, none⟩ = false := bA.frozen 0
  have YA := hid yA
  have BA := hid bA
  have OA := hid oA
  clear hwA yA bA oA eA hb hown hE
  go_upto_region 4 with (fail)
  generalize hwB : World.setCell wA _ _ = wB
  have uB : Upd wA g wB := by rw [← hwB]; exact Upd.setCell _
  have bB : Blk wB g (frL S1 (.slice a n c)) 48 := by rw [← hwB]; exact BA.out.set 0 _
  have YB := hid (YA.out.upd uB (by omega))
  have oB := OA.out.kept (gby_upd (gby_self wA (some g)) uB) (.inr hne)
  have EB := hid (uB.ext EA.out hg)
  have BB := hid bB
  have OB := hid oB
  have hyB : W1.heap.size ≤ w.heap.size := Nat.le_trans hg (Nat.le_of_lt hglt)
  clear hwB uB bB oB YA BA OA EA c0 f0
  obtain ⟨C, hC⟩ : ∃ C : World → Prop, C = Cls W1 wB [g, w.heap.size] [] := ⟨_, rfl⟩
  have hC0 : ∀ w', C w' ↔ Cls W1 wB [g, w.heap.size] [] w' := fun w' => by rw [hC]
  clear hC
  have HCC := hid hC0
  clear hC0
  have hCx : ∀ w w', C w → Ext w w' → C w' := fun w w' h1 h2 => (HCC.out w').2 (((HCC.out w).1 h1).ext h2)
  have hCA : C wB := (HCC.out _).2 (Cls.no_room EB.out (Kept.two BB.out.lt YB.out.lt))
  have e1 : ∀ w1, C w1 → w1.cell? ⟨g, 1, none⟩ = some (.slice a n c) := fun w1 h1 => (((HCC.out w1).1 h1).blk BB.out (by simp)).cell' rfl
  refine wp_region_w (S := C) (W := [10]) (by kernel_rfl) (hCx _ _ hCA (Ext.refl _).drew) (fun hS0 => ?_)
  refine w_pure 0 (v := ?tv1) rfl (by kernel_rfl) (by kernel_rfl) (by kernel_rfl) (fun _ _ _ h => h) (.inl ⟨rfl, ?ty1⟩) ?tr1
  case ty1 => (intro _ _; go_simp; try with_reducible rfl)
  case tr1 =>
  simp only [Act.put, List.setIfInBounds_toArray, List.set_cons_succ, List.set_cons_zero]
  refine w_pure 1 (v := ?tv2) rfl (by kernel_rfl) (by kernel_rfl) (by kernel_rfl) (fun _ _ _ h => h) (.inl ⟨rfl, ?ty2⟩) ?tr2
  case ty2 => (intro _ _; go_simp; try with_reducible rfl)
  case tr2 =>
  simp only [Act.put, List.setIfInBounds_toArray, List.set_cons_succ, List.set_cons_zero]
  refine w_pure 2 (v := ?tv3) rfl (by kernel_rfl) (by kernel_rfl) (by kernel_rfl) (fun _ _ _ h => h) (.inl ⟨rfl, ?ty3⟩) ?tr3
  case ty3 => (intro _ _; go_simp; try with_reducible rfl)
  case tr3 =>
  simp only [Act.put, List.setIfInBounds_toArray, List.set_cons_succ, List.set_cons_zero]
  refine w_pure 3 (v := ?tv4) rfl (by kernel_rfl) (by kernel_rfl) (by kernel_rfl) (fun _ _ _ h => h) (.inl ⟨rfl, ?ty4⟩) ?tr4
  case ty4 => (intro _ _; go_simp; try with_reducible rfl)
  case tr4 =>
  simp only [Act.put, List.setIfInBounds_toArray, List.set_cons_succ, List.set_cons_zero]
  refine w_take 4 (v := ?tv5) rfl (by kernel_rfl) (by kernel_rfl) (by kernel_rfl) (by kernel_rfl) (by kernel_rfl) (fun _ _ _ h => h) (.inl ⟨rfl, ?ty5⟩) hS0 ?tr5
  case ty5 => (intro wq hwq; have hcq := (e1) wq hwq; go_simp; try with_reducible rfl)
  case tr5 =>
  simp only [Act.put, List.setIfInBounds_toArray, List.set_cons_succ, List.set_cons_zero]
  refine w_take 5 (v := _) rfl (by kernel_rfl) (by kernel_rfl) (by kernel_rfl) (by kernel_rfl) (by kernel_rfl) (fun _ _ _ h => h) (yieldsI_loadw rfl 31 _ rfl rfl (fun w1 h => ((HCC.out w1).1 h).blk YB.out (by simp)) agg_apisum HYV.out) hS0 ?_
  simp only [Act.put, List.setIfInBounds_toArray, List.set_cons_succ, List.set_cons_zero]
  have eG : Ext wB wB.drew := (Ext.refl wB).drew
  have OG := hid (ownsRow_ext OB.out eG)
  clear eG
  have hBG : W1.heap.size ≤ wB.drew.heap.size := ((HCC.out _).1 hS0).base.size
  generalize wB.drew = wG at *
  refine w_one (i := 6) (by kernel_rfl) rfl (by kernel_rfl) hS0 ?_
  intro Q' hQ
  go_wp2_with (refine wpl_buildRow rfl rfl rfl HY.out ?_)
  have hH : C (wG.alloc (.cells (y.map u8v).toArray 31)) := hCx _ _ hS0 ((Ext.refl wG).alloc _)
  have OH := hid (ownsRow_ext OG.out ((Ext.refl wG).alloc (.cells (y.map u8v).toArray 31)))
  have BH := hid (Blk.alloc_new wG (y.map u8v) 31)
  have hBH : W1.heap.size ≤ (wG.alloc (.cells (y.map u8v).toArray 31)).heap.size := Nat.le_trans hBG ((Ext.refl wG).alloc _).size
  go_wp2_with fail
  refine hQ _ _ hH ?_
  clear hQ Q' hS0 OG hBG
  generalize wG.alloc (.cells (y.map u8v).toArray 31) = wH at *
  generalize wG.heap.size = gy at *
  have hS0 := hH
  clear hH
  try dsimp only
  try simp only [Act.put, List.setIfInBounds_toArray, List.set_cons_succ, List.set_cons_zero]
  refine w_one (i := 7) (by kernel_rfl) rfl (by kernel_rfl) hS0 ?_
  intro Q' hQ
  go_wp2_with (first | (at_builtin; refine wpl_append_rowB rfl _ _ rfl W1.heap.size rfl rfl OH.out HY.out BH.out (by omega) hBH ?_))
  intro v2 wI own2 g2 blk2
  rw [HL0E.out] at own2
  have hv2 := own_block_ge OH.out
  have hI : C wI := (HCC.out wI).2 (((HCC.out wH).1 hS0).grownD g2 (by intro q hq; have h8 := hvlt _ hq; simp only [List.mem_cons, List.not_mem_nil, or_false, not_or]; exact ⟨fun e => hne (by rw [hq, e]), by omega⟩) (by intro q hq; exact hv2 _ hq))
  have OI := hid own2
  have hne2 : v2.ownBlock ≠ some g := by
    rcases blk2 with h | h
    · rw [h]; exact hne
    · rw [h]
      intro e
      cases e
      have := (((HCC.out wH).1 hS0).blk BB.out (by simp)).lt
      omega
  go_wp2_with fail
  refine hQ _ _ hI ?_
  clear hQ Q' hS0 OH own2 g2 hv2 hBH BH blk2
  try dsimp only
  try simp only [Act.put, List.setIfInBounds_toArray, List.set_cons_succ, List.set_cons_zero]
  refine w_pure 8 (v := ?tv6) rfl (by kernel_rfl) (by kernel_rfl) (by kernel_rfl) (fun _ _ _ h => h) (.inl ⟨rfl, ?ty6⟩) ?tr6
  case ty6 => (intro _ _; go_simp; try with_reducible rfl)
  case tr6 =>
  simp only [Act.put, List.setIfInBounds_toArray, List.set_cons_succ, List.set_cons_zero]
  refine w_pure 9 (v := ?tv7) rfl (by kernel_rfl) (by kernel_rfl) (by kernel_rfl) (fun _ _ _ h => h) (.inl ⟨rfl, ?ty7⟩) ?tr7
  case ty7 => (intro _ _; go_simp; try with_reducible rfl)
  case tr7 =>
  simp only [Act.put, List.setIfInBounds_toArray, List.set_cons_succ, List.set_cons_zero]
  have BI := hid (((HCC.out wI).1 hI).blk BB.out (by simp))
  have EI := hid ((HCC.out wI).1 hI).base
  have q1 : wI.cell? ⟨g, 1, none⟩ = some (.slice a n c) := BI.out.cell' rfl
  have q2 : wI.frozen? ⟨g, 1, none⟩ = false := BI.out.frozen 1
  obtain ⟨pa, pc, rfl, -⟩ := own_sliceT (by omega) OI.out
  clear hI hCx hCA HCC e1 YB EB BB OB
  refine w_late (i := 10) (by kernel_rfl) rfl (by kernel_rfl) ?_
  intro Q' hQ
  go_wp2_with fail
  refine hQ _ _ trivial ?_
  clear hQ Q' q1 q2
  refine w_done (by kernel_rfl) ?_ _
  have bJ : Blk (wI.setCell ⟨g, 1, none⟩ (.slice pa (n + 1) pc)) g (frL S1 (.slice pa (n + 1) pc)) 48 := BI.out.set 1 _
  have uJ : Upd wI g (wI.setCell ⟨g, 1, none⟩ (.slice pa (n + 1) pc)) := Upd.setCell _
  have oJ := OI.out.kept (gby_upd (gby_self wI (some g)) uJ) (.inr hne2)
  have EJ := hid (uJ.ext EI.out hg)
  have BJ := hid bJ
  have OJ := hid oJ
  have HNE2 := hid hne2
  clear uJ bJ oJ BI EI OI
  generalize wI.setCell ⟨g, 1, none⟩ (.slice pa (n + 1) pc) = wJ at *
  have c0 : wJ.cell? ⟨g, 0, none⟩ = some (.int .i64 (S1 : Int)) := BJ.out.cell' rfl
  have hu : IntKind.u64.wrap (S1 : Int) = S1 := IntWalk.u64_in _ (by omega)
  go_wp2_with (first | (go_at_call 20; refine (htz.out _ (HT.out.ext EJ.out)).mono ?_; rintro e w' ⟨rfl, rfl⟩))
  clear c0 hu
  clear hvlt hne hne2 HY HYV htz HT hsz
  go_loopw [34] (fun x wr => ∃ (j m : Nat) (a' : Option Addr) (c' : Nat), j ≤ T ∧ x = .int .i64 (j : Int) ∧ m + j = n + 1 ∧ Blk wr g (frL S1 (.slice a' m c')) 48 ∧ wr.ownsRow W1.heap.size 31 32 (.slice a' m c') m (rows (mergeN nodeL j L0)) ∧ (Value.slice a' m c').ownBlock ≠ some g ∧ Ext W1 wr) (fun x _ => T - (intOf x).toNat)
  case atStart => exact ⟨0, n + 1, pa, pc, by omega, rfl, rfl, BJ.out, OJ.out, HNE2.out, EJ.out⟩
  case round =>
    obtain ⟨j, m, a', c', hj, rfl, hmj, hB, hO, hN, hE⟩ := hrel
    clear BJ OJ EJ
    have hml := mergeN_length nodeL j L0 (by rw [HL0.out]; omega)
    rw [HL0.out] at hml
    have hM32 := mergeN_32 nodeL nodeL_length j H32L.out
    by_cases hlt : j < T
    · obtain ⟨q0, rfl, hq0, hmc⟩ := own_someB hO (by omega)
      have hq0g : q0 ≠ g := fun e => hN (by rw [e]; rfl)
      obtain ⟨_, _, hv9, -, -, -, hcl⟩ := own_sliceT (by decide) hO
      cases hv9
      have hst := mergeN_last nodeL j L0
      generalize mergeN nodeL j L0 = M at *
      obtain ⟨m2, hm2⟩ : ∃ m2, m2 = m - 2 := ⟨_, rfl⟩
      obtain ⟨m1, hm1⟩ : ∃ m1, m1 = m - 1 := ⟨_, rfl⟩
      obtain ⟨p, hp⟩ : ∃ p, M[m2]? = some p := ⟨M[m2]'(by omega), by simp⟩
      obtain ⟨q, hq⟩ : ∃ q, M[m1]? = some q := ⟨M[m1]'(by omega), by simp⟩
      have hpl := hM32.at hp
      have hql := hM32.at hq
      have hme : mergeE nodeL M = M.take m2 ++ [nodeL p q] := by
        unfold mergeE
        rw [show M.length - 2 = m2 by omega, show M.length - 1 = m1 by omega, hp, hq]; rfl
      rw [hme] at hst
      have hcp0 := hcl.rowAt hM32 hp
      have hcq0 := hcl.rowAt hM32 hq
      have ND := hid (fun w' => node_c p q w' hpl hql)
      have HP := hid (show (p.map u8v).length = 32 by rw [List.length_map, hpl])
      have HQ := hid (show (q.map u8v).length = 32 by rw [List.length_map, hql])
      have HNL := hid (nodeL_length p q)
      have HNV := hid (show ((nodeL p q).map u8v).length = 32 by rw [List.length_map, nodeL_length])
      generalize nodeL p q = nn at *
      have hpre := own_prefix hO (k := m2) (by omega) (by omega)
      rw [show m2 * 32 = 32 * m2 from Nat.mul_comm _ _, rows_take hM32] at hpre
      have HPRE := hid hpre
      have HST := hid hst
      have BW := hid hB
      have EW := hid hE
      have HCP := hid hcp0
      have HCQ := hid hcq0
      have hw2 : IntKind.i64.wrap ((m : Int) - 2) = (m2 : Int) := by rw [IntWalk.i64_in _ (by omega)]; omega
      have hw1 : IntKind.i64.wrap ((m : Int) - 1) = (m1 : Int) := by rw [IntWalk.i64_in _ (by omega)]; omega
      have hm2m : m2 < m := by omega
      have hm1m : m1 < m := by omega
      have hm2c : m2 ≤ c' := by omega
      have hmnew : m2 + 1 + (j + 1) = n + 1 := by omega
      have k1 : decide ((j : Int) < (T : Int)) = true := decide_eq_true (by omega)
      have k2 : decide (j < T) = true := decide_eq_true hlt
      have c1 : wr.cell? ⟨g, 1, none⟩ = some (.slice (some ⟨q0, 0, none⟩) m c') := BW.out.cell' rfl
      have hjT : j + 1 ≤ T := hlt
      have hbound : (m2 + 1) * 32 ≤ 140737488355328 := by omega
      clear hB hO hN hE hcl hml hM32 hst hme hp hq hpl hql hcp0 hcq0 hpre hm2 hm1 hmj hlt hj
      go_wp2_with fail
      clear c1
      obtain ⟨C, hC⟩ : ∃ C : World → Prop, C = Cls W1 wr [g, q0] [] := ⟨_, rfl⟩
      have hC0 : ∀ w', C w' ↔ Cls W1 wr [g, q0] [] w' := fun w' => by rw [hC]
      clear hC
      have HCC := hid hC0
      clear hC0
      have hCx : ∀ w w', C w → Ext w w' → C w' := fun w w' h1 h2 => (HCC.out w').2 (((HCC.out w).1 h1).ext h2)
      have hCA : C wr := (HCC.out _).2 (Cls.no_room EW.out (Kept.two BW.out.lt hq0))
      have e1 : ∀ w1, C w1 → w1.cell? ⟨g, 1, none⟩ = some (.slice (some ⟨q0, 0, none⟩) m c') := fun w1 h1 => (((HCC.out w1).1 h1).blk BW.out (by simp)).cell' rfl
      have hkq : ∀ w1, C w1 → w1.heap[q0]? = wr.heap[q0]? := fun w1 h1 => ((HCC.out w1).1 h1).kept.2.2 q0 (by simp)
      have hcp : ∀ w1, C w1 → CellsAt w1 ((⟨q0, 0, none⟩ : Addr).add (m2 * 32)) (p.map u8v) := fun w1 h1 => HCP.out.keep (by rw [addr_add]) (by rw [addr_add]; exact hkq w1 h1)
      have hcq : ∀ w1, C w1 → CellsAt w1 ((⟨q0, 0, none⟩ : Addr).add (m1 * 32)) (q.map u8v) := fun w1 h1 => HCQ.out.keep (by rw [addr_add]) (by rw [addr_add]; exact hkq w1 h1)
      have hpo : ∀ w1, C w1 → w1.ownsRow W1.heap.size 31 32 (.slice (some ⟨q0, 0, none⟩) m2 c') m2 (rows (M.take m2)) := fun w1 h1 => own_keep HPRE.out (by intro z hz; cases hz; exact hkq w1 h1)
      refine wp_region_w (S := C) (W := [26, 29]) (by kernel_rfl) (hCx _ _ hCA (Ext.refl _).drew) (fun hS0 => ?_)
      refine w_pure 0 (v := ?tv8) rfl (by kernel_rfl) (by kernel_rfl) (by kernel_rfl) (fun _ _ _ h => h) (.inl ⟨rfl, ?ty8⟩) ?tr8
      case ty8 => (intro _ _; go_simp; try with_reducible rfl)
      case tr8 =>
      simp only [Act.put, List.setIfInBounds_toArray, List.set_cons_succ, List.set_cons_zero]
      refine w_pure 1 (v := ?tv9) rfl (by kernel_rfl) (by kernel_rfl) (by kernel_rfl) (fun _ _ _ h => h) (.inl ⟨rfl, ?ty9⟩) ?tr9
      case ty9 => (intro _ _; go_simp; try with_reducible rfl)
      case tr9 =>
      simp only [Act.put, List.setIfInBounds_toArray, List.set_cons_succ, List.set_cons_zero]
      refine w_pure 2 (v := ?tv10) rfl (by kernel_rfl) (by kernel_rfl) (by kernel_rfl) (fun _ _ _ h => h) (.inl ⟨rfl, ?ty10⟩) ?tr10
      case ty10 => (intro _ _; go_simp; try with_reducible rfl)
      case tr10 =>
      simp only [Act.put, List.setIfInBounds_toArray, List.set_cons_succ, List.set_cons_zero]
      refine w_pure 3 (v := ?tv11) rfl (by kernel_rfl) (by kernel_rfl) (by kernel_rfl) (fun _ _ _ h => h) (.inl ⟨rfl, ?ty11⟩) ?tr11
      case ty11 => (intro _ _; go_simp; try with_reducible rfl)
      case tr11 =>
      simp only [Act.put, List.setIfInBounds_toArray, List.set_cons_succ, List.set_cons_zero]
      refine w_take 4 (v := ?tv12) rfl (by kernel_rfl) (by kernel_rfl) (by kernel_rfl) (by kernel_rfl) (by kernel_rfl) (fun _ _ _ h => h) (.inl ⟨rfl, ?ty12⟩) hS0 ?tr12
      case ty12 => (intro wq hwq; have hcq := (e1) wq hwq; go_simp; try with_reducible rfl)
      case tr12 =>
      simp only [Act.put, List.setIfInBounds_toArray, List.set_cons_succ, List.set_cons_zero]
      refine w_pure 5 (v := ?tv13) rfl (by kernel_rfl) (by kernel_rfl) (by kernel_rfl) (fun _ _ _ h => h) (.inl ⟨rfl, ?ty13⟩) ?tr13
      case ty13 => (intro _ _; go_simp; try with_reducible rfl)
      case tr13 =>
      simp only [Act.put, List.setIfInBounds_toArray, List.set_cons_succ, List.set_cons_zero]
      refine w_pure 6 (v := ?tv14) rfl (by kernel_rfl) (by kernel_rfl) (by kernel_rfl) (fun _ _ _ h => h) (.inl ⟨rfl, ?ty14⟩) ?tr14
      case ty14 => (intro _ _; go_simp; try with_reducible rfl)
      case tr14 =>
      simp only [Act.put, List.setIfInBounds_toArray, List.set_cons_succ, List.set_cons_zero]
      refine w_pure 7 (v := _) rfl (by kernel_rfl) (by kernel_rfl) (by kernel_rfl) (fun _ _ _ h => h) (yieldsI_run rfl (fun w1 _ => exec_high (k := m2) rfl rfl rfl Tryd.underlying22 size_apisum hm2c w1)) ?_
      simp only [Act.put, List.setIfInBounds_toArray, List.set_cons_succ, List.set_cons_zero]
      refine w_pure 8 (v := ?tv15) rfl (by kernel_rfl) (by kernel_rfl) (by kernel_rfl) (fun _ _ _ h => h) (.inl ⟨rfl, ?ty15⟩) ?tr15
      case ty15 => (intro _ _; go_simp; try with_reducible rfl)
      case tr15 =>
      simp only [Act.put, List.setIfInBounds_toArray, List.set_cons_succ, List.set_cons_zero]
      refine w_pure 9 (v := ?tv16) rfl (by kernel_rfl) (by kernel_rfl) (by kernel_rfl) (fun _ _ _ h => h) (.inl ⟨rfl, ?ty16⟩) ?tr16
      case ty16 => (intro _ _; go_simp; try with_reducible rfl)
      case tr16 =>
      simp only [Act.put, List.setIfInBounds_toArray, List.set_cons_succ, List.set_cons_zero]
      refine w_pure 10 (v := ?tv17) rfl (by kernel_rfl) (by kernel_rfl) (by kernel_rfl) (fun _ _ _ h => h) (.inl ⟨rfl, ?ty17⟩) ?tr17
      case ty17 => (intro _ _; go_simp; try with_reducible rfl)
      case tr17 =>
      simp only [Act.put, List.setIfInBounds_toArray, List.set_cons_succ, List.set_cons_zero]
      refine w_take 11 (v := ?tv18) rfl (by kernel_rfl) (by kernel_rfl) (by kernel_rfl) (by kernel_rfl) (by kernel_rfl) (fun _ _ _ h => h) (.inl ⟨rfl, ?ty18⟩) hS0 ?tr18
      case ty18 => (intro wq hwq; have hcq := (e1) wq hwq; go_simp; try with_reducible rfl)
      case tr18 =>
      simp only [Act.put, List.setIfInBounds_toArray, List.set_cons_succ, List.set_cons_zero]
      refine w_pure 12 (v := ?tv19) rfl (by kernel_rfl) (by kernel_rfl) (by kernel_rfl) (fun _ _ _ h => h) (.inl ⟨rfl, ?ty19⟩) ?tr19
      case ty19 => (intro _ _; go_simp; try with_reducible rfl)
      case tr19 =>
      simp only [Act.put, List.setIfInBounds_toArray, List.set_cons_succ, List.set_cons_zero]
      refine w_pure 13 (v := ?tv20) rfl (by kernel_rfl) (by kernel_rfl) (by kernel_rfl) (fun _ _ _ h => h) (.inl ⟨rfl, ?ty20⟩) ?tr20
      case ty20 => (intro _ _; go_simp; try with_reducible rfl)
      case tr20 =>
      simp only [Act.put, List.setIfInBounds_toArray, List.set_cons_succ, List.set_cons_zero]
      refine w_pure 14 (v := _) rfl (by kernel_rfl) (by kernel_rfl) (by kernel_rfl) (fun _ _ _ h => h) (yieldsI_run rfl (fun w1 _ => exec_index (i := m2) rfl rfl rfl Tryd.underlying22 size_apisum hm2m w1)) ?_
      simp only [Act.put, List.setIfInBounds_toArray, List.set_cons_succ, List.set_cons_zero]
      refine w_take 15 (v := _) rfl (by kernel_rfl) (by kernel_rfl) (by kernel_rfl) (by kernel_rfl) (by kernel_rfl) (fun _ _ _ h => h) (yieldsI_run rfl (fun w1 h => exec_load_at rfl rfl (hcp w1 h) agg_apisum HP.out)) hS0 ?_
      simp only [Act.put, List.setIfInBounds_toArray, List.set_cons_succ, List.set_cons_zero]
      refine w_pure 16 (v := ?tv21) rfl (by kernel_rfl) (by kernel_rfl) (by kernel_rfl) (fun _ _ _ h => h) (.inl ⟨rfl, ?ty21⟩) ?tr21
      case ty21 => (intro _ _; go_simp; try with_reducible rfl)
      case tr21 =>
      simp only [Act.put, List.setIfInBounds_toArray, List.set_cons_succ, List.set_cons_zero]
      refine w_pure 17 (v := ?tv22) rfl (by kernel_rfl) (by kernel_rfl) (by kernel_rfl) (fun _ _ _ h => h) (.inl ⟨rfl, ?ty22⟩) ?tr22
      case ty22 => (intro _ _; go_simp; try with_reducible rfl)
      case tr22 =>
      simp only [Act.put, List.setIfInBounds_toArray, List.set_cons_succ, List.set_cons_zero]
      refine w_pure 18 (v := ?tv23) rfl (by kernel_rfl) (by kernel_rfl) (by kernel_rfl) (fun _ _ _ h => h) (.inl ⟨rfl, ?ty23⟩) ?tr23
      case ty23 => (intro _ _; go_simp; try with_reducible rfl)
      case tr23 =>
      simp only [Act.put, List.setIfInBounds_toArray, List.set_cons_succ, List.set_cons_zero]
      refine w_take 19 (v := ?tv24) rfl (by kernel_rfl) (by kernel_rfl) (by kernel_rfl) (by kernel_rfl) (by kernel_rfl) (fun _ _ _ h => h) (.inl ⟨rfl, ?ty24⟩) hS0 ?tr24
      case ty24 => (intro wq hwq; have hcq := (e1) wq hwq; go_simp; try with_reducible rfl)
      case tr24 =>
      simp only [Act.put, List.setIfInBounds_toArray, List.set_cons_succ, List.set_cons_zero]
      refine w_pure 20 (v := ?tv25) rfl (by kernel_rfl) (by kernel_rfl) (by kernel_rfl) (fun _ _ _ h => h) (.inl ⟨rfl, ?ty25⟩) ?tr25
      case ty25 => (intro _ _; go_simp; try with_reducible rfl)
      case tr25 =>
      simp only [Act.put, List.setIfInBounds_toArray, List.set_cons_succ, List.set_cons_zero]
      refine w_pure 21 (v := ?tv26) rfl (by kernel_rfl) (by kernel_rfl) (by kernel_rfl) (fun _ _ _ h => h) (.inl ⟨rfl, ?ty26⟩) ?tr26
      case ty26 => (intro _ _; go_simp; try with_reducible rfl)
      case tr26 =>
      simp only [Act.put, List.setIfInBounds_toArray, List.set_cons_succ, List.set_cons_zero]
      refine w_pure 22 (v := _) rfl (by kernel_rfl) (by kernel_rfl) (by kernel_rfl) (fun _ _ _ h => h) (yieldsI_run rfl (fun w1 _ => exec_index (i := m1) rfl rfl rfl Tryd.underlying22 size_apisum hm1m w1)) ?_
      simp only [Act.put, List.setIfInBounds_toArray, List.set_cons_succ, List.set_cons_zero]
      refine w_take 23 (v := _) rfl (by kernel_rfl) (by kernel_rfl) (by kernel_rfl) (by kernel_rfl) (by kernel_rfl) (fun _ _ _ h => h) (yieldsI_run rfl (fun w1 h => exec_load_at rfl rfl (hcq w1 h) agg_apisum HQ.out)) hS0 ?_
      simp only [Act.put, List.setIfInBounds_toArray, List.set_cons_succ, List.set_cons_zero]
      clear hw1 hw2
      generalize wr.drew = wG at *
      refine w_one (i := 24) (by kernel_rfl) rfl (by kernel_rfl) hS0 ?_
      intro Q' hQ
      go_wp2_with fail
      refine (ND.out _).mono ?_
      rintro e wX ⟨rfl, eq9⟩
      have hS9 := hCx _ _ hS0 eq9
      go_wp2_with fail
      refine hQ _ _ hS9 ?_
      clear hQ Q' hS0 eq9
      have hS0 := hS9
      clear hS9
      try dsimp only
      try simp only [Act.put, List.setIfInBounds_toArray, List.set_cons_succ, List.set_cons_zero]
      refine w_one (i := 25) (by kernel_rfl) rfl (by kernel_rfl) hS0 ?_
      intro Q' hQ
      go_wp2_with (refine wpl_buildRow rfl rfl rfl HNL.out ?_)
      have hH : C (wX.alloc (.cells (nn.map u8v).toArray 31)) := hCx _ _ hS0 ((Ext.refl wX).alloc _)
      have BH := hid (Blk.alloc_new wX (nn.map u8v) 31)
      go_wp2_with fail
      refine hQ _ _ hH ?_
      clear hQ Q' hS0
      generalize wX.alloc (.cells (nn.map u8v).toArray 31) = wH at *
      generalize wX.heap.size = gy at *
      have OH := hid (hpo wH hH)
      have GH := hid (((HCC.out wH).1 hH).blk BW.out (by simp))
      have EH := hid ((HCC.out wH).1 hH).base
      have hBH : W1.heap.size ≤ wH.heap.size := EH.out.size
      clear hH hCx hCA HCC e1 hkq hcp hcq hpo
      try dsimp only
      try simp only [Act.put, List.setIfInBounds_toArray, List.set_cons_succ, List.set_cons_zero]
      refine w_late (i := 26) (by kernel_rfl) rfl (by kernel_rfl) ?_
      intro Q' hQ
      go_wp2_with (first | (at_builtin; refine wpl_append_rowB rfl _ _ rfl W1.heap.size rfl rfl OH.out HNL.out BH.out hbound hBH ?_))
      intro v2 wI own2 g2 blk2
      have hv2 := own_block_ge OH.out
      have OI := hid own2
      have hGI := GH.out.grown g2 (by intro e; cases e; exact hq0g rfl)
      have GI := hid hGI
      have EI := hid (EH.out.grown g2 (by intro z hz; exact hv2 _ hz))
      have hne2 : v2.ownBlock ≠ some g := by
        rcases blk2 with h | h
        · rw [h]; intro e; cases e; exact hq0g rfl
        · rw [h]; intro e; cases e; have := GH.out.lt; omega
      go_wp2_with fail
      refine hQ _ _ trivial ?_
      clear hQ Q' OH own2 g2 hv2 hBH BH blk2 hGI GH EH
      try dsimp only
      try simp only [Act.put, List.setIfInBounds_toArray, List.set_cons_succ, List.set_cons_zero]
      refine w_pure 27 (v := ?tv27) rfl (by kernel_rfl) (by kernel_rfl) (by kernel_rfl) (fun _ _ _ h => h) (.inl ⟨rfl, ?ty27⟩) ?tr27
      case ty27 => (intro _ _; go_simp; try with_reducible rfl)
      case tr27 =>
      simp only [Act.put, List.setIfInBounds_toArray, List.set_cons_succ, List.set_cons_zero]
      refine w_pure 28 (v := ?tv28) rfl (by kernel_rfl) (by kernel_rfl) (by kernel_rfl) (fun _ _ _ h => h) (.inl ⟨rfl, ?ty28⟩) ?tr28
      case ty28 => (intro _ _; go_simp; try with_reducible rfl)
      case tr28 =>
      simp only [Act.put, List.setIfInBounds_toArray, List.set_cons_succ, List.set_cons_zero]
      have q1 : wI.cell? ⟨g, 1, none⟩ = some (.slice (some ⟨q0, 0, none⟩) m c') := GI.out.cell' rfl
      have q2 : wI.frozen? ⟨g, 1, none⟩ = false := GI.out.frozen 1
      obtain ⟨pb, pd, rfl, -⟩ := own_sliceT (by omega) OI.out
      refine w_late (i := 29) (by kernel_rfl) rfl (by kernel_rfl) ?_
      intro Q' hQ
      go_wp2_with fail
      refine hQ _ _ trivial ?_
      clear hQ Q' q1 q2
      refine w_done (by kernel_rfl) ?_ _
      have bJ : Blk (wI.setCell ⟨g, 1, none⟩ (.slice pb (m2 + 1) pd)) g (frL S1 (.slice pb (m2 + 1) pd)) 48 := GI.out.set 1 _
      have uJ : Upd wI g (wI.setCell ⟨g, 1, none⟩ (.slice pb (m2 + 1) pd)) := Upd.setCell _
      have oJ := OI.out.kept (gby_upd (gby_self wI (some g)) uJ) (.inr hne2)
      have EJ := hid (uJ.ext EI.out hg)
      have BJ := hid bJ
      have OJ := hid oJ
      have HN2 := hid hne2
      clear uJ bJ oJ GI EI OI hne2
      generalize wI.setCell ⟨g, 1, none⟩ (.slice pb (m2 + 1) pd) = wJ2 at *
      go_wp2_with fail
      go_roundw
      case rel => exact ⟨j + 1, m2 + 1, pb, pd, hjT, by first | rfl | go_num, hmnew, BJ.out, by rw [HST.out]; exact OJ.out, HN2.out, EJ.out⟩
      case measure => first | (simp [intOf]; done) | (simp [intOf]; omega)
    · obtain rfl : j = T := by omega
      have HB := hid hB
      have HO := hid hO
      have HN := hid hN
      have HE := hid hE
      have HML := hid hml
      have k1 : decide ((j : Int) < (j : Int)) = false := decide_eq_false (by omega)
      clear hB hO hN hE hml hM32
      go_wp2_with fail
      go_ret
      exact ⟨rfl, a', m, c', by rw [HML.out]; omega, hg, HB.out, HO.out, HN.out, HE.out⟩
end

section
open Go Go.RowKit

theorem bagL_end (nd : List UInt8 → List UInt8 → List UInt8) (xs : List (List UInt8)) (p r : List UInt8) : bagL nd (xs ++ [p, r]) = bagL nd (xs ++ [nd p r]) := by
  induction xs with
  | nil => rfl
  | cons x xs ih =>
    rw [List.cons_append, List.cons_append, bagL_cons nd x (by simp), bagL_cons nd x (by simp), ih]

set_option maxRecDepth 100000 in
set_option maxHeartbeats 1000000 in
theorem newFrontier_c (w : World) :
    Calls Tryd.prog 12 #[] w fun e w' => ∃ g, e = .returned (.pointer (some ⟨g, 0, none⟩)) ∧ FrontAt w w' g 0 [] := by
  go_enter Tryd.func12, Tryd.ntmps12
  go_wp2
  go_ret
  refine ⟨w.heap.size, rfl, none, 0, 0, rfl, Nat.le_refl _, Blk.mk_alloc rfl rfl, World.ownsRow_nil _ _ _ _, (fun h => by cases h), (Ext.refl w).alloc _⟩

set_option maxRecDepth 100000 in
set_option maxHeartbeats 1000000 in
theorem root_zero (g : Nat) (v : Value) (T : TypeId) (w : World) (hb : Blk w g (frL 0 v) T) :
    Calls Tryd.prog 13 #[.pointer (some ⟨g, 0, none⟩)] w fun e w' => e = .returned (.tuple #[.agg (zero32.map u8v).toArray, .int .i64 10]) ∧ Ext w w' := by
  have HZ := hid (show (zero32.map u8v).length = 32 by rw [List.length_map]; exact zero32_length)
  go_enter Tryd.func13, Tryd.ntmps13
  go_upto_region 1 with (fail)
  generalize hwA : World.alloc w _ = wA
  have zA : Blk wA w.heap.size (zero32.map u8v) 31 := by rw [← hwA, zero32_map]; exact Blk.mk_alloc rfl rfl
  have eA : Ext w wA := by rw [← hwA]; exact (Ext.refl w).alloc _
  have c0 : wA.cell? ⟨g, 0, none⟩ = some (.int .i64 0) := (hb.ext eA).cell' rfl
  clear hwA hb
  have ZA := hid zA
  have EA := hid eA
  clear zA eA
  go_wp2_with (first | (refine wpl_storew rfl _ (.tmp 2) _ rfl rfl rfl ZA.out agg_apisum HZ.out (xs := List.replicate 32 (.int .u8 0)) (by simp) (one_zeros 32) ?_))
  intro w4 b4 u4
  have b5 : Blk w4 w.heap.size (zero32.map u8v) 31 := by rw [zero32_map]; exact b4
  go_wp2
  exact ret_row2 rfl rfl b5 agg_apisum HZ.out rfl ⟨rfl, u4.ext EA.out (by omega)⟩

set_option maxRecDepth 100000 in
set_option maxHeartbeats 2000000 in
theorem froot_c (g S : Nat) (T : TypeId) (ls : List (List UInt8)) (a : Option Addr) (n c : Nat) (w : World) (hb : Blk w g (frL S (.slice a n c)) T) (hS : S ≠ 0) (hl : ls.length = n) (h0 : 0 < n) (hn30 : n ≤ 1000) (h32 : All32 ls) (hcl : Cells w a (rows ls)) :
    Calls Tryd.prog 13 #[.pointer (some ⟨g, 0, none⟩)] w fun e w' => e = .returned (.tuple #[.agg ((bagL nodeL ls).map u8v).toArray, .int .i64 0]) ∧ Ext w w' := by
  obtain ⟨A, rfl⟩ : ∃ A, a = some A := by
    cases a with
    | none => rcases hcl with h | ⟨_, _, h, _⟩
              · have := rows_length h32; rw [h, hl] at this; simp at this; omega
              · cases h
    | some A => exact ⟨A, rfl⟩
  obtain ⟨n1, hn1⟩ : ∃ n1, n1 = n - 1 := ⟨_, rfl⟩
  obtain ⟨y, hy⟩ : ∃ y, ls[n1]? = some y := ⟨ls[n1]'(by omega), by simp⟩
  have hyl := h32.at hy
  have hcy := hcl.rowAt h32 hy
  have hlast : ls.take n1 ++ [y] = ls := by
    have h1 : ls.take (n1 + 1) = ls := List.take_of_length_le (by omega)
    rw [List.take_add_one, hy] at h1
    exact h1
  obtain ⟨R, hR⟩ : ∃ R, bagL nodeL ls = R := ⟨_, rfl⟩
  have hRl : R.length = 32 := by rw [← hR]; exact bagL_length nodeL nodeL_length h32
  have hstart : bagL nodeL (ls.take n1 ++ [y]) = R := by rw [hlast, hR]
  rw [hR]
  have HZ := hid (show (zero32.map u8v).length = 32 by rw [List.length_map]; exact zero32_length)
  have HRV := hid (show (R.map u8v).length = 32 by rw [List.length_map, hRl])
  have oR := one_u8 R
  have HY := hid (show (y.map u8v).length = 32 by rw [List.length_map, hyl])
  have oy := one_u8 y
  have HST := hid hstart
  have HYL := hid hyl
  have H32 := hid h32
  have HL := hid hl
  have HC := hid hcl
  have HCY := hid hcy
  have hw1 : IntKind.i64.wrap ((n : Int) - 1) = (n1 : Int) := by rw [IntWalk.i64_in _ (by omega)]; omega
  have hw2 : IntKind.i64.wrap ((n : Int) - 2) = (n1 : Int) - 1 := by rw [IntWalk.i64_in _ (by omega)]; omega
  have hn1n : n1 < n := by omega
  have g1 : ((S : Int) == 0) = false := by simp [hS]
  have g2 : (S == 0) = false := by simp [hS]
  have hglt := hb.lt
  clear hR hRl hstart hlast hyl hy h32 hl hcl hcy hn1
  go_enter Tryd.func13, Tryd.ntmps13
  go_upto_region 1 with (fail)
  generalize hwA : World.alloc w _ = wA
  have zA : Blk wA w.heap.size (zero32.map u8v) 31 := by rw [← hwA, zero32_map]; exact Blk.mk_alloc rfl rfl
  have eA : Ext w wA := by rw [← hwA]; exact (Ext.refl w).alloc _
  have bA := hb.ext eA
  have c0 : wA.cell? ⟨g, 0, none⟩ = some (.int .i64 (S : Int)) := bA.cell' rfl
  have c1 : wA.cell? ⟨g, 1, none⟩ = some (.slice (some A) n c) := bA.cell' rfl
  have ZA := hid zA
  have EA := hid eA
  have BA := hid bA
  have CYA := hid (HCY.out.ext eA)
  have hgz : g ≠ w.heap.size := by omega
  clear zA eA hwA bA hb HCY
  go_wp2_with (first | (refine wpl_run rfl (exec_index (i := n1) rfl rfl rfl Tryd.underlying22 size_apisum hn1n wA) ?_) | (refine wpl_run rfl (exec_load_at rfl rfl CYA.out agg_apisum HY.out) ?_) | (refine wpl_storew rfl _ (.tmp 5) _ rfl rfl rfl (Blk.mk_alloc (vs := List.replicate 32 (.int .u8 0)) rfl rfl) agg_apisum (by simp) HY.out oy ?_))
  intro wB bB uB
  have eB : Ext wA wB := uB.ext ((Ext.refl wA).alloc _) (Nat.le_refl _)
  have RB := hid bB
  have ZB := hid (ZA.out.ext eB)
  have BB := hid (BA.out.ext eB)
  have EB := hid (EA.out.ext eB)
  have hzr : w.heap.size < wA.heap.size := ZA.out.lt
  have hgr : g < wA.heap.size := BA.out.lt
  clear bB uB eB ZA BA EA CYA c0 c1 hw1
  generalize wA.heap.size = gr at *
  go_wp2
  clear hw2
  go_loopw [6] (fun x wr => ∃ (k : Nat) (z : Int) (r : List UInt8), z + 1 = k ∧ k < n ∧ x = .int .i64 z ∧ r.length = 32 ∧ bagL nodeL (ls.take k ++ [r]) = R ∧ Blk wr gr (r.map u8v) 31 ∧ Blk wr g (frL S (.slice (some A) n c)) T ∧ Blk wr w.heap.size (zero32.map u8v) 31 ∧ Ext w wr) (fun x _ => ((intOf x) + 1).toNat)
  case atStart => exact ⟨n1, (n1 : Int) - 1, y, by omega, hn1n, by first | rfl | go_num, HYL.out, HST.out, RB.out, BB.out, ZB.out, EB.out⟩
  case round =>
    obtain ⟨k, z, r, hz, hk, rfl, hr, hbag, hRb, hGb, hZb, hE⟩ := hrel
    have RW := hid hRb
    have BW := hid hGb
    have ZW := hid hZb
    have EW := hid hE
    have HRR := hid (show (r.map u8v).length = 32 by rw [List.length_map, hr])
    clear hRb hGb hZb hE RB BB ZB EB HST
    by_cases h0 : k = 0
    · subst h0
      have hrR : r = R := by simpa [bagL] using hbag
      subst hrR
      have k1 : decide (z ≥ 0) = false := decide_eq_false (by omega)
      have k2 : decide (0 ≤ z) = false := decide_eq_false (by omega)
      clear hbag
      go_wp2_with (first | (refine wpl_loadw rfl 31 (.tmp 5) rfl rfl RW.out agg_apisum HRR.out ?_) | (refine wpl_storew rfl _ (.tmp 2) _ rfl rfl rfl ZW.out agg_apisum HZ.out HRR.out oR ?_))
      intro w4 b4 u4
      go_wp2
      exact ret_row2 rfl rfl b4 agg_apisum HRR.out rfl ⟨rfl, u4.ext EW.out (Nat.le_refl _)⟩
    · obtain ⟨j, rfl⟩ : ∃ j, k = j + 1 := ⟨k - 1, by omega⟩
      obtain rfl : z = (j : Int) := by omega
      obtain ⟨p, hp⟩ : ∃ p, ls[j]? = some p := ⟨ls[j]'(by rw [HL.out]; omega), by simp⟩
      have hpl := H32.out.at hp
      have hst : bagL nodeL (ls.take j ++ [nodeL p r]) = R := by
        rw [← bagL_end, ← hbag, List.take_add_one, hp, List.append_assoc]; rfl
      have HCP := hid (HC.out.rowAt H32.out hp)
      have ND := hid (fun w' => node_c p r w' hpl hr)
      have HP := hid (show (p.map u8v).length = 32 by rw [List.length_map, hpl])
      have HNL := hid (nodeL_length p r)
      have HNV := hid (show ((nodeL p r).map u8v).length = 32 by rw [List.length_map, nodeL_length])
      have on := one_u8 (nodeL p r)
      have HST := hid hst
      generalize nodeL p r = nn at *
      have hjn : j < n := by omega
      have k1 : decide ((j : Int) ≥ 0) = true := decide_eq_true (by omega)
      have k2 : decide ((0 : Int) ≤ (j : Int)) = true := decide_eq_true (by omega)
      clear hst hp hpl hr hbag
      go_wp2_with fail
      obtain ⟨C, hC⟩ : ∃ C : World → Prop, C = Cls w wr [gr, g, w.heap.size] [] := ⟨_, rfl⟩
      have hC0 : ∀ w', C w' ↔ Cls w wr [gr, g, w.heap.size] [] w' := fun w' => by rw [hC]
      clear hC
      have HCC := hid hC0
      clear hC0
      have hCx : ∀ w w', C w → Ext w w' → C w' := fun w w' h1 h2 => (HCC.out w').2 (((HCC.out w).1 h1).ext h2)
      have hCA : C wr := (HCC.out _).2 (Cls.no_room EW.out (Kept.three RW.out.lt BW.out.lt ZW.out.lt))
      have e1 : ∀ w1, C w1 → w1.cell? ⟨g, 1, none⟩ = some (.slice (some A) n c) := fun w1 h1 => (((HCC.out w1).1 h1).blk BW.out (by simp)).cell' rfl
      have hcp : ∀ w1, C w1 → CellsAt w1 (A.add (j * 32)) (p.map u8v) := fun w1 h1 => HCP.out.ext ((HCC.out w1).1 h1).base
      refine wp_region_w (S := C) (W := [9]) (by kernel_rfl) (hCx _ _ hCA (Ext.refl _).drew) (fun hS0 => ?_)
      refine w_pure 0 (v := ?tv1) rfl (by kernel_rfl) (by kernel_rfl) (by kernel_rfl) (fun _ _ _ h => h) (.inl ⟨rfl, ?ty1⟩) ?tr1
      case ty1 => (intro _ _; go_simp; try with_reducible rfl)
      case tr1 =>
      simp only [Act.put, List.setIfInBounds_toArray, List.set_cons_succ, List.set_cons_zero]
      refine w_pure 1 (v := ?tv2) rfl (by kernel_rfl) (by kernel_rfl) (by kernel_rfl) (fun _ _ _ h => h) (.inl ⟨rfl, ?ty2⟩) ?tr2
      case ty2 => (intro _ _; go_simp; try with_reducible rfl)
      case tr2 =>
      simp only [Act.put, List.setIfInBounds_toArray, List.set_cons_succ, List.set_cons_zero]
      refine w_pure 2 (v := ?tv3) rfl (by kernel_rfl) (by kernel_rfl) (by kernel_rfl) (fun _ _ _ h => h) (.inl ⟨rfl, ?ty3⟩) ?tr3
      case ty3 => (intro _ _; go_simp; try with_reducible rfl)
      case tr3 =>
      simp only [Act.put, List.setIfInBounds_toArray, List.set_cons_succ, List.set_cons_zero]
      refine w_take 3 (v := ?tv4) rfl (by kernel_rfl) (by kernel_rfl) (by kernel_rfl) (by kernel_rfl) (by kernel_rfl) (fun _ _ _ h => h) (.inl ⟨rfl, ?ty4⟩) hS0 ?tr4
      case ty4 => (intro wq hwq; have hcq := (e1) wq hwq; go_simp; try with_reducible rfl)
      case tr4 =>
      simp only [Act.put, List.setIfInBounds_toArray, List.set_cons_succ, List.set_cons_zero]
      refine w_pure 4 (v := ?tv5) rfl (by kernel_rfl) (by kernel_rfl) (by kernel_rfl) (fun _ _ _ h => h) (.inl ⟨rfl, ?ty5⟩) ?tr5
      case ty5 => (intro _ _; go_simp; try with_reducible rfl)
      case tr5 =>
      simp only [Act.put, List.setIfInBounds_toArray, List.set_cons_succ, List.set_cons_zero]
      refine w_pure 5 (v := _) rfl (by kernel_rfl) (by kernel_rfl) (by kernel_rfl) (fun _ _ _ h => h) (yieldsI_run rfl (fun w1 _ => exec_index (i := j) rfl rfl rfl Tryd.underlying22 size_apisum hjn w1)) ?_
      simp only [Act.put, List.setIfInBounds_toArray, List.set_cons_succ, List.set_cons_zero]
      refine w_take 6 (v := _) rfl (by kernel_rfl) (by kernel_rfl) (by kernel_rfl) (by kernel_rfl) (by kernel_rfl) (fun _ _ _ h => h) (yieldsI_run rfl (fun w1 h => exec_load_at rfl rfl (hcp w1 h) agg_apisum HP.out)) hS0 ?_
      simp only [Act.put, List.setIfInBounds_toArray, List.set_cons_succ, List.set_cons_zero]
      refine w_take 7 (v := _) rfl (by kernel_rfl) (by kernel_rfl) (by kernel_rfl) (by kernel_rfl) (by kernel_rfl) (fun _ _ _ h => h) (yieldsI_loadw rfl 31 _ rfl rfl (fun w1 h => ((HCC.out w1).1 h).blk RW.out (by simp)) agg_apisum HRR.out) hS0 ?_
      simp only [Act.put, List.setIfInBounds_toArray, List.set_cons_succ, List.set_cons_zero]
      generalize wr.drew = wG at *
      refine w_one (i := 8) (by kernel_rfl) rfl (by kernel_rfl) hS0 ?_
      intro Q' hQ
      go_wp2_with fail
      refine (ND.out _).mono ?_
      rintro e wH ⟨rfl, eq9⟩
      have hS9 := hCx _ _ hS0 eq9
      go_wp2_with fail
      refine hQ _ _ hS9 ?_
      clear hQ Q' hS0 eq9
      have hS0 := hS9
      clear hS9
      try dsimp only
      try simp only [Act.put, List.setIfInBounds_toArray, List.set_cons_succ, List.set_cons_zero]
      have RH := hid (((HCC.out wH).1 hS0).blk RW.out (by simp))
      have BH := hid (((HCC.out wH).1 hS0).blk BW.out (by simp))
      have ZH := hid (((HCC.out wH).1 hS0).blk ZW.out (by simp))
      have EH := hid ((HCC.out wH).1 hS0).base
      clear hS0 hCx hCA HCC e1 hcp RW BW ZW EW
      refine w_late (i := 9) (by kernel_rfl) rfl (by kernel_rfl) ?_
      intro Q' hQ
      go_wp2_with (refine wpl_storew rfl _ _ _ rfl rfl rfl RH.out agg_apisum HRR.out HNV.out on ?_)
      intro wI bI uI
      go_wp2_with fail
      refine hQ _ _ trivial ?_
      clear hQ Q'
      have RI := hid bI
      have BI := hid (BH.out.upd uI (by omega))
      have ZI := hid (ZH.out.upd uI (by omega))
      have EI := hid (uI.ext EH.out (by omega))
      clear bI uI RH BH ZH EH
      refine w_done (by kernel_rfl) ?_ _
      go_wp2
      go_roundw
      case rel => exact ⟨j, (j : Int) - 1, nn, by omega, by omega, by first | rfl | go_num, HNL.out, HST.out, RI.out, BI.out, ZI.out, EI.out⟩
      case measure => first | (simp [intOf]; done) | (simp [intOf]; omega)
end

section
open Go Go.RowKit

def pv : Nat → Nat
  | 0 => 0
  | b + 1 => 2 ^ b
theorem pv_half (b : Nat) : pv (b + 1) / 2 = pv b := by
  cases b with
  | zero => rfl
  | succ b => show 2 ^ (b + 1) / 2 = 2 ^ b; rw [Nat.pow_succ]; omega
theorem pow_le21 {b : Nat} (h : b ≤ 20) : 2 ^ b ≤ 1048576 := Nat.pow_le_pow_right (n := 2) (by omega) h
theorem and_i64 (x y : Nat) (hx : x < 9223372036854775808) (hy : y < 9223372036854775808) : bits .and .i64 (x : Int) (y : Int) = ((x &&& y : Nat) : Int) := by
  have ea : (BitVec.ofInt 64 (x : Int)).toNat = x := by rw [BitVec.toNat_ofInt]; omega
  have eb : (BitVec.ofInt 64 (y : Int)).toNat = y := by rw [BitVec.toNat_ofInt]; omega
  have hle : x &&& y ≤ x := Nat.and_le_left
  change IntKind.i64.wrap ((BitVec.ofInt 64 (x : Int) &&& BitVec.ofInt 64 (y : Int)).toNat : Int) = _
  rw [BitVec.toNat_and, ea, eb, IntWalk.i64_in _ (by omega)]
theorem and_pow {m b : Nat} (h : m < 2 ^ (b + 1)) : m &&& 2 ^ b = if 2 ^ b ≤ m then 2 ^ b else 0 := by
  apply Nat.eq_of_testBit_eq
  intro i
  rw [Nat.testBit_and, Nat.testBit_two_pow]
  by_cases hi : b = i
  · subst hi
    split
    · rename_i h1
      rw [Nat.testBit_of_two_pow_le_and_two_pow_add_one_gt h1 h]; simp
    · rename_i h1
      rw [Nat.testBit_lt_two_pow (by omega)]; simp
  · rw [decide_eq_false hi, Bool.and_false]
    split
    · rw [Nat.testBit_two_pow, decide_eq_false hi]
    · simp

set_option maxRecDepth 100000 in
set_option maxHeartbeats 2000000 in
theorem rpeaks_c (ls : List (List UInt8)) (a : Option Addr) (n c : Nat) (w : World) (hl : ls.length = n) (hnc : n ≤ c) (hn : n ≤ 65536) (hcm : c ≤ 9223372036854775807) (h32 : All32 ls) (hcl : Cells w a (rows ls)) :
    Calls Tryd.prog 14 #[.slice a n c] w fun e w' => ∃ v, e = .returned v ∧ w'.ownsRow w.heap.size 31 32 v (peaksB nodeL 21 ls).length (rows (peaksB nodeL 21 ls)) ∧ Ext w w' := by
  obtain ⟨R, hR⟩ : ∃ R, peaksB nodeL 21 ls = R := ⟨_, rfl⟩
  rw [hR]
  have HR := hid hR
  have HC := hid hcl
  have H32 := hid h32
  have HL := hid hl
  clear hR hcl h32 hl
  go_enter Tryd.func14, Tryd.ntmps14
  go_wp2
  go_loopw [0, 3, 4] (fun x v z wr => ∃ (b : Nat) (lr P : List (List UInt8)) (a' : Option Addr) (m c' : Nat), b ≤ 21 ∧ x = .slice a' m c' ∧ z = .int .i64 ((pv b : Nat) : Int) ∧ Hid (lr.length = m) ∧ m < 2 ^ b ∧ m ≤ c' ∧ m ≤ n ∧ c' ≤ c ∧ Hid (All32 lr) ∧ Hid (P ++ peaksB nodeL b lr = R) ∧ P.length ≤ 21 - b ∧ Hid (Cells w a' (rows lr)) ∧ Hid (wr.ownsRow w.heap.size 31 32 v P.length (rows P)) ∧ Ext w wr) (fun _ _ z _ => (intOf z).toNat)
  case atStart => exact ⟨21, ls, [], a, n, c, by omega, rfl, rfl, HL, by omega, hnc, Nat.le_refl _, Nat.le_refl _, H32, hid (by rw [List.nil_append]; exact HR.out), by simp, HC, hid (World.ownsRow_nil _ _ _ _), Ext.refl w⟩
  case round =>
    obtain ⟨b, lr, P, a', m, c', hb, rfl, rfl, HLR, hmb, hmc, hmn, hcc, HA, HPR, hPl, HCL, HOWN, hE⟩ := hrel
    have EW := hid hE
    clear hE HR HC H32 HL
    cases b with
    | zero =>
      have hPR : P = R := by have := HPR.out; simpa [peaksB] using this
      subst hPR
      clear hmb hPl
      go_wp2
      go_ret
      exact ⟨_, rfl, HOWN.out, EW.out⟩
    | succ b =>
      have hq21 := pow_le21 (b := b) (by omega)
      have hq0 : 0 < 2 ^ b := Nat.two_pow_pos b
      have hand := and_i64 m (2 ^ b) (by omega) (by omega)
      rw [and_pow hmb] at hand
      have hhalf := pv_half b
      have e0 : 2 ^ (b + 1) = 2 * 2 ^ b := by rw [Nat.pow_succ]; omega
      have hpb : peaksB nodeL (b + 1) lr = if 2 ^ b ≤ lr.length then rootS nodeL (lr.take (2 ^ b)) :: peaksB nodeL b (lr.drop (2 ^ b)) else peaksB nodeL b lr := rfl
      have hpr := HPR.out
      rw [hpb, HLR.out] at hpr
      rw [e0] at hmb
      have hpvb : pv b ≤ 2 ^ b := by rw [← hhalf]; exact Nat.div_le_self _ _
      rw [show pv (b + 1) = 2 ^ b from rfl] at *
      by_cases hle : 2 ^ b ≤ m
      · rw [if_pos hle] at hand hpr
        have hpl : (lr.take (2 ^ b)).length = 2 ^ b := by rw [List.length_take, HLR.out]; omega
        have hdl : (lr.drop (2 ^ b)).length = m - 2 ^ b := by rw [List.length_drop, HLR.out]
        have hrt := hid (fun w' h => rroot_c (2 ^ b) (lr.take (2 ^ b)) c' a' w' hpl (by omega) (by omega) (HA.out.take _) (by omega) (by omega) h)
        have hct := HCL.out.rowsTake HA.out (2 ^ b)
        have hcd := HCL.out.rowsShift HA.out c' (2 ^ b) (by rw [HLR.out]; exact hmc)
        have hrl := rootS_length nodeL nodeL_length (HA.out.take (2 ^ b))
        have hda := HA.out.drop (2 ^ b)
        generalize rootS nodeL (lr.take (2 ^ b)) = rt at *
        generalize lr.drop (2 ^ b) = ld at *
        generalize lr.take (2 ^ b) = lt at *
        have HRT := hid hrl
        have HRV := hid (show (rt.map u8v).length = 32 by rw [List.length_map, hrl])
        have HCT := hid hct
        have HCD := hid hcd
        have HDL := hid hdl
        have HDA := hid hda
        have hpr2 : (P ++ [rt]) ++ peaksB nodeL b ld = R := by rw [List.append_assoc]; exact hpr
        have HPR2 := hid hpr2
        have hmd : m - 2 ^ b < 2 ^ b := by omega
        have hPl2 : (P ++ [rt]).length = P.length + 1 := by simp
        have HPL2 := hid hPl2
        generalize hpn : P.length = pn at *
        have HPN := hid hpn
        clear hpr hpb hpl hdl hct hcd hrl hda hpr2 HPR hPl2 hpn e0
        generalize hqq : 2 ^ b = q at *
        generalize hpvq : pv b = q2 at *
        have k1 : decide ((q : Int) > 0) = true := decide_eq_true (by omega)
        have k2 : decide ((0 : Int) < (q : Int)) = true := decide_eq_true (by omega)
        have k3 : decide (0 < q) = true := decide_eq_true hq0
        have k4 : ((q : Int) != 0) = true := by simp; omega
        have k5 : (q != 0) = true := by simp; omega
        have HH := hid hhalf
        have HQQ := hid hqq
        have HPV := hid hpvq
        clear hhalf hqq hpvq
        go_wp2_with (first | (refine wpl_run rfl (exec_high (k := q) rfl rfl rfl Tryd.underlying22 size_apisum (by omega) wr) ?_))
        refine (hrt.out wr (HCT.out.ext EW.out)).mono ?_
        rintro e w2 ⟨rfl, e2⟩
        have zB : Blk (w2.alloc (.cells (rt.map u8v).toArray 31)) w2.heap.size (rt.map u8v) 31 := Blk.mk_alloc rfl rfl
        have e3 : Ext wr (w2.alloc (.cells (rt.map u8v).toArray 31)) := e2.alloc _
        have O3 := hid (ownsRow_ext HOWN.out e3)
        have E3 := hid (EW.out.ext e3)
        have ZB := hid zB
        have hb3 : w.heap.size ≤ (w2.alloc (.cells (rt.map u8v).toArray 31)).heap.size := E3.out.size
        clear e2 e3 zB hrt
        go_wp2_with (first | (refine wpl_buildRow rfl rfl rfl HRT.out ?_) | (at_builtin; refine wpl_append_row rfl _ _ rfl w.heap.size rfl rfl O3.out HRT.out ZB.out (by omega) hb3 ?_))
        intro v4 w4 own4 g4
        have hv4 := own_block_ge O3.out
        have E4 := hid (E3.out.grown g4 (by intro q hq; exact hv4 _ hq))
        have O4 := hid own4
        clear own4 g4 hv4 O3 E3 ZB
        go_wp2_with (first | (refine wpl_run rfl (exec_low (k := q) rfl rfl rfl Tryd.underlying22 size_apisum hle w4) ?_))
        go_roundw
        case rel => exact ⟨b, ld, P ++ [rt], shiftz a' c' q 32, m - q, c' - q, by omega, rfl, by have := HH.out; have := HPV.out; first | rfl | (congr 1; omega), HDL, by rw [HQQ.out]; exact hmd, by omega, by omega, by omega, HDA, HPR2, by rw [HPL2.out]; omega, HCD, hid (by rw [HPL2.out]; exact O4.out), E4.out⟩
        case measure => have := HH.out; first | (simp [intOf]; done) | (simp [intOf]; omega)
      · rw [if_neg hle] at hand hpr
        have HPR2 := hid hpr
        generalize hpn : P.length = pn at *
        have HPN := hid hpn
        clear hpr hpb HPR e0 hpn
        generalize hqq : 2 ^ b = q at *
        generalize hpvq : pv b = q2 at *
        have k1 : decide ((q : Int) > 0) = true := decide_eq_true (by omega)
        have k2 : decide ((0 : Int) < (q : Int)) = true := decide_eq_true (by omega)
        have k3 : decide (0 < q) = true := decide_eq_true hq0
        have HH := hid hhalf
        have HQQ := hid hqq
        have HPV := hid hpvq
        clear hhalf hqq hpvq
        go_wp2_with fail
        go_roundw
        case rel => exact ⟨b, lr, P, a', m, c', by omega, rfl, by have := HH.out; have := HPV.out; first | rfl | (congr 1; omega), HLR, by rw [HQQ.out]; omega, hmc, hmn, hcc, HA, HPR2, by rw [HPN.out]; omega, HCL, hid (by rw [HPN.out]; exact HOWN.out), EW.out⟩
        case measure => have := HH.out; first | (simp [intOf]; done) | (simp [intOf]; omega)
end

section
open Go Go.RowKit Go.Shelf
attribute [local go_sem] Oper.semAt_some

section
variable {F : Fence} {n : Nat} {P : Program} {ops : Array Oper} {rest : List Oper} {o : Oper} {a : Act} {w : World} {Q : Exit → Act → World → Prop}
theorem wplIn_run {v : Value} (hgd : o.guard = none) (hab : o.about P w a.eval = none) (hpl : ∀ c, o.op ≠ .defer c) (hr : (execOp a.eval o).run P w = .ok (.value v) w) (h : wpListIn F n P ops Q rest (a.put o.dst v) w) : wpListIn F n P ops Q (o :: rest) a w := by
  refine wpListIn_plain hgd fun K hK => ?_
  unfold Oper.wpIn
  refine ⟨fun f hf => (by rw [hab] at hf; cases hf), ?_⟩
  rw [Oper.semAt_plain F _ _ hpl, hr, Oper.uponIn_value]
  exact hK _ _ h
theorem wplIn_loadw (hgd : o.guard = none) (ty : TypeId) (x : Operand) (ho : o.op = .load ty x) {g : Nat} {vs : List Value} {T : TypeId}
    (hx : a.eval x = .pointer (some ⟨g, 0, none⟩)) (hb : Blk w g vs T) {m : Nat} (ht : AggT P ty m) (hn : vs.length = m)
    (h : wpListIn F n P ops Q rest (a.put o.dst (.agg vs.toArray)) w) : wpListIn F n P ops Q (o :: rest) a w := by
  refine wplIn_run hgd (by unfold Oper.about; rw [ho]) (by rw [ho]; intro c hc; cases hc) ?_ h
  have h1 := run_load_sub (P := P) (off := 0) hb ht (by omega)
  have h2 : (vs.drop 0).take m = vs := by simp [← hn]
  rw [h2] at h1
  unfold execOp
  simp only [ho, hx, Instr.loadAt, Instr.sureAddr, Sem.run_bind, Sem.run_pure, Result.andThen_ok, h1]
theorem wplIn_storew (hgd : o.guard = none) (ty : TypeId) (x y : Operand) (ho : o.op = .store ty x y) {g : Nat} {vs xs : List Value} {T : TypeId}
    (hx : a.eval x = .pointer (some ⟨g, 0, none⟩)) (hy : a.eval y = .agg xs.toArray) (hb : Blk w g vs T) {m : Nat} (ht : AggT P ty m) (hv : vs.length = m) (hn : xs.length = m) (h1 : ∀ v ∈ xs, v.oneCell' = true)
    (h : ∀ w', Blk w' g xs T → Upd w g w' → wpListIn F n P ops Q rest (a.put o.dst undef) w') : wpListIn F n P ops Q (o :: rest) a w := by
  refine wpListIn_plain hgd fun K hK => ?_
  unfold Oper.wpIn
  refine ⟨fun f hf => (by unfold Oper.about at hf; rw [ho] at hf; cases hf), ?_⟩
  rw [Oper.semAt_plain F _ _ (by rw [ho]; intro c hc; cases hc)]
  have hs := run_store_sub (P := P) (ty := ty) (off := 0) hb (by rw [hn]; exact ht) (by omega) h1
  have hsp : splice vs 0 xs = xs := by simp [splice, hn, hv]
  rw [hsp] at hs
  unfold execOp
  simp only [ho, hx, hy, Instr.storeAt, Instr.sureAddr, Sem.run_bind, Sem.run_pure, Result.andThen_ok, hs]
  exact hK _ _ (h _ (hb.setRow _) (Upd.setRow _))
end

/-- a row of 32 octets -/
abbrev Row32 := { l : List UInt8 // l.length = 32 }
def encB (x : Nat × Row32) : Array Value := #[.int .i64 (x.1 : Int), .agg (x.2.1.map u8v).toArray]
/-- two blocks are as they were -/
def KeepTwo (p q : Nat) (W W' : World) : Prop := W'.heap[p]? = W.heap[p]? ∧ W'.heap[q]? = W.heap[q]?
/-- what came when k rounds are over -/
def uptoB {α : Type} (f : Nat → α) (k : Nat) : List α := (List.range k).map f
theorem uptoB_succ {α : Type} (f : Nat → α) (k : Nat) : uptoB f (k + 1) = uptoB f k ++ [f k] := by simp [uptoB, List.range_succ]
theorem uptoB_length {α : Type} (f : Nat → α) (k : Nat) : (uptoB f k).length = k := by simp [uptoB]

set_option maxRecDepth 100000 in
set_option maxHeartbeats 2000000 in
theorem backward1_in (F : Fence) (n : Nat) (h35 : F.fn 35) (hro : F.round = none) (hn : 1 ≤ n) (l Bs q len cap : Nat) (A : Addr) (f : Nat → Row32) (hA : A.block = q) (hAs : A.spot = none) (hl : len ≤ 65536) (J Jx : List (Nat × Row32) → World → Prop)
    (hY : ∀ pre x W, J pre W → pre.length < len → YieldAt F (n - 1) Tryd.prog l (encB x) W fun e W' =>
      (e = .returned (.bool true) ∧ J (pre ++ [x]) W' ∧ KeepTwo Bs q W W') ∨ (e = .returned (.bool false) ∧ Jx (pre ++ [x]) W'))
    (W : World) (hBs : W.cell? ⟨Bs, 0, none⟩ = some (.slice (some A) len cap)) (hc : ∀ j, j < len → CellsAt W (A.add (j * 32)) ((f j).1.map u8v)) (h0 : J [] W) :
    CallsIn F n Tryd.prog 35 #[.func (.yield l) #[] #[], .pointer (some ⟨Bs, 0, none⟩)] W fun e W' => (∃ v, e = .returned v) ∧
      ((∃ ys, ys = uptoB (fun j => (len - 1 - j, f (len - 1 - j))) len ∧ J ys W') ∨ (∃ pre, (∃ k, k ≤ len ∧ pre = uptoB (fun j => (len - 1 - j, f (len - 1 - j))) k) ∧ Jx pre W')) := by
  have HL := hid hl
  clear hl
  refine callsIn_of_wp Tryd.func35 rfl h35 ?_ hro
  simp only [Tryd.ntmps35, List.size_toArray, List.length_cons, List.length_nil, Nat.reduceAdd, Nat.reduceSub, Array.replicate_succ, Array.replicate_zero, List.push_toArray, List.append_toArray, List.nil_append, List.cons_append]
  have hw1 : IntKind.i64.wrap ((len : Int) - 1) = (len : Int) - 1 := IntWalk.i64_in _ (by have := HL.out; omega)
  gi_wp2
  gi_loopw [3] (fun i wr => ∃ (k : Nat) (z : Int), z + 1 + k = len ∧ -1 ≤ z ∧ i = .int .i64 z ∧ J (uptoB (fun j => (len - 1 - j, f (len - 1 - j))) k) wr ∧ KeepTwo Bs q W wr)
    (fun i _ => ((intOf i) + 1).toNat)
  case atStart => exact ⟨0, (len : Int) - 1, by omega, by omega, by first | rfl | go_num, h0, rfl, rfl⟩
  case round =>
    obtain ⟨k, z, hz, hz1, rfl, hJs, hk1, hk2⟩ := hrel
    have hbx : wr.cell? ⟨Bs, 0, none⟩ = some (.slice (some A) len cap) := by
      have h := hBs
      simp only [World.cell?] at h ⊢
      rw [hk1]; exact h
    by_cases hlt : k < len
    · obtain ⟨i, rfl⟩ : ∃ i : Nat, z = (i : Int) := ⟨z.toNat, by omega⟩
      have hi : len - 1 - k = i := by omega
      have hci : CellsAt wr (A.add (i * 32)) ((f i).1.map u8v) := by
        obtain ⟨ab, ao, asp⟩ := A
        simp only at hA hAs
        subst hA hAs
        rw [addr_add]
        refine (hc i (by omega)).keep ?_ ?_ |> fun h => by rw [addr_add] at h; exact h
        · rw [addr_add]
        · rw [addr_add]; exact hk2
      obtain ⟨fn, tmps, assign, body, hy, hR⟩ := hY _ (i, f i) wr hJs (by rw [uptoB_length]; exact hlt)
      unfold encB at hy
      dsimp only at hy
      have HI : Hid (((f i).1.map u8v).length = 32) := hid (by rw [List.length_map]; exact (f i).2)
      have g1 : decide ((i : Int) ≥ 0) = true := decide_eq_true (by omega)
      have g2 : decide ((0 : Int) ≤ (i : Int)) = true := decide_eq_true (by omega)
      have hil : i < len := by omega
      have hi65 : i ≤ 65536 := by have := HL.out; omega
      have hwi : IntKind.i64.wrap ((i : Int) - 1) = (i : Int) - 1 := IntWalk.i64_in _ (by omega)
      have hwj : wrap64 ((i : Int) - 1) = (i : Int) - 1 := by rw [← IntWalk.i64_left]; exact hwi
      have HCI := hid hci
      have HJ := hid (fun h : J (uptoB (fun j => (len - 1 - j, f (len - 1 - j))) k ++ [(i, f i)]) = J (uptoB (fun j => (len - 1 - j, f (len - 1 - j))) (k + 1)) => h)
      clear hci
      gi_wp2_with (first | (refine wplIn_run rfl rfl (fun c h => by cases h) (exec_index (i := i) rfl rfl rfl Tryd.underlying22 size_apisum hil wr) ?_) | (refine wplIn_run rfl rfl (fun c h => by cases h) (exec_load_at rfl rfl HCI.out agg_apisum HI.out) ?_))
      refine hR.mono ?_
      rintro e W3 (⟨rfl, hJ3, hk3⟩ | ⟨rfl, hJx3⟩)
      · gi_wp2
        go_roundw
        case rel => exact ⟨k + 1, (i : Int) - 1, by omega, by omega, by first | rfl | go_num, by rw [uptoB_succ, hi]; exact hJ3, hk3.1.trans hk1, hk3.2.trans hk2⟩
        case measure => first | (simp [intOf]; done) | (simp [intOf]; omega)
      · gi_wp2
        refine bodyPost_ret (results_none rfl _ _ _) rfl ?_
        exact ⟨⟨_, rfl⟩, .inr ⟨_, ⟨k + 1, by omega, (by rw [uptoB_succ, hi])⟩, hJx3⟩⟩
    · obtain rfl : k = len := by omega
      have g1 : decide (z ≥ 0) = false := decide_eq_false (by omega)
      have g2 : decide (0 ≤ z) = false := decide_eq_false (by omega)
      gi_wp2
      go_end0
      exact ⟨⟨_, rfl⟩, .inl ⟨_, rfl, hJs⟩⟩
end

section
open Go Go.RowKit Go.Shelf
attribute [local go_sem] Oper.semAt_some

set_option maxRecDepth 100000 in
set_option maxHeartbeats 1000000 in
theorem backward_c (a : Option Addr) (n c : Nat) (w : World) :
    Calls Tryd.prog 26 #[.slice a n c] w fun e w' => e = .returned (.func (.func 35) #[] #[.pointer (some ⟨w.heap.size, 0, none⟩)]) ∧ w' = w.alloc (.cells #[.slice a n c] 22) := by
  go_enter Tryd.func26, Tryd.ntmps26
  go_wp2
  go_ret
  exact ⟨rfl, rfl⟩

/-- the fold of a bag, from behind -/
def accB (y : List UInt8) (pre : List (Nat × Row32)) : List UInt8 := pre.foldl (fun r x => nodeL x.2.1 r) y
theorem accB_snoc (y : List UInt8) (pre : List (Nat × Row32)) (x : Nat × Row32) : accB y (pre ++ [x]) = nodeL x.2.1 (accB y pre) := by simp [accB]
theorem accB_length {y : List UInt8} (hy : y.length = 32) (pre : List (Nat × Row32)) : (accB y pre).length = 32 := by
  induction pre generalizing y with
  | nil => exact hy
  | cons x pre ih => exact ih (y := nodeL x.2.1 y) (nodeL_length _ _)
def rowF (ls : List (List UInt8)) (h : All32 ls) (j : Nat) : Row32 := ⟨(ls[j]?).getD zero32, by
  cases hj : ls[j]? with
  | none => exact zero32_length
  | some z => exact h.at hj⟩
theorem accB_upto (ls : List (List UInt8)) (h : All32 ls) (y : List UInt8) (n1 : Nat) (hn : n1 ≤ ls.length) (k : Nat) (hk : k ≤ n1) :
    accB y (uptoB (fun j => (n1 - 1 - j, rowF ls h (n1 - 1 - j))) k) = bagL nodeL ((ls.take n1).drop (n1 - k) ++ [y]) := by
  induction k with
  | zero => rw [Nat.sub_zero, List.drop_of_length_le (by rw [List.length_take]; omega)]; rfl
  | succ k ih =>
    rw [uptoB_succ, accB_snoc, ih (by omega)]
    have hd : (ls.take n1).drop (n1 - (k + 1)) = (rowF ls h (n1 - 1 - k)).1 :: (ls.take n1).drop (n1 - k) := by
      have hlt : n1 - (k + 1) < (ls.take n1).length := by rw [List.length_take]; omega
      rw [List.drop_eq_getElem_cons hlt]
      have e1 : n1 - (k + 1) + 1 = n1 - k := by omega
      have e2 : n1 - 1 - k = n1 - (k + 1) := by omega
      rw [e1]
      congr 1
      simp only [rowF, e2, List.getElem_take]
      rw [List.getElem?_eq_getElem (by omega)]
      rfl
    rw [hd, List.cons_append, bagL_cons nodeL _ (by simp)]

theorem keepTwo_t {p q : Nat} {A B C : World} (h : KeepTwo p q A B) (k : KeepTwo p q B C) : KeepTwo p q A C := ⟨k.1.trans h.1, k.2.trans h.2⟩
theorem keepTwo_ext {p q : Nat} {A B : World} (h : Ext A B) (hp : p < A.heap.size) (hq : q < A.heap.size) : KeepTwo p q A B := ⟨h.block p hp, h.block q hq⟩
theorem keepTwo_upd {p q g : Nat} {A B : World} (h : Upd A g B) (hp : p ≠ g) (hq : q ≠ g) : KeepTwo p q A B := ⟨h.block p hp, h.block q hq⟩
theorem keepsFrom_ext {B : Nat} {W W' : World} (h : Ext W W') : KeepsFrom B W W' := ⟨h.size, fun k o _ hk _ => (h.block k (Array.getElem?_eq_some_iff.1 hk).1).trans hk⟩
theorem keepsFrom_upd {B g : Nat} {W W' : World} (h : Upd W g W') (hg : g < B) : KeepsFrom B W W' := ⟨by rw [h.size]; exact Nat.le_refl _, fun k o hB hk _ => (h.block k (by omega)).trans hk⟩

set_option maxRecDepth 100000 in
set_option maxHeartbeats 2000000 in
theorem rbag_c (ls : List (List UInt8)) (a : Option Addr) (n c : Nat) (w : World) (hl : ls.length = n) (h0 : 0 < n) (hn : n ≤ 65536) (hnc : n ≤ c) (h32 : All32 ls) (hcl : Cells w a (rows ls)) :
    Calls Tryd.prog 16 #[.slice a n c] w fun e w' => e = .returned (.agg ((bagL nodeL ls).map u8v).toArray) ∧ Ext w w' := by
  obtain ⟨A, rfl⟩ : ∃ A, a = some A := by
    cases a with
    | none => rcases hcl with h | ⟨_, _, h, _⟩
              · have := rows_length h32; rw [h, hl] at this; simp at this; omega
              · cases h
    | some A => exact ⟨A, rfl⟩
  obtain ⟨n1, hn1⟩ : ∃ n1, n1 = n - 1 := ⟨_, rfl⟩
  obtain ⟨y, hy⟩ : ∃ y, ls[n1]? = some y := ⟨ls[n1]'(by omega), by simp⟩
  have hyl := h32.at hy
  have hcy := hcl.rowAt h32 hy
  have hlast : ls.take n1 ++ [y] = ls := by
    have h1 : ls.take (n1 + 1) = ls := List.take_of_length_le (by omega)
    rw [List.take_add_one, hy] at h1
    exact h1
  obtain ⟨R, hR⟩ : ∃ R, bagL nodeL ls = R := ⟨_, rfl⟩
  have hRl : R.length = 32 := by rw [← hR]; exact bagL_length nodeL nodeL_length h32
  have hstart : bagL nodeL (ls.take n1 ++ [y]) = R := by rw [hlast, hR]
  rw [hR]
  have HZ := hid (show (zero32.map u8v).length = 32 by rw [List.length_map]; exact zero32_length)
  have HRV := hid (show (R.map u8v).length = 32 by rw [List.length_map, hRl])
  have oR := one_u8 R
  have HY := hid (show (y.map u8v).length = 32 by rw [List.length_map, hyl])
  have oy := one_u8 y
  have HST := hid hstart
  have HYL := hid hyl
  have H32 := hid h32
  have HL := hid hl
  have HC := hid hcl
  have HCY := hid hcy
  have hw1 : IntKind.i64.wrap ((n : Int) - 1) = (n1 : Int) := by rw [IntWalk.i64_in _ (by omega)]; omega
  have hn1n : n1 < n := by omega
  have hn1c : n1 ≤ c := by omega
  have hAs : A.spot = none := by
    rcases hcl with h | ⟨b, off, h, _⟩
    · have := rows_length h32; rw [h, hl] at this; simp at this; omega
    · cases h; rfl
  have HAS := hid hAs
  have hAb : A.block < w.heap.size := by
    obtain ⟨b, off, h1, h2⟩ := hcl.some_of (by rw [rows_length h32]; omega)
    cases h1
    have := block_lt_of_cell (h2 0 _ (by rw [List.getElem?_eq_getElem (by rw [rows_length h32]; omega)]))
    exact this
  clear hR hRl hstart hlast hyl hy h32 hl hcl hcy hn1 hAs
  refine (callsIn_wide (n := 3)).1 ?_
  refine callsIn_of_wp_marks Tryd.func16 rfl trivial ?_ rfl
  simp only [Tryd.ntmps16, List.size_toArray, List.length_cons, List.length_nil, Nat.reduceAdd, Nat.reduceSub, Array.replicate_succ, Array.replicate_zero, List.push_toArray, List.append_toArray, List.nil_append, List.cons_append]
  refine wpIn_wide.2 ?_
  go_upto_region 1 with (fail)
  generalize hwA : World.alloc w _ = wA
  have zA : Blk wA w.heap.size (zero32.map u8v) 31 := by rw [← hwA, zero32_map]; exact Blk.mk_alloc rfl rfl
  have eA : Ext w wA := by rw [← hwA]; exact (Ext.refl w).alloc _
  have ZA := hid zA
  have EA := hid eA
  have CYA := hid (HCY.out.ext eA)
  clear zA eA hwA HCY
  go_wp2_with (first | (refine wpl_run rfl (exec_index (i := n1) rfl rfl rfl Tryd.underlying22 size_apisum hn1n wA) ?_) | (refine wpl_run rfl (exec_load_at rfl rfl CYA.out agg_apisum HY.out) ?_) | (refine wpl_storew rfl _ (.tmp 3) _ rfl rfl rfl (Blk.mk_alloc (vs := List.replicate 32 (.int .u8 0)) rfl rfl) agg_apisum (by simp) HY.out oy ?_))
  intro wB bB uB
  have eB : Ext wA wB := uB.ext ((Ext.refl wA).alloc _) (Nat.le_refl _)
  have RB := hid bB
  have ZB := hid (ZA.out.ext eB)
  have EB := hid (EA.out.ext eB)
  have hzr : w.heap.size < wA.heap.size := ZA.out.lt
  clear bB uB eB ZA EA CYA
  generalize wA.heap.size = gr at *
  go_wp2_with (first | (refine wpl_run rfl (exec_high (k := n1) rfl rfl rfl Tryd.underlying22 size_apisum hn1c wB) ?_) | (go_at_call 26; refine (backward_c _ _ _ _).mono ?_; rintro e w' ⟨rfl, rfl⟩))
  generalize hwl : World.alloc wB (Obj.cells _ 22) = wL
  have hsl : wL.heap.size = wB.heap.size + 1 := by rw [← hwl]; simp
  have eL : Ext w wL := by rw [← hwl]; exact EB.out.alloc _
  have bL : wL.cell? ⟨wB.heap.size, 0, none⟩ = some (.slice (some A) n1 c) := by rw [← hwl]; exact (Blk.mk_alloc (vs := [.slice (some A) n1 c]) rfl rfl).cell (i := 0) (by simp)
  have rL : Blk wL gr (y.map u8v) 31 := by rw [← hwl]; exact RB.out.alloc _
  have zL : Blk wL w.heap.size (zero32.map u8v) 31 := by rw [← hwl]; exact ZB.out.alloc _
  have hgl : gr < wB.heap.size := RB.out.lt
  clear hwl
  refine (wpIn_wide (n := 3)).1 ?_
  refine wpIn_rangeFunc_ownH rfl (by omega) (gf := 35) (lb := #[.pointer (some ⟨wB.heap.size, 0, none⟩)]) rfl trivial (enters_of Tryd.func35 (by kernel_rfl) rfl)
    (encs := encB) (Kp := KeepTwo wB.heap.size A.block) (N := n1) (w0 := wL)
    (S := fun ys => ys = uptoB (fun j => (n1 - 1 - j, rowF ls H32.out (n1 - 1 - j))) n1) (Sp := fun pre => ∃ k, k ≤ n1 ∧ pre = uptoB (fun j => (n1 - 1 - j, rowF ls H32.out (n1 - 1 - j))) k)
    ?seq (fun h k => keepTwo_t h k)
    (fun W l o o' hl _ _ _ => ⟨World.putObj_heap_other (by omega), World.putObj_heap_other (by omega)⟩) (Below.refl _ _) (fun _ => rfl)
    (fun pre W => Blk W gr ((accB y pre).map u8v) 31 ∧ Blk W w.heap.size (zero32.map u8v) 31 ∧ Ext w W ∧ wL.heap.size ≤ W.heap.size)
    (fun _ _ _ => False)
    ?own (fun _ _ _ _ _ hs _ _ => hs) ⟨rL, zL, eL, Nat.le_refl _⟩
    (fun x a' W => ∃ Bx, wL.heap.size ≤ Bx ∧ Blk W Bx (x.2.1.map u8v) 31 ∧ a' = { tmps := #[Value.slice (some A) n c, undef, Value.pointer (some { block := w.heap.size, off := 0 }), Value.pointer (some { block := gr, off := 0 }), undef, .pointer (some ⟨Bx, 0, none⟩), Value.slice (some A) n c, Value.slice (some A) n c, Value.int IntKind.i64 ↑n, Value.int IntKind.i64 ↑n1, Value.pointer (some (A.add (n1 * 32))), Value.agg (List.map u8v y).toArray, Value.slice (some A) n c, Value.slice (some A) n c, Value.int IntKind.i64 ↑n, Value.int IntKind.i64 ↑n1, Value.slice (some A) n1 c, Value.func (Fn.func 35) #[] #[Value.pointer (some { block := wB.heap.size, off := 0 })], .int .i64 (x.1 : Int), .agg (x.2.1.map u8v).toArray, undef, undef, undef, undef], defers := [] })
    ?ax ?assign ?body ?done ?stop
  case seq =>
    intro l J Jx W hW hJ hJx hY hJ0
    refine backward1_in (Fence.wide) (3 - 1) trivial rfl (by omega) l wB.heap.size A.block n1 c A (rowF ls H32.out) rfl HAS.out (by omega) J Jx hY W ?_ ?_ hJ0
    · exact (hW.cell (p := ⟨wB.heap.size, 0, none⟩) (by show wB.heap.size < wL.heap.size; omega)).trans bL
    · intro j hj
      have hjl : ls[j]? = some (ls[j]'(by rw [HL.out]; omega)) := List.getElem?_eq_getElem _
      have h1 := (HC.out.rowAt H32.out hjl).ext (eL.ext hW)
      simpa [rowF, hjl] using h1
  case own =>
    intro s A' B row hs hg hr
    have k1 : some gr ≠ row := fun e => by have := (hr _ e.symm).1; omega
    have k2 : some w.heap.size ≠ row := fun e => by have := (hr _ e.symm).1; omega
    exact ⟨hs.1.grown hg k1, hs.2.1.grown hg k2, hs.2.2.1.grown hg (fun g e => by have := (hr g e).1; omega), Nat.le_trans hs.2.2.2 hg.size⟩
  case ax =>
    rintro x a' s A' B row ⟨Bx, hBx, bx, rfl⟩ hg hr
    refine ⟨Bx, hBx, bx.grown hg (fun e => ?_), rfl⟩
    obtain ⟨_, o, ho, hc⟩ := hr _ e.symm
    rw [show A'.heap[Bx]? = _ from bx] at ho; cases ho; cases hc
  case assign =>
    rintro l pre x W K ⟨hR, hZ, hE, hsz⟩ hK
    have HX := hid (show (x.2.1.map u8v).length = 32 by rw [List.length_map]; exact x.2.2)
    have ox := one_u8 x.2.1
    unfold encB
    gi_wp2_with (refine wplIn_storew rfl _ (.tmp 5) _ rfl rfl rfl (Blk.mk_alloc (vs := List.replicate 32 (.int .u8 0)) rfl rfl) agg_apisum (by simp) HX.out ox ?_)
    intro w3 b3 u3
    have e3 : Ext W w3 := u3.ext ((Ext.refl W).alloc _) (Nat.le_refl _)
    gi_wp2
    exact hK _ _ (keepsFrom_ext e3) (keepTwo_ext e3 (by omega) (by have := hE.size; omega)) ⟨hR.ext e3, hZ.ext e3, hE.ext e3, Nat.le_trans hsz e3.size⟩ ⟨W.heap.size, hsz, b3, rfl⟩
  case body =>
    rintro l pre x a' W hl ⟨rr, hrr⟩ ⟨hR, hZ, hE, hsz⟩ ⟨Bx, hBx, bX, rfl⟩ hlt
    have HX := hid (show (x.2.1.map u8v).length = 32 by rw [List.length_map]; exact x.2.2)
    have HAC := hid (accB_length HYL.out pre)
    have HACV := hid (show ((accB y pre).map u8v).length = 32 by rw [List.length_map]; exact HAC.out)
    have HN := hid (show ((nodeL x.2.1 (accB y pre)).map u8v).length = 32 by rw [List.length_map]; exact nodeL_length _ _)
    have oN := one_u8 (nodeL x.2.1 (accB y pre))
    have HRB := hid hR
    have HBX := hid bX
    have hsw := hE.size
    clear hR bX
    gi_wp2_with (first | (refine wplIn_loadw rfl _ (.tmp 5) rfl rfl HBX.out agg_apisum HX.out ?_) | (refine wplIn_loadw rfl _ (.tmp 3) rfl rfl HRB.out agg_apisum HACV.out ?_) | (refine ⟨trivial, ?_⟩; refine (CallsIn.inRound l (callsIn_wide.2 (rnode_c _ _ _ x.2.2 HAC.out))).mono ?_; rintro e W2 ⟨rfl, e2⟩; have HRB2 := hid (HRB.out.ext e2); have E2 := hid e2; clear e2) | (refine wplIn_storew rfl _ (.tmp 3) _ rfl rfl rfl HRB2.out agg_apisum HACV.out HN.out oN ?_))
    intro w3 b3 u3
    have e2 := E2.out
    have hs2 := e2.size
    gi_wp2
    refine ⟨(keepsFrom_ext e2).trans (keepsFrom_upd u3 (by omega)), keepTwo_t (keepTwo_ext e2 (by omega) (by omega)) (keepTwo_upd u3 (by omega) (by omega)), ?_, (hZ.ext e2).upd u3 (by omega), u3.ext (hE.ext e2) (by omega), by rw [u3.size]; omega⟩
    rw [accB_snoc]; exact b3
  case done =>
    rintro D ys W hD rfl ⟨hR, hZ, hE, hsz⟩ hK
    have hacc := accB_upto ls H32.out y n1 (by rw [HL.out]; omega) n1 (Nat.le_refl _)
    rw [Nat.sub_self, List.drop_zero, HST.out] at hacc
    rw [hacc] at hR
    have HRB := hid hR
    have HZB := hid hZ
    clear hR hZ
    go_wp2_with (first | (refine wpl_loadw rfl _ (.tmp 3) rfl rfl HRB.out agg_apisum HRV.out ?_) | (refine wpl_storew rfl _ (.tmp 2) _ rfl rfl rfl HZB.out agg_apisum HZ.out HRV.out oR ?_))
    intro w3 b3 u3
    have hK3 : w3.heap[D]? = some (.deferred (some [])) := (u3.block D (by omega)).trans hK
    go_wp2
    refine ⟨by simp, .inl ⟨_, _, rfl, run_takeDeferred hK3, ?_⟩⟩
    have b4 : Blk (w3.putObj D (.deferred none)) w.heap.size (R.map u8v) 31 := by
      unfold Blk
      rw [World.putObj_heap_other (by omega)]; exact b3
    obtain ⟨⟨d, hu, hd⟩, hi⟩ := agg_apisum
    refine ⟨_, results_cell_row rfl _ _ w.heap.size _ (R.map u8v).toArray (0, 0) d rfl b4 hu (by cases d <;> simp_all) (by rw [hi]; simp [HRV.out]), rfl, ?_⟩
    exact (u3.ext hE (Nat.le_refl _)).grown (grownBy_putObj' w3 D _) (fun g e => by cases e; omega)
  case stop =>
    rintro D c pre W _ _ h _
    exact h.elim
end
end Go.Proofs.YtfiigjdiohmkmaaDoor
