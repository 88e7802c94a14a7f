/- Stream and Cover: what they compute; conditions: the lengths. -/
import Derived.Test.YtjgglnflicemjaaP15
import Derived.Laws.OwnMore
namespace Go.Proofs.Ytjgglnflicemjaa
open Go Go.RowKit

set_option maxRecDepth 100000 in
set_option maxHeartbeats 1000000 in
theorem stream_c (k n : List UInt8) (a m : Int) (w : World) (hk : k.length = 32) (hn : n.length = 16) :
    Calls Try.prog 30 #[.agg (k.map u8v).toArray, .agg (n.map u8v).toArray, .int .i64 a, .int .i64 m] w (streamPost k n a m w) := by
  unfold streamPost
  by_cases h1 : a < 0 ∨ 1099511627776 < a ∨ m < 0
  · simp only [if_pos h1]
    have H1 := hid h1
    have eA : Ext w ((w.alloc (.cells (k.map u8v).toArray 54)).alloc (.cells (n.map u8v).toArray 55)) := ((Ext.refl w).alloc _).alloc _
    generalize k.map u8v = kv at *
    generalize n.map u8v = nv at *
    by_cases ha : a < 0
    · have d1 : decide (a < 0) = true := decide_eq_true ha
      clear h1
      go_enter Try.func30, Try.ntmps30
      go_wp2
      go_ret2
      exact ⟨rfl, eA⟩
    · by_cases hb : 1099511627776 < a
      · have d1 : decide (a < 0) = false := decide_eq_false ha
        have d2 : decide (1099511627776 < a) = true := decide_eq_true hb
        clear h1
        go_enter Try.func30, Try.ntmps30
        go_wp2
        go_ret2
        exact ⟨rfl, eA⟩
      · have d1 : decide (a < 0) = false := decide_eq_false ha
        have d2 : decide (1099511627776 < a) = false := decide_eq_false hb
        have d3 : decide (m < 0) = true := decide_eq_true (by omega)
        clear h1
        go_enter Try.func30, Try.ntmps30
        go_wp2
        go_ret2
        exact ⟨rfl, eA⟩
  · simp only [if_neg h1]
    by_cases h2 : 1048576 < m
    · simp only [if_pos h2]
      have eA : Ext w ((w.alloc (.cells (k.map u8v).toArray 54)).alloc (.cells (n.map u8v).toArray 55)) := ((Ext.refl w).alloc _).alloc _
      have d1 : decide (a < 0) = false := decide_eq_false (by omega)
      have d2 : decide (1099511627776 < a) = false := decide_eq_false (by omega)
      have d3 : decide (m < 0) = false := decide_eq_false (by omega)
      have d4 : decide (1048576 < m) = true := decide_eq_true h2
      clear h1
      generalize k.map u8v = kv at *
      generalize n.map u8v = nv at *
      go_enter Try.func30, Try.ntmps30
      go_wp2
      go_ret2
      exact ⟨rfl, eA⟩
    · simp only [if_neg h2]
      obtain ⟨A, rfl⟩ := Int.eq_ofNat_of_zero_le (show 0 ≤ a by omega)
      obtain ⟨M, rfl⟩ := Int.eq_ofNat_of_zero_le (show 0 ≤ m by omega)
      exact (stream_ok k n A M w hk hn (by omega) (by omega)).mono fun e w' ⟨v, h3, h4, h5⟩ => ⟨⟨v, h3, h4⟩, h5⟩

theorem own_some {w : World} {B n : Nat} {v : Value} {xs : List Value} (h : w.ownsRow B 5 1 v n xs) (hn : 0 < n) :
    ∃ g cap, v = .slice (some ⟨g, 0, none⟩) n cap ∧ B ≤ g ∧ n ≤ cap ∧ cap ≤ maxLen := by
  rcases h.2 with ⟨_, h0⟩ | ⟨g, cap, cur, h1, h2, _, h4, h5, _⟩
  · omega
  · exact ⟨g, cap, h1, h2, h4, h5⟩

/-- a text, covered -/
def coverL (k n t : List UInt8) : List UInt8 := mixTo (strmL k n 0 t.length) t t.length
theorem coverL_length (k n t : List UInt8) : (coverL k n t).length = t.length := by rw [coverL, mixTo_length, strmL_length]

set_option maxRecDepth 100000 in
set_option maxHeartbeats 1000000 in
theorem cover_c (k n t : List UInt8) (l c : Nat) (a : Option Addr) (w : World) (hk : k.length = 32) (hn : n.length = 16) (ht : t.length = l) (hl : l ≤ 1048576) (hlc : l ≤ c) (hcl : Cells w a (t.map u8v)) :
    Calls Try.prog 32 #[.agg (k.map u8v).toArray, .agg (n.map u8v).toArray, .slice a l c] w fun e w' =>
      ∃ v, e = .returned (.tuple #[v, .int .i64 0]) ∧ w'.ownsRow w.heap.size 5 1 v l ((coverL k n t).map u8v) ∧ Ext w w' := by
  have HC := hid hcl
  have HT := hid ht
  have hstr := fun w => stream_ok k n 0 l w hk hn (by omega) hl
  have HK : Hid ((k.map u8v).length = 32) := hid (by rw [List.length_map, hk])
  have HN : Hid ((n.map u8v).length = 16) := hid (by rw [List.length_map, hn])
  have hcov : coverL k n t = mixTo (strmL k n 0 l) t l := by rw [coverL, ht]
  have hsl : (strmL k n 0 l).length = l := strmL_length _ _ _ _
  rw [hcov]
  clear hcl ht hk hn hcov
  generalize k.map u8v = kv at *
  generalize n.map u8v = nv at *
  generalize strmL k n 0 l = st at *
  have HSL := hid hsl
  clear hsl
  have kA : Blk ((w.alloc (.cells kv.toArray 54)).alloc (.cells nv.toArray 55)) w.heap.size kv 54 := (Blk.mk_alloc rfl rfl).alloc _
  have nA : Blk ((w.alloc (.cells kv.toArray 54)).alloc (.cells nv.toArray 55)) (w.heap.size + 1) nv 55 := Blk.mk_alloc (by simp) rfl
  have eA : Ext w ((w.alloc (.cells kv.toArray 54)).alloc (.cells nv.toArray 55)) := ((Ext.refl w).alloc _).alloc _
  have KA := hid kA
  have NA := hid nA
  have EA := hid eA
  clear kA nA eA
  go_enter Try.func32, Try.ntmps32
  go_wp2_with (first | (refine wpl_loadw rfl 54 _ rfl rfl KA.out agg_key HK.out ?_) | (refine wpl_loadw rfl 55 _ rfl rfl NA.out agg_nonce HN.out ?_))
  generalize (w.alloc (.cells kv.toArray 54)).alloc (.cells nv.toArray 55) = wA at *
  refine (hstr wA).mono ?_
  rintro e w1 ⟨v, rfl, own1, e1⟩
  have O1 := hid (own_lower (B' := w.heap.size) own1 EA.out.size)
  have E1 := hid (EA.out.ext e1)
  clear own1 e1 hstr
  go_wp2
  go_loopw [25] (fun x wr => ∃ i : Nat, i ≤ l ∧ x = .int .i64 i ∧ Hid (wr.ownsRow w.heap.size 5 1 v l ((mixTo st t i).map u8v)) ∧ Hid (Ext w wr))
    (fun x _ => l - (intOf x).toNat)
  case atStart => exact ⟨0, by omega, rfl, O1, E1⟩
  case round =>
    obtain ⟨i, hi, rfl, ho, he⟩ := hrel
    by_cases hlt : i < l
    · have hd : decide ((i : Int) < (l : Int)) = true := decide_eq_true (by omega)
      obtain ⟨g, cap, rfl, hg, hlcap, hcapm⟩ := own_some ho.out (by omega)
      obtain ⟨b, off, rfl, hcell⟩ := (HC.out.ext he.out).some_of (by rw [List.length_map, HT.out]; omega)
      have c1 := hcell i _ (u8_at (by rw [HT.out]; exact hlt))
      have hml : (mixTo st t i).length = l := by rw [mixTo_length]; exact HSL.out
      have hmx : mixTo st t (i + 1) = (mixTo st t i).set i (xor8 ((mixTo st t i)[i]?.getD 0) (t[i]?.getD 0)) := rfl
      generalize mixTo st t i = ws at *
      have HMX := hid hmx
      have c2 := ho.out.cellAt i (by omega)
      rw [u8_at (by omega)] at c2
      have f2 := ho.out.frozenAt i
      have hxo := xor8_b (ws[i]?.getD 0) (t[i]?.getD 0)
      have i0 : (0 : Int) ≤ (i : Int) := by omega
      have i1 : (i : Int) < (l : Int) := by omega
      clear hcell hmx hml
      go_wp2
      have hs := ho.out.stored i (u8v (xor8 (ws[i]?.getD 0) (t[i]?.getD 0)))
      rw [← List.map_set, ← HMX.out] at hs
      have O2 := hid hs.1
      have E2 := hid (he.out.grown hs.2 (by intro k hk; cases hk; exact hg))
      go_roundw
      case rel => exact ⟨i + 1, by omega, by go_num, O2, E2⟩
      case measure => simp [intOf]; omega
    · have hil : i = l := by omega
      subst hil
      go_wp2
      go_ret2
      exact ⟨_, rfl, ho.out, he.out⟩
end Go.Proofs.Ytjgglnflicemjaa
