/- Contracts and laws that the claim's row leans on (16 texts, joined): A head: its cells, its octets; ledger.outside, ledger.PrintHead; no condition. Two chains of two operations in any order; no condition. keyref1.PrintHead; no condition. ledger.SealHead, CheckHead, keyref1.SealHead; conditions: the lengths. ledger.CheckHead, keyref1.SealHead; conditions: the lengths. A head is built; no condition. Two heads that are one are equal; what is printed is read; no condition. NameOf and the reference's, and IsName: what they compute; condition: the key's length. IsName: what it computes; no condition. strings.ContainsRune of the alphabet of names, whatever the rune; conditions: the rune is none beyond the last. strings.ContainsRune of the alphabet at runes of more than one octet; the predicate of names; strings.IndexFunc, ContainsFunc with it; conditions: the rune is none beyond the last. The reference's IsName; conditions: the string's size. The reference's IsName, whole; conditions: the string's size. The reference's Derive: what it computes, where IsName's answer is known; conditions: the key's length, the label's. Two operations that make memory, in either order; mix.Derive; conditions: the lengths. Derive at every input; the law KeysAreDerived, walked; conditions: the lengths, the string's size. -/
import Derived.Test.YtelhnimdfepmdaaJ2
import Derived.Lib.SlBytesConst
import Derived.Great.FillDense
import Derived.Laws.Runes
import Derived.Laws.RangeAny
import Derived.Laws.RangeString
import Derived.Lib.Bytealg
import Derived.Lib.OthersKept
import Derived.Lib.TrimU
import Derived.Lib.Small
import Derived.Deep.LoopGhost
import Derived.Deep.DeepCutAuto
import Derived.WalkMore
import Derived.Lib.AppendStr
import Derived.Laws.IdiomStrings
namespace Go.Proofs.Ytelhnimdfepmdaa
section
open Go Go.RowKit

def headE (C T : Int) : Int := if C < 0 ∨ 65536 < C ∨ T < 0 ∨ 1099511627776 < T then 4 else 0
def headV (C T : Int) (r1 r2 : List UInt8) : List Value := .int .i64 C :: .int .i64 T :: (r1.map u8v ++ r2.map u8v)
def headO (C T : Int) (r1 r2 : List UInt8) : List UInt8 := [75, 87, 72, 49] ++ longL (UInt64.ofNat C.toNat) ++ longL (UInt64.ofNat T.toNat) ++ r1 ++ r2
def headPost (C T : Int) (r1 r2 : List UInt8) (w : World) (e : Ending) (w' : World) : Prop :=
  ∃ v, e = .returned (.tuple #[v, .int .i64 (headE C T)]) ∧ (if headE C T = 0 then w'.ownsRow w.heap.size 5 1 v 84 ((headO C T r1 r2).map u8v) else v = .slice none 0 0) ∧ Ext w w'
theorem headV_length (C T : Int) {r1 r2 : List UInt8} (h1 : r1.length = 32) (h2 : r2.length = 32) : (headV C T r1 r2).length = 66 := by simp [headV, h1, h2]
theorem headV_r1 (C T : Int) {r1 r2 : List UInt8} (h1 : r1.length = 32) : ((headV C T r1 r2).drop 2).take 32 = r1.map u8v := by
  simp [headV, ← h1]
theorem headV_r2 (C T : Int) {r1 r2 : List UInt8} (h1 : r1.length = 32) (h2 : r2.length = 32) : ((headV C T r1 r2).drop 34).take 32 = r2.map u8v := by
  have : (headV C T r1 r2).drop 34 = r2.map u8v := by
    show (Value.int .i64 C :: Value.int .i64 T :: (r1.map u8v ++ r2.map u8v)).drop 34 = _
    rw [List.drop_succ_cons, List.drop_succ_cons, List.drop_left' (by simp [h1])]
  rw [this, List.take_of_length_le (by simp [h2])]
theorem agg_head : AggT Try.prog 70 66 := ⟨⟨_, Try.underlying70, rfl⟩, by kernel_rfl⟩

theorem Cls.grownF {w0 W w w' : World} {L : List Nat} {row : Option Nat} (h : Cls w0 W L [] w) (k : w.grownBy w' row) (hr : ∀ g, row = some g → g ∉ L) (h0 : ∀ g, row = some g → w0.heap.size ≤ g) : Cls w0 W L [] w' :=
  ⟨h.base.grown k h0, ⟨Nat.le_trans h.kept.1 k.size, h.kept.2.1, fun g hg => (k.block g (Nat.lt_of_lt_of_le (h.kept.2.1 g hg) h.kept.1) (fun e => hr g e.symm hg)).trans (h.kept.2.2 g hg)⟩, fun x hx => by cases hx⟩
theorem cells_const (ys : List Value) (T : TypeId) (w : World) (z : Nat × Nat) : Cells (w.alloc (.cells ys.toArray T z)) (some ⟨w.heap.size, 0, none⟩) ys := by
  refine .inr ⟨w.heap.size, 0, rfl, fun i u hu => ?_⟩
  have hh : (w.alloc (.cells ys.toArray T z)).heap[w.heap.size]? = some (.cells ys.toArray T z) := by
    show (w.heap.push _)[w.heap.size]? = _
    simp
  rw [Nat.zero_add]
  simp only [World.cell?, hh]
  simpa using hu

theorem outside_c (n a b : Int) (w : World) :
    Calls Try.prog 82 #[.int .i64 n, .int .i64 a, .int .i64 b] w fun e w' => e = .returned (.bool (decide (n < a) || decide (b < n))) ∧ w = w' := by
  by_cases h : n < a
  · have d1 : decide (n < a) = true := decide_eq_true h
    go_enter Try.func82, Try.ntmps82
    go_wp2
    go_ret
    exact ⟨by first | rfl | (rw [d1]; rfl), rfl⟩
  · have d1 : decide (n < a) = false := decide_eq_false h
    go_enter Try.func82, Try.ntmps82
    go_wp2
    go_ret
    exact ⟨by first | rfl | (rw [d1]; rfl), rfl⟩

set_option maxRecDepth 100000 in
set_option maxHeartbeats 2000000 in
theorem printHead_c (C T : Int) (r1 r2 : List UInt8) (w : World) (h1 : r1.length = 32) (h2 : r2.length = 32) :
    Calls Try.prog 32 #[.agg (headV C T r1 r2).toArray] w (headPost C T r1 r2 w) := by
  obtain ⟨E, hE⟩ : ∃ E, headE C T = E := ⟨_, rfl⟩
  have HE := hid hE
  unfold headE at hE
  have hv0 : (headV C T r1 r2)[0]? = some (.int .i64 C) := rfl
  have hv1 : (headV C T r1 r2)[1]? = some (.int .i64 T) := rfl
  have HVL := hid (headV_length C T h1 h2)
  have HR1 := hid (headV_r1 C T (r2 := r2) h1)
  have HR2 := hid (headV_r2 C T h1 h2)
  have HL1 := hid h1
  have HL2 := hid h2
  clear h1 h2
  generalize headV C T r1 r2 = hv at *
  go_enter Try.func32, Try.ntmps32
  go_upto_region 1 with (fail)
  generalize hwA : World.alloc w _ = wA
  have pA : Blk wA w.heap.size hv 70 := by rw [← hwA]; exact Blk.mk_alloc rfl rfl
  have eA : Ext w wA := by rw [← hwA]; exact (Ext.refl w).alloc _
  have c0 : wA.cell? ⟨w.heap.size, 0, none⟩ = some (.int .i64 C) := pA.cell' hv0
  have c1 : wA.cell? ⟨w.heap.size, 1, none⟩ = some (.int .i64 T) := pA.cell' hv1
  have PA := hid pA
  have EA := hid eA
  have HV0 := hid hv0
  have HV1 := hid hv1
  clear hwA pA eA hv0 hv1
  by_cases hbad : C < 0 ∨ 65536 < C
  · rw [if_pos (by omega)] at hE
    have db : (decide (C < 0) || decide (65536 < C)) = true := by simpa using hbad
    subst hE
    go_wp2_with (first | (go_at_call 82; refine (outside_c _ _ _ _).mono ?_; rintro e w' ⟨rfl, rfl⟩; rw [db]))
    go_ret2
    exact ⟨_, by rw [HE.out]; rfl, by rw [HE.out]; rfl, EA.out⟩
  · have db : (decide (C < 0) || decide (65536 < C)) = false := by simp at hbad ⊢; omega
    by_cases hbad2 : T < 0 ∨ 1099511627776 < T
    · rw [if_pos (by omega)] at hE
      have db2 : (decide (T < 0) || decide (1099511627776 < T)) = true := by simpa using hbad2
      subst hE
      go_wp2_with (first | (go_at_call 82; refine (outside_c _ _ _ _).mono ?_; rintro e w' ⟨rfl, rfl⟩; first | rw [db] | rw [db2]))
      go_ret2
      exact ⟨_, by rw [HE.out]; rfl, by rw [HE.out]; rfl, EA.out⟩
    · have db2 : (decide (T < 0) || decide (1099511627776 < T)) = false := by simp at hbad2 ⊢; omega
      rw [if_neg (by omega)] at hE
      subst hE
      obtain ⟨i, rfl⟩ := Int.eq_ofNat_of_zero_le (show 0 ≤ C by omega)
      obtain ⟨z, rfl⟩ := Int.eq_ofNat_of_zero_le (show 0 ≤ T by omega)
      have hlI : longNat (i : Int) = i := by unfold longNat; rw [if_neg (by omega)]; rfl
      have hlZ : longNat (z : Int) = z := by unfold longNat; rw [if_neg (by omega)]; rfl
      have hp1 := hid (fun g w' h => putLong_c [75, 87, 72, 49] (some ⟨g, 0, none⟩) 4 4 (i : Int) w' rfl (by omega) h (fun h => by cases h))
      have hp2 := hid (fun a' c' w' h h0 => putLong_c ([75, 87, 72, 49] ++ longL (UInt64.ofNat i)) a' 12 c' (z : Int) w' rfl (by omega) h h0)
      rw [hlI] at hp1
      rw [hlZ] at hp2
      clear hlI hlZ
      go_wp2_with (first | (go_at_call 82; refine (outside_c _ _ _ _).mono ?_; rintro e w' ⟨rfl, rfl⟩; first | rw [db] | rw [db2]))
      obtain ⟨C, hC⟩ : ∃ C : World → Prop, C = Cls w wA [w.heap.size] [] := ⟨_, rfl⟩
      have hC0 : ∀ w', C w' ↔ Cls w wA [w.heap.size] [] w' := fun w' => by rw [hC]
      clear hC
      have HCC := hid hC0
      clear hC0
      have hCx : ∀ w w', C w → Ext w w' → C w' := fun w w' h1 h2 => (HCC.out w').2 (((HCC.out w).1 h1).ext h2)
      have hCA : C wA := (HCC.out _).2 (Cls.no_room EA.out (Kept.one PA.out.lt))
      have e0 : ∀ w1, C w1 → w1.cell? ⟨w.heap.size, 0, none⟩ = some (.int .i64 (i : Int)) := fun w1 h1 => (((HCC.out w1).1 h1).blk PA.out (by simp)).cell' HV0.out
      have e1 : ∀ w1, C w1 → w1.cell? ⟨w.heap.size, 1, none⟩ = some (.int .i64 (z : Int)) := fun w1 h1 => (((HCC.out w1).1 h1).blk PA.out (by simp)).cell' HV1.out
      clear c0 c1 hbad hbad2 db db2
      refine wp_region_held_drew (S := C) (by kernel_rfl) (hCx _ _ hCA (Ext.refl _).drew) (fun hS0 => ?_)
      refine held_take 2 (v := ?tv1) rfl (by kernel_rfl) (by kernel_rfl) (by kernel_rfl) (fun _ _ _ h => h) (.inl ⟨rfl, ?ty1⟩) hS0 ?tr1
      case ty1 => (intro _ _; go_simp; try with_reducible rfl)
      case tr1 =>
      simp only [Act.put, List.setIfInBounds_toArray, List.set_cons_succ, List.set_cons_zero]
      refine held_take 3 (v := ?tv2) rfl (by kernel_rfl) (by kernel_rfl) (by kernel_rfl) (fun _ _ _ h => h) (.inl ⟨rfl, ?ty2⟩) hS0 ?tr2
      case ty2 => (intro wq hwq; have hcq := (e0) wq hwq; go_simp; try with_reducible rfl)
      case tr2 =>
      simp only [Act.put, List.setIfInBounds_toArray, List.set_cons_succ, List.set_cons_zero]
      refine held_take 5 (v := ?tv3) rfl (by kernel_rfl) (by kernel_rfl) (by kernel_rfl) (fun _ _ _ h => h) (.inl ⟨rfl, ?ty3⟩) hS0 ?tr3
      case ty3 => (intro _ _; go_simp; try with_reducible rfl)
      case tr3 =>
      simp only [Act.put, List.setIfInBounds_toArray, List.set_cons_succ, List.set_cons_zero]
      refine held_take 6 (v := ?tv4) rfl (by kernel_rfl) (by kernel_rfl) (by kernel_rfl) (fun _ _ _ h => h) (.inl ⟨rfl, ?ty4⟩) hS0 ?tr4
      case ty4 => (intro wq hwq; have hcq := (e1) wq hwq; go_simp; try with_reducible rfl)
      case tr4 =>
      simp only [Act.put, List.setIfInBounds_toArray, List.set_cons_succ, List.set_cons_zero]
      generalize wA.drew = wD at *
      have hwD : wA.heap.size ≤ wD.heap.size := ((HCC.out wD).1 hS0).kept.1
      have kc := fun (w : World) (C : Array Value) (n c : Nat) => Lib.run_convert_bytes_const (P := Try.prog) w 73 5 C n c Try.underlying73 Try.underlying5
      refine held_one (i := 0) (by kernel_rfl) rfl ?_
      intro Q' hQ
      go_wp2_with fail
      refine hQ _ _ (hCx _ _ hS0 ((Ext.refl wD).alloc _)) ?_
      clear hQ Q'
      try dsimp only
      try simp only [Act.put, List.setIfInBounds_toArray, List.set_cons_succ, List.set_cons_zero]
      refine held_one (i := 1) (by kernel_rfl) rfl ?_
      intro Q' hQ
      go_wp2_with fail
      refine hQ _ _ (hCx _ _ hS0 ((Ext.refl wD).alloc _)) ?_
      clear hQ Q' kc
      have C4 := hid (show Cells (wD.alloc (.cells #[Value.int .u8 75, Value.int .u8 87, Value.int .u8 72, Value.int .u8 49] 5 (4, 5))) (some ⟨wD.heap.size, 0, none⟩) (List.map u8v [75, 87, 72, 49]) from cells_const ([75, 87, 72, 49].map u8v) 5 wD (4, 5))
      have hE4 := hCx _ _ hS0 ((Ext.refl wD).alloc (.cells #[Value.int .u8 75, Value.int .u8 87, Value.int .u8 72, Value.int .u8 49] 5 (4, 5)))
      clear hS0
      generalize wD.alloc (.cells #[Value.int .u8 75, Value.int .u8 87, Value.int .u8 72, Value.int .u8 49] 5 (4, 5)) = wE at *
      generalize wD.heap.size = g4 at *
      try dsimp only
      try simp only [Act.put, List.setIfInBounds_toArray, List.set_cons_succ, List.set_cons_zero]
      have hS0 := hE4
      clear hE4
      refine held_one (i := 4) (by kernel_rfl) rfl ?_
      intro Q' hQ
      go_wp2_with fail
      refine (hp1.out g4 wE C4.out).mono ?_
      rintro e wF ⟨v1, rfl, own1, eF⟩
      obtain ⟨a1, k1, rfl, -, -, hn1, hc1⟩ := own_slice own1
      have hF := hCx _ _ hS0 eF
      go_wp2_with fail
      refine hQ _ _ hF ?_
      clear hQ Q' hS0 eF own1 hp1 C4
      have C1 := hid hc1
      have N1 := hid hn1
      clear hc1 hn1
      try dsimp only
      try simp only [Act.put, List.setIfInBounds_toArray, List.set_cons_succ, List.set_cons_zero]
      refine held_one (i := 7) (by kernel_rfl) rfl ?_
      intro Q' hQ
      go_wp2_with fail
      refine (hp2.out a1 k1 wF C1.out N1.out).mono ?_
      rintro e wG ⟨v2, rfl, own2, eG⟩
      have hG := hCx _ _ hF eG
      have own3 := own_lower own2 (show w.heap.size + 1 ≤ wF.heap.size from by have := PA.out.lt; have := ((HCC.out wF).1 hF).kept.1; omega)
      obtain ⟨a2, k2, rfl, -, -, hn2, hc2⟩ := own_slice own3
      go_wp2_with fail
      refine hQ _ _ hG ?_
      clear hQ Q' hF eG own2 C1 N1 hp2 hn2 hc2
      have O2 := hid own3
      clear own3
      try dsimp only
      try simp only [Act.put, List.setIfInBounds_toArray, List.set_cons_succ, List.set_cons_zero]
      have hS0 := hG
      clear hG
      refine held_take 8 (v := ?tv5) rfl (by kernel_rfl) (by kernel_rfl) (by kernel_rfl) (fun _ _ _ h => h) (.inl ⟨rfl, ?ty5⟩) hS0 ?tr5
      case ty5 => (intro _ _; go_simp; try with_reducible rfl)
      case tr5 =>
      simp only [Act.put, List.setIfInBounds_toArray, List.set_cons_succ, List.set_cons_zero]
      have PG := hid (((HCC.out wG).1 hS0).blk PA.out (by simp))
      have EG := hid ((HCC.out wG).1 hS0).base
      clear hS0 HCC hCx hCA e0 e1 PA EA
      refine wpAnyH_done (by kernel_rfl) ?_ _
      go_wp2
      obtain ⟨C, hC⟩ : ∃ C : World → Prop, C = Cls w wG [w.heap.size] [] := ⟨_, rfl⟩
      have hC0 : ∀ w', C w' ↔ Cls w wG [w.heap.size] [] w' := fun w' => by rw [hC]
      clear hC
      have HCC := hid hC0
      clear hC0
      have hCx : ∀ w w', C w → Ext w w' → C w' := fun w w' h1 h2 => (HCC.out w').2 (((HCC.out w).1 h1).ext h2)
      have hCA : C wG := (HCC.out _).2 (Cls.no_room EG.out (Kept.one PG.out.lt))
      have e2 : ∀ w1, C w1 → Cells w1 (some ⟨w.heap.size, 2, none⟩) (r1.map u8v) := fun w1 h1 => by
        have := Cells.of_blk (((HCC.out w1).1 h1).blk PG.out (by simp)) 2 32
        rwa [HR1.out] at this
      have e3 : ∀ w1, C w1 → Cells w1 (some ⟨w.heap.size, 34, none⟩) (r2.map u8v) := fun w1 h1 => by
        have := Cells.of_blk (((HCC.out w1).1 h1).blk PG.out (by simp)) 34 32
        rwa [HR2.out] at this
      refine wp_region_held_drew (S := C) (by kernel_rfl) (hCx _ _ hCA (Ext.refl _).drew) (fun hS0 => ?_)
      refine held_take 0 (v := ?tv6) rfl (by kernel_rfl) (by kernel_rfl) (by kernel_rfl) (fun _ _ _ h => h) (.inl ⟨rfl, ?ty6⟩) hS0 ?tr6
      case ty6 => (intro _ _; go_simp; try with_reducible rfl)
      case tr6 =>
      simp only [Act.put, List.setIfInBounds_toArray, List.set_cons_succ, List.set_cons_zero]
      refine held_take 1 (v := ?tv7) rfl (by kernel_rfl) (by kernel_rfl) (by kernel_rfl) (fun _ _ _ h => h) (.inl ⟨rfl, ?ty7⟩) hS0 ?tr7
      case ty7 => (intro _ _; go_simp; try with_reducible rfl)
      case tr7 =>
      simp only [Act.put, List.setIfInBounds_toArray, List.set_cons_succ, List.set_cons_zero]
      refine held_take 2 (v := ?tv8) rfl (by kernel_rfl) (by kernel_rfl) (by kernel_rfl) (fun _ _ _ h => h) (.inl ⟨rfl, ?ty8⟩) hS0 ?tr8
      case ty8 => (intro _ _; go_simp; try with_reducible rfl)
      case tr8 =>
      simp only [Act.put, List.setIfInBounds_toArray, List.set_cons_succ, List.set_cons_zero]
      refine held_take 4 (v := ?tv9) rfl (by kernel_rfl) (by kernel_rfl) (by kernel_rfl) (fun _ _ _ h => h) (.inl ⟨rfl, ?ty9⟩) hS0 ?tr9
      case ty9 => (intro _ _; go_simp; try with_reducible rfl)
      case tr9 =>
      simp only [Act.put, List.setIfInBounds_toArray, List.set_cons_succ, List.set_cons_zero]
      refine held_take 5 (v := ?tv10) rfl (by kernel_rfl) (by kernel_rfl) (by kernel_rfl) (fun _ _ _ h => h) (.inl ⟨rfl, ?ty10⟩) hS0 ?tr10
      case ty10 => (intro _ _; go_simp; try with_reducible rfl)
      case tr10 =>
      simp only [Act.put, List.setIfInBounds_toArray, List.set_cons_succ, List.set_cons_zero]
      have OH := hid (ownsRow_ext O2.out (Ext.refl wG).drew)
      have hbH : w.heap.size + 1 ≤ wG.drew.heap.size := by have := PG.out.lt; have := ((HCC.out _).1 hS0).kept.1; omega
      clear O2
      generalize wG.drew = wH at *
      refine held_one (i := 3) (by kernel_rfl) rfl ?_
      intro Q' hQ
      go_wp2_with (at_builtin; refine wpl_append8 rfl _ _ rfl (w.heap.size + 1) (ys := r1) rfl rfl OH.out HL1.out (fun h => by cases h) (e2 wH hS0) (by omega) hbH ?_)
      intro v3 wI own4 g4
      have OI := hid (show wI.ownsRow (w.heap.size + 1) 5 1 v3 52 (([75, 87, 72, 49] ++ longL (UInt64.ofNat i) ++ longL (UInt64.ofNat z) ++ r1).map u8v) from by simpa using own4)
      clear own4
      have hv := fun g' h => own_block_ge OH.out g' h
      have hI : C wI := (HCC.out _).2 (((HCC.out _).1 hS0).grownF g4 (fun g' h => by have := hv g' h; simp; omega) (fun g' h => by have := hv g' h; omega))
      have hbI : w.heap.size + 1 ≤ wI.heap.size := Nat.le_trans hbH g4.size
      go_wp2_with fail
      refine hQ _ _ hI ?_
      clear hQ Q' hS0 g4 hv OH hbH
      try dsimp only
      try simp only [Act.put, List.setIfInBounds_toArray, List.set_cons_succ, List.set_cons_zero]
      refine held_one (i := 6) (by kernel_rfl) rfl ?_
      intro Q' hQ
      go_wp2_with (at_builtin; refine wpl_append8 rfl _ _ rfl (w.heap.size + 1) (ys := r2) rfl rfl OI.out HL2.out (fun h => by cases h) (e3 wI hI) (by omega) hbI ?_)
      intro v4 wJ own5 g5
      have OJ := hid (show wJ.ownsRow (w.heap.size + 1) 5 1 v4 84 (([75, 87, 72, 49] ++ longL (UInt64.ofNat i) ++ longL (UInt64.ofNat z) ++ r1 ++ r2).map u8v) from by simpa using own5)
      clear own5
      have hv := fun g' h => own_block_ge OI.out g' h
      have hJ : C wJ := (HCC.out _).2 (((HCC.out _).1 hI).grownF g5 (fun g' h => by have := hv g' h; simp; omega) (fun g' h => by have := hv g' h; omega))
      go_wp2_with fail
      refine hQ _ _ hJ ?_
      clear hQ Q' hI g5 hv OI hbI
      try dsimp only
      try simp only [Act.put, List.setIfInBounds_toArray, List.set_cons_succ, List.set_cons_zero]
      have hS0 := hJ
      clear hJ
      refine held_take 7 (v := ?tv11) rfl (by kernel_rfl) (by kernel_rfl) (by kernel_rfl) (fun _ _ _ h => h) (.inl ⟨rfl, ?ty11⟩) hS0 ?tr11
      case ty11 => (intro _ _; go_simp; try with_reducible rfl)
      case tr11 =>
      simp only [Act.put, List.setIfInBounds_toArray, List.set_cons_succ, List.set_cons_zero]
      refine held_take 8 (v := ?tv12) rfl (by kernel_rfl) (by kernel_rfl) (by kernel_rfl) (fun _ _ _ h => h) (.inl ⟨rfl, ?ty12⟩) hS0 ?tr12
      case ty12 => (intro _ _; go_simp; try with_reducible rfl)
      case tr12 =>
      simp only [Act.put, List.setIfInBounds_toArray, List.set_cons_succ, List.set_cons_zero]
      have EJ := hid ((HCC.out wJ).1 hS0).base
      clear hS0 HCC hCx hCA e2 e3 PG EG
      refine wpAnyH_done (by kernel_rfl) ?_ _
      go_wp2
      go_ret2
      refine ⟨_, by rw [HE.out]; rfl, ?_, EJ.out⟩
      rw [if_pos HE.out]
      exact own_lower OJ.out (Nat.le_succ _)
end

section
open Go Go.RowKit

/-- each block has its cells yet; a mark may have been set -/
def Rel (w w' : World) : Prop := w.heap.size ≤ w'.heap.size ∧ ∀ (k : Nat) c e z, w.heap[k]? = some (.cells c e z) → ∃ z', w'.heap[k]? = some (.cells c e z')
theorem Rel.refl (w : World) : Rel w w := ⟨Nat.le_refl _, fun k c e z h => ⟨z, h⟩⟩
theorem Rel.trans {a b c : World} (h : Rel a b) (k : Rel b c) : Rel a c := ⟨Nat.le_trans h.1 k.1, fun i x e z hx => by obtain ⟨z', h'⟩ := h.2 i x e z hx; exact k.2 i x e z' h'⟩
theorem Rel.ofExt {w w' : World} (h : Ext w w') : Rel w w' := ⟨h.size, fun k c e z hk => ⟨z, (h.block k (Array.getElem?_eq_some_iff.1 hk).1).trans hk⟩⟩
theorem Rel.cell {w w' : World} (h : Rel w w') {a : Addr} {v : Value} (hs : a.spot = none) (hc : w.cell? a = some v) : w'.cell? a = some v := by
  simp only [World.cell?] at hc ⊢
  cases hk : w.heap[a.block]? with
  | none => rw [hk] at hc; simp at hc
  | some o =>
    rw [hk] at hc
    cases o with
    | cells c e z => obtain ⟨z', h'⟩ := h.2 _ _ _ _ hk; rw [h']; exact hc
    | _ => simp at hc
theorem Cells.rel {w w' : World} {a : Option Addr} {xs : List Value} (h : Cells w a xs) (k : Rel w w') : Cells w' a xs := by
  rcases h with h | ⟨b, off, ha, h⟩
  · exact .inl h
  · exact .inr ⟨b, off, ha, fun i u hu => k.cell rfl (h i u hu)⟩

section
variable {P : Program} {ops : Array Oper} {Q : Exit → Act → World → Prop} {S : World → Prop}
theorem held_22 {i1 i2 j1 j2 : Nat} {o1 o2 p1 p2 : Oper} {r1 r2 r3 r4 : List Oper} {f : Nat} {listed : Array Bool} {a : Act} {w : World} {β γ1 γ2 : Type} (v : β → Value) (u1 : γ1 → Value) (u2 : γ2 → Value)
    (Φ : β → World → Prop) (Ψ1 : γ1 → World → Prop) (Ψ2 : γ2 → World → Prop) (mk : Value → Value → Value → Value → Act)
    (R0 : Region.ready .any ops listed = [i1, j1]) (Ri : Region.ready .any ops (listed.setIfInBounds i1 true) = [i2, j1]) (Rj : Region.ready .any ops (listed.setIfInBounds j1 true) = [i1, j2])
    (Rii : Region.ready .any ops ((listed.setIfInBounds i1 true).setIfInBounds i2 true) = [j1]) (Rij : Region.ready .any ops ((listed.setIfInBounds i1 true).setIfInBounds j1 true) = [i2, j2]) (Rjj : Region.ready .any ops ((listed.setIfInBounds j1 true).setIfInBounds j2 true) = [i1])
    (Riij : Region.ready .any ops (((listed.setIfInBounds i1 true).setIfInBounds i2 true).setIfInBounds j1 true) = [j2]) (Rijj : Region.ready .any ops (((listed.setIfInBounds i1 true).setIfInBounds j1 true).setIfInBounds j2 true) = [i2])
    (n1 : (i1 == j1) = false) (n2 : (i1 == j2) = false) (n3 : (i2 == j1) = false) (n4 : (i2 == j2) = false)
    (ho1 : ops.toList.drop i1 = o1 :: r1) (ho2 : ops.toList.drop i2 = o2 :: r2) (hp1 : ops.toList.drop j1 = p1 :: r3) (hp2 : ops.toList.drop j2 = p2 :: r4)
    (hΦ : ∀ b w w', Φ b w → Rel w w' → Φ b w') (hΨ1 : ∀ b w w', Ψ1 b w → Rel w w' → Ψ1 b w') (hΨ2 : ∀ b w w', Ψ2 b w → Rel w w' → Ψ2 b w')
    (hi1 : ∀ y1 y2 w, S w → ∀ Q' : Exit → Act → World → Prop, (∀ b w', S w' → Rel w w' → Φ b w' → Q' .normal (mk (v b) undef y1 y2) w') → wpList P ops Q' [o1] (mk undef undef y1 y2) w)
    (hi2 : ∀ b y1 y2 w, S w → Φ b w → ∀ Q' : Exit → Act → World → Prop, (∀ w', S w' → Rel w w' → Q' .normal (mk (v b) (v b) y1 y2) w') → wpList P ops Q' [o2] (mk (v b) undef y1 y2) w)
    (hj1 : ∀ x1 x2 w, S w → ∀ Q' : Exit → Act → World → Prop, (∀ b w', S w' → Rel w w' → Ψ1 b w' → Q' .normal (mk x1 x2 (u1 b) undef) w') → wpList P ops Q' [p1] (mk x1 x2 undef undef) w)
    (hj2 : ∀ x1 x2 b1 w, S w → ∀ Q' : Exit → Act → World → Prop, (∀ b w', S w' → Rel w w' → Ψ2 b w' → Q' .normal (mk x1 x2 (u1 b1) (u2 b)) w') → wpList P ops Q' [p2] (mk x1 x2 (u1 b1) undef) w)
    (ha : a = mk undef undef undef undef) (hS : S w)
    (h : ∀ b c1 c2 w', S w' → Φ b w' → Ψ1 c1 w' → Ψ2 c2 w' → wpAnyH P .any ops Q S f ((((listed.setIfInBounds i1 true).setIfInBounds i2 true).setIfInBounds j1 true).setIfInBounds j2 true) (mk (v b) (v b) (u1 c1) (u2 c2)) w') :
    wpAnyH P .any ops Q S (f + 4) listed a w := by
  have m1 : i1 ≠ j1 := by simpa using n1
  have m2 : i1 ≠ j2 := by simpa using n2
  have m3 : i2 ≠ j1 := by simpa using n3
  have m4 : i2 ≠ j2 := by simpa using n4
  -- i1, i2, j1 are over
  have Eiij : ∀ b c1 w, S w → Φ b w → Ψ1 c1 w → wpAnyH P .any ops Q S (f + 1) (((listed.setIfInBounds i1 true).setIfInBounds i2 true).setIfInBounds j1 true) (mk (v b) (v b) (u1 c1) undef) w := by
    intro b c1 w hS hb hc
    refine held_one Riij hp2 fun Q' hQ => ?_
    refine hj2 _ _ c1 w hS Q' fun c2 w' hS' hr hc2 => ?_
    exact hQ _ _ hS' (h b c1 c2 w' hS' (hΦ _ _ _ hb hr) (hΨ1 _ _ _ hc hr) hc2)
  -- i1, j1, j2 are over
  have Eijj : ∀ b c1 c2 w, S w → Φ b w → Ψ1 c1 w → Ψ2 c2 w → wpAnyH P .any ops Q S (f + 1) (((listed.setIfInBounds i1 true).setIfInBounds j1 true).setIfInBounds j2 true) (mk (v b) undef (u1 c1) (u2 c2)) w := by
    intro b c1 c2 w hS hb hc hc2
    refine held_one Rijj ho2 fun Q' hQ => ?_
    refine hi2 b _ _ w hS hb Q' fun w' hS' hr => ?_
    refine hQ _ _ hS' ?_
    rw [Array.setIfInBounds_comm (xs := (listed.setIfInBounds i1 true).setIfInBounds j1 true) _ _ (Ne.symm m4), Array.setIfInBounds_comm (xs := listed.setIfInBounds i1 true) _ _ (Ne.symm m3)]
    exact h b c1 c2 w' hS' (hΦ _ _ _ hb hr) (hΨ1 _ _ _ hc hr) (hΨ2 _ _ _ hc2 hr)
  have Eii : ∀ b w, S w → Φ b w → wpAnyH P .any ops Q S (f + 2) ((listed.setIfInBounds i1 true).setIfInBounds i2 true) (mk (v b) (v b) undef undef) w := by
    intro b w hS hb
    refine held_one Rii hp1 fun Q' hQ => ?_
    refine hj1 _ _ w hS Q' fun c1 w' hS' hr hc => ?_
    exact hQ _ _ hS' (Eiij b c1 w' hS' (hΦ _ _ _ hb hr) hc)
  have Eij : ∀ b c1 w, S w → Φ b w → Ψ1 c1 w → wpAnyH P .any ops Q S (f + 2) ((listed.setIfInBounds i1 true).setIfInBounds j1 true) (mk (v b) undef (u1 c1) undef) w := by
    intro b c1 w hS hb hc
    refine wpAnyH_all Rij (by simp) fun k hk => ?_
    have hk' : k = i2 ∨ k = j2 := by simpa using hk
    rcases hk' with rfl | rfl
    · refine wpOp_of_list (op_of_drop ho2) (hi2 b _ _ w hS hb _ fun w' hS' hr => ?_)
      refine ⟨hS', ?_⟩
      rw [Array.setIfInBounds_comm (xs := listed.setIfInBounds i1 true) _ _ (Ne.symm m3)]
      exact Eiij b c1 w' hS' (hΦ _ _ _ hb hr) (hΨ1 _ _ _ hc hr)
    · refine wpOp_of_list (op_of_drop hp2) (hj2 _ _ c1 w hS _ fun c2 w' hS' hr hc2 => ?_)
      exact ⟨hS', Eijj b c1 c2 w' hS' (hΦ _ _ _ hb hr) (hΨ1 _ _ _ hc hr) hc2⟩
  have Ejj : ∀ c1 c2 w, S w → Ψ1 c1 w → Ψ2 c2 w → wpAnyH P .any ops Q S (f + 2) ((listed.setIfInBounds j1 true).setIfInBounds j2 true) (mk undef undef (u1 c1) (u2 c2)) w := by
    intro c1 c2 w hS hc hc2
    refine held_one Rjj ho1 fun Q' hQ => ?_
    refine hi1 _ _ w hS Q' fun b w' hS' hr hb => ?_
    refine hQ _ _ hS' ?_
    rw [Array.setIfInBounds_comm (xs := listed.setIfInBounds j1 true) _ _ (Ne.symm m2), Array.setIfInBounds_comm (xs := listed) _ _ (Ne.symm m1)]
    exact Eijj b c1 c2 w' hS' hb (hΨ1 _ _ _ hc hr) (hΨ2 _ _ _ hc2 hr)
  have Ei : ∀ b w, S w → Φ b w → wpAnyH P .any ops Q S (f + 3) (listed.setIfInBounds i1 true) (mk (v b) undef undef undef) w := by
    intro b w hS hb
    refine wpAnyH_all Ri (by simp) fun k hk => ?_
    have hk' : k = i2 ∨ k = j1 := by simpa using hk
    rcases hk' with rfl | rfl
    · refine wpOp_of_list (op_of_drop ho2) (hi2 b _ _ w hS hb _ fun w' hS' hr => ?_)
      exact ⟨hS', Eii b w' hS' (hΦ _ _ _ hb hr)⟩
    · refine wpOp_of_list (op_of_drop hp1) (hj1 _ _ w hS _ fun c1 w' hS' hr hc => ?_)
      exact ⟨hS', Eij b c1 w' hS' (hΦ _ _ _ hb hr) hc⟩
  have Ej : ∀ c1 w, S w → Ψ1 c1 w → wpAnyH P .any ops Q S (f + 3) (listed.setIfInBounds j1 true) (mk undef undef (u1 c1) undef) w := by
    intro c1 w hS hc
    refine wpAnyH_all Rj (by simp) fun k hk => ?_
    have hk' : k = i1 ∨ k = j2 := by simpa using hk
    rcases hk' with rfl | rfl
    · refine wpOp_of_list (op_of_drop ho1) (hi1 _ _ w hS _ fun b w' hS' hr hb => ?_)
      refine ⟨hS', ?_⟩
      rw [Array.setIfInBounds_comm (xs := listed) _ _ (Ne.symm m1)]
      exact Eij b c1 w' hS' hb (hΨ1 _ _ _ hc hr)
    · refine wpOp_of_list (op_of_drop hp2) (hj2 _ _ c1 w hS _ fun c2 w' hS' hr hc2 => ?_)
      exact ⟨hS', Ejj c1 c2 w' hS' (hΨ1 _ _ _ hc hr) hc2⟩
  subst ha
  refine wpAnyH_all R0 (by simp) fun k hk => ?_
  have hk' : k = i1 ∨ k = j1 := by simpa using hk
  rcases hk' with rfl | rfl
  · refine wpOp_of_list (op_of_drop ho1) (hi1 _ _ w hS _ fun b w' hS' hr hb => ?_)
    exact ⟨hS', Ei b w' hS' hb⟩
  · refine wpOp_of_list (op_of_drop hp1) (hj1 _ _ w hS _ fun c1 w' hS' hr hc => ?_)
    exact ⟨hS', Ej c1 w' hS' hc⟩
end
end

section
open Go Go.RowKit

theorem run_conv_mark (t e : TypeId) (g n c : Nat) (cs : Array Value) (e2 : TypeId) (z : Nat × Nat) (w : World) {P : Program} (ht : P.underlying t = some (.slice e)) (he : P.underlying e = some (.int .u8)) (hb : w.heap[g]? = some (.cells cs e2 z)) :
    (convert t t (.slice (some ⟨g, 0, none⟩) n c)).run P w = .ok (.slice (some ⟨g, 0, none⟩) n c) (w.freeze ⟨g, cs.size, none⟩ 1) := by
  have hsh : w.shape? g = some (e2, cs.size) := by
    unfold World.shape?
    rw [hb]
  simp [convert, run_underlying ht, run_underlying he, markStringish, hsh]
theorem freeze_rel (w : World) (a : Addr) : Rel w (w.freeze a 1) := by
  unfold World.freeze
  rw [if_neg (by decide)]
  refine ⟨by simp, fun k c e z hk => ?_⟩
  simp only [Array.getElem?_modify]
  split
  · rw [hk]; simp
  · exact ⟨z, hk⟩
theorem freeze_grown (w : World) (a : Addr) : w.grownBy (w.freeze a 1) (some a.block) := by
  unfold World.freeze
  rw [if_neg (by decide)]
  refine ⟨rfl, rfl, rfl, by simp, fun k _ hk => ?_⟩
  simp only [Array.getElem?_modify]
  rw [if_neg (fun e => hk (by rw [e]))]

set_option maxRecDepth 100000 in
set_option maxHeartbeats 2000000 in
theorem rprintHead_c (C T : Int) (r1 r2 : List UInt8) (w : World) (h1 : r1.length = 32) (h2 : r2.length = 32) :
    Calls Try.prog 33 #[.agg (headV C T r1 r2).toArray] w (headPost C T r1 r2 w) := by
  obtain ⟨E, hE⟩ : ∃ E, headE C T = E := ⟨_, rfl⟩
  have HE := hid hE
  unfold headE at hE
  have hv0 : (headV C T r1 r2)[0]? = some (.int .i64 C) := rfl
  have hv1 : (headV C T r1 r2)[1]? = some (.int .i64 T) := rfl
  have HVL := hid (headV_length C T h1 h2)
  have HR1 := hid (headV_r1 C T (r2 := r2) h1)
  have HR2 := hid (headV_r2 C T h1 h2)
  have HL1 := hid h1
  have HL2 := hid h2
  clear h1 h2
  generalize headV C T r1 r2 = hv at *
  go_enter Try.func33, Try.ntmps33
  go_upto_region 1 with (fail)
  generalize hwA : World.alloc w _ = wA
  have pA : Blk wA w.heap.size hv 70 := by rw [← hwA]; exact Blk.mk_alloc rfl rfl
  have eA : Ext w wA := by rw [← hwA]; exact (Ext.refl w).alloc _
  have c0 : wA.cell? ⟨w.heap.size, 0, none⟩ = some (.int .i64 C) := pA.cell' hv0
  have c1 : wA.cell? ⟨w.heap.size, 1, none⟩ = some (.int .i64 T) := pA.cell' hv1
  have PA := hid pA
  have EA := hid eA
  have HV0 := hid hv0
  have HV1 := hid hv1
  clear hwA pA eA hv0 hv1
  by_cases a1 : C < 0
  · rw [if_pos (by omega)] at hE
    have d1 : decide (C < 0) = true := decide_eq_true a1
    subst hE
    go_wp2
    go_ret2
    exact ⟨_, by rw [HE.out]; rfl, by rw [HE.out]; rfl, EA.out⟩
  have d1 : decide (C < 0) = false := decide_eq_false a1
  by_cases a2 : 65536 < C
  · rw [if_pos (by omega)] at hE
    have d2 : decide (65536 < C) = true := decide_eq_true a2
    subst hE
    go_wp2
    go_ret2
    exact ⟨_, by rw [HE.out]; rfl, by rw [HE.out]; rfl, EA.out⟩
  have d2 : decide (65536 < C) = false := decide_eq_false a2
  by_cases a3 : T < 0
  · rw [if_pos (by omega)] at hE
    have d3 : decide (T < 0) = true := decide_eq_true a3
    subst hE
    go_wp2
    go_ret2
    exact ⟨_, by rw [HE.out]; rfl, by rw [HE.out]; rfl, EA.out⟩
  have d3 : decide (T < 0) = false := decide_eq_false a3
  by_cases a4 : 1099511627776 < T
  · rw [if_pos (by omega)] at hE
    have d4 : decide (1099511627776 < T) = true := decide_eq_true a4
    subst hE
    go_wp2
    go_ret2
    exact ⟨_, by rw [HE.out]; rfl, by rw [HE.out]; rfl, EA.out⟩
  have d4 : decide (1099511627776 < T) = false := decide_eq_false a4
  rw [if_neg (by omega)] at hE
  subst hE
  obtain ⟨i, rfl⟩ := Int.eq_ofNat_of_zero_le (show 0 ≤ C by omega)
  obtain ⟨z, rfl⟩ := Int.eq_ofNat_of_zero_le (show 0 ≤ T by omega)
  have hp1 := hid (fun w' => rlong_c i w' (by omega))
  have hp2 := hid (fun w' => rlong_c z w' (by omega))
  have f1 : decide (i < 0) = false := decide_eq_false (by omega)
  have f2 : decide (65536 < i) = false := decide_eq_false (by omega)
  have f3 : decide (z < 0) = false := decide_eq_false (by omega)
  have f4 : decide (1099511627776 < z) = false := decide_eq_false (by omega)
  go_wp2
  obtain ⟨C, hC⟩ : ∃ C : World → Prop, C = Cls w wA [w.heap.size] [] := ⟨_, rfl⟩
  have hC0 : ∀ w', C w' ↔ Cls w wA [w.heap.size] [] w' := fun w' => by rw [hC]
  clear hC
  have HCC := hid hC0
  clear hC0
  have hCx : ∀ w w', C w → Ext w w' → C w' := fun w w' h1 h2 => (HCC.out w').2 (((HCC.out w).1 h1).ext h2)
  have hCA : C wA := (HCC.out _).2 (Cls.no_room EA.out (Kept.one PA.out.lt))
  have e0 : ∀ w1, C w1 → w1.cell? ⟨w.heap.size, 0, none⟩ = some (.int .i64 (i : Int)) := fun w1 h1 => (((HCC.out w1).1 h1).blk PA.out (by simp)).cell' HV0.out
  have e1 : ∀ w1, C w1 → w1.cell? ⟨w.heap.size, 1, none⟩ = some (.int .i64 (z : Int)) := fun w1 h1 => (((HCC.out w1).1 h1).blk PA.out (by simp)).cell' HV1.out
  clear c0 c1 d1 d2 d3 d4 a1 a2 a3 a4 f1 f2 f3 f4
  refine wp_region_held_drew (S := C) (by kernel_rfl) (hCx _ _ hCA (Ext.refl _).drew) (fun hS0 => ?_)
  refine held_take 2 (v := ?tv1) rfl (by kernel_rfl) (by kernel_rfl) (by kernel_rfl) (fun _ _ _ h => h) (.inl ⟨rfl, ?ty1⟩) hS0 ?tr1
  case ty1 => (intro _ _; go_simp; try with_reducible rfl)
  case tr1 =>
  simp only [Act.put, List.setIfInBounds_toArray, List.set_cons_succ, List.set_cons_zero]
  refine held_take 3 (v := ?tv2) rfl (by kernel_rfl) (by kernel_rfl) (by kernel_rfl) (fun _ _ _ h => h) (.inl ⟨rfl, ?ty2⟩) hS0 ?tr2
  case ty2 => (intro wq hwq; have hcq := (e0) wq hwq; go_simp; try with_reducible rfl)
  case tr2 =>
  simp only [Act.put, List.setIfInBounds_toArray, List.set_cons_succ, List.set_cons_zero]
  refine held_take 5 (v := ?tv3) rfl (by kernel_rfl) (by kernel_rfl) (by kernel_rfl) (fun _ _ _ h => h) (.inl ⟨rfl, ?ty3⟩) hS0 ?tr3
  case ty3 => (intro _ _; go_simp; try with_reducible rfl)
  case tr3 =>
  simp only [Act.put, List.setIfInBounds_toArray, List.set_cons_succ, List.set_cons_zero]
  refine held_take 6 (v := ?tv4) rfl (by kernel_rfl) (by kernel_rfl) (by kernel_rfl) (fun _ _ _ h => h) (.inl ⟨rfl, ?ty4⟩) hS0 ?tr4
  case ty4 => (intro wq hwq; have hcq := (e1) wq hwq; go_simp; try with_reducible rfl)
  case tr4 =>
  simp only [Act.put, List.setIfInBounds_toArray, List.set_cons_succ, List.set_cons_zero]
  refine held_take 8 (v := ?tv5) rfl (by kernel_rfl) (by kernel_rfl) (by kernel_rfl) (fun _ _ _ h => h) (.inl ⟨rfl, ?ty5⟩) hS0 ?tr5
  case ty5 => (intro _ _; go_simp; try with_reducible rfl)
  case tr5 =>
  simp only [Act.put, List.setIfInBounds_toArray, List.set_cons_succ, List.set_cons_zero]
  refine held_take 9 (v := ?tv6) rfl (by kernel_rfl) (by kernel_rfl) (by kernel_rfl) (fun _ _ _ h => h) (.inl ⟨rfl, ?ty6⟩) hS0 ?tr6
  case ty6 => (intro _ _; go_simp; try with_reducible rfl)
  case tr6 =>
  simp only [Act.put, List.setIfInBounds_toArray, List.set_cons_succ, List.set_cons_zero]
  refine held_take 10 (v := ?tv7) rfl (by kernel_rfl) (by kernel_rfl) (by kernel_rfl) (fun _ _ _ h => h) (.inl ⟨rfl, ?ty7⟩) hS0 ?tr7
  case ty7 => (intro _ _; go_simp; try with_reducible rfl)
  case tr7 =>
  simp only [Act.put, List.setIfInBounds_toArray, List.set_cons_succ, List.set_cons_zero]
  refine held_take 11 (v := ?tv8) rfl (by kernel_rfl) (by kernel_rfl) (by kernel_rfl) (fun _ _ _ h => h) (.inl ⟨rfl, ?ty8⟩) hS0 ?tr8
  case ty8 => (intro _ _; go_simp; try with_reducible rfl)
  case tr8 =>
  simp only [Act.put, List.setIfInBounds_toArray, List.set_cons_succ, List.set_cons_zero]
  generalize wA.drew = wD at *
  have hlow : ∀ w1, C w1 → w.heap.size + 1 ≤ w1.heap.size := fun w1 h1 => by have := PA.out.lt; have := ((HCC.out w1).1 h1).kept.1; omega
  refine held_22 (i1 := 0) (i2 := 1) (j1 := 4) (j2 := 7) (β := Nat) (γ1 := Nat) (γ2 := Nat) (fun b => .slice (some ⟨b, 0, none⟩) 4 4) (fun b => .slice (some ⟨b, 0, none⟩) 8 8) (fun b => .slice (some ⟨b, 0, none⟩) 8 8)
    (fun b w1 => w.heap.size + 1 ≤ b ∧ ∃ zz, w1.heap[b]? = some (.cells #[Value.int .u8 75, Value.int .u8 87, Value.int .u8 72, Value.int .u8 49] 5 zz)) (fun b w1 => Cells w1 (some ⟨b, 0, none⟩) ((longL (UInt64.ofNat i)).map u8v)) (fun b w1 => Cells w1 (some ⟨b, 0, none⟩) ((longL (UInt64.ofNat z)).map u8v))
    (fun x1 x2 y1 y2 => { tmps := #[Value.agg hv.toArray, Value.pointer (some { block := w.heap.size, off := 0 }), Value.slice none 0 0, Value.int IntKind.i64 0, Value.pointer (some { block := w.heap.size, off := 0 }), Value.int IntKind.i64 ↑i, Value.bool false, Value.bool false, Value.pointer (some { block := w.heap.size, off := 0 }), Value.int IntKind.i64 ↑i, Value.bool false, Value.bool false, Value.bool false, Value.pointer (some { block := w.heap.size, off := 1 }), Value.int IntKind.i64 ↑z, Value.bool false, Value.bool false, Value.bool false, Value.pointer (some { block := w.heap.size, off := 1 }), Value.int IntKind.i64 ↑z, Value.bool false, Value.bool false, x1, x2, Value.pointer (some { block := w.heap.size, off := 0 }), Value.int IntKind.i64 ↑i, y1, Value.pointer (some { block := w.heap.size, off := 1 }), Value.int IntKind.i64 ↑z, y2, Value.pointer (some { block := w.heap.size, off := 2 }), Value.slice (some { block := w.heap.size, off := 2 }) 32 32, Value.pointer (some { block := w.heap.size, off := 34 }), Value.slice (some { block := w.heap.size, off := 34 }) 32 32, undef, undef], defers := [] })
    (by kernel_rfl) (by kernel_rfl) (by kernel_rfl) (by kernel_rfl) (by kernel_rfl) (by kernel_rfl) (by kernel_rfl) (by kernel_rfl) rfl rfl rfl rfl rfl rfl rfl rfl
    (fun b w1 w2 h k => ⟨h.1, by obtain ⟨z1, hz⟩ := h.2; exact k.2 _ _ _ _ hz⟩) (fun b w1 w2 h k => h.rel k) (fun b w1 w2 h k => h.rel k)
    ?c1 ?c2 ?c3 ?c4 rfl hS0 ?rest
  case c1 =>
    intro y1 y2 w1 hS1 Q' hQ
    have hb := hlow w1 hS1
    clear hS0 e0 e1
    go_wp2_with fail
    exact hQ w1.heap.size _ (hCx _ _ hS1 ((Ext.refl w1).alloc _)) (Rel.ofExt ((Ext.refl w1).alloc _)) ⟨hb, (0, 0), Blk.alloc_new w1 ([75, 87, 72, 49].map u8v) 5⟩
  case c2 =>
    rintro b y1 y2 w1 hS1 ⟨hb, zz, hcb⟩ Q' hQ
    have kc := run_conv_mark (P := Try.prog) 73 5 b 4 4 _ _ _ w1 Try.underlying73 Try.underlying5 hcb
    clear hcb hS0 e0 e1
    go_wp2_with fail
    exact hQ _ ((HCC.out _).2 (((HCC.out _).1 hS1).grownF (freeze_grown w1 _) (fun g h => by cases h; simp; omega) (fun g h => by cases h; show _ ≤ b; omega))) (freeze_rel w1 _)
  case c3 =>
    intro x1 x2 w1 hS1 Q' hQ
    clear hS0 e0 e1
    go_wp2_with fail
    refine (hp1.out w1).mono ?_
    rintro e w2 ⟨rfl, b2, e2⟩
    have hS2 := hCx _ _ hS1 e2
    have C2 := hid (Cells.of_blk0 b2)
    have hr := Rel.ofExt e2
    clear b2 e2
    go_wp2_with fail
    exact hQ _ _ hS2 hr C2.out
  case c4 =>
    intro x1 x2 b1 w1 hS1 Q' hQ
    clear hS0 e0 e1
    go_wp2_with fail
    refine (hp2.out w1).mono ?_
    rintro e w2 ⟨rfl, b2, e2⟩
    have hS2 := hCx _ _ hS1 e2
    have C2 := hid (Cells.of_blk0 b2)
    have hr := Rel.ofExt e2
    clear b2 e2
    go_wp2_with fail
    exact hQ _ _ hS2 hr C2.out
  case rest =>
    clear hS0 hp1 hp2
    rintro b b1 b2 wF hF ⟨hb, zb, hcb⟩ k1 k2
    have k0 : Cells wF (some ⟨b, 0, none⟩) ([75, 87, 72, 49].map u8v) := by
      refine .inr ⟨b, 0, rfl, fun j u hu => ?_⟩
      rw [Nat.zero_add]
      simp only [World.cell?, hcb]
      exact (List.getElem?_toArray (xs := [75, 87, 72, 49].map u8v)).trans hu
    have PF := hid (((HCC.out wF).1 hF).blk PA.out (by simp))
    have k3 : Cells wF (some ⟨w.heap.size, 2, none⟩) (r1.map u8v) := by
      have := Cells.of_blk PF.out 2 32
      rwa [HR1.out] at this
    have k4 : Cells wF (some ⟨w.heap.size, 34, none⟩) (r2.map u8v) := by
      have := Cells.of_blk PF.out 34 32
      rwa [HR2.out] at this
    have K0 := hid k0
    have K1 := hid k1
    have K2 := hid k2
    have K3 := hid k3
    have K4 := hid k4
    clear k0 k1 k2 k3 k4 hcb hb e0 e1 hlow
    try dsimp only
    try simp only [Act.put, List.setIfInBounds_toArray, List.set_cons_succ, List.set_cons_zero]
    refine held_one (i := 12) (by kernel_rfl) rfl ?_
    intro Q' hQ
    go_wp2_with fail
    have hG := hCx _ _ hF ((Ext.refl wF).alloc (.cells #[.slice (some ⟨b, 0, none⟩) 4 4, .slice (some ⟨b1, 0, none⟩) 8 8, .slice (some ⟨b2, 0, none⟩) 8 8, .slice (some ⟨w.heap.size, 2, none⟩) 32 32, .slice (some ⟨w.heap.size, 34, none⟩) 32 32] 73))
    have BG := hid (show Blk (wF.alloc (.cells #[.slice (some ⟨b, 0, none⟩) 4 4, .slice (some ⟨b1, 0, none⟩) 8 8, .slice (some ⟨b2, 0, none⟩) 8 8, .slice (some ⟨w.heap.size, 2, none⟩) 32 32, .slice (some ⟨w.heap.size, 34, none⟩) 32 32] 73)) wF.heap.size [.slice (some ⟨b, 0, none⟩) 4 4, .slice (some ⟨b1, 0, none⟩) 8 8, .slice (some ⟨b2, 0, none⟩) 8 8, .slice (some ⟨w.heap.size, 2, none⟩) 32 32, .slice (some ⟨w.heap.size, 34, none⟩) 32 32] 73 from Blk.mk_alloc rfl rfl)
    have EG := hid ((Ext.refl wF).alloc (.cells #[.slice (some ⟨b, 0, none⟩) 4 4, .slice (some ⟨b1, 0, none⟩) 8 8, .slice (some ⟨b2, 0, none⟩) 8 8, .slice (some ⟨w.heap.size, 2, none⟩) 32 32, .slice (some ⟨w.heap.size, 34, none⟩) 32 32] 73))
    refine hQ _ _ hG ?_
    clear hQ Q'
    generalize wF.alloc (.cells #[.slice (some ⟨b, 0, none⟩) 4 4, .slice (some ⟨b1, 0, none⟩) 8 8, .slice (some ⟨b2, 0, none⟩) 8 8, .slice (some ⟨w.heap.size, 2, none⟩) 32 32, .slice (some ⟨w.heap.size, 34, none⟩) 32 32] 73) = wG at *
    try dsimp only
    try simp only [Act.put, List.setIfInBounds_toArray, List.set_cons_succ, List.set_cons_zero]
    refine held_one (i := 13) (by kernel_rfl) rfl ?_
    intro Q' hQ
    go_wp2_with fail
    have hcat : cat [(some ⟨b, 0, none⟩, 4, [75, 87, 72, 49]), (some ⟨b1, 0, none⟩, 8, longL (UInt64.ofNat i)), (some ⟨b2, 0, none⟩, 8, longL (UInt64.ofNat z)), (some ⟨w.heap.size, 2, none⟩, 32, r1), (some ⟨w.heap.size, 34, none⟩, 32, r2)] = headO (i : Int) (z : Int) r1 r2 := by simp [cat, headO]
    have hlen : (headO (i : Int) (z : Int) r1 r2).length = 84 := by simp [headO, longL_length, HL1.out, HL2.out]
    refine (concat_c [(some ⟨b, 0, none⟩, 4, [75, 87, 72, 49]), (some ⟨b1, 0, none⟩, 8, longL (UInt64.ofNat i)), (some ⟨b2, 0, none⟩, 8, longL (UInt64.ofNat z)), (some ⟨w.heap.size, 2, none⟩, 32, r1), (some ⟨w.heap.size, 34, none⟩, 32, r2)] wF.heap.size 5 5 wG rfl (by omega) (by omega) ?hg ?hc ?hn ?hl).mono ?_
    case hg =>
      intro j it hit
      match j, hit with
      | 0, hit => cases hit; exact BG.out.cell' rfl
      | 1, hit => cases hit; exact BG.out.cell' rfl
      | 2, hit => cases hit; exact BG.out.cell' rfl
      | 3, hit => cases hit; unfold itemV; simp only; rw [HL1.out]; exact BG.out.cell' rfl
      | 4, hit => cases hit; unfold itemV; simp only; rw [HL2.out]; exact BG.out.cell' rfl
    case hc =>
      intro it hit
      simp only [List.mem_cons, List.not_mem_nil, or_false] at hit
      rcases hit with rfl | rfl | rfl | rfl | rfl
      · exact K0.out.ext EG.out
      · exact K1.out.ext EG.out
      · exact K2.out.ext EG.out
      · exact K3.out.ext EG.out
      · exact K4.out.ext EG.out
    case hn =>
      intro it hit
      simp only [List.mem_cons, List.not_mem_nil, or_false] at hit
      rcases hit with rfl | rfl | rfl | rfl | rfl <;> (intro h; cases h)
    case hl => rw [hcat, hlen]; omega
    rw [hcat, hlen]
    rintro e wH ⟨v, rfl, own, eH⟩
    have hH := hCx _ _ hG eH
    have OH := hid own
    clear own hcat hlen
    go_wp2_with fail
    refine hQ _ _ hH ?_
    clear hQ Q' hF hG eH
    try dsimp only
    try simp only [Act.put, List.setIfInBounds_toArray, List.set_cons_succ, List.set_cons_zero]
    have hS0 := hH
    clear hH
    refine held_take 14 (v := ?tv9) rfl (by kernel_rfl) (by kernel_rfl) (by kernel_rfl) (fun _ _ _ h => h) (.inl ⟨rfl, ?ty9⟩) hS0 ?tr9
    case ty9 => (intro _ _; go_simp; try with_reducible rfl)
    case tr9 =>
    simp only [Act.put, List.setIfInBounds_toArray, List.set_cons_succ, List.set_cons_zero]
    refine held_take 15 (v := ?tv10) rfl (by kernel_rfl) (by kernel_rfl) (by kernel_rfl) (fun _ _ _ h => h) (.inl ⟨rfl, ?ty10⟩) hS0 ?tr10
    case ty10 => (intro _ _; go_simp; try with_reducible rfl)
    case tr10 =>
    simp only [Act.put, List.setIfInBounds_toArray, List.set_cons_succ, List.set_cons_zero]
    have EH := hid ((HCC.out wH).1 hS0).base
    have EGs := EG.out.size
    clear hS0 HCC hCx hCA
    refine wpAnyH_done (by kernel_rfl) ?_ _
    go_wp2
    go_ret2
    refine ⟨_, by rw [HE.out]; rfl, ?_, EH.out⟩
    rw [if_pos HE.out]
    exact own_lower OH.out (by have := PF.out.lt; omega)
end

section
open Go Go.RowKit

/-- the seal of a head -/
def sealHeadL (k : List UInt8) (C T : Int) (r1 r2 : List UInt8) : List UInt8 := sealL k (sumL 6 (headO C T r1 r2))
def sealHeadV (k : List UInt8) (C T : Int) (r1 r2 : List UInt8) : Value := if headE C T = 0 then .tuple #[.agg ((sealHeadL k C T r1 r2).map u8v).toArray, .int .i64 0] else .tuple #[zeros 64, .int .i64 4]
theorem headE_cases (C T : Int) : headE C T = 0 ∨ headE C T = 4 := by unfold headE; split <;> simp
theorem headO_length {C T : Int} {r1 r2 : List UInt8} (h1 : r1.length = 32) (h2 : r2.length = 32) : (headO C T r1 r2).length = 84 := by simp [headO, longL_length, h1, h2]

set_option maxRecDepth 100000 in
set_option maxHeartbeats 2000000 in
theorem sealHead_c (k : List UInt8) (C T : Int) (r1 r2 : List UInt8) (w : World) (hk : k.length = 32) (h1 : r1.length = 32) (h2 : r2.length = 32) :
    Calls Try.prog 34 #[.agg (k.map u8v).toArray, .agg (headV C T r1 r2).toArray] w fun e w' => e = .returned (sealHeadV k C T r1 r2) ∧ Ext w w' := by
  have hpr := hid (fun w' => printHead_c C T r1 r2 w' h1 h2)
  have HKL := hid (show (k.map u8v).length = 32 by rw [List.length_map, hk])
  have HVL := hid (headV_length C T h1 h2)
  have hsum := hid (fun (a : Option Addr) (c : Nat) w' hnc hc h0 h => sumOf_c 6 (headO C T r1 r2) 84 c a w' (headO_length h1 h2) hnc hc h0 h)
  have hsl := hid (fun (g : Nat) w' h => sealOf_c k (sumL 6 (headO C T r1 r2)) 32 32 (some ⟨g, 0, none⟩) w' hk (sumL_length _ _) (by omega) (by omega) (fun h => by cases h) h)
  have hsv : sumOfV 6 (headO C T r1 r2) 84 = .tuple #[.agg ((sumL 6 (headO C T r1 r2)).map u8v).toArray, .int .i64 0] := by
    unfold sumOfV; simp
  rw [hsv] at hsum
  have HSV := hid (show ((sumL 6 (headO C T r1 r2)).map u8v).length = 32 by rw [List.length_map, sumL_length])
  have oS := one_u8 (sumL 6 (headO C T r1 r2))
  unfold headPost at hpr
  have hres : sealHeadV k C T r1 r2 = if headE C T = 0 then .tuple #[.agg ((sealL k (sumL 6 (headO C T r1 r2))).map u8v).toArray, .int .i64 0] else .tuple #[zeros 64, .int .i64 4] := rfl
  rw [hres]
  have HSL : Hid (((sealL k (sumL 6 (headO C T r1 r2))).map u8v).length = 64) := hid (by rw [List.length_map, sealL_length])
  have oL := one_u8 (sealL k (sumL 6 (headO C T r1 r2)))
  have hE := headE_cases C T
  clear hsv hres hk h1 h2
  obtain ⟨V, hV⟩ : ∃ V, (if headE C T = 0 then Value.tuple #[.agg ((sealL k (sumL 6 (headO C T r1 r2))).map u8v).toArray, .int .i64 0] else .tuple #[zeros 64, .int .i64 4]) = V := ⟨_, rfl⟩
  rw [hV]
  have HV := hid hV
  clear hV
  generalize sumL 6 (headO C T r1 r2) = sm at *
  generalize headE C T = E at *
  generalize headO C T r1 r2 = ho at *
  generalize headV C T r1 r2 = hv at *
  generalize hkv : k.map u8v = kv at *
  clear hkv
  go_enter Try.func34, Try.ntmps34
  go_upto_region 1 with (fail)
  generalize hwA : World.alloc (World.alloc (World.alloc w _) _) _ = wA
  have kA : Blk wA w.heap.size kv 23 := by rw [← hwA]; exact ((Blk.mk_alloc rfl rfl).alloc _).alloc _
  have pA : Blk wA (w.heap.size + 1) hv 70 := by rw [← hwA]; exact (Blk.mk_alloc (by simp) rfl).alloc _
  have zA : Blk wA (w.heap.size + 2) (List.replicate 64 (.int .u8 0)) 72 := by rw [← hwA]; exact Blk.mk_alloc (by simp) rfl
  have eA : Ext w wA := by rw [← hwA]; exact (((Ext.refl w).alloc _).alloc _).alloc _
  have KA := hid kA
  have PA := hid pA
  have ZA := hid zA
  have EA := hid eA
  clear hwA kA pA zA eA
  go_wp2_with (refine wpl_loadw rfl 70 (.tmp 3) rfl rfl PA.out agg_head HVL.out ?_)
  refine (hpr.out wA).mono ?_
  rintro e wB ⟨v, rfl, hv2, eB⟩
  have KB := hid (KA.out.ext eB)
  have ZB := hid (ZA.out.ext eB)
  have EB := hid (EA.out.ext eB)
  clear eB KA ZA EA PA hpr
  rcases hE with rfl | rfl
  · rw [if_pos rfl] at hv2
    obtain ⟨a, c, rfl, hnc, hcm, h0, hcl⟩ := own_slice hv2
    have CB := hid hcl
    clear hv2 hcl
    go_wp2_with fail
    refine (hsum.out a c wB hnc hcm h0 CB.out).mono ?_
    rintro e wC ⟨rfl, eC⟩
    have KC := hid (KB.out.ext eC)
    have ZC := hid (ZB.out.ext eC)
    have EC := hid (EB.out.ext eC)
    clear eC KB ZB EB CB hsum h0
    go_wp2_with (first | (refine wpl_storew rfl _ (.tmp 8) _ rfl rfl rfl (Blk.mk_alloc (vs := List.replicate 32 (.int .u8 0)) rfl rfl) agg_apisum (by simp) HSV.out oS ?_))
    intro wD bD uD
    have eD : Ext wC wD := uD.ext ((Ext.refl wC).alloc _) (Nat.le_refl _)
    have KD := hid (KC.out.ext eD)
    have ZD := hid (ZC.out.ext eD)
    have ED := hid (EC.out.ext eD)
    have SD := hid bD
    have hgl : w.heap.size + 2 < wC.heap.size := ZC.out.lt
    clear eD KC ZC EC bD uD
    generalize wC.heap.size = gs at *
    go_wp2_with fail
    obtain ⟨C, hC⟩ : ∃ C : World → Prop, C = Cls w wD [w.heap.size, w.heap.size + 2, gs] [] := ⟨_, rfl⟩
    have hC0 : ∀ w', C w' ↔ Cls w wD [w.heap.size, w.heap.size + 2, gs] [] w' := fun w' => by rw [hC]
    clear hC
    have HCC := hid hC0
    clear hC0
    have hCx : ∀ w w', C w → Ext w w' → C w' := fun w w' h1 h2 => (HCC.out w').2 (((HCC.out w).1 h1).ext h2)
    have hCA : C wD := (HCC.out _).2 (Cls.no_room ED.out (Kept.three KD.out.lt ZD.out.lt SD.out.lt))
    have hs1 : ∀ w1, C w1 → Blk w1 w.heap.size kv 23 := fun w1 h1 => ((HCC.out w1).1 h1).blk KD.out (by simp)
    refine wp_region_w (S := C) (W := [5]) (by kernel_rfl) (hCx _ _ hCA (Ext.refl _).drew) (fun hS0 => ?_)
    refine w_take 0 (v := _) rfl (by kernel_rfl) (by kernel_rfl) (by kernel_rfl) (by kernel_rfl) (by kernel_rfl) (fun _ _ _ h => h) (yieldsI_loadw rfl _ _ rfl rfl hs1 agg_key HKL.out) hS0 ?_
    simp only [Act.put, List.setIfInBounds_toArray, List.set_cons_succ, List.set_cons_zero]
    refine w_pure 1 (v := ?tv1) rfl (by kernel_rfl) (by kernel_rfl) (by kernel_rfl) (fun _ _ _ h => h) (.inl ⟨rfl, ?ty1⟩) ?tr1
    case ty1 => (intro _ _; go_simp; try with_reducible rfl)
    case tr1 =>
    simp only [Act.put, List.setIfInBounds_toArray, List.set_cons_succ, List.set_cons_zero]
    generalize wD.drew = wE at *
    refine w_one (i := 2) (by kernel_rfl) rfl (by kernel_rfl) hS0 ?_
    intro Q' hQ
    go_wp2_with fail
    refine (hsl.out gs wE (Cells.of_blk0 (((HCC.out wE).1 hS0).blk SD.out (by simp)))).mono ?_
    rintro e wF ⟨rfl, eq9⟩
    have hS9 := hCx _ _ hS0 eq9
    go_wp2_with fail
    refine hQ _ _ hS9 ?_
    clear hQ Q' hS0 eq9
    have hS0 := hS9
    clear hS9
    try dsimp only
    try simp only [Act.put, List.setIfInBounds_toArray, List.set_cons_succ, List.set_cons_zero]
    have KF := hid (hs1 wF hS0)
    have ZF := hid (((HCC.out wF).1 hS0).blk ZD.out (by simp))
    have EF := hid ((HCC.out wF).1 hS0).base
    clear hS0 HCC hCx hCA hs1 KD ZD ED SD hsl
    refine w_pure 3 (v := ?tv2) rfl (by kernel_rfl) (by kernel_rfl) (by kernel_rfl) (fun _ _ _ h => h) (.inl ⟨rfl, ?ty2⟩) ?tr2
    case ty2 => (intro _ _; go_simp; try with_reducible rfl)
    case tr2 =>
    simp only [Act.put, List.setIfInBounds_toArray, List.set_cons_succ, List.set_cons_zero]
    refine w_pure 4 (v := ?tv3) rfl (by kernel_rfl) (by kernel_rfl) (by kernel_rfl) (fun _ _ _ h => h) (.inl ⟨rfl, ?ty3⟩) ?tr3
    case ty3 => (intro _ _; go_simp; try with_reducible rfl)
    case tr3 =>
    simp only [Act.put, List.setIfInBounds_toArray, List.set_cons_succ, List.set_cons_zero]
    refine w_late (i := 5) (by kernel_rfl) rfl (by kernel_rfl) ?_
    intro Q' hQ
    go_wp2_with (refine wpl_storew rfl _ _ _ rfl rfl rfl ZF.out agg_seal (by simp) HSL.out oL ?_)
    intro wI bI uI
    go_wp2_with fail
    refine hQ _ _ trivial ?_
    clear hQ Q'
    have BI := hid bI
    have EI := hid (uI.ext EF.out (by omega))
    clear bI uI KF ZF EF
    try dsimp only
    try simp only [Act.put, List.setIfInBounds_toArray, List.set_cons_succ, List.set_cons_zero]
    refine w_pure 6 (v := ?tv4) rfl (by kernel_rfl) (by kernel_rfl) (by kernel_rfl) (fun _ _ _ h => h) (.inl ⟨rfl, ?ty4⟩) ?tr4
    case ty4 => (intro _ _; go_simp; try with_reducible rfl)
    case tr4 =>
    simp only [Act.put, List.setIfInBounds_toArray, List.set_cons_succ, List.set_cons_zero]
    refine w_done (by kernel_rfl) ?_ _
    go_wp2
    exact ret_row2 rfl rfl BI.out agg_seal HSL.out rfl ⟨by rw [← HV.out]; rfl, EI.out⟩
  · rw [if_neg (by decide)] at hv2
    subst hv2
    go_wp2_with (refine wpl_storew rfl _ _ _ rfl rfl rfl ZB.out agg_seal (by simp) (xs := List.replicate 64 (.int .u8 0)) (by simp) (one_zeros 64) ?_)
    intro w4 b4 u4
    go_wp2
    exact ret_row2 rfl rfl b4 agg_seal (by simp) rfl ⟨by rw [← HV.out]; rfl, u4.ext EB.out (by omega)⟩
end

section
open Go Go.RowKit

def checkHeadE (k : List UInt8) (C T : Int) (r1 r2 s : List UInt8) : Int := if headE C T = 0 then (if sealHeadL k C T r1 r2 = s then 0 else 13) else 4

set_option maxRecDepth 100000 in
set_option maxHeartbeats 2000000 in
theorem checkHead_c (k : List UInt8) (C T : Int) (r1 r2 s : List UInt8) (w : World) (hk : k.length = 32) (h1 : r1.length = 32) (h2 : r2.length = 32) (hs : s.length = 64) :
    Calls Try.prog 36 #[.agg (k.map u8v).toArray, .agg (headV C T r1 r2).toArray, .agg (s.map u8v).toArray] w fun e w' => e = .returned (.int .i64 (checkHeadE k C T r1 r2 s)) ∧ Ext w w' := by
  have hsh := hid (fun w' => sealHead_c k C T r1 r2 w' hk h1 h2)
  have HKL := hid (show (k.map u8v).length = 32 by rw [List.length_map, hk])
  have HVL := hid (headV_length C T h1 h2)
  have HSV := hid (show (s.map u8v).length = 64 by rw [List.length_map, hs])
  have oS := one_u8 s
  unfold sealHeadV at hsh
  unfold checkHeadE
  obtain ⟨q, hq⟩ : ∃ q, sealHeadL k C T r1 r2 = q := ⟨_, rfl⟩
  have hql : q.length = 64 := by rw [← hq]; exact sealL_length _ _
  rw [hq] at hsh
  rw [hq]
  have HQL := hid (show (q.map u8v).length = 64 by rw [List.length_map, hql])
  have oQ := one_u8 q
  have hE := headE_cases C T
  have HSL := hid hs
  have HQ := hid hql
  clear hq hk h1 h2 hs hql
  generalize headE C T = E at *
  generalize headV C T r1 r2 = hv at *
  generalize hkv : k.map u8v = kv at *
  clear hkv
  obtain ⟨V, hV⟩ : ∃ V, (if E = 0 then (if q = s then (0 : Int) else 13) else 4) = V := ⟨_, rfl⟩
  rw [hV]
  go_enter Try.func36, Try.ntmps36
  go_upto_region 1 with (fail)
  generalize hwA : World.alloc (World.alloc (World.alloc w _) _) _ = wA
  have kA : Blk wA w.heap.size kv 23 := by rw [← hwA]; exact ((Blk.mk_alloc rfl rfl).alloc _).alloc _
  have pA : Blk wA (w.heap.size + 1) hv 70 := by rw [← hwA]; exact (Blk.mk_alloc (by simp) rfl).alloc _
  have sA : Blk wA (w.heap.size + 2) (s.map u8v) 72 := by rw [← hwA]; exact Blk.mk_alloc (by simp) rfl
  have eA : Ext w wA := by rw [← hwA]; exact (((Ext.refl w).alloc _).alloc _).alloc _
  have KA := hid kA
  have PA := hid pA
  have SA := hid sA
  have EA := hid eA
  have HV := hid hV
  clear hwA kA pA sA eA hV
  go_wp2_with (first | (refine wpl_loadw rfl 70 (.tmp 4) rfl rfl PA.out agg_head HVL.out ?_) | (refine wpl_loadw rfl 23 (.tmp 3) rfl rfl KA.out agg_key HKL.out ?_))
  refine (hsh.out wA).mono ?_
  rintro e wB ⟨rfl, eB⟩
  have SB := hid (SA.out.ext eB)
  have EB := hid (EA.out.ext eB)
  clear eB KA SA EA PA hsh
  rcases hE with rfl | rfl
  · have hrv : (if (0 : Int) = 0 then Value.tuple #[.agg (q.map u8v).toArray, .int .i64 0] else .tuple #[zeros 64, .int .i64 4]) = .tuple #[.agg (q.map u8v).toArray, .int .i64 0] := if_pos rfl
    rw [hrv]
    clear hrv
    go_wp2_with (first | (refine wpl_storew rfl _ (.tmp 7) _ rfl rfl rfl (Blk.mk_alloc (vs := List.replicate 64 (.int .u8 0)) rfl rfl) agg_seal (by simp) HQL.out oQ ?_))
    intro wC bC uC
    have eC : Ext wB wC := uC.ext ((Ext.refl wB).alloc _) (Nat.le_refl _)
    have SC := hid (SB.out.ext eC)
    have EC := hid (EB.out.ext eC)
    have QC := hid bC
    clear eC uC bC SB EB
    generalize wB.heap.size = gq at *
    by_cases heq : q = s
    · subst heq
      have HNE := hid (fun w => show (binOp .neq 72 (.agg (q.map u8v).toArray) (.agg (q.map u8v).toArray)).run Try.prog w = .ok (.bool false) w by rw [neq_arr Try.underlying72 _ _ HQ.out HQ.out w]; simp)
      go_wp2_with (first | (refine wpg_loadw rfl 72 (.tmp 7) rfl rfl QC.out agg_seal HQL.out ?_) | (refine wpg_loadw rfl 72 (.tmp 5) rfl rfl SC.out agg_seal HQL.out ?_) | (refine wpg_cmp rfl .neq _ _ _ _ rfl rfl rfl guard_seal HNE.out ?_))
      go_ret
      exact ⟨by rw [← HV.out]; first | rfl | (simp; done), EC.out⟩
    · have hne : (!(q == s)) = true := by simpa using heq
      have HNE := hid (fun w => show (binOp .neq 72 (.agg (q.map u8v).toArray) (.agg (s.map u8v).toArray)).run Try.prog w = .ok (.bool true) w by rw [neq_arr Try.underlying72 _ _ HQ.out HSL.out w, hne])
      have HEQ := hid heq
      clear heq hne
      go_wp2_with (first | (refine wpg_loadw rfl 72 (.tmp 7) rfl rfl QC.out agg_seal HQL.out ?_) | (refine wpg_loadw rfl 72 (.tmp 5) rfl rfl SC.out agg_seal HSV.out ?_) | (refine wpg_cmp rfl .neq _ _ _ _ rfl rfl rfl guard_seal HNE.out ?_))
      go_ret
      exact ⟨by rw [← HV.out]; simp [HEQ.out], EC.out⟩
  · have hrv : (if (4 : Int) = 0 then Value.tuple #[.agg (q.map u8v).toArray, .int .i64 0] else .tuple #[zeros 64, .int .i64 4]) = .tuple #[.agg (List.replicate 64 (.int .u8 0)).toArray, .int .i64 4] := if_neg (by decide)
    rw [hrv]
    clear hrv
    go_wp2_with (first | (refine wpl_storew rfl _ (.tmp 7) _ rfl rfl rfl (Blk.mk_alloc (vs := List.replicate 64 (.int .u8 0)) rfl rfl) agg_seal (by simp) (by simp) (one_zeros 64) ?_))
    intro wC bC uC
    have EC := hid (EB.out.ext (uC.ext ((Ext.refl wB).alloc _) (Nat.le_refl _)))
    clear bC uC EB
    go_wp2_with fail
    go_ret
    exact ⟨by rw [← HV.out]; first | rfl | (simp; done), EC.out⟩

set_option maxRecDepth 100000 in
set_option maxHeartbeats 2000000 in
theorem rsealHead_c (k : List UInt8) (C T : Int) (r1 r2 : List UInt8) (w : World) (hk : k.length = 32) (h1 : r1.length = 32) (h2 : r2.length = 32) (hE : headE C T = 0) :
    Calls Try.prog 37 #[.agg (k.map u8v).toArray, .agg (headV C T r1 r2).toArray] w fun e w' => e = .returned (.agg ((sealHeadL k C T r1 r2).map u8v).toArray) ∧ Ext w w' := by
  have hpr := hid (fun w' => rprintHead_c C T r1 r2 w' h1 h2)
  have HKL := hid (show (k.map u8v).length = 32 by rw [List.length_map, hk])
  have HVL := hid (headV_length C T h1 h2)
  have hsum := hid (fun (a : Option Addr) (c : Nat) w' h => rsum_c 6 (headO C T r1 r2) 84 c a w' (by omega) (by omega) (headO_length h1 h2) (by omega) h)
  have hsl := hid (fun (g : Nat) w' h => rseal_c k (sumL 6 (headO C T r1 r2)) 32 32 (some ⟨g, 0, none⟩) w' hk (sumL_length _ _) (by omega) (fun h => by cases h) h)
  have HSV := hid (show ((sumL 6 (headO C T r1 r2)).map u8v).length = 32 by rw [List.length_map, sumL_length])
  have oS := one_u8 (sumL 6 (headO C T r1 r2))
  unfold headPost at hpr
  rw [hE] at hpr
  unfold sealHeadL
  have HSL : Hid (((sealL k (sumL 6 (headO C T r1 r2))).map u8v).length = 64) := hid (by rw [List.length_map, sealL_length])
  have oL := one_u8 (sealL k (sumL 6 (headO C T r1 r2)))
  clear hk h1 h2 hE
  generalize sumL 6 (headO C T r1 r2) = sm at *
  generalize headO C T r1 r2 = ho at *
  generalize headV C T r1 r2 = hv at *
  generalize hkv : k.map u8v = kv at *
  clear hkv
  go_enter Try.func37, Try.ntmps37
  go_upto_region 1 with (fail)
  generalize hwA : World.alloc (World.alloc (World.alloc w _) _) _ = wA
  have kA : Blk wA w.heap.size kv 23 := by rw [← hwA]; exact ((Blk.mk_alloc rfl rfl).alloc _).alloc _
  have pA : Blk wA (w.heap.size + 1) hv 70 := by rw [← hwA]; exact (Blk.mk_alloc (by simp) rfl).alloc _
  have zA : Blk wA (w.heap.size + 2) (List.replicate 64 (.int .u8 0)) 72 := by rw [← hwA]; exact Blk.mk_alloc (by simp) rfl
  have eA : Ext w wA := by rw [← hwA]; exact (((Ext.refl w).alloc _).alloc _).alloc _
  have KA := hid kA
  have PA := hid pA
  have ZA := hid zA
  have EA := hid eA
  clear hwA kA pA zA eA
  go_wp2_with (refine wpl_loadw rfl 70 (.tmp 3) rfl rfl PA.out agg_head HVL.out ?_)
  refine (hpr.out wA).mono ?_
  rintro e wB ⟨v, rfl, hv2, eB⟩
  have KB := hid (KA.out.ext eB)
  have ZB := hid (ZA.out.ext eB)
  have EB := hid (EA.out.ext eB)
  clear eB KA ZA EA PA hpr
  rw [if_pos trivial] at hv2
  obtain ⟨a, c, rfl, hnc, hcm, h0, hcl⟩ := own_slice hv2
  have CB := hid hcl
  clear hv2 hcl h0 hnc hcm
  go_wp2_with fail
  refine (hsum.out a c wB CB.out).mono ?_
  rintro e wC ⟨rfl, eC⟩
  have KC := hid (KB.out.ext eC)
  have ZC := hid (ZB.out.ext eC)
  have EC := hid (EB.out.ext eC)
  clear eC KB ZB EB CB hsum
  go_wp2_with (first | (refine wpl_storew rfl _ (.tmp 7) _ rfl rfl rfl (Blk.mk_alloc (vs := List.replicate 32 (.int .u8 0)) rfl rfl) agg_apisum (by simp) HSV.out oS ?_))
  intro wD bD uD
  have eD : Ext wC wD := uD.ext ((Ext.refl wC).alloc _) (Nat.le_refl _)
  have KD := hid (KC.out.ext eD)
  have ZD := hid (ZC.out.ext eD)
  have ED := hid (EC.out.ext eD)
  have SD := hid bD
  have hgl : w.heap.size + 2 < wC.heap.size := ZC.out.lt
  clear eD KC ZC EC bD uD
  generalize wC.heap.size = gs at *
  go_wp2_with fail
  obtain ⟨C, hC⟩ : ∃ C : World → Prop, C = Cls w wD [w.heap.size, w.heap.size + 2, gs] [] := ⟨_, rfl⟩
  have hC0 : ∀ w', C w' ↔ Cls w wD [w.heap.size, w.heap.size + 2, gs] [] w' := fun w' => by rw [hC]
  clear hC
  have HCC := hid hC0
  clear hC0
  have hCx : ∀ w w', C w → Ext w w' → C w' := fun w w' h1 h2 => (HCC.out w').2 (((HCC.out w).1 h1).ext h2)
  have hCA : C wD := (HCC.out _).2 (Cls.no_room ED.out (Kept.three KD.out.lt ZD.out.lt SD.out.lt))
  have hs1 : ∀ w1, C w1 → Blk w1 w.heap.size kv 23 := fun w1 h1 => ((HCC.out w1).1 h1).blk KD.out (by simp)
  refine wp_region_w (S := C) (W := [3]) (by kernel_rfl) (hCx _ _ hCA (Ext.refl _).drew) (fun hS0 => ?_)
  refine w_take 0 (v := _) rfl (by kernel_rfl) (by kernel_rfl) (by kernel_rfl) (by kernel_rfl) (by kernel_rfl) (fun _ _ _ h => h) (yieldsI_loadw rfl _ _ rfl rfl hs1 agg_key HKL.out) hS0 ?_
  simp only [Act.put, List.setIfInBounds_toArray, List.set_cons_succ, List.set_cons_zero]
  refine w_pure 1 (v := ?tv1) rfl (by kernel_rfl) (by kernel_rfl) (by kernel_rfl) (fun _ _ _ h => h) (.inl ⟨rfl, ?ty1⟩) ?tr1
  case ty1 => (intro _ _; go_simp; try with_reducible rfl)
  case tr1 =>
  simp only [Act.put, List.setIfInBounds_toArray, List.set_cons_succ, List.set_cons_zero]
  generalize wD.drew = wE at *
  refine w_one (i := 2) (by kernel_rfl) rfl (by kernel_rfl) hS0 ?_
  intro Q' hQ
  go_wp2_with fail
  refine (hsl.out gs wE (Cells.of_blk0 (((HCC.out wE).1 hS0).blk SD.out (by simp)))).mono ?_
  rintro e wF ⟨rfl, eq9⟩
  have hS9 := hCx _ _ hS0 eq9
  go_wp2_with fail
  refine hQ _ _ hS9 ?_
  clear hQ Q' hS0 eq9
  have hS0 := hS9
  clear hS9
  try dsimp only
  try simp only [Act.put, List.setIfInBounds_toArray, List.set_cons_succ, List.set_cons_zero]
  have ZF := hid (((HCC.out wF).1 hS0).blk ZD.out (by simp))
  have EF := hid ((HCC.out wF).1 hS0).base
  clear hS0 HCC hCx hCA hs1 KD ZD ED SD hsl
  refine w_late (i := 3) (by kernel_rfl) rfl (by kernel_rfl) ?_
  intro Q' hQ
  go_wp2_with (refine wpl_storew rfl _ _ _ rfl rfl rfl ZF.out agg_seal (by simp) HSL.out oL ?_)
  intro wI bI uI
  go_wp2_with fail
  refine hQ _ _ trivial ?_
  clear hQ Q'
  have BI := hid bI
  have EI := hid (uI.ext EF.out (by omega))
  clear bI uI ZF EF
  try dsimp only
  try simp only [Act.put, List.setIfInBounds_toArray, List.set_cons_succ, List.set_cons_zero]
  refine w_done (by kernel_rfl) ?_ _
  go_wp2
  exact ret_row rfl rfl BI.out agg_seal HSL.out rfl ⟨rfl, EI.out⟩
end

section
open Go Go.RowKit

theorem set_part (p m q : List Value) (v : Array Value) (hm : m.length = v.size) :
    v.zipIdx.foldl (fun cs (x : Value × Nat) => cs.setIfInBounds (p.length + x.2) x.1) (p ++ m ++ q).toArray = (p ++ v.toList ++ q).toArray := by
  rw [← Array.foldl_toList, Array.toList_zipIdx]
  obtain ⟨h1, h2⟩ := Great.foldl_set p.length v.toList 0 (p ++ m ++ q).toArray
  apply Array.ext_getElem?
  intro k
  rw [h2 k]
  simp only [Nat.add_zero, Array.length_toList, List.size_toArray, List.length_append, List.getElem?_toArray, Nat.zero_add]
  have hv : v.toList.length = v.size := Array.length_toList
  by_cases a1 : k < p.length
  · rw [if_neg (by omega), List.append_assoc, List.append_assoc, List.getElem?_append_left a1, List.getElem?_append_left a1]
  · by_cases a2 : k < p.length + v.size
    · rw [if_pos ⟨by omega, a2, by omega⟩, List.append_assoc, List.getElem?_append_right (by omega), List.getElem?_append_left (by rw [hv]; omega)]
    · rw [if_neg (by omega), List.getElem?_append_right (by rw [List.length_append]; omega), List.getElem?_append_right (by rw [List.length_append, hv]; omega)]
      congr 1
      rw [List.length_append, List.length_append, hv, hm]
theorem fill_part {place : Nat → Option (Nat × Nat)} {i off size : Nat} {v : Value} {rest : List (Nat × Value)} (p m q : List Value) (hp : place i = some (off, size)) (ho : off = p.length) (hv : v.cells.size = size) (hm : m.length = size) :
    Instr.fill place (p ++ m ++ q).toArray ((i, v) :: rest) = Instr.fill place (p ++ v.cells.toList ++ q).toArray rest := by
  rw [Instr.fill]
  simp only [hp]
  rw [if_neg (by simp [hv, ho, hm])]
  subst ho
  rw [← set_part p m q v.cells (by rw [hm, hv])]

theorem info_head : (Try.prog.info? 70).map (fun i => (i.zero, i.size, i.bytes)) = some (some (.agg (headV 0 0 zero32 zero32).toArray), 66, 80) := by kernel_rfl
theorem fields_head : (Try.prog.underlying 70).bind (fun d => match d with | .struct fields => fields.toList.mapM (fun f => (Try.prog.info? f.type).map fun i => (f.offset, i.size)) | _ => none) = some [(0, 1), (1, 1), (2, 32), (34, 32)] := by kernel_rfl
theorem built_head (C T : Int) (x y : List UInt8) (hx : x.length = 32) (hy : y.length = 32) : Try.prog.built 70 [(0, .int .i64 C), (1, .int .i64 T), (2, .agg (x.map u8v).toArray), (3, .agg (y.map u8v).toArray)] = some (headV C T x y).toArray := by
  obtain ⟨i0, hi, hz, hsz, hb1⟩ := info_parts info_head
  have hf := fields_head
  rw [Try.underlying70] at hf
  simp only [Option.bind_some] at hf
  unfold Program.built
  rw [hi, Try.underlying70]
  simp only [hz, hf]
  have h0 : (Value.agg (headV 0 0 zero32 zero32).toArray).cells = ([] ++ [Value.int .i64 0] ++ (Value.int .i64 0 :: (zero32.map u8v ++ zero32.map u8v))).toArray := rfl
  rw [h0, fill_part [] [Value.int .i64 0] _ rfl rfl rfl rfl]
  have h1 : ([] ++ (Value.int .i64 C).cells.toList ++ (Value.int .i64 0 :: (zero32.map u8v ++ zero32.map u8v))) = [Value.int .i64 C] ++ [Value.int .i64 0] ++ (zero32.map u8v ++ zero32.map u8v) := rfl
  rw [h1, fill_part [Value.int .i64 C] [Value.int .i64 0] _ rfl rfl rfl rfl]
  have h2 : ([Value.int .i64 C] ++ (Value.int .i64 T).cells.toList ++ (zero32.map u8v ++ zero32.map u8v)) = [Value.int .i64 C, Value.int .i64 T] ++ zero32.map u8v ++ zero32.map u8v := rfl
  rw [h2, fill_part [Value.int .i64 C, Value.int .i64 T] (zero32.map u8v) _ rfl rfl (by simp [Value.cells, hx]) (by rfl)]
  have h3 : ([Value.int .i64 C, Value.int .i64 T] ++ (Value.agg (x.map u8v).toArray).cells.toList ++ zero32.map u8v) = ([Value.int .i64 C, Value.int .i64 T] ++ x.map u8v) ++ zero32.map u8v ++ [] := by simp [Value.cells]
  rw [h3, fill_part ([Value.int .i64 C, Value.int .i64 T] ++ x.map u8v) (zero32.map u8v) [] rfl (by simp [hx]) (by simp [Value.cells, hy]) (by rfl)]
  rw [Instr.fill]
  simp [Value.cells, headV]
theorem exec_head {o : Oper} {a : Act} {p0 p1 p2 p3 : Operand} {C T : Int} {x y : List UInt8} (ho : o.op = .build 70 #[(0, p0), (1, p1), (2, p2), (3, p3)]) (h0 : a.eval p0 = .int .i64 C) (h1 : a.eval p1 = .int .i64 T) (h2 : a.eval p2 = .agg (x.map u8v).toArray) (h3 : a.eval p3 = .agg (y.map u8v).toArray) (hx : x.length = 32) (hy : y.length = 32) (w : World) :
    (execOp a.eval o).run Try.prog w = .ok (.value (.agg (headV C T x y).toArray)) w := by
  have h := run_build (P := Try.prog) w 70 #[(0, .int .i64 C), (1, .int .i64 T), (2, .agg (x.map u8v).toArray), (3, .agg (y.map u8v).toArray)] _ (built_head C T x y hx hy)
  have he : (#[(0, p0), (1, p1), (2, p2), (3, p3)].map fun (r : Nat × Operand) => (r.1, a.eval r.2)) = #[(0, .int .i64 C), (1, .int .i64 T), (2, .agg (x.map u8v).toArray), (3, .agg (y.map u8v).toArray)] := by simp [h0, h1, h2, h3]
  unfold execOp
  simp only [ho, Sem.run_bind]
  have h2 : (Instr.build 70 (#[(0, p0), (1, p1), (2, p2), (3, p3)].map fun (r : Nat × Operand) => (r.1, a.eval r.2))).run Try.prog w = .ok (.agg (headV C T x y).toArray) w := by rw [he]; exact h
  rw [h2]
  rfl

section
variable {P : Program} {o : Oper} {a : Act}
theorem exec_cut {t e : TypeId} {x y z : Operand} {p : Option Addr} {n c k h : Nat} (ho : o.op = .slice t x (some y) (some z) none) (hx : a.eval x = .slice p n c) (hy : a.eval y = .int .i64 (k : Int)) (hz : a.eval z = .int .i64 (h : Int)) (hu : P.underlying t = some (.slice e)) (hs : (P.info? e).map (·.size) = some 1) (hk : k ≤ h) (hc : h ≤ c)
    {q : Option Addr} (hq : shift p c k = q) (w : World) : (execOp a.eval o).run P w = .ok (.value (.slice q (h - k) (c - k))) w := by
  subst hq
  have hr : (Instr.sliceAt t (.slice p n c) (some (.int .i64 (k : Int))) (some (.int .i64 (h : Int))) none).run P w = .ok (.slice (shift p c k) (h - k) (c - k)) w := by
    cases hq : P.info? e with
    | none => simp [hq] at hs
    | some i =>
      have hi : i.size = 1 := by simpa [hq] using hs
      have h1 : (0 : Int) ≤ k ∧ (k : Int) ≤ h ∧ (h : Int) ≤ c := by omega
      simp [Instr.sliceAt, Instr.slice, Instr.sliceBounds, Instr.sliceBound, asIntOf, run_underlying hu, sizeOf, typeInfo, hq, hi, h1.2.1, h1.2.2, hk, hc, shift]
  unfold execOp
  simp only [ho, hx, hy, hz, Option.map_some, Option.map_none, Sem.run_bind, hr, Result.andThen_ok, Sem.run_pure]
theorem exec_arrayOf {T e : TypeId} {x : Operand} {p : Option Addr} {n c m : Nat} (ho : o.op = .sliceToArrayPointer T x) (hx : a.eval x = .slice p m c) (hu : P.underlying T = some (.array n e)) (hl : n ≤ m) (w : World) : (execOp a.eval o).run P w = .ok (.value (.pointer p)) w := by
  unfold execOp
  simp only [ho, hx, Sem.run_bind, run_arrayAt hu hl, Result.andThen_ok, Sem.run_pure]
end

/-- what ParseHead says of a text -/
def parseHE (l : List UInt8) (n : Nat) : Int := if n < 84 then 1 else if l.take 4 = [75, 87, 72, 49] ∧ n = 84 then headE (long8 l 4 : Nat) (long8 l 12 : Nat) else 2
def parseHV (l : List UInt8) (n : Nat) : List Value := if parseHE l n = 0 then headV (long8 l 4 : Nat) (long8 l 12 : Nat) ((l.drop 20).take 32) ((l.drop 52).take 32) else headV 0 0 zero32 zero32

theorem zero_head : Try.zeroCells70 = (headV 0 0 zero32 zero32).toArray := by kernel_rfl
theorem zero_head_length : Try.zeroCells70.toList.length = 66 := by kernel_rfl
theorem zero_head_one : ∀ v ∈ Try.zeroCells70.toList, v.oneCell' = true := by rw [zero_head]; decide

set_option maxRecDepth 100000 in
set_option maxHeartbeats 2000000 in
theorem parseHead_c (l : List UInt8) (n c : Nat) (a : Option Addr) (w : World) (hl : l.length = n) (hnc : n ≤ c) (hn : n ≤ 140737488355328) (hcl : Cells w a (l.map u8v)) :
    Calls Try.prog 38 #[.slice a n c] w fun e w' => e = .returned (.tuple #[.agg (parseHV l n).toArray, .int .i64 (parseHE l n)]) ∧ Ext w w' := by
  have HL := hid hl
  have HC := hid hcl
  obtain ⟨E, hE⟩ : ∃ E, parseHE l n = E := ⟨_, rfl⟩
  obtain ⟨V, hV⟩ : ∃ V, parseHV l n = V := ⟨_, rfl⟩
  have HE := hid hE
  have HV := hid hV
  rw [hE, hV]
  clear hE hV hl hcl
  have HZL := hid (headV_length 0 0 (r1 := zero32) (r2 := zero32) zero32_length zero32_length)
  have hz1 : ∀ v ∈ headV 0 0 zero32 zero32, v.oneCell' = true := by decide
  by_cases h84 : n < 84
  · have hE1 : E = 1 := by rw [← HE.out]; unfold parseHE; rw [if_pos h84]
    have hV1 : V = headV 0 0 zero32 zero32 := by rw [← HV.out]; unfold parseHV; rw [if_neg (by rw [HE.out, hE1]; decide)]
    have d1 : decide ((n : Int) < 84) = true := decide_eq_true (by omega)
    have d2 : decide (n < 84) = true := decide_eq_true h84
    rw [hE1, hV1]
    clear hE1 hV1
    go_enter Try.func38, Try.ntmps38
    have hz : (Ending.returned (.tuple #[.agg (headV 0 0 zero32 zero32).toArray, .int .i64 1])) = .returned (.tuple #[.agg Try.zeroCells70, .int .i64 1]) := by rw [zero_head]
    have HZ := hid hz
    have hzl := zero_head_length
    have hzo := zero_head_one
    clear hz
    go_wp2_with (first | (refine wpl_storew rfl _ (.tmp 2) _ rfl rfl rfl (Blk.mk_alloc (vs := Try.zeroCells70.toList) rfl rfl) agg_head hzl hzl hzo ?_))
    intro w4 b4 u4
    go_wp2
    exact ret_row2 rfl rfl b4 agg_head hzl rfl ⟨by rw [HZ.out]; rfl, u4.ext ((Ext.refl w).alloc _) (Nat.le_refl _)⟩
  · have hlt4 : (l.take 4).length = 4 := by rw [List.length_take, HL.out]; omega
    have hstr := fun w' (h : Cells w' a (l.map u8v)) => run_string_of w' a (l.take 4) 4 c (by rw [List.map_take]; exact h.take _) hlt4.symm
    have hstl : (strOf (l.take 4)).toList = l.take 4 := by unfold strOf; rw [ByteArray.toList_mk]
    have d1 : decide ((n : Int) < 84) = false := decide_eq_false (by omega)
    have d2 : decide (n < 84) = false := decide_eq_false h84
    have hc4 : 4 ≤ c := by omega
    by_cases hbad : l.take 4 = [75, 87, 72, 49] ∧ n = 84
    · obtain ⟨hmg, rfl⟩ := hbad
      have hr4 : roomE 84 4 8 = 0 := by unfold roomE; rw [if_neg (by omega), if_neg (by omega)]
      have hr12 : roomE 84 12 8 = 0 := by unfold roomE; rw [if_neg (by omega), if_neg (by omega)]
      have hlo : ∀ (p : Nat), roomE 84 (p : Int) 8 = 0 → ∃ cnt one : Int, longOf l 84 (p : Int) = .tuple #[.int .i64 cnt, .int .i64 one] ∧ ((one = 0 ∧ cnt = (long8 l p : Nat)) ∨ (one = 4 ∧ 4611686018427387904 < long8 l p)) := by
        intro p hp
        unfold longOf
        rw [if_pos hp, Int.toNat_natCast]
        by_cases h : long8 l p ≤ 4611686018427387904
        · rw [if_pos h]; exact ⟨_, _, rfl, .inl ⟨rfl, rfl⟩⟩
        · rw [if_neg h]; exact ⟨_, _, rfl, .inr ⟨rfl, by omega⟩⟩
      obtain ⟨cnt, one, ho1, hc1⟩ := hlo 4 hr4
      obtain ⟨tim, two, ho2, hc2⟩ := hlo 12 hr12
      have hg1 := hid (fun w' h => long_c l a 84 c 4 w' HL.out hn hnc h)
      have hg2 := hid (fun w' h => long_c l a 84 c 12 w' HL.out hn hnc h)
      have ho1' : longOf l 84 4 = .tuple #[.int .i64 cnt, .int .i64 one] := ho1
      have ho2' : longOf l 84 12 = .tuple #[.int .i64 tim, .int .i64 two] := ho2
      rw [ho1'] at hg1
      rw [ho2'] at hg2
      obtain ⟨r1, hr1⟩ : ∃ r1, (l.drop 20).take 32 = r1 := ⟨_, rfl⟩
      obtain ⟨r2, hr2⟩ : ∃ r2, (l.drop 52).take 32 = r2 := ⟨_, rfl⟩
      have hr1l : r1.length = 32 := by rw [← hr1, List.length_take, List.length_drop, HL.out]; omega
      have hr2l : r2.length = 32 := by rw [← hr2, List.length_take, List.length_drop, HL.out]; omega
      have hpr := hid (fun w' => printHead_c cnt tim r1 r2 w' hr1l hr2l)
      unfold headPost at hpr
      have HHL := hid (headV_length cnt tim hr1l hr2l)
      have hho : ∀ v ∈ headV cnt tim r1 r2, v.oneCell' = true := by
        intro v hv
        unfold headV at hv
        simp only [List.mem_cons, List.mem_append] at hv
        rcases hv with rfl | rfl | h | h
        · rfl
        · rfl
        · exact one_u8 r1 v h
        · exact one_u8 r2 v h
      -- what comes of it
      have hfin : E = (if one = 0 ∧ two = 0 then headE cnt tim else 4) := by
        rw [← HE.out]
        unfold parseHE
        rw [if_neg h84, if_pos ⟨hmg, rfl⟩]
        rcases hc1 with ⟨rfl, rfl⟩ | ⟨rfl, h1⟩
        · rcases hc2 with ⟨rfl, rfl⟩ | ⟨rfl, h2⟩
          · rw [if_pos ⟨rfl, rfl⟩]
          · rw [if_neg (by decide)]; unfold headE; rw [if_pos (by omega)]
        · rw [if_neg (by intro h; have := h.1; omega)]; unfold headE; rw [if_pos (by omega)]
      have hfv : V = if E = 0 then headV cnt tim r1 r2 else headV 0 0 zero32 zero32 := by
        rw [← HV.out]
        unfold parseHV
        rw [HE.out]
        by_cases h0 : E = 0
        · rw [if_pos h0, if_pos h0]
          rw [hfin] at h0
          have hb : one = 0 ∧ two = 0 := by
            by_cases hb : one = 0 ∧ two = 0
            · exact hb
            · rw [if_neg hb] at h0; exact absurd h0 (by decide)
          rcases hc1 with ⟨_, rfl⟩ | ⟨rfl, _⟩
          · rcases hc2 with ⟨_, rfl⟩ | ⟨rfl, _⟩
            · rw [hr1, hr2]
            · exact absurd hb.2 (by decide)
          · exact absurd hb.1 (by decide)
        · rw [if_neg h0, if_neg h0]
      have HF := hid hfin
      have HFV := hid hfv
      have hE2 := headE_cases cnt tim
      have h12 : (one = 0 ∨ one = 4) ∧ (two = 0 ∨ two = 4) := ⟨by rcases hc1 with h | h; exact .inl h.1; exact .inr h.1, by rcases hc2 with h | h; exact .inl h.1; exact .inr h.1⟩
      obtain ⟨b, off, rfl, hcell⟩ := HC.out.some_of (by rw [List.length_map, HL.out]; omega)
      have hsh1 : shift (some ⟨b, off, none⟩) c 20 = some ⟨b, off + 20, none⟩ := by unfold shift; rw [if_neg (by omega), Option.map_some, addr_add]
      have hsh2 : shift (some ⟨b, off, none⟩) c 52 = some ⟨b, off + 52, none⟩ := by unfold shift; rw [if_neg (by omega), Option.map_some, addr_add]
      have hca1 : CellsAt w ⟨b, off + 20, none⟩ (r1.map u8v) := by
        have h := HC.out.shift c 20 32 (by omega)
        rw [← List.map_drop, ← List.map_take, hr1, hsh1] at h
        exact CellsAt.of h
      have hca2 : CellsAt w ⟨b, off + 52, none⟩ (r2.map u8v) := by
        have h := HC.out.shift c 52 32 (by omega)
        rw [← List.map_drop, ← List.map_take, hr2, hsh2] at h
        exact CellsAt.of h
      have HSH1 := hid hsh1
      have HSH2 := hid hsh2
      have HCA1 := hid hca1
      have HCA2 := hid hca2
      have HP1 := hid (show (r1.map u8v).length = 32 by rw [List.length_map, hr1l])
      have HP2 := hid (show (r2.map u8v).length = 32 by rw [List.length_map, hr2l])
      have HR1 := hid hr1l
      have HR2 := hid hr2l
      have hm2 : (strOf (l.take 4)).toList = [75, 87, 72, 49] := hstl.trans hmg
      have hzl := zero_head_length
      have hzo := zero_head_one
      clear hr4 hr12 hlo ho1 ho2 ho1' ho2' hc1 hc2 hr1 hr2 hr1l hr2l hfin hfv hmg hstl hlt4 hcell hsh1 hsh2 hca1 hca2 HZL hz1
      go_enter Try.func38, Try.ntmps38
      go_upto_region 1 with (fail)
      generalize hwA : World.alloc w _ = wA
      have zA : Blk wA w.heap.size Try.zeroCells70.toList 70 := by rw [← hwA]; exact Blk.mk_alloc rfl rfl
      have eA : Ext w wA := by rw [← hwA]; exact (Ext.refl w).alloc _
      have hs2 := hstr wA (HC.out.ext eA)
      have ZA := hid zA
      have EA := hid eA
      clear hwA zA eA hstr
      go_wp2_with fail
      refine (hg1.out wA (HC.out.ext EA.out)).mono ?_
      rintro e wB ⟨rfl, eB⟩
      have ZB := hid (ZA.out.ext eB)
      have EB := hid (EA.out.ext eB)
      clear eB ZA EA hg1 hs2
      go_wp2_with fail
      refine (hg2.out wB (HC.out.ext EB.out)).mono ?_
      rintro e wC ⟨rfl, eC⟩
      have ZC := hid (ZB.out.ext eC)
      have EC := hid (EB.out.ext eC)
      clear eC ZB EB hg2
      go_wp2_with fail
      obtain ⟨C, hC⟩ : ∃ C : World → Prop, C = Cls w wC [w.heap.size] [] := ⟨_, rfl⟩
      have hC0 : ∀ w', C w' ↔ Cls w wC [w.heap.size] [] w' := fun w' => by rw [hC]
      clear hC
      have HCC := hid hC0
      clear hC0
      have hCx : ∀ w w', C w → Ext w w' → C w' := fun w w' h1 h2 => (HCC.out w').2 (((HCC.out w).1 h1).ext h2)
      have hCA : C wC := (HCC.out _).2 (Cls.no_room EC.out (Kept.one ZC.out.lt))
      have hp1 : ∀ w1, C w1 → CellsAt w1 ⟨b, off + 20, none⟩ (r1.map u8v) := fun w1 h1 => HCA1.out.ext ((HCC.out w1).1 h1).base
      have hp2 : ∀ w1, C w1 → CellsAt w1 ⟨b, off + 52, none⟩ (r2.map u8v) := fun w1 h1 => HCA2.out.ext ((HCC.out w1).1 h1).base
      have hb52 : 52 ≤ c := by omega
      have hb84 : 84 ≤ c := by omega
      refine wp_region_w (S := C) (W := [12]) (by kernel_rfl) (hCx _ _ hCA (Ext.refl _).drew) (fun hS0 => ?_)
      refine w_pure 0 (v := ?tv1) rfl (by kernel_rfl) (by kernel_rfl) (by kernel_rfl) (fun _ _ _ h => h) (.inl ⟨rfl, ?ty1⟩) ?tr1
      case ty1 => (intro _ _; go_simp; try with_reducible rfl)
      case tr1 =>
      simp only [Act.put, List.setIfInBounds_toArray, List.set_cons_succ, List.set_cons_zero]
      refine w_pure 1 (v := ?tv2) rfl (by kernel_rfl) (by kernel_rfl) (by kernel_rfl) (fun _ _ _ h => h) (.inl ⟨rfl, ?ty2⟩) ?tr2
      case ty2 => (intro _ _; go_simp; try with_reducible rfl)
      case tr2 =>
      simp only [Act.put, List.setIfInBounds_toArray, List.set_cons_succ, List.set_cons_zero]
      refine w_pure 2 (v := ?tv3) rfl (by kernel_rfl) (by kernel_rfl) (by kernel_rfl) (fun _ _ _ h => h) (.inl ⟨rfl, ?ty3⟩) ?tr3
      case ty3 => (intro _ _; go_simp; try with_reducible rfl)
      case tr3 =>
      simp only [Act.put, List.setIfInBounds_toArray, List.set_cons_succ, List.set_cons_zero]
      refine w_pure 3 (v := _) rfl (by kernel_rfl) (by kernel_rfl) (by kernel_rfl) (fun _ _ _ h => h) (yieldsI_run rfl (fun w1 _ => exec_cut (k := 20) (h := 52) rfl rfl rfl rfl Try.underlying73 size_u8 (by omega) hb52 HSH1.out w1)) ?_
      simp only [Act.put, List.setIfInBounds_toArray, List.set_cons_succ, List.set_cons_zero]
      refine w_pure 4 (v := _) rfl (by kernel_rfl) (by kernel_rfl) (by kernel_rfl) (fun _ _ _ h => h) (yieldsI_run rfl (fun w1 _ => exec_arrayOf (n := 32) rfl rfl Try.underlying40 (by omega) w1)) ?_
      simp only [Act.put, List.setIfInBounds_toArray, List.set_cons_succ, List.set_cons_zero]
      refine w_take 5 (v := _) rfl (by kernel_rfl) (by kernel_rfl) (by kernel_rfl) (by kernel_rfl) (by kernel_rfl) (fun _ _ _ h => h) (yieldsI_run rfl (fun w1 h => exec_load_at rfl rfl (hp1 w1 h) agg_apisum HP1.out)) hS0 ?_
      simp only [Act.put, List.setIfInBounds_toArray, List.set_cons_succ, List.set_cons_zero]
      refine w_pure 6 (v := ?tv4) rfl (by kernel_rfl) (by kernel_rfl) (by kernel_rfl) (fun _ _ _ h => h) (.inl ⟨rfl, ?ty4⟩) ?tr4
      case ty4 => (intro _ _; go_simp; try with_reducible rfl)
      case tr4 =>
      simp only [Act.put, List.setIfInBounds_toArray, List.set_cons_succ, List.set_cons_zero]
      refine w_pure 7 (v := _) rfl (by kernel_rfl) (by kernel_rfl) (by kernel_rfl) (fun _ _ _ h => h) (yieldsI_run rfl (fun w1 _ => exec_cut (k := 52) (h := 84) rfl rfl rfl rfl Try.underlying73 size_u8 (by omega) hb84 HSH2.out w1)) ?_
      simp only [Act.put, List.setIfInBounds_toArray, List.set_cons_succ, List.set_cons_zero]
      refine w_pure 8 (v := _) rfl (by kernel_rfl) (by kernel_rfl) (by kernel_rfl) (fun _ _ _ h => h) (yieldsI_run rfl (fun w1 _ => exec_arrayOf (n := 32) rfl rfl Try.underlying40 (by omega) w1)) ?_
      simp only [Act.put, List.setIfInBounds_toArray, List.set_cons_succ, List.set_cons_zero]
      refine w_take 9 (v := _) rfl (by kernel_rfl) (by kernel_rfl) (by kernel_rfl) (by kernel_rfl) (by kernel_rfl) (fun _ _ _ h => h) (yieldsI_run rfl (fun w1 h => exec_load_at rfl rfl (hp2 w1 h) agg_apisum HP2.out)) hS0 ?_
      simp only [Act.put, List.setIfInBounds_toArray, List.set_cons_succ, List.set_cons_zero]
      refine w_pure 10 (v := _) rfl (by kernel_rfl) (by kernel_rfl) (by kernel_rfl) (fun _ _ _ h => h) (yieldsI_run rfl (fun w1 _ => exec_head rfl rfl rfl rfl rfl HR1.out HR2.out w1)) ?_
      simp only [Act.put, List.setIfInBounds_toArray, List.set_cons_succ, List.set_cons_zero]
      generalize wC.drew = wD at *
      refine w_one (i := 11) (by kernel_rfl) rfl (by kernel_rfl) hS0 ?_
      intro Q' hQ
      go_wp2_with fail
      have hH : C (wD.alloc (.cells Try.zeroCells70 70)) := hCx _ _ hS0 ((Ext.refl wD).alloc _)
      have BH := hid (show Blk (wD.alloc (.cells Try.zeroCells70 70)) wD.heap.size Try.zeroCells70.toList 70 from Blk.mk_alloc rfl rfl)
      have hgH : wC.heap.size ≤ wD.heap.size := ((HCC.out wD).1 hS0).kept.1
      refine hQ _ _ hH ?_
      clear hQ Q' hS0
      generalize wD.alloc (.cells Try.zeroCells70 70) = wH at *
      generalize wD.heap.size = gh at *
      try dsimp only
      try simp only [Act.put, List.setIfInBounds_toArray, List.set_cons_succ, List.set_cons_zero]
      have ZH := hid (((HCC.out wH).1 hH).blk ZC.out (by simp))
      have EH := hid ((HCC.out wH).1 hH).base
      have hgz : w.heap.size < gh := by have := ZC.out.lt; omega
      clear hH HCC hCx hCA hp1 hp2 ZC EC
      refine w_late (i := 12) (by kernel_rfl) rfl (by kernel_rfl) ?_
      intro Q' hQ
      go_wp2_with (refine wpl_storew rfl _ _ _ rfl rfl rfl BH.out agg_head hzl HHL.out hho ?_)
      intro wI bI uI
      go_wp2_with fail
      refine hQ _ _ trivial ?_
      clear hQ Q'
      have BI := hid bI
      have ZI := hid (ZH.out.upd uI (by omega))
      have EI := hid (uI.ext EH.out (by omega))
      clear bI uI BH ZH EH
      try dsimp only
      try simp only [Act.put, List.setIfInBounds_toArray, List.set_cons_succ, List.set_cons_zero]
      refine w_done (by kernel_rfl) ?_ _
      go_wp2_with (first | (refine wpl_loadw rfl 70 (.tmp 8) rfl rfl BI.out agg_head HHL.out ?_))
      refine (hpr.out wI).mono ?_
      rintro e wJ ⟨v, rfl, -, eJ⟩
      have BJ := hid (BI.out.ext eJ)
      have ZJ := hid (ZI.out.ext eJ)
      have EJ := hid (EI.out.ext eJ)
      clear eJ BI ZI EI hpr
      obtain ⟨e2, he2⟩ : ∃ e2, headE cnt tim = e2 := ⟨_, rfl⟩
      rw [he2] at hE2
      have HE2 := hid he2
      rw [he2]
      clear he2 hm2
      rcases h12 with ⟨rfl | rfl, hb2⟩
      · rcases hb2 with rfl | rfl
        · rcases hE2 with rfl | rfl
          · have hE0 : E = 0 := by rw [HF.out, if_pos ⟨rfl, rfl⟩, HE2.out]
            have hV0 : V = headV cnt tim r1 r2 := by rw [HFV.out, if_pos hE0]
            have hz : (Ending.returned (.tuple #[.agg V.toArray, .int .i64 E])) = .returned (.tuple #[.agg (headV cnt tim r1 r2).toArray, .int .i64 0]) := by rw [hV0, hE0]
            have HZ := hid hz
            clear hz hE0 hV0
            go_wp2_with (first | (refine wpl_loadw rfl 70 (.tmp 8) rfl rfl BJ.out agg_head HHL.out ?_) | (refine wpl_storew rfl _ (.tmp 2) _ rfl rfl rfl ZJ.out agg_head hzl HHL.out hho ?_))
            intro w4 b4 u4
            go_wp2
            exact ret_row2 rfl rfl b4 agg_head HHL.out rfl ⟨by rw [HZ.out]; rfl, u4.ext EJ.out (Nat.le_refl _)⟩
          · have hE4 : E = 4 := by rw [HF.out]; simp [HE2.out]
            have hV4 : V = headV 0 0 zero32 zero32 := by rw [HFV.out, hE4]; rfl
            have hz : (Ending.returned (.tuple #[.agg V.toArray, .int .i64 E])) = .returned (.tuple #[.agg Try.zeroCells70, .int .i64 4]) := by rw [hV4, hE4, zero_head]
            have HZ := hid hz
            clear hz hE4 hV4
            go_wp2_with (first | (refine wpl_storew rfl _ (.tmp 2) _ rfl rfl rfl ZJ.out agg_head hzl hzl hzo ?_))
            intro w4 b4 u4
            go_wp2
            exact ret_row2 rfl rfl b4 agg_head hzl rfl ⟨by rw [HZ.out]; rfl, u4.ext EJ.out (Nat.le_refl _)⟩
        · have hE4 : E = 4 := by rw [HF.out]; simp
          have hV4 : V = headV 0 0 zero32 zero32 := by rw [HFV.out, hE4]; rfl
          have hz : (Ending.returned (.tuple #[.agg V.toArray, .int .i64 E])) = .returned (.tuple #[.agg Try.zeroCells70, .int .i64 4]) := by rw [hV4, hE4, zero_head]
          have HZ := hid hz
          clear hz hE4 hV4
          go_wp2_with (first | (refine wpl_storew rfl _ (.tmp 2) _ rfl rfl rfl ZJ.out agg_head hzl hzl hzo ?_))
          intro w4 b4 u4
          go_wp2
          exact ret_row2 rfl rfl b4 agg_head hzl rfl ⟨by rw [HZ.out]; rfl, u4.ext EJ.out (Nat.le_refl _)⟩
      · have hE4 : E = 4 := by rw [HF.out]; simp
        have hV4 : V = headV 0 0 zero32 zero32 := by rw [HFV.out, hE4]; rfl
        have hz : (Ending.returned (.tuple #[.agg V.toArray, .int .i64 E])) = .returned (.tuple #[.agg Try.zeroCells70, .int .i64 4]) := by rw [hV4, hE4, zero_head]
        have HZ := hid hz
        clear hz hE4 hV4
        go_wp2_with (first | (refine wpl_storew rfl _ (.tmp 2) _ rfl rfl rfl ZJ.out agg_head hzl hzl hzo ?_))
        intro w4 b4 u4
        go_wp2
        exact ret_row2 rfl rfl b4 agg_head hzl rfl ⟨by rw [HZ.out]; rfl, u4.ext EJ.out (Nat.le_refl _)⟩
    · have hE1 : E = 2 := by rw [← HE.out]; unfold parseHE; rw [if_neg h84, if_neg hbad]
      have hV1 : V = headV 0 0 zero32 zero32 := by rw [← HV.out]; unfold parseHV; rw [if_neg (by rw [HE.out, hE1]; decide)]
      rw [hE1, hV1]
      have hz : (Ending.returned (.tuple #[.agg (headV 0 0 zero32 zero32).toArray, .int .i64 2])) = .returned (.tuple #[.agg Try.zeroCells70, .int .i64 2]) := by rw [zero_head]
      have HZ := hid hz
      have hzl := zero_head_length
      have hzo := zero_head_one
      clear hz hE1 hV1 HZL hz1
      have hs1 := fun h => hstr (w.alloc (.cells Try.zeroCells70 70)) h
      have hs2 := hs1 (HC.out.ext ((Ext.refl w).alloc _))
      clear hs1 hstr
      by_cases hmg : l.take 4 = [75, 87, 72, 49]
      · have hgt : 84 < n := by
          have : n ≠ 84 := fun h => hbad ⟨hmg, h⟩
          omega
        have hm2 : (strOf (l.take 4)).toList = [75, 87, 72, 49] := hstl.trans hmg
        have d3 : decide (84 < n) = true := decide_eq_true hgt
        have d4 : decide (84 < (n : Int)) = true := decide_eq_true (by omega)
        clear hmg hbad hstl hlt4
        go_enter Try.func38, Try.ntmps38
        go_wp2_with (first | (refine wpl_storew rfl _ (.tmp 2) _ rfl rfl rfl (Blk.mk_alloc (vs := Try.zeroCells70.toList) rfl rfl) agg_head hzl hzl hzo ?_))
        intro w4 b4 u4
        go_wp2
        exact ret_row2 rfl rfl b4 agg_head hzl rfl ⟨by rw [HZ.out]; rfl, u4.ext ((Ext.refl w).alloc _) (Nat.le_refl _)⟩
      · have hm2 : ¬ (strOf (l.take 4)).toList = [75, 87, 72, 49] := by rw [hstl]; exact hmg
        have hm3 : ((strOf (l.take 4)).toList == [75, 87, 72, 49]) = false := by simpa using hm2
        clear hmg hbad hstl hlt4
        go_enter Try.func38, Try.ntmps38
        go_wp2_with (first | (refine wpl_storew rfl _ (.tmp 2) _ rfl rfl rfl (Blk.mk_alloc (vs := Try.zeroCells70.toList) rfl rfl) agg_head hzl hzl hzo ?_))
        intro w4 b4 u4
        go_wp2
        exact ret_row2 rfl rfl b4 agg_head hzl rfl ⟨by rw [HZ.out]; rfl, u4.ext ((Ext.refl w).alloc _) (Nat.le_refl _)⟩
end

section
open Go Go.RowKit

theorem guard_head : Try.prog.eqGuardType Try.prog.depth 70 = false := by kernel_rfl
theorem stood_head : Try.prog.stoodInHeld 70 = false := by kernel_rfl
theorem run_eqFields_cons {P : Program} {d : Nat} {xs ys : Array Value} {f : Field} {fs : List Field} {a b : Value} {w : World} (hn : f.name ≠ "_") (h1 : (part f.type xs f.offset).run P w = .ok a w) (h2 : (part f.type ys f.offset).run P w = .ok b w) (h3 : (Op.equalIn d f.type a b).run P w = .ok true w) :
    (Op.eqFields d xs ys (f :: fs)).run P w = (Op.eqFields d xs ys fs).run P w := by
  simp [Op.eqFields, hn, h1, h2, h3]
theorem run_part_int {P : Program} {t : TypeId} {k : IntKind} {xs : Array Value} {off : Nat} {v : Value} {w : World} (ht : P.underlying t = some (.int k)) (hv : xs[off]? = some v) : (part t xs off).run P w = .ok v w := by
  simp [part, isAgg, run_underlying ht, hv]
theorem run_part_arr {P : Program} {t e : TypeId} {n m : Nat} {xs : Array Value} {off : Nat} {w : World} (ht : P.underlying t = some (.array n e)) (hs : P.cellsOf t = m) : (part t xs off).run P w = .ok (.agg (xs.extract off (off + m))) w := by
  obtain ⟨i, hi⟩ := info_of_underlying ht
  simp [part, isAgg, run_underlying ht, run_sizeOf w hi, hs]
theorem size_sum32 : Try.prog.cellsOf 40 = 32 := by kernel_rfl
theorem head_part1 (C T : Int) {x y : List UInt8} (hx : x.length = 32) : (headV C T x y).toArray.extract 2 (2 + 32) = (x.map u8v).toArray := by
  rw [← headV_r1 C T (r2 := y) hx]
  simp [List.extract]
theorem head_part2 (C T : Int) {x y : List UInt8} (hx : x.length = 32) (hy : y.length = 32) : (headV C T x y).toArray.extract 34 (34 + 32) = (y.map u8v).toArray := by
  rw [← headV_r2 C T hx hy]
  simp [List.extract]
theorem fieldsAt_head : (Try.prog.fieldsOf 70).toList.map (fun f => (f.name, f.type, f.offset)) = [("Count", 3, 0), ("Time", 3, 1), ("Last", 40, 2), ("Root", 40, 34)] := by kernel_rfl
theorem eqHead_self (C T : Int) (x y : List UInt8) (hx : x.length = 32) (hy : y.length = 32) (w : World) :
    (Op.equalIn 10000 70 (.agg (headV C T x y).toArray) (.agg (headV C T x y).toArray)).run Try.prog w = .ok true w := by
  have hu : Try.prog.underlying 70 = some (.struct (Try.prog.fieldsOf 70)) := by unfold Program.fieldsOf; rw [Try.underlying70]
  rw [show (10000 : Nat) = 9999 + 1 from rfl, run_equalIn_struct w 9999 _ _ _ hu stood_head]
  have h := fieldsAt_head
  generalize (Try.prog.fieldsOf 70).toList = fs at h
  obtain ⟨f1, fs1, rfl, k1, h⟩ := List.map_eq_cons_iff.1 h
  obtain ⟨f2, fs2, rfl, k2, h⟩ := List.map_eq_cons_iff.1 h
  obtain ⟨f3, fs3, rfl, k3, h⟩ := List.map_eq_cons_iff.1 h
  obtain ⟨f4, fs4, rfl, k4, h⟩ := List.map_eq_cons_iff.1 h
  obtain rfl := List.map_eq_nil_iff.1 h
  simp only [Prod.mk.injEq] at k1 k2 k3 k4
  obtain ⟨a1, a2, a3⟩ := k1
  obtain ⟨b1, b2, b3⟩ := k2
  obtain ⟨c1, c2, c3⟩ := k3
  obtain ⟨d1, d2, d3⟩ := k4
  have p1 : (part f1.type (headV C T x y).toArray f1.offset).run Try.prog w = .ok (.int .i64 C) w := by rw [a2, a3]; exact run_part_int Try.underlying3 rfl
  have p2 : (part f2.type (headV C T x y).toArray f2.offset).run Try.prog w = .ok (.int .i64 T) w := by rw [b2, b3]; exact run_part_int Try.underlying3 rfl
  have p3 : (part f3.type (headV C T x y).toArray f3.offset).run Try.prog w = .ok (.agg (x.map u8v).toArray) w := by rw [c2, c3, run_part_arr Try.underlying40 size_sum32, head_part1 C T hx]
  have p4 : (part f4.type (headV C T x y).toArray f4.offset).run Try.prog w = .ok (.agg (y.map u8v).toArray) w := by rw [d2, d3, run_part_arr Try.underlying40 size_sum32, head_part2 C T hx hy]
  have e1 : ∀ z : Int, (Op.equalIn 9999 3 (.int .i64 z) (.int .i64 z)).run Try.prog w = .ok true w := fun z => by
    rw [run_equalIn_int w 9998 _ _ _ _ _ Try.underlying3]; simp
  have e2 : ∀ l : List UInt8, l.length = 32 → (Op.equalIn 9999 40 (.agg (l.map u8v).toArray) (.agg (l.map u8v).toArray)).run Try.prog w = .ok true w := fun l hl => by
    have := run_equalIn_bytes w 9997 40 5 32 Try.underlying40 Try.underlying5 (fun w => by kernel_rfl) l l hl hl
    exact this.trans (by simp)
  rw [run_eqFields_cons (by rw [a1]; decide) p1 p1 (by rw [a2]; exact e1 C), run_eqFields_cons (by rw [b1]; decide) p2 p2 (by rw [b2]; exact e1 T), run_eqFields_cons (by rw [c1]; decide) p3 p3 (by rw [c2]; exact e2 x hx), run_eqFields_cons (by rw [d1]; decide) p4 p4 (by rw [d2]; exact e2 y hy)]
  simp [Op.eqFields]
theorem head_eql (C T : Int) (x y : List UInt8) (hx : x.length = 32) (hy : y.length = 32) (w : World) :
    (binOp .eql 70 (.agg (headV C T x y).toArray) (.agg (headV C T x y).toArray)).run Try.prog w = .ok (.bool true) w := by
  rw [run_eql_struct, eqHead_self C T x y hx hy w]; rfl
theorem head_neq (C T : Int) (x y : List UInt8) (hx : x.length = 32) (hy : y.length = 32) (w : World) :
    (binOp .neq 70 (.agg (headV C T x y).toArray) (.agg (headV C T x y).toArray)).run Try.prog w = .ok (.bool false) w := by
  rw [run_neq_struct, eqHead_self C T x y hx hy w]; rfl

theorem long8_apph (l m r : List UInt8) (q : Nat) (h : l.length = q) (hm : m.length = 8) : long8 (l ++ (m ++ r)) q = long8 (l ++ m) q := by
  subst h
  unfold long8 word4
  have hg : ∀ i, i < l.length + 8 → (l ++ (m ++ r))[i]? = (l ++ m)[i]? := fun i hi => by
    rw [← List.append_assoc, List.getElem?_append_left (by rw [List.length_append]; omega)]
  rw [hg _ (by omega), hg _ (by omega), hg _ (by omega), hg _ (by omega), hg _ (by omega), hg _ (by omega), hg _ (by omega), hg _ (by omega)]

/-- what is printed is read -/
theorem parse_headO (C T : Int) (x y : List UInt8) (hx : x.length = 32) (hy : y.length = 32) (hE : headE C T = 0) :
    parseHE (headO C T x y) 84 = 0 ∧ parseHV (headO C T x y) 84 = headV C T x y := by
  have hb : 0 ≤ C ∧ C ≤ 65536 ∧ 0 ≤ T ∧ T ≤ 1099511627776 := by
    unfold headE at hE
    split at hE
    · exact absurd hE (by decide)
    · omega
  obtain ⟨c1, c2, t1, t2⟩ := hb
  obtain ⟨c, rfl⟩ := Int.eq_ofNat_of_zero_le c1
  obtain ⟨t, rfl⟩ := Int.eq_ofNat_of_zero_le t1
  have hc : (UInt64.ofNat c).toNat = c := by simp; omega
  have ht : (UInt64.ofNat t).toNat = t := by simp; omega
  have e0 : headO (c : Int) (t : Int) x y = ([75, 87, 72, 49] ++ longL (UInt64.ofNat c)) ++ longL (UInt64.ofNat t) ++ x ++ y := rfl
  have l1 : long8 (headO (c : Int) (t : Int) x y) 4 = c := by
    have h := long8_longL [75, 87, 72, 49] (UInt64.ofNat c) 4 rfl
    rw [hc] at h
    have e1 : headO (c : Int) (t : Int) x y = [75, 87, 72, 49] ++ (longL (UInt64.ofNat c) ++ (longL (UInt64.ofNat t) ++ x ++ y)) := by rw [e0]; simp only [List.append_assoc]
    rw [e1, long8_apph _ _ _ 4 rfl (longL_length _)]
    exact h
  have l2 : long8 (headO (c : Int) (t : Int) x y) 12 = t := by
    have h := long8_longL ([75, 87, 72, 49] ++ longL (UInt64.ofNat c)) (UInt64.ofNat t) 12 (by simp [longL_length])
    rw [ht] at h
    have e1 : headO (c : Int) (t : Int) x y = ([75, 87, 72, 49] ++ longL (UInt64.ofNat c)) ++ (longL (UInt64.ofNat t) ++ (x ++ y)) := by rw [e0]; simp only [List.append_assoc]
    rw [e1, long8_apph _ _ _ 12 (by simp [longL_length]) (longL_length _)]
    exact h
  have g1 : ((headO (c : Int) (t : Int) x y).drop 20).take 32 = x := by
    rw [e0, List.append_assoc, List.drop_left' (by simp [longL_length]), List.take_left' hx]
  have g2 : ((headO (c : Int) (t : Int) x y).drop 52).take 32 = y := by
    rw [e0, List.drop_left' (by simp [longL_length, hx]), List.take_of_length_le (by omega)]
  have g0 : (headO (c : Int) (t : Int) x y).take 4 = [75, 87, 72, 49] := rfl
  have hp : parseHE (headO (c : Int) (t : Int) x y) 84 = 0 := by
    unfold parseHE
    rw [if_neg (by decide), if_pos ⟨g0, rfl⟩, l1, l2]; exact hE
  refine ⟨hp, ?_⟩
  unfold parseHV
  rw [if_pos hp, l1, l2, g1, g2]

/-- what is read prints as it was -/
theorem print_parsed (l : List UInt8) (hl : l.length = 84) (h : parseHE l 84 = 0) :
    headO (long8 l 4 : Nat) (long8 l 12 : Nat) ((l.drop 20).take 32) ((l.drop 52).take 32) = l ∧ headE (long8 l 4 : Nat) (long8 l 12 : Nat) = 0 := by
  unfold parseHE at h
  rw [if_neg (by decide)] at h
  split at h
  case isFalse => exact absurd h (by decide)
  case isTrue hm =>
    refine ⟨?_, h⟩
    unfold headO
    rw [Int.toNat_natCast, Int.toNat_natCast, longL_long8 l 4 (by omega), longL_long8 l 12 (by omega), ← hm.1]
    have e : ∀ p q : Nat, l.take p ++ (l.drop p).take q = l.take (p + q) := fun p q => List.take_add.symm
    rw [e 4 8, e 12 8, e 20 32, e 52 32, List.take_of_length_le (by omega)]
theorem parse_not84 {l : List UInt8} {n : Nat} (hl : l.length = n) (h : parseHE l n = 0) : n = 84 := by
  unfold parseHE at h
  split at h
  · exact absurd h (by decide)
  · split at h
    · next h2 => exact h2.2
    · exact absurd h (by decide)
end

section
open Go Go.RowKit

theorem agg_id : AggT Try.prog 29 16 := ⟨⟨_, Try.underlying29, rfl⟩, by kernel_rfl⟩
def nameL (k : List UInt8) : List UInt8 := (sumL 10 k).take 16
theorem nameL_length (k : List UInt8) : (nameL k).length = 16 := by rw [nameL, List.length_take, sumL_length]; rfl

set_option maxRecDepth 100000 in
set_option maxHeartbeats 1000000 in
theorem nameOf_c (k : List UInt8) (w : World) (hk : k.length = 32) :
    Calls Try.prog 12 #[.agg (k.map u8v).toArray] w fun e w' => e = .returned (.agg ((nameL k).map u8v).toArray) ∧ Ext w w' := by
  have HK := hid hk
  clear hk
  go_enter Try.func12, Try.ntmps12
  go_wp2_with fail
  generalize hwA : World.alloc (World.alloc (World.alloc w _) _) _ = wA
  have kA : Blk wA w.heap.size (k.map u8v) 23 := by rw [← hwA]; exact ((Blk.mk_alloc rfl rfl).alloc _).alloc _
  have zA : Blk wA (w.heap.size + 1) (List.replicate 16 (.int .u8 0)) 29 := by rw [← hwA]; exact (Blk.mk_alloc (by simp) rfl).alloc _
  have gA : Blk wA (w.heap.size + 2) [.slice (some ⟨w.heap.size, 0, none⟩) 32 32] 73 := by rw [← hwA]; exact Blk.mk_alloc (by simp) rfl
  have eA : Ext w wA := by rw [← hwA]; exact (((Ext.refl w).alloc _).alloc _).alloc _
  clear hwA
  have hcat : cat [(some ⟨w.heap.size, 0, none⟩, 32, k)] = k := by simp [cat]
  refine (summed_c [(some ⟨w.heap.size, 0, none⟩, 32, k)] 10 (w.heap.size + 2) 1 1 wA rfl (by omega) ?hg gA.lt ?hc ?hn ?hnc ?hcm).mono ?_
  case hg =>
    intro i it hit
    match i, hit with
    | 0, hit => cases hit; rw [itemV]; simp only; rw [HK.out]; exact gA.cell' rfl
  case hc =>
    intro it hit
    simp only [List.mem_cons, List.not_mem_nil, or_false] at hit
    subst hit
    exact Cells.of_blk0 kA
  case hn =>
    intro it hit
    simp only [List.mem_cons, List.not_mem_nil, or_false] at hit
    subst hit
    intro h; cases h
  case hnc =>
    intro it hit
    simp only [List.mem_cons, List.not_mem_nil, or_false] at hit
    subst hit
    simp only
    rw [HK.out]; exact Nat.le_refl _
  case hcm =>
    intro it hit
    simp only [List.mem_cons, List.not_mem_nil, or_false] at hit
    subst hit
    simp
  intro e w1 h
  rw [hcat] at h
  unfold summedPost at h
  obtain ⟨h, e1⟩ := h
  rw [if_neg (by omega), if_pos (by rw [HK.out]; omega)] at h
  have HZ1 := hid (zA.ext e1)
  have HE1 := hid (eA.ext e1)
  clear kA zA gA eA e1 hcat
  obtain ⟨rfl, h1⟩ := h
  have HTL : Hid (((nameL k).map u8v).length = 16) := hid (by rw [List.length_map, nameL_length])
  have HSL : Hid (((sumL 10 k).map u8v).length = 32) := hid (by rw [List.length_map, sumL_length])
  have HTK : Hid ((((sumL 10 k).map u8v).drop 0).take 16 = (nameL k).map u8v) := hid (by rw [List.drop_zero, nameL, List.map_take])
  have hsum := sum_c (initS 10) k k.length wA.heap.size SmT w1 (initS_length 10) (by rw [HK.out]; omega) h1
  rw [show (finL (initS 10) k k.length).take 32 = sumL 10 k from rfl] at hsum
  have o1 := one_u8 (sumL 10 k)
  have o2 := one_u8 (nameL k)
  generalize (sumL 10 k).map u8v = sv at *
  generalize htv : (nameL k).map u8v = tv at *
  have HTV := hid htv
  clear h1 htv
  have har := run_arrayAt (P := Try.prog) Try.underlying29 (len := 16) (Nat.le_refl 16)
  go_wp2_with fail
  refine hsum.mono ?_
  rintro e w2 ⟨rfl, e2⟩
  have HZ2 := hid (HZ1.out.ext e2)
  have HE2 := hid (HE1.out.ext e2)
  clear e2 hsum
  go_wp2_with (refine wpl_storew rfl _ _ _ rfl rfl rfl (Blk.mk_alloc rfl rfl) agg_apisum rfl HSL.out o1 ?_)
  intro w3 b3 u3
  have e3 : Ext w2 w3 := u3.ext ((Ext.refl w2).alloc _) (Nat.le_refl _)
  have HZ3 := hid (HZ2.out.ext e3)
  have HE3 := hid (HE2.out.ext e3)
  clear e3 u3
  go_wp2_with (first | (refine wpl_loadp rfl _ _ rfl rfl b3 agg_id (by rw [HSL.out]; omega) HTK.out ?_) | refine wpl_storew rfl _ _ _ rfl rfl rfl HZ3.out agg_id (by simp) HTL.out o2 ?_)
  intro w4 b4 u4
  go_wp2
  refine ret_row rfl rfl b4 agg_id HTL.out rfl ⟨by rw [HTV.out], u4.ext HE3.out (by omega)⟩

set_option maxRecDepth 100000 in
set_option maxHeartbeats 1000000 in
theorem rnameOf_c (k : List UInt8) (w : World) (hk : k.length = 32) :
    Calls Try.prog 13 #[.agg (k.map u8v).toArray] w fun e w' => e = .returned (.agg ((nameL k).map u8v).toArray) ∧ Ext w w' := by
  have HK := hid hk
  have hsum := fun (w : World) (b : Option Addr) (h : Cells w b (k.map u8v)) => rsum_c 10 k 32 32 b w (by omega) (by omega) hk (by omega) h
  have HTL : Hid (((nameL k).map u8v).length = 16) := hid (by rw [List.length_map, nameL_length])
  have HSL : Hid (((sumL 10 k).map u8v).length = 32) := hid (by rw [List.length_map, sumL_length])
  have HTK : Hid (((sumL 10 k).map u8v).take 16 = (nameL k).map u8v) := hid (by rw [nameL, List.map_take])
  have o1 := one_u8 (sumL 10 k)
  have o2 := one_u8 (nameL k)
  generalize (sumL 10 k).map u8v = sv at *
  generalize (nameL k).map u8v = tv at *
  clear hk
  go_enter Try.func13, Try.ntmps13
  go_wp2_with fail
  generalize hwA : World.alloc (World.alloc w _) _ = wA
  have kA : Blk wA w.heap.size (k.map u8v) 23 := by rw [← hwA]; exact (Blk.mk_alloc rfl rfl).alloc _
  have zA : Blk wA (w.heap.size + 1) (List.replicate 16 (.int .u8 0)) 29 := by rw [← hwA]; exact Blk.mk_alloc (by simp) rfl
  have eA : Ext w wA := by rw [← hwA]; exact ((Ext.refl w).alloc _).alloc _
  clear hwA
  refine (hsum wA (some ⟨w.heap.size, 0, none⟩) (Cells.of_blk0 kA)).mono ?_
  rintro e w4 ⟨rfl, e4⟩
  have HZ4 := hid (zA.ext e4)
  have HE4 := hid (eA.ext e4)
  clear e4 kA zA eA hsum
  go_wp2_with (refine wpl_storew rfl _ _ _ rfl rfl rfl (Blk.mk_alloc rfl rfl) agg_apisum rfl HSL.out o1 ?_)
  intro w5 b5 u5
  have e5 : Ext w4 w5 := u5.ext ((Ext.refl w4).alloc _) (Nat.le_refl _)
  have HZ5 := hid (HZ4.out.ext e5)
  have HE5 := hid (HE4.out.ext e5)
  have HB5 := hid b5
  clear e5 u5 b5
  go_wp2
  refine wp_region_cls (C := fun w' => ∃ n, w' = w5.drewN n) 2 (by kernel_rfl) (by kernel_rfl) ⟨1, rfl⟩ ?_
  simp only [List.take_succ_cons, List.take_zero, List.drop_succ_cons, List.drop_zero]
  iterate 2 quiet_step (fail)
  refine wpQuiet_nil ?_
  rintro _ ⟨nq, rfl⟩
  have hcc : Cells (w5.drewN nq) (some ⟨w4.heap.size, 0, none⟩) tv := by
    have h3 := (Cells.of_blk0 (HB5.out.drewN (n := nq))).take 16
    rwa [HTK.out] at h3
  have HCC := hid hcc
  clear hcc
  go_wp2_with (first | (refine wpl_copyc rfl _ _ _ _ rfl rfl rfl (HZ5.out.drewN (n := nq)) Try.underlying73 size_u8 HTL.out rfl (fun e => by cases e) HCC.out (by simp) o2 ?_))
  intro w6 b6 u6
  have hsp : splice (List.replicate 16 (.int .u8 0)) 0 tv = tv := by
    unfold splice
    rw [List.take_zero, List.nil_append, List.drop_of_length_le (by rw [HTL.out]; simp), List.append_nil]
  change Blk w6 _ (splice (List.replicate 16 (.int .u8 0)) 0 tv) _ at b6
  rw [hsp] at b6
  have HE6 := hid (u6.ext (HE5.out.drewN nq) (by omega))
  clear hsp u6
  go_wp2_with (first | (refine wpl_loadw rfl _ _ rfl rfl b6 agg_id HTL.out ?_) | (refine wpl_storew rfl _ _ _ rfl rfl rfl b6 agg_id HTL.out HTL.out o2 ?_))
  intro w7 b7 u7
  go_wp2
  refine ret_row rfl rfl b7 agg_id HTL.out rfl ⟨rfl, u7.ext HE6.out (by omega)⟩

/-- an octet of a name -/
def nameOct (c : UInt8) : Bool := (decide (97 ≤ c.toNat) && decide (c.toNat ≤ 122)) || (decide (48 ≤ c.toNat) && decide (c.toNat ≤ 57)) || c.toNat == 45 || c.toNat == 46 || c.toNat == 95
def isNameL (l : List UInt8) : Bool := l.all nameOct && !(l.isEmpty) && decide (l.length ≤ 32)
end

section
open Go Go.RowKit

theorem run_stringAt (s : ByteArray) (i : Nat) (c : UInt8) (h : s.data[i]? = some c) (w : World) : (Instr.index 9 (.string s) (.int .i64 (i : Int))).run Try.prog w = .ok (.int .u8 (c.toNat : Int)) w := by
  have h2 : s[i]? = some c := by
    have hi : i < s.size := (Array.getElem?_eq_some_iff.1 h).1
    rw [getElem?_pos s i hi]
    have := (Array.getElem?_eq_some_iff.1 h).2
    exact congrArg some this
  simp [Instr.index, asIntOf, run_underlying Try.underlying9, h2]

set_option maxRecDepth 100000 in
set_option maxHeartbeats 2000000 in
theorem isName_c (s : ByteArray) (w : World) (hn : s.size ≤ 140737488355328) :
    Calls Try.prog 40 #[.string s] w fun e w' => e = .returned (.bool (isNameL s.data.toList)) ∧ w = w' := by
  obtain ⟨n, hsn⟩ : ∃ n, s.size = n := ⟨_, rfl⟩
  have hll : s.data.toList.length = n := by rw [← hsn, Array.length_toList]; rfl
  obtain ⟨R, hR⟩ : ∃ R, isNameL s.data.toList = R := ⟨_, rfl⟩
  rw [hR]
  unfold isNameL at hR
  have HR := hid hR
  have HLL := hid hll
  have hat : ∀ i : Nat, s.data[i]? = s.data.toList[i]? := fun i => by rw [Array.getElem?_toList]
  have HAT := hid hat
  clear hR hll hat
  go_enter Try.func40, Try.ntmps40
  go_wp2
  go_loopw [3] (fun x wr => ∃ i : Nat, i ≤ n ∧ x = .int .i64 i ∧ Hid ((s.data.toList.take i).all nameOct = true) ∧ Hid (w = wr))
    (fun x _ => n - (intOf x).toNat)
  case atStart => exact ⟨0, by omega, rfl, hid (by simp), hid rfl⟩
  case round =>
    obtain ⟨i, hi, rfl, hall, hw⟩ := hrel
    by_cases hlt : i < n
    · have hd : decide ((i : Int) < (n : Int)) = true := decide_eq_true (by omega)
      obtain ⟨c, hc⟩ : ∃ c, s.data.toList[i]? = some c := ⟨_, List.getElem?_eq_getElem (by rw [HLL.out]; exact hlt)⟩
      have hix := fun w => run_stringAt s i c (by rw [HAT.out]; exact hc) w
      have hcn := c.toNat_lt
      have hstep : (s.data.toList.take (i + 1)).all nameOct = nameOct c := by
        rw [List.take_add_one, hc, List.all_append, hall.out]; simp
      have hbad : nameOct c = false → R = false := by
        intro hf
        have hm := List.mem_of_getElem? hc
        have : s.data.toList.all nameOct = false := by
          rw [List.all_eq_false]
          exact ⟨c, hm, by rw [hf]; simp⟩
        rw [← HR.out, this]; rfl
      have HST := hid hstep
      have HBAD := hid hbad
      obtain ⟨C, hC⟩ : ∃ C, c.toNat = C := ⟨_, rfl⟩
      rw [hC] at hix hcn
      have HC := hid hC
      have HIX := hid hix
      have hok : ∀ b, nameOct c = b ↔ ((decide (97 ≤ C) && decide (C ≤ 122)) || (decide (48 ≤ C) && decide (C ≤ 57)) || C == 45 || C == 46 || C == 95) = b := by
        intro b
        unfold nameOct
        rw [hC]
      have HOK := hid hok
      clear hstep hbad hC hok hc
      have i0 : (0 : Int) ≤ (i : Int) := by omega
      have i1 : (i : Int) < (n : Int) := by omega
      rcases (by omega : (97 ≤ C ∧ C ≤ 122) ∨ 122 < C ∨ (48 ≤ C ∧ C ≤ 57) ∨ C = 95 ∨ (57 < C ∧ C < 97 ∧ ¬ C = 95) ∨ C = 45 ∨ C = 46 ∨ (C < 48 ∧ ¬ C = 45 ∧ ¬ C = 46)) with h | h | h | h | h | h | h | h
      · have hok2 : nameOct c = true := (HOK.out true).2 (by simp; omega)
        have HO2 := hid hok2
        clear hok2
        have qa : decide (97 ≤ (C : Int)) = true := by simp; omega
        have qan : decide (97 ≤ C) = true := by simp; omega
        have qb : decide ((C : Int) ≤ 122) = true := by simp; omega
        have qbn : decide (C ≤ 122) = true := by simp; omega
        clear h
        have hix2 := HIX.out
        go_wp2
        go_roundw
        case rel => exact ⟨i + 1, by omega, by go_num, hid (by rw [HST.out, HO2.out]), hw⟩
        case measure => simp [intOf]; omega
      · have hok2 : nameOct c = false := (HOK.out false).2 (by simp; omega)
        have hR2 := HBAD.out hok2
        have HR2 := hid hR2
        clear hok2 hR2
        have qa : decide (97 ≤ (C : Int)) = true := by simp; omega
        have qan : decide (97 ≤ C) = true := by simp; omega
        have qb : decide ((C : Int) ≤ 122) = false := by simp; omega
        have qbn : decide (C ≤ 122) = false := by simp; omega
        have qd : decide (48 ≤ (C : Int)) = true := by simp; omega
        have qdn : decide (48 ≤ C) = true := by simp; omega
        have qe : decide ((C : Int) ≤ 57) = false := by simp; omega
        have qen : decide (C ≤ 57) = false := by simp; omega
        have qf : ((C : Int) == 45) = false := by simp; omega
        have qfd : decide ((C : Int) = 45) = false := by simp; omega
        have qg : ((C : Int) == 46) = false := by simp; omega
        have qgd : decide ((C : Int) = 46) = false := by simp; omega
        have qk : ((C : Int) == 95) = false := by simp; omega
        have qkd : decide ((C : Int) = 95) = false := by simp; omega
        clear h
        have hix2 := HIX.out
        go_wp2
        go_ret
        exact ⟨by rw [HR2.out]; rfl, hw.out⟩
      · have hok2 : nameOct c = true := (HOK.out true).2 (by simp; omega)
        have HO2 := hid hok2
        clear hok2
        have qa : decide (97 ≤ (C : Int)) = false := by simp; omega
        have qan : decide (97 ≤ C) = false := by simp; omega
        have qd : decide (48 ≤ (C : Int)) = true := by simp; omega
        have qdn : decide (48 ≤ C) = true := by simp; omega
        have qe : decide ((C : Int) ≤ 57) = true := by simp; omega
        have qen : decide (C ≤ 57) = true := by simp; omega
        clear h
        have hix2 := HIX.out
        go_wp2
        go_roundw
        case rel => exact ⟨i + 1, by omega, by go_num, hid (by rw [HST.out, HO2.out]), hw⟩
        case measure => simp [intOf]; omega
      · have hok2 : nameOct c = true := (HOK.out true).2 (by simp; omega)
        have HO2 := hid hok2
        clear hok2
        have qa : decide (97 ≤ (C : Int)) = false := by simp; omega
        have qan : decide (97 ≤ C) = false := by simp; omega
        have qd : decide (48 ≤ (C : Int)) = true := by simp; omega
        have qdn : decide (48 ≤ C) = true := by simp; omega
        have qe : decide ((C : Int) ≤ 57) = false := by simp; omega
        have qen : decide (C ≤ 57) = false := by simp; omega
        have qf : ((C : Int) == 45) = false := by simp; omega
        have qfd : decide ((C : Int) = 45) = false := by simp; omega
        have qg : ((C : Int) == 46) = false := by simp; omega
        have qgd : decide ((C : Int) = 46) = false := by simp; omega
        have qk : ((C : Int) == 95) = true := by simp; omega
        have qkd : decide ((C : Int) = 95) = true := by simp; omega
        clear h
        have hix2 := HIX.out
        go_wp2
        go_roundw
        case rel => exact ⟨i + 1, by omega, by go_num, hid (by rw [HST.out, HO2.out]), hw⟩
        case measure => simp [intOf]; omega
      · have hok2 : nameOct c = false := (HOK.out false).2 (by simp; omega)
        have hR2 := HBAD.out hok2
        have HR2 := hid hR2
        clear hok2 hR2
        have qa : decide (97 ≤ (C : Int)) = false := by simp; omega
        have qan : decide (97 ≤ C) = false := by simp; omega
        have qd : decide (48 ≤ (C : Int)) = true := by simp; omega
        have qdn : decide (48 ≤ C) = true := by simp; omega
        have qe : decide ((C : Int) ≤ 57) = false := by simp; omega
        have qen : decide (C ≤ 57) = false := by simp; omega
        have qf : ((C : Int) == 45) = false := by simp; omega
        have qfd : decide ((C : Int) = 45) = false := by simp; omega
        have qg : ((C : Int) == 46) = false := by simp; omega
        have qgd : decide ((C : Int) = 46) = false := by simp; omega
        have qk : ((C : Int) == 95) = false := by simp; omega
        have qkd : decide ((C : Int) = 95) = false := by simp; omega
        clear h
        have hix2 := HIX.out
        go_wp2
        go_ret
        exact ⟨by rw [HR2.out]; rfl, hw.out⟩
      · have hok2 : nameOct c = true := (HOK.out true).2 (by simp; omega)
        have HO2 := hid hok2
        clear hok2
        have qa : decide (97 ≤ (C : Int)) = false := by simp; omega
        have qan : decide (97 ≤ C) = false := by simp; omega
        have qd : decide (48 ≤ (C : Int)) = false := by simp; omega
        have qdn : decide (48 ≤ C) = false := by simp; omega
        have qf : ((C : Int) == 45) = true := by simp; omega
        have qfd : decide ((C : Int) = 45) = true := by simp; omega
        clear h
        have hix2 := HIX.out
        go_wp2
        go_roundw
        case rel => exact ⟨i + 1, by omega, by go_num, hid (by rw [HST.out, HO2.out]), hw⟩
        case measure => simp [intOf]; omega
      · have hok2 : nameOct c = true := (HOK.out true).2 (by simp; omega)
        have HO2 := hid hok2
        clear hok2
        have qa : decide (97 ≤ (C : Int)) = false := by simp; omega
        have qan : decide (97 ≤ C) = false := by simp; omega
        have qd : decide (48 ≤ (C : Int)) = false := by simp; omega
        have qdn : decide (48 ≤ C) = false := by simp; omega
        have qf : ((C : Int) == 45) = false := by simp; omega
        have qfd : decide ((C : Int) = 45) = false := by simp; omega
        have qg : ((C : Int) == 46) = true := by simp; omega
        have qgd : decide ((C : Int) = 46) = true := by simp; omega
        clear h
        have hix2 := HIX.out
        go_wp2
        go_roundw
        case rel => exact ⟨i + 1, by omega, by go_num, hid (by rw [HST.out, HO2.out]), hw⟩
        case measure => simp [intOf]; omega
      · have hok2 : nameOct c = false := (HOK.out false).2 (by simp; omega)
        have hR2 := HBAD.out hok2
        have HR2 := hid hR2
        clear hok2 hR2
        have qa : decide (97 ≤ (C : Int)) = false := by simp; omega
        have qan : decide (97 ≤ C) = false := by simp; omega
        have qd : decide (48 ≤ (C : Int)) = false := by simp; omega
        have qdn : decide (48 ≤ C) = false := by simp; omega
        have qf : ((C : Int) == 45) = false := by simp; omega
        have qfd : decide ((C : Int) = 45) = false := by simp; omega
        have qg : ((C : Int) == 46) = false := by simp; omega
        have qgd : decide ((C : Int) = 46) = false := by simp; omega
        have qk : ((C : Int) == 95) = false := by simp; omega
        have qkd : decide ((C : Int) = 95) = false := by simp; omega
        clear h
        have hix2 := HIX.out
        go_wp2
        go_ret
        exact ⟨by rw [HR2.out]; rfl, hw.out⟩
    · have hin : i = n := by omega
      subst hin
      have hal : s.data.toList.all nameOct = true := by
        have := hall.out
        rwa [List.take_of_length_le (by rw [HLL.out]; exact Nat.le_refl _)] at this
      have hr := HR.out
      rw [hal, HLL.out] at hr
      clear hal
      have HR2 := hid hr
      clear hr HR
      have hte : s.toList = s.data.toList := ByteArray.toList_eq s
      by_cases hE : s.data.toList = []
      · have f1 : s.toList = [] := by rw [hte, hE]
        have hRf : R = false := by rw [← HR2.out, hE]; rfl
        have HRF := hid hRf
        clear hRf hte hE HR2 HLL HAT hall
        go_wp2
        go_ret
        exact ⟨by rw [HRF.out]; rfl, hw.out⟩
      · have f1 : ¬ s.toList = [] := by rw [hte]; exact hE
        have f2 : s.toList.isEmpty = false := by
          cases h : s.toList.isEmpty with
          | false => rfl
          | true => exact absurd (List.isEmpty_iff.1 h) f1
        have f3 : s.data.toList.isEmpty = false := by rw [← hte]; exact f2
        by_cases h32 : i ≤ 32
        · have d1 : decide ((i : Int) ≤ 32) = true := decide_eq_true (by omega)
          have d1n : decide (i ≤ 32) = true := decide_eq_true h32
          have hRf : R = true := by rw [← HR2.out, f3, d1n]; rfl
          have HRF := hid hRf
          clear hRf hte hE f3 HR2 HLL HAT hall
          go_wp2
          go_ret
          exact ⟨by rw [HRF.out]; rfl, hw.out⟩
        · have d1 : decide ((i : Int) ≤ 32) = false := decide_eq_false (by omega)
          have d1n : decide (i ≤ 32) = false := decide_eq_false h32
          have hRf : R = false := by rw [← HR2.out, f3, d1n]; rfl
          have HRF := hid hRf
          clear hRf hte hE f3 HR2 HLL HAT hall
          go_wp2
          go_ret
          exact ⟨by rw [HRF.out]; rfl, hw.out⟩
end

section
open Go Go.RowKit

def alpha : ByteArray := ⟨#[97, 98, 99, 100, 101, 102, 103, 104, 105, 106, 107, 108, 109, 110, 111, 112, 113, 114, 115, 116, 117, 118, 119, 120, 121, 122, 48, 49, 50, 51, 52, 53, 54, 55, 56, 57, 45, 46, 95]⟩
theorem alpha_size : alpha.size = 39 := rfl
theorem alpha_ascii : ∀ b ∈ alpha.data.toList, b.toNat < 128 := by decide
theorem alpha_any : ∀ c : Fin 256, alpha.data.toList.any (· == UInt8.ofNat c.val) = nameOct (UInt8.ofNat c.val) := by decide +kernel
/-- a rune of the alphabet -/
def runeOk (r : Nat) : Bool := decide (r < 128) && nameOct (UInt8.ofNat r)

set_option maxRecDepth 100000 in
set_option maxHeartbeats 1000000 in
theorem indexByte_c (s : ByteArray) (c : Int) (w : World) :
    Calls Try.prog 122 #[.string s, .int .u8 c] w fun e w' => e = .returned (.int .i64 (firstIdx s c.toNat.toUInt8)) ∧ w = w' := by
  go_enter Try.func122, Try.ntmps122
  go_wp2
  rw [run_callFunc_extern Try.func135 (by kernel_rfl) (by kernel_rfl) (by kernel_rfl) (e := Extern.BytealgIndexByte.indexByte) (by kernel_rfl), run_indexByte_string]
  simp only [Result.andThen]
  rw [Oper.upon_value]
  go_wp2
  go_ret
  exact ⟨rfl, rfl⟩

set_option maxRecDepth 100000 in
set_option maxHeartbeats 1000000 in
theorem indexRune_low (r : Nat) (w : World) (hr : r < 128) :
    Calls Try.prog 97 #[.string alpha, .int .i32 (r : Int)] w fun e w' => e = .returned (.int .i64 (firstIdx alpha (UInt8.ofNat r))) ∧ w = w' := by
  have h := hid (fun w' => indexByte_c alpha (r : Int) w')
  have g1 : decide ((0 : Int) ≤ (r : Int)) = true := decide_eq_true (by omega)
  have g2 : decide ((r : Int) < 128) = true := decide_eq_true (by omega)
  have g3 : decide (r < 128) = true := decide_eq_true hr
  have g4 : IntKind.u8.wrap (r : Int) = r := IntWalk.u8_in _ (by omega)
  go_enter Try.func97, Try.ntmps97
  go_wp2_with (first | (go_at_call 122; refine (h.out _).mono ?_; rintro e w' ⟨rfl, rfl⟩))
  go_ret
  exact ⟨rfl, rfl⟩

set_option maxRecDepth 100000 in
set_option maxHeartbeats 1000000 in
theorem indexRune_err (w : World) :
    Calls Try.prog 97 #[.string alpha, .int .i32 65533] w fun e w' => e = .returned (.int .i64 (-1)) ∧ Ext w w' := by
  obtain ⟨s, hs⟩ : ∃ s, alpha = s := ⟨_, rfl⟩
  have hsz : s.size = 39 := by rw [← hs]; rfl
  have hasc : ∀ b ∈ s.data.toList, b.toNat < 128 := by rw [← hs]; exact alpha_ascii
  rw [hs]
  have HSZ := hid hsz
  have HASC := hid hasc
  clear hs hsz hasc
  go_enter Try.func97, Try.ntmps97
  go_wp2
  go_loopg [] 39 (fun gf wx => ∃ pos : Nat, wx.heap[w.heap.size]? = some (.stringIter s pos) ∧ Below w.heap.size w wx ∧ 39 ≤ pos + gf)
  case atStart => exact ⟨0, World.iter_heap w s 0, (Below.refl _ w).alloc (Nat.le_refl _) _, by omega⟩
  case round =>
    obtain ⟨pos, hit, hbw, hfu⟩ := hrel
    by_cases hps : pos < s.size
    · obtain ⟨g', rfl⟩ : ∃ g', gk = g' + 1 := ⟨gk - 1, by have := HSZ.out; omega⟩
      have hnx : ∀ ty, (Instr.next (.pointer (some ⟨w.heap.size, 0, none⟩)) true ty).run Try.prog wr = _ := fun ty => Lib.run_next_any_at wr w.heap.size s pos ty hit hps
      have hb : (s[pos]'hps).toNat < 128 := HASC.out _ (Array.getElem_mem_toList (xs := s.data) hps)
      have hdec := decode_ascii s pos hps hb
      rw [hdec] at hnx
      simp only at hnx
      obtain ⟨R, hR⟩ : ∃ R, (s[pos]'hps).toNat = R := ⟨_, rfl⟩
      rw [hR] at hnx hb
      have hit2 := Lib.iterAt_heap wr w.heap.size s pos (pos + 1) hit
      have hbw2 := Lib.below_iterAt hbw (k := w.heap.size) (Nat.le_refl _) s (pos + 1)
      have HIT := hid hit2
      have HBW := hid hbw2
      have g1 : ((R : Int) == 65533) = false := by simp; omega
      have g2 : (R == 65533) = false := by simp; omega
      have hfu2 : 39 ≤ (pos + 1) + g' := by omega
      clear hit2 hbw2 hit hbw hdec hR
      go_wp2
      go_roundg g'
      case measure => omega
      case rel => exact ⟨pos + 1, HIT.out, HBW.out, hfu2⟩
    · have hnx : ∀ ty, (Instr.next (.pointer (some ⟨w.heap.size, 0, none⟩)) true ty).run Try.prog wr = _ := fun ty => Lib.run_next_end_at wr w.heap.size s pos ty hit hps
      have HBW := hid hbw
      clear hit hbw
      go_wp2
      go_ret
      exact ⟨rfl, HBW.out⟩

set_option maxRecDepth 100000 in
set_option maxHeartbeats 1000000 in
theorem indexRune_bad (r : Nat) (w : World) (h1 : 55296 ≤ r) (h2 : r ≤ 57343) :
    Calls Try.prog 97 #[.string alpha, .int .i32 (r : Int)] w fun e w' => e = .returned (.int .i64 (-1)) ∧ w = w' := by
  have g1 : decide ((0 : Int) ≤ (r : Int)) = true := decide_eq_true (by omega)
  have g2 : decide ((r : Int) < 128) = false := decide_eq_false (by omega)
  have g3 : decide (r < 128) = false := decide_eq_false (by omega)
  have g4 : ((r : Int) == 65533) = false := by simp; omega
  have g5 : (r == 65533) = false := by simp; omega
  have g6 : decide ((r : Int) < 55296) = false := decide_eq_false (by omega)
  have g7 : decide (r < 55296) = false := decide_eq_false (by omega)
  have g8 : decide ((57343 : Int) < (r : Int)) = false := decide_eq_false (by omega)
  have g9 : decide (57343 < r) = false := decide_eq_false (by omega)
  go_enter Try.func97, Try.ntmps97
  go_wp2
  go_ret
  exact ⟨rfl, rfl⟩
end

section
open Go Go.RowKit

theorem run_stringIndex (s : ByteArray) (i : Nat) (h : i < s.size) (w : World) : (Instr.index 9 (.string s) (.int .i64 (i : Int))).run Try.prog w = .ok (.int .u8 ((s[i]'h).toNat : Int)) w := by
  have h2 : s[i]? = some (s[i]'h) := getElem?_pos s i h
  simp [Instr.index, asIntOf, run_underlying Try.underlying9, h2]

theorem exec_strAt {o : Oper} {a : Act} {x y : Operand} {s : ByteArray} {i : Nat} {v : Value} (ho : o.op = .index 9 x y) (hx : a.eval x = .string s) (hy : a.eval y = .int .i64 (i : Int)) (h : ∀ w, (Instr.index 9 (.string s) (.int .i64 (i : Int))).run Try.prog w = .ok v w) (w : World) :
    (execOp a.eval o).run Try.prog w = .ok (.value v) w := by
  unfold execOp
  simp only [ho, hx, hy, Sem.run_bind, h w, Result.andThen_ok, Sem.run_pure]

theorem run_strFrom (s : ByteArray) (i : Nat) (hi : i ≤ s.size) (w : World) : (Instr.sliceAt 9 (.string s) (some (.int .i64 (i : Int))) none none).run Try.prog w = .ok (.string (s.extract i s.size)) w := by
  have h1 : (0 : Int) ≤ i ∧ (i : Int) ≤ s.size := by omega
  simp [Instr.sliceAt, Instr.slice, Instr.sliceBounds, Instr.sliceBound, asIntOf, run_underlying Try.underlying9, hi]
theorem exec_strFrom {o : Oper} {a : Act} {x y : Operand} {s : ByteArray} {i : Nat} (ho : o.op = .slice 9 x (some y) none none) (hx : a.eval x = .string s) (hy : a.eval y = .int .i64 (i : Int)) (hi : i ≤ s.size) (w : World) :
    (execOp a.eval o).run Try.prog w = .ok (.value (.string (s.extract i s.size))) w := by
  unfold execOp
  simp only [ho, hx, hy, Option.map_some, Option.map_none, Sem.run_bind, run_strFrom s i hi w, Result.andThen_ok, Sem.run_pure]

set_option maxRecDepth 100000 in
set_option maxHeartbeats 1000000 in
theorem validRune_c (r : Nat) (w : World) (h2 : r ≤ 1114111) (h3 : r < 55296 ∨ 57343 < r) :
    Calls Try.prog 123 #[.int .i32 (r : Int)] w fun e w' => e = .returned (.bool true) ∧ w = w' := by
  have g1 : decide ((0 : Int) ≤ (r : Int)) = true := decide_eq_true (by omega)
  by_cases h : r < 55296
  · have g6 : decide ((r : Int) < 55296) = true := decide_eq_true (by omega)
    have g7 : decide (r < 55296) = true := decide_eq_true (by omega)
    go_enter Try.func123, Try.ntmps123
    go_wp2
    go_ret
    exact ⟨rfl, rfl⟩
  · have g6 : decide ((r : Int) < 55296) = false := decide_eq_false (by omega)
    have g7 : decide (r < 55296) = false := decide_eq_false (by omega)
    have g8 : decide ((57343 : Int) < (r : Int)) = true := decide_eq_true (by omega)
    have g9 : decide (57343 < r) = true := decide_eq_true (by omega)
    have g10 : decide ((r : Int) ≤ 1114111) = true := decide_eq_true (by omega)
    have g11 : decide (r ≤ 1114111) = true := decide_eq_true (by omega)
    go_enter Try.func123, Try.ntmps123
    go_wp2
    go_ret
    exact ⟨rfl, rfl⟩

set_option maxRecDepth 100000 in
set_option maxHeartbeats 1000000 in
theorem indexRune_high (r : Nat) (w : World) (h1 : 128 ≤ r) (h2 : r ≤ 1114111) (h3 : r < 55296 ∨ 57343 < r) (h4 : r ≠ 65533) :
    Calls Try.prog 97 #[.string alpha, .int .i32 (r : Int)] w fun e w' => e = .returned (.int .i64 (-1)) ∧ Ext w w' := by
  have hv : Utf8.valid (r : Int) = true := by
    rw [validRune_eq]; unfold validRune; exact decide_eq_true (by omega)
  obtain ⟨f1, f2, f3⟩ := encode_facts (r : Int) hv (by omega)
  obtain ⟨rs, hrs⟩ : ∃ rs, Utf8.encode (r : Int) = rs := ⟨_, rfl⟩
  rw [hrs] at f1 f2 f3
  obtain ⟨m, hm⟩ : ∃ m, m = rs.size - 1 := ⟨_, rfl⟩
  have hmlt : m < rs.size := by omega
  have hmc := f3 (by omega)
  have hc128 : 128 ≤ (rs[m]'hmlt).toNat := by subst hm; exact hmc
  have hrsz : ((rs.size : Nat) : Int) - 1 = (m : Int) := by omega
  have hia := fun w => run_stringIndex rs m hmlt w
  obtain ⟨s, hs⟩ : ∃ s, alpha = s := ⟨_, rfl⟩
  have hsz : s.size = 39 := by rw [← hs]; rfl
  have hasc : ∀ b ∈ s.data.toList, b.toNat < 128 := by rw [← hs]; exact alpha_ascii
  have hms : m < s.size := by omega
  have hib := fun w => run_stringIndex s m hms w
  have hb : (s[m]'hms).toNat < 128 := hasc _ (Array.getElem_mem_toList (xs := s.data) hms)
  obtain ⟨c, hc⟩ : ∃ c, (rs[m]'hmlt) = c := ⟨_, rfl⟩
  obtain ⟨b, hbb⟩ : ∃ b, (s[m]'hms).toNat = b := ⟨_, rfl⟩
  rw [hc] at hia hc128
  rw [hbb] at hib hb
  have hc256 := c.toNat_lt
  have hix := hid (fun a e w' => indexByte_c (s.extract a e) (c.toNat : Int) w')
  have hno := hid (fun a e => firstIdx_ascii s a e c hasc hc128)
  have hcc : ((c.toNat : Int)).toNat.toUInt8 = c := by simp
  rw [hcc] at hix
  rw [hs]
  have HSZ := hid hsz
  have hvr := hid (fun w' => validRune_c r w' h2 h3)
  clear hs hasc hmc f3 hm hc hbb hsz h3 hv hcc
  have g1 : decide ((0 : Int) ≤ (r : Int)) = true := decide_eq_true (by omega)
  have g2 : decide ((r : Int) < 128) = false := decide_eq_false (by omega)
  have g3 : decide (r < 128) = false := decide_eq_false (by omega)
  have g4 : ((r : Int) == 65533) = false := by simp; omega
  have g5 : (r == 65533) = false := by simp [h4]
  go_enter Try.func97, Try.ntmps97
  go_wp2_with (first | (go_at_call 123; refine (hvr.out _).mono ?_; rintro e w' ⟨rfl, rfl⟩))
  go_step3
  go_wp2_with fail
  go_loopw [9] (fun x wr => x = .int .i64 (m : Int) ∧ wr = w) (fun _ _ => 0)
  case atStart => exact ⟨rfl, rfl⟩
  case round =>
    obtain ⟨rfl, rfl⟩ := hrel
    have k1 : decide ((m : Int) < (s.size : Int)) = true := decide_eq_true (by omega)
    have k2 : decide (m < s.size) = true := decide_eq_true hms
    have k3 : ((b : Int) != (c.toNat : Int)) = true := by simp; omega
    have k4 : (b != c.toNat) = true := by simp; omega
    go_wp2_with fail
    go_step3
    go_wp2_with fail
    obtain ⟨C, hC⟩ : ∃ C : World → Prop, C = fun w' => Ext wr w' := ⟨_, rfl⟩
    have hC0 : ∀ w', C w' ↔ Ext wr w' := fun w' => by rw [hC]
    clear hC
    have HCC := hid hC0
    clear hC0
    have hCx : ∀ w w', C w → Ext w w' → C w' := fun w w' h1 h2 => (HCC.out w').2 (((HCC.out w).1 h1).ext h2)
    refine wp_region_held_drew (S := C) (by kernel_rfl) ((HCC.out _).2 (Ext.refl wr).drew) (fun hS0 => ?_)
    refine held_take 0 (v := ?tv1) rfl (by kernel_rfl) (by kernel_rfl) (by kernel_rfl) (fun _ _ _ h => h) (.inl ⟨rfl, ?ty1⟩) hS0 ?tr1
    case ty1 => (intro _ _; go_simp; try with_reducible rfl)
    case tr1 =>
    simp only [Act.put, List.setIfInBounds_toArray, List.set_cons_succ, List.set_cons_zero]
    refine held_take 1 (v := ?tv2) rfl (by kernel_rfl) (by kernel_rfl) (by kernel_rfl) (fun _ _ _ h => h) (.inl ⟨rfl, ?ty2⟩) hS0 ?tr2
    case ty2 => (intro _ _; go_simp; try with_reducible rfl)
    case tr2 =>
    simp only [Act.put, List.setIfInBounds_toArray, List.set_cons_succ, List.set_cons_zero]
    refine held_take 2 (v := _) rfl (by kernel_rfl) (by kernel_rfl) (by kernel_rfl) (fun _ _ _ h => h) (yieldsI_run rfl (fun w1 _ => exec_strAt rfl rfl rfl hib w1)) hS0 ?_
    simp only [Act.put, List.setIfInBounds_toArray, List.set_cons_succ, List.set_cons_zero]
    refine held_take 3 (v := ?tv3) rfl (by kernel_rfl) (by kernel_rfl) (by kernel_rfl) (fun _ _ _ h => h) (.inl ⟨rfl, ?ty3⟩) hS0 ?tr3
    case ty3 => (intro _ _; go_simp; try with_reducible rfl)
    case tr3 =>
    simp only [Act.put, List.setIfInBounds_toArray, List.set_cons_succ, List.set_cons_zero]
    refine held_take 4 (v := ?tv4) rfl (by kernel_rfl) (by kernel_rfl) (by kernel_rfl) (fun _ _ _ h => h) (.inl ⟨rfl, ?ty4⟩) hS0 ?tr4
    case ty4 => (intro _ _; go_simp; try with_reducible rfl)
    case tr4 =>
    simp only [Act.put, List.setIfInBounds_toArray, List.set_cons_succ, List.set_cons_zero]
    refine held_take 5 (v := _) rfl (by kernel_rfl) (by kernel_rfl) (by kernel_rfl) (fun _ _ _ h => h) (yieldsI_run rfl (fun w1 _ => exec_strAt rfl rfl rfl hia w1)) hS0 ?_
    simp only [Act.put, List.setIfInBounds_toArray, List.set_cons_succ, List.set_cons_zero]
    refine held_take 6 (v := ?tv5) rfl (by kernel_rfl) (by kernel_rfl) (by kernel_rfl) (fun _ _ _ h => h) (.inl ⟨rfl, ?ty5⟩) hS0 ?tr5
    case ty5 => (intro _ _; go_simp; try with_reducible rfl)
    case tr5 =>
    simp only [Act.put, List.setIfInBounds_toArray, List.set_cons_succ, List.set_cons_zero]
    have eD : Ext wr wr.drew := (Ext.refl wr).drew
    generalize wr.drew = wD at *
    refine wpAnyH_done (by kernel_rfl) ?_ _
    clear hS0 hCx HCC C
    go_wp2_with fail
    obtain ⟨C, hC⟩ : ∃ C : World → Prop, C = fun w' => Ext wD w' := ⟨_, rfl⟩
    have hC0 : ∀ w', C w' ↔ Ext wD w' := fun w' => by rw [hC]
    clear hC
    have HCC := hid hC0
    clear hC0
    have hCx : ∀ w w', C w → Ext w w' → C w' := fun w w' h1 h2 => (HCC.out w').2 (((HCC.out w).1 h1).ext h2)
    refine wp_region_held_drew (S := C) (by kernel_rfl) ((HCC.out _).2 (Ext.refl wD).drew) (fun hS0 => ?_)
    have hw1 : IntKind.i64.wrap ((m : Int) + 1) = ((m + 1 : Nat) : Int) := by rw [IntWalk.i64_in _ (by omega)]; omega
    have hm1 : m + 1 ≤ s.size := by omega
    generalize m + 1 = m1 at *
    refine held_take 0 (v := ?tv6) rfl (by kernel_rfl) (by kernel_rfl) (by kernel_rfl) (fun _ _ _ h => h) (.inl ⟨rfl, ?ty6⟩) hS0 ?tr6
    case ty6 => (intro _ _; go_simp; try with_reducible rfl)
    case tr6 =>
    simp only [Act.put, List.setIfInBounds_toArray, List.set_cons_succ, List.set_cons_zero]
    refine held_take 1 (v := ?tv7) rfl (by kernel_rfl) (by kernel_rfl) (by kernel_rfl) (fun _ _ _ h => h) (.inl ⟨rfl, ?ty7⟩) hS0 ?tr7
    case ty7 => (intro _ _; go_simp; try with_reducible rfl)
    case tr7 =>
    simp only [Act.put, List.setIfInBounds_toArray, List.set_cons_succ, List.set_cons_zero]
    refine held_take 2 (v := ?tv8) rfl (by kernel_rfl) (by kernel_rfl) (by kernel_rfl) (fun _ _ _ h => h) (.inl ⟨rfl, ?ty8⟩) hS0 ?tr8
    case ty8 => (intro _ _; go_simp; try with_reducible rfl)
    case tr8 =>
    simp only [Act.put, List.setIfInBounds_toArray, List.set_cons_succ, List.set_cons_zero]
    refine held_take 3 (v := _) rfl (by kernel_rfl) (by kernel_rfl) (by kernel_rfl) (fun _ _ _ h => h) (yieldsI_run rfl (fun w1 _ => exec_strFrom (i := m1) rfl rfl rfl hm1 w1)) hS0 ?_
    simp only [Act.put, List.setIfInBounds_toArray, List.set_cons_succ, List.set_cons_zero]
    refine held_take 4 (v := ?tv9) rfl (by kernel_rfl) (by kernel_rfl) (by kernel_rfl) (fun _ _ _ h => h) (.inl ⟨rfl, ?ty9⟩) hS0 ?tr9
    case ty9 => (intro _ _; go_simp; try with_reducible rfl)
    case tr9 =>
    simp only [Act.put, List.setIfInBounds_toArray, List.set_cons_succ, List.set_cons_zero]
    refine held_take 5 (v := ?tv10) rfl (by kernel_rfl) (by kernel_rfl) (by kernel_rfl) (fun _ _ _ h => h) (.inl ⟨rfl, ?ty10⟩) hS0 ?tr10
    case ty10 => (intro _ _; go_simp; try with_reducible rfl)
    case tr10 =>
    simp only [Act.put, List.setIfInBounds_toArray, List.set_cons_succ, List.set_cons_zero]
    refine held_take 6 (v := _) rfl (by kernel_rfl) (by kernel_rfl) (by kernel_rfl) (fun _ _ _ h => h) (yieldsI_run rfl (fun w1 _ => exec_strAt rfl rfl rfl hia w1)) hS0 ?_
    simp only [Act.put, List.setIfInBounds_toArray, List.set_cons_succ, List.set_cons_zero]
    clear hw1
    generalize wD.drew = wE at *
    refine held_one (i := 7) (by kernel_rfl) rfl ?_
    intro Q' hQ
    go_wp2_with fail
    refine (hix.out m1 s.size _).mono ?_
    rintro e wF ⟨rfl, rfl⟩
    go_wp2_with fail
    refine hQ _ _ hS0 ?_
    clear hQ Q'
    try dsimp only
    try simp only [Act.put, List.setIfInBounds_toArray, List.set_cons_succ, List.set_cons_zero]
    rw [hno.out]
    refine held_take 8 (v := ?tv11) rfl (by kernel_rfl) (by kernel_rfl) (by kernel_rfl) (fun _ _ _ h => h) (.inl ⟨rfl, ?ty11⟩) hS0 ?tr11
    case ty11 => (intro _ _; go_simp; try with_reducible rfl)
    case tr11 =>
    simp only [Act.put, List.setIfInBounds_toArray, List.set_cons_succ, List.set_cons_zero]
    refine wpAnyH_done (by kernel_rfl) ?_ _
    have EE := hid (eD.ext ((HCC.out _).1 hS0))
    clear hS0 hCx HCC C
    go_wp2_with fail
    rw [Exit.noGoto_ret]
    go_wp2_with fail
    rw [Exit.noGoto_ret]
    go_ret
    exact ⟨rfl, EE.out⟩
end

section
open Go Go.RowKit

theorem nameOct_high {c : UInt8} (h : 128 ≤ c.toNat) : nameOct c = false := by
  unfold nameOct
  simp
  omega
theorem runeOk_low {r : Nat} (h : r < 128) : runeOk r = nameOct (UInt8.ofNat r) := by
  unfold runeOk
  rw [decide_eq_true h, Bool.true_and]
theorem runeOk_high {r : Nat} (h : 128 ≤ r) : runeOk r = false := by
  unfold runeOk
  rw [decide_eq_false (by omega), Bool.false_and]
theorem runeOk_oct (c : UInt8) (h : c.toNat < 128) : runeOk c.toNat = nameOct c := by
  rw [runeOk_low h, UInt8.ofNat_toNat]

set_option maxRecDepth 100000 in
set_option maxHeartbeats 1000000 in
theorem indexRune_c (r : Nat) (w : World) (h : r ≤ 1114111) :
    Calls Try.prog 97 #[.string alpha, .int .i32 (r : Int)] w fun e w' => ∃ z : Int, e = .returned (.int .i64 z) ∧ decide (0 ≤ z) = runeOk r ∧ Ext w w' := by
  by_cases h1 : r < 128
  · refine (indexRune_low r w h1).mono ?_
    rintro e w' ⟨rfl, rfl⟩
    refine ⟨_, rfl, ?_, Ext.refl _⟩
    rw [firstIdx_nonneg, runeOk_low h1]
    have := alpha_any ⟨r, by omega⟩
    exact this
  · by_cases h2 : r = 65533
    · subst h2
      refine (indexRune_err w).mono ?_
      rintro e w' ⟨rfl, e1⟩
      exact ⟨_, rfl, by rw [runeOk_high (by omega)]; rfl, e1⟩
    · by_cases h3 : 55296 ≤ r ∧ r ≤ 57343
      · refine (indexRune_bad r w h3.1 h3.2).mono ?_
        rintro e w' ⟨rfl, rfl⟩
        exact ⟨_, rfl, by rw [runeOk_high (by omega)]; rfl, Ext.refl _⟩
      · refine (indexRune_high r w (by omega) h (by omega) h2).mono ?_
        rintro e w' ⟨rfl, e1⟩
        exact ⟨_, rfl, by rw [runeOk_high (by omega)]; rfl, e1⟩

set_option maxRecDepth 100000 in
set_option maxHeartbeats 1000000 in
theorem containsRune_c (r : Nat) (w : World) (h : r ≤ 1114111) :
    Calls Try.prog 54 #[.string alpha, .int .i32 (r : Int)] w fun e w' => e = .returned (.bool (runeOk r)) ∧ Ext w w' := by
  have hi := hid (fun w' => indexRune_c r w' h)
  generalize runeOk r = R at *
  generalize alpha = s at *
  go_enter Try.func54, Try.ntmps54
  go_wp2_with fail
  refine (hi.out w).mono ?_
  rintro e w1 ⟨z, rfl, hz, e1⟩
  have E1 := hid e1
  clear e1 hi
  go_wp2_with fail
  go_ret
  exact ⟨by first | rfl | rw [hz], E1.out⟩

set_option maxRecDepth 100000 in
set_option maxHeartbeats 1000000 in
theorem notName_rune (r : Nat) (w : World) (h : r ≤ 1114111) :
    Calls Try.prog 53 #[.int .i32 (r : Int)] w fun e w' => e = .returned (.bool (!runeOk r)) ∧ Ext w w' := by
  have hi := hid (fun w' => containsRune_c r w' h)
  generalize runeOk r = R at *
  go_enter Try.func53, Try.ntmps53
  go_wp2_with fail
  refine (hi.out w).mono ?_
  rintro e w1 ⟨rfl, e1⟩
  have E1 := hid e1
  clear e1 hi
  go_wp2_with fail
  go_ret
  exact ⟨rfl, E1.out⟩

def predV : Value := .func (.func 53) #[] #[]

set_option maxRecDepth 100000 in
set_option maxHeartbeats 2000000 in
theorem indexFunc_c (s : ByteArray) (w : World) :
    Calls Try.prog 121 #[.string s, predV, .bool true] w fun e w' => ∃ z : Int, e = .returned (.int .i64 z) ∧ decide (0 ≤ z) = !(s.data.toList.all nameOct) ∧ Ext w w' := by
  obtain ⟨N, hN⟩ : ∃ N, s.size = N := ⟨_, rfl⟩
  have hll : s.data.toList.length = N := by rw [← hN, Array.length_toList]; rfl
  have HLL := hid hll
  have HN := hid hN
  clear hll hN
  unfold predV
  go_enter Try.func121, Try.ntmps121
  go_wp2
  go_loopg [] N (fun gf wx => ∃ pos : Nat, wx.heap[w.heap.size]? = some (.stringIter s pos) ∧ Below w.heap.size w wx ∧ Hid ((s.data.toList.take pos).all nameOct = true) ∧ N ≤ pos + gf)
  case atStart => exact ⟨0, World.iter_heap w s 0, (Below.refl _ w).alloc (Nat.le_refl _) _, hid (by simp), by omega⟩
  case round =>
    obtain ⟨pos, hit, hbw, hall, hfu⟩ := hrel
    by_cases hps : pos < s.size
    · have hpN : pos < N := by rw [← HN.out]; exact hps
      obtain ⟨g', rfl⟩ : ∃ g', gk = g' + 1 := ⟨gk - 1, by omega⟩
      have hnx : ∀ ty, (Instr.next (.pointer (some ⟨w.heap.size, 0, none⟩)) true ty).run Try.prog wr = _ := fun ty => Lib.run_next_any_at wr w.heap.size s pos ty hit hps
      have hrl := Lib.rune_le s pos
      have hc : s.data.toList[pos]? = some (s[pos]'hps) := by rw [Array.getElem?_toList]; exact Array.getElem?_eq_getElem hps
      obtain ⟨R, hR⟩ : ∃ R, (Utf8.decode s pos).1 = R := ⟨_, rfl⟩
      obtain ⟨K, hK⟩ : ∃ K, (Utf8.decode s pos).2 = K := ⟨_, rfl⟩
      have hok : runeOk R = nameOct (s[pos]'hps) ∧ (nameOct (s[pos]'hps) = true → K = 1) := by
        by_cases hb : (s[pos]'hps).toNat < 128
        · have hdec := decode_ascii s pos hps hb
          rw [hdec] at hR hK
          simp only at hR hK
          rw [← hR]
          exact ⟨runeOk_oct _ hb, fun _ => hK.symm⟩
        · have hh := (decode_high s pos hps (by omega)).1
          rw [hR] at hh
          refine ⟨by rw [runeOk_high hh, nameOct_high (by omega)], fun h => ?_⟩
          rw [nameOct_high (by omega)] at h; cases h
      rw [hR] at hnx hrl
      rw [hK] at hnx
      obtain ⟨b, hb⟩ : ∃ b, (s[pos]'hps) = b := ⟨_, rfl⟩
      rw [hb] at hok hc
      obtain ⟨hok1, hok2⟩ := hok
      have hit2 := Lib.iterAt_heap wr w.heap.size s pos (pos + K) hit
      have hbw2 := Lib.below_iterAt hbw (k := w.heap.size) (Nat.le_refl _) s (pos + K)
      have HIT := hid hit2
      have HBW := hid hbw2
      have hcl := hid (fun w' => notName_rune R w' hrl)
      have HC := hid hc
      generalize wr.iterAt w.heap.size s (pos + K) = wX at *
      have hgt : w.heap.size < wX.heap.size := (Array.getElem?_eq_some_iff.1 HIT.out).1
      cases hnm : nameOct b with
      | true =>
        rw [hnm] at hok1
        have hK1 := hok2 hnm
        subst hK1
        rw [hok1] at hcl
        have hst : (s.data.toList.take (pos + 1)).all nameOct = true := by
          rw [List.take_add_one, HC.out, List.all_append, hall.out]; simp [hnm]
        have HST := hid hst
        clear hit hbw hit2 hbw2 hR hK hok1 hok2 hc hst hb hrl
        go_wp2_with fail
        refine (hcl.out wX).mono ?_
        rintro e wY ⟨rfl, eY⟩
        have hit3 : wY.heap[w.heap.size]? = some (.stringIter s (pos + 1)) := by rw [eY.block _ hgt]; exact HIT.out
        have HIT3 := hid hit3
        have HBW3 := hid (HBW.out.trans (eY.mono HBW.out.size))
        clear eY hit3 hcl
        go_wp2_with fail
        go_roundg g'
        case measure => omega
        case rel => exact ⟨pos + 1, HIT3.out, HBW3.out, HST, by omega⟩
      | false =>
        rw [hnm] at hok1
        rw [hok1] at hcl
        have hbad : s.data.toList.all nameOct = false := by
          rw [List.all_eq_false]
          exact ⟨b, List.mem_of_getElem? HC.out, by rw [hnm]; simp⟩
        have HBAD := hid hbad
        clear hit hbw hit2 hbw2 hR hK hok1 hok2 hc hbad hb hrl
        go_wp2_with fail
        refine (hcl.out wX).mono ?_
        rintro e wY ⟨rfl, eY⟩
        have HBW3 := hid (HBW.out.trans (eY.mono HBW.out.size))
        clear eY hcl
        go_wp2_with fail
        go_ret
        exact ⟨_, rfl, by rw [HBAD.out]; exact decide_eq_true (by omega), HBW3.out⟩
    · have hnx : ∀ ty, (Instr.next (.pointer (some ⟨w.heap.size, 0, none⟩)) true ty).run Try.prog wr = _ := fun ty => Lib.run_next_end_at wr w.heap.size s pos ty hit hps
      have hfull : s.data.toList.take pos = s.data.toList := List.take_of_length_le (by rw [HLL.out]; have := HN.out; omega)
      have hall2 := hall.out
      rw [hfull] at hall2
      have HALL := hid hall2
      have HBW := hid hbw
      clear hit hbw hall hall2 hfull
      go_wp2_with fail
      go_ret
      exact ⟨_, rfl, by rw [HALL.out]; rfl, HBW.out⟩
end

section
open Go Go.RowKit

set_option maxRecDepth 100000 in
set_option maxHeartbeats 1000000 in
theorem containsFunc_c (s : ByteArray) (w : World) :
    Calls Try.prog 52 #[.string s, predV] w fun e w' => e = .returned (.bool (!(s.data.toList.all nameOct))) ∧ Ext w w' := by
  have hi := hid (fun w' => indexFunc_c s w')
  generalize s.data.toList.all nameOct = b at *
  generalize predV = pv at *
  have hj : Hid (∀ w, Calls Try.prog 96 #[.string s, pv] w fun e w' => ∃ z : Int, e = .returned (.int .i64 z) ∧ decide (0 ≤ z) = (!b) ∧ Ext w w') := by
    refine hid fun w => ?_
    go_enter Try.func96, Try.ntmps96
    go_wp2_with fail
    refine (hi.out w).mono ?_
    rintro e w1 ⟨z, rfl, hz, e1⟩
    have E1 := hid e1
    have HZ := hid hz
    clear e1 hi hz
    go_wp2_with fail
    go_ret
    exact ⟨z, rfl, HZ.out, E1.out⟩
  clear hi
  go_enter Try.func52, Try.ntmps52
  go_wp2_with fail
  refine (hj.out w).mono ?_
  rintro e w1 ⟨z, rfl, hz, e1⟩
  have E1 := hid e1
  clear e1 hj
  go_wp2_with fail
  go_ret
  exact ⟨by first | rfl | rw [hz], E1.out⟩

set_option maxRecDepth 100000 in
set_option maxHeartbeats 1000000 in
theorem risName_c (s : ByteArray) (w : World) (hn : s.size ≤ 9223372036854775807) :
    Calls Try.prog 16 #[.string s] w fun e w' => e = .returned (.bool (isNameL s.data.toList)) ∧ Ext w w' := by
  have hc := hid (fun w' => containsFunc_c s w')
  obtain ⟨n, hsn⟩ : ∃ n, s.size = n := ⟨_, rfl⟩
  have hll : s.data.toList.length = n := by rw [← hsn, Array.length_toList]; rfl
  obtain ⟨R, hR⟩ : ∃ R, isNameL s.data.toList = R := ⟨_, rfl⟩
  rw [hR]
  unfold isNameL at hR
  have hem : s.data.toList.isEmpty = decide (n = 0) := by
    rw [Bool.eq_iff_iff, List.isEmpty_iff, decide_eq_true_eq, ← hll, List.length_eq_zero_iff]
  have hse : s = ByteArray.empty ↔ n = 0 := by
    constructor
    · rintro rfl; rw [← hsn]; rfl
    · intro h
      have : s.data.toList = [] := List.length_eq_zero_iff.1 (by rw [hll]; exact h)
      cases s with
      | mk d => cases d with
        | mk l => simp at this; subst this; rfl
  rw [hem, hll] at hR
  generalize s.data.toList.all nameOct = b at *
  by_cases h0 : n = 0
  · have hs := hse.2 h0
    subst hs
    subst h0
    simp at hR
    subst hR
    clear hc hse hem hll hsn
    go_enter Try.func16, Try.ntmps16
    go_wp2
    go_ret
    exact ⟨rfl, Ext.refl _⟩
  · have hsne : ¬ s = ByteArray.empty := fun h => h0 (hse.1 h)
    have hne1 : s.toList.isEmpty = false := by
      have := decide_eq_emptyBytes s
      rw [decide_eq_false hsne] at this
      exact this.symm
    have hne2 : ¬ s.toList = [] := by
      intro h
      rw [h] at hne1
      cases hne1
    rw [decide_eq_false h0] at hR
    by_cases h32 : n ≤ 32
    · have g1 : decide ((n : Int) ≤ 32) = true := decide_eq_true (by omega)
      have g2 : decide (n ≤ 32) = true := decide_eq_true h32
      rw [g2] at hR
      simp at hR
      subst hR
      clear hse hem hll
      unfold predV at hc
      go_enter Try.func16, Try.ntmps16
      go_wp2_with fail
      refine (hc.out w).mono ?_
      rintro e w1 ⟨rfl, e1⟩
      have E1 := hid e1
      clear e1 hc
      go_wp2_with fail
      go_ret
      exact ⟨by first | rfl | simp, E1.out⟩
    · have g1 : decide ((n : Int) ≤ 32) = false := decide_eq_false (by omega)
      have g2 : decide (n ≤ 32) = false := decide_eq_false h32
      rw [g2] at hR
      simp at hR
      subst hR
      clear hc hse hem hll
      go_enter Try.func16, Try.ntmps16
      go_wp2
      go_ret
      exact ⟨rfl, Ext.refl _⟩
end

section
open Go Go.RowKit

/-- the key of a key -/
def deriveL (k s : List UInt8) (ep : Nat) : List UInt8 := sumL 7 (k ++ s ++ [0] ++ longL (UInt64.ofNat ep))
def deriveV (k s : List UInt8) (b : Bool) (ep : Int) : Value :=
  if b = false then .tuple #[zeros 32, .int .i64 6] else if ep < 0 ∨ 4294967295 < ep then .tuple #[zeros 32, .int .i64 4] else .tuple #[.agg ((deriveL k s ep.toNat).map u8v).toArray, .int .i64 0]

set_option maxRecDepth 100000 in
set_option maxHeartbeats 1000000 in
theorem rderive_c (k : List UInt8) (s : ByteArray) (ep : Int) (b : Bool) (w : World) (hk : k.length = 32) (hnm : ∀ w, Calls Try.prog 16 #[.string s] w fun e w' => e = .returned (.bool b) ∧ Ext w w') (hsz : b = true → s.size ≤ 32) :
    Calls Try.prog 11 #[.agg (k.map u8v).toArray, .string s, .int .i64 ep] w fun e w' => e = .returned (deriveV k s.data.toList b ep) ∧ Ext w w' := by
  obtain ⟨V, hV⟩ : ∃ V, deriveV k s.data.toList b ep = V := ⟨_, rfl⟩
  rw [hV]
  unfold deriveV at hV
  have HV := hid hV
  have HK := hid hk
  have HNM := hid hnm
  have HSZ := hid hsz
  clear hV hk hnm hsz
  go_enter Try.func11, Try.ntmps11
  go_wp2_with fail
  generalize hwA : World.alloc (World.alloc w _) _ = wA
  have kA : Blk wA w.heap.size (k.map u8v) 23 := by rw [← hwA]; exact (Blk.mk_alloc rfl rfl).alloc _
  have zA : Blk wA (w.heap.size + 1) (List.replicate 32 (.int .u8 0)) 23 := by rw [← hwA]; exact Blk.mk_alloc (by simp) rfl
  have eA : Ext w wA := by rw [← hwA]; exact ((Ext.refl w).alloc _).alloc _
  clear hwA
  refine (HNM.out wA).mono ?_
  rintro e w1 ⟨rfl, e1⟩
  have K1 := hid (kA.ext e1)
  have Z1 := hid (zA.ext e1)
  have E1 := hid (eA.ext e1)
  have l1 : w.heap.size + 1 < w1.heap.size := Z1.out.lt
  clear kA zA eA e1
  cases b with
  | false =>
    have hv := HV.out
    rw [if_pos rfl] at hv
    have HV2 := hid hv
    clear hv HV
    go_wp2_with (refine wpl_storew rfl _ _ _ rfl rfl rfl Z1.out agg_key (by simp) (xs := List.replicate 32 (.int .u8 0)) (by simp) (one_zeros 32) ?_)
    intro w4 b4 u4
    go_wp2
    refine ret_row2 rfl rfl b4 agg_key (by simp) rfl ⟨by rw [← HV2.out]; unfold zeros; rfl, u4.ext E1.out (by omega)⟩
  | true =>
    have hv := HV.out
    rw [if_neg (by decide)] at hv
    have hs32 := HSZ.out rfl
    by_cases hep : ep < 0 ∨ 4294967295 < ep
    · rw [if_pos hep] at hv
      have HV2 := hid hv
      clear hv HV
      by_cases h0 : ep < 0
      · have d1 : decide (ep < 0) = true := decide_eq_true h0
        clear hep
        go_wp2_with (refine wpl_storew rfl _ _ _ rfl rfl rfl Z1.out agg_key (by simp) (xs := List.replicate 32 (.int .u8 0)) (by simp) (one_zeros 32) ?_)
        intro w4 b4 u4
        go_wp2
        refine ret_row2 rfl rfl b4 agg_key (by simp) rfl ⟨by rw [← HV2.out]; unfold zeros; rfl, u4.ext E1.out (by omega)⟩
      · have d1 : decide (ep < 0) = false := decide_eq_false h0
        have d2 : decide (4294967295 < ep) = true := decide_eq_true (by omega)
        clear hep
        go_wp2_with (refine wpl_storew rfl _ _ _ rfl rfl rfl Z1.out agg_key (by simp) (xs := List.replicate 32 (.int .u8 0)) (by simp) (one_zeros 32) ?_)
        intro w4 b4 u4
        go_wp2
        refine ret_row2 rfl rfl b4 agg_key (by simp) rfl ⟨by rw [← HV2.out]; unfold zeros; rfl, u4.ext E1.out (by omega)⟩
    · rw [if_neg hep] at hv
      have d1 : decide (ep < 0) = false := decide_eq_false (by omega)
      have d2 : decide (4294967295 < ep) = false := decide_eq_false (by omega)
      obtain ⟨N, rfl⟩ := Int.eq_ofNat_of_zero_le (show 0 ≤ ep by omega)
      have hNb : N ≤ 4294967295 := by omega
      rw [Int.toNat_natCast] at hv
      have hll : (longL (UInt64.ofNat N)).length = 8 := rfl
      have hlong := hid (fun w => rlong_c N w (by omega))
      have hlen : (k ++ s.data.toList ++ [0] ++ longL (UInt64.ofNat N)).length = 41 + s.size := by
        have : s.data.toList.length = s.size := by rw [Array.length_toList]; rfl
        rw [List.length_append, List.length_append, List.length_append, HK.out, this, hll]; simp only [List.length_cons, List.length_nil]; omega
      have hsum := fun c a w h => rsum_c 7 (k ++ s.data.toList ++ [0] ++ longL (UInt64.ofNat N)) (41 + s.size) c a w (by omega) (by omega) hlen (by omega) h
      have HSL : Hid (((deriveL k s.data.toList N).map u8v).length = 32) := hid (by rw [List.length_map, deriveL, sumL_length])
      have o1 := one_u8 (deriveL k s.data.toList N)
      rw [show sumL 7 (k ++ s.data.toList ++ [0] ++ longL (UInt64.ofNat N)) = deriveL k s.data.toList N from rfl] at hsum
      generalize (deriveL k s.data.toList N).map u8v = dv at *
      generalize longL (UInt64.ofNat N) = ll at *
      have HLL := hid hll
      have HSUM := hid hsum
      have HV2 := hid hv
      obtain ⟨i0, hi, hz, hsz, hb1⟩ := info_parts info_u8
      clear hv HV hep hll hlen hsum
      go_wp2_with fail
      refine (clone_c k (some ⟨w.heap.size, 0, none⟩) 32 32 w1 HK.out (by omega) (Cells.of_blk0 K1.out)).mono ?_
      rintro e w2 ⟨v2, rfl, own2, -, e2⟩
      have O2 := hid own2
      have Z2 := hid (Z1.out.ext e2)
      have E2 := hid (E1.out.ext e2)
      have hb2 : w1.heap.size ≤ w2.heap.size := e2.size
      clear own2 e2 K1
      generalize w1.heap.size = B at *
      go_wp2_with (first | (at_builtin; refine Lib.wpList_append_own_string w2 rfl _ _ 73 9 rfl B 5 i0 Try.underlying73 Try.underlying9 hi hz hsz hb1 _ 32 _ rfl O2.out s rfl (by unfold maxLen; omega) (by omega) hb2 ?_))
      intro v3 w3 own3 g3 _
      have own3' : w3.ownsRow B 5 1 v3 (32 + s.size) ((k ++ s.data.toList).map u8v) := by rw [List.map_append]; exact own3
      have O3 := hid own3'
      have hv3 := own_block_ge O2.out
      have Z3 := hid (Z2.out.grown g3 (by intro h; have := hv3 _ h.symm; omega))
      have E3 := hid (E2.out.grown g3 (by intro q hq; have := hv3 _ hq; omega))
      have hb3 : B ≤ w3.heap.size := Nat.le_trans hb2 g3.size
      clear own3 own3' g3 hv3 O2 Z2 E2 hb2
      have zB : Blk (w3.alloc (.cells #[.int .u8 0] 5)) w3.heap.size (([0] : List UInt8).map u8v) 5 := Blk.mk_alloc rfl rfl
      have eB : Ext w3 (w3.alloc (.cells #[.int .u8 0] 5)) := (Ext.refl w3).alloc _
      have ZB := hid zB
      have O4 := hid (ownsRow_ext O3.out eB)
      have Z4 := hid (Z3.out.ext eB)
      have E4 := hid (E3.out.ext eB)
      have hb4 : B ≤ (w3.alloc (.cells #[.int .u8 0] 5)).heap.size := Nat.le_trans hb3 eB.size
      clear zB eB O3 Z3 E3
      go_wp2_with (first | (at_builtin; refine wpl_append8 rfl _ _ rfl B (ys := [0]) rfl rfl O4.out rfl (by intro h; cases h) (Cells.of_blk0 ZB.out) (by omega) hb4 ?_))
      generalize w3.alloc (.cells #[.int .u8 0] 5) = w4 at *
      intro v5 w5 own5 g5
      have own5' : w5.ownsRow B 5 1 v5 (32 + s.size + 1) ((k ++ s.data.toList ++ [0]).map u8v) := by rw [List.map_append]; simpa using own5
      have O5 := hid own5'
      have hv5 := own_block_ge O4.out
      have Z5 := hid (Z4.out.grown g5 (by intro h; have := hv5 _ h.symm; omega))
      have E5 := hid (E4.out.grown g5 (by intro q hq; have := hv5 _ hq; omega))
      have hb5 : B ≤ w5.heap.size := Nat.le_trans hb4 g5.size
      clear own5 own5' g5 hv5 O4 Z4 E4 hb4 ZB
      go_wp2_with fail
      refine (hlong.out w5).mono ?_
      rintro e w6 ⟨rfl, b6, e6⟩
      have O6 := hid (ownsRow_ext O5.out e6)
      have Z6 := hid (Z5.out.ext e6)
      have E6 := hid (E5.out.ext e6)
      have L6 := hid (Cells.of_blk0 b6)
      have hb6 : B ≤ w6.heap.size := Nat.le_trans hb5 e6.size
      clear b6 e6 O5 Z5 E5 hlong
      go_wp2_with (first | (at_builtin; refine wpl_append8 rfl _ _ rfl B (ys := ll) rfl rfl O6.out HLL.out (by intro h; cases h) L6.out (by omega) hb6 ?_))
      intro v7 w7 own7 g7
      have own7' : w7.ownsRow B 5 1 v7 (41 + s.size) ((k ++ s.data.toList ++ [0] ++ ll).map u8v) := by
        rw [List.map_append, show 41 + s.size = 32 + s.size + 1 + 8 by omega]; simpa using own7
      have hv7 := own_block_ge O6.out
      have Z7 := hid (Z6.out.grown g7 (by intro h; have := hv7 _ h.symm; omega))
      have E7 := hid (E6.out.grown g7 (by intro q hq; have := hv7 _ hq; omega))
      obtain ⟨a8, c8, rfl, -, -, -, hc8⟩ := own_slice own7'
      have HS8 := hid (HSUM.out c8 a8 w7 hc8)
      clear own7 own7' g7 hv7 O6 Z6 E6 L6 hb6 hc8 HSUM
      go_wp2_with fail
      refine HS8.out.mono ?_
      rintro e w9 ⟨rfl, e9⟩
      have Z9 := hid (Z7.out.ext e9)
      have E9 := hid (E7.out.ext e9)
      clear e9 HS8
      go_wp2_with (refine wpl_storew rfl _ _ _ rfl rfl rfl Z9.out agg_key (by simp) HSL.out o1 ?_)
      intro w10 b10 u10
      go_wp2
      refine ret_row2 rfl rfl b10 agg_key HSL.out rfl ⟨by rw [← HV2.out]; rfl, u10.ext E9.out (by omega)⟩
end

section
open Go Go.RowKit

section
variable {P : Program} {ops : Array Oper} {Q : Exit → Act → World → Prop} {S : World → Prop}
/-- two operations that may come up in either order, each of which makes something that stays -/
theorem held_par {i j : Nat} {oi oj : Oper} {ri rj : List Oper} {f : Nat} {listed : Array Bool} {a : Act} {w : World} {βi βj : Type} (vi : βi → Value) (vj : βj → Value) (Φi : βi → World → Prop) (Φj : βj → World → Prop)
    (hr : Region.ready .any ops listed = [i, j]) (hri : Region.ready .any ops (listed.setIfInBounds i true) = [j]) (hrj : Region.ready .any ops (listed.setIfInBounds j true) = [i]) (hne : (i == j) = false)
    (hoi : ops.toList.drop i = oi :: ri) (hoj : ops.toList.drop j = oj :: rj) (hSx : ∀ w w', S w → Ext w w' → S w') (hΦi : ∀ b w w', Φi b w → Ext w w' → Φi b w') (hΦj : ∀ b w w', Φj b w → Ext w w' → Φj b w')
    (hcm : ∀ x y, (a.put oj.dst y).put oi.dst x = (a.put oi.dst x).put oj.dst y)
    (hi : ∀ a', (a' = a ∨ ∃ b, a' = a.put oj.dst (vj b)) → ∀ w, S w → ∀ Q' : Exit → Act → World → Prop, (∀ b w', Ext w w' → Φi b w' → Q' .normal (a'.put oi.dst (vi b)) w') → wpList P ops Q' [oi] a' w)
    (hj : ∀ a', (a' = a ∨ ∃ b, a' = a.put oi.dst (vi b)) → ∀ w, S w → ∀ Q' : Exit → Act → World → Prop, (∀ b w', Ext w w' → Φj b w' → Q' .normal (a'.put oj.dst (vj b)) w') → wpList P ops Q' [oj] a' w)
    (hS : S w)
    (h : ∀ bi bj w', S w' → Φi bi w' → Φj bj w' → wpAnyH P .any ops Q S f ((listed.setIfInBounds i true).setIfInBounds j true) ((a.put oi.dst (vi bi)).put oj.dst (vj bj)) w') :
    wpAnyH P .any ops Q S (f + 2) listed a w := by
  have hne' : i ≠ j := by simpa using hne
  refine wpAnyH_all hr (by simp) fun k hk => ?_
  have hk' : k = i ∨ k = j := by simpa using hk
  rcases hk' with rfl | rfl
  · refine wpOp_of_list (op_of_drop hoi) (hi a (.inl rfl) w hS _ fun bi w1 e1 h1 => ?_)
    have hS1 := hSx _ _ hS e1
    refine ⟨hS1, ?_⟩
    refine held_one hri hoj fun Q' hQ => ?_
    refine hj _ (.inr ⟨bi, rfl⟩) w1 hS1 _ fun bj w2 e2 h2 => ?_
    exact hQ _ _ (hSx _ _ hS1 e2) (h bi bj w2 (hSx _ _ hS1 e2) (hΦi _ _ _ h1 e2) h2)
  · refine wpOp_of_list (op_of_drop hoj) (hj a (.inl rfl) w hS _ fun bj w1 e1 h1 => ?_)
    have hS1 := hSx _ _ hS e1
    refine ⟨hS1, ?_⟩
    refine held_one hrj hoi fun Q' hQ => ?_
    refine hi _ (.inr ⟨bj, rfl⟩) w1 hS1 _ fun bi w2 e2 h2 => ?_
    refine hQ _ _ (hSx _ _ hS1 e2) ?_
    rw [hcm, Array.setIfInBounds_comm _ _ (Ne.symm hne')]
    exact h bi bj w2 (hSx _ _ hS1 e2) h2 (hΦj _ _ _ h1 e2)
end

theorem wpl_stepA {P : Program} {ops : Array Oper} {rest : List Oper} {o : Oper} {a : Act} {w w' : World} {Q : Exit → Act → World → Prop} {v : Value} (hgd : o.guard = none) (hr : (execOp a.eval o).run P w = .ok (.value v) w') (h : wpList P ops Q rest (a.put o.dst v) w') : wpList P ops Q (o :: rest) a w :=
  wpList_plain hgd fun K hK => by
    unfold Oper.wp
    rw [hr, Oper.upon_value]
    exact hK _ _ h
theorem exec_toBytes {o : Oper} {a : Act} {x : Operand} {s : ByteArray} (ho : o.op = .convert 9 73 x) (hx : a.eval x = .string s) (w : World) :
    (execOp a.eval o).run Try.prog w = .ok (.value (.slice (some ⟨w.heap.size, 0, none⟩) s.size (grownCap w s.size 0 5)))
      (w.drew.alloc (.cells (bytesRow s (grownCap w s.size 0 5)) 5 ((bytesRow s (grownCap w s.size 0 5)).size, (bytesRow s (grownCap w s.size 0 5)).size + 1))) := by
  unfold execOp
  simp only [ho, hx, Sem.run_bind, run_bytes_of_string w _ _ _ s Try.underlying9 Try.underlying73 Try.underlying5, Result.andThen_ok, Sem.run_pure]
theorem cells_toBytes (s : ByteArray) (c : Nat) (w : World) (z : Nat × Nat) : Cells (w.drew.alloc (.cells (bytesRow s c) 5 z)) (some ⟨w.heap.size, 0, none⟩) (s.data.toList.map u8v) := by
  refine .inr ⟨w.heap.size, 0, rfl, fun i u hu => ?_⟩
  have hi : i < s.data.size := by
    have := (List.getElem?_eq_some_iff.1 hu).1
    rw [List.length_map, Array.length_toList] at this; exact this
  have hh : (w.drew.alloc (.cells (bytesRow s c) 5 z)).heap[w.heap.size]? = some (.cells (bytesRow s c) 5 z) := by
    show (w.heap.push _)[w.heap.size]? = _
    simp
  rw [Nat.zero_add]
  have hb : (bytesRow s c)[i]? = some u := by
    unfold bytesRow
    rw [Array.getElem?_append_left (by simpa using hi), Array.getElem?_map]
    rw [List.getElem?_map, Array.getElem?_toList] at hu
    exact hu
  simp only [World.cell?, hh]
  exact hb

set_option maxRecDepth 100000 in
set_option maxHeartbeats 2000000 in
theorem derive_ok (k : List UInt8) (s : ByteArray) (N : Nat) (w : World) (hk : k.length = 32) (hs : isNameL s.data.toList = true) (hs32 : s.size ≤ 32) (hN : N ≤ 4294967295) :
    Calls Try.prog 10 #[.agg (k.map u8v).toArray, .string s, .int .i64 (N : Int)] w fun e w' => e = .returned (.tuple #[.agg ((deriveL k s.data.toList N).map u8v).toArray, .int .i64 0]) ∧ Ext w w' := by
  have HK := hid hk
  have hnm := fun w => isName_c s w (by omega)
  rw [hs] at hnm
  have HNM := hid hnm
  have hun : ((UInt64.ofNat N).toNat : Int) = N := by rw [UInt64.toNat_ofNat']; omega
  have hlong := fun w => longOctets_c (UInt64.ofNat N) w
  rw [hun] at hlong
  have hll : (longL (UInt64.ofNat N)).length = 8 := rfl
  have hlv : ((longL (UInt64.ofNat N)).map u8v).length = 8 := rfl
  have o8 := one_u8 (longL (UInt64.ofNat N))
  have hsl : s.data.toList.length = s.size := by rw [Array.length_toList]; rfl
  have hlen : (k ++ s.data.toList ++ [0] ++ longL (UInt64.ofNat N)).length = s.size + 41 := by
    rw [List.length_append, List.length_append, List.length_append, hk, hsl, hll]; simp; omega
  have hdl : deriveL k s.data.toList N = sumL 7 (k ++ s.data.toList ++ [0] ++ longL (UInt64.ofNat N)) := rfl
  have hdll : (deriveL k s.data.toList N).length = 32 := by rw [hdl]; exact sumL_length _ _
  generalize longL (UInt64.ofNat N) = ll at *
  generalize deriveL k s.data.toList N = dl at *
  have odl := one_u8 dl
  have HDV := hid (show (dl.map u8v).length = 32 by rw [List.length_map, hdll])
  have HL := hid hlong
  have HLL := hid hll
  have HLV := hid hlv
  have HDL := hid hdl
  have HSL := hid hsl
  have HLEN := hid hlen
  have d1 : decide ((N : Int) < 0) = false := decide_eq_false (by omega)
  have d2 : decide ((4294967295 : Int) < (N : Int)) = false := decide_eq_false (by omega)
  have d2n : decide (4294967295 < N) = false := decide_eq_false (by omega)
  have hu : IntKind.u64.wrap (N : Int) = (N : Int) := IntWalk.u64_in _ (by omega)
  clear hs hk hnm hun hlong hll hlv hdl hsl hlen hdll
  go_enter Try.func10, Try.ntmps10
  go_wp2_with fail
  generalize hwA : World.alloc (World.alloc w _) _ = wA
  have kA : Blk wA w.heap.size (k.map u8v) 23 := by rw [← hwA]; exact (Blk.mk_alloc rfl rfl).alloc _
  have zA : Blk wA (w.heap.size + 1) (List.replicate 32 (.int .u8 0)) 23 := by rw [← hwA]; exact Blk.mk_alloc (by simp) rfl
  have eA : Ext w wA := by rw [← hwA]; exact ((Ext.refl w).alloc _).alloc _
  clear hwA
  refine (HNM.out wA).mono ?_
  rintro e w1 ⟨rfl, rfl⟩
  have KA := hid kA
  have ZA := hid zA
  have EA := hid eA
  clear kA zA eA HNM
  go_wp2_with fail
  refine (HL.out wA).mono ?_
  rintro e w2 ⟨rfl, e2⟩
  go_wp2_with (refine wpl_storew rfl _ _ _ rfl rfl rfl (Blk.mk_alloc rfl rfl) agg_eight rfl HLV.out o8 ?_)
  intro w3 b3 u3
  have e3 : Ext wA w3 := u3.ext (e2.alloc _) e2.size
  have K3 := hid (KA.out.ext e3)
  have Z3 := hid (ZA.out.ext e3)
  have E3 := hid (EA.out.ext e3)
  have L3 := hid b3
  clear b3 u3 e2 e3 KA ZA EA
  generalize w2.heap.size = g3 at *
  go_wp2_with fail
  obtain ⟨C, hC⟩ : ∃ C : World → Prop, C = Cls w w3 [w.heap.size, w.heap.size + 1, g3] [] := ⟨_, rfl⟩
  have hC0 : ∀ w', C w' ↔ Cls w w3 [w.heap.size, w.heap.size + 1, g3] [] w' := fun w' => by rw [hC]
  clear hC
  have HCC := hid hC0
  clear hC0
  have hCx : ∀ w w', C w → Ext w w' → C w' := fun w w' h1 h2 => (HCC.out w').2 (((HCC.out w).1 h1).ext h2)
  have hCA : C w3 := (HCC.out _).2 (Cls.no_room E3.out (Kept.three K3.out.lt Z3.out.lt L3.out.lt))
  refine wp_region_held_drew (S := C) (by kernel_rfl) (hCx _ _ hCA (Ext.refl _).drew) (fun hS0 => ?_)
  refine held_take 0 (v := ?tv1) rfl (by kernel_rfl) (by kernel_rfl) (by kernel_rfl) (fun _ _ _ h => h) (.inl ⟨rfl, ?ty1⟩) hS0 ?tr1
  case ty1 => (intro _ _; go_simp; try with_reducible rfl)
  case tr1 =>
  simp only [Act.put, List.setIfInBounds_toArray, List.set_cons_succ, List.set_cons_zero]
  refine held_take 1 (v := ?tv2) rfl (by kernel_rfl) (by kernel_rfl) (by kernel_rfl) (fun _ _ _ h => h) (.inl ⟨rfl, ?ty2⟩) hS0 ?tr2
  case ty2 => (intro _ _; go_simp; try with_reducible rfl)
  case tr2 =>
  simp only [Act.put, List.setIfInBounds_toArray, List.set_cons_succ, List.set_cons_zero]
  refine held_take 4 (v := ?tv3) rfl (by kernel_rfl) (by kernel_rfl) (by kernel_rfl) (fun _ _ _ h => h) (.inl ⟨rfl, ?ty3⟩) hS0 ?tr3
  case ty3 => (intro _ _; go_simp; try with_reducible rfl)
  case tr3 =>
  simp only [Act.put, List.setIfInBounds_toArray, List.set_cons_succ, List.set_cons_zero]
  refine held_par (i := 2) (j := 3) (βi := Nat × Nat) (βj := Nat) (fun b => .slice (some ⟨b.1, 0, none⟩) s.size b.2) (fun g => .slice (some ⟨g, 0, none⟩) 1 1) (fun b w' => Cells w' (some ⟨b.1, 0, none⟩) (s.data.toList.map u8v) ∧ s.size ≤ b.2 ∧ b.2 ≤ maxLen) (fun g w' => Blk w' g [.int .u8 0] 5) (by kernel_rfl) (by kernel_rfl) (by kernel_rfl) rfl rfl rfl hCx (fun b w1 w2 h e => ⟨h.1.ext e, h.2⟩) (fun b w1 w2 h e => h.ext e) ?hcm ?hi ?hj hS0 ?rest
  case hcm => intro x y; simp only [Act.put, List.setIfInBounds_toArray, List.set_cons_succ, List.set_cons_zero]
  case hi =>
    rintro a' (rfl | ⟨b, rfl⟩) w4 hS4 Q' hQ
    · refine wpl_stepA rfl (exec_toBytes rfl rfl w4) ?_
      exact hQ (w4.heap.size, _) _ ((Ext.refl w4).drew.alloc _) ⟨cells_toBytes s _ w4 _, grownCap_ge _ _ _ _, grownCap_le_maxLen _ _ _ _ (by unfold maxLen; omega)⟩
    · refine wpl_stepA rfl (exec_toBytes rfl rfl w4) ?_
      exact hQ (w4.heap.size, _) _ ((Ext.refl w4).drew.alloc _) ⟨cells_toBytes s _ w4 _, grownCap_ge _ _ _ _, grownCap_le_maxLen _ _ _ _ (by unfold maxLen; omega)⟩
  case hj =>
    rintro a' (rfl | ⟨b, rfl⟩) w4 hS4 Q' hQ
    · try simp only [Act.put, List.setIfInBounds_toArray, List.set_cons_succ, List.set_cons_zero]
      go_wp2_with fail
      exact hQ w4.heap.size _ ((Ext.refl w4).alloc _) (Blk.mk_alloc rfl rfl)
    · try simp only [Act.put, List.setIfInBounds_toArray, List.set_cons_succ, List.set_cons_zero]
      go_wp2_with fail
      exact hQ w4.heap.size _ ((Ext.refl w4).alloc _) (Blk.mk_alloc rfl rfl)
  case rest =>
  clear hS0
  rintro ⟨gb, cb⟩ gz w5 hS0 ⟨hcb, hb1, hb2⟩ hzb
  try dsimp only
  try simp only [Act.put, List.setIfInBounds_toArray, List.set_cons_succ, List.set_cons_zero]
  simp only at hcb hb1 hb2
  have HCB := hid hcb
  have HZB := hid hzb
  clear hcb hzb
  refine held_one (i := 5) (by kernel_rfl) rfl ?_
  intro Q' hQ
  go_wp2_with fail
  generalize hw6 : World.alloc w5 _ = w6
  have e6 : Ext w5 w6 := by rw [← hw6]; exact (Ext.refl w5).alloc _
  have gA : Blk w6 w5.heap.size [.slice (some ⟨w.heap.size, 0, none⟩) 32 32, .slice (some ⟨gb, 0, none⟩) s.size cb, .slice (some ⟨gz, 0, none⟩) 1 1, .slice (some ⟨g3, 0, none⟩) 8 8] 73 := by rw [← hw6]; exact Blk.mk_alloc rfl rfl
  clear hw6
  have hS6 := hCx _ _ hS0 e6
  refine hQ _ _ hS6 ?_
  clear hQ Q' hS0
  generalize w5.heap.size = g5 at *
  have GA := hid gA
  have CB6 := hid (HCB.out.ext e6)
  have ZB6 := hid (HZB.out.ext e6)
  clear gA e6 HCB HZB
  try dsimp only
  try simp only [Act.put, List.setIfInBounds_toArray, List.set_cons_succ, List.set_cons_zero]
  have hS0 := hS6
  clear hS6
  refine held_one (i := 6) (by kernel_rfl) rfl ?_
  intro Q' hQ
  go_wp2_with fail
  have K6 := ((HCC.out w6).1 hS0).blk K3.out (by simp)
  have L6 := ((HCC.out w6).1 hS0).blk L3.out (by simp)
  have hcat : cat [(some ⟨w.heap.size, 0, none⟩, 32, k), (some ⟨gb, 0, none⟩, cb, s.data.toList), (some ⟨gz, 0, none⟩, 1, [0]), (some ⟨g3, 0, none⟩, 8, ll)] = k ++ s.data.toList ++ [0] ++ ll := by simp [cat]
  refine (summed_c [(some ⟨w.heap.size, 0, none⟩, 32, k), (some ⟨gb, 0, none⟩, cb, s.data.toList), (some ⟨gz, 0, none⟩, 1, [0]), (some ⟨g3, 0, none⟩, 8, ll)] 7 g5 4 4 w6 rfl (by omega) ?hg GA.out.lt ?hc ?hn ?hnc ?hcm).mono ?_
  case hg =>
    intro i it hit
    match i, hit with
    | 0, hit => cases hit; rw [itemV]; simp only; rw [HK.out]; exact GA.out.cell' rfl
    | 1, hit => cases hit; rw [itemV]; simp only; rw [HSL.out]; exact GA.out.cell' rfl
    | 2, hit => cases hit; rw [itemV]; exact GA.out.cell' rfl
    | 3, hit => cases hit; rw [itemV]; simp only; rw [HLL.out]; exact GA.out.cell' rfl
  case hc =>
    intro it hit
    simp only [List.mem_cons, List.not_mem_nil, or_false] at hit
    rcases hit with rfl | rfl | rfl | rfl
    · exact Cells.of_blk0 K6
    · exact CB6.out
    · exact Cells.of_blk0 ZB6.out
    · exact Cells.of_blk0 L6
  case hn =>
    intro it hit
    simp only [List.mem_cons, List.not_mem_nil, or_false] at hit
    rcases hit with rfl | rfl | rfl | rfl <;> (intro h; cases h)
  case hnc =>
    intro it hit
    simp only [List.mem_cons, List.not_mem_nil, or_false] at hit
    rcases hit with rfl | rfl | rfl | rfl
    · rw [HK.out]; exact Nat.le_refl _
    · rw [HSL.out]; exact hb1
    · exact Nat.le_refl _
    · rw [HLL.out]; exact Nat.le_refl _
  case hcm =>
    intro it hit
    simp only [List.mem_cons, List.not_mem_nil, or_false] at hit
    rcases hit with rfl | rfl | rfl | rfl
    · simp
    · exact hb2
    · simp
    · simp
  intro e w7 h
  rw [hcat] at h
  unfold summedPost at h
  obtain ⟨h, e7⟩ := h
  rw [if_neg (by omega), HLEN.out, if_pos (by omega)] at h
  obtain ⟨rfl, h1⟩ := h
  have hS7 := hCx _ _ hS0 e7
  have hsum := sum_c (initS 7) (k ++ s.data.toList ++ [0] ++ ll) (s.size + 41) w6.heap.size SmT w7 (initS_length 7) (by omega) h1
  rw [show (finL (initS 7) (k ++ s.data.toList ++ [0] ++ ll) (s.size + 41)).take 32 = dl by rw [HDL.out, sumL, HLEN.out]] at hsum
  have hsum2 := hid hsum
  clear h1 hcat hsum
  go_wp2_with fail
  refine hQ _ _ hS7 ?_
  clear hQ Q' hS0 K6 L6 CB6 ZB6 GA e7
  generalize w6.heap.size = g6 at *
  try dsimp only
  try simp only [Act.put, List.setIfInBounds_toArray, List.set_cons_succ, List.set_cons_zero]
  have hS0 := hS7
  clear hS7
  refine held_take 7 (v := ?tv4) rfl (by kernel_rfl) (by kernel_rfl) (by kernel_rfl) (fun _ _ _ h => h) (.inl ⟨rfl, ?ty4⟩) hS0 ?tr4
  case ty4 => (intro _ _; go_simp; try with_reducible rfl)
  case tr4 =>
  simp only [Act.put, List.setIfInBounds_toArray, List.set_cons_succ, List.set_cons_zero]
  refine held_take 8 (v := ?tv5) rfl (by kernel_rfl) (by kernel_rfl) (by kernel_rfl) (fun _ _ _ h => h) (.inl ⟨rfl, ?ty5⟩) hS0 ?tr5
  case ty5 => (intro _ _; go_simp; try with_reducible rfl)
  case tr5 =>
  simp only [Act.put, List.setIfInBounds_toArray, List.set_cons_succ, List.set_cons_zero]
  refine held_take 9 (v := ?tv6) rfl (by kernel_rfl) (by kernel_rfl) (by kernel_rfl) (fun _ _ _ h => h) (.inl ⟨rfl, ?ty6⟩) hS0 ?tr6
  case ty6 => (intro _ _; go_simp; try with_reducible rfl)
  case tr6 =>
  simp only [Act.put, List.setIfInBounds_toArray, List.set_cons_succ, List.set_cons_zero]
  refine held_take 10 (v := ?tv7) rfl (by kernel_rfl) (by kernel_rfl) (by kernel_rfl) (fun _ _ _ h => h) (.inl ⟨rfl, ?ty7⟩) hS0 ?tr7
  case ty7 => (intro _ _; go_simp; try with_reducible rfl)
  case tr7 =>
  simp only [Act.put, List.setIfInBounds_toArray, List.set_cons_succ, List.set_cons_zero]
  refine held_take 11 (v := ?tv8) rfl (by kernel_rfl) (by kernel_rfl) (by kernel_rfl) (fun _ _ _ h => h) (.inl ⟨rfl, ?ty8⟩) hS0 ?tr8
  case ty8 => (intro _ _; go_simp; try with_reducible rfl)
  case tr8 =>
  simp only [Act.put, List.setIfInBounds_toArray, List.set_cons_succ, List.set_cons_zero]
  refine wpAnyH_done (by kernel_rfl) ?_ _
  have K8 := hid (((HCC.out w7).1 hS0).blk K3.out (by simp))
  have Z8 := hid (((HCC.out w7).1 hS0).blk Z3.out (by simp))
  have E8 := hid ((HCC.out w7).1 hS0).base
  clear hS0 hCx HCC hCA K3 Z3 L3 E3
  go_wp2_with fail
  refine hsum2.out.mono ?_
  rintro e w9 ⟨rfl, e9⟩
  have Z9 := hid (Z8.out.ext e9)
  have E9 := hid (E8.out.ext e9)
  clear e9 Z8 E8
  go_wp2_with (refine wpl_storew rfl _ _ _ rfl rfl rfl Z9.out agg_key (by simp) HDV.out odl ?_)
  intro wH bH uH
  go_wp2
  exact ret_row2 rfl rfl bH agg_key HDV.out rfl ⟨rfl, uH.ext E9.out (by omega)⟩
end

section
open Go Go.RowKit

theorem exec_cmpA {P : Program} {o : Oper} {a : Act} {op : BinOp} {t u : TypeId} {x y : Operand} {xs ys : Array Value} {b : Value} (ho : o.op = .binOp op t x y u) (hx : a.eval x = .agg xs) (hy : a.eval y = .agg ys)
    (hg : P.eqGuardType P.depth t = false) (hr : ∀ w, (binOp op t (.agg xs) (.agg ys)).run P w = .ok b w) (w : World) : (execOp a.eval o).run P w = .ok (.value b) w := by
  unfold execOp
  simp only [ho, hx, hy, Sem.run_bind, run_eqGuard_agg w op t x y xs ys hg, Result.andThen_ok, hr, Sem.run_pure]
theorem guard_keyA : Try.prog.eqGuardType Try.prog.depth 23 = false := by kernel_rfl
theorem guard_id : Try.prog.eqGuardType Try.prog.depth 29 = false := by kernel_rfl

def zerosL : List UInt8 := List.replicate 32 0
theorem zerosL_map : zerosL.map u8v = List.replicate 32 (.int .u8 0) := by simp [zerosL, u8v]
def derS (k s : List UInt8) (b : Bool) (ep : Int) : List UInt8 := if b = false then zerosL else if ep < 0 ∨ 4294967295 < ep then zerosL else deriveL k s ep.toNat
def derE (b : Bool) (ep : Int) : Int := if b = false then 6 else if ep < 0 ∨ 4294967295 < ep then 4 else 0
theorem derV_eq (k s : List UInt8) (b : Bool) (ep : Int) : deriveV k s b ep = .tuple #[.agg ((derS k s b ep).map u8v).toArray, .int .i64 (derE b ep)] := by
  unfold deriveV derS derE zeros
  split
  · rw [zerosL_map]
  · split
    · rw [zerosL_map]
    · rfl
theorem derS_length (k s : List UInt8) (b : Bool) (ep : Int) : (derS k s b ep).length = 32 := by
  unfold derS
  split
  · simp [zerosL]
  · split
    · simp [zerosL]
    · exact sumL_length _ _

set_option maxRecDepth 100000 in
set_option maxHeartbeats 2000000 in
theorem derive_c (k : List UInt8) (s : ByteArray) (ep : Int) (w : World) (hk : k.length = 32) (hn : s.size ≤ 140737488355328) :
    Calls Try.prog 10 #[.agg (k.map u8v).toArray, .string s, .int .i64 ep] w fun e w' => e = .returned (deriveV k s.data.toList (isNameL s.data.toList) ep) ∧ Ext w w' := by
  have hnm := hid (fun w => isName_c s w hn)
  cases hb : isNameL s.data.toList with
  | false =>
    rw [hb] at hnm
    rw [show deriveV k s.data.toList false ep = .tuple #[.agg (List.replicate 32 (.int .u8 0)).toArray, .int .i64 6] from rfl]
    clear hb hk
    go_enter Try.func10, Try.ntmps10
    go_wp2_with fail
    generalize hwA : World.alloc (World.alloc w _) _ = wA
    have zA : Blk wA (w.heap.size + 1) (List.replicate 32 (.int .u8 0)) 23 := by rw [← hwA]; exact Blk.mk_alloc (by simp) rfl
    have eA : Ext w wA := by rw [← hwA]; exact ((Ext.refl w).alloc _).alloc _
    clear hwA
    refine (hnm.out wA).mono ?_
    rintro e w1 ⟨rfl, rfl⟩
    have ZA := hid zA
    have EA := hid eA
    clear zA eA hnm
    go_wp2_with (first | (refine wpl_storew rfl _ (.tmp 6) _ rfl rfl rfl ZA.out agg_key (by simp) (xs := List.replicate 32 (.int .u8 0)) (by simp) (one_zeros 32) ?_))
    intro w4 b4 u4
    have b5 : Blk w4 (w.heap.size + 1) (List.replicate 32 (.int .u8 0)) 23 := b4
    go_wp2
    exact ret_row2 rfl rfl b5 agg_key (by simp) rfl ⟨rfl, u4.ext EA.out (by omega)⟩
  | true =>
    by_cases hr : ep < 0 ∨ 4294967295 < ep
    · rw [hb] at hnm
      rw [show deriveV k s.data.toList true ep = .tuple #[.agg (List.replicate 32 (.int .u8 0)).toArray, .int .i64 4] by unfold deriveV zeros; rw [if_neg (by simp), if_pos hr]]
      clear hb hk
      go_enter Try.func10, Try.ntmps10
      go_wp2_with fail
      generalize hwA : World.alloc (World.alloc w _) _ = wA
      have zA : Blk wA (w.heap.size + 1) (List.replicate 32 (.int .u8 0)) 23 := by rw [← hwA]; exact Blk.mk_alloc (by simp) rfl
      have eA : Ext w wA := by rw [← hwA]; exact ((Ext.refl w).alloc _).alloc _
      clear hwA
      refine (hnm.out wA).mono ?_
      rintro e w1 ⟨rfl, rfl⟩
      have ZA := hid zA
      have EA := hid eA
      clear zA eA hnm
      by_cases h0 : ep < 0
      · have g1 : decide (ep < 0) = true := decide_eq_true h0
        clear hr
        go_wp2_with (first | (refine wpl_storew rfl _ (.tmp 6) _ rfl rfl rfl ZA.out agg_key (by simp) (xs := List.replicate 32 (.int .u8 0)) (by simp) (one_zeros 32) ?_))
        intro w4 b4 u4
        have b5 : Blk w4 (w.heap.size + 1) (List.replicate 32 (.int .u8 0)) 23 := b4
        go_wp2
        exact ret_row2 rfl rfl b5 agg_key (by simp) rfl ⟨rfl, u4.ext EA.out (by omega)⟩
      · have g1 : decide (ep < 0) = false := decide_eq_false h0
        have g2 : decide (ep > 4294967295) = true := decide_eq_true (by omega)
        have g3 : decide (4294967295 < ep) = true := decide_eq_true (by omega)
        clear hr
        go_wp2_with (first | (refine wpl_storew rfl _ (.tmp 6) _ rfl rfl rfl ZA.out agg_key (by simp) (xs := List.replicate 32 (.int .u8 0)) (by simp) (one_zeros 32) ?_))
        intro w4 b4 u4
        have b5 : Blk w4 (w.heap.size + 1) (List.replicate 32 (.int .u8 0)) 23 := b4
        go_wp2
        exact ret_row2 rfl rfl b5 agg_key (by simp) rfl ⟨rfl, u4.ext EA.out (by omega)⟩
    · obtain ⟨N, rfl⟩ : ∃ N : Nat, ep = (N : Int) := ⟨ep.toNat, by omega⟩
      rw [show deriveV k s.data.toList true (N : Int) = .tuple #[.agg ((deriveL k s.data.toList N).map u8v).toArray, .int .i64 0] by unfold deriveV; rw [if_neg (by simp), if_neg hr]; rfl]
      have h32 : s.size ≤ 32 := by
        have := hb
        unfold isNameL at this
        simp only [Bool.and_eq_true, decide_eq_true_eq] at this
        have hl : s.data.toList.length = s.size := by rw [Array.length_toList]; rfl
        omega
      exact derive_ok k s N w hk hb h32 (by omega)

set_option maxRecDepth 100000 in
set_option maxHeartbeats 2000000 in
theorem keysAreDerived_c (k : List UInt8) (s : ByteArray) (ep : Int) (w : World) (hk : k.length = 32) (hn : s.size ≤ 140737488355328) :
    Calls Try.prog 3 #[.agg (k.map u8v).toArray, .string s, .int .i64 ep] w fun e w' => e = .returned (.bool true) ∧ Ext w w' := by
  have hd := hid (fun w' => derive_c k s ep w' hk hn)
  have h32 : isNameL s.data.toList = true → s.size ≤ 32 := by
    intro this
    unfold isNameL at this
    simp only [Bool.and_eq_true, decide_eq_true_eq] at this
    have hl : s.data.toList.length = s.size := by rw [Array.length_toList]; rfl
    omega
  have hrd := hid (fun w' => rderive_c k s ep (isNameL s.data.toList) w' hk (fun w => risName_c s w (by omega)) h32)
  rw [derV_eq] at hd hrd
  have hSl := derS_length k s.data.toList (isNameL s.data.toList) ep
  have hno := hid (fun w' => nameOf_c k w' hk)
  have hrno := hid (fun w' => rnameOf_c k w' hk)
  have hnl := nameL_length k
  generalize derS k s.data.toList (isNameL s.data.toList) ep = S at *
  generalize derE (isNameL s.data.toList) ep = E at *
  generalize nameL k = nl at *
  have HS := hid (show (S.map u8v).length = 32 by rw [List.length_map, hSl])
  have HK := hid (show (k.map u8v).length = 32 by rw [List.length_map, hk])
  have os := one_u8 S
  have HSE := hid (fun w => eq_self Try.underlying23 S hSl w)
  have HNE := hid (fun w => eq_self Try.underlying29 nl hnl w)
  have kE : (E == E) = true := by simp
  clear hSl hnl hk h32
  go_enter Try.func3, Try.ntmps3
  go_upto_region 1 with (fail)
  generalize hwA : World.alloc w _ = wA
  have kA : Blk wA w.heap.size (k.map u8v) 23 := by rw [← hwA]; exact Blk.mk_alloc rfl rfl
  have eA : Ext w wA := by rw [← hwA]; exact (Ext.refl w).alloc _
  clear hwA
  have KA := hid kA
  have EA := hid eA
  clear kA eA
  go_wp2_with fail
  refine (landed_c wA).mono ?_
  rintro e wB ⟨rfl, eB⟩
  have KB := hid (KA.out.ext eB)
  have EB := hid (EA.out.ext eB)
  clear eB KA EA
  go_wp2_with (first | (refine wpl_loadw rfl 23 (.tmp 3) rfl rfl KB.out agg_key HK.out ?_))
  refine (hd.out _).mono ?_
  rintro e wC ⟨rfl, eC⟩
  have KC := hid (KB.out.ext eC)
  have EC := hid (EB.out.ext eC)
  clear eC KB EB
  go_wp2_with (first | (refine wpl_storew rfl _ (.tmp 7) _ rfl rfl rfl (Blk.mk_alloc (vs := List.replicate 32 (.int .u8 0)) rfl rfl) agg_key (by simp) HS.out os ?_))
  intro wD bD uD
  have eD : Ext wC wD := uD.ext ((Ext.refl wC).alloc _) (Nat.le_refl _)
  have AD := hid bD
  have KD := hid (KC.out.ext eD)
  have ED := hid (EC.out.ext eD)
  clear eD KC EC
  clear uD bD hd
  generalize wC.heap.size = g9 at *
  go_wp2_with (first | (refine wpl_loadw rfl 23 (.tmp 3) rfl rfl KD.out agg_key HK.out ?_))
  refine (hrd.out _).mono ?_
  rintro e wE ⟨rfl, eE⟩
  have KE := hid (KD.out.ext eE)
  have AE := hid (AD.out.ext eE)
  have EE := hid (ED.out.ext eE)
  clear eE KD AD ED
  go_wp2_with (first | (refine wpl_storew rfl _ (.tmp 9) _ rfl rfl rfl (Blk.mk_alloc (vs := List.replicate 32 (.int .u8 0)) rfl rfl) agg_key (by simp) HS.out os ?_))
  intro wF bF uF
  have eF : Ext wE wF := uF.ext ((Ext.refl wE).alloc _) (Nat.le_refl _)
  have BF := hid bF
  have KF := hid (KE.out.ext eF)
  have AF := hid (AE.out.ext eF)
  have EF := hid (EE.out.ext eF)
  clear eF KE AE EE
  clear uF bF hrd
  generalize wE.heap.size = g10 at *
  go_wp2_with fail
  obtain ⟨C, hC⟩ : ∃ C : World → Prop, C = Cls w wF [w.heap.size, g9, g10] [] := ⟨_, rfl⟩
  have hC0 : ∀ w', C w' ↔ Cls w wF [w.heap.size, g9, g10] [] w' := fun w' => by rw [hC]
  clear hC
  have HCC := hid hC0
  clear hC0
  have hCx : ∀ w w', C w → Ext w w' → C w' := fun w w' h1 h2 => (HCC.out w').2 (((HCC.out w).1 h1).ext h2)
  have hCA : C wF := (HCC.out _).2 (Cls.no_room EF.out (Kept.three KF.out.lt AF.out.lt BF.out.lt))
  refine wp_region_held_drew (S := C) (by kernel_rfl) (hCx _ _ hCA (Ext.refl _).drew) (fun hS0 => ?_)
  refine held_take 0 (v := _) rfl (by kernel_rfl) (by kernel_rfl) (by kernel_rfl) (fun _ _ _ h => h) (yieldsI_loadw rfl 23 _ rfl rfl (fun w1 h => ((HCC.out w1).1 h).blk AF.out (by simp)) agg_key HS.out) hS0 ?_
  simp only [Act.put, List.setIfInBounds_toArray, List.set_cons_succ, List.set_cons_zero]
  refine held_take 1 (v := _) rfl (by kernel_rfl) (by kernel_rfl) (by kernel_rfl) (fun _ _ _ h => h) (yieldsI_loadw rfl 23 _ rfl rfl (fun w1 h => ((HCC.out w1).1 h).blk BF.out (by simp)) agg_key HS.out) hS0 ?_
  simp only [Act.put, List.setIfInBounds_toArray, List.set_cons_succ, List.set_cons_zero]
  refine held_take 2 (v := _) rfl (by kernel_rfl) (by kernel_rfl) (by kernel_rfl) (fun _ _ _ h => h) (yieldsI_run rfl (fun w1 _ => exec_cmpA rfl rfl rfl guard_keyA HSE.out w1)) hS0 ?_
  simp only [Act.put, List.setIfInBounds_toArray, List.set_cons_succ, List.set_cons_zero]
  refine held_take 3 (v := ?tv1) rfl (by kernel_rfl) (by kernel_rfl) (by kernel_rfl) (fun _ _ _ h => h) (.inl ⟨rfl, ?ty1⟩) hS0 ?tr1
  case ty1 => (intro _ _; go_simp; try with_reducible rfl)
  case tr1 =>
  simp only [Act.put, List.setIfInBounds_toArray, List.set_cons_succ, List.set_cons_zero]
  refine held_take 4 (v := ?tv2) rfl (by kernel_rfl) (by kernel_rfl) (by kernel_rfl) (fun _ _ _ h => h) (.inl ⟨rfl, ?ty2⟩) hS0 ?tr2
  case ty2 => (intro _ _; go_simp; try with_reducible rfl)
  case tr2 =>
  simp only [Act.put, List.setIfInBounds_toArray, List.set_cons_succ, List.set_cons_zero]
  refine held_take 5 (v := ?tv3) rfl (by kernel_rfl) (by kernel_rfl) (by kernel_rfl) (fun _ _ _ h => h) (.inl ⟨rfl, ?ty3⟩) hS0 ?tr3
  case ty3 => (intro _ _; go_simp; try with_reducible rfl)
  case tr3 =>
  simp only [Act.put, List.setIfInBounds_toArray, List.set_cons_succ, List.set_cons_zero]
  refine held_take 6 (v := ?tv4) rfl (by kernel_rfl) (by kernel_rfl) (by kernel_rfl) (fun _ _ _ h => h) (.inl ⟨rfl, ?ty4⟩) hS0 ?tr4
  case ty4 => (intro _ _; go_simp; try with_reducible rfl)
  case tr4 =>
  simp only [Act.put, List.setIfInBounds_toArray, List.set_cons_succ, List.set_cons_zero]
  refine held_take 7 (v := ?tv5) rfl (by kernel_rfl) (by kernel_rfl) (by kernel_rfl) (fun _ _ _ h => h) (.inl ⟨rfl, ?ty5⟩) hS0 ?tr5
  case ty5 => (intro _ _; go_simp; try with_reducible rfl)
  case tr5 =>
  simp only [Act.put, List.setIfInBounds_toArray, List.set_cons_succ, List.set_cons_zero]
  refine held_take 8 (v := ?tv6) rfl (by kernel_rfl) (by kernel_rfl) (by kernel_rfl) (fun _ _ _ h => h) (.inl ⟨rfl, ?ty6⟩) hS0 ?tr6
  case ty6 => (intro _ _; go_simp; try with_reducible rfl)
  case tr6 =>
  simp only [Act.put, List.setIfInBounds_toArray, List.set_cons_succ, List.set_cons_zero]
  refine held_take 9 (v := _) rfl (by kernel_rfl) (by kernel_rfl) (by kernel_rfl) (fun _ _ _ h => h) (yieldsI_loadw rfl 23 _ rfl rfl (fun w1 h => ((HCC.out w1).1 h).blk KF.out (by simp)) agg_key HK.out) hS0 ?_
  simp only [Act.put, List.setIfInBounds_toArray, List.set_cons_succ, List.set_cons_zero]
  refine held_take 11 (v := _) rfl (by kernel_rfl) (by kernel_rfl) (by kernel_rfl) (fun _ _ _ h => h) (yieldsI_loadw rfl 23 _ rfl rfl (fun w1 h => ((HCC.out w1).1 h).blk KF.out (by simp)) agg_key HK.out) hS0 ?_
  simp only [Act.put, List.setIfInBounds_toArray, List.set_cons_succ, List.set_cons_zero]
  generalize wF.drew = wX at *
  refine held_one (i := 10) (by kernel_rfl) rfl ?_
  intro Q' hQ
  go_wp2_with fail
  refine (hno.out _).mono ?_
  rintro e wY ⟨rfl, eq9⟩
  have hS9 := hCx _ _ hS0 eq9
  go_wp2_with fail
  refine hQ _ _ hS9 ?_
  clear hQ Q' hS0 eq9
  have hS0 := hS9
  clear hS9
  try dsimp only
  try simp only [Act.put, List.setIfInBounds_toArray, List.set_cons_succ, List.set_cons_zero]
  refine held_one (i := 12) (by kernel_rfl) rfl ?_
  intro Q' hQ
  go_wp2_with fail
  refine (hrno.out _).mono ?_
  rintro e wZ ⟨rfl, eq9⟩
  have hS9 := hCx _ _ hS0 eq9
  go_wp2_with fail
  refine hQ _ _ hS9 ?_
  clear hQ Q' hS0 eq9
  have hS0 := hS9
  clear hS9
  try dsimp only
  try simp only [Act.put, List.setIfInBounds_toArray, List.set_cons_succ, List.set_cons_zero]
  refine held_take 13 (v := _) rfl (by kernel_rfl) (by kernel_rfl) (by kernel_rfl) (fun _ _ _ h => h) (yieldsI_run rfl (fun w1 _ => exec_cmpA rfl rfl rfl guard_id HNE.out w1)) hS0 ?_
  simp only [Act.put, List.setIfInBounds_toArray, List.set_cons_succ, List.set_cons_zero]
  refine held_take 14 (v := ?tv7) rfl (by kernel_rfl) (by kernel_rfl) (by kernel_rfl) (fun _ _ _ h => h) (.inl ⟨rfl, ?ty7⟩) hS0 ?tr7
  case ty7 => (intro _ _; go_simp; try with_reducible rfl)
  case tr7 =>
  simp only [Act.put, List.setIfInBounds_toArray, List.set_cons_succ, List.set_cons_zero]
  refine held_take 15 (v := ?tv8) rfl (by kernel_rfl) (by kernel_rfl) (by kernel_rfl) (fun _ _ _ h => h) (.inl ⟨rfl, ?ty8⟩) hS0 ?tr8
  case ty8 => (intro _ _; go_simp; try with_reducible rfl)
  case tr8 =>
  simp only [Act.put, List.setIfInBounds_toArray, List.set_cons_succ, List.set_cons_zero]
  refine wpAnyH_done (by kernel_rfl) ?_ _
  have EZ := hid ((HCC.out wZ).1 hS0).base
  clear hS0 hCx HCC
  go_wp2_with fail
  go_ret
  exact ⟨rfl, EZ.out⟩
end
end Go.Proofs.Ytelhnimdfepmdaa
