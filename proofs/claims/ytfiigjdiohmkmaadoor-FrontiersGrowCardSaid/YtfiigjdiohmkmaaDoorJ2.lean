/- Contracts and laws that the claim's row leans on (44 texts, joined): The Summer's take with octets ahead; conditions: the octets' number, and where they lie. The zero value of a Summer, where the loaded program gives no fact of it; no condition. The Summer's take, Write, Copy, NewSummer; conditions: the octets' number, and where they lie. The Summer's end; conditions: its octets' number. The Summer's Sum, and what summed makes; conditions: the octets' number. The reference's long; condition: a number that is not negative. append(s, make([]byte, k)...) onto a row of one's own; conditions: the lengths. The reference's state: what it computes; conditions: the text's length, the domain. The reference's Sum: what it computes; conditions: the text's length, the domain. Take16; conditions: the slice's size. TagOf and SealOf: what they compute; conditions: the key's length, the text's size. The reference's Tag and SealBy: what they compute; conditions: the key's length, the text's size. Blocks of a stream: what streamBlock computes; conditions: the lengths. Stream: what it computes; conditions: the lengths. Stream and Cover: what they compute; conditions: the lengths. The reference's Stream: what it computes; conditions: the lengths. The reference's Cover: what it computes; conditions: the lengths. And: what is covered twice. Arrays of octets are compared; condition: their lengths. The law SummersAreBounded, walked; no condition. The law TagsMatch, walked; conditions: the lengths. The law StreamsMatch, walked; conditions: the lengths. Appends of which the row's block is told; conditions: the lengths. SumOf, short and Framed: what they compute; conditions: the sizes. Moves for regions whose order is drawn: operations that go one by one beside a variable that the region makes at whatever time; no condition. Node and the reference's: what they compute; conditions: the lengths. split and the reference's half: the greatest power of two less than n; bits.Len by the shelf's template; conditions: n's bounds. How many sums a path has; conditions: place and size. The reference's Node: what it computes; conditions: the lengths. Slices whose elements are rows of 32 octets: their cells, steps on them; conditions: the rows' lengths. lead: the root to which a path leads; conditions: place, size, the rows' lengths. sides: on which side each sum of a path stands; conditions: place and size. RootBy: the root to which a proof leads, of any proof; conditions: the rows' lengths. Worlds in which one block has turned; no condition. The reference's RootBy, of any proof; conditions: the rows' lengths. Proved, of any proof; conditions: the rows' lengths. Moves for regions whose order is drawn, where late operations need not keep what the early ones read; no condition. How many sums a proof of growth has; the ends of functions with two or three results; conditions: the sizes. follow: the two roots that follow from a proof of growth; conditions: the sizes, the rows' lengths. The reference's grow: what it computes of any path; conditions: the sizes, the rows' lengths. Grown, of any proof; conditions: the rows' lengths. The reference's Grown, of any proof; conditions: the rows' lengths. The law RawGrowth, walked; conditions: the rows' lengths. Plain law of a list's root; no condition. math/bits.OnesCount of a size; conditions: the number is below 2^64 (its meaning: at most 65536). -/
import Derived.Test.YtfiigjdiohmkmaaDoorJ1
import Derived.Test.YtfiigjdiohmkmaaDoorChecked
import Derived.Laws.MakeOwn
import Derived.Laws.ResultCell
import Derived.Laws.OwnMore
import Derived.Test.YtfiigjdiohmkmaaDoorProg
import Derived.Stop.BytesEq
import Derived.Deep.DeepCutAuto
import Derived.Deep.CutBlock
import Derived.OrdersHeld
import Derived.Deep.RegionHeld3
import Derived.Test.YtfiigjdiohmkmaaDoorB1
import Derived.Lib.ItoaNum
import Derived.IntWalk
import Derived.Laws.Bits64b
import Derived.WalkKit
namespace Go.Proofs.YtfiigjdiohmkmaaDoor
section
open Go Go.RowKit

theorem ret_none {P : Program} {fn : Func} {R : Ending → World → Prop} {a : Act} {w : World} (hr : fn.results = #[]) (hd : a.defers = []) (hR : R (.returned (.tuple #[])) w) : bodyPost P fn R .ret a w :=
  bodyPost_ret (results_none hr _ _ _) hd hR

set_option maxRecDepth 100000 in
set_option maxHeartbeats 1000000 in
/-- too few for a block -/
theorem take_c1 (s0 t b r : List UInt8) (tot : Int) (g m h n c : Nat) (a : Option Addr) (T : TypeId) (w : World) (hs : s0.length = 64) (hr : r.length = 32) (hb : b.length = n) (hm : t.length = 32 * m + h) (hh : 0 < h) (hhn : h + n < 32)
    (hrt : r.take h = t.drop (32 * m))
    (hB : Blk w g (sm (absN s0 t m) r h tot) T) (hnc : n ≤ c) (hc : c ≤ 9223372036854775807) (h0 : a = none → n = 0) (hcl : Cells w a (b.map u8v)) (haw : n = 0 ∨ ∀ x, a = some x → some x.block ≠ some g) :
    Calls Tryd.prog 45 #[.pointer (some ⟨g, 0, none⟩), .slice a n c] w (takePost w g T s0 (t ++ b) tot) := by
  have HS := hid hs
  have HR := hid hr
  have HB := hid hb
  have HM := hid hm
  have H0 := hid h0
  have HA := hid haw
  have HC := hid hcl
  have HBL := hid hB
  have HRT := hid hrt
  clear hs hr hb hm h0 haw hcl hB hrt
  have c1 := HBL.out.cell' (sm_have h tot (absN_length HS.out m) HR.out)
  have hd1 : decide ((0 : Int) < (h : Int)) = true := decide_eq_true (by omega)
  have ne : ¬ 32 = h := by omega
  have i0 : (0 : Int) ≤ (h : Int) := by omega
  have i1 : (h : Int) ≤ 32 := by omega
  have hk : IntKind.i64.wrap ((h : Int) + n) = (h : Int) + n := IntWalk.i64_in _ (by omega)
  have hd2 : decide ((h : Int) + n < 32) = true := decide_eq_true (by omega)
  have hmin : n = Nat.min n (32 - h) := (Nat.min_eq_left (by omega)).symm
  have hlen2 : (b.map u8v).length = n := by rw [List.length_map, HB.out]
  have hfit : 64 + h + n ≤ (sm (absN s0 t m) r h tot).length := by rw [sm_length _ _ (absN_length HS.out _) HR.out]; omega
  have hsp := sm_splice (xs := b) h tot (absN_length (t := t) HS.out m) HR.out h (by rw [HB.out]; omega)
  rw [HB.out] at hsp
  have hrl : (r.take h ++ b ++ r.drop (h + n)).length = 32 := by rw [List.length_append, List.length_append, List.length_take, HB.out, List.length_drop, HR.out]; omega
  have hrt : (r.take h ++ b ++ r.drop (h + n)).take (h + n) = (t ++ b).drop (32 * m) := by
    rw [List.drop_append_of_le_length (by rw [HM.out]; omega), ← HRT.out, List.take_append_of_le_length (by rw [List.length_append, List.length_take, HB.out, HR.out]; omega),
      List.take_of_length_le (by rw [List.length_append, List.length_take, HB.out, HR.out]; omega)]
  generalize r.take h ++ b ++ r.drop (h + n) = r2 at *
  have HMI := hid hmin
  have HL2 := hid hlen2
  have HF := hid hfit
  have HSP := hid hsp
  have HR2 := hid hrl
  have HRT2 := hid hrt
  clear hmin hlen2 hfit hsp hrl hrt
  go_enter Tryd.func45, Tryd.ntmps45
  go_wp2
  refine wp_region_cls (C := fun w' => ∃ n, w' = w.drewN n) 9 (by kernel_rfl) (by kernel_rfl) ⟨1, rfl⟩ ?_
  simp only [List.take_succ_cons, List.take_zero, List.drop_succ_cons, List.drop_zero]
  iterate 9 quiet_step (fail)
  refine wpQuiet_nil ?_
  rintro _ ⟨nq, rfl⟩
  go_wp2_with (refine wpl_copyc rfl _ _ _ _ rfl rfl rfl (HBL.out.drewN (n := nq)) Tryd.underlying44 size_u8 HL2.out HMI.out H0.out (HC.out.ext ((Ext.refl w).drewN nq)) HF.out (one_u8 _) ?_)
  intro w1 b1 u1
  rw [HSP.out] at b1
  have HB1 := hid b1
  have HG1 := hid (grown_upd (grown_drewN (grown_refl w (some g)) nq) u1)
  have f1 := b1.frozen 96
  have c2 := b1.cell' (sm_have h tot (absN_length HS.out m) HR2.out)
  clear b1 u1 c1
  go_wp2_with (refine wpl_slice_low rfl _ _ _ _ rfl (k := n) rfl rfl Tryd.underlying44 size_u8 (Nat.le_refl n) ?_)
  have b2 := HB1.out.set 96 (.int .i64 ((h : Int) + n))
  rw [sm_set_have _ _ _ (absN_length HS.out _) HR2.out] at b2
  have HB2 := hid b2
  have HG2 := hid (grown_set HG1.out 96 (.int .i64 ((h : Int) + n)))
  clear b2
  refine ret_none rfl rfl ⟨rfl, ⟨r2, HR2.out, ?_, ?_⟩, HG2.out⟩
  · have h1 : (t ++ b).length % 32 = h + n := by rw [List.length_append, HM.out, HB.out]; omega
    have h2 : (t ++ b).length / 32 = m := by rw [List.length_append, HM.out, HB.out]; omega
    rw [h1, h2]; exact HRT2.out
  · have h1 : (t ++ b).length % 32 = h + n := by rw [List.length_append, HM.out, HB.out]; omega
    have h2 : (t ++ b).length / 32 = m := by rw [List.length_append, HM.out, HB.out]; omega
    rw [h1, h2, absN_append _ (by rw [HM.out]; omega)]; exact HB2.out

set_option maxRecDepth 100000 in
set_option maxHeartbeats 2000000 in
/-- the block is filled -/
theorem take_c2 (s0 t b1 b2 r : List UInt8) (tot : Int) (g m h n n2 c : Nat) (a : Option Addr) (T : TypeId) (w : World) (hs : s0.length = 64) (hr : r.length = 32) (hb : b2.length = n2) (hb1 : b1.length = 32 - h) (hm : t.length = 32 * m + h) (hh : 0 < h) (hh2 : h < 32)
    (hn : n = 32 - h + n2) (hrt : r.take h = t.drop (32 * m))
    (hB : Blk w g (sm (absN s0 t m) r h tot) T) (hnc : n ≤ c) (hc : c ≤ 9223372036854775807) (h0 : a = none → n = 0) (hcl : Cells w a ((b1 ++ b2).map u8v)) (haw : n = 0 ∨ ∀ x, a = some x → some x.block ≠ some g) :
    Calls Tryd.prog 45 #[.pointer (some ⟨g, 0, none⟩), .slice a n c] w (takePost w g T s0 (t ++ b1 ++ b2) tot) := by
  have HS := hid hs
  have HR := hid hr
  have HBB := hid hb
  have HB1L := hid hb1
  have HM := hid hm
  have H0 := hid h0
  have HA := hid (haw.resolve_left (by omega))
  have HC := hid hcl
  have HBL := hid hB
  have HRT := hid hrt
  have HN := hid hn
  have hmm : (t ++ b1).length = 32 * (m + 1) := by rw [List.length_append, hm, hb1]; omega
  have HMM := hid hmm
  have hbl : (r.take h ++ b1) = (t ++ b1).drop (32 * m) := by rw [List.drop_append_of_le_length (by rw [hm]; omega), hrt]
  have hab : absorb (absN s0 t m) (r.take h ++ b1) = absN s0 (t ++ b1) (m + 1) := by
    have h32 : (r.take h ++ b1).length = 32 := by rw [List.length_append, List.length_take, hb1, hr]; omega
    rw [absN, ← hbl, absN_append _ (by rw [hm]; omega), List.take_of_length_le (l := r.take h ++ b1) (by omega)]
  have HAB := hid hab
  have hcb1 : Cells w a (b1.map u8v) := take_cells (m := b2) hcl rfl
  have HCB := hid hcb1
  have hcb2 : Cells w (shift a c (32 - h)) (b2.map u8v) := by
    have h1 := hcl.shift c (32 - h) n2 (by omega)
    rw [← List.map_drop, ← hb1, List.drop_left, List.take_of_length_le (by rw [List.length_map]; omega)] at h1
    rwa [hb1] at h1
  have HCC := hid hcb2
  clear hs hr hb hm h0 haw hcl hB hrt hmm hbl hab hcb1 hcb2 hb1
  have c1 := HBL.out.cell' (sm_have h tot (absN_length HS.out m) HR.out)
  have hd1 : decide ((0 : Int) < (h : Int)) = true := decide_eq_true (by omega)
  have ne : ¬ 32 = h := by omega
  have i0 : (0 : Int) ≤ (h : Int) := by omega
  have i1 : (h : Int) ≤ 32 := by omega
  obtain ⟨j, hj⟩ : ∃ j, 32 - h = j := ⟨_, rfl⟩
  have hk : IntKind.i64.wrap ((h : Int) + j) = 32 := by
    rw [show (h : Int) + j = 32 by omega]; exact IntWalk.i64_in _ (by omega)
  have hmin : j = Nat.min n j := (Nat.min_eq_right (by omega)).symm
  have hlen2 : (b1.map u8v).length = j := by rw [List.length_map, HB1L.out]; exact hj
  have hfit : 64 + h + j ≤ (sm (absN s0 t m) r h tot).length := by rw [sm_length _ _ (absN_length HS.out _) HR.out]; omega
  have hsp := sm_splice (xs := b1) h tot (absN_length (t := t) HS.out m) HR.out h (by rw [HB1L.out]; omega)
  rw [HB1L.out, show h + (32 - h) = 32 by omega, List.drop_of_length_le (by rw [HR.out]; omega), List.append_nil] at hsp
  have hrl : (r.take h ++ b1).length = 32 := by rw [List.length_append, List.length_take, HB1L.out, HR.out]; omega
  generalize r.take h ++ b1 = r2 at *
  have HMI := hid hmin
  have HL2 := hid hlen2
  have HF := hid hfit
  have HSP := hid hsp
  have HR2 := hid hrl
  clear hmin hlen2 hfit hsp hrl
  have hjn : j ≤ n := by omega
  clear hn
  go_enter Tryd.func45, Tryd.ntmps45
  go_wp2
  refine wp_region_cls (C := fun w' => ∃ n, w' = w.drewN n) 9 (by kernel_rfl) (by kernel_rfl) ⟨1, rfl⟩ ?_
  simp only [List.take_succ_cons, List.take_zero, List.drop_succ_cons, List.drop_zero]
  iterate 9 quiet_step (fail)
  refine wpQuiet_nil ?_
  rintro _ ⟨nq, rfl⟩
  go_wp2_with (refine wpl_copyc rfl _ _ _ _ rfl rfl rfl (HBL.out.drewN (n := nq)) Tryd.underlying44 size_u8 HL2.out HMI.out H0.out (HCB.out.ext ((Ext.refl w).drewN nq)) HF.out (one_u8 _) ?_)
  intro w1 k1 u1
  rw [HSP.out] at k1
  have HB1 := hid k1
  have HG1 := hid (grown_upd (grown_drewN (grown_refl w (some g)) nq) u1)
  have f1 := k1.frozen 96
  have c2 := k1.cell' (sm_have h tot (absN_length HS.out m) HR2.out)
  clear k1 u1 c1
  go_wp2_with (refine wpl_slice_low rfl _ _ _ _ rfl (k := j) rfl rfl Tryd.underlying44 size_u8 hjn ?_)
  have k2 := HB1.out.set 96 (.int .i64 32)
  rw [sm_set_have _ _ _ (absN_length HS.out _) HR2.out] at k2
  have HB2 := hid k2
  have HG2 := hid (grown_set HG1.out 96 (.int .i64 32))
  generalize World.setCell w1 _ _ = w2 at *
  have hsrc : ∀ i, i < 32 → w2.cell? ⟨g, 64 + i, none⟩ = some (.int .u8 ((r2[i]?.getD 0).toNat : Int)) := fun i hi => k2.cell' (sm_rest 32 tot (absN_length HS.out m) HR2.out hi)
  have HSR := hid hsrc
  clear k2 f1 c2 hsrc
  refine (block_c _ r2 _ g g 64 T w2 (absN_length HS.out m) HB2.out HSR.out (.inr (Nat.le_refl _))).mono ?_
  rintro e w3 ⟨rfl, k3, g3⟩
  rw [HAB.out] at k3
  have k3' : Blk w3 g (sm (absN s0 (t ++ b1) (m + 1)) r2 32 tot) T := k3
  have HB3 := hid k3'
  have HG3 := hid (grown_trans HG2.out g3)
  have f3 := k3.frozen 96
  have c3 := k3'.cell' (sm_have 32 tot (absN_length HS.out (m + 1)) HR2.out)
  clear k3 k3' g3
  go_wp2
  have k4 := HB3.out.set 96 (.int .i64 0)
  rw [sm_set_have _ _ _ (absN_length HS.out _) HR2.out] at k4
  have HB4 := hid k4
  have HG4 := hid (grown_set HG3.out 96 (.int .i64 0))
  generalize World.setCell w3 _ _ = w4 at *
  have HC4 := hid (HCC.out.grown HG4.out (shift_away HA.out))
  have HA4 : Hid (n2 = 0 ∨ ∀ x, shift a c (32 - h) = some x → some x.block ≠ some g) := hid (.inr (shift_away (c := c) (k := 32 - h) HA.out))
  rw [hj] at HC4 HA4
  have hn2 : n - j = n2 := by have := HN.out; omega
  have H04 : Hid (shift a c j = none → n2 = 0) := hid fun e => by have := H0.out (shift_nil.1 e); omega
  rw [hn2]
  clear k4 f3 c3 HB3 HB2 HG3 HG2 HSR HB1 HG1
  generalize shift a c j = a4 at *
  obtain ⟨tt, htt⟩ : ∃ tt, t ++ b1 = tt := ⟨_, rfl⟩
  obtain ⟨m1, hm1⟩ : ∃ m1, m + 1 = m1 := ⟨_, rfl⟩
  obtain ⟨cc, hcc1⟩ : ∃ cc, c - j = cc := ⟨_, rfl⟩
  rw [htt, hm1] at HB4 HMM
  rw [htt, hcc1]
  have hncc : n2 ≤ cc := by omega
  go_loopw [1] (fun x wr => ∃ (k n' c' : Nat) (a' : Option Addr), x = .slice a' n' c' ∧ n' + 32 * k = n2 ∧ n' ≤ c' ∧ c' ≤ cc ∧ Hid (a' = none → n' = 0) ∧ Hid (n' = 0 ∨ ∀ x, a' = some x → some x.block ≠ some g) ∧
      Hid (Cells wr a' ((b2.drop (32 * k)).map u8v)) ∧ Hid (Blk wr g (sm (absN s0 (tt ++ b2) (m1 + k)) r2 0 tot) T) ∧ Hid (w.grownBy wr (some g)))
    (fun x _ => sliceLen x)
  case atStart => exact ⟨0, n2, cc, a4, rfl, by omega, hncc, by omega, H04, HA4, hid (by rw [Nat.mul_zero, List.drop_zero]; exact HC4.out), hid (by rw [Nat.add_zero, absN_append _ (by rw [HMM.out]; omega)]; exact HB4.out), HG4⟩
  case round =>
    obtain ⟨k, n', c', a', rfl, hk, hnc', hcc', h0', ha', hc', hb', hg'⟩ := hrel
    by_cases hlt : 32 ≤ n'
    · have hd : decide ((32 : Int) ≤ (n' : Int)) = true := decide_eq_true (by omega)
      have hlen : (b2.drop (32 * k)).length = n' := by rw [List.length_drop, HBB.out]; omega
      have hne : a' ≠ none := fun e => by have := h0'.out e; omega
      obtain ⟨gb, off, rfl, hcell⟩ := hc'.out.some_of (by rw [List.length_map, hlen]; omega)
      have haw2 := ha'.out.resolve_left (by omega)
      have hgb : gb ≠ g := fun e => haw2 _ rfl (by rw [e])
      have HA2 := hid haw2
      clear haw2
      have har := run_arrayAt (P := Tryd.prog) Tryd.underlying30 (len := n') hlt
      have hsrc : ∀ i, i < 32 → wr.cell? ⟨gb, off + i, none⟩ = some (.int .u8 ((((b2.drop (32 * k)).take 32)[i]?.getD 0).toNat : Int)) := by
        intro i hi
        refine hcell i _ ?_
        rw [List.getElem?_take_of_lt hi]
        exact u8_at (by omega)
      have HSR := hid hsrc
      clear hsrc hcell hne
      have HL := hid hlen
      clear hlen
      go_wp2_with fail
      refine (block_c _ ((b2.drop (32 * k)).take 32) _ g gb off T wr (absN_length HS.out _) hb'.out HSR.out (.inl hgb)).mono ?_
      rintro e w1 ⟨rfl, b1, g1⟩
      have hst : absorb (absN s0 (tt ++ b2) (m1 + k)) ((b2.drop (32 * k)).take 32) = absN s0 (tt ++ b2) (m1 + (k + 1)) := by
        rw [← Nat.add_assoc, absN, drop_behind HMM.out]
      rw [hst] at b1
      have HB1 := hid b1
      clear b1 hst
      have HG1 := hid (grown_trans hg'.out g1)
      have hc1 := hid (hc'.out.grown g1 HA2.out)
      clear g1
      go_wp2_with (refine wpl_slice_low rfl _ _ _ _ rfl (k := 32) rfl rfl Tryd.underlying44 size_u8 hlt ?_)
      go_roundw
      case rel =>
        refine ⟨k + 1, n' - 32, c' - 32, _, rfl, by omega, by omega, by omega, hid fun e => ?_, hid (.inr (shift_away HA2.out)), hid ?_, HB1, HG1⟩
        · have := h0'.out (shift_nil.1 e); omega
        · have h1 := hc1.out.shift c' 32 (n' - 32) (by omega)
          rw [← List.map_drop, List.drop_drop, List.take_of_length_le (by rw [List.length_map, List.length_drop, HBB.out]; omega)] at h1
          rwa [show 32 * k + 32 = 32 * (k + 1) by omega] at h1
      case measure => simp [sliceLen]; omega
    · have hd : decide ((32 : Int) ≤ (n' : Int)) = false := decide_eq_false (by omega)
      have hlen : (b2.drop (32 * k)).length = n' := by rw [List.length_drop, HBB.out]; omega
      have hlen2 : ((b2.drop (32 * k)).map u8v).length = n' := by rw [List.length_map, hlen]
      have hmin : n' = Nat.min n' 32 := (Nat.min_eq_left (by omega)).symm
      have HMI3 := hid hmin
      clear hmin
      have hfit : 64 + n' ≤ (sm (absN s0 (tt ++ b2) (m1 + k)) r2 0 tot).length := by rw [sm_length _ _ (absN_length HS.out _) HR2.out]; omega
      have HF3 := hid hfit
      clear hfit
      have hsp := sm_splice (xs := b2.drop (32 * k)) 0 tot (absN_length (t := tt ++ b2) HS.out (m1 + k)) HR2.out 0 (by rw [hlen]; omega)
      rw [List.take_zero, List.nil_append, Nat.add_zero, Nat.zero_add, hlen] at hsp
      have hrl : (b2.drop (32 * k) ++ r2.drop n').length = 32 := by rw [List.length_append, hlen, List.length_drop, HR2.out]; omega
      have hrt : (b2.drop (32 * k) ++ r2.drop n').take n' = b2.drop (32 * k) := by rw [← hlen, List.take_left]
      have hdb := drop_behind (b := b2) (k := k) HMM.out
      generalize b2.drop (32 * k) = bb at *
      have HDB := hid hdb
      have HL := hid hlen
      clear hlen hdb
      have HL3 := hid hlen2
      clear hlen2
      generalize hr3 : bb ++ r2.drop n' = r3 at *
      have HRT3 := hid hrt
      have HR3 := hid hrl
      have HSP3 := hid hsp
      clear hrt hrl hsp hr3
      go_wp2_with (refine wpl_copyc rfl _ _ _ _ rfl rfl rfl hb'.out Tryd.underlying44 size_u8 HL3.out HMI3.out h0'.out hc'.out HF3.out (one_u8 _) ?_)
      intro w1 b1 u1
      rw [HSP3.out] at b1
      have f1 := b1.frozen 96
      have c1 := b1.cell' (sm_have 0 tot (absN_length HS.out (m1 + k)) HR3.out)
      go_wp2
      have b5 := b1.set 96 (.int .i64 (n' : Int))
      rw [sm_set_have _ _ _ (absN_length HS.out _) HR3.out] at b5
      have HB5 := hid b5
      have HG5 := hid (grown_set (grown_upd hg'.out u1) 96 (.int .i64 (n' : Int)))
      clear b5
      refine end_none rfl rfl ⟨rfl, ⟨r3, HR3.out, ?_, ?_⟩, HG5.out⟩
      · have h1 : (tt ++ b2).length % 32 = n' := by rw [List.length_append, HMM.out, HBB.out]; omega
        have h2 : (tt ++ b2).length / 32 = m1 + k := by rw [List.length_append, HMM.out, HBB.out]; omega
        rw [h1, h2, HDB.out]; exact HRT3.out
      · have h1 : (tt ++ b2).length % 32 = n' := by rw [List.length_append, HMM.out, HBB.out]; omega
        have h2 : (tt ++ b2).length / 32 = m1 + k := by rw [List.length_append, HMM.out, HBB.out]; omega
        rw [h1, h2]; exact HB5.out
end

section
open Go Go.RowKit

def Tryd.zeroCells77 : Array Value := (List.replicate 96 (Value.int .u8 0) ++ [Value.int .i64 0, Value.int .i64 0]).toArray
@[go_sem] theorem Tryd.zeroValue77 (w : World) : (zeroValue 77).run Tryd.prog w = .ok (.agg Tryd.zeroCells77) w := by kernel_rfl
theorem Tryd.zeroCells77_size : Tryd.zeroCells77.size = 98 := by kernel_rfl
@[go_sem] theorem Tryd.zeroCells77_ne : Tryd.zeroCells77 ≠ #[] := by
  intro h
  have := congrArg Array.size h
  rw [Tryd.zeroCells77_size] at this
  simp at this
end

section
open Go Go.RowKit

theorem run_mk8 (w : World) (n : Nat) (hn : n ≤ 140737488355328) : (Instr.makeSlice 44 (.int .i64 (n : Int)) (.int .i64 (n : Int))).run Tryd.prog w =
    .ok (.slice (some ⟨w.heap.size, 0, none⟩) n n) (w.alloc (.cells ((List.replicate n (0 : UInt8)).map u8v).toArray 5)) := by
  obtain ⟨i0, hi, hz, hs, hb⟩ := info_parts info_u8
  have h := run_make (P := Tryd.prog) w 44 5 i0 (.int .u8 0) Tryd.underlying44 hi hz .i64 .i64 n n (by omega) (by omega) (by rw [hb]; omega) (by omega)
  rw [h, hs]
  have : madeCells (Value.int .u8 0).cells ((n : Int).toNat * 1) = ((List.replicate n (0 : UInt8)).map u8v).toArray := by
    have e : (Value.int .u8 0).cells = #[.int .u8 0] := rfl
    apply Array.ext
    · simp [size_madeCells]
    · intro i h1 h2
      simp [madeCells, e, u8v, Nat.mod_one]
  rw [this]
  simp

theorem wpl_mk8 {ops : Array Oper} {rest : List Oper} {o : Oper} {a : Act} {w : World} {Q : Exit → Act → World → Prop} (hgd : o.guard = none) (x y : Operand) (ho : o.op = .makeSlice 44 x y) {n : Nat}
    (hx : a.eval x = .int .i64 (n : Int)) (hy : a.eval y = .int .i64 (n : Int)) (hn : n ≤ 140737488355328)
    (h : wpList Tryd.prog ops Q rest (a.put o.dst (.slice (some ⟨w.heap.size, 0, none⟩) n n)) (w.alloc (.cells ((List.replicate n (0 : UInt8)).map u8v).toArray 5))) : wpList Tryd.prog ops Q (o :: rest) a w :=
  wpList_plain hgd fun K hK => by
    unfold Oper.wp execOp
    simp only [ho, hx, hy, Result.andThen_ok, Sem.run_bind, Sem.run_pure, run_mk8 w n hn]
    exact hK _ _ h

theorem take_c (s0 t b : List UInt8) (tot : Int) (g n c : Nat) (a : Option Addr) (T : TypeId) (w : World) (hs : s0.length = 64) (hb : b.length = n)
    (hH : Holds w g T s0 t tot) (hn : n ≤ 140737488355328) (hnc : n ≤ c) (hc : c ≤ 9223372036854775807) (h0 : a = none → n = 0) (hcl : Cells w a (b.map u8v)) (haw : n = 0 ∨ ∀ x, a = some x → some x.block ≠ some g) :
    Calls Tryd.prog 45 #[.pointer (some ⟨g, 0, none⟩), .slice a n c] w (takePost w g T s0 (t ++ b) tot) := by
  obtain ⟨r, hr, hrt, hB⟩ := hH
  have hm : t.length = 32 * (t.length / 32) + t.length % 32 := by omega
  generalize hmm : t.length / 32 = m at *
  generalize hhh : t.length % 32 = h at *
  have hlt : h < 32 := by omega
  by_cases h1 : h = 0
  · subst h1
    exact take_c0 s0 t b r tot g m n c a T w hs hr hb (by omega) hB hn hnc hc h0 hcl haw
  · by_cases h2 : h + n < 32
    · exact take_c1 s0 t b r tot g m h n c a T w hs hr hb hm (by omega) h2 hrt hB hnc hc h0 hcl haw
    · have hsplit : b.take (32 - h) ++ b.drop (32 - h) = b := List.take_append_drop _ _
      have := take_c2 s0 t (b.take (32 - h)) (b.drop (32 - h)) r tot g m h n (n - (32 - h)) c a T w hs hr (by rw [List.length_drop, hb]) (by rw [List.length_take, hb]; omega) hm (by omega) hlt (by omega) hrt hB hnc hc h0 (by rw [hsplit]; exact hcl) haw
      rwa [List.append_assoc, hsplit] at this

theorem cells_grown0 {w w' : World} {a : Option Addr} {xs : List Value} {r : Option Nat} {n : Nat} (h : Cells w a xs) (hl : xs.length = n) (k : w.grownBy w' r) (hn : n = 0 ∨ ∀ x, a = some x → some x.block ≠ r) : Cells w' a xs := by
  rcases hn with rfl | hn
  · exact .inl (List.length_eq_zero_iff.1 hl)
  · exact h.grown k hn
theorem away_of {w0 : World} {a : Option Addr} {xs : List Value} {n g : Nat} (h : Cells w0 a xs) (hl : xs.length = n) (hg : w0.heap.size ≤ g) : n = 0 ∨ ∀ x, a = some x → some x.block ≠ some g := by
  by_cases h0 : n = 0
  · exact .inl h0
  · refine .inr ?_
    intro x hx
    obtain ⟨b, off, rfl, hc⟩ := h.some_of (by omega)
    cases hx
    have h1 : b < w0.heap.size := block_lt_of_cell (hc 0 _ (List.getElem?_eq_getElem (by omega)))
    intro e
    have h2 : b = g := by injection e
    omega

abbrev SmT : TypeId := 77
theorem agg_sm : AggT Tryd.prog 77 98 := ⟨⟨_, Tryd.underlying77, rfl⟩, by kernel_rfl⟩

theorem Holds.blk {w : World} {g : Nat} {T : TypeId} {s0 t : List UInt8} {tot : Int} (h : Holds w g T s0 t tot) : ∃ vs, vs.length = vs.length ∧ Blk w g vs T := by
  obtain ⟨r, _, _, hb⟩ := h; exact ⟨_, rfl, hb⟩
theorem Holds.lt {w : World} {g : Nat} {T : TypeId} {s0 t : List UInt8} {tot : Int} (h : Holds w g T s0 t tot) : g < w.heap.size := by
  obtain ⟨r, _, _, hb⟩ := h; exact hb.lt
theorem Holds.ext {w w' : World} {g : Nat} {T : TypeId} {s0 t : List UInt8} {tot : Int} (h : Holds w g T s0 t tot) (k : Ext w w') : Holds w' g T s0 t tot := by
  obtain ⟨r, h1, h2, hb⟩ := h; exact ⟨r, h1, h2, hb.ext k⟩
theorem Holds.grown {w w' : World} {g : Nat} {T : TypeId} {s0 t : List UInt8} {tot : Int} {r : Option Nat} (h : Holds w g T s0 t tot) (k : w.grownBy w' r) (hn : some g ≠ r) : Holds w' g T s0 t tot := by
  obtain ⟨r, h1, h2, hb⟩ := h; exact ⟨r, h1, h2, hb.grown k hn⟩

def writePost (w : World) (g : Nat) (T : TypeId) (s0 t b : List UInt8) (tot : Int) (e : Ending) (w' : World) : Prop :=
  if (b.length : Int) ≤ 1048576 - tot then e = .returned (.int .i64 0) ∧ Holds w' g T s0 (t ++ b) (tot + b.length) ∧ w.grownBy w' (some g)
  else e = .returned (.int .i64 5) ∧ w = w'

set_option maxRecDepth 100000 in
set_option maxHeartbeats 1000000 in
theorem write_c (s0 t b : List UInt8) (tot : Int) (g n c : Nat) (a : Option Addr) (T : TypeId) (w : World) (hs : s0.length = 64) (hb : b.length = n) (ht0 : 0 ≤ tot) (ht1 : tot ≤ 1048576)
    (hH : Holds w g T s0 t tot) (hn : n ≤ 9223372036854775807) (hnc : n ≤ c) (hc : c ≤ 9223372036854775807) (h0 : a = none → n = 0) (hcl : Cells w a (b.map u8v)) (haw : n = 0 ∨ ∀ x, a = some x → some x.block ≠ some g) :
    Calls Tryd.prog 41 #[.pointer (some ⟨g, 0, none⟩), .slice a n c] w (writePost w g T s0 t b tot) := by
  obtain ⟨r, hr, hrt, hB⟩ := hH
  unfold writePost
  rw [hb]
  have HB := hid hb
  have HR := hid hr
  have HRT := hid hrt
  have H0 := hid h0
  have HA := hid haw
  have HC := hid hcl
  have HBL := hid hB
  have HS := hid hs
  have c1 := hB.cell' (sm_total (t.length % 32 : Nat) tot (absN_length hs _) hr)
  have f1 := hB.frozen 97
  have k1 : IntKind.i64.wrap (1048576 - tot) = 1048576 - tot := IntWalk.i64_in _ (by omega)
  clear hb hr hrt h0 haw hcl hB hs
  by_cases hle : (n : Int) ≤ 1048576 - tot
  · simp only [if_pos hle]
    have k2 : IntKind.i64.wrap (tot + n) = tot + n := IntWalk.i64_in _ (by omega)
    have hd : decide ((1048576 - tot) < (n : Int)) = false := decide_eq_false (by omega)
    go_enter Tryd.func41, Tryd.ntmps41
    go_wp2_with fail
    have b2 := HBL.out.set 97 (.int .i64 (tot + n))
    rw [sm_set_total _ _ _ (absN_length HS.out _) HR.out] at b2
    have hH2 : Holds (w.setCell ⟨g, 97, none⟩ (.int .i64 (tot + n))) g T s0 t (tot + n) := ⟨r, HR.out, HRT.out, b2⟩
    have g2 := grown_set (grown_refl w (some g)) 97 (.int .i64 (tot + n))
    generalize World.setCell w _ _ = w2 at *
    refine (take_c s0 t b (tot + n) g n c a T w2 HS.out HB.out hH2 (by omega) hnc hc H0.out (cells_grown0 HC.out (by rw [List.length_map]; exact HB.out) g2 HA.out) HA.out).mono ?_
    rintro e w3 ⟨rfl, h3, g3⟩
    go_wp2
    go_ret
    exact ⟨rfl, h3, grown_trans g2 g3⟩
  · simp only [if_neg hle]
    have hd : decide ((1048576 - tot) < (n : Int)) = true := decide_eq_true (by omega)
    go_enter Tryd.func41, Tryd.ntmps41
    go_wp2
    go_ret
    exact ⟨rfl, rfl⟩

set_option maxRecDepth 100000 in
set_option maxHeartbeats 1000000 in
theorem copy_c (s0 t : List UInt8) (tot : Int) (g : Nat) (T : TypeId) (w : World) (hs : s0.length = 64) (hH : Holds w g T s0 t tot) :
    Calls Tryd.prog 46 #[.pointer (some ⟨g, 0, none⟩)] w fun e w' => e = .returned (.pointer (some ⟨w.heap.size, 0, none⟩)) ∧ Holds w' w.heap.size SmT s0 t tot ∧ Ext w w' := by
  obtain ⟨r, hr, hrt, hB⟩ := hH
  have hl := sm_length (t.length % 32 : Nat) tot (absN_length (t := t) hs (t.length / 32)) hr
  have h1 : ∀ v ∈ sm (absN s0 t (t.length / 32)) r (t.length % 32 : Nat) tot, v.oneCell' = true := by
    intro v hv
    unfold sm at hv
    simp only [List.mem_append, List.mem_cons, List.not_mem_nil, or_false] at hv
    rcases hv with hv | hv | hv | hv
    · exact one_u8 _ v hv
    · exact one_u8 _ v hv
    · rw [hv]; rfl
    · rw [hv]; rfl
  have HB := hid hB
  have HL := hid hl
  have HR := hid hr
  have HRT := hid hrt
  clear hB hl hr hrt
  go_enter Tryd.func46, Tryd.ntmps46
  go_wp2_with (first | (refine wpl_loadw rfl _ _ rfl rfl HB.out agg_sm HL.out ?_) | (refine wpl_storew rfl _ _ _ rfl rfl rfl (Blk.mk_alloc rfl rfl) agg_sm rfl HL.out h1 ?_))
  intro w2 b2 u2
  have e2 := u2.ext ((Ext.refl w).alloc _) (Nat.le_refl _)
  go_wp2
  go_ret
  exact ⟨rfl, ⟨r, HR.out, HRT.out, b2⟩, e2⟩

def initS (d : Int) : List UInt8 := (List.replicate 64 0).set 63 (UInt8.ofNat d.toNat)
theorem initS_length (d : Int) : (initS d).length = 64 := by simp [initS]

theorem zero_sm : Tryd.zeroCells77 = (sm (List.replicate 64 0) (List.replicate 32 0) 0 0).toArray := by kernel_rfl

def newPost (d : Int) (w : World) (e : Ending) (w' : World) : Prop :=
  if d < 0 ∨ 255 < d then e = .returned (.tuple #[.pointer none, .int .i64 3]) ∧ w = w'
  else e = .returned (.tuple #[.pointer (some ⟨w.heap.size, 0, none⟩), .int .i64 0]) ∧ Holds w' w.heap.size SmT (initS d) [] 0 ∧ Ext w w'

set_option maxRecDepth 100000 in
set_option maxHeartbeats 1000000 in
theorem newSummer_c (d : Int) (w : World) :
    Calls Tryd.prog 40 #[.int .i64 d] w (newPost d w) := by
  unfold newPost
  by_cases hd : d < 0 ∨ 255 < d
  · simp only [if_pos hd]
    by_cases h1 : d < 0
    · clear hd
      go_enter Tryd.func40, Tryd.ntmps40
      go_wp2
      go_ret2
      exact ⟨rfl, rfl⟩
    · have h2 : 255 < d := by omega
      clear hd
      go_enter Tryd.func40, Tryd.ntmps40
      go_wp2
      go_ret2
      exact ⟨rfl, rfl⟩
  · simp only [if_neg hd]
    have h1 : ¬ d < 0 := by omega
    have h2 : ¬ 255 < d := by omega
    have h3 : IntKind.u8.wrap d = d := IntWalk.u8_in _ (by omega)
    clear hd
    go_enter Tryd.func40, Tryd.ntmps40
    go_wp2
    go_ret2
    have hz : Tryd.zeroCells77.setIfInBounds 63 (.int .u8 d) = (sm (initS d) (List.replicate 32 0) 0 0).toArray := by
      rw [zero_sm, List.setIfInBounds_toArray]
      congr 1
      unfold sm initS
      rw [List.set_append_left _ _ (by simp), List.map_set]
      have : u8v (UInt8.ofNat d.toNat) = .int .u8 d := by
        unfold u8v
        rw [UInt8.toNat_ofNat']
        congr 1
        omega
      rw [this]
    exact ⟨rfl, ⟨List.replicate 32 0, rfl, rfl, Blk.mk_alloc rfl hz.symm⟩, (Ext.refl w).alloc _⟩
end

section
open Go Go.RowKit

/-- the octets behind a text, up to whole blocks -/
def padT (t : List UInt8) : List UInt8 := t ++ 128 :: List.replicate (31 - t.length % 32) 0
theorem padT_length (t : List UInt8) : (padT t).length % 32 = 0 := by
  unfold padT
  rw [List.length_append, List.length_cons, List.length_replicate]
  omega
/-- the state at the end -/
def finL (s t : List UInt8) (n : Nat) : List UInt8 := absorb (absN s (padT t) ((padT t).length / 32)) (List.replicate 24 0 ++ longL (UInt64.ofNat n))
theorem finL_length (s t : List UInt8) (n : Nat) : (finL s t n).length = 64 := absorb_length _ _
theorem agg_sum : AggT Tryd.prog 30 32 := ⟨⟨_, Tryd.underlying30, rfl⟩, by kernel_rfl⟩
theorem grown_none {w w' : World} (h : Ext w w') (r : Option Nat) : w.grownBy w' r := ⟨h.os, h.tape, h.output, h.size, fun i hi _ => h.block i hi⟩

theorem wpl_loadp {P : Program} {ops : Array Oper} {rest : List Oper} {o : Oper} {a : Act} {w : World} {Q : Exit → Act → World → Prop} (hgd : o.guard = none) (ty : TypeId) (x : Operand) (ho : o.op = .load ty x) {g off n : Nat} {vs xs : List Value} {T : TypeId}
    (hx : a.eval x = .pointer (some ⟨g, off, none⟩)) (hb : Blk w g vs T) (ht : AggT P ty n) (hn : off + n ≤ vs.length) (hxs : (vs.drop off).take n = xs)
    (h : wpList P ops Q rest (a.put o.dst (.agg xs.toArray)) w) : wpList P ops Q (o :: rest) a w :=
  wpl_load hgd ty x ho hx hb ht hn (by rw [hxs]; exact h)

set_option maxRecDepth 100000 in
set_option maxHeartbeats 2000000 in
theorem end_c (s0 t : List UInt8) (N : Nat) (g : Nat) (T : TypeId) (w : World) (hs : s0.length = 64) (hN : N ≤ 4611686018427387904) (hH : Holds w g T s0 t N) :
    Calls Tryd.prog 42 #[.pointer (some ⟨g, 0, none⟩)] w fun e w' => e = .returned (.agg ((finL s0 t N).map u8v).toArray) ∧ Ext w w' := by
  have HS := hid hs
  have HH := hid hH
  have hu : IntKind.u64.wrap (N : Int) = (N : Int) := IntWalk.u64_in _ (by omega)
  have hun : ((UInt64.ofNat N).toNat : Int) = N := by rw [UInt64.toNat_ofNat']; omega
  have hlong := fun w => longOctets_c (UInt64.ofNat N) w
  rw [hun] at hlong
  have HFL : Hid (((finL s0 t N).map u8v).length = 64) := hid (by rw [List.length_map, finL_length])
  have HFD : Hid (finL s0 t N = absorb (absN s0 (padT t) ((padT t).length / 32)) (List.replicate 24 0 ++ longL (UInt64.ofNat N))) := hid rfl
  have hgl := hH.lt
  generalize finL s0 t N = fin at *
  generalize UInt64.ofNat N = u at *
  clear hs hH hun
  go_enter Tryd.func42, Tryd.ntmps42
  go_wp2_with fail
  generalize hwA : World.alloc w _ = wA
  have zA : Blk wA w.heap.size (List.replicate 64 (.int .u8 0)) 64 := by rw [← hwA]; exact Blk.mk_alloc rfl rfl
  have eA : Ext w wA := by rw [← hwA]; exact (Ext.refl w).alloc _
  have sA : wA.heap.size = w.heap.size + 1 := by rw [← hwA]; exact Array.size_push _
  clear hwA
  refine (copy_c s0 t N g T _ HS.out (HH.out.ext eA)).mono ?_
  rintro e w1 ⟨rfl, h1, e1⟩
  have HZ1 := hid (zA.ext e1)
  have HE1 := hid (eA.ext e1)
  have HH1 := hid h1
  rw [sA] at HH1
  rw [sA]
  have lt1 : w.heap.size + 1 < w1.heap.size := HH1.out.lt
  clear zA eA sA h1 e1
  go_wp2_with fail
  generalize hwB : World.alloc w1 _ = wB
  have zB : Blk wB w1.heap.size (([128] : List UInt8).map u8v) 5 := by rw [← hwB]; exact Blk.mk_alloc rfl rfl
  have eB : Ext w1 wB := by rw [← hwB]; exact (Ext.refl w1).alloc _
  clear hwB
  refine (take_c s0 t [128] N (w.heap.size + 1) 1 1 (some ⟨w1.heap.size, 0, none⟩) SmT wB HS.out rfl (HH1.out.ext eB) (by omega) (Nat.le_refl _) (by omega) (by intro h; cases h) (Cells.of_blk0 zB) (.inr (by intro x hx; cases hx; intro h; injection h with h; simp only at h; omega))).mono ?_
  rintro e w2 ⟨rfl, h2, g2⟩
  have gB := grown_none eB (some (w.heap.size + 1))
  have HZ2 := hid ((HZ1.out.grown gB (by intro h; injection h with h; omega)).grown g2 (by intro h; injection h with h; omega))
  have HE2 := hid ((HE1.out.ext eB).grown g2 (by intro k hk; cases hk; omega))
  have lt2 : w.heap.size + 1 < w2.heap.size := h2.lt
  have HH2 := hid h2
  clear h2 g2 zB eB gB HZ1 HH1 HE1 lt1
  obtain ⟨r, hr, hrt, hB⟩ := HH2.out
  have c1 := hB.cell' (sm_have _ N (absN_length HS.out _) hr)
  have hlq : (t ++ [128]).length % 32 = (t.length + 1) % 32 := by rw [List.length_append]; rfl
  rw [hlq] at c1
  have hpt : padT t = (t ++ [128]) ++ List.replicate (31 - t.length % 32) 0 := by unfold padT; rw [List.append_assoc]; rfl
  have hpl := padT_length t
  generalize hq : (t.length + 1) % 32 = q at *
  have hq0 : q = 0 ∨ (0 < q ∧ 32 - q = 31 - t.length % 32) := by omega
  have hq32 : q < 32 := by omega
  clear hr hrt hB r hlq
  rcases hq0 with rfl | ⟨hq1, hq2⟩
  · have : 31 - t.length % 32 = 0 := by omega
    rw [this, List.replicate_zero, List.append_nil] at hpt
    rw [← hpt] at HH2
    clear hpt this hq
    obtain ⟨r, hr, -, hB⟩ := HH2.out
    have HR := hid hr
    have HB2 := hid hB
    clear hr hB
    have c2 := fun o => ((HH.out.ext HE2.out).ext ((Ext.refl w2).alloc o)).elim fun rr hh => hh.2.2.cell' (sm_total _ N (absN_length HS.out _) hh.1)
    go_wp2_with fail
    generalize hwD : World.alloc w2 _ = wD
    have zD : Blk wD w2.heap.size (List.replicate 32 (.int .u8 0)) 30 := by rw [← hwD]; exact Blk.mk_alloc rfl rfl
    have eD : Ext w2 wD := by rw [← hwD]; exact (Ext.refl w2).alloc _
    have sD : wD.heap.size = w2.heap.size + 1 := by rw [← hwD]; exact Array.size_push _
    clear hwD c2
    refine (hlong _).mono ?_
    rintro e wE ⟨rfl, eE⟩
    have lE : wD.heap.size ≤ wE.heap.size := eE.size
    go_wp2_with (refine wpl_storew rfl _ _ _ rfl rfl rfl (Blk.mk_alloc rfl rfl) agg_eight rfl rfl (one_u8 _) ?_)
    intro wF bF uF
    have eF : Ext wD wF := uF.ext (eE.alloc _) eE.size
    have HZF := hid (zD.ext eF)
    have HBF := hid bF
    have HEF := hid (eD.ext eF)
    clear bF uF eE zD
    generalize wE.heap.size = gE at *
    go_wp2
    refine wp_region_cls (C := fun w' => ∃ n, w' = wF.drewN n) 2 (by kernel_rfl) (by kernel_rfl) ⟨1, rfl⟩ ?_
    simp only [List.take_succ_cons, List.take_zero, List.drop_succ_cons, List.drop_zero]
    iterate 2 quiet_step (fail)
    refine wpQuiet_nil ?_
    rintro _ ⟨nq, rfl⟩
    have HLL : Hid (((longL u).map u8v).length = 8) := hid (by rw [List.length_map, longL_length])
    have hsp : splice (List.replicate 32 (.int .u8 0)) 24 ((longL u).map u8v) = (List.replicate 24 0 ++ longL u).map u8v := rfl
    have HSP := hid hsp
    have h32 : (List.replicate 24 0 ++ longL u).length = 32 := rfl
    clear hsp
    generalize hLv : (longL u).map u8v = lv at *
    have hlv1 : ∀ v ∈ lv, v.oneCell' = true := by rw [← hLv]; exact one_u8 _
    clear hLv
    have HBV := hid (Cells.of_blk0 (HBF.out.drewN (n := nq)))
    go_wp2_with (refine wpl_copyc rfl _ _ _ _ rfl rfl rfl (HZF.out.drewN (n := nq)) Tryd.underlying44 size_u8 HLL.out rfl (fun e => by cases e) HBV.out (by simp) hlv1 ?_)
    intro wG bG uG
    change Blk wG _ (splice (List.replicate 32 (.int .u8 0)) 24 lv) _ at bG
    rw [HSP.out] at bG
    generalize hlast : List.replicate 24 0 ++ longL u = last at *
    clear hlast
    have gne : w.heap.size + 1 ≠ w2.heap.size := by omega
    have HBG := hid (((HB2.out.ext HEF.out).drewN (n := nq)).upd uG gne)
    have HSR : Hid (∀ i, i < 32 → wG.cell? ⟨w2.heap.size, 0 + i, none⟩ = some (.int .u8 ((last[i]?.getD 0).toNat : Int))) := hid fun i hi => by
      rw [Nat.zero_add]; exact bG.cell' (u8_at (by omega))
    have eG : Ext w2 wG := uG.ext (HEF.out.drewN nq) (Nat.le_refl _)
    have HZG := hid (HZ2.out.ext eG)
    have HEG := hid (HE2.out.ext eG)
    clear bG uG eG HZF HBF HEF HZ2 HB2 HBV HLL HSP hlv1 h32
    go_wp2_with fail
    refine (block_c _ last _ (w.heap.size + 1) w2.heap.size 0 SmT wG (absN_length HS.out _) HBG.out HSR.out (.inl (Ne.symm gne))).mono ?_
    rintro e wH ⟨rfl, bH, gH⟩
    rw [← HFD.out] at bH
    have HZH := hid (HZG.out.grown gH (by intro h; injection h with h; omega))
    have HEH := hid (HEG.out.grown gH (by intro k hk; cases hk; omega))
    generalize r.map u8v ++ [Value.int IntKind.i64 _, Value.int IntKind.i64 _] = tl at *
    have hlH : 0 + 64 ≤ (fin.map u8v ++ tl).length := by rw [List.length_append, HFL.out]; omega
    have htk : ((fin.map u8v ++ tl).drop 0).take 64 = fin.map u8v := by rw [List.drop_zero, ← HFL.out, List.take_left]
    generalize hvs : fin.map u8v ++ tl = vs at *
    have HVS := hid hvs
    have HTK := hid htk
    have h1f := one_u8 fin
    clear hvs gH htk
    generalize hfv : fin.map u8v = fv at *
    have HFV := hid hfv
    clear hfv
    go_wp2_with (first | (refine wpl_loadp rfl _ _ rfl rfl bH agg_state hlH HTK.out ?_) | refine wpl_storew rfl _ _ _ rfl rfl rfl HZH.out agg_state rfl HFL.out h1f ?_)
    intro wI bI uI
    go_wp2
    refine ret_row rfl rfl bI agg_state HFL.out rfl ⟨by rw [HFV.out], uI.ext HEH.out (Nat.le_refl _)⟩
  · obtain ⟨k, hk⟩ : ∃ k, 32 - q = k := ⟨_, rfl⟩
    have iq1 : IntKind.i64.wrap (32 - (q : Int)) = (k : Int) := by rw [IntWalk.i64_in _ (by omega)]; omega
    have hkq : k ≤ 32 ∧ 0 < k := by omega
    rw [hk] at hq2
    have HK := hid hk
    have HQ2 := hid hq2
    have HPT := hid hpt
    clear hk hq hq2 hpt
    have hdq : decide ((0 : Int) < (q : Int)) = true := decide_eq_true (by omega)
    go_wp2_with (refine wpl_mk8 rfl _ _ rfl (n := k) rfl rfl (by omega) ?_)
    generalize hwC : World.alloc w2 _ = wC
    have zC : Blk wC w2.heap.size ((List.replicate (k) (0 : UInt8)).map u8v) 5 := by rw [← hwC]; exact Blk.mk_alloc rfl (by simp)
    have eC : Ext w2 wC := by rw [← hwC]; exact (Ext.refl w2).alloc _
    clear hwC
    refine (take_c s0 (t ++ [128]) (List.replicate (k) 0) N (w.heap.size + 1) k k (some ⟨w2.heap.size, 0, none⟩) SmT wC HS.out (List.length_replicate ..) (HH2.out.ext eC) (by omega) (Nat.le_refl _) (by omega) (by intro h; cases h) (Cells.of_blk0 zC) (.inr (by intro x hx; cases hx; intro h; injection h with h; simp only at h; omega))).mono ?_
    rintro e w3 ⟨rfl, h3, g3⟩
    rw [HQ2.out, ← HPT.out] at h3
    have gC := grown_none eC (some (w.heap.size + 1))
    have HZ3 := hid ((HZ2.out.grown gC (by intro h; injection h with h; omega)).grown g3 (by intro h; injection h with h; omega))
    have HE3 := hid ((HE2.out.ext eC).grown g3 (by intro k hk; cases hk; omega))
    have lt3 : w.heap.size + 1 < w3.heap.size := h3.lt
    have HH3 := hid h3
    clear h3 g3 zC eC gC HZ2 HH2 HE2 lt2 c1 hq1 hdq iq1 HK hkq HQ2 HPT
    obtain ⟨r, hr, -, hB⟩ := HH3.out
    have HR := hid hr
    have HB3 := hid hB
    clear hr hB
    have c2 := fun o => ((HH.out.ext HE3.out).ext ((Ext.refl w3).alloc o)).elim fun rr hh => hh.2.2.cell' (sm_total _ N (absN_length HS.out _) hh.1)
    go_wp2_with fail
    generalize hwD : World.alloc w3 _ = wD
    have zD : Blk wD w3.heap.size (List.replicate 32 (.int .u8 0)) 30 := by rw [← hwD]; exact Blk.mk_alloc rfl rfl
    have eD : Ext w3 wD := by rw [← hwD]; exact (Ext.refl w3).alloc _
    have sD : wD.heap.size = w3.heap.size + 1 := by rw [← hwD]; exact Array.size_push _
    clear hwD c2
    refine (hlong _).mono ?_
    rintro e wE ⟨rfl, eE⟩
    have lE : wD.heap.size ≤ wE.heap.size := eE.size
    go_wp2_with (refine wpl_storew rfl _ _ _ rfl rfl rfl (Blk.mk_alloc rfl rfl) agg_eight rfl rfl (one_u8 _) ?_)
    intro wF bF uF
    have eF : Ext wD wF := uF.ext (eE.alloc _) eE.size
    have HZF := hid (zD.ext eF)
    have HBF := hid bF
    have HEF := hid (eD.ext eF)
    clear bF uF eE zD
    generalize wE.heap.size = gE at *
    go_wp2
    refine wp_region_cls (C := fun w' => ∃ n, w' = wF.drewN n) 2 (by kernel_rfl) (by kernel_rfl) ⟨1, rfl⟩ ?_
    simp only [List.take_succ_cons, List.take_zero, List.drop_succ_cons, List.drop_zero]
    iterate 2 quiet_step (fail)
    refine wpQuiet_nil ?_
    rintro _ ⟨nq, rfl⟩
    have HLL : Hid (((longL u).map u8v).length = 8) := hid (by rw [List.length_map, longL_length])
    have hsp : splice (List.replicate 32 (.int .u8 0)) 24 ((longL u).map u8v) = (List.replicate 24 0 ++ longL u).map u8v := rfl
    have HSP := hid hsp
    have h32 : (List.replicate 24 0 ++ longL u).length = 32 := rfl
    clear hsp
    generalize hLv : (longL u).map u8v = lv at *
    have hlv1 : ∀ v ∈ lv, v.oneCell' = true := by rw [← hLv]; exact one_u8 _
    clear hLv
    have HBV := hid (Cells.of_blk0 (HBF.out.drewN (n := nq)))
    go_wp2_with (refine wpl_copyc rfl _ _ _ _ rfl rfl rfl (HZF.out.drewN (n := nq)) Tryd.underlying44 size_u8 HLL.out rfl (fun e => by cases e) HBV.out (by simp) hlv1 ?_)
    intro wG bG uG
    change Blk wG _ (splice (List.replicate 32 (.int .u8 0)) 24 lv) _ at bG
    rw [HSP.out] at bG
    generalize hlast : List.replicate 24 0 ++ longL u = last at *
    clear hlast
    have gne : w.heap.size + 1 ≠ w3.heap.size := by omega
    have HBG := hid (((HB3.out.ext HEF.out).drewN (n := nq)).upd uG gne)
    have HSR : Hid (∀ i, i < 32 → wG.cell? ⟨w3.heap.size, 0 + i, none⟩ = some (.int .u8 ((last[i]?.getD 0).toNat : Int))) := hid fun i hi => by
      rw [Nat.zero_add]; exact bG.cell' (u8_at (by omega))
    have eG : Ext w3 wG := uG.ext (HEF.out.drewN nq) (Nat.le_refl _)
    have HZG := hid (HZ3.out.ext eG)
    have HEG := hid (HE3.out.ext eG)
    clear bG uG eG HZF HBF HEF HZ3 HB3 HBV HLL HSP hlv1 h32
    go_wp2_with fail
    refine (block_c _ last _ (w.heap.size + 1) w3.heap.size 0 SmT wG (absN_length HS.out _) HBG.out HSR.out (.inl (Ne.symm gne))).mono ?_
    rintro e wH ⟨rfl, bH, gH⟩
    rw [← HFD.out] at bH
    have HZH := hid (HZG.out.grown gH (by intro h; injection h with h; omega))
    have HEH := hid (HEG.out.grown gH (by intro k hk; cases hk; omega))
    generalize r.map u8v ++ [Value.int IntKind.i64 _, Value.int IntKind.i64 _] = tl at *
    have hlH : 0 + 64 ≤ (fin.map u8v ++ tl).length := by rw [List.length_append, HFL.out]; omega
    have htk : ((fin.map u8v ++ tl).drop 0).take 64 = fin.map u8v := by rw [List.drop_zero, ← HFL.out, List.take_left]
    generalize hvs : fin.map u8v ++ tl = vs at *
    have HVS := hid hvs
    have HTK := hid htk
    have h1f := one_u8 fin
    clear hvs gH htk
    generalize hfv : fin.map u8v = fv at *
    have HFV := hid hfv
    clear hfv
    go_wp2_with (first | (refine wpl_loadp rfl _ _ rfl rfl bH agg_state hlH HTK.out ?_) | refine wpl_storew rfl _ _ _ rfl rfl rfl HZH.out agg_state rfl HFL.out h1f ?_)
    intro wI bI uI
    go_wp2
    refine ret_row rfl rfl bI agg_state HFL.out rfl ⟨by rw [HFV.out], uI.ext HEH.out (Nat.le_refl _)⟩
end

section
open Go Go.RowKit

theorem agg_apisum : AggT Tryd.prog 31 32 := ⟨⟨_, Tryd.underlying31, rfl⟩, by kernel_rfl⟩

/-- the sum of a text -/
def sumL (d : Int) (t : List UInt8) : List UInt8 := (finL (initS d) t t.length).take 32
theorem sumL_length (d : Int) (t : List UInt8) : (sumL d t).length = 32 := by rw [sumL, List.length_take, finL_length]; rfl

set_option maxRecDepth 100000 in
set_option maxHeartbeats 1000000 in
theorem sum_c (s0 t : List UInt8) (N : Nat) (g : Nat) (T : TypeId) (w : World) (hs : s0.length = 64) (hN : N ≤ 4611686018427387904) (hH : Holds w g T s0 t N) :
    Calls Tryd.prog 37 #[.pointer (some ⟨g, 0, none⟩)] w fun e w' => e = .returned (.agg (((finL s0 t N).take 32).map u8v).toArray) ∧ Ext w w' := by
  have HH := hid hH
  have HFL : Hid (((finL s0 t N).map u8v).length = 64) := hid (by rw [List.length_map, finL_length])
  have HF2 : Hid ((((finL s0 t N).map u8v).drop 0).take 32 = ((finL s0 t N).take 32).map u8v) := hid (by rw [List.drop_zero, List.map_take])
  have HF3 : Hid ((((finL s0 t N).take 32).map u8v).length = 32) := hid (by rw [List.length_map, List.length_take, finL_length]; rfl)
  have h1 := one_u8 (finL s0 t N)
  have h2 := one_u8 ((finL s0 t N).take 32)
  have hend := fun w' (h : Holds w' g T s0 t N) => end_c s0 t N g T w' hs hN h
  generalize hfv2 : ((finL s0 t N).take 32).map u8v = fv2 at *
  generalize (finL s0 t N).map u8v = fv at *
  clear hH hfv2
  have ha := run_arrayAt (P := Tryd.prog) Tryd.underlying31 (len := 32) (Nat.le_refl 32)
  go_enter Tryd.func37, Tryd.ntmps37
  go_wp2_with fail
  generalize hwA : World.alloc w _ = wA
  have zA : Blk wA w.heap.size (List.replicate 32 (.int .u8 0)) 31 := by rw [← hwA]; exact Blk.mk_alloc rfl rfl
  have eA : Ext w wA := by rw [← hwA]; exact (Ext.refl w).alloc _
  clear hwA
  refine (hend _ (HH.out.ext eA)).mono ?_
  rintro e w1 ⟨rfl, e1⟩
  have HZ := hid (zA.ext e1)
  have HE := hid (eA.ext e1)
  clear zA eA e1
  go_wp2_with (refine wpl_storew rfl _ _ _ rfl rfl rfl (Blk.mk_alloc rfl rfl) agg_state rfl HFL.out h1 ?_)
  intro w2 b2 u2
  have e2 : Ext w1 w2 := u2.ext ((Ext.refl w1).alloc _) (Nat.le_refl _)
  have HZ2 := hid (HZ.out.ext e2)
  have HE2 := hid (HE.out.ext e2)
  clear e2 u2
  go_wp2_with (first | (refine wpl_loadp rfl _ _ rfl rfl b2 agg_apisum (by rw [HFL.out]; omega) HF2.out ?_) | refine wpl_storew rfl _ _ _ rfl rfl rfl HZ2.out agg_apisum rfl HF3.out h2 ?_)
  intro w3 b3 u3
  go_wp2
  refine ret_row rfl rfl b3 agg_apisum HF3.out rfl ⟨rfl, u3.ext HE2.out (Nat.le_refl _)⟩

def summedPost (d : Int) (t : List UInt8) (w : World) (e : Ending) (w' : World) : Prop :=
  (if d < 0 ∨ 255 < d then e = .returned (.tuple #[.pointer none, .int .i64 3])
  else if t.length ≤ 1048576 then e = .returned (.tuple #[.pointer (some ⟨w.heap.size, 0, none⟩), .int .i64 0]) ∧ Holds w' w.heap.size SmT (initS d) t t.length
  else e = .returned (.tuple #[.pointer none, .int .i64 5])) ∧ Ext w w'

set_option maxRecDepth 100000 in
set_option maxHeartbeats 1000000 in
theorem summed_c (its : List Item) (d : Int) (g len cap : Nat) (w : World) (hlen : its.length = len) (hl2 : len ≤ 1000)
    (hg : ∀ i it, its[i]? = some it → w.cell? ⟨g, i, none⟩ = some (itemV it)) (hgs : g < w.heap.size)
    (hc : ∀ it ∈ its, Cells w it.1 (it.2.2.map u8v)) (hn : ∀ it ∈ its, it.1 = none → it.2.1 = 0) (hnc : ∀ it ∈ its, it.2.2.length ≤ it.2.1) (hcm : ∀ it ∈ its, it.2.1 ≤ 9223372036854775807) :
    Calls Tryd.prog 36 #[.int .i64 d, .slice (some ⟨g, 0, none⟩) len cap] w (summedPost d (cat its) w) := by
  have HL := hid hlen
  have HG := hid hg
  have HC := hid hc
  have HN := hid hn
  have HNC := hid hnc
  have HCM := hid hcm
  clear hlen hg hc hn hnc hcm
  unfold summedPost
  by_cases hd : d < 0 ∨ 255 < d
  · simp only [if_pos hd]
    have hd' := hid hd
    clear hd
    go_enter Tryd.func36, Tryd.ntmps36
    go_wp2_with fail
    refine (newSummer_c d w).mono ?_
    intro e w1 h
    unfold newPost at h
    rw [if_pos hd'.out] at h
    obtain ⟨rfl, rfl⟩ := h
    go_wp2
    go_ret2
    exact ⟨rfl, Ext.refl _⟩
  · simp only [if_neg hd]
    have hd' := hid hd
    clear hd
    go_enter Tryd.func36, Tryd.ntmps36
    go_wp2_with fail
    refine (newSummer_c d w).mono ?_
    intro e w1 h
    unfold newPost at h
    rw [if_neg hd'.out] at h
    obtain ⟨rfl, h1, e1⟩ := h
    have HH1 := hid h1
    have HE1 := hid e1
    clear h1 e1
    go_wp2
    go_loopw [21] (fun x wr => ∃ k : Nat, k ≤ len ∧ x = .int .i64 k ∧ Hid ((cat (its.take k)).length ≤ 1048576) ∧ Hid (Holds wr w.heap.size SmT (initS d) (cat (its.take k)) (cat (its.take k)).length) ∧ Hid (Ext w wr))
      (fun x _ => len - (intOf x).toNat)
    case atStart => exact ⟨0, by omega, rfl, hid (by simp [cat]), hid HH1.out, HE1⟩
    case round =>
      obtain ⟨k, hk, rfl, hsm, hh, he⟩ := hrel
      by_cases hlt : k < len
      · have hdk : decide ((k : Int) < (len : Int)) = true := decide_eq_true (by omega)
        obtain ⟨it, hit⟩ : ∃ it, its[k]? = some it := ⟨_, List.getElem?_eq_getElem (by rw [HL.out]; exact hlt)⟩
        have hmem : it ∈ its := List.mem_of_getElem? hit
        have hcell := (he.out.cell (p := ⟨g, k, none⟩) hgs).trans (HG.out k it hit)
        obtain ⟨a, c, l⟩ := it
        have hcs := cat_succ hit
        simp only [itemV] at hcell
        have hnc := HNC.out _ hmem
        have hcm := HCM.out _ hmem
        simp only at hnc hcm hcs
        have HCS := hid hcs
        have HIC := hid (HC.out _ hmem)
        have HIN := hid (HN.out _ hmem)
        have hi0 : (0 : Int) ≤ (k : Int) := by omega
        have hi1 : (k : Int) < (len : Int) := by omega
        clear hcs hit hmem
        generalize hll : l.length = ll at *
        generalize hT : cat (its.take k) = tk at *
        have HCL := hid (cat_le its (k + 1))
        go_wp2_with fail
        refine (write_c (initS d) tk l (tk.length : Nat) w.heap.size ll c a SmT wr (initS_length d) hll (by omega) (by have := hsm.out; omega) hh.out (by omega) hnc hcm (fun e => by have := HIN.out e; omega) (HIC.out.ext he.out) (away_of HIC.out (by rw [List.length_map]; exact hll) (Nat.le_refl _))).mono ?_
        intro e w2 h
        unfold writePost at h
        rw [hll] at h
        by_cases hfit : (ll : Int) ≤ 1048576 - (tk.length : Nat)
        · rw [if_pos hfit] at h
          obtain ⟨rfl, h2, g2⟩ := h
          have HH2 := hid h2
          have HE2 := hid (he.out.grown g2 (by intro k' hk'; cases hk'; exact Nat.le_refl _))
          have hfl : (tk ++ l).length = tk.length + ll := by rw [List.length_append, hll]
          have HFL := hid hfl
          clear h2 g2 hfl
          go_wp2
          go_roundw
          case rel =>
            refine ⟨k + 1, by omega, by go_num, hid ?_, hid ?_, HE2⟩
            · rw [HCS.out, HFL.out]; omega
            · rw [HCS.out, HFL.out, Int.natCast_add]; exact HH2.out
          case measure => simp [intOf]; omega
        · rw [if_neg hfit] at h
          obtain ⟨rfl, rfl⟩ := h
          have hbig : ¬ (cat its).length ≤ 1048576 := by
            have := HCL.out
            rw [HCS.out, List.length_append, hll] at this
            omega
          have HBIG := hid hbig
          clear hbig hfit
          go_wp2
          go_ret2
          refine ⟨?_, he.out⟩
          first | rfl | (rw [if_neg HBIG.out]; rfl)
      · have hkl : k = len := by omega
        subst hkl
        have hct : cat (its.take k) = cat its := by rw [List.take_of_length_le (by rw [HL.out]; exact Nat.le_refl _)]
        rw [hct] at hsm hh
        have HIF : Hid ((cat its).length ≤ 1048576) := hsm
        clear hct
        go_wp2
        go_ret2
        refine ⟨?_, he.out⟩
        first | exact ⟨rfl, hh.out⟩ | (rw [if_pos HIF.out]; exact ⟨rfl, hh.out⟩)
end

section
open Go Go.RowKit

theorem longL_at (N i : Nat) (hN : N < 18446744073709551616) (hi : i < 8) : ((((longL (UInt64.ofNat N))[i]?.getD 0).toNat : Nat) : Int) = (N : Int) / 2 ^ (56 - 8 * i) % 256 := by
  have hN' : (UInt64.ofNat N).toNat = N := by rw [UInt64.toNat_ofNat']; omega
  unfold longL
  rw [hN']
  have h1 : (UInt32.ofNat (N / 4294967296)).toNat = N / 4294967296 % 4294967296 := UInt32.toNat_ofNat' ..
  have h2 : (UInt32.ofNat N).toNat = N % 4294967296 := UInt32.toNat_ofNat' ..
  rcases (by omega : i = 0 ∨ i = 1 ∨ i = 2 ∨ i = 3 ∨ i = 4 ∨ i = 5 ∨ i = 6 ∨ i = 7) with rfl | rfl | rfl | rfl | rfl | rfl | rfl | rfl
  all_goals
    simp only [octL, h1, h2, List.cons_append, List.nil_append, List.getElem?_cons_zero, List.getElem?_cons_succ, Option.getD_some, u8_ofNat]
    simp
    try omega

set_option maxRecDepth 100000 in
set_option maxHeartbeats 1000000 in
theorem rlong_c (N : Nat) (w : World) (hN : N ≤ 4611686018427387904) :
    Calls Tryd.prog 43 #[.int .i64 (N : Int)] w fun e w' => e = .returned (.slice (some ⟨w.heap.size, 0, none⟩) 8 8) ∧ Blk w' w.heap.size ((longL (UInt64.ofNat N)).map u8v) 5 ∧ Ext w w' := by
  have hmk := fun w => run_mk8 w 8 (by omega)
  obtain ⟨f, hf⟩ : ∃ f : Nat → UInt8, (fun i => (longL (UInt64.ofNat N))[i]?.getD 0) = f := ⟨_, rfl⟩
  have hle : longL (UInt64.ofNat N) = fill (fun i => (longL (UInt64.ofNat N))[i]?.getD 0) 0 8 8 := by
    rw [fill_all _ _ _ _ (Nat.le_refl _)]; rfl
  have HLE := hid hle
  have hat : ∀ i, i < 8 → (N : Int) / 2 ^ (56 - 8 * i) % 256 = ((f i).toNat : Int) := fun i hi => by rw [← hf, longL_at N i (by omega) hi]
  rw [hf] at HLE
  clear hle hf
  generalize longL (UInt64.ofNat N) = ll at *
  go_enter Tryd.func43, Tryd.ntmps43
  go_wp2_with (refine wpl_mk8 rfl _ _ rfl (n := 8) rfl rfl (by omega) ?_)
  generalize hwA : World.alloc w _ = wA
  have zA : Blk wA w.heap.size ((fill f 0 8 0).map u8v) 5 := by rw [← hwA]; exact Blk.mk_alloc rfl (by rw [fill_zero]; simp)
  have eA : Ext w wA := by rw [← hwA]; exact (Ext.refl w).alloc _
  clear hwA
  go_loopw [8] (fun x wr => ∃ i : Nat, i ≤ 8 ∧ x = .int .i64 i ∧ Blk wr w.heap.size ((fill f 0 8 i).map u8v) 5 ∧ Ext w wr)
    (fun x _ => 8 - (intOf x).toNat)
  case atStart => exact ⟨0, by omega, rfl, zA, eA⟩
  case round =>
    obtain ⟨i, hi, rfl, q1, q2⟩ := hrel
    by_cases hlt : i < 8
    · have hd : decide ((i : Int) < 8) = true := decide_eq_true (by omega)
      have so := hat i hlt
      have c1 := q1.cell' (i := i) (u8_at (by rw [fill_length]; exact hlt))
      have f1 := q1.frozen i
      have i0 : (0 : Int) ≤ (i : Int) := by omega
      have i1 : (i : Int) < 8 := by omega
      have k1 : IntKind.i64.wrap (8 * (i : Int)) = 8 * (i : Int) := IntWalk.i64_in _ (by omega)
      have k2 : IntKind.i64.wrap (56 - 8 * (i : Int)) = ((56 - 8 * i : Nat) : Int) := by rw [IntWalk.i64_in _ (by omega)]; omega
      go_wp2
      go_roundw
      case rel => exact ⟨i + 1, by omega, by go_num, q1.fill8, q2.set _ (Nat.le_refl _)⟩
      case measure => simp [intOf]; omega
    · obtain rfl : i = 8 := by omega
      go_wp2
      go_ret
      exact ⟨rfl, by rw [HLE.out]; exact q1, q2⟩
end

section
open Go Go.RowKit

theorem zeroCells_u8 (k : Nat) : Builtin.zeroCells (Value.int .u8 0).cells k = (List.replicate k (Value.int .u8 0)).toArray := by
  have e : (Value.int .u8 0).cells = #[.int .u8 0] := rfl
  apply Array.ext
  · simp [Builtin.zeroCells, e]
  · intro i h1 h2
    simp [Builtin.zeroCells, e, Nat.mod_one]

theorem run_append_zeros_own (w : World) (base : Nat) (ty : TypeId) (v : Value) (n : Nat) (xs : List Value) (hown : w.ownsRow base 5 1 v n xs) (k : Nat) (hk : 0 < k)
    (hb : n + k ≤ 140737488355328) (hbase : base ≤ w.heap.size) :
    ∃ v' w', (Builtin.append_ #[44, 3] ty #[v, .int .i64 (k : Int)]).run Tryd.prog w = .ok v' w' ∧ w'.ownsRow base 5 1 v' (n + k) (xs ++ List.replicate k (.int .u8 0)) ∧ w.grownBy w' v.ownBlock := by
  obtain ⟨i0, hi, hz, hs, hb1⟩ := info_parts info_u8
  have hl1 := hown.1
  have hlen : (xs ++ List.replicate k (Value.int .u8 0)).length = (n + k) * 1 := by rw [List.length_append, List.length_replicate, hl1]; omega
  have grown : ∀ (old : Nat), old < n + k → ∀ (row : Option Nat),
      (w.drew.alloc (.cells (xs.toArray ++ Builtin.zeroCells (Value.int .u8 0).cells k ++ Builtin.zeroCells (Value.int .u8 0).cells (grownCap w (n + k) old 5 - (n + k))) 5)).ownsRow base 5 1
        (.slice (some ⟨w.heap.size, 0, none⟩) (n + k) (grownCap w (n + k) old 5)) (n + k) (xs ++ List.replicate k (.int .u8 0)) ∧
      w.grownBy (w.drew.alloc (.cells (xs.toArray ++ Builtin.zeroCells (Value.int .u8 0).cells k ++ Builtin.zeroCells (Value.int .u8 0).cells (grownCap w (n + k) old 5 - (n + k))) 5)) row := by
    intro old ho row
    have hge := grownCap_ge w (n + k) old 5
    have hcm : grownCap w (n + k) old 5 ≤ maxLen := grownCap_le_maxLen w (n + k) old 5 (by unfold maxLen; omega)
    refine ⟨⟨hlen, .inr ⟨w.heap.size, _, _, rfl, hbase, heap_alloc_new w.drew _, hge, hcm, ?_, ?_⟩⟩, ⟨rfl, rfl, rfl, by simp, fun j hj _ => heap_alloc_old w.drew _ hj⟩⟩
    · simp only [Array.size_append, List.size_toArray, zeroCells_u8, List.length_replicate, hl1]; omega
    · simp only [Array.toList_append, zeroCells_u8, List.append_assoc]
      rw [← List.append_assoc, ← hlen]
      exact List.take_left
  rcases hown.2 with ⟨rfl, rfl⟩ | ⟨g, cap, cur, rfl, hbg, hg, hnc, hcm, hcs, htake⟩
  · have hx : xs = [] := List.eq_nil_of_length_eq_zero (by simpa using hl1)
    subst hx
    have hr := Lib.run_append_nil_zeros (P := Tryd.prog) w 44 3 ty 5 i0 (.int .u8 0) .i64 .i64 Tryd.underlying44 Tryd.underlying3 hi hz k hk (by omega) (by omega) (by rw [hb1]; omega)
    have hgr := grown 0 (by omega) (Value.ownBlock (.slice none 0 0))
    simp only [Nat.zero_add, Array.empty_append] at hgr hr ⊢
    exact ⟨_, _, hr, by simpa using hgr.1, by simpa using hgr.2⟩
  · by_cases hroom : n + k ≤ cap
    · have hfit : n * 1 + (List.replicate k (Value.int .u8 0)).length ≤ cur.size := by rw [List.length_replicate, hcs]; omega
      have hst := run_storeCells_at Tryd.prog g (n * 1) 5 (List.replicate k (Value.int .u8 0)) 0 cur w hg (by simpa using hfit) (by intro u hu; simp at hu; rw [hu.2]; rfl)
      have hw : IntKind.i64.wrap (k : Int) = k := by rw [IntKind.wrap_i64]; omega
      have h48i : ¬ (281474976710656 < (k : Int) * (i0.bytes : Int)) := by rw [hb1]; omega
      have hns : ¬ (k * i0.size = 0) := by rw [hs]; omega
      have hneg : ¬ ((k : Int) < 0) := by omega
      have hk0 : k ≠ 0 := by omega
      simp only [Nat.add_zero] at hst
      have hr : (Builtin.append_ #[44, 3] ty #[.slice (some ⟨g, 0, none⟩) n cap, .int .i64 (k : Int)]).run Tryd.prog w =
          .ok (.slice (some ⟨g, 0, none⟩) (n + k) cap) (w.setRow g (cur.toList.take (n * 1) ++ List.replicate k (Value.int .u8 0) ++ cur.toList.drop (n * 1 + (List.replicate k (Value.int .u8 0)).length)).toArray) := by
        simp [Builtin.append_, run_underlying Tryd.underlying44, run_underlying Tryd.underlying3, sizeOf, typeInfo, zeroValue, hi, hz, asInt, asIntOf, hw, hneg, h48i, hns, hroom, zeroCells_u8, hk0, hs, Addr.add_lit]
        simp at hst
        simp [hst]
      refine ⟨_, _, hr, ⟨hlen, .inr ⟨g, cap, _, rfl, hbg, setRow_heap w g cur _ _ _ hg, hroom, hcm, ?_, ?_⟩⟩, ⟨rfl, rfl, rfl, by simp, fun j _ hj => setRow_other w g j _ (fun e => hj (by simp [Value.ownBlock, e]))⟩⟩
      · simp only [List.size_toArray, List.length_append, List.length_take, List.length_drop, Array.length_toList, List.length_replicate]
        omega
      · rw [htake, ← hlen]
        exact List.take_left
    · have holds : ∀ j u, xs[j]? = some u → w.cell? ((⟨g, 0, none⟩ : Addr).add j) = some u := hown.cells (g := g) rfl
      have hold : (Builtin.firstCells i0.size n (.slice (some ⟨g, 0, none⟩) n cap)).run Tryd.prog w.drew = .ok xs.toArray w.drew := run_firstCells_some (P := Tryd.prog) w.drew i0.size n ⟨g, 0, none⟩ n cap xs (by rw [hs]; exact hl1) holds
      have hr := Lib.run_append_grow_zeros (P := Tryd.prog) w 44 3 ty 5 i0 (.int .u8 0) .i64 .i64 Tryd.underlying44 Tryd.underlying3 hi hz (some ⟨g, 0, none⟩) n cap xs hold k hk (by omega) (by omega) (by omega) (by rw [hb1]; omega) (growslice_fits (by omega) (by rw [hb1]; omega))
      have hgr := grown cap (by omega) (Value.ownBlock (.slice (some ⟨g, 0, none⟩) n cap))
      exact ⟨_, _, hr, hgr.1, hgr.2⟩

theorem wpl_append_zeros {ops : Array Oper} {rest : List Oper} {o : Oper} {a : Act} {w : World} {Q : Exit → Act → World → Prop} (hgd : o.guard = none) (s x : Operand)
    (ho : o.op = .call { callee := .builtin .append, args := #[s, x], argTypes := #[44, 3] }) (base : Nat) {v : Value} {n : Nat} {xs : List Value} {k : Nat}
    (hs : a.eval s = v) (hx : a.eval x = .int .i64 (k : Int)) (hown : w.ownsRow base 5 1 v n xs) (hk : 0 < k) (hb : n + k ≤ 140737488355328) (hbase : base ≤ w.heap.size)
    (h : ∀ v' w', w'.ownsRow base 5 1 v' (n + k) (xs ++ List.replicate k (.int .u8 0)) → w.grownBy w' v.ownBlock → wpList Tryd.prog ops Q rest (a.put o.dst v') w') : wpList Tryd.prog ops Q (o :: rest) a w := by
  obtain ⟨v', w', hr, h1, h2⟩ := run_append_zeros_own w base o.type v n xs hown k hk hb hbase
  exact Lib.wpList_append_run w hgd s x _ _ ho v _ hs hx v' w' hr (h v' w' h1 h2)

/-- append onto a row of one's own: octets -/
theorem wpl_append8 {ops : Array Oper} {rest : List Oper} {o : Oper} {a : Act} {w : World} {Q : Exit → Act → World → Prop} (hgd : o.guard = none) (s x : Operand)
    (ho : o.op = .call { callee := .builtin .append, args := #[s, x], argTypes := #[44, 44] }) (base : Nat) {v : Value} {n m c : Nat} {xs ys : List UInt8} {ad : Option Addr}
    (hs : a.eval s = v) (hx : a.eval x = .slice ad m c) (hown : w.ownsRow base 5 1 v n (xs.map u8v)) (hm : ys.length = m) (had : ad = none → m = 0 ∧ c = 0) (hc : Cells w ad (ys.map u8v))
    (hb : n + m ≤ 140737488355328) (hbase : base ≤ w.heap.size)
    (h : ∀ v' w', w'.ownsRow base 5 1 v' (n + m) ((xs ++ ys).map u8v) → w.grownBy w' v.ownBlock → wpList Tryd.prog ops Q rest (a.put o.dst v') w') : wpList Tryd.prog ops Q (o :: rest) a w := by
  obtain ⟨i0, hi, hz, hsz, hb1⟩ := info_parts info_u8
  cases ad with
  | none =>
    obtain ⟨rfl, rfl⟩ := had rfl
    have hy : ys = [] := List.length_eq_zero_iff.1 hm
    subst hy
    have h' := h v w (by simpa using hown) (grown_refl w _)
    exact wpList_append_own_none hgd s x 44 ho base 5 i0 1 Tryd.underlying44 hi v n (xs.map u8v) hs hown hx h'
  | some y =>
    exact wpList_append_own w hgd s x 44 ho base 5 i0 (.int .u8 0) 1 1 Tryd.underlying44 hi hz hsz hb1 rfl (by decide) v n (xs.map u8v) hs hown y m c (ys.map u8v) hx
      (by rw [List.length_map, hm, Nat.mul_one]) (news_cells hc) (one_u8 _) (by unfold maxLen; omega) (by omega) hbase (fun v' w' h1 h2 _ => h v' w' (by rw [List.map_append]; exact h1) h2)

theorem own_block_ge {w : World} {B : Nat} {e : TypeId} {size n : Nat} {v : Value} {xs : List Value} (h : w.ownsRow B e size v n xs) : ∀ g, v.ownBlock = some g → B ≤ g := by
  intro g hg
  rcases h.2 with ⟨rfl, _⟩ | ⟨g', cap, cur, rfl, hb, _⟩
  · cases hg
  · simp [Value.ownBlock] at hg; omega
end

section
open Go Go.RowKit

theorem absN_more {s p q : List UInt8} {m : Nat} (hp : p.length = 32 * m) (hq : q.length = 32) : absN s (p ++ q) (m + 1) = absorb (absN s p m) q := by
  rw [absN, absN_append _ (by omega), ← hp, List.drop_left, List.take_of_length_le (by omega)]
theorem finL_blocks (s t : List UInt8) (n : Nat) : finL s t n = absN s (padT t ++ (List.replicate 24 0 ++ longL (UInt64.ofNat n))) ((padT t).length / 32 + 1) := by
  have h := padT_length t
  rw [absN_more (by omega) rfl]; rfl

theorem u8_wrap (d : Int) (h : 0 ≤ d) (h2 : d ≤ 255) : ((UInt8.ofNat d.toNat).toNat : Int) = d := by rw [UInt8.toNat_ofNat']; omega
theorem init_cells (d : Int) (h : 0 ≤ d) (h2 : d ≤ 255) : (List.replicate 64 (Value.int .u8 0)).set 63 (.int .u8 d) = (initS d).map u8v := by
  unfold initS
  rw [List.map_set]
  have : u8v (UInt8.ofNat d.toNat) = .int .u8 d := by
    unfold u8v
    rw [u8_wrap d h h2]
  rw [this]
  rfl

theorem own_away {w : World} {B n c : Nat} {e : TypeId} {size : Nat} {a : Option Addr} {xs : List Value} (h : w.ownsRow B e size (.slice a n c) n xs) : ∀ x, a = some x → B ≤ x.block := by
  intro x hx
  rcases h.2 with ⟨h1, _⟩ | ⟨g', cap, cur, h1, hb, _⟩
  · injection h1 with h1 _ _; rw [h1] at hx; cases hx
  · injection h1 with h1 _ _; rw [h1] at hx; cases hx; exact hb

set_option maxRecDepth 100000 in
set_option maxHeartbeats 2000000 in
theorem rstate_c (d : Int) (t : List UInt8) (n c : Nat) (a : Option Addr) (w : World) (hd0 : 0 ≤ d) (hd1 : d ≤ 255) (ht : t.length = n) (hn : n ≤ 1099511627776) (hcl : Cells w a (t.map u8v)) :
    Calls Tryd.prog 39 #[.int .i64 d, .slice a n c] w fun e w' => e = .returned (.agg ((finL (initS d) t n).map u8v).toArray) ∧ Ext w w' := by
  have HT := hid ht
  have HC := hid hcl
  have HFB := hid (finL_blocks (initS d) t n)
  have HFL : Hid (((finL (initS d) t n).map u8v).length = 64) := hid (by rw [List.length_map, finL_length])
  have HP : Hid (padT t = t ++ 128 :: List.replicate (31 - n % 32) 0) := hid (by rw [← ht]; rfl)
  have hdw : IntKind.u8.wrap d = d := IntWalk.u8_in _ (by omega)
  have HD := hid (init_cells d hd0 hd1)
  have HIL := initS_length d
  have hlong := fun w => rlong_c n w (by omega)
  generalize finL (initS d) t n = fin at *
  generalize initS d = s0 at *
  generalize hll : longL (UInt64.ofNat n) = ll at *
  have HLL : Hid (ll.length = 8) := hid (by rw [← hll]; rfl)
  have HI := hid HIL
  clear ht hcl HIL hll
  go_enter Tryd.func39, Tryd.ntmps39
  go_wp2_with fail
  generalize hwA : World.alloc (World.alloc w _) _ = wA
  have zA : Blk wA w.heap.size (List.replicate 64 (.int .u8 0)) 64 := by rw [← hwA]; exact (Blk.mk_alloc rfl rfl).alloc _
  have sA : Blk wA (w.heap.size + 1) (s0.map u8v) 64 := by rw [← hwA, ← HD.out]; exact Blk.mk_alloc (by simp) rfl
  have eA : Ext w wA := by rw [← hwA]; exact ((Ext.refl w).alloc _).alloc _
  have lA : w.heap.size + 1 < wA.heap.size := sA.lt
  clear hwA
  refine (clone_c t a n c wA HT.out (by omega) (HC.out.ext eA)).mono ?_
  rintro e w1 ⟨v, rfl, own1, -, e1⟩
  have HO := hid own1
  have HE := hid (eA.ext e1)
  have HZ := hid (zA.ext e1)
  have HS := hid (sA.ext e1)
  have hbase : wA.heap.size ≤ w1.heap.size := e1.size
  clear zA sA eA e1 own1
  generalize wA.heap.size = B at *
  have zB : Blk (w1.alloc (.cells #[.int .u8 128] 5)) w1.heap.size (([128] : List UInt8).map u8v) 5 := Blk.mk_alloc rfl rfl
  have eB : Ext w1 (w1.alloc (.cells #[.int .u8 128] 5)) := (Ext.refl w1).alloc _
  have HOB := hid (ownsRow_ext HO.out eB)
  have HZB := hid (HZ.out.ext eB)
  have HSB := hid (HS.out.ext eB)
  have HEB := hid (HE.out.ext eB)
  have hbB : B ≤ (w1.alloc (.cells #[.int .u8 128] 5)).heap.size := Nat.le_trans hbase eB.size
  go_wp2_with (at_builtin; refine wpl_append8 rfl _ _ rfl B (ys := [128]) rfl rfl HOB.out rfl (by intro h; cases h) (Cells.of_blk0 zB) (by omega) hbB ?_)
  generalize w1.alloc (.cells #[.int .u8 128] 5) = w2 at *
  intro v3 w3 own3 g3
  have HO3 := hid own3
  have hv3 := fun g' h => own_block_ge HOB.out g' h
  have HZ3 := hid (HZB.out.grown g3 (by intro h; have := hv3 _ h.symm; omega))
  have HS3 := hid (HSB.out.grown g3 (by intro h; have := hv3 _ h.symm; omega))
  have HE3 := hid (HEB.out.grown g3 (by intro k hk; have := hv3 _ hk; omega))
  have hb3 : B ≤ w3.heap.size := Nat.le_trans hbB g3.size
  clear own3 g3 hv3 zB eB HOB HZB HSB HEB hbB HO HZ HS HE hbase
  go_wp2
  go_loopw [6] (fun x wr => ∃ j : Nat, n + 1 + j ≤ n + 1 + (31 - n % 32) ∧ Hid (wr.ownsRow B 5 1 x (n + 1 + j) ((t ++ [128] ++ List.replicate j 0).map u8v)) ∧ Hid (Blk wr w.heap.size (List.replicate 64 (.int .u8 0)) 64) ∧ Hid (Blk wr (w.heap.size + 1) (s0.map u8v) 64) ∧ Hid (Ext w wr) ∧ B ≤ wr.heap.size)
    (fun x _ => n + 100 - sliceLen x)
  case atStart => exact ⟨0, by omega, hid (by rw [List.replicate_zero, List.append_nil, List.map_append]; exact HO3.out), HZ3, HS3, HE3, hb3⟩
  case round =>
    obtain ⟨j, hj, ho, hz, hs, he, hbw⟩ := hrel
    obtain ⟨a4, c4, rfl, hnc4, hcm4, h04, hcl4⟩ := own_slice ho.out
    have HC4 := hid hcl4
    have H04 := hid h04
    clear hcl4 h04
    obtain ⟨tj, htj⟩ : ∃ tj, t ++ [128] ++ List.replicate j 0 = tj := ⟨_, rfl⟩
    rw [htj] at ho HC4
    have HTJ := hid htj
    clear htj
    by_cases hlt : j < 31 - n % 32
    · have hr1 : ((n : Int) + 1 + j).tmod 32 = ((n : Int) + 1 + j) % 32 := Int.tmod_eq_emod_of_nonneg (by omega)
      have hr2 : (((n : Int) + 1 + j) % 32 != 0) = true := by rw [bne_iff_ne]; omega
      have zB : Blk (wr.alloc (.cells #[.int .u8 0] 5)) wr.heap.size (([0] : List UInt8).map u8v) 5 := Blk.mk_alloc rfl rfl
      have eB : Ext wr (wr.alloc (.cells #[.int .u8 0] 5)) := (Ext.refl wr).alloc _
      have HOB := hid (ownsRow_ext ho.out eB)
      have HZB := hid (hz.out.ext eB)
      have HSB := hid (hs.out.ext eB)
      have HEB := hid (he.out.ext eB)
      have hbB : B ≤ (wr.alloc (.cells #[.int .u8 0] 5)).heap.size := Nat.le_trans hbw eB.size
      go_wp2_with (at_builtin; refine wpl_append8 rfl _ _ rfl B (ys := [0]) rfl rfl HOB.out rfl (by intro h; cases h) (Cells.of_blk0 zB) (by omega) hbB ?_)
      generalize wr.alloc (.cells #[.int .u8 0] 5) = w4 at *
      intro v5 w5 own5 g5
      have HO5 := hid own5
      have hv5 := fun g' h => own_block_ge HOB.out g' h
      have HZ5 := hid (HZB.out.grown g5 (by intro h; have := hv5 _ h.symm; omega))
      have HS5 := hid (HSB.out.grown g5 (by intro h; have := hv5 _ h.symm; omega))
      have HE5 := hid (HEB.out.grown g5 (by intro k hk; have := hv5 _ hk; omega))
      have hb5 : B ≤ w5.heap.size := Nat.le_trans hbB g5.size
      obtain ⟨a6, c6, hv6, -, -, -, -⟩ := own_slice own5
      have HV6 := hid hv6
      clear own5 g5 hv5 zB eB HOB HZB HSB HEB hbB hv6
      go_wp2
      go_roundw
      case rel =>
        refine ⟨j + 1, by omega, hid ?_, HZ5, HS5, HE5, hb5⟩
        have h1 : t ++ [128] ++ List.replicate (j + 1) 0 = (t ++ [128] ++ List.replicate j 0) ++ [0] := by rw [List.replicate_succ', List.append_assoc (t ++ [128])]
        rw [h1, HTJ.out, List.map_append]; exact HO5.out
      case measure =>
        rw [HV6.out]; simp only [sliceLen]; omega
    · have hj' : j = 31 - n % 32 := by omega
      subst hj'
      have hpe : t ++ [128] ++ List.replicate (31 - n % 32) 0 = padT t := by rw [HP.out, List.append_assoc]; rfl
      have htp := HTJ.out
      rw [hpe] at htp
      subst htp
      obtain ⟨m0, hm0⟩ : ∃ m0, n + 1 + (31 - n % 32) = 32 * m0 := ⟨(n + 1 + (31 - n % 32)) / 32, by omega⟩
      have hplen : (padT t).length = 32 * m0 := by rw [← hpe, List.length_append, List.length_append, List.length_replicate, HT.out, ← hm0]; rfl
      have hm1 : 32 * m0 ≤ 1099511627776 + 32 := by omega
      rw [hm0] at ho hnc4
      rw [hm0]
      have hr1 : (32 * (m0 : Int)).tmod 32 = 0 := by
        rw [Int.tmod_eq_emod_of_nonneg (by omega)]; omega
      have hcut : (padT t).length / 32 + 1 = m0 + 1 := by omega
      rw [hcut] at HFB
      clear hcut hm0 hlt hj hpe HTJ HP
      generalize padT t = pt at *
      have HPL := hid hplen
      clear hplen
      go_wp2_with (at_builtin; refine wpl_append_zeros rfl _ _ rfl B (k := 24) rfl rfl ho.out (by omega) (by omega) hbw ?_)
      intro v6 w6 own6 g6
      have hv6 := fun g' h => own_block_ge ho.out g' h
      have HO6 : Hid (w6.ownsRow B 5 1 v6 (32 * m0 + 24) ((pt ++ List.replicate 24 0).map u8v)) := hid (by rw [List.map_append]; exact own6)
      have HZ6 := hid (hz.out.grown g6 (by intro h; have := hv6 _ h.symm; omega))
      have HS6 := hid (hs.out.grown g6 (by intro h; have := hv6 _ h.symm; omega))
      have HE6 := hid (he.out.grown g6 (by intro k hk; have := hv6 _ hk; omega))
      have hb6 : B ≤ w6.heap.size := Nat.le_trans hbw g6.size
      clear own6 g6 hv6 ho hz hs he hbw HC4 H04
      have hrep : pt ++ List.replicate 24 0 ++ ll = pt ++ (List.replicate 24 0 ++ ll) := List.append_assoc ..
      generalize hp24 : pt ++ List.replicate 24 0 = p24 at *
      have HREP := hid hrep
      clear hrep
      go_wp2_with fail
      refine (hlong w6).mono ?_
      rintro e w7 ⟨rfl, b7, e7⟩
      have HO7 := hid (ownsRow_ext HO6.out e7)
      have HZ7 := hid (HZ6.out.ext e7)
      have HS7 := hid (HS6.out.ext e7)
      have HE7 := hid (HE6.out.ext e7)
      have hb7 : B ≤ w7.heap.size := Nat.le_trans hb6 e7.size
      go_wp2_with (at_builtin; refine wpl_append8 rfl _ _ rfl B (ys := ll) rfl rfl HO7.out HLL.out (by intro h; cases h) (Cells.of_blk0 b7) (by omega) hb7 ?_)
      intro v8 w8 own8 g8
      have hv8 := fun g' h => own_block_ge HO7.out g' h
      have HZ8 := hid (HZ7.out.grown g8 (by intro h; have := hv8 _ h.symm; omega))
      have HS8 := hid (HS7.out.grown g8 (by intro h; have := hv8 _ h.symm; omega))
      have HE8 := hid (HE7.out.grown g8 (by intro k hk; have := hv8 _ hk; omega))
      have own9 : w8.ownsRow B 5 1 v8 (32 * (m0 + 1)) ((pt ++ (List.replicate 24 0 ++ ll)).map u8v) := by
        rw [← HREP.out, List.map_append, show 32 * (m0 + 1) = 32 * m0 + 24 + 8 by omega]; simpa using own8
      have hbl : (pt ++ (List.replicate 24 0 ++ ll)).length = 32 * (m0 + 1) := by
        rw [List.length_append, List.length_append, List.length_replicate, HPL.out, HLL.out]; omega
      generalize pt ++ (List.replicate 24 0 ++ ll) = bb at *
      obtain ⟨a9, c9, rfl, hnc9, hcm9, h09, hcl9⟩ := own_slice own9
      have haw9 := own_away own9
      have HBL := hid hbl
      have HC9 := hid hcl9
      have H09 := hid h09
      have HA9 := hid haw9
      clear own8 g8 hv8 own9 hcl9 h09 haw9 b7 e7 HO7 HZ7 HS7 HE7 HO6 HZ6 HS6 HE6 hb6 hb7 hp24 HREP HPL hbl hr1
      unfold maxLen at hcm9
      go_wp2
      clear hnc4 hcm4 HO3 HZ3 HS3 HE3 hb3
      go_loopw [6] (fun x wr => ∃ (k n' c' : Nat) (a' : Option Addr), x = .slice a' n' c' ∧ n' + 32 * k = 32 * (m0 + 1) ∧ n' ≤ c' ∧ c' ≤ 9223372036854775807 ∧ Hid (a' = none → c' = 0) ∧ Hid (∀ x, a' = some x → B ≤ x.block) ∧
          Hid (Cells wr a' ((bb.drop (32 * k)).map u8v)) ∧ Hid (Blk wr (w.heap.size + 1) ((absN s0 bb k).map u8v) 64) ∧ Hid (Blk wr w.heap.size (List.replicate 64 (.int .u8 0)) 64) ∧ Hid (Ext w wr))
        (fun x _ => sliceLen x)
      case atStart => exact ⟨0, _, c9, a9, rfl, by omega, hnc9, by omega, H09, HA9, hid (by rw [Nat.mul_zero, List.drop_zero]; exact HC9.out), HS8, HZ8, HE8⟩
      case round =>
        obtain ⟨k, n', c', a', rfl, hk, hnc', hcc', h0', ha', hc', hs', hz', he'⟩ := hrel
        by_cases hpos : 0 < n'
        · have hd : decide ((0 : Int) < (n' : Int)) = true := decide_eq_true (by omega)
          have hlt : 32 ≤ n' := by omega
          have hlen : (bb.drop (32 * k)).length = n' := by rw [List.length_drop, HBL.out]; omega
          have hne : a' ≠ none := fun e => by have := h0'.out e; omega
          obtain ⟨gb, off, rfl, hcell⟩ := hc'.out.some_of (by rw [List.length_map, hlen]; omega)
          have hgb : B ≤ gb := ha'.out _ rfl
          obtain ⟨ch, hch⟩ : ∃ ch, (bb.drop (32 * k)).take 32 = ch := ⟨_, rfl⟩
          have hsrc : ∀ i, i < 32 → wr.cell? ⟨gb, off + i, none⟩ = some (.int .u8 ((ch[i]?.getD 0).toNat : Int)) := by
            intro i hi
            refine hcell i _ ?_
            rw [← hch, List.getElem?_take_of_lt hi]
            exact u8_at (by omega)
          have hstep : absN s0 bb (k + 1) = absorb (absN s0 bb k) ch := by rw [absN, hch]
          have HST := hid hstep
          have hsl : (absN s0 bb k).length = 64 := absN_length HI.out k
          generalize absN s0 bb k = sk at *
          have HSL := hid hsl
          have HSR := hid hsrc
          clear hsrc hcell hne hstep hsl hch
          go_wp2
          go_loopw [32] (fun x wi => ∃ i : Nat, i ≤ 32 ∧ x = .int .i64 i ∧ Hid (Blk wi (w.heap.size + 1) ((mixTo sk ch i).map u8v) 64) ∧ Hid (wr.grownBy wi (some (w.heap.size + 1))))
            (fun x _ => 32 - (intOf x).toNat)
          case atStart => exact ⟨0, by omega, rfl, hs', hid (grown_refl _ _)⟩
          case round =>
            obtain ⟨i, hi, rfl, q1, q2⟩ := hrel
            by_cases hlti : i < 32
            · have hdi : decide ((i : Int) < 32) = true := decide_eq_true (by omega)
              have hgne : some gb ≠ some (w.heap.size + 1) := by intro e; injection e; omega
              have hs0 := HSR.out i hlti
              have hgl := block_lt_of_cell hs0
              have c1 : ∀ nq, (wr.drewN nq).cell? ⟨gb, off + i, none⟩ = some (.int .u8 ((ch[i]?.getD 0).toNat : Int)) := fun nq => by
                rw [← hs0]; exact World.cell?_of_block (q2.out.block gb hgl hgne)
              have i0 : (0 : Int) ≤ (i : Int) := by omega
              have i1 : (i : Int) < 32 := by omega
              have i2 : (i : Int) < 64 := by omega
              have i3 : (i : Int) < (n' : Int) := by omega
              have hlenm : (mixTo sk ch i).length = 64 := by rw [mixTo_length]; exact HSL.out
              have hmx : mixTo sk ch (i + 1) = (mixTo sk ch i).set i (xor8 ((mixTo sk ch i)[i]?.getD 0) (ch[i]?.getD 0)) := rfl
              generalize mixTo sk ch i = ws at *
              have HMX := hid hmx
              have HQ1 := hid q1.out
              have c2 : ∀ nq, (wr.drewN nq).cell? ⟨w.heap.size + 1, i, none⟩ = some (.int .u8 ((ws[i]?.getD 0).toNat : Int)) := fun nq => (HQ1.out.drewN (n := nq)).cell' (u8_at (by omega))
              have f2 : ∀ nq, (wr.drewN nq).frozen? ⟨w.heap.size + 1, i, none⟩ = false := fun nq => (HQ1.out.drewN (n := nq)).frozen i
              have hxo := xor8_b (ws[i]?.getD 0) (ch[i]?.getD 0)
              clear hmx hs0 hgl
              go_wp2
              refine wp_region_cls (C := fun w' => ∃ n, w' = wr.drewN n) 9 (by kernel_rfl) (by kernel_rfl) ⟨1, rfl⟩ ?_
              simp only [List.take_succ_cons, List.take_zero, List.drop_succ_cons, List.drop_zero]
              iterate 9 quiet_step (fail)
              refine wpQuiet_nil ?_
              rintro _ ⟨nq, rfl⟩
              go_wp2
              have q1' := (HQ1.out.drewN (n := nq)).set i (u8v (xor8 (ws[i]?.getD 0) (ch[i]?.getD 0)))
              rw [← List.map_set, ← HMX.out] at q1'
              have q2' := grown_set (grown_drewN q2.out nq) i (.int .u8 ((xor8 (ws[i]?.getD 0) (ch[i]?.getD 0)).toNat : Int))
              go_roundw
              case rel => exact ⟨i + 1, by omega, by go_num, hid q1', hid q2'⟩
              case measure => simp [intOf]; omega
            · have hi32 : i = 32 := by omega
              subst hi32
              have hml : ((mixTo sk ch 32).map u8v).length = 64 := by rw [List.length_map, mixTo_length]; exact HSL.out
              go_wp2_with (refine wpl_loadw rfl _ _ rfl rfl q1.out agg_state hml ?_)
              refine (rstir_c (mixTo sk ch 32) (by rw [mixTo_length]; exact HSL.out) wr).mono ?_
              rw [show stirL (mixTo sk ch 32) = absorb sk ch from rfl, ← HST.out]
              rintro e w1 ⟨rfl, e1⟩
              have hla : ((absN s0 bb (k + 1)).map u8v).length = 64 := by rw [List.length_map]; exact absN_length HI.out _
              generalize hr : absN s0 bb (k + 1) = r at *
              go_wp2_with (refine wpl_storew rfl _ _ _ rfl rfl rfl (q1.out.ext e1) agg_state hml hla (one_u8 _) ?_)
              intro w2 b2 u2
              have gr := grown_upd (grown_ext q2.out e1) u2
              have HB2 := hid b2
              have HC2 := hid (hc'.out.grown gr (by intro x hx; cases hx; intro e; injection e with e; simp only at e; omega))
              have HZ2 := hid (hz'.out.grown gr (by intro e; injection e with e; omega))
              have HE2 := hid (he'.out.grown gr (by intro k' hk'; cases hk'; omega))
              have HR := hid hr
              clear b2 u2 gr e1 hr
              go_wp2_with (refine wpl_slice_low rfl _ _ _ _ rfl (k := 32) rfl rfl Tryd.underlying44 size_u8 hlt ?_)
              go_roundw
              case rel =>
                refine ⟨k + 1, n' - 32, c' - 32, _, rfl, by omega, by omega, by omega, hid fun e => ?_, hid ?_, hid ?_, by rw [HR.out]; exact HB2, HZ2, HE2⟩
                · have := h0'.out (shift_nil.1 e); omega
                · intro x hx
                  have h1 := shift_away (r := some (x.block)) (c := c') (k := 32) (a := some ⟨gb, off, none⟩)
                  by_cases hbx : gb = x.block
                  · omega
                  · exact absurd rfl (h1 (by intro y hy; cases hy; intro e; injection e with e; exact hbx e) x hx)
                · have h1 := HC2.out.shift c' 32 (n' - 32) (by omega)
                  rw [← List.map_drop, List.drop_drop, List.take_of_length_le (by rw [List.length_map, List.length_drop, HBL.out]; omega)] at h1
                  rwa [show 32 * k + 32 = 32 * (k + 1) by omega] at h1
              case measure => simp [sliceLen]; omega
        · have hn0 : n' = 0 := by omega
          subst hn0
          have hkm : k = m0 + 1 := by omega
          subst hkm
          rw [← HFB.out] at hs'
          have HLF := HFL
          have h1f := one_u8 fin
          generalize hfv : fin.map u8v = fv at *
          have HFV := hid hfv
          clear hfv
          go_wp2_with (first | (refine wpl_loadw rfl _ _ rfl rfl hs'.out agg_state HLF.out ?_) | (refine wpl_storew rfl _ _ _ rfl rfl rfl hz'.out agg_state rfl HLF.out h1f ?_))
          intro w5 b5 u5
          go_wp2
          refine ret_row rfl rfl b5 agg_state HLF.out rfl ⟨by rw [HFV.out], u5.ext he'.out (Nat.le_refl _)⟩
end

section
open Go Go.RowKit

set_option maxRecDepth 100000 in
set_option maxHeartbeats 1000000 in
theorem rsum_c (d : Int) (t : List UInt8) (n c : Nat) (a : Option Addr) (w : World) (hd0 : 0 ≤ d) (hd1 : d ≤ 255) (ht : t.length = n) (hn : n ≤ 1099511627776) (hcl : Cells w a (t.map u8v)) :
    Calls Tryd.prog 33 #[.int .i64 d, .slice a n c] w fun e w' => e = .returned (.agg ((sumL d t).map u8v).toArray) ∧ Ext w w' := by
  have HC := hid hcl
  have hst := fun w' (h : Cells w' a (t.map u8v)) => rstate_c d t n c a w' hd0 hd1 ht hn h
  have HFL : Hid (((finL (initS d) t n).map u8v).length = 64) := hid (by rw [List.length_map, finL_length])
  have HSU : Hid (((sumL d t).map u8v).length = 32) := hid (by rw [List.length_map, sumL_length])
  have HTK : Hid (((finL (initS d) t n).map u8v).take 32 = (sumL d t).map u8v) := hid (by rw [sumL, ht, List.map_take])
  have h1 := one_u8 (finL (initS d) t n)
  have h2 := one_u8 (sumL d t)
  generalize hsv : (sumL d t).map u8v = sv at *
  generalize (finL (initS d) t n).map u8v = fv at *
  clear hcl hsv ht
  go_enter Tryd.func33, Tryd.ntmps33
  go_wp2_with fail
  generalize hwA : World.alloc w _ = wA
  have zA : Blk wA w.heap.size (List.replicate 32 (.int .u8 0)) 31 := by rw [← hwA]; exact Blk.mk_alloc rfl rfl
  have eA : Ext w wA := by rw [← hwA]; exact (Ext.refl w).alloc _
  clear hwA
  refine (hst _ (HC.out.ext eA)).mono ?_
  rintro e w1 ⟨rfl, e1⟩
  have HZ := hid (zA.ext e1)
  have HE := hid (eA.ext e1)
  have l1 : w.heap.size < w1.heap.size := HZ.out.lt
  clear zA eA e1
  go_wp2_with (refine wpl_storew rfl _ _ _ rfl rfl rfl (Blk.mk_alloc rfl rfl) agg_state rfl HFL.out h1 ?_)
  intro w2 b2 u2
  have e2 : Ext w1 w2 := u2.ext ((Ext.refl w1).alloc _) (Nat.le_refl _)
  have HZ2 := hid (HZ.out.ext e2)
  have HE2 := hid (HE.out.ext e2)
  have HB2 := hid b2
  clear e2 u2 b2
  go_wp2
  refine wp_region_cls (C := fun w' => ∃ n, w' = w2.drewN n) 2 (by kernel_rfl) (by kernel_rfl) ⟨1, rfl⟩ ?_
  simp only [List.take_succ_cons, List.take_zero, List.drop_succ_cons, List.drop_zero]
  iterate 2 quiet_step (fail)
  refine wpQuiet_nil ?_
  rintro _ ⟨nq, rfl⟩
  have hcc : Cells (w2.drewN nq) (some ⟨w1.heap.size, 0, none⟩) sv := by
    have := Cells.of_blk0 (HB2.out.drewN (n := nq))
    have h3 := this.take 32
    rwa [HTK.out] at h3
  have HCC := hid hcc
  clear hcc
  go_wp2_with (first | (refine wpl_copyc rfl _ _ _ _ rfl rfl rfl (HZ2.out.drewN (n := nq)) Tryd.underlying44 size_u8 HSU.out rfl (fun e => by cases e) HCC.out (by simp) h2 ?_))
  intro w3 b3 u3
  have hsp : splice (List.replicate 32 (.int .u8 0)) 0 sv = sv := by
    unfold splice
    rw [List.take_zero, List.nil_append, List.drop_of_length_le (by rw [HSU.out]; simp), List.append_nil]
  change Blk w3 _ (splice (List.replicate 32 (.int .u8 0)) 0 sv) _ at b3
  rw [hsp] at b3
  have HE3 := hid (u3.ext (HE2.out.drewN nq) (Nat.le_refl _))
  clear hsp u3
  go_wp2_with (first | (refine wpl_loadw rfl _ _ rfl rfl b3 agg_apisum HSU.out ?_) | (refine wpl_storew rfl _ _ _ rfl rfl rfl b3 agg_apisum HSU.out HSU.out h2 ?_))
  intro w4 b4 u4
  go_wp2
  refine ret_row rfl rfl b4 agg_apisum HSU.out rfl ⟨rfl, u4.ext HE3.out (Nat.le_refl _)⟩
end

section
open Go Go.RowKit

/-- the end of a function whose first result lies in a block of its own, the second in a slot -/
theorem ret_row2 {P : Program} {fn : Func} {R : Ending → World → Prop} {a : Act} {w : World} {p u : Tmp} {ty : TypeId} {g : Nat} {vs : List Value} {T : TypeId}
    (hres : fn.results = #[.cell p ty, .tmp u]) (hp : a.tmps.getD p undef = .pointer (some ⟨g, 0, none⟩)) (hb : Blk w g vs T)
    {n : Nat} (ht : AggT P ty n) (hn : vs.length = n)
    (hdef : a.defers = []) (hR : R (.returned (.tuple #[.agg vs.toArray, a.tmps.getD u undef])) w) : bodyPost P fn R .ret a w := by
  have h1 := run_load_sub (P := P) (off := 0) hb ht (by omega)
  have h2 : (vs.drop 0).take n = vs := by simp [← hn]
  rw [h2] at h1
  refine bodyPost_ret ?_ hdef hR
  rw [results_cell_tmp hres, hp]
  simp [asAddr, h1]

theorem wpl_loadc {P : Program} {ops : Array Oper} {rest : List Oper} {o : Oper} {a : Act} {w : World} {Q : Exit → Act → World → Prop} (hgd : o.guard = none) (ty : TypeId) (x : Operand) (ho : o.op = .load ty x) {b off n : Nat} {vs : List Value}
    (hx : a.eval x = .pointer (some ⟨b, off, none⟩)) (hb : ∀ j u, vs[j]? = some u → w.cell? ⟨b, off + j, none⟩ = some u) (ht : AggT P ty n) (hn : vs.length = n)
    (h : wpList P ops Q rest (a.put o.dst (.agg vs.toArray)) w) : wpList P ops Q (o :: rest) a w :=
  wpList_plain hgd fun K hK => by
    unfold Oper.wp execOp
    simp only [ho, hx, Instr.loadAt, Instr.sureAddr, Sem.run_bind, Sem.run_pure, Result.andThen_ok, run_load_cells hb ht hn]
    exact hK _ _ h

def takeV (l : List UInt8) (n m : Nat) (at_ : Int) : Value :=
  if roomE n at_ m = 0 then .tuple #[.agg (((l.drop at_.toNat).take m).map u8v).toArray, .int .i64 0] else .tuple #[.agg (List.replicate m (.int .u8 0)).toArray, .int .i64 (roomE n at_ m)]
end

section
open Go Go.RowKit

/-- the tag of a text -/
def tagL (k t : List UInt8) : List UInt8 := (sumL 8 (k ++ t)).take 16
theorem tagL_length (k t : List UInt8) : (tagL k t).length = 16 := by rw [tagL, List.length_take, sumL_length]; rfl
def sealL (k t : List UInt8) : List UInt8 := stirL (finL (initS 9) (k ++ t) (k ++ t).length)
theorem sealL_length (k t : List UInt8) : (sealL k t).length = 64 := stirL_length _

theorem nil0 {w : World} {a : Option Addr} {t : List UInt8} {n c : Nat} (hcl : Cells w a (t.map u8v)) (ht : t.length = n) (h0 : a = none → c = 0) : a = none → n = 0 ∧ c = 0 := by
  intro e
  refine ⟨?_, h0 e⟩
  rcases hcl with h | ⟨b, o, h, _⟩
  · have h1 := congrArg List.length h
    rw [List.length_map, ht] at h1
    exact h1
  · rw [e] at h; cases h

def zeros (n : Nat) : Value := .agg (List.replicate n (.int .u8 0)).toArray
theorem one_zeros (n : Nat) : ∀ v ∈ List.replicate n (Value.int .u8 0), v.oneCell' = true := by intro v hv; rw [List.mem_replicate] at hv; rw [hv.2]; rfl
end

section
open Go Go.RowKit
end

section
open Go Go.RowKit

/-- block i of a stream -/
def blkL (k n : List UInt8) (i : Nat) : List UInt8 := stirL (k ++ n ++ List.replicate 8 0 ++ longL (UInt64.ofNat i))
theorem blkL_length (k n : List UInt8) (i : Nat) : (blkL k n i).length = 64 := stirL_length _
/-- the octets of a stream from a place on -/
def strmL (k n : List UInt8) (a m : Nat) : List UInt8 := (List.range m).map fun j => (blkL k n ((a + j) / 64))[(a + j) % 64]?.getD 0
theorem strmL_length (k n : List UInt8) (a m : Nat) : (strmL k n a m).length = m := by simp [strmL]
theorem strmL_more (k n : List UInt8) (a m c : Nat) (hc : (a + m) % 64 + c ≤ 64) :
    strmL k n a (m + c) = strmL k n a m ++ ((blkL k n ((a + m) / 64)).drop ((a + m) % 64)).take c := by
  apply List.ext_getElem?
  intro j
  rw [List.getElem?_append, strmL_length]
  unfold strmL
  by_cases h1 : j < m
  · rw [if_pos h1, List.getElem?_map, List.getElem?_map, List.getElem?_range h1, List.getElem?_range (by omega)]
  · rw [if_neg h1]
    by_cases h2 : j < m + c
    · rw [List.getElem?_map, List.getElem?_range h2, List.getElem?_take_of_lt (by omega), List.getElem?_drop]
      have e1 : (a + j) / 64 = (a + m) / 64 := by omega
      have e2 : (a + j) % 64 = (a + m) % 64 + (j - m) := by omega
      simp only [Option.map_some, e1, e2]
      have hl := blkL_length k n ((a + m) / 64)
      rw [List.getElem?_eq_getElem (by omega)]
      rfl
    · rw [List.getElem?_eq_none (by simp; omega), List.getElem?_eq_none (by rw [List.length_take, List.length_drop, blkL_length]; omega)]

theorem zer8 : List.replicate 8 (Value.int .u8 0) = (List.replicate 8 (0 : UInt8)).map u8v := by simp [u8v]

theorem splice3 (k n l : List Value) (hk : k.length = 32) (hn : n.length = 16) (hl : l.length = 8) :
    splice (splice (splice (List.replicate 64 (.int .u8 0)) 0 k) 32 n) 56 l = k ++ n ++ List.replicate 8 (.int .u8 0) ++ l := by
  have h1 : splice (List.replicate 64 (.int .u8 0)) 0 k = k ++ List.replicate 32 (.int .u8 0) := by
    unfold splice
    rw [List.take_zero, List.nil_append, Nat.zero_add, hk, List.drop_replicate]
  have h2 : splice (k ++ List.replicate 32 (Value.int .u8 0)) 32 n = k ++ n ++ List.replicate 16 (.int .u8 0) := by
    unfold splice
    rw [List.take_append_of_le_length (by omega), List.take_of_length_le (by omega), hn, List.drop_append, List.drop_of_length_le (by omega), List.nil_append, hk, List.drop_replicate]
  have hkn : (k ++ n).length = 48 := by rw [List.length_append, hk, hn]
  rw [h1, h2]
  unfold splice
  rw [hl, List.take_append, List.take_of_length_le (by omega), hkn, List.drop_append, List.drop_of_length_le (by omega), hkn, List.nil_append, List.take_replicate, List.drop_replicate]
  simp
end

section
open Go Go.RowKit

def streamPost (k n : List UInt8) (a m : Int) (w : World) (e : Ending) (w' : World) : Prop :=
  (if a < 0 ∨ 1099511627776 < a ∨ m < 0 then e = .returned (.tuple #[.slice none 0 0, .int .i64 4])
  else if 1048576 < m then e = .returned (.tuple #[.slice none 0 0, .int .i64 5])
  else ∃ v, e = .returned (.tuple #[v, .int .i64 0]) ∧ w'.ownsRow w.heap.size 5 1 v m.toNat ((strmL k n a.toNat m.toNat).map u8v)) ∧ Ext w w'
end

section
open Go Go.RowKit

theorem own_some {w : World} {B n : Nat} {v : Value} {xs : List Value} (h : w.ownsRow B 5 1 v n xs) (hn : 0 < n) :
    ∃ g cap, v = .slice (some ⟨g, 0, none⟩) n cap ∧ B ≤ g ∧ n ≤ cap ∧ cap ≤ maxLen := by
  rcases h.2 with ⟨_, h0⟩ | ⟨g, cap, cur, h1, h2, _, h4, h5, _⟩
  · omega
  · exact ⟨g, cap, h1, h2, h4, h5⟩

/-- a text, covered -/
def coverL (k n t : List UInt8) : List UInt8 := mixTo (strmL k n 0 t.length) t t.length
theorem coverL_length (k n t : List UInt8) : (coverL k n t).length = t.length := by rw [coverL, mixTo_length, strmL_length]
end

section
open Go Go.RowKit

theorem own_block_lt {w : World} {B : Nat} {e : TypeId} {size n : Nat} {v : Value} {xs : List Value} (h : w.ownsRow B e size v n xs) : ∀ g, v.ownBlock = some g → g < w.heap.size := by
  intro g hg
  rcases h.2 with ⟨rfl, _⟩ | ⟨g', cap, cur, rfl, hb, hc, _⟩
  · cases hg
  · simp [Value.ownBlock] at hg
    subst hg
    exact (Array.getElem?_eq_some_iff.1 hc).1
end

section
open Go Go.RowKit

theorem mixTo_get (s t : List UInt8) (i j : Nat) : (mixTo s t i)[j]? = if j < i then (s[j]?).map (fun x => xor8 x (t[j]?.getD 0)) else s[j]? := by
  induction i generalizing j with
  | zero => simp [mixTo]
  | succ i ih =>
    rw [mixTo, List.getElem?_set, mixTo_length]
    by_cases h : i = j
    · subst h
      by_cases hl : i < s.length
      · simp [ih, hl]
      · simp [hl]
    · rw [if_neg h, ih]
      by_cases h1 : j < i
      · rw [if_pos h1, if_pos (by omega)]
      · rw [if_neg h1, if_neg (by omega)]
theorem cover_twice (k n t : List UInt8) : coverL k n (coverL k n t) = t := by
  apply List.ext_getElem?
  intro j
  have hl := coverL_length k n t
  have hs := strmL_length k n 0 t.length
  rw [coverL, hl, mixTo_get]
  by_cases hj : j < t.length
  · have h1 : t[j]? = some t[j] := List.getElem?_eq_getElem hj
    have h2 : (strmL k n 0 t.length)[j]? = some ((strmL k n 0 t.length)[j]'(by omega)) := List.getElem?_eq_getElem (by omega)
    rw [if_pos hj, coverL, mixTo_get, if_pos hj, h1, h2]
    simp only [Option.map_some, Option.getD_some, xor8]
    congr 1
    rw [← UInt8.xor_assoc]; simp
  · rw [if_neg hj, List.getElem?_eq_none (by omega), List.getElem?_eq_none (by omega)]
end

section
open Go Go.RowKit

theorem eq_arr {t : TypeId} {n : Nat} (ht : Tryd.prog.underlying t = some (.array n 5)) (xs ys : List UInt8) (hx : xs.length = n) (hy : ys.length = n) (w : World) :
    (binOp .eql t (.agg (xs.map u8v).toArray) (.agg (ys.map u8v).toArray)).run Tryd.prog w = .ok (.bool (xs == ys)) w :=
  run_eql_bytes w t 5 n ht Tryd.underlying5 (fun w => by kernel_rfl) xs ys hx hy
theorem neq_arr {t : TypeId} {n : Nat} (ht : Tryd.prog.underlying t = some (.array n 5)) (xs ys : List UInt8) (hx : xs.length = n) (hy : ys.length = n) (w : World) :
    (binOp .neq t (.agg (xs.map u8v).toArray) (.agg (ys.map u8v).toArray)).run Tryd.prog w = .ok (.bool (!(xs == ys))) w := by
  have h := run_equalIn_bytes w 9998 t 5 n ht Tryd.underlying5 (fun w => by kernel_rfl) xs ys hx hy
  rw [run_neq_struct]
  have h2 : (Op.equalIn 10000 t (.agg (xs.map u8v).toArray) (.agg (ys.map u8v).toArray)).run Tryd.prog w = .ok (xs == ys) w := h
  rw [h2]; rfl
theorem eq_self {t : TypeId} {n : Nat} (ht : Tryd.prog.underlying t = some (.array n 5)) (xs : List UInt8) (hx : xs.length = n) (w : World) :
    (binOp .eql t (.agg (xs.map u8v).toArray) (.agg (xs.map u8v).toArray)).run Tryd.prog w = .ok (.bool true) w := by
  rw [eq_arr ht xs xs hx hx]; simp
end

section
open Go Go.RowKit

theorem guard_sum : Tryd.prog.eqGuardType Tryd.prog.depth 31 = false := by kernel_rfl
end

section
open Go Go.RowKit

section
variable {P : Program} {ops : Array Oper} {rest : List Oper} {o : Oper} {a : Act} {w : World} {Q : Exit → Act → World → Prop}
theorem wpList_want (hw : Region.wanted o (yielded ops a.tmps) = true) (h : ∀ K : Act → World → Prop, (∀ a w, wpList P ops Q rest a w → K a w) → o.wp P a w K Q) : wpList P ops Q (o :: rest) a w :=
  wpList_step fun K hK => by rw [if_pos hw]; exact h K hK
/-- a load that stands behind a guard -/
theorem wpg_loadw (hw : Region.wanted o (yielded ops a.tmps) = true) (ty : TypeId) (x : Operand) (ho : o.op = .load ty x) {g : Nat} {vs : List Value} {T : TypeId}
    (hx : a.eval x = .pointer (some ⟨g, 0, none⟩)) (hb : Blk w g vs T) {n : Nat} (ht : AggT P ty n) (hn : vs.length = n)
    (h : wpList P ops Q rest (a.put o.dst (.agg vs.toArray)) w) : wpList P ops Q (o :: rest) a w :=
  wpList_want hw fun K hK => by
    have h1 := run_load_sub (P := P) (off := 0) hb ht (by omega)
    have h2 : (vs.drop 0).take n = vs := by simp [← hn]
    rw [h2] at h1
    unfold Oper.wp execOp
    simp only [ho, hx, Instr.loadAt, Instr.sureAddr, Sem.run_bind, Sem.run_pure, Result.andThen_ok, h1]
    exact hK _ _ h
/-- a comparison of arrays, whether behind a guard or not -/
theorem wpg_cmp (hw : Region.wanted o (yielded ops a.tmps) = true) (op : BinOp) (t u : TypeId) (x y : Operand) (ho : o.op = .binOp op t x y u) {xs ys : Array Value} {b : Value} (hx : a.eval x = .agg xs) (hy : a.eval y = .agg ys)
    (hg : P.eqGuardType P.depth t = false) (hr : ∀ w, (binOp op t (.agg xs) (.agg ys)).run P w = .ok b w)
    (h : wpList P ops Q rest (a.put o.dst b) w) : wpList P ops Q (o :: rest) a w :=
  wpList_want hw fun K hK => by
    unfold Oper.wp execOp
    simp only [ho, hx, hy, Sem.run_bind, run_eqGuard_agg w op t x y xs ys hg, Result.andThen_ok, hr, Sem.run_pure]
    exact hK _ _ h
end
theorem zeros_u8 (n : Nat) : List.replicate n (Value.int .u8 0) = (List.replicate n (0 : UInt8)).map u8v := by simp [u8v]
end

section
open Go Go.RowKit

theorem addr_add0 (x : Addr) : x.add 0 = x := by unfold Addr.add; split <;> simp_all
section
variable {P : Program} {ops : Array Oper} {rest : List Oper} {o : Oper} {a : Act} {w : World} {Q : Exit → Act → World → Prop}
theorem run_sliceAt_high {t e : TypeId} {p : Option Addr} {n c k : Nat} (hu : P.underlying t = some (.slice e)) (hs : (P.info? e).map (·.size) = some 1) (hk : k ≤ c) :
    (Instr.sliceAt t (.slice p n c) none (some (.int .i64 (k : Int))) none).run P w = .ok (.slice p k c) w := by
  cases hq : P.info? e with
  | none => simp [hq] at hs
  | some i =>
    have hi : i.size = 1 := by simpa [hq] using hs
    have h1 : (0 : Int) ≤ k ∧ (k : Int) ≤ c := by omega
    have ha : p.map (fun x => x.add 0) = p := by cases p <;> simp [addr_add0]
    simp [Instr.sliceAt, Instr.slice, Instr.sliceBounds, Instr.sliceBound, asIntOf, run_underlying hu, sizeOf, typeInfo, hq, hi, hk, ha]
/-- b[:k] -/
theorem wpl_slice_high (hgd : o.guard = none) (t e : TypeId) (x y : Operand) (ho : o.op = .slice t x none (some y) none) {p : Option Addr} {n c k : Nat}
    (hx : a.eval x = .slice p n c) (hy : a.eval y = .int .i64 (k : Int)) (hu : P.underlying t = some (.slice e)) (hs : (P.info? e).map (·.size) = some 1) (hk : k ≤ c)
    (h : wpList P ops Q rest (a.put o.dst (.slice p k c)) w) : wpList P ops Q (o :: rest) a w :=
  wpList_plain hgd fun K hK => by
    unfold Oper.wp execOp
    simp only [ho, hx, hy, Option.map_some, Option.map_none, run_sliceAt_high hu hs hk, Result.andThen_ok, Sem.run_bind, Sem.run_pure]
    exact hK _ _ h
end
end

section
open Go Go.RowKit

theorem ok_block {r : Result Value} {v v' : Value} {w w' : World} {x : Option Nat} (h1 : r = .ok v w) (h2 : r = .ok v' w') (hv : v.ownBlock = x) : v'.ownBlock = x := by
  rw [h1] at h2
  injection h2 with e1 e2
  rw [← e1, hv]

theorem append8_block (w : World) (B : Nat) (ty : TypeId) {v : Value} {n m c : Nat} {xs ys : List UInt8} {y : Addr} (hown : w.ownsRow B 5 1 v n (xs.map u8v)) (hm : ys.length = m) (hc : Cells w (some y) (ys.map u8v))
    (hb : n + m ≤ 140737488355328) (hbase : B ≤ w.heap.size) :
    ∃ v' w', (Builtin.append_ #[44, 44] ty #[v, .slice (some y) m c]).run Tryd.prog w = .ok v' w' ∧ w'.ownsRow B 5 1 v' (n + m) ((xs ++ ys).map u8v) ∧ w.grownBy w' v.ownBlock ∧
      (v'.ownBlock = v.ownBlock ∨ v'.ownBlock = some w.heap.size) := by
  obtain ⟨i0, hi, hz, hsz, hb1⟩ := info_parts info_u8
  have hl : (ys.map u8v).length = m * 1 := by rw [List.length_map, hm, Nat.mul_one]
  have hl' : (ys.map u8v).length = m * i0.size := by rw [hsz]; exact hl
  obtain ⟨v', w', hr, h1, h2, h3⟩ := run_append_own (P := Tryd.prog) w B 44 ty 5 i0 (.int .u8 0) 1 1 Tryd.underlying44 hi hz hsz hb1 rfl (by decide) v n (xs.map u8v) hown y m c (ys.map u8v) hl (news_cells hc) (one_u8 _) (by unfold maxLen; omega) (by omega) hbase
  refine ⟨v', w', hr, by rw [List.map_append]; exact h1, h2, ?_⟩
  rcases hown.2 with ⟨rfl, rfl⟩ | ⟨g, cap, cur, rfl, hbg, hg, hnc, hcm, hcs, htake⟩
  · by_cases hm0 : m = 0
    · left
      rw [h3.2 ⟨rfl, hm0⟩]
    · right
      have hr2 := run_append_nil (P := Tryd.prog) w 44 ty 5 i0 (.int .u8 0) Tryd.underlying44 hi hz y m c (ys.map u8v) hl' (news_cells hc) (by omega) (by omega) (by rw [hb1]; omega)
      exact ok_block hr2 hr rfl
  · by_cases hroom : n + m ≤ cap
    · left
      obtain ⟨w2, hr2, _⟩ := run_append_fits (P := Tryd.prog) w B 44 ty 5 i0 1 Tryd.underlying44 hi hsz g n cap (xs.map u8v) hown y m c (ys.map u8v) hl (news_cells hc) (one_u8 _) hroom
      exact ok_block hr2 hr rfl
    · right
      have hr2 := run_append_grow (P := Tryd.prog) w 44 ty 5 i0 (.int .u8 0) Tryd.underlying44 hi hz ⟨g, 0, none⟩ n cap (xs.map u8v) (by rw [hsz]; exact hown.1) (hown.cells (g := g) rfl) y m c (ys.map u8v) hl' (news_cells hc) (by omega) (by omega) (growslice_fits (by omega) (by rw [hb1]; omega))
      exact ok_block hr2 hr rfl

section
variable {ops : Array Oper} {rest : List Oper} {o : Oper} {a : Act} {w : World} {Q : Exit → Act → World → Prop}
/-- append onto a row of one's own, whether behind a guard or not -/
theorem wpg_append8 (hw : Region.wanted o (yielded ops a.tmps) = true) (s x : Operand)
    (ho : o.op = .call { callee := .builtin .append, args := #[s, x], argTypes := #[44, 44] }) (base : Nat) {v : Value} {n m c : Nat} {xs ys : List UInt8} {ad : Option Addr}
    (hs : a.eval s = v) (hx : a.eval x = .slice ad m c) (hown : w.ownsRow base 5 1 v n (xs.map u8v)) (hm : ys.length = m) (had : ad = none → m = 0 ∧ c = 0) (hc : Cells w ad (ys.map u8v))
    (hb : n + m ≤ 140737488355328) (hbase : base ≤ w.heap.size)
    (h : ∀ v' w', w'.ownsRow base 5 1 v' (n + m) ((xs ++ ys).map u8v) → w.grownBy w' v.ownBlock → (v'.ownBlock = v.ownBlock ∨ v'.ownBlock = some w.heap.size) → wpList Tryd.prog ops Q rest (a.put o.dst v') w') : wpList Tryd.prog ops Q (o :: rest) a w := by
  obtain ⟨i0, hi, hz, hsz, hb1⟩ := info_parts info_u8
  refine wpList_want hw fun K hK => ?_
  cases ad with
  | none =>
    obtain ⟨rfl, rfl⟩ := had rfl
    have hy : ys = [] := List.length_eq_zero_iff.1 hm
    subst hy
    have h' := h v w (by simpa using hown) (grown_refl w _) (.inl rfl)
    have hrun := run_append_owned_none (P := Tryd.prog) (w := w) base 44 o.type 5 i0 1 Tryd.underlying44 hi v n (xs.map u8v) hown
    unfold Oper.wp
    simp [execOp, ho, resolve, invoke, builtin, hs, hx, hrun, Result.andThen]
    exact hK _ _ h'
  | some y =>
    obtain ⟨v', w', hr, h1, h2, h3⟩ := append8_block w base o.type (c := c) hown hm hc hb hbase
    exact Lib.wp_append_run w s x _ _ ho v _ hs hx v' w' hr (hK _ _ (h v' w' h1 h2 h3))
end
end

section
open Go Go.RowKit

def sumOfV (d : Int) (t : List UInt8) (n : Nat) : Value :=
  if d < 0 ∨ 255 < d then .tuple #[zeros 32, .int .i64 3] else if n ≤ 1048576 then .tuple #[.agg ((sumL d t).map u8v).toArray, .int .i64 0] else .tuple #[zeros 32, .int .i64 5]

set_option maxRecDepth 100000 in
set_option maxHeartbeats 1000000 in
theorem sumOf_c (d : Int) (t : List UInt8) (n c : Nat) (a : Option Addr) (w : World) (ht : t.length = n) (hnc : n ≤ c) (hc : c ≤ 9223372036854775807) (h0 : a = none → c = 0) (hcl : Cells w a (t.map u8v)) :
    Calls Tryd.prog 31 #[.int .i64 d, .slice a n c] w fun e w' => e = .returned (sumOfV d t n) ∧ Ext w w' := by
  obtain ⟨V, hV⟩ : ∃ V, sumOfV d t n = V := ⟨_, rfl⟩
  rw [hV]
  unfold sumOfV at hV
  have HV := hid hV
  have HT := hid ht
  have HC := hid hcl
  have H0 := hid h0
  clear ht hcl h0 hV
  go_enter Tryd.func31, Tryd.ntmps31
  go_wp2_with fail
  generalize hwA : World.alloc (World.alloc w _) _ = wA
  have zA : Blk wA w.heap.size (List.replicate 32 (.int .u8 0)) 31 := by rw [← hwA]; exact (Blk.mk_alloc rfl rfl).alloc _
  have gA : Blk wA (w.heap.size + 1) [.slice a n c] 44 := by rw [← hwA]; exact Blk.mk_alloc (by simp) rfl
  have eA : Ext w wA := by rw [← hwA]; exact ((Ext.refl w).alloc _).alloc _
  clear hwA
  have hcat : cat [(a, c, t)] = t := by simp [cat]
  refine (summed_c [(a, c, t)] d (w.heap.size + 1) 1 1 wA rfl (by omega) ?hg gA.lt ?hc ?hn ?hnc ?hcm).mono ?_
  case hg =>
    intro i it hit
    match i, hit with
    | 0, hit => cases hit; rw [itemV]; simp only; rw [HT.out]; exact gA.cell' rfl
  case hc =>
    intro it hit
    simp only [List.mem_cons, List.not_mem_nil, or_false] at hit
    subst hit
    exact HC.out.ext eA
  case hn =>
    intro it hit
    simp only [List.mem_cons, List.not_mem_nil, or_false] at hit
    subst hit
    exact H0.out
  case hnc =>
    intro it hit
    simp only [List.mem_cons, List.not_mem_nil, or_false] at hit
    subst hit
    simp only
    rw [HT.out]; exact hnc
  case hcm =>
    intro it hit
    simp only [List.mem_cons, List.not_mem_nil, or_false] at hit
    subst hit
    exact hc
  intro e w1 h
  rw [hcat] at h
  unfold summedPost at h
  rw [HT.out] at h
  obtain ⟨h, e1⟩ := h
  have HZ1 := hid (zA.ext e1)
  have HE1 := hid (eA.ext e1)
  have hlA : w.heap.size < wA.heap.size := zA.lt
  clear zA gA eA e1 hcat
  by_cases hd : d < 0 ∨ 255 < d
  · rw [if_pos hd] at h
    have hv := HV.out
    rw [if_pos hd] at hv
    subst h
    have HV2 := hid hv
    clear hd hv HV
    go_wp2_with (refine wpl_storew rfl _ _ _ rfl rfl rfl HZ1.out agg_apisum (by simp) (xs := List.replicate 32 (.int .u8 0)) (by simp) (one_zeros 32) ?_)
    intro w4 b4 u4
    go_wp2
    refine ret_row2 rfl rfl b4 agg_apisum (by simp) rfl ⟨by rw [← HV2.out]; unfold zeros; rfl, u4.ext HE1.out (by omega)⟩
  · rw [if_neg hd] at h
    have hv := HV.out
    rw [if_neg hd] at hv
    by_cases hfit : n ≤ 1048576
    · rw [if_pos hfit] at h hv
      obtain ⟨rfl, h1⟩ := h
      have hsm := sum_c (initS d) t n wA.heap.size SmT w1 (initS_length d) (by omega) h1
      rw [show (finL (initS d) t n).take 32 = sumL d t by rw [sumL, HT.out]] at hsm
      have HSL : Hid (((sumL d t).map u8v).length = 32) := hid (by rw [List.length_map, sumL_length])
      have o1 := one_u8 (sumL d t)
      generalize (sumL d t).map u8v = sv at *
      have HV2 := hid hv
      have HSM := hid hsm
      clear hd hv HV hsm h1 hfit
      go_wp2_with fail
      refine HSM.out.mono ?_
      rintro e w2 ⟨rfl, e2⟩
      have HZ2 := hid (HZ1.out.ext e2)
      have HE2 := hid (HE1.out.ext e2)
      clear e2 HSM
      go_wp2_with (refine wpl_storew rfl _ _ _ rfl rfl rfl HZ2.out agg_apisum (by simp) HSL.out o1 ?_)
      intro w4 b4 u4
      go_wp2
      refine ret_row2 rfl rfl b4 agg_apisum HSL.out rfl ⟨by rw [← HV2.out]; rfl, u4.ext HE2.out (by omega)⟩
    · rw [if_neg hfit] at h hv
      subst h
      have HV2 := hid hv
      clear hd hv HV hfit
      go_wp2_with (refine wpl_storew rfl _ _ _ rfl rfl rfl HZ1.out agg_apisum (by simp) (xs := List.replicate 32 (.int .u8 0)) (by simp) (one_zeros 32) ?_)
      intro w4 b4 u4
      go_wp2
      refine ret_row2 rfl rfl b4 agg_apisum (by simp) rfl ⟨by rw [← HV2.out]; unfold zeros; rfl, u4.ext HE1.out (by omega)⟩

theorem longL_drop (u : UInt64) : (longL u).drop 4 = octL (UInt32.ofNat u.toNat) := rfl

/-- parts, each with its length ahead -/
def frameL (its : List Item) : List UInt8 := (its.map fun it => octL (UInt32.ofNat it.2.2.length) ++ it.2.2).flatten
theorem frameL_succ {its : List Item} {k : Nat} {it : Item} (h : its[k]? = some it) : frameL (its.take (k + 1)) = frameL (its.take k) ++ octL (UInt32.ofNat it.2.2.length) ++ it.2.2 := by
  unfold frameL
  rw [List.take_add_one, h]; simp
theorem frameL_le (its : List Item) (k : Nat) : (frameL (its.take k)).length ≤ (frameL its).length := by
  have h2 : frameL its = frameL (its.take k) ++ frameL (its.drop k) := by
    unfold frameL
    rw [← List.flatten_append, ← List.map_append, List.take_append_drop]
  rw [h2, List.length_append]
  omega
end

section
open Go Go.RowKit

section
variable {P : Program} {ops : Array Oper} {Q : Exit → Act → World → Prop} {S : World → Prop}

/-- K where the way goes on, Q elsewhere -/
def onNormal (K : Act → World → Prop) (Q : Exit → Act → World → Prop) : Exit → Act → World → Prop
  | .normal, a, w => K a w
  | e, a, w => Q e a w

theorem letsOut_onNormal {K : Act → World → Prop} (h : LetsOut (onNormal K Q)) : LetsOut Q := h

theorem oper_wp_onNormal {o : Oper} {a : Act} {w : World} {K K' : Act → World → Prop} (h : o.wp P a w K (onNormal K' Q)) : o.wp P a w K Q := by
  unfold Oper.wp at *
  generalize (execOp a.eval o).run P w = r at *
  cases r with
  | ok n w' =>
    cases n
    case enter f args =>
      refine Calls.mono h fun e w'' he => ?_
      cases e with
      | returned u => exact he
      | panicked c => exact he
      | outgrown => exact letsOut_onNormal he
    all_goals exact h
  | halt x w' =>
    cases x <;> first | exact h | exact h.elim

theorem wpOp_of_list {i : Nat} {o : Oper} {K : Act → World → Prop} {a : Act} {w : World} (ho : ops[i]? = some o) (h : wpList P ops (onNormal K Q) [o] a w) : wpOp P ops Q i K a w := by
  unfold wpOp
  simp only [ho]
  unfold wpList at h
  split
  · rename_i hw
    rw [if_pos hw] at h
    rcases h with h | ⟨h1, h2⟩
    · exact .inl (oper_wp_onNormal h)
    · exact .inr ⟨h1, letsOut_onNormal h2⟩
  · rename_i hw
    rw [if_neg hw] at h
    exact h

theorem op_of_drop {i : Nat} {o : Oper} {r : List Oper} (h : ops.toList.drop i = o :: r) : ops[i]? = some o := by
  have h1 := List.getElem?_drop (xs := ops.toList) (i := i) (j := 0)
  rw [h, Nat.add_zero] at h1
  simpa using h1.symm

/-- one operation is taken first -/
theorem held_take (i : Nat) {oi : Oper} {r : List Oper} {v : Value} {fuel : Nat} {listed : Array Bool} {a : Act} {w : World} (hi : ops.toList.drop i = oi :: r)
    (hs : Region.noSelect ops = true) (hf : Region.free .any ops listed i = true) (hr : (Region.ready .any ops listed).contains i = true)
    (hQ : ∀ c a w, Q (.panic c) (a.put oi.dst v) w → Q (.panic c) a w) (hy : YieldsIf P ops S oi v a) (hS : S w)
    (h : wpAnyH P .any ops Q S fuel (listed.setIfInBounds i true) (a.put oi.dst v) w) : wpAnyH P .any ops Q S (fuel + 1) listed a w :=
  wpAnyH_take (op_of_drop hi) hs hf hr hQ hy hS h

/-- just one operation may come up -/
theorem held_one {i : Nat} {o : Oper} {r : List Oper} {f : Nat} {listed : Array Bool} {a : Act} {w : World} (hr : Region.ready .any ops listed = [i]) (ho : ops.toList.drop i = o :: r)
    (h : ∀ Q' : Exit → Act → World → Prop, (∀ a w, S w → wpAnyH P .any ops Q S f (listed.setIfInBounds i true) a w → Q' .normal a w) → wpList P ops Q' [o] a w) :
    wpAnyH P .any ops Q S (f + 1) listed a w :=
  wpAnyH_all hr (by simp) fun j hj => by
    obtain rfl : j = i := by simpa using hj
    exact wpOp_of_list (op_of_drop ho) (h _ fun a w hS hW => ⟨hS, hW⟩)

def ptrAt (g : Nat) : Value := .pointer (some ⟨g, 0, none⟩)

/-- number A makes a variable (vs, of type T) at whatever time; the other operations go one by one; D is what is known of the world -/
def Fl (P : Program) (ops : Array Oper) (Q : Exit → Act → World → Prop) (S : World → Prop) (B A : Nat) (vs : List Value) (T : TypeId) (f : Nat) (listed : Array Bool) (α : Value → Act) (D : World → Prop) : Prop :=
  (∀ w w', D w → Ext w w' → D w') → (∀ w, D w → S w) → (∀ w, D w → B ≤ w.heap.size) →
  (∀ x w, D w → wpAnyH P .any ops Q S (f + 1) listed (α x) w) ∧ ∀ g w, D w → B ≤ g → Blk w g vs T → wpAnyH P .any ops Q S f (listed.setIfInBounds A true) (α (ptrAt g)) w

theorem Fl_start {B A d : Nat} {vs : List Value} {T : TypeId} {f : Nat} {listed : Array Bool} {a : Act} {w : World} {D : World → Prop} (y : Value) (hy : a.put (some d) y = a) (hDx : ∀ w w', D w → Ext w w' → D w') (hDS : ∀ w, D w → S w) (hDB : ∀ w, D w → B ≤ w.heap.size) (hD : D w)
    (h : Fl P ops Q S B A vs T f listed (fun x => a.put (some d) x) D) : wpAnyH P .any ops Q S (f + 1) listed a w := by
  have := (h hDx hDS hDB).1 y w hD
  simp only [hy] at this
  exact this

theorem Fl_take {B A : Nat} {vs : List Value} {T : TypeId} {f : Nat} {listed : Array Bool} {α : Value → Act} {D : World → Prop} (i : Nat) {oi : Oper} {r : List Oper} {v : Value} (hi : ops.toList.drop i = oi :: r) (hs : Region.noSelect ops = true)
    (hf : Region.free .any ops listed i = true) (hf' : Region.free .any ops (listed.setIfInBounds A true) i = true)
    (hr : (Region.ready .any ops listed).contains i = true) (hr' : (Region.ready .any ops (listed.setIfInBounds A true)).contains i = true) (hne : (i == A) = false)
    (hQ : ∀ c a w, Q (.panic c) (a.put oi.dst v) w → Q (.panic c) a w) (hy : ∀ x, YieldsIf P ops S oi v (α x))
    (h : Fl P ops Q S B A vs T f (listed.setIfInBounds i true) (fun x => (α x).put oi.dst v) D) : Fl P ops Q S B A vs T (f + 1) listed α D := by
  intro hDx hDS hDB
  have hne' : i ≠ A := by simpa using hne
  have h := h hDx hDS hDB
  refine ⟨fun x w hD => wpAnyH_take (op_of_drop hi) hs hf hr hQ (hy x) (hDS w hD) (h.1 x w hD), fun g w hD hB hb => wpAnyH_take (op_of_drop hi) hs hf' hr' hQ (hy _) (hDS w hD) ?_⟩
  have := h.2 g w hD hB hb
  rwa [Array.setIfInBounds_comm _ _ hne'] at this

theorem Fl_step {B A : Nat} {vs : List Value} {T : TypeId} {f : Nat} {listed : Array Bool} {α : Value → Act} {D : World → Prop} (i : Nat) {o oA : Oper} {r rA : List Oper} {d : Tmp} {β : Type} (val : β → Value) (Φ : β → World → Prop)
    (ho' : ops.toList.drop i = o :: r) (hA' : ops.toList.drop A = oA :: rA) (hAd : oA.dst = some d) (hAg : oA.guard = none) (hAr : ∀ ρ w, (execOp ρ oA).run P w = .ok (.value (ptrAt w.heap.size)) (w.alloc (.cells vs.toArray T)))
    (hr : ((Region.ready .any ops listed).all fun j => j == i || j == A) = true) (hrn : (Region.ready .any ops listed).isEmpty = false) (hr' : Region.ready .any ops (listed.setIfInBounds A true) = [i]) (hne : (i == A) = false)
    (hα : ∀ x y, (α x).put (some d) y = α y) (hΦ : ∀ b w w', Φ b w → Ext w w' → Φ b w')
    (hstep : ∀ x w, D w → ∀ Q' : Exit → Act → World → Prop, (∀ b w', Ext w w' → Φ b w' → Q' .normal ((α x).put o.dst (val b)) w') → wpList P ops Q' [o] (α x) w)
    (h : ∀ b, Fl P ops Q S B A vs T f (listed.setIfInBounds i true) (fun x => (α x).put o.dst (val b)) (fun w => D w ∧ Φ b w)) : Fl P ops Q S B A vs T (f + 1) listed α D := by
  have ho := op_of_drop ho'
  have hA := op_of_drop hA'
  intro hD hDS hDB
  have h := fun b => h b (fun w w' hh he => ⟨hD w w' hh.1 he, hΦ b w w' hh.2 he⟩) (fun w hh => hDS w hh.1) (fun w hh => hDB w hh.1)
  have hne' : i ≠ A := by simpa using hne
  have second : ∀ g w, D w → B ≤ g → Blk w g vs T → wpAnyH P .any ops Q S (f + 1) (listed.setIfInBounds A true) (α (ptrAt g)) w := by
    intro g w hDw hB hb
    refine wpAnyH_all hr' (by simp) fun j hj => ?_
    obtain rfl : j = i := by simpa using hj
    refine wpOp_of_list ho (hstep _ w hDw _ fun b w' he hΦ => ?_)
    have := (h b).2 g w' ⟨hD _ _ hDw he, hΦ⟩ hB (hb.ext he)
    rw [Array.setIfInBounds_comm _ _ hne'] at this
    exact ⟨hDS _ (hD _ _ hDw he), this⟩
  refine ⟨fun x w hDw => ?_, second⟩
  refine wpAnyH_all (rs := Region.ready .any ops listed) rfl (fun e => by rw [e] at hrn; cases hrn) fun j hj => ?_
  have hj' := List.all_eq_true.1 hr j hj
  simp only [Bool.or_eq_true, beq_iff_eq] at hj'
  rcases hj' with rfl | rfl
  · refine wpOp_of_list ho (hstep _ w hDw _ fun b w' he hΦ => ?_)
    exact ⟨hDS _ (hD _ _ hDw he), (h b).1 x w' ⟨hD _ _ hDw he, hΦ⟩⟩
  · refine wpOp_of_list hA ?_
    refine wpList_plain hAg fun K hK => ?_
    unfold Oper.wp
    rw [hAr, Oper.upon_value, hAd]
    refine hK _ _ ?_
    have he : Ext w (w.alloc (.cells vs.toArray T)) := (Ext.refl w).alloc _
    rw [hα]
    exact ⟨hDS _ (hD _ _ hDw he), second _ _ (hD _ _ hDw he) (hDB _ hDw) (Blk.alloc_new _ _ _)⟩

theorem Fl_end {B A : Nat} {vs : List Value} {T : TypeId} {f : Nat} {listed : Array Bool} {α : Value → Act} {D : World → Prop} {oA : Oper} {rA : List Oper} {d : Tmp}
    (hA' : ops.toList.drop A = oA :: rA) (hAd : oA.dst = some d) (hAg : oA.guard = none) (hAr : ∀ ρ w, (execOp ρ oA).run P w = .ok (.value (ptrAt w.heap.size)) (w.alloc (.cells vs.toArray T)))
    (hr : Region.ready .any ops listed = [A]) (hα : ∀ x y, (α x).put (some d) y = α y)
    (h : ∀ g w, D w → B ≤ g → Blk w g vs T → wpAnyH P .any ops Q S f (listed.setIfInBounds A true) (α (ptrAt g)) w) : Fl P ops Q S B A vs T f listed α D := by
  have hA := op_of_drop hA'
  intro hD hDS hDB
  refine ⟨fun x w hDw => ?_, h⟩
  refine wpAnyH_all hr (by simp) fun j hj => ?_
  obtain rfl : j = A := by simpa using hj
  refine wpOp_of_list hA ?_
  refine wpList_plain hAg fun K hK => ?_
  unfold Oper.wp
  rw [hAr, Oper.upon_value, hAd]
  refine hK _ _ ?_
  have he : Ext w (w.alloc (.cells vs.toArray T)) := (Ext.refl w).alloc _
  rw [hα]
  exact ⟨hDS _ (hD _ _ hDw he), h _ _ (hD _ _ hDw he) (hDB _ hDw) (Blk.alloc_new _ _ _)⟩

/-- these blocks are as they were in W -/
def Kept (W : World) (L : List Nat) (w' : World) : Prop := W.heap.size ≤ w'.heap.size ∧ (∀ g ∈ L, g < W.heap.size) ∧ ∀ g ∈ L, w'.heap[g]? = W.heap[g]?
theorem Kept.ext {W w w' : World} {L : List Nat} (h : Kept W L w) (e : Ext w w') : Kept W L w' :=
  ⟨Nat.le_trans h.1 e.size, h.2.1, fun g hg => (e.block g (Nat.lt_of_lt_of_le (h.2.1 g hg) h.1)).trans (h.2.2 g hg)⟩
theorem Kept.upd {W w w' : World} {L : List Nat} {r : Nat} (h : Kept W L w) (u : Upd w r w') (hr : r ∉ L) : Kept W L w' :=
  ⟨by rw [u.size]; exact h.1, h.2.1, fun g hg => (u.block g (fun e => hr (e ▸ hg))).trans (h.2.2 g hg)⟩
theorem Kept.blk {W w : World} {L : List Nat} {g : Nat} {vs : List Value} {T : TypeId} (h : Kept W L w) (hb : Blk W g vs T) (hg : g ∈ L) : Blk w g vs T := by
  unfold Blk at *; rw [h.2.2 g hg]; exact hb
theorem Kept.none (W : World) : Kept W [] W := ⟨Nat.le_refl _, by simp, by simp⟩
theorem Kept.one {W : World} {a : Nat} (ha : a < W.heap.size) : Kept W [a] W := ⟨Nat.le_refl _, by simpa using ha, fun _ _ => rfl⟩
theorem Kept.two {W : World} {a b : Nat} (ha : a < W.heap.size) (hb : b < W.heap.size) : Kept W [a, b] W := ⟨Nat.le_refl _, by simpa using ⟨ha, hb⟩, fun _ _ => rfl⟩
theorem Kept.three {W : World} {a b c : Nat} (ha : a < W.heap.size) (hb : b < W.heap.size) (hc : c < W.heap.size) : Kept W [a, b, c] W := ⟨Nat.le_refl _, by simpa using ⟨ha, hb, hc⟩, fun _ _ => rfl⟩
theorem Kept.four {W : World} {a b c d : Nat} (ha : a < W.heap.size) (hb : b < W.heap.size) (hc : c < W.heap.size) (hd : d < W.heap.size) : Kept W [a, b, c, d] W := ⟨Nat.le_refl _, by simpa using ⟨ha, hb, hc, hd⟩, fun _ _ => rfl⟩

theorem Kept.grown {W w w' : World} {L : List Nat} {row : Option Nat} (h : Kept W L w) (k : w.grownBy w' row) (hr : ∀ g, row = some g → W.heap.size ≤ g) : Kept W L w' :=
  ⟨Nat.le_trans h.1 k.size, h.2.1, fun g hg => (k.block g (Nat.lt_of_lt_of_le (h.2.1 g hg) h.1) (fun e => by have h1 := hr g e.symm; have h2 := h.2.1 g hg; omega)).trans (h.2.2 g hg)⟩

/-- a class of worlds: nothing that was in w0 has turned; the blocks of L are as in W; there are rooms R -/
structure Cls (w0 W : World) (L : List Nat) (R : List (Nat × Nat × TypeId)) (w : World) : Prop where
  base : Ext w0 w
  kept : Kept W L w
  room : ∀ x ∈ R, x.1 < W.heap.size ∧ ∃ vs, vs.length = x.2.1 ∧ Blk w x.1 vs x.2.2
theorem Cls.ext {w0 W w w' : World} {L : List Nat} {R : List (Nat × Nat × TypeId)} (h : Cls w0 W L R w) (e : Ext w w') : Cls w0 W L R w' :=
  ⟨h.base.ext e, h.kept.ext e, fun x hx => ⟨(h.room x hx).1, by obtain ⟨_, vs, h1, h2⟩ := h.room x hx; exact ⟨vs, h1, h2.ext e⟩⟩⟩
theorem Cls.grown {w0 W w w' : World} {L : List Nat} {R : List (Nat × Nat × TypeId)} {row : Option Nat} (h : Cls w0 W L R w) (k : w.grownBy w' row) (hr : ∀ g, row = some g → W.heap.size ≤ g) (h0 : w0.heap.size ≤ W.heap.size) : Cls w0 W L R w' :=
  ⟨h.base.grown k (fun g hg => Nat.le_trans h0 (hr g hg)), h.kept.grown k hr, fun x hx => ⟨(h.room x hx).1, by
    obtain ⟨h3, vs, h1, h2⟩ := h.room x hx
    exact ⟨vs, h1, h2.grown k (fun e => by have := hr _ e.symm; omega)⟩⟩⟩
theorem Cls.upd {w0 W w w' : World} {L : List Nat} {R : List (Nat × Nat × TypeId)} {g : Nat} (h : Cls w0 W L R w) (u : Upd w g w') (hg : W.heap.size ≤ g) (h0 : w0.heap.size ≤ W.heap.size) : Cls w0 W L R w' :=
  ⟨u.ext h.base (by omega), h.kept.upd u (fun hm => by have := h.kept.2.1 g hm; omega), fun x hx => ⟨(h.room x hx).1, by
    obtain ⟨h3, vs, h1, h2⟩ := h.room x hx
    exact ⟨vs, h1, h2.upd u (by omega)⟩⟩⟩
theorem Cls.store {w0 W w w' : World} {L : List Nat} {R : List (Nat × Nat × TypeId)} {r : Nat} {xs : List Value} {T : TypeId} (h : Cls w0 W L R w) (u : Upd w r w') (hb : Blk w' r xs T) (hu : ∀ x ∈ R, x.1 = r → x = (r, xs.length, T)) (hr : w0.heap.size ≤ r) (hL : r ∉ L) : Cls w0 W L R w' :=
  ⟨u.ext h.base hr, h.kept.upd u hL, fun x hx => ⟨(h.room x hx).1, by
    obtain ⟨h3, vs, h1, h2⟩ := h.room x hx
    by_cases e : x.1 = r
    · rw [hu x hx e]; exact ⟨xs, rfl, hb⟩
    · exact ⟨vs, h1, h2.upd u e⟩⟩⟩
theorem Cls.blk {w0 W w : World} {L : List Nat} {R : List (Nat × Nat × TypeId)} {g : Nat} {vs : List Value} {T : TypeId} (h : Cls w0 W L R w) (hb : Blk W g vs T) (hg : g ∈ L) : Blk w g vs T := h.kept.blk hb hg
theorem Cls.at_room {w0 W w : World} {L : List Nat} {r n : Nat} {T : TypeId} {R : List (Nat × Nat × TypeId)} (h : Cls w0 W L R w) (hr : (r, n, T) ∈ R) : ∃ vs, vs.length = n ∧ Blk w r vs T := (h.room _ hr).2
theorem Cls.no_room {w0 W : World} {L : List Nat} (h : Ext w0 W) (k : Kept W L W) : Cls w0 W L [] W := ⟨h, k, by simp⟩
theorem Cls.one_room {w0 W : World} {L : List Nat} {r n : Nat} {vs : List Value} {T : TypeId} (h : Ext w0 W) (k : Kept W L W) (hb : Blk W r vs T) (hn : vs.length = n) : Cls w0 W L [(r, n, T)] W :=
  ⟨h, k, by simp only [List.mem_singleton]; rintro x rfl; exact ⟨hb.lt, vs, hn, hb⟩⟩

/-- a slice's cells -/
def SlcAt (n : Nat) (xs : List Value) (b : Option Addr × Nat) (w : World) : Prop := n ≤ b.2 ∧ b.2 ≤ 9223372036854775807 ∧ (b.1 = none → b.2 = 0) ∧ Cells w b.1 xs
theorem SlcAt.ext {n : Nat} {xs : List Value} : ∀ (b : Option Addr × Nat) (w w' : World), SlcAt n xs b w → Ext w w' → SlcAt n xs b w' := fun _ _ _ h he => ⟨h.1, h.2.1, h.2.2.1, h.2.2.2.ext he⟩

/-- a load of what a block holds, taken first -/
theorem yieldsI_loadw {o : Oper} {a : Act} (hw : Region.wanted o (yielded ops a.tmps) = true) (ty : TypeId) (x : Operand) (ho : o.op = .load ty x) {g : Nat} {vs : List Value} {T : TypeId} {n : Nat}
    (hx : a.eval x = .pointer (some ⟨g, 0, none⟩)) (hb : ∀ w, S w → Blk w g vs T) (ht : AggT P ty n) (hn : vs.length = n) : YieldsIf P ops S o (.agg vs.toArray) a := by
  refine .inl ⟨hw, fun w hw => ?_⟩
  have h1 := run_load_sub (P := P) (off := 0) (hb w hw) ht (by omega)
  have h2 : (vs.drop 0).take n = vs := by simp [← hn]
  rw [h2] at h1
  unfold execOp
  simp only [ho, hx, Instr.loadAt, Instr.sureAddr, Sem.run_bind, Sem.run_pure, Result.andThen_ok, h1]
end
end

section
open Go Go.RowKit

def nodeL (x y : List UInt8) : List UInt8 := sumL 2 (x ++ y)
theorem nodeL_length (x y : List UInt8) : (nodeL x y).length = 32 := sumL_length _ _

set_option maxRecDepth 100000 in
set_option maxHeartbeats 1000000 in
theorem node_c (x y : List UInt8) (w : World) (hx : x.length = 32) (hy : y.length = 32) :
    Calls Tryd.prog 21 #[.agg (x.map u8v).toArray, .agg (y.map u8v).toArray] w fun e w' => e = .returned (.agg ((nodeL x y).map u8v).toArray) ∧ Ext w w' := by
  have HX := hid hx
  have HY := hid hy
  have HSL : Hid (((nodeL x y).map u8v).length = 32) := hid (by rw [List.length_map, nodeL_length])
  have o1 := one_u8 (nodeL x y)
  have hcat : ∀ h1 h2, cat [(some ⟨h1, 0, none⟩, 32, x), (some ⟨h2, 0, none⟩, 32, y)] = x ++ y := by intro h1 h2; simp [cat]
  have hlen : (x ++ y).length = 64 := by rw [List.length_append, hx, hy]
  have hso : sumOfV 2 (x ++ y) 64 = .tuple #[.agg ((nodeL x y).map u8v).toArray, .int .i64 0] := by rw [sumOfV, if_neg (by omega), if_pos (by omega)]; rfl
  have HSO := hid hso
  have HLEN := hid hlen
  have HCAT := hid hcat
  clear hx hy hso hlen hcat
  generalize (nodeL x y).map u8v = nv at *
  go_enter Tryd.func21, Tryd.ntmps21
  go_wp2_with fail
  generalize hwA : World.alloc (World.alloc (World.alloc w _) _) _ = wA
  have xA : Blk wA w.heap.size (x.map u8v) 31 := by rw [← hwA]; exact ((Blk.mk_alloc rfl rfl).alloc _).alloc _
  have yA : Blk wA (w.heap.size + 1) (y.map u8v) 31 := by rw [← hwA]; exact (Blk.mk_alloc (by simp) rfl).alloc _
  have zA : Blk wA (w.heap.size + 2) (List.replicate 32 (.int .u8 0)) 31 := by rw [← hwA]; exact Blk.mk_alloc (by simp) rfl
  have eA : Ext w wA := by rw [← hwA]; exact ((((Ext.refl w).alloc _).alloc _).alloc _)
  clear hwA
  have XA := hid xA
  have YA := hid yA
  have ZA := hid zA
  have EA := hid eA
  clear xA yA zA eA
  obtain ⟨C, hC⟩ : ∃ C : World → Prop, C = fun w' => Ext wA w' := ⟨_, rfl⟩
  have hC0 : ∀ w', C w' ↔ Ext wA w' := fun w' => by rw [hC]
  clear hC
  have HCC := hid hC0
  clear hC0
  have hCx : ∀ w w', C w → Ext w w' → C w' := fun w w' h1 h2 => (HCC.out w').2 (((HCC.out w).1 h1).ext h2)
  refine wp_region_held_drew (S := C) (by kernel_rfl) ((HCC.out _).2 (Ext.refl wA).drew) (fun hS0 => ?_)
  refine held_take 0 (v := ?tv1) rfl (by kernel_rfl) (by kernel_rfl) (by kernel_rfl) (fun _ _ _ h => h) (.inl ⟨rfl, ?ty1⟩) hS0 ?tr1
  case ty1 => (intro _ _; go_simp; try with_reducible rfl)
  case tr1 =>
  simp only [Act.put, List.setIfInBounds_toArray, List.set_cons_succ, List.set_cons_zero]
  refine held_take 1 (v := ?tv2) rfl (by kernel_rfl) (by kernel_rfl) (by kernel_rfl) (fun _ _ _ h => h) (.inl ⟨rfl, ?ty2⟩) hS0 ?tr2
  case ty2 => (intro _ _; go_simp; try with_reducible rfl)
  case tr2 =>
  simp only [Act.put, List.setIfInBounds_toArray, List.set_cons_succ, List.set_cons_zero]
  refine Fl_start (B := World.heap wA |>.size) (A := 8) (d := 5) (T := 31) (vs := List.replicate 32 (.int .u8 0)) (D := C) undef rfl hCx (fun _ h => h) (fun _ h => ((HCC.out _).1 h).size) hS0 ?_
  try dsimp only
  simp only [Act.put, List.setIfInBounds_toArray, List.set_cons_succ, List.set_cons_zero]
  refine Fl_step 2 (β := Nat) (fun g => .slice (some ⟨g, 0, none⟩) 2 2) (fun g w' => Blk w' g [.slice (some ⟨w.heap.size, 0, none⟩) 32 32, .slice (some ⟨w.heap.size + 1, 0, none⟩) 32 32] 44) rfl rfl rfl rfl (fun _ _ => rfl) (by kernel_rfl) (by kernel_rfl) (by kernel_rfl) rfl (fun _ _ => by simp only [Act.put, List.setIfInBounds_toArray, List.set_cons_succ, List.set_cons_zero]) ?phi2 ?step2 ?rest2
  case phi2 => exact fun _ _ _ h he => h.ext he
  case step2 =>
    intro x w1 hD Q' hQ
    go_wp2_with fail
    exact hQ w1.heap.size _ ((Ext.refl w1).alloc _) (Blk.mk_alloc rfl rfl)
  case rest2 =>
  intro g
  try dsimp only
  try simp only [Act.put, List.setIfInBounds_toArray, List.set_cons_succ, List.set_cons_zero]
  refine Fl_step 3 (β := Option Addr × Nat) (fun b => .slice b.1 64 b.2) (SlcAt 64 ((x ++ y).map u8v)) rfl rfl rfl rfl (fun _ _ => rfl) (by kernel_rfl) (by kernel_rfl) (by kernel_rfl) rfl (fun _ _ => by simp only [Act.put, List.setIfInBounds_toArray, List.set_cons_succ, List.set_cons_zero]) ?phi3 ?step3 ?rest3
  case phi3 => exact SlcAt.ext
  case step3 =>
    rintro x0 w1 ⟨hC1, hb⟩ Q' hQ
    have e1 := (HCC.out w1).1 hC1
    have HB := hid hb
    have HE := hid e1
    clear hb e1 hC1
    go_wp2_with fail
    refine (concat_c [(some ⟨w.heap.size, 0, none⟩, 32, x), (some ⟨w.heap.size + 1, 0, none⟩, 32, y)] g 2 2 w1 rfl (by omega) (by omega) ?hg ?hc ?hn ?hl).mono ?_
    case hg =>
      intro i it hit
      match i, hit with
      | 0, hit => cases hit; rw [itemV]; simp only; rw [HX.out]; exact HB.out.cell' rfl
      | 1, hit => cases hit; rw [itemV]; simp only; rw [HY.out]; exact HB.out.cell' rfl
    case hc =>
      intro it hit
      simp only [List.mem_cons, List.not_mem_nil, or_false] at hit
      rcases hit with rfl | rfl
      · exact Cells.of_blk0 (XA.out.ext HE.out)
      · exact Cells.of_blk0 (YA.out.ext HE.out)
    case hn =>
      intro it hit
      simp only [List.mem_cons, List.not_mem_nil, or_false] at hit
      rcases hit with rfl | rfl <;> (intro h; cases h)
    case hl => rw [HCAT.out, HLEN.out]; omega
    rintro e w2 ⟨v, rfl, own, e2⟩
    rw [HCAT.out, HLEN.out] at own
    obtain ⟨a, c, rfl, h1, h2, h3, h4⟩ := own_slice own
    go_wp2_with fail
    exact hQ (a, c) w2 e2 ⟨h1, h2, h3, h4⟩
  case rest3 =>
  rintro ⟨a, c⟩
  try dsimp only
  try simp only [Act.put, List.setIfInBounds_toArray, List.set_cons_succ, List.set_cons_zero]
  refine Fl_step 4 (β := Unit) (fun _ => .tuple #[.agg nv.toArray, .int .i64 0]) (fun _ _ => True) rfl rfl rfl rfl (fun _ _ => rfl) (by kernel_rfl) (by kernel_rfl) (by kernel_rfl) rfl (fun _ _ => by simp only [Act.put, List.setIfInBounds_toArray, List.set_cons_succ, List.set_cons_zero]) ?phi4 ?step4 ?rest4
  case phi4 => exact fun _ _ _ _ _ => trivial
  case step4 =>
    rintro x0 w1 ⟨_, h1, h2, h3, h4⟩ Q' hQ
    simp only at h1 h2 h3 h4
    have HC := hid h4
    clear h4
    go_wp2_with fail
    refine (sumOf_c 2 (x ++ y) 64 c a w1 HLEN.out h1 h2 h3 HC.out).mono ?_
    rintro e w2 ⟨rfl, e2⟩
    rw [HSO.out]
    go_wp2_with fail
    exact hQ () w2 e2 trivial
  case rest4 =>
  rintro ⟨⟩
  try dsimp only
  try simp only [Act.put, List.setIfInBounds_toArray, List.set_cons_succ, List.set_cons_zero]
  refine Fl_take 5 (v := ?tv3) rfl (by kernel_rfl) (by kernel_rfl) (by kernel_rfl) (by kernel_rfl) (by kernel_rfl) rfl (fun _ _ _ h => h) (fun _ => .inl ⟨rfl, ?ty3⟩) ?tr3
  case ty3 => (intro _ _; go_simp; try with_reducible rfl)
  case tr3 =>
  try dsimp only
  simp only [Act.put, List.setIfInBounds_toArray, List.set_cons_succ, List.set_cons_zero]
  refine Fl_take 6 (v := ?tv4) rfl (by kernel_rfl) (by kernel_rfl) (by kernel_rfl) (by kernel_rfl) (by kernel_rfl) rfl (fun _ _ _ h => h) (fun _ => .inl ⟨rfl, ?ty4⟩) ?tr4
  case ty4 => (intro _ _; go_simp; try with_reducible rfl)
  case tr4 =>
  try dsimp only
  simp only [Act.put, List.setIfInBounds_toArray, List.set_cons_succ, List.set_cons_zero]
  refine Fl_take 7 (v := ?tv5) rfl (by kernel_rfl) (by kernel_rfl) (by kernel_rfl) (by kernel_rfl) (by kernel_rfl) rfl (fun _ _ _ h => h) (fun _ => .inl ⟨rfl, ?ty5⟩) ?tr5
  case ty5 => (intro _ _; go_simp; try with_reducible rfl)
  case tr5 =>
  try dsimp only
  simp only [Act.put, List.setIfInBounds_toArray, List.set_cons_succ, List.set_cons_zero]
  refine Fl_end rfl rfl rfl (fun _ _ => rfl) (by kernel_rfl) (fun _ _ => by simp only [Act.put, List.setIfInBounds_toArray, List.set_cons_succ, List.set_cons_zero]) ?_
  rintro b w3 ⟨⟨⟨hC3, _⟩, _⟩, _⟩ lb hb
  have HB := hid hb
  have E3 := hid (EA.out.ext ((HCC.out w3).1 hC3))
  have Z3 := hid (ZA.out.ext ((HCC.out w3).1 hC3))
  have HC3 := hid hC3
  clear hb hC3
  refine held_one (i := 9) (by kernel_rfl) rfl ?_
  intro Q' hQ
  go_wp2_with (refine wpl_storew rfl _ _ _ rfl rfl rfl HB.out agg_apisum (by simp) HSL.out o1 ?_)
  intro w4 b4 u4
  have hE4 := u4.ext ((HCC.out w3).1 HC3.out) lb
  refine hQ _ _ ((HCC.out w4).2 hE4) ?_
  have HC4 := hid ((HCC.out w4).2 hE4)
  have B4 := hid b4
  have Z4 := hid (ZA.out.ext hE4)
  have E4 := hid (EA.out.ext hE4)
  clear hQ Q' u4 b4 hE4
  try dsimp only
  try simp only [Act.put, List.setIfInBounds_toArray, List.set_cons_succ, List.set_cons_zero]
  refine held_one (i := 10) (by kernel_rfl) rfl ?_
  intro Q' hQ
  go_wp2_with fail
  refine hQ _ _ ((HCC.out w4).2 ?_) ?_
  · exact (HCC.out w4).1 HC4.out
  clear hQ Q'
  refine wpAnyH_done (by kernel_rfl) ?_ _
  go_wp2_with (first | (refine wpl_loadw rfl _ _ rfl rfl B4.out agg_apisum HSL.out ?_) | (refine wpl_storew rfl _ _ _ rfl rfl rfl Z4.out agg_apisum (by simp) HSL.out o1 ?_))
  intro w5 b5 u5
  go_wp2
  refine ret_row rfl rfl b5 agg_apisum HSL.out rfl ⟨rfl, u5.ext E4.out (by omega)⟩
end

section
open Go Go.RowKit

theorem bitLen_split {n : Nat} (h : 2 ≤ n) (h2 : n ≤ 4611686018427387904) : ∃ j, Lib.bitLen (n - 1) = j + 1 ∧ j ≤ 61 ∧ 2 ^ j = splitN n := by
  have hb := Lib.bitLenAux_bounds 64 (n - 1) (by omega) (by omega)
  have hle := Lib.bitLen_le (n - 1) 62 (by omega) (by omega)
  unfold Lib.bitLen at *
  obtain ⟨h3, h4, h5⟩ := hb
  generalize Lib.bitLenAux 64 (n - 1) = m at *
  obtain ⟨j, rfl⟩ : ∃ j, m = j + 1 := ⟨m - 1, by omega⟩
  rw [Nat.add_sub_cancel] at h4
  rw [Nat.pow_succ] at h5
  exact ⟨j, rfl, by omega, splitN_eq (by omega) (by omega)⟩

set_option maxRecDepth 100000 in
set_option maxHeartbeats 1000000 in
theorem half_c (n : Nat) (w : World) (h : 2 ≤ n) (h2 : n ≤ 2305843009213693952) :
    Calls Tryd.prog 24 #[.int .i64 (n : Int)] w fun e w' => e = .returned (.int .i64 (splitN n : Nat)) ∧ w = w' := by
  go_enter Tryd.func24, Tryd.ntmps24
  go_wp2
  go_loop [3] (fun k => ∃ j : Nat, 2 ^ j < n ∧ k = .int .i64 ((2 ^ j : Nat) : Int)) (fun k => n - (intOf k).toNat)
  case atStart => exact ⟨0, by omega, rfl⟩
  case round =>
    obtain ⟨j, hj, rfl⟩ := hrel
    have hpos : 0 < 2 ^ j := Nat.pow_pos (by omega)
    have hsucc : 2 ^ (j + 1) = 2 ^ j * 2 := Nat.pow_succ _ _
    have hend : ¬ 2 * 2 ^ j < n → 2 ^ j = splitN n := fun h => splitN_eq hj (by omega)
    have HS := hid hsucc
    have HE := hid hend
    clear hsucc hend
    generalize hP : 2 ^ j = p at *
    have HP := hid hP
    clear hP
    by_cases hlt : 2 * p < n
    · go_wp2
      go_round
      case rel => exact ⟨j + 1, by rw [HS.out]; omega, by rw [HS.out]; go_num⟩
      case measure => simp [intOf]; omega
    · go_wp2
      go_ret
      refine ⟨?_, rfl⟩
      rw [HE.out hlt]
      rfl
end

section
open Go Go.RowKit
end

section
open Go Go.RowKit

set_option maxRecDepth 100000 in
set_option maxHeartbeats 1000000 in
theorem rnode_c (x y : List UInt8) (w : World) (hx : x.length = 32) (hy : y.length = 32) :
    Calls Tryd.prog 25 #[.agg (x.map u8v).toArray, .agg (y.map u8v).toArray] w fun e w' => e = .returned (.agg ((nodeL x y).map u8v).toArray) ∧ Ext w w' := by
  have HX := hid hx
  have HY := hid hy
  have HSL : Hid (((nodeL x y).map u8v).length = 32) := hid (by rw [List.length_map, nodeL_length])
  have o1 := one_u8 (nodeL x y)
  have hlen : (x ++ y).length = 64 := by rw [List.length_append, hx, hy]
  have hsum := fun w c a h => rsum_c 2 (x ++ y) 64 c a w (by omega) (by omega) hlen (by omega) h
  rw [show sumL 2 (x ++ y) = nodeL x y from rfl] at hsum
  have HSUM := hid hsum
  clear hx hy hlen hsum
  generalize (nodeL x y).map u8v = nv at *
  go_enter Tryd.func25, Tryd.ntmps25
  go_wp2_with fail
  generalize hwA : World.alloc (World.alloc (World.alloc w _) _) _ = wA
  have xA : Blk wA w.heap.size (x.map u8v) 31 := by rw [← hwA]; exact ((Blk.mk_alloc rfl rfl).alloc _).alloc _
  have yA : Blk wA (w.heap.size + 1) (y.map u8v) 31 := by rw [← hwA]; exact (Blk.mk_alloc (by simp) rfl).alloc _
  have zA : Blk wA (w.heap.size + 2) (List.replicate 32 (.int .u8 0)) 31 := by rw [← hwA]; exact Blk.mk_alloc (by simp) rfl
  have eA : Ext w wA := by rw [← hwA]; exact ((((Ext.refl w).alloc _).alloc _).alloc _)
  have hwl : w.heap.size ≤ wA.heap.size := eA.size
  clear hwA
  have XA := hid xA
  have YA := hid yA
  have ZA := hid zA
  have EA := hid eA
  clear xA yA zA eA
  obtain ⟨C, hC⟩ : ∃ C : World → Prop, C = Cls w wA [w.heap.size, w.heap.size + 1] [(w.heap.size + 2, 32, 31)] := ⟨_, rfl⟩
  have hC0 : ∀ w', C w' ↔ Cls w wA [w.heap.size, w.heap.size + 1] [(w.heap.size + 2, 32, 31)] w' := fun w' => by rw [hC]
  clear hC
  have HCC := hid hC0
  clear hC0
  have hCx : ∀ w w', C w → Ext w w' → C w' := fun w w' h1 h2 => (HCC.out w').2 (((HCC.out w).1 h1).ext h2)
  have hCA : C wA := (HCC.out _).2 (Cls.one_room EA.out (Kept.two XA.out.lt YA.out.lt) ZA.out (by simp))
  refine wp_region_held_drew (S := C) (by kernel_rfl) (hCx _ _ hCA (Ext.refl _).drew) (fun hS0 => ?_)
  refine held_take 0 (v := ?tv1) rfl (by kernel_rfl) (by kernel_rfl) (by kernel_rfl) (fun _ _ _ h => h) (.inl ⟨rfl, ?ty1⟩) hS0 ?tr1
  case ty1 => (intro _ _; go_simp; try with_reducible rfl)
  case tr1 =>
  simp only [Act.put, List.setIfInBounds_toArray, List.set_cons_succ, List.set_cons_zero]
  refine held_take 2 (v := ?tv2) rfl (by kernel_rfl) (by kernel_rfl) (by kernel_rfl) (fun _ _ _ h => h) (.inl ⟨rfl, ?ty2⟩) hS0 ?tr2
  case ty2 => (intro _ _; go_simp; try with_reducible rfl)
  case tr2 =>
  simp only [Act.put, List.setIfInBounds_toArray, List.set_cons_succ, List.set_cons_zero]
  generalize wA.drew = wD at *
  have hwd : wA.heap.size ≤ wD.heap.size := ((HCC.out wD).1 hS0).kept.1
  refine held_one (i := 1) (by kernel_rfl) rfl ?_
  intro Q' hQ
  go_wp2_with fail
  refine (clone_c x (some ⟨w.heap.size, 0, none⟩) 32 32 wD HX.out (by omega) (Cells.of_blk0 (((HCC.out wD).1 hS0).blk XA.out (by simp)))).mono ?_
  rintro e w1 ⟨v1, rfl, own1, -, e1⟩
  have hC1 := hCx _ _ hS0 e1
  go_wp2_with fail
  refine hQ _ _ hC1 ?_
  clear hS0 hQ Q'
  have O1 := hid own1
  have YC1 := hid (((HCC.out w1).1 hC1).blk YA.out (by simp))
  have HC1 := hid hC1
  clear hC1
  have hb1 : wD.heap.size ≤ w1.heap.size := e1.size
  clear own1 e1
  try dsimp only
  try simp only [Act.put, List.setIfInBounds_toArray, List.set_cons_succ, List.set_cons_zero]
  refine held_one (i := 3) (by kernel_rfl) rfl ?_
  intro Q' hQ
  go_wp2_with (first | (at_builtin; refine wpl_append8 rfl _ _ rfl wD.heap.size (ys := y) rfl rfl O1.out HY.out (by intro h; cases h) (Cells.of_blk0 YC1.out) (by omega) hb1 ?_))
  intro v2 w2 own2 g2
  have own2' : w2.ownsRow wD.heap.size 5 1 v2 64 ((x ++ y).map u8v) := by rw [List.map_append]; exact own2
  have hv2 := own_block_ge O1.out
  have hC2 : C w2 := (HCC.out w2).2 (((HCC.out w1).1 HC1.out).grown g2 (by intro q hq; have := hv2 _ hq; omega) hwl)
  go_wp2_with fail
  refine hQ _ _ hC2 ?_
  clear hQ Q' own2 g2 hv2 O1 HC1 hb1
  obtain ⟨a, c, rfl, -, -, -, hcl⟩ := own_slice own2'
  have HCL := hid hcl
  clear own2' hcl
  try dsimp only
  try simp only [Act.put, List.setIfInBounds_toArray, List.set_cons_succ, List.set_cons_zero]
  refine held_one (i := 4) (by kernel_rfl) rfl ?_
  intro Q' hQ
  go_wp2_with fail
  refine (HSUM.out w2 c a HCL.out).mono ?_
  rintro e w3 ⟨rfl, e3⟩
  have hC3 := hCx _ _ hC2 e3
  go_wp2_with fail
  refine hQ _ _ hC3 ?_
  clear hQ Q'
  obtain ⟨vz, hvz, z3⟩ := ((HCC.out w3).1 hC3).at_room (r := w.heap.size + 2) (n := 32) (T := 31) (by simp)
  have Z3 := hid z3
  have HVZ := hid hvz
  have HC3 := hid hC3
  clear z3 hvz hC3 hC2 HSUM HCL
  try dsimp only
  try simp only [Act.put, List.setIfInBounds_toArray, List.set_cons_succ, List.set_cons_zero]
  refine held_one (i := 5) (by kernel_rfl) rfl ?_
  intro Q' hQ
  go_wp2_with (refine wpl_storew rfl _ _ _ rfl rfl rfl Z3.out agg_apisum HVZ.out HSL.out o1 ?_)
  intro w4 b4 u4
  go_wp2_with fail
  have B4 := hid b4
  have hS : C w4 := (HCC.out w4).2 (((HCC.out w3).1 HC3.out).store u4 b4 (by simp [HSL.out]) (by omega) (by simp <;> omega))
  refine hQ _ _ hS ?_
  clear hQ Q'
  refine wpAnyH_done (by kernel_rfl) ?_ _
  go_wp2
  refine ret_row rfl rfl b4 agg_apisum HSL.out rfl ⟨rfl, ((HCC.out w4).1 hS).base⟩
end

section
open Go Go.RowKit

def rows (ls : List (List UInt8)) : List Value := ls.flatten.map u8v
def All32 (ls : List (List UInt8)) : Prop := ∀ l ∈ ls, l.length = 32

theorem flat_length {ls : List (List UInt8)} (h : All32 ls) : ls.flatten.length = 32 * ls.length := by
  induction ls with
  | nil => rfl
  | cons l ls ih =>
    rw [List.flatten_cons, List.length_append, h l (by simp), ih (fun x hx => h x (by simp [hx])), List.length_cons]; omega
theorem rows_length {ls : List (List UInt8)} (h : All32 ls) : (rows ls).length = 32 * ls.length := by rw [rows, List.length_map, flat_length h]
theorem rows_nil : rows [] = [] := rfl
theorem rows_append (a b : List (List UInt8)) : rows (a ++ b) = rows a ++ rows b := by simp [rows]
theorem rows_one (x : List UInt8) : rows [x] = x.map u8v := by simp [rows]
theorem All32.append {a b : List (List UInt8)} (h1 : All32 a) (h2 : All32 b) : All32 (a ++ b) := fun l hl => by
  rcases List.mem_append.1 hl with h | h
  · exact h1 l h
  · exact h2 l h
theorem All32.take {ls : List (List UInt8)} (h : All32 ls) (k : Nat) : All32 (ls.take k) := fun l hl => h l (List.mem_of_mem_take hl)
theorem All32.drop {ls : List (List UInt8)} (h : All32 ls) (k : Nat) : All32 (ls.drop k) := fun l hl => h l (List.mem_of_mem_drop hl)
theorem All32.one {x : List UInt8} (h : x.length = 32) : All32 [x] := fun l hl => by rw [List.mem_singleton.1 hl]; exact h
theorem All32.nil : All32 [] := fun l hl => by cases hl
theorem All32.at {ls : List (List UInt8)} (h : All32 ls) {i : Nat} {x : List UInt8} (hx : ls[i]? = some x) : x.length = 32 := h x (List.mem_of_getElem? hx)
theorem flat_drop {ls : List (List UInt8)} (h : All32 ls) (k : Nat) : ls.flatten.drop (32 * k) = (ls.drop k).flatten := by
  induction ls generalizing k with
  | nil => simp
  | cons l ls ih =>
    cases k with
    | zero => simp
    | succ k =>
      have hl := h l (by simp)
      rw [List.flatten_cons, List.drop_append, hl, show 32 * (k + 1) - 32 = 32 * k by omega, List.drop_of_length_le (by omega), List.nil_append, ih (fun x hx => h x (by simp [hx])), List.drop_succ_cons]
theorem flat_take {ls : List (List UInt8)} (h : All32 ls) (k : Nat) : ls.flatten.take (32 * k) = (ls.take k).flatten := by
  induction ls generalizing k with
  | nil => simp
  | cons l ls ih =>
    cases k with
    | zero => simp
    | succ k =>
      have hl := h l (by simp)
      rw [List.flatten_cons, List.take_append, hl, show 32 * (k + 1) - 32 = 32 * k by omega, List.take_of_length_le (by omega), ih (fun x hx => h x (by simp [hx])), List.take_succ_cons, List.flatten_cons]
theorem rows_drop {ls : List (List UInt8)} (h : All32 ls) (k : Nat) : (rows ls).drop (32 * k) = rows (ls.drop k) := by rw [rows, ← List.map_drop, flat_drop h]; rfl
theorem rows_take {ls : List (List UInt8)} (h : All32 ls) (k : Nat) : (rows ls).take (32 * k) = rows (ls.take k) := by rw [rows, ← List.map_take, flat_take h]; rfl
theorem rows_at {ls : List (List UInt8)} (h : All32 ls) {i : Nat} {x : List UInt8} (hx : ls[i]? = some x) : ((rows ls).drop (32 * i)).take 32 = x.map u8v := by
  have h1 : ls.drop i = x :: ls.drop (i + 1) := by
    have hi := (List.getElem?_eq_some_iff.1 hx)
    obtain ⟨hlt, he⟩ := hi
    rw [List.drop_eq_getElem_cons hlt, he]
  rw [rows_drop h, h1]
  have h2 := rows_take (ls := x :: ls.drop (i + 1)) (by rw [← h1]; exact h.drop i) 1
  rw [Nat.mul_one] at h2
  rw [h2]; simp [rows]

/-- cells at an address -/
def CellsAt (w : World) (p : Addr) (xs : List Value) : Prop := ∀ j u, xs[j]? = some u → w.cell? (p.add j) = some u
theorem addr_add (b o n : Nat) : (⟨b, o, none⟩ : Addr).add n = ⟨b, o + n, none⟩ := by unfold Addr.add; split <;> simp_all
theorem CellsAt.of {w : World} {p : Addr} {xs : List Value} (h : Cells w (some p) xs) : CellsAt w p xs := news_cells h
theorem CellsAt.ext {w w' : World} {p : Addr} {xs : List Value} (h : CellsAt w p xs) (k : Ext w w') : CellsAt w' p xs := by
  intro j u hu
  have h1 := h j u hu
  have hb := block_lt_of_cell h1
  rw [k.cell hb]; exact h1
/-- the address of a slice's part from row p on -/
def shiftz (a : Option Addr) (c p z : Nat) : Option Addr := if c = p then a else a.map (·.add (p * z))
theorem Cells.rowAt {w : World} {p : Addr} {ls : List (List UInt8)} (h : Cells w (some p) (rows ls)) (h32 : All32 ls) {i : Nat} {x : List UInt8} (hx : ls[i]? = some x) : CellsAt w (p.add (i * 32)) (x.map u8v) := by
  intro j u hu
  have hxl := h32.at hx
  have hj : j < 32 := by
    have := (List.getElem?_eq_some_iff.1 hu).1
    rw [List.length_map, hxl] at this; exact this
  have h1 := rows_at h32 hx
  have h2 : (rows ls)[32 * i + j]? = some u := by
    rw [← h1, List.getElem?_take_of_lt hj, List.getElem?_drop] at hu
    exact hu
  obtain ⟨b, off, hp, hc⟩ := h.some_of (by have := (List.getElem?_eq_some_iff.1 h2).1; omega)
  cases hp
  rw [addr_add, addr_add]
  have := hc _ _ h2
  rw [show off + i * 32 + j = off + (32 * i + j) by omega]
  exact this
theorem Cells.rowsTake {w : World} {a : Option Addr} {ls : List (List UInt8)} (h : Cells w a (rows ls)) (h32 : All32 ls) (k : Nat) : Cells w a (rows (ls.take k)) := by
  rw [← rows_take h32]; exact h.take _
theorem Cells.rowsShift {w : World} {a : Option Addr} {ls : List (List UInt8)} (h : Cells w a (rows ls)) (h32 : All32 ls) (c p : Nat) (hc : ls.length ≤ c) : Cells w (shiftz a c p 32) (rows (ls.drop p)) := by
  unfold shiftz
  rw [← rows_drop h32]
  split
  · rename_i hcp
    left
    rw [rows_drop h32, List.drop_of_length_le (by omega)]; rfl
  · rcases h with h | ⟨b, off, rfl, h⟩
    · left; rw [h]; simp
    · refine .inr ⟨b, off + p * 32, by rw [Option.map_some, addr_add], fun i u hu => ?_⟩
      rw [List.getElem?_drop] at hu
      have := h _ _ hu
      rw [show off + p * 32 + i = off + (32 * p + i) by omega]; exact this

section
variable {P : Program} {ops : Array Oper} {rest : List Oper} {o : Oper} {a : Act} {w : World} {Q : Exit → Act → World → Prop} {S : World → Prop}

theorem run_indexAt_z {t e : TypeId} {p : Addr} {n c i z : Nat} (hu : P.underlying t = some (.slice e)) (hs : (P.info? e).map (·.size) = some z) (hi : i < n) (w : World) :
    (Instr.indexAt t (.slice (some p) n c) (.int .i64 (i : Int))).run P w = .ok (.pointer (some (p.add (i * z)))) w := by
  cases hq : P.info? e with
  | none => simp [hq] at hs
  | some inf =>
    have hz : inf.size = z := by simpa [hq] using hs
    have h0 : (0 : Int) ≤ i ∧ (i : Int) < n := by omega
    simp [Instr.indexAt, asIntOf, run_underlying hu, sizeOf, typeInfo, hq, hz, hi]

theorem run_sliceAt_high_z {t e : TypeId} {p : Option Addr} {n c k z : Nat} (hu : P.underlying t = some (.slice e)) (hs : (P.info? e).map (·.size) = some z) (hk : k ≤ c) (w : World) :
    (Instr.sliceAt t (.slice p n c) none (some (.int .i64 (k : Int))) none).run P w = .ok (.slice p k c) w := by
  cases hq : P.info? e with
  | none => simp [hq] at hs
  | some i =>
    have hi : i.size = z := by simpa [hq] using hs
    have h1 : (0 : Int) ≤ k ∧ (k : Int) ≤ c := by omega
    have ha : p.map (fun x => x.add 0) = p := by
      cases p with
      | none => rfl
      | some x => obtain ⟨b, o, s⟩ := x; simp only [Option.map_some, Addr.add]; split <;> simp_all
    simp [Instr.sliceAt, Instr.slice, Instr.sliceBounds, Instr.sliceBound, asIntOf, run_underlying hu, sizeOf, typeInfo, hq, hi, hk, ha]

theorem run_sliceAt_low_z {t e : TypeId} {p : Option Addr} {n c k z : Nat} (hu : P.underlying t = some (.slice e)) (hs : (P.info? e).map (·.size) = some z) (hk : k ≤ n) (w : World) :
    (Instr.sliceAt t (.slice p n c) (some (.int .i64 (k : Int))) none none).run P w = .ok (.slice (shiftz p c k z) (n - k) (c - k)) w := by
  cases hq : P.info? e with
  | none => simp [hq] at hs
  | some i =>
    have hi : i.size = z := by simpa [hq] using hs
    have h1 : (0 : Int) ≤ k ∧ (k : Int) ≤ n := by omega
    simp [Instr.sliceAt, Instr.slice, Instr.sliceBounds, Instr.sliceBound, asIntOf, run_underlying hu, sizeOf, typeInfo, hq, hi, h1.1, hk, shiftz]

theorem run_load_at {ty : TypeId} {p : Addr} {xs : List Value} {n : Nat} (hc : CellsAt w p xs) (ht : AggT P ty n) (hn : xs.length = n) : (loadVar ty p).run P w = .ok (.agg xs.toArray) w := by
  obtain ⟨⟨d, hu, hd⟩, hi⟩ := ht
  have hl := run_loadCells_list (P := P) w p xs hc
  rw [hn] at hl
  cases hq : P.info? ty with
  | none => simp [hq] at hi
  | some i =>
    have hs : i.size = n := by simpa [hq] using hi
    have hagg : (isAgg ty).run P w = .ok true w := by
      unfold isAgg
      rw [Sem.run_bind, run_underlying hu w]
      cases d <;> simp_all
    simp [loadVar, Sem.run_bind, hagg, sizeOf, typeInfo, hq, hs, hl]

/-- whatever runs to a value: as a step of a plain region -/
theorem wpl_run {v : Value} (hgd : o.guard = none) (hr : (execOp a.eval o).run P w = .ok (.value v) w) (h : wpList P ops Q rest (a.put o.dst v) w) : wpList P ops Q (o :: rest) a w :=
  wpList_plain hgd fun K hK => by
    unfold Oper.wp
    rw [hr, Oper.upon_value]
    exact hK _ _ h
theorem wpg_run {v : Value} (hw : Region.wanted o (yielded ops a.tmps) = true) (hr : (execOp a.eval o).run P w = .ok (.value v) w) (h : wpList P ops Q rest (a.put o.dst v) w) : wpList P ops Q (o :: rest) a w :=
  wpList_step fun K hK => by
    rw [if_pos hw]
    unfold Oper.wp
    rw [hr, Oper.upon_value]
    exact hK _ _ h

theorem exec_index {t e : TypeId} {x y : Operand} {p : Addr} {n c i z : Nat} (ho : o.op = .indexAddr t x y) (hx : a.eval x = .slice (some p) n c) (hy : a.eval y = .int .i64 (i : Int)) (hu : P.underlying t = some (.slice e)) (hs : (P.info? e).map (·.size) = some z) (hi : i < n) (w : World) :
    (execOp a.eval o).run P w = .ok (.value (.pointer (some (p.add (i * z))))) w := by
  unfold execOp
  simp only [ho, hx, hy, Sem.run_bind, run_indexAt_z hu hs hi w, Result.andThen_ok, Sem.run_pure]
theorem exec_high {t e : TypeId} {x y : Operand} {p : Option Addr} {n c k z : Nat} (ho : o.op = .slice t x none (some y) none) (hx : a.eval x = .slice p n c) (hy : a.eval y = .int .i64 (k : Int)) (hu : P.underlying t = some (.slice e)) (hs : (P.info? e).map (·.size) = some z) (hk : k ≤ c) (w : World) :
    (execOp a.eval o).run P w = .ok (.value (.slice p k c)) w := by
  unfold execOp
  simp only [ho, hx, hy, Option.map_some, Option.map_none, Sem.run_bind, run_sliceAt_high_z hu hs hk w, Result.andThen_ok, Sem.run_pure]
theorem exec_low {t e : TypeId} {x y : Operand} {p : Option Addr} {n c k z : Nat} (ho : o.op = .slice t x (some y) none none) (hx : a.eval x = .slice p n c) (hy : a.eval y = .int .i64 (k : Int)) (hu : P.underlying t = some (.slice e)) (hs : (P.info? e).map (·.size) = some z) (hk : k ≤ n) (w : World) :
    (execOp a.eval o).run P w = .ok (.value (.slice (shiftz p c k z) (n - k) (c - k))) w := by
  unfold execOp
  simp only [ho, hx, hy, Option.map_some, Option.map_none, Sem.run_bind, run_sliceAt_low_z hu hs hk w, Result.andThen_ok, Sem.run_pure]
theorem exec_load_at {ty : TypeId} {x : Operand} {p : Addr} {xs : List Value} {n : Nat} (ho : o.op = .load ty x) (hx : a.eval x = .pointer (some p)) (hc : CellsAt w p xs) (ht : AggT P ty n) (hn : xs.length = n) :
    (execOp a.eval o).run P w = .ok (.value (.agg xs.toArray)) w := by
  unfold execOp
  simp only [ho, hx, Instr.loadAt, Instr.sureAddr, Sem.run_bind, Sem.run_pure, Result.andThen_ok, run_load_at hc ht hn]
theorem yieldsI_run {v : Value} (hw : Region.wanted o (yielded ops a.tmps) = true) (hr : ∀ w, S w → (execOp a.eval o).run P w = .ok (.value v) w) : YieldsIf P ops S o v a := .inl ⟨hw, hr⟩
end
end

section
open Go Go.RowKit

theorem size_apisum : (Tryd.prog.info? 31).map (·.size) = some 32 := by kernel_rfl
end

section
open Go Go.RowKit

theorem info_bool : (Tryd.prog.info? 4).map (fun i => (i.zero, i.size, i.bytes)) = some (some (.bool false), 1, 1) := by kernel_rfl
theorem own_sliceT {w : World} {B : Nat} {T : TypeId} {z : Nat} {v : Value} {n : Nat} {xs : List Value} (hz : 0 < z) (h : w.ownsRow B T z v n xs) :
    ∃ a c, v = .slice a n c ∧ n ≤ c ∧ c ≤ maxLen ∧ (a = none → c = 0) ∧ Cells w a xs := by
  obtain ⟨hl, h⟩ := h
  rcases h with ⟨rfl, rfl⟩ | ⟨g, cap, cur, rfl, hb, hg, h1, h2, h3, h4⟩
  · refine ⟨none, 0, rfl, Nat.le_refl _, by unfold maxLen; omega, fun _ => rfl, .inl ?_⟩
    exact List.length_eq_zero_iff.1 (by omega)
  · refine ⟨_, cap, rfl, h1, h2, (fun h => by cases h), .inr ⟨g, 0, rfl, fun i u hu => ?_⟩⟩
    rw [← h4] at hu
    have hi : i < n * z := by
      have := (List.getElem?_eq_some_iff.1 hu).1
      simp only [List.length_take] at this; omega
    rw [List.getElem?_take_of_lt hi] at hu
    rw [Nat.zero_add]
    exact Blk.cell' (vs := cur.toList) (T := T) (by simpa [Blk] using hg) hu
end

section
open Go Go.RowKit

def zero32 : List UInt8 := List.replicate 32 0
theorem zero32_map : zero32.map u8v = List.replicate 32 (.int .u8 0) := by simp [zero32, u8v]
theorem zero32_length : zero32.length = 32 := by simp [zero32]
def rootByL (x : List UInt8) (I Z : Int) (ls : List (List UInt8)) : List UInt8 × Int :=
  if Z < 1 ∨ 65536 < Z then (zero32, 4) else if I < 0 ∨ Z ≤ I then (zero32, 7) else if ls.length = (sidesL I.toNat Z.toNat).length then (leadS nodeL x (sidesL I.toNat Z.toNat) ls, 0) else (zero32, 12)
def sumErr (p : List UInt8 × Int) : Value := .tuple #[.agg (p.1.map u8v).toArray, .int .i64 p.2]
end

section
open Go Go.RowKit

theorem gby_self (w : World) (r : Option Nat) : w.grownBy w r := ⟨rfl, rfl, rfl, Nat.le_refl _, fun _ _ _ => rfl⟩
theorem gby_ext {w w1 w2 : World} {r : Option Nat} (h : w.grownBy w1 r) (e : Ext w1 w2) : w.grownBy w2 r :=
  ⟨e.os.trans h.os, e.tape.trans h.tape, e.output.trans h.output, Nat.le_trans h.size e.size, fun k hk hn => (e.block k (Nat.lt_of_lt_of_le hk h.size)).trans (h.block k hk hn)⟩
theorem gby_upd {w w1 w2 : World} {g : Nat} (h : w.grownBy w1 (some g)) (u : Upd w1 g w2) : w.grownBy w2 (some g) :=
  ⟨u.os.trans h.os, u.tape.trans h.tape, u.output.trans h.output, by rw [u.size]; exact h.size, fun k hk hn => (u.block k (fun e => hn (by rw [e]))).trans (h.block k hk hn)⟩
theorem gby_new {w w1 w2 : World} {g : Nat} {r : Option Nat} (h : w.grownBy w1 r) (u : Upd w1 g w2) (hg : w.heap.size ≤ g) : w.grownBy w2 r :=
  ⟨u.os.trans h.os, u.tape.trans h.tape, u.output.trans h.output, by rw [u.size]; exact h.size, fun k hk hn => (u.block k (by omega)).trans (h.block k hk hn)⟩
/-- the cells behind a slice's address, and none of them in block g -/
def CellsOff (w : World) (g : Nat) (a : Option Addr) (xs : List Value) : Prop := xs = [] ∨ ∃ b off, a = some ⟨b, off, none⟩ ∧ b ≠ g ∧ ∀ i u, xs[i]? = some u → w.cell? ⟨b, off + i, none⟩ = some u
theorem CellsOff.cells {w : World} {g : Nat} {a : Option Addr} {xs : List Value} (h : CellsOff w g a xs) : Cells w a xs := by
  rcases h with h | ⟨b, off, ha, _, h⟩
  · exact .inl h
  · exact .inr ⟨b, off, ha, h⟩
theorem CellsOff.grown {w w' : World} {g : Nat} {a : Option Addr} {xs : List Value} (h : CellsOff w g a xs) (k : w.grownBy w' (some g)) : CellsOff w' g a xs := by
  rcases h with h | ⟨b, off, ha, hb, h⟩
  · exact .inl h
  · exact .inr ⟨b, off, ha, hb, fun i u hu => k.cell (h i u hu) (by simpa using hb)⟩
theorem CellsOff.ext {w w' : World} {g : Nat} {a : Option Addr} {xs : List Value} (h : CellsOff w g a xs) (k : Ext w w') : CellsOff w' g a xs := by
  rcases h with h | ⟨b, off, ha, hb, h⟩
  · exact .inl h
  · refine .inr ⟨b, off, ha, hb, fun i u hu => ?_⟩
    have h1 := h i u hu
    have hb := block_lt_of_cell h1
    have := k.cell (p := ⟨b, off + i, none⟩) hb
    rw [this]; exact h1
theorem own_off {w : World} {B g : Nat} {T : TypeId} {z : Nat} {v : Value} {n : Nat} {xs : List Value} (hz : 0 < z) (h : w.ownsRow B T z v n xs) (hg : g < B) :
    ∃ a c, v = .slice a n c ∧ n ≤ c ∧ c ≤ maxLen ∧ (a = none → c = 0) ∧ CellsOff w g a xs := by
  obtain ⟨hl, h⟩ := h
  rcases h with ⟨rfl, rfl⟩ | ⟨gr, cap, cur, rfl, hb, hgr, h1, h2, h3, h4⟩
  · refine ⟨none, 0, rfl, Nat.le_refl _, by unfold maxLen; omega, fun _ => rfl, .inl ?_⟩
    exact List.length_eq_zero_iff.1 (by omega)
  · refine ⟨_, cap, rfl, h1, h2, (fun h => by cases h), .inr ⟨gr, 0, rfl, by omega, fun i u hu => ?_⟩⟩
    rw [← h4] at hu
    have hi : i < n * z := by
      have := (List.getElem?_eq_some_iff.1 hu).1
      simp only [List.length_take] at this; omega
    rw [List.getElem?_take_of_lt hi] at hu
    rw [Nat.zero_add]
    exact Blk.cell' (vs := cur.toList) (T := T) (by simpa [Blk] using hgr) hu
theorem CellsOff.at {w : World} {g : Nat} {a : Option Addr} {xs : List Value} (h : CellsOff w g a xs) {i : Nat} {u : Value} (hu : xs[i]? = some u) :
    ∃ b off, a = some ⟨b, off, none⟩ ∧ w.cell? ⟨b, off + i, none⟩ = some u := by
  rcases h with rfl | ⟨b, off, ha, _, h⟩
  · simp at hu
  · exact ⟨b, off, ha, h i u hu⟩
theorem CellsOff.of {w w' : World} {g : Nat} {a : Option Addr} {xs : List Value} (h : Cells w a xs) (hg : w.heap.size ≤ g) (e : Ext w w') : CellsOff w' g a xs := by
  rcases h.ext e with h' | ⟨b, off, ha, h'⟩
  · exact .inl h'
  · rcases h with h | ⟨b2, off2, ha2, h2⟩
    · exact .inl h
    · rw [ha] at ha2
      cases ha2
      by_cases h0 : xs = []
      · exact .inl h0
      · refine .inr ⟨b, off, ha, ?_, h'⟩
        obtain ⟨u, hu⟩ : ∃ u, xs[0]? = some u := ⟨xs[0]'(List.length_pos_iff.2 h0), by simp⟩
        have := block_lt_of_cell (h2 0 u hu)
        simp only at this
        omega

section
variable {P : Program} {ops : Array Oper} {rest : List Oper} {o : Oper} {a : Act} {C : World → Prop}
theorem yieldsE_run {v : Value} (hr : ∀ w, C w → (execOp a.eval o).run P w = .ok (.value v) w) : yieldsE P C o a v := by
  intro w hw
  rw [hr w hw]
  first | exact ⟨rfl, rfl⟩ | exact ⟨rfl, hw⟩
end
end

section
open Go Go.RowKit
end

section
open Go Go.RowKit

theorem rootByL_length (x : List UInt8) (I Z : Int) (ls : List (List UInt8)) (hx : x.length = 32) : (rootByL x I Z ls).1.length = 32 := by
  unfold rootByL
  split
  · exact zero32_length
  · split
    · exact zero32_length
    · split
      · exact leadS_length _ nodeL_length _ _ _ hx
      · exact zero32_length
def provedL (root x : List UInt8) (I Z : Int) (ls : List (List UInt8)) : Int := if (rootByL x I Z ls).2 = 0 then (if (rootByL x I Z ls).1 == root then 0 else 12) else (rootByL x I Z ls).2
end

section
open Go Go.RowKit

section
variable {P : Program} {ops : Array Oper} {Q : Exit → Act → World → Prop} {S : World → Prop} {W : List Nat}

/-- whichever comes up; S is shown behind all operations but those of W -/
def wpAnyW (P : Program) (ops : Array Oper) (Q : Exit → Act → World → Prop) (S : World → Prop) (W : List Nat) : Nat → Array Bool → Act → World → Prop
  | 0, listed, a, w => Region.ready .any ops listed = [] ∧ Q .normal a w
  | f + 1, listed, a, w => (Region.ready .any ops listed = [] → Q .normal a w) ∧
      ∀ i ∈ Region.ready .any ops listed, wpOp P ops Q i (fun a' w' => (W.contains i = false → S w → S w') ∧ wpAnyW P ops Q S W f (listed.setIfInBounds i true) a' w') a w

theorem wpAny_of_W : ∀ (f : Nat) (listed : Array Bool) (a : Act) (w : World), wpAnyW P ops Q S W f listed a w → wpAny P .any ops Q f listed a w
  | 0, _, _, _, h => h
  | f + 1, _, _, _, h => ⟨h.1, fun i hi => wpOp_mono (fun a' w' h' => wpAny_of_W f _ a' w' h'.2) (h.2 i hi)⟩

/-- what stands in listed has all that it waits for in listed -/
def Down (ops : Array Oper) (listed : Array Bool) : Prop := ∀ k, listed.getD k false = true → ∀ o, ops[k]? = some o → ∀ e ∈ o.after, Region.binds .any e = true → listed.getD e.on false = true
/-- j waits for i, through others too -/
def reachW (ops : Array Oper) : Nat → Nat → Nat → Bool
  | 0, _, _ => false
  | f + 1, j, i => waits ops j i || (List.range ops.size).any fun k => waits ops j k && reachW ops f k i

theorem reachW_listed {listed : Array Bool} (hd : Down ops listed) : ∀ (f j i : Nat), (∀ k, waits ops j k = true → listed.getD k false = true) → reachW ops f j i = true → listed.getD i false = true
  | 0, _, _, _, h => by cases h
  | f + 1, j, i, hj, h => by
    simp only [reachW, Bool.or_eq_true, List.any_eq_true, Bool.and_eq_true] at h
    rcases h with h | ⟨k, _, h1, h2⟩
    · exact hj i h
    · refine reachW_listed hd f k i (fun q hq => ?_) h2
      obtain ⟨o, ho, e, he, hb, hon⟩ := waits_spec hq
      rw [← hon]
      exact hd k (hj k h1) o ho e he hb

theorem ready_waits {listed : Array Bool} {j : Nat} (hj : j ∈ Region.ready .any ops listed) : ∀ k, waits ops j k = true → listed.getD k false = true := by
  intro k hk
  obtain ⟨_, o, ho, hall⟩ := mem_ready.1 hj
  obtain ⟨o', ho', e, he, hb, hon⟩ := waits_spec hk
  have : o' = o := Option.some.inj (ho'.symm.trans ho)
  subst this
  rw [← hon]; exact hall e he hb

theorem Down.set {listed : Array Bool} {j : Nat} (hd : Down ops listed) (hj : j ∈ Region.ready .any ops listed) : Down ops (listed.setIfInBounds j true) := by
  intro k hk o ho e he hb
  by_cases hkj : j = k
  · subst hkj
    obtain ⟨_, o', ho', hall⟩ := mem_ready.1 hj
    have : o' = o := Option.some.inj (ho'.symm.trans ho)
    subst this
    exact getD_set_true (hall e he hb)
  · rw [getD_set_ne false hkj] at hk
    exact getD_set_true (hd k hk o ho e he hb)

theorem wpAnyW_first {i : Nat} {oi : Oper} {v : Value} (n : Nat) (hi : ops[i]? = some oi) (hsel : ∀ (j : Nat) (o : Oper) cs b, ops[j]? = some o → o.op ≠ .select cs b) (hW : ∀ j, W.contains j = true → reachW ops n j i = true)
    (hQ : ∀ c a w, Q (.panic c) (a.put oi.dst v) w → Q (.panic c) a w) :
    ∀ (f : Nat) (listed : Array Bool) (a : Act) (w : World), Down ops listed →
      (∀ j oj, ops[j]? = some oj → j ≠ i → listed.getD j true = false → (∀ e ∈ oj.after, Region.binds .any e = true → e.on ≠ i) → oi.apart ops oj = true) →
      i ∈ Region.ready .any ops listed → YieldsIf P ops S oi v a → S w →
      wpAnyW P ops Q S W f (listed.setIfInBounds i true) (a.put oi.dst v) w → wpAnyW P ops Q S W (f + 1) listed a w := by
  intro f
  induction f with
  | zero =>
    intro listed a w _ _ hr hy hS H
    refine ⟨fun h => (by rw [h] at hr; cases hr), fun j hj => ?_⟩
    by_cases hji : j = i
    · subst hji; exact hy.wpOp hi hS ⟨fun _ _ => hS, H⟩
    · have := ready_mono hj hji
      rw [H.1] at this
      cases this
  | succ f ih =>
    intro listed a w hdn hfree hr hy hS H
    refine ⟨fun h => (by rw [h] at hr; cases hr), fun j hj => ?_⟩
    by_cases hji : j = i
    · subst hji; exact hy.wpOp hi hS ⟨fun _ _ => hS, H⟩
    · have h1 := H.2 j (ready_mono hj hji)
      obtain ⟨hjun, oj, hoj, hall⟩ := mem_ready.1 hj
      have h0 := (mem_ready.1 hr).1
      have hiu : listed.getD i false = true → False := fun h => by
        simp only [Array.getD_eq_getD_getElem?] at h h0
        cases hq : listed[i]? with
        | none => rw [hq] at h0; simp at h0
        | some b => rw [hq] at h h0; simp at h h0; rw [h] at h0; cases h0
      have hnot : ∀ e ∈ oj.after, Region.binds .any e = true → e.on ≠ i := fun e he hb heq => by
        have h1 := hall e he hb
        rw [heq] at h1
        exact hiu h1
      have hWj : W.contains j = false := by
        cases hq : W.contains j with
        | false => rfl
        | true => exact absurd (reachW_listed hdn n j i (ready_waits hj) (hW j hq)) hiu
      have h2 := wpOp_putIf hoj (hfree j oj hoj hji hjun hnot) (fun cs b => hsel i oi cs b hi) (fun cs b => hsel j oj cs b hoj) hQ hy h1
      have hfree' : ∀ k ok, ops[k]? = some ok → k ≠ i → (listed.setIfInBounds j true).getD k true = false →
          (∀ e ∈ ok.after, Region.binds .any e = true → e.on ≠ i) → oi.apart ops ok = true := fun k ok hk hki hun hno => by
        refine hfree k ok hk hki ?_ hno
        by_cases hjk : j = k
        · subst hjk; exact hjun
        · rw [getD_set_ne true hjk] at hun; exact hun
      refine wpOp_mono (fun a' w' h3 => ⟨fun _ _ => h3.2.1 hWj hS, ih (listed.setIfInBounds j true) a' w' (hdn.set hj) hfree' (ready_mono hr (Ne.symm hji)) h3.1 (h3.2.1 hWj hS) ?_⟩) h2
      rw [Array.setIfInBounds_comm _ _ hji]
      exact h3.2.2

/-- what yields in whatever world -/
theorem wpAnyW_pure {i : Nat} {oi : Oper} {v : Value} (hi : ops[i]? = some oi) (hsel : ∀ (j : Nat) (o : Oper) cs b, ops[j]? = some o → o.op ≠ .select cs b)
    (hQ : ∀ c a w, Q (.panic c) (a.put oi.dst v) w → Q (.panic c) a w) :
    ∀ (f : Nat) (listed : Array Bool) (a : Act) (w : World),
      (∀ j oj, ops[j]? = some oj → j ≠ i → listed.getD j true = false → (∀ e ∈ oj.after, Region.binds .any e = true → e.on ≠ i) → oi.apart ops oj = true) →
      i ∈ Region.ready .any ops listed → YieldsIf P ops (fun _ => True) oi v a →
      wpAnyW P ops Q S W f (listed.setIfInBounds i true) (a.put oi.dst v) w → wpAnyW P ops Q S W (f + 1) listed a w := by
  intro f
  induction f with
  | zero =>
    intro listed a w _ hr hy H
    refine ⟨fun h => (by rw [h] at hr; cases hr), fun j hj => ?_⟩
    by_cases hji : j = i
    · subst hji; exact hy.wpOp hi trivial ⟨fun _ h => h, H⟩
    · have := ready_mono hj hji
      rw [H.1] at this
      cases this
  | succ f ih =>
    intro listed a w hfree hr hy H
    refine ⟨fun h => (by rw [h] at hr; cases hr), fun j hj => ?_⟩
    by_cases hji : j = i
    · subst hji; exact hy.wpOp hi trivial ⟨fun _ h => h, H⟩
    · have h1 := H.2 j (ready_mono hj hji)
      obtain ⟨hjun, oj, hoj, hall⟩ := mem_ready.1 hj
      have hnot : ∀ e ∈ oj.after, Region.binds .any e = true → e.on ≠ i := fun e he hb heq => by
        have h1 := hall e he hb
        have h0 := (mem_ready.1 hr).1
        rw [heq] at h1
        simp only [Array.getD_eq_getD_getElem?] at h1 h0
        cases hq : listed[i]? with
        | none => rw [hq] at h0; simp at h0
        | some b => rw [hq] at h1 h0; simp at h1 h0; rw [h1] at h0; cases h0
      have h2 := wpOp_putIf hoj (hfree j oj hoj hji hjun hnot) (fun cs b => hsel i oi cs b hi) (fun cs b => hsel j oj cs b hoj) hQ hy h1
      have hfree' : ∀ k ok, ops[k]? = some ok → k ≠ i → (listed.setIfInBounds j true).getD k true = false →
          (∀ e ∈ ok.after, Region.binds .any e = true → e.on ≠ i) → oi.apart ops ok = true := fun k ok hk hki hun hno => by
        refine hfree k ok hk hki ?_ hno
        by_cases hjk : j = k
        · subst hjk; exact hjun
        · rw [getD_set_ne true hjk] at hun; exact hun
      refine wpOp_mono (fun a' w' h3 => ⟨h3.2.1, ih (listed.setIfInBounds j true) a' w' hfree' (ready_mono hr (Ne.symm hji)) h3.1 ?_⟩) h2
      rw [Array.setIfInBounds_comm _ _ hji]
      exact h3.2.2

def downB (ops : Array Oper) (listed : Array Bool) : Bool := (List.range ops.size).all fun k => !listed.getD k false || (ops[k]?).all fun o => o.after.all fun e => !Region.binds .any e || listed.getD e.on false
theorem down_of {listed : Array Bool} (h : downB ops listed = true) : Down ops listed := by
  intro k hk o ho e he hb
  have hkl : k < ops.size := (Array.getElem?_eq_some_iff.1 ho).1
  have h1 := List.all_eq_true.1 h k (List.mem_range.2 hkl)
  rw [hk, ho] at h1
  simp only [Bool.not_true, Bool.false_or, Option.all_some, Array.all_eq_true'] at h1
  have := h1 e he
  rw [hb] at this
  simpa using this

/-- one operation is taken first -/
theorem w_take (i : Nat) {oi : Oper} {r : List Oper} {v : Value} {f : Nat} {listed : Array Bool} {a : Act} {w : World} (hi : ops.toList.drop i = oi :: r)
    (hs : Region.noSelect ops = true) (hW : (W.all fun j => reachW ops 12 j i) = true) (hdn : downB ops listed = true) (hf : Region.free .any ops listed i = true) (hr : (Region.ready .any ops listed).contains i = true)
    (hQ : ∀ c a w, Q (.panic c) (a.put oi.dst v) w → Q (.panic c) a w) (hy : YieldsIf P ops S oi v a) (hS : S w)
    (h : wpAnyW P ops Q S W f (listed.setIfInBounds i true) (a.put oi.dst v) w) : wpAnyW P ops Q S W (f + 1) listed a w :=
  wpAnyW_first 12 (op_of_drop hi) (Region.noSelect_spec hs) (fun j hj => List.all_eq_true.1 hW j (by simpa using hj)) hQ f listed a w (down_of hdn) (Region.free_spec (op_of_drop hi) hf) (by simpa using hr) hy hS h

theorem w_pure (i : Nat) {oi : Oper} {r : List Oper} {v : Value} {f : Nat} {listed : Array Bool} {a : Act} {w : World} (hi : ops.toList.drop i = oi :: r)
    (hs : Region.noSelect ops = true) (hf : Region.free .any ops listed i = true) (hr : (Region.ready .any ops listed).contains i = true)
    (hQ : ∀ c a w, Q (.panic c) (a.put oi.dst v) w → Q (.panic c) a w) (hy : YieldsIf P ops (fun _ => True) oi v a)
    (h : wpAnyW P ops Q S W f (listed.setIfInBounds i true) (a.put oi.dst v) w) : wpAnyW P ops Q S W (f + 1) listed a w :=
  wpAnyW_pure (op_of_drop hi) (Region.noSelect_spec hs) hQ f listed a w (Region.free_spec (op_of_drop hi) hf) (by simpa using hr) hy h

/-- just one operation may come up -/
theorem w_one {i : Nat} {o : Oper} {r : List Oper} {f : Nat} {listed : Array Bool} {a : Act} {w : World} (hr : Region.ready .any ops listed = [i]) (ho : ops.toList.drop i = o :: r) (hW : W.contains i = false) (hS : S w)
    (h : ∀ Q' : Exit → Act → World → Prop, (∀ a w, S w → wpAnyW P ops Q S W f (listed.setIfInBounds i true) a w → Q' .normal a w) → wpList P ops Q' [o] a w) :
    wpAnyW P ops Q S W (f + 1) listed a w := by
  refine ⟨fun h0 => (by rw [hr] at h0; cases h0), fun j hj => ?_⟩
  rw [hr] at hj
  obtain rfl : j = i := by simpa using hj
  exact wpOp_of_list (op_of_drop ho) (h _ fun a w hS hW => ⟨fun _ _ => hS, hW⟩)
/-- just one operation may come up, a late one -/
theorem w_late {i : Nat} {o : Oper} {r : List Oper} {f : Nat} {listed : Array Bool} {a : Act} {w : World} (hr : Region.ready .any ops listed = [i]) (ho : ops.toList.drop i = o :: r) (hW : W.contains i = true)
    (h : ∀ Q' : Exit → Act → World → Prop, (∀ a w, True → wpAnyW P ops Q S W f (listed.setIfInBounds i true) a w → Q' .normal a w) → wpList P ops Q' [o] a w) :
    wpAnyW P ops Q S W (f + 1) listed a w := by
  refine ⟨fun h0 => (by rw [hr] at h0; cases h0), fun j hj => ?_⟩
  rw [hr] at hj
  obtain rfl : j = i := by simpa using hj
  exact wpOp_of_list (op_of_drop ho) (h _ fun a w _ hX => ⟨fun h => (by rw [hW] at h; cases h), hX⟩)
theorem w_done {listed : Array Bool} {a : Act} {w : World} (hr : Region.ready .any ops listed = []) (h : Q .normal a w) : ∀ f, wpAnyW P ops Q S W f listed a w
  | 0 => ⟨hr, h⟩
  | _ + 1 => ⟨fun _ => h, by rw [hr]; simp⟩
theorem wp_region_w {id : Nat} {a : Act} {w : World} (hm : P.follows .mixedOrders = true) (hS : S w.drew)
    (h : S w.drew → wpAnyW P ops Q S W ops.size (Array.replicate ops.size false) a w.drew) : (Code.region id ops true).wp P Q a w :=
  wp_region_any hm (wpAny_of_W _ _ _ _ (h hS))
end
theorem Cls.two_room {w0 W : World} {L : List Nat} {r r2 n n2 : Nat} {vs vs2 : List Value} {T T2 : TypeId} (h : Ext w0 W) (k : Kept W L W) (hb : Blk W r vs T) (hn : vs.length = n) (hb2 : Blk W r2 vs2 T2) (hn2 : vs2.length = n2) : Cls w0 W L [(r, n, T), (r2, n2, T2)] W :=
  ⟨h, k, by simp only [List.mem_cons, List.not_mem_nil, or_false]; rintro x (rfl | rfl) <;> first | exact ⟨hb.lt, vs, hn, hb⟩ | exact ⟨hb2.lt, vs2, hn2, hb2⟩⟩
end

section
open Go Go.RowKit

theorem ret_rows2 {P : Program} {fn : Func} {R : Ending → World → Prop} {a : Act} {w : World} {p u : Tmp} {ty : TypeId} {g h : Nat} {vs us : List Value} {T U : TypeId}
    (hres : fn.results = #[.cell p ty, .cell u ty]) (hp : a.tmps.getD p undef = .pointer (some ⟨g, 0, none⟩)) (hu : a.tmps.getD u undef = .pointer (some ⟨h, 0, none⟩)) (hb : Blk w g vs T) (hc : Blk w h us U)
    {n : Nat} (ht : AggT P ty n) (hn : vs.length = n) (hm : us.length = n)
    (hdef : a.defers = []) (hR : R (.returned (.tuple #[.agg vs.toArray, .agg us.toArray])) w) : bodyPost P fn R .ret a w := by
  have h1 := run_load_sub (P := P) (off := 0) hb ht (by omega)
  have h2 : (vs.drop 0).take n = vs := by simp [← hn]
  rw [h2] at h1
  have h3 := run_load_sub (P := P) (off := 0) hc ht (by omega)
  have h4 : (us.drop 0).take n = us := by simp [← hm]
  rw [h4] at h3
  refine bodyPost_ret (v := .tuple #[.agg vs.toArray, .agg us.toArray]) ?_ hdef hR
  simp only [Array.getD_eq_getD_getElem?] at hp hu
  simp [results, hres, hp, hu, asAddr, h1, h3]
theorem ret_rows3 {P : Program} {fn : Func} {R : Ending → World → Prop} {a : Act} {w : World} {p u q : Tmp} {ty : TypeId} {g h : Nat} {vs us : List Value} {T U : TypeId}
    (hres : fn.results = #[.cell p ty, .cell u ty, .tmp q]) (hp : a.tmps.getD p undef = .pointer (some ⟨g, 0, none⟩)) (hu : a.tmps.getD u undef = .pointer (some ⟨h, 0, none⟩)) (hb : Blk w g vs T) (hc : Blk w h us U)
    {n : Nat} (ht : AggT P ty n) (hn : vs.length = n) (hm : us.length = n)
    (hdef : a.defers = []) (hR : R (.returned (.tuple #[.agg vs.toArray, .agg us.toArray, a.tmps.getD q undef])) w) : bodyPost P fn R .ret a w := by
  have h1 := run_load_sub (P := P) (off := 0) hb ht (by omega)
  have h2 : (vs.drop 0).take n = vs := by simp [← hn]
  rw [h2] at h1
  have h3 := run_load_sub (P := P) (off := 0) hc ht (by omega)
  have h4 : (us.drop 0).take n = us := by simp [← hm]
  rw [h4] at h3
  refine bodyPost_ret (v := .tuple #[.agg vs.toArray, .agg us.toArray, a.tmps.getD q undef]) ?_ hdef hR
  simp only [Array.getD_eq_getD_getElem?] at hp hu
  simp [results, hres, hp, hu, asAddr, h1, h3]
end

section
open Go Go.RowKit

def pairV (p : List UInt8 × List UInt8) : Value := .tuple #[.agg (p.1.map u8v).toArray, .agg (p.2.map u8v).toArray]

theorem followL_length (x : List UInt8) (hx : x.length = 32) : ∀ (n m : Nat) (wh : Bool) (ls : List (List UInt8)), 1 ≤ m → m ≤ n → All32 ls → ls.length = growN m n wh → (followL nodeL x m n wh ls).1.length = 32 ∧ (followL nodeL x m n wh ls).2.length = 32 := by
  intro n
  induction n using Nat.strongRecOn with
  | ind n ih =>
  intro m wh ls h1 h2 h32 hl
  rcases Nat.lt_or_ge m n with h3 | h3
  · have hs := splitN_spec (n := n) (by omega)
    have hne : ls ≠ [] := by
      intro h
      rw [h] at hl
      by_cases hm : m ≤ splitN n
      · rw [growN_left h1 h3 hm] at hl; simp at hl
      · rw [growN_right h1 h3 hm] at hl; simp at hl
    obtain ⟨rest, last, rfl⟩ : ∃ rest last, ls = rest ++ [last] := ⟨ls.dropLast, ls.getLast hne, (List.dropLast_concat_getLast hne).symm⟩
    have hr32 : All32 rest := fun l hl => h32 l (by simp [hl])
    rw [List.length_append] at hl
    simp only [List.length_cons, List.length_nil] at hl
    by_cases hm : m ≤ splitN n
    · rw [growN_left h1 h3 hm] at hl
      rw [followL_left _ _ _ _ _ h1 h3 hm]
      exact ⟨(ih (splitN n) (by omega) m wh rest h1 hm hr32 (by omega)).1, nodeL_length _ _⟩
    · rw [growN_right h1 h3 hm] at hl
      rw [followL_right _ _ _ _ _ h1 h3 hm]
      exact ⟨nodeL_length _ _, nodeL_length _ _⟩
  · obtain rfl : m = n := by omega
    rw [followL_eq]
    rw [growN_eq] at hl
    cases wh with
    | true => exact ⟨hx, hx⟩
    | false =>
      obtain ⟨y, rfl⟩ := List.length_eq_one_iff.1 (by simpa using hl)
      have := h32 y (by simp)
      exact ⟨this, this⟩
end

section
open Go Go.RowKit

theorem Cls.restore {w0 W w w' : World} {L : List Nat} {g : Nat} {vs : List Value} {T : TypeId} (h : Cls w0 W L [] w) (u : Upd w g w') (hW : Blk W g vs T) (hb : Blk w' g vs T) (hr : w0.heap.size ≤ g) : Cls w0 W L [] w' := by
  refine ⟨u.ext h.base hr, ⟨by rw [u.size]; exact h.kept.1, h.kept.2.1, fun k hk => ?_⟩, by simp⟩
  by_cases e : k = g
  · subst e
    unfold Blk at hW hb
    rw [hW, hb]
  · exact (u.block k e).trans (h.kept.2.2 k hk)

def growPost (x : List UInt8) (m n : Nat) (wh : Bool) (ls : List (List UInt8)) (w : World) (e : Ending) (w' : World) : Prop :=
  ∃ y z : List UInt8, e = .returned (.tuple #[.agg (y.map u8v).toArray, .agg (z.map u8v).toArray, .bool (decide (ls.length = growN m n wh))]) ∧ y.length = 32 ∧ z.length = 32 ∧ (ls.length = growN m n wh → (y, z) = followL nodeL x m n wh ls) ∧ Ext w w'
end

section
open Go Go.RowKit

def grownL (x y : List UInt8) (I Z : Int) (ls : List (List UInt8)) : Int :=
  if Z < 1 ∨ 65536 < Z ∨ I < 1 ∨ Z < I then 4 else if ls.length = growN I.toNat Z.toNat true then
    (if (followL nodeL x I.toNat Z.toNat true ls).1 == x && (followL nodeL x I.toNat Z.toNat true ls).2 == y then 0 else 12) else 12
end

section
open Go Go.RowKit
end

section
open Go Go.RowKit
end

section
open Go Go.RowKit

section
variable (nd : List UInt8 → List UInt8 → List UInt8)
/-- the root of a list of sums -/
def rootS (ls : List (List UInt8)) : List UInt8 :=
  if h : ls.length < 2 then ls.headD zero32 else nd (rootS (ls.take (splitN ls.length))) (rootS (ls.drop (splitN ls.length)))
termination_by ls.length
decreasing_by
  · have := splitN_spec (n := ls.length) (by omega); rw [List.length_take]; omega
  · have := splitN_spec (n := ls.length) (by omega); rw [List.length_drop]; omega
theorem rootS_one (x : List UInt8) : rootS nd [x] = x := by rw [rootS]; simp
theorem rootS_two {ls : List (List UInt8)} (h : 2 ≤ ls.length) : rootS nd ls = nd (rootS nd (ls.take (splitN ls.length))) (rootS nd (ls.drop (splitN ls.length))) := by
  rw [rootS, dif_neg (by omega)]
theorem rootS_length (hnd : ∀ a b, (nd a b).length = 32) {ls : List (List UInt8)} (h : All32 ls) : (rootS nd ls).length = 32 := by
  rcases Nat.lt_or_ge ls.length 2 with h2 | h2
  · rw [rootS, dif_pos h2]
    cases ls with
    | nil => exact zero32_length
    | cons x r => exact h x (by simp)
  · rw [rootS_two nd h2]; exact hnd _ _
end
end

section
open Go Go.RowKit

def popF : Nat → Nat → Nat
  | 0, _ => 0
  | f + 1, k => k % 2 + popF f (k / 2)
def ocA (x : Nat) : Nat := (x / 2 &&& 6148914691236517205) + (x &&& 6148914691236517205)
def ocB (a : Nat) : Nat := (a / 4 &&& 3689348814741910323) + (a &&& 3689348814741910323)
def ocC (b : Nat) : Nat := (b / 16 + b) &&& 1085102592571150095
def ocD (c : Nat) : Nat := (c + c / 256 + (c + c / 256) / 65536 + (c + c / 256 + (c + c / 256) / 65536) / 4294967296) % 128
def oc64 (x : Nat) : Nat := ocD (ocC (ocB (ocA x)))
def a8 (l : Nat) : Nat := (l / 2 &&& 85) + (l &&& 85)
def b8 (a : Nat) : Nat := (a / 4 &&& 51) + (a &&& 51)
def c8 (b : Nat) : Nat := (b / 16 + b) &&& 15

theorem land_byte (x M m : Nat) (hm : m < 256) : x &&& (256 * M + m) = 256 * (x / 256 &&& M) + (x % 256 &&& m) := by
  have h1 : (x &&& (256 * M + m)) / 2 ^ 8 = x / 2 ^ 8 &&& (256 * M + m) / 2 ^ 8 := Nat.and_div_two_pow
  have h2 : (x &&& (256 * M + m)) % 2 ^ 8 = x % 2 ^ 8 &&& (256 * M + m) % 2 ^ 8 := Nat.and_mod_two_pow
  have e1 : (256 * M + m) / 2 ^ 8 = M := by omega
  have e2 : (256 * M + m) % 2 ^ 8 = m := by omega
  rw [e1] at h1
  rw [e2] at h2
  have := Nat.div_add_mod (x &&& (256 * M + m)) (2 ^ 8)
  rw [h1, h2] at this
  exact this.symm
theorem byteA : ∀ (t : Fin 2) (l : Fin 256), (128 * t.val + l.val / 2) &&& 85 = l.val / 2 &&& 85 := by decide +kernel
theorem byteB : ∀ (t : Fin 4) (l : Fin 256), (64 * t.val + l.val / 4) &&& 51 = l.val / 4 &&& 51 := by decide +kernel
theorem boundA : ∀ l : Fin 256, a8 l.val ≤ 170 := by decide +kernel
theorem boundB : ∀ l : Fin 256, b8 (a8 l.val) ≤ 68 ∧ b8 (a8 l.val) % 16 ≤ 4 := by decide +kernel
theorem byteC : ∀ l : Fin 256, c8 (b8 (a8 l.val)) = popF 8 l.val := by decide +kernel
theorem small_land (h M m : Nat) (hh : h < 256) (hm : m < 256) : h &&& (256 * M + m) = h &&& m := by
  rw [land_byte h M m hm, Nat.div_eq_of_lt hh, Nat.zero_and, Nat.mul_zero, Nat.zero_add, Nat.mod_eq_of_lt hh]
theorem ocA_byte (h l : Nat) (hh : h < 256) (hl : l < 256) : ocA (256 * h + l) = 256 * a8 h + a8 l := by
  unfold ocA
  rw [show (6148914691236517205 : Nat) = 256 * 24019198012642645 + 85 from rfl, land_byte _ _ 85 (by omega), land_byte (256 * h + l) _ 85 (by omega)]
  have e1 : (256 * h + l) / 2 / 256 = h / 2 := by omega
  have e2 : (256 * h + l) / 2 % 256 = 128 * (h % 2) + l / 2 := by omega
  have e3 : (256 * h + l) / 256 = h := by omega
  have e4 : (256 * h + l) % 256 = l := by omega
  rw [e1, e2, e3, e4, byteA ⟨h % 2, by omega⟩ ⟨l, hl⟩, show (24019198012642645 : Nat) = 256 * 93824992236885 + 85 from rfl, small_land (h / 2) _ 85 (by omega) (by omega), small_land h _ 85 (by omega) (by omega)]
  unfold a8
  simp only
  omega
theorem ocB_byte (h l : Nat) (hh : h < 256) (hl : l < 256) : ocB (256 * h + l) = 256 * b8 h + b8 l := by
  unfold ocB
  rw [show (3689348814741910323 : Nat) = 256 * 14411518807585587 + 51 from rfl, land_byte _ _ 51 (by omega), land_byte (256 * h + l) _ 51 (by omega)]
  have e1 : (256 * h + l) / 4 / 256 = h / 4 := by omega
  have e2 : (256 * h + l) / 4 % 256 = 64 * (h % 4) + l / 4 := by omega
  have e3 : (256 * h + l) / 256 = h := by omega
  have e4 : (256 * h + l) % 256 = l := by omega
  rw [e1, e2, e3, e4, byteB ⟨h % 4, by omega⟩ ⟨l, hl⟩, show (14411518807585587 : Nat) = 256 * 56294995342131 + 51 from rfl, small_land (h / 4) _ 51 (by omega) (by omega), small_land h _ 51 (by omega) (by omega)]
  unfold b8
  simp only
  omega
theorem and15 (y : Nat) : y &&& 15 = y % 16 := Nat.and_two_pow_sub_one_eq_mod y 4
theorem ocC_byte (h l : Nat) (hh : h ≤ 68) (hh2 : h % 16 ≤ 4) (hl : l ≤ 68) : ocC (256 * h + l) = 256 * c8 h + c8 l := by
  unfold ocC
  rw [show (1085102592571150095 : Nat) = 256 * 4238682002231055 + 15 from rfl, land_byte _ _ 15 (by omega)]
  have e1 : ((256 * h + l) / 16 + (256 * h + l)) / 256 = h / 16 + h := by omega
  have e2 : ((256 * h + l) / 16 + (256 * h + l)) % 256 = 16 * (h % 16) + (l / 16 + l) := by omega
  rw [e1, e2, show (4238682002231055 : Nat) = 256 * 16557351571215 + 15 from rfl, small_land (h / 16 + h) _ 15 (by omega) (by omega)]
  unfold c8
  rw [and15, and15, and15]
  omega
theorem popF_zero (f : Nat) : popF f 0 = 0 := by
  induction f with
  | zero => rfl
  | succ f ih => simp only [popF, Nat.zero_mod, Nat.zero_div, ih]
theorem popF_more (f g k : Nat) (h : k < 2 ^ f) : popF (f + g) k = popF f k := by
  induction f generalizing k with
  | zero =>
    have : k = 0 := by simpa using h
    subst this
    rw [popF_zero, popF_zero]
  | succ f ih =>
    have h2 : k / 2 < 2 ^ f := by rw [Nat.pow_succ] at h; omega
    rw [show f + 1 + g = (f + g) + 1 by omega]
    simp only [popF]
    rw [ih _ h2]
theorem popF_split (f h l : Nat) (hl : l < 2 ^ f) (g : Nat) : popF (f + g) (2 ^ f * h + l) = popF f l + popF g h := by
  induction f generalizing l with
  | zero =>
    have : l = 0 := by simpa using hl
    subst this
    simp [popF]
  | succ f ih =>
    have e : 2 ^ (f + 1) = 2 * 2 ^ f := by rw [Nat.pow_succ]; omega
    rw [e] at hl ⊢
    have h1 : (2 * 2 ^ f * h + l) % 2 = l % 2 := by rw [Nat.mul_assoc]; omega
    have h2 : (2 * 2 ^ f * h + l) / 2 = 2 ^ f * h + l / 2 := by rw [Nat.mul_assoc]; omega
    rw [show f + 1 + g = (f + g) + 1 by omega]
    simp only [popF]
    rw [h1, h2, ih _ (by omega)]
    omega
theorem popF_le (f k : Nat) : popF f k ≤ f := by
  induction f generalizing k with
  | zero => exact Nat.le_refl _
  | succ f ih => simp only [popF]; have := ih (k / 2); omega
theorem oc_size {x : Nat} (hx : x ≤ 65536) : oc64 x = popF 63 x := by
  by_cases h6 : x = 65536
  · subst h6; decide +kernel
  · obtain ⟨h, l, hh, hl, rfl⟩ : ∃ h l, h < 256 ∧ l < 256 ∧ x = 256 * h + l := ⟨x / 256, x % 256, by omega, by omega, by omega⟩
    have bh := boundB ⟨h, hh⟩
    have bl := boundB ⟨l, hl⟩
    have ah := boundA ⟨h, hh⟩
    have al := boundA ⟨l, hl⟩
    have ch := byteC ⟨h, hh⟩
    have cl := byteC ⟨l, hl⟩
    simp only at bh bl ah al ch cl
    unfold oc64
    rw [ocA_byte h l hh hl, ocB_byte _ _ (by omega) (by omega), ocC_byte _ _ bh.1 bh.2 bl.1, ch, cl]
    have p1 := popF_le 8 h
    have p2 := popF_le 8 l
    have e : popF 63 (256 * h + l) = popF 8 l + popF 55 h := popF_split 8 h l hl 55
    have e5 : popF 55 h = popF 8 h := popF_more 8 47 h hh
    rw [e, e5]
    unfold ocD
    generalize popF 8 h = A at *
    generalize popF 8 l = B at *
    have d1 : (256 * A + B) / 256 = A := by omega
    rw [d1]
    have d2 : (256 * A + B + A) / 65536 = 0 := by omega
    rw [d2, Nat.add_zero]
    have d3 : (256 * A + B + A) / 4294967296 = 0 := by omega
    rw [d3, Nat.add_zero]
    omega

theorem land_le (x m : Nat) : x &&& m ≤ m := Nat.and_le_right
theorem and_lit (x : Nat) (hx : x < 18446744073709551616) : bits .and .u64 (x : Int) 6148914691236517205 = ((x &&& 6148914691236517205 : Nat) : Int) ∧ bits .and .u64 (x : Int) 3689348814741910323 = ((x &&& 3689348814741910323 : Nat) : Int) ∧ bits .and .u64 (x : Int) 1085102592571150095 = ((x &&& 1085102592571150095 : Nat) : Int) :=
  ⟨bits_and_u64_nat x 6148914691236517205 hx (by omega), bits_and_u64_nat x 3689348814741910323 hx (by omega), bits_and_u64_nat x 1085102592571150095 hx (by omega)⟩
theorem and127 (F : Nat) (hF : F < 9223372036854775808) : bits .and .i64 (F : Int) 127 = ((F % 128 : Nat) : Int) := by
  have ea : (BitVec.ofInt 64 (F : Int)).toNat = F := by rw [BitVec.toNat_ofInt]; omega
  have eb : (BitVec.ofInt 64 (127 : Int)).toNat = 127 := by decide
  change IntKind.i64.wrap ((BitVec.ofInt 64 (F : Int) &&& BitVec.ofInt 64 (127 : Int)).toNat : Int) = _
  rw [BitVec.toNat_and, ea, eb, show F &&& 127 = F % 128 from Nat.and_two_pow_sub_one_eq_mod F 7, IntWalk.i64_in _ (by omega)]

set_option maxRecDepth 100000 in
set_option maxHeartbeats 1000000 in
theorem onesCount64_c (x : Nat) (w : World) (hx : x < 18446744073709551616) :
    Calls Tryd.prog 28 #[.int .u64 (x : Int)] w fun e w' => e = .returned (.int .i64 ((oc64 x : Nat) : Int)) ∧ w = w' := by
  have a1 := (and_lit (x / 2) (by omega)).1
  have a2 := (and_lit x hx).1
  rw [show ((x / 2 : Nat) : Int) = (x : Int) / 2 by omega] at a1
  have b1 := land_le (x / 2) 6148914691236517205
  have b2 := land_le x 6148914691236517205
  have e1 : IntKind.u64.wrap (bits .and .u64 ((x : Int) / 2) 6148914691236517205 + bits .and .u64 (x : Int) 6148914691236517205) = ((ocA x : Nat) : Int) := by
    rw [a1, a2, IntWalk.u64_in _ (by omega)]; unfold ocA; omega
  have hA : ocA x < 18446744073709551616 := by unfold ocA; omega
  have hfin : oc64 x = ocD (ocC (ocB (ocA x))) := rfl
  generalize ocA x = A at *
  clear a1 a2 b1 b2
  have a1 := (and_lit (A / 4) (by omega)).2.1
  have a2 := (and_lit A hA).2.1
  rw [show ((A / 4 : Nat) : Int) = (A : Int) / 4 by omega] at a1
  have b1 := land_le (A / 4) 3689348814741910323
  have b2 := land_le A 3689348814741910323
  have e2 : IntKind.u64.wrap (bits .and .u64 ((A : Int) / 4) 3689348814741910323 + bits .and .u64 (A : Int) 3689348814741910323) = ((ocB A : Nat) : Int) := by
    rw [a1, a2, IntWalk.u64_in _ (by omega)]; unfold ocB; omega
  have hB : ocB A ≤ 7378697629483820646 := by unfold ocB; omega
  generalize ocB A = B at *
  clear a1 a2 b1 b2
  have a1 := (and_lit (B / 16 + B) (by omega)).2.2
  have b1 := land_le (B / 16 + B) 1085102592571150095
  have e3 : bits .and .u64 (IntKind.u64.wrap ((B : Int) / 16 + (B : Int))) 1085102592571150095 = ((ocC B : Nat) : Int) := by
    rw [IntWalk.u64_in _ (by omega)]
    rw [show (B : Int) / 16 + (B : Int) = ((B / 16 + B : Nat) : Int) by omega, a1]; rfl
  have hC : ocC B ≤ 1085102592571150095 := b1
  generalize ocC B = C at *
  clear a1 b1
  obtain ⟨D, hD⟩ : ∃ D, C + C / 256 = D := ⟨_, rfl⟩
  obtain ⟨E, hE⟩ : ∃ E, D + D / 65536 = E := ⟨_, rfl⟩
  obtain ⟨F, hF⟩ : ∃ F, E + E / 4294967296 = F := ⟨_, rfl⟩
  have e4 : IntKind.u64.wrap ((C : Int) + (C : Int) / 256) = (D : Int) := by rw [IntWalk.u64_in _ (by omega)]; omega
  have e5 : IntKind.u64.wrap ((D : Int) + (D : Int) / 65536) = (E : Int) := by rw [IntWalk.u64_in _ (by omega)]; omega
  have e6 : IntKind.u64.wrap ((E : Int) + (E : Int) / 4294967296) = (F : Int) := by rw [IntWalk.u64_in _ (by omega)]; omega
  have hFl : F < 9223372036854775808 := by omega
  have hR : oc64 x = F % 128 := by rw [hfin]; unfold ocD; rw [hD, hE, hF]
  have e7 := and127 F hFl
  have e8 : IntKind.i64.wrap (F : Int) = F := IntWalk.i64_in _ (by omega)
  rw [hR]
  clear hfin hR hD hE hF hA hB hC
  go_enter Tryd.func28, Tryd.ntmps28
  go_wp2
  go_ret
  exact ⟨by first | rfl | go_num, rfl⟩

set_option maxRecDepth 100000 in
set_option maxHeartbeats 1000000 in
theorem onesCount_c (x : Nat) (w : World) (hx : x < 18446744073709551616) :
    Calls Tryd.prog 18 #[.int .u64 (x : Int)] w fun e w' => e = .returned (.int .i64 ((oc64 x : Nat) : Int)) ∧ w = w' := by
  have h := hid (fun w' => onesCount64_c x w' hx)
  go_enter Tryd.func18, Tryd.ntmps18
  go_wp2_with (first | (go_at_call 28; refine (h.out _).mono ?_; rintro e w' ⟨rfl, rfl⟩))
  go_ret
  exact ⟨rfl, rfl⟩
end
end Go.Proofs.YtfiigjdiohmkmaaDoor
