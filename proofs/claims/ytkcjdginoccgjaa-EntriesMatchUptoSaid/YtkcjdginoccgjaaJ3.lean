/- Contracts and laws that the claim's row leans on (31 texts, joined): The reference's state: what it computes; conditions: the text's length, the domain. The reference's Sum: what it computes; conditions: the text's length, the domain. Take16; conditions: the slice's size. TagOf and SealOf: what they compute; conditions: the key's length, the text's size. The reference's Tag and SealBy: what they compute; conditions: the key's length, the text's size. Blocks of a stream: what streamBlock computes; conditions: the lengths. Stream: what it computes; conditions: the lengths. Stream and Cover: what they compute; conditions: the lengths. The reference's Stream: what it computes; conditions: the lengths. The reference's Cover: what it computes; conditions: the lengths. And: what is covered twice. Arrays of octets are compared; condition: their lengths. The law SummersAreBounded, walked; no condition. The law TagsMatch, walked; conditions: the lengths. The law StreamsMatch, walked; conditions: the lengths. Appends of which the row's block is told; conditions: the lengths. SumOf, short and Framed: what they compute; conditions: the sizes. Node and the reference's: what they compute; conditions: the lengths. split and the reference's half: the greatest power of two less than n; bits.Len by the shelf's template; conditions: n's bounds. How many sums a path has; conditions: place and size. The reference's Node: what it computes; conditions: the lengths. lead: the root to which a path leads; conditions: place, size, the rows' lengths. bytes.Compare, and IDs compared in both packages; no condition. ledger.needsOf; no condition. Bodies as values: 58 cells; no condition. ledger.putText; conditions: a row of one's own, the sizes. ledger.extra; conditions: the body's memory. What the error of a body is (ledger.bodyFault, keyref1.BodyError); plain. Numbers of octets (keyref1.number), steps on slices, taken out of G30, G31, G32; conditions: the slice's size. Bodies as plain values, printed and parsed; plain. The readers' take, octet, id, text, long of package ledger; conditions: the sizes. The reader's octet, id, text, long of package ledger; conditions: the sizes. -/
import Derived.Test.YtkcjdginoccgjaaJ2
import Derived.Laws.ResultCell
import Derived.Laws.OwnMore
import Derived.Test.YtkcjdginoccgjaaProg
import Derived.Stop.BytesEq
import Derived.Deep.DeepCutAuto
import Derived.Deep.CutBlock
import Derived.Test.YtkcjdginoccgjaaB1
import Derived.Lib.ItoaNum
import Derived.IntWalk
import Derived.Lib.BytesEntry
import Derived.Lib.AppendStr
namespace Go.Proofs.Ytkcjdginoccgjaa
section
open Go Go.RowKit

theorem absN_more {s p q : List UInt8} {m : Nat} (hp : p.length = 32 * m) (hq : q.length = 32) : absN s (p ++ q) (m + 1) = absorb (absN s p m) q := by
  rw [absN, absN_append _ (by omega), ← hp, List.drop_left, List.take_of_length_le (by omega)]
theorem finL_blocks (s t : List UInt8) (n : Nat) : finL s t n = absN s (padT t ++ (List.replicate 24 0 ++ longL (UInt64.ofNat n))) ((padT t).length / 32 + 1) := by
  have h := padT_length t
  rw [absN_more (by omega) rfl]; rfl

theorem u8_wrap (d : Int) (h : 0 ≤ d) (h2 : d ≤ 255) : ((UInt8.ofNat d.toNat).toNat : Int) = d := by rw [UInt8.toNat_ofNat']; omega
theorem init_cells (d : Int) (h : 0 ≤ d) (h2 : d ≤ 255) : (List.replicate 64 (Value.int .u8 0)).set 63 (.int .u8 d) = (initS d).map u8v := by
  unfold initS
  rw [List.map_set]
  have : u8v (UInt8.ofNat d.toNat) = .int .u8 d := by
    unfold u8v
    rw [u8_wrap d h h2]
  rw [this]
  rfl

theorem own_away {w : World} {B n c : Nat} {e : TypeId} {size : Nat} {a : Option Addr} {xs : List Value} (h : w.ownsRow B e size (.slice a n c) n xs) : ∀ x, a = some x → B ≤ x.block := by
  intro x hx
  rcases h.2 with ⟨h1, _⟩ | ⟨g', cap, cur, h1, hb, _⟩
  · injection h1 with h1 _ _; rw [h1] at hx; cases hx
  · injection h1 with h1 _ _; rw [h1] at hx; cases hx; exact hb

set_option maxRecDepth 100000 in
set_option maxHeartbeats 2000000 in
theorem rstate_c (d : Int) (t : List UInt8) (n c : Nat) (a : Option Addr) (w : World) (hd0 : 0 ≤ d) (hd1 : d ≤ 255) (ht : t.length = n) (hn : n ≤ 1099511627776) (hcl : Cells w a (t.map u8v)) :
    Calls Try.prog 95 #[.int .i64 d, .slice a n c] w fun e w' => e = .returned (.agg ((finL (initS d) t n).map u8v).toArray) ∧ Ext w w' := by
  have HT := hid ht
  have HC := hid hcl
  have HFB := hid (finL_blocks (initS d) t n)
  have HFL : Hid (((finL (initS d) t n).map u8v).length = 64) := hid (by rw [List.length_map, finL_length])
  have HP : Hid (padT t = t ++ 128 :: List.replicate (31 - n % 32) 0) := hid (by rw [← ht]; rfl)
  have hdw : IntKind.u8.wrap d = d := IntWalk.u8_in _ (by omega)
  have HD := hid (init_cells d hd0 hd1)
  have HIL := initS_length d
  have hlong := fun w => rlong_c n w (by omega)
  generalize finL (initS d) t n = fin at *
  generalize initS d = s0 at *
  generalize hll : longL (UInt64.ofNat n) = ll at *
  have HLL : Hid (ll.length = 8) := hid (by rw [← hll]; rfl)
  have HI := hid HIL
  clear ht hcl HIL hll
  go_enter Try.func95, Try.ntmps95
  go_wp2_with fail
  generalize hwA : World.alloc (World.alloc w _) _ = wA
  have zA : Blk wA w.heap.size (List.replicate 64 (.int .u8 0)) 144 := by rw [← hwA]; exact (Blk.mk_alloc rfl rfl).alloc _
  have sA : Blk wA (w.heap.size + 1) (s0.map u8v) 144 := by rw [← hwA, ← HD.out]; exact Blk.mk_alloc (by simp) rfl
  have eA : Ext w wA := by rw [← hwA]; exact ((Ext.refl w).alloc _).alloc _
  have lA : w.heap.size + 1 < wA.heap.size := sA.lt
  clear hwA
  refine (clone_c t a n c wA HT.out (by omega) (HC.out.ext eA)).mono ?_
  rintro e w1 ⟨v, rfl, own1, -, e1⟩
  have HO := hid own1
  have HE := hid (eA.ext e1)
  have HZ := hid (zA.ext e1)
  have HS := hid (sA.ext e1)
  have hbase : wA.heap.size ≤ w1.heap.size := e1.size
  clear zA sA eA e1 own1
  generalize wA.heap.size = B at *
  have zB : Blk (w1.alloc (.cells #[.int .u8 128] 5)) w1.heap.size (([128] : List UInt8).map u8v) 5 := Blk.mk_alloc rfl rfl
  have eB : Ext w1 (w1.alloc (.cells #[.int .u8 128] 5)) := (Ext.refl w1).alloc _
  have HOB := hid (ownsRow_ext HO.out eB)
  have HZB := hid (HZ.out.ext eB)
  have HSB := hid (HS.out.ext eB)
  have HEB := hid (HE.out.ext eB)
  have hbB : B ≤ (w1.alloc (.cells #[.int .u8 128] 5)).heap.size := Nat.le_trans hbase eB.size
  go_wp2_with (at_builtin; refine wpl_append8 rfl _ _ rfl B (ys := [128]) rfl rfl HOB.out rfl (by intro h; cases h) (Cells.of_blk0 zB) (by omega) hbB ?_)
  generalize w1.alloc (.cells #[.int .u8 128] 5) = w2 at *
  intro v3 w3 own3 g3
  have HO3 := hid own3
  have hv3 := fun g' h => own_block_ge HOB.out g' h
  have HZ3 := hid (HZB.out.grown g3 (by intro h; have := hv3 _ h.symm; omega))
  have HS3 := hid (HSB.out.grown g3 (by intro h; have := hv3 _ h.symm; omega))
  have HE3 := hid (HEB.out.grown g3 (by intro k hk; have := hv3 _ hk; omega))
  have hb3 : B ≤ w3.heap.size := Nat.le_trans hbB g3.size
  clear own3 g3 hv3 zB eB HOB HZB HSB HEB hbB HO HZ HS HE hbase
  go_wp2
  go_loopw [6] (fun x wr => ∃ j : Nat, n + 1 + j ≤ n + 1 + (31 - n % 32) ∧ Hid (wr.ownsRow B 5 1 x (n + 1 + j) ((t ++ [128] ++ List.replicate j 0).map u8v)) ∧ Hid (Blk wr w.heap.size (List.replicate 64 (.int .u8 0)) 144) ∧ Hid (Blk wr (w.heap.size + 1) (s0.map u8v) 144) ∧ Hid (Ext w wr) ∧ B ≤ wr.heap.size)
    (fun x _ => n + 100 - sliceLen x)
  case atStart => exact ⟨0, by omega, hid (by rw [List.replicate_zero, List.append_nil, List.map_append]; exact HO3.out), HZ3, HS3, HE3, hb3⟩
  case round =>
    obtain ⟨j, hj, ho, hz, hs, he, hbw⟩ := hrel
    obtain ⟨a4, c4, rfl, hnc4, hcm4, h04, hcl4⟩ := own_slice ho.out
    have HC4 := hid hcl4
    have H04 := hid h04
    clear hcl4 h04
    obtain ⟨tj, htj⟩ : ∃ tj, t ++ [128] ++ List.replicate j 0 = tj := ⟨_, rfl⟩
    rw [htj] at ho HC4
    have HTJ := hid htj
    clear htj
    by_cases hlt : j < 31 - n % 32
    · have hr1 : ((n : Int) + 1 + j).tmod 32 = ((n : Int) + 1 + j) % 32 := Int.tmod_eq_emod_of_nonneg (by omega)
      have hr2 : (((n : Int) + 1 + j) % 32 != 0) = true := by rw [bne_iff_ne]; omega
      have zB : Blk (wr.alloc (.cells #[.int .u8 0] 5)) wr.heap.size (([0] : List UInt8).map u8v) 5 := Blk.mk_alloc rfl rfl
      have eB : Ext wr (wr.alloc (.cells #[.int .u8 0] 5)) := (Ext.refl wr).alloc _
      have HOB := hid (ownsRow_ext ho.out eB)
      have HZB := hid (hz.out.ext eB)
      have HSB := hid (hs.out.ext eB)
      have HEB := hid (he.out.ext eB)
      have hbB : B ≤ (wr.alloc (.cells #[.int .u8 0] 5)).heap.size := Nat.le_trans hbw eB.size
      go_wp2_with (at_builtin; refine wpl_append8 rfl _ _ rfl B (ys := [0]) rfl rfl HOB.out rfl (by intro h; cases h) (Cells.of_blk0 zB) (by omega) hbB ?_)
      generalize wr.alloc (.cells #[.int .u8 0] 5) = w4 at *
      intro v5 w5 own5 g5
      have HO5 := hid own5
      have hv5 := fun g' h => own_block_ge HOB.out g' h
      have HZ5 := hid (HZB.out.grown g5 (by intro h; have := hv5 _ h.symm; omega))
      have HS5 := hid (HSB.out.grown g5 (by intro h; have := hv5 _ h.symm; omega))
      have HE5 := hid (HEB.out.grown g5 (by intro k hk; have := hv5 _ hk; omega))
      have hb5 : B ≤ w5.heap.size := Nat.le_trans hbB g5.size
      obtain ⟨a6, c6, hv6, -, -, -, -⟩ := own_slice own5
      have HV6 := hid hv6
      clear own5 g5 hv5 zB eB HOB HZB HSB HEB hbB hv6
      go_wp2
      go_roundw
      case rel =>
        refine ⟨j + 1, by omega, hid ?_, HZ5, HS5, HE5, hb5⟩
        have h1 : t ++ [128] ++ List.replicate (j + 1) 0 = (t ++ [128] ++ List.replicate j 0) ++ [0] := by rw [List.replicate_succ', List.append_assoc (t ++ [128])]
        rw [h1, HTJ.out, List.map_append]; exact HO5.out
      case measure =>
        rw [HV6.out]; simp only [sliceLen]; omega
    · have hj' : j = 31 - n % 32 := by omega
      subst hj'
      have hpe : t ++ [128] ++ List.replicate (31 - n % 32) 0 = padT t := by rw [HP.out, List.append_assoc]; rfl
      have htp := HTJ.out
      rw [hpe] at htp
      subst htp
      obtain ⟨m0, hm0⟩ : ∃ m0, n + 1 + (31 - n % 32) = 32 * m0 := ⟨(n + 1 + (31 - n % 32)) / 32, by omega⟩
      have hplen : (padT t).length = 32 * m0 := by rw [← hpe, List.length_append, List.length_append, List.length_replicate, HT.out, ← hm0]; rfl
      have hm1 : 32 * m0 ≤ 1099511627776 + 32 := by omega
      rw [hm0] at ho hnc4
      rw [hm0]
      have hr1 : (32 * (m0 : Int)).tmod 32 = 0 := by
        rw [Int.tmod_eq_emod_of_nonneg (by omega)]; omega
      have hcut : (padT t).length / 32 + 1 = m0 + 1 := by omega
      rw [hcut] at HFB
      clear hcut hm0 hlt hj hpe HTJ HP
      generalize padT t = pt at *
      have HPL := hid hplen
      clear hplen
      go_wp2_with (at_builtin; refine wpl_append_zeros rfl _ _ rfl B (k := 24) rfl rfl ho.out (by omega) (by omega) hbw ?_)
      intro v6 w6 own6 g6
      have hv6 := fun g' h => own_block_ge ho.out g' h
      have HO6 : Hid (w6.ownsRow B 5 1 v6 (32 * m0 + 24) ((pt ++ List.replicate 24 0).map u8v)) := hid (by rw [List.map_append]; exact own6)
      have HZ6 := hid (hz.out.grown g6 (by intro h; have := hv6 _ h.symm; omega))
      have HS6 := hid (hs.out.grown g6 (by intro h; have := hv6 _ h.symm; omega))
      have HE6 := hid (he.out.grown g6 (by intro k hk; have := hv6 _ hk; omega))
      have hb6 : B ≤ w6.heap.size := Nat.le_trans hbw g6.size
      clear own6 g6 hv6 ho hz hs he hbw HC4 H04
      have hrep : pt ++ List.replicate 24 0 ++ ll = pt ++ (List.replicate 24 0 ++ ll) := List.append_assoc ..
      generalize hp24 : pt ++ List.replicate 24 0 = p24 at *
      have HREP := hid hrep
      clear hrep
      go_wp2_with fail
      refine (hlong w6).mono ?_
      rintro e w7 ⟨rfl, b7, e7⟩
      have HO7 := hid (ownsRow_ext HO6.out e7)
      have HZ7 := hid (HZ6.out.ext e7)
      have HS7 := hid (HS6.out.ext e7)
      have HE7 := hid (HE6.out.ext e7)
      have hb7 : B ≤ w7.heap.size := Nat.le_trans hb6 e7.size
      go_wp2_with (at_builtin; refine wpl_append8 rfl _ _ rfl B (ys := ll) rfl rfl HO7.out HLL.out (by intro h; cases h) (Cells.of_blk0 b7) (by omega) hb7 ?_)
      intro v8 w8 own8 g8
      have hv8 := fun g' h => own_block_ge HO7.out g' h
      have HZ8 := hid (HZ7.out.grown g8 (by intro h; have := hv8 _ h.symm; omega))
      have HS8 := hid (HS7.out.grown g8 (by intro h; have := hv8 _ h.symm; omega))
      have HE8 := hid (HE7.out.grown g8 (by intro k hk; have := hv8 _ hk; omega))
      have own9 : w8.ownsRow B 5 1 v8 (32 * (m0 + 1)) ((pt ++ (List.replicate 24 0 ++ ll)).map u8v) := by
        rw [← HREP.out, List.map_append, show 32 * (m0 + 1) = 32 * m0 + 24 + 8 by omega]; simpa using own8
      have hbl : (pt ++ (List.replicate 24 0 ++ ll)).length = 32 * (m0 + 1) := by
        rw [List.length_append, List.length_append, List.length_replicate, HPL.out, HLL.out]; omega
      generalize pt ++ (List.replicate 24 0 ++ ll) = bb at *
      obtain ⟨a9, c9, rfl, hnc9, hcm9, h09, hcl9⟩ := own_slice own9
      have haw9 := own_away own9
      have HBL := hid hbl
      have HC9 := hid hcl9
      have H09 := hid h09
      have HA9 := hid haw9
      clear own8 g8 hv8 own9 hcl9 h09 haw9 b7 e7 HO7 HZ7 HS7 HE7 HO6 HZ6 HS6 HE6 hb6 hb7 hp24 HREP HPL hbl hr1
      unfold maxLen at hcm9
      go_wp2
      clear hnc4 hcm4 HO3 HZ3 HS3 HE3 hb3
      go_loopw [6] (fun x wr => ∃ (k n' c' : Nat) (a' : Option Addr), x = .slice a' n' c' ∧ n' + 32 * k = 32 * (m0 + 1) ∧ n' ≤ c' ∧ c' ≤ 9223372036854775807 ∧ Hid (a' = none → c' = 0) ∧ Hid (∀ x, a' = some x → B ≤ x.block) ∧
          Hid (Cells wr a' ((bb.drop (32 * k)).map u8v)) ∧ Hid (Blk wr (w.heap.size + 1) ((absN s0 bb k).map u8v) 144) ∧ Hid (Blk wr w.heap.size (List.replicate 64 (.int .u8 0)) 144) ∧ Hid (Ext w wr))
        (fun x _ => sliceLen x)
      case atStart => exact ⟨0, _, c9, a9, rfl, by omega, hnc9, by omega, H09, HA9, hid (by rw [Nat.mul_zero, List.drop_zero]; exact HC9.out), HS8, HZ8, HE8⟩
      case round =>
        obtain ⟨k, n', c', a', rfl, hk, hnc', hcc', h0', ha', hc', hs', hz', he'⟩ := hrel
        by_cases hpos : 0 < n'
        · have hd : decide ((0 : Int) < (n' : Int)) = true := decide_eq_true (by omega)
          have hlt : 32 ≤ n' := by omega
          have hlen : (bb.drop (32 * k)).length = n' := by rw [List.length_drop, HBL.out]; omega
          have hne : a' ≠ none := fun e => by have := h0'.out e; omega
          obtain ⟨gb, off, rfl, hcell⟩ := hc'.out.some_of (by rw [List.length_map, hlen]; omega)
          have hgb : B ≤ gb := ha'.out _ rfl
          obtain ⟨ch, hch⟩ : ∃ ch, (bb.drop (32 * k)).take 32 = ch := ⟨_, rfl⟩
          have hsrc : ∀ i, i < 32 → wr.cell? ⟨gb, off + i, none⟩ = some (.int .u8 ((ch[i]?.getD 0).toNat : Int)) := by
            intro i hi
            refine hcell i _ ?_
            rw [← hch, List.getElem?_take_of_lt hi]
            exact u8_at (by omega)
          have hstep : absN s0 bb (k + 1) = absorb (absN s0 bb k) ch := by rw [absN, hch]
          have HST := hid hstep
          have hsl : (absN s0 bb k).length = 64 := absN_length HI.out k
          generalize absN s0 bb k = sk at *
          have HSL := hid hsl
          have HSR := hid hsrc
          clear hsrc hcell hne hstep hsl hch
          go_wp2
          go_loopw [32] (fun x wi => ∃ i : Nat, i ≤ 32 ∧ x = .int .i64 i ∧ Hid (Blk wi (w.heap.size + 1) ((mixTo sk ch i).map u8v) 144) ∧ Hid (wr.grownBy wi (some (w.heap.size + 1))))
            (fun x _ => 32 - (intOf x).toNat)
          case atStart => exact ⟨0, by omega, rfl, hs', hid (grown_refl _ _)⟩
          case round =>
            obtain ⟨i, hi, rfl, q1, q2⟩ := hrel
            by_cases hlti : i < 32
            · have hdi : decide ((i : Int) < 32) = true := decide_eq_true (by omega)
              have hgne : some gb ≠ some (w.heap.size + 1) := by intro e; injection e; omega
              have hs0 := HSR.out i hlti
              have hgl := block_lt_of_cell hs0
              have c1 : ∀ nq, (wr.drewN nq).cell? ⟨gb, off + i, none⟩ = some (.int .u8 ((ch[i]?.getD 0).toNat : Int)) := fun nq => by
                rw [← hs0]; exact World.cell?_of_block (q2.out.block gb hgl hgne)
              have i0 : (0 : Int) ≤ (i : Int) := by omega
              have i1 : (i : Int) < 32 := by omega
              have i2 : (i : Int) < 64 := by omega
              have i3 : (i : Int) < (n' : Int) := by omega
              have hlenm : (mixTo sk ch i).length = 64 := by rw [mixTo_length]; exact HSL.out
              have hmx : mixTo sk ch (i + 1) = (mixTo sk ch i).set i (xor8 ((mixTo sk ch i)[i]?.getD 0) (ch[i]?.getD 0)) := rfl
              generalize mixTo sk ch i = ws at *
              have HMX := hid hmx
              have HQ1 := hid q1.out
              have c2 : ∀ nq, (wr.drewN nq).cell? ⟨w.heap.size + 1, i, none⟩ = some (.int .u8 ((ws[i]?.getD 0).toNat : Int)) := fun nq => (HQ1.out.drewN (n := nq)).cell' (u8_at (by omega))
              have f2 : ∀ nq, (wr.drewN nq).frozen? ⟨w.heap.size + 1, i, none⟩ = false := fun nq => (HQ1.out.drewN (n := nq)).frozen i
              have hxo := xor8_b (ws[i]?.getD 0) (ch[i]?.getD 0)
              clear hmx hs0 hgl
              go_wp2
              refine wp_region_cls (C := fun w' => ∃ n, w' = wr.drewN n) 9 (by kernel_rfl) (by kernel_rfl) ⟨1, rfl⟩ ?_
              simp only [List.take_succ_cons, List.take_zero, List.drop_succ_cons, List.drop_zero]
              iterate 9 quiet_step (fail)
              refine wpQuiet_nil ?_
              rintro _ ⟨nq, rfl⟩
              go_wp2
              have q1' := (HQ1.out.drewN (n := nq)).set i (u8v (xor8 (ws[i]?.getD 0) (ch[i]?.getD 0)))
              rw [← List.map_set, ← HMX.out] at q1'
              have q2' := grown_set (grown_drewN q2.out nq) i (.int .u8 ((xor8 (ws[i]?.getD 0) (ch[i]?.getD 0)).toNat : Int))
              go_roundw
              case rel => exact ⟨i + 1, by omega, by go_num, hid q1', hid q2'⟩
              case measure => simp [intOf]; omega
            · have hi32 : i = 32 := by omega
              subst hi32
              have hml : ((mixTo sk ch 32).map u8v).length = 64 := by rw [List.length_map, mixTo_length]; exact HSL.out
              go_wp2_with (refine wpl_loadw rfl _ _ rfl rfl q1.out agg_state hml ?_)
              refine (rstir_c (mixTo sk ch 32) (by rw [mixTo_length]; exact HSL.out) wr).mono ?_
              rw [show stirL (mixTo sk ch 32) = absorb sk ch from rfl, ← HST.out]
              rintro e w1 ⟨rfl, e1⟩
              have hla : ((absN s0 bb (k + 1)).map u8v).length = 64 := by rw [List.length_map]; exact absN_length HI.out _
              generalize hr : absN s0 bb (k + 1) = r at *
              go_wp2_with (refine wpl_storew rfl _ _ _ rfl rfl rfl (q1.out.ext e1) agg_state hml hla (one_u8 _) ?_)
              intro w2 b2 u2
              have gr := grown_upd (grown_ext q2.out e1) u2
              have HB2 := hid b2
              have HC2 := hid (hc'.out.grown gr (by intro x hx; cases hx; intro e; injection e with e; simp only at e; omega))
              have HZ2 := hid (hz'.out.grown gr (by intro e; injection e with e; omega))
              have HE2 := hid (he'.out.grown gr (by intro k' hk'; cases hk'; omega))
              have HR := hid hr
              clear b2 u2 gr e1 hr
              go_wp2_with (refine wpl_slice_low rfl _ _ _ _ rfl (k := 32) rfl rfl Try.underlying28 size_u8 hlt ?_)
              go_roundw
              case rel =>
                refine ⟨k + 1, n' - 32, c' - 32, _, rfl, by omega, by omega, by omega, hid fun e => ?_, hid ?_, hid ?_, by rw [HR.out]; exact HB2, HZ2, HE2⟩
                · have := h0'.out (shift_nil.1 e); omega
                · intro x hx
                  have h1 := shift_away (r := some (x.block)) (c := c') (k := 32) (a := some ⟨gb, off, none⟩)
                  by_cases hbx : gb = x.block
                  · omega
                  · exact absurd rfl (h1 (by intro y hy; cases hy; intro e; injection e with e; exact hbx e) x hx)
                · have h1 := HC2.out.shift c' 32 (n' - 32) (by omega)
                  rw [← List.map_drop, List.drop_drop, List.take_of_length_le (by rw [List.length_map, List.length_drop, HBL.out]; omega)] at h1
                  rwa [show 32 * k + 32 = 32 * (k + 1) by omega] at h1
              case measure => simp [sliceLen]; omega
        · have hn0 : n' = 0 := by omega
          subst hn0
          have hkm : k = m0 + 1 := by omega
          subst hkm
          rw [← HFB.out] at hs'
          have HLF := HFL
          have h1f := one_u8 fin
          generalize hfv : fin.map u8v = fv at *
          have HFV := hid hfv
          clear hfv
          go_wp2_with (first | (refine wpl_loadw rfl _ _ rfl rfl hs'.out agg_state HLF.out ?_) | (refine wpl_storew rfl _ _ _ rfl rfl rfl hz'.out agg_state rfl HLF.out h1f ?_))
          intro w5 b5 u5
          go_wp2
          refine ret_row rfl rfl b5 agg_state HLF.out rfl ⟨by rw [HFV.out], u5.ext he'.out (Nat.le_refl _)⟩
end

section
open Go Go.RowKit

set_option maxRecDepth 100000 in
set_option maxHeartbeats 1000000 in
theorem rsum_c (d : Int) (t : List UInt8) (n c : Nat) (a : Option Addr) (w : World) (hd0 : 0 ≤ d) (hd1 : d ≤ 255) (ht : t.length = n) (hn : n ≤ 1099511627776) (hcl : Cells w a (t.map u8v)) :
    Calls Try.prog 43 #[.int .i64 d, .slice a n c] w fun e w' => e = .returned (.agg ((sumL d t).map u8v).toArray) ∧ Ext w w' := by
  have HC := hid hcl
  have hst := fun w' (h : Cells w' a (t.map u8v)) => rstate_c d t n c a w' hd0 hd1 ht hn h
  have HFL : Hid (((finL (initS d) t n).map u8v).length = 64) := hid (by rw [List.length_map, finL_length])
  have HSU : Hid (((sumL d t).map u8v).length = 32) := hid (by rw [List.length_map, sumL_length])
  have HTK : Hid (((finL (initS d) t n).map u8v).take 32 = (sumL d t).map u8v) := hid (by rw [sumL, ht, List.map_take])
  have h1 := one_u8 (finL (initS d) t n)
  have h2 := one_u8 (sumL d t)
  generalize hsv : (sumL d t).map u8v = sv at *
  generalize (finL (initS d) t n).map u8v = fv at *
  clear hcl hsv ht
  go_enter Try.func43, Try.ntmps43
  go_wp2_with fail
  generalize hwA : World.alloc w _ = wA
  have zA : Blk wA w.heap.size (List.replicate 32 (.int .u8 0)) 32 := by rw [← hwA]; exact Blk.mk_alloc rfl rfl
  have eA : Ext w wA := by rw [← hwA]; exact (Ext.refl w).alloc _
  clear hwA
  refine (hst _ (HC.out.ext eA)).mono ?_
  rintro e w1 ⟨rfl, e1⟩
  have HZ := hid (zA.ext e1)
  have HE := hid (eA.ext e1)
  have l1 : w.heap.size < w1.heap.size := HZ.out.lt
  clear zA eA e1
  go_wp2_with (refine wpl_storew rfl _ _ _ rfl rfl rfl (Blk.mk_alloc rfl rfl) agg_state rfl HFL.out h1 ?_)
  intro w2 b2 u2
  have e2 : Ext w1 w2 := u2.ext ((Ext.refl w1).alloc _) (Nat.le_refl _)
  have HZ2 := hid (HZ.out.ext e2)
  have HE2 := hid (HE.out.ext e2)
  have HB2 := hid b2
  clear e2 u2 b2
  go_wp2
  refine wp_region_cls (C := fun w' => ∃ n, w' = w2.drewN n) 2 (by kernel_rfl) (by kernel_rfl) ⟨1, rfl⟩ ?_
  simp only [List.take_succ_cons, List.take_zero, List.drop_succ_cons, List.drop_zero]
  iterate 2 quiet_step (fail)
  refine wpQuiet_nil ?_
  rintro _ ⟨nq, rfl⟩
  have hcc : Cells (w2.drewN nq) (some ⟨w1.heap.size, 0, none⟩) sv := by
    have := Cells.of_blk0 (HB2.out.drewN (n := nq))
    have h3 := this.take 32
    rwa [HTK.out] at h3
  have HCC := hid hcc
  clear hcc
  go_wp2_with (first | (refine wpl_copyc rfl _ _ _ _ rfl rfl rfl (HZ2.out.drewN (n := nq)) Try.underlying28 size_u8 HSU.out rfl (fun e => by cases e) HCC.out (by simp) h2 ?_))
  intro w3 b3 u3
  have hsp : splice (List.replicate 32 (.int .u8 0)) 0 sv = sv := by
    unfold splice
    rw [List.take_zero, List.nil_append, List.drop_of_length_le (by rw [HSU.out]; simp), List.append_nil]
  change Blk w3 _ (splice (List.replicate 32 (.int .u8 0)) 0 sv) _ at b3
  rw [hsp] at b3
  have HE3 := hid (u3.ext (HE2.out.drewN nq) (Nat.le_refl _))
  clear hsp u3
  go_wp2_with (first | (refine wpl_loadw rfl _ _ rfl rfl b3 agg_apisum HSU.out ?_) | (refine wpl_storew rfl _ _ _ rfl rfl rfl b3 agg_apisum HSU.out HSU.out h2 ?_))
  intro w4 b4 u4
  go_wp2
  refine ret_row rfl rfl b4 agg_apisum HSU.out rfl ⟨rfl, u4.ext HE3.out (Nat.le_refl _)⟩
end

section
open Go Go.RowKit

theorem agg_16 : AggT Try.prog 67 16 := ⟨⟨_, Try.underlying67, rfl⟩, by kernel_rfl⟩
/-- the end of a function whose first result lies in a block of its own, the second in a slot -/
theorem ret_row2 {P : Program} {fn : Func} {R : Ending → World → Prop} {a : Act} {w : World} {p u : Tmp} {ty : TypeId} {g : Nat} {vs : List Value} {T : TypeId}
    (hres : fn.results = #[.cell p ty, .tmp u]) (hp : a.tmps.getD p undef = .pointer (some ⟨g, 0, none⟩)) (hb : Blk w g vs T)
    {n : Nat} (ht : AggT P ty n) (hn : vs.length = n)
    (hdef : a.defers = []) (hR : R (.returned (.tuple #[.agg vs.toArray, a.tmps.getD u undef])) w) : bodyPost P fn R .ret a w := by
  have h1 := run_load_sub (P := P) (off := 0) hb ht (by omega)
  have h2 : (vs.drop 0).take n = vs := by simp [← hn]
  rw [h2] at h1
  refine bodyPost_ret ?_ hdef hR
  rw [results_cell_tmp hres, hp]
  simp [asAddr, h1]

theorem wpl_loadc {P : Program} {ops : Array Oper} {rest : List Oper} {o : Oper} {a : Act} {w : World} {Q : Exit → Act → World → Prop} (hgd : o.guard = none) (ty : TypeId) (x : Operand) (ho : o.op = .load ty x) {b off n : Nat} {vs : List Value}
    (hx : a.eval x = .pointer (some ⟨b, off, none⟩)) (hb : ∀ j u, vs[j]? = some u → w.cell? ⟨b, off + j, none⟩ = some u) (ht : AggT P ty n) (hn : vs.length = n)
    (h : wpList P ops Q rest (a.put o.dst (.agg vs.toArray)) w) : wpList P ops Q (o :: rest) a w :=
  wpList_plain hgd fun K hK => by
    unfold Oper.wp execOp
    simp only [ho, hx, Instr.loadAt, Instr.sureAddr, Sem.run_bind, Sem.run_pure, Result.andThen_ok, run_load_cells hb ht hn]
    exact hK _ _ h

def takeV (l : List UInt8) (n m : Nat) (at_ : Int) : Value :=
  if roomE n at_ m = 0 then .tuple #[.agg (((l.drop at_.toNat).take m).map u8v).toArray, .int .i64 0] else .tuple #[.agg (List.replicate m (.int .u8 0)).toArray, .int .i64 (roomE n at_ m)]
end

section
open Go Go.RowKit

/-- the tag of a text -/
def tagL (k t : List UInt8) : List UInt8 := (sumL 8 (k ++ t)).take 16
theorem tagL_length (k t : List UInt8) : (tagL k t).length = 16 := by rw [tagL, List.length_take, sumL_length]; rfl
def sealL (k t : List UInt8) : List UInt8 := stirL (finL (initS 9) (k ++ t) (k ++ t).length)
theorem sealL_length (k t : List UInt8) : (sealL k t).length = 64 := stirL_length _

theorem nil0 {w : World} {a : Option Addr} {t : List UInt8} {n c : Nat} (hcl : Cells w a (t.map u8v)) (ht : t.length = n) (h0 : a = none → c = 0) : a = none → n = 0 ∧ c = 0 := by
  intro e
  refine ⟨?_, h0 e⟩
  rcases hcl with h | ⟨b, o, h, _⟩
  · have h1 := congrArg List.length h
    rw [List.length_map, ht] at h1
    exact h1
  · rw [e] at h; cases h

def zeros (n : Nat) : Value := .agg (List.replicate n (.int .u8 0)).toArray
theorem one_zeros (n : Nat) : ∀ v ∈ List.replicate n (Value.int .u8 0), v.oneCell' = true := by intro v hv; rw [List.mem_replicate] at hv; rw [hv.2]; rfl
end

section
open Go Go.RowKit
end

section
open Go Go.RowKit

/-- block i of a stream -/
def blkL (k n : List UInt8) (i : Nat) : List UInt8 := stirL (k ++ n ++ List.replicate 8 0 ++ longL (UInt64.ofNat i))
theorem blkL_length (k n : List UInt8) (i : Nat) : (blkL k n i).length = 64 := stirL_length _
/-- the octets of a stream from a place on -/
def strmL (k n : List UInt8) (a m : Nat) : List UInt8 := (List.range m).map fun j => (blkL k n ((a + j) / 64))[(a + j) % 64]?.getD 0
theorem strmL_length (k n : List UInt8) (a m : Nat) : (strmL k n a m).length = m := by simp [strmL]
theorem strmL_more (k n : List UInt8) (a m c : Nat) (hc : (a + m) % 64 + c ≤ 64) :
    strmL k n a (m + c) = strmL k n a m ++ ((blkL k n ((a + m) / 64)).drop ((a + m) % 64)).take c := by
  apply List.ext_getElem?
  intro j
  rw [List.getElem?_append, strmL_length]
  unfold strmL
  by_cases h1 : j < m
  · rw [if_pos h1, List.getElem?_map, List.getElem?_map, List.getElem?_range h1, List.getElem?_range (by omega)]
  · rw [if_neg h1]
    by_cases h2 : j < m + c
    · rw [List.getElem?_map, List.getElem?_range h2, List.getElem?_take_of_lt (by omega), List.getElem?_drop]
      have e1 : (a + j) / 64 = (a + m) / 64 := by omega
      have e2 : (a + j) % 64 = (a + m) % 64 + (j - m) := by omega
      simp only [Option.map_some, e1, e2]
      have hl := blkL_length k n ((a + m) / 64)
      rw [List.getElem?_eq_getElem (by omega)]
      rfl
    · rw [List.getElem?_eq_none (by simp; omega), List.getElem?_eq_none (by rw [List.length_take, List.length_drop, blkL_length]; omega)]

theorem zer8 : List.replicate 8 (Value.int .u8 0) = (List.replicate 8 (0 : UInt8)).map u8v := by simp [u8v]

theorem splice3 (k n l : List Value) (hk : k.length = 32) (hn : n.length = 16) (hl : l.length = 8) :
    splice (splice (splice (List.replicate 64 (.int .u8 0)) 0 k) 32 n) 56 l = k ++ n ++ List.replicate 8 (.int .u8 0) ++ l := by
  have h1 : splice (List.replicate 64 (.int .u8 0)) 0 k = k ++ List.replicate 32 (.int .u8 0) := by
    unfold splice
    rw [List.take_zero, List.nil_append, Nat.zero_add, hk, List.drop_replicate]
  have h2 : splice (k ++ List.replicate 32 (Value.int .u8 0)) 32 n = k ++ n ++ List.replicate 16 (.int .u8 0) := by
    unfold splice
    rw [List.take_append_of_le_length (by omega), List.take_of_length_le (by omega), hn, List.drop_append, List.drop_of_length_le (by omega), List.nil_append, hk, List.drop_replicate]
  have hkn : (k ++ n).length = 48 := by rw [List.length_append, hk, hn]
  rw [h1, h2]
  unfold splice
  rw [hl, List.take_append, List.take_of_length_le (by omega), hkn, List.drop_append, List.drop_of_length_le (by omega), hkn, List.nil_append, List.take_replicate, List.drop_replicate]
  simp
end

section
open Go Go.RowKit

def streamPost (k n : List UInt8) (a m : Int) (w : World) (e : Ending) (w' : World) : Prop :=
  (if a < 0 ∨ 1099511627776 < a ∨ m < 0 then e = .returned (.tuple #[.slice none 0 0, .int .i64 4])
  else if 1048576 < m then e = .returned (.tuple #[.slice none 0 0, .int .i64 5])
  else ∃ v, e = .returned (.tuple #[v, .int .i64 0]) ∧ w'.ownsRow w.heap.size 5 1 v m.toNat ((strmL k n a.toNat m.toNat).map u8v)) ∧ Ext w w'
end

section
open Go Go.RowKit

theorem own_some {w : World} {B n : Nat} {v : Value} {xs : List Value} (h : w.ownsRow B 5 1 v n xs) (hn : 0 < n) :
    ∃ g cap, v = .slice (some ⟨g, 0, none⟩) n cap ∧ B ≤ g ∧ n ≤ cap ∧ cap ≤ maxLen := by
  rcases h.2 with ⟨_, h0⟩ | ⟨g, cap, cur, h1, h2, _, h4, h5, _⟩
  · omega
  · exact ⟨g, cap, h1, h2, h4, h5⟩

/-- a text, covered -/
def coverL (k n t : List UInt8) : List UInt8 := mixTo (strmL k n 0 t.length) t t.length
theorem coverL_length (k n t : List UInt8) : (coverL k n t).length = t.length := by rw [coverL, mixTo_length, strmL_length]
end

section
open Go Go.RowKit

theorem own_block_lt {w : World} {B : Nat} {e : TypeId} {size n : Nat} {v : Value} {xs : List Value} (h : w.ownsRow B e size v n xs) : ∀ g, v.ownBlock = some g → g < w.heap.size := by
  intro g hg
  rcases h.2 with ⟨rfl, _⟩ | ⟨g', cap, cur, rfl, hb, hc, _⟩
  · cases hg
  · simp [Value.ownBlock] at hg
    subst hg
    exact (Array.getElem?_eq_some_iff.1 hc).1
end

section
open Go Go.RowKit

theorem mixTo_get (s t : List UInt8) (i j : Nat) : (mixTo s t i)[j]? = if j < i then (s[j]?).map (fun x => xor8 x (t[j]?.getD 0)) else s[j]? := by
  induction i generalizing j with
  | zero => simp [mixTo]
  | succ i ih =>
    rw [mixTo, List.getElem?_set, mixTo_length]
    by_cases h : i = j
    · subst h
      by_cases hl : i < s.length
      · simp [ih, hl]
      · simp [hl]
    · rw [if_neg h, ih]
      by_cases h1 : j < i
      · rw [if_pos h1, if_pos (by omega)]
      · rw [if_neg h1, if_neg (by omega)]
theorem cover_twice (k n t : List UInt8) : coverL k n (coverL k n t) = t := by
  apply List.ext_getElem?
  intro j
  have hl := coverL_length k n t
  have hs := strmL_length k n 0 t.length
  rw [coverL, hl, mixTo_get]
  by_cases hj : j < t.length
  · have h1 : t[j]? = some t[j] := List.getElem?_eq_getElem hj
    have h2 : (strmL k n 0 t.length)[j]? = some ((strmL k n 0 t.length)[j]'(by omega)) := List.getElem?_eq_getElem (by omega)
    rw [if_pos hj, coverL, mixTo_get, if_pos hj, h1, h2]
    simp only [Option.map_some, Option.getD_some, xor8]
    congr 1
    rw [← UInt8.xor_assoc]; simp
  · rw [if_neg hj, List.getElem?_eq_none (by omega), List.getElem?_eq_none (by omega)]
end

section
open Go Go.RowKit

theorem eq_arr {t : TypeId} {n : Nat} (ht : Try.prog.underlying t = some (.array n 5)) (xs ys : List UInt8) (hx : xs.length = n) (hy : ys.length = n) (w : World) :
    (binOp .eql t (.agg (xs.map u8v).toArray) (.agg (ys.map u8v).toArray)).run Try.prog w = .ok (.bool (xs == ys)) w :=
  run_eql_bytes w t 5 n ht Try.underlying5 (fun w => by kernel_rfl) xs ys hx hy
theorem neq_arr {t : TypeId} {n : Nat} (ht : Try.prog.underlying t = some (.array n 5)) (xs ys : List UInt8) (hx : xs.length = n) (hy : ys.length = n) (w : World) :
    (binOp .neq t (.agg (xs.map u8v).toArray) (.agg (ys.map u8v).toArray)).run Try.prog w = .ok (.bool (!(xs == ys))) w := by
  have h := run_equalIn_bytes w 9998 t 5 n ht Try.underlying5 (fun w => by kernel_rfl) xs ys hx hy
  rw [run_neq_struct]
  have h2 : (Op.equalIn 10000 t (.agg (xs.map u8v).toArray) (.agg (ys.map u8v).toArray)).run Try.prog w = .ok (xs == ys) w := h
  rw [h2]; rfl
theorem eq_self {t : TypeId} {n : Nat} (ht : Try.prog.underlying t = some (.array n 5)) (xs : List UInt8) (hx : xs.length = n) (w : World) :
    (binOp .eql t (.agg (xs.map u8v).toArray) (.agg (xs.map u8v).toArray)).run Try.prog w = .ok (.bool true) w := by
  rw [eq_arr ht xs xs hx hx]; simp
end

section
open Go Go.RowKit

theorem guard_sum : Try.prog.eqGuardType Try.prog.depth 32 = false := by kernel_rfl
end

section
open Go Go.RowKit

section
variable {P : Program} {ops : Array Oper} {rest : List Oper} {o : Oper} {a : Act} {w : World} {Q : Exit → Act → World → Prop}
theorem wpList_want (hw : Region.wanted o (yielded ops a.tmps) = true) (h : ∀ K : Act → World → Prop, (∀ a w, wpList P ops Q rest a w → K a w) → o.wp P a w K Q) : wpList P ops Q (o :: rest) a w :=
  wpList_step fun K hK => by rw [if_pos hw]; exact h K hK
/-- a load that stands behind a guard -/
theorem wpg_loadw (hw : Region.wanted o (yielded ops a.tmps) = true) (ty : TypeId) (x : Operand) (ho : o.op = .load ty x) {g : Nat} {vs : List Value} {T : TypeId}
    (hx : a.eval x = .pointer (some ⟨g, 0, none⟩)) (hb : Blk w g vs T) {n : Nat} (ht : AggT P ty n) (hn : vs.length = n)
    (h : wpList P ops Q rest (a.put o.dst (.agg vs.toArray)) w) : wpList P ops Q (o :: rest) a w :=
  wpList_want hw fun K hK => by
    have h1 := run_load_sub (P := P) (off := 0) hb ht (by omega)
    have h2 : (vs.drop 0).take n = vs := by simp [← hn]
    rw [h2] at h1
    unfold Oper.wp execOp
    simp only [ho, hx, Instr.loadAt, Instr.sureAddr, Sem.run_bind, Sem.run_pure, Result.andThen_ok, h1]
    exact hK _ _ h
/-- a comparison of arrays, whether behind a guard or not -/
theorem wpg_cmp (hw : Region.wanted o (yielded ops a.tmps) = true) (op : BinOp) (t u : TypeId) (x y : Operand) (ho : o.op = .binOp op t x y u) {xs ys : Array Value} {b : Value} (hx : a.eval x = .agg xs) (hy : a.eval y = .agg ys)
    (hg : P.eqGuardType P.depth t = false) (hr : ∀ w, (binOp op t (.agg xs) (.agg ys)).run P w = .ok b w)
    (h : wpList P ops Q rest (a.put o.dst b) w) : wpList P ops Q (o :: rest) a w :=
  wpList_want hw fun K hK => by
    unfold Oper.wp execOp
    simp only [ho, hx, hy, Sem.run_bind, run_eqGuard_agg w op t x y xs ys hg, Result.andThen_ok, hr, Sem.run_pure]
    exact hK _ _ h
end
theorem zeros_u8 (n : Nat) : List.replicate n (Value.int .u8 0) = (List.replicate n (0 : UInt8)).map u8v := by simp [u8v]
end

section
open Go Go.RowKit

theorem addr_add0 (x : Addr) : x.add 0 = x := by unfold Addr.add; split <;> simp_all
section
variable {P : Program} {ops : Array Oper} {rest : List Oper} {o : Oper} {a : Act} {w : World} {Q : Exit → Act → World → Prop}
theorem run_sliceAt_high {t e : TypeId} {p : Option Addr} {n c k : Nat} (hu : P.underlying t = some (.slice e)) (hs : (P.info? e).map (·.size) = some 1) (hk : k ≤ c) :
    (Instr.sliceAt t (.slice p n c) none (some (.int .i64 (k : Int))) none).run P w = .ok (.slice p k c) w := by
  cases hq : P.info? e with
  | none => simp [hq] at hs
  | some i =>
    have hi : i.size = 1 := by simpa [hq] using hs
    have h1 : (0 : Int) ≤ k ∧ (k : Int) ≤ c := by omega
    have ha : p.map (fun x => x.add 0) = p := by cases p <;> simp [addr_add0]
    simp [Instr.sliceAt, Instr.slice, Instr.sliceBounds, Instr.sliceBound, asIntOf, run_underlying hu, sizeOf, typeInfo, hq, hi, hk, ha]
/-- b[:k] -/
theorem wpl_slice_high (hgd : o.guard = none) (t e : TypeId) (x y : Operand) (ho : o.op = .slice t x none (some y) none) {p : Option Addr} {n c k : Nat}
    (hx : a.eval x = .slice p n c) (hy : a.eval y = .int .i64 (k : Int)) (hu : P.underlying t = some (.slice e)) (hs : (P.info? e).map (·.size) = some 1) (hk : k ≤ c)
    (h : wpList P ops Q rest (a.put o.dst (.slice p k c)) w) : wpList P ops Q (o :: rest) a w :=
  wpList_plain hgd fun K hK => by
    unfold Oper.wp execOp
    simp only [ho, hx, hy, Option.map_some, Option.map_none, run_sliceAt_high hu hs hk, Result.andThen_ok, Sem.run_bind, Sem.run_pure]
    exact hK _ _ h
end
end

section
open Go Go.RowKit

theorem ok_block {r : Result Value} {v v' : Value} {w w' : World} {x : Option Nat} (h1 : r = .ok v w) (h2 : r = .ok v' w') (hv : v.ownBlock = x) : v'.ownBlock = x := by
  rw [h1] at h2
  injection h2 with e1 e2
  rw [← e1, hv]

theorem append8_block (w : World) (B : Nat) (ty : TypeId) {v : Value} {n m c : Nat} {xs ys : List UInt8} {y : Addr} (hown : w.ownsRow B 5 1 v n (xs.map u8v)) (hm : ys.length = m) (hc : Cells w (some y) (ys.map u8v))
    (hb : n + m ≤ 140737488355328) (hbase : B ≤ w.heap.size) :
    ∃ v' w', (Builtin.append_ #[28, 28] ty #[v, .slice (some y) m c]).run Try.prog w = .ok v' w' ∧ w'.ownsRow B 5 1 v' (n + m) ((xs ++ ys).map u8v) ∧ w.grownBy w' v.ownBlock ∧
      (v'.ownBlock = v.ownBlock ∨ v'.ownBlock = some w.heap.size) := by
  obtain ⟨i0, hi, hz, hsz, hb1⟩ := info_parts info_u8
  have hl : (ys.map u8v).length = m * 1 := by rw [List.length_map, hm, Nat.mul_one]
  have hl' : (ys.map u8v).length = m * i0.size := by rw [hsz]; exact hl
  obtain ⟨v', w', hr, h1, h2, h3⟩ := run_append_own (P := Try.prog) w B 28 ty 5 i0 (.int .u8 0) 1 1 Try.underlying28 hi hz hsz hb1 rfl (by decide) v n (xs.map u8v) hown y m c (ys.map u8v) hl (news_cells hc) (one_u8 _) (by unfold maxLen; omega) (by omega) hbase
  refine ⟨v', w', hr, by rw [List.map_append]; exact h1, h2, ?_⟩
  rcases hown.2 with ⟨rfl, rfl⟩ | ⟨g, cap, cur, rfl, hbg, hg, hnc, hcm, hcs, htake⟩
  · by_cases hm0 : m = 0
    · left
      rw [h3.2 ⟨rfl, hm0⟩]
    · right
      have hr2 := run_append_nil (P := Try.prog) w 28 ty 5 i0 (.int .u8 0) Try.underlying28 hi hz y m c (ys.map u8v) hl' (news_cells hc) (by omega) (by omega) (by rw [hb1]; omega)
      exact ok_block hr2 hr rfl
  · by_cases hroom : n + m ≤ cap
    · left
      obtain ⟨w2, hr2, _⟩ := run_append_fits (P := Try.prog) w B 28 ty 5 i0 1 Try.underlying28 hi hsz g n cap (xs.map u8v) hown y m c (ys.map u8v) hl (news_cells hc) (one_u8 _) hroom
      exact ok_block hr2 hr rfl
    · right
      have hr2 := run_append_grow (P := Try.prog) w 28 ty 5 i0 (.int .u8 0) Try.underlying28 hi hz ⟨g, 0, none⟩ n cap (xs.map u8v) (by rw [hsz]; exact hown.1) (hown.cells (g := g) rfl) y m c (ys.map u8v) hl' (news_cells hc) (by omega) (by omega) (growslice_fits (by omega) (by rw [hb1]; omega))
      exact ok_block hr2 hr rfl

section
variable {ops : Array Oper} {rest : List Oper} {o : Oper} {a : Act} {w : World} {Q : Exit → Act → World → Prop}
/-- append onto a row of one's own, whether behind a guard or not -/
theorem wpg_append8 (hw : Region.wanted o (yielded ops a.tmps) = true) (s x : Operand)
    (ho : o.op = .call { callee := .builtin .append, args := #[s, x], argTypes := #[28, 28] }) (base : Nat) {v : Value} {n m c : Nat} {xs ys : List UInt8} {ad : Option Addr}
    (hs : a.eval s = v) (hx : a.eval x = .slice ad m c) (hown : w.ownsRow base 5 1 v n (xs.map u8v)) (hm : ys.length = m) (had : ad = none → m = 0 ∧ c = 0) (hc : Cells w ad (ys.map u8v))
    (hb : n + m ≤ 140737488355328) (hbase : base ≤ w.heap.size)
    (h : ∀ v' w', w'.ownsRow base 5 1 v' (n + m) ((xs ++ ys).map u8v) → w.grownBy w' v.ownBlock → (v'.ownBlock = v.ownBlock ∨ v'.ownBlock = some w.heap.size) → wpList Try.prog ops Q rest (a.put o.dst v') w') : wpList Try.prog ops Q (o :: rest) a w := by
  obtain ⟨i0, hi, hz, hsz, hb1⟩ := info_parts info_u8
  refine wpList_want hw fun K hK => ?_
  cases ad with
  | none =>
    obtain ⟨rfl, rfl⟩ := had rfl
    have hy : ys = [] := List.length_eq_zero_iff.1 hm
    subst hy
    have h' := h v w (by simpa using hown) (grown_refl w _) (.inl rfl)
    have hrun := run_append_owned_none (P := Try.prog) (w := w) base 28 o.type 5 i0 1 Try.underlying28 hi v n (xs.map u8v) hown
    unfold Oper.wp
    simp [execOp, ho, resolve, invoke, builtin, hs, hx, hrun, Result.andThen]
    exact hK _ _ h'
  | some y =>
    obtain ⟨v', w', hr, h1, h2, h3⟩ := append8_block w base o.type (c := c) hown hm hc hb hbase
    exact Lib.wp_append_run w s x _ _ ho v _ hs hx v' w' hr (hK _ _ (h v' w' h1 h2 h3))
end
end

section
open Go Go.RowKit

def sumOfV (d : Int) (t : List UInt8) (n : Nat) : Value :=
  if d < 0 ∨ 255 < d then .tuple #[zeros 32, .int .i64 3] else if n ≤ 1048576 then .tuple #[.agg ((sumL d t).map u8v).toArray, .int .i64 0] else .tuple #[zeros 32, .int .i64 5]

set_option maxRecDepth 100000 in
set_option maxHeartbeats 1000000 in
theorem sumOf_c (d : Int) (t : List UInt8) (n c : Nat) (a : Option Addr) (w : World) (ht : t.length = n) (hnc : n ≤ c) (hc : c ≤ 9223372036854775807) (h0 : a = none → c = 0) (hcl : Cells w a (t.map u8v)) :
    Calls Try.prog 97 #[.int .i64 d, .slice a n c] w fun e w' => e = .returned (sumOfV d t n) ∧ Ext w w' := by
  obtain ⟨V, hV⟩ : ∃ V, sumOfV d t n = V := ⟨_, rfl⟩
  rw [hV]
  unfold sumOfV at hV
  have HV := hid hV
  have HT := hid ht
  have HC := hid hcl
  have H0 := hid h0
  clear ht hcl h0 hV
  go_enter Try.func97, Try.ntmps97
  go_wp2_with fail
  generalize hwA : World.alloc (World.alloc w _) _ = wA
  have zA : Blk wA w.heap.size (List.replicate 32 (.int .u8 0)) 32 := by rw [← hwA]; exact (Blk.mk_alloc rfl rfl).alloc _
  have gA : Blk wA (w.heap.size + 1) [.slice a n c] 28 := by rw [← hwA]; exact Blk.mk_alloc (by simp) rfl
  have eA : Ext w wA := by rw [← hwA]; exact ((Ext.refl w).alloc _).alloc _
  clear hwA
  have hcat : cat [(a, c, t)] = t := by simp [cat]
  refine (summed_c [(a, c, t)] d (w.heap.size + 1) 1 1 wA rfl (by omega) ?hg gA.lt ?hc ?hn ?hnc ?hcm).mono ?_
  case hg =>
    intro i it hit
    match i, hit with
    | 0, hit => cases hit; rw [itemV]; simp only; rw [HT.out]; exact gA.cell' rfl
  case hc =>
    intro it hit
    simp only [List.mem_cons, List.not_mem_nil, or_false] at hit
    subst hit
    exact HC.out.ext eA
  case hn =>
    intro it hit
    simp only [List.mem_cons, List.not_mem_nil, or_false] at hit
    subst hit
    exact H0.out
  case hnc =>
    intro it hit
    simp only [List.mem_cons, List.not_mem_nil, or_false] at hit
    subst hit
    simp only
    rw [HT.out]; exact hnc
  case hcm =>
    intro it hit
    simp only [List.mem_cons, List.not_mem_nil, or_false] at hit
    subst hit
    exact hc
  intro e w1 h
  rw [hcat] at h
  unfold summedPost at h
  rw [HT.out] at h
  obtain ⟨h, e1⟩ := h
  have HZ1 := hid (zA.ext e1)
  have HE1 := hid (eA.ext e1)
  have hlA : w.heap.size < wA.heap.size := zA.lt
  clear zA gA eA e1 hcat
  by_cases hd : d < 0 ∨ 255 < d
  · rw [if_pos hd] at h
    have hv := HV.out
    rw [if_pos hd] at hv
    subst h
    have HV2 := hid hv
    clear hd hv HV
    go_wp2_with (refine wpl_storew rfl _ _ _ rfl rfl rfl HZ1.out agg_apisum (by simp) (xs := List.replicate 32 (.int .u8 0)) (by simp) (one_zeros 32) ?_)
    intro w4 b4 u4
    go_wp2
    refine ret_row2 rfl rfl b4 agg_apisum (by simp) rfl ⟨by rw [← HV2.out]; unfold zeros; rfl, u4.ext HE1.out (by omega)⟩
  · rw [if_neg hd] at h
    have hv := HV.out
    rw [if_neg hd] at hv
    by_cases hfit : n ≤ 1048576
    · rw [if_pos hfit] at h hv
      obtain ⟨rfl, h1⟩ := h
      have hsm := sum_c (initS d) t n wA.heap.size SmT w1 (initS_length d) (by omega) h1
      rw [show (finL (initS d) t n).take 32 = sumL d t by rw [sumL, HT.out]] at hsm
      have HSL : Hid (((sumL d t).map u8v).length = 32) := hid (by rw [List.length_map, sumL_length])
      have o1 := one_u8 (sumL d t)
      generalize (sumL d t).map u8v = sv at *
      have HV2 := hid hv
      have HSM := hid hsm
      clear hd hv HV hsm h1 hfit
      go_wp2_with fail
      refine HSM.out.mono ?_
      rintro e w2 ⟨rfl, e2⟩
      have HZ2 := hid (HZ1.out.ext e2)
      have HE2 := hid (HE1.out.ext e2)
      clear e2 HSM
      go_wp2_with (refine wpl_storew rfl _ _ _ rfl rfl rfl HZ2.out agg_apisum (by simp) HSL.out o1 ?_)
      intro w4 b4 u4
      go_wp2
      refine ret_row2 rfl rfl b4 agg_apisum HSL.out rfl ⟨by rw [← HV2.out]; rfl, u4.ext HE2.out (by omega)⟩
    · rw [if_neg hfit] at h hv
      subst h
      have HV2 := hid hv
      clear hd hv HV hfit
      go_wp2_with (refine wpl_storew rfl _ _ _ rfl rfl rfl HZ1.out agg_apisum (by simp) (xs := List.replicate 32 (.int .u8 0)) (by simp) (one_zeros 32) ?_)
      intro w4 b4 u4
      go_wp2
      refine ret_row2 rfl rfl b4 agg_apisum (by simp) rfl ⟨by rw [← HV2.out]; unfold zeros; rfl, u4.ext HE1.out (by omega)⟩

theorem longL_drop (u : UInt64) : (longL u).drop 4 = octL (UInt32.ofNat u.toNat) := rfl

set_option maxRecDepth 100000 in
set_option maxHeartbeats 1000000 in
theorem rshort_c (N : Nat) (w : World) (hN : N ≤ 4611686018427387904) :
    Calls Try.prog 83 #[.int .i64 (N : Int)] w fun e w' => e = .returned (.slice (some ⟨w.heap.size, 4, none⟩) 4 4) ∧ Cells w' (some ⟨w.heap.size, 4, none⟩) ((octL (UInt32.ofNat N)).map u8v) ∧ Ext w w' := by
  have hl := hid (rlong_c N w hN)
  have hd : (longL (UInt64.ofNat N)).drop 4 = octL (UInt32.ofNat N) := by
    rw [longL_drop]
    have : (UInt64.ofNat N).toNat = N := by rw [UInt64.toNat_ofNat']; omega
    rw [this]
  have HD := hid hd
  clear hd
  generalize longL (UInt64.ofNat N) = ll at *
  go_enter Try.func83, Try.ntmps83
  go_wp2_with fail
  refine hl.out.mono ?_
  rintro e w1 ⟨rfl, b1, e1⟩
  have hcl := Cells.of_blk b1 4 4
  rw [← List.map_drop, HD.out, List.take_of_length_le (by rw [List.length_map]; exact Nat.le_refl 4)] at hcl
  have HCL := hid hcl
  clear b1 hcl
  go_wp2
  go_ret
  exact ⟨rfl, HCL.out, e1⟩

/-- parts, each with its length ahead -/
def frameL (its : List Item) : List UInt8 := (its.map fun it => octL (UInt32.ofNat it.2.2.length) ++ it.2.2).flatten
theorem frameL_succ {its : List Item} {k : Nat} {it : Item} (h : its[k]? = some it) : frameL (its.take (k + 1)) = frameL (its.take k) ++ octL (UInt32.ofNat it.2.2.length) ++ it.2.2 := by
  unfold frameL
  rw [List.take_add_one, h]; simp
theorem frameL_le (its : List Item) (k : Nat) : (frameL (its.take k)).length ≤ (frameL its).length := by
  have h2 : frameL its = frameL (its.take k) ++ frameL (its.drop k) := by
    unfold frameL
    rw [← List.flatten_append, ← List.map_append, List.take_append_drop]
  rw [h2, List.length_append]
  omega
end

section
open Go Go.RowKit

def nodeL (x y : List UInt8) : List UInt8 := sumL 2 (x ++ y)
theorem nodeL_length (x y : List UInt8) : (nodeL x y).length = 32 := sumL_length _ _

set_option maxRecDepth 100000 in
set_option maxHeartbeats 1000000 in
theorem node_c (x y : List UInt8) (w : World) (hx : x.length = 32) (hy : y.length = 32) :
    Calls Try.prog 105 #[.agg (x.map u8v).toArray, .agg (y.map u8v).toArray] w fun e w' => e = .returned (.agg ((nodeL x y).map u8v).toArray) ∧ Ext w w' := by
  have HX := hid hx
  have HY := hid hy
  have HSL : Hid (((nodeL x y).map u8v).length = 32) := hid (by rw [List.length_map, nodeL_length])
  have o1 := one_u8 (nodeL x y)
  have hcat : ∀ h1 h2, cat [(some ⟨h1, 0, none⟩, 32, x), (some ⟨h2, 0, none⟩, 32, y)] = x ++ y := by intro h1 h2; simp [cat]
  have hlen : (x ++ y).length = 64 := by rw [List.length_append, hx, hy]
  have hso : sumOfV 2 (x ++ y) 64 = .tuple #[.agg ((nodeL x y).map u8v).toArray, .int .i64 0] := by rw [sumOfV, if_neg (by omega), if_pos (by omega)]; rfl
  have HSO := hid hso
  have HLEN := hid hlen
  have HCAT := hid hcat
  clear hx hy hso hlen hcat
  generalize (nodeL x y).map u8v = nv at *
  go_enter Try.func105, Try.ntmps105
  go_wp2_with fail
  generalize hwA : World.alloc (World.alloc (World.alloc w _) _) _ = wA
  have xA : Blk wA w.heap.size (x.map u8v) 32 := by rw [← hwA]; exact ((Blk.mk_alloc rfl rfl).alloc _).alloc _
  have yA : Blk wA (w.heap.size + 1) (y.map u8v) 32 := by rw [← hwA]; exact (Blk.mk_alloc (by simp) rfl).alloc _
  have zA : Blk wA (w.heap.size + 2) (List.replicate 32 (.int .u8 0)) 32 := by rw [← hwA]; exact Blk.mk_alloc (by simp) rfl
  have eA : Ext w wA := by rw [← hwA]; exact ((((Ext.refl w).alloc _).alloc _).alloc _)
  clear hwA
  have XA := hid xA
  have YA := hid yA
  have ZA := hid zA
  have EA := hid eA
  clear xA yA zA eA
  obtain ⟨C, hC⟩ : ∃ C : World → Prop, C = fun w' => Ext wA w' := ⟨_, rfl⟩
  have hC0 : ∀ w', C w' ↔ Ext wA w' := fun w' => by rw [hC]
  clear hC
  have HCC := hid hC0
  clear hC0
  have hCx : ∀ w w', C w → Ext w w' → C w' := fun w w' h1 h2 => (HCC.out w').2 (((HCC.out w).1 h1).ext h2)
  refine wp_region_held_drew (S := C) (by kernel_rfl) ((HCC.out _).2 (Ext.refl wA).drew) (fun hS0 => ?_)
  refine held_take 0 (v := ?tv1) rfl (by kernel_rfl) (by kernel_rfl) (by kernel_rfl) (fun _ _ _ h => h) (.inl ⟨rfl, ?ty1⟩) hS0 ?tr1
  case ty1 => (intro _ _; go_simp; try with_reducible rfl)
  case tr1 =>
  simp only [Act.put, List.setIfInBounds_toArray, List.set_cons_succ, List.set_cons_zero]
  refine held_take 1 (v := ?tv2) rfl (by kernel_rfl) (by kernel_rfl) (by kernel_rfl) (fun _ _ _ h => h) (.inl ⟨rfl, ?ty2⟩) hS0 ?tr2
  case ty2 => (intro _ _; go_simp; try with_reducible rfl)
  case tr2 =>
  simp only [Act.put, List.setIfInBounds_toArray, List.set_cons_succ, List.set_cons_zero]
  refine Fl_start (B := World.heap wA |>.size) (A := 8) (d := 5) (T := 32) (vs := List.replicate 32 (.int .u8 0)) (D := C) undef rfl hCx (fun _ h => h) (fun _ h => ((HCC.out _).1 h).size) hS0 ?_
  try dsimp only
  simp only [Act.put, List.setIfInBounds_toArray, List.set_cons_succ, List.set_cons_zero]
  refine Fl_step 2 (β := Nat) (fun g => .slice (some ⟨g, 0, none⟩) 2 2) (fun g w' => Blk w' g [.slice (some ⟨w.heap.size, 0, none⟩) 32 32, .slice (some ⟨w.heap.size + 1, 0, none⟩) 32 32] 28) rfl rfl rfl rfl (fun _ _ => rfl) (by kernel_rfl) (by kernel_rfl) (by kernel_rfl) rfl (fun _ _ => by simp only [Act.put, List.setIfInBounds_toArray, List.set_cons_succ, List.set_cons_zero]) ?phi2 ?step2 ?rest2
  case phi2 => exact fun _ _ _ h he => h.ext he
  case step2 =>
    intro x w1 hD Q' hQ
    go_wp2_with fail
    exact hQ w1.heap.size _ ((Ext.refl w1).alloc _) (Blk.mk_alloc rfl rfl)
  case rest2 =>
  intro g
  try dsimp only
  try simp only [Act.put, List.setIfInBounds_toArray, List.set_cons_succ, List.set_cons_zero]
  refine Fl_step 3 (β := Option Addr × Nat) (fun b => .slice b.1 64 b.2) (SlcAt 64 ((x ++ y).map u8v)) rfl rfl rfl rfl (fun _ _ => rfl) (by kernel_rfl) (by kernel_rfl) (by kernel_rfl) rfl (fun _ _ => by simp only [Act.put, List.setIfInBounds_toArray, List.set_cons_succ, List.set_cons_zero]) ?phi3 ?step3 ?rest3
  case phi3 => exact SlcAt.ext
  case step3 =>
    rintro x0 w1 ⟨hC1, hb⟩ Q' hQ
    have e1 := (HCC.out w1).1 hC1
    have HB := hid hb
    have HE := hid e1
    clear hb e1 hC1
    go_wp2_with fail
    refine (concat_c [(some ⟨w.heap.size, 0, none⟩, 32, x), (some ⟨w.heap.size + 1, 0, none⟩, 32, y)] g 2 2 w1 rfl (by omega) (by omega) ?hg ?hc ?hn ?hl).mono ?_
    case hg =>
      intro i it hit
      match i, hit with
      | 0, hit => cases hit; rw [itemV]; simp only; rw [HX.out]; exact HB.out.cell' rfl
      | 1, hit => cases hit; rw [itemV]; simp only; rw [HY.out]; exact HB.out.cell' rfl
    case hc =>
      intro it hit
      simp only [List.mem_cons, List.not_mem_nil, or_false] at hit
      rcases hit with rfl | rfl
      · exact Cells.of_blk0 (XA.out.ext HE.out)
      · exact Cells.of_blk0 (YA.out.ext HE.out)
    case hn =>
      intro it hit
      simp only [List.mem_cons, List.not_mem_nil, or_false] at hit
      rcases hit with rfl | rfl <;> (intro h; cases h)
    case hl => rw [HCAT.out, HLEN.out]; omega
    rintro e w2 ⟨v, rfl, own, e2⟩
    rw [HCAT.out, HLEN.out] at own
    obtain ⟨a, c, rfl, h1, h2, h3, h4⟩ := own_slice own
    go_wp2_with fail
    exact hQ (a, c) w2 e2 ⟨h1, h2, h3, h4⟩
  case rest3 =>
  rintro ⟨a, c⟩
  try dsimp only
  try simp only [Act.put, List.setIfInBounds_toArray, List.set_cons_succ, List.set_cons_zero]
  refine Fl_step 4 (β := Unit) (fun _ => .tuple #[.agg nv.toArray, .int .i64 0]) (fun _ _ => True) rfl rfl rfl rfl (fun _ _ => rfl) (by kernel_rfl) (by kernel_rfl) (by kernel_rfl) rfl (fun _ _ => by simp only [Act.put, List.setIfInBounds_toArray, List.set_cons_succ, List.set_cons_zero]) ?phi4 ?step4 ?rest4
  case phi4 => exact fun _ _ _ _ _ => trivial
  case step4 =>
    rintro x0 w1 ⟨_, h1, h2, h3, h4⟩ Q' hQ
    simp only at h1 h2 h3 h4
    have HC := hid h4
    clear h4
    go_wp2_with fail
    refine (sumOf_c 2 (x ++ y) 64 c a w1 HLEN.out h1 h2 h3 HC.out).mono ?_
    rintro e w2 ⟨rfl, e2⟩
    rw [HSO.out]
    go_wp2_with fail
    exact hQ () w2 e2 trivial
  case rest4 =>
  rintro ⟨⟩
  try dsimp only
  try simp only [Act.put, List.setIfInBounds_toArray, List.set_cons_succ, List.set_cons_zero]
  refine Fl_take 5 (v := ?tv3) rfl (by kernel_rfl) (by kernel_rfl) (by kernel_rfl) (by kernel_rfl) (by kernel_rfl) rfl (fun _ _ _ h => h) (fun _ => .inl ⟨rfl, ?ty3⟩) ?tr3
  case ty3 => (intro _ _; go_simp; try with_reducible rfl)
  case tr3 =>
  try dsimp only
  simp only [Act.put, List.setIfInBounds_toArray, List.set_cons_succ, List.set_cons_zero]
  refine Fl_take 6 (v := ?tv4) rfl (by kernel_rfl) (by kernel_rfl) (by kernel_rfl) (by kernel_rfl) (by kernel_rfl) rfl (fun _ _ _ h => h) (fun _ => .inl ⟨rfl, ?ty4⟩) ?tr4
  case ty4 => (intro _ _; go_simp; try with_reducible rfl)
  case tr4 =>
  try dsimp only
  simp only [Act.put, List.setIfInBounds_toArray, List.set_cons_succ, List.set_cons_zero]
  refine Fl_take 7 (v := ?tv5) rfl (by kernel_rfl) (by kernel_rfl) (by kernel_rfl) (by kernel_rfl) (by kernel_rfl) rfl (fun _ _ _ h => h) (fun _ => .inl ⟨rfl, ?ty5⟩) ?tr5
  case ty5 => (intro _ _; go_simp; try with_reducible rfl)
  case tr5 =>
  try dsimp only
  simp only [Act.put, List.setIfInBounds_toArray, List.set_cons_succ, List.set_cons_zero]
  refine Fl_end rfl rfl rfl (fun _ _ => rfl) (by kernel_rfl) (fun _ _ => by simp only [Act.put, List.setIfInBounds_toArray, List.set_cons_succ, List.set_cons_zero]) ?_
  rintro b w3 ⟨⟨⟨hC3, _⟩, _⟩, _⟩ lb hb
  have HB := hid hb
  have E3 := hid (EA.out.ext ((HCC.out w3).1 hC3))
  have Z3 := hid (ZA.out.ext ((HCC.out w3).1 hC3))
  have HC3 := hid hC3
  clear hb hC3
  refine held_one (i := 9) (by kernel_rfl) rfl ?_
  intro Q' hQ
  go_wp2_with (refine wpl_storew rfl _ _ _ rfl rfl rfl HB.out agg_apisum (by simp) HSL.out o1 ?_)
  intro w4 b4 u4
  have hE4 := u4.ext ((HCC.out w3).1 HC3.out) lb
  refine hQ _ _ ((HCC.out w4).2 hE4) ?_
  have HC4 := hid ((HCC.out w4).2 hE4)
  have B4 := hid b4
  have Z4 := hid (ZA.out.ext hE4)
  have E4 := hid (EA.out.ext hE4)
  clear hQ Q' u4 b4 hE4
  try dsimp only
  try simp only [Act.put, List.setIfInBounds_toArray, List.set_cons_succ, List.set_cons_zero]
  refine held_one (i := 10) (by kernel_rfl) rfl ?_
  intro Q' hQ
  go_wp2_with fail
  refine hQ _ _ ((HCC.out w4).2 ?_) ?_
  · exact (HCC.out w4).1 HC4.out
  clear hQ Q'
  refine wpAnyH_done (by kernel_rfl) ?_ _
  go_wp2_with (first | (refine wpl_loadw rfl _ _ rfl rfl B4.out agg_apisum HSL.out ?_) | (refine wpl_storew rfl _ _ _ rfl rfl rfl Z4.out agg_apisum (by simp) HSL.out o1 ?_))
  intro w5 b5 u5
  go_wp2
  refine ret_row rfl rfl b5 agg_apisum HSL.out rfl ⟨rfl, u5.ext E4.out (by omega)⟩
end

section
open Go Go.RowKit

theorem bitLen_split {n : Nat} (h : 2 ≤ n) (h2 : n ≤ 4611686018427387904) : ∃ j, Lib.bitLen (n - 1) = j + 1 ∧ j ≤ 61 ∧ 2 ^ j = splitN n := by
  have hb := Lib.bitLenAux_bounds 64 (n - 1) (by omega) (by omega)
  have hle := Lib.bitLen_le (n - 1) 62 (by omega) (by omega)
  unfold Lib.bitLen at *
  obtain ⟨h3, h4, h5⟩ := hb
  generalize Lib.bitLenAux 64 (n - 1) = m at *
  obtain ⟨j, rfl⟩ : ∃ j, m = j + 1 := ⟨m - 1, by omega⟩
  rw [Nat.add_sub_cancel] at h4
  rw [Nat.pow_succ] at h5
  exact ⟨j, rfl, by omega, splitN_eq (by omega) (by omega)⟩
end

section
open Go Go.RowKit
end

section
open Go Go.RowKit

set_option maxRecDepth 100000 in
set_option maxHeartbeats 1000000 in
theorem rnode_c (x y : List UInt8) (w : World) (hx : x.length = 32) (hy : y.length = 32) :
    Calls Try.prog 62 #[.agg (x.map u8v).toArray, .agg (y.map u8v).toArray] w fun e w' => e = .returned (.agg ((nodeL x y).map u8v).toArray) ∧ Ext w w' := by
  have HX := hid hx
  have HY := hid hy
  have HSL : Hid (((nodeL x y).map u8v).length = 32) := hid (by rw [List.length_map, nodeL_length])
  have o1 := one_u8 (nodeL x y)
  have hlen : (x ++ y).length = 64 := by rw [List.length_append, hx, hy]
  have hsum := fun w c a h => rsum_c 2 (x ++ y) 64 c a w (by omega) (by omega) hlen (by omega) h
  rw [show sumL 2 (x ++ y) = nodeL x y from rfl] at hsum
  have HSUM := hid hsum
  clear hx hy hlen hsum
  generalize (nodeL x y).map u8v = nv at *
  go_enter Try.func62, Try.ntmps62
  go_wp2_with fail
  generalize hwA : World.alloc (World.alloc (World.alloc w _) _) _ = wA
  have xA : Blk wA w.heap.size (x.map u8v) 32 := by rw [← hwA]; exact ((Blk.mk_alloc rfl rfl).alloc _).alloc _
  have yA : Blk wA (w.heap.size + 1) (y.map u8v) 32 := by rw [← hwA]; exact (Blk.mk_alloc (by simp) rfl).alloc _
  have zA : Blk wA (w.heap.size + 2) (List.replicate 32 (.int .u8 0)) 32 := by rw [← hwA]; exact Blk.mk_alloc (by simp) rfl
  have eA : Ext w wA := by rw [← hwA]; exact ((((Ext.refl w).alloc _).alloc _).alloc _)
  have hwl : w.heap.size ≤ wA.heap.size := eA.size
  clear hwA
  have XA := hid xA
  have YA := hid yA
  have ZA := hid zA
  have EA := hid eA
  clear xA yA zA eA
  obtain ⟨C, hC⟩ : ∃ C : World → Prop, C = Cls w wA [w.heap.size, w.heap.size + 1] [(w.heap.size + 2, 32, 32)] := ⟨_, rfl⟩
  have hC0 : ∀ w', C w' ↔ Cls w wA [w.heap.size, w.heap.size + 1] [(w.heap.size + 2, 32, 32)] w' := fun w' => by rw [hC]
  clear hC
  have HCC := hid hC0
  clear hC0
  have hCx : ∀ w w', C w → Ext w w' → C w' := fun w w' h1 h2 => (HCC.out w').2 (((HCC.out w).1 h1).ext h2)
  have hCA : C wA := (HCC.out _).2 (Cls.one_room EA.out (Kept.two XA.out.lt YA.out.lt) ZA.out (by simp))
  refine wp_region_held_drew (S := C) (by kernel_rfl) (hCx _ _ hCA (Ext.refl _).drew) (fun hS0 => ?_)
  refine held_take 0 (v := ?tv6) rfl (by kernel_rfl) (by kernel_rfl) (by kernel_rfl) (fun _ _ _ h => h) (.inl ⟨rfl, ?ty6⟩) hS0 ?tr6
  case ty6 => (intro _ _; go_simp; try with_reducible rfl)
  case tr6 =>
  simp only [Act.put, List.setIfInBounds_toArray, List.set_cons_succ, List.set_cons_zero]
  refine held_take 2 (v := ?tv7) rfl (by kernel_rfl) (by kernel_rfl) (by kernel_rfl) (fun _ _ _ h => h) (.inl ⟨rfl, ?ty7⟩) hS0 ?tr7
  case ty7 => (intro _ _; go_simp; try with_reducible rfl)
  case tr7 =>
  simp only [Act.put, List.setIfInBounds_toArray, List.set_cons_succ, List.set_cons_zero]
  generalize wA.drew = wD at *
  have hwd : wA.heap.size ≤ wD.heap.size := ((HCC.out wD).1 hS0).kept.1
  refine held_one (i := 1) (by kernel_rfl) rfl ?_
  intro Q' hQ
  go_wp2_with fail
  refine (clone_c x (some ⟨w.heap.size, 0, none⟩) 32 32 wD HX.out (by omega) (Cells.of_blk0 (((HCC.out wD).1 hS0).blk XA.out (by simp)))).mono ?_
  rintro e w1 ⟨v1, rfl, own1, -, e1⟩
  have hC1 := hCx _ _ hS0 e1
  go_wp2_with fail
  refine hQ _ _ hC1 ?_
  clear hS0 hQ Q'
  have O1 := hid own1
  have YC1 := hid (((HCC.out w1).1 hC1).blk YA.out (by simp))
  have HC1 := hid hC1
  clear hC1
  have hb1 : wD.heap.size ≤ w1.heap.size := e1.size
  clear own1 e1
  try dsimp only
  try simp only [Act.put, List.setIfInBounds_toArray, List.set_cons_succ, List.set_cons_zero]
  refine held_one (i := 3) (by kernel_rfl) rfl ?_
  intro Q' hQ
  go_wp2_with (first | (at_builtin; refine wpl_append8 rfl _ _ rfl wD.heap.size (ys := y) rfl rfl O1.out HY.out (by intro h; cases h) (Cells.of_blk0 YC1.out) (by omega) hb1 ?_))
  intro v2 w2 own2 g2
  have own2' : w2.ownsRow wD.heap.size 5 1 v2 64 ((x ++ y).map u8v) := by rw [List.map_append]; exact own2
  have hv2 := own_block_ge O1.out
  have hC2 : C w2 := (HCC.out w2).2 (((HCC.out w1).1 HC1.out).grown g2 (by intro q hq; have := hv2 _ hq; omega) hwl)
  go_wp2_with fail
  refine hQ _ _ hC2 ?_
  clear hQ Q' own2 g2 hv2 O1 HC1 hb1
  obtain ⟨a, c, rfl, -, -, -, hcl⟩ := own_slice own2'
  have HCL := hid hcl
  clear own2' hcl
  try dsimp only
  try simp only [Act.put, List.setIfInBounds_toArray, List.set_cons_succ, List.set_cons_zero]
  refine held_one (i := 4) (by kernel_rfl) rfl ?_
  intro Q' hQ
  go_wp2_with fail
  refine (HSUM.out w2 c a HCL.out).mono ?_
  rintro e w3 ⟨rfl, e3⟩
  have hC3 := hCx _ _ hC2 e3
  go_wp2_with fail
  refine hQ _ _ hC3 ?_
  clear hQ Q'
  obtain ⟨vz, hvz, z3⟩ := ((HCC.out w3).1 hC3).at_room (r := w.heap.size + 2) (n := 32) (T := 32) (by simp)
  have Z3 := hid z3
  have HVZ := hid hvz
  have HC3 := hid hC3
  clear z3 hvz hC3 hC2 HSUM HCL
  try dsimp only
  try simp only [Act.put, List.setIfInBounds_toArray, List.set_cons_succ, List.set_cons_zero]
  refine held_one (i := 5) (by kernel_rfl) rfl ?_
  intro Q' hQ
  go_wp2_with (refine wpl_storew rfl _ _ _ rfl rfl rfl Z3.out agg_apisum HVZ.out HSL.out o1 ?_)
  intro w4 b4 u4
  go_wp2_with fail
  have B4 := hid b4
  have hS : C w4 := (HCC.out w4).2 (((HCC.out w3).1 HC3.out).store u4 b4 (by simp [HSL.out]) (by omega) (by simp <;> omega))
  refine hQ _ _ hS ?_
  clear hQ Q'
  refine wpAnyH_done (by kernel_rfl) ?_ _
  go_wp2
  refine ret_row rfl rfl b4 agg_apisum HSL.out rfl ⟨rfl, ((HCC.out w4).1 hS).base⟩
end

section
open Go Go.RowKit

theorem size_apisum : (Try.prog.info? 32).map (·.size) = some 32 := by kernel_rfl
end

section
open Go Go.RowKit

theorem run_loadB {P : Program} (x : List UInt8) (p : Addr) (w : World) (hx : CellsAt w p (x.map u8v)) : Sem.run P (Extern.Bytes.loadBytes p x.length ByteArray.empty) w = .ok ⟨x.toArray⟩ w := by
  have l1 := Go.Lib.run_loadBytesX (P := P) w (x.map fun b => (b.toNat : Int)) p .empty (fun j u hu => by
    rw [List.getElem?_map] at hu
    cases hj : x[j]? with
    | none => rw [hj] at hu; cases hu
    | some b =>
      rw [hj] at hu
      simp only [Option.map_some, Option.some.injEq] at hu
      subst hu
      exact hx j _ (by rw [List.getElem?_map, hj]; rfl))
  rw [List.length_map] at l1
  have e : Go.Lib.bytesOf (x.map fun b => (b.toNat : Int)) = x := ints_back x
  rw [e] at l1
  have h : (⟨ByteArray.empty.data ++ x.toArray⟩ : ByteArray) = ⟨x.toArray⟩ := by apply ByteArray.ext; show (#[] : Array UInt8) ++ x.toArray = x.toArray; simp
  rw [h] at l1
  exact l1
theorem run_bcompare {P : Program} (x y : List UInt8) (p q : Addr) (c d : Nat) (w : World) (hx : CellsAt w p (x.map u8v)) (hy : CellsAt w q (y.map u8v)) :
    (Extern.BytealgCompare.compare #[.slice (some p) x.length c, .slice (some q) y.length d]).run P w = .ok (.int .i64 (cmpB x y)) w := by
  change Sem.run P (do pure (goInt (Extern.BytealgCompare.cmp (← Extern.Bytes.bytesOf (.slice (some p) x.length c)) (← Extern.Bytes.bytesOf (.slice (some q) y.length d))))) w = _
  simp only [Extern.Bytes.bytesOf, Sem.run_bind, Sem.run_pure, Result.andThen, run_loadB x p w hx, run_loadB y q w hy]
  rw [Lib.cmp_eq]
  rfl

set_option maxRecDepth 100000 in
set_option maxHeartbeats 1000000 in
theorem bcompare_c (x y : List UInt8) (p q : Addr) (n m c d : Nat) (w : World) (hn : x.length = n) (hm : y.length = m) (hx : CellsAt w p (x.map u8v)) (hy : CellsAt w q (y.map u8v)) :
    Calls Try.prog 12 #[.slice (some p) n c, .slice (some q) m d] w fun e w' => e = .returned (.int .i64 (cmpB x y)) ∧ w = w' := by
  subst hn
  subst hm
  have hr := run_bcompare (P := Try.prog) x y p q c d w hx hy
  generalize cmpB x y = r at *
  generalize x.length = n at *
  generalize y.length = m at *
  clear hx hy
  go_enter Try.func12, Try.ntmps12
  go_wp2
  rw [run_callFunc_extern Try.func51 (by kernel_rfl) (by kernel_rfl) (by kernel_rfl) (e := Extern.BytealgCompare.compare) (by kernel_rfl), hr]
  simp only [Result.andThen]
  rw [Oper.upon_value]
  go_wp2
  go_ret
  exact ⟨rfl, rfl⟩

/-- nothing but new blocks and draws -/
def Laid (w w' : World) : Prop := ∃ q os, w' = Sort.grow (w.drewN q) os
theorem Laid.refl (w : World) : Laid w w := ⟨0, #[], by simp [Sort.grow, World.drewN]⟩
theorem Laid.alloc {w w' : World} (h : Laid w w') (o : Obj) : Laid w (w'.alloc o) := by
  obtain ⟨q, os, rfl⟩ := h
  exact ⟨q, os.push o, by simp [Sort.grow, World.alloc]⟩
theorem Laid.drewN {w w' : World} (h : Laid w w') (n : Nat) : Laid w (w'.drewN n) := by
  obtain ⟨q, os, rfl⟩ := h
  exact ⟨q + n, os, by simp [Sort.grow, World.drewN, Nat.add_assoc]⟩
theorem Laid.trans {a b c : World} (h : Laid a b) (k : Laid b c) : Laid a c := by
  obtain ⟨q, os, rfl⟩ := h
  obtain ⟨q2, os2, rfl⟩ := k
  exact ⟨q + q2, os ++ os2, by simp [Sort.grow, World.drewN, Nat.add_assoc, Array.append_assoc]⟩
theorem Laid.ext {w w' : World} (h : Laid w w') : Ext w w' := by
  obtain ⟨q, os, rfl⟩ := h
  refine ⟨rfl, rfl, rfl, by simp [Sort.grow, World.drewN], fun i hi => ?_⟩
  show (w.heap ++ os)[i]? = _
  rw [Array.getElem?_append_left hi]
theorem cellsAt_blk {w : World} {g : Nat} {vs : List Value} {T : TypeId} (h : Blk w g vs T) : CellsAt w ⟨g, 0, none⟩ vs := fun j u hu => by rw [addr_add, Nat.zero_add]; exact h.cell' hu

set_option maxRecDepth 100000 in
set_option maxHeartbeats 1000000 in
theorem lcompareIDs_c (x y : List UInt8) (w : World) (hx : x.length = 16) (hy : y.length = 16) :
    Calls Try.prog 123 #[.agg (x.map u8v).toArray, .agg (y.map u8v).toArray] w fun e w' => e = .returned (.int .i64 (cmpB x y)) ∧ Ext w w' := by
  have HX := hid hx
  have HY := hid hy
  have hxl := hid (show (x.map u8v).length = 16 by rw [List.length_map]; exact hx)
  have hyl := hid (show (y.map u8v).length = 16 by rw [List.length_map]; exact hy)
  clear hx hy
  go_enter Try.func123, Try.ntmps123
  go_wp2_with fail
  generalize hwA : World.alloc (World.alloc w _) _ = wA
  have xA : Blk wA w.heap.size (x.map u8v) 68 := by rw [← hwA]; exact (Blk.mk_alloc rfl rfl).alloc _
  have yA : Blk wA (w.heap.size + 1) (y.map u8v) 68 := by rw [← hwA]; exact Blk.mk_alloc (by simp) rfl
  have eA : Laid w wA := by rw [← hwA]; exact ((Laid.refl w).alloc _).alloc _
  have hb := hid (fun n => bcompare_c x y ⟨w.heap.size, 0, none⟩ ⟨w.heap.size + 1, 0, none⟩ 16 16 16 16 (wA.drewN n) HX.out HY.out (cellsAt_blk xA.drewN) (cellsAt_blk yA.drewN))
  have EA := hid eA
  clear hwA xA yA eA
  refine wp_region_held_drew (S := fun w' => ∃ n, w' = wA.drewN n) (by kernel_rfl) ⟨1, rfl⟩ (fun hS0 => ?_)
  refine held_take 0 (v := ?tv26) rfl (by kernel_rfl) (by kernel_rfl) (by kernel_rfl) (fun _ _ _ h => h) (.inl ⟨rfl, ?ty26⟩) hS0 ?tr26
  case ty26 => (intro _ _; go_simp; try with_reducible rfl)
  case tr26 =>
  simp only [Act.put, List.setIfInBounds_toArray, List.set_cons_succ, List.set_cons_zero]
  refine held_take 1 (v := ?tv27) rfl (by kernel_rfl) (by kernel_rfl) (by kernel_rfl) (fun _ _ _ h => h) (.inl ⟨rfl, ?ty27⟩) hS0 ?tr27
  case ty27 => (intro _ _; go_simp; try with_reducible rfl)
  case tr27 =>
  simp only [Act.put, List.setIfInBounds_toArray, List.set_cons_succ, List.set_cons_zero]
  refine held_one (i := 2) (by kernel_rfl) rfl ?_
  intro Q' hQ
  obtain ⟨nq, hnq⟩ := hS0
  generalize wA.drew = wB at *
  subst hnq
  go_wp2_with fail
  refine (hb.out nq).mono ?_
  rintro e w' ⟨rfl, rfl⟩
  go_wp2_with fail
  refine hQ _ _ ⟨nq, rfl⟩ ?_
  clear hQ Q'
  have hS0 : ∃ n, wA.drewN nq = wA.drewN n := ⟨nq, rfl⟩
  try dsimp only
  try simp only [Act.put, List.setIfInBounds_toArray, List.set_cons_succ, List.set_cons_zero]
  refine held_take 3 (v := ?tv28) rfl (by kernel_rfl) (by kernel_rfl) (by kernel_rfl) (fun _ _ _ h => h) (.inl ⟨rfl, ?ty28⟩) hS0 ?tr28
  case ty28 => (intro _ _; go_simp; try with_reducible rfl)
  case tr28 =>
  simp only [Act.put, List.setIfInBounds_toArray, List.set_cons_succ, List.set_cons_zero]
  refine wpAnyH_done (by kernel_rfl) ?_ _
  go_wp2_with fail
  go_ret
  exact ⟨rfl, (EA.out.drewN nq).ext⟩


set_option maxRecDepth 100000 in
set_option maxHeartbeats 1000000 in
theorem ridOrder_c (x y : List UInt8) (w : World) (hx : x.length = 16) (hy : y.length = 16) :
    Calls Try.prog 131 #[.agg (x.map u8v).toArray, .agg (y.map u8v).toArray] w fun e w' => e = .returned (.int .i64 (cmpB x y)) ∧ Ext w w' := by
  have HX := hid hx
  have HY := hid hy
  have hxl := hid (show (x.map u8v).length = 16 by rw [List.length_map]; exact hx)
  have hyl := hid (show (y.map u8v).length = 16 by rw [List.length_map]; exact hy)
  clear hx hy
  go_enter Try.func131, Try.ntmps131
  go_wp2_with fail
  generalize hwA : World.alloc (World.alloc w _) _ = wA
  have xA : Blk wA w.heap.size (x.map u8v) 68 := by rw [← hwA]; exact (Blk.mk_alloc rfl rfl).alloc _
  have yA : Blk wA (w.heap.size + 1) (y.map u8v) 68 := by rw [← hwA]; exact Blk.mk_alloc (by simp) rfl
  have eA : Laid w wA := by rw [← hwA]; exact ((Laid.refl w).alloc _).alloc _
  have hb := hid (fun n => bcompare_c x y ⟨w.heap.size, 0, none⟩ ⟨w.heap.size + 1, 0, none⟩ 16 16 16 16 (wA.drewN n) HX.out HY.out (cellsAt_blk xA.drewN) (cellsAt_blk yA.drewN))
  have EA := hid eA
  clear hwA xA yA eA
  refine wp_region_held_drew (S := fun w' => ∃ n, w' = wA.drewN n) (by kernel_rfl) ⟨1, rfl⟩ (fun hS0 => ?_)
  refine held_take 0 (v := ?tv29) rfl (by kernel_rfl) (by kernel_rfl) (by kernel_rfl) (fun _ _ _ h => h) (.inl ⟨rfl, ?ty29⟩) hS0 ?tr29
  case ty29 => (intro _ _; go_simp; try with_reducible rfl)
  case tr29 =>
  simp only [Act.put, List.setIfInBounds_toArray, List.set_cons_succ, List.set_cons_zero]
  refine held_take 1 (v := ?tv30) rfl (by kernel_rfl) (by kernel_rfl) (by kernel_rfl) (fun _ _ _ h => h) (.inl ⟨rfl, ?ty30⟩) hS0 ?tr30
  case ty30 => (intro _ _; go_simp; try with_reducible rfl)
  case tr30 =>
  simp only [Act.put, List.setIfInBounds_toArray, List.set_cons_succ, List.set_cons_zero]
  refine held_one (i := 2) (by kernel_rfl) rfl ?_
  intro Q' hQ
  obtain ⟨nq, hnq⟩ := hS0
  generalize wA.drew = wB at *
  subst hnq
  go_wp2_with fail
  refine (hb.out nq).mono ?_
  rintro e w' ⟨rfl, rfl⟩
  go_wp2_with fail
  refine hQ _ _ ⟨nq, rfl⟩ ?_
  clear hQ Q'
  have hS0 : ∃ n, wA.drewN nq = wA.drewN n := ⟨nq, rfl⟩
  try dsimp only
  try simp only [Act.put, List.setIfInBounds_toArray, List.set_cons_succ, List.set_cons_zero]
  refine held_take 3 (v := ?tv31) rfl (by kernel_rfl) (by kernel_rfl) (by kernel_rfl) (fun _ _ _ h => h) (.inl ⟨rfl, ?ty31⟩) hS0 ?tr31
  case ty31 => (intro _ _; go_simp; try with_reducible rfl)
  case tr31 =>
  simp only [Act.put, List.setIfInBounds_toArray, List.set_cons_succ, List.set_cons_zero]
  refine wpAnyH_done (by kernel_rfl) ?_ _
  go_wp2_with fail
  go_ret
  exact ⟨rfl, (EA.out.drewN nq).ext⟩
end

section
open Go Go.RowKit

/-- which fields an act needs, in the order of the fields of 'needs' -/
def needsL (n : Int) : List Bool :=
  if n = 1 then [true, false, false, false, false, false, false, false, false, false, false, false]
  else if n = 2 then [false, true, true, false, false, false, false, false, false, false, false, false]
  else if n = 3 then [false, true, false, false, false, false, false, false, false, false, false, false]
  else if n = 4 then [false, false, false, true, true, false, false, false, false, false, false, false]
  else if n = 5 then [false, false, false, false, true, true, false, false, false, false, false, false]
  else if n = 6 then [false, false, false, false, true, true, true, false, false, false, false, false]
  else if n = 7 then [false, false, false, false, false, false, false, true, false, false, false, false]
  else if n = 8 then [false, false, false, false, true, false, false, false, false, false, false, false]
  else if n = 9 then [false, false, false, false, true, true, false, false, true, true, false, false]
  else if n = 10 then [false, false, false, false, true, true, false, false, false, true, false, false]
  else if n = 11 then [false, false, false, false, true, false, false, false, false, false, true, false]
  else [false, false, false, false, true, false, false, false, false, false, true, true]
theorem needsL_len (n : Int) : (needsL n).length = 12 := by
  unfold needsL
  simp only [apply_ite List.length, List.length_cons, List.length_nil, ite_self]
def needsV (n : Int) : List Value := (needsL n).map .bool
theorem agg_needs : AggT Try.prog 118 12 := ⟨⟨_, Try.underlying118, rfl⟩, by kernel_rfl⟩

set_option maxRecDepth 100000 in
set_option maxHeartbeats 2000000 in
theorem needsOf_c (n : Int) (w : World) :
    Calls Try.prog 76 #[.int .i64 n] w fun e w' => e = .returned (.agg (needsV n).toArray) ∧ Ext w w' := by
  rcases (by omega : n = 1 ∨ n = 2 ∨ n = 3 ∨ n = 4 ∨ n = 5 ∨ n = 6 ∨ n = 7 ∨ n = 8 ∨ n = 9 ∨ n = 10 ∨ n = 11 ∨ (¬ n = 1 ∧ ¬ n = 2 ∧ ¬ n = 3 ∧ ¬ n = 4 ∧ ¬ n = 5 ∧ ¬ n = 6 ∧ ¬ n = 7 ∧ ¬ n = 8 ∧ ¬ n = 9 ∧ ¬ n = 10 ∧ ¬ n = 11)) with rfl | rfl | rfl | rfl | rfl | rfl | rfl | rfl | rfl | rfl | rfl | h
  · skip
    go_enter Try.func76, Try.ntmps76
    go_wp2_with fail
    refine ret_row rfl rfl (Blk.mk_alloc (vs := [.bool true, .bool false, .bool false, .bool false, .bool false, .bool false, .bool false, .bool false, .bool false, .bool false, .bool false, .bool false]) rfl rfl) agg_needs rfl rfl ⟨rfl, (Ext.refl w).alloc _⟩
  · skip
    go_enter Try.func76, Try.ntmps76
    go_wp2_with fail
    refine ret_row rfl rfl (Blk.mk_alloc (vs := [.bool false, .bool true, .bool true, .bool false, .bool false, .bool false, .bool false, .bool false, .bool false, .bool false, .bool false, .bool false]) rfl rfl) agg_needs rfl rfl ⟨rfl, (Ext.refl w).alloc _⟩
  · skip
    go_enter Try.func76, Try.ntmps76
    go_wp2_with fail
    refine ret_row rfl rfl (Blk.mk_alloc (vs := [.bool false, .bool true, .bool false, .bool false, .bool false, .bool false, .bool false, .bool false, .bool false, .bool false, .bool false, .bool false]) rfl rfl) agg_needs rfl rfl ⟨rfl, (Ext.refl w).alloc _⟩
  · skip
    go_enter Try.func76, Try.ntmps76
    go_wp2_with fail
    refine ret_row rfl rfl (Blk.mk_alloc (vs := [.bool false, .bool false, .bool false, .bool true, .bool true, .bool false, .bool false, .bool false, .bool false, .bool false, .bool false, .bool false]) rfl rfl) agg_needs rfl rfl ⟨rfl, (Ext.refl w).alloc _⟩
  · skip
    go_enter Try.func76, Try.ntmps76
    go_wp2_with fail
    refine ret_row rfl rfl (Blk.mk_alloc (vs := [.bool false, .bool false, .bool false, .bool false, .bool true, .bool true, .bool false, .bool false, .bool false, .bool false, .bool false, .bool false]) rfl rfl) agg_needs rfl rfl ⟨rfl, (Ext.refl w).alloc _⟩
  · skip
    go_enter Try.func76, Try.ntmps76
    go_wp2_with fail
    refine ret_row rfl rfl (Blk.mk_alloc (vs := [.bool false, .bool false, .bool false, .bool false, .bool true, .bool true, .bool true, .bool false, .bool false, .bool false, .bool false, .bool false]) rfl rfl) agg_needs rfl rfl ⟨rfl, (Ext.refl w).alloc _⟩
  · skip
    go_enter Try.func76, Try.ntmps76
    go_wp2_with fail
    refine ret_row rfl rfl (Blk.mk_alloc (vs := [.bool false, .bool false, .bool false, .bool false, .bool false, .bool false, .bool false, .bool true, .bool false, .bool false, .bool false, .bool false]) rfl rfl) agg_needs rfl rfl ⟨rfl, (Ext.refl w).alloc _⟩
  · skip
    go_enter Try.func76, Try.ntmps76
    go_wp2_with fail
    refine ret_row rfl rfl (Blk.mk_alloc (vs := [.bool false, .bool false, .bool false, .bool false, .bool true, .bool false, .bool false, .bool false, .bool false, .bool false, .bool false, .bool false]) rfl rfl) agg_needs rfl rfl ⟨rfl, (Ext.refl w).alloc _⟩
  · skip
    go_enter Try.func76, Try.ntmps76
    go_wp2_with fail
    refine ret_row rfl rfl (Blk.mk_alloc (vs := [.bool false, .bool false, .bool false, .bool false, .bool true, .bool true, .bool false, .bool false, .bool true, .bool true, .bool false, .bool false]) rfl rfl) agg_needs rfl rfl ⟨rfl, (Ext.refl w).alloc _⟩
  · skip
    go_enter Try.func76, Try.ntmps76
    go_wp2_with fail
    refine ret_row rfl rfl (Blk.mk_alloc (vs := [.bool false, .bool false, .bool false, .bool false, .bool true, .bool true, .bool false, .bool false, .bool false, .bool true, .bool false, .bool false]) rfl rfl) agg_needs rfl rfl ⟨rfl, (Ext.refl w).alloc _⟩
  · skip
    go_enter Try.func76, Try.ntmps76
    go_wp2_with fail
    refine ret_row rfl rfl (Blk.mk_alloc (vs := [.bool false, .bool false, .bool false, .bool false, .bool true, .bool false, .bool false, .bool false, .bool false, .bool false, .bool true, .bool false]) rfl rfl) agg_needs rfl rfl ⟨rfl, (Ext.refl w).alloc _⟩
  · have hv : needsV n = [.bool false, .bool false, .bool false, .bool false, .bool true, .bool false, .bool false, .bool false, .bool false, .bool false, .bool true, .bool true] := by unfold needsV needsL; rw [if_neg h.1, if_neg h.2.1, if_neg h.2.2.1, if_neg h.2.2.2.1, if_neg h.2.2.2.2.1, if_neg h.2.2.2.2.2.1, if_neg h.2.2.2.2.2.2.1, if_neg h.2.2.2.2.2.2.2.1, if_neg h.2.2.2.2.2.2.2.2.1, if_neg h.2.2.2.2.2.2.2.2.2.1, if_neg h.2.2.2.2.2.2.2.2.2.2]; rfl
    rw [hv]
    have q0 : (n == 1) = false := by simpa using h.1
    have r0 : decide (n = 1) = false := decide_eq_false h.1
    have q1 : (n == 2) = false := by simpa using h.2.1
    have r1 : decide (n = 2) = false := decide_eq_false h.2.1
    have q2 : (n == 3) = false := by simpa using h.2.2.1
    have r2 : decide (n = 3) = false := decide_eq_false h.2.2.1
    have q3 : (n == 4) = false := by simpa using h.2.2.2.1
    have r3 : decide (n = 4) = false := decide_eq_false h.2.2.2.1
    have q4 : (n == 5) = false := by simpa using h.2.2.2.2.1
    have r4 : decide (n = 5) = false := decide_eq_false h.2.2.2.2.1
    have q5 : (n == 6) = false := by simpa using h.2.2.2.2.2.1
    have r5 : decide (n = 6) = false := decide_eq_false h.2.2.2.2.2.1
    have q6 : (n == 7) = false := by simpa using h.2.2.2.2.2.2.1
    have r6 : decide (n = 7) = false := decide_eq_false h.2.2.2.2.2.2.1
    have q7 : (n == 8) = false := by simpa using h.2.2.2.2.2.2.2.1
    have r7 : decide (n = 8) = false := decide_eq_false h.2.2.2.2.2.2.2.1
    have q8 : (n == 9) = false := by simpa using h.2.2.2.2.2.2.2.2.1
    have r8 : decide (n = 9) = false := decide_eq_false h.2.2.2.2.2.2.2.2.1
    have q9 : (n == 10) = false := by simpa using h.2.2.2.2.2.2.2.2.2.1
    have r9 : decide (n = 10) = false := decide_eq_false h.2.2.2.2.2.2.2.2.2.1
    have q10 : (n == 11) = false := by simpa using h.2.2.2.2.2.2.2.2.2.2
    have r10 : decide (n = 11) = false := decide_eq_false h.2.2.2.2.2.2.2.2.2.2
    clear h hv
    go_enter Try.func76, Try.ntmps76
    go_wp2_with fail
    refine ret_row rfl rfl (Blk.mk_alloc (vs := [.bool false, .bool false, .bool false, .bool false, .bool true, .bool false, .bool false, .bool false, .bool false, .bool false, .bool true, .bool true]) rfl rfl) agg_needs rfl rfl ⟨rfl, (Ext.refl w).alloc _⟩
end

section
open Go Go.RowKit

/-- a body: its slices' headers are part of it -/
structure BodyR where
  text : ByteArray
  member : List UInt8
  ra : Option Addr
  rn : Nat
  rc : Nat
  roles : List ByteArray
  label : ByteArray
  commit : List UInt8
  epoch : Int
  purpose : Int
  reason : Int
  need : Int
  version : Int
  count : Int
  ha : Option Addr
  hn : Nat
  hc : Nat
  holders : List (List UInt8)
def BodyR.t (b : BodyR) : List Value := [.int .i64 b.epoch, .int .i64 b.purpose, .int .i64 b.reason, .int .i64 b.need, .int .i64 b.version, .int .i64 b.count, .slice b.ha b.hn b.hc]
def BodyR.v (b : BodyR) : List Value := .string b.text :: (b.member.map u8v ++ (.slice b.ra b.rn b.rc :: .string b.label :: (b.commit.map u8v ++ b.t)))
def All16 (l : List (List UInt8)) : Prop := ∀ x ∈ l, x.length = 16
structure BodyR.Ok (w : World) (b : BodyR) : Prop where
  ts : b.text.size ≤ 140737488355328
  hm : b.member.length = 16
  hcm : b.commit.length = 32
  rl : b.roles.length = b.rn
  rnc : b.rn ≤ b.rc
  rm : b.rn ≤ 140737488355328
  rcell : Cells w b.ra (b.roles.map encStr)
  rs : ∀ s ∈ b.roles, s.size ≤ 140737488355328
  ls : b.label.size ≤ 140737488355328
  hl : b.holders.length = b.hn
  hnc : b.hn ≤ b.hc
  hcmax : b.hn ≤ 140737488355328
  h16 : All16 b.holders
  hcell : Cells w b.ha (rows b.holders)
theorem BodyR.Ok.ext {w w' : World} {b : BodyR} (h : b.Ok w) (e : Ext w w') : b.Ok w' :=
  ⟨h.ts, h.hm, h.hcm, h.rl, h.rnc, h.rm, h.rcell.ext e, h.rs, h.ls, h.hl, h.hnc, h.hcmax, h.h16, h.hcell.ext e⟩
theorem BodyR.len {w : World} {b : BodyR} (h : b.Ok w) : b.v.length = 58 := by unfold BodyR.v BodyR.t; simp [h.hm, h.hcm]
theorem agg_body : AggT Try.prog 72 58 := ⟨⟨_, Try.underlying72, rfl⟩, by kernel_rfl⟩
theorem at_split {x : Value} {l r : List Value} {n i : Nat} (hl : l.length = n) : (x :: (l ++ r))[n + 1 + i]? = r[i]? := by
  rw [show n + 1 + i = (n + i) + 1 by omega, List.getElem?_cons_succ, List.getElem?_append_right (by omega), hl]
  congr 1; omega
theorem BodyR.at0 (b : BodyR) : b.v[0]? = some (.string b.text) := rfl
theorem BodyR.at17 {w : World} {b : BodyR} (h : b.Ok w) : b.v[17]? = some (.slice b.ra b.rn b.rc) := by
  unfold BodyR.v; exact at_split (n := 16) (i := 0) (by rw [List.length_map, h.hm])
theorem BodyR.at18 {w : World} {b : BodyR} (h : b.Ok w) : b.v[18]? = some (.string b.label) := by
  unfold BodyR.v; exact at_split (n := 16) (i := 1) (by rw [List.length_map, h.hm])
theorem BodyR.at_t {w : World} {b : BodyR} (h : b.Ok w) (i : Nat) : b.v[51 + i]? = b.t[i]? := by
  unfold BodyR.v
  rw [show 51 + i = 16 + 1 + (32 + 1 + (i + 1)) by omega, at_split (by rw [List.length_map, h.hm])]
  rw [show 32 + 1 + (i + 1) = (32 + 1 + i) + 1 by omega, List.getElem?_cons_succ]
  exact at_split (n := 32) (by rw [List.length_map, h.hcm])
theorem BodyR.at51 {w : World} {b : BodyR} (h : b.Ok w) : b.v[51]? = some (.int .i64 b.epoch) := BodyR.at_t h 0
theorem BodyR.at52 {w : World} {b : BodyR} (h : b.Ok w) : b.v[52]? = some (.int .i64 b.purpose) := BodyR.at_t h 1
theorem BodyR.at53 {w : World} {b : BodyR} (h : b.Ok w) : b.v[53]? = some (.int .i64 b.reason) := BodyR.at_t h 2
theorem BodyR.at54 {w : World} {b : BodyR} (h : b.Ok w) : b.v[54]? = some (.int .i64 b.need) := BodyR.at_t h 3
theorem BodyR.at55 {w : World} {b : BodyR} (h : b.Ok w) : b.v[55]? = some (.int .i64 b.version) := BodyR.at_t h 4
theorem BodyR.at56 {w : World} {b : BodyR} (h : b.Ok w) : b.v[56]? = some (.int .i64 b.count) := BodyR.at_t h 5
theorem BodyR.at57 {w : World} {b : BodyR} (h : b.Ok w) : b.v[57]? = some (.slice b.ha b.hn b.hc) := BodyR.at_t h 6
theorem BodyR.memb {w : World} {b : BodyR} {g : Nat} (h : b.Ok w) (hb : Blk w g b.v 72) : CellsAt w ⟨g, 1, none⟩ (b.member.map u8v) := by
  intro j u hu
  rw [addr_add]
  refine hb.cell' ?_
  unfold BodyR.v
  rw [show 1 + j = j + 1 by omega, List.getElem?_cons_succ, List.getElem?_append_left (List.getElem?_eq_some_iff.1 hu).1]
  exact hu
theorem BodyR.comm {w : World} {b : BodyR} {g : Nat} (h : b.Ok w) (hb : Blk w g b.v 72) : CellsAt w ⟨g, 19, none⟩ (b.commit.map u8v) := by
  intro j u hu
  rw [addr_add]
  refine hb.cell' ?_
  unfold BodyR.v
  rw [show 19 + j = 16 + 1 + (j + 2) by omega, at_split (by rw [List.length_map, h.hm]), List.getElem?_cons_succ, List.getElem?_cons_succ, List.getElem?_append_left (List.getElem?_eq_some_iff.1 hu).1]
  exact hu
/-- which fields are not zero, in the order of the fields of 'needs' -/
def BodyR.set (b : BodyR) : List Bool := [!b.text.toList.isEmpty, !(b.member == List.replicate 16 0), decide (0 < b.rn), !b.label.toList.isEmpty, !(b.commit == List.replicate 32 0), b.epoch != 0, b.purpose != 0, b.reason != 0, b.need != 0, decide (0 < b.hn), b.version != 0, b.count != 0]
/-- a field is not zero that is not needed -/
def extraB (b : BodyR) (n : List Bool) : Bool := (n.zip b.set).any fun p => !p.1 && p.2
end

section
open Go Go.RowKit

/-- a text behind its length -/
def textL (s : ByteArray) : List UInt8 := UInt8.ofNat s.size :: s.data.toList
theorem textL_len (s : ByteArray) : (textL s).length = s.size + 1 := by unfold textL; rw [List.length_cons, Array.length_toList]; rfl
theorem wrap_u8_nat (n : Nat) : IntKind.u8.wrap (n : Int) = ((UInt8.ofNat n).toNat : Int) := by
  have h : (UInt8.ofNat n).toNat = n % 256 := UInt8.toNat_ofNat
  rw [h]
  show (n : Int) % 256 = _
  omega
theorem Below.blk {B : Nat} {w w' : World} {g : Nat} {vs : List Value} {T : TypeId} (h : Below B w w') (hg : g < B) (hb : Blk w g vs T) : Blk w' g vs T := by
  unfold Blk at *
  rw [h.block g hg]; exact hb

set_option maxRecDepth 100000 in
set_option maxHeartbeats 2000000 in
theorem putText_c (l : List UInt8) (s : ByteArray) (v : Value) (n B : Nat) (w : World) (own : w.ownsRow B 5 1 v n (l.map u8v)) (hB : B ≤ w.heap.size) (hn : n + s.size + 1 ≤ 140737488355328) :
    Calls Try.prog 77 #[v, .string s] w fun e w' => ∃ v', e = .returned v' ∧ w'.ownsRow B 5 1 v' (n + (s.size + 1)) ((l ++ textL s).map u8v) ∧ Below B w w' := by
  obtain ⟨i0, hi, hz, hsz, hb1⟩ := info_parts info_u8
  obtain ⟨o, ho⟩ : ∃ o : UInt8, UInt8.ofNat s.size = o := ⟨_, rfl⟩
  have hw := wrap_u8_nat s.size
  have htl : textL s = o :: s.data.toList := by unfold textL; rw [ho]
  rw [ho] at hw
  have HTL := hid htl
  clear htl ho
  obtain ⟨N, hN⟩ : ∃ N, s.size = N := ⟨_, rfl⟩
  have HN := hid hN
  rw [hN] at hw
  have zB : Blk (w.alloc (.cells #[.int .u8 o.toNat] 5)) w.heap.size (([o] : List UInt8).map u8v) 5 := Blk.mk_alloc rfl rfl
  have eB : Ext w (w.alloc (.cells #[.int .u8 o.toNat] 5)) := (Ext.refl w).alloc _
  have ZB := hid zB
  have O1 := hid (ownsRow_ext own eB)
  have E1 := hid ((Below.refl B w).alloc hB (.cells #[.int .u8 o.toNat] 5))
  have hb1' : B ≤ (w.alloc (.cells #[.int .u8 o.toNat] 5)).heap.size := Nat.le_trans hB eB.size
  clear zB eB own
  go_enter Try.func77, Try.ntmps77
  go_wp2_with (first | (at_builtin; refine wpl_append8 rfl _ _ rfl B (ys := [o]) rfl rfl O1.out rfl (by intro h; cases h) (Cells.of_blk0 ZB.out) (by omega) hb1' ?_))
  intro v3 w3 own3 g3
  have O3 := hid own3
  have hv3 := own_block_ge O1.out
  have E3 := hid (E1.out.grown g3 hb1' (by intro q hq; exact hv3 _ hq))
  have hb3 : B ≤ w3.heap.size := Nat.le_trans hb1' g3.size
  clear own3 g3 hv3 O1 E1 ZB
  go_wp2_with (first | (at_builtin; refine Lib.wpList_append_own_string w3 rfl _ _ 28 9 rfl B 5 i0 Try.underlying28 Try.underlying9 hi hz hsz hb1 _ (n + 1) _ rfl O3.out s rfl (by unfold maxLen; omega) (by omega) hb3 ?_))
  intro v4 w4 own4 g4 _
  have own4' : w4.ownsRow B 5 1 v4 (n + (N + 1)) ((l ++ textL s).map u8v) := by
    have h5 : (l ++ textL s).map u8v = l.map u8v ++ u8v o :: Lib.strCells s := by rw [HTL.out, List.map_append]; rfl
    rw [h5, show n + (N + 1) = n + 1 + N by omega]
    exact own4
  have hv4 := own_block_ge O3.out
  have E4 := hid (E3.out.grown g4 hb3 (by intro q hq; exact hv4 _ hq))
  have O4 := hid own4'
  clear own4 own4' g4 hv4 O3 E3
  go_wp2_with fail
  go_ret
  exact ⟨v4, rfl, by rw [HN.out]; exact O4.out, E4.out⟩
end

section
open Go Go.RowKit

theorem exec_cmpE {P : Program} {o : Oper} {a : Act} {op : BinOp} {t u : TypeId} {x y : Operand} (ho : o.op = .binOp op t x y u) {xs ys : Array Value} {b : Value} (hx : a.eval x = .agg xs) (hy : a.eval y = .agg ys)
    (hg : P.eqGuardType P.depth t = false) (hr : ∀ w, (binOp op t (.agg xs) (.agg ys)).run P w = .ok b w) (w : World) : (execOp a.eval o).run P w = .ok (.value b) w := by
  unfold execOp
  simp only [ho, hx, hy, Sem.run_bind, run_eqGuard_agg w op t x y xs ys hg, Result.andThen_ok, hr, Sem.run_pure]
theorem guard_id : Try.prog.eqGuardType Try.prog.depth 68 = false := by kernel_rfl
section
variable {P : Program} {ops : Array Oper} {rest : List Oper} {o : Oper} {a : Act} {w : World} {Q : Exit → Act → World → Prop}
/-- a step of a plain region whose guard need not be known -/
theorem wpg_sym {v : Value} (hy : (Region.wanted o (yielded ops a.tmps) = true ∧ (execOp a.eval o).run P w = .ok (.value v) w) ∨ (Region.wanted o (yielded ops a.tmps) = false ∧ v = undef)) (h : wpList P ops Q rest (a.put o.dst v) w) : wpList P ops Q (o :: rest) a w := by
  rcases hy with ⟨h1, h2⟩ | ⟨h1, rfl⟩
  · exact wpg_run h1 h2 h
  · exact wpList_skip h1 h
end
set_option maxRecDepth 100000 in
set_option maxHeartbeats 4000000 in
theorem extra_c (b : BodyR) (b0 b1 b2 b3 b4 b5 b6 b7 b8 b9 b10 b11 : Bool) (w : World) (hr : b.Ok w) :
    Calls Try.prog 119 #[.agg b.v.toArray, .agg #[.bool b0, .bool b1, .bool b2, .bool b3, .bool b4, .bool b5, .bool b6, .bool b7, .bool b8, .bool b9, .bool b10, .bool b11]] w fun e w' => e = .returned (.bool (extraB b [b0, b1, b2, b3, b4, b5, b6, b7, b8, b9, b10, b11])) ∧ Ext w w' := by
  have HR := hid hr
  clear hr
  go_enter Try.func119, Try.ntmps119
  go_upto_region 1 with (fail)
  generalize hwA : World.alloc (World.alloc w _) _ = wA
  have bA : Blk wA w.heap.size b.v 72 := by rw [← hwA]; exact (Blk.mk_alloc rfl rfl).alloc _
  have nA : Blk wA (w.heap.size + 1) [.bool b0, .bool b1, .bool b2, .bool b3, .bool b4, .bool b5, .bool b6, .bool b7, .bool b8, .bool b9, .bool b10, .bool b11] 118 := by rw [← hwA]; exact Blk.mk_alloc (by simp) rfl
  have eA : Ext w wA := by rw [← hwA]; exact ((Ext.refl w).alloc _).alloc _
  have BA := hid bA
  have EA := hid eA
  clear hwA bA eA
  have n0 : wA.cell? ⟨w.heap.size + 1, 0, none⟩ = some (.bool b0) := nA.cell' rfl
  have n1 : wA.cell? ⟨w.heap.size + 1, 1, none⟩ = some (.bool b1) := nA.cell' rfl
  have n2 : wA.cell? ⟨w.heap.size + 1, 2, none⟩ = some (.bool b2) := nA.cell' rfl
  have n3 : wA.cell? ⟨w.heap.size + 1, 3, none⟩ = some (.bool b3) := nA.cell' rfl
  have n4 : wA.cell? ⟨w.heap.size + 1, 4, none⟩ = some (.bool b4) := nA.cell' rfl
  have n5 : wA.cell? ⟨w.heap.size + 1, 5, none⟩ = some (.bool b5) := nA.cell' rfl
  have n6 : wA.cell? ⟨w.heap.size + 1, 6, none⟩ = some (.bool b6) := nA.cell' rfl
  have n7 : wA.cell? ⟨w.heap.size + 1, 7, none⟩ = some (.bool b7) := nA.cell' rfl
  have n8 : wA.cell? ⟨w.heap.size + 1, 8, none⟩ = some (.bool b8) := nA.cell' rfl
  have n9 : wA.cell? ⟨w.heap.size + 1, 9, none⟩ = some (.bool b9) := nA.cell' rfl
  have n10 : wA.cell? ⟨w.heap.size + 1, 10, none⟩ = some (.bool b10) := nA.cell' rfl
  have n11 : wA.cell? ⟨w.heap.size + 1, 11, none⟩ = some (.bool b11) := nA.cell' rfl
  clear nA
  have c0 := BA.out.cell' (BodyR.at0 b)
  have c17 := BA.out.cell' (BodyR.at17 HR.out)
  have c18 := BA.out.cell' (BodyR.at18 HR.out)
  have c51 := BA.out.cell' (BodyR.at51 HR.out)
  have c52 := BA.out.cell' (BodyR.at52 HR.out)
  have c53 := BA.out.cell' (BodyR.at53 HR.out)
  have c54 := BA.out.cell' (BodyR.at54 HR.out)
  have c55 := BA.out.cell' (BodyR.at55 HR.out)
  have c56 := BA.out.cell' (BodyR.at56 HR.out)
  have c57 := BA.out.cell' (BodyR.at57 HR.out)
  have CM := hid (BodyR.memb (b := b) (HR.out.ext EA.out) BA.out)
  have CC := hid (BodyR.comm (b := b) (HR.out.ext EA.out) BA.out)
  have HM := hid (show (b.member.map u8v).length = 16 by rw [List.length_map]; exact HR.out.hm)
  have HC := hid (show (b.commit.map u8v).length = 32 by rw [List.length_map]; exact HR.out.hcm)
  have NM := hid (fun w => neq_arr Try.underlying68 b.member (List.replicate 16 0) HR.out.hm (by simp) w)
  have NC := hid (fun w => neq_arr Try.underlying32 b.commit (List.replicate 32 0) HR.out.hcm (by simp) w)
  refine wp_region_list ?_
  refine wpg_sym (v := .pointer (some ⟨w.heap.size + 1, 0, none⟩)) ?hy1 ?hz1
  case hy1 => (first | exact .inl ⟨rfl, by first | (go_simp; try with_reducible rfl)⟩ | exact .inr ⟨rfl, rfl⟩)
  case hz1 =>
  try simp only [Act.put, List.setIfInBounds_toArray, List.set_cons_succ, List.set_cons_zero]
  refine wpg_sym (v := .bool b0) ?hy2 ?hz2
  case hy2 => (first | exact .inl ⟨rfl, by first | (go_simp; try with_reducible rfl)⟩ | exact .inr ⟨rfl, rfl⟩)
  case hz2 =>
  try simp only [Act.put, List.setIfInBounds_toArray, List.set_cons_succ, List.set_cons_zero]
  refine wpg_sym (v := .bool (!b0)) ?hy3 ?hz3
  case hy3 => (first | exact .inl ⟨rfl, by first | (go_simp; try with_reducible rfl)⟩ | exact .inr ⟨rfl, rfl⟩)
  case hz3 =>
  try simp only [Act.put, List.setIfInBounds_toArray, List.set_cons_succ, List.set_cons_zero]
  refine wpg_sym (v := .bool (!b0)) ?hy4 ?hz4
  case hy4 => (first | exact .inl ⟨rfl, by first | (go_simp; try with_reducible rfl)⟩ | exact .inr ⟨rfl, rfl⟩)
  case hz4 =>
  try simp only [Act.put, List.setIfInBounds_toArray, List.set_cons_succ, List.set_cons_zero]
  refine wpg_sym (v := bif b0 then undef else .pointer (some ⟨w.heap.size, 0, none⟩)) ?hy5 ?hz5
  case hy5 => ((cases b0) <;> (first | exact .inl ⟨rfl, by first | (go_simp; try with_reducible rfl)⟩ | exact .inr ⟨rfl, rfl⟩))
  case hz5 =>
  try simp only [Act.put, List.setIfInBounds_toArray, List.set_cons_succ, List.set_cons_zero]
  refine wpg_sym (v := bif b0 then undef else .string b.text) ?hy6 ?hz6
  case hy6 => ((cases b0) <;> (first | exact .inl ⟨rfl, by first | (go_simp; try with_reducible rfl)⟩ | exact .inr ⟨rfl, rfl⟩))
  case hz6 =>
  try simp only [Act.put, List.setIfInBounds_toArray, List.set_cons_succ, List.set_cons_zero]
  refine wpg_sym (v := bif b0 then undef else .bool (!b.text.toList.isEmpty)) ?hy7 ?hz7
  case hy7 => ((cases b0) <;> (first | exact .inl ⟨rfl, by first | (go_simp; try with_reducible rfl)⟩ | exact .inr ⟨rfl, rfl⟩))
  case hz7 =>
  try simp only [Act.put, List.setIfInBounds_toArray, List.set_cons_succ, List.set_cons_zero]
  refine wpg_sym (v := .bool (!b0 && !b.text.toList.isEmpty)) ?hy8 ?hz8
  case hy8 => ((cases b0) <;> (first | exact .inl ⟨rfl, by first | (go_simp; try with_reducible rfl)⟩ | exact .inr ⟨rfl, rfl⟩))
  case hz8 =>
  try simp only [Act.put, List.setIfInBounds_toArray, List.set_cons_succ, List.set_cons_zero]
  generalize hD1 : (!b0 && !b.text.toList.isEmpty) = D1
  refine wpg_sym (v := .bool D1) ?hy9 ?hz9
  case hy9 => (first | exact .inl ⟨rfl, by first | (go_simp; try with_reducible rfl)⟩ | exact .inr ⟨rfl, rfl⟩)
  case hz9 =>
  try simp only [Act.put, List.setIfInBounds_toArray, List.set_cons_succ, List.set_cons_zero]
  refine wpg_sym (v := bif D1 then undef else .pointer (some ⟨w.heap.size + 1, 1, none⟩)) ?hy10 ?hz10
  case hy10 => ((cases D1) <;> (first | exact .inl ⟨rfl, by first | (go_simp; try with_reducible rfl)⟩ | exact .inr ⟨rfl, rfl⟩))
  case hz10 =>
  try simp only [Act.put, List.setIfInBounds_toArray, List.set_cons_succ, List.set_cons_zero]
  refine wpg_sym (v := bif D1 then undef else .bool b1) ?hy11 ?hz11
  case hy11 => ((cases D1) <;> (first | exact .inl ⟨rfl, by first | (go_simp; try with_reducible rfl)⟩ | exact .inr ⟨rfl, rfl⟩))
  case hz11 =>
  try simp only [Act.put, List.setIfInBounds_toArray, List.set_cons_succ, List.set_cons_zero]
  refine wpg_sym (v := bif D1 then undef else .bool (!b1)) ?hy12 ?hz12
  case hy12 => ((cases D1) <;> (first | exact .inl ⟨rfl, by first | (go_simp; try with_reducible rfl)⟩ | exact .inr ⟨rfl, rfl⟩))
  case hz12 =>
  try simp only [Act.put, List.setIfInBounds_toArray, List.set_cons_succ, List.set_cons_zero]
  refine wpg_sym (v := bif D1 then undef else .bool (!b1)) ?hy13 ?hz13
  case hy13 => ((cases D1) <;> (first | exact .inl ⟨rfl, by first | (go_simp; try with_reducible rfl)⟩ | exact .inr ⟨rfl, rfl⟩))
  case hz13 =>
  try simp only [Act.put, List.setIfInBounds_toArray, List.set_cons_succ, List.set_cons_zero]
  refine wpg_sym (v := bif (D1 || b1) then undef else .pointer (some ⟨w.heap.size, 1, none⟩)) ?hy14 ?hz14
  case hy14 => ((cases D1 <;> cases b1) <;> (first | exact .inl ⟨rfl, by first | (go_simp; try with_reducible rfl)⟩ | exact .inr ⟨rfl, rfl⟩))
  case hz14 =>
  try simp only [Act.put, List.setIfInBounds_toArray, List.set_cons_succ, List.set_cons_zero]
  refine wpg_sym (v := bif (D1 || b1) then undef else .agg (b.member.map u8v).toArray) ?hy15 ?hz15
  case hy15 => ((cases D1 <;> cases b1) <;> (first | exact .inl ⟨rfl, by first | (simp only [Bool.or_self, cond_false]; exact exec_load_at rfl rfl CM.out agg_id HM.out)⟩ | exact .inr ⟨rfl, rfl⟩))
  case hz15 =>
  try simp only [Act.put, List.setIfInBounds_toArray, List.set_cons_succ, List.set_cons_zero]
  refine wpg_sym (v := bif (D1 || b1) then undef else .agg ((List.replicate 16 (0 : UInt8)).map u8v).toArray) ?hy16 ?hz16
  case hy16 => ((cases D1 <;> cases b1) <;> (first | exact .inl ⟨rfl, by first | (go_simp; first | with_reducible rfl | rfl | done)⟩ | exact .inr ⟨rfl, rfl⟩))
  case hz16 =>
  try simp only [Act.put, List.setIfInBounds_toArray, List.set_cons_succ, List.set_cons_zero]
  refine wpg_sym (v := bif (D1 || b1) then undef else .bool (!(b.member == List.replicate 16 0))) ?hy17 ?hz17
  case hy17 => ((cases D1 <;> cases b1) <;> (first | exact .inl ⟨rfl, by first | (simp only [Bool.or_self, cond_false]; exact exec_cmpE rfl rfl rfl guard_id NM.out _)⟩ | exact .inr ⟨rfl, rfl⟩))
  case hz17 =>
  try simp only [Act.put, List.setIfInBounds_toArray, List.set_cons_succ, List.set_cons_zero]
  refine wpg_sym (v := bif D1 then undef else .bool (!b1 && !(b.member == List.replicate 16 0))) ?hy18 ?hz18
  case hy18 => ((cases D1 <;> cases b1) <;> (first | exact .inl ⟨rfl, by first | (go_simp; try with_reducible rfl)⟩ | exact .inr ⟨rfl, rfl⟩))
  case hz18 =>
  try simp only [Act.put, List.setIfInBounds_toArray, List.set_cons_succ, List.set_cons_zero]
  refine wpg_sym (v := .bool (D1 || (!b1 && !(b.member == List.replicate 16 0)))) ?hy19 ?hz19
  case hy19 => ((cases D1) <;> (first | exact .inl ⟨rfl, by first | (go_simp; try with_reducible rfl)⟩ | exact .inr ⟨rfl, rfl⟩))
  case hz19 =>
  try simp only [Act.put, List.setIfInBounds_toArray, List.set_cons_succ, List.set_cons_zero]
  generalize hD2 : (D1 || (!b1 && !(b.member == List.replicate 16 0))) = D2
  refine wpg_sym (v := .bool D2) ?hy20 ?hz20
  case hy20 => (first | exact .inl ⟨rfl, by first | (go_simp; try with_reducible rfl)⟩ | exact .inr ⟨rfl, rfl⟩)
  case hz20 =>
  try simp only [Act.put, List.setIfInBounds_toArray, List.set_cons_succ, List.set_cons_zero]
  refine wpg_sym (v := bif D2 then undef else .pointer (some ⟨w.heap.size + 1, 2, none⟩)) ?hy21 ?hz21
  case hy21 => ((cases D2) <;> (first | exact .inl ⟨rfl, by first | (go_simp; try with_reducible rfl)⟩ | exact .inr ⟨rfl, rfl⟩))
  case hz21 =>
  try simp only [Act.put, List.setIfInBounds_toArray, List.set_cons_succ, List.set_cons_zero]
  refine wpg_sym (v := bif D2 then undef else .bool b2) ?hy22 ?hz22
  case hy22 => ((cases D2) <;> (first | exact .inl ⟨rfl, by first | (go_simp; try with_reducible rfl)⟩ | exact .inr ⟨rfl, rfl⟩))
  case hz22 =>
  try simp only [Act.put, List.setIfInBounds_toArray, List.set_cons_succ, List.set_cons_zero]
  refine wpg_sym (v := bif D2 then undef else .bool (!b2)) ?hy23 ?hz23
  case hy23 => ((cases D2) <;> (first | exact .inl ⟨rfl, by first | (go_simp; try with_reducible rfl)⟩ | exact .inr ⟨rfl, rfl⟩))
  case hz23 =>
  try simp only [Act.put, List.setIfInBounds_toArray, List.set_cons_succ, List.set_cons_zero]
  refine wpg_sym (v := bif D2 then undef else .bool (!b2)) ?hy24 ?hz24
  case hy24 => ((cases D2) <;> (first | exact .inl ⟨rfl, by first | (go_simp; try with_reducible rfl)⟩ | exact .inr ⟨rfl, rfl⟩))
  case hz24 =>
  try simp only [Act.put, List.setIfInBounds_toArray, List.set_cons_succ, List.set_cons_zero]
  refine wpg_sym (v := bif (D2 || b2) then undef else .pointer (some ⟨w.heap.size, 17, none⟩)) ?hy25 ?hz25
  case hy25 => ((cases D2 <;> cases b2) <;> (first | exact .inl ⟨rfl, by first | (go_simp; try with_reducible rfl)⟩ | exact .inr ⟨rfl, rfl⟩))
  case hz25 =>
  try simp only [Act.put, List.setIfInBounds_toArray, List.set_cons_succ, List.set_cons_zero]
  refine wpg_sym (v := bif (D2 || b2) then undef else .slice b.ra b.rn b.rc) ?hy26 ?hz26
  case hy26 => ((cases D2 <;> cases b2) <;> (first | exact .inl ⟨rfl, by first | (go_simp; try with_reducible rfl)⟩ | exact .inr ⟨rfl, rfl⟩))
  case hz26 =>
  try simp only [Act.put, List.setIfInBounds_toArray, List.set_cons_succ, List.set_cons_zero]
  refine wpg_sym (v := bif (D2 || b2) then undef else .int .i64 (b.rn : Int)) ?hy27 ?hz27
  case hy27 => ((cases D2 <;> cases b2) <;> (first | exact .inl ⟨rfl, by first | (go_simp; try with_reducible rfl)⟩ | exact .inr ⟨rfl, rfl⟩))
  case hz27 =>
  try simp only [Act.put, List.setIfInBounds_toArray, List.set_cons_succ, List.set_cons_zero]
  refine wpg_sym (v := bif (D2 || b2) then undef else .bool (decide (0 < b.rn))) ?hy28 ?hz28
  case hy28 => ((cases D2 <;> cases b2) <;> (first | exact .inl ⟨rfl, by first | (go_simp; first | with_reducible rfl | rfl | done)⟩ | exact .inr ⟨rfl, rfl⟩))
  case hz28 =>
  try simp only [Act.put, List.setIfInBounds_toArray, List.set_cons_succ, List.set_cons_zero]
  refine wpg_sym (v := bif D2 then undef else .bool (!b2 && decide (0 < b.rn))) ?hy29 ?hz29
  case hy29 => ((cases D2 <;> cases b2) <;> (first | exact .inl ⟨rfl, by first | (go_simp; try with_reducible rfl)⟩ | exact .inr ⟨rfl, rfl⟩))
  case hz29 =>
  try simp only [Act.put, List.setIfInBounds_toArray, List.set_cons_succ, List.set_cons_zero]
  refine wpg_sym (v := .bool (D2 || (!b2 && decide (0 < b.rn)))) ?hy30 ?hz30
  case hy30 => ((cases D2) <;> (first | exact .inl ⟨rfl, by first | (go_simp; try with_reducible rfl)⟩ | exact .inr ⟨rfl, rfl⟩))
  case hz30 =>
  try simp only [Act.put, List.setIfInBounds_toArray, List.set_cons_succ, List.set_cons_zero]
  generalize hD3 : (D2 || (!b2 && decide (0 < b.rn))) = D3
  refine wpg_sym (v := .bool D3) ?hy31 ?hz31
  case hy31 => (first | exact .inl ⟨rfl, by first | (go_simp; try with_reducible rfl)⟩ | exact .inr ⟨rfl, rfl⟩)
  case hz31 =>
  try simp only [Act.put, List.setIfInBounds_toArray, List.set_cons_succ, List.set_cons_zero]
  refine wpg_sym (v := bif D3 then undef else .pointer (some ⟨w.heap.size + 1, 3, none⟩)) ?hy32 ?hz32
  case hy32 => ((cases D3) <;> (first | exact .inl ⟨rfl, by first | (go_simp; try with_reducible rfl)⟩ | exact .inr ⟨rfl, rfl⟩))
  case hz32 =>
  try simp only [Act.put, List.setIfInBounds_toArray, List.set_cons_succ, List.set_cons_zero]
  refine wpg_sym (v := bif D3 then undef else .bool b3) ?hy33 ?hz33
  case hy33 => ((cases D3) <;> (first | exact .inl ⟨rfl, by first | (go_simp; try with_reducible rfl)⟩ | exact .inr ⟨rfl, rfl⟩))
  case hz33 =>
  try simp only [Act.put, List.setIfInBounds_toArray, List.set_cons_succ, List.set_cons_zero]
  refine wpg_sym (v := bif D3 then undef else .bool (!b3)) ?hy34 ?hz34
  case hy34 => ((cases D3) <;> (first | exact .inl ⟨rfl, by first | (go_simp; try with_reducible rfl)⟩ | exact .inr ⟨rfl, rfl⟩))
  case hz34 =>
  try simp only [Act.put, List.setIfInBounds_toArray, List.set_cons_succ, List.set_cons_zero]
  refine wpg_sym (v := bif D3 then undef else .bool (!b3)) ?hy35 ?hz35
  case hy35 => ((cases D3) <;> (first | exact .inl ⟨rfl, by first | (go_simp; try with_reducible rfl)⟩ | exact .inr ⟨rfl, rfl⟩))
  case hz35 =>
  try simp only [Act.put, List.setIfInBounds_toArray, List.set_cons_succ, List.set_cons_zero]
  refine wpg_sym (v := bif (D3 || b3) then undef else .pointer (some ⟨w.heap.size, 18, none⟩)) ?hy36 ?hz36
  case hy36 => ((cases D3 <;> cases b3) <;> (first | exact .inl ⟨rfl, by first | (go_simp; try with_reducible rfl)⟩ | exact .inr ⟨rfl, rfl⟩))
  case hz36 =>
  try simp only [Act.put, List.setIfInBounds_toArray, List.set_cons_succ, List.set_cons_zero]
  refine wpg_sym (v := bif (D3 || b3) then undef else .string b.label) ?hy37 ?hz37
  case hy37 => ((cases D3 <;> cases b3) <;> (first | exact .inl ⟨rfl, by first | (go_simp; try with_reducible rfl)⟩ | exact .inr ⟨rfl, rfl⟩))
  case hz37 =>
  try simp only [Act.put, List.setIfInBounds_toArray, List.set_cons_succ, List.set_cons_zero]
  refine wpg_sym (v := bif (D3 || b3) then undef else .bool (!b.label.toList.isEmpty)) ?hy38 ?hz38
  case hy38 => ((cases D3 <;> cases b3) <;> (first | exact .inl ⟨rfl, by first | (go_simp; try with_reducible rfl)⟩ | exact .inr ⟨rfl, rfl⟩))
  case hz38 =>
  try simp only [Act.put, List.setIfInBounds_toArray, List.set_cons_succ, List.set_cons_zero]
  refine wpg_sym (v := bif D3 then undef else .bool (!b3 && !b.label.toList.isEmpty)) ?hy39 ?hz39
  case hy39 => ((cases D3 <;> cases b3) <;> (first | exact .inl ⟨rfl, by first | (go_simp; try with_reducible rfl)⟩ | exact .inr ⟨rfl, rfl⟩))
  case hz39 =>
  try simp only [Act.put, List.setIfInBounds_toArray, List.set_cons_succ, List.set_cons_zero]
  refine wpg_sym (v := .bool (D3 || (!b3 && !b.label.toList.isEmpty))) ?hy40 ?hz40
  case hy40 => ((cases D3) <;> (first | exact .inl ⟨rfl, by first | (go_simp; try with_reducible rfl)⟩ | exact .inr ⟨rfl, rfl⟩))
  case hz40 =>
  try simp only [Act.put, List.setIfInBounds_toArray, List.set_cons_succ, List.set_cons_zero]
  generalize hD4 : (D3 || (!b3 && !b.label.toList.isEmpty)) = D4
  refine wpg_sym (v := .bool D4) ?hy41 ?hz41
  case hy41 => (first | exact .inl ⟨rfl, by first | (go_simp; try with_reducible rfl)⟩ | exact .inr ⟨rfl, rfl⟩)
  case hz41 =>
  try simp only [Act.put, List.setIfInBounds_toArray, List.set_cons_succ, List.set_cons_zero]
  refine wpg_sym (v := bif D4 then undef else .pointer (some ⟨w.heap.size + 1, 4, none⟩)) ?hy42 ?hz42
  case hy42 => ((cases D4) <;> (first | exact .inl ⟨rfl, by first | (go_simp; try with_reducible rfl)⟩ | exact .inr ⟨rfl, rfl⟩))
  case hz42 =>
  try simp only [Act.put, List.setIfInBounds_toArray, List.set_cons_succ, List.set_cons_zero]
  refine wpg_sym (v := bif D4 then undef else .bool b4) ?hy43 ?hz43
  case hy43 => ((cases D4) <;> (first | exact .inl ⟨rfl, by first | (go_simp; try with_reducible rfl)⟩ | exact .inr ⟨rfl, rfl⟩))
  case hz43 =>
  try simp only [Act.put, List.setIfInBounds_toArray, List.set_cons_succ, List.set_cons_zero]
  refine wpg_sym (v := bif D4 then undef else .bool (!b4)) ?hy44 ?hz44
  case hy44 => ((cases D4) <;> (first | exact .inl ⟨rfl, by first | (go_simp; try with_reducible rfl)⟩ | exact .inr ⟨rfl, rfl⟩))
  case hz44 =>
  try simp only [Act.put, List.setIfInBounds_toArray, List.set_cons_succ, List.set_cons_zero]
  refine wpg_sym (v := bif D4 then undef else .bool (!b4)) ?hy45 ?hz45
  case hy45 => ((cases D4) <;> (first | exact .inl ⟨rfl, by first | (go_simp; try with_reducible rfl)⟩ | exact .inr ⟨rfl, rfl⟩))
  case hz45 =>
  try simp only [Act.put, List.setIfInBounds_toArray, List.set_cons_succ, List.set_cons_zero]
  refine wpg_sym (v := bif (D4 || b4) then undef else .pointer (some ⟨w.heap.size, 19, none⟩)) ?hy46 ?hz46
  case hy46 => ((cases D4 <;> cases b4) <;> (first | exact .inl ⟨rfl, by first | (go_simp; try with_reducible rfl)⟩ | exact .inr ⟨rfl, rfl⟩))
  case hz46 =>
  try simp only [Act.put, List.setIfInBounds_toArray, List.set_cons_succ, List.set_cons_zero]
  refine wpg_sym (v := bif (D4 || b4) then undef else .agg (b.commit.map u8v).toArray) ?hy47 ?hz47
  case hy47 => ((cases D4 <;> cases b4) <;> (first | exact .inl ⟨rfl, by first | (simp only [Bool.or_self, cond_false]; exact exec_load_at rfl rfl CC.out agg_apisum HC.out)⟩ | exact .inr ⟨rfl, rfl⟩))
  case hz47 =>
  try simp only [Act.put, List.setIfInBounds_toArray, List.set_cons_succ, List.set_cons_zero]
  refine wpg_sym (v := bif (D4 || b4) then undef else .agg ((List.replicate 32 (0 : UInt8)).map u8v).toArray) ?hy48 ?hz48
  case hy48 => ((cases D4 <;> cases b4) <;> (first | exact .inl ⟨rfl, by first | (go_simp; first | with_reducible rfl | rfl | done)⟩ | exact .inr ⟨rfl, rfl⟩))
  case hz48 =>
  try simp only [Act.put, List.setIfInBounds_toArray, List.set_cons_succ, List.set_cons_zero]
  refine wpg_sym (v := bif (D4 || b4) then undef else .bool (!(b.commit == List.replicate 32 0))) ?hy49 ?hz49
  case hy49 => ((cases D4 <;> cases b4) <;> (first | exact .inl ⟨rfl, by first | (simp only [Bool.or_self, cond_false]; exact exec_cmpE rfl rfl rfl guard_sum NC.out _)⟩ | exact .inr ⟨rfl, rfl⟩))
  case hz49 =>
  try simp only [Act.put, List.setIfInBounds_toArray, List.set_cons_succ, List.set_cons_zero]
  refine wpg_sym (v := bif D4 then undef else .bool (!b4 && !(b.commit == List.replicate 32 0))) ?hy50 ?hz50
  case hy50 => ((cases D4 <;> cases b4) <;> (first | exact .inl ⟨rfl, by first | (go_simp; try with_reducible rfl)⟩ | exact .inr ⟨rfl, rfl⟩))
  case hz50 =>
  try simp only [Act.put, List.setIfInBounds_toArray, List.set_cons_succ, List.set_cons_zero]
  refine wpg_sym (v := .bool (D4 || (!b4 && !(b.commit == List.replicate 32 0)))) ?hy51 ?hz51
  case hy51 => ((cases D4) <;> (first | exact .inl ⟨rfl, by first | (go_simp; try with_reducible rfl)⟩ | exact .inr ⟨rfl, rfl⟩))
  case hz51 =>
  try simp only [Act.put, List.setIfInBounds_toArray, List.set_cons_succ, List.set_cons_zero]
  generalize hD5 : (D4 || (!b4 && !(b.commit == List.replicate 32 0))) = D5
  refine wpg_sym (v := .bool D5) ?hy52 ?hz52
  case hy52 => (first | exact .inl ⟨rfl, by first | (go_simp; try with_reducible rfl)⟩ | exact .inr ⟨rfl, rfl⟩)
  case hz52 =>
  try simp only [Act.put, List.setIfInBounds_toArray, List.set_cons_succ, List.set_cons_zero]
  refine wpg_sym (v := bif D5 then undef else .pointer (some ⟨w.heap.size + 1, 5, none⟩)) ?hy53 ?hz53
  case hy53 => ((cases D5) <;> (first | exact .inl ⟨rfl, by first | (go_simp; try with_reducible rfl)⟩ | exact .inr ⟨rfl, rfl⟩))
  case hz53 =>
  try simp only [Act.put, List.setIfInBounds_toArray, List.set_cons_succ, List.set_cons_zero]
  refine wpg_sym (v := bif D5 then undef else .bool b5) ?hy54 ?hz54
  case hy54 => ((cases D5) <;> (first | exact .inl ⟨rfl, by first | (go_simp; try with_reducible rfl)⟩ | exact .inr ⟨rfl, rfl⟩))
  case hz54 =>
  try simp only [Act.put, List.setIfInBounds_toArray, List.set_cons_succ, List.set_cons_zero]
  refine wpg_sym (v := bif D5 then undef else .bool (!b5)) ?hy55 ?hz55
  case hy55 => ((cases D5) <;> (first | exact .inl ⟨rfl, by first | (go_simp; try with_reducible rfl)⟩ | exact .inr ⟨rfl, rfl⟩))
  case hz55 =>
  try simp only [Act.put, List.setIfInBounds_toArray, List.set_cons_succ, List.set_cons_zero]
  refine wpg_sym (v := bif D5 then undef else .bool (!b5)) ?hy56 ?hz56
  case hy56 => ((cases D5) <;> (first | exact .inl ⟨rfl, by first | (go_simp; try with_reducible rfl)⟩ | exact .inr ⟨rfl, rfl⟩))
  case hz56 =>
  try simp only [Act.put, List.setIfInBounds_toArray, List.set_cons_succ, List.set_cons_zero]
  refine wpg_sym (v := bif (D5 || b5) then undef else .pointer (some ⟨w.heap.size, 51, none⟩)) ?hy57 ?hz57
  case hy57 => ((cases D5 <;> cases b5) <;> (first | exact .inl ⟨rfl, by first | (go_simp; try with_reducible rfl)⟩ | exact .inr ⟨rfl, rfl⟩))
  case hz57 =>
  try simp only [Act.put, List.setIfInBounds_toArray, List.set_cons_succ, List.set_cons_zero]
  refine wpg_sym (v := bif (D5 || b5) then undef else .int .i64 b.epoch) ?hy58 ?hz58
  case hy58 => ((cases D5 <;> cases b5) <;> (first | exact .inl ⟨rfl, by first | (go_simp; try with_reducible rfl)⟩ | exact .inr ⟨rfl, rfl⟩))
  case hz58 =>
  try simp only [Act.put, List.setIfInBounds_toArray, List.set_cons_succ, List.set_cons_zero]
  refine wpg_sym (v := bif (D5 || b5) then undef else .bool (b.epoch != 0)) ?hy59 ?hz59
  case hy59 => ((cases D5 <;> cases b5) <;> (first | exact .inl ⟨rfl, by first | (go_simp; first | with_reducible rfl | rfl | done)⟩ | exact .inr ⟨rfl, rfl⟩))
  case hz59 =>
  try simp only [Act.put, List.setIfInBounds_toArray, List.set_cons_succ, List.set_cons_zero]
  refine wpg_sym (v := bif D5 then undef else .bool (!b5 && b.epoch != 0)) ?hy60 ?hz60
  case hy60 => ((cases D5 <;> cases b5) <;> (first | exact .inl ⟨rfl, by first | (go_simp; try with_reducible rfl)⟩ | exact .inr ⟨rfl, rfl⟩))
  case hz60 =>
  try simp only [Act.put, List.setIfInBounds_toArray, List.set_cons_succ, List.set_cons_zero]
  refine wpg_sym (v := .bool (D5 || (!b5 && b.epoch != 0))) ?hy61 ?hz61
  case hy61 => ((cases D5) <;> (first | exact .inl ⟨rfl, by first | (go_simp; try with_reducible rfl)⟩ | exact .inr ⟨rfl, rfl⟩))
  case hz61 =>
  try simp only [Act.put, List.setIfInBounds_toArray, List.set_cons_succ, List.set_cons_zero]
  generalize hD6 : (D5 || (!b5 && b.epoch != 0)) = D6
  refine wpg_sym (v := .bool D6) ?hy62 ?hz62
  case hy62 => (first | exact .inl ⟨rfl, by first | (go_simp; try with_reducible rfl)⟩ | exact .inr ⟨rfl, rfl⟩)
  case hz62 =>
  try simp only [Act.put, List.setIfInBounds_toArray, List.set_cons_succ, List.set_cons_zero]
  refine wpg_sym (v := bif D6 then undef else .pointer (some ⟨w.heap.size + 1, 6, none⟩)) ?hy63 ?hz63
  case hy63 => ((cases D6) <;> (first | exact .inl ⟨rfl, by first | (go_simp; try with_reducible rfl)⟩ | exact .inr ⟨rfl, rfl⟩))
  case hz63 =>
  try simp only [Act.put, List.setIfInBounds_toArray, List.set_cons_succ, List.set_cons_zero]
  refine wpg_sym (v := bif D6 then undef else .bool b6) ?hy64 ?hz64
  case hy64 => ((cases D6) <;> (first | exact .inl ⟨rfl, by first | (go_simp; try with_reducible rfl)⟩ | exact .inr ⟨rfl, rfl⟩))
  case hz64 =>
  try simp only [Act.put, List.setIfInBounds_toArray, List.set_cons_succ, List.set_cons_zero]
  refine wpg_sym (v := bif D6 then undef else .bool (!b6)) ?hy65 ?hz65
  case hy65 => ((cases D6) <;> (first | exact .inl ⟨rfl, by first | (go_simp; try with_reducible rfl)⟩ | exact .inr ⟨rfl, rfl⟩))
  case hz65 =>
  try simp only [Act.put, List.setIfInBounds_toArray, List.set_cons_succ, List.set_cons_zero]
  refine wpg_sym (v := bif D6 then undef else .bool (!b6)) ?hy66 ?hz66
  case hy66 => ((cases D6) <;> (first | exact .inl ⟨rfl, by first | (go_simp; try with_reducible rfl)⟩ | exact .inr ⟨rfl, rfl⟩))
  case hz66 =>
  try simp only [Act.put, List.setIfInBounds_toArray, List.set_cons_succ, List.set_cons_zero]
  refine wpg_sym (v := bif (D6 || b6) then undef else .pointer (some ⟨w.heap.size, 52, none⟩)) ?hy67 ?hz67
  case hy67 => ((cases D6 <;> cases b6) <;> (first | exact .inl ⟨rfl, by first | (go_simp; try with_reducible rfl)⟩ | exact .inr ⟨rfl, rfl⟩))
  case hz67 =>
  try simp only [Act.put, List.setIfInBounds_toArray, List.set_cons_succ, List.set_cons_zero]
  refine wpg_sym (v := bif (D6 || b6) then undef else .int .i64 b.purpose) ?hy68 ?hz68
  case hy68 => ((cases D6 <;> cases b6) <;> (first | exact .inl ⟨rfl, by first | (go_simp; try with_reducible rfl)⟩ | exact .inr ⟨rfl, rfl⟩))
  case hz68 =>
  try simp only [Act.put, List.setIfInBounds_toArray, List.set_cons_succ, List.set_cons_zero]
  refine wpg_sym (v := bif (D6 || b6) then undef else .bool (b.purpose != 0)) ?hy69 ?hz69
  case hy69 => ((cases D6 <;> cases b6) <;> (first | exact .inl ⟨rfl, by first | (go_simp; first | with_reducible rfl | rfl | done)⟩ | exact .inr ⟨rfl, rfl⟩))
  case hz69 =>
  try simp only [Act.put, List.setIfInBounds_toArray, List.set_cons_succ, List.set_cons_zero]
  refine wpg_sym (v := bif D6 then undef else .bool (!b6 && b.purpose != 0)) ?hy70 ?hz70
  case hy70 => ((cases D6 <;> cases b6) <;> (first | exact .inl ⟨rfl, by first | (go_simp; try with_reducible rfl)⟩ | exact .inr ⟨rfl, rfl⟩))
  case hz70 =>
  try simp only [Act.put, List.setIfInBounds_toArray, List.set_cons_succ, List.set_cons_zero]
  refine wpg_sym (v := .bool (D6 || (!b6 && b.purpose != 0))) ?hy71 ?hz71
  case hy71 => ((cases D6) <;> (first | exact .inl ⟨rfl, by first | (go_simp; try with_reducible rfl)⟩ | exact .inr ⟨rfl, rfl⟩))
  case hz71 =>
  try simp only [Act.put, List.setIfInBounds_toArray, List.set_cons_succ, List.set_cons_zero]
  generalize hD7 : (D6 || (!b6 && b.purpose != 0)) = D7
  refine wpg_sym (v := .bool D7) ?hy72 ?hz72
  case hy72 => (first | exact .inl ⟨rfl, by first | (go_simp; try with_reducible rfl)⟩ | exact .inr ⟨rfl, rfl⟩)
  case hz72 =>
  try simp only [Act.put, List.setIfInBounds_toArray, List.set_cons_succ, List.set_cons_zero]
  refine wpg_sym (v := bif D7 then undef else .pointer (some ⟨w.heap.size + 1, 7, none⟩)) ?hy73 ?hz73
  case hy73 => ((cases D7) <;> (first | exact .inl ⟨rfl, by first | (go_simp; try with_reducible rfl)⟩ | exact .inr ⟨rfl, rfl⟩))
  case hz73 =>
  try simp only [Act.put, List.setIfInBounds_toArray, List.set_cons_succ, List.set_cons_zero]
  refine wpg_sym (v := bif D7 then undef else .bool b7) ?hy74 ?hz74
  case hy74 => ((cases D7) <;> (first | exact .inl ⟨rfl, by first | (go_simp; try with_reducible rfl)⟩ | exact .inr ⟨rfl, rfl⟩))
  case hz74 =>
  try simp only [Act.put, List.setIfInBounds_toArray, List.set_cons_succ, List.set_cons_zero]
  refine wpg_sym (v := bif D7 then undef else .bool (!b7)) ?hy75 ?hz75
  case hy75 => ((cases D7) <;> (first | exact .inl ⟨rfl, by first | (go_simp; try with_reducible rfl)⟩ | exact .inr ⟨rfl, rfl⟩))
  case hz75 =>
  try simp only [Act.put, List.setIfInBounds_toArray, List.set_cons_succ, List.set_cons_zero]
  refine wpg_sym (v := bif D7 then undef else .bool (!b7)) ?hy76 ?hz76
  case hy76 => ((cases D7) <;> (first | exact .inl ⟨rfl, by first | (go_simp; try with_reducible rfl)⟩ | exact .inr ⟨rfl, rfl⟩))
  case hz76 =>
  try simp only [Act.put, List.setIfInBounds_toArray, List.set_cons_succ, List.set_cons_zero]
  refine wpg_sym (v := bif (D7 || b7) then undef else .pointer (some ⟨w.heap.size, 53, none⟩)) ?hy77 ?hz77
  case hy77 => ((cases D7 <;> cases b7) <;> (first | exact .inl ⟨rfl, by first | (go_simp; try with_reducible rfl)⟩ | exact .inr ⟨rfl, rfl⟩))
  case hz77 =>
  try simp only [Act.put, List.setIfInBounds_toArray, List.set_cons_succ, List.set_cons_zero]
  refine wpg_sym (v := bif (D7 || b7) then undef else .int .i64 b.reason) ?hy78 ?hz78
  case hy78 => ((cases D7 <;> cases b7) <;> (first | exact .inl ⟨rfl, by first | (go_simp; try with_reducible rfl)⟩ | exact .inr ⟨rfl, rfl⟩))
  case hz78 =>
  try simp only [Act.put, List.setIfInBounds_toArray, List.set_cons_succ, List.set_cons_zero]
  refine wpg_sym (v := bif (D7 || b7) then undef else .bool (b.reason != 0)) ?hy79 ?hz79
  case hy79 => ((cases D7 <;> cases b7) <;> (first | exact .inl ⟨rfl, by first | (go_simp; first | with_reducible rfl | rfl | done)⟩ | exact .inr ⟨rfl, rfl⟩))
  case hz79 =>
  try simp only [Act.put, List.setIfInBounds_toArray, List.set_cons_succ, List.set_cons_zero]
  refine wpg_sym (v := bif D7 then undef else .bool (!b7 && b.reason != 0)) ?hy80 ?hz80
  case hy80 => ((cases D7 <;> cases b7) <;> (first | exact .inl ⟨rfl, by first | (go_simp; try with_reducible rfl)⟩ | exact .inr ⟨rfl, rfl⟩))
  case hz80 =>
  try simp only [Act.put, List.setIfInBounds_toArray, List.set_cons_succ, List.set_cons_zero]
  refine wpg_sym (v := .bool (D7 || (!b7 && b.reason != 0))) ?hy81 ?hz81
  case hy81 => ((cases D7) <;> (first | exact .inl ⟨rfl, by first | (go_simp; try with_reducible rfl)⟩ | exact .inr ⟨rfl, rfl⟩))
  case hz81 =>
  try simp only [Act.put, List.setIfInBounds_toArray, List.set_cons_succ, List.set_cons_zero]
  generalize hD8 : (D7 || (!b7 && b.reason != 0)) = D8
  refine wpg_sym (v := .bool D8) ?hy82 ?hz82
  case hy82 => (first | exact .inl ⟨rfl, by first | (go_simp; try with_reducible rfl)⟩ | exact .inr ⟨rfl, rfl⟩)
  case hz82 =>
  try simp only [Act.put, List.setIfInBounds_toArray, List.set_cons_succ, List.set_cons_zero]
  refine wpg_sym (v := bif D8 then undef else .pointer (some ⟨w.heap.size + 1, 8, none⟩)) ?hy83 ?hz83
  case hy83 => ((cases D8) <;> (first | exact .inl ⟨rfl, by first | (go_simp; try with_reducible rfl)⟩ | exact .inr ⟨rfl, rfl⟩))
  case hz83 =>
  try simp only [Act.put, List.setIfInBounds_toArray, List.set_cons_succ, List.set_cons_zero]
  refine wpg_sym (v := bif D8 then undef else .bool b8) ?hy84 ?hz84
  case hy84 => ((cases D8) <;> (first | exact .inl ⟨rfl, by first | (go_simp; try with_reducible rfl)⟩ | exact .inr ⟨rfl, rfl⟩))
  case hz84 =>
  try simp only [Act.put, List.setIfInBounds_toArray, List.set_cons_succ, List.set_cons_zero]
  refine wpg_sym (v := bif D8 then undef else .bool (!b8)) ?hy85 ?hz85
  case hy85 => ((cases D8) <;> (first | exact .inl ⟨rfl, by first | (go_simp; try with_reducible rfl)⟩ | exact .inr ⟨rfl, rfl⟩))
  case hz85 =>
  try simp only [Act.put, List.setIfInBounds_toArray, List.set_cons_succ, List.set_cons_zero]
  refine wpg_sym (v := bif D8 then undef else .bool (!b8)) ?hy86 ?hz86
  case hy86 => ((cases D8) <;> (first | exact .inl ⟨rfl, by first | (go_simp; try with_reducible rfl)⟩ | exact .inr ⟨rfl, rfl⟩))
  case hz86 =>
  try simp only [Act.put, List.setIfInBounds_toArray, List.set_cons_succ, List.set_cons_zero]
  refine wpg_sym (v := bif (D8 || b8) then undef else .pointer (some ⟨w.heap.size, 54, none⟩)) ?hy87 ?hz87
  case hy87 => ((cases D8 <;> cases b8) <;> (first | exact .inl ⟨rfl, by first | (go_simp; try with_reducible rfl)⟩ | exact .inr ⟨rfl, rfl⟩))
  case hz87 =>
  try simp only [Act.put, List.setIfInBounds_toArray, List.set_cons_succ, List.set_cons_zero]
  refine wpg_sym (v := bif (D8 || b8) then undef else .int .i64 b.need) ?hy88 ?hz88
  case hy88 => ((cases D8 <;> cases b8) <;> (first | exact .inl ⟨rfl, by first | (go_simp; try with_reducible rfl)⟩ | exact .inr ⟨rfl, rfl⟩))
  case hz88 =>
  try simp only [Act.put, List.setIfInBounds_toArray, List.set_cons_succ, List.set_cons_zero]
  refine wpg_sym (v := bif (D8 || b8) then undef else .bool (b.need != 0)) ?hy89 ?hz89
  case hy89 => ((cases D8 <;> cases b8) <;> (first | exact .inl ⟨rfl, by first | (go_simp; first | with_reducible rfl | rfl | done)⟩ | exact .inr ⟨rfl, rfl⟩))
  case hz89 =>
  try simp only [Act.put, List.setIfInBounds_toArray, List.set_cons_succ, List.set_cons_zero]
  refine wpg_sym (v := bif D8 then undef else .bool (!b8 && b.need != 0)) ?hy90 ?hz90
  case hy90 => ((cases D8 <;> cases b8) <;> (first | exact .inl ⟨rfl, by first | (go_simp; try with_reducible rfl)⟩ | exact .inr ⟨rfl, rfl⟩))
  case hz90 =>
  try simp only [Act.put, List.setIfInBounds_toArray, List.set_cons_succ, List.set_cons_zero]
  refine wpg_sym (v := .bool (D8 || (!b8 && b.need != 0))) ?hy91 ?hz91
  case hy91 => ((cases D8) <;> (first | exact .inl ⟨rfl, by first | (go_simp; try with_reducible rfl)⟩ | exact .inr ⟨rfl, rfl⟩))
  case hz91 =>
  try simp only [Act.put, List.setIfInBounds_toArray, List.set_cons_succ, List.set_cons_zero]
  generalize hD9 : (D8 || (!b8 && b.need != 0)) = D9
  refine wpg_sym (v := .bool D9) ?hy92 ?hz92
  case hy92 => (first | exact .inl ⟨rfl, by first | (go_simp; try with_reducible rfl)⟩ | exact .inr ⟨rfl, rfl⟩)
  case hz92 =>
  try simp only [Act.put, List.setIfInBounds_toArray, List.set_cons_succ, List.set_cons_zero]
  refine wpg_sym (v := bif D9 then undef else .pointer (some ⟨w.heap.size + 1, 9, none⟩)) ?hy93 ?hz93
  case hy93 => ((cases D9) <;> (first | exact .inl ⟨rfl, by first | (go_simp; try with_reducible rfl)⟩ | exact .inr ⟨rfl, rfl⟩))
  case hz93 =>
  try simp only [Act.put, List.setIfInBounds_toArray, List.set_cons_succ, List.set_cons_zero]
  refine wpg_sym (v := bif D9 then undef else .bool b9) ?hy94 ?hz94
  case hy94 => ((cases D9) <;> (first | exact .inl ⟨rfl, by first | (go_simp; try with_reducible rfl)⟩ | exact .inr ⟨rfl, rfl⟩))
  case hz94 =>
  try simp only [Act.put, List.setIfInBounds_toArray, List.set_cons_succ, List.set_cons_zero]
  refine wpg_sym (v := bif D9 then undef else .bool (!b9)) ?hy95 ?hz95
  case hy95 => ((cases D9) <;> (first | exact .inl ⟨rfl, by first | (go_simp; try with_reducible rfl)⟩ | exact .inr ⟨rfl, rfl⟩))
  case hz95 =>
  try simp only [Act.put, List.setIfInBounds_toArray, List.set_cons_succ, List.set_cons_zero]
  refine wpg_sym (v := bif D9 then undef else .bool (!b9)) ?hy96 ?hz96
  case hy96 => ((cases D9) <;> (first | exact .inl ⟨rfl, by first | (go_simp; try with_reducible rfl)⟩ | exact .inr ⟨rfl, rfl⟩))
  case hz96 =>
  try simp only [Act.put, List.setIfInBounds_toArray, List.set_cons_succ, List.set_cons_zero]
  refine wpg_sym (v := bif (D9 || b9) then undef else .pointer (some ⟨w.heap.size, 57, none⟩)) ?hy97 ?hz97
  case hy97 => ((cases D9 <;> cases b9) <;> (first | exact .inl ⟨rfl, by first | (go_simp; try with_reducible rfl)⟩ | exact .inr ⟨rfl, rfl⟩))
  case hz97 =>
  try simp only [Act.put, List.setIfInBounds_toArray, List.set_cons_succ, List.set_cons_zero]
  refine wpg_sym (v := bif (D9 || b9) then undef else .slice b.ha b.hn b.hc) ?hy98 ?hz98
  case hy98 => ((cases D9 <;> cases b9) <;> (first | exact .inl ⟨rfl, by first | (go_simp; try with_reducible rfl)⟩ | exact .inr ⟨rfl, rfl⟩))
  case hz98 =>
  try simp only [Act.put, List.setIfInBounds_toArray, List.set_cons_succ, List.set_cons_zero]
  refine wpg_sym (v := bif (D9 || b9) then undef else .int .i64 (b.hn : Int)) ?hy99 ?hz99
  case hy99 => ((cases D9 <;> cases b9) <;> (first | exact .inl ⟨rfl, by first | (go_simp; try with_reducible rfl)⟩ | exact .inr ⟨rfl, rfl⟩))
  case hz99 =>
  try simp only [Act.put, List.setIfInBounds_toArray, List.set_cons_succ, List.set_cons_zero]
  refine wpg_sym (v := bif (D9 || b9) then undef else .bool (decide (0 < b.hn))) ?hy100 ?hz100
  case hy100 => ((cases D9 <;> cases b9) <;> (first | exact .inl ⟨rfl, by first | (go_simp; first | with_reducible rfl | rfl | done)⟩ | exact .inr ⟨rfl, rfl⟩))
  case hz100 =>
  try simp only [Act.put, List.setIfInBounds_toArray, List.set_cons_succ, List.set_cons_zero]
  refine wpg_sym (v := bif D9 then undef else .bool (!b9 && decide (0 < b.hn))) ?hy101 ?hz101
  case hy101 => ((cases D9 <;> cases b9) <;> (first | exact .inl ⟨rfl, by first | (go_simp; try with_reducible rfl)⟩ | exact .inr ⟨rfl, rfl⟩))
  case hz101 =>
  try simp only [Act.put, List.setIfInBounds_toArray, List.set_cons_succ, List.set_cons_zero]
  refine wpg_sym (v := .bool (D9 || (!b9 && decide (0 < b.hn)))) ?hy102 ?hz102
  case hy102 => ((cases D9) <;> (first | exact .inl ⟨rfl, by first | (go_simp; try with_reducible rfl)⟩ | exact .inr ⟨rfl, rfl⟩))
  case hz102 =>
  try simp only [Act.put, List.setIfInBounds_toArray, List.set_cons_succ, List.set_cons_zero]
  generalize hD10 : (D9 || (!b9 && decide (0 < b.hn))) = D10
  refine wpg_sym (v := .bool D10) ?hy103 ?hz103
  case hy103 => (first | exact .inl ⟨rfl, by first | (go_simp; try with_reducible rfl)⟩ | exact .inr ⟨rfl, rfl⟩)
  case hz103 =>
  try simp only [Act.put, List.setIfInBounds_toArray, List.set_cons_succ, List.set_cons_zero]
  refine wpg_sym (v := bif D10 then undef else .pointer (some ⟨w.heap.size + 1, 10, none⟩)) ?hy104 ?hz104
  case hy104 => ((cases D10) <;> (first | exact .inl ⟨rfl, by first | (go_simp; try with_reducible rfl)⟩ | exact .inr ⟨rfl, rfl⟩))
  case hz104 =>
  try simp only [Act.put, List.setIfInBounds_toArray, List.set_cons_succ, List.set_cons_zero]
  refine wpg_sym (v := bif D10 then undef else .bool b10) ?hy105 ?hz105
  case hy105 => ((cases D10) <;> (first | exact .inl ⟨rfl, by first | (go_simp; try with_reducible rfl)⟩ | exact .inr ⟨rfl, rfl⟩))
  case hz105 =>
  try simp only [Act.put, List.setIfInBounds_toArray, List.set_cons_succ, List.set_cons_zero]
  refine wpg_sym (v := bif D10 then undef else .bool (!b10)) ?hy106 ?hz106
  case hy106 => ((cases D10) <;> (first | exact .inl ⟨rfl, by first | (go_simp; try with_reducible rfl)⟩ | exact .inr ⟨rfl, rfl⟩))
  case hz106 =>
  try simp only [Act.put, List.setIfInBounds_toArray, List.set_cons_succ, List.set_cons_zero]
  refine wpg_sym (v := bif D10 then undef else .bool (!b10)) ?hy107 ?hz107
  case hy107 => ((cases D10) <;> (first | exact .inl ⟨rfl, by first | (go_simp; try with_reducible rfl)⟩ | exact .inr ⟨rfl, rfl⟩))
  case hz107 =>
  try simp only [Act.put, List.setIfInBounds_toArray, List.set_cons_succ, List.set_cons_zero]
  refine wpg_sym (v := bif (D10 || b10) then undef else .pointer (some ⟨w.heap.size, 55, none⟩)) ?hy108 ?hz108
  case hy108 => ((cases D10 <;> cases b10) <;> (first | exact .inl ⟨rfl, by first | (go_simp; try with_reducible rfl)⟩ | exact .inr ⟨rfl, rfl⟩))
  case hz108 =>
  try simp only [Act.put, List.setIfInBounds_toArray, List.set_cons_succ, List.set_cons_zero]
  refine wpg_sym (v := bif (D10 || b10) then undef else .int .i64 b.version) ?hy109 ?hz109
  case hy109 => ((cases D10 <;> cases b10) <;> (first | exact .inl ⟨rfl, by first | (go_simp; try with_reducible rfl)⟩ | exact .inr ⟨rfl, rfl⟩))
  case hz109 =>
  try simp only [Act.put, List.setIfInBounds_toArray, List.set_cons_succ, List.set_cons_zero]
  refine wpg_sym (v := bif (D10 || b10) then undef else .bool (b.version != 0)) ?hy110 ?hz110
  case hy110 => ((cases D10 <;> cases b10) <;> (first | exact .inl ⟨rfl, by first | (go_simp; first | with_reducible rfl | rfl | done)⟩ | exact .inr ⟨rfl, rfl⟩))
  case hz110 =>
  try simp only [Act.put, List.setIfInBounds_toArray, List.set_cons_succ, List.set_cons_zero]
  refine wpg_sym (v := bif D10 then undef else .bool (!b10 && b.version != 0)) ?hy111 ?hz111
  case hy111 => ((cases D10 <;> cases b10) <;> (first | exact .inl ⟨rfl, by first | (go_simp; try with_reducible rfl)⟩ | exact .inr ⟨rfl, rfl⟩))
  case hz111 =>
  try simp only [Act.put, List.setIfInBounds_toArray, List.set_cons_succ, List.set_cons_zero]
  refine wpg_sym (v := .bool (D10 || (!b10 && b.version != 0))) ?hy112 ?hz112
  case hy112 => ((cases D10) <;> (first | exact .inl ⟨rfl, by first | (go_simp; try with_reducible rfl)⟩ | exact .inr ⟨rfl, rfl⟩))
  case hz112 =>
  try simp only [Act.put, List.setIfInBounds_toArray, List.set_cons_succ, List.set_cons_zero]
  generalize hD11 : (D10 || (!b10 && b.version != 0)) = D11
  refine wpg_sym (v := .bool D11) ?hy113 ?hz113
  case hy113 => (first | exact .inl ⟨rfl, by first | (go_simp; try with_reducible rfl)⟩ | exact .inr ⟨rfl, rfl⟩)
  case hz113 =>
  try simp only [Act.put, List.setIfInBounds_toArray, List.set_cons_succ, List.set_cons_zero]
  refine wpg_sym (v := bif D11 then undef else .pointer (some ⟨w.heap.size + 1, 11, none⟩)) ?hy114 ?hz114
  case hy114 => ((cases D11) <;> (first | exact .inl ⟨rfl, by first | (go_simp; try with_reducible rfl)⟩ | exact .inr ⟨rfl, rfl⟩))
  case hz114 =>
  try simp only [Act.put, List.setIfInBounds_toArray, List.set_cons_succ, List.set_cons_zero]
  refine wpg_sym (v := bif D11 then undef else .bool b11) ?hy115 ?hz115
  case hy115 => ((cases D11) <;> (first | exact .inl ⟨rfl, by first | (go_simp; try with_reducible rfl)⟩ | exact .inr ⟨rfl, rfl⟩))
  case hz115 =>
  try simp only [Act.put, List.setIfInBounds_toArray, List.set_cons_succ, List.set_cons_zero]
  refine wpg_sym (v := bif D11 then undef else .bool (!b11)) ?hy116 ?hz116
  case hy116 => ((cases D11) <;> (first | exact .inl ⟨rfl, by first | (go_simp; try with_reducible rfl)⟩ | exact .inr ⟨rfl, rfl⟩))
  case hz116 =>
  try simp only [Act.put, List.setIfInBounds_toArray, List.set_cons_succ, List.set_cons_zero]
  refine wpg_sym (v := bif D11 then undef else .bool (!b11)) ?hy117 ?hz117
  case hy117 => ((cases D11) <;> (first | exact .inl ⟨rfl, by first | (go_simp; try with_reducible rfl)⟩ | exact .inr ⟨rfl, rfl⟩))
  case hz117 =>
  try simp only [Act.put, List.setIfInBounds_toArray, List.set_cons_succ, List.set_cons_zero]
  refine wpg_sym (v := bif (D11 || b11) then undef else .pointer (some ⟨w.heap.size, 56, none⟩)) ?hy118 ?hz118
  case hy118 => ((cases D11 <;> cases b11) <;> (first | exact .inl ⟨rfl, by first | (go_simp; try with_reducible rfl)⟩ | exact .inr ⟨rfl, rfl⟩))
  case hz118 =>
  try simp only [Act.put, List.setIfInBounds_toArray, List.set_cons_succ, List.set_cons_zero]
  refine wpg_sym (v := bif (D11 || b11) then undef else .int .i64 b.count) ?hy119 ?hz119
  case hy119 => ((cases D11 <;> cases b11) <;> (first | exact .inl ⟨rfl, by first | (go_simp; try with_reducible rfl)⟩ | exact .inr ⟨rfl, rfl⟩))
  case hz119 =>
  try simp only [Act.put, List.setIfInBounds_toArray, List.set_cons_succ, List.set_cons_zero]
  refine wpg_sym (v := bif (D11 || b11) then undef else .bool (b.count != 0)) ?hy120 ?hz120
  case hy120 => ((cases D11 <;> cases b11) <;> (first | exact .inl ⟨rfl, by first | (go_simp; first | with_reducible rfl | rfl | done)⟩ | exact .inr ⟨rfl, rfl⟩))
  case hz120 =>
  try simp only [Act.put, List.setIfInBounds_toArray, List.set_cons_succ, List.set_cons_zero]
  refine wpg_sym (v := bif D11 then undef else .bool (!b11 && b.count != 0)) ?hy121 ?hz121
  case hy121 => ((cases D11 <;> cases b11) <;> (first | exact .inl ⟨rfl, by first | (go_simp; try with_reducible rfl)⟩ | exact .inr ⟨rfl, rfl⟩))
  case hz121 =>
  try simp only [Act.put, List.setIfInBounds_toArray, List.set_cons_succ, List.set_cons_zero]
  refine wpg_sym (v := .bool (D11 || (!b11 && b.count != 0))) ?hy122 ?hz122
  case hy122 => ((cases D11) <;> (first | exact .inl ⟨rfl, by first | (go_simp; try with_reducible rfl)⟩ | exact .inr ⟨rfl, rfl⟩))
  case hz122 =>
  try simp only [Act.put, List.setIfInBounds_toArray, List.set_cons_succ, List.set_cons_zero]
  generalize hD12 : (D11 || (!b11 && b.count != 0)) = D12
  refine wpg_sym (v := .bool D12) ?hy123 ?hz123
  case hy123 => (first | exact .inl ⟨rfl, by first | (go_simp; try with_reducible rfl)⟩ | exact .inr ⟨rfl, rfl⟩)
  case hz123 =>
  try simp only [Act.put, List.setIfInBounds_toArray, List.set_cons_succ, List.set_cons_zero]
  have hfin : extraB b [b0, b1, b2, b3, b4, b5, b6, b7, b8, b9, b10, b11] = D12 := by rw [← hD12, ← hD11, ← hD10, ← hD9, ← hD8, ← hD7, ← hD6, ← hD5, ← hD4, ← hD3, ← hD2, ← hD1]; simp only [extraB, BodyR.set, List.zip_cons_cons, List.zip_nil_right, List.any_cons, List.any_nil, Bool.or_false, Bool.or_assoc]
  have HFIN := hid hfin
  clear hfin hD1 hD2 hD3 hD4 hD5 hD6 hD7 hD8 hD9 hD10 hD11 hD12
  go_wp2_with fail
  go_ret
  exact ⟨by rw [HFIN.out]; rfl, EA.out⟩
end

section
open Go Go.RowKit

def outB (n a b : Int) : Bool := decide (n < a) || decide (b < n)
def needAt (act : Int) (i : Nat) : Bool := (needsL act).getD i false
/-- numbers that are outside, of an act -/
def rangeB (act : Int) (b : BodyR) : Bool :=
  (needAt act 6 && outB b.purpose 1 3) || outB b.reason 0 255 || outB b.version 0 255 || (needAt act 8 && outB b.need 1 32) || outB b.epoch 0 4294967295 || outB b.count 0 65536
/-- the holders rise -/
def RisH (l : List (List UInt8)) (k : Nat) : Prop := ∀ i x y, i + 1 < k → l[i]? = some x → l[i + 1]? = some y → cmpB x y < 0
noncomputable def risHB (l : List (List UInt8)) : Bool := @decide (RisH l l.length) (Classical.propDecidable _)
theorem risHB_iff {l : List (List UInt8)} : risHB l = true ↔ RisH l l.length := by unfold risHB; exact @decide_eq_true_iff _ (Classical.propDecidable _)
theorem RisH.one (l : List (List UInt8)) {k : Nat} (h : k ≤ 1) : RisH l k := fun i _ _ hi => by omega
theorem RisH.step {l : List (List UInt8)} {k : Nat} {x y : List UInt8} (h : RisH l (k + 1)) (h1 : l[k]? = some x) (h2 : l[k + 1]? = some y) (hl : cmpB x y < 0) : RisH l (k + 2) := by
  intro i u v hi hu hv
  by_cases hik : i = k
  · subst hik
    rw [h1] at hu; rw [h2] at hv
    injection hu with hu; injection hv with hv
    rw [← hu, ← hv]; exact hl
  · exact h i u v (by omega) hu hv
theorem risHB_false {l : List (List UInt8)} {i : Nat} {x y : List UInt8} (h1 : l[i]? = some x) (h2 : l[i + 1]? = some y) (h : ¬ cmpB x y < 0) : risHB l = false := by
  cases hr : risHB l with
  | false => rfl
  | true => exact absurd (risHB_iff.1 hr i x y (List.getElem?_eq_some_iff.1 h2).1 h1 h2) h
noncomputable def bodyE (act : Int) (b : BodyR) : Int :=
  if !lactB act then 3 else if extraB b (needsL act) then 2
  else if decide (32768 < b.text.size) || (decide (16 < b.rn) || decide (32 < b.hn)) then 5
  else if rolesE b.roles != 0 then rolesE b.roles
  else if needAt act 3 && !isNameL b.label.data.toList then 6
  else if rangeB act b then 4
  else if !risHB b.holders then 9 else 0
end

section
open Go Go.RowKit

section
variable {P : Program} {o : Oper} {a : Act}
theorem exec_slice2 {t e : TypeId} {x y z : Operand} {p : Option Addr} {n c k h : Nat} (ho : o.op = .slice t x (some y) (some z) none) (hx : a.eval x = .slice p n c) (hy : a.eval y = .int .i64 (k : Int)) (hz : a.eval z = .int .i64 (h : Int)) (hu : P.underlying t = some (.slice e)) (hs : (P.info? e).map (·.size) = some 1) (hk : k ≤ h) (hc : h ≤ c)
    {q : Option Addr} (hq : shift p c k = q) (w : World) : (execOp a.eval o).run P w = .ok (.value (.slice q (h - k) (c - k))) w := by
  subst hq
  have hr : (Instr.sliceAt t (.slice p n c) (some (.int .i64 (k : Int))) (some (.int .i64 (h : Int))) none).run P w = .ok (.slice (shift p c k) (h - k) (c - k)) w := by
    cases hq : P.info? e with
    | none => simp [hq] at hs
    | some i =>
      have hi : i.size = 1 := by simpa [hq] using hs
      have h1 : (0 : Int) ≤ k ∧ (k : Int) ≤ h ∧ (h : Int) ≤ c := by omega
      simp [Instr.sliceAt, Instr.slice, Instr.sliceBounds, Instr.sliceBound, asIntOf, run_underlying hu, sizeOf, typeInfo, hq, hi, h1.2.1, h1.2.2, hk, hc, shift]
  unfold execOp
  simp only [ho, hx, hy, hz, Option.map_some, Option.map_none, Sem.run_bind, hr, Result.andThen_ok, Sem.run_pure]
theorem exec_arrayAt {T e : TypeId} {x : Operand} {p : Option Addr} {n c m : Nat} (ho : o.op = .sliceToArrayPointer T x) (hx : a.eval x = .slice p m c) (hu : P.underlying T = some (.array n e)) (hl : n ≤ m) (w : World) : (execOp a.eval o).run P w = .ok (.value (.pointer p)) w := by
  unfold execOp
  simp only [ho, hx, Sem.run_bind, run_arrayAt hu hl, Result.andThen_ok, Sem.run_pure]
end

def natOf (l : List UInt8) : Nat := l.foldl (fun m c => m * 256 + c.toNat) 0
def w64 (m : Nat) : Int := IntKind.i64.wrap (m : Int)
theorem natOf_snoc (l : List UInt8) (c : UInt8) : natOf (l ++ [c]) = natOf l * 256 + c.toNat := by unfold natOf; rw [List.foldl_append]; rfl
theorem w64_shl (m : Nat) : IntKind.i64.wrap (w64 m * 256) = w64 (m * 256) := by
  unfold w64; simp only [IntKind.wrap_i64]; omega
theorem w64_or (m : Nat) (c : UInt8) : bits .or .i64 (w64 (m * 256)) (c.toNat : Int) = w64 (m * 256 + c.toNat) := by
  have hc := c.toNat_lt
  have ea : (BitVec.ofInt 64 (w64 (m * 256))).toNat = m * 256 % 18446744073709551616 := by
    unfold w64
    rw [BitVec.toNat_ofInt, IntKind.wrap_i64]; omega
  have eb : (BitVec.ofInt 64 (c.toNat : Int)).toNat = c.toNat := by rw [BitVec.toNat_ofInt]; omega
  change IntKind.i64.wrap ((BitVec.ofInt 64 (w64 (m * 256)) ||| BitVec.ofInt 64 (c.toNat : Int)).toNat : Int) = _
  have h := nat_join 8 (m * 256 % 18446744073709551616) c.toNat (by omega) (by omega)
  rw [BitVec.toNat_or, ea, eb, h]
  unfold w64
  simp only [IntKind.wrap_i64]; omega

set_option maxRecDepth 100000 in
set_option maxHeartbeats 1000000 in
theorem rnumber_c (l : List UInt8) (a : Option Addr) (n c : Nat) (w : World) (hl : l.length = n) (hn : n ≤ 140737488355328) (hcl : Cells w a (l.map u8v)) :
    Calls Try.prog 92 #[.slice a n c] w fun e w' => e = .returned (.int .i64 (w64 (natOf l))) ∧ w = w' := by
  have HL := hid hl
  have HC := hid hcl
  clear hl hcl
  go_enter Try.func92, Try.ntmps92
  go_wp2
  go_loopw [3, 8] (fun t i wr => ∃ k : Nat, k ≤ n ∧ i = .int .i64 (k : Int) ∧ t = .int .i64 (w64 (natOf (l.take k))) ∧ w = wr) (fun _ i _ => n - (intOf i).toNat)
  case atStart => exact ⟨0, by omega, rfl, rfl, by first | trivial | rfl⟩
  case round =>
    obtain ⟨k, hk, rfl, rfl, rfl⟩ := hrel
    by_cases hlt : k < n
    · obtain ⟨x, hxk⟩ : ∃ x, l[k]? = some x := ⟨l[k]'(by rw [HL.out]; exact hlt), by simp⟩
      obtain ⟨A, rfl, hca⟩ : ∃ A, a = some A ∧ w.cell? (A.add (k * 1)) = some (u8v x) := by
        obtain ⟨g, o, rfl, h⟩ := HC.out.some_of (by rw [List.length_map, HL.out]; omega)
        exact ⟨_, rfl, by rw [addr_add, Nat.mul_one]; exact h k _ (by rw [List.getElem?_map, hxk]; rfl)⟩
      have hs : l.take (k + 1) = l.take k ++ [x] := by
        rw [List.take_add_one, hxk]; rfl
      have hv : natOf (l.take (k + 1)) = natOf (l.take k) * 256 + x.toNat := by rw [hs, natOf_snoc]
      have HV := hid hv
      clear hs hv hxk
      generalize natOf (l.take k) = m at *
      have q1 := w64_shl m
      have q2 := w64_or m x
      have q3 : IntKind.i64.wrap (x.toNat : Int) = (x.toNat : Int) := IntWalk.i64_in _ (by have := x.toNat_lt; omega)
      have hca1 : w.cell? (A.add k) = some (.int .u8 (x.toNat : Int)) := by rw [Nat.mul_one] at hca; exact hca
      unfold u8v at hca
      go_wp2
      go_roundw
      case rel => exact ⟨k + 1, by omega, by first | rfl | go_num, by rw [HV.out], by first | trivial | rfl⟩
      case measure => simp [intOf]; omega
    · have hkn : k = n := by omega
      subst hkn
      have hlk : l.take k = l := List.take_of_length_le (by rw [HL.out]; omega)
      rw [hlk] at *
      go_wp2
      go_ret
      exact ⟨rfl, rfl⟩
theorem part_cons {l : List UInt8} {p m : Nat} (h : p < l.length) : (l.drop p).take (m + 1) = l[p]?.getD 0 :: (l.drop (p + 1)).take m := by
  rw [List.drop_eq_getElem_cons h, List.take_succ_cons, List.getElem?_eq_getElem h]; rfl
theorem word4_sum (l : List UInt8) (p : Nat) : (word4 l p).toNat = (l[p]?.getD 0).toNat * 16777216 + (l[p + 1]?.getD 0).toNat * 65536 + (l[p + 2]?.getD 0).toNat * 256 + (l[p + 3]?.getD 0).toNat := by
  have ha := (l[p]?.getD 0).toNat_lt
  have hb := (l[p + 1]?.getD 0).toNat_lt
  have hc := (l[p + 2]?.getD 0).toNat_lt
  have hd := (l[p + 3]?.getD 0).toNat_lt
  unfold word4 wordOf
  rw [UInt32.toNat_ofNat']; omega
theorem natOf_4 {l : List UInt8} {p : Nat} (h : p + 4 ≤ l.length) : natOf ((l.drop p).take 4) = (word4 l p).toNat := by
  rw [part_cons (by omega), part_cons (by omega), part_cons (by omega), part_cons (by omega), List.take_zero, word4_sum]
  simp only [natOf, List.foldl_cons, List.foldl_nil, Nat.add_assoc, Nat.reduceAdd]
  omega
theorem natOf_8 {l : List UInt8} {p : Nat} (h : p + 8 ≤ l.length) : natOf ((l.drop p).take 8) = long8 l p := by
  rw [part_cons (by omega), part_cons (by omega), part_cons (by omega), part_cons (by omega), part_cons (by omega), part_cons (by omega), part_cons (by omega), part_cons (by omega), List.take_zero]
  unfold long8
  rw [word4_sum, word4_sum]
  simp only [natOf, List.foldl_cons, List.foldl_nil, Nat.add_assoc, Nat.reduceAdd]
  omega
theorem long8_lt (l : List UInt8) (p : Nat) : long8 l p < 18446744073709551616 := by
  unfold long8
  have := (word4 l p).toNat_lt
  have := (word4 l (p + 4)).toNat_lt
  omega
theorem w64_small {m : Nat} (h : m < 9223372036854775808) : w64 m = m := by
  unfold w64; rw [IntKind.wrap_i64]; omega
section
variable {P : Program} {o : Oper} {a : Act}
theorem exec_sliceHead {t e : TypeId} {x z : Operand} {p : Option Addr} {n c h : Nat} (ho : o.op = .slice t x none (some z) none) (hx : a.eval x = .slice p n c) (hz : a.eval z = .int .i64 (h : Int)) (hu : P.underlying t = some (.slice e)) (hs : (P.info? e).map (·.size) = some 1) (hc : h ≤ c)
    {q : Option Addr} (hq : shift p c 0 = q) (w : World) : (execOp a.eval o).run P w = .ok (.value (.slice q h c)) w := by
  subst hq
  have hr : (Instr.sliceAt t (.slice p n c) none (some (.int .i64 (h : Int))) none).run P w = .ok (.slice (shift p c 0) h c) w := by
    cases hq : P.info? e with
    | none => simp [hq] at hs
    | some i =>
      have hi : i.size = 1 := by simpa [hq] using hs
      have h1 : (0 : Int) ≤ (h : Int) ∧ (h : Int) ≤ c := by omega
      simp [Instr.sliceAt, Instr.slice, Instr.sliceBounds, Instr.sliceBound, asIntOf, run_underlying hu, sizeOf, typeInfo, hq, hi, h1.2, hc, shift]
  unfold execOp
  simp only [ho, hx, hz, Option.map_some, Option.map_none, Sem.run_bind, hr, Result.andThen_ok, Sem.run_pure]
end
end

section
open Go Go.RowKit

/-- a body without its addresses -/
structure BodyP where
  text : ByteArray
  member : List UInt8
  roles : List ByteArray
  label : ByteArray
  commit : List UInt8
  epoch : Int
  purpose : Int
  reason : Int
  need : Int
  version : Int
  count : Int
  holders : List (List UInt8)
def BodyR.p (b : BodyR) : BodyP := ⟨b.text, b.member, b.roles, b.label, b.commit, b.epoch, b.purpose, b.reason, b.need, b.version, b.count, b.holders⟩
def zeroP : BodyP := ⟨⟨#[]⟩, List.replicate 16 0, [], ⟨#[]⟩, List.replicate 32 0, 0, 0, 0, 0, 0, 0, []⟩

def takeP (n : Nat) (l : List UInt8) : Option (List UInt8 × List UInt8) := if l.length < n then none else some (l.take n, l.drop n)
def octP (l : List UInt8) : Option (Nat × List UInt8) := (takeP 1 l).map fun p => ((p.1.headD 0).toNat, p.2)
def textP (l : List UInt8) : Option (ByteArray × List UInt8) := (octP l).bind fun p => (takeP p.1 p.2).map fun q => (⟨q.1.toArray⟩, q.2)
def manyP {α : Type} (f : List UInt8 → Option (α × List UInt8)) : Nat → List α → List UInt8 → Option (List α × List UInt8)
  | 0, xs, l => some (xs, l)
  | k + 1, xs, l => (f l).bind fun p => manyP f k (xs ++ [p.1]) p.2
def countP (f : List UInt8 → Int) (l : List UInt8) : Option (Int × List UInt8) := (takeP 8 l).map fun p => (f p.1, p.2)
/-- one field, in the order of the fields of 'needs' -/
def fieldP (f : List UInt8 → Int) (i : Nat) (x : BodyP) (l : List UInt8) : Option (BodyP × List UInt8) :=
  if i = 0 then some ({ x with text := ⟨l.toArray⟩ }, [])
  else if i = 1 then (takeP 16 l).map fun p => ({ x with member := p.1 }, p.2)
  else if i = 2 then (octP l).bind fun p => (manyP textP p.1 [] p.2).map fun q => ({ x with roles := q.1 }, q.2)
  else if i = 3 then (textP l).map fun p => ({ x with label := p.1 }, p.2)
  else if i = 4 then (takeP 32 l).map fun p => ({ x with commit := p.1 }, p.2)
  else if i = 5 then (takeP 4 l).map fun p => ({ x with epoch := (natOf p.1 : Int) }, p.2)
  else if i = 6 then (octP l).map fun p => ({ x with purpose := (p.1 : Int) }, p.2)
  else if i = 7 then (octP l).map fun p => ({ x with reason := (p.1 : Int) }, p.2)
  else if i = 8 then (octP l).map fun p => ({ x with need := (p.1 : Int) }, p.2)
  else if i = 9 then (octP l).bind fun p => (manyP (takeP 16) p.1 [] p.2).map fun q => ({ x with holders := q.1 }, q.2)
  else if i = 10 then (octP l).map fun p => ({ x with version := (p.1 : Int) }, p.2)
  else (countP f l).map fun p => ({ x with count := p.1 }, p.2)
def runP (f : List UInt8 → Int) : List Nat → BodyP → List UInt8 → Option (BodyP × List UInt8)
  | [], x, l => some (x, l)
  | i :: t, x, l => (fieldP f i x l).bind fun p => runP f t p.1 p.2
theorem runP_snoc (f : List UInt8 → Int) : ∀ (s : List Nat) (i : Nat) (x : BodyP) (l : List UInt8), runP f (s ++ [i]) x l = (runP f s x l).bind fun p => fieldP f i p.1 p.2
  | [], i, x, l => by
    show (fieldP f i x l).bind (fun p => some (p.1, p.2)) = fieldP f i x l
    cases fieldP f i x l <;> rfl
  | j :: s, i, x, l => by
    show (fieldP f j x l).bind _ = _
    rw [runP]
    cases fieldP f j x l with
    | none => rfl
    | some p => exact runP_snoc f s i p.1 p.2

/-- the fields of an act, in the order of the octets -/
def seqOf (act : Int) : List Nat :=
  if act = 1 then [0] else if act = 2 then [1, 2] else if act = 3 then [1] else if act = 4 then [3, 4] else if act = 5 then [5, 4]
  else if act = 6 then [6, 5, 4] else if act = 7 then [7] else if act = 8 then [4] else if act = 9 then [8, 9, 5, 4] else if act = 10 then [9, 5, 4]
  else if act = 11 then [10, 4] else [10, 11, 4]
theorem acts12 {act : Int} (h : lactB act = true) : act = 1 ∨ act = 2 ∨ act = 3 ∨ act = 4 ∨ act = 5 ∨ act = 6 ∨ act = 7 ∨ act = 8 ∨ act = 9 ∨ act = 10 ∨ act = 11 ∨ act = 12 := by
  unfold lactB at h
  simp only [Bool.and_eq_true, decide_eq_true_eq] at h
  omega
/-- the code's order -/
def codeSeq : List Nat := [0, 1, 2, 3, 6, 7, 8, 10, 9, 5, 11, 4]
theorem seq_code {act : Int} (h : lactB act = true) : codeSeq.filter (fun i => needAt act i) = seqOf act := by
  rcases acts12 h with rfl | rfl | rfl | rfl | rfl | rfl | rfl | rfl | rfl | rfl | rfl | rfl <;> rfl

def rolesL (l : List ByteArray) : List UInt8 := UInt8.ofNat l.length :: (l.map textL).flatten
def holdersL (l : List (List UInt8)) : List UInt8 := UInt8.ofNat l.length :: l.flatten
def octI (n : Int) : UInt8 := UInt8.ofNat (n % 256).toNat
def fieldL (i : Nat) (x : BodyP) : List UInt8 :=
  if i = 0 then x.text.data.toList
  else if i = 1 then x.member
  else if i = 2 then rolesL x.roles
  else if i = 3 then textL x.label
  else if i = 4 then x.commit
  else if i = 5 then octL (UInt32.ofNat x.epoch.toNat)
  else if i = 6 then [octI x.purpose]
  else if i = 7 then [octI x.reason]
  else if i = 8 then [octI x.need]
  else if i = 9 then holdersL x.holders
  else if i = 10 then [octI x.version]
  else longL (UInt64.ofNat x.count.toNat)
def printL (s : List Nat) (x : BodyP) : List UInt8 := (s.map fun i => fieldL i x).flatten

theorem takeP_app (n : Nat) (x r : List UInt8) (h : x.length = n) : takeP n (x ++ r) = some (x, r) := by
  unfold takeP
  rw [if_neg (by rw [List.length_append]; omega), List.take_left' h, List.drop_left' h]
theorem octP_cons (c : UInt8) (r : List UInt8) : octP (c :: r) = some (c.toNat, r) := by
  unfold octP
  rw [show c :: r = [c] ++ r from rfl, takeP_app 1 [c] r rfl]; rfl
theorem textP_app (s : ByteArray) (r : List UInt8) (h : s.size < 256) : textP (textL s ++ r) = some (s, r) := by
  unfold textP textL
  rw [List.cons_append, octP_cons]
  show (takeP _ _).map _ = _
  have h1 : (UInt8.ofNat s.size).toNat = s.size := by rw [UInt8.toNat_ofNat']; omega
  rw [h1, takeP_app _ _ _ (by rw [Array.length_toList]; rfl)]
  rfl
theorem many_texts (r : List UInt8) : ∀ (l xs : List ByteArray), (∀ s ∈ l, s.size < 256) → manyP textP l.length xs ((l.map textL).flatten ++ r) = some (xs ++ l, r)
  | [], xs, _ => by rw [List.append_nil]; rfl
  | s :: l, xs, h => by
    rw [List.map_cons, List.flatten_cons, List.append_assoc, List.length_cons, manyP, textP_app s _ (h s (by simp))]
    show manyP textP _ _ _ = _
    rw [many_texts r l (xs ++ [s]) (fun x hx => h x (by simp [hx]))]
    simp
theorem many_ids (r : List UInt8) : ∀ (l xs : List (List UInt8)), All16 l → manyP (takeP 16) l.length xs (l.flatten ++ r) = some (xs ++ l, r)
  | [], xs, _ => by rw [List.append_nil]; rfl
  | s :: l, xs, h => by
    rw [List.flatten_cons, List.append_assoc, List.length_cons, manyP, takeP_app 16 s _ (h s (by simp))]
    show manyP (takeP 16) _ _ _ = _
    rw [many_ids r l (xs ++ [s]) (fun x hx => h x (by simp [hx]))]
    simp
end

section
open Go Go.RowKit

/-- what is below D, or block g, has not turned -/
structure Same (D g : Nat) (w w' : World) : Prop where
  size : w.heap.size ≤ w'.heap.size
  block : ∀ k, k < D → w'.heap[k]? = w.heap[k]?
  own : w'.heap[g]? = w.heap[g]?
theorem cell_same {w w' : World} {p : Addr} {v : Value} (h : w.cell? p = some v) (e : w'.heap[p.block]? = w.heap[p.block]?) : w'.cell? p = some v := by
  unfold World.cell? at *
  rw [e]; exact h
/-- the cells behind a slice's address, all in one block below D that is not block g -/
def CellsIn (w : World) (D g : Nat) (a : Option Addr) (xs : List Value) : Prop := xs = [] ∨ ∃ b off, a = some ⟨b, off, none⟩ ∧ b < D ∧ b ≠ g ∧ ∀ i u, xs[i]? = some u → w.cell? ⟨b, off + i, none⟩ = some u
theorem CellsIn.off {w : World} {D g : Nat} {a : Option Addr} {xs : List Value} (h : CellsIn w D g a xs) : CellsOff w g a xs := by
  rcases h with h | ⟨b, off, ha, _, hb, h⟩
  · exact .inl h
  · exact .inr ⟨b, off, ha, hb, h⟩
theorem CellsIn.turn {w w' : World} {D g : Nat} {a : Option Addr} {xs : List Value} (h : CellsIn w D g a xs) (e : ∀ k, k < D → k ≠ g → w'.heap[k]? = w.heap[k]?) : CellsIn w' D g a xs := by
  rcases h with h | ⟨b, off, ha, hb, hg, h⟩
  · exact .inl h
  · exact .inr ⟨b, off, ha, hb, hg, fun i u hu => cell_same (h i u hu) (e b hb hg)⟩
/-- a reader: octets and whether it was short -/
def RdAt (T : TypeId) (D : Nat) (w : World) (g : Nat) (l : List UInt8) (s : Bool) : Prop :=
  ∃ a n c, Blk w g [.slice a n c, .bool s] T ∧ l.length = n ∧ n ≤ c ∧ n ≤ 140737488355328 ∧ D ≤ w.heap.size ∧ CellsIn w D g a (l.map u8v)
theorem RdAt.len {T : TypeId} {D : Nat} {w : World} {g : Nat} {l : List UInt8} {s : Bool} (h : RdAt T D w g l s) : l.length ≤ 140737488355328 := by
  obtain ⟨a, n, c, _, h1, h2, h3, _⟩ := h; omega
theorem RdAt.lt {T : TypeId} {D : Nat} {w : World} {g : Nat} {l : List UInt8} {s : Bool} (h : RdAt T D w g l s) : g < w.heap.size := by
  obtain ⟨a, n, c, hb, _⟩ := h; exact hb.lt
theorem RdAt.le {T : TypeId} {D : Nat} {w : World} {g : Nat} {l : List UInt8} {s : Bool} (h : RdAt T D w g l s) : D ≤ w.heap.size := by
  obtain ⟨a, n, c, _, _, _, _, hb, _⟩ := h; exact hb
theorem RdAt.same {T : TypeId} {D : Nat} {w w' : World} {g : Nat} {l : List UInt8} {s : Bool} (h : RdAt T D w g l s) (e : Same D g w w') : RdAt T D w' g l s := by
  obtain ⟨a, n, c, h1, h2, h3, h4, h5, h6⟩ := h
  exact ⟨a, n, c, by unfold Blk at *; rw [e.own]; exact h1, h2, h3, h4, Nat.le_trans h5 e.size, h6.turn fun k hk _ => e.block k hk⟩
theorem RdAt.ext {T : TypeId} {D : Nat} {w w' : World} {g : Nat} {l : List UInt8} {s : Bool} (h : RdAt T D w g l s) (e : Ext w w') : RdAt T D w' g l s :=
  h.same ⟨e.size, fun k hk => e.block k (Nat.lt_of_lt_of_le hk h.le), e.block g h.lt⟩
theorem RdAt.upd {T : TypeId} {D k : Nat} {w w' : World} {g : Nat} {l : List UInt8} {s : Bool} (h : RdAt T D w g l s) (u : Upd w k w') (hD : D ≤ k) (hg : g ≠ k) : RdAt T D w' g l s :=
  h.same ⟨by rw [u.size]; exact Nat.le_refl _, fun i hi => u.block i (by omega), u.block g hg⟩
theorem RdAt.grown {T : TypeId} {D k : Nat} {w w' : World} {g : Nat} {l : List UInt8} {s : Bool} (h : RdAt T D w g l s) (u : w.grownBy w' (some k)) (hD : D ≤ k) (hg : g ≠ k) : RdAt T D w' g l s :=
  h.same ⟨u.size, fun i hi => u.block i (Nat.lt_of_lt_of_le hi h.le) (by simp; omega), u.block g h.lt (by simpa using hg)⟩
theorem RdAt.grown0 {T : TypeId} {D : Nat} {w w' : World} {g : Nat} {l : List UInt8} {s : Bool} {r : Option Nat} (h : RdAt T D w g l s) (u : w.grownBy w' r) (hD : ∀ k, r = some k → D ≤ k ∧ g ≠ k) : RdAt T D w' g l s :=
  h.same ⟨u.size, fun i hi => u.block i (Nat.lt_of_lt_of_le hi h.le) (fun e => by have := (hD i e.symm).1; omega), u.block g h.lt (fun e => (hD g e.symm).2 rfl)⟩
/-- what was taken, as far as nothing was short -/
def Took {α : Type} (p : List UInt8 → Option (α × List UInt8)) (l : List UInt8) (s : Bool) (x : α) (l' : List UInt8) (s' : Bool) : Prop :=
  (s' = false → s = false ∧ p l = some (x, l')) ∧ (s' = true → s = true ∨ p l = none)
theorem Took.map {α β : Type} {p : List UInt8 → Option (α × List UInt8)} {l : List UInt8} {s : Bool} {x : α} {l' : List UInt8} {s' : Bool} (h : Took p l s x l' s') (f : α → β) : Took (fun l => (p l).map fun q => (f q.1, q.2)) l s (f x) l' s' :=
  ⟨fun h0 => ⟨(h.1 h0).1, by show (p l).map _ = _; rw [(h.1 h0).2]; rfl⟩, fun h1 => (h.2 h1).imp_right fun h2 => by show (p l).map _ = _; rw [h2]; rfl⟩
theorem Took.bind {α β : Type} {p : List UInt8 → Option (α × List UInt8)} {q : α → List UInt8 → Option (β × List UInt8)} {l m r : List UInt8} {s t u : Bool} {x : α} {y : β} (h : Took p l s x m t) (k : Took (q x) m t y r u) :
    Took (fun l => (p l).bind fun z => q z.1 z.2) l s y r u := by
  refine ⟨fun h0 => ?_, fun h1 => ?_⟩
  · obtain ⟨k1, k2⟩ := k.1 h0
    obtain ⟨h2, h3⟩ := h.1 k1
    exact ⟨h2, by show (p l).bind _ = _; rw [h3]; exact k2⟩
  · rcases k.2 h1 with k1 | k1
    · exact (h.2 k1).imp_right fun h2 => by show (p l).bind _ = _; rw [h2]; rfl
    · cases t with
      | true => exact (h.2 rfl).imp_right fun h2 => by show (p l).bind _ = _; rw [h2]; rfl
      | false => exact .inr (by show (p l).bind _ = _; rw [(h.1 rfl).2]; exact k1)
abbrev RT : TypeId := 133
section
variable {P : Program} {o : Oper} {a : Act}
theorem exec_sliceHM {t e : TypeId} {x z m : Operand} {p : Option Addr} {n c h : Nat} (ho : o.op = .slice t x none (some z) (some m)) (hx : a.eval x = .slice p n c) (hz : a.eval z = .int .i64 (h : Int)) (hm : a.eval m = .int .i64 (h : Int)) (hu : P.underlying t = some (.slice e)) (hs : (P.info? e).map (·.size) = some 1) (hc : h ≤ c)
    {q : Option Addr} (hq : shift p h 0 = q) (w : World) : (execOp a.eval o).run P w = .ok (.value (.slice q h h)) w := by
  subst hq
  have hr : (Instr.sliceAt t (.slice p n c) none (some (.int .i64 (h : Int))) (some (.int .i64 (h : Int)))).run P w = .ok (.slice (shift p h 0) h h) w := by
    cases hq : P.info? e with
    | none => simp [hq] at hs
    | some i =>
      have hi : i.size = 1 := by simpa [hq] using hs
      have h1 : (0 : Int) ≤ (h : Int) ∧ (h : Int) ≤ c := by omega
      simp [Instr.sliceAt, Instr.slice, Instr.sliceBounds, Instr.sliceBound, asIntOf, run_underlying hu, sizeOf, typeInfo, hq, hi, h1.2, hc, shift]
  unfold execOp
  simp only [ho, hx, hz, hm, Option.map_some, Option.map_none, Sem.run_bind, hr, Result.andThen_ok, Sem.run_pure]
theorem exec_mk8 {o : Oper} {a : Act} {x y : Operand} {n : Nat} (ho : o.op = .makeSlice 28 x y) (hx : a.eval x = .int .i64 (n : Int)) (hy : a.eval y = .int .i64 (n : Int)) (hn : n ≤ 140737488355328) (w : World) :
    (execOp a.eval o).run Try.prog w = .ok (.value (.slice (some ⟨w.heap.size, 0, none⟩) n n)) (w.alloc (.cells ((List.replicate n (0 : UInt8)).map u8v).toArray 5)) := by
  unfold execOp
  simp only [ho, hx, hy, Sem.run_bind, run_mk8 w n hn, Result.andThen_ok, Sem.run_pure]
end
theorem CellsIn.shift0 {w : World} {D g : Nat} {a : Option Addr} {xs : List Value} (h : CellsIn w D g a xs) (c m : Nat) (hm : m ≤ c) : CellsIn w D g (shift a c 0) (xs.take m) := by
  rcases h with rfl | ⟨b, off, rfl, hd, hb, hc⟩
  · exact .inl (by simp)
  · by_cases h0 : m = 0
    · subst h0; exact .inl (by simp)
    · refine .inr ⟨b, off, ?_, hd, hb, fun i u hu => hc i u ?_⟩
      · unfold shift
        rw [if_neg (by omega)]
        simp [addr_add]
      · rw [List.getElem?_take] at hu
        split at hu
        · exact hu
        · cases hu
theorem CellsIn.shiftL {w : World} {D g : Nat} {a : Option Addr} {xs : List Value} (h : CellsIn w D g a xs) (c p : Nat) (hp : xs.length ≤ c) : CellsIn w D g (shift a c p) (xs.drop p) := by
  rcases h with rfl | ⟨b, off, rfl, hd, hb, hc⟩
  · exact .inl (by simp)
  · by_cases h0 : c = p
    · subst h0; exact .inl (List.drop_eq_nil_of_le hp)
    · refine .inr ⟨b, off + p, ?_, hd, hb, fun i u hu => ?_⟩
      · unfold shift
        rw [if_neg h0]
        simp [addr_add]
      · rw [Nat.add_assoc]
        exact hc (p + i) u (by rw [List.getElem?_drop] at hu; exact hu)

set_option maxRecDepth 100000 in
set_option maxHeartbeats 1000000 in
theorem ltake_c (l : List UInt8) (s : Bool) (D g m : Nat) (w : World) (hm : m ≤ 140737488355328) (hr : RdAt RT D w g l s) :
    Calls Try.prog 132 #[.pointer (some ⟨g, 0, none⟩), .int .i64 (m : Int)] w fun e w' => ∃ a x l' s', e = .returned (.slice a m m) ∧ x.length = m ∧ CellsOff w' g a (x.map u8v) ∧ RdAt RT D w' g l' s' ∧ Took (takeP m) l s x l' s' ∧ l'.length ≤ l.length ∧ w.grownBy w' (some g) := by
  obtain ⟨a, n, c, hb, hn, hnc, hc, hD, hcl⟩ := hr
  have HB := hid hb
  have HN := hid hn
  have HCL := hid hcl
  have k0 := hb.cell' (i := 0) (v := .slice a n c) rfl
  have k1 := hb.cell' (i := 1) (v := .bool s) rfl
  have f1 := hb.frozen 1
  have f0 := hb.frozen 0
  have i0 := HB.out.lt
  clear hb hn hcl
  by_cases h : n < m
  · have d1 : decide (n < m) = true := decide_eq_true h
    have d2 : decide ((n : Int) < (m : Int)) = true := decide_eq_true (by omega)
    go_enter Try.func132, Try.ntmps132
    go_upto_region 3 with (fail)
    generalize hwA : World.setCell w _ _ = wA
    have bA : Blk wA g [.slice a n c, .bool true] RT := by rw [← hwA]; exact HB.out.set 1 (.bool true)
    have uA : Upd w g wA := by rw [← hwA]; exact Upd.setCell _
    have BA := hid bA
    have UA := hid uA
    clear hwA bA uA k0 k1 f0 f1
    have hmk := run_mk8 wA m hm
    go_wp2_with fail
    generalize hwB : World.alloc wA _ = wB
    have zB : Blk wB wA.heap.size ((List.replicate m (0 : UInt8)).map u8v) 5 := by rw [← hwB]; exact Blk.mk_alloc rfl (by simp)
    have eB : Ext wA wB := by rw [← hwB]; exact (Ext.refl wA).alloc _
    have hsz := UA.out.size
    go_wp2_with fail
    go_ret
    refine ⟨_, List.replicate m 0, l, true, rfl, by simp, ?_, ?_, ⟨fun h0 => (by cases h0), fun _ => .inr ?_⟩, Nat.le_refl _, ?_⟩
    · exact .inr ⟨wA.heap.size, 0, rfl, by omega, fun i u hu => by rw [Nat.zero_add]; exact zB.cell' hu⟩
    · have hsB := eB.size
      refine ⟨a, n, c, BA.out.ext eB, HN.out, hnc, hc, by omega, HCL.out.turn fun k hk hkg => ?_⟩
      rw [eB.block k (by omega)]
      exact UA.out.block k hkg
    · unfold takeP; rw [HN.out, if_pos h]
    · exact gby_ext (gby_upd (gby_self w (some g)) UA.out) eB
  · have d1 : decide (n < m) = false := decide_eq_false h
    have d2 : decide ((n : Int) < (m : Int)) = false := decide_eq_false (by omega)
    have hmc : m ≤ c := by omega
    have hmn : m ≤ n := by omega
    go_enter Try.func132, Try.ntmps132
    go_wp2_with (first | (refine wpl_run rfl (exec_sliceHM rfl rfl rfl rfl Try.underlying28 size_u8 hmc rfl _) ?_) | (refine wpl_slice_low rfl _ _ _ _ rfl rfl rfl Try.underlying28 size_u8 hmn ?_))
    generalize hwA : World.setCell w _ _ = wA
    have bA : Blk wA g [.slice (shift a c m) (n - m) (c - m), .bool s] RT := by rw [← hwA]; exact HB.out.set 0 (.slice (shift a c m) (n - m) (c - m))
    have uA : Upd w g wA := by rw [← hwA]; exact Upd.setCell _
    have gA := gby_upd (gby_self w (some g)) uA
    go_ret
    have hl : (l.map u8v).length = n := by rw [List.length_map]; exact HN.out
    refine ⟨_, l.take m, l.drop m, s, rfl, ?_, ?_, ?_, ⟨fun h0 => ⟨h0, ?_⟩, fun h1 => .inl h1⟩, ?_, gA⟩
    · rw [List.length_take, HN.out]; omega
    · rw [List.map_take]; exact ((HCL.out.turn fun k _ hkg => uA.block k hkg).shift0 m m (Nat.le_refl _)).off
    · have hsA := uA.size
      refine ⟨_, _, _, bA, by rw [List.length_drop, HN.out], by omega, by omega, by omega, ?_⟩
      rw [List.map_drop]; exact (HCL.out.turn fun k _ hkg => uA.block k hkg).shiftL c m (by omega)
    · unfold takeP; rw [HN.out, if_neg h]
    · rw [List.length_drop]; omega
end

section
open Go Go.RowKit

/-- a result of a reader's function, and what it leaves -/
def Reads {α : Type} (T : TypeId) (D : Nat) (p : List UInt8 → Option (α × List UInt8)) (w : World) (g : Nat) (l : List UInt8) (s : Bool) (x : α) (w' : World) : Prop :=
  ∃ l' s', RdAt T D w' g l' s' ∧ Took p l s x l' s' ∧ l'.length ≤ l.length ∧ w.grownBy w' (some g)
def optP {α : Type} (is : Bool) (p : List UInt8 → Option (α × List UInt8)) (d : α) (l : List UInt8) : Option (α × List UInt8) := bif is then p l else some (d, l)
theorem Took.same {α : Type} (x : α) (l : List UInt8) (s : Bool) : Took (fun l => some (x, l)) l s x l s := ⟨fun h => ⟨h, rfl⟩, fun h => .inl h⟩
theorem Took.congr {α : Type} {p q : List UInt8 → Option (α × List UInt8)} {l l' : List UInt8} {s s' : Bool} {x : α} (h : Took p l s x l' s') (e : p l = q l) : Took q l s x l' s' := by
  unfold Took at *; rw [← e]; exact h
section
variable {o : Oper} {a : Act}
theorem exec_toStr {x : Operand} {p : Option Addr} {l : List UInt8} {n c : Nat} {w : World} (ho : o.op = .convert 28 9 x) (hx : a.eval x = .slice p n c) (hl : l.length = n) (hc : Cells w p (l.map u8v)) :
    (execOp a.eval o).run Try.prog w = .ok (.value (.string (strOf l))) w := by
  unfold execOp
  simp only [ho, hx, Sem.run_bind, run_string_of w p l n c hc hl.symm, Result.andThen_ok, Sem.run_pure]
end
/-- the count, as the code reads it -/
def lcountF (l : List UInt8) : Int := if long8 l 0 ≤ 4611686018427387904 then (long8 l 0 : Nat) else 65537

set_option maxRecDepth 100000 in
set_option maxHeartbeats 1000000 in
theorem loctet_c (l : List UInt8) (s is : Bool) (D g : Nat) (w : World) (hr : RdAt RT D w g l s) :
    Calls Try.prog 134 #[.pointer (some ⟨g, 0, none⟩), .bool is] w fun e w' => ∃ x : Nat, e = .returned (.int .i64 (x : Int)) ∧ x < 256 ∧ Reads RT D (optP is octP 0) w g l s x w' := by
  have HR := hid hr
  clear hr
  cases is with
  | false =>
    go_enter Try.func134, Try.ntmps134
    go_wp2_with fail
    go_ret
    exact ⟨0, rfl, by decide, l, s, HR.out, Took.same 0 l s, Nat.le_refl _, gby_self w _⟩
  | true =>
    go_enter Try.func134, Try.ntmps134
    go_wp2_with fail
    refine (ltake_c l s D g 1 w (by omega) HR.out).mono ?_
    rintro e w' ⟨a, x, l', s', rfl, hx, hc, hr, ht, hl, hg⟩
    obtain ⟨b, off, rfl, h2⟩ := hc.cells.some_of (by rw [List.length_map, hx]; omega)
    obtain ⟨c, rfl⟩ : ∃ c, x = [c] := by
      match x, hx with
      | [c], _ => exact ⟨c, rfl⟩
    have h3 : w'.cell? ⟨b, off, none⟩ = some (.int .u8 (c.toNat : Int)) := h2 0 _ rfl
    have H3 := hid h3
    have HRD := hid hr
    have HT := hid ht
    have HG := hid hg
    have HL := hid hl
    clear hc h2 hr ht hg hl hx
    have hc8 := c.toNat_lt
    have q3 : IntKind.i64.wrap (c.toNat : Int) = (c.toNat : Int) := IntWalk.i64_in _ (by omega)
    go_wp2_with fail
    go_ret
    refine ⟨c.toNat, rfl, by omega, l', s', HRD.out, ?_, HL.out, HG.out⟩
    exact (HT.out.map (fun x => (x.headD 0).toNat)).congr rfl

set_option maxRecDepth 100000 in
set_option maxHeartbeats 1000000 in
theorem lid_c (l : List UInt8) (s : Bool) (D g : Nat) (w : World) (hr : RdAt RT D w g l s) :
    Calls Try.prog 133 #[.pointer (some ⟨g, 0, none⟩)] w fun e w' => ∃ x : List UInt8, e = .returned (.agg (x.map u8v).toArray) ∧ x.length = 16 ∧ Reads RT D (takeP 16) w g l s x w' := by
  have HR := hid hr
  have hg0 : g < w.heap.size := hr.lt
  have hD0 : D ≤ w.heap.size := hr.le
  clear hr
  go_enter Try.func133, Try.ntmps133
  go_upto_region 1 with (fail)
  generalize hwA : World.alloc w _ = wA
  have zA : Blk wA w.heap.size ((List.replicate 16 (0 : UInt8)).map u8v) 68 := by rw [← hwA]; exact Blk.mk_alloc rfl rfl
  have eA : Ext w wA := by rw [← hwA]; exact (Ext.refl w).alloc _
  have ZA := hid zA
  have EA := hid eA
  clear hwA zA eA
  go_wp2_with fail
  refine (ltake_c l s D g 16 wA (by omega) (HR.out.ext EA.out)).mono ?_
  rintro e w' ⟨a, x, l', s', rfl, hx, hc, hr, ht, hl, hg⟩
  obtain ⟨b, off, rfl, h2⟩ := hc.cells.some_of (by rw [List.length_map, hx]; omega)
  have hca := CellsAt.of hc.cells
  have HCA := hid hca
  have hxl : (x.map u8v).length = 16 := by rw [List.length_map]; exact hx
  have HXL := hid hxl
  have zB : Blk w' w.heap.size ((List.replicate 16 (0 : UInt8)).map u8v) 68 := by
    refine ZA.out.grown hg ?_
    intro h; injection h with h; omega
  have gB := gby_self w (some g)
  have hgB : w.grownBy w' (some g) := grown_trans (grown_ext (gby_self w (some g)) EA.out) hg
  have ZB := hid zB
  have HRD := hid hr
  have HT := hid ht
  have HG := hid hgB
  have HL := hid hl
  have HX := hid hx
  clear hc h2 hr ht hg hl hx hca hxl zB gB hgB ZA
  go_wp2_with (first | (refine wpl_run rfl (exec_arrayAt rfl rfl Try.underlying68 (Nat.le_refl _) _) ?_) | (refine wpl_run rfl (exec_load_at rfl rfl HCA.out agg_id HXL.out) ?_) | (refine wpl_storew rfl _ _ _ rfl rfl rfl ZB.out agg_id rfl HXL.out (one_u8 x) ?_))
  intro w4 b4 u4
  have HRE := hid (HRD.out)
  have B4 := hid b4
  have hne : w.heap.size ≠ g := by omega
  go_wp2_with fail
  refine ret_row rfl rfl b4 agg_id HXL.out rfl ?_
  refine ⟨x, rfl, HX.out, l', s', ?_, HT.out, HL.out, ?_⟩
  · exact HRD.out.upd u4 hD0 (by omega)
  · exact gby_new HG.out u4 (Nat.le_refl _)

set_option maxRecDepth 100000 in
set_option maxHeartbeats 1000000 in
theorem ltext_c (l : List UInt8) (s : Bool) (D g : Nat) (w : World) (hr : RdAt RT D w g l s) :
    Calls Try.prog 135 #[.pointer (some ⟨g, 0, none⟩)] w fun e w' => ∃ x : ByteArray, e = .returned (.string x) ∧ x.size < 256 ∧ Reads RT D textP w g l s x w' := by
  have HR := hid hr
  clear hr
  go_enter Try.func135, Try.ntmps135
  go_wp2_with fail
  refine (loctet_c l s true D g w HR.out).mono ?_
  rintro e w2 ⟨n, rfl, hn, l2, s2, hr2, ht2, hl2, hg2⟩
  have HR2 := hid hr2
  have HT2 := hid ht2
  have HG2 := hid hg2
  clear hr2 ht2 hg2
  go_wp2_with fail
  refine (ltake_c l2 s2 D g n w2 (by omega) HR2.out).mono ?_
  rintro e w3 ⟨a, x, l3, s3, rfl, hx, hc, hr3, ht3, hl3, hg3⟩
  have HX := hid hx
  have HC := hid hc
  have HR3 := hid hr3
  have HT3 := hid ht3
  have HG3 := hid hg3
  clear hx hc hr3 ht3 hg3
  go_wp2_with (refine wpl_run rfl (exec_toStr rfl rfl HX.out HC.out.cells) ?_)
  go_ret
  refine ⟨strOf x, rfl, ?_, l3, s3, HR3.out, ?_, by omega, grown_trans HG2.out HG3.out⟩
  · show x.toArray.size < 256
    rw [List.size_toArray, HX.out]; exact hn
  · have h2 : Took octP l s n l2 s2 := HT2.out.congr rfl
    exact (h2.bind (q := fun n l => (takeP n l).map fun q => ((⟨q.1.toArray⟩ : ByteArray), q.2)) (HT3.out.map fun x => (⟨x.toArray⟩ : ByteArray))).congr rfl

set_option maxRecDepth 100000 in
set_option maxHeartbeats 1000000 in
theorem llong_c (l : List UInt8) (s : Bool) (D g : Nat) (w : World) (hr : RdAt RT D w g l s) :
    Calls Try.prog 137 #[.pointer (some ⟨g, 0, none⟩)] w fun e w' => ∃ x : Int, e = .returned (.int .i64 x) ∧ Reads RT D (countP lcountF) w g l s x w' := by
  have HR := hid hr
  clear hr
  go_enter Try.func137, Try.ntmps137
  go_wp2_with fail
  refine (ltake_c l s D g 8 w (by omega) HR.out).mono ?_
  rintro e w2 ⟨a, x, l2, s2, rfl, hx, hc, hr2, ht2, hl2, hg2⟩
  have HR2 := hid hr2
  have HT2 := hid ht2
  have HG2 := hid hg2
  have HX := hid hx
  have hlg := hid (fun w' e => long_c x a 8 8 0 w' hx (by omega) (Nat.le_refl _) (hc.cells.ext e))
  have hz : roomE 8 0 8 = 0 := by decide
  unfold longOf at hlg
  rw [if_pos hz] at hlg
  clear hr2 ht2 hg2 hx hc hz
  by_cases hb : long8 x 0 ≤ 4611686018427387904
  · have hv : lcountF x = (long8 x 0 : Nat) := if_pos hb
    have HV := hid hv
    have hlg2 := hlg.out
    rw [show (0 : Int).toNat = 0 from rfl, if_pos hb] at hlg2
    have HLG := hid hlg2
    clear hlg hlg2 hv
    generalize long8 x 0 = N at *
    go_wp2_with fail
    refine (HLG.out w2 (Ext.refl w2)).mono ?_
    rintro e w3 ⟨rfl, e3⟩
    go_wp2_with fail
    go_ret
    exact ⟨_, rfl, l2, s2, HR2.out.ext e3, by rw [← HV.out]; exact HT2.out.map lcountF, hl2, gby_ext HG2.out e3⟩
  · have hv : lcountF x = 65537 := if_neg hb
    have HV := hid hv
    have hlg2 := hlg.out
    rw [show (0 : Int).toNat = 0 from rfl, if_neg hb] at hlg2
    have HLG := hid hlg2
    clear hlg hlg2 hv
    go_wp2_with fail
    refine (HLG.out w2 (Ext.refl w2)).mono ?_
    rintro e w3 ⟨rfl, e3⟩
    go_wp2_with fail
    go_ret
    exact ⟨_, rfl, l2, s2, HR2.out.ext e3, by rw [← HV.out]; exact HT2.out.map lcountF, hl2, gby_ext HG2.out e3⟩
end
end Go.Proofs.Ytkcjdginoccgjaa
