/- The reference's state: what it computes; conditions: the text's length, the domain. -/
import Derived.Test.YtjgglnflicemjaaP9
namespace Go.Proofs.Ytjgglnflicemjaa
open Go Go.RowKit

theorem absN_more {s p q : List UInt8} {m : Nat} (hp : p.length = 32 * m) (hq : q.length = 32) : absN s (p ++ q) (m + 1) = absorb (absN s p m) q := by
  rw [absN, absN_append _ (by omega), ← hp, List.drop_left, List.take_of_length_le (by omega)]
theorem finL_blocks (s t : List UInt8) (n : Nat) : finL s t n = absN s (padT t ++ (List.replicate 24 0 ++ longL (UInt64.ofNat n))) ((padT t).length / 32 + 1) := by
  have h := padT_length t
  rw [absN_more (by omega) rfl]; rfl

theorem u8_wrap (d : Int) (h : 0 ≤ d) (h2 : d ≤ 255) : ((UInt8.ofNat d.toNat).toNat : Int) = d := by rw [UInt8.toNat_ofNat']; omega
theorem init_cells (d : Int) (h : 0 ≤ d) (h2 : d ≤ 255) : (List.replicate 64 (Value.int .u8 0)).set 63 (.int .u8 d) = (initS d).map u8v := by
  unfold initS
  rw [List.map_set]
  have : u8v (UInt8.ofNat d.toNat) = .int .u8 d := by
    unfold u8v
    rw [u8_wrap d h h2]
  rw [this]
  rfl

theorem own_away {w : World} {B n c : Nat} {e : TypeId} {size : Nat} {a : Option Addr} {xs : List Value} (h : w.ownsRow B e size (.slice a n c) n xs) : ∀ x, a = some x → B ≤ x.block := by
  intro x hx
  rcases h.2 with ⟨h1, _⟩ | ⟨g', cap, cur, h1, hb, _⟩
  · injection h1 with h1 _ _; rw [h1] at hx; cases hx
  · injection h1 with h1 _ _; rw [h1] at hx; cases hx; exact hb

set_option maxRecDepth 100000 in
set_option maxHeartbeats 2000000 in
theorem rstate_c (d : Int) (t : List UInt8) (n c : Nat) (a : Option Addr) (w : World) (hd0 : 0 ≤ d) (hd1 : d ≤ 255) (ht : t.length = n) (hn : n ≤ 1099511627776) (hcl : Cells w a (t.map u8v)) :
    Calls Try.prog 78 #[.int .i64 d, .slice a n c] w fun e w' => e = .returned (.agg ((finL (initS d) t n).map u8v).toArray) ∧ Ext w w' := by
  have HT := hid ht
  have HC := hid hcl
  have HFB := hid (finL_blocks (initS d) t n)
  have HFL : Hid (((finL (initS d) t n).map u8v).length = 64) := hid (by rw [List.length_map, finL_length])
  have HP : Hid (padT t = t ++ 128 :: List.replicate (31 - n % 32) 0) := hid (by rw [← ht]; rfl)
  have hdw : IntKind.u8.wrap d = d := IntWalk.u8_in _ (by omega)
  have HD := hid (init_cells d hd0 hd1)
  have HIL := initS_length d
  have hlong := fun w => rlong_c n w (by omega)
  generalize finL (initS d) t n = fin at *
  generalize initS d = s0 at *
  generalize hll : longL (UInt64.ofNat n) = ll at *
  have HLL : Hid (ll.length = 8) := hid (by rw [← hll]; rfl)
  have HI := hid HIL
  clear ht hcl HIL hll
  go_enter Try.func78, Try.ntmps78
  go_wp2_with fail
  generalize hwA : World.alloc (World.alloc w _) _ = wA
  have zA : Blk wA w.heap.size (List.replicate 64 (.int .u8 0)) 22 := by rw [← hwA]; exact (Blk.mk_alloc rfl rfl).alloc _
  have sA : Blk wA (w.heap.size + 1) (s0.map u8v) 22 := by rw [← hwA, ← HD.out]; exact Blk.mk_alloc (by simp) rfl
  have eA : Ext w wA := by rw [← hwA]; exact ((Ext.refl w).alloc _).alloc _
  have lA : w.heap.size + 1 < wA.heap.size := sA.lt
  clear hwA
  refine (clone_c t a n c wA HT.out (by omega) (HC.out.ext eA)).mono ?_
  rintro e w1 ⟨v, rfl, own1, -, e1⟩
  have HO := hid own1
  have HE := hid (eA.ext e1)
  have HZ := hid (zA.ext e1)
  have HS := hid (sA.ext e1)
  have hbase : wA.heap.size ≤ w1.heap.size := e1.size
  clear zA sA eA e1 own1
  generalize wA.heap.size = B at *
  have zB : Blk (w1.alloc (.cells #[.int .u8 128] 5)) w1.heap.size (([128] : List UInt8).map u8v) 5 := Blk.mk_alloc rfl rfl
  have eB : Ext w1 (w1.alloc (.cells #[.int .u8 128] 5)) := (Ext.refl w1).alloc _
  have HOB := hid (ownsRow_ext HO.out eB)
  have HZB := hid (HZ.out.ext eB)
  have HSB := hid (HS.out.ext eB)
  have HEB := hid (HE.out.ext eB)
  have hbB : B ≤ (w1.alloc (.cells #[.int .u8 128] 5)).heap.size := Nat.le_trans hbase eB.size
  go_wp2_with (at_builtin; refine wpl_append8 rfl _ _ rfl B (ys := [128]) rfl rfl HOB.out rfl (by intro h; cases h) (Cells.of_blk0 zB) (by omega) hbB ?_)
  generalize w1.alloc (.cells #[.int .u8 128] 5) = w2 at *
  intro v3 w3 own3 g3
  have HO3 := hid own3
  have hv3 := fun g' h => own_block_ge HOB.out g' h
  have HZ3 := hid (HZB.out.grown g3 (by intro h; have := hv3 _ h.symm; omega))
  have HS3 := hid (HSB.out.grown g3 (by intro h; have := hv3 _ h.symm; omega))
  have HE3 := hid (HEB.out.grown g3 (by intro k hk; have := hv3 _ hk; omega))
  have hb3 : B ≤ w3.heap.size := Nat.le_trans hbB g3.size
  clear own3 g3 hv3 zB eB HOB HZB HSB HEB hbB HO HZ HS HE hbase
  go_wp2
  go_loopw [6] (fun x wr => ∃ j : Nat, n + 1 + j ≤ n + 1 + (31 - n % 32) ∧ Hid (wr.ownsRow B 5 1 x (n + 1 + j) ((t ++ [128] ++ List.replicate j 0).map u8v)) ∧ Hid (Blk wr w.heap.size (List.replicate 64 (.int .u8 0)) 22) ∧ Hid (Blk wr (w.heap.size + 1) (s0.map u8v) 22) ∧ Hid (Ext w wr) ∧ B ≤ wr.heap.size)
    (fun x _ => n + 100 - sliceLen x)
  case atStart => exact ⟨0, by omega, hid (by rw [List.replicate_zero, List.append_nil, List.map_append]; exact HO3.out), HZ3, HS3, HE3, hb3⟩
  case round =>
    obtain ⟨j, hj, ho, hz, hs, he, hbw⟩ := hrel
    obtain ⟨a4, c4, rfl, hnc4, hcm4, h04, hcl4⟩ := own_slice ho.out
    have HC4 := hid hcl4
    have H04 := hid h04
    clear hcl4 h04
    obtain ⟨tj, htj⟩ : ∃ tj, t ++ [128] ++ List.replicate j 0 = tj := ⟨_, rfl⟩
    rw [htj] at ho HC4
    have HTJ := hid htj
    clear htj
    by_cases hlt : j < 31 - n % 32
    · have hr1 : ((n : Int) + 1 + j).tmod 32 = ((n : Int) + 1 + j) % 32 := Int.tmod_eq_emod_of_nonneg (by omega)
      have hr2 : (((n : Int) + 1 + j) % 32 != 0) = true := by rw [bne_iff_ne]; omega
      have zB : Blk (wr.alloc (.cells #[.int .u8 0] 5)) wr.heap.size (([0] : List UInt8).map u8v) 5 := Blk.mk_alloc rfl rfl
      have eB : Ext wr (wr.alloc (.cells #[.int .u8 0] 5)) := (Ext.refl wr).alloc _
      have HOB := hid (ownsRow_ext ho.out eB)
      have HZB := hid (hz.out.ext eB)
      have HSB := hid (hs.out.ext eB)
      have HEB := hid (he.out.ext eB)
      have hbB : B ≤ (wr.alloc (.cells #[.int .u8 0] 5)).heap.size := Nat.le_trans hbw eB.size
      go_wp2_with (at_builtin; refine wpl_append8 rfl _ _ rfl B (ys := [0]) rfl rfl HOB.out rfl (by intro h; cases h) (Cells.of_blk0 zB) (by omega) hbB ?_)
      generalize wr.alloc (.cells #[.int .u8 0] 5) = w4 at *
      intro v5 w5 own5 g5
      have HO5 := hid own5
      have hv5 := fun g' h => own_block_ge HOB.out g' h
      have HZ5 := hid (HZB.out.grown g5 (by intro h; have := hv5 _ h.symm; omega))
      have HS5 := hid (HSB.out.grown g5 (by intro h; have := hv5 _ h.symm; omega))
      have HE5 := hid (HEB.out.grown g5 (by intro k hk; have := hv5 _ hk; omega))
      have hb5 : B ≤ w5.heap.size := Nat.le_trans hbB g5.size
      obtain ⟨a6, c6, hv6, -, -, -, -⟩ := own_slice own5
      have HV6 := hid hv6
      clear own5 g5 hv5 zB eB HOB HZB HSB HEB hbB hv6
      go_wp2
      go_roundw
      case rel =>
        refine ⟨j + 1, by omega, hid ?_, HZ5, HS5, HE5, hb5⟩
        have h1 : t ++ [128] ++ List.replicate (j + 1) 0 = (t ++ [128] ++ List.replicate j 0) ++ [0] := by rw [List.replicate_succ', List.append_assoc (t ++ [128])]
        rw [h1, HTJ.out, List.map_append]; exact HO5.out
      case measure =>
        rw [HV6.out]; simp only [sliceLen]; omega
    · have hj' : j = 31 - n % 32 := by omega
      subst hj'
      have hpe : t ++ [128] ++ List.replicate (31 - n % 32) 0 = padT t := by rw [HP.out, List.append_assoc]; rfl
      have htp := HTJ.out
      rw [hpe] at htp
      subst htp
      obtain ⟨m0, hm0⟩ : ∃ m0, n + 1 + (31 - n % 32) = 32 * m0 := ⟨(n + 1 + (31 - n % 32)) / 32, by omega⟩
      have hplen : (padT t).length = 32 * m0 := by rw [← hpe, List.length_append, List.length_append, List.length_replicate, HT.out, ← hm0]; rfl
      have hm1 : 32 * m0 ≤ 1099511627776 + 32 := by omega
      rw [hm0] at ho hnc4
      rw [hm0]
      have hr1 : (32 * (m0 : Int)).tmod 32 = 0 := by
        rw [Int.tmod_eq_emod_of_nonneg (by omega)]; omega
      have hcut : (padT t).length / 32 + 1 = m0 + 1 := by omega
      rw [hcut] at HFB
      clear hcut hm0 hlt hj hpe HTJ HP
      generalize padT t = pt at *
      have HPL := hid hplen
      clear hplen
      go_wp2_with (at_builtin; refine wpl_append_zeros rfl _ _ rfl B (k := 24) rfl rfl ho.out (by omega) (by omega) hbw ?_)
      intro v6 w6 own6 g6
      have hv6 := fun g' h => own_block_ge ho.out g' h
      have HO6 : Hid (w6.ownsRow B 5 1 v6 (32 * m0 + 24) ((pt ++ List.replicate 24 0).map u8v)) := hid (by rw [List.map_append]; exact own6)
      have HZ6 := hid (hz.out.grown g6 (by intro h; have := hv6 _ h.symm; omega))
      have HS6 := hid (hs.out.grown g6 (by intro h; have := hv6 _ h.symm; omega))
      have HE6 := hid (he.out.grown g6 (by intro k hk; have := hv6 _ hk; omega))
      have hb6 : B ≤ w6.heap.size := Nat.le_trans hbw g6.size
      clear own6 g6 hv6 ho hz hs he hbw HC4 H04
      have hrep : pt ++ List.replicate 24 0 ++ ll = pt ++ (List.replicate 24 0 ++ ll) := List.append_assoc ..
      generalize hp24 : pt ++ List.replicate 24 0 = p24 at *
      have HREP := hid hrep
      clear hrep
      go_wp2_with fail
      refine (hlong w6).mono ?_
      rintro e w7 ⟨rfl, b7, e7⟩
      have HO7 := hid (ownsRow_ext HO6.out e7)
      have HZ7 := hid (HZ6.out.ext e7)
      have HS7 := hid (HS6.out.ext e7)
      have HE7 := hid (HE6.out.ext e7)
      have hb7 : B ≤ w7.heap.size := Nat.le_trans hb6 e7.size
      go_wp2_with (at_builtin; refine wpl_append8 rfl _ _ rfl B (ys := ll) rfl rfl HO7.out HLL.out (by intro h; cases h) (Cells.of_blk0 b7) (by omega) hb7 ?_)
      intro v8 w8 own8 g8
      have hv8 := fun g' h => own_block_ge HO7.out g' h
      have HZ8 := hid (HZ7.out.grown g8 (by intro h; have := hv8 _ h.symm; omega))
      have HS8 := hid (HS7.out.grown g8 (by intro h; have := hv8 _ h.symm; omega))
      have HE8 := hid (HE7.out.grown g8 (by intro k hk; have := hv8 _ hk; omega))
      have own9 : w8.ownsRow B 5 1 v8 (32 * (m0 + 1)) ((pt ++ (List.replicate 24 0 ++ ll)).map u8v) := by
        rw [← HREP.out, List.map_append, show 32 * (m0 + 1) = 32 * m0 + 24 + 8 by omega]; simpa using own8
      have hbl : (pt ++ (List.replicate 24 0 ++ ll)).length = 32 * (m0 + 1) := by
        rw [List.length_append, List.length_append, List.length_replicate, HPL.out, HLL.out]; omega
      generalize pt ++ (List.replicate 24 0 ++ ll) = bb at *
      obtain ⟨a9, c9, rfl, hnc9, hcm9, h09, hcl9⟩ := own_slice own9
      have haw9 := own_away own9
      have HBL := hid hbl
      have HC9 := hid hcl9
      have H09 := hid h09
      have HA9 := hid haw9
      clear own8 g8 hv8 own9 hcl9 h09 haw9 b7 e7 HO7 HZ7 HS7 HE7 HO6 HZ6 HS6 HE6 hb6 hb7 hp24 HREP HPL hbl hr1
      unfold maxLen at hcm9
      go_wp2
      clear hnc4 hcm4 HO3 HZ3 HS3 HE3 hb3
      go_loopw [6] (fun x wr => ∃ (k n' c' : Nat) (a' : Option Addr), x = .slice a' n' c' ∧ n' + 32 * k = 32 * (m0 + 1) ∧ n' ≤ c' ∧ c' ≤ 9223372036854775807 ∧ Hid (a' = none → c' = 0) ∧ Hid (∀ x, a' = some x → B ≤ x.block) ∧
          Hid (Cells wr a' ((bb.drop (32 * k)).map u8v)) ∧ Hid (Blk wr (w.heap.size + 1) ((absN s0 bb k).map u8v) 22) ∧ Hid (Blk wr w.heap.size (List.replicate 64 (.int .u8 0)) 22) ∧ Hid (Ext w wr))
        (fun x _ => sliceLen x)
      case atStart => exact ⟨0, _, c9, a9, rfl, by omega, hnc9, by omega, H09, HA9, hid (by rw [Nat.mul_zero, List.drop_zero]; exact HC9.out), HS8, HZ8, HE8⟩
      case round =>
        obtain ⟨k, n', c', a', rfl, hk, hnc', hcc', h0', ha', hc', hs', hz', he'⟩ := hrel
        by_cases hpos : 0 < n'
        · have hd : decide ((0 : Int) < (n' : Int)) = true := decide_eq_true (by omega)
          have hlt : 32 ≤ n' := by omega
          have hlen : (bb.drop (32 * k)).length = n' := by rw [List.length_drop, HBL.out]; omega
          have hne : a' ≠ none := fun e => by have := h0'.out e; omega
          obtain ⟨gb, off, rfl, hcell⟩ := hc'.out.some_of (by rw [List.length_map, hlen]; omega)
          have hgb : B ≤ gb := ha'.out _ rfl
          obtain ⟨ch, hch⟩ : ∃ ch, (bb.drop (32 * k)).take 32 = ch := ⟨_, rfl⟩
          have hsrc : ∀ i, i < 32 → wr.cell? ⟨gb, off + i, none⟩ = some (.int .u8 ((ch[i]?.getD 0).toNat : Int)) := by
            intro i hi
            refine hcell i _ ?_
            rw [← hch, List.getElem?_take_of_lt hi]
            exact u8_at (by omega)
          have hstep : absN s0 bb (k + 1) = absorb (absN s0 bb k) ch := by rw [absN, hch]
          have HST := hid hstep
          have hsl : (absN s0 bb k).length = 64 := absN_length HI.out k
          generalize absN s0 bb k = sk at *
          have HSL := hid hsl
          have HSR := hid hsrc
          clear hsrc hcell hne hstep hsl hch
          go_wp2
          go_loopw [32] (fun x wi => ∃ i : Nat, i ≤ 32 ∧ x = .int .i64 i ∧ Hid (Blk wi (w.heap.size + 1) ((mixTo sk ch i).map u8v) 22) ∧ Hid (wr.grownBy wi (some (w.heap.size + 1))))
            (fun x _ => 32 - (intOf x).toNat)
          case atStart => exact ⟨0, by omega, rfl, hs', hid (grown_refl _ _)⟩
          case round =>
            obtain ⟨i, hi, rfl, q1, q2⟩ := hrel
            by_cases hlti : i < 32
            · have hdi : decide ((i : Int) < 32) = true := decide_eq_true (by omega)
              have hgne : some gb ≠ some (w.heap.size + 1) := by intro e; injection e; omega
              have hs0 := HSR.out i hlti
              have hgl := block_lt_of_cell hs0
              have c1 : ∀ nq, (wr.drewN nq).cell? ⟨gb, off + i, none⟩ = some (.int .u8 ((ch[i]?.getD 0).toNat : Int)) := fun nq => by
                rw [← hs0]; exact World.cell?_of_block (q2.out.block gb hgl hgne)
              have i0 : (0 : Int) ≤ (i : Int) := by omega
              have i1 : (i : Int) < 32 := by omega
              have i2 : (i : Int) < 64 := by omega
              have i3 : (i : Int) < (n' : Int) := by omega
              have hlenm : (mixTo sk ch i).length = 64 := by rw [mixTo_length]; exact HSL.out
              have hmx : mixTo sk ch (i + 1) = (mixTo sk ch i).set i (xor8 ((mixTo sk ch i)[i]?.getD 0) (ch[i]?.getD 0)) := rfl
              generalize mixTo sk ch i = ws at *
              have HMX := hid hmx
              have HQ1 := hid q1.out
              have c2 : ∀ nq, (wr.drewN nq).cell? ⟨w.heap.size + 1, i, none⟩ = some (.int .u8 ((ws[i]?.getD 0).toNat : Int)) := fun nq => (HQ1.out.drewN (n := nq)).cell' (u8_at (by omega))
              have f2 : ∀ nq, (wr.drewN nq).frozen? ⟨w.heap.size + 1, i, none⟩ = false := fun nq => (HQ1.out.drewN (n := nq)).frozen i
              have hxo := xor8_b (ws[i]?.getD 0) (ch[i]?.getD 0)
              clear hmx hs0 hgl
              go_wp2
              refine wp_region_cls (C := fun w' => ∃ n, w' = wr.drewN n) 9 (by kernel_rfl) (by kernel_rfl) ⟨1, rfl⟩ ?_
              simp only [List.take_succ_cons, List.take_zero, List.drop_succ_cons, List.drop_zero]
              iterate 9 quiet_step (fail)
              refine wpQuiet_nil ?_
              rintro _ ⟨nq, rfl⟩
              go_wp2
              have q1' := (HQ1.out.drewN (n := nq)).set i (u8v (xor8 (ws[i]?.getD 0) (ch[i]?.getD 0)))
              rw [← List.map_set, ← HMX.out] at q1'
              have q2' := grown_set (grown_drewN q2.out nq) i (.int .u8 ((xor8 (ws[i]?.getD 0) (ch[i]?.getD 0)).toNat : Int))
              go_roundw
              case rel => exact ⟨i + 1, by omega, by go_num, hid q1', hid q2'⟩
              case measure => simp [intOf]; omega
            · have hi32 : i = 32 := by omega
              subst hi32
              have hml : ((mixTo sk ch 32).map u8v).length = 64 := by rw [List.length_map, mixTo_length]; exact HSL.out
              go_wp2_with (refine wpl_loadw rfl _ _ rfl rfl q1.out agg_state hml ?_)
              refine (rstir_c (mixTo sk ch 32) (by rw [mixTo_length]; exact HSL.out) wr).mono ?_
              rw [show stirL (mixTo sk ch 32) = absorb sk ch from rfl, ← HST.out]
              rintro e w1 ⟨rfl, e1⟩
              have hla : ((absN s0 bb (k + 1)).map u8v).length = 64 := by rw [List.length_map]; exact absN_length HI.out _
              generalize hr : absN s0 bb (k + 1) = r at *
              go_wp2_with (refine wpl_storew rfl _ _ _ rfl rfl rfl (q1.out.ext e1) agg_state hml hla (one_u8 _) ?_)
              intro w2 b2 u2
              have gr := grown_upd (grown_ext q2.out e1) u2
              have HB2 := hid b2
              have HC2 := hid (hc'.out.grown gr (by intro x hx; cases hx; intro e; injection e with e; simp only at e; omega))
              have HZ2 := hid (hz'.out.grown gr (by intro e; injection e with e; omega))
              have HE2 := hid (he'.out.grown gr (by intro k' hk'; cases hk'; omega))
              have HR := hid hr
              clear b2 u2 gr e1 hr
              go_wp2_with (refine wpl_slice_low rfl _ _ _ _ rfl (k := 32) rfl rfl Try.underlying26 size_u8 hlt ?_)
              go_roundw
              case rel =>
                refine ⟨k + 1, n' - 32, c' - 32, _, rfl, by omega, by omega, by omega, hid fun e => ?_, hid ?_, hid ?_, by rw [HR.out]; exact HB2, HZ2, HE2⟩
                · have := h0'.out (shift_nil.1 e); omega
                · intro x hx
                  have h1 := shift_away (r := some (x.block)) (c := c') (k := 32) (a := some ⟨gb, off, none⟩)
                  by_cases hbx : gb = x.block
                  · omega
                  · exact absurd rfl (h1 (by intro y hy; cases hy; intro e; injection e with e; exact hbx e) x hx)
                · have h1 := HC2.out.shift c' 32 (n' - 32) (by omega)
                  rw [← List.map_drop, List.drop_drop, List.take_of_length_le (by rw [List.length_map, List.length_drop, HBL.out]; omega)] at h1
                  rwa [show 32 * k + 32 = 32 * (k + 1) by omega] at h1
              case measure => simp [sliceLen]; omega
        · have hn0 : n' = 0 := by omega
          subst hn0
          have hkm : k = m0 + 1 := by omega
          subst hkm
          rw [← HFB.out] at hs'
          have HLF := HFL
          have h1f := one_u8 fin
          generalize hfv : fin.map u8v = fv at *
          have HFV := hid hfv
          clear hfv
          go_wp2_with (first | (refine wpl_loadw rfl _ _ rfl rfl hs'.out agg_state HLF.out ?_) | (refine wpl_storew rfl _ _ _ rfl rfl rfl hz'.out agg_state rfl HLF.out h1f ?_))
          intro w5 b5 u5
          go_wp2
          refine ret_row rfl rfl b5 agg_state HLF.out rfl ⟨by rw [HFV.out], u5.ext he'.out (Nat.le_refl _)⟩
end Go.Proofs.Ytjgglnflicemjaa
