/- Contracts of wordsOf, stateOf, and of the references' words and octets; condition: the array's length. -/
import Derived.Test.YtjgglnflicemjaaS2
namespace Go.Proofs.Ytjgglnflicemjaa
open Go Go.RowKit

def wordAt (l : List UInt8) (i : Nat) : UInt32 := wordOf (l[4 * i]?.getD 0) (l[4 * i + 1]?.getD 0) (l[4 * i + 2]?.getD 0) (l[4 * i + 3]?.getD 0)
def wordsL (l : List UInt8) : List UInt32 := (List.range 16).map (wordAt l)

theorem cell_u8 {w : World} {g : Nat} {l : List UInt8} {T : TypeId} (h : Blk w g (l.map u8v) T) {i : Nat} (hi : i < l.length) : w.cell? ⟨g, i, none⟩ = some (.int .u8 (((l[i]?.getD 0).toNat : Nat) : Int)) := by
  refine h.cell' ?_
  simp [hi, u8v]
theorem cell_u32 {w : World} {g : Nat} {l : List UInt32} {T : TypeId} (h : Blk w g (l.map u32v) T) {i : Nat} (hi : i < l.length) : w.cell? ⟨g, i, none⟩ = some (.int .u32 (((l[i]?.getD 0).toNat : Nat) : Int)) := by
  refine h.cell' ?_
  simp [hi, u32v]

theorem zeros32 (n : Nat) : (List.replicate n (0 : UInt32)).map u32v = List.replicate n (.int .u32 0) := by simp [u32v]
theorem zeros8 (n : Nat) : (List.replicate n (0 : UInt8)).map u8v = List.replicate n (.int .u8 0) := by simp [u8v]

theorem one_u8t : OneT Try.prog 5 := ⟨⟨_, Try.underlying5, rfl⟩, by kernel_rfl⟩
theorem one_u32t : OneT Try.prog 45 := ⟨⟨_, Try.underlying45, rfl⟩, by kernel_rfl⟩
theorem agg_words : AggT Try.prog 103 16 := ⟨⟨_, Try.underlying103, rfl⟩, by kernel_rfl⟩
theorem agg_state : AggT Try.prog 22 64 := ⟨⟨_, Try.underlying22, rfl⟩, by kernel_rfl⟩
theorem agg_four : AggT Try.prog 111 4 := ⟨⟨_, Try.underlying111, rfl⟩, by kernel_rfl⟩

set_option maxRecDepth 100000 in
set_option maxHeartbeats 400000 in
theorem wordsOf_c (l : List UInt8) (hl : l.length = 64) (w : World) :
    Calls Try.prog 60 #[.agg (l.map u8v).toArray] w fun e w' => e = .returned (.agg ((wordsL l).map u32v).toArray) ∧ Ext w w' := by
  have HL := hid hl
  clear hl
  go_enter Try.func60, Try.ntmps60
  go_wp2
  generalize hw3 : World.alloc _ _ = w3
  have k0 : Blk w3 w.heap.size (l.map u8v) 22 := by subst hw3; exact ((Blk.mk_alloc rfl rfl).alloc _).alloc _
  have k1 : Blk w3 (w.heap.size + 1) (List.replicate 16 (.int .u32 0)) 103 := by subst hw3; exact (Blk.mk_alloc (by simp) rfl).alloc _
  have k2 : Blk w3 (w.heap.size + 1 + 1) ((fill (wordAt l) 0 16 0).map u32v) 103 := by subst hw3; exact Blk.mk_alloc (by simp) (by rw [fill_zero, zeros32]; rfl)
  have b3 : Ext w w3 := by subst hw3; exact (((Ext.refl w).alloc _).alloc _).alloc _
  clear hw3
  go_loopw [5] (fun i wr => ∃ k : Nat, k ≤ 16 ∧ i = .int .i64 k ∧ Blk wr w.heap.size (l.map u8v) 22 ∧ Blk wr (w.heap.size + 1) (List.replicate 16 (.int .u32 0)) 103 ∧ Blk wr (w.heap.size + 1 + 1) ((fill (wordAt l) 0 16 k).map u32v) 103 ∧ Ext w wr)
    (fun i _ => 16 - (intOf i).toNat)
  case atStart => exact ⟨0, by omega, rfl, k0, k1, k2, b3⟩
  case round =>
    obtain ⟨k, hk, rfl, q0, q1, q2, bb⟩ := hrel
    by_cases hlt : k < 16
    · have h64 := HL.out
      have c0 := cell_u8 q0 (i := 4 * k) (by omega)
      have c1 := cell_u8 q0 (i := 4 * k + 1) (by omega)
      have c2 := cell_u8 q0 (i := 4 * k + 2) (by omega)
      have c3 := cell_u8 q0 (i := 4 * k + 3) (by omega)
      have z2 := cell_u32 q2 (i := k) (by rw [fill_length]; omega)
      have f2 := q2.frozen k
      have lt2 := q2.lt
      have i0 : (0 : Int) ≤ 4 * (k : Int) := by omega
      have i1 : 4 * (k : Int) ≤ 4 * (k : Int) + 4 := by omega
      have i2 : 4 * (k : Int) + 4 ≤ 64 := by omega
      have ha := run_arrayAt (P := Try.prog) Try.underlying111 (len := 4) (Nat.le_refl 4)
      clear h64
      go_wp2_with fail
      refine (word_c _ _ _ _ _).mono ?_
      rintro e w1 ⟨rfl, hb1⟩
      obtain ⟨hc1, hf1⟩ := bcell hb1
      go_wp2_with fail
      go_roundw
      case rel =>
        have r2 := Blk.fill32 (q2.ext hb1)
        exact ⟨k + 1, by omega, by go_num, (q0.ext hb1).set_other _ _ (by simp; omega), (q1.ext hb1).set_other _ _ (by simp), r2, (bb.ext hb1).set _ (by simp; omega)⟩
      case measure => simp [intOf]; omega
    · obtain rfl : k = 16 := by omega
      have hlen : ((fill (wordAt l) 0 16 16).map u32v).length = 16 := by rw [List.length_map, fill_length]
      go_wp2_with (first | (refine wpl_loadw rfl _ _ rfl rfl q2 agg_words hlen ?_) | (refine wpl_storew rfl _ _ _ rfl rfl rfl q1 agg_words (by simp) hlen (one_u32 _) ?_))
      intro w4 p1 u4
      go_wp2
      refine ret_row (g := w.heap.size + 1) rfl rfl p1 agg_words hlen rfl ⟨?_, u4.ext bb (by omega)⟩
      rw [fill_all _ _ _ _ (Nat.le_refl _)]; rfl



/-- R.words: word j after i octets -/
def wordPart (l : List UInt8) (i j : Nat) : UInt32 :=
  if i ≤ 4 * j then 0 else if i = 4 * j + 1 then wordOf 0 0 0 (l[4 * j]?.getD 0) else if i = 4 * j + 2 then wordOf 0 0 (l[4 * j]?.getD 0) (l[4 * j + 1]?.getD 0)
  else if i = 4 * j + 3 then wordOf 0 (l[4 * j]?.getD 0) (l[4 * j + 1]?.getD 0) (l[4 * j + 2]?.getD 0) else wordAt l j
def wordsPart (l : List UInt8) (i : Nat) : List UInt32 := (List.range 16).map (wordPart l i)

theorem shl_or (a b c d e : UInt8) : bits .or .u32 (((wordOf a b c d).toNat : Int) * 256 % 4294967296) (e.toNat : Int) = ((wordOf b c d e).toNat : Int) := by
  have ha := a.toNat_lt
  have hb := b.toNat_lt
  have hc := c.toNat_lt
  have hd := d.toNat_lt
  have he := e.toNat_lt
  have e1 : ((wordOf a b c d).toNat : Int) * 256 % 4294967296 = ((b.toNat * 65536 + c.toNat * 256 + d.toNat) * 256 : Nat) := by
    unfold wordOf
    rw [UInt32.toNat_ofNat']; omega
  rw [e1, (bits_u32 _ _ (by omega) (by omega)).2.1]
  have f3 := or_add (b.toNat * 65536 + c.toNat * 256 + d.toNat) e.toNat 8 (by omega)
  rw [show (2 : Nat) ^ 8 = 256 from rfl] at f3
  rw [f3]
  unfold wordOf
  rw [UInt32.toNat_ofNat']; omega

theorem wordPart_step (l : List UInt8) (i : Nat) : ∃ a b c d, wordPart l i (i / 4) = wordOf a b c d ∧ wordPart l (i + 1) (i / 4) = wordOf b c d (l[i]?.getD 0) := by
  have h := Nat.div_add_mod i 4
  have hm : i % 4 < 4 := Nat.mod_lt _ (by omega)
  have e : ∃ q, i / 4 = q := ⟨_, rfl⟩
  obtain ⟨q, hq⟩ := e
  rw [hq] at h ⊢
  clear hq
  unfold wordPart
  rcases (by omega : i % 4 = 0 ∨ i % 4 = 1 ∨ i % 4 = 2 ∨ i % 4 = 3) with h0 | h0 | h0 | h0
  · obtain rfl : i = 4 * q := by omega
    exact ⟨0, 0, 0, 0, by rw [if_pos (by omega)]; rfl, by rw [if_neg (by omega), if_pos (by omega)]⟩
  · obtain rfl : i = 4 * q + 1 := by omega
    exact ⟨0, 0, 0, _, by rw [if_neg (by omega), if_pos (by omega)], by rw [if_neg (by omega), if_neg (by omega), if_pos (by omega)]⟩
  · obtain rfl : i = 4 * q + 2 := by omega
    exact ⟨0, 0, _, _, by rw [if_neg (by omega), if_neg (by omega), if_pos (by omega)], by rw [if_neg (by omega), if_neg (by omega), if_neg (by omega), if_pos (by omega)]⟩
  · obtain rfl : i = 4 * q + 3 := by omega
    exact ⟨0, _, _, _, by rw [if_neg (by omega), if_neg (by omega), if_neg (by omega), if_pos (by omega)], by rw [if_neg (by omega), if_neg (by omega), if_neg (by omega), if_neg (by omega)]; rfl⟩

theorem wordPart_other (l : List UInt8) (i j : Nat) (h : j ≠ i / 4) : wordPart l (i + 1) j = wordPart l i j := by
  have h1 := Nat.div_add_mod i 4
  have hm : i % 4 < 4 := Nat.mod_lt _ (by omega)
  generalize i / 4 = q at *
  unfold wordPart
  by_cases h2 : j < q
  · rw [if_neg (by omega), if_neg (by omega), if_neg (by omega), if_neg (by omega)]
    by_cases h3 : i = 4 * j + 3
    · omega
    · rw [if_neg (by omega), if_neg (by omega), if_neg (by omega), if_neg (by omega)]
  · rw [if_pos (by omega), if_pos (by omega)]

theorem wordsPart_step (l : List UInt8) (i : Nat) : (wordsPart l i).set (i / 4) (wordPart l (i + 1) (i / 4)) = wordsPart l (i + 1) := by
  unfold wordsPart
  apply List.ext_getElem?
  intro j
  rw [List.getElem?_set]
  by_cases hj : i / 4 = j
  · subst hj
    simp only [if_true, List.length_map, List.length_range, List.getElem?_map]
    by_cases h16 : i / 4 < 16
    · simp [h16]
    · simp [h16]
  · rw [if_neg hj]
    simp only [List.getElem?_map]
    by_cases h16 : j < 16
    · simp [h16, wordPart_other l i j (Ne.symm hj)]
    · simp [h16]

set_option maxRecDepth 100000 in
set_option maxHeartbeats 400000 in
theorem rwords_c (l : List UInt8) (hl : l.length = 64) (w : World) :
    Calls Try.prog 64 #[.agg (l.map u8v).toArray] w fun e w' => e = .returned (.agg ((wordsL l).map u32v).toArray) ∧ Ext w w' := by
  have hl' : (l.map u8v).length = 64 := by rw [List.length_map]; exact hl
  have HL := hid hl'
  clear hl'
  have HL2 := hid hl
  clear hl
  go_enter Try.func64, Try.ntmps64
  go_wp2_with (refine wpl_loadw rfl _ _ rfl rfl (((Blk.mk_alloc rfl rfl).alloc _).alloc _) agg_state HL.out ?_)
  generalize hw3 : World.alloc _ _ = w3
  have k1 : Blk w3 (w.heap.size + 1) (List.replicate 16 (.int .u32 0)) 103 := by subst hw3; exact (Blk.mk_alloc (by simp) rfl).alloc _
  have k2 : Blk w3 (w.heap.size + 1 + 1) ((wordsPart l 0).map u32v) 103 := by subst hw3; exact Blk.mk_alloc (by simp) rfl
  have b3 : Ext w w3 := by subst hw3; exact (((Ext.refl w).alloc _).alloc _).alloc _
  clear hw3
  go_loopw [7] (fun i wr => ∃ k : Nat, k ≤ 64 ∧ i = .int .i64 k ∧ Blk wr (w.heap.size + 1) (List.replicate 16 (.int .u32 0)) 103 ∧ Blk wr (w.heap.size + 1 + 1) ((wordsPart l k).map u32v) 103 ∧ Ext w wr)
    (fun i _ => 64 - (intOf i).toNat)
  case atStart => exact ⟨0, by omega, rfl, k1, k2, b3⟩
  case round =>
    obtain ⟨k, hk, rfl, q1, q2, bb⟩ := hrel
    by_cases hlt : k < 64
    · obtain ⟨a, b, c, d, s1, s2⟩ := wordPart_step l k
      have z2 : wr.cell? ⟨w.heap.size + 1 + 1, k / 4, none⟩ = some (.int .u32 ((wordOf a b c d).toNat : Nat)) := by
        refine q2.cell' ?_
        rw [← s1]
        simp [wordsPart, u32v, show k / 4 < 16 by omega]
      have f2 := q2.frozen (k / 4)
      have h8 := u8_lt (l[k]?.getD 0)
      have hx := run_index_arr (P := Try.prog) (cs := (l.map u8v).toArray) (v := .int .u8 ((l[k]?.getD 0).toNat : Nat)) Try.underlying22 one_u8t k hlt (by
        have := HL2.out
        simp [u8v, this, hlt])
      have so := shl_or a b c d (l[k]?.getD 0)
      go_wp2_with fail
      go_roundw
      case rel =>
        have r2 := q2.set (k / 4) (u32v (wordPart l (k + 1) (k / 4)))
        rw [← List.map_set, wordsPart_step, s2] at r2
        exact ⟨k + 1, by omega, by go_num, q1.set_other _ _ (by simp), r2, bb.set _ (by simp; omega)⟩
      case measure => simp [intOf]; omega
    · obtain rfl : k = 64 := by omega
      have hlen : ((wordsPart l 64).map u32v).length = 16 := by simp [wordsPart]
      go_wp2_with (first | (refine wpl_loadw rfl _ _ rfl rfl q2 agg_words hlen ?_) | (refine wpl_storew rfl _ _ _ rfl rfl rfl q1 agg_words (by simp) hlen (one_u32 _) ?_))
      intro w4 p1 u4
      go_wp2
      refine ret_row (g := w.heap.size + 1) rfl rfl p1 agg_words hlen rfl ⟨?_, u4.ext bb (by omega)⟩
      have : wordsPart l 64 = wordsL l := by
        unfold wordsPart wordsL
        apply List.map_congr_left
        intro j hj
        have := List.mem_range.1 hj
        unfold wordPart
        rw [if_neg (by omega), if_neg (by omega), if_neg (by omega), if_neg (by omega)]
      rw [this]

def octAt (ws : List UInt32) (j : Nat) : UInt8 := (octL (ws[j / 4]?.getD 0))[j % 4]?.getD 0
def stateL (ws : List UInt32) : List UInt8 := (List.range 64).map (octAt ws)

theorem octL_range (ws : List UInt32) (k : Nat) : octL (ws[k]?.getD 0) = (List.range 4).map fun j => octAt ws (4 * k + j) := by
  have e : ∀ j, j < 4 → octAt ws (4 * k + j) = (octL (ws[k]?.getD 0))[j]?.getD 0 := fun j hj => by
    unfold octAt
    rw [show (4 * k + j) / 4 = k by omega, show (4 * k + j) % 4 = j by omega]
  show _ = [octAt ws (4 * k + 0), octAt ws (4 * k + 1), octAt ws (4 * k + 2), octAt ws (4 * k + 3)]
  rw [e 0 (by omega), e 1 (by omega), e 2 (by omega), e 3 (by omega)]
  rfl

set_option maxRecDepth 100000 in
set_option maxHeartbeats 400000 in
theorem stateOf_c (ws : List UInt32) (hl : ws.length = 16) (w : World) :
    Calls Try.prog 63 #[.agg (ws.map u32v).toArray] w fun e w' => e = .returned (.agg ((stateL ws).map u8v).toArray) ∧ Ext w w' := by
  have hl' : (ws.map u32v).length = 16 := by rw [List.length_map]; exact hl
  have HL := hid hl'
  clear hl'
  have HL2 := hid hl
  clear hl
  go_enter Try.func63, Try.ntmps63
  go_wp2_with (refine wpl_loadw rfl _ _ rfl rfl (((Blk.mk_alloc rfl rfl).alloc _).alloc _) agg_words HL.out ?_)
  generalize hw3 : World.alloc _ _ = w3
  have k1 : Blk w3 (w.heap.size + 1) (List.replicate 64 (.int .u8 0)) 22 := by subst hw3; exact (Blk.mk_alloc (by simp) rfl).alloc _
  have k2 : Blk w3 (w.heap.size + 1 + 1) ((fill (octAt ws) 0 64 (4 * 0)).map u8v) 22 := by subst hw3; exact Blk.mk_alloc (by simp) (by rw [fill_zero, zeros8]; rfl)
  have b3 : Ext w w3 := by subst hw3; exact (((Ext.refl w).alloc _).alloc _).alloc _
  clear hw3
  go_loopw [8] (fun i wr => ∃ k : Nat, k ≤ 16 ∧ i = .int .i64 k ∧ Blk wr (w.heap.size + 1) (List.replicate 64 (.int .u8 0)) 22 ∧ Blk wr (w.heap.size + 1 + 1) ((fill (octAt ws) 0 64 (4 * k)).map u8v) 22 ∧ Ext w wr)
    (fun i _ => 16 - (intOf i).toNat)
  case atStart => exact ⟨0, by omega, rfl, k1, k2, b3⟩
  case round =>
    obtain ⟨k, hk, rfl, q1, q2, bb⟩ := hrel
    by_cases hlt : k < 16
    · have hx := run_index_arr (P := Try.prog) (cs := (ws.map u32v).toArray) (v := .int .u32 ((ws[k]?.getD 0).toNat : Nat)) Try.underlying103 one_u32t k hlt (by
        have := HL2.out
        simp [u32v, this, hlt])
      go_wp2_with fail
      refine (octets_c _ _).mono ?_
      rintro e w1 ⟨rfl, hb1⟩
      go_wp2_with (first | (refine wpl_storew rfl _ _ _ rfl rfl rfl (Blk.mk_alloc rfl rfl) agg_four rfl rfl (one_u8 _) ?_))
      intro w2 p6 u6
      have e2 : Ext wr w2 := u6.ext (hb1.alloc _) hb1.size
      have r1 := q1.ext e2
      have r2 := q2.ext e2
      have b2 := bb.ext e2
      have lt2 := q2.lt
      clear u6 q1 q2 bb hx
      have i0 : (0 : Int) ≤ 4 * (k : Int) := by omega
      have i2 : 4 * (k : Int) ≤ 64 := by omega
      have ne : ¬ (64 = 4 * k) := by omega
      have wm : IntKind.i64.wrap (4 * (k : Int)) = 4 * (k : Int) := IntWalk.i64_in _ (by omega)
      have nt : (4 * (k : Int)).toNat = 4 * k := by omega
      go_wp2_with fail
      refine wp_region_cls (C := fun w' => w' = w2.drew) 4 (by kernel_rfl) (by kernel_rfl) rfl ?_
      simp only [List.take_succ_cons, List.take_zero, List.drop_succ_cons, List.drop_zero]
      iterate 4 quiet_step (fail)
      refine wpQuiet_nil ?_
      rintro _ rfl
      have hl4 : ((octL (ws[k]?.getD 0)).map u8v).length = 4 := rfl
      refine wpl_copy rfl _ _ _ _ rfl rfl rfl r2.drew Try.underlying26 one_u8t.2 (cs := (octL (ws[k]?.getD 0)).map u8v) (by rw [hl4]; exact (Nat.min_eq_left (by omega)).symm) ?_ (by rw [hl4, List.length_map, fill_length]; omega) (one_u8 _) ?_
      · intro j v hv
        have hadd : (⟨w1.heap.size, 0, none⟩ : Addr).add j = ⟨w1.heap.size, j, none⟩ := by unfold Addr.add; split <;> simp_all
        rw [hadd]
        exact p6.drew.cell' hv
      intro w4 r4 u4
      have r1' := r1.drew.upd u4 (by omega)
      have b4 := u4.ext b2.drew (by omega)
      rw [fill_splice (octAt ws) 0 64 (4 * k) 4 u8v (by omega) (octL (ws[k]?.getD 0)) (octL_range ws k), show 4 * k + 4 = 4 * (k + 1) by omega] at r4
      clear p6 e2 r1 r2 b2 lt2 u4
      go_wp2
      go_roundw
      case rel => exact ⟨k + 1, by omega, by go_num, r1', r4, b4⟩
      case measure => simp [intOf]; omega
    · obtain rfl : k = 16 := by omega
      have hlen : ((fill (octAt ws) 0 64 (4 * 16)).map u8v).length = 64 := by rw [List.length_map, fill_length]
      go_wp2_with (first | (refine wpl_loadw rfl _ _ rfl rfl q2 agg_state hlen ?_) | (refine wpl_storew rfl _ _ _ rfl rfl rfl q1 agg_state (by simp) hlen (one_u8 _) ?_))
      intro w4 p1 u4
      go_wp2
      refine ret_row (g := w.heap.size + 1) rfl rfl p1 agg_state hlen rfl ⟨?_, u4.ext bb (by omega)⟩
      rw [fill_all _ _ _ _ (by omega)]; rfl

theorem shr_oct (n : UInt32) (m : Nat) (hm : m < 4) : ((n.toNat : Int) / 2 ^ (24 - 8 * m) % 256) = (((octL n)[m]?.getD 0).toNat : Int) := by
  rcases (by omega : m = 0 ∨ m = 1 ∨ m = 2 ∨ m = 3) with rfl | rfl | rfl | rfl
  all_goals simp only [octL]; simp; try rw [UInt8.toNat_ofNat']; omega

set_option maxRecDepth 100000 in
set_option maxHeartbeats 400000 in
theorem roctets_c (ws : List UInt32) (hl : ws.length = 16) (w : World) :
    Calls Try.prog 66 #[.agg (ws.map u32v).toArray] w fun e w' => e = .returned (.agg ((stateL ws).map u8v).toArray) ∧ Ext w w' := by
  have HL := hid hl
  clear hl
  go_enter Try.func66, Try.ntmps66
  go_wp2
  generalize hw3 : World.alloc _ _ = w3
  have k0 : Blk w3 w.heap.size (ws.map u32v) 103 := by subst hw3; exact ((Blk.mk_alloc rfl rfl).alloc _).alloc _
  have k1 : Blk w3 (w.heap.size + 1) (List.replicate 64 (.int .u8 0)) 22 := by subst hw3; exact (Blk.mk_alloc (by simp) rfl).alloc _
  have k2 : Blk w3 (w.heap.size + 1 + 1) ((fill (octAt ws) 0 64 0).map u8v) 22 := by subst hw3; exact Blk.mk_alloc (by simp) (by rw [fill_zero, zeros8]; rfl)
  have b3 : Ext w w3 := by subst hw3; exact (((Ext.refl w).alloc _).alloc _).alloc _
  clear hw3
  go_loopw [5] (fun i wr => ∃ k : Nat, k ≤ 64 ∧ i = .int .i64 k ∧ Blk wr w.heap.size (ws.map u32v) 103 ∧ Blk wr (w.heap.size + 1) (List.replicate 64 (.int .u8 0)) 22 ∧ Blk wr (w.heap.size + 1 + 1) ((fill (octAt ws) 0 64 k).map u8v) 22 ∧ Ext w wr)
    (fun i _ => 64 - (intOf i).toNat)
  case atStart => exact ⟨0, by omega, rfl, k0, k1, k2, b3⟩
  case round =>
    obtain ⟨k, hk, rfl, q0, q1, q2, bb⟩ := hrel
    by_cases hlt : k < 64
    · have hw := cell_u32 q0 (i := k / 4) (by rw [HL.out]; omega)
      have z2 := cell_u8 q2 (i := k) (by rw [fill_length]; omega)
      have f2 := q2.frozen k
      have so := shr_oct (ws[k / 4]?.getD 0) (k % 4) (by omega)
      go_wp2_with fail
      go_roundw
      case rel =>
        have r2 := Blk.fill8 q2
        exact ⟨k + 1, by omega, by go_num, q0.set_other _ _ (by simp; omega), q1.set_other _ _ (by simp), r2, bb.set _ (by simp; omega)⟩
      case measure => simp [intOf]; omega
    · obtain rfl : k = 64 := by omega
      have hlen : ((fill (octAt ws) 0 64 64).map u8v).length = 64 := by rw [List.length_map, fill_length]
      go_wp2_with (first | (refine wpl_loadw rfl _ _ rfl rfl q2 agg_state hlen ?_) | (refine wpl_storew rfl _ _ _ rfl rfl rfl q1 agg_state (by simp) hlen (one_u8 _) ?_))
      intro w4 p1 u4
      go_wp2
      refine ret_row (g := w.heap.size + 1) rfl rfl p1 agg_state hlen rfl ⟨?_, u4.ext bb (by omega)⟩
      rw [fill_all _ _ _ _ (by omega)]; rfl
end Go.Proofs.Ytjgglnflicemjaa
