/- The Summer's take with octets ahead; conditions: the octets' number, and where they lie. -/
import Derived.Test.YtjgglnflicemjaaP3
import Derived.Test.YtjgglnflicemjaaN6
namespace Go.Proofs.Ytjgglnflicemjaa
open Go Go.RowKit

theorem ret_none {P : Program} {fn : Func} {R : Ending → World → Prop} {a : Act} {w : World} (hr : fn.results = #[]) (hd : a.defers = []) (hR : R (.returned (.tuple #[])) w) : bodyPost P fn R .ret a w :=
  bodyPost_ret (results_none hr _ _ _) hd hR

set_option maxRecDepth 100000 in
set_option maxHeartbeats 1000000 in
/-- too few for a block -/
theorem take_c1 (s0 t b r : List UInt8) (tot : Int) (g m h n c : Nat) (a : Option Addr) (T : TypeId) (w : World) (hs : s0.length = 64) (hr : r.length = 32) (hb : b.length = n) (hm : t.length = 32 * m + h) (hh : 0 < h) (hhn : h + n < 32)
    (hrt : r.take h = t.drop (32 * m))
    (hB : Blk w g (sm (absN s0 t m) r h tot) T) (hnc : n ≤ c) (hc : c ≤ 140737488355328) (h0 : a = none → n = 0) (hcl : Cells w a (b.map u8v)) (haw : n = 0 ∨ ∀ x, a = some x → some x.block ≠ some g) :
    Calls Try.prog 76 #[.pointer (some ⟨g, 0, none⟩), .slice a n c] w (takePost w g T s0 (t ++ b) tot) := by
  have HS := hid hs
  have HR := hid hr
  have HB := hid hb
  have HM := hid hm
  have H0 := hid h0
  have HA := hid haw
  have HC := hid hcl
  have HBL := hid hB
  have HRT := hid hrt
  clear hs hr hb hm h0 haw hcl hB hrt
  have c1 := HBL.out.cell' (sm_have h tot (absN_length HS.out m) HR.out)
  have hd1 : decide ((0 : Int) < (h : Int)) = true := decide_eq_true (by omega)
  have ne : ¬ 32 = h := by omega
  have i0 : (0 : Int) ≤ (h : Int) := by omega
  have i1 : (h : Int) ≤ 32 := by omega
  have hk : IntKind.i64.wrap ((h : Int) + n) = (h : Int) + n := IntWalk.i64_in _ (by omega)
  have hd2 : decide ((h : Int) + n < 32) = true := decide_eq_true (by omega)
  have hmin : n = Nat.min n (32 - h) := (Nat.min_eq_left (by omega)).symm
  have hlen2 : (b.map u8v).length = n := by rw [List.length_map, HB.out]
  have hfit : 64 + h + n ≤ (sm (absN s0 t m) r h tot).length := by rw [sm_length _ _ (absN_length HS.out _) HR.out]; omega
  have hsp := sm_splice (xs := b) h tot (absN_length (t := t) HS.out m) HR.out h (by rw [HB.out]; omega)
  rw [HB.out] at hsp
  have hrl : (r.take h ++ b ++ r.drop (h + n)).length = 32 := by rw [List.length_append, List.length_append, List.length_take, HB.out, List.length_drop, HR.out]; omega
  have hrt : (r.take h ++ b ++ r.drop (h + n)).take (h + n) = (t ++ b).drop (32 * m) := by
    rw [List.drop_append_of_le_length (by rw [HM.out]; omega), ← HRT.out, List.take_append_of_le_length (by rw [List.length_append, List.length_take, HB.out, HR.out]; omega),
      List.take_of_length_le (by rw [List.length_append, List.length_take, HB.out, HR.out]; omega)]
  generalize r.take h ++ b ++ r.drop (h + n) = r2 at *
  have HMI := hid hmin
  have HL2 := hid hlen2
  have HF := hid hfit
  have HSP := hid hsp
  have HR2 := hid hrl
  have HRT2 := hid hrt
  clear hmin hlen2 hfit hsp hrl hrt
  go_enter Try.func76, Try.ntmps76
  go_wp2
  refine wp_region_cls (C := fun w' => ∃ n, w' = w.drewN n) 9 (by kernel_rfl) (by kernel_rfl) ⟨1, rfl⟩ ?_
  simp only [List.take_succ_cons, List.take_zero, List.drop_succ_cons, List.drop_zero]
  iterate 9 quiet_step (fail)
  refine wpQuiet_nil ?_
  rintro _ ⟨nq, rfl⟩
  go_wp2_with (refine wpl_copyc rfl _ _ _ _ rfl rfl rfl (HBL.out.drewN (n := nq)) Try.underlying26 size_u8 HL2.out HMI.out H0.out (HC.out.ext ((Ext.refl w).drewN nq)) HF.out (one_u8 _) ?_)
  intro w1 b1 u1
  rw [HSP.out] at b1
  have HB1 := hid b1
  have HG1 := hid (grown_upd (grown_drewN (grown_refl w (some g)) nq) u1)
  have f1 := b1.frozen 96
  have c2 := b1.cell' (sm_have h tot (absN_length HS.out m) HR2.out)
  clear b1 u1 c1
  go_wp2_with (refine wpl_slice_low rfl _ _ _ _ rfl (k := n) rfl rfl Try.underlying26 size_u8 (Nat.le_refl n) ?_)
  have b2 := HB1.out.set 96 (.int .i64 ((h : Int) + n))
  rw [sm_set_have _ _ _ (absN_length HS.out _) HR2.out] at b2
  have HB2 := hid b2
  have HG2 := hid (grown_set HG1.out 96 (.int .i64 ((h : Int) + n)))
  clear b2
  refine ret_none rfl rfl ⟨rfl, ⟨r2, HR2.out, ?_, ?_⟩, HG2.out⟩
  · have h1 : (t ++ b).length % 32 = h + n := by rw [List.length_append, HM.out, HB.out]; omega
    have h2 : (t ++ b).length / 32 = m := by rw [List.length_append, HM.out, HB.out]; omega
    rw [h1, h2]; exact HRT2.out
  · have h1 : (t ++ b).length % 32 = h + n := by rw [List.length_append, HM.out, HB.out]; omega
    have h2 : (t ++ b).length / 32 = m := by rw [List.length_append, HM.out, HB.out]; omega
    rw [h1, h2, absN_append _ (by rw [HM.out]; omega)]; exact HB2.out

set_option maxRecDepth 100000 in
set_option maxHeartbeats 2000000 in
/-- the block is filled -/
theorem take_c2 (s0 t b1 b2 r : List UInt8) (tot : Int) (g m h n n2 c : Nat) (a : Option Addr) (T : TypeId) (w : World) (hs : s0.length = 64) (hr : r.length = 32) (hb : b2.length = n2) (hb1 : b1.length = 32 - h) (hm : t.length = 32 * m + h) (hh : 0 < h) (hh2 : h < 32)
    (hn : n = 32 - h + n2) (hrt : r.take h = t.drop (32 * m))
    (hB : Blk w g (sm (absN s0 t m) r h tot) T) (hnc : n ≤ c) (hc : c ≤ 140737488355328) (h0 : a = none → n = 0) (hcl : Cells w a ((b1 ++ b2).map u8v)) (haw : n = 0 ∨ ∀ x, a = some x → some x.block ≠ some g) :
    Calls Try.prog 76 #[.pointer (some ⟨g, 0, none⟩), .slice a n c] w (takePost w g T s0 (t ++ b1 ++ b2) tot) := by
  have HS := hid hs
  have HR := hid hr
  have HBB := hid hb
  have HB1L := hid hb1
  have HM := hid hm
  have H0 := hid h0
  have HA := hid (haw.resolve_left (by omega))
  have HC := hid hcl
  have HBL := hid hB
  have HRT := hid hrt
  have HN := hid hn
  have hmm : (t ++ b1).length = 32 * (m + 1) := by rw [List.length_append, hm, hb1]; omega
  have HMM := hid hmm
  have hbl : (r.take h ++ b1) = (t ++ b1).drop (32 * m) := by rw [List.drop_append_of_le_length (by rw [hm]; omega), hrt]
  have hab : absorb (absN s0 t m) (r.take h ++ b1) = absN s0 (t ++ b1) (m + 1) := by
    have h32 : (r.take h ++ b1).length = 32 := by rw [List.length_append, List.length_take, hb1, hr]; omega
    rw [absN, ← hbl, absN_append _ (by rw [hm]; omega), List.take_of_length_le (l := r.take h ++ b1) (by omega)]
  have HAB := hid hab
  have hcb1 : Cells w a (b1.map u8v) := take_cells (m := b2) hcl rfl
  have HCB := hid hcb1
  have hcb2 : Cells w (shift a c (32 - h)) (b2.map u8v) := by
    have h1 := hcl.shift c (32 - h) n2 (by omega)
    rw [← List.map_drop, ← hb1, List.drop_left, List.take_of_length_le (by rw [List.length_map]; omega)] at h1
    rwa [hb1] at h1
  have HCC := hid hcb2
  clear hs hr hb hm h0 haw hcl hB hrt hmm hbl hab hcb1 hcb2 hb1
  have c1 := HBL.out.cell' (sm_have h tot (absN_length HS.out m) HR.out)
  have hd1 : decide ((0 : Int) < (h : Int)) = true := decide_eq_true (by omega)
  have ne : ¬ 32 = h := by omega
  have i0 : (0 : Int) ≤ (h : Int) := by omega
  have i1 : (h : Int) ≤ 32 := by omega
  obtain ⟨j, hj⟩ : ∃ j, 32 - h = j := ⟨_, rfl⟩
  have hk : IntKind.i64.wrap ((h : Int) + j) = 32 := by
    rw [show (h : Int) + j = 32 by omega]; exact IntWalk.i64_in _ (by omega)
  have hmin : j = Nat.min n j := (Nat.min_eq_right (by omega)).symm
  have hlen2 : (b1.map u8v).length = j := by rw [List.length_map, HB1L.out]; exact hj
  have hfit : 64 + h + j ≤ (sm (absN s0 t m) r h tot).length := by rw [sm_length _ _ (absN_length HS.out _) HR.out]; omega
  have hsp := sm_splice (xs := b1) h tot (absN_length (t := t) HS.out m) HR.out h (by rw [HB1L.out]; omega)
  rw [HB1L.out, show h + (32 - h) = 32 by omega, List.drop_of_length_le (by rw [HR.out]; omega), List.append_nil] at hsp
  have hrl : (r.take h ++ b1).length = 32 := by rw [List.length_append, List.length_take, HB1L.out, HR.out]; omega
  generalize r.take h ++ b1 = r2 at *
  have HMI := hid hmin
  have HL2 := hid hlen2
  have HF := hid hfit
  have HSP := hid hsp
  have HR2 := hid hrl
  clear hmin hlen2 hfit hsp hrl
  have hjn : j ≤ n := by omega
  clear hn
  go_enter Try.func76, Try.ntmps76
  go_wp2
  refine wp_region_cls (C := fun w' => ∃ n, w' = w.drewN n) 9 (by kernel_rfl) (by kernel_rfl) ⟨1, rfl⟩ ?_
  simp only [List.take_succ_cons, List.take_zero, List.drop_succ_cons, List.drop_zero]
  iterate 9 quiet_step (fail)
  refine wpQuiet_nil ?_
  rintro _ ⟨nq, rfl⟩
  go_wp2_with (refine wpl_copyc rfl _ _ _ _ rfl rfl rfl (HBL.out.drewN (n := nq)) Try.underlying26 size_u8 HL2.out HMI.out H0.out (HCB.out.ext ((Ext.refl w).drewN nq)) HF.out (one_u8 _) ?_)
  intro w1 k1 u1
  rw [HSP.out] at k1
  have HB1 := hid k1
  have HG1 := hid (grown_upd (grown_drewN (grown_refl w (some g)) nq) u1)
  have f1 := k1.frozen 96
  have c2 := k1.cell' (sm_have h tot (absN_length HS.out m) HR2.out)
  clear k1 u1 c1
  go_wp2_with (refine wpl_slice_low rfl _ _ _ _ rfl (k := j) rfl rfl Try.underlying26 size_u8 hjn ?_)
  have k2 := HB1.out.set 96 (.int .i64 32)
  rw [sm_set_have _ _ _ (absN_length HS.out _) HR2.out] at k2
  have HB2 := hid k2
  have HG2 := hid (grown_set HG1.out 96 (.int .i64 32))
  generalize World.setCell w1 _ _ = w2 at *
  have hsrc : ∀ i, i < 32 → w2.cell? ⟨g, 64 + i, none⟩ = some (.int .u8 ((r2[i]?.getD 0).toNat : Int)) := fun i hi => k2.cell' (sm_rest 32 tot (absN_length HS.out m) HR2.out hi)
  have HSR := hid hsrc
  clear k2 f1 c2 hsrc
  refine (block_c _ r2 _ g g 64 T w2 (absN_length HS.out m) HB2.out HSR.out (.inr (Nat.le_refl _))).mono ?_
  rintro e w3 ⟨rfl, k3, g3⟩
  rw [HAB.out] at k3
  have k3' : Blk w3 g (sm (absN s0 (t ++ b1) (m + 1)) r2 32 tot) T := k3
  have HB3 := hid k3'
  have HG3 := hid (grown_trans HG2.out g3)
  have f3 := k3.frozen 96
  have c3 := k3'.cell' (sm_have 32 tot (absN_length HS.out (m + 1)) HR2.out)
  clear k3 k3' g3
  go_wp2
  have k4 := HB3.out.set 96 (.int .i64 0)
  rw [sm_set_have _ _ _ (absN_length HS.out _) HR2.out] at k4
  have HB4 := hid k4
  have HG4 := hid (grown_set HG3.out 96 (.int .i64 0))
  generalize World.setCell w3 _ _ = w4 at *
  have HC4 := hid (HCC.out.grown HG4.out (shift_away HA.out))
  have HA4 : Hid (n2 = 0 ∨ ∀ x, shift a c (32 - h) = some x → some x.block ≠ some g) := hid (.inr (shift_away (c := c) (k := 32 - h) HA.out))
  rw [hj] at HC4 HA4
  have hn2 : n - j = n2 := by have := HN.out; omega
  have H04 : Hid (shift a c j = none → n2 = 0) := hid fun e => by have := H0.out (shift_nil.1 e); omega
  rw [hn2]
  clear k4 f3 c3 HB3 HB2 HG3 HG2 HSR HB1 HG1
  generalize shift a c j = a4 at *
  obtain ⟨tt, htt⟩ : ∃ tt, t ++ b1 = tt := ⟨_, rfl⟩
  obtain ⟨m1, hm1⟩ : ∃ m1, m + 1 = m1 := ⟨_, rfl⟩
  obtain ⟨cc, hcc1⟩ : ∃ cc, c - j = cc := ⟨_, rfl⟩
  rw [htt, hm1] at HB4 HMM
  rw [htt, hcc1]
  have hncc : n2 ≤ cc := by omega
  go_loopw [1] (fun x wr => ∃ (k n' c' : Nat) (a' : Option Addr), x = .slice a' n' c' ∧ n' + 32 * k = n2 ∧ n' ≤ c' ∧ c' ≤ cc ∧ Hid (a' = none → n' = 0) ∧ Hid (n' = 0 ∨ ∀ x, a' = some x → some x.block ≠ some g) ∧
      Hid (Cells wr a' ((b2.drop (32 * k)).map u8v)) ∧ Hid (Blk wr g (sm (absN s0 (tt ++ b2) (m1 + k)) r2 0 tot) T) ∧ Hid (w.grownBy wr (some g)))
    (fun x _ => sliceLen x)
  case atStart => exact ⟨0, n2, cc, a4, rfl, by omega, hncc, by omega, H04, HA4, hid (by rw [Nat.mul_zero, List.drop_zero]; exact HC4.out), hid (by rw [Nat.add_zero, absN_append _ (by rw [HMM.out]; omega)]; exact HB4.out), HG4⟩
  case round =>
    obtain ⟨k, n', c', a', rfl, hk, hnc', hcc', h0', ha', hc', hb', hg'⟩ := hrel
    by_cases hlt : 32 ≤ n'
    · have hd : decide ((32 : Int) ≤ (n' : Int)) = true := decide_eq_true (by omega)
      have hlen : (b2.drop (32 * k)).length = n' := by rw [List.length_drop, HBB.out]; omega
      have hne : a' ≠ none := fun e => by have := h0'.out e; omega
      obtain ⟨gb, off, rfl, hcell⟩ := hc'.out.some_of (by rw [List.length_map, hlen]; omega)
      have haw2 := ha'.out.resolve_left (by omega)
      have hgb : gb ≠ g := fun e => haw2 _ rfl (by rw [e])
      have HA2 := hid haw2
      clear haw2
      have har := run_arrayAt (P := Try.prog) Try.underlying34 (len := n') hlt
      have hsrc : ∀ i, i < 32 → wr.cell? ⟨gb, off + i, none⟩ = some (.int .u8 ((((b2.drop (32 * k)).take 32)[i]?.getD 0).toNat : Int)) := by
        intro i hi
        refine hcell i _ ?_
        rw [List.getElem?_take_of_lt hi]
        exact u8_at (by omega)
      have HSR := hid hsrc
      clear hsrc hcell hne
      have HL := hid hlen
      clear hlen
      go_wp2_with fail
      refine (block_c _ ((b2.drop (32 * k)).take 32) _ g gb off T wr (absN_length HS.out _) hb'.out HSR.out (.inl hgb)).mono ?_
      rintro e w1 ⟨rfl, b1, g1⟩
      have hst : absorb (absN s0 (tt ++ b2) (m1 + k)) ((b2.drop (32 * k)).take 32) = absN s0 (tt ++ b2) (m1 + (k + 1)) := by
        rw [← Nat.add_assoc, absN, drop_behind HMM.out]
      rw [hst] at b1
      have HB1 := hid b1
      clear b1 hst
      have HG1 := hid (grown_trans hg'.out g1)
      have hc1 := hid (hc'.out.grown g1 HA2.out)
      clear g1
      go_wp2_with (refine wpl_slice_low rfl _ _ _ _ rfl (k := 32) rfl rfl Try.underlying26 size_u8 hlt ?_)
      go_roundw
      case rel =>
        refine ⟨k + 1, n' - 32, c' - 32, _, rfl, by omega, by omega, by omega, hid fun e => ?_, hid (.inr (shift_away HA2.out)), hid ?_, HB1, HG1⟩
        · have := h0'.out (shift_nil.1 e); omega
        · have h1 := hc1.out.shift c' 32 (n' - 32) (by omega)
          rw [← List.map_drop, List.drop_drop, List.take_of_length_le (by rw [List.length_map, List.length_drop, HBB.out]; omega)] at h1
          rwa [show 32 * k + 32 = 32 * (k + 1) by omega] at h1
      case measure => simp [sliceLen]; omega
    · have hd : decide ((32 : Int) ≤ (n' : Int)) = false := decide_eq_false (by omega)
      have hlen : (b2.drop (32 * k)).length = n' := by rw [List.length_drop, HBB.out]; omega
      have hlen2 : ((b2.drop (32 * k)).map u8v).length = n' := by rw [List.length_map, hlen]
      have hmin : n' = Nat.min n' 32 := (Nat.min_eq_left (by omega)).symm
      have HMI3 := hid hmin
      clear hmin
      have hfit : 64 + n' ≤ (sm (absN s0 (tt ++ b2) (m1 + k)) r2 0 tot).length := by rw [sm_length _ _ (absN_length HS.out _) HR2.out]; omega
      have HF3 := hid hfit
      clear hfit
      have hsp := sm_splice (xs := b2.drop (32 * k)) 0 tot (absN_length (t := tt ++ b2) HS.out (m1 + k)) HR2.out 0 (by rw [hlen]; omega)
      rw [List.take_zero, List.nil_append, Nat.add_zero, Nat.zero_add, hlen] at hsp
      have hrl : (b2.drop (32 * k) ++ r2.drop n').length = 32 := by rw [List.length_append, hlen, List.length_drop, HR2.out]; omega
      have hrt : (b2.drop (32 * k) ++ r2.drop n').take n' = b2.drop (32 * k) := by rw [← hlen, List.take_left]
      have hdb := drop_behind (b := b2) (k := k) HMM.out
      generalize b2.drop (32 * k) = bb at *
      have HDB := hid hdb
      have HL := hid hlen
      clear hlen hdb
      have HL3 := hid hlen2
      clear hlen2
      generalize hr3 : bb ++ r2.drop n' = r3 at *
      have HRT3 := hid hrt
      have HR3 := hid hrl
      have HSP3 := hid hsp
      clear hrt hrl hsp hr3
      go_wp2_with (refine wpl_copyc rfl _ _ _ _ rfl rfl rfl hb'.out Try.underlying26 size_u8 HL3.out HMI3.out h0'.out hc'.out HF3.out (one_u8 _) ?_)
      intro w1 b1 u1
      rw [HSP3.out] at b1
      have f1 := b1.frozen 96
      have c1 := b1.cell' (sm_have 0 tot (absN_length HS.out (m1 + k)) HR3.out)
      go_wp2
      have b5 := b1.set 96 (.int .i64 (n' : Int))
      rw [sm_set_have _ _ _ (absN_length HS.out _) HR3.out] at b5
      have HB5 := hid b5
      have HG5 := hid (grown_set (grown_upd hg'.out u1) 96 (.int .i64 (n' : Int)))
      clear b5
      refine end_none rfl rfl ⟨rfl, ⟨r3, HR3.out, ?_, ?_⟩, HG5.out⟩
      · have h1 : (tt ++ b2).length % 32 = n' := by rw [List.length_append, HMM.out, HBB.out]; omega
        have h2 : (tt ++ b2).length / 32 = m1 + k := by rw [List.length_append, HMM.out, HBB.out]; omega
        rw [h1, h2, HDB.out]; exact HRT3.out
      · have h1 : (tt ++ b2).length % 32 = n' := by rw [List.length_append, HMM.out, HBB.out]; omega
        have h2 : (tt ++ b2).length / 32 = m1 + k := by rw [List.length_append, HMM.out, HBB.out]; omega
        rw [h1, h2]; exact HB5.out
end Go.Proofs.Ytjgglnflicemjaa
