/- The Summer's take; conditions: the octets' number, and where they lie. -/
import Derived.Test.YtjgglnflicemjaaP2
namespace Go.Proofs.Ytjgglnflicemjaa
open Go Go.RowKit

/-- the state behind the first n blocks -/
def absN (s t : List UInt8) : Nat → List UInt8
  | 0 => s
  | n + 1 => absorb (absN s t n) ((t.drop (32 * n)).take 32)
theorem absN_length {s t : List UInt8} (hs : s.length = 64) (n : Nat) : (absN s t n).length = 64 := by
  cases n with
  | zero => exact hs
  | succ n => exact absorb_length _ _
theorem absN_append {s t b : List UInt8} (n : Nat) (h : 32 * n ≤ t.length) : absN s (t ++ b) n = absN s t n := by
  induction n with
  | zero => rfl
  | succ n ih =>
    rw [absN, absN, ih (by omega), List.drop_append_of_le_length (by omega), List.take_append_of_le_length (by rw [List.length_drop]; omega)]

/-- block g is a Summer that began with s0 and took t -/
def Holds (w : World) (g : Nat) (T : TypeId) (s0 t : List UInt8) (tot : Int) : Prop :=
  ∃ r : List UInt8, r.length = 32 ∧ r.take (t.length % 32) = t.drop (32 * (t.length / 32)) ∧ Blk w g (sm (absN s0 t (t.length / 32)) r (t.length % 32 : Nat) tot) T

theorem field_have {w : World} {g : Nat} {T : TypeId} {s r : List UInt8} {h t : Int} (hb : Blk w g (sm s r h t) T) (hs : s.length = 64) (hr : r.length = 32) :
    w.cell? ⟨g, 96, none⟩ = some (.int .i64 h) := hb.cell' (sm_have h t hs hr)

theorem u8_at {l : List UInt8} {i : Nat} (h : i < l.length) : (l.map u8v)[i]? = some (.int .u8 ((l[i]?.getD 0).toNat : Int)) := by simp [h, u8v]
theorem drop_behind {t b : List UInt8} {m k : Nat} (h : t.length = 32 * m) : (t ++ b).drop (32 * (m + k)) = b.drop (32 * k) := by
  rw [List.drop_append, List.drop_of_length_le (by rw [h]; omega), List.nil_append, h, show 32 * (m + k) - 32 * m = 32 * k by omega]
def sliceLen : Value → Nat
  | .slice _ n _ => n
  | _ => 0

def takePost (w : World) (g : Nat) (T : TypeId) (s0 u : List UInt8) (tot : Int) (e : Ending) (w' : World) : Prop :=
  e = .returned (.tuple #[]) ∧ Holds w' g T s0 u tot ∧ w.grownBy w' (some g)

set_option maxRecDepth 100000 in
set_option maxHeartbeats 1000000 in
/-- with nothing ahead -/
theorem take_c0 (s0 t b r : List UInt8) (tot : Int) (g m n c : Nat) (a : Option Addr) (T : TypeId) (w : World) (hs : s0.length = 64) (hr : r.length = 32) (hb : b.length = n) (hm : t.length = 32 * m)
    (hB : Blk w g (sm (absN s0 t m) r 0 tot) T) (hn : n ≤ 140737488355328) (hnc : n ≤ c) (hc : c ≤ 140737488355328) (h0 : a = none → n = 0) (hcl : Cells w a (b.map u8v)) (haw : n = 0 ∨ ∀ x, a = some x → some x.block ≠ some g) :
    Calls Try.prog 76 #[.pointer (some ⟨g, 0, none⟩), .slice a n c] w (takePost w g T s0 (t ++ b) tot) := by
  have HS := hid hs
  clear hs
  have HB := hid hb
  clear hb
  have HM := hid hm
  clear hm
  have HR := hid hr
  clear hr
  have H0 := hid h0
  clear h0
  have HA := hid haw
  clear haw
  have HC := hid hcl
  clear hcl
  have c1 := hB.cell' (sm_have 0 tot (absN_length HS.out m) HR.out)
  go_enter Try.func76, Try.ntmps76
  go_wp2
  clear c1
  go_loopw [1] (fun x wr => ∃ (k n' c' : Nat) (a' : Option Addr), x = .slice a' n' c' ∧ n' + 32 * k = n ∧ n' ≤ c' ∧ c' ≤ c ∧ Hid (a' = none → n' = 0) ∧ Hid (n' = 0 ∨ ∀ x, a' = some x → some x.block ≠ some g) ∧
      Hid (Cells wr a' ((b.drop (32 * k)).map u8v)) ∧ Hid (Blk wr g (sm (absN s0 (t ++ b) (m + k)) r 0 tot) T) ∧ Hid (w.grownBy wr (some g)))
    (fun x _ => sliceLen x)
  case atStart => exact ⟨0, n, c, a, rfl, by omega, hnc, by omega, H0, HA, HC, hid (by rw [Nat.add_zero, absN_append _ (by rw [HM.out]; omega)]; exact hB), hid (grown_refl _ _)⟩
  case round =>
    obtain ⟨k, n', c', a', rfl, hk, hnc', hcc', h0', ha', hc', hb', hg'⟩ := hrel
    by_cases hlt : 32 ≤ n'
    · have hd : decide ((32 : Int) ≤ (n' : Int)) = true := decide_eq_true (by omega)
      have hlen : (b.drop (32 * k)).length = n' := by rw [List.length_drop, HB.out]; omega
      have hne : a' ≠ none := fun e => by have := h0'.out e; omega
      obtain ⟨gb, off, rfl, hcell⟩ := hc'.out.some_of (by rw [List.length_map, hlen]; omega)
      have haw2 := ha'.out.resolve_left (by omega)
      have hgb : gb ≠ g := fun e => haw2 _ rfl (by rw [e])
      have HA2 := hid haw2
      clear haw2
      have har := run_arrayAt (P := Try.prog) Try.underlying34 (len := n') hlt
      have hsrc : ∀ i, i < 32 → wr.cell? ⟨gb, off + i, none⟩ = some (.int .u8 ((((b.drop (32 * k)).take 32)[i]?.getD 0).toNat : Int)) := by
        intro i hi
        refine hcell i _ ?_
        rw [List.getElem?_take_of_lt hi]
        exact u8_at (by omega)
      have HSR := hid hsrc
      clear hsrc hcell hne
      have HL := hid hlen
      clear hlen
      go_wp2_with fail
      refine (block_c _ ((b.drop (32 * k)).take 32) _ g gb off T wr (absN_length HS.out _) hb'.out HSR.out (.inl hgb)).mono ?_
      rintro e w1 ⟨rfl, b1, g1⟩
      have hst : absorb (absN s0 (t ++ b) (m + k)) ((b.drop (32 * k)).take 32) = absN s0 (t ++ b) (m + (k + 1)) := by
        rw [← Nat.add_assoc, absN, drop_behind HM.out]
      rw [hst] at b1
      have HB1 := hid b1
      clear b1 hst
      have HG1 := hid (grown_trans hg'.out g1)
      have hc1 := hid (hc'.out.grown g1 HA2.out)
      clear g1
      go_wp2_with (refine wpl_slice_low rfl _ _ _ _ rfl (k := 32) rfl rfl Try.underlying26 size_u8 hlt ?_)
      go_roundw
      case rel =>
        refine ⟨k + 1, n' - 32, c' - 32, _, rfl, by omega, by omega, by omega, hid fun e => ?_, hid (.inr (shift_away HA2.out)), hid ?_, HB1, HG1⟩
        · have := h0'.out (shift_nil.1 e); omega
        · have h1 := hc1.out.shift c' 32 (n' - 32) (by omega)
          rw [← List.map_drop, List.drop_drop, List.take_of_length_le (by rw [List.length_map, List.length_drop, HB.out]; omega)] at h1
          rwa [show 32 * k + 32 = 32 * (k + 1) by omega] at h1
      case measure => simp [sliceLen]; omega
    · have hd : decide ((32 : Int) ≤ (n' : Int)) = false := decide_eq_false (by omega)
      have hlen : (b.drop (32 * k)).length = n' := by rw [List.length_drop, HB.out]; omega
      have hlen2 : ((b.drop (32 * k)).map u8v).length = n' := by rw [List.length_map, hlen]
      have hmin : n' = Nat.min n' 32 := (Nat.min_eq_left (by omega)).symm
      have HMI := hid hmin
      clear hmin
      have hfit : 64 + n' ≤ (sm (absN s0 (t ++ b) (m + k)) r 0 tot).length := by rw [sm_length _ _ (absN_length HS.out _) HR.out]; omega
      have HF := hid hfit
      clear hfit
      have hsp := sm_splice (xs := b.drop (32 * k)) 0 tot (absN_length (t := t ++ b) HS.out (m + k)) HR.out 0 (by rw [hlen]; omega)
      rw [List.take_zero, List.nil_append, Nat.add_zero, Nat.zero_add, hlen] at hsp
      have hrl : (b.drop (32 * k) ++ r.drop n').length = 32 := by rw [List.length_append, hlen, List.length_drop, HR.out]; omega
      have hrt : (b.drop (32 * k) ++ r.drop n').take n' = b.drop (32 * k) := by rw [← hlen, List.take_left]
      have hdb := drop_behind (b := b) (k := k) HM.out
      generalize b.drop (32 * k) = bb at *
      have HDB := hid hdb
      have HL := hid hlen
      clear hlen hdb
      have HL2 := hid hlen2
      clear hlen2
      generalize hr2 : bb ++ r.drop n' = r2 at *
      have HRT := hid hrt
      have HR2 := hid hrl
      have HSP := hid hsp
      clear hrt hrl hsp hr2
      go_wp2_with (refine wpl_copyc rfl _ _ _ _ rfl rfl rfl hb'.out Try.underlying26 size_u8 HL2.out HMI.out h0'.out hc'.out HF.out (one_u8 _) ?_)
      intro w1 b1 u1
      rw [HSP.out] at b1
      have f1 := b1.frozen 96
      have c1 := b1.cell' (sm_have 0 tot (absN_length HS.out (m + k)) HR2.out)
      go_wp2
      have b2 := b1.set 96 (.int .i64 (n' : Int))
      rw [sm_set_have _ _ _ (absN_length HS.out _) HR2.out] at b2
      have HB2 := hid b2
      have HG2 := hid (grown_set (grown_upd hg'.out u1) 96 (.int .i64 (n' : Int)))
      clear b2
      refine end_none rfl rfl ⟨rfl, ⟨r2, HR2.out, ?_, ?_⟩, HG2.out⟩
      · have h1 : (t ++ b).length % 32 = n' := by rw [List.length_append, HM.out, HB.out]; omega
        have h2 : (t ++ b).length / 32 = m + k := by rw [List.length_append, HM.out, HB.out]; omega
        rw [h1, h2, HDB.out]; exact HRT.out
      · have h1 : (t ++ b).length % 32 = n' := by rw [List.length_append, HM.out, HB.out]; omega
        have h2 : (t ++ b).length / 32 = m + k := by rw [List.length_append, HM.out, HB.out]; omega
        rw [h1, h2]; exact HB2.out
end Go.Proofs.Ytjgglnflicemjaa
