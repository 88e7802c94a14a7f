/- The Summer's block; conditions: the lengths, and where the octets lie. -/
import Derived.Test.YtjgglnflicemjaaS6
import Derived.Laws.AppendOwn
namespace Go.Proofs.Ytjgglnflicemjaa
open Go Go.RowKit

/-- the first i octets of b, exclusive or -/
def mixTo (s b : List UInt8) : Nat → List UInt8
  | 0 => s
  | i + 1 => (mixTo s b i).set i (xor8 ((mixTo s b i)[i]?.getD 0) (b[i]?.getD 0))
theorem mixTo_length (s b : List UInt8) (i : Nat) : (mixTo s b i).length = s.length := by
  induction i with
  | zero => rfl
  | succ i ih => simp [mixTo, ih]
/-- the end of a function without results -/
theorem end_none {P : Program} {fn : Func} {R : Ending → World → Prop} {a : Act} {w : World} (hr : fn.results = #[]) (hd : a.defers = []) (hR : R (.returned (.tuple #[])) w) : bodyPost P fn R .normal a w := by
  unfold bodyPost
  simp [hd, results_none hr, hR]
/-- a block taken into the state -/
def absorb (s b : List UInt8) : List UInt8 := stirL (mixTo s b 32)
theorem stirL_length (l : List UInt8) : (stirL l).length = 64 := by simp [stirL, stateL_length]
theorem absorb_length (s b : List UInt8) : (absorb s b).length = 64 := stirL_length _

theorem grown_refl (w : World) (r : Option Nat) : w.grownBy w r := ⟨rfl, rfl, rfl, Nat.le_refl _, fun _ _ _ => rfl⟩
theorem grown_drewN {w w' : World} {r : Option Nat} (h : w.grownBy w' r) (n : Nat) : w.grownBy (w'.drewN n) r := ⟨h.os, h.tape, h.output, h.size, h.block⟩
theorem grown_set {w w' : World} {g : Nat} (h : w.grownBy w' (some g)) (i : Nat) (v : Value) : w.grownBy (w'.setCell ⟨g, i, none⟩ v) (some g) :=
  ⟨h.os, h.tape, h.output, by simp [World.setCell]; exact h.size, fun k hk hn => by rw [Below.heap_setCell _ _ _ _ (fun e => hn (by rw [e]))]; exact h.block k hk hn⟩
theorem grown_ext {w w1 w2 : World} {r : Option Nat} (h : w.grownBy w1 r) (k : Ext w1 w2) : w.grownBy w2 r :=
  ⟨k.os.trans h.os, k.tape.trans h.tape, k.output.trans h.output, Nat.le_trans h.size k.size, fun i hi hn => (k.block i (Nat.lt_of_lt_of_le hi h.size)).trans (h.block i hi hn)⟩
theorem grown_upd {w w1 w2 : World} {g : Nat} (h : w.grownBy w1 (some g)) (k : Upd w1 g w2) : w.grownBy w2 (some g) :=
  ⟨k.os.trans h.os, k.tape.trans h.tape, k.output.trans h.output, by rw [k.size]; exact h.size, fun i hi hn => (k.block i (fun e => hn (by rw [e]))).trans (h.block i hi hn)⟩

/-- the octet behind place i, wherever it lies -/
theorem mix_cell {w : World} {g : Nat} {l : List UInt8} {tl : List Value} {T : TypeId} (h : Blk w g (l.map u8v ++ tl) T) {i : Nat} (hi : i < l.length) :
    w.cell? ⟨g, i, none⟩ = some (.int .u8 ((l[i]?.getD 0).toNat : Int)) := by
  refine h.cell' ?_
  rw [List.getElem?_append_left (by simpa using hi)]
  simp [hi, u8v]
theorem mix_set {w : World} {g : Nat} {l : List UInt8} {tl : List Value} {T : TypeId} (h : Blk w g (l.map u8v ++ tl) T) {i : Nat} (hi : i < l.length) (x : UInt8) :
    Blk (w.setCell ⟨g, i, none⟩ (.int .u8 (x.toNat : Int))) g ((l.set i x).map u8v ++ tl) T := by
  have := h.set i (u8v x)
  rwa [List.set_append_left _ _ (by simpa using hi), ← List.map_set] at this

set_option maxRecDepth 100000 in
set_option maxHeartbeats 1000000 in
theorem block_c (s b : List UInt8) (tl : List Value) (g gb off : Nat) (T : TypeId) (w : World) (hs : s.length = 64) (hB : Blk w g (s.map u8v ++ tl) T)
    (hsrc : ∀ i, i < 32 → w.cell? ⟨gb, off + i, none⟩ = some (.int .u8 ((b[i]?.getD 0).toNat : Int))) (hne : gb ≠ g ∨ 64 ≤ off) :
    Calls Try.prog 89 #[.pointer (some ⟨g, 0, none⟩), .pointer (some ⟨gb, off, none⟩)] w fun e w' =>
      e = .returned (.tuple #[]) ∧ Blk w' g ((absorb s b).map u8v ++ tl) T ∧ w.grownBy w' (some g) := by
  have HS := hid hs
  clear hs
  have SRC := hid hsrc
  clear hsrc
  go_enter Try.func89, Try.ntmps89
  go_wp2
  go_loopw [7] (fun x wr => ∃ i : Nat, i ≤ 32 ∧ x = .int .i64 i ∧ Blk wr g ((mixTo s b i).map u8v ++ tl) T ∧ w.grownBy wr (some g)
      ∧ ∀ j, j < 32 → wr.cell? ⟨gb, off + j, none⟩ = some (.int .u8 ((b[j]?.getD 0).toNat : Int)))
    (fun x _ => 32 - (intOf x).toNat)
  case atStart => exact ⟨0, by omega, rfl, hB, grown_refl _ _, SRC.out⟩
  case round =>
    obtain ⟨i, hi, rfl, q1, q2, q3⟩ := hrel
    by_cases hlt : i < 32
    · have hd : decide ((i : Int) < 32) = true := decide_eq_true (by omega)
      have c1 := q3 i hlt
      have i0 : (0 : Int) ≤ (i : Int) := by omega
      have i1 : (i : Int) < 32 := by omega
      have i2 : (i : Int) < 64 := by omega
      have hlen : (mixTo s b i).length = 64 := by rw [mixTo_length]; exact HS.out
      generalize hws : mixTo s b i = ws at *
      have c2 := mix_cell q1 (i := i) (by omega)
      have f2 := q1.frozen i
      have hxo := xor8_b (ws[i]?.getD 0) (b[i]?.getD 0)
      go_wp2
      refine wp_region_cls (C := fun w' => ∃ n, w' = wr.drewN n) 6 (by kernel_rfl) (by kernel_rfl) ⟨1, rfl⟩ ?_
      simp only [List.take_succ_cons, List.take_zero, List.drop_succ_cons, List.drop_zero]
      iterate 6 quiet_step (fail)
      refine wpQuiet_nil ?_
      rintro _ ⟨nq, rfl⟩
      go_wp2
      refine wp_region_cls (C := fun w' => ∃ n, w' = wr.drewN n) 11 (by kernel_rfl) (by kernel_rfl) ⟨nq + 1, rfl⟩ ?_
      simp only [List.take_succ_cons, List.take_zero, List.drop_succ_cons, List.drop_zero]
      iterate 11 quiet_step (fail)
      refine wpQuiet_nil ?_
      rintro _ ⟨nr, rfl⟩
      go_wp2
      have q1' := mix_set (q1.drewN (n := nr)) (i := i) (by omega) (xor8 (ws[i]?.getD 0) (b[i]?.getD 0))
      have q2' := grown_set (grown_drewN q2 nr) i (.int .u8 ((xor8 (ws[i]?.getD 0) (b[i]?.getD 0)).toNat : Int))
      have q3' : ∀ j, j < 32 → ((wr.drewN nr).setCell ⟨g, i, none⟩ (.int .u8 ((xor8 (ws[i]?.getD 0) (b[i]?.getD 0)).toNat : Int))).cell? ⟨gb, off + j, none⟩ = some (.int .u8 ((b[j]?.getD 0).toNat : Int)) := by
        intro j hj
        rw [← q3 j hj, World.cell?_setCell_other _ _ _ _ (by intro e; simp only [Addr.mk.injEq] at e; omega)]
        rfl
      go_roundw
      case rel => exact ⟨i + 1, by omega, by go_num, by rw [mixTo, hws]; exact q1', q2', q3'⟩
      case measure => simp [intOf]; omega
    · obtain rfl : i = 32 := by omega
      have hlen : ((mixTo s b 32).map u8v).length = 64 := by rw [List.length_map, mixTo_length]; exact HS.out
      have hd1 : ((List.drop 0 ((mixTo s b 32).map u8v ++ tl)).take 64) = (mixTo s b 32).map u8v := by
        rw [List.drop_zero, List.take_append_of_le_length (by omega), List.take_of_length_le (by omega)]
      go_wp2_with (refine wpl_load rfl _ _ rfl rfl q1 agg_state (n := 64) (by simp [mixTo_length, HS.out]) ?_)
      refine (stir_c (mixTo s b 32) (by rw [mixTo_length]; exact HS.out) wr).mono ?_
      rw [show stirL (mixTo s b 32) = absorb s b from rfl]
      rintro e w1 ⟨rfl, e1⟩
      have hla : ((absorb s b).map u8v).length = 64 := by rw [List.length_map, absorb_length]
      generalize hr : absorb s b = r at *
      have hfit : 0 + (r.map u8v).length ≤ ((mixTo s b 32).map u8v ++ tl).length := by rw [List.length_append]; omega
      go_wp2_with (refine wpl_store rfl _ _ _ rfl rfl rfl (q1.ext e1) (by rw [hla]; exact agg_state) hfit (one_u8 _) ?_)
      intro w2 b2 u2
      have hsp : splice ((mixTo s b 32).map u8v ++ tl) 0 (r.map u8v) = r.map u8v ++ tl := by
        unfold splice
        rw [List.take_zero, List.nil_append, hla, ← hlen, Nat.zero_add, List.drop_left]
      rw [hsp] at b2
      have gr := grown_upd (grown_ext q2 e1) u2
      go_wp2
      exact end_none rfl rfl ⟨rfl, by rw [hr]; exact b2, gr⟩
end Go.Proofs.Ytjgglnflicemjaa
