/- Hex, and that the first chapter is there; condition: the slice's size. -/
import Derived.Test.YthfddfgncolnbaaDoorS2
import Derived.Laws.BytesArg
import Derived.Laws.OwnMore
namespace Go.Proofs.YthfddfgncolnbaaDoor
open Go Go.RowKit

def hexd (n : Nat) : UInt8 := if n < 10 then UInt8.ofNat (48 + n) else UInt8.ofNat (87 + n)
def hex2 (b : UInt8) : List UInt8 := [hexd (b.toNat / 16), hexd (b.toNat % 16)]
def hexL (l : List UInt8) : List UInt8 := l.flatMap hex2
theorem hexL_length (l : List UInt8) : (hexL l).length = 2 * l.length := by
  induction l with
  | nil => rfl
  | cons x l ih => simp only [hexL, List.flatMap_cons, List.length_append, List.length_cons] at *; rw [ih]; simp [hex2]; omega
theorem hexL_snoc (l : List UInt8) (k : Nat) (h : k < l.length) : hexL (l.take (k + 1)) = hexL (l.take k) ++ hex2 (l[k]?.getD 0) := by
  rw [List.take_succ_eq_append_getElem h, hexL, List.flatMap_append]
  simp [hexL, h]

def digitsStr : ByteArray := { data := #[48, 49, 50, 51, 52, 53, 54, 55, 56, 57, 97, 98, 99, 100, 101, 102] }
theorem digits_at (k : Nat) (h : k < 16) : digitsStr[k]? = some (hexd k) := by
  have : ∀ k : Fin 16, digitsStr[k.val]? = some (hexd k.val) := by decide
  exact this ⟨k, h⟩
theorem run_digits (k : Nat) (h : k < 16) (w : World) : (Instr.index 9 (.string { data := #[48, 49, 50, 51, 52, 53, 54, 55, 56, 57, 97, 98, 99, 100, 101, 102] }) (.int .u8 (k : Int))).run Tryd.prog w = .ok (.int .u8 ((hexd k).toNat : Nat)) w := by
  have hd := digits_at k h
  unfold digitsStr at hd
  simp [Instr.index, asIntOf, run_underlying Tryd.underlying9, hd]

theorem and15_u8 (b : UInt8) : bits .and .u8 (b.toNat : Int) 15 = (b.toNat : Int) % 16 := by
  have h := b.toNat_lt
  have e : (15 : Int) = ((15 : Nat) : Int) := rfl
  rw [e, (bits_u8 _ 15 h (by omega)).2.2, Nat.and_two_pow_sub_one_eq_mod b.toNat 4]; omega
theorem run_digits2 (b : UInt8) : (∀ w, (Instr.index 9 (.string { data := #[48, 49, 50, 51, 52, 53, 54, 55, 56, 57, 97, 98, 99, 100, 101, 102] }) (.int .u8 ((b.toNat : Int) / 16))).run Tryd.prog w = .ok (.int .u8 ((hexd (b.toNat / 16)).toNat : Nat)) w) ∧
    (∀ w, (Instr.index 9 (.string { data := #[48, 49, 50, 51, 52, 53, 54, 55, 56, 57, 97, 98, 99, 100, 101, 102] }) (.int .u8 ((b.toNat : Int) % 16))).run Tryd.prog w = .ok (.int .u8 ((hexd (b.toNat % 16)).toNat : Nat)) w) ∧
    bits .and .u8 (b.toNat : Int) 15 = (b.toNat : Int) % 16 := by
  have h := b.toNat_lt
  have e1 : (b.toNat : Int) / 16 = ((b.toNat / 16 : Nat) : Int) := by omega
  have e2 : (b.toNat : Int) % 16 = ((b.toNat % 16 : Nat) : Int) := by omega
  rw [and15_u8, e1, e2]
  exact ⟨run_digits _ (by omega), run_digits _ (by omega), rfl⟩

theorem info_u8 : (Tryd.prog.info? 5).map (fun i => (i.zero, i.size, i.bytes)) = some (some (.int .u8 0), 1, 1) := by kernel_rfl

/-- string of octets -/
def strOf (l : List UInt8) : ByteArray := ⟨l.toArray⟩

theorem ints_back (l : List UInt8) : ((l.map fun b => (b.toNat : Int)).map fun n => UInt8.ofNat n.toNat) = l := by
  rw [List.map_map]
  conv => rhs; rw [← List.map_id l]
  apply List.map_congr_left
  intro b _
  simp

theorem run_string_of (w : World) (a : Option Addr) (l : List UInt8) (n c : Nat) (h : Cells w a (l.map u8v)) (hn : n = l.length) :
    (convert 32 9 (.slice a n c)).run Tryd.prog w = .ok (.string (strOf l)) w := by
  subst hn
  have hm : (l.map fun b => (b.toNat : Int)).map (Value.int .u8) = l.map u8v := by
    rw [List.map_map]; rfl
  have main : ∀ x : Addr, (loadCells x l.length).run Tryd.prog w = .ok (l.map u8v).toArray w → (convert 32 9 (.slice (some x) l.length c)).run Tryd.prog w = .ok (.string (strOf l)) w := by
    intro x hl
    rw [run_convert_bytes_string w 32 9 5 (some x) l.length c Tryd.underlying32 Tryd.underlying5 Tryd.underlying9,
      run_bytesToString w x l.length c (l.map fun b => (b.toNat : Int)) (by rw [hm]; exact hl), foldl_push_bytes, ints_back]
    simp [strOf, ByteArray.empty, ByteArray.emptyWithCapacity]
    rfl
  rcases h with h | ⟨b, off, rfl, h⟩
  · have hl : l = [] := by simpa using h
    subst hl
    cases a with
    | none => exact run_convert_bytes_nil w 32 5 Tryd.underlying32 Tryd.underlying5 _ _ _ Tryd.underlying9
    | some x => exact main x (by simpa using run_loadCells_list (P := Tryd.prog) w x [] (by simp))
  · refine main _ ?_
    have := run_loadCells_list (P := Tryd.prog) w ⟨b, off, none⟩ (l.map u8v) (fun j v hj => by
      have hplain : (⟨b, off, none⟩ : Addr).add j = ⟨b, off + j, none⟩ := by unfold Addr.add; split <;> simp_all
      rw [hplain]; exact h j v hj)
    simpa using this

set_option maxRecDepth 100000 in
set_option maxHeartbeats 1000000 in
theorem hex_c (l : List UInt8) (a : Option Addr) (c : Nat) (w : World) (hl : l.length ≤ 140737488351232) (hc : Cells w a (l.map u8v)) :
    Calls Tryd.prog 8 #[.slice a l.length c] w fun e w' => e = .returned (.string (strOf (hexL l))) ∧ Ext w w' := by
  obtain ⟨i0, hi, hz0, hz1, hz2⟩ := info_parts info_u8
  have HC := hid hc
  clear hc
  obtain ⟨n, hn⟩ : ∃ n, l.length = n := ⟨_, rfl⟩
  have HN := hid hn
  rw [hn] at hl ⊢
  clear hn
  go_enter Tryd.func8, Tryd.ntmps8
  go_wp2_with (at_make; refine wpList_make_own _ rfl _ _ 32 rfl w.heap.size 5 i0 (.int .u8 0) 1 Tryd.underlying32 hi hz0 hz1 _ _ _ (2 * n) rfl rfl (by omega) (by rw [hz2]; omega) (by unfold maxLen; omega) (Nat.le_refl _) ?_)
  intro w1 own1 gr1
  have e1 : Ext w w1 := (Ext.refl w).grown gr1 (fun g h => by cases h)
  clear gr1
  go_wp2
  go_loopw [12, 3] (fun x v wr => ∃ k : Nat, k ≤ n ∧ x = .int .i64 k ∧ v = .slice (some ⟨w.heap.size, 0, none⟩) (2 * k) (2 * n) ∧ wr.ownsRow w.heap.size 5 1 v (2 * k) ((hexL (l.take k)).map u8v) ∧ Ext w wr)
    (fun x _ _ => n - (intOf x).toNat)
  case atStart => exact ⟨0, by omega, rfl, rfl, by simpa [hexL] using own1, e1⟩
  case round =>
    obtain ⟨k, hk, rfl, rfl, own, bb⟩ := hrel
    by_cases hlt : k < n
    · obtain ⟨b, off, rfl, hcell⟩ := (HC.out.ext bb).some_of (by rw [List.length_map, HN.out]; omega)
      have hc1 : wr.cell? ⟨b, off + k, none⟩ = some (.int .u8 ((l[k]?.getD 0).toNat : Nat)) := hcell k _ (by simp [u8v, HN.out, hlt])
      clear hcell
      have h8 := u8_lt (l[k]?.getD 0)
      obtain ⟨r1, r2, r3⟩ := run_digits2 (l[k]?.getD 0)
      have hs := hexL_snoc l k (by rw [HN.out]; exact hlt)
      have HS := hid hs
      clear hs
      go_wp2
      go_region_law ((refine step_append_fits rfl _ _ 32 rfl w.heap.size 5 i0 1 Tryd.underlying32 hi hz1 w.heap.size (2 * k) (2 * n) _ rfl (own.alloc _) ⟨wr.heap.size, 0, none⟩ 2 2 ((hex2 (l[k]?.getD 0)).map u8v) rfl rfl (news_blk (T := 5) (Blk.mk_alloc rfl rfl)) (one_u8 _) (by omega) ?_; intro w2 own2 gr2))
      all_goals
        have e2 : Ext w w2 := ((bb.alloc _).drew).grown gr2 (fun g h => by cases h; exact Nat.le_refl _)
        rw [← List.map_append, ← HS.out] at own2
        clear gr2 own bb hc1 r1 r2 r3
        go_wp2
        go_roundw
        case rel => exact ⟨k + 1, by omega, by go_num, by rw [show 2 * (k + 1) = 2 * k + 2 by omega], own2, e2⟩
        case measure => simp [intOf]; omega
    · obtain rfl : k = n := by omega
      have hcs : Cells wr (some ⟨w.heap.size, 0, none⟩) ((hexL l).map u8v) := by
        refine .inr ⟨_, _, rfl, fun i u hu => ?_⟩
        rw [List.take_of_length_le (by rw [HN.out]; omega)] at own
        have h1 := own.cellAt i (by have := (List.getElem?_eq_some_iff.1 hu).1; rw [List.length_map, hexL_length, HN.out] at this; omega)
        rw [Nat.zero_add, h1]; exact hu
      have hst := run_string_of wr _ (hexL l) (2 * k) (2 * k) hcs (by rw [hexL_length, HN.out])
      go_wp2
      go_ret
      exact ⟨rfl, bb⟩

set_option maxHeartbeats 400000 in
theorem landed_c (w : World) : Calls Tryd.prog 4 #[] w fun e w' => e = .returned (.bool true) ∧ Ext w w' := by
  go_enter Tryd.func4, Tryd.ntmps4
  go_wp2_with fail
  refine (hex_c [1] _ _ _ (by simp) (Cells.of_blk0 (T := 5) (Blk.mk_alloc rfl rfl))).mono ?_
  rintro e w1 ⟨rfl, hb⟩
  have h01 : strOf (hexL [1]) = { data := #[48, 49] } := by decide
  rw [h01]
  go_wp2
  go_ret
  exact ⟨rfl, (Ext.alloc (Ext.refl w) _).ext hb⟩
end Go.Proofs.YthfddfgncolnbaaDoor
