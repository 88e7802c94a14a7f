/- Contracts of Cut, Number, Long, Equal; conditions: the slices' sizes. -/
import Derived.Test.YtjgglnflicemjaaN1
import Derived.Test.YtjgglnflicemjaaK2
namespace Go.Proofs.Ytjgglnflicemjaa
open Go Go.RowKit

set_option maxHeartbeats 400000 in
theorem rCut_c (a : Option Addr) (n c : Nat) (at_ many : Int) (w : World) (hn : n ≤ 140737488355328) (hc : n ≤ c) (hc2 : c ≤ 140737488355328) (hm : 0 ≤ many) (hm2 : many ≤ 1099511627776) :
    Calls Try.prog 19 #[.slice a n c, .int .i64 at_, .int .i64 many] w (CutPost a n c at_ many w) := by
  by_cases h : roomE n at_ many = 0
  · have hp : ∀ e w', (e = Ending.returned (.tuple #[.slice (shift a c at_.toNat) many.toNat (c - at_.toNat), .int .i64 0]) ∧ w = w') → CutPost a n c at_ many w e w' := by
      rintro e w' ⟨rfl, rfl⟩
      exact ⟨rfl, by rw [if_pos h]⟩
    refine Calls.mono ?_ hp
    clear hp
    have H := hid h
    clear h
    go_enter Try.func19, Try.ntmps19
    go_wp2_with fail
    refine (rcut_c a n c at_ many w hn hc hc2 hm hm2).mono ?_
    rintro e w' ⟨rfl, rfl⟩
    rw [if_pos H.out]
    go_wp2
    go_ret2
    exact ⟨rfl, rfl⟩
  · have hp : ∀ e w', (e = Ending.returned (.tuple #[.slice none 0 0, .int .i64 (roomE n at_ many)]) ∧ w = w') → CutPost a n c at_ many w e w' := by
      rintro e w' ⟨rfl, rfl⟩
      exact ⟨rfl, by rw [if_neg h]⟩
    refine Calls.mono ?_ hp
    clear hp
    have H := hid h
    clear h
    go_enter Try.func19, Try.ntmps19
    go_wp2_with fail
    refine (rcut_c a n c at_ many w hn hc hc2 hm hm2).mono ?_
    rintro e w' ⟨rfl, rfl⟩
    rw [if_neg H.out]
    go_wp2
    go_ret2
    exact ⟨rfl, rfl⟩

theorem roomE_zero {n : Nat} {at_ many : Int} (h : roomE n at_ many = 0) (hm : 0 ≤ many) : ∃ p : Nat, at_ = (p : Int) ∧ (p : Int) + many ≤ n := by
  unfold roomE at h
  split at h
  · cases h
  · split at h
    · cases h
    · exact ⟨at_.toNat, by omega, by omega⟩

def word4 (l : List UInt8) (p : Nat) : UInt32 := wordOf (l[p]?.getD 0) (l[p + 1]?.getD 0) (l[p + 2]?.getD 0) (l[p + 3]?.getD 0)
def numOf (l : List UInt8) (n : Nat) (at_ : Int) : Value := if roomE n at_ 4 = 0 then .tuple #[.int .u32 ((word4 l at_.toNat).toNat : Nat), .int .i64 0] else .tuple #[.int .u32 0, .int .i64 (roomE n at_ 4)]

theorem cells4 {w : World} {b off : Nat} {l : List UInt8} (h : ∀ (i : Nat) (u : Value), (l.map u8v)[i]? = some u → w.cell? ⟨b, off + i, none⟩ = some u) (i : Nat) (hi : i < l.length) :
    w.cell? ⟨b, off + i, none⟩ = some (.int .u8 ((l[i]?.getD 0).toNat : Nat)) := h i _ (by simp [hi, u8v])

set_option maxHeartbeats 400000 in
theorem number_c (l : List UInt8) (a : Option Addr) (n c : Nat) (at_ : Int) (w : World) (hnl : l.length = n) (hn : n ≤ 140737488355328) (hc : n ≤ c) (hcl : Cells w a (l.map u8v)) :
    Calls Try.prog 26 #[.slice a n c, .int .i64 at_] w fun e w' => e = .returned (numOf l n at_) ∧ Ext w w' := by
  by_cases h : roomE n at_ 4 = 0
  · obtain ⟨p, rfl, hp⟩ := roomE_zero h (by omega)
    have hv : numOf l n (p : Int) = .tuple #[.int .u32 ((word4 l p).toNat : Nat), .int .i64 0] := by rw [numOf, if_pos h]; rfl
    rw [hv]
    obtain ⟨b, off, rfl, hcell⟩ := hcl.some_of (by rw [List.length_map]; omega)
    have c0 := cells4 hcell p (by omega)
    have c1 := cells4 hcell (p + 1) (by omega)
    have c2 := cells4 hcell (p + 2) (by omega)
    have c3 := cells4 hcell (p + 3) (by omega)
    simp only [← Nat.add_assoc] at c1 c2 c3
    have H := hid h
    have HV := hid hv
    clear h hv hcl hcell
    have ne : ¬ c = p := by omega
    have HN := hid hnl
    clear hnl
    have ha := run_arrayAt (P := Try.prog) Try.underlying111 (len := 4) (Nat.le_refl 4)
    go_enter Try.func26, Try.ntmps26
    go_wp2_with fail
    refine (room_c _ n c _ 4 w (by omega) (by omega) (by omega)).mono ?_
    rintro e w' ⟨rfl, rfl⟩
    rw [H.out]
    go_wp2_with fail
    refine (word_c _ _ _ _ _).mono ?_
    rintro e w1 ⟨rfl, hb1⟩
    go_wp2
    go_ret2
    exact ⟨rfl, hb1⟩
  · have hv : numOf l n at_ = .tuple #[.int .u32 0, .int .i64 (roomE n at_ 4)] := by rw [numOf, if_neg h]
    rw [hv]
    have hne : (roomE n at_ 4 != 0) = true := by rw [bne_iff_ne]; exact h
    clear hv hcl h hnl
    go_enter Try.func26, Try.ntmps26
    go_wp2_with fail
    refine (room_c _ n c _ 4 w (by omega) (by omega) (by omega)).mono ?_
    rintro e w' ⟨rfl, rfl⟩
    go_wp2
    go_ret2
    exact ⟨rfl, Ext.refl _⟩

theorem strOf_beq (x y : List UInt8) : ((strOf x).toList == (strOf y).toList) = (x == y) := by
  unfold strOf
  rw [ByteArray.toList_mk, ByteArray.toList_mk]

set_option maxHeartbeats 400000 in
theorem equal_c (x y : List UInt8) (a b : Option Addr) (n m c d : Nat) (w : World) (hn : n = x.length) (hm : m = y.length) (hx : Cells w a (x.map u8v)) (hy : Cells w b (y.map u8v)) :
    Calls Try.prog 23 #[.slice a n c, .slice b m d] w fun e w' => e = .returned (.bool (x == y)) ∧ w = w' := by
  have h1 := run_string_of w a x n c hx hn
  have h2 := run_string_of w b y m d hy hm
  have hs := strOf_beq x y
  clear hn hm hx hy
  go_enter Try.func23, Try.ntmps23
  go_wp2
  go_ret
  exact ⟨rfl, rfl⟩

/-- the number of eight octets, as Go reads it -/
def long8 (l : List UInt8) (p : Nat) : Nat := (word4 l p).toNat * 4294967296 + (word4 l (p + 4)).toNat
def longOf (l : List UInt8) (n : Nat) (at_ : Int) : Value :=
  if roomE n at_ 8 = 0 then (if long8 l at_.toNat ≤ 4611686018427387904 then .tuple #[.int .i64 (long8 l at_.toNat : Nat), .int .i64 0] else .tuple #[.int .i64 0, .int .i64 4]) else .tuple #[.int .i64 0, .int .i64 (roomE n at_ 8)]

theorem or_u64 (x y : UInt32) : bits .or .u64 ((x.toNat : Int) * 4294967296) (y.toNat : Int) = ((x.toNat * 4294967296 + y.toNat : Nat) : Int) := by
  have hx := x.toNat_lt
  have hy := y.toNat_lt
  have ea : (BitVec.ofInt 64 ((x.toNat : Int) * 4294967296)).toNat = x.toNat * 4294967296 := by
    rw [show ((x.toNat : Int) * 4294967296) = ((x.toNat * 4294967296 : Nat) : Int) by omega]
    rw [BitVec.toNat_ofInt]; omega
  have eb : (BitVec.ofInt 64 (y.toNat : Int)).toNat = y.toNat := by rw [BitVec.toNat_ofInt]; omega
  change IntKind.u64.wrap ((BitVec.ofInt 64 ((x.toNat : Int) * 4294967296) ||| BitVec.ofInt 64 (y.toNat : Int)).toNat : Int) = _
  have := or_add x.toNat y.toNat 32 (by omega)
  rw [show (2 : Nat) ^ 32 = 4294967296 from rfl] at this
  rw [BitVec.toNat_or, ea, eb, this, IntKind.wrap_u64]; omega
end Go.Proofs.Ytjgglnflicemjaa
