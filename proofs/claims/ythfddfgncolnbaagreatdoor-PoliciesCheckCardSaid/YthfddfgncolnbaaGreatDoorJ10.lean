/- Contracts and laws that the claim's row leans on (43 texts, joined): The Summer's take; conditions: the octets' number, and where they lie. Contracts of room, cut, Number; conditions: the slices' sizes. Contracts of Cut, Number, Long, Equal; conditions: the slices' sizes. Contract of Long; conditions: the slice's size. Clone, Grow (of nil) and Concat at octets; conditions: lengths below 2^47. PutNumber, PutLong, Clone; conditions: lengths below 2^47 - 8. Plain laws: a word's and a long's octets are read back; no condition but lengths. The law NumbersArePut: its walk; conditions: the slice's size. The Summer's take with octets ahead; conditions: the octets' number, and where they lie. The Summer's take, Write, Copy, NewSummer; conditions: the octets' number, and where they lie. The Summer's end; conditions: its octets' number. The Summer's Sum, and what summed makes; conditions: the octets' number. The reference's long; condition: a number that is not negative. append(s, make([]byte, k)...) onto a row of one's own; conditions: the lengths. The reference's state: what it computes; conditions: the text's length, the domain. The reference's Sum: what it computes; conditions: the text's length, the domain. Take16; conditions: the slice's size. TagOf and SealOf: what they compute; conditions: the key's length, the text's size. The reference's Tag and SealBy: what they compute; conditions: the key's length, the text's size. Blocks of a stream: what streamBlock computes; conditions: the lengths. Stream: what it computes; conditions: the lengths. Stream and Cover: what they compute; conditions: the lengths. The reference's Stream: what it computes; conditions: the lengths. The reference's Cover: what it computes; conditions: the lengths. And: what is covered twice. Arrays of octets are compared; condition: their lengths. The law SummersAreBounded, walked; no condition. The law TagsMatch, walked; conditions: the lengths. The law StreamsMatch, walked; conditions: the lengths. Appends of which the row's block is told; conditions: the lengths. SumOf, short and Framed: what they compute; conditions: the sizes. The octets of a string as a slice of their own; no condition. policy.SumOf; conditions: the policy's memory, the library's variables. The law PoliciesCheck, walked; conditions: the policy's memory, the library's variables. Readings of arguments are opened; no condition. Readings of slices of octets are opened; no condition. Readings of slices of rows of 32 octets, and of a struct of two ints and such a slice, are opened; no condition. Readings of rows of strings and of parts of structs, with their sizes (taken out of O9); no condition. Readings of rules and asks are opened; no condition. Readings of asks, of lists of rules, and of both as arguments, are opened; no condition. Decisions, in plain Lean; no condition. policy.decide with 'always'; conditions: the memory of both, and that the ask is right. policy.Meets and policy.Decide; conditions: the memory of the arguments. Approvals as values, what is found of them in order, and the members counted; no condition. -/
import Derived.Test.YthfddfgncolnbaaGreatDoorJ9
import Derived.WalkKit
import Derived.Lib.Walk
import Derived.Lib.SliceRun
import Derived.Lib.AppendZerosOnto
import Derived.Laws.AppendOwn
import Derived.Laws.AppendOwnNone
import Derived.Laws.MakeOwn
import Derived.Laws.ResultCell
import Derived.Laws.OwnMore
import Derived.Test.YthfddfgncolnbaaGreatDoorProg
import Derived.Stop.BytesEq
import Derived.Deep.DeepCutAuto
import Derived.Deep.CutBlock
import Derived.Laws.IdiomStrings
import Derived.ProofKit
import Derived.OpenShut
import Derived.ChangeSlices
import Derived.WideShapes
import Derived.SizedLaws
import Derived.Deep.Strs
import Derived.WideKeyArr
namespace Go.Proofs.YthfddfgncolnbaaGreatDoor
section
open Go Go.RowKit

/-- the state behind the first n blocks -/
def absN (s t : List UInt8) : Nat → List UInt8
  | 0 => s
  | n + 1 => absorb (absN s t n) ((t.drop (32 * n)).take 32)
theorem absN_length {s t : List UInt8} (hs : s.length = 64) (n : Nat) : (absN s t n).length = 64 := by
  cases n with
  | zero => exact hs
  | succ n => exact absorb_length _ _
theorem absN_append {s t b : List UInt8} (n : Nat) (h : 32 * n ≤ t.length) : absN s (t ++ b) n = absN s t n := by
  induction n with
  | zero => rfl
  | succ n ih =>
    rw [absN, absN, ih (by omega), List.drop_append_of_le_length (by omega), List.take_append_of_le_length (by rw [List.length_drop]; omega)]

/-- block g is a Summer that began with s0 and took t -/
def Holds (w : World) (g : Nat) (T : TypeId) (s0 t : List UInt8) (tot : Int) : Prop :=
  ∃ r : List UInt8, r.length = 32 ∧ r.take (t.length % 32) = t.drop (32 * (t.length / 32)) ∧ Blk w g (sm (absN s0 t (t.length / 32)) r (t.length % 32 : Nat) tot) T

theorem field_have {w : World} {g : Nat} {T : TypeId} {s r : List UInt8} {h t : Int} (hb : Blk w g (sm s r h t) T) (hs : s.length = 64) (hr : r.length = 32) :
    w.cell? ⟨g, 96, none⟩ = some (.int .i64 h) := hb.cell' (sm_have h t hs hr)

theorem u8_at {l : List UInt8} {i : Nat} (h : i < l.length) : (l.map u8v)[i]? = some (.int .u8 ((l[i]?.getD 0).toNat : Int)) := by simp [h, u8v]
theorem drop_behind {t b : List UInt8} {m k : Nat} (h : t.length = 32 * m) : (t ++ b).drop (32 * (m + k)) = b.drop (32 * k) := by
  rw [List.drop_append, List.drop_of_length_le (by rw [h]; omega), List.nil_append, h, show 32 * (m + k) - 32 * m = 32 * k by omega]
def sliceLen : Value → Nat
  | .slice _ n _ => n
  | _ => 0

def takePost (w : World) (g : Nat) (T : TypeId) (s0 u : List UInt8) (tot : Int) (e : Ending) (w' : World) : Prop :=
  e = .returned (.tuple #[]) ∧ Holds w' g T s0 u tot ∧ w.grownBy w' (some g)

set_option maxRecDepth 100000 in
set_option maxHeartbeats 1000000 in
/-- with nothing ahead -/
theorem take_c0 (s0 t b r : List UInt8) (tot : Int) (g m n c : Nat) (a : Option Addr) (T : TypeId) (w : World) (hs : s0.length = 64) (hr : r.length = 32) (hb : b.length = n) (hm : t.length = 32 * m)
    (hB : Blk w g (sm (absN s0 t m) r 0 tot) T) (hn : n ≤ 140737488355328) (hnc : n ≤ c) (hc : c ≤ 9223372036854775807) (h0 : a = none → n = 0) (hcl : Cells w a (b.map u8v)) (haw : n = 0 ∨ ∀ x, a = some x → some x.block ≠ some g) :
    Calls Tryz.prog 121 #[.pointer (some ⟨g, 0, none⟩), .slice a n c] w (takePost w g T s0 (t ++ b) tot) := by
  have HS := hid hs
  clear hs
  have HB := hid hb
  clear hb
  have HM := hid hm
  clear hm
  have HR := hid hr
  clear hr
  have H0 := hid h0
  clear h0
  have HA := hid haw
  clear haw
  have HC := hid hcl
  clear hcl
  have c1 := hB.cell' (sm_have 0 tot (absN_length HS.out m) HR.out)
  go_enter Tryz.func121, Tryz.ntmps121
  go_wp2
  clear c1
  go_loopw [1] (fun x wr => ∃ (k n' c' : Nat) (a' : Option Addr), x = .slice a' n' c' ∧ n' + 32 * k = n ∧ n' ≤ c' ∧ c' ≤ c ∧ Hid (a' = none → n' = 0) ∧ Hid (n' = 0 ∨ ∀ x, a' = some x → some x.block ≠ some g) ∧
      Hid (Cells wr a' ((b.drop (32 * k)).map u8v)) ∧ Hid (Blk wr g (sm (absN s0 (t ++ b) (m + k)) r 0 tot) T) ∧ Hid (w.grownBy wr (some g)))
    (fun x _ => sliceLen x)
  case atStart => exact ⟨0, n, c, a, rfl, by omega, hnc, by omega, H0, HA, HC, hid (by rw [Nat.add_zero, absN_append _ (by rw [HM.out]; omega)]; exact hB), hid (grown_refl _ _)⟩
  case round =>
    obtain ⟨k, n', c', a', rfl, hk, hnc', hcc', h0', ha', hc', hb', hg'⟩ := hrel
    by_cases hlt : 32 ≤ n'
    · have hd : decide ((32 : Int) ≤ (n' : Int)) = true := decide_eq_true (by omega)
      have hlen : (b.drop (32 * k)).length = n' := by rw [List.length_drop, HB.out]; omega
      have hne : a' ≠ none := fun e => by have := h0'.out e; omega
      obtain ⟨gb, off, rfl, hcell⟩ := hc'.out.some_of (by rw [List.length_map, hlen]; omega)
      have haw2 := ha'.out.resolve_left (by omega)
      have hgb : gb ≠ g := fun e => haw2 _ rfl (by rw [e])
      have HA2 := hid haw2
      clear haw2
      have har := run_arrayAt (P := Tryz.prog) Tryz.underlying34 (len := n') hlt
      have hsrc : ∀ i, i < 32 → wr.cell? ⟨gb, off + i, none⟩ = some (.int .u8 ((((b.drop (32 * k)).take 32)[i]?.getD 0).toNat : Int)) := by
        intro i hi
        refine hcell i _ ?_
        rw [List.getElem?_take_of_lt hi]
        exact u8_at (by omega)
      have HSR := hid hsrc
      clear hsrc hcell hne
      have HL := hid hlen
      clear hlen
      go_wp2_with fail
      refine (block_c _ ((b.drop (32 * k)).take 32) _ g gb off T wr (absN_length HS.out _) hb'.out HSR.out (.inl hgb)).mono ?_
      rintro e w1 ⟨rfl, b1, g1⟩
      have hst : absorb (absN s0 (t ++ b) (m + k)) ((b.drop (32 * k)).take 32) = absN s0 (t ++ b) (m + (k + 1)) := by
        rw [← Nat.add_assoc, absN, drop_behind HM.out]
      rw [hst] at b1
      have HB1 := hid b1
      clear b1 hst
      have HG1 := hid (grown_trans hg'.out g1)
      have hc1 := hid (hc'.out.grown g1 HA2.out)
      clear g1
      go_wp2_with (refine wpl_slice_low rfl _ _ _ _ rfl (k := 32) rfl rfl Tryz.underlying39 size_u8 hlt ?_)
      go_roundw
      case rel =>
        refine ⟨k + 1, n' - 32, c' - 32, _, rfl, by omega, by omega, by omega, hid fun e => ?_, hid (.inr (shift_away HA2.out)), hid ?_, HB1, HG1⟩
        · have := h0'.out (shift_nil.1 e); omega
        · have h1 := hc1.out.shift c' 32 (n' - 32) (by omega)
          rw [← List.map_drop, List.drop_drop, List.take_of_length_le (by rw [List.length_map, List.length_drop, HB.out]; omega)] at h1
          rwa [show 32 * k + 32 = 32 * (k + 1) by omega] at h1
      case measure => simp [sliceLen]; omega
    · have hd : decide ((32 : Int) ≤ (n' : Int)) = false := decide_eq_false (by omega)
      have hlen : (b.drop (32 * k)).length = n' := by rw [List.length_drop, HB.out]; omega
      have hlen2 : ((b.drop (32 * k)).map u8v).length = n' := by rw [List.length_map, hlen]
      have hmin : n' = Nat.min n' 32 := (Nat.min_eq_left (by omega)).symm
      have HMI := hid hmin
      clear hmin
      have hfit : 64 + n' ≤ (sm (absN s0 (t ++ b) (m + k)) r 0 tot).length := by rw [sm_length _ _ (absN_length HS.out _) HR.out]; omega
      have HF := hid hfit
      clear hfit
      have hsp := sm_splice (xs := b.drop (32 * k)) 0 tot (absN_length (t := t ++ b) HS.out (m + k)) HR.out 0 (by rw [hlen]; omega)
      rw [List.take_zero, List.nil_append, Nat.add_zero, Nat.zero_add, hlen] at hsp
      have hrl : (b.drop (32 * k) ++ r.drop n').length = 32 := by rw [List.length_append, hlen, List.length_drop, HR.out]; omega
      have hrt : (b.drop (32 * k) ++ r.drop n').take n' = b.drop (32 * k) := by rw [← hlen, List.take_left]
      have hdb := drop_behind (b := b) (k := k) HM.out
      generalize b.drop (32 * k) = bb at *
      have HDB := hid hdb
      have HL := hid hlen
      clear hlen hdb
      have HL2 := hid hlen2
      clear hlen2
      generalize hr2 : bb ++ r.drop n' = r2 at *
      have HRT := hid hrt
      have HR2 := hid hrl
      have HSP := hid hsp
      clear hrt hrl hsp hr2
      go_wp2_with (refine wpl_copyc rfl _ _ _ _ rfl rfl rfl hb'.out Tryz.underlying39 size_u8 HL2.out HMI.out h0'.out hc'.out HF.out (one_u8 _) ?_)
      intro w1 b1 u1
      rw [HSP.out] at b1
      have f1 := b1.frozen 96
      have c1 := b1.cell' (sm_have 0 tot (absN_length HS.out (m + k)) HR2.out)
      go_wp2
      have b2 := b1.set 96 (.int .i64 (n' : Int))
      rw [sm_set_have _ _ _ (absN_length HS.out _) HR2.out] at b2
      have HB2 := hid b2
      have HG2 := hid (grown_set (grown_upd hg'.out u1) 96 (.int .i64 (n' : Int)))
      clear b2
      refine end_none rfl rfl ⟨rfl, ⟨r2, HR2.out, ?_, ?_⟩, HG2.out⟩
      · have h1 : (t ++ b).length % 32 = n' := by rw [List.length_append, HM.out, HB.out]; omega
        have h2 : (t ++ b).length / 32 = m + k := by rw [List.length_append, HM.out, HB.out]; omega
        rw [h1, h2, HDB.out]; exact HRT.out
      · have h1 : (t ++ b).length % 32 = n' := by rw [List.length_append, HM.out, HB.out]; omega
        have h2 : (t ++ b).length / 32 = m + k := by rw [List.length_append, HM.out, HB.out]; omega
        rw [h1, h2]; exact HB2.out
end

section
open Go Go.RowKit

def roomE (n : Nat) (at_ many : Int) : Int := if at_ < 0 then 4 else if (n : Int) < many ∨ (n : Int) - many < at_ then 1 else 0

/-- what a reference's cut gives -/
def CutPost (a : Option Addr) (n c : Nat) (at_ many : Int) (w : World) (e : Ending) (w' : World) : Prop :=
  w = w' ∧ e = .returned (if roomE n at_ many = 0 then .tuple #[.slice (shift a c at_.toNat) many.toNat (c - at_.toNat), .int .i64 0] else .tuple #[.slice none 0 0, .int .i64 (roomE n at_ many)])
end

section
open Go Go.RowKit

theorem roomE_zero {n : Nat} {at_ many : Int} (h : roomE n at_ many = 0) (hm : 0 ≤ many) : ∃ p : Nat, at_ = (p : Int) ∧ (p : Int) + many ≤ n := by
  unfold roomE at h
  split at h
  · cases h
  · split at h
    · cases h
    · exact ⟨at_.toNat, by omega, by omega⟩

def word4 (l : List UInt8) (p : Nat) : UInt32 := wordOf (l[p]?.getD 0) (l[p + 1]?.getD 0) (l[p + 2]?.getD 0) (l[p + 3]?.getD 0)
def numOfW (l : List UInt8) (n : Nat) (at_ : Int) : Value := if roomE n at_ 4 = 0 then .tuple #[.int .u32 ((word4 l at_.toNat).toNat : Nat), .int .i64 0] else .tuple #[.int .u32 0, .int .i64 (roomE n at_ 4)]

theorem cells4 {w : World} {b off : Nat} {l : List UInt8} (h : ∀ (i : Nat) (u : Value), (l.map u8v)[i]? = some u → w.cell? ⟨b, off + i, none⟩ = some u) (i : Nat) (hi : i < l.length) :
    w.cell? ⟨b, off + i, none⟩ = some (.int .u8 ((l[i]?.getD 0).toNat : Nat)) := h i _ (by simp [hi, u8v])

theorem strOf_beq (x y : List UInt8) : ((strOf x).toList == (strOf y).toList) = (x == y) := by
  unfold strOf
  rw [ByteArray.toList_mk, ByteArray.toList_mk]

/-- the number of eight octets, as Go reads it -/
def long8 (l : List UInt8) (p : Nat) : Nat := (word4 l p).toNat * 4294967296 + (word4 l (p + 4)).toNat
def longOf (l : List UInt8) (n : Nat) (at_ : Int) : Value :=
  if roomE n at_ 8 = 0 then (if long8 l at_.toNat ≤ 4611686018427387904 then .tuple #[.int .i64 (long8 l at_.toNat : Nat), .int .i64 0] else .tuple #[.int .i64 0, .int .i64 4]) else .tuple #[.int .i64 0, .int .i64 (roomE n at_ 8)]

theorem or_u64 (x y : UInt32) : bits .or .u64 ((x.toNat : Int) * 4294967296) (y.toNat : Int) = ((x.toNat * 4294967296 + y.toNat : Nat) : Int) := by
  have hx := x.toNat_lt
  have hy := y.toNat_lt
  have ea : (BitVec.ofInt 64 ((x.toNat : Int) * 4294967296)).toNat = x.toNat * 4294967296 := by
    rw [show ((x.toNat : Int) * 4294967296) = ((x.toNat * 4294967296 : Nat) : Int) by omega]
    rw [BitVec.toNat_ofInt]; omega
  have eb : (BitVec.ofInt 64 (y.toNat : Int)).toNat = y.toNat := by rw [BitVec.toNat_ofInt]; omega
  change IntKind.u64.wrap ((BitVec.ofInt 64 ((x.toNat : Int) * 4294967296) ||| BitVec.ofInt 64 (y.toNat : Int)).toNat : Int) = _
  have := or_add x.toNat y.toNat 32 (by omega)
  rw [show (2 : Nat) ^ 32 = 4294967296 from rfl] at this
  rw [BitVec.toNat_or, ea, eb, this, IntKind.wrap_u64]; omega
end

section
open Go Go.RowKit

section
variable {P : Program} {C : World → Prop} {o : Oper} {a : Act} {K : Act → Prop}
theorem run_load_cells {b off n : Nat} {w : World} {vs : List Value} {ty : TypeId} (hb : ∀ j u, vs[j]? = some u → w.cell? ⟨b, off + j, none⟩ = some u) (ht : AggT P ty n) (hn : vs.length = n) :
    (loadVar ty ⟨b, off, none⟩).run P w = .ok (.agg vs.toArray) w := by
  obtain ⟨⟨d, hu, hd⟩, hi⟩ := ht
  have hl : (loadCells ⟨b, off, none⟩ vs.length).run P w = .ok vs.toArray w :=
    run_loadCells_list (P := P) w ⟨b, off, none⟩ _ (fun j v hv => by
      have hadd : (⟨b, off, none⟩ : Addr).add j = ⟨b, off + j, none⟩ := by unfold Addr.add; split <;> simp_all
      rw [hadd]
      exact hb j v hv)
  rw [hn] at hl
  cases hq : P.info? ty with
  | none => simp [hq] at hi
  | some i =>
    have hs : i.size = n := by simpa [hq] using hi
    have hagg : (isAgg ty).run P w = .ok true w := by
      unfold isAgg
      rw [Sem.run_bind, run_underlying hu w]
      cases d <;> simp_all
    simp [loadVar, hagg, sizeOf, typeInfo, hq, hs, hl]
theorem quiet_loadc (ty : TypeId) (x : Operand) (ho : o.op = .load ty x) {b off n : Nat} {vs : List Value}
    (hx : a.eval x = .pointer (some ⟨b, off, none⟩)) (hb : ∀ w, C w → ∀ j u, vs[j]? = some u → w.cell? ⟨b, off + j, none⟩ = some u) (ht : AggT P ty n) (hn : vs.length = n)
    (h : K (a.put o.dst (.agg vs.toArray))) : o.quiet P a C K :=
  ⟨_, fun w hw => by
    unfold Oper.quietAt execOp
    simp only [ho, hx, Instr.loadAt, Instr.sureAddr, Sem.run_bind, Sem.run_pure, Result.andThen_ok, run_load_cells (hb w hw) ht hn]
    exact ⟨rfl, rfl⟩, h⟩
theorem quiet_callw {f : FuncId} {xs : Array Operand} {ts : Array TypeId} {args : Array Value} {v : Value} (ho : o.op = .call { callee := .value (.func f), args := xs, argTypes := ts })
    (hf : ∀ args w, (callFunc f args).run P w = .ok (.enter f args) w) (ha : xs.map a.eval = args)
    (hc : ∀ w, C w → Calls P f args w (fun e w' => e = .returned v ∧ C w')) (h : K (a.put o.dst v)) : o.quiet P a C K :=
  ⟨v, fun w hw => by
    have hr : (execOp a.eval o).run P w = .ok (.enter f args) w := by
      unfold execOp
      simp only [ho, resolve, Act.eval, Deferred.ofValue, Sem.run_bind, Sem.run_pure, Result.andThen_ok, invoke]
      have : (#[] ++ xs.map a.eval ++ #[] : Array Value) = args := by simp [ha]
      simpa [ha] using hf args w
    unfold Oper.quietAt
    rw [hr]
    exact ⟨rfl, hc w hw⟩, h⟩
end
end

section
open Go Go.RowKit

/-- a list of slices of octets: address, capacity, octets -/
abbrev Item := Option Addr × Nat × List UInt8
def cat (its : List Item) : List UInt8 := (its.map (·.2.2)).flatten
def itemV (it : Item) : Value := .slice it.1 it.2.2.length it.2.1

theorem cat_succ {its : List Item} {k : Nat} {it : Item} (h : its[k]? = some it) : cat (its.take (k + 1)) = cat (its.take k) ++ it.2.2 := by
  unfold cat
  rw [List.take_add_one, h]; simp
theorem cat_le (its : List Item) (k : Nat) : (cat (its.take k)).length ≤ (cat its).length := by
  have h2 : cat its = cat (its.take k) ++ cat (its.drop k) := by
    unfold cat
    rw [← List.flatten_append, ← List.map_append, List.take_append_drop]
  rw [h2, List.length_append]
  omega
end

section
open Go Go.RowKit

theorem own_slice {w : World} {B : Nat} {v : Value} {n : Nat} {xs : List Value} (h : w.ownsRow B 5 1 v n xs) :
    ∃ a c, v = .slice a n c ∧ n ≤ c ∧ c ≤ maxLen ∧ (a = none → c = 0) ∧ Cells w a xs := by
  obtain ⟨hl, h⟩ := h
  rcases h with ⟨rfl, rfl⟩ | ⟨g, cap, cur, rfl, hb, hg, h1, h2, h3, h4⟩
  · refine ⟨none, 0, rfl, Nat.le_refl _, by unfold maxLen; omega, fun _ => rfl, .inl ?_⟩
    exact List.length_eq_zero_iff.1 (by omega)
  · refine ⟨_, cap, rfl, h1, h2, (fun h => by cases h), .inr ⟨g, 0, rfl, fun i u hu => ?_⟩⟩
    rw [← h4] at hu
    have hi : i < n * 1 := by
      have := (List.getElem?_eq_some_iff.1 hu).1
      simp at this; omega
    rw [List.getElem?_take_of_lt hi] at hu
    rw [Nat.zero_add]
    exact Blk.cell' (vs := cur.toList) (T := 5) (by simpa [Blk] using hg) hu

theorem own_lower {w : World} {B B' : Nat} {e : TypeId} {size : Nat} {v : Value} {n : Nat} {xs : List Value} (h : w.ownsRow B e size v n xs) (hb : B' ≤ B) : w.ownsRow B' e size v n xs := by
  refine ⟨h.1, ?_⟩
  rcases h.2 with h | ⟨g, cap, cur, h1, h2, h3⟩
  · exact .inl h
  · exact .inr ⟨g, cap, cur, h1, Nat.le_trans hb h2, h3⟩

/-- the number that PutLong puts -/
def longNat (k : Int) : Nat := if k < 0 ∨ 4611686018427387904 < k then 0 else k.toNat
theorem longNat_lt (k : Int) : longNat k ≤ 4611686018427387904 := by unfold longNat; split <;> omega

theorem longL_length (u : UInt64) : (longL u).length = 8 := rfl

set_option maxRecDepth 100000 in
set_option maxHeartbeats 1000000 in
theorem clone_c (l : List UInt8) (a : Option Addr) (n c : Nat) (w : World) (hnl : l.length = n) (hn : n ≤ 140737488355320) (hcl : Cells w a (l.map u8v)) :
    Calls Tryz.prog 76 #[.slice a n c] w fun e w' => ∃ v, e = .returned v ∧ w'.ownsRow w.heap.size 5 1 v n (l.map u8v) ∧ (v = .slice none 0 0 ↔ a = none) ∧ Ext w w' := by
  have HN := hid hnl
  have HC := hid hcl
  clear hnl hcl
  obtain ⟨i0, hi, hz, hs, hb1⟩ := info_parts info_u8
  have q26 : ∀ (w : World) (a : Option Addr) (n c n' c' : Nat), (binOp .eql 39 (.slice a n c) (.slice none n' c')).run Tryz.prog w = .ok (.bool a.isNone) w := fun w a n c n' c' => Lib.run_eql_slice_nil w _ _ a n c n' c' Tryz.underlying39
  cases a with
  | none =>
    have hl : l = [] := by
      rcases HC.out with h | ⟨_, _, h, _⟩
      · simpa using h
      · cases h
    have hn0 : n = 0 := by rw [← HN.out, hl]; rfl
    subst hn0
    have HL := hid hl
    clear hl HN HC
    go_enter Tryz.func76, Tryz.ntmps76
    go_wp2
    go_ret
    exact ⟨_, rfl, by rw [HL.out]; exact World.ownsRow_nil _ _ _ _, by simp, Ext.refl _⟩
  | some ad =>
    go_enter Tryz.func76, Tryz.ntmps76
    go_wp2_with (at_builtin; refine wpList_append_own _ rfl _ _ 39 rfl w.heap.size 5 i0 (.int .u8 0) 1 1 Tryz.underlying39 hi hz hs hb1 rfl (by decide) _ _ _ rfl (World.ownsRow_made w #[] 0 (Nat.le_refl _) (Nat.zero_le _) (by simp)) ad n c (l.map u8v) rfl ?qc1 (news_cells (HC.out.ext ((Ext.refl w).alloc _))) (one_u8 _) ?qc4 ?qc5 ?qc6 ?_)
    case qc1 => rw [List.length_map, HN.out, Nat.mul_one]
    case qc4 => unfold maxLen; omega
    case qc5 => omega
    case qc6 => simp
    intro v' w1 hown hgrow hnil
    have e1 : Ext w w1 := ((Ext.refl w).alloc _).grown hgrow (by intro k hk; simp [Value.ownBlock] at hk; omega)
    clear hgrow
    go_wp2
    go_ret
    exact ⟨v', rfl, hown, by simp [hnil], e1⟩
end

section
open Go Go.RowKit

theorem word_octL (x : UInt32) : wordOf (UInt8.ofNat (x.toNat / 16777216)) (UInt8.ofNat (x.toNat / 65536)) (UInt8.ofNat (x.toNat / 256)) (UInt8.ofNat x.toNat) = x := by
  have hx := x.toNat_lt
  unfold wordOf
  apply UInt32.toNat_inj.1
  rw [UInt32.toNat_ofNat', UInt8.toNat_ofNat', UInt8.toNat_ofNat', UInt8.toNat_ofNat', UInt8.toNat_ofNat']
  omega

theorem octL_word (a b c d : UInt8) : octL (wordOf a b c d) = [a, b, c, d] := by
  have ha := a.toNat_lt
  have hb := b.toNat_lt
  have hc := c.toNat_lt
  have hd := d.toNat_lt
  have hw : (wordOf a b c d).toNat = a.toNat * 16777216 + b.toNat * 65536 + c.toNat * 256 + d.toNat := by
    unfold wordOf
    rw [UInt32.toNat_ofNat']; omega
  unfold octL
  rw [hw]
  congr 1
  · apply UInt8.toNat_inj.1; rw [UInt8.toNat_ofNat']; omega
  congr 1
  · apply UInt8.toNat_inj.1; rw [UInt8.toNat_ofNat']; omega
  congr 1
  · apply UInt8.toNat_inj.1; rw [UInt8.toNat_ofNat']; omega
  congr 1
  · apply UInt8.toNat_inj.1; rw [UInt8.toNat_ofNat']; omega

theorem word4_app (l m : List UInt8) (a b c d : UInt8) (r : List UInt8) (q : Nat) (h : l.length = q) (hm : m = a :: b :: c :: d :: r) : word4 (l ++ m) q = wordOf a b c d := by
  subst hm; subst h
  unfold word4
  rw [List.getElem?_append_right (by omega), List.getElem?_append_right (by omega), List.getElem?_append_right (by omega), List.getElem?_append_right (by omega)]
  rw [show l.length - l.length = 0 by omega, show l.length + 1 - l.length = 1 by omega, show l.length + 2 - l.length = 2 by omega, show l.length + 3 - l.length = 3 by omega]
  rfl
theorem word4_octL (l : List UInt8) (x : UInt32) (q : Nat) (h : l.length = q) : word4 (l ++ octL x) q = x := by
  rw [word4_app l (octL x) _ _ _ _ [] q h rfl, word_octL]

theorem long8_longL (l : List UInt8) (u : UInt64) (q : Nat) (h : l.length = q) : long8 (l ++ longL u) q = u.toNat := by
  have hu := u.toNat_lt
  unfold long8 longL
  rw [← List.append_assoc, word4_octL (l ++ octL _) _ (q + 4) (by rw [List.length_append, h]; rfl)]
  rw [List.append_assoc, word4_app l (octL _ ++ octL _) _ _ _ _ _ q h rfl, word_octL, UInt32.toNat_ofNat', UInt32.toNat_ofNat']
  omega

theorem longL_long8 (l : List UInt8) (p : Nat) (h : p + 8 ≤ l.length) : longL (UInt64.ofNat (long8 l p)) = (l.drop p).take 8 := by
  have hx := (word4 l p).toNat_lt
  have hy := (word4 l (p + 4)).toNat_lt
  have hl : (UInt64.ofNat (long8 l p)).toNat = long8 l p := by
    rw [UInt64.toNat_ofNat']; unfold long8; omega
  unfold longL
  rw [hl]
  have h1 : UInt32.ofNat (long8 l p / 4294967296) = word4 l p := by
    apply UInt32.toNat_inj.1; rw [UInt32.toNat_ofNat']; unfold long8; omega
  have h2 : UInt32.ofNat (long8 l p) = word4 l (p + 4) := by
    apply UInt32.toNat_inj.1; rw [UInt32.toNat_ofNat']; unfold long8; omega
  rw [h1, h2]
  unfold word4
  rw [octL_word, octL_word]
  apply List.ext_getElem?
  intro i
  by_cases hi : i < 8
  · rw [List.getElem?_take_of_lt hi, List.getElem?_drop]
    have he : l[p + i]? = some (l[p + i]?.getD 0) := by
      rw [List.getElem?_eq_getElem (by omega)]; rfl
    rw [he]
    have : i = 0 ∨ i = 1 ∨ i = 2 ∨ i = 3 ∨ i = 4 ∨ i = 5 ∨ i = 6 ∨ i = 7 := by omega
    rcases this with rfl | rfl | rfl | rfl | rfl | rfl | rfl | rfl <;> rfl
  · rw [List.getElem?_eq_none (by simp; omega), List.getElem?_eq_none (by simp; omega)]
end

section
open Go Go.RowKit

theorem shift_some (b off c p : Nat) (h : ¬ c = p) : shift (some ⟨b, off, none⟩) c p = some ⟨b, off + p, none⟩ := by
  have hadd : (⟨b, off, none⟩ : Addr).add p = ⟨b, off + p, none⟩ := by unfold Addr.add; split <;> simp_all
  rw [shift, if_neg h, Option.map_some, hadd]

theorem wpQuiet_no {P : Program} {ops : Array Oper} {C : World → Prop} {Q : Act → Prop} {o : Oper} {rest : List Oper} {a : Act} (hw : Region.wanted o (yielded ops a.tmps) = false)
    (h : wpQuiet P ops C Q rest (a.put o.dst undef)) : wpQuiet P ops C Q (o :: rest) a := by
  unfold wpQuiet; rw [hw]; exact h

attribute [local irreducible] wpQuiet

theorem roomE_mono {n : Nat} {at_ : Int} (h : ¬ roomE n at_ 4 = 0) : ¬ roomE n at_ 8 = 0 := by
  intro h8
  obtain ⟨p, rfl, hp⟩ := roomE_zero h8 (by omega)
  apply h
  unfold roomE
  rw [if_neg (by omega), if_neg (by omega)]

theorem take_cells {w : World} {a : Option Addr} {l m : List UInt8} {n : Nat} (h : Cells w a ((l ++ m).map u8v)) (hn : l.length = n) : Cells w a (l.map u8v) := by
  have := h.take n
  rwa [← List.map_take, List.take_left' hn] at this
end

section
open Go Go.RowKit

theorem ret_none {P : Program} {fn : Func} {R : Ending → World → Prop} {a : Act} {w : World} (hr : fn.results = #[]) (hd : a.defers = []) (hR : R (.returned (.tuple #[])) w) : bodyPost P fn R .ret a w :=
  bodyPost_ret (results_none hr _ _ _) hd hR

set_option maxRecDepth 100000 in
set_option maxHeartbeats 1000000 in
/-- too few for a block -/
theorem take_c1 (s0 t b r : List UInt8) (tot : Int) (g m h n c : Nat) (a : Option Addr) (T : TypeId) (w : World) (hs : s0.length = 64) (hr : r.length = 32) (hb : b.length = n) (hm : t.length = 32 * m + h) (hh : 0 < h) (hhn : h + n < 32)
    (hrt : r.take h = t.drop (32 * m))
    (hB : Blk w g (sm (absN s0 t m) r h tot) T) (hnc : n ≤ c) (hc : c ≤ 9223372036854775807) (h0 : a = none → n = 0) (hcl : Cells w a (b.map u8v)) (haw : n = 0 ∨ ∀ x, a = some x → some x.block ≠ some g) :
    Calls Tryz.prog 121 #[.pointer (some ⟨g, 0, none⟩), .slice a n c] w (takePost w g T s0 (t ++ b) tot) := by
  have HS := hid hs
  have HR := hid hr
  have HB := hid hb
  have HM := hid hm
  have H0 := hid h0
  have HA := hid haw
  have HC := hid hcl
  have HBL := hid hB
  have HRT := hid hrt
  clear hs hr hb hm h0 haw hcl hB hrt
  have c1 := HBL.out.cell' (sm_have h tot (absN_length HS.out m) HR.out)
  have hd1 : decide ((0 : Int) < (h : Int)) = true := decide_eq_true (by omega)
  have ne : ¬ 32 = h := by omega
  have i0 : (0 : Int) ≤ (h : Int) := by omega
  have i1 : (h : Int) ≤ 32 := by omega
  have hk : IntKind.i64.wrap ((h : Int) + n) = (h : Int) + n := IntWalk.i64_in _ (by omega)
  have hd2 : decide ((h : Int) + n < 32) = true := decide_eq_true (by omega)
  have hmin : n = Nat.min n (32 - h) := (Nat.min_eq_left (by omega)).symm
  have hlen2 : (b.map u8v).length = n := by rw [List.length_map, HB.out]
  have hfit : 64 + h + n ≤ (sm (absN s0 t m) r h tot).length := by rw [sm_length _ _ (absN_length HS.out _) HR.out]; omega
  have hsp := sm_splice (xs := b) h tot (absN_length (t := t) HS.out m) HR.out h (by rw [HB.out]; omega)
  rw [HB.out] at hsp
  have hrl : (r.take h ++ b ++ r.drop (h + n)).length = 32 := by rw [List.length_append, List.length_append, List.length_take, HB.out, List.length_drop, HR.out]; omega
  have hrt : (r.take h ++ b ++ r.drop (h + n)).take (h + n) = (t ++ b).drop (32 * m) := by
    rw [List.drop_append_of_le_length (by rw [HM.out]; omega), ← HRT.out, List.take_append_of_le_length (by rw [List.length_append, List.length_take, HB.out, HR.out]; omega),
      List.take_of_length_le (by rw [List.length_append, List.length_take, HB.out, HR.out]; omega)]
  generalize r.take h ++ b ++ r.drop (h + n) = r2 at *
  have HMI := hid hmin
  have HL2 := hid hlen2
  have HF := hid hfit
  have HSP := hid hsp
  have HR2 := hid hrl
  have HRT2 := hid hrt
  clear hmin hlen2 hfit hsp hrl hrt
  go_enter Tryz.func121, Tryz.ntmps121
  go_wp2
  refine wp_region_cls (C := fun w' => ∃ n, w' = w.drewN n) 9 (by kernel_rfl) (by kernel_rfl) ⟨1, rfl⟩ ?_
  simp only [List.take_succ_cons, List.take_zero, List.drop_succ_cons, List.drop_zero]
  iterate 9 quiet_step (fail)
  refine wpQuiet_nil ?_
  rintro _ ⟨nq, rfl⟩
  go_wp2_with (refine wpl_copyc rfl _ _ _ _ rfl rfl rfl (HBL.out.drewN (n := nq)) Tryz.underlying39 size_u8 HL2.out HMI.out H0.out (HC.out.ext ((Ext.refl w).drewN nq)) HF.out (one_u8 _) ?_)
  intro w1 b1 u1
  rw [HSP.out] at b1
  have HB1 := hid b1
  have HG1 := hid (grown_upd (grown_drewN (grown_refl w (some g)) nq) u1)
  have f1 := b1.frozen 96
  have c2 := b1.cell' (sm_have h tot (absN_length HS.out m) HR2.out)
  clear b1 u1 c1
  go_wp2_with (refine wpl_slice_low rfl _ _ _ _ rfl (k := n) rfl rfl Tryz.underlying39 size_u8 (Nat.le_refl n) ?_)
  have b2 := HB1.out.set 96 (.int .i64 ((h : Int) + n))
  rw [sm_set_have _ _ _ (absN_length HS.out _) HR2.out] at b2
  have HB2 := hid b2
  have HG2 := hid (grown_set HG1.out 96 (.int .i64 ((h : Int) + n)))
  clear b2
  refine ret_none rfl rfl ⟨rfl, ⟨r2, HR2.out, ?_, ?_⟩, HG2.out⟩
  · have h1 : (t ++ b).length % 32 = h + n := by rw [List.length_append, HM.out, HB.out]; omega
    have h2 : (t ++ b).length / 32 = m := by rw [List.length_append, HM.out, HB.out]; omega
    rw [h1, h2]; exact HRT2.out
  · have h1 : (t ++ b).length % 32 = h + n := by rw [List.length_append, HM.out, HB.out]; omega
    have h2 : (t ++ b).length / 32 = m := by rw [List.length_append, HM.out, HB.out]; omega
    rw [h1, h2, absN_append _ (by rw [HM.out]; omega)]; exact HB2.out

set_option maxRecDepth 100000 in
set_option maxHeartbeats 2000000 in
/-- the block is filled -/
theorem take_c2 (s0 t b1 b2 r : List UInt8) (tot : Int) (g m h n n2 c : Nat) (a : Option Addr) (T : TypeId) (w : World) (hs : s0.length = 64) (hr : r.length = 32) (hb : b2.length = n2) (hb1 : b1.length = 32 - h) (hm : t.length = 32 * m + h) (hh : 0 < h) (hh2 : h < 32)
    (hn : n = 32 - h + n2) (hrt : r.take h = t.drop (32 * m))
    (hB : Blk w g (sm (absN s0 t m) r h tot) T) (hnc : n ≤ c) (hc : c ≤ 9223372036854775807) (h0 : a = none → n = 0) (hcl : Cells w a ((b1 ++ b2).map u8v)) (haw : n = 0 ∨ ∀ x, a = some x → some x.block ≠ some g) :
    Calls Tryz.prog 121 #[.pointer (some ⟨g, 0, none⟩), .slice a n c] w (takePost w g T s0 (t ++ b1 ++ b2) tot) := by
  have HS := hid hs
  have HR := hid hr
  have HBB := hid hb
  have HB1L := hid hb1
  have HM := hid hm
  have H0 := hid h0
  have HA := hid (haw.resolve_left (by omega))
  have HC := hid hcl
  have HBL := hid hB
  have HRT := hid hrt
  have HN := hid hn
  have hmm : (t ++ b1).length = 32 * (m + 1) := by rw [List.length_append, hm, hb1]; omega
  have HMM := hid hmm
  have hbl : (r.take h ++ b1) = (t ++ b1).drop (32 * m) := by rw [List.drop_append_of_le_length (by rw [hm]; omega), hrt]
  have hab : absorb (absN s0 t m) (r.take h ++ b1) = absN s0 (t ++ b1) (m + 1) := by
    have h32 : (r.take h ++ b1).length = 32 := by rw [List.length_append, List.length_take, hb1, hr]; omega
    rw [absN, ← hbl, absN_append _ (by rw [hm]; omega), List.take_of_length_le (l := r.take h ++ b1) (by omega)]
  have HAB := hid hab
  have hcb1 : Cells w a (b1.map u8v) := take_cells (m := b2) hcl rfl
  have HCB := hid hcb1
  have hcb2 : Cells w (shift a c (32 - h)) (b2.map u8v) := by
    have h1 := hcl.shift c (32 - h) n2 (by omega)
    rw [← List.map_drop, ← hb1, List.drop_left, List.take_of_length_le (by rw [List.length_map]; omega)] at h1
    rwa [hb1] at h1
  have HCC := hid hcb2
  clear hs hr hb hm h0 haw hcl hB hrt hmm hbl hab hcb1 hcb2 hb1
  have c1 := HBL.out.cell' (sm_have h tot (absN_length HS.out m) HR.out)
  have hd1 : decide ((0 : Int) < (h : Int)) = true := decide_eq_true (by omega)
  have ne : ¬ 32 = h := by omega
  have i0 : (0 : Int) ≤ (h : Int) := by omega
  have i1 : (h : Int) ≤ 32 := by omega
  obtain ⟨j, hj⟩ : ∃ j, 32 - h = j := ⟨_, rfl⟩
  have hk : IntKind.i64.wrap ((h : Int) + j) = 32 := by
    rw [show (h : Int) + j = 32 by omega]; exact IntWalk.i64_in _ (by omega)
  have hmin : j = Nat.min n j := (Nat.min_eq_right (by omega)).symm
  have hlen2 : (b1.map u8v).length = j := by rw [List.length_map, HB1L.out]; exact hj
  have hfit : 64 + h + j ≤ (sm (absN s0 t m) r h tot).length := by rw [sm_length _ _ (absN_length HS.out _) HR.out]; omega
  have hsp := sm_splice (xs := b1) h tot (absN_length (t := t) HS.out m) HR.out h (by rw [HB1L.out]; omega)
  rw [HB1L.out, show h + (32 - h) = 32 by omega, List.drop_of_length_le (by rw [HR.out]; omega), List.append_nil] at hsp
  have hrl : (r.take h ++ b1).length = 32 := by rw [List.length_append, List.length_take, HB1L.out, HR.out]; omega
  generalize r.take h ++ b1 = r2 at *
  have HMI := hid hmin
  have HL2 := hid hlen2
  have HF := hid hfit
  have HSP := hid hsp
  have HR2 := hid hrl
  clear hmin hlen2 hfit hsp hrl
  have hjn : j ≤ n := by omega
  clear hn
  go_enter Tryz.func121, Tryz.ntmps121
  go_wp2
  refine wp_region_cls (C := fun w' => ∃ n, w' = w.drewN n) 9 (by kernel_rfl) (by kernel_rfl) ⟨1, rfl⟩ ?_
  simp only [List.take_succ_cons, List.take_zero, List.drop_succ_cons, List.drop_zero]
  iterate 9 quiet_step (fail)
  refine wpQuiet_nil ?_
  rintro _ ⟨nq, rfl⟩
  go_wp2_with (refine wpl_copyc rfl _ _ _ _ rfl rfl rfl (HBL.out.drewN (n := nq)) Tryz.underlying39 size_u8 HL2.out HMI.out H0.out (HCB.out.ext ((Ext.refl w).drewN nq)) HF.out (one_u8 _) ?_)
  intro w1 k1 u1
  rw [HSP.out] at k1
  have HB1 := hid k1
  have HG1 := hid (grown_upd (grown_drewN (grown_refl w (some g)) nq) u1)
  have f1 := k1.frozen 96
  have c2 := k1.cell' (sm_have h tot (absN_length HS.out m) HR2.out)
  clear k1 u1 c1
  go_wp2_with (refine wpl_slice_low rfl _ _ _ _ rfl (k := j) rfl rfl Tryz.underlying39 size_u8 hjn ?_)
  have k2 := HB1.out.set 96 (.int .i64 32)
  rw [sm_set_have _ _ _ (absN_length HS.out _) HR2.out] at k2
  have HB2 := hid k2
  have HG2 := hid (grown_set HG1.out 96 (.int .i64 32))
  generalize World.setCell w1 _ _ = w2 at *
  have hsrc : ∀ i, i < 32 → w2.cell? ⟨g, 64 + i, none⟩ = some (.int .u8 ((r2[i]?.getD 0).toNat : Int)) := fun i hi => k2.cell' (sm_rest 32 tot (absN_length HS.out m) HR2.out hi)
  have HSR := hid hsrc
  clear k2 f1 c2 hsrc
  refine (block_c _ r2 _ g g 64 T w2 (absN_length HS.out m) HB2.out HSR.out (.inr (Nat.le_refl _))).mono ?_
  rintro e w3 ⟨rfl, k3, g3⟩
  rw [HAB.out] at k3
  have k3' : Blk w3 g (sm (absN s0 (t ++ b1) (m + 1)) r2 32 tot) T := k3
  have HB3 := hid k3'
  have HG3 := hid (grown_trans HG2.out g3)
  have f3 := k3.frozen 96
  have c3 := k3'.cell' (sm_have 32 tot (absN_length HS.out (m + 1)) HR2.out)
  clear k3 k3' g3
  go_wp2
  have k4 := HB3.out.set 96 (.int .i64 0)
  rw [sm_set_have _ _ _ (absN_length HS.out _) HR2.out] at k4
  have HB4 := hid k4
  have HG4 := hid (grown_set HG3.out 96 (.int .i64 0))
  generalize World.setCell w3 _ _ = w4 at *
  have HC4 := hid (HCC.out.grown HG4.out (shift_away HA.out))
  have HA4 : Hid (n2 = 0 ∨ ∀ x, shift a c (32 - h) = some x → some x.block ≠ some g) := hid (.inr (shift_away (c := c) (k := 32 - h) HA.out))
  rw [hj] at HC4 HA4
  have hn2 : n - j = n2 := by have := HN.out; omega
  have H04 : Hid (shift a c j = none → n2 = 0) := hid fun e => by have := H0.out (shift_nil.1 e); omega
  rw [hn2]
  clear k4 f3 c3 HB3 HB2 HG3 HG2 HSR HB1 HG1
  generalize shift a c j = a4 at *
  obtain ⟨tt, htt⟩ : ∃ tt, t ++ b1 = tt := ⟨_, rfl⟩
  obtain ⟨m1, hm1⟩ : ∃ m1, m + 1 = m1 := ⟨_, rfl⟩
  obtain ⟨cc, hcc1⟩ : ∃ cc, c - j = cc := ⟨_, rfl⟩
  rw [htt, hm1] at HB4 HMM
  rw [htt, hcc1]
  have hncc : n2 ≤ cc := by omega
  go_loopw [1] (fun x wr => ∃ (k n' c' : Nat) (a' : Option Addr), x = .slice a' n' c' ∧ n' + 32 * k = n2 ∧ n' ≤ c' ∧ c' ≤ cc ∧ Hid (a' = none → n' = 0) ∧ Hid (n' = 0 ∨ ∀ x, a' = some x → some x.block ≠ some g) ∧
      Hid (Cells wr a' ((b2.drop (32 * k)).map u8v)) ∧ Hid (Blk wr g (sm (absN s0 (tt ++ b2) (m1 + k)) r2 0 tot) T) ∧ Hid (w.grownBy wr (some g)))
    (fun x _ => sliceLen x)
  case atStart => exact ⟨0, n2, cc, a4, rfl, by omega, hncc, by omega, H04, HA4, hid (by rw [Nat.mul_zero, List.drop_zero]; exact HC4.out), hid (by rw [Nat.add_zero, absN_append _ (by rw [HMM.out]; omega)]; exact HB4.out), HG4⟩
  case round =>
    obtain ⟨k, n', c', a', rfl, hk, hnc', hcc', h0', ha', hc', hb', hg'⟩ := hrel
    by_cases hlt : 32 ≤ n'
    · have hd : decide ((32 : Int) ≤ (n' : Int)) = true := decide_eq_true (by omega)
      have hlen : (b2.drop (32 * k)).length = n' := by rw [List.length_drop, HBB.out]; omega
      have hne : a' ≠ none := fun e => by have := h0'.out e; omega
      obtain ⟨gb, off, rfl, hcell⟩ := hc'.out.some_of (by rw [List.length_map, hlen]; omega)
      have haw2 := ha'.out.resolve_left (by omega)
      have hgb : gb ≠ g := fun e => haw2 _ rfl (by rw [e])
      have HA2 := hid haw2
      clear haw2
      have har := run_arrayAt (P := Tryz.prog) Tryz.underlying34 (len := n') hlt
      have hsrc : ∀ i, i < 32 → wr.cell? ⟨gb, off + i, none⟩ = some (.int .u8 ((((b2.drop (32 * k)).take 32)[i]?.getD 0).toNat : Int)) := by
        intro i hi
        refine hcell i _ ?_
        rw [List.getElem?_take_of_lt hi]
        exact u8_at (by omega)
      have HSR := hid hsrc
      clear hsrc hcell hne
      have HL := hid hlen
      clear hlen
      go_wp2_with fail
      refine (block_c _ ((b2.drop (32 * k)).take 32) _ g gb off T wr (absN_length HS.out _) hb'.out HSR.out (.inl hgb)).mono ?_
      rintro e w1 ⟨rfl, b1, g1⟩
      have hst : absorb (absN s0 (tt ++ b2) (m1 + k)) ((b2.drop (32 * k)).take 32) = absN s0 (tt ++ b2) (m1 + (k + 1)) := by
        rw [← Nat.add_assoc, absN, drop_behind HMM.out]
      rw [hst] at b1
      have HB1 := hid b1
      clear b1 hst
      have HG1 := hid (grown_trans hg'.out g1)
      have hc1 := hid (hc'.out.grown g1 HA2.out)
      clear g1
      go_wp2_with (refine wpl_slice_low rfl _ _ _ _ rfl (k := 32) rfl rfl Tryz.underlying39 size_u8 hlt ?_)
      go_roundw
      case rel =>
        refine ⟨k + 1, n' - 32, c' - 32, _, rfl, by omega, by omega, by omega, hid fun e => ?_, hid (.inr (shift_away HA2.out)), hid ?_, HB1, HG1⟩
        · have := h0'.out (shift_nil.1 e); omega
        · have h1 := hc1.out.shift c' 32 (n' - 32) (by omega)
          rw [← List.map_drop, List.drop_drop, List.take_of_length_le (by rw [List.length_map, List.length_drop, HBB.out]; omega)] at h1
          rwa [show 32 * k + 32 = 32 * (k + 1) by omega] at h1
      case measure => simp [sliceLen]; omega
    · have hd : decide ((32 : Int) ≤ (n' : Int)) = false := decide_eq_false (by omega)
      have hlen : (b2.drop (32 * k)).length = n' := by rw [List.length_drop, HBB.out]; omega
      have hlen2 : ((b2.drop (32 * k)).map u8v).length = n' := by rw [List.length_map, hlen]
      have hmin : n' = Nat.min n' 32 := (Nat.min_eq_left (by omega)).symm
      have HMI3 := hid hmin
      clear hmin
      have hfit : 64 + n' ≤ (sm (absN s0 (tt ++ b2) (m1 + k)) r2 0 tot).length := by rw [sm_length _ _ (absN_length HS.out _) HR2.out]; omega
      have HF3 := hid hfit
      clear hfit
      have hsp := sm_splice (xs := b2.drop (32 * k)) 0 tot (absN_length (t := tt ++ b2) HS.out (m1 + k)) HR2.out 0 (by rw [hlen]; omega)
      rw [List.take_zero, List.nil_append, Nat.add_zero, Nat.zero_add, hlen] at hsp
      have hrl : (b2.drop (32 * k) ++ r2.drop n').length = 32 := by rw [List.length_append, hlen, List.length_drop, HR2.out]; omega
      have hrt : (b2.drop (32 * k) ++ r2.drop n').take n' = b2.drop (32 * k) := by rw [← hlen, List.take_left]
      have hdb := drop_behind (b := b2) (k := k) HMM.out
      generalize b2.drop (32 * k) = bb at *
      have HDB := hid hdb
      have HL := hid hlen
      clear hlen hdb
      have HL3 := hid hlen2
      clear hlen2
      generalize hr3 : bb ++ r2.drop n' = r3 at *
      have HRT3 := hid hrt
      have HR3 := hid hrl
      have HSP3 := hid hsp
      clear hrt hrl hsp hr3
      go_wp2_with (refine wpl_copyc rfl _ _ _ _ rfl rfl rfl hb'.out Tryz.underlying39 size_u8 HL3.out HMI3.out h0'.out hc'.out HF3.out (one_u8 _) ?_)
      intro w1 b1 u1
      rw [HSP3.out] at b1
      have f1 := b1.frozen 96
      have c1 := b1.cell' (sm_have 0 tot (absN_length HS.out (m1 + k)) HR3.out)
      go_wp2
      have b5 := b1.set 96 (.int .i64 (n' : Int))
      rw [sm_set_have _ _ _ (absN_length HS.out _) HR3.out] at b5
      have HB5 := hid b5
      have HG5 := hid (grown_set (grown_upd hg'.out u1) 96 (.int .i64 (n' : Int)))
      clear b5
      refine end_none rfl rfl ⟨rfl, ⟨r3, HR3.out, ?_, ?_⟩, HG5.out⟩
      · have h1 : (tt ++ b2).length % 32 = n' := by rw [List.length_append, HMM.out, HBB.out]; omega
        have h2 : (tt ++ b2).length / 32 = m1 + k := by rw [List.length_append, HMM.out, HBB.out]; omega
        rw [h1, h2, HDB.out]; exact HRT3.out
      · have h1 : (tt ++ b2).length % 32 = n' := by rw [List.length_append, HMM.out, HBB.out]; omega
        have h2 : (tt ++ b2).length / 32 = m1 + k := by rw [List.length_append, HMM.out, HBB.out]; omega
        rw [h1, h2]; exact HB5.out
end

section
open Go Go.RowKit

theorem run_mk8 (w : World) (n : Nat) (hn : n ≤ 140737488355328) : (Instr.makeSlice 39 (.int .i64 (n : Int)) (.int .i64 (n : Int))).run Tryz.prog w =
    .ok (.slice (some ⟨w.heap.size, 0, none⟩) n n) (w.alloc (.cells ((List.replicate n (0 : UInt8)).map u8v).toArray 5)) := by
  obtain ⟨i0, hi, hz, hs, hb⟩ := info_parts info_u8
  have h := run_make (P := Tryz.prog) w 39 5 i0 (.int .u8 0) Tryz.underlying39 hi hz .i64 .i64 n n (by omega) (by omega) (by rw [hb]; omega) (by omega)
  rw [h, hs]
  have : madeCells (Value.int .u8 0).cells ((n : Int).toNat * 1) = ((List.replicate n (0 : UInt8)).map u8v).toArray := by
    have e : (Value.int .u8 0).cells = #[.int .u8 0] := rfl
    apply Array.ext
    · simp [size_madeCells]
    · intro i h1 h2
      simp [madeCells, e, u8v, Nat.mod_one]
  rw [this]
  simp

theorem wpl_mk8 {ops : Array Oper} {rest : List Oper} {o : Oper} {a : Act} {w : World} {Q : Exit → Act → World → Prop} (hgd : o.guard = none) (x y : Operand) (ho : o.op = .makeSlice 39 x y) {n : Nat}
    (hx : a.eval x = .int .i64 (n : Int)) (hy : a.eval y = .int .i64 (n : Int)) (hn : n ≤ 140737488355328)
    (h : wpList Tryz.prog ops Q rest (a.put o.dst (.slice (some ⟨w.heap.size, 0, none⟩) n n)) (w.alloc (.cells ((List.replicate n (0 : UInt8)).map u8v).toArray 5))) : wpList Tryz.prog ops Q (o :: rest) a w :=
  wpList_plain hgd fun K hK => by
    unfold Oper.wp execOp
    simp only [ho, hx, hy, Result.andThen_ok, Sem.run_bind, Sem.run_pure, run_mk8 w n hn]
    exact hK _ _ h

theorem take_c (s0 t b : List UInt8) (tot : Int) (g n c : Nat) (a : Option Addr) (T : TypeId) (w : World) (hs : s0.length = 64) (hb : b.length = n)
    (hH : Holds w g T s0 t tot) (hn : n ≤ 140737488355328) (hnc : n ≤ c) (hc : c ≤ 9223372036854775807) (h0 : a = none → n = 0) (hcl : Cells w a (b.map u8v)) (haw : n = 0 ∨ ∀ x, a = some x → some x.block ≠ some g) :
    Calls Tryz.prog 121 #[.pointer (some ⟨g, 0, none⟩), .slice a n c] w (takePost w g T s0 (t ++ b) tot) := by
  obtain ⟨r, hr, hrt, hB⟩ := hH
  have hm : t.length = 32 * (t.length / 32) + t.length % 32 := by omega
  generalize hmm : t.length / 32 = m at *
  generalize hhh : t.length % 32 = h at *
  have hlt : h < 32 := by omega
  by_cases h1 : h = 0
  · subst h1
    exact take_c0 s0 t b r tot g m n c a T w hs hr hb (by omega) hB hn hnc hc h0 hcl haw
  · by_cases h2 : h + n < 32
    · exact take_c1 s0 t b r tot g m h n c a T w hs hr hb hm (by omega) h2 hrt hB hnc hc h0 hcl haw
    · have hsplit : b.take (32 - h) ++ b.drop (32 - h) = b := List.take_append_drop _ _
      have := take_c2 s0 t (b.take (32 - h)) (b.drop (32 - h)) r tot g m h n (n - (32 - h)) c a T w hs hr (by rw [List.length_drop, hb]) (by rw [List.length_take, hb]; omega) hm (by omega) hlt (by omega) hrt hB hnc hc h0 (by rw [hsplit]; exact hcl) haw
      rwa [List.append_assoc, hsplit] at this

theorem cells_grown0 {w w' : World} {a : Option Addr} {xs : List Value} {r : Option Nat} {n : Nat} (h : Cells w a xs) (hl : xs.length = n) (k : w.grownBy w' r) (hn : n = 0 ∨ ∀ x, a = some x → some x.block ≠ r) : Cells w' a xs := by
  rcases hn with rfl | hn
  · exact .inl (List.length_eq_zero_iff.1 hl)
  · exact h.grown k hn
theorem away_of {w0 : World} {a : Option Addr} {xs : List Value} {n g : Nat} (h : Cells w0 a xs) (hl : xs.length = n) (hg : w0.heap.size ≤ g) : n = 0 ∨ ∀ x, a = some x → some x.block ≠ some g := by
  by_cases h0 : n = 0
  · exact .inl h0
  · refine .inr ?_
    intro x hx
    obtain ⟨b, off, rfl, hc⟩ := h.some_of (by omega)
    cases hx
    have h1 : b < w0.heap.size := block_lt_of_cell (hc 0 _ (List.getElem?_eq_getElem (by omega)))
    intro e
    have h2 : b = g := by injection e
    omega

abbrev SmT : TypeId := 148
theorem agg_sm : AggT Tryz.prog 148 98 := ⟨⟨_, Tryz.underlying148, rfl⟩, by kernel_rfl⟩

theorem Holds.blk {w : World} {g : Nat} {T : TypeId} {s0 t : List UInt8} {tot : Int} (h : Holds w g T s0 t tot) : ∃ vs, vs.length = vs.length ∧ Blk w g vs T := by
  obtain ⟨r, _, _, hb⟩ := h; exact ⟨_, rfl, hb⟩
theorem Holds.lt {w : World} {g : Nat} {T : TypeId} {s0 t : List UInt8} {tot : Int} (h : Holds w g T s0 t tot) : g < w.heap.size := by
  obtain ⟨r, _, _, hb⟩ := h; exact hb.lt
theorem Holds.ext {w w' : World} {g : Nat} {T : TypeId} {s0 t : List UInt8} {tot : Int} (h : Holds w g T s0 t tot) (k : Ext w w') : Holds w' g T s0 t tot := by
  obtain ⟨r, h1, h2, hb⟩ := h; exact ⟨r, h1, h2, hb.ext k⟩
theorem Holds.grown {w w' : World} {g : Nat} {T : TypeId} {s0 t : List UInt8} {tot : Int} {r : Option Nat} (h : Holds w g T s0 t tot) (k : w.grownBy w' r) (hn : some g ≠ r) : Holds w' g T s0 t tot := by
  obtain ⟨r, h1, h2, hb⟩ := h; exact ⟨r, h1, h2, hb.grown k hn⟩

def writePost (w : World) (g : Nat) (T : TypeId) (s0 t b : List UInt8) (tot : Int) (e : Ending) (w' : World) : Prop :=
  if (b.length : Int) ≤ 1048576 - tot then e = .returned (.int .i64 0) ∧ Holds w' g T s0 (t ++ b) (tot + b.length) ∧ w.grownBy w' (some g)
  else e = .returned (.int .i64 5) ∧ w = w'

set_option maxRecDepth 100000 in
set_option maxHeartbeats 1000000 in
theorem write_c (s0 t b : List UInt8) (tot : Int) (g n c : Nat) (a : Option Addr) (T : TypeId) (w : World) (hs : s0.length = 64) (hb : b.length = n) (ht0 : 0 ≤ tot) (ht1 : tot ≤ 1048576)
    (hH : Holds w g T s0 t tot) (hn : n ≤ 9223372036854775807) (hnc : n ≤ c) (hc : c ≤ 9223372036854775807) (h0 : a = none → n = 0) (hcl : Cells w a (b.map u8v)) (haw : n = 0 ∨ ∀ x, a = some x → some x.block ≠ some g) :
    Calls Tryz.prog 98 #[.pointer (some ⟨g, 0, none⟩), .slice a n c] w (writePost w g T s0 t b tot) := by
  obtain ⟨r, hr, hrt, hB⟩ := hH
  unfold writePost
  rw [hb]
  have HB := hid hb
  have HR := hid hr
  have HRT := hid hrt
  have H0 := hid h0
  have HA := hid haw
  have HC := hid hcl
  have HBL := hid hB
  have HS := hid hs
  have c1 := hB.cell' (sm_total (t.length % 32 : Nat) tot (absN_length hs _) hr)
  have f1 := hB.frozen 97
  have k1 : IntKind.i64.wrap (1048576 - tot) = 1048576 - tot := IntWalk.i64_in _ (by omega)
  clear hb hr hrt h0 haw hcl hB hs
  by_cases hle : (n : Int) ≤ 1048576 - tot
  · simp only [if_pos hle]
    have k2 : IntKind.i64.wrap (tot + n) = tot + n := IntWalk.i64_in _ (by omega)
    have hd : decide ((1048576 - tot) < (n : Int)) = false := decide_eq_false (by omega)
    go_enter Tryz.func98, Tryz.ntmps98
    go_wp2_with fail
    have b2 := HBL.out.set 97 (.int .i64 (tot + n))
    rw [sm_set_total _ _ _ (absN_length HS.out _) HR.out] at b2
    have hH2 : Holds (w.setCell ⟨g, 97, none⟩ (.int .i64 (tot + n))) g T s0 t (tot + n) := ⟨r, HR.out, HRT.out, b2⟩
    have g2 := grown_set (grown_refl w (some g)) 97 (.int .i64 (tot + n))
    generalize World.setCell w _ _ = w2 at *
    refine (take_c s0 t b (tot + n) g n c a T w2 HS.out HB.out hH2 (by omega) hnc hc H0.out (cells_grown0 HC.out (by rw [List.length_map]; exact HB.out) g2 HA.out) HA.out).mono ?_
    rintro e w3 ⟨rfl, h3, g3⟩
    go_wp2
    go_ret
    exact ⟨rfl, h3, grown_trans g2 g3⟩
  · simp only [if_neg hle]
    have hd : decide ((1048576 - tot) < (n : Int)) = true := decide_eq_true (by omega)
    go_enter Tryz.func98, Tryz.ntmps98
    go_wp2
    go_ret
    exact ⟨rfl, rfl⟩

set_option maxRecDepth 100000 in
set_option maxHeartbeats 1000000 in
theorem copy_c (s0 t : List UInt8) (tot : Int) (g : Nat) (T : TypeId) (w : World) (hs : s0.length = 64) (hH : Holds w g T s0 t tot) :
    Calls Tryz.prog 122 #[.pointer (some ⟨g, 0, none⟩)] w fun e w' => e = .returned (.pointer (some ⟨w.heap.size, 0, none⟩)) ∧ Holds w' w.heap.size SmT s0 t tot ∧ Ext w w' := by
  obtain ⟨r, hr, hrt, hB⟩ := hH
  have hl := sm_length (t.length % 32 : Nat) tot (absN_length (t := t) hs (t.length / 32)) hr
  have h1 : ∀ v ∈ sm (absN s0 t (t.length / 32)) r (t.length % 32 : Nat) tot, v.oneCell' = true := by
    intro v hv
    unfold sm at hv
    simp only [List.mem_append, List.mem_cons, List.not_mem_nil, or_false] at hv
    rcases hv with hv | hv | hv | hv
    · exact one_u8 _ v hv
    · exact one_u8 _ v hv
    · rw [hv]; rfl
    · rw [hv]; rfl
  have HB := hid hB
  have HL := hid hl
  have HR := hid hr
  have HRT := hid hrt
  clear hB hl hr hrt
  go_enter Tryz.func122, Tryz.ntmps122
  go_wp2_with (first | (refine wpl_loadw rfl _ _ rfl rfl HB.out agg_sm HL.out ?_) | (refine wpl_storew rfl _ _ _ rfl rfl rfl (Blk.mk_alloc rfl rfl) agg_sm rfl HL.out h1 ?_))
  intro w2 b2 u2
  have e2 := u2.ext ((Ext.refl w).alloc _) (Nat.le_refl _)
  go_wp2
  go_ret
  exact ⟨rfl, ⟨r, HR.out, HRT.out, b2⟩, e2⟩

def initS (d : Int) : List UInt8 := (List.replicate 64 0).set 63 (UInt8.ofNat d.toNat)
theorem initS_length (d : Int) : (initS d).length = 64 := by simp [initS]

theorem zero_sm : Tryz.zeroCells148 = (sm (List.replicate 64 0) (List.replicate 32 0) 0 0).toArray := by kernel_rfl

def newPost (d : Int) (w : World) (e : Ending) (w' : World) : Prop :=
  if d < 0 ∨ 255 < d then e = .returned (.tuple #[.pointer none, .int .i64 3]) ∧ w = w'
  else e = .returned (.tuple #[.pointer (some ⟨w.heap.size, 0, none⟩), .int .i64 0]) ∧ Holds w' w.heap.size SmT (initS d) [] 0 ∧ Ext w w'

set_option maxRecDepth 100000 in
set_option maxHeartbeats 1000000 in
theorem newSummer_c (d : Int) (w : World) :
    Calls Tryz.prog 97 #[.int .i64 d] w (newPost d w) := by
  unfold newPost
  by_cases hd : d < 0 ∨ 255 < d
  · simp only [if_pos hd]
    by_cases h1 : d < 0
    · clear hd
      go_enter Tryz.func97, Tryz.ntmps97
      go_wp2
      go_ret2
      exact ⟨rfl, rfl⟩
    · have h2 : 255 < d := by omega
      clear hd
      go_enter Tryz.func97, Tryz.ntmps97
      go_wp2
      go_ret2
      exact ⟨rfl, rfl⟩
  · simp only [if_neg hd]
    have h1 : ¬ d < 0 := by omega
    have h2 : ¬ 255 < d := by omega
    have h3 : IntKind.u8.wrap d = d := IntWalk.u8_in _ (by omega)
    clear hd
    go_enter Tryz.func97, Tryz.ntmps97
    go_wp2
    go_ret2
    have hz : Tryz.zeroCells148.setIfInBounds 63 (.int .u8 d) = (sm (initS d) (List.replicate 32 0) 0 0).toArray := by
      rw [zero_sm, List.setIfInBounds_toArray]
      congr 1
      unfold sm initS
      rw [List.set_append_left _ _ (by simp), List.map_set]
      have : u8v (UInt8.ofNat d.toNat) = .int .u8 d := by
        unfold u8v
        rw [UInt8.toNat_ofNat']
        congr 1
        omega
      rw [this]
    exact ⟨rfl, ⟨List.replicate 32 0, rfl, rfl, Blk.mk_alloc rfl hz.symm⟩, (Ext.refl w).alloc _⟩
end

section
open Go Go.RowKit

/-- the octets behind a text, up to whole blocks -/
def padT (t : List UInt8) : List UInt8 := t ++ 128 :: List.replicate (31 - t.length % 32) 0
theorem padT_length (t : List UInt8) : (padT t).length % 32 = 0 := by
  unfold padT
  rw [List.length_append, List.length_cons, List.length_replicate]
  omega
/-- the state at the end -/
def finL (s t : List UInt8) (n : Nat) : List UInt8 := absorb (absN s (padT t) ((padT t).length / 32)) (List.replicate 24 0 ++ longL (UInt64.ofNat n))
theorem finL_length (s t : List UInt8) (n : Nat) : (finL s t n).length = 64 := absorb_length _ _
theorem agg_sum : AggT Tryz.prog 34 32 := ⟨⟨_, Tryz.underlying34, rfl⟩, by kernel_rfl⟩
theorem grown_none {w w' : World} (h : Ext w w') (r : Option Nat) : w.grownBy w' r := ⟨h.os, h.tape, h.output, h.size, fun i hi _ => h.block i hi⟩

theorem wpl_loadp {P : Program} {ops : Array Oper} {rest : List Oper} {o : Oper} {a : Act} {w : World} {Q : Exit → Act → World → Prop} (hgd : o.guard = none) (ty : TypeId) (x : Operand) (ho : o.op = .load ty x) {g off n : Nat} {vs xs : List Value} {T : TypeId}
    (hx : a.eval x = .pointer (some ⟨g, off, none⟩)) (hb : Blk w g vs T) (ht : AggT P ty n) (hn : off + n ≤ vs.length) (hxs : (vs.drop off).take n = xs)
    (h : wpList P ops Q rest (a.put o.dst (.agg xs.toArray)) w) : wpList P ops Q (o :: rest) a w :=
  wpl_load hgd ty x ho hx hb ht hn (by rw [hxs]; exact h)

set_option maxRecDepth 100000 in
set_option maxHeartbeats 2000000 in
theorem end_c (s0 t : List UInt8) (N : Nat) (g : Nat) (T : TypeId) (w : World) (hs : s0.length = 64) (hN : N ≤ 4611686018427387904) (hH : Holds w g T s0 t N) :
    Calls Tryz.prog 99 #[.pointer (some ⟨g, 0, none⟩)] w fun e w' => e = .returned (.agg ((finL s0 t N).map u8v).toArray) ∧ Ext w w' := by
  have HS := hid hs
  have HH := hid hH
  have hu : IntKind.u64.wrap (N : Int) = (N : Int) := IntWalk.u64_in _ (by omega)
  have hun : ((UInt64.ofNat N).toNat : Int) = N := by rw [UInt64.toNat_ofNat']; omega
  have hlong := fun w => longOctets_c (UInt64.ofNat N) w
  rw [hun] at hlong
  have HFL : Hid (((finL s0 t N).map u8v).length = 64) := hid (by rw [List.length_map, finL_length])
  have HFD : Hid (finL s0 t N = absorb (absN s0 (padT t) ((padT t).length / 32)) (List.replicate 24 0 ++ longL (UInt64.ofNat N))) := hid rfl
  have hgl := hH.lt
  generalize finL s0 t N = fin at *
  generalize UInt64.ofNat N = u at *
  clear hs hH hun
  go_enter Tryz.func99, Tryz.ntmps99
  go_wp2_with fail
  generalize hwA : World.alloc w _ = wA
  have zA : Blk wA w.heap.size (List.replicate 64 (.int .u8 0)) 64 := by rw [← hwA]; exact Blk.mk_alloc rfl rfl
  have eA : Ext w wA := by rw [← hwA]; exact (Ext.refl w).alloc _
  have sA : wA.heap.size = w.heap.size + 1 := by rw [← hwA]; exact Array.size_push _
  clear hwA
  refine (copy_c s0 t N g T _ HS.out (HH.out.ext eA)).mono ?_
  rintro e w1 ⟨rfl, h1, e1⟩
  have HZ1 := hid (zA.ext e1)
  have HE1 := hid (eA.ext e1)
  have HH1 := hid h1
  rw [sA] at HH1
  rw [sA]
  have lt1 : w.heap.size + 1 < w1.heap.size := HH1.out.lt
  clear zA eA sA h1 e1
  go_wp2_with fail
  generalize hwB : World.alloc w1 _ = wB
  have zB : Blk wB w1.heap.size (([128] : List UInt8).map u8v) 5 := by rw [← hwB]; exact Blk.mk_alloc rfl rfl
  have eB : Ext w1 wB := by rw [← hwB]; exact (Ext.refl w1).alloc _
  clear hwB
  refine (take_c s0 t [128] N (w.heap.size + 1) 1 1 (some ⟨w1.heap.size, 0, none⟩) SmT wB HS.out rfl (HH1.out.ext eB) (by omega) (Nat.le_refl _) (by omega) (by intro h; cases h) (Cells.of_blk0 zB) (.inr (by intro x hx; cases hx; intro h; injection h with h; simp only at h; omega))).mono ?_
  rintro e w2 ⟨rfl, h2, g2⟩
  have gB := grown_none eB (some (w.heap.size + 1))
  have HZ2 := hid ((HZ1.out.grown gB (by intro h; injection h with h; omega)).grown g2 (by intro h; injection h with h; omega))
  have HE2 := hid ((HE1.out.ext eB).grown g2 (by intro k hk; cases hk; omega))
  have lt2 : w.heap.size + 1 < w2.heap.size := h2.lt
  have HH2 := hid h2
  clear h2 g2 zB eB gB HZ1 HH1 HE1 lt1
  obtain ⟨r, hr, hrt, hB⟩ := HH2.out
  have c1 := hB.cell' (sm_have _ N (absN_length HS.out _) hr)
  have hlq : (t ++ [128]).length % 32 = (t.length + 1) % 32 := by rw [List.length_append]; rfl
  rw [hlq] at c1
  have hpt : padT t = (t ++ [128]) ++ List.replicate (31 - t.length % 32) 0 := by unfold padT; rw [List.append_assoc]; rfl
  have hpl := padT_length t
  generalize hq : (t.length + 1) % 32 = q at *
  have hq0 : q = 0 ∨ (0 < q ∧ 32 - q = 31 - t.length % 32) := by omega
  have hq32 : q < 32 := by omega
  clear hr hrt hB r hlq
  rcases hq0 with rfl | ⟨hq1, hq2⟩
  · have : 31 - t.length % 32 = 0 := by omega
    rw [this, List.replicate_zero, List.append_nil] at hpt
    rw [← hpt] at HH2
    clear hpt this hq
    obtain ⟨r, hr, -, hB⟩ := HH2.out
    have HR := hid hr
    have HB2 := hid hB
    clear hr hB
    have c2 := fun o => ((HH.out.ext HE2.out).ext ((Ext.refl w2).alloc o)).elim fun rr hh => hh.2.2.cell' (sm_total _ N (absN_length HS.out _) hh.1)
    go_wp2_with fail
    generalize hwD : World.alloc w2 _ = wD
    have zD : Blk wD w2.heap.size (List.replicate 32 (.int .u8 0)) 34 := by rw [← hwD]; exact Blk.mk_alloc rfl rfl
    have eD : Ext w2 wD := by rw [← hwD]; exact (Ext.refl w2).alloc _
    have sD : wD.heap.size = w2.heap.size + 1 := by rw [← hwD]; exact Array.size_push _
    clear hwD c2
    refine (hlong _).mono ?_
    rintro e wE ⟨rfl, eE⟩
    have lE : wD.heap.size ≤ wE.heap.size := eE.size
    go_wp2_with (refine wpl_storew rfl _ _ _ rfl rfl rfl (Blk.mk_alloc rfl rfl) agg_eight rfl rfl (one_u8 _) ?_)
    intro wF bF uF
    have eF : Ext wD wF := uF.ext (eE.alloc _) eE.size
    have HZF := hid (zD.ext eF)
    have HBF := hid bF
    have HEF := hid (eD.ext eF)
    clear bF uF eE zD
    generalize wE.heap.size = gE at *
    go_wp2
    refine wp_region_cls (C := fun w' => ∃ n, w' = wF.drewN n) 2 (by kernel_rfl) (by kernel_rfl) ⟨1, rfl⟩ ?_
    simp only [List.take_succ_cons, List.take_zero, List.drop_succ_cons, List.drop_zero]
    iterate 2 quiet_step (fail)
    refine wpQuiet_nil ?_
    rintro _ ⟨nq, rfl⟩
    have HLL : Hid (((longL u).map u8v).length = 8) := hid (by rw [List.length_map, longL_length])
    have hsp : splice (List.replicate 32 (.int .u8 0)) 24 ((longL u).map u8v) = (List.replicate 24 0 ++ longL u).map u8v := rfl
    have HSP := hid hsp
    have h32 : (List.replicate 24 0 ++ longL u).length = 32 := rfl
    clear hsp
    generalize hLv : (longL u).map u8v = lv at *
    have hlv1 : ∀ v ∈ lv, v.oneCell' = true := by rw [← hLv]; exact one_u8 _
    clear hLv
    have HBV := hid (Cells.of_blk0 (HBF.out.drewN (n := nq)))
    go_wp2_with (refine wpl_copyc rfl _ _ _ _ rfl rfl rfl (HZF.out.drewN (n := nq)) Tryz.underlying39 size_u8 HLL.out rfl (fun e => by cases e) HBV.out (by simp) hlv1 ?_)
    intro wG bG uG
    change Blk wG _ (splice (List.replicate 32 (.int .u8 0)) 24 lv) _ at bG
    rw [HSP.out] at bG
    generalize hlast : List.replicate 24 0 ++ longL u = last at *
    clear hlast
    have gne : w.heap.size + 1 ≠ w2.heap.size := by omega
    have HBG := hid (((HB2.out.ext HEF.out).drewN (n := nq)).upd uG gne)
    have HSR : Hid (∀ i, i < 32 → wG.cell? ⟨w2.heap.size, 0 + i, none⟩ = some (.int .u8 ((last[i]?.getD 0).toNat : Int))) := hid fun i hi => by
      rw [Nat.zero_add]; exact bG.cell' (u8_at (by omega))
    have eG : Ext w2 wG := uG.ext (HEF.out.drewN nq) (Nat.le_refl _)
    have HZG := hid (HZ2.out.ext eG)
    have HEG := hid (HE2.out.ext eG)
    clear bG uG eG HZF HBF HEF HZ2 HB2 HBV HLL HSP hlv1 h32
    go_wp2_with fail
    refine (block_c _ last _ (w.heap.size + 1) w2.heap.size 0 SmT wG (absN_length HS.out _) HBG.out HSR.out (.inl (Ne.symm gne))).mono ?_
    rintro e wH ⟨rfl, bH, gH⟩
    rw [← HFD.out] at bH
    have HZH := hid (HZG.out.grown gH (by intro h; injection h with h; omega))
    have HEH := hid (HEG.out.grown gH (by intro k hk; cases hk; omega))
    generalize r.map u8v ++ [Value.int IntKind.i64 _, Value.int IntKind.i64 _] = tl at *
    have hlH : 0 + 64 ≤ (fin.map u8v ++ tl).length := by rw [List.length_append, HFL.out]; omega
    have htk : ((fin.map u8v ++ tl).drop 0).take 64 = fin.map u8v := by rw [List.drop_zero, ← HFL.out, List.take_left]
    generalize hvs : fin.map u8v ++ tl = vs at *
    have HVS := hid hvs
    have HTK := hid htk
    have h1f := one_u8 fin
    clear hvs gH htk
    generalize hfv : fin.map u8v = fv at *
    have HFV := hid hfv
    clear hfv
    go_wp2_with (first | (refine wpl_loadp rfl _ _ rfl rfl bH agg_state hlH HTK.out ?_) | refine wpl_storew rfl _ _ _ rfl rfl rfl HZH.out agg_state rfl HFL.out h1f ?_)
    intro wI bI uI
    go_wp2
    refine ret_row rfl rfl bI agg_state HFL.out rfl ⟨by rw [HFV.out], uI.ext HEH.out (Nat.le_refl _)⟩
  · obtain ⟨k, hk⟩ : ∃ k, 32 - q = k := ⟨_, rfl⟩
    have iq1 : IntKind.i64.wrap (32 - (q : Int)) = (k : Int) := by rw [IntWalk.i64_in _ (by omega)]; omega
    have hkq : k ≤ 32 ∧ 0 < k := by omega
    rw [hk] at hq2
    have HK := hid hk
    have HQ2 := hid hq2
    have HPT := hid hpt
    clear hk hq hq2 hpt
    have hdq : decide ((0 : Int) < (q : Int)) = true := decide_eq_true (by omega)
    go_wp2_with (refine wpl_mk8 rfl _ _ rfl (n := k) rfl rfl (by omega) ?_)
    generalize hwC : World.alloc w2 _ = wC
    have zC : Blk wC w2.heap.size ((List.replicate (k) (0 : UInt8)).map u8v) 5 := by rw [← hwC]; exact Blk.mk_alloc rfl (by simp)
    have eC : Ext w2 wC := by rw [← hwC]; exact (Ext.refl w2).alloc _
    clear hwC
    refine (take_c s0 (t ++ [128]) (List.replicate (k) 0) N (w.heap.size + 1) k k (some ⟨w2.heap.size, 0, none⟩) SmT wC HS.out (List.length_replicate ..) (HH2.out.ext eC) (by omega) (Nat.le_refl _) (by omega) (by intro h; cases h) (Cells.of_blk0 zC) (.inr (by intro x hx; cases hx; intro h; injection h with h; simp only at h; omega))).mono ?_
    rintro e w3 ⟨rfl, h3, g3⟩
    rw [HQ2.out, ← HPT.out] at h3
    have gC := grown_none eC (some (w.heap.size + 1))
    have HZ3 := hid ((HZ2.out.grown gC (by intro h; injection h with h; omega)).grown g3 (by intro h; injection h with h; omega))
    have HE3 := hid ((HE2.out.ext eC).grown g3 (by intro k hk; cases hk; omega))
    have lt3 : w.heap.size + 1 < w3.heap.size := h3.lt
    have HH3 := hid h3
    clear h3 g3 zC eC gC HZ2 HH2 HE2 lt2 c1 hq1 hdq iq1 HK hkq HQ2 HPT
    obtain ⟨r, hr, -, hB⟩ := HH3.out
    have HR := hid hr
    have HB3 := hid hB
    clear hr hB
    have c2 := fun o => ((HH.out.ext HE3.out).ext ((Ext.refl w3).alloc o)).elim fun rr hh => hh.2.2.cell' (sm_total _ N (absN_length HS.out _) hh.1)
    go_wp2_with fail
    generalize hwD : World.alloc w3 _ = wD
    have zD : Blk wD w3.heap.size (List.replicate 32 (.int .u8 0)) 34 := by rw [← hwD]; exact Blk.mk_alloc rfl rfl
    have eD : Ext w3 wD := by rw [← hwD]; exact (Ext.refl w3).alloc _
    have sD : wD.heap.size = w3.heap.size + 1 := by rw [← hwD]; exact Array.size_push _
    clear hwD c2
    refine (hlong _).mono ?_
    rintro e wE ⟨rfl, eE⟩
    have lE : wD.heap.size ≤ wE.heap.size := eE.size
    go_wp2_with (refine wpl_storew rfl _ _ _ rfl rfl rfl (Blk.mk_alloc rfl rfl) agg_eight rfl rfl (one_u8 _) ?_)
    intro wF bF uF
    have eF : Ext wD wF := uF.ext (eE.alloc _) eE.size
    have HZF := hid (zD.ext eF)
    have HBF := hid bF
    have HEF := hid (eD.ext eF)
    clear bF uF eE zD
    generalize wE.heap.size = gE at *
    go_wp2
    refine wp_region_cls (C := fun w' => ∃ n, w' = wF.drewN n) 2 (by kernel_rfl) (by kernel_rfl) ⟨1, rfl⟩ ?_
    simp only [List.take_succ_cons, List.take_zero, List.drop_succ_cons, List.drop_zero]
    iterate 2 quiet_step (fail)
    refine wpQuiet_nil ?_
    rintro _ ⟨nq, rfl⟩
    have HLL : Hid (((longL u).map u8v).length = 8) := hid (by rw [List.length_map, longL_length])
    have hsp : splice (List.replicate 32 (.int .u8 0)) 24 ((longL u).map u8v) = (List.replicate 24 0 ++ longL u).map u8v := rfl
    have HSP := hid hsp
    have h32 : (List.replicate 24 0 ++ longL u).length = 32 := rfl
    clear hsp
    generalize hLv : (longL u).map u8v = lv at *
    have hlv1 : ∀ v ∈ lv, v.oneCell' = true := by rw [← hLv]; exact one_u8 _
    clear hLv
    have HBV := hid (Cells.of_blk0 (HBF.out.drewN (n := nq)))
    go_wp2_with (refine wpl_copyc rfl _ _ _ _ rfl rfl rfl (HZF.out.drewN (n := nq)) Tryz.underlying39 size_u8 HLL.out rfl (fun e => by cases e) HBV.out (by simp) hlv1 ?_)
    intro wG bG uG
    change Blk wG _ (splice (List.replicate 32 (.int .u8 0)) 24 lv) _ at bG
    rw [HSP.out] at bG
    generalize hlast : List.replicate 24 0 ++ longL u = last at *
    clear hlast
    have gne : w.heap.size + 1 ≠ w3.heap.size := by omega
    have HBG := hid (((HB3.out.ext HEF.out).drewN (n := nq)).upd uG gne)
    have HSR : Hid (∀ i, i < 32 → wG.cell? ⟨w3.heap.size, 0 + i, none⟩ = some (.int .u8 ((last[i]?.getD 0).toNat : Int))) := hid fun i hi => by
      rw [Nat.zero_add]; exact bG.cell' (u8_at (by omega))
    have eG : Ext w3 wG := uG.ext (HEF.out.drewN nq) (Nat.le_refl _)
    have HZG := hid (HZ3.out.ext eG)
    have HEG := hid (HE3.out.ext eG)
    clear bG uG eG HZF HBF HEF HZ3 HB3 HBV HLL HSP hlv1 h32
    go_wp2_with fail
    refine (block_c _ last _ (w.heap.size + 1) w3.heap.size 0 SmT wG (absN_length HS.out _) HBG.out HSR.out (.inl (Ne.symm gne))).mono ?_
    rintro e wH ⟨rfl, bH, gH⟩
    rw [← HFD.out] at bH
    have HZH := hid (HZG.out.grown gH (by intro h; injection h with h; omega))
    have HEH := hid (HEG.out.grown gH (by intro k hk; cases hk; omega))
    generalize r.map u8v ++ [Value.int IntKind.i64 _, Value.int IntKind.i64 _] = tl at *
    have hlH : 0 + 64 ≤ (fin.map u8v ++ tl).length := by rw [List.length_append, HFL.out]; omega
    have htk : ((fin.map u8v ++ tl).drop 0).take 64 = fin.map u8v := by rw [List.drop_zero, ← HFL.out, List.take_left]
    generalize hvs : fin.map u8v ++ tl = vs at *
    have HVS := hid hvs
    have HTK := hid htk
    have h1f := one_u8 fin
    clear hvs gH htk
    generalize hfv : fin.map u8v = fv at *
    have HFV := hid hfv
    clear hfv
    go_wp2_with (first | (refine wpl_loadp rfl _ _ rfl rfl bH agg_state hlH HTK.out ?_) | refine wpl_storew rfl _ _ _ rfl rfl rfl HZH.out agg_state rfl HFL.out h1f ?_)
    intro wI bI uI
    go_wp2
    refine ret_row rfl rfl bI agg_state HFL.out rfl ⟨by rw [HFV.out], uI.ext HEH.out (Nat.le_refl _)⟩
end

section
open Go Go.RowKit

theorem agg_apisum : AggT Tryz.prog 35 32 := ⟨⟨_, Tryz.underlying35, rfl⟩, by kernel_rfl⟩

/-- the sum of a text -/
def sumL (d : Int) (t : List UInt8) : List UInt8 := (finL (initS d) t t.length).take 32
theorem sumL_length (d : Int) (t : List UInt8) : (sumL d t).length = 32 := by rw [sumL, List.length_take, finL_length]; rfl

set_option maxRecDepth 100000 in
set_option maxHeartbeats 1000000 in
theorem sum_c (s0 t : List UInt8) (N : Nat) (g : Nat) (T : TypeId) (w : World) (hs : s0.length = 64) (hN : N ≤ 4611686018427387904) (hH : Holds w g T s0 t N) :
    Calls Tryz.prog 67 #[.pointer (some ⟨g, 0, none⟩)] w fun e w' => e = .returned (.agg (((finL s0 t N).take 32).map u8v).toArray) ∧ Ext w w' := by
  have HH := hid hH
  have HFL : Hid (((finL s0 t N).map u8v).length = 64) := hid (by rw [List.length_map, finL_length])
  have HF2 : Hid ((((finL s0 t N).map u8v).drop 0).take 32 = ((finL s0 t N).take 32).map u8v) := hid (by rw [List.drop_zero, List.map_take])
  have HF3 : Hid ((((finL s0 t N).take 32).map u8v).length = 32) := hid (by rw [List.length_map, List.length_take, finL_length]; rfl)
  have h1 := one_u8 (finL s0 t N)
  have h2 := one_u8 ((finL s0 t N).take 32)
  have hend := fun w' (h : Holds w' g T s0 t N) => end_c s0 t N g T w' hs hN h
  generalize hfv2 : ((finL s0 t N).take 32).map u8v = fv2 at *
  generalize (finL s0 t N).map u8v = fv at *
  clear hH hfv2
  have ha := run_arrayAt (P := Tryz.prog) Tryz.underlying35 (len := 32) (Nat.le_refl 32)
  go_enter Tryz.func67, Tryz.ntmps67
  go_wp2_with fail
  generalize hwA : World.alloc w _ = wA
  have zA : Blk wA w.heap.size (List.replicate 32 (.int .u8 0)) 35 := by rw [← hwA]; exact Blk.mk_alloc rfl rfl
  have eA : Ext w wA := by rw [← hwA]; exact (Ext.refl w).alloc _
  clear hwA
  refine (hend _ (HH.out.ext eA)).mono ?_
  rintro e w1 ⟨rfl, e1⟩
  have HZ := hid (zA.ext e1)
  have HE := hid (eA.ext e1)
  clear zA eA e1
  go_wp2_with (refine wpl_storew rfl _ _ _ rfl rfl rfl (Blk.mk_alloc rfl rfl) agg_state rfl HFL.out h1 ?_)
  intro w2 b2 u2
  have e2 : Ext w1 w2 := u2.ext ((Ext.refl w1).alloc _) (Nat.le_refl _)
  have HZ2 := hid (HZ.out.ext e2)
  have HE2 := hid (HE.out.ext e2)
  clear e2 u2
  go_wp2_with (first | (refine wpl_loadp rfl _ _ rfl rfl b2 agg_apisum (by rw [HFL.out]; omega) HF2.out ?_) | refine wpl_storew rfl _ _ _ rfl rfl rfl HZ2.out agg_apisum rfl HF3.out h2 ?_)
  intro w3 b3 u3
  go_wp2
  refine ret_row rfl rfl b3 agg_apisum HF3.out rfl ⟨rfl, u3.ext HE2.out (Nat.le_refl _)⟩

def summedPost (d : Int) (t : List UInt8) (w : World) (e : Ending) (w' : World) : Prop :=
  (if d < 0 ∨ 255 < d then e = .returned (.tuple #[.pointer none, .int .i64 3])
  else if t.length ≤ 1048576 then e = .returned (.tuple #[.pointer (some ⟨w.heap.size, 0, none⟩), .int .i64 0]) ∧ Holds w' w.heap.size SmT (initS d) t t.length
  else e = .returned (.tuple #[.pointer none, .int .i64 5])) ∧ Ext w w'

set_option maxRecDepth 100000 in
set_option maxHeartbeats 1000000 in
theorem summed_c (its : List Item) (d : Int) (g len cap : Nat) (w : World) (hlen : its.length = len) (hl2 : len ≤ 1000)
    (hg : ∀ i it, its[i]? = some it → w.cell? ⟨g, i, none⟩ = some (itemV it)) (hgs : g < w.heap.size)
    (hc : ∀ it ∈ its, Cells w it.1 (it.2.2.map u8v)) (hn : ∀ it ∈ its, it.1 = none → it.2.1 = 0) (hnc : ∀ it ∈ its, it.2.2.length ≤ it.2.1) (hcm : ∀ it ∈ its, it.2.1 ≤ 9223372036854775807) :
    Calls Tryz.prog 66 #[.int .i64 d, .slice (some ⟨g, 0, none⟩) len cap] w (summedPost d (cat its) w) := by
  have HL := hid hlen
  have HG := hid hg
  have HC := hid hc
  have HN := hid hn
  have HNC := hid hnc
  have HCM := hid hcm
  clear hlen hg hc hn hnc hcm
  unfold summedPost
  by_cases hd : d < 0 ∨ 255 < d
  · simp only [if_pos hd]
    have hd' := hid hd
    clear hd
    go_enter Tryz.func66, Tryz.ntmps66
    go_wp2_with fail
    refine (newSummer_c d w).mono ?_
    intro e w1 h
    unfold newPost at h
    rw [if_pos hd'.out] at h
    obtain ⟨rfl, rfl⟩ := h
    go_wp2
    go_ret2
    exact ⟨rfl, Ext.refl _⟩
  · simp only [if_neg hd]
    have hd' := hid hd
    clear hd
    go_enter Tryz.func66, Tryz.ntmps66
    go_wp2_with fail
    refine (newSummer_c d w).mono ?_
    intro e w1 h
    unfold newPost at h
    rw [if_neg hd'.out] at h
    obtain ⟨rfl, h1, e1⟩ := h
    have HH1 := hid h1
    have HE1 := hid e1
    clear h1 e1
    go_wp2
    go_loopw [21] (fun x wr => ∃ k : Nat, k ≤ len ∧ x = .int .i64 k ∧ Hid ((cat (its.take k)).length ≤ 1048576) ∧ Hid (Holds wr w.heap.size SmT (initS d) (cat (its.take k)) (cat (its.take k)).length) ∧ Hid (Ext w wr))
      (fun x _ => len - (intOf x).toNat)
    case atStart => exact ⟨0, by omega, rfl, hid (by simp [cat]), hid HH1.out, HE1⟩
    case round =>
      obtain ⟨k, hk, rfl, hsm, hh, he⟩ := hrel
      by_cases hlt : k < len
      · have hdk : decide ((k : Int) < (len : Int)) = true := decide_eq_true (by omega)
        obtain ⟨it, hit⟩ : ∃ it, its[k]? = some it := ⟨_, List.getElem?_eq_getElem (by rw [HL.out]; exact hlt)⟩
        have hmem : it ∈ its := List.mem_of_getElem? hit
        have hcell := (he.out.cell (p := ⟨g, k, none⟩) hgs).trans (HG.out k it hit)
        obtain ⟨a, c, l⟩ := it
        have hcs := cat_succ hit
        simp only [itemV] at hcell
        have hnc := HNC.out _ hmem
        have hcm := HCM.out _ hmem
        simp only at hnc hcm hcs
        have HCS := hid hcs
        have HIC := hid (HC.out _ hmem)
        have HIN := hid (HN.out _ hmem)
        have hi0 : (0 : Int) ≤ (k : Int) := by omega
        have hi1 : (k : Int) < (len : Int) := by omega
        clear hcs hit hmem
        generalize hll : l.length = ll at *
        generalize hT : cat (its.take k) = tk at *
        have HCL := hid (cat_le its (k + 1))
        go_wp2_with fail
        refine (write_c (initS d) tk l (tk.length : Nat) w.heap.size ll c a SmT wr (initS_length d) hll (by omega) (by have := hsm.out; omega) hh.out (by omega) hnc hcm (fun e => by have := HIN.out e; omega) (HIC.out.ext he.out) (away_of HIC.out (by rw [List.length_map]; exact hll) (Nat.le_refl _))).mono ?_
        intro e w2 h
        unfold writePost at h
        rw [hll] at h
        by_cases hfit : (ll : Int) ≤ 1048576 - (tk.length : Nat)
        · rw [if_pos hfit] at h
          obtain ⟨rfl, h2, g2⟩ := h
          have HH2 := hid h2
          have HE2 := hid (he.out.grown g2 (by intro k' hk'; cases hk'; exact Nat.le_refl _))
          have hfl : (tk ++ l).length = tk.length + ll := by rw [List.length_append, hll]
          have HFL := hid hfl
          clear h2 g2 hfl
          go_wp2
          go_roundw
          case rel =>
            refine ⟨k + 1, by omega, by go_num, hid ?_, hid ?_, HE2⟩
            · rw [HCS.out, HFL.out]; omega
            · rw [HCS.out, HFL.out, Int.natCast_add]; exact HH2.out
          case measure => simp [intOf]; omega
        · rw [if_neg hfit] at h
          obtain ⟨rfl, rfl⟩ := h
          have hbig : ¬ (cat its).length ≤ 1048576 := by
            have := HCL.out
            rw [HCS.out, List.length_append, hll] at this
            omega
          have HBIG := hid hbig
          clear hbig hfit
          go_wp2
          go_ret2
          refine ⟨?_, he.out⟩
          first | rfl | (rw [if_neg HBIG.out]; rfl)
      · have hkl : k = len := by omega
        subst hkl
        have hct : cat (its.take k) = cat its := by rw [List.take_of_length_le (by rw [HL.out]; exact Nat.le_refl _)]
        rw [hct] at hsm hh
        have HIF : Hid ((cat its).length ≤ 1048576) := hsm
        clear hct
        go_wp2
        go_ret2
        refine ⟨?_, he.out⟩
        first | exact ⟨rfl, hh.out⟩ | (rw [if_pos HIF.out]; exact ⟨rfl, hh.out⟩)
end

section
open Go Go.RowKit

theorem longL_at (N i : Nat) (hN : N < 18446744073709551616) (hi : i < 8) : ((((longL (UInt64.ofNat N))[i]?.getD 0).toNat : Nat) : Int) = (N : Int) / 2 ^ (56 - 8 * i) % 256 := by
  have hN' : (UInt64.ofNat N).toNat = N := by rw [UInt64.toNat_ofNat']; omega
  unfold longL
  rw [hN']
  have h1 : (UInt32.ofNat (N / 4294967296)).toNat = N / 4294967296 % 4294967296 := UInt32.toNat_ofNat' ..
  have h2 : (UInt32.ofNat N).toNat = N % 4294967296 := UInt32.toNat_ofNat' ..
  rcases (by omega : i = 0 ∨ i = 1 ∨ i = 2 ∨ i = 3 ∨ i = 4 ∨ i = 5 ∨ i = 6 ∨ i = 7) with rfl | rfl | rfl | rfl | rfl | rfl | rfl | rfl
  all_goals
    simp only [octL, h1, h2, List.cons_append, List.nil_append, List.getElem?_cons_zero, List.getElem?_cons_succ, Option.getD_some, u8_ofNat]
    simp
    try omega

set_option maxRecDepth 100000 in
set_option maxHeartbeats 1000000 in
theorem rlong_c (N : Nat) (w : World) (hN : N ≤ 4611686018427387904) :
    Calls Tryz.prog 77 #[.int .i64 (N : Int)] w fun e w' => e = .returned (.slice (some ⟨w.heap.size, 0, none⟩) 8 8) ∧ Blk w' w.heap.size ((longL (UInt64.ofNat N)).map u8v) 5 ∧ Ext w w' := by
  have hmk := fun w => run_mk8 w 8 (by omega)
  obtain ⟨f, hf⟩ : ∃ f : Nat → UInt8, (fun i => (longL (UInt64.ofNat N))[i]?.getD 0) = f := ⟨_, rfl⟩
  have hle : longL (UInt64.ofNat N) = fill (fun i => (longL (UInt64.ofNat N))[i]?.getD 0) 0 8 8 := by
    rw [fill_all _ _ _ _ (Nat.le_refl _)]; rfl
  have HLE := hid hle
  have hat : ∀ i, i < 8 → (N : Int) / 2 ^ (56 - 8 * i) % 256 = ((f i).toNat : Int) := fun i hi => by rw [← hf, longL_at N i (by omega) hi]
  rw [hf] at HLE
  clear hle hf
  generalize longL (UInt64.ofNat N) = ll at *
  go_enter Tryz.func77, Tryz.ntmps77
  go_wp2_with (refine wpl_mk8 rfl _ _ rfl (n := 8) rfl rfl (by omega) ?_)
  generalize hwA : World.alloc w _ = wA
  have zA : Blk wA w.heap.size ((fill f 0 8 0).map u8v) 5 := by rw [← hwA]; exact Blk.mk_alloc rfl (by rw [fill_zero]; simp)
  have eA : Ext w wA := by rw [← hwA]; exact (Ext.refl w).alloc _
  clear hwA
  go_loopw [8] (fun x wr => ∃ i : Nat, i ≤ 8 ∧ x = .int .i64 i ∧ Blk wr w.heap.size ((fill f 0 8 i).map u8v) 5 ∧ Ext w wr)
    (fun x _ => 8 - (intOf x).toNat)
  case atStart => exact ⟨0, by omega, rfl, zA, eA⟩
  case round =>
    obtain ⟨i, hi, rfl, q1, q2⟩ := hrel
    by_cases hlt : i < 8
    · have hd : decide ((i : Int) < 8) = true := decide_eq_true (by omega)
      have so := hat i hlt
      have c1 := q1.cell' (i := i) (u8_at (by rw [fill_length]; exact hlt))
      have f1 := q1.frozen i
      have i0 : (0 : Int) ≤ (i : Int) := by omega
      have i1 : (i : Int) < 8 := by omega
      have k1 : IntKind.i64.wrap (8 * (i : Int)) = 8 * (i : Int) := IntWalk.i64_in _ (by omega)
      have k2 : IntKind.i64.wrap (56 - 8 * (i : Int)) = ((56 - 8 * i : Nat) : Int) := by rw [IntWalk.i64_in _ (by omega)]; omega
      go_wp2
      go_roundw
      case rel => exact ⟨i + 1, by omega, by go_num, q1.fill8, q2.set _ (Nat.le_refl _)⟩
      case measure => simp [intOf]; omega
    · obtain rfl : i = 8 := by omega
      go_wp2
      go_ret
      exact ⟨rfl, by rw [HLE.out]; exact q1, q2⟩
end

section
open Go Go.RowKit

theorem zeroCells_u8 (k : Nat) : Builtin.zeroCells (Value.int .u8 0).cells k = (List.replicate k (Value.int .u8 0)).toArray := by
  have e : (Value.int .u8 0).cells = #[.int .u8 0] := rfl
  apply Array.ext
  · simp [Builtin.zeroCells, e]
  · intro i h1 h2
    simp [Builtin.zeroCells, e, Nat.mod_one]

theorem run_append_zeros_own (w : World) (base : Nat) (ty : TypeId) (v : Value) (n : Nat) (xs : List Value) (hown : w.ownsRow base 5 1 v n xs) (k : Nat) (hk : 0 < k)
    (hb : n + k ≤ 140737488355328) (hbase : base ≤ w.heap.size) :
    ∃ v' w', (Builtin.append_ #[39, 3] ty #[v, .int .i64 (k : Int)]).run Tryz.prog w = .ok v' w' ∧ w'.ownsRow base 5 1 v' (n + k) (xs ++ List.replicate k (.int .u8 0)) ∧ w.grownBy w' v.ownBlock := by
  obtain ⟨i0, hi, hz, hs, hb1⟩ := info_parts info_u8
  have hl1 := hown.1
  have hlen : (xs ++ List.replicate k (Value.int .u8 0)).length = (n + k) * 1 := by rw [List.length_append, List.length_replicate, hl1]; omega
  have grown : ∀ (old : Nat), old < n + k → ∀ (row : Option Nat),
      (w.drew.alloc (.cells (xs.toArray ++ Builtin.zeroCells (Value.int .u8 0).cells k ++ Builtin.zeroCells (Value.int .u8 0).cells (grownCap w (n + k) old 5 - (n + k))) 5)).ownsRow base 5 1
        (.slice (some ⟨w.heap.size, 0, none⟩) (n + k) (grownCap w (n + k) old 5)) (n + k) (xs ++ List.replicate k (.int .u8 0)) ∧
      w.grownBy (w.drew.alloc (.cells (xs.toArray ++ Builtin.zeroCells (Value.int .u8 0).cells k ++ Builtin.zeroCells (Value.int .u8 0).cells (grownCap w (n + k) old 5 - (n + k))) 5)) row := by
    intro old ho row
    have hge := grownCap_ge w (n + k) old 5
    have hcm : grownCap w (n + k) old 5 ≤ maxLen := grownCap_le_maxLen w (n + k) old 5 (by unfold maxLen; omega)
    refine ⟨⟨hlen, .inr ⟨w.heap.size, _, _, rfl, hbase, heap_alloc_new w.drew _, hge, hcm, ?_, ?_⟩⟩, ⟨rfl, rfl, rfl, by simp, fun j hj _ => heap_alloc_old w.drew _ hj⟩⟩
    · simp only [Array.size_append, List.size_toArray, zeroCells_u8, List.length_replicate, hl1]; omega
    · simp only [Array.toList_append, zeroCells_u8, List.append_assoc]
      rw [← List.append_assoc, ← hlen]
      exact List.take_left
  rcases hown.2 with ⟨rfl, rfl⟩ | ⟨g, cap, cur, rfl, hbg, hg, hnc, hcm, hcs, htake⟩
  · have hx : xs = [] := List.eq_nil_of_length_eq_zero (by simpa using hl1)
    subst hx
    have hr := Lib.run_append_nil_zeros (P := Tryz.prog) w 39 3 ty 5 i0 (.int .u8 0) .i64 .i64 Tryz.underlying39 Tryz.underlying3 hi hz k hk (by omega) (by omega) (by rw [hb1]; omega)
    have hgr := grown 0 (by omega) (Value.ownBlock (.slice none 0 0))
    simp only [Nat.zero_add, Array.empty_append] at hgr hr ⊢
    exact ⟨_, _, hr, by simpa using hgr.1, by simpa using hgr.2⟩
  · by_cases hroom : n + k ≤ cap
    · have hfit : n * 1 + (List.replicate k (Value.int .u8 0)).length ≤ cur.size := by rw [List.length_replicate, hcs]; omega
      have hst := run_storeCells_at Tryz.prog g (n * 1) 5 (List.replicate k (Value.int .u8 0)) 0 cur w hg (by simpa using hfit) (by intro u hu; simp at hu; rw [hu.2]; rfl)
      have hw : IntKind.i64.wrap (k : Int) = k := by rw [IntKind.wrap_i64]; omega
      have h48i : ¬ (281474976710656 < (k : Int) * (i0.bytes : Int)) := by rw [hb1]; omega
      have hns : ¬ (k * i0.size = 0) := by rw [hs]; omega
      have hneg : ¬ ((k : Int) < 0) := by omega
      have hk0 : k ≠ 0 := by omega
      simp only [Nat.add_zero] at hst
      have hr : (Builtin.append_ #[39, 3] ty #[.slice (some ⟨g, 0, none⟩) n cap, .int .i64 (k : Int)]).run Tryz.prog w =
          .ok (.slice (some ⟨g, 0, none⟩) (n + k) cap) (w.setRow g (cur.toList.take (n * 1) ++ List.replicate k (Value.int .u8 0) ++ cur.toList.drop (n * 1 + (List.replicate k (Value.int .u8 0)).length)).toArray) := by
        simp [Builtin.append_, run_underlying Tryz.underlying39, run_underlying Tryz.underlying3, sizeOf, typeInfo, zeroValue, hi, hz, asInt, asIntOf, hw, hneg, h48i, hns, hroom, zeroCells_u8, hk0, hs, Addr.add_lit]
        simp at hst
        simp [hst]
      refine ⟨_, _, hr, ⟨hlen, .inr ⟨g, cap, _, rfl, hbg, setRow_heap w g cur _ _ _ hg, hroom, hcm, ?_, ?_⟩⟩, ⟨rfl, rfl, rfl, by simp, fun j _ hj => setRow_other w g j _ (fun e => hj (by simp [Value.ownBlock, e]))⟩⟩
      · simp only [List.size_toArray, List.length_append, List.length_take, List.length_drop, Array.length_toList, List.length_replicate]
        omega
      · rw [htake, ← hlen]
        exact List.take_left
    · have holds : ∀ j u, xs[j]? = some u → w.cell? ((⟨g, 0, none⟩ : Addr).add j) = some u := hown.cells (g := g) rfl
      have hold : (Builtin.firstCells i0.size n (.slice (some ⟨g, 0, none⟩) n cap)).run Tryz.prog w.drew = .ok xs.toArray w.drew := run_firstCells_some (P := Tryz.prog) w.drew i0.size n ⟨g, 0, none⟩ n cap xs (by rw [hs]; exact hl1) holds
      have hr := Lib.run_append_grow_zeros (P := Tryz.prog) w 39 3 ty 5 i0 (.int .u8 0) .i64 .i64 Tryz.underlying39 Tryz.underlying3 hi hz (some ⟨g, 0, none⟩) n cap xs hold k hk (by omega) (by omega) (by omega) (by rw [hb1]; omega) (growslice_fits (by omega) (by rw [hb1]; omega))
      have hgr := grown cap (by omega) (Value.ownBlock (.slice (some ⟨g, 0, none⟩) n cap))
      exact ⟨_, _, hr, hgr.1, hgr.2⟩

theorem wpl_append_zeros {ops : Array Oper} {rest : List Oper} {o : Oper} {a : Act} {w : World} {Q : Exit → Act → World → Prop} (hgd : o.guard = none) (s x : Operand)
    (ho : o.op = .call { callee := .builtin .append, args := #[s, x], argTypes := #[39, 3] }) (base : Nat) {v : Value} {n : Nat} {xs : List Value} {k : Nat}
    (hs : a.eval s = v) (hx : a.eval x = .int .i64 (k : Int)) (hown : w.ownsRow base 5 1 v n xs) (hk : 0 < k) (hb : n + k ≤ 140737488355328) (hbase : base ≤ w.heap.size)
    (h : ∀ v' w', w'.ownsRow base 5 1 v' (n + k) (xs ++ List.replicate k (.int .u8 0)) → w.grownBy w' v.ownBlock → wpList Tryz.prog ops Q rest (a.put o.dst v') w') : wpList Tryz.prog ops Q (o :: rest) a w := by
  obtain ⟨v', w', hr, h1, h2⟩ := run_append_zeros_own w base o.type v n xs hown k hk hb hbase
  exact Lib.wpList_append_run w hgd s x _ _ ho v _ hs hx v' w' hr (h v' w' h1 h2)

/-- append onto a row of one's own: octets -/
theorem wpl_append8 {ops : Array Oper} {rest : List Oper} {o : Oper} {a : Act} {w : World} {Q : Exit → Act → World → Prop} (hgd : o.guard = none) (s x : Operand)
    (ho : o.op = .call { callee := .builtin .append, args := #[s, x], argTypes := #[39, 39] }) (base : Nat) {v : Value} {n m c : Nat} {xs ys : List UInt8} {ad : Option Addr}
    (hs : a.eval s = v) (hx : a.eval x = .slice ad m c) (hown : w.ownsRow base 5 1 v n (xs.map u8v)) (hm : ys.length = m) (had : ad = none → m = 0 ∧ c = 0) (hc : Cells w ad (ys.map u8v))
    (hb : n + m ≤ 140737488355328) (hbase : base ≤ w.heap.size)
    (h : ∀ v' w', w'.ownsRow base 5 1 v' (n + m) ((xs ++ ys).map u8v) → w.grownBy w' v.ownBlock → wpList Tryz.prog ops Q rest (a.put o.dst v') w') : wpList Tryz.prog ops Q (o :: rest) a w := by
  obtain ⟨i0, hi, hz, hsz, hb1⟩ := info_parts info_u8
  cases ad with
  | none =>
    obtain ⟨rfl, rfl⟩ := had rfl
    have hy : ys = [] := List.length_eq_zero_iff.1 hm
    subst hy
    have h' := h v w (by simpa using hown) (grown_refl w _)
    exact wpList_append_own_none hgd s x 39 ho base 5 i0 1 Tryz.underlying39 hi v n (xs.map u8v) hs hown hx h'
  | some y =>
    exact wpList_append_own w hgd s x 39 ho base 5 i0 (.int .u8 0) 1 1 Tryz.underlying39 hi hz hsz hb1 rfl (by decide) v n (xs.map u8v) hs hown y m c (ys.map u8v) hx
      (by rw [List.length_map, hm, Nat.mul_one]) (news_cells hc) (one_u8 _) (by unfold maxLen; omega) (by omega) hbase (fun v' w' h1 h2 _ => h v' w' (by rw [List.map_append]; exact h1) h2)

theorem own_block_ge {w : World} {B : Nat} {e : TypeId} {size n : Nat} {v : Value} {xs : List Value} (h : w.ownsRow B e size v n xs) : ∀ g, v.ownBlock = some g → B ≤ g := by
  intro g hg
  rcases h.2 with ⟨rfl, _⟩ | ⟨g', cap, cur, rfl, hb, _⟩
  · cases hg
  · simp [Value.ownBlock] at hg; omega
end

section
open Go Go.RowKit

theorem absN_more {s p q : List UInt8} {m : Nat} (hp : p.length = 32 * m) (hq : q.length = 32) : absN s (p ++ q) (m + 1) = absorb (absN s p m) q := by
  rw [absN, absN_append _ (by omega), ← hp, List.drop_left, List.take_of_length_le (by omega)]
theorem finL_blocks (s t : List UInt8) (n : Nat) : finL s t n = absN s (padT t ++ (List.replicate 24 0 ++ longL (UInt64.ofNat n))) ((padT t).length / 32 + 1) := by
  have h := padT_length t
  rw [absN_more (by omega) rfl]; rfl

theorem u8_wrap (d : Int) (h : 0 ≤ d) (h2 : d ≤ 255) : ((UInt8.ofNat d.toNat).toNat : Int) = d := by rw [UInt8.toNat_ofNat']; omega
theorem init_cells (d : Int) (h : 0 ≤ d) (h2 : d ≤ 255) : (List.replicate 64 (Value.int .u8 0)).set 63 (.int .u8 d) = (initS d).map u8v := by
  unfold initS
  rw [List.map_set]
  have : u8v (UInt8.ofNat d.toNat) = .int .u8 d := by
    unfold u8v
    rw [u8_wrap d h h2]
  rw [this]
  rfl

theorem own_away {w : World} {B n c : Nat} {e : TypeId} {size : Nat} {a : Option Addr} {xs : List Value} (h : w.ownsRow B e size (.slice a n c) n xs) : ∀ x, a = some x → B ≤ x.block := by
  intro x hx
  rcases h.2 with ⟨h1, _⟩ | ⟨g', cap, cur, h1, hb, _⟩
  · injection h1 with h1 _ _; rw [h1] at hx; cases hx
  · injection h1 with h1 _ _; rw [h1] at hx; cases hx; exact hb

set_option maxRecDepth 100000 in
set_option maxHeartbeats 2000000 in
theorem rstate_c (d : Int) (t : List UInt8) (n c : Nat) (a : Option Addr) (w : World) (hd0 : 0 ≤ d) (hd1 : d ≤ 255) (ht : t.length = n) (hn : n ≤ 1099511627776) (hcl : Cells w a (t.map u8v)) :
    Calls Tryz.prog 35 #[.int .i64 d, .slice a n c] w fun e w' => e = .returned (.agg ((finL (initS d) t n).map u8v).toArray) ∧ Ext w w' := by
  have HT := hid ht
  have HC := hid hcl
  have HFB := hid (finL_blocks (initS d) t n)
  have HFL : Hid (((finL (initS d) t n).map u8v).length = 64) := hid (by rw [List.length_map, finL_length])
  have HP : Hid (padT t = t ++ 128 :: List.replicate (31 - n % 32) 0) := hid (by rw [← ht]; rfl)
  have hdw : IntKind.u8.wrap d = d := IntWalk.u8_in _ (by omega)
  have HD := hid (init_cells d hd0 hd1)
  have HIL := initS_length d
  have hlong := fun w => rlong_c n w (by omega)
  generalize finL (initS d) t n = fin at *
  generalize initS d = s0 at *
  generalize hll : longL (UInt64.ofNat n) = ll at *
  have HLL : Hid (ll.length = 8) := hid (by rw [← hll]; rfl)
  have HI := hid HIL
  clear ht hcl HIL hll
  go_enter Tryz.func35, Tryz.ntmps35
  go_wp2_with fail
  generalize hwA : World.alloc (World.alloc w _) _ = wA
  have zA : Blk wA w.heap.size (List.replicate 64 (.int .u8 0)) 64 := by rw [← hwA]; exact (Blk.mk_alloc rfl rfl).alloc _
  have sA : Blk wA (w.heap.size + 1) (s0.map u8v) 64 := by rw [← hwA, ← HD.out]; exact Blk.mk_alloc (by simp) rfl
  have eA : Ext w wA := by rw [← hwA]; exact ((Ext.refl w).alloc _).alloc _
  have lA : w.heap.size + 1 < wA.heap.size := sA.lt
  clear hwA
  refine (clone_c t a n c wA HT.out (by omega) (HC.out.ext eA)).mono ?_
  rintro e w1 ⟨v, rfl, own1, -, e1⟩
  have HO := hid own1
  have HE := hid (eA.ext e1)
  have HZ := hid (zA.ext e1)
  have HS := hid (sA.ext e1)
  have hbase : wA.heap.size ≤ w1.heap.size := e1.size
  clear zA sA eA e1 own1
  generalize wA.heap.size = B at *
  have zB : Blk (w1.alloc (.cells #[.int .u8 128] 5)) w1.heap.size (([128] : List UInt8).map u8v) 5 := Blk.mk_alloc rfl rfl
  have eB : Ext w1 (w1.alloc (.cells #[.int .u8 128] 5)) := (Ext.refl w1).alloc _
  have HOB := hid (ownsRow_ext HO.out eB)
  have HZB := hid (HZ.out.ext eB)
  have HSB := hid (HS.out.ext eB)
  have HEB := hid (HE.out.ext eB)
  have hbB : B ≤ (w1.alloc (.cells #[.int .u8 128] 5)).heap.size := Nat.le_trans hbase eB.size
  go_wp2_with (at_builtin; refine wpl_append8 rfl _ _ rfl B (ys := [128]) rfl rfl HOB.out rfl (by intro h; cases h) (Cells.of_blk0 zB) (by omega) hbB ?_)
  generalize w1.alloc (.cells #[.int .u8 128] 5) = w2 at *
  intro v3 w3 own3 g3
  have HO3 := hid own3
  have hv3 := fun g' h => own_block_ge HOB.out g' h
  have HZ3 := hid (HZB.out.grown g3 (by intro h; have := hv3 _ h.symm; omega))
  have HS3 := hid (HSB.out.grown g3 (by intro h; have := hv3 _ h.symm; omega))
  have HE3 := hid (HEB.out.grown g3 (by intro k hk; have := hv3 _ hk; omega))
  have hb3 : B ≤ w3.heap.size := Nat.le_trans hbB g3.size
  clear own3 g3 hv3 zB eB HOB HZB HSB HEB hbB HO HZ HS HE hbase
  go_wp2
  go_loopw [6] (fun x wr => ∃ j : Nat, n + 1 + j ≤ n + 1 + (31 - n % 32) ∧ Hid (wr.ownsRow B 5 1 x (n + 1 + j) ((t ++ [128] ++ List.replicate j 0).map u8v)) ∧ Hid (Blk wr w.heap.size (List.replicate 64 (.int .u8 0)) 64) ∧ Hid (Blk wr (w.heap.size + 1) (s0.map u8v) 64) ∧ Hid (Ext w wr) ∧ B ≤ wr.heap.size)
    (fun x _ => n + 100 - sliceLen x)
  case atStart => exact ⟨0, by omega, hid (by rw [List.replicate_zero, List.append_nil, List.map_append]; exact HO3.out), HZ3, HS3, HE3, hb3⟩
  case round =>
    obtain ⟨j, hj, ho, hz, hs, he, hbw⟩ := hrel
    obtain ⟨a4, c4, rfl, hnc4, hcm4, h04, hcl4⟩ := own_slice ho.out
    have HC4 := hid hcl4
    have H04 := hid h04
    clear hcl4 h04
    obtain ⟨tj, htj⟩ : ∃ tj, t ++ [128] ++ List.replicate j 0 = tj := ⟨_, rfl⟩
    rw [htj] at ho HC4
    have HTJ := hid htj
    clear htj
    by_cases hlt : j < 31 - n % 32
    · have hr1 : ((n : Int) + 1 + j).tmod 32 = ((n : Int) + 1 + j) % 32 := Int.tmod_eq_emod_of_nonneg (by omega)
      have hr2 : (((n : Int) + 1 + j) % 32 != 0) = true := by rw [bne_iff_ne]; omega
      have zB : Blk (wr.alloc (.cells #[.int .u8 0] 5)) wr.heap.size (([0] : List UInt8).map u8v) 5 := Blk.mk_alloc rfl rfl
      have eB : Ext wr (wr.alloc (.cells #[.int .u8 0] 5)) := (Ext.refl wr).alloc _
      have HOB := hid (ownsRow_ext ho.out eB)
      have HZB := hid (hz.out.ext eB)
      have HSB := hid (hs.out.ext eB)
      have HEB := hid (he.out.ext eB)
      have hbB : B ≤ (wr.alloc (.cells #[.int .u8 0] 5)).heap.size := Nat.le_trans hbw eB.size
      go_wp2_with (at_builtin; refine wpl_append8 rfl _ _ rfl B (ys := [0]) rfl rfl HOB.out rfl (by intro h; cases h) (Cells.of_blk0 zB) (by omega) hbB ?_)
      generalize wr.alloc (.cells #[.int .u8 0] 5) = w4 at *
      intro v5 w5 own5 g5
      have HO5 := hid own5
      have hv5 := fun g' h => own_block_ge HOB.out g' h
      have HZ5 := hid (HZB.out.grown g5 (by intro h; have := hv5 _ h.symm; omega))
      have HS5 := hid (HSB.out.grown g5 (by intro h; have := hv5 _ h.symm; omega))
      have HE5 := hid (HEB.out.grown g5 (by intro k hk; have := hv5 _ hk; omega))
      have hb5 : B ≤ w5.heap.size := Nat.le_trans hbB g5.size
      obtain ⟨a6, c6, hv6, -, -, -, -⟩ := own_slice own5
      have HV6 := hid hv6
      clear own5 g5 hv5 zB eB HOB HZB HSB HEB hbB hv6
      go_wp2
      go_roundw
      case rel =>
        refine ⟨j + 1, by omega, hid ?_, HZ5, HS5, HE5, hb5⟩
        have h1 : t ++ [128] ++ List.replicate (j + 1) 0 = (t ++ [128] ++ List.replicate j 0) ++ [0] := by rw [List.replicate_succ', List.append_assoc (t ++ [128])]
        rw [h1, HTJ.out, List.map_append]; exact HO5.out
      case measure =>
        rw [HV6.out]; simp only [sliceLen]; omega
    · have hj' : j = 31 - n % 32 := by omega
      subst hj'
      have hpe : t ++ [128] ++ List.replicate (31 - n % 32) 0 = padT t := by rw [HP.out, List.append_assoc]; rfl
      have htp := HTJ.out
      rw [hpe] at htp
      subst htp
      obtain ⟨m0, hm0⟩ : ∃ m0, n + 1 + (31 - n % 32) = 32 * m0 := ⟨(n + 1 + (31 - n % 32)) / 32, by omega⟩
      have hplen : (padT t).length = 32 * m0 := by rw [← hpe, List.length_append, List.length_append, List.length_replicate, HT.out, ← hm0]; rfl
      have hm1 : 32 * m0 ≤ 1099511627776 + 32 := by omega
      rw [hm0] at ho hnc4
      rw [hm0]
      have hr1 : (32 * (m0 : Int)).tmod 32 = 0 := by
        rw [Int.tmod_eq_emod_of_nonneg (by omega)]; omega
      have hcut : (padT t).length / 32 + 1 = m0 + 1 := by omega
      rw [hcut] at HFB
      clear hcut hm0 hlt hj hpe HTJ HP
      generalize padT t = pt at *
      have HPL := hid hplen
      clear hplen
      go_wp2_with (at_builtin; refine wpl_append_zeros rfl _ _ rfl B (k := 24) rfl rfl ho.out (by omega) (by omega) hbw ?_)
      intro v6 w6 own6 g6
      have hv6 := fun g' h => own_block_ge ho.out g' h
      have HO6 : Hid (w6.ownsRow B 5 1 v6 (32 * m0 + 24) ((pt ++ List.replicate 24 0).map u8v)) := hid (by rw [List.map_append]; exact own6)
      have HZ6 := hid (hz.out.grown g6 (by intro h; have := hv6 _ h.symm; omega))
      have HS6 := hid (hs.out.grown g6 (by intro h; have := hv6 _ h.symm; omega))
      have HE6 := hid (he.out.grown g6 (by intro k hk; have := hv6 _ hk; omega))
      have hb6 : B ≤ w6.heap.size := Nat.le_trans hbw g6.size
      clear own6 g6 hv6 ho hz hs he hbw HC4 H04
      have hrep : pt ++ List.replicate 24 0 ++ ll = pt ++ (List.replicate 24 0 ++ ll) := List.append_assoc ..
      generalize hp24 : pt ++ List.replicate 24 0 = p24 at *
      have HREP := hid hrep
      clear hrep
      go_wp2_with fail
      refine (hlong w6).mono ?_
      rintro e w7 ⟨rfl, b7, e7⟩
      have HO7 := hid (ownsRow_ext HO6.out e7)
      have HZ7 := hid (HZ6.out.ext e7)
      have HS7 := hid (HS6.out.ext e7)
      have HE7 := hid (HE6.out.ext e7)
      have hb7 : B ≤ w7.heap.size := Nat.le_trans hb6 e7.size
      go_wp2_with (at_builtin; refine wpl_append8 rfl _ _ rfl B (ys := ll) rfl rfl HO7.out HLL.out (by intro h; cases h) (Cells.of_blk0 b7) (by omega) hb7 ?_)
      intro v8 w8 own8 g8
      have hv8 := fun g' h => own_block_ge HO7.out g' h
      have HZ8 := hid (HZ7.out.grown g8 (by intro h; have := hv8 _ h.symm; omega))
      have HS8 := hid (HS7.out.grown g8 (by intro h; have := hv8 _ h.symm; omega))
      have HE8 := hid (HE7.out.grown g8 (by intro k hk; have := hv8 _ hk; omega))
      have own9 : w8.ownsRow B 5 1 v8 (32 * (m0 + 1)) ((pt ++ (List.replicate 24 0 ++ ll)).map u8v) := by
        rw [← HREP.out, List.map_append, show 32 * (m0 + 1) = 32 * m0 + 24 + 8 by omega]; simpa using own8
      have hbl : (pt ++ (List.replicate 24 0 ++ ll)).length = 32 * (m0 + 1) := by
        rw [List.length_append, List.length_append, List.length_replicate, HPL.out, HLL.out]; omega
      generalize pt ++ (List.replicate 24 0 ++ ll) = bb at *
      obtain ⟨a9, c9, rfl, hnc9, hcm9, h09, hcl9⟩ := own_slice own9
      have haw9 := own_away own9
      have HBL := hid hbl
      have HC9 := hid hcl9
      have H09 := hid h09
      have HA9 := hid haw9
      clear own8 g8 hv8 own9 hcl9 h09 haw9 b7 e7 HO7 HZ7 HS7 HE7 HO6 HZ6 HS6 HE6 hb6 hb7 hp24 HREP HPL hbl hr1
      unfold maxLen at hcm9
      go_wp2
      clear hnc4 hcm4 HO3 HZ3 HS3 HE3 hb3
      go_loopw [6] (fun x wr => ∃ (k n' c' : Nat) (a' : Option Addr), x = .slice a' n' c' ∧ n' + 32 * k = 32 * (m0 + 1) ∧ n' ≤ c' ∧ c' ≤ 9223372036854775807 ∧ Hid (a' = none → c' = 0) ∧ Hid (∀ x, a' = some x → B ≤ x.block) ∧
          Hid (Cells wr a' ((bb.drop (32 * k)).map u8v)) ∧ Hid (Blk wr (w.heap.size + 1) ((absN s0 bb k).map u8v) 64) ∧ Hid (Blk wr w.heap.size (List.replicate 64 (.int .u8 0)) 64) ∧ Hid (Ext w wr))
        (fun x _ => sliceLen x)
      case atStart => exact ⟨0, _, c9, a9, rfl, by omega, hnc9, by omega, H09, HA9, hid (by rw [Nat.mul_zero, List.drop_zero]; exact HC9.out), HS8, HZ8, HE8⟩
      case round =>
        obtain ⟨k, n', c', a', rfl, hk, hnc', hcc', h0', ha', hc', hs', hz', he'⟩ := hrel
        by_cases hpos : 0 < n'
        · have hd : decide ((0 : Int) < (n' : Int)) = true := decide_eq_true (by omega)
          have hlt : 32 ≤ n' := by omega
          have hlen : (bb.drop (32 * k)).length = n' := by rw [List.length_drop, HBL.out]; omega
          have hne : a' ≠ none := fun e => by have := h0'.out e; omega
          obtain ⟨gb, off, rfl, hcell⟩ := hc'.out.some_of (by rw [List.length_map, hlen]; omega)
          have hgb : B ≤ gb := ha'.out _ rfl
          obtain ⟨ch, hch⟩ : ∃ ch, (bb.drop (32 * k)).take 32 = ch := ⟨_, rfl⟩
          have hsrc : ∀ i, i < 32 → wr.cell? ⟨gb, off + i, none⟩ = some (.int .u8 ((ch[i]?.getD 0).toNat : Int)) := by
            intro i hi
            refine hcell i _ ?_
            rw [← hch, List.getElem?_take_of_lt hi]
            exact u8_at (by omega)
          have hstep : absN s0 bb (k + 1) = absorb (absN s0 bb k) ch := by rw [absN, hch]
          have HST := hid hstep
          have hsl : (absN s0 bb k).length = 64 := absN_length HI.out k
          generalize absN s0 bb k = sk at *
          have HSL := hid hsl
          have HSR := hid hsrc
          clear hsrc hcell hne hstep hsl hch
          go_wp2
          go_loopw [32] (fun x wi => ∃ i : Nat, i ≤ 32 ∧ x = .int .i64 i ∧ Hid (Blk wi (w.heap.size + 1) ((mixTo sk ch i).map u8v) 64) ∧ Hid (wr.grownBy wi (some (w.heap.size + 1))))
            (fun x _ => 32 - (intOf x).toNat)
          case atStart => exact ⟨0, by omega, rfl, hs', hid (grown_refl _ _)⟩
          case round =>
            obtain ⟨i, hi, rfl, q1, q2⟩ := hrel
            by_cases hlti : i < 32
            · have hdi : decide ((i : Int) < 32) = true := decide_eq_true (by omega)
              have hgne : some gb ≠ some (w.heap.size + 1) := by intro e; injection e; omega
              have hs0 := HSR.out i hlti
              have hgl := block_lt_of_cell hs0
              have c1 : ∀ nq, (wr.drewN nq).cell? ⟨gb, off + i, none⟩ = some (.int .u8 ((ch[i]?.getD 0).toNat : Int)) := fun nq => by
                rw [← hs0]; exact World.cell?_of_block (q2.out.block gb hgl hgne)
              have i0 : (0 : Int) ≤ (i : Int) := by omega
              have i1 : (i : Int) < 32 := by omega
              have i2 : (i : Int) < 64 := by omega
              have i3 : (i : Int) < (n' : Int) := by omega
              have hlenm : (mixTo sk ch i).length = 64 := by rw [mixTo_length]; exact HSL.out
              have hmx : mixTo sk ch (i + 1) = (mixTo sk ch i).set i (xor8 ((mixTo sk ch i)[i]?.getD 0) (ch[i]?.getD 0)) := rfl
              generalize mixTo sk ch i = ws at *
              have HMX := hid hmx
              have HQ1 := hid q1.out
              have c2 : ∀ nq, (wr.drewN nq).cell? ⟨w.heap.size + 1, i, none⟩ = some (.int .u8 ((ws[i]?.getD 0).toNat : Int)) := fun nq => (HQ1.out.drewN (n := nq)).cell' (u8_at (by omega))
              have f2 : ∀ nq, (wr.drewN nq).frozen? ⟨w.heap.size + 1, i, none⟩ = false := fun nq => (HQ1.out.drewN (n := nq)).frozen i
              have hxo := xor8_b (ws[i]?.getD 0) (ch[i]?.getD 0)
              clear hmx hs0 hgl
              go_wp2
              refine wp_region_cls (C := fun w' => ∃ n, w' = wr.drewN n) 9 (by kernel_rfl) (by kernel_rfl) ⟨1, rfl⟩ ?_
              simp only [List.take_succ_cons, List.take_zero, List.drop_succ_cons, List.drop_zero]
              iterate 9 quiet_step (fail)
              refine wpQuiet_nil ?_
              rintro _ ⟨nq, rfl⟩
              go_wp2
              have q1' := (HQ1.out.drewN (n := nq)).set i (u8v (xor8 (ws[i]?.getD 0) (ch[i]?.getD 0)))
              rw [← List.map_set, ← HMX.out] at q1'
              have q2' := grown_set (grown_drewN q2.out nq) i (.int .u8 ((xor8 (ws[i]?.getD 0) (ch[i]?.getD 0)).toNat : Int))
              go_roundw
              case rel => exact ⟨i + 1, by omega, by go_num, hid q1', hid q2'⟩
              case measure => simp [intOf]; omega
            · have hi32 : i = 32 := by omega
              subst hi32
              have hml : ((mixTo sk ch 32).map u8v).length = 64 := by rw [List.length_map, mixTo_length]; exact HSL.out
              go_wp2_with (refine wpl_loadw rfl _ _ rfl rfl q1.out agg_state hml ?_)
              refine (rstir_c (mixTo sk ch 32) (by rw [mixTo_length]; exact HSL.out) wr).mono ?_
              rw [show stirL (mixTo sk ch 32) = absorb sk ch from rfl, ← HST.out]
              rintro e w1 ⟨rfl, e1⟩
              have hla : ((absN s0 bb (k + 1)).map u8v).length = 64 := by rw [List.length_map]; exact absN_length HI.out _
              generalize hr : absN s0 bb (k + 1) = r at *
              go_wp2_with (refine wpl_storew rfl _ _ _ rfl rfl rfl (q1.out.ext e1) agg_state hml hla (one_u8 _) ?_)
              intro w2 b2 u2
              have gr := grown_upd (grown_ext q2.out e1) u2
              have HB2 := hid b2
              have HC2 := hid (hc'.out.grown gr (by intro x hx; cases hx; intro e; injection e with e; simp only at e; omega))
              have HZ2 := hid (hz'.out.grown gr (by intro e; injection e with e; omega))
              have HE2 := hid (he'.out.grown gr (by intro k' hk'; cases hk'; omega))
              have HR := hid hr
              clear b2 u2 gr e1 hr
              go_wp2_with (refine wpl_slice_low rfl _ _ _ _ rfl (k := 32) rfl rfl Tryz.underlying39 size_u8 hlt ?_)
              go_roundw
              case rel =>
                refine ⟨k + 1, n' - 32, c' - 32, _, rfl, by omega, by omega, by omega, hid fun e => ?_, hid ?_, hid ?_, by rw [HR.out]; exact HB2, HZ2, HE2⟩
                · have := h0'.out (shift_nil.1 e); omega
                · intro x hx
                  have h1 := shift_away (r := some (x.block)) (c := c') (k := 32) (a := some ⟨gb, off, none⟩)
                  by_cases hbx : gb = x.block
                  · omega
                  · exact absurd rfl (h1 (by intro y hy; cases hy; intro e; injection e with e; exact hbx e) x hx)
                · have h1 := HC2.out.shift c' 32 (n' - 32) (by omega)
                  rw [← List.map_drop, List.drop_drop, List.take_of_length_le (by rw [List.length_map, List.length_drop, HBL.out]; omega)] at h1
                  rwa [show 32 * k + 32 = 32 * (k + 1) by omega] at h1
              case measure => simp [sliceLen]; omega
        · have hn0 : n' = 0 := by omega
          subst hn0
          have hkm : k = m0 + 1 := by omega
          subst hkm
          rw [← HFB.out] at hs'
          have HLF := HFL
          have h1f := one_u8 fin
          generalize hfv : fin.map u8v = fv at *
          have HFV := hid hfv
          clear hfv
          go_wp2_with (first | (refine wpl_loadw rfl _ _ rfl rfl hs'.out agg_state HLF.out ?_) | (refine wpl_storew rfl _ _ _ rfl rfl rfl hz'.out agg_state rfl HLF.out h1f ?_))
          intro w5 b5 u5
          go_wp2
          refine ret_row rfl rfl b5 agg_state HLF.out rfl ⟨by rw [HFV.out], u5.ext he'.out (Nat.le_refl _)⟩
end

section
open Go Go.RowKit

set_option maxRecDepth 100000 in
set_option maxHeartbeats 1000000 in
theorem rsum_c (d : Int) (t : List UInt8) (n c : Nat) (a : Option Addr) (w : World) (hd0 : 0 ≤ d) (hd1 : d ≤ 255) (ht : t.length = n) (hn : n ≤ 1099511627776) (hcl : Cells w a (t.map u8v)) :
    Calls Tryz.prog 14 #[.int .i64 d, .slice a n c] w fun e w' => e = .returned (.agg ((sumL d t).map u8v).toArray) ∧ Ext w w' := by
  have HC := hid hcl
  have hst := fun w' (h : Cells w' a (t.map u8v)) => rstate_c d t n c a w' hd0 hd1 ht hn h
  have HFL : Hid (((finL (initS d) t n).map u8v).length = 64) := hid (by rw [List.length_map, finL_length])
  have HSU : Hid (((sumL d t).map u8v).length = 32) := hid (by rw [List.length_map, sumL_length])
  have HTK : Hid (((finL (initS d) t n).map u8v).take 32 = (sumL d t).map u8v) := hid (by rw [sumL, ht, List.map_take])
  have h1 := one_u8 (finL (initS d) t n)
  have h2 := one_u8 (sumL d t)
  generalize hsv : (sumL d t).map u8v = sv at *
  generalize (finL (initS d) t n).map u8v = fv at *
  clear hcl hsv ht
  go_enter Tryz.func14, Tryz.ntmps14
  go_wp2_with fail
  generalize hwA : World.alloc w _ = wA
  have zA : Blk wA w.heap.size (List.replicate 32 (.int .u8 0)) 35 := by rw [← hwA]; exact Blk.mk_alloc rfl rfl
  have eA : Ext w wA := by rw [← hwA]; exact (Ext.refl w).alloc _
  clear hwA
  refine (hst _ (HC.out.ext eA)).mono ?_
  rintro e w1 ⟨rfl, e1⟩
  have HZ := hid (zA.ext e1)
  have HE := hid (eA.ext e1)
  have l1 : w.heap.size < w1.heap.size := HZ.out.lt
  clear zA eA e1
  go_wp2_with (refine wpl_storew rfl _ _ _ rfl rfl rfl (Blk.mk_alloc rfl rfl) agg_state rfl HFL.out h1 ?_)
  intro w2 b2 u2
  have e2 : Ext w1 w2 := u2.ext ((Ext.refl w1).alloc _) (Nat.le_refl _)
  have HZ2 := hid (HZ.out.ext e2)
  have HE2 := hid (HE.out.ext e2)
  have HB2 := hid b2
  clear e2 u2 b2
  go_wp2
  refine wp_region_cls (C := fun w' => ∃ n, w' = w2.drewN n) 2 (by kernel_rfl) (by kernel_rfl) ⟨1, rfl⟩ ?_
  simp only [List.take_succ_cons, List.take_zero, List.drop_succ_cons, List.drop_zero]
  iterate 2 quiet_step (fail)
  refine wpQuiet_nil ?_
  rintro _ ⟨nq, rfl⟩
  have hcc : Cells (w2.drewN nq) (some ⟨w1.heap.size, 0, none⟩) sv := by
    have := Cells.of_blk0 (HB2.out.drewN (n := nq))
    have h3 := this.take 32
    rwa [HTK.out] at h3
  have HCC := hid hcc
  clear hcc
  go_wp2_with (first | (refine wpl_copyc rfl _ _ _ _ rfl rfl rfl (HZ2.out.drewN (n := nq)) Tryz.underlying39 size_u8 HSU.out rfl (fun e => by cases e) HCC.out (by simp) h2 ?_))
  intro w3 b3 u3
  have hsp : splice (List.replicate 32 (.int .u8 0)) 0 sv = sv := by
    unfold splice
    rw [List.take_zero, List.nil_append, List.drop_of_length_le (by rw [HSU.out]; simp), List.append_nil]
  change Blk w3 _ (splice (List.replicate 32 (.int .u8 0)) 0 sv) _ at b3
  rw [hsp] at b3
  have HE3 := hid (u3.ext (HE2.out.drewN nq) (Nat.le_refl _))
  clear hsp u3
  go_wp2_with (first | (refine wpl_loadw rfl _ _ rfl rfl b3 agg_apisum HSU.out ?_) | (refine wpl_storew rfl _ _ _ rfl rfl rfl b3 agg_apisum HSU.out HSU.out h2 ?_))
  intro w4 b4 u4
  go_wp2
  refine ret_row rfl rfl b4 agg_apisum HSU.out rfl ⟨rfl, u4.ext HE3.out (Nat.le_refl _)⟩
end

section
open Go Go.RowKit

/-- the end of a function whose first result lies in a block of its own, the second in a slot -/
theorem wpl_loadc {P : Program} {ops : Array Oper} {rest : List Oper} {o : Oper} {a : Act} {w : World} {Q : Exit → Act → World → Prop} (hgd : o.guard = none) (ty : TypeId) (x : Operand) (ho : o.op = .load ty x) {b off n : Nat} {vs : List Value}
    (hx : a.eval x = .pointer (some ⟨b, off, none⟩)) (hb : ∀ j u, vs[j]? = some u → w.cell? ⟨b, off + j, none⟩ = some u) (ht : AggT P ty n) (hn : vs.length = n)
    (h : wpList P ops Q rest (a.put o.dst (.agg vs.toArray)) w) : wpList P ops Q (o :: rest) a w :=
  wpList_plain hgd fun K hK => by
    unfold Oper.wp execOp
    simp only [ho, hx, Instr.loadAt, Instr.sureAddr, Sem.run_bind, Sem.run_pure, Result.andThen_ok, run_load_cells hb ht hn]
    exact hK _ _ h

def takeV (l : List UInt8) (n m : Nat) (at_ : Int) : Value :=
  if roomE n at_ m = 0 then .tuple #[.agg (((l.drop at_.toNat).take m).map u8v).toArray, .int .i64 0] else .tuple #[.agg (List.replicate m (.int .u8 0)).toArray, .int .i64 (roomE n at_ m)]
end

section
open Go Go.RowKit

/-- the tag of a text -/
def tagL (k t : List UInt8) : List UInt8 := (sumL 8 (k ++ t)).take 16
theorem tagL_length (k t : List UInt8) : (tagL k t).length = 16 := by rw [tagL, List.length_take, sumL_length]; rfl
def sealL (k t : List UInt8) : List UInt8 := stirL (finL (initS 9) (k ++ t) (k ++ t).length)
theorem sealL_length (k t : List UInt8) : (sealL k t).length = 64 := stirL_length _

theorem nil0 {w : World} {a : Option Addr} {t : List UInt8} {n c : Nat} (hcl : Cells w a (t.map u8v)) (ht : t.length = n) (h0 : a = none → c = 0) : a = none → n = 0 ∧ c = 0 := by
  intro e
  refine ⟨?_, h0 e⟩
  rcases hcl with h | ⟨b, o, h, _⟩
  · have h1 := congrArg List.length h
    rw [List.length_map, ht] at h1
    exact h1
  · rw [e] at h; cases h

def zeros (n : Nat) : Value := .agg (List.replicate n (.int .u8 0)).toArray
theorem one_zeros (n : Nat) : ∀ v ∈ List.replicate n (Value.int .u8 0), v.oneCell' = true := by intro v hv; rw [List.mem_replicate] at hv; rw [hv.2]; rfl
end

section
open Go Go.RowKit
end

section
open Go Go.RowKit

/-- block i of a stream -/
def blkL (k n : List UInt8) (i : Nat) : List UInt8 := stirL (k ++ n ++ List.replicate 8 0 ++ longL (UInt64.ofNat i))
theorem blkL_length (k n : List UInt8) (i : Nat) : (blkL k n i).length = 64 := stirL_length _
/-- the octets of a stream from a place on -/
def strmL (k n : List UInt8) (a m : Nat) : List UInt8 := (List.range m).map fun j => (blkL k n ((a + j) / 64))[(a + j) % 64]?.getD 0
theorem strmL_length (k n : List UInt8) (a m : Nat) : (strmL k n a m).length = m := by simp [strmL]
theorem strmL_more (k n : List UInt8) (a m c : Nat) (hc : (a + m) % 64 + c ≤ 64) :
    strmL k n a (m + c) = strmL k n a m ++ ((blkL k n ((a + m) / 64)).drop ((a + m) % 64)).take c := by
  apply List.ext_getElem?
  intro j
  rw [List.getElem?_append, strmL_length]
  unfold strmL
  by_cases h1 : j < m
  · rw [if_pos h1, List.getElem?_map, List.getElem?_map, List.getElem?_range h1, List.getElem?_range (by omega)]
  · rw [if_neg h1]
    by_cases h2 : j < m + c
    · rw [List.getElem?_map, List.getElem?_range h2, List.getElem?_take_of_lt (by omega), List.getElem?_drop]
      have e1 : (a + j) / 64 = (a + m) / 64 := by omega
      have e2 : (a + j) % 64 = (a + m) % 64 + (j - m) := by omega
      simp only [Option.map_some, e1, e2]
      have hl := blkL_length k n ((a + m) / 64)
      rw [List.getElem?_eq_getElem (by omega)]
      rfl
    · rw [List.getElem?_eq_none (by simp; omega), List.getElem?_eq_none (by rw [List.length_take, List.length_drop, blkL_length]; omega)]

theorem zer8 : List.replicate 8 (Value.int .u8 0) = (List.replicate 8 (0 : UInt8)).map u8v := by simp [u8v]

theorem splice3 (k n l : List Value) (hk : k.length = 32) (hn : n.length = 16) (hl : l.length = 8) :
    splice (splice (splice (List.replicate 64 (.int .u8 0)) 0 k) 32 n) 56 l = k ++ n ++ List.replicate 8 (.int .u8 0) ++ l := by
  have h1 : splice (List.replicate 64 (.int .u8 0)) 0 k = k ++ List.replicate 32 (.int .u8 0) := by
    unfold splice
    rw [List.take_zero, List.nil_append, Nat.zero_add, hk, List.drop_replicate]
  have h2 : splice (k ++ List.replicate 32 (Value.int .u8 0)) 32 n = k ++ n ++ List.replicate 16 (.int .u8 0) := by
    unfold splice
    rw [List.take_append_of_le_length (by omega), List.take_of_length_le (by omega), hn, List.drop_append, List.drop_of_length_le (by omega), List.nil_append, hk, List.drop_replicate]
  have hkn : (k ++ n).length = 48 := by rw [List.length_append, hk, hn]
  rw [h1, h2]
  unfold splice
  rw [hl, List.take_append, List.take_of_length_le (by omega), hkn, List.drop_append, List.drop_of_length_le (by omega), hkn, List.nil_append, List.take_replicate, List.drop_replicate]
  simp
end

section
open Go Go.RowKit

def streamPost (k n : List UInt8) (a m : Int) (w : World) (e : Ending) (w' : World) : Prop :=
  (if a < 0 ∨ 1099511627776 < a ∨ m < 0 then e = .returned (.tuple #[.slice none 0 0, .int .i64 4])
  else if 1048576 < m then e = .returned (.tuple #[.slice none 0 0, .int .i64 5])
  else ∃ v, e = .returned (.tuple #[v, .int .i64 0]) ∧ w'.ownsRow w.heap.size 5 1 v m.toNat ((strmL k n a.toNat m.toNat).map u8v)) ∧ Ext w w'
end

section
open Go Go.RowKit

theorem own_some {w : World} {B n : Nat} {v : Value} {xs : List Value} (h : w.ownsRow B 5 1 v n xs) (hn : 0 < n) :
    ∃ g cap, v = .slice (some ⟨g, 0, none⟩) n cap ∧ B ≤ g ∧ n ≤ cap ∧ cap ≤ maxLen := by
  rcases h.2 with ⟨_, h0⟩ | ⟨g, cap, cur, h1, h2, _, h4, h5, _⟩
  · omega
  · exact ⟨g, cap, h1, h2, h4, h5⟩

/-- a text, covered -/
def coverL (k n t : List UInt8) : List UInt8 := mixTo (strmL k n 0 t.length) t t.length
theorem coverL_length (k n t : List UInt8) : (coverL k n t).length = t.length := by rw [coverL, mixTo_length, strmL_length]
end

section
open Go Go.RowKit

theorem own_block_lt {w : World} {B : Nat} {e : TypeId} {size n : Nat} {v : Value} {xs : List Value} (h : w.ownsRow B e size v n xs) : ∀ g, v.ownBlock = some g → g < w.heap.size := by
  intro g hg
  rcases h.2 with ⟨rfl, _⟩ | ⟨g', cap, cur, rfl, hb, hc, _⟩
  · cases hg
  · simp [Value.ownBlock] at hg
    subst hg
    exact (Array.getElem?_eq_some_iff.1 hc).1
end

section
open Go Go.RowKit

theorem mixTo_get (s t : List UInt8) (i j : Nat) : (mixTo s t i)[j]? = if j < i then (s[j]?).map (fun x => xor8 x (t[j]?.getD 0)) else s[j]? := by
  induction i generalizing j with
  | zero => simp [mixTo]
  | succ i ih =>
    rw [mixTo, List.getElem?_set, mixTo_length]
    by_cases h : i = j
    · subst h
      by_cases hl : i < s.length
      · simp [ih, hl]
      · simp [hl]
    · rw [if_neg h, ih]
      by_cases h1 : j < i
      · rw [if_pos h1, if_pos (by omega)]
      · rw [if_neg h1, if_neg (by omega)]
theorem cover_twice (k n t : List UInt8) : coverL k n (coverL k n t) = t := by
  apply List.ext_getElem?
  intro j
  have hl := coverL_length k n t
  have hs := strmL_length k n 0 t.length
  rw [coverL, hl, mixTo_get]
  by_cases hj : j < t.length
  · have h1 : t[j]? = some t[j] := List.getElem?_eq_getElem hj
    have h2 : (strmL k n 0 t.length)[j]? = some ((strmL k n 0 t.length)[j]'(by omega)) := List.getElem?_eq_getElem (by omega)
    rw [if_pos hj, coverL, mixTo_get, if_pos hj, h1, h2]
    simp only [Option.map_some, Option.getD_some, xor8]
    congr 1
    rw [← UInt8.xor_assoc]; simp
  · rw [if_neg hj, List.getElem?_eq_none (by omega), List.getElem?_eq_none (by omega)]
end

section
open Go Go.RowKit

theorem eq_arr {t : TypeId} {n : Nat} (ht : Tryz.prog.underlying t = some (.array n 5)) (xs ys : List UInt8) (hx : xs.length = n) (hy : ys.length = n) (w : World) :
    (binOp .eql t (.agg (xs.map u8v).toArray) (.agg (ys.map u8v).toArray)).run Tryz.prog w = .ok (.bool (xs == ys)) w :=
  run_eql_bytes w t 5 n ht Tryz.underlying5 (fun w => by kernel_rfl) xs ys hx hy
theorem neq_arr {t : TypeId} {n : Nat} (ht : Tryz.prog.underlying t = some (.array n 5)) (xs ys : List UInt8) (hx : xs.length = n) (hy : ys.length = n) (w : World) :
    (binOp .neq t (.agg (xs.map u8v).toArray) (.agg (ys.map u8v).toArray)).run Tryz.prog w = .ok (.bool (!(xs == ys))) w := by
  have h := run_equalIn_bytes w 9998 t 5 n ht Tryz.underlying5 (fun w => by kernel_rfl) xs ys hx hy
  rw [run_neq_struct]
  have h2 : (Op.equalIn 10000 t (.agg (xs.map u8v).toArray) (.agg (ys.map u8v).toArray)).run Tryz.prog w = .ok (xs == ys) w := h
  rw [h2]; rfl
theorem eq_self {t : TypeId} {n : Nat} (ht : Tryz.prog.underlying t = some (.array n 5)) (xs : List UInt8) (hx : xs.length = n) (w : World) :
    (binOp .eql t (.agg (xs.map u8v).toArray) (.agg (xs.map u8v).toArray)).run Tryz.prog w = .ok (.bool true) w := by
  rw [eq_arr ht xs xs hx hx]; simp
end

section
open Go Go.RowKit

theorem guard_sum : Tryz.prog.eqGuardType Tryz.prog.depth 35 = false := by kernel_rfl
end

section
open Go Go.RowKit

theorem zeros_u8 (n : Nat) : List.replicate n (Value.int .u8 0) = (List.replicate n (0 : UInt8)).map u8v := by simp [u8v]
end

section
open Go Go.RowKit

theorem addr_add0 (x : Addr) : x.add 0 = x := by unfold Addr.add; split <;> simp_all
section
variable {P : Program} {ops : Array Oper} {rest : List Oper} {o : Oper} {a : Act} {w : World} {Q : Exit → Act → World → Prop}
theorem run_sliceAt_high {t e : TypeId} {p : Option Addr} {n c k : Nat} (hu : P.underlying t = some (.slice e)) (hs : (P.info? e).map (·.size) = some 1) (hk : k ≤ c) :
    (Instr.sliceAt t (.slice p n c) none (some (.int .i64 (k : Int))) none).run P w = .ok (.slice p k c) w := by
  cases hq : P.info? e with
  | none => simp [hq] at hs
  | some i =>
    have hi : i.size = 1 := by simpa [hq] using hs
    have h1 : (0 : Int) ≤ k ∧ (k : Int) ≤ c := by omega
    have ha : p.map (fun x => x.add 0) = p := by cases p <;> simp [addr_add0]
    simp [Instr.sliceAt, Instr.slice, Instr.sliceBounds, Instr.sliceBound, asIntOf, run_underlying hu, sizeOf, typeInfo, hq, hi, hk, ha]
/-- b[:k] -/
theorem wpl_slice_high (hgd : o.guard = none) (t e : TypeId) (x y : Operand) (ho : o.op = .slice t x none (some y) none) {p : Option Addr} {n c k : Nat}
    (hx : a.eval x = .slice p n c) (hy : a.eval y = .int .i64 (k : Int)) (hu : P.underlying t = some (.slice e)) (hs : (P.info? e).map (·.size) = some 1) (hk : k ≤ c)
    (h : wpList P ops Q rest (a.put o.dst (.slice p k c)) w) : wpList P ops Q (o :: rest) a w :=
  wpList_plain hgd fun K hK => by
    unfold Oper.wp execOp
    simp only [ho, hx, hy, Option.map_some, Option.map_none, run_sliceAt_high hu hs hk, Result.andThen_ok, Sem.run_bind, Sem.run_pure]
    exact hK _ _ h
end
end

section
open Go Go.RowKit

theorem ok_block {r : Result Value} {v v' : Value} {w w' : World} {x : Option Nat} (h1 : r = .ok v w) (h2 : r = .ok v' w') (hv : v.ownBlock = x) : v'.ownBlock = x := by
  rw [h1] at h2
  injection h2 with e1 e2
  rw [← e1, hv]

theorem append8_block (w : World) (B : Nat) (ty : TypeId) {v : Value} {n m c : Nat} {xs ys : List UInt8} {y : Addr} (hown : w.ownsRow B 5 1 v n (xs.map u8v)) (hm : ys.length = m) (hc : Cells w (some y) (ys.map u8v))
    (hb : n + m ≤ 140737488355328) (hbase : B ≤ w.heap.size) :
    ∃ v' w', (Builtin.append_ #[39, 39] ty #[v, .slice (some y) m c]).run Tryz.prog w = .ok v' w' ∧ w'.ownsRow B 5 1 v' (n + m) ((xs ++ ys).map u8v) ∧ w.grownBy w' v.ownBlock ∧
      (v'.ownBlock = v.ownBlock ∨ v'.ownBlock = some w.heap.size) := by
  obtain ⟨i0, hi, hz, hsz, hb1⟩ := info_parts info_u8
  have hl : (ys.map u8v).length = m * 1 := by rw [List.length_map, hm, Nat.mul_one]
  have hl' : (ys.map u8v).length = m * i0.size := by rw [hsz]; exact hl
  obtain ⟨v', w', hr, h1, h2, h3⟩ := run_append_own (P := Tryz.prog) w B 39 ty 5 i0 (.int .u8 0) 1 1 Tryz.underlying39 hi hz hsz hb1 rfl (by decide) v n (xs.map u8v) hown y m c (ys.map u8v) hl (news_cells hc) (one_u8 _) (by unfold maxLen; omega) (by omega) hbase
  refine ⟨v', w', hr, by rw [List.map_append]; exact h1, h2, ?_⟩
  rcases hown.2 with ⟨rfl, rfl⟩ | ⟨g, cap, cur, rfl, hbg, hg, hnc, hcm, hcs, htake⟩
  · by_cases hm0 : m = 0
    · left
      rw [h3.2 ⟨rfl, hm0⟩]
    · right
      have hr2 := run_append_nil (P := Tryz.prog) w 39 ty 5 i0 (.int .u8 0) Tryz.underlying39 hi hz y m c (ys.map u8v) hl' (news_cells hc) (by omega) (by omega) (by rw [hb1]; omega)
      exact ok_block hr2 hr rfl
  · by_cases hroom : n + m ≤ cap
    · left
      obtain ⟨w2, hr2, _⟩ := run_append_fits (P := Tryz.prog) w B 39 ty 5 i0 1 Tryz.underlying39 hi hsz g n cap (xs.map u8v) hown y m c (ys.map u8v) hl (news_cells hc) (one_u8 _) hroom
      exact ok_block hr2 hr rfl
    · right
      have hr2 := run_append_grow (P := Tryz.prog) w 39 ty 5 i0 (.int .u8 0) Tryz.underlying39 hi hz ⟨g, 0, none⟩ n cap (xs.map u8v) (by rw [hsz]; exact hown.1) (hown.cells (g := g) rfl) y m c (ys.map u8v) hl' (news_cells hc) (by omega) (by omega) (growslice_fits (by omega) (by rw [hb1]; omega))
      exact ok_block hr2 hr rfl

section
variable {ops : Array Oper} {rest : List Oper} {o : Oper} {a : Act} {w : World} {Q : Exit → Act → World → Prop}
/-- append onto a row of one's own, whether behind a guard or not -/
theorem wpg_append8 (hw : Region.wanted o (yielded ops a.tmps) = true) (s x : Operand)
    (ho : o.op = .call { callee := .builtin .append, args := #[s, x], argTypes := #[39, 39] }) (base : Nat) {v : Value} {n m c : Nat} {xs ys : List UInt8} {ad : Option Addr}
    (hs : a.eval s = v) (hx : a.eval x = .slice ad m c) (hown : w.ownsRow base 5 1 v n (xs.map u8v)) (hm : ys.length = m) (had : ad = none → m = 0 ∧ c = 0) (hc : Cells w ad (ys.map u8v))
    (hb : n + m ≤ 140737488355328) (hbase : base ≤ w.heap.size)
    (h : ∀ v' w', w'.ownsRow base 5 1 v' (n + m) ((xs ++ ys).map u8v) → w.grownBy w' v.ownBlock → (v'.ownBlock = v.ownBlock ∨ v'.ownBlock = some w.heap.size) → wpList Tryz.prog ops Q rest (a.put o.dst v') w') : wpList Tryz.prog ops Q (o :: rest) a w := by
  obtain ⟨i0, hi, hz, hsz, hb1⟩ := info_parts info_u8
  refine wpList_want hw fun K hK => ?_
  cases ad with
  | none =>
    obtain ⟨rfl, rfl⟩ := had rfl
    have hy : ys = [] := List.length_eq_zero_iff.1 hm
    subst hy
    have h' := h v w (by simpa using hown) (grown_refl w _) (.inl rfl)
    have hrun := run_append_owned_none (P := Tryz.prog) (w := w) base 39 o.type 5 i0 1 Tryz.underlying39 hi v n (xs.map u8v) hown
    unfold Oper.wp
    simp [execOp, ho, resolve, invoke, builtin, hs, hx, hrun, Result.andThen]
    exact hK _ _ h'
  | some y =>
    obtain ⟨v', w', hr, h1, h2, h3⟩ := append8_block w base o.type (c := c) hown hm hc hb hbase
    exact Lib.wp_append_run w s x _ _ ho v _ hs hx v' w' hr (hK _ _ (h v' w' h1 h2 h3))
end
end

section
open Go Go.RowKit

def sumOfV (d : Int) (t : List UInt8) (n : Nat) : Value :=
  if d < 0 ∨ 255 < d then .tuple #[zeros 32, .int .i64 3] else if n ≤ 1048576 then .tuple #[.agg ((sumL d t).map u8v).toArray, .int .i64 0] else .tuple #[zeros 32, .int .i64 5]

set_option maxRecDepth 100000 in
set_option maxHeartbeats 1000000 in
theorem sumOf_c (d : Int) (t : List UInt8) (n c : Nat) (a : Option Addr) (w : World) (ht : t.length = n) (hnc : n ≤ c) (hc : c ≤ 9223372036854775807) (h0 : a = none → c = 0) (hcl : Cells w a (t.map u8v)) :
    Calls Tryz.prog 33 #[.int .i64 d, .slice a n c] w fun e w' => e = .returned (sumOfV d t n) ∧ Ext w w' := by
  obtain ⟨V, hV⟩ : ∃ V, sumOfV d t n = V := ⟨_, rfl⟩
  rw [hV]
  unfold sumOfV at hV
  have HV := hid hV
  have HT := hid ht
  have HC := hid hcl
  have H0 := hid h0
  clear ht hcl h0 hV
  go_enter Tryz.func33, Tryz.ntmps33
  go_wp2_with fail
  generalize hwA : World.alloc (World.alloc w _) _ = wA
  have zA : Blk wA w.heap.size (List.replicate 32 (.int .u8 0)) 35 := by rw [← hwA]; exact (Blk.mk_alloc rfl rfl).alloc _
  have gA : Blk wA (w.heap.size + 1) [.slice a n c] 39 := by rw [← hwA]; exact Blk.mk_alloc (by simp) rfl
  have eA : Ext w wA := by rw [← hwA]; exact ((Ext.refl w).alloc _).alloc _
  clear hwA
  have hcat : cat [(a, c, t)] = t := by simp [cat]
  refine (summed_c [(a, c, t)] d (w.heap.size + 1) 1 1 wA rfl (by omega) ?hg gA.lt ?hc ?hn ?hnc ?hcm).mono ?_
  case hg =>
    intro i it hit
    match i, hit with
    | 0, hit => cases hit; rw [itemV]; simp only; rw [HT.out]; exact gA.cell' rfl
  case hc =>
    intro it hit
    simp only [List.mem_cons, List.not_mem_nil, or_false] at hit
    subst hit
    exact HC.out.ext eA
  case hn =>
    intro it hit
    simp only [List.mem_cons, List.not_mem_nil, or_false] at hit
    subst hit
    exact H0.out
  case hnc =>
    intro it hit
    simp only [List.mem_cons, List.not_mem_nil, or_false] at hit
    subst hit
    simp only
    rw [HT.out]; exact hnc
  case hcm =>
    intro it hit
    simp only [List.mem_cons, List.not_mem_nil, or_false] at hit
    subst hit
    exact hc
  intro e w1 h
  rw [hcat] at h
  unfold summedPost at h
  rw [HT.out] at h
  obtain ⟨h, e1⟩ := h
  have HZ1 := hid (zA.ext e1)
  have HE1 := hid (eA.ext e1)
  have hlA : w.heap.size < wA.heap.size := zA.lt
  clear zA gA eA e1 hcat
  by_cases hd : d < 0 ∨ 255 < d
  · rw [if_pos hd] at h
    have hv := HV.out
    rw [if_pos hd] at hv
    subst h
    have HV2 := hid hv
    clear hd hv HV
    go_wp2_with (refine wpl_storew rfl _ _ _ rfl rfl rfl HZ1.out agg_apisum (by simp) (xs := List.replicate 32 (.int .u8 0)) (by simp) (one_zeros 32) ?_)
    intro w4 b4 u4
    go_wp2
    refine ret_row2 rfl rfl b4 agg_apisum (by simp) rfl ⟨by rw [← HV2.out]; unfold zeros; rfl, u4.ext HE1.out (by omega)⟩
  · rw [if_neg hd] at h
    have hv := HV.out
    rw [if_neg hd] at hv
    by_cases hfit : n ≤ 1048576
    · rw [if_pos hfit] at h hv
      obtain ⟨rfl, h1⟩ := h
      have hsm := sum_c (initS d) t n wA.heap.size SmT w1 (initS_length d) (by omega) h1
      rw [show (finL (initS d) t n).take 32 = sumL d t by rw [sumL, HT.out]] at hsm
      have HSL : Hid (((sumL d t).map u8v).length = 32) := hid (by rw [List.length_map, sumL_length])
      have o1 := one_u8 (sumL d t)
      generalize (sumL d t).map u8v = sv at *
      have HV2 := hid hv
      have HSM := hid hsm
      clear hd hv HV hsm h1 hfit
      go_wp2_with fail
      refine HSM.out.mono ?_
      rintro e w2 ⟨rfl, e2⟩
      have HZ2 := hid (HZ1.out.ext e2)
      have HE2 := hid (HE1.out.ext e2)
      clear e2 HSM
      go_wp2_with (refine wpl_storew rfl _ _ _ rfl rfl rfl HZ2.out agg_apisum (by simp) HSL.out o1 ?_)
      intro w4 b4 u4
      go_wp2
      refine ret_row2 rfl rfl b4 agg_apisum HSL.out rfl ⟨by rw [← HV2.out]; rfl, u4.ext HE2.out (by omega)⟩
    · rw [if_neg hfit] at h hv
      subst h
      have HV2 := hid hv
      clear hd hv HV hfit
      go_wp2_with (refine wpl_storew rfl _ _ _ rfl rfl rfl HZ1.out agg_apisum (by simp) (xs := List.replicate 32 (.int .u8 0)) (by simp) (one_zeros 32) ?_)
      intro w4 b4 u4
      go_wp2
      refine ret_row2 rfl rfl b4 agg_apisum (by simp) rfl ⟨by rw [← HV2.out]; unfold zeros; rfl, u4.ext HE1.out (by omega)⟩

theorem longL_drop (u : UInt64) : (longL u).drop 4 = octL (UInt32.ofNat u.toNat) := rfl

/-- parts, each with its length ahead -/
def frameL (its : List Item) : List UInt8 := (its.map fun it => octL (UInt32.ofNat it.2.2.length) ++ it.2.2).flatten
theorem frameL_succ {its : List Item} {k : Nat} {it : Item} (h : its[k]? = some it) : frameL (its.take (k + 1)) = frameL (its.take k) ++ octL (UInt32.ofNat it.2.2.length) ++ it.2.2 := by
  unfold frameL
  rw [List.take_add_one, h]; simp
theorem frameL_le (its : List Item) (k : Nat) : (frameL (its.take k)).length ≤ (frameL its).length := by
  have h2 : frameL its = frameL (its.take k) ++ frameL (its.drop k) := by
    unfold frameL
    rw [← List.flatten_append, ← List.map_append, List.take_append_drop]
  rw [h2, List.length_append]
  omega
end

section
open Go Go.RowKit

theorem wpl_stepA {P : Program} {ops : Array Oper} {rest : List Oper} {o : Oper} {a : Act} {w w' : World} {Q : Exit → Act → World → Prop} {v : Value} (hgd : o.guard = none) (hr : (execOp a.eval o).run P w = .ok (.value v) w') (h : wpList P ops Q rest (a.put o.dst v) w') : wpList P ops Q (o :: rest) a w :=
  wpList_plain hgd fun K hK => by
    unfold Oper.wp
    rw [hr, Oper.upon_value]
    exact hK _ _ h
theorem exec_toBytes {o : Oper} {a : Act} {x : Operand} {s : ByteArray} (ho : o.op = .convert 9 39 x) (hx : a.eval x = .string s) (w : World) :
    (execOp a.eval o).run Tryz.prog w = .ok (.value (.slice (some ⟨w.heap.size, 0, none⟩) s.size (grownCap w s.size 0 5)))
      (w.drew.alloc (.cells (bytesRow s (grownCap w s.size 0 5)) 5 ((bytesRow s (grownCap w s.size 0 5)).size, (bytesRow s (grownCap w s.size 0 5)).size + 1))) := by
  unfold execOp
  simp only [ho, hx, Sem.run_bind, run_bytes_of_string w _ _ _ s Tryz.underlying9 Tryz.underlying39 Tryz.underlying5, Result.andThen_ok, Sem.run_pure]
theorem cells_toBytes (s : ByteArray) (c : Nat) (w : World) (z : Nat × Nat) : Cells (w.drew.alloc (.cells (bytesRow s c) 5 z)) (some ⟨w.heap.size, 0, none⟩) (s.data.toList.map u8v) := by
  refine .inr ⟨w.heap.size, 0, rfl, fun i u hu => ?_⟩
  have hi : i < s.data.size := by
    have := (List.getElem?_eq_some_iff.1 hu).1
    rw [List.length_map, Array.length_toList] at this; exact this
  have hh : (w.drew.alloc (.cells (bytesRow s c) 5 z)).heap[w.heap.size]? = some (.cells (bytesRow s c) 5 z) := by
    show (w.heap.push _)[w.heap.size]? = _
    simp
  rw [Nat.zero_add]
  have hb : (bytesRow s c)[i]? = some u := by
    unfold bytesRow
    rw [Array.getElem?_append_left (by simpa using hi), Array.getElem?_map]
    rw [List.getElem?_map, Array.getElem?_toList] at hu
    exact hu
  simp only [World.cell?, hh]
  exact hb
end

section
open Go Go.RowKit

noncomputable def sumP (rs : List RuleR) (pn : Nat) : List UInt8 := if prtE rs pn = 0 then sumL 0 (polTx rs) else List.replicate 32 0
theorem prt_zero {rs : List RuleR} {pn : Nat} (h : prtE rs pn = 0) : prtT rs pn = polTx rs ∧ parE (polTx rs) = 0 ∧ sameRs rs (parR (polTx rs)) = true ∧ (polTx rs).length ≤ 65536 ∧ parN (polTx rs) = 0 := by
  have h1 : prtT rs pn = polTx rs := by unfold prtT; rw [if_pos h]
  by_cases h0 : polE rs pn = 0
  · by_cases h2 : parE (polTx rs) = 0 ∧ sameRs rs (parR (polTx rs)) = true
    · refine ⟨h1, h2.1, h2.2, ?_⟩
      by_cases h3 : 65536 < (polTx rs).length
      · have := (par_large h3).1
        rw [this] at h2
        exact absurd h2.1 (by decide)
      · refine ⟨by omega, ?_⟩
        cases hb : badAt (linesOf (polTx rs)) with
        | some k =>
          have := (par_bad h3 hb).1
          rw [this] at h2
          exact absurd h2.1 (by decide)
        | none => exact (par_all h3 hb).2
    · rw [(prt_form h0 h2).1] at h
      exact absurd h (by decide)
  · rw [(prt_bad h0).1] at h
    exact absurd h h0

set_option maxRecDepth 100000 in
set_option maxHeartbeats 2000000 in
theorem polSum_c (pa : Option Addr) (pn pc : Nat) (rs : List RuleR) (w : World) (hp : PolOk w pa pn pc rs) (hl : LibP w) :
    Calls Tryz.prog 12 #[.agg #[.slice pa pn pc]] w fun e w' => e = .returned (.tuple #[.agg ((sumP rs pn).map u8v).toArray, .int .i64 (prtE rs pn)]) ∧ Ext w w' := by
  have HPO := hid hp
  have HL := hid hl
  have HAP := hid agg_polP
  have HAS := hid agg_apisum
  obtain ⟨R, hR⟩ : ∃ R : Ending → World → Prop, R = fun e w' => e = .returned (.tuple #[.agg ((sumP rs pn).map u8v).toArray, .int .i64 (prtE rs pn)]) ∧ Ext w w' := ⟨_, rfl⟩
  rw [← hR]
  have HR := hid hR
  have hpr := hid (fun w1 (h : PolOk w1 pa pn pc rs) h2 => print_c pa pn pc rs w1 h h2)
  clear hR hp hl
  go_enter Tryz.func12, Tryz.ntmps12
  go_upto_region 1 with fail
  obtain ⟨w1, hw1⟩ : ∃ W, World.alloc w (.cells #[.slice pa pn pc] 25) = W := ⟨_, rfl⟩
  rw [hw1]
  have b1 : Blk w1 w.heap.size [.slice pa pn pc] 25 := by rw [← hw1]; exact Blk.mk_alloc rfl rfl
  have e1 : Ext w w1 := by rw [← hw1]; exact (Ext.refl w).alloc _
  have hs1 : w1.heap.size = w.heap.size + 1 := by rw [← hw1, size_allocP]
  generalize hwA : World.alloc w1 _ = wA
  have zA : Blk wA w1.heap.size (List.replicate 32 (.int .u8 0)) 35 := by rw [← hwA]; exact Blk.mk_alloc rfl rfl
  have eA1 : Ext w1 wA := by rw [← hwA]; exact (Ext.refl w1).alloc _
  have BA := hid (b1.ext eA1)
  have EA := hid (e1.ext eA1)
  rw [hs1] at zA
  try rw [hs1]
  obtain ⟨G, hG⟩ : ∃ G, w.heap.size + 1 = G := ⟨_, rfl⟩
  have hwG : w.heap.size ≤ G := by omega
  rw [hG] at zA ⊢
  have ZA := hid zA
  clear hw1 b1 e1 hs1 hwA zA eA1 hG
  go_wp2_with (refine wpl_loadw rfl 25 _ rfl rfl BA.out HAP.out rfl ?_)
  refine (hpr.out wA (HPO.out.ext EA.out) (HL.out.ext EA.out)).mono ?_
  rintro e wB ⟨rfl, eB⟩
  have ZB := hid (ZA.out.ext eB)
  have EB := hid (EA.out.ext eB)
  clear eB BA EA ZA hpr
  by_cases hE : prtE rs pn ≠ 0
  · have HSU := hid (show sumP rs pn = List.replicate 32 0 by unfold sumP; rw [if_neg hE])
    have n1 : (prtE rs pn != 0) = true := by simp; exact hE
    have n2 : decide (prtE rs pn = 0) = false := decide_eq_false hE
    generalize prtE rs pn = E at *
    clear hE
    go_wp2_with (refine wpl_storew rfl _ _ _ rfl rfl rfl ZB.out HAS.out (by simp) (xs := List.replicate 32 (.int .u8 0)) (by simp) (one_zeros 32) ?_)
    intro w4 b4 u4
    go_wp2
    refine ret_row2 rfl rfl b4 agg_apisum (by simp) rfl ?_
    rw [HR.out]
    exact ⟨by rw [HSU.out]; rfl, u4.ext EB.out hwG⟩
  have hE0 : prtE rs pn = 0 := Classical.not_not.1 hE
  obtain ⟨h1, h2, h3, h4, h5⟩ := prt_zero hE0
  have HSU := hid (show sumP rs pn = sumL 0 (polTx rs) by unfold sumP; rw [if_pos hE0])
  rw [hE0] at HR ⊢
  rw [h1]
  clear hE hE0 h1 h2 h3 h5
  generalize polTx rs = S at *
  have hsz := size_strOf S
  have htl := toList_strOf S
  have hso := hid (fun c a w (hnc : S.length ≤ c) (hc : c ≤ 9223372036854775807) (h0 : a = none → c = 0) (hcl : Cells w a (S.map u8v)) => sumOf_c 0 S S.length c a w rfl hnc hc h0 hcl)
  have hsv : sumOfV 0 S S.length = .tuple #[.agg ((sumL 0 S).map u8v).toArray, .int .i64 0] := by unfold sumOfV; rw [if_neg (by decide), if_pos (by omega)]
  rw [hsv] at hso
  have HSL : Hid (((sumL 0 S).map u8v).length = 32) := hid (by rw [List.length_map, sumL_length])
  have o1 := one_u8 (sumL 0 S)
  rw [← HSU.out] at *
  generalize (sumP rs pn).map u8v = sv at *
  clear hsv HSU
  have HTL := hid htl
  have HSZ := hid hsz
  clear htl hsz
  go_wp2_with (refine wpl_stepA rfl (exec_toBytes rfl rfl _) ?_)
  have hcl := cells_toBytes (strOf S) (grownCap wB (strOf S).size 0 5) wB
  rw [HTL.out] at hcl
  have hc1 := grownCap_ge wB (strOf S).size 0 5
  have hc2 := grownCap_le_maxLen wB (strOf S).size 0 5 (by rw [HSZ.out]; unfold maxLen; omega)
  rw [HSZ.out] at hcl hc1 hc2 ⊢
  generalize grownCap wB S.length 0 5 = c at *
  generalize hwC : World.drew (World.alloc wB _) = wC
  have eC : Ext wB wC := by rw [← hwC]; exact ((Ext.refl wB).alloc _).drew
  have HCL : Hid (Cells wC (some ⟨wB.heap.size, 0, none⟩) (S.map u8v)) := hid (by rw [← hwC]; exact hcl _)
  clear hwC hcl
  refine (hso.out c _ wC hc1 (by unfold maxLen at hc2; omega) (fun h => by cases h) HCL.out).mono ?_
  rintro e wD ⟨rfl, eD⟩
  have ZD := hid ((ZB.out.ext eC).ext eD)
  have ED := hid ((EB.out.ext eC).ext eD)
  clear eC eD ZB EB hso HCL hc1 hc2
  go_wp2_with (refine wpl_storew rfl _ _ _ rfl rfl rfl ZD.out HAS.out (by simp) (xs := sv) HSL.out o1 ?_)
  intro w4 b4 u4
  go_wp2
  refine ret_row2 rfl rfl b4 agg_apisum HSL.out rfl ?_
  rw [HR.out]
  exact ⟨rfl, u4.ext ED.out hwG⟩
end

section
open Go Go.RowKit

theorem exec_cmpP {P : Program} {o : Oper} {a : Act} {op : BinOp} {t u : TypeId} {x y : Operand} (ho : o.op = .binOp op t x y u) {xs ys : Array Value} {b : Value} (hx : a.eval x = .agg xs) (hy : a.eval y = .agg ys)
    (hg : P.eqGuardType P.depth t = false) (hr : ∀ w, (binOp op t (.agg xs) (.agg ys)).run P w = .ok b w) (w : World) : (execOp a.eval o).run P w = .ok (.value b) w := by
  unfold execOp
  simp only [ho, hx, hy, Sem.run_bind, run_eqGuard_agg w op t x y xs ys hg, Result.andThen_ok, hr, Sem.run_pure]
theorem guard_sumP : Tryz.prog.eqGuardType Tryz.prog.depth 35 = false := by kernel_rfl
theorem zeros32P : (List.replicate 32 (0 : UInt8)).map u8v = List.replicate 32 (.int .u8 0) := by simp [u8v]
theorem sumP_len (rs : List RuleR) (pn : Nat) : (sumP rs pn).length = 32 := by
  unfold sumP
  split
  · exact sumL_length _ _
  · simp

set_option maxRecDepth 100000 in
set_option maxHeartbeats 4000000 in
theorem policiesCheck_c (pa : Option Addr) (pn pc : Nat) (rs : List RuleR) (w : World) (hp : PolOk w pa pn pc rs) (hl : LibP w) :
    Calls Tryz.prog 4 #[.agg #[.slice pa pn pc]] w fun e w' => e = .returned (.bool true) ∧ Ext w w' := by
  have HPO := hid hp
  have HL := hid hl
  have HAP := hid agg_polP
  have HAS := hid agg_apisum
  have H9 := hid (fun w1 (h : PolOk w1 pa pn pc rs) => checkPolicy_c pa pn pc rs w1 h)
  have H10 := hid (fun w1 (h : PolOk w1 pa pn pc rs) h2 => print_c pa pn pc rs w1 h h2)
  have H11 := hid (fun w1 (h : PolOk w1 pa pn pc rs) h2 => printPolicy_c pa pn pc rs w1 h h2)
  have H12 := hid (fun w1 (h : PolOk w1 pa pn pc rs) h2 => polSum_c pa pn pc rs w1 h h2)
  have H13 := hid (fun w1 (h : PolOk w1 pa pn pc rs) => check_c pa pn pc rs w1 h)
  have HZ := hid (fun h : prtE rs pn = 0 => show sameRs rs (parR (prtT rs pn)) = true ∧ parE (prtT rs pn) = 0 ∧ parN (prtT rs pn) = 0 ∧ (prtT rs pn).length ≤ 65536 ∧ sumP rs pn = sumL 0 (prtT rs pn) by
    obtain ⟨h1, h2, h3, h4, h5⟩ := prt_zero h
    rw [h1]
    exact ⟨h3, h2, h5, h4, by unfold sumP; rw [if_pos h]⟩)
  have HNZ := hid (fun h : prtE rs pn ≠ 0 => show sumP rs pn = List.replicate 32 0 by unfold sumP; rw [if_neg h])
  have hsl := sumP_len rs pn
  have k1 : (polE rs pn != polE rs pn) = false := by simp
  have k2 : (prtE rs pn != prtE rs pn) = false := by simp
  have k3 : ((strOf (prtT rs pn)).toList != (strOf (prtT rs pn)).toList) = false := by simp
  generalize polE rs pn = C at *
  generalize prtT rs pn = T at *
  generalize prtE rs pn = E at *
  generalize sumP rs pn = S at *
  have HSL := hid (show (S.map u8v).length = 32 by rw [List.length_map, hsl])
  have HSE := hid (fun w => eq_self Tryz.underlying35 S hsl w)
  have os := one_u8 S
  clear hp hl hsl
  go_enter Tryz.func4, Tryz.ntmps4
  go_upto_region 1 with fail
  generalize hwA : World.alloc w _ = wA
  have bA : Blk wA w.heap.size [.slice pa pn pc] 25 := by rw [← hwA]; exact Blk.mk_alloc rfl rfl
  have eA : Ext w wA := by rw [← hwA]; exact (Ext.refl w).alloc _
  have BA := hid bA
  have EA := hid eA
  clear hwA bA eA
  generalize w.heap.size = G1 at *
  go_wp2_with fail
  refine (landed_c wA).mono ?_
  rintro e wB ⟨rfl, eB⟩
  have BB := hid (BA.out.ext eB)
  have EB := hid (EA.out.ext eB)
  clear eB BA EA
  go_wp2_with (refine wpl_loadw rfl 25 _ rfl rfl BB.out HAP.out rfl ?_)
  refine (H9.out wB (HPO.out.ext EB.out)).mono ?_
  rintro e wC ⟨rfl, eC⟩
  have BC := hid (BB.out.ext eC)
  have EC := hid (EB.out.ext eC)
  clear eC BB EB
  go_wp2_with (refine wpl_loadw rfl 25 _ rfl rfl BC.out HAP.out rfl ?_)
  refine (H10.out wC (HPO.out.ext EC.out) (HL.out.ext EC.out)).mono ?_
  rintro e wD ⟨rfl, eD⟩
  have BD := hid (BC.out.ext eD)
  have ED := hid (EC.out.ext eD)
  clear eD BC EC
  go_wp2_with (refine wpl_loadw rfl 25 _ rfl rfl BD.out HAP.out rfl ?_)
  refine (H11.out wD (HPO.out.ext ED.out) (HL.out.ext ED.out)).mono ?_
  rintro e wE ⟨rfl, eE⟩
  have BE := hid (BD.out.ext eE)
  have EE := hid (ED.out.ext eE)
  clear eE BD ED
  go_wp2_with (refine wpl_loadw rfl 25 _ rfl rfl BE.out HAP.out rfl ?_)
  refine (H12.out wE (HPO.out.ext EE.out) (HL.out.ext EE.out)).mono ?_
  rintro e wF ⟨rfl, eF⟩
  have BF := hid (BE.out.ext eF)
  have EF := hid (EE.out.ext eF)
  clear eF BE EE
  go_wp2_with (first | (refine wpl_storew rfl _ (.tmp 8) _ rfl rfl rfl (Blk.mk_alloc (vs := List.replicate 32 (.int .u8 0)) rfl rfl) HAS.out (by simp) HSL.out os ?_) | (refine wpl_loadw rfl 25 _ rfl rfl BF.out HAP.out rfl ?_))
  intro wG bG uG
  have eG : Ext wF wG := uG.ext ((Ext.refl wF).alloc _) (Nat.le_refl _)
  have DG := hid bG
  have hFG : wF.heap.size < wG.heap.size := bG.lt
  clear bG uG
  have BG := hid (BF.out.ext eG)
  have EG := hid (EF.out.ext eG)
  clear eG BF EF
  generalize wF.heap.size = G8 at *
  go_wp2_with (first | (refine wpl_loadw rfl 25 (.tmp 1) rfl rfl BG.out HAP.out rfl ?_))
  refine (H13.out wG (HPO.out.ext EG.out)).mono ?_
  rintro e wH ⟨rfl, eH⟩
  have DH := hid (DG.out.ext eH)
  clear DG
  have BH := hid (BG.out.ext eH)
  have EH := hid (EG.out.ext eH)
  clear eH BG EG
  clear H9 H10 H11 H12 H13
  by_cases hE : E ≠ 0
  · have HS := hid (HNZ.out hE)
    have n1 : (E != 0) = true := by simp; exact hE
    have n2 : decide (E = 0) = false := decide_eq_false hE
    have hqz := hid (fun w' => show (binOp .eql 35 (.agg (S.map u8v).toArray) (.agg (List.replicate 32 (.int .u8 0)).toArray)).run Tryz.prog w' = .ok (.bool true) w' by
      rw [HS.out, ← zeros32P]; exact eq_self Tryz.underlying35 _ (by simp) w')
    clear hE HZ HNZ
    go_wp2_with (first | (refine wpl_loadw rfl 35 _ rfl rfl DH.out HAS.out HSL.out ?_) | (refine wpl_run rfl (exec_cmpP rfl rfl rfl guard_sumP hqz.out _) ?_))
    go_ret
    exact ⟨rfl, EH.out⟩
  have hE0 : E = 0 := Classical.not_not.1 hE
  obtain ⟨hz1, hz2, hz3, hz4, hz5⟩ := HZ.out hE0
  have hpc := hid (fun w h => parse_c T w h (by omega))
  rw [hz2, hz3] at hpc
  have HZ1 := hid hz1
  have HZ5 := hid hz5
  have HT4 := hid hz4
  have HTL := hid (toList_strOf T)
  have HTS := hid (size_strOf T)
  clear hz1 hz2 hz3 hz4 hz5 HZ HNZ hE
  subst hE0
  go_wp2_with fail
  refine (hpc.out wH (HL.out.ext EH.out)).mono ?_
  rintro e wI ⟨qa, qn, qc, qs, rfl, hq, hqr, eI⟩
  have HQI := hid hq
  have hsr : sameRs rs qs = true := by rw [← sameRs_bare, hqr]; exact HZ1.out
  have H8 := hid (fun w1 h1 h2 => samePolX_c pa pn pc rs qa qn qc qs w1 h1 h2)
  rw [hsr] at H8
  have H14 := hid (fun a c w (hcl : Cells w a (T.map u8v)) => rsum_c 0 T T.length c a w (by omega) (by omega) rfl (by have := HT4.out; omega) hcl)
  rw [← HZ5.out] at H14
  clear hq hqr HZ1 hpc hsr
  have DI := hid (DH.out.ext eI)
  clear DH
  have BI := hid (BH.out.ext eI)
  have EI := hid (EH.out.ext eI)
  clear eI BH EH
  go_wp2_with (refine wpl_storew rfl _ _ _ rfl rfl rfl (Blk.mk_alloc (vs := [.slice none 0 0]) rfl rfl) HAP.out rfl (xs := [.slice qa qn qc]) rfl (fun v hv => by simp at hv; rw [hv]; rfl) ?_)
  intro wJ bJ uJ
  have eJ : Ext wI wJ := uJ.ext ((Ext.refl wI).alloc _) (Nat.le_refl _)
  have QJ := hid bJ
  have DJ := hid (DI.out.ext eJ)
  have HQJ := hid (HQI.out.ext eJ)
  clear bJ uJ DI HQI
  have BJ := hid (BI.out.ext eJ)
  have EJ := hid (EI.out.ext eJ)
  clear eJ BI EI
  generalize wI.heap.size = G10 at *
  go_upto_region 12 with (fail)
  obtain ⟨C, hC⟩ : ∃ C : World → Prop, C = fun w' => Ext wJ w' := ⟨_, rfl⟩
  have hC0 : ∀ w', C w' ↔ Ext wJ w' := fun w' => by rw [hC]
  clear hC
  have HCC := hid hC0
  clear hC0
  have hCx : ∀ w w', C w → Ext w w' → C w' := fun w w' h1 h2 => (HCC.out w').2 (((HCC.out w).1 h1).ext h2)
  refine wp_region_held_drew (S := C) (by kernel_rfl) ((HCC.out _).2 (Ext.refl wJ).drew) (fun hS0 => ?_)
  refine held_take 0 (v := _) rfl (by kernel_rfl) (by kernel_rfl) (by kernel_rfl) (fun _ _ _ h => h) (yieldsI_loadw rfl 35 _ rfl rfl (fun w1 h => DJ.out.ext ((HCC.out w1).1 h)) HAS.out HSL.out) hS0 ?_
  simp only [Act.put, List.setIfInBounds_toArray, List.set_cons_succ, List.set_cons_zero]
  refine held_take 1 (v := ?tv1) rfl (by kernel_rfl) (by kernel_rfl) (by kernel_rfl) (fun _ _ _ h => h) (.inl ⟨rfl, ?ty1⟩) hS0 ?tr1
  case ty1 => (intro _ _; go_simp; try with_reducible rfl)
  case tr1 =>
  simp only [Act.put, List.setIfInBounds_toArray, List.set_cons_succ, List.set_cons_zero]
  generalize World.drew wJ = wK at hS0 ⊢
  refine held_one (i := 2) (by kernel_rfl) rfl ?_
  intro Q' hQ
  go_wp2_with (refine wpl_stepA rfl (exec_toBytes rfl rfl _) ?_)
  have hcl := cells_toBytes (strOf T) (grownCap wK (strOf T).size 0 5) wK
  rw [HTL.out] at hcl
  rw [HTS.out] at hcl ⊢
  generalize grownCap wK T.length 0 5 = c at *
  generalize hwC : World.drew (World.alloc wK _) = wL
  have eL : Ext wK wL := by rw [← hwC]; exact ((Ext.refl wK).alloc _).drew
  have HCL : Hid (Cells wL (some ⟨wK.heap.size, 0, none⟩) (T.map u8v)) := hid (by rw [← hwC]; exact hcl _)
  have hS9 := hCx _ _ hS0 eL
  clear hwC hcl
  (try go_wp2_with fail)
  refine hQ _ _ hS9 ?_
  clear hQ Q' hS0 eL
  have hS0 := hS9
  clear hS9
  try dsimp only
  try simp only [Act.put, List.setIfInBounds_toArray, List.set_cons_succ, List.set_cons_zero]
  refine held_one (i := 3) (by kernel_rfl) rfl ?_
  intro Q' hQ
  go_wp2_with fail
  refine ((H14.out _ c wL HCL.out)).mono ?_
  rintro e wM ⟨rfl, eq9⟩
  have hS9 := hCx _ _ hS0 eq9
  go_wp2_with fail
  refine hQ _ _ hS9 ?_
  clear hQ Q' hS0 eq9
  have hS0 := hS9
  clear hS9
  try dsimp only
  try simp only [Act.put, List.setIfInBounds_toArray, List.set_cons_succ, List.set_cons_zero]
  refine held_take 4 (v := _) rfl (by kernel_rfl) (by kernel_rfl) (by kernel_rfl) (fun _ _ _ h => h) (yieldsI_run rfl (fun w1 _ => exec_cmpP rfl rfl rfl guard_sumP HSE.out w1)) hS0 ?_
  simp only [Act.put, List.setIfInBounds_toArray, List.set_cons_succ, List.set_cons_zero]
  refine held_take 5 (v := ?tv2) rfl (by kernel_rfl) (by kernel_rfl) (by kernel_rfl) (fun _ _ _ h => h) (.inl ⟨rfl, ?ty2⟩) hS0 ?tr2
  case ty2 => (intro _ _; go_simp; try with_reducible rfl)
  case tr2 =>
  simp only [Act.put, List.setIfInBounds_toArray, List.set_cons_succ, List.set_cons_zero]
  refine held_take 6 (v := ?tv3) rfl (by kernel_rfl) (by kernel_rfl) (by kernel_rfl) (fun _ _ _ h => h) (.inl ⟨rfl, ?ty3⟩) hS0 ?tr3
  case ty3 => (intro _ _; go_simp; try with_reducible rfl)
  case tr3 =>
  simp only [Act.put, List.setIfInBounds_toArray, List.set_cons_succ, List.set_cons_zero]
  refine held_take 7 (v := ?tv4) rfl (by kernel_rfl) (by kernel_rfl) (by kernel_rfl) (fun _ _ _ h => h) (.inl ⟨rfl, ?ty4⟩) hS0 ?tr4
  case ty4 => (intro _ _; go_simp; try with_reducible rfl)
  case tr4 =>
  simp only [Act.put, List.setIfInBounds_toArray, List.set_cons_succ, List.set_cons_zero]
  refine held_take 8 (v := ?tv5) rfl (by kernel_rfl) (by kernel_rfl) (by kernel_rfl) (fun _ _ _ h => h) (.inl ⟨rfl, ?ty5⟩) hS0 ?tr5
  case ty5 => (intro _ _; go_simp; try with_reducible rfl)
  case tr5 =>
  simp only [Act.put, List.setIfInBounds_toArray, List.set_cons_succ, List.set_cons_zero]
  refine held_take 9 (v := ?tv6) rfl (by kernel_rfl) (by kernel_rfl) (by kernel_rfl) (fun _ _ _ h => h) (.inl ⟨rfl, ?ty6⟩) hS0 ?tr6
  case ty6 => (intro _ _; go_simp; try with_reducible rfl)
  case tr6 =>
  simp only [Act.put, List.setIfInBounds_toArray, List.set_cons_succ, List.set_cons_zero]
  refine held_take 10 (v := ?tv7) rfl (by kernel_rfl) (by kernel_rfl) (by kernel_rfl) (fun _ _ _ h => h) (.inl ⟨rfl, ?ty7⟩) hS0 ?tr7
  case ty7 => (intro _ _; go_simp; try with_reducible rfl)
  case tr7 =>
  simp only [Act.put, List.setIfInBounds_toArray, List.set_cons_succ, List.set_cons_zero]
  refine held_take 11 (v := ?tv8) rfl (by kernel_rfl) (by kernel_rfl) (by kernel_rfl) (fun _ _ _ h => h) (.inl ⟨rfl, ?ty8⟩) hS0 ?tr8
  case ty8 => (intro _ _; go_simp; try with_reducible rfl)
  case tr8 =>
  simp only [Act.put, List.setIfInBounds_toArray, List.set_cons_succ, List.set_cons_zero]
  refine held_take 12 (v := ?tv9) rfl (by kernel_rfl) (by kernel_rfl) (by kernel_rfl) (fun _ _ _ h => h) (.inl ⟨rfl, ?ty9⟩) hS0 ?tr9
  case ty9 => (intro _ _; go_simp; try with_reducible rfl)
  case tr9 =>
  simp only [Act.put, List.setIfInBounds_toArray, List.set_cons_succ, List.set_cons_zero]
  refine held_take 13 (v := ?tv10) rfl (by kernel_rfl) (by kernel_rfl) (by kernel_rfl) (fun _ _ _ h => h) (.inl ⟨rfl, ?ty10⟩) hS0 ?tr10
  case ty10 => (intro _ _; go_simp; try with_reducible rfl)
  case tr10 =>
  simp only [Act.put, List.setIfInBounds_toArray, List.set_cons_succ, List.set_cons_zero]
  refine held_take 14 (v := _) rfl (by kernel_rfl) (by kernel_rfl) (by kernel_rfl) (fun _ _ _ h => h) (yieldsI_loadw rfl 25 _ rfl rfl (fun w1 h => BJ.out.ext ((HCC.out w1).1 h)) HAP.out rfl) hS0 ?_
  simp only [Act.put, List.setIfInBounds_toArray, List.set_cons_succ, List.set_cons_zero]
  refine held_take 15 (v := _) rfl (by kernel_rfl) (by kernel_rfl) (by kernel_rfl) (fun _ _ _ h => h) (yieldsI_loadw rfl 25 _ rfl rfl (fun w1 h => QJ.out.ext ((HCC.out w1).1 h)) HAP.out rfl) hS0 ?_
  simp only [Act.put, List.setIfInBounds_toArray, List.set_cons_succ, List.set_cons_zero]
  refine held_one (i := 16) (by kernel_rfl) rfl ?_
  intro Q' hQ
  go_wp2_with fail
  refine ((H8.out wM (HPO.out.ext (EJ.out.ext ((HCC.out wM).1 hS0))) (HQJ.out.ext ((HCC.out wM).1 hS0)))).mono ?_
  rintro e wN ⟨rfl, eq9⟩
  have hS9 := hCx _ _ hS0 eq9
  go_wp2_with fail
  refine hQ _ _ hS9 ?_
  clear hQ Q' hS0 eq9
  have hS0 := hS9
  clear hS9
  try dsimp only
  try simp only [Act.put, List.setIfInBounds_toArray, List.set_cons_succ, List.set_cons_zero]
  refine held_take 17 (v := ?tv11) rfl (by kernel_rfl) (by kernel_rfl) (by kernel_rfl) (fun _ _ _ h => h) (.inl ⟨rfl, ?ty11⟩) hS0 ?tr11
  case ty11 => (intro _ _; go_simp; try with_reducible rfl)
  case tr11 =>
  simp only [Act.put, List.setIfInBounds_toArray, List.set_cons_succ, List.set_cons_zero]
  refine held_take 18 (v := ?tv12) rfl (by kernel_rfl) (by kernel_rfl) (by kernel_rfl) (fun _ _ _ h => h) (.inl ⟨rfl, ?ty12⟩) hS0 ?tr12
  case ty12 => (intro _ _; go_simp; try with_reducible rfl)
  case tr12 =>
  simp only [Act.put, List.setIfInBounds_toArray, List.set_cons_succ, List.set_cons_zero]
  refine wpAnyH_done (by kernel_rfl) ?_ _
  have eN := (HCC.out wN).1 hS0
  go_wp2_with fail
  go_ret
  exact ⟨rfl, EJ.out.ext eN⟩
end

section
open Go Go.RowKit Go.ChangeShapes Go.WideShapes Go.ChangeAt

theorem u8_of {n : Int} (h : (Lit.int .u8 n).wf = true) : ∃ x : UInt8, Value.int .u8 n = u8v x := by
  have hb := bounds_u8 h
  refine ⟨UInt8.ofNat n.toNat, ?_⟩
  unfold u8v
  congr 1
  rw [UInt8.toNat_ofNat']
  omega

theorem u8s_of : ∀ (vs : List Value), (∀ (i : Nat) (v : Value), vs[i]? = some v → ∃ x : UInt8, v = u8v x) → ∃ l : List UInt8, vs = l.map u8v
  | [], _ => ⟨[], rfl⟩
  | v :: vs, h => by
    obtain ⟨x, hx⟩ := h 0 v rfl
    obtain ⟨l, hl⟩ := u8s_of vs fun i u hu => h (i + 1) u (by simpa using hu)
    exact ⟨x :: l, by rw [hx, hl]; rfl⟩

section
variable {H : Type} {enc : TypeId × Value → H} {P : Program} {w : World}
/-- an array of octets -/
theorem open_octets {r : Reach} {b0 base : Nat} {sp : Nat → Bool} {held : Bool} {t e : TypeId} {n : Nat} {v : Value} {d : DataW H} {ps : List MemPlace} (ht : P.underlying t = some (.array n e)) (he : P.underlying e = some (.int .u8)) (hce : P.cellsOf e = 1) (hct : P.cellsOf t = n)
    (hval : Value.okWide P w r b0 t v) (hd : DataW.Trod enc P w base sp held t v d ps) : ∃ l : List UInt8, l.length = n ∧ v = .agg (l.map u8v).toArray := by
  unfold Value.okWide at hval
  rw [ht] at hval
  obtain ⟨cs, rfl, hs, _⟩ := hval
  obtain ⟨fuel, hf⟩ := hd
  obtain ⟨xs, m, _, _, hlen, hxl, hel⟩ := DataW.trod_array ht hf
  have hcl : cs.toList.length = n := by rw [Array.length_toList, hs, hct]
  obtain ⟨l, hl⟩ := u8s_of cs.toList fun i u hu => by
    have hi : i < n := by
      have := (List.getElem?_eq_some_iff.1 hu).1
      omega
    have h1 := hel i hi
    rw [hce, Nat.mul_one] at h1
    have hx : xs[i]? = some xs[i] := by simp
    have h2 : (cs.toList.drop i).take 1 = [u] := by
      have h3 := List.getElem?_drop (xs := cs.toList) (i := i) (j := 0)
      rw [Nat.add_zero, hu] at h3
      cases hd : cs.toList.drop i with
      | nil => rw [hd] at h3; simp at h3
      | cons y r => rw [hd] at h3; simp at h3; simp [h3]
    have h4 : DataW.trod enc P w base sp held m e [u] = some xs[i] := by
      rw [← h2, ← hx]; exact h1
    obtain ⟨k, hk, _, hw⟩ := DataW.trod_int he h4
    have hu' : u = .int .u8 k := by simpa using hk
    rw [hu']; exact u8_of hw
  refine ⟨l, ?_, ?_⟩
  · have := congrArg List.length hl
    rw [hcl, List.length_map] at this; exact this.symm
  · rw [← hl]
end
end

section
open Go Go.RowKit Go.ChangeShapes Go.WideShapes Go.ChangeAt

section
variable {H : Type} {enc : TypeId × Value → H} {P : Program} {w : World}
/-- a slice of octets, read whole -/
theorem open_bytes {r : Reach} {b0 base : Nat} {held : Bool} {t e : TypeId} {v : Value} {d : DataW H} {ps : List MemPlace} (ht : P.underlying t = some (.slice e)) (he : P.underlying e = some (.int .u8)) (hce : P.cellsOf e = 1)
    (hval : Value.okWide P w r b0 t v) (hd : DataW.Trod enc P w base (fun _ => true) held t v d ps) :
    ∃ (a : Option Addr) (n c : Nat) (l : List UInt8) (es sp : List (DataW H)), v = .slice a n c ∧ l.length = n ∧ n ≤ c ∧ (a = none → c = 0) ∧ Cells w a (l.map u8v) ∧ ((d = .nil ∧ c = 0) ∨ (d = .slice es sp ∧ es.length + sp.length = c)) := by
  obtain ⟨a, n, c, rfl⟩ := okWide_slice ht hval
  obtain ⟨fuel, hf⟩ := hd
  rcases open_ints ht he hce hf with ⟨hcs, hx⟩ | ⟨ad, len, cap, zs, hcs, _, hle, hmax, hlen, hx, hcell, hwf⟩
  · simp [Value.cells] at hcs
    obtain ⟨rfl, rfl, rfl⟩ := hcs
    simp only [Prod.mk.injEq] at hx
    exact ⟨none, 0, 0, [], [], [], rfl, rfl, Nat.le_refl _, fun _ => rfl, .inl rfl, .inl ⟨hx.1, rfl⟩⟩
  · simp [Value.cells] at hcs
    obtain ⟨rfl, rfl, rfl⟩ := hcs
    simp only [Prod.mk.injEq] at hx
    simp only [if_true] at hlen
    obtain ⟨l, hl⟩ := u8s_of ((zs.take n).map (Value.int .u8)) fun i u hu => by
      have hm := List.mem_of_getElem? hu
      obtain ⟨z, hz, rfl⟩ := List.mem_map.1 hm
      exact u8_of (hwf z (List.mem_of_mem_take hz))
    have hll : l.length = n := by
      have := congrArg List.length hl
      simp only [List.length_map, List.length_take] at this
      omega
    refine ⟨some ad, n, c, l, lits .u8 (zs.take n), lits .u8 (zs.drop n), rfl, hll, hle, (fun h => by cases h), ?_, .inr ⟨hx.1, ?_⟩⟩
    · by_cases hn : n = 0
      · left
        have : l = [] := List.length_eq_zero_iff.1 (by omega)
        rw [this]; rfl
      · obtain ⟨b, off, rfl, hat⟩ := ints_at hcell (by omega)
        refine .inr ⟨b, off, rfl, fun i u hu => ?_⟩
        rw [← hl] at hu
        have hi : i < n := by
          have := (List.getElem?_eq_some_iff.1 hu).1
          simp at this; omega
        rw [hat i (by omega)]
        rw [List.getElem?_map, List.getElem?_take_of_lt hi] at hu
        rw [List.getD_eq_getElem?_getD]
        cases hz : zs[i]? with
        | none => rw [hz] at hu; simp at hu
        | some z => rw [hz] at hu; simpa using hu
    · simp [lits]; omega
end
end

section
open Go Go.RowKit Go.ChangeShapes Go.WideShapes Go.ChangeAt Go.Deep

theorem cells?_at {w : World} {base : Nat} {p : Addr} {k : Nat} {cs : List Value} (h : w.cells? base p k = some cs) : cs.length = k ∧ CellsAt w p cs := by
  unfold World.cells? at h
  split at h
  · refine ⟨by simpa using mapM_some_length h, fun j u hu => ?_⟩
    have hj : j < k := by
      have h1 := (List.getElem?_eq_some_iff.1 hu).1
      have h2 := mapM_some_length h
      simp at h2; omega
    have := mapM_some_get h j j (by simp [hj])
    rw [hu] at this
    exact this
  · cases h

section
variable {H : Type} {enc : TypeId × Value → H} {P : Program} {w : World}
theorem octets_of_trod {base : Nat} {sp : Nat → Bool} {held : Bool} {t e : TypeId} {n f : Nat} {cs : List Value} {x : DataW H × List MemPlace} (ht : P.underlying t = some (.array n e)) (he : P.underlying e = some (.int .u8)) (hce : P.cellsOf e = 1) (hct : P.cellsOf t = n)
    (hf : DataW.trod enc P w base sp held f t cs = some x) : ∃ l : List UInt8, l.length = n ∧ cs = l.map u8v := by
  obtain ⟨xs, m, _, _, hlen, hxl, hel⟩ := DataW.trod_array ht hf
  have hcl : cs.length = n := by rw [hlen, hct]
  obtain ⟨l, hl⟩ := u8s_of cs fun i u hu => by
    have hi : i < n := by
      have := (List.getElem?_eq_some_iff.1 hu).1
      omega
    have h1 := hel i hi
    rw [hce, Nat.mul_one] at h1
    have hx : xs[i]? = some xs[i] := by simp
    have h2 : (cs.drop i).take 1 = [u] := by
      have h3 := List.getElem?_drop (xs := cs) (i := i) (j := 0)
      rw [Nat.add_zero, hu] at h3
      cases hd : cs.drop i with
      | nil => rw [hd] at h3; simp at h3
      | cons y r => rw [hd] at h3; simp at h3; simp [h3]
    have h4 : DataW.trod enc P w base sp held m e [u] = some xs[i] := by
      rw [← h2, ← hx]; exact h1
    obtain ⟨k, hk, _, hw⟩ := DataW.trod_int he h4
    have hu' : u = .int .u8 k := by simpa using hk
    rw [hu']; exact u8_of hw
  refine ⟨l, ?_, hl⟩
  have := congrArg List.length hl
  rw [hcl, List.length_map] at this; exact this.symm

/-- a slice of rows, its cell read -/
theorem sums_of_trod {base f : Nat} {held : Bool} {t e q : TypeId} {cs : List Value} {x : DataW H × List MemPlace} (ht : P.underlying t = some (.slice e)) (he : P.underlying e = some (.array 32 q)) (hq : P.underlying q = some (.int .u8)) (cq : P.cellsOf q = 1) (ce : P.cellsOf e = 32)
    (hf : DataW.trod enc P w base (fun _ => true) held f t cs = some x) :
    ∃ (a : Option Addr) (n c : Nat) (ls : List (List UInt8)) (es sp : List (DataW H)), cs = [.slice a n c] ∧ ls.length = n ∧ All32 ls ∧ n ≤ c ∧ c ≤ maxLen ∧ (a = none → c = 0) ∧ Cells w a (rows ls) ∧ ((x.1 = .nil ∧ c = 0) ∨ (x.1 = .slice es sp ∧ es.length + sp.length = c)) := by
  rcases DataW.trod_slice ht hf with ⟨h0, h1⟩ | ⟨a, len, cap, elems, rest, n, _, rfl, rfl, hb, hl, hm, hlen, hel, hsp, hns⟩
  · exact ⟨none, 0, 0, [], [], [], h0, rfl, All32.nil, Nat.le_refl _, Nat.zero_le _, fun _ => rfl, .inl rfl, .inl ⟨by rw [h1], rfl⟩⟩
  · have each : ∀ i, i < len → ∃ l : List UInt8, l.length = 32 ∧ CellsAt w (a.add (i * 32)) (l.map u8v) := by
      intro i hi
      have h1 := hel i hi
      have hx : elems[i]? = some (elems[i]'(by omega)) := by simp
      rw [ce, hx, Option.bind_eq_some_iff] at h1
      obtain ⟨cs', hcs, hy⟩ := h1
      obtain ⟨l, hl1, rfl⟩ := octets_of_trod he hq cq ce hy
      exact ⟨l, hl1, (cells?_at hcs).2⟩
    obtain ⟨g, hg⟩ := choose_lt each
    have h32 : All32 ((List.range len).map g) := fun l hl => by
      obtain ⟨i, hi, rfl⟩ := List.mem_map.1 hl
      exact (hg i (List.mem_range.1 hi)).1
    obtain ⟨hrl, _⟩ := hsp rfl
    refine ⟨some a, len, cap, (List.range len).map g, _, _, rfl, by simp, h32, hl, hm, (fun h => by cases h), ?_, .inr ⟨rfl, by simp; omega⟩⟩
    by_cases h0 : len = 0
    · left; subst h0; rfl
    · obtain ⟨hl0, hc0⟩ := hg 0 (by omega)
      obtain ⟨b, off, spot⟩ := a
      have hspot : spot = none := by
        have := hc0 0 (u8v ((g 0)[0]'(by omega))) (by simp [hl0])
        simpa [Addr.add] using World.cell?_spot this
      subst hspot
      refine .inr ⟨b, off, rfl, fun i u hu => ?_⟩
      have hi : i < 32 * len := by
        have := (List.getElem?_eq_some_iff.1 hu).1
        rw [rows_length h32] at this; simpa using this
      obtain ⟨_, hcr⟩ := hg (i / 32) (by omega)
      have hrow : ((List.range len).map g)[i / 32]? = some (g (i / 32)) := by
        rw [List.getElem?_map, List.getElem?_range (by omega)]; rfl
      have h2 := rows_at h32 hrow
      have h3 : ((g (i / 32)).map u8v)[i % 32]? = some u := by
        rw [← h2, List.getElem?_take_of_lt (Nat.mod_lt _ (by omega)), List.getElem?_drop, Nat.div_add_mod]; exact hu
      have h4 := hcr _ _ h3
      rw [addr_add, addr_add] at h4
      rw [show off + i / 32 * 32 + i % 32 = off + i by omega] at h4
      exact h4

/-- a struct of two ints and a slice of rows -/
theorem open_proof {r : Reach} {b0 base : Nat} {held : Bool} {t e q : TypeId} {f0 f1 f2 : Field} {v : Value} {d : DataW H} {ps : List MemPlace} (ht : P.underlying t = some (.struct #[f0, f1, f2])) (h0 : P.underlying f0.type = some (.int .i64)) (h1 : P.underlying f1.type = some (.int .i64))
    (h2 : P.underlying f2.type = some (.slice e)) (he : P.underlying e = some (.array 32 q)) (hq : P.underlying q = some (.int .u8)) (cq : P.cellsOf q = 1) (ce : P.cellsOf e = 32) (c0 : P.cellsOf f0.type = 1) (c1 : P.cellsOf f1.type = 1) (c2 : P.cellsOf f2.type = 1) (ct : P.cellsOf t = 3)
    (o0 : f0.offset = 0) (o1 : f1.offset = 1) (o2 : f2.offset = 2)
    (hval : Value.okWide P w r b0 t v) (hd : DataW.Trod enc P w base (fun _ => true) held t v d ps) :
    ∃ (I Z : Int) (a : Option Addr) (n c : Nat) (ls : List (List UInt8)), v = .agg #[.int .i64 I, .int .i64 Z, .slice a n c] ∧ ls.length = n ∧ All32 ls ∧ n ≤ c ∧ c ≤ maxLen ∧ (a = none → c = 0) ∧ Cells w a (rows ls) ∧
      ∃ (D : DataW H) (es sp : List (DataW H)), d = .agg [.lit (.int .i64 I), .lit (.int .i64 Z), D] ∧ ((D = .nil ∧ c = 0) ∨ (D = .slice es sp ∧ es.length + sp.length = c)) ∧ (Lit.int .i64 I).wf = true ∧ (Lit.int .i64 Z).wf = true := by
  obtain ⟨cs, rfl, hs⟩ := okWide_struct ht hval
  obtain ⟨fuel, hf⟩ := hd
  obtain ⟨y0, y1, y2, m, hx, hl, g0, g1, g2⟩ := trod_struct3 ht hf
  rw [c0, o0] at g0
  rw [c1, o1] at g1
  rw [c2, o2] at g2
  obtain ⟨I, hI, hI2, wI⟩ := DataW.trod_int h0 g0
  obtain ⟨Z, hZ, hZ2, wZ⟩ := DataW.trod_int h1 g1
  obtain ⟨a, n, c, ls, es, sp, hsl, hln, h32, hnc, hcm, hnil, hcl, hdd⟩ := sums_of_trod h2 he hq cq ce g2
  have hcs : cs = #[.int .i64 I, .int .i64 Z, .slice a n c] := by
    have hsz : cs.size = 3 := by rw [hs, ct]
    obtain ⟨l⟩ := cs
    match l, hsz with
    | [p0, p1, p2], _ =>
      simp [Value.cells] at hI hZ hsl
      rw [hI, hZ, hsl]
  refine ⟨I, Z, a, n, c, ls, by rw [hcs], hln, h32, hnc, hcm, hnil, hcl, y2.1, es, sp, ?_, hdd, wI, wZ⟩
  simp only [Prod.mk.injEq] at hx
  rw [hx.1, hI2, hZ2]
end
end

section
open Go Go.RowKit Go.ChangeShapes Go.WideShapes Go.ChangeAt Go.Deep

theorem mem_weightsU {H : Type} {P : Program} {e : TypeId} : ∀ {ds : List (DataW H)} {d : DataW H}, d ∈ ds → ∀ n ∈ d.weights P e, n ∈ DataW.weightsAll P e ds
  | d0 :: ds, d, hd, n, hn => by
    rw [DataW.weightsAll, List.mem_append]
    rcases List.mem_cons.1 hd with rfl | hd
    · exact .inl hn
    · exact .inr (mem_weightsU hd n hn)
  | [], _, hd, _, _ => by simp at hd
theorem reach_is : reachBytes = 140737488351232 := by decide

section
variable {H : Type} {enc : TypeId × Value → H} {P : Program} {w : World}
theorem strs_of_trod {base f : Nat} {held : Bool} {t e : TypeId} {cs : List Value} {x : DataW H × List MemPlace} (ht : P.underlying t = some (.slice e)) (he : P.underlying e = some .string) (hc : P.cellsOf e = 1) (hb : P.bytesOf e = 16)
    (hf : DataW.trod enc P w base (fun _ => true) held f t cs = some x) (hw : ∀ n ∈ x.1.weights P t, n ≤ reachBytes) :
    ∃ (a : Option Addr) (n c : Nat) (ls : List ByteArray), cs = [.slice a n c] ∧ ls.length = n ∧ n ≤ c ∧ c ≤ 140737488355328 ∧ Cells w a (ls.map encStr) ∧ ∀ s ∈ ls, s.size ≤ 140737488355328 := by
  rcases open_strs ht he hc hf with ⟨rfl, rfl⟩ | ⟨a, len, m0, m, Sx, rfl, hba, hl, hm, rfl, rfl, hcell⟩
  · exact ⟨none, 0, 0, [], rfl, rfl, Nat.le_refl _, Nat.zero_le _, .inl rfl, by simp⟩
  · simp only [if_true] at hcell hw
    have hm : m ≤ 140737488355328 := by
      have := hw ((len + (m - len)) * P.bytesOf e) (by simp [DataW.weights, ht])
      rw [hb, reach_is] at this
      omega
    refine ⟨some a, len, m, (List.range len).map Sx, rfl, by simp, hl, hm, ?_, ?_⟩
    · by_cases h0 : len = 0
      · left; subst h0; rfl
      · obtain ⟨b, off, spot⟩ := a
        have hspot : spot = none := by
          have := World.cell?_spot (hcell 0 (by omega)).1
          simpa [Addr.add] using this
        subst hspot
        refine .inr ⟨b, off, rfl, fun i u hu => ?_⟩
        have hi : i < len := by
          have := (List.getElem?_eq_some_iff.1 hu).1
          simpa using this
        rw [List.getElem?_map, List.getElem?_map, List.getElem?_range hi] at hu
        have h1 := (hcell i (by omega)).1
        rw [addr_add] at h1
        rw [h1]
        exact hu
    · intro s hs
      obtain ⟨i, hi, rfl⟩ := List.mem_map.1 hs
      have hmem : (DataW.lit (.string (Sx i).data.toList) : DataW H) ∈ (List.range len).map fun i => DataW.lit (.string (Sx i).data.toList) := List.mem_map.2 ⟨i, hi, rfl⟩
      have h3 : (Sx i).data.toList.length ∈ (DataW.lit (.string (Sx i).data.toList) : DataW H).weights P e := by simp [DataW.weights]
      have h4 := hw _ (by
        simp only [DataW.weights, ht, List.mem_cons, List.mem_append]
        exact .inr (.inl (mem_weightsU hmem _ h3)))
      rw [Array.length_toList, reach_is] at h4
      have : (Sx i).size = (Sx i).data.size := rfl
      omega
end

theorem weights_part {H : Type} {P : Program} {t : TypeId} {fs : Array Field} {xs : List (DataW H × List MemPlace)} (ht : P.underlying t = some (.struct fs)) {B : Nat} (hw : ∀ n ∈ (DataW.agg (xs.map (·.1))).weights P t, n ≤ B) {i : Nat} {f : Field} {x : DataW H × List MemPlace} (hf : fs.toList[i]? = some f) (hx : xs[i]? = some x) : ∀ n ∈ x.1.weights P f.type, n ≤ B := by
  intro n hn
  refine hw n ?_
  simp only [DataW.weights, ht]
  exact DataW.weights_mem_each (ts := fs.toList.map (·.type)) (j := i) (by rw [List.getElem?_map, hf]; rfl) (by rw [List.getElem?_map, hx]; rfl) n hn
end

section
open Go Go.RowKit Go.ChangeShapes Go.WideShapes Go.ChangeAt Go.Deep

section
variable {H : Type} {enc : TypeId × Value → H} {P : Program} {w : World}
theorem ints_of_trod {base f : Nat} {held : Bool} {t e : TypeId} {cs : List Value} {x : DataW H × List MemPlace} (ht : P.underlying t = some (.slice e)) (he : P.underlying e = some (.int .i64)) (hc : P.cellsOf e = 1) (hb : P.bytesOf e = 8)
    (hf : DataW.trod enc P w base (fun _ => true) held f t cs = some x) (hw : ∀ n ∈ x.1.weights P t, n ≤ reachBytes) :
    ∃ (a : Option Addr) (n c : Nat) (ls : List Int), cs = [.slice a n c] ∧ ls.length = n ∧ n ≤ c ∧ c ≤ 140737488355328 ∧ Cells w a (ls.map encI) ∧ ∀ z ∈ ls, (Lit.int .i64 z).wf = true := by
  rcases open_ints ht he hc hf with ⟨rfl, rfl⟩ | ⟨a, len, cap, zs, rfl, hba, hl, hm, hzl, rfl, hcell, hwf⟩
  · exact ⟨none, 0, 0, [], rfl, rfl, Nat.le_refl _, Nat.zero_le _, .inl rfl, by simp⟩
  · simp only [if_true] at hzl
    have hcap : cap ≤ 140737488355328 := by
      have := hw ((lits (H := H) .i64 (zs.take len)).length * P.bytesOf e + (lits (H := H) .i64 (zs.drop len)).length * P.bytesOf e) (by simp [DataW.weights, ht, Nat.add_mul])
      rw [hb, reach_is] at this
      simp [lits] at this
      omega
    refine ⟨some a, len, cap, zs.take len, rfl, by simp; omega, hl, hcap, ?_, fun z hz => hwf z (List.mem_of_mem_take hz)⟩
    by_cases h0 : len = 0
    · left; subst h0; simp
    · obtain ⟨b, off, spot⟩ := a
      have hspot : spot = none := by
        have := World.cell?_spot (hcell 0 (by omega))
        simpa [Addr.add] using this
      subst hspot
      refine .inr ⟨b, off, rfl, fun i u hu => ?_⟩
      have hi : i < len := by
        have := (List.getElem?_eq_some_iff.1 hu).1
        simp at this; omega
      have h1 := hcell i (by omega)
      rw [addr_add] at h1
      rw [h1]
      rw [List.getElem?_map, List.getElem?_take_of_lt hi] at hu
      rw [List.getD_eq_getElem?_getD]
      cases hz : zs[i]? with
      | none => rw [hz] at hu; simp at hu
      | some z => rw [hz] at hu; simpa [encI] using hu
end

section
variable {H : Type} {enc : TypeId × Value → H} {w : World}
set_option maxRecDepth 100000 in
theorem rule_of_trod {base f : Nat} {held : Bool} {cs : List Value} {x : DataW H × List MemPlace} (hf : DataW.trod enc Tryz.prog w base (fun _ => true) held f 51 cs = some x) (hw : ∀ n ∈ x.1.weights Tryz.prog 51, n ≤ reachBytes) :
    ∃ r : RuleR, cs = r.v ∧ r.Ok w := by
  have ht := Tryz.underlying51
  obtain ⟨xs, m, _, rfl, hl, hlen, hfs⟩ := DataW.trod_struct ht hf
  have ct : Tryz.prog.cellsOf 51 = 8 := by kernel_rfl
  have c4 : Tryz.prog.cellsOf 4 = 1 := by kernel_rfl
  have c39 : Tryz.prog.cellsOf 42 = 1 := by kernel_rfl
  have c48 : Tryz.prog.cellsOf 49 = 1 := by kernel_rfl
  have c3 : Tryz.prog.cellsOf 3 = 1 := by kernel_rfl
  have c9 : Tryz.prog.cellsOf 9 = 1 := by kernel_rfl
  rw [ct] at hl
  match xs, hlen, cs, hl with
  | [y0, y1, y2, y3, y4, y5, y6, y7], _, [v0, v1, v2, v3, v4, v5, v6, v7], _ =>
  have g0 : DataW.trod enc Tryz.prog w base (fun _ => true) held m 4 [v0] = some y0 := by have := hfs 0 _ rfl; simpa [c4] using this
  have g1 : DataW.trod enc Tryz.prog w base (fun _ => true) held m 42 [v1] = some y1 := by have := hfs 1 _ rfl; simpa [c39] using this
  have g2 : DataW.trod enc Tryz.prog w base (fun _ => true) held m 49 [v2] = some y2 := by have := hfs 2 _ rfl; simpa [c48] using this
  have g3 : DataW.trod enc Tryz.prog w base (fun _ => true) held m 42 [v3] = some y3 := by have := hfs 3 _ rfl; simpa [c39] using this
  have g4 : DataW.trod enc Tryz.prog w base (fun _ => true) held m 3 [v4] = some y4 := by have := hfs 4 _ rfl; simpa [c3] using this
  have g5 : DataW.trod enc Tryz.prog w base (fun _ => true) held m 3 [v5] = some y5 := by have := hfs 5 _ rfl; simpa [c3] using this
  have g6 : DataW.trod enc Tryz.prog w base (fun _ => true) held m 3 [v6] = some y6 := by have := hfs 6 _ rfl; simpa [c3] using this
  have g7 : DataW.trod enc Tryz.prog w base (fun _ => true) held m 9 [v7] = some y7 := by have := hfs 7 _ rfl; simpa [c9] using this
  have w1 := weights_part ht hw (i := 1) rfl rfl
  have w2 := weights_part ht hw (i := 2) rfl rfl
  have w3 := weights_part ht hw (i := 3) rfl rfl
  have w7 := weights_part ht hw (i := 7) rfl rfl
  obtain ⟨b, h0, _⟩ := DataW.trod_bool Tryz.underlying4 g0
  obtain ⟨a1, n1, c1, l1, h1, p1, p2, p3, p4, p5⟩ := strs_of_trod Tryz.underlying42 Tryz.underlying9 c9 (by kernel_rfl) g1 w1
  obtain ⟨a2, n2, c2, l2, h2, q1, q2, q3, q4, q5⟩ := ints_of_trod Tryz.underlying49 Tryz.underlying3 c3 (by kernel_rfl) g2 w2
  obtain ⟨a3, n3, c3', l3, h3, r1, r2, r3, r4, r5⟩ := strs_of_trod Tryz.underlying42 Tryz.underlying9 c9 (by kernel_rfl) g3 w3
  obtain ⟨z4, h4, _, _⟩ := DataW.trod_int Tryz.underlying3 g4
  obtain ⟨z5, h5, _, _⟩ := DataW.trod_int Tryz.underlying3 g5
  obtain ⟨z6, h6, _, _⟩ := DataW.trod_int Tryz.underlying3 g6
  obtain ⟨s7, h7, hx7, _⟩ := DataW.trod_string Tryz.underlying9 g7
  have hs7 : s7.size ≤ 140737488355328 := by
    have := w7 s7.data.toList.length (by rw [hx7]; simp [DataW.weights])
    rw [Array.length_toList, reach_is] at this
    have e : s7.size = s7.data.size := rfl
    omega
  refine ⟨⟨b, a1, n1, c1, l1, a2, n2, c2, l2, a3, n3, c3', l3, z4, z5, z6, s7⟩, ?_, ⟨p1, p2, Nat.le_trans p2 p3, p4, p5, q1, q2, Nat.le_trans q2 q3, q4, q5, r1, r2, Nat.le_trans r2 r3, r4, r5, hs7⟩⟩
  unfold RuleR.v
  simp only [List.cons.injEq, and_true] at h0 h1 h2 h3 h4 h5 h6 h7
  rw [h0, h1, h2, h3, h4, h5, h6, h7]
end
end

section
open Go Go.RowKit Go.ChangeShapes Go.WideShapes Go.ChangeAt Go.Deep

section
variable {H : Type} {enc : TypeId × Value → H} {w : World}
set_option maxRecDepth 100000 in
theorem open_rule {r : Reach} {b0 base : Nat} {held : Bool} {v : Value} {d : DataW H} {ps : List MemPlace} {ts : List TypeId} {ds : List (DataW H)} {j : Nat} (hsz : (DataW.weightsEach Tryz.prog ts ds).all (· ≤ reachBytes) = true)
    (hval : Value.okWide Tryz.prog w r b0 51 v) (hd : DataW.Trod enc Tryz.prog w base (fun _ => true) held 51 v d ps) (htj : ts[j]? = some 51) (hdj : ds[j]? = some d) : ∃ q : RuleR, v = .agg q.v.toArray ∧ q.Ok w := by
  have hw := fun n hn => of_decide_eq_true (List.all_eq_true.1 hsz n (DataW.weights_mem_each htj hdj n hn))
  obtain ⟨cs, rfl, hs⟩ := okWide_struct Tryz.underlying51 hval
  obtain ⟨fuel, hf⟩ := hd
  obtain ⟨q, hq, hok⟩ := rule_of_trod hf hw
  exact ⟨q, by rw [← hq]; rfl, hok⟩
end
end

section
open Go Go.RowKit

structure DecR where
  al : Bool
  ru : Int
  nd : Int
  ow : ByteArray
def DecR.v (d : DecR) : List Value := [.bool d.al, .int .i64 d.ru, .int .i64 d.nd, .string d.ow]
theorem DecR.len (d : DecR) : d.v.length = 4 := rfl
theorem decV_one (d : DecR) : ∀ v ∈ d.v, v.oneCell' = true := by
  intro v hv
  unfold DecR.v at hv
  simp at hv
  rcases hv with rfl | rfl | rfl | rfl <;> rfl
def zeroDec : DecR := ⟨false, 0, 0, ⟨#[]⟩⟩
def noneDec : DecR := ⟨false, -1, 0, ⟨#[]⟩⟩
def denyDec (i : Nat) : DecR := ⟨false, i, 0, ⟨#[]⟩⟩
def bestDec : Option (Nat × RuleR) → DecR
  | none => noneDec
  | some (b, r) => ⟨true, b, r.nd, r.ow⟩
def betterB (r : RuleR) : Option (Nat × RuleR) → Bool
  | none => true
  | some (_, q) => decide (r.nd < q.nd)
noncomputable def decF (a : AskR) : List RuleR → Nat → Option (Nat × RuleR) → DecR
  | [], _, best => bestDec best
  | r :: rs, i, best => if meetsB r a then (if r.deny then denyDec i else decF a rs (i + 1) (if betterB r best then some (i, r) else best)) else decF a rs (i + 1) best

theorem drop_at {rs : List RuleR} {k : Nat} {r : RuleR} (h : rs[k]? = some r) : rs.drop k = r :: rs.drop (k + 1) := by
  obtain ⟨hk, rfl⟩ := List.getElem?_eq_some_iff.1 h
  exact List.drop_eq_getElem_cons hk
theorem decF_no {a : AskR} {rs : List RuleR} {k : Nat} {r : RuleR} {best : Option (Nat × RuleR)} (h : rs[k]? = some r) (hm : meetsB r a = false) : decF a (rs.drop k) k best = decF a (rs.drop (k + 1)) (k + 1) best := by
  rw [drop_at h]; conv => lhs; unfold decF
  rw [hm]; simp
theorem decF_deny {a : AskR} {rs : List RuleR} {k : Nat} {r : RuleR} {best : Option (Nat × RuleR)} (h : rs[k]? = some r) (hm : meetsB r a = true) (hd : r.deny = true) : decF a (rs.drop k) k best = denyDec k := by
  rw [drop_at h]; unfold decF
  rw [hm, hd]; simp
theorem decF_yes {a : AskR} {rs : List RuleR} {k : Nat} {r : RuleR} {best : Option (Nat × RuleR)} (h : rs[k]? = some r) (hm : meetsB r a = true) (hd : r.deny = false) : decF a (rs.drop k) k best = decF a (rs.drop (k + 1)) (k + 1) (if betterB r best then some (k, r) else best) := by
  rw [drop_at h]; conv => lhs; unfold decF
  rw [hm, hd]; simp
theorem decF_end {a : AskR} {rs : List RuleR} {k : Nat} {best : Option (Nat × RuleR)} (h : rs.length ≤ k) : decF a (rs.drop k) k best = bestDec best := by
  rw [List.drop_of_length_le h]; rfl
/-- a refusal that is met is the answer, whatever was best before -/
theorem decF_first {a : AskR} : ∀ (rs : List RuleR) (i k : Nat) (r : RuleR) (best : Option (Nat × RuleR)), rs[k]? = some r → (∀ x ∈ rs.take k, ¬ (meetsB x a = true ∧ x.deny = true)) → meetsB r a = true → r.deny = true → decF a rs i best = denyDec (i + k)
  | [], i, k, r, best, h, _, _, _ => by simp at h
  | x :: rs, i, 0, r, best, h, _, hm, hd => by
    simp only [List.getElem?_cons_zero, Option.some.injEq] at h
    subst h
    unfold decF
    rw [hm, hd]; simp
  | x :: rs, i, k + 1, r, best, h, hp, hm, hd => by
    rw [List.getElem?_cons_succ] at h
    have hx := hp x (by simp)
    have hrest : ∀ y ∈ rs.take k, ¬ (meetsB y a = true ∧ y.deny = true) := fun y hy => hp y (by rw [List.take_succ_cons]; exact List.mem_cons_of_mem _ hy)
    unfold decF
    cases hmx : meetsB x a with
    | false =>
      simp only [Bool.false_eq_true, if_false]
      rw [decF_first rs (i + 1) k r best h hrest hm hd]; congr 1; omega
    | true =>
      cases hdx : x.deny with
      | true => exact absurd ⟨hmx, hdx⟩ hx
      | false =>
        simp only [Bool.false_eq_true, if_false, if_true]
        rw [decF_first rs (i + 1) k r _ h hrest hm hd]; congr 1; omega
noncomputable def decideD (a : AskR) (rs : List RuleR) : DecR := decF a rs 0 none
end

section
open Go Go.RowKit

theorem field_at {w : World} {p : Addr} {xs : List Value} {j : Nat} {v : Value} (h : CellsAt w p xs) (hv : xs[j]? = some v) : w.cell? ⟨p.block, p.off + j, none⟩ = some v := by
  have h2 := h j v hv
  obtain ⟨b, o, s⟩ := p
  cases s with
  | none => rw [addr_add] at h2; exact h2
  | some s =>
    exfalso
    have hj := (List.getElem?_eq_some_iff.1 hv).1
    have h0 := h 0 (xs[0]'(by omega)) (by simp)
    have h3 := World.cell?_spot h0
    simp [Addr.add] at h3
def bestI : Option (Nat × RuleR) → Int
  | none => -1
  | some (b, _) => b
end

section
open Go Go.RowKit

theorem askE_time {a : AskR} (h : askE a = 0) : ∃ T : Nat, a.time = (T : Int) ∧ T ≤ 1099511627776 := by
  have h6 : j6 a = false := by
    cases hj : j6 a with
    | false => rfl
    | true =>
      exfalso
      unfold askE at h
      rw [hj] at h
      repeat' split at h
      all_goals (first | (revert h; decide) | contradiction)
  unfold j6 at h6
  simp only [Bool.or_eq_false_iff, decide_eq_false_iff_not] at h6
  obtain ⟨T, hT⟩ := Int.eq_ofNat_of_zero_le (show 0 ≤ a.time by omega)
  exact ⟨T, hT, by omega⟩
theorem ruleE_parts {r : RuleR} (h : ruleE r = 0) : k4 r = false ∧ k6 r = false := by
  constructor
  · cases hk : k4 r with
    | false => rfl
    | true =>
      exfalso
      unfold ruleE at h
      rw [hk] at h
      repeat' split at h
      all_goals (first | (revert h; decide) | contradiction)
  · cases hk : k6 r with
    | false => rfl
    | true =>
      exfalso
      unfold ruleE at h
      rw [hk] at h
      repeat' split at h
      all_goals (first | (revert h; decide) | contradiction)
theorem ruleE_labels {r : RuleR} (h : ruleE r = 0) : ∀ s ∈ r.labels, patL s.data.toList = true := by
  have h4 := (ruleE_parts h).1
  unfold k4 at h4
  rw [List.any_eq_false] at h4
  intro s hs
  have := h4 s hs
  unfold badP at this
  simpa using this
theorem ruleE_hours {r : RuleR} (h : ruleE r = 0) : r.fr = r.tt → r.fr = 0 := by
  have h6 := (ruleE_parts h).2
  unfold k6 at h6
  simp only [Bool.or_eq_false_iff, Bool.and_eq_false_iff, decide_eq_false_iff_not] at h6
  intro he
  rcases h6.1.2 with h | h
  · exact absurd he h
  · exact Decidable.not_not.1 h

noncomputable def pMeetsV (r : RuleR) (a : AskR) : Value := if ruleE r = 0 then (if askE a = 0 then .tuple #[.bool (meetsB r a), .int .i64 0] else .tuple #[.bool false, .int .i64 (askE a)]) else .tuple #[.bool false, .int .i64 (ruleE r)]

noncomputable def pDecD (rs : List RuleR) (pn : Nat) (a : AskR) : DecR := if polE rs pn = 0 then (if askE a = 0 then decideD a rs else zeroDec) else zeroDec
noncomputable def pDecE (rs : List RuleR) (pn : Nat) (a : AskR) : Int := if polE rs pn = 0 then askE a else polE rs pn
end

section
open Go Go.RowKit Go.Maps Go.MapKept Go.WideShapes

structure ApprR where
  member : List UInt8
  sa : Option Addr
  sn : Nat
  sc : Nat
  roles : List ByteArray
def ApprR.v (x : ApprR) : List Value := x.member.map u8v ++ [.slice x.sa x.sn x.sc]
structure ApprR.Ok (w : World) (x : ApprR) : Prop where
  hm : x.member.length = 16
  sl : x.roles.length = x.sn
  snc : x.sn ≤ x.sc
  sm : x.sc ≤ 140737488355328
  scell : Cells w x.sa (x.roles.map encStr)
  ss : ∀ s ∈ x.roles, s.size ≤ 140737488355328
theorem ApprR.Ok.ext {w w' : World} {x : ApprR} (h : x.Ok w) (e : Ext w w') : x.Ok w' := ⟨h.hm, h.sl, h.snc, h.sm, h.scell.ext e, h.ss⟩
theorem ApprR.len {w : World} {x : ApprR} (h : x.Ok w) : x.v.length = 17 := by unfold ApprR.v; simp [h.hm]
theorem ApprR.at16 {w : World} {x : ApprR} (h : x.Ok w) : x.v[16]? = some (.slice x.sa x.sn x.sc) := by
  unfold ApprR.v; rw [List.getElem?_append_right (by simp [h.hm])]; simp [h.hm]
theorem ApprR.part0 {w : World} {x : ApprR} (h : x.Ok w) : (x.v.drop 0).take 16 = x.member.map u8v := by
  unfold ApprR.v; rw [List.drop_zero, List.take_left' (by simp [h.hm])]
theorem ApprR.one (x : ApprR) : ∀ v ∈ x.v, v.oneCell' = true := by
  intro v hv
  unfold ApprR.v at hv
  rcases List.mem_append.1 hv with h | h
  · exact one_u8 x.member v h
  · simp at h; rw [h]; rfl
def apprsV (ls : List ApprR) : List Value := ls.flatMap ApprR.v
structure ApprsOk (w : World) (a : Option Addr) (n c : Nat) (ls : List ApprR) : Prop where
  hl : ls.length = n
  hnc : n ≤ c
  hm : c ≤ 140737488355328
  cell : Cells w a (apprsV ls)
  ok : ∀ x ∈ ls, x.Ok w
theorem ApprsOk.ext {w w' : World} {a : Option Addr} {n c : Nat} {ls : List ApprR} (h : ApprsOk w a n c ls) (e : Ext w w') : ApprsOk w' a n c ls := ⟨h.hl, h.hnc, h.hm, h.cell.ext e, fun x hx => (h.ok x hx).ext e⟩
theorem apprsV_length {w : World} {ls : List ApprR} (h : ∀ x ∈ ls, x.Ok w) : (apprsV ls).length = 17 * ls.length := by
  induction ls with
  | nil => rfl
  | cons x ls ih =>
    unfold apprsV at ih ⊢
    rw [List.flatMap_cons, List.length_append, ih (fun y hy => h y (List.mem_cons_of_mem _ hy)), ApprR.len (h x (by simp)), List.length_cons]; omega
theorem apprsV_at {w : World} {ls : List ApprR} (hok : ∀ x ∈ ls, x.Ok w) {k : Nat} {x : ApprR} (h : ls[k]? = some x) : ((apprsV ls).drop (k * 17)).take 17 = x.v := by
  induction ls generalizing k with
  | nil => simp at h
  | cons y ls ih =>
    unfold apprsV at ih ⊢
    rw [List.flatMap_cons]
    have hy := ApprR.len (hok y (by simp))
    cases k with
    | zero =>
      simp only [List.getElem?_cons_zero, Option.some.injEq] at h
      subst h
      rw [Nat.zero_mul, List.drop_zero, List.take_append_of_le_length (by rw [hy]; exact Nat.le_refl _), List.take_of_length_le (by rw [hy]; exact Nat.le_refl _)]
    | succ k =>
      rw [List.getElem?_cons_succ] at h
      rw [List.drop_append, hy, List.drop_of_length_le (by rw [hy]; omega), List.nil_append, show (k + 1) * 17 - 17 = k * 17 by omega]
      exact ih (fun z hz => hok z (List.mem_cons_of_mem _ hz)) h
theorem ApprsOk.at {w : World} {a : Option Addr} {n c : Nat} {ls : List ApprR} (h : ApprsOk w a n c ls) {k : Nat} {x : ApprR} (hk : ls[k]? = some x) : ∃ A, a = some A ∧ CellsAt w (A.add (k * 17)) x.v := by
  have hk2 := (List.getElem?_eq_some_iff.1 hk).1
  obtain ⟨b, o, rfl, hc⟩ := h.cell.some_of (by rw [apprsV_length h.ok]; omega)
  refine ⟨_, rfl, fun j u hu => ?_⟩
  rw [addr_add, addr_add, Nat.add_assoc]
  refine hc _ _ ?_
  rw [← apprsV_at h.ok hk] at hu
  have hj : j < 17 := by
    have := (List.getElem?_eq_some_iff.1 hu).1
    rw [List.length_take] at this; omega
  rw [List.getElem?_take_of_lt hj, List.getElem?_drop] at hu
  exact hu

/-- what is found in a list of roles, from the place k on -/
def scanF : Option ByteArray → List ByteArray → Int
  | _, [] => 0
  | none, s :: r => if badS s then 6 else scanF (some s) r
  | some p, s :: r => if badS s then 6 else if lessS p s then scanF (some s) r else 9
def prevS (ls : List ByteArray) : Nat → Option ByteArray
  | 0 => none
  | k + 1 => ls[k]?
def scanAt (ls : List ByteArray) (k : Nat) : Int := scanF (prevS ls k) (ls.drop k)
theorem drop_atS {ls : List ByteArray} {k : Nat} {s : ByteArray} (h : ls[k]? = some s) : ls.drop k = s :: ls.drop (k + 1) := by
  obtain ⟨hk, rfl⟩ := List.getElem?_eq_some_iff.1 h
  exact List.drop_eq_getElem_cons hk
theorem scanAt_bad {ls : List ByteArray} {k : Nat} {s : ByteArray} (h : ls[k]? = some s) (hb : badS s = true) : scanAt ls k = 6 := by
  unfold scanAt; rw [drop_atS h]
  cases prevS ls k <;> (unfold scanF; rw [if_pos hb])
theorem scanAt_zero {ls : List ByteArray} {s : ByteArray} (h : ls[0]? = some s) (hb : badS s = false) : scanAt ls 0 = scanAt ls 1 := by
  unfold scanAt; rw [drop_atS h]
  show scanF none (s :: ls.drop 1) = scanF (ls[0]?) (ls.drop 1)
  rw [h]; conv => lhs; unfold scanF
  rw [hb]; simp
theorem scanAt_step {ls : List ByteArray} {k : Nat} {p s : ByteArray} (hp : ls[k]? = some p) (h : ls[k + 1]? = some s) (hb : badS s = false) : (lessS p s = true → scanAt ls (k + 1) = scanAt ls (k + 2)) ∧ (lessS p s = false → scanAt ls (k + 1) = 9) := by
  have e : scanAt ls (k + 1) = scanF (some p) (s :: ls.drop (k + 2)) := by
    unfold scanAt; rw [drop_atS h]; show scanF (ls[k]?) _ = _; rw [hp]
  have e2 : scanAt ls (k + 2) = scanF (some s) (ls.drop (k + 2)) := by
    unfold scanAt; show scanF (ls[k + 1]?) _ = _; rw [h]
  constructor
  · intro hl
    rw [e, e2]; conv => lhs; unfold scanF
    rw [hb, hl]; simp
  · intro hl
    rw [e]; unfold scanF
    rw [hb, hl]; simp
theorem scanAt_end {ls : List ByteArray} {k : Nat} (h : ls.length ≤ k) : scanAt ls k = 0 := by
  unfold scanAt; rw [List.drop_of_length_le h]
  cases prevS ls k <;> rfl
def apprsE : List ApprR → Int
  | [] => 0
  | x :: r => if scanAt x.roles 0 = 0 then apprsE r else scanAt x.roles 0
theorem drop_atA {ls : List ApprR} {k : Nat} {x : ApprR} (h : ls[k]? = some x) : ls.drop k = x :: ls.drop (k + 1) := by
  obtain ⟨hk, rfl⟩ := List.getElem?_eq_some_iff.1 h
  exact List.drop_eq_getElem_cons hk
theorem apprsE_ok {ls : List ApprR} {k : Nat} {x : ApprR} (h : ls[k]? = some x) (h0 : scanAt x.roles 0 = 0) : apprsE (ls.drop k) = apprsE (ls.drop (k + 1)) := by
  rw [drop_atA h]; conv => lhs; unfold apprsE
  rw [if_pos h0]
theorem apprsE_bad {ls : List ApprR} {k : Nat} {x : ApprR} (h : ls[k]? = some x) (h0 : scanAt x.roles 0 ≠ 0) : apprsE (ls.drop k) = scanAt x.roles 0 := by
  rw [drop_atA h]; conv => lhs; unfold apprsE
  rw [if_neg h0]

noncomputable def addK (ks : List Value) (key : Value) : List Value := @ite _ (key ∈ ks) (Classical.propDecidable _) ks (ks ++ [key])
theorem addK_of {ks ks' : List Value} {key : Value} (h : (key ∈ ks ∧ ks' = ks) ∨ (key ∉ ks ∧ ks' = ks ++ [key])) : ks' = addK ks key := by
  unfold addK
  rcases h with ⟨h1, h2⟩ | ⟨h1, h2⟩
  · rw [if_pos h1]; exact h2
  · rw [if_neg h1]; exact h2
def idV (x : ApprR) : Value := .agg (x.member.map u8v).toArray
noncomputable def whoStep (ow : ByteArray) (ks : List Value) (x : ApprR) : List Value := if memT x.roles ow then addK ks (idV x) else ks
noncomputable def whoF (ow : ByteArray) (ls : List ApprR) (ks : List Value) : List Value := ls.foldl (whoStep ow) ks
theorem whoF_at {ow : ByteArray} {ls : List ApprR} {k : Nat} {x : ApprR} {ks : List Value} (h : ls[k]? = some x) : whoF ow (ls.drop k) ks = whoF ow (ls.drop (k + 1)) (whoStep ow ks x) := by
  rw [drop_atA h]; rfl
theorem whoF_end {ow : ByteArray} {ls : List ApprR} {k : Nat} {ks : List Value} (h : ls.length ≤ k) : whoF ow (ls.drop k) ks = ks := by
  rw [List.drop_of_length_le h]; rfl

theorem mapM_someU {α β : Type} (g : α → Option β) : ∀ (l : List α), (∀ i ∈ l, ∃ y, g i = some y) → ∃ ys, l.mapM g = some ys
  | [], _ => ⟨[], rfl⟩
  | a :: l, h => by
    obtain ⟨y, hy⟩ := h a (by simp)
    obtain ⟨ys, hys⟩ := mapM_someU g l (fun i hi => h i (List.mem_cons_of_mem _ hi))
    exact ⟨y :: ys, by rw [List.mapM_cons, hy, hys]; rfl⟩
theorem addK_mem {ks : List Value} {key v : Value} (h : v ∈ addK ks key) : v ∈ ks ∨ v = key := by
  unfold addK at h
  split at h
  · exact .inl h
  · rcases List.mem_append.1 h with h | h
    · exact .inl h
    · simp at h; exact .inr h
end
end Go.Proofs.YthfddfgncolnbaaGreatDoor
