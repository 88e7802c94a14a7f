/- Contracts and laws that the claim's row leans on (20 texts, joined): Plain values: octets and words as values of the model; no condition. Blocks of memory that are known whole; no condition. Maps from keys to 'true' as sets: a look-up, a store, the length; condition: the keys can be read. Names: what IsName asks; IDs as rows of 16; no condition. Moves for regions whose order is drawn: operations that go one by one beside a variable that the region makes at whatever time; no condition. Rules for walking regions whose order is drawn, with a class of worlds and a forced tail; no condition. Contracts of the small functions under Stir: rotation and turn; conditions: the ranges of the counters. Contracts of word, octets, longOctets; no condition. Contracts of wordsOf, stateOf, and of the references' words and octets; condition: the array's length. Stir and Unstir, and the references' ones: what they compute; condition: the array's length. The reference's Stir: what it computes; condition: the array's length. The Summer's block; conditions: the lengths, and where the octets lie. Steps on slices and copies; no condition. Slices whose elements are rows of 32 octets: their cells, steps on them; conditions: the rows' lengths. The order of strings, and rows of strings in memory; no condition. slices.Index, Contains, IndexFunc and ContainsFunc at []string; condition: the length. slices.Index, Contains, IndexFunc and ContainsFunc at []int; condition: the length. Whether something occurs twice in a list, at []string, in both packages; conditions: the length, and that the values can be keys. Whether something occurs twice in a list, at []int, in both packages; conditions: the length, and that the values can be keys. IsName: what it computes; no condition. -/
import Derived.WalkKit
import Derived.Deep.Draws
import Derived.Deep.Quiet
import Derived.Deep.RegionLaw
import Derived.Maps.Keyed
import Derived.Test.YthfddfgncolnbaaGreatDoorProg
import Derived.OrdersHeld
import Derived.Deep.RegionHeld3
import Derived.Deep.QuietTactic
import Derived.WalkSpells
import Derived.WalkLawsBesides
import Derived.Laws.AppendOwn
import Derived.Laws.StructEq
import Derived.Deep.DeepCutAuto
namespace Go.Proofs.YthfddfgncolnbaaGreatDoor
section
open Go

def u8v (x : UInt8) : Value := .int .u8 (x.toNat : Int)
def u32v (x : UInt32) : Value := .int .u32 (x.toNat : Int)

theorem u8_lt (x : UInt8) : (x.toNat : Int) < 256 := by have := x.toNat_lt; omega
theorem u32_lt (x : UInt32) : (x.toNat : Int) < 4294967296 := by have := x.toNat_lt; omega

theorem bits_u32 (a b : Nat) (ha : a < 4294967296) (hb : b < 4294967296) :
    bits .xor .u32 a b = ((a ^^^ b : Nat) : Int) ∧ bits .or .u32 a b = ((a ||| b : Nat) : Int) ∧ bits .and .u32 a b = ((a &&& b : Nat) : Int) := by
  have h1 : a ^^^ b < 2 ^ 32 := Nat.xor_lt_two_pow (by omega) (by omega)
  have h2 : a ||| b < 2 ^ 32 := Nat.or_lt_two_pow (by omega) (by omega)
  have h3 : a &&& b < 2 ^ 32 := Nat.and_lt_two_pow _ (by omega)
  have ea : (BitVec.ofInt 32 (a : Int)).toNat = a := by simp; omega
  have eb : (BitVec.ofInt 32 (b : Int)).toNat = b := by simp; omega
  refine ⟨?_, ?_, ?_⟩
  · change IntKind.u32.wrap ((BitVec.ofInt 32 (a : Int) ^^^ BitVec.ofInt 32 (b : Int)).toNat : Int) = _
    rw [BitVec.toNat_xor, ea, eb, IntKind.wrap_u32']; omega
  · change IntKind.u32.wrap ((BitVec.ofInt 32 (a : Int) ||| BitVec.ofInt 32 (b : Int)).toNat : Int) = _
    rw [BitVec.toNat_or, ea, eb, IntKind.wrap_u32']; omega
  · change IntKind.u32.wrap ((BitVec.ofInt 32 (a : Int) &&& BitVec.ofInt 32 (b : Int)).toNat : Int) = _
    rw [BitVec.toNat_and, ea, eb, IntKind.wrap_u32']; omega

theorem bits_u8 (a b : Nat) (ha : a < 256) (hb : b < 256) :
    bits .xor .u8 a b = ((a ^^^ b : Nat) : Int) ∧ bits .or .u8 a b = ((a ||| b : Nat) : Int) ∧ bits .and .u8 a b = ((a &&& b : Nat) : Int) := by
  have h1 : a ^^^ b < 2 ^ 8 := Nat.xor_lt_two_pow (by omega) (by omega)
  have h2 : a ||| b < 2 ^ 8 := Nat.or_lt_two_pow (by omega) (by omega)
  have h3 : a &&& b < 2 ^ 8 := Nat.and_lt_two_pow _ (by omega)
  have ea : (BitVec.ofInt 8 (a : Int)).toNat = a := by simp; omega
  have eb : (BitVec.ofInt 8 (b : Int)).toNat = b := by simp; omega
  refine ⟨?_, ?_, ?_⟩
  · change IntKind.u8.wrap ((BitVec.ofInt 8 (a : Int) ^^^ BitVec.ofInt 8 (b : Int)).toNat : Int) = _
    rw [BitVec.toNat_xor, ea, eb, IntKind.wrap_u8']; omega
  · change IntKind.u8.wrap ((BitVec.ofInt 8 (a : Int) ||| BitVec.ofInt 8 (b : Int)).toNat : Int) = _
    rw [BitVec.toNat_or, ea, eb, IntKind.wrap_u8']; omega
  · change IntKind.u8.wrap ((BitVec.ofInt 8 (a : Int) &&& BitVec.ofInt 8 (b : Int)).toNat : Int) = _
    rw [BitVec.toNat_and, ea, eb, IntKind.wrap_u8']; omega

theorem xor_u32 (x y : UInt32) : bits .xor .u32 x.toNat y.toNat = ((x ^^^ y).toNat : Int) := by
  rw [(bits_u32 _ _ x.toNat_lt y.toNat_lt).1, UInt32.toNat_xor]
theorem add_u32 (x y : UInt32) : IntKind.u32.wrap ((x.toNat : Int) + y.toNat) = ((x + y).toNat : Int) := by
  rw [IntKind.wrap_u32', UInt32.toNat_add]; omega
theorem sub_u32 (x y : UInt32) : IntKind.u32.wrap ((x.toNat : Int) - y.toNat) = ((x - y).toNat : Int) := by
  have h1 := x.toNat_lt
  have h2 := y.toNat_lt
  rw [IntKind.wrap_u32', UInt32.toNat_sub]; omega
theorem xor_u8 (x y : UInt8) : bits .xor .u8 x.toNat y.toNat = ((x ^^^ y).toNat : Int) := by
  rw [(bits_u8 _ _ x.toNat_lt y.toNat_lt).1, UInt8.toNat_xor]

def add32 (x y : UInt32) : UInt32 := x + y
def sub32 (x y : UInt32) : UInt32 := x - y
def xor32 (x y : UInt32) : UInt32 := x ^^^ y
def xor8 (x y : UInt8) : UInt8 := x ^^^ y
theorem add32_w (x y : UInt32) : IntKind.u32.wrap ((x.toNat : Int) + y.toNat) = ((add32 x y).toNat : Int) := add_u32 x y
theorem sub32_w (x y : UInt32) : IntKind.u32.wrap ((x.toNat : Int) - y.toNat) = ((sub32 x y).toNat : Int) := sub_u32 x y
theorem add32_m (x y : UInt32) : ((x.toNat : Int) + y.toNat) % 4294967296 = ((add32 x y).toNat : Int) := by rw [← add32_w, IntKind.wrap_u32']
theorem sub32_m (x y : UInt32) : ((x.toNat : Int) - y.toNat) % 4294967296 = ((sub32 x y).toNat : Int) := by rw [← sub32_w, IntKind.wrap_u32']
theorem xor32_b (x y : UInt32) : bits .xor .u32 x.toNat y.toNat = ((xor32 x y).toNat : Int) := xor_u32 x y
theorem xor8_b (x y : UInt8) : bits .xor .u8 x.toNat y.toNat = ((xor8 x y).toNat : Int) := xor_u8 x y

/-- rotate left, k < 32 -/
def rotl (x : UInt32) (k : Nat) : UInt32 := UInt32.ofNat ((x.toNat * 2 ^ k % 4294967296) ||| (x.toNat / 2 ^ (32 - k)))

theorem rotl_nat (x : UInt32) (k : Nat) : ((rotl x k).toNat : Int) = (((x.toNat * 2 ^ k % 4294967296) ||| (x.toNat / 2 ^ (32 - k)) : Nat) : Int) := by
  unfold rotl
  have h1 : x.toNat / 2 ^ (32 - k) < 2 ^ 32 := Nat.lt_of_le_of_lt (Nat.div_le_self _ _) x.toNat_lt
  have h2 : x.toNat * 2 ^ k % 4294967296 < 2 ^ 32 := Nat.mod_lt _ (by omega)
  have h3 := Nat.or_lt_two_pow h2 h1
  rw [UInt32.toNat_ofNat']
  omega
end

section
open Go Go.RowKit

theorem hid {p : Prop} (h : p) : Hid p := h

/-- block g holds just these cells, none frozen -/
def Blk (w : World) (g : Nat) (vs : List Value) (T : TypeId) : Prop := w.heap[g]? = some (.cells vs.toArray T (0, 0))

theorem Blk.lt {w : World} {g : Nat} {vs : List Value} {T : TypeId} (h : Blk w g vs T) : g < w.heap.size := by
  unfold Blk at h
  exact (Array.getElem?_eq_some_iff.1 h).1

theorem Blk.cell {w : World} {g : Nat} {vs : List Value} {T : TypeId} (h : Blk w g vs T) {i : Nat} (hi : i < vs.length) : w.cell? ⟨g, i, none⟩ = some vs[i] := by
  unfold Blk at h
  simp [World.cell?, h, hi]

theorem Blk.cell' {w : World} {g : Nat} {vs : List Value} {T : TypeId} (h : Blk w g vs T) {i : Nat} {v : Value} (hi : vs[i]? = some v) : w.cell? ⟨g, i, none⟩ = some v := by
  unfold Blk at h
  simp [World.cell?, h, hi]

theorem Blk.frozen {w : World} {g : Nat} {vs : List Value} {T : TypeId} (h : Blk w g vs T) (i : Nat) : w.frozen? ⟨g, i, none⟩ = false := by
  unfold Blk at h
  simp [World.frozen?, h]

theorem Blk.below {w w' : World} {B g : Nat} {vs : List Value} {T : TypeId} (h : Blk w g vs T) (hb : Below B w w') (hg : g < B) : Blk w' g vs T := by
  unfold Blk at *
  rw [hb.block g hg]; exact h

theorem Blk.drew {w : World} {g : Nat} {vs : List Value} {T : TypeId} (h : Blk w g vs T) : Blk w.drew g vs T := h
theorem Blk.drewN {w : World} {g n : Nat} {vs : List Value} {T : TypeId} (h : Blk w g vs T) : Blk (w.drewN n) g vs T := h

theorem Blk.alloc_new (w : World) (vs : List Value) (T : TypeId) : Blk (w.alloc (.cells vs.toArray T)) w.heap.size vs T := by
  unfold Blk
  show (w.heap.push _)[w.heap.size]? = _
  simp

theorem Blk.mk_alloc {w : World} {arr : Array Value} {vs : List Value} {T : TypeId} {n : Nat} (hn : n = w.heap.size) (ha : vs.toArray = arr) : Blk (w.alloc (.cells arr T)) n vs T := by
  subst hn; subst ha; exact Blk.alloc_new _ _ _

theorem Blk.alloc {w : World} {g : Nat} {vs : List Value} {T : TypeId} (h : Blk w g vs T) (o : Obj) : Blk (w.alloc o) g vs T := by
  have := h.lt
  unfold Blk at *
  show (w.heap.push _)[g]? = _
  rw [Array.getElem?_push, if_neg (by omega)]; exact h

theorem Blk.set {w : World} {g : Nat} {vs : List Value} {T : TypeId} (h : Blk w g vs T) (i : Nat) (v : Value) : Blk (w.setCell ⟨g, i, none⟩ v) g (vs.set i v) T := by
  unfold Blk at *
  simp only [World.setCell, Array.getElem?_modify, if_true, h, Option.map_some]
  simp

theorem Blk.set_other {w : World} {g : Nat} {vs : List Value} {T : TypeId} (h : Blk w g vs T) (a : Addr) (v : Value) (hn : g ≠ a.block) : Blk (w.setCell a v) g vs T := by
  unfold Blk at *
  rw [Below.heap_setCell _ _ _ _ hn]; exact h

/-- a type of arrays or structs, of n cells -/
def AggT (P : Program) (ty : TypeId) (n : Nat) : Prop := (∃ d, P.underlying ty = some d ∧ (match d with | .struct _ | .array _ _ => true | _ => false) = true) ∧ (P.info? ty).map (·.size) = some n

/-- the end of a function whose result lies in a block of its own -/
theorem ret_row {P : Program} {fn : Func} {R : Ending → World → Prop} {a : Act} {w : World} {p : Tmp} {ty : TypeId} {g : Nat} {vs : List Value} {T : TypeId}
    (hres : fn.results = #[.cell p ty]) (hp : a.tmps.getD p undef = .pointer (some ⟨g, 0, none⟩)) (hb : Blk w g vs T)
    {n : Nat} (ht : AggT P ty n) (hn : vs.length = n)
    (hdef : a.defers = []) (hR : R (.returned (.agg vs.toArray)) w) : bodyPost P fn R .ret a w := by
  obtain ⟨⟨d, hu, hd⟩, hi⟩ := ht
  exact bodyPost_ret (results_cell_row hres a.tmps w g T vs.toArray (0, 0) d hp hb hu (by cases d <;> simp_all) (by rw [hi, ← hn]; simp)) hdef hR

/-- nothing that was there has turned -/
abbrev Ext (W w : World) : Prop := Below W.heap.size W w
theorem Ext.refl (w : World) : Ext w w := Below.refl _ _
theorem Ext.alloc {W w : World} (h : Ext W w) (o : Obj) : Ext W (w.alloc o) := Below.alloc h h.size o
theorem Ext.set {W w : World} (h : Ext W w) {p : Addr} (v : Value) (hp : W.heap.size ≤ p.block) : Ext W (w.setCell p v) := Below.setCell h hp v
theorem Ext.drew {W w : World} (h : Ext W w) : Ext W w.drew := Below.drew h
theorem Ext.drewN {W w : World} (h : Ext W w) (n : Nat) : Ext W (w.drewN n) := ⟨h.os, h.tape, h.output, h.size, h.block⟩
theorem Ext.ext {W w w' : World} (h : Ext W w) (k : Ext w w') : Ext W w' := Below.trans h (k.mono h.size)
theorem Blk.ext {w w' : World} {g : Nat} {vs : List Value} {T : TypeId} (h : Blk w g vs T) (k : Ext w w') : Blk w' g vs T := h.below k h.lt

/-- only block g has turned, and there are no new ones -/
structure Upd (w : World) (g : Nat) (w' : World) : Prop where
  os : w'.os = w.os
  tape : w'.tape = w.tape
  output : w'.output = w.output
  size : w'.heap.size = w.heap.size
  block : ∀ k, k ≠ g → w'.heap[k]? = w.heap[k]?

theorem Upd.ext {W w w' : World} {g : Nat} (h : Ext W w) (k : Upd w g w') (hg : W.heap.size ≤ g) : Ext W w' :=
  ⟨k.os.trans h.os, k.tape.trans h.tape, k.output.trans h.output, by rw [k.size]; exact h.size, fun i hi => (k.block i (by omega)).trans (h.block i hi)⟩
theorem Blk.upd {w w' : World} {k g : Nat} {vs : List Value} {T : TypeId} (h : Blk w k vs T) (u : Upd w g w') (hn : k ≠ g) : Blk w' k vs T := by
  unfold Blk at *; rw [u.block k hn]; exact h
theorem Upd.setRow {w : World} {g : Nat} (cs : Array Value) : Upd w g (w.setRow g cs) :=
  ⟨rfl, rfl, rfl, by simp, fun k hk => setRow_other w g k cs hk⟩
theorem Upd.setCell {w : World} {g i : Nat} (v : Value) : Upd w g (w.setCell ⟨g, i, none⟩ v) :=
  ⟨rfl, rfl, rfl, by simp [World.setCell], fun k hk => Below.heap_setCell _ _ _ _ hk⟩
theorem Blk.setRow {w : World} {g : Nat} {vs : List Value} {T : TypeId} (h : Blk w g vs T) (vs' : List Value) : Blk (w.setRow g vs'.toArray) g vs' T :=
  setRow_heap w g vs.toArray vs'.toArray T (0, 0) h
theorem Upd.refl (w : World) (g : Nat) : Upd w g w := ⟨rfl, rfl, rfl, rfl, fun _ _ => rfl⟩
theorem Upd.trans {a b c : World} {g : Nat} (h : Upd a g b) (k : Upd b g c) : Upd a g c :=
  ⟨k.os.trans h.os, k.tape.trans h.tape, k.output.trans h.output, k.size.trans h.size, fun i hi => (k.block i hi).trans (h.block i hi)⟩

def splice (vs : List Value) (o : Nat) (xs : List Value) : List Value := vs.take o ++ xs ++ vs.drop (o + xs.length)

section
variable {P : Program} {ops : Array Oper} {rest : List Oper} {o : Oper} {a : Act} {w : World} {Q : Exit → Act → World → Prop}

theorem run_load_sub {g off n : Nat} {vs : List Value} {T ty : TypeId} (hb : Blk w g vs T) (ht : AggT P ty n) (hn : off + n ≤ vs.length) :
    (loadVar ty ⟨g, off, none⟩).run P w = .ok (.agg ((vs.drop off).take n).toArray) w := by
  obtain ⟨⟨d, hu, hd⟩, hi⟩ := ht
  have hlen : ((vs.drop off).take n).length = n := by simp; omega
  have hl : (loadCells ⟨g, off, none⟩ ((vs.drop off).take n).length).run P w = .ok ((vs.drop off).take n).toArray w :=
    run_loadCells_list (P := P) w ⟨g, off, none⟩ _ (fun j v hv => by
      have hj : j < n := by
        have := (List.getElem?_eq_some_iff.1 hv).1
        omega
      have hadd : (⟨g, off, none⟩ : Addr).add j = ⟨g, off + j, none⟩ := by unfold Addr.add; split <;> simp_all
      rw [hadd]
      refine hb.cell' ?_
      rw [List.getElem?_take_of_lt hj, List.getElem?_drop] at hv
      exact hv)
  rw [hlen] at hl
  cases hq : P.info? ty with
  | none => simp [hq] at hi
  | some i =>
    have hs : i.size = n := by simpa [hq] using hi
    have hagg : (isAgg ty).run P w = .ok true w := by
      unfold isAgg
      rw [Sem.run_bind, run_underlying hu w]
      cases d <;> simp_all
    simp [loadVar, Sem.run_bind, hagg, sizeOf, typeInfo, hq, hs, hl]

theorem run_store_sub {g off : Nat} {vs xs : List Value} {T ty : TypeId} (hb : Blk w g vs T) (ht : AggT P ty xs.length) (hn : off + xs.length ≤ vs.length) (h1 : ∀ v ∈ xs, v.oneCell' = true) :
    (storeVar ty ⟨g, off, none⟩ (.agg xs.toArray)).run P w = .ok () (w.setRow g (splice vs off xs).toArray) := by
  obtain ⟨_, hi⟩ := ht
  have hst := run_storeCells_at P g off T xs 0 vs.toArray w hb (by simpa using hn) h1
  cases hq : P.info? ty with
  | none => simp [hq] at hi
  | some i =>
    have hs : xs.length = i.size := by simp [hq] at hi; omega
    simp only [Nat.add_zero, List.toList_toArray] at hst
    simp [storeVar, sizeOf, typeInfo, hq, Value.cells, hs, hst, splice]

theorem wpl_load (hgd : o.guard = none) (ty : TypeId) (x : Operand) (ho : o.op = .load ty x) {g off n : Nat} {vs : List Value} {T : TypeId}
    (hx : a.eval x = .pointer (some ⟨g, off, none⟩)) (hb : Blk w g vs T) (ht : AggT P ty n) (hn : off + n ≤ vs.length)
    (h : wpList P ops Q rest (a.put o.dst (.agg ((vs.drop off).take n).toArray)) w) : wpList P ops Q (o :: rest) a w :=
  wpList_plain hgd fun K hK => by
    unfold Oper.wp execOp
    simp only [ho, hx, Instr.loadAt, Instr.sureAddr, Sem.run_bind, Sem.run_pure, Result.andThen_ok, run_load_sub hb ht hn]
    exact hK _ _ h

/-- a whole block -/
theorem wpl_loadw (hgd : o.guard = none) (ty : TypeId) (x : Operand) (ho : o.op = .load ty x) {g : Nat} {vs : List Value} {T : TypeId}
    (hx : a.eval x = .pointer (some ⟨g, 0, none⟩)) (hb : Blk w g vs T) {n : Nat} (ht : AggT P ty n) (hn : vs.length = n)
    (h : wpList P ops Q rest (a.put o.dst (.agg vs.toArray)) w) : wpList P ops Q (o :: rest) a w := by
  subst hn
  exact wpl_load hgd ty x ho hx hb ht (by omega) (by simpa using h)

theorem wpl_store (hgd : o.guard = none) (ty : TypeId) (x y : Operand) (ho : o.op = .store ty x y) {g off : Nat} {vs xs : List Value} {T : TypeId}
    (hx : a.eval x = .pointer (some ⟨g, off, none⟩)) (hy : a.eval y = .agg xs.toArray) (hb : Blk w g vs T) (ht : AggT P ty xs.length) (hn : off + xs.length ≤ vs.length)
    (h1 : ∀ v ∈ xs, v.oneCell' = true)
    (h : ∀ w', Blk w' g (splice vs off xs) T → Upd w g w' → wpList P ops Q rest (a.put o.dst undef) w') : wpList P ops Q (o :: rest) a w :=
  wpList_plain hgd fun K hK => by
    unfold Oper.wp execOp
    simp only [ho, hx, hy, Instr.storeAt, Instr.sureAddr, Sem.run_bind, Sem.run_pure, Result.andThen_ok, run_store_sub hb ht hn h1]
    exact hK _ _ (h _ (hb.setRow _) (Upd.setRow _))

theorem wpl_storew (hgd : o.guard = none) (ty : TypeId) (x y : Operand) (ho : o.op = .store ty x y) {g : Nat} {vs xs : List Value} {T : TypeId}
    (hx : a.eval x = .pointer (some ⟨g, 0, none⟩)) (hy : a.eval y = .agg xs.toArray) (hb : Blk w g vs T) {n : Nat} (ht : AggT P ty n) (hv : vs.length = n) (hn : xs.length = n)
    (h1 : ∀ v ∈ xs, v.oneCell' = true)
    (h : ∀ w', Blk w' g xs T → Upd w g w' → wpList P ops Q rest (a.put o.dst undef) w') : wpList P ops Q (o :: rest) a w :=
  wpl_store hgd ty x y ho hx hy hb (by rw [hn]; exact ht) (by omega) h1 fun w' hb' hu => h w' (by
    have : splice vs 0 xs = xs := by simp [splice, hn, hv]
    rwa [this] at hb') hu

/-- copy into a block of which all is known -/
theorem wpl_copy (hgd : o.guard = none) (dT sT : TypeId) (x y : Operand) (ho : o.op = .call { callee := .builtin .copy, args := #[x, y], argTypes := #[dT, sT] }) {g off dLen dCap sLen sCap : Nat} {sa : Addr} {vs cs : List Value} {T elem : TypeId}
    (hx : a.eval x = .slice (some ⟨g, off, none⟩) dLen dCap) (hy : a.eval y = .slice (some sa) sLen sCap) (hb : Blk w g vs T)
    (hu : P.underlying dT = some (.slice elem)) (hs : (P.info? elem).map (·.size) = some 1) (hn : cs.length = Nat.min sLen dLen)
    (hsrc : ∀ j v, cs[j]? = some v → w.cell? (sa.add j) = some v) (hfit : off + cs.length ≤ vs.length) (h1 : ∀ v ∈ cs, v.oneCell' = true)
    (h : ∀ w', Blk w' g (splice vs off cs) T → Upd w g w' → wpList P ops Q rest (a.put o.dst (.int .i64 cs.length)) w') : wpList P ops Q (o :: rest) a w :=
  wpList_plain hgd fun K hK => by
    have hr := run_copy_row (P := P) w dT sT o.type elem g off dLen dCap sa sLen sCap vs.toArray T cs hu hs hb hn hsrc (by simpa using hfit) h1
    unfold Oper.wp execOp
    simp only [ho, resolve, Sem.run_bind, Sem.run_pure, Result.andThen_ok, invoke, builtin]
    have e : (#[x, y].map a.eval) = #[.slice (some ⟨g, off, none⟩) dLen dCap, .slice (some sa) sLen sCap] := by simp [hx, hy]
    rw [e, hr]
    simp only [Result.andThen_ok, Sem.run_pure, Oper.upon]
    refine hK _ _ (h _ ?_ (Upd.setRow _))
    have := hb.setRow (splice vs off cs)
    simpa [splice] using this

theorem run_arrayAt {T e : TypeId} {n : Nat} (hu : P.underlying T = some (.array n e)) {len : Nat} (hl : n ≤ len) (x : Option Addr) (c : Nat) (w : World) :
    (Instr.arrayAt T (.slice x len c)).run P w = .ok (.pointer x) w := by
  simp [Instr.arrayAt, run_underlying hu, Nat.not_lt.2 hl]

/-- a type of one cell that is no array and no struct -/
def OneT (P : Program) (ty : TypeId) : Prop := (∃ d, P.underlying ty = some d ∧ (match d with | .struct _ | .array _ _ => true | _ => false) = false) ∧ (P.info? ty).map (·.size) = some 1

theorem run_index_arr {T e : TypeId} {n : Nat} {cs : Array Value} {v : Value} (hu : P.underlying T = some (.array n e)) (he : OneT P e) (i : Nat) (hi : i < n) (hv : cs[i]? = some v) (w : World) :
    (Instr.index T (.agg cs) (.int .i64 (i : Int))).run P w = .ok v w := by
  obtain ⟨⟨d, hd, hdd⟩, hs⟩ := he
  cases hq : P.info? e with
  | none => simp [hq] at hs
  | some inf =>
    have hs' : inf.size = 1 := by simpa [hq] using hs
    have hagg : (isAgg e).run P w = .ok false w := by
      unfold isAgg
      rw [Sem.run_bind, run_underlying hd w]
      cases d <;> simp_all
    have h0 : (0 : Int) ≤ i ∧ (i : Int) < n := by omega
    simp [Instr.index, asIntOf, run_underlying hu, part, sizeOf, typeInfo, hq, hs', hagg, hv, hi]

/-- In every world of the class the load yields the same. -/
theorem quiet_loadw {C : World → Prop} {K : Act → Prop} (ty : TypeId) (x : Operand) (ho : o.op = .load ty x) {g off n : Nat} {vs : List Value} {T : TypeId}
    (hx : a.eval x = .pointer (some ⟨g, off, none⟩)) (hb : ∀ w, C w → Blk w g vs T) (ht : AggT P ty n) (hn : off + n ≤ vs.length)
    (h : K (a.put o.dst (.agg ((vs.drop off).take n).toArray))) : o.quiet P a C K :=
  ⟨_, fun w hw => by
    unfold Oper.quietAt execOp
    simp only [ho, hx, Instr.loadAt, Instr.sureAddr, Sem.run_bind, Sem.run_pure, Result.andThen_ok, run_load_sub (hb w hw) ht hn]
    exact ⟨rfl, rfl⟩, h⟩
end

theorem below_refl (w : World) : Below w.heap.size w w := Below.refl _ _

/-- old cells and marks read as before -/
theorem bcell {B : Nat} {W w1 : World} (hb : Below B W w1) : (∀ b o, b < B → w1.cell? ⟨b, o, none⟩ = W.cell? ⟨b, o, none⟩) ∧ (∀ b o, b < B → w1.frozen? ⟨b, o, none⟩ = W.frozen? ⟨b, o, none⟩) :=
  ⟨fun b o h => hb.cell (p := ⟨b, o, none⟩) h, fun b o h => hb.frozen (p := ⟨b, o, none⟩) h⟩

theorem one_u8 (l : List UInt8) : ∀ v ∈ l.map u8v, v.oneCell' = true := by
  intro v hv; obtain ⟨x, _, rfl⟩ := List.mem_map.1 hv; rfl
theorem one_u32 (l : List UInt32) : ∀ v ∈ l.map u32v, v.oneCell' = true := by
  intro v hv; obtain ⟨x, _, rfl⟩ := List.mem_map.1 hv; rfl

theorem ret_eq {a b : Value} (h : a = b) : Ending.returned a = Ending.returned b := by rw [h]
theorem int_eq {k : IntKind} {a b : Int} (h : a = b) : Value.int k a = Value.int k b := by rw [h]

/-- a list that is being filled from the front -/
def fill {α : Type} (f : Nat → α) (d : α) (n i : Nat) : List α := (List.range n).map fun j => if j < i then f j else d
theorem fill_length {α : Type} (f : Nat → α) (d : α) (n i : Nat) : (fill f d n i).length = n := by simp [fill]
theorem fill_get {α : Type} (f : Nat → α) (d : α) (n i j : Nat) (h : j < n) : (fill f d n i)[j]? = some (if j < i then f j else d) := by
  simp [fill, h]
theorem fill_set {α : Type} (f : Nat → α) (d : α) (n i : Nat) : (fill f d n i).set i (f i) = fill f d n (i + 1) := by
  apply List.ext_getElem?
  intro j
  by_cases hj : j < n
  · rw [fill_get _ _ _ _ _ hj, List.getElem?_set]
    by_cases hij : i = j
    · subst hij; simp [fill_length, hj]
    · rw [if_neg hij, fill_get _ _ _ _ _ hj]
      by_cases h1 : j < i
      · rw [if_pos h1, if_pos (by omega)]
      · rw [if_neg h1, if_neg (by omega)]
  · have h1 : ((fill f d n i).set i (f i)).length = n := by simp [fill_length]
    rw [List.getElem?_eq_none (by omega), List.getElem?_eq_none (by rw [fill_length]; omega)]
theorem cells32 {w : World} {g : Nat} {ws : List UInt32} {T : TypeId} (h : Blk w g (ws.map u32v) T) (n : Nat) (hn : ws.length = n) : ∀ j, j < n → w.cell? ⟨g, j, none⟩ = some (u32v (ws.getD j 0)) := by
  intro j hj
  refine h.cell' ?_
  simp [hn, hj]
theorem Blk.set32 {w : World} {g : Nat} {ws : List UInt32} {T : TypeId} (h : Blk w g (ws.map u32v) T) (i : Nat) (x : UInt32) : Blk (w.setCell ⟨g, i, none⟩ (.int .u32 (x.toNat : Nat))) g ((ws.set i x).map u32v) T := by
  have := h.set i (u32v x)
  rwa [← List.map_set] at this
theorem Blk.fill32 {w : World} {g : Nat} {f : Nat → UInt32} {n i : Nat} {T : TypeId} (h : Blk w g ((fill f 0 n i).map u32v) T) : Blk (w.setCell ⟨g, i, none⟩ (.int .u32 ((f i).toNat : Nat))) g ((fill f 0 n (i + 1)).map u32v) T := by
  have := h.set i (u32v (f i))
  rwa [← List.map_set, fill_set] at this
theorem Blk.fill8 {w : World} {g : Nat} {f : Nat → UInt8} {n i : Nat} {T : TypeId} (h : Blk w g ((fill f 0 n i).map u8v) T) : Blk (w.setCell ⟨g, i, none⟩ (.int .u8 ((f i).toNat : Nat))) g ((fill f 0 n (i + 1)).map u8v) T := by
  have := h.set i (u8v (f i))
  rwa [← List.map_set, fill_set] at this
theorem fill_splice {α : Type} (f : Nat → α) (d : α) (n a m : Nat) (g : α → Value) (h : a + m ≤ n) (xs : List α) (hx : xs = (List.range m).map fun j => f (a + j)) :
    splice ((fill f d n a).map g) a (xs.map g) = (fill f d n (a + m)).map g := by
  subst hx
  unfold splice
  have hlen : (((List.range m).map fun j => f (a + j)).map g).length = m := by simp
  rw [hlen]
  apply List.ext_getElem?
  intro j
  rw [List.getElem?_append, List.getElem?_append]
  have l1 : (((fill f d n a).map g).take a).length = a := by simp [fill_length]; omega
  rw [List.length_append, l1, hlen]
  by_cases h1 : j < a + m
  · rw [if_pos h1]
    by_cases h2 : j < a
    · rw [if_pos h2, List.getElem?_take_of_lt h2, List.getElem?_map, List.getElem?_map, fill_get _ _ _ _ _ (by omega), fill_get _ _ _ _ _ (by omega), if_pos h2, if_pos h1]
    · rw [if_neg h2, List.getElem?_map, List.getElem?_map, List.getElem?_map, fill_get _ _ _ _ _ (by omega), if_pos h1]
      simp [show j - a < m by omega, show a + (j - a) = j by omega]
  · rw [if_neg h1, List.getElem?_drop, show a + m + (j - (a + m)) = j by omega, List.getElem?_map, List.getElem?_map]
    by_cases h3 : j < n
    · rw [fill_get _ _ _ _ _ h3, fill_get _ _ _ _ _ h3, if_neg (by omega), if_neg h1]
    · rw [List.getElem?_eq_none (by rw [fill_length]; omega), List.getElem?_eq_none (by rw [fill_length]; omega)]
theorem fill_zero {α : Type} (f : Nat → α) (d : α) (n : Nat) : fill f d n 0 = List.replicate n d := by
  apply List.ext_getElem <;> simp [fill]
theorem fill_all {α : Type} (f : Nat → α) (d : α) (n i : Nat) (h : n ≤ i) : fill f d n i = (List.range n).map f := by
  unfold fill
  apply List.map_congr_left
  intro j hj
  have := List.mem_range.1 hj
  rw [if_pos (by omega)]

/-- the cells behind a slice's address -/
def Cells (w : World) (a : Option Addr) (xs : List Value) : Prop := xs = [] ∨ ∃ b off, a = some ⟨b, off, none⟩ ∧ ∀ i u, xs[i]? = some u → w.cell? ⟨b, off + i, none⟩ = some u

theorem Cells.ext {w w' : World} {a : Option Addr} {xs : List Value} (h : Cells w a xs) (k : Ext w w') : Cells w' a xs := by
  rcases h with h | ⟨b, off, ha, h⟩
  · exact .inl h
  · refine .inr ⟨b, off, ha, fun i u hu => ?_⟩
    have h1 := h i u hu
    have hb := block_lt_of_cell h1
    have := k.cell (p := ⟨b, off + i, none⟩) hb
    rw [this]; exact h1
theorem Cells.nil (w : World) (a : Option Addr) : Cells w a [] := .inl rfl
theorem Cells.of_blk {w : World} {g : Nat} {vs : List Value} {T : TypeId} (h : Blk w g vs T) (o n : Nat) : Cells w (some ⟨g, o, none⟩) ((vs.drop o).take n) := by
  refine .inr ⟨g, o, rfl, fun i u hu => h.cell' ?_⟩
  have hi : i < n := by
    have := (List.getElem?_eq_some_iff.1 hu).1
    simp at this; omega
  rw [List.getElem?_take_of_lt hi, List.getElem?_drop] at hu
  exact hu
theorem Cells.of_blk0 {w : World} {g : Nat} {vs : List Value} {T : TypeId} (h : Blk w g vs T) : Cells w (some ⟨g, 0, none⟩) vs := by
  refine .inr ⟨g, 0, rfl, fun i u hu => h.cell' (by simpa using hu)⟩
theorem Cells.part {w : World} {b o : Nat} {xs : List Value} (h : Cells w (some ⟨b, o, none⟩) xs) (k n : Nat) : Cells w (some ⟨b, o + k, none⟩) ((xs.drop k).take n) := by
  rcases h with rfl | ⟨b', o', hb, h⟩
  · left; simp
  · cases hb
    refine .inr ⟨b, o + k, rfl, fun i u hu => ?_⟩
    have hi : i < n := by
      have := (List.getElem?_eq_some_iff.1 hu).1
      simp at this; omega
    rw [List.getElem?_take_of_lt hi, List.getElem?_drop] at hu
    have := h (k + i) u hu
    rwa [← Nat.add_assoc] at this
theorem Cells.some_of {w : World} {a : Option Addr} {xs : List Value} (h : Cells w a xs) (hn : 0 < xs.length) : ∃ b off, a = some ⟨b, off, none⟩ ∧ ∀ i u, xs[i]? = some u → w.cell? ⟨b, off + i, none⟩ = some u := by
  rcases h with rfl | h
  · simp at hn
  · exact h
/-- the address of a slice's part from p on: Go's own does not point behind the array's end -/
def shift (a : Option Addr) (c p : Nat) : Option Addr := if c = p then a else a.map (·.add p)
theorem Cells.shift {w : World} {a : Option Addr} {xs : List Value} (h : Cells w a xs) (c p m : Nat) (hp : p + m ≤ c) : Cells w (shift a c p) ((xs.drop p).take m) := by
  unfold Go.Proofs.YthfddfgncolnbaaGreatDoor.shift
  by_cases hcp : c = p
  · left
    obtain rfl : m = 0 := by omega
    simp
  · rw [if_neg hcp]
    rcases h with rfl | ⟨b, off, rfl, h⟩
    · left; simp
    · have hadd : (⟨b, off, none⟩ : Addr).add p = ⟨b, off + p, none⟩ := by unfold Addr.add; split <;> simp_all
      rw [Option.map_some, hadd]
      exact Cells.part (.inr ⟨b, off, rfl, h⟩) p m
theorem Cells.take {w : World} {a : Option Addr} {xs : List Value} (h : Cells w a xs) (n : Nat) : Cells w a (xs.take n) := by
  rcases h with rfl | ⟨b, off, ha, h⟩
  · left; simp
  · refine .inr ⟨b, off, ha, fun i u hu => h i u ?_⟩
    have hi : i < n := by
      have := (List.getElem?_eq_some_iff.1 hu).1
      simp at this; omega
    rwa [List.getElem?_take_of_lt hi] at hu

section
variable {P : Program} {ops : Array Oper} {rest : List Oper} {o : Oper} {a : Act} {w : World} {Q : Exit → Act → World → Prop}

/-- append within the capacity, as one step of a region that draws -/
theorem step_append_fits {K : Act → World → Prop} {E : Prop}
    (hg : o.guard = none) (s x : Operand) (t : TypeId) (hop : o.op = Op.call { callee := Callee.builtin Builtin.append, args := #[s, x], argTypes := #[t, t] })
    (base : Nat) (e : TypeId) (i : TypeInfo) (size : Nat) (h1 : P.underlying t = some (.slice e)) (h2 : P.info? e = some i) (h4 : i.size = size)
    (g k cap : Nat) (xs : List Value) (hs : a.eval s = .slice (some ⟨g, 0, none⟩) k cap) (hown : w.ownsRow base e size (.slice (some ⟨g, 0, none⟩) k cap) k xs) (ad : Addr) (m c : Nat) (news : List Value) (hx : a.eval x = .slice (some ad) m c) (hn : news.length = m * size)
    (hc : ∀ j u, news[j]? = some u → w.cell? (ad.add j) = some u) (h1c : ∀ u ∈ news, u.oneCell' = true) (b1 : k + m ≤ cap)
    (hK : ∀ w', w'.ownsRow base e size (.slice (some ⟨g, 0, none⟩) (k + m) cap) (k + m) (xs ++ news) → w.grownBy w' (some g) → K (a.put o.dst (.slice (some ⟨g, 0, none⟩) (k + m) cap)) w') :
    if Region.wanted o (yielded ops a.tmps) = true then Oper.wp P o a w K Q else E := by
  have hw : Region.wanted o (yielded ops a.tmps) = true := by simp [Region.wanted, hg]
  rw [if_pos hw]
  obtain ⟨w', hrun, r1, r2⟩ := run_append_fits (P := P) w base t o.type e i size h1 h2 h4 g k cap xs hown ad m c news hn hc h1c b1
  unfold Oper.wp
  simp [execOp, hop, resolve, invoke, builtin, hs, hx, hrun, Result.andThen]
  exact hK _ r1 r2

/-- append, as one step of a region that draws -/
theorem step_append_own {K : Act → World → Prop} {E : Prop} (hgd : o.guard = none) (s x : Operand) (t : TypeId)
    (ho : o.op = .call { callee := .builtin .append, args := #[s, x], argTypes := #[t, t] })
    (base : Nat) (e : TypeId) (i : TypeInfo) (z : Value) (size bytes : Nat) (ht : P.underlying t = some (.slice e)) (hi : P.info? e = some i) (hz : i.zero = some z)
    (hsize : i.size = size) (hby : i.bytes = bytes) (hzs : z.cells.size = size) (hsz : 0 < size)
    (v : Value) (n : Nat) (xs : List Value) (hs : a.eval s = v) (hown : w.ownsRow base e size v n xs)
    (ad : Addr) (m c : Nat) (news : List Value) (hx : a.eval x = .slice (some ad) m c) (hl : news.length = m * size) (hnews : ∀ j u, news[j]? = some u → w.cell? (ad.add j) = some u) (h1 : ∀ u ∈ news, u.oneCell' = true)
    (h63 : n + m ≤ maxLen) (hbytes : (n + m) * bytes ≤ 140737488355328) (hbase : base ≤ w.heap.size)
    (h : ∀ v' w', w'.ownsRow base e size v' (n + m) (xs ++ news) → w.grownBy w' v.ownBlock → (v' = .slice none 0 0 ↔ v = .slice none 0 0 ∧ m = 0) → K (a.put o.dst v') w') :
    if Region.wanted o (yielded ops a.tmps) = true then Oper.wp P o a w K Q else E := by
  have hw : Region.wanted o (yielded ops a.tmps) = true := by simp [Region.wanted, hgd]
  rw [if_pos hw]
  exact wp_append_own w s x t ho base e i z size bytes ht hi hz hsize hby hzs hsz v n xs hs hown ad m c news hx hl hnews h1 h63 hbytes hbase h
end

theorem news_blk {w : World} {g : Nat} {vs : List Value} {T : TypeId} (h : Blk w g vs T) : ∀ j u, vs[j]? = some u → w.cell? ((⟨g, 0, none⟩ : Addr).add j) = some u := by
  intro j u hu
  have hadd : (⟨g, 0, none⟩ : Addr).add j = ⟨g, j, none⟩ := by unfold Addr.add; split <;> simp_all
  rw [hadd]; exact h.cell' hu
theorem news_cells {w : World} {x : Addr} {xs : List Value} (h : Cells w (some x) xs) : ∀ j u, xs[j]? = some u → w.cell? (x.add j) = some u := by
  intro j u hu
  rcases h with rfl | ⟨b, off, hx, h⟩
  · simp at hu
  · cases hx
    have hadd : (⟨b, off, none⟩ : Addr).add j = ⟨b, off + j, none⟩ := by unfold Addr.add; split <;> simp_all
    rw [hadd]; exact h j u hu

theorem Ext.grown {W w w' : World} {row : Option Nat} (h : Ext W w) (k : w.grownBy w' row) (hr : ∀ g, row = some g → W.heap.size ≤ g) : Ext W w' := Below.grown h k h.size hr
theorem Blk.grown {w w' : World} {row : Option Nat} {g : Nat} {vs : List Value} {T : TypeId} (h : Blk w g vs T) (k : w.grownBy w' row) (hn : some g ≠ row) : Blk w' g vs T := by
  have := h.lt
  unfold Blk at *
  rw [k.block g this hn]; exact h
theorem ownsRow_ext {w w' : World} {base : Nat} {e : TypeId} {size : Nat} {v : Value} {n : Nat} {xs : List Value} (h : w.ownsRow base e size v n xs) (k : Ext w w') : w'.ownsRow base e size v n xs := by
  refine h.kept (row := none) ⟨k.os, k.tape, k.output, k.size, fun i hi _ => k.block i hi⟩ ?_
  cases hv : v.ownBlock with
  | none => exact .inl rfl
  | some g => exact .inr (by simp)
end

section
open Go Go.RowKit Go.Maps Go.MapKept Go.WideShapes

/-- block g is a map whose keys are ks (as they came), each with 'true' -/
def SetAt (w : World) (g : Nat) (ks : List Value) : Prop := ∃ es clock, w.heap[g]? = some (.map es clock) ∧ es.toList.map MapEntry.key = ks ∧ ∀ x ∈ es.toList, x.val = .bool true
def Keys (P : Program) (k : TypeId) (ks : List Value) : Prop := ∀ v ∈ ks, ∃ l, keyOf P k v = some l

theorem SetAt.lt {w : World} {g : Nat} {ks : List Value} (h : SetAt w g ks) : g < w.heap.size := by
  obtain ⟨es, c, hb, _⟩ := h
  exact (Array.getElem?_eq_some_iff.1 hb).1
theorem SetAt.new (w : World) : SetAt (w.alloc (.map #[] 0)) w.heap.size [] := ⟨#[], 0, by show (w.heap.push _)[w.heap.size]? = _; simp, rfl, by simp⟩
theorem SetAt.ext {w w' : World} {g : Nat} {ks : List Value} (h : SetAt w g ks) (e : Ext w w') : SetAt w' g ks := by
  obtain ⟨es, c, hb, h1, h2⟩ := h
  exact ⟨es, c, (e.block g (Array.getElem?_eq_some_iff.1 hb).1).trans hb, h1, h2⟩

section
variable {P : Program} {t k e : TypeId} {w : World} {g : Nat} {ks : List Value} {key : Value} {kl : Lit}
theorem run_lookup_set (K : Keyed P k) (ht : P.underlying t = some (.map k e)) (hz : (zeroValue e).run P w = .ok (.bool false) w) (h : SetAt w g ks) (hk : Keys P k ks) (hkey : keyOf P k key = some kl) :
    ∃ b : Bool, (Instr.lookup t (.map (some g)) key false).run P w = .ok (.bool b) w ∧ (b = true ↔ key ∈ ks) := by
  obtain ⟨es, c, hb, rfl, hv⟩ := h
  have hes : ∀ x ∈ es.toList, ∃ l, keyOf P k x.key = some l := fun x hx => hk _ (List.mem_map.2 ⟨x, hx, rfl⟩)
  rcases K.find w hkey es.toList hes with ⟨h1, h2⟩ | ⟨j, e0, h1, h2, h3⟩
  · refine ⟨false, by simp [Instr.lookup, run_underlying ht, MapKept.run_getObj_map hb, K.check w _ hkey, h1, hz, Result.andThen], ?_⟩
    constructor
    · intro h; cases h
    · intro hm
      obtain ⟨x, hx, he⟩ := List.mem_map.1 hm
      exact absurd he (h2 x hx)
  · have hm0 : e0 ∈ es.toList := List.mem_of_getElem? h2
    refine ⟨true, by simp [Instr.lookup, run_underlying ht, MapKept.run_getObj_map hb, K.check w _ hkey, h1, hv e0 hm0, Result.andThen], ?_⟩
    exact ⟨fun _ => List.mem_map.2 ⟨e0, hm0, h3⟩, fun _ => rfl⟩

theorem run_update_set (K : Keyed P k) (ht : P.underlying t = some (.map k e)) (h : SetAt w g ks) (hk : Keys P k ks) (hkey : keyOf P k key = some kl) :
    ∃ w' ks', (Instr.mapUpdate t (.map (some g)) key (.bool true)).run P w = .ok () w' ∧ Upd w g w' ∧ SetAt w' g ks' ∧ ((key ∈ ks ∧ ks' = ks) ∨ (key ∉ ks ∧ ks' = ks ++ [key])) := by
  obtain ⟨es, c, hb, rfl, hv⟩ := h
  have hg : g < w.heap.size := (Array.getElem?_eq_some_iff.1 hb).1
  have hes : ∀ x ∈ es.toList, ∃ l, keyOf P k x.key = some l := fun x hx => hk _ (List.mem_map.2 ⟨x, hx, rfl⟩)
  have hu : ∀ o : Obj, Upd w g { w with heap := w.heap.setIfInBounds g o } := fun o => ⟨rfl, rfl, rfl, by simp, fun j hj => by
    show (w.heap.setIfInBounds g o)[j]? = _
    rw [Array.getElem?_setIfInBounds_ne (Ne.symm hj)]⟩
  have hb2 : ∀ o : Obj, ({ w with heap := w.heap.setIfInBounds g o } : World).heap[g]? = some o := fun o => by
    show (w.heap.setIfInBounds g o)[g]? = _
    rw [Array.getElem?_setIfInBounds_self_of_lt hg]
  rcases K.find w hkey es.toList hes with ⟨h1, h2⟩ | ⟨j, e0, h1, h2, h3⟩
  · refine ⟨_, _, by simp [Instr.mapUpdate, run_underlying ht, MapKept.run_getObj_map hb, K.check w _ hkey, h1, MapKept.run_setObj_map _ hb, Result.andThen]; rfl, hu _, ⟨_, _, hb2 _, rfl, ?_⟩, .inr ⟨?_, ?_⟩⟩
    · intro x hx
      simp only [Array.toList_push, List.mem_append, List.mem_singleton] at hx
      rcases hx with hx | rfl
      · exact hv x hx
      · rfl
    · intro hm
      obtain ⟨x, hx, he⟩ := List.mem_map.1 hm
      exact h2 x hx he
    · simp
  · have hj : es[j]? = some e0 := by simpa using h2
    have hm0 : e0 ∈ es.toList := List.mem_of_getElem? h2
    refine ⟨_, _, by simp [Instr.mapUpdate, run_underlying ht, MapKept.run_getObj_map hb, K.check w _ hkey, h1, hj, h3, K.stays w hkey, MapKept.run_setObj_map _ hb, Result.andThen]; rfl, hu _, ⟨_, _, hb2 _, rfl, ?_⟩, .inl ⟨List.mem_map.2 ⟨e0, hm0, h3⟩, ?_⟩⟩
    · intro x hx
      rcases MapFrom.mem_modify hx with hx | ⟨e', _, rfl⟩
      · exact hv x hx
      · rfl
    · rw [Array.toList_modify, ChangeMaps.modify_eq_set _ _ _ _ h2, List.map_set]
      apply List.ext_getElem?
      intro i
      rw [List.getElem?_set]
      split
      · next hi =>
        subst hi
        have hjl : j < (es.toList.map MapEntry.key).length := by rw [List.length_map]; exact (List.getElem?_eq_some_iff.1 h2).1
        rw [if_pos hjl, List.getElem?_map, h2]
        simp [h3]
      · rfl

theorem run_makeMapU (t : TypeId) (w : World) : (Instr.makeMap t none).run P w = .ok (.map (some w.heap.size)) (w.alloc (.map #[] 0)) := by
  simp [Instr.makeMap, newObj, Sem.run]
theorem run_len_set {ty : TypeId} (ht : P.underlying t = some (.map k e)) (h : SetAt w g ks) : (Builtin.len_ #[t] ty #[.map (some g)]).run P w = .ok (goInt ks.length) w := by
  obtain ⟨es, c, hb, rfl, hv⟩ := h
  simp [Builtin.len_, run_underlying ht, MapKept.run_getObj_map hb]
end
end

section
open Go Go.RowKit

/-- an octet of a name -/
def nameOct (c : UInt8) : Bool := (decide (97 ≤ c.toNat) && decide (c.toNat ≤ 122)) || (decide (48 ≤ c.toNat) && decide (c.toNat ≤ 57)) || c.toNat == 45 || c.toNat == 46 || c.toNat == 95
def isNameL (l : List UInt8) : Bool := l.all nameOct && !(l.isEmpty) && decide (l.length ≤ 32)
end

section
open Go Go.RowKit

section
variable {P : Program} {ops : Array Oper} {Q : Exit → Act → World → Prop} {S : World → Prop}

/-- K where the way goes on, Q elsewhere -/
def onNormal (K : Act → World → Prop) (Q : Exit → Act → World → Prop) : Exit → Act → World → Prop
  | .normal, a, w => K a w
  | e, a, w => Q e a w

theorem letsOut_onNormal {K : Act → World → Prop} (h : LetsOut (onNormal K Q)) : LetsOut Q := h

theorem oper_wp_onNormal {o : Oper} {a : Act} {w : World} {K K' : Act → World → Prop} (h : o.wp P a w K (onNormal K' Q)) : o.wp P a w K Q := by
  unfold Oper.wp at *
  generalize (execOp a.eval o).run P w = r at *
  cases r with
  | ok n w' =>
    cases n
    case enter f args =>
      refine Calls.mono h fun e w'' he => ?_
      cases e with
      | returned u => exact he
      | panicked c => exact he
      | outgrown => exact letsOut_onNormal he
    all_goals exact h
  | halt x w' =>
    cases x <;> first | exact h | exact h.elim

theorem wpOp_of_list {i : Nat} {o : Oper} {K : Act → World → Prop} {a : Act} {w : World} (ho : ops[i]? = some o) (h : wpList P ops (onNormal K Q) [o] a w) : wpOp P ops Q i K a w := by
  unfold wpOp
  simp only [ho]
  unfold wpList at h
  split
  · rename_i hw
    rw [if_pos hw] at h
    rcases h with h | ⟨h1, h2⟩
    · exact .inl (oper_wp_onNormal h)
    · exact .inr ⟨h1, letsOut_onNormal h2⟩
  · rename_i hw
    rw [if_neg hw] at h
    exact h

theorem op_of_drop {i : Nat} {o : Oper} {r : List Oper} (h : ops.toList.drop i = o :: r) : ops[i]? = some o := by
  have h1 := List.getElem?_drop (xs := ops.toList) (i := i) (j := 0)
  rw [h, Nat.add_zero] at h1
  simpa using h1.symm

/-- one operation is taken first -/
theorem held_take (i : Nat) {oi : Oper} {r : List Oper} {v : Value} {fuel : Nat} {listed : Array Bool} {a : Act} {w : World} (hi : ops.toList.drop i = oi :: r)
    (hs : Region.noSelect ops = true) (hf : Region.free .any ops listed i = true) (hr : (Region.ready .any ops listed).contains i = true)
    (hQ : ∀ c a w, Q (.panic c) (a.put oi.dst v) w → Q (.panic c) a w) (hy : YieldsIf P ops S oi v a) (hS : S w)
    (h : wpAnyH P .any ops Q S fuel (listed.setIfInBounds i true) (a.put oi.dst v) w) : wpAnyH P .any ops Q S (fuel + 1) listed a w :=
  wpAnyH_take (op_of_drop hi) hs hf hr hQ hy hS h

/-- just one operation may come up -/
theorem held_one {i : Nat} {o : Oper} {r : List Oper} {f : Nat} {listed : Array Bool} {a : Act} {w : World} (hr : Region.ready .any ops listed = [i]) (ho : ops.toList.drop i = o :: r)
    (h : ∀ Q' : Exit → Act → World → Prop, (∀ a w, S w → wpAnyH P .any ops Q S f (listed.setIfInBounds i true) a w → Q' .normal a w) → wpList P ops Q' [o] a w) :
    wpAnyH P .any ops Q S (f + 1) listed a w :=
  wpAnyH_all hr (by simp) fun j hj => by
    obtain rfl : j = i := by simpa using hj
    exact wpOp_of_list (op_of_drop ho) (h _ fun a w hS hW => ⟨hS, hW⟩)

def ptrAt (g : Nat) : Value := .pointer (some ⟨g, 0, none⟩)

/-- number A makes a variable (vs, of type T) at whatever time; the other operations go one by one; D is what is known of the world -/
def Fl (P : Program) (ops : Array Oper) (Q : Exit → Act → World → Prop) (S : World → Prop) (B A : Nat) (vs : List Value) (T : TypeId) (f : Nat) (listed : Array Bool) (α : Value → Act) (D : World → Prop) : Prop :=
  (∀ w w', D w → Ext w w' → D w') → (∀ w, D w → S w) → (∀ w, D w → B ≤ w.heap.size) →
  (∀ x w, D w → wpAnyH P .any ops Q S (f + 1) listed (α x) w) ∧ ∀ g w, D w → B ≤ g → Blk w g vs T → wpAnyH P .any ops Q S f (listed.setIfInBounds A true) (α (ptrAt g)) w

theorem Fl_start {B A d : Nat} {vs : List Value} {T : TypeId} {f : Nat} {listed : Array Bool} {a : Act} {w : World} {D : World → Prop} (y : Value) (hy : a.put (some d) y = a) (hDx : ∀ w w', D w → Ext w w' → D w') (hDS : ∀ w, D w → S w) (hDB : ∀ w, D w → B ≤ w.heap.size) (hD : D w)
    (h : Fl P ops Q S B A vs T f listed (fun x => a.put (some d) x) D) : wpAnyH P .any ops Q S (f + 1) listed a w := by
  have := (h hDx hDS hDB).1 y w hD
  simp only [hy] at this
  exact this

theorem Fl_take {B A : Nat} {vs : List Value} {T : TypeId} {f : Nat} {listed : Array Bool} {α : Value → Act} {D : World → Prop} (i : Nat) {oi : Oper} {r : List Oper} {v : Value} (hi : ops.toList.drop i = oi :: r) (hs : Region.noSelect ops = true)
    (hf : Region.free .any ops listed i = true) (hf' : Region.free .any ops (listed.setIfInBounds A true) i = true)
    (hr : (Region.ready .any ops listed).contains i = true) (hr' : (Region.ready .any ops (listed.setIfInBounds A true)).contains i = true) (hne : (i == A) = false)
    (hQ : ∀ c a w, Q (.panic c) (a.put oi.dst v) w → Q (.panic c) a w) (hy : ∀ x, YieldsIf P ops S oi v (α x))
    (h : Fl P ops Q S B A vs T f (listed.setIfInBounds i true) (fun x => (α x).put oi.dst v) D) : Fl P ops Q S B A vs T (f + 1) listed α D := by
  intro hDx hDS hDB
  have hne' : i ≠ A := by simpa using hne
  have h := h hDx hDS hDB
  refine ⟨fun x w hD => wpAnyH_take (op_of_drop hi) hs hf hr hQ (hy x) (hDS w hD) (h.1 x w hD), fun g w hD hB hb => wpAnyH_take (op_of_drop hi) hs hf' hr' hQ (hy _) (hDS w hD) ?_⟩
  have := h.2 g w hD hB hb
  rwa [Array.setIfInBounds_comm _ _ hne'] at this

theorem Fl_step {B A : Nat} {vs : List Value} {T : TypeId} {f : Nat} {listed : Array Bool} {α : Value → Act} {D : World → Prop} (i : Nat) {o oA : Oper} {r rA : List Oper} {d : Tmp} {β : Type} (val : β → Value) (Φ : β → World → Prop)
    (ho' : ops.toList.drop i = o :: r) (hA' : ops.toList.drop A = oA :: rA) (hAd : oA.dst = some d) (hAg : oA.guard = none) (hAr : ∀ ρ w, (execOp ρ oA).run P w = .ok (.value (ptrAt w.heap.size)) (w.alloc (.cells vs.toArray T)))
    (hr : ((Region.ready .any ops listed).all fun j => j == i || j == A) = true) (hrn : (Region.ready .any ops listed).isEmpty = false) (hr' : Region.ready .any ops (listed.setIfInBounds A true) = [i]) (hne : (i == A) = false)
    (hα : ∀ x y, (α x).put (some d) y = α y) (hΦ : ∀ b w w', Φ b w → Ext w w' → Φ b w')
    (hstep : ∀ x w, D w → ∀ Q' : Exit → Act → World → Prop, (∀ b w', Ext w w' → Φ b w' → Q' .normal ((α x).put o.dst (val b)) w') → wpList P ops Q' [o] (α x) w)
    (h : ∀ b, Fl P ops Q S B A vs T f (listed.setIfInBounds i true) (fun x => (α x).put o.dst (val b)) (fun w => D w ∧ Φ b w)) : Fl P ops Q S B A vs T (f + 1) listed α D := by
  have ho := op_of_drop ho'
  have hA := op_of_drop hA'
  intro hD hDS hDB
  have h := fun b => h b (fun w w' hh he => ⟨hD w w' hh.1 he, hΦ b w w' hh.2 he⟩) (fun w hh => hDS w hh.1) (fun w hh => hDB w hh.1)
  have hne' : i ≠ A := by simpa using hne
  have second : ∀ g w, D w → B ≤ g → Blk w g vs T → wpAnyH P .any ops Q S (f + 1) (listed.setIfInBounds A true) (α (ptrAt g)) w := by
    intro g w hDw hB hb
    refine wpAnyH_all hr' (by simp) fun j hj => ?_
    obtain rfl : j = i := by simpa using hj
    refine wpOp_of_list ho (hstep _ w hDw _ fun b w' he hΦ => ?_)
    have := (h b).2 g w' ⟨hD _ _ hDw he, hΦ⟩ hB (hb.ext he)
    rw [Array.setIfInBounds_comm _ _ hne'] at this
    exact ⟨hDS _ (hD _ _ hDw he), this⟩
  refine ⟨fun x w hDw => ?_, second⟩
  refine wpAnyH_all (rs := Region.ready .any ops listed) rfl (fun e => by rw [e] at hrn; cases hrn) fun j hj => ?_
  have hj' := List.all_eq_true.1 hr j hj
  simp only [Bool.or_eq_true, beq_iff_eq] at hj'
  rcases hj' with rfl | rfl
  · refine wpOp_of_list ho (hstep _ w hDw _ fun b w' he hΦ => ?_)
    exact ⟨hDS _ (hD _ _ hDw he), (h b).1 x w' ⟨hD _ _ hDw he, hΦ⟩⟩
  · refine wpOp_of_list hA ?_
    refine wpList_plain hAg fun K hK => ?_
    unfold Oper.wp
    rw [hAr, Oper.upon_value, hAd]
    refine hK _ _ ?_
    have he : Ext w (w.alloc (.cells vs.toArray T)) := (Ext.refl w).alloc _
    rw [hα]
    exact ⟨hDS _ (hD _ _ hDw he), second _ _ (hD _ _ hDw he) (hDB _ hDw) (Blk.alloc_new _ _ _)⟩

theorem Fl_end {B A : Nat} {vs : List Value} {T : TypeId} {f : Nat} {listed : Array Bool} {α : Value → Act} {D : World → Prop} {oA : Oper} {rA : List Oper} {d : Tmp}
    (hA' : ops.toList.drop A = oA :: rA) (hAd : oA.dst = some d) (hAg : oA.guard = none) (hAr : ∀ ρ w, (execOp ρ oA).run P w = .ok (.value (ptrAt w.heap.size)) (w.alloc (.cells vs.toArray T)))
    (hr : Region.ready .any ops listed = [A]) (hα : ∀ x y, (α x).put (some d) y = α y)
    (h : ∀ g w, D w → B ≤ g → Blk w g vs T → wpAnyH P .any ops Q S f (listed.setIfInBounds A true) (α (ptrAt g)) w) : Fl P ops Q S B A vs T f listed α D := by
  have hA := op_of_drop hA'
  intro hD hDS hDB
  refine ⟨fun x w hDw => ?_, h⟩
  refine wpAnyH_all hr (by simp) fun j hj => ?_
  obtain rfl : j = A := by simpa using hj
  refine wpOp_of_list hA ?_
  refine wpList_plain hAg fun K hK => ?_
  unfold Oper.wp
  rw [hAr, Oper.upon_value, hAd]
  refine hK _ _ ?_
  have he : Ext w (w.alloc (.cells vs.toArray T)) := (Ext.refl w).alloc _
  rw [hα]
  exact ⟨hDS _ (hD _ _ hDw he), h _ _ (hD _ _ hDw he) (hDB _ hDw) (Blk.alloc_new _ _ _)⟩

/-- these blocks are as they were in W -/
def Kept (W : World) (L : List Nat) (w' : World) : Prop := W.heap.size ≤ w'.heap.size ∧ (∀ g ∈ L, g < W.heap.size) ∧ ∀ g ∈ L, w'.heap[g]? = W.heap[g]?
theorem Kept.ext {W w w' : World} {L : List Nat} (h : Kept W L w) (e : Ext w w') : Kept W L w' :=
  ⟨Nat.le_trans h.1 e.size, h.2.1, fun g hg => (e.block g (Nat.lt_of_lt_of_le (h.2.1 g hg) h.1)).trans (h.2.2 g hg)⟩
theorem Kept.upd {W w w' : World} {L : List Nat} {r : Nat} (h : Kept W L w) (u : Upd w r w') (hr : r ∉ L) : Kept W L w' :=
  ⟨by rw [u.size]; exact h.1, h.2.1, fun g hg => (u.block g (fun e => hr (e ▸ hg))).trans (h.2.2 g hg)⟩
theorem Kept.blk {W w : World} {L : List Nat} {g : Nat} {vs : List Value} {T : TypeId} (h : Kept W L w) (hb : Blk W g vs T) (hg : g ∈ L) : Blk w g vs T := by
  unfold Blk at *; rw [h.2.2 g hg]; exact hb
theorem Kept.none (W : World) : Kept W [] W := ⟨Nat.le_refl _, by simp, by simp⟩
theorem Kept.one {W : World} {a : Nat} (ha : a < W.heap.size) : Kept W [a] W := ⟨Nat.le_refl _, by simpa using ha, fun _ _ => rfl⟩
theorem Kept.two {W : World} {a b : Nat} (ha : a < W.heap.size) (hb : b < W.heap.size) : Kept W [a, b] W := ⟨Nat.le_refl _, by simpa using ⟨ha, hb⟩, fun _ _ => rfl⟩
theorem Kept.three {W : World} {a b c : Nat} (ha : a < W.heap.size) (hb : b < W.heap.size) (hc : c < W.heap.size) : Kept W [a, b, c] W := ⟨Nat.le_refl _, by simpa using ⟨ha, hb, hc⟩, fun _ _ => rfl⟩
theorem Kept.four {W : World} {a b c d : Nat} (ha : a < W.heap.size) (hb : b < W.heap.size) (hc : c < W.heap.size) (hd : d < W.heap.size) : Kept W [a, b, c, d] W := ⟨Nat.le_refl _, by simpa using ⟨ha, hb, hc, hd⟩, fun _ _ => rfl⟩

theorem Kept.grown {W w w' : World} {L : List Nat} {row : Option Nat} (h : Kept W L w) (k : w.grownBy w' row) (hr : ∀ g, row = some g → W.heap.size ≤ g) : Kept W L w' :=
  ⟨Nat.le_trans h.1 k.size, h.2.1, fun g hg => (k.block g (Nat.lt_of_lt_of_le (h.2.1 g hg) h.1) (fun e => by have h1 := hr g e.symm; have h2 := h.2.1 g hg; omega)).trans (h.2.2 g hg)⟩

/-- a class of worlds: nothing that was in w0 has turned; the blocks of L are as in W; there are rooms R -/
structure Cls (w0 W : World) (L : List Nat) (R : List (Nat × Nat × TypeId)) (w : World) : Prop where
  base : Ext w0 w
  kept : Kept W L w
  room : ∀ x ∈ R, x.1 < W.heap.size ∧ ∃ vs, vs.length = x.2.1 ∧ Blk w x.1 vs x.2.2
theorem Cls.ext {w0 W w w' : World} {L : List Nat} {R : List (Nat × Nat × TypeId)} (h : Cls w0 W L R w) (e : Ext w w') : Cls w0 W L R w' :=
  ⟨h.base.ext e, h.kept.ext e, fun x hx => ⟨(h.room x hx).1, by obtain ⟨_, vs, h1, h2⟩ := h.room x hx; exact ⟨vs, h1, h2.ext e⟩⟩⟩
theorem Cls.grown {w0 W w w' : World} {L : List Nat} {R : List (Nat × Nat × TypeId)} {row : Option Nat} (h : Cls w0 W L R w) (k : w.grownBy w' row) (hr : ∀ g, row = some g → W.heap.size ≤ g) (h0 : w0.heap.size ≤ W.heap.size) : Cls w0 W L R w' :=
  ⟨h.base.grown k (fun g hg => Nat.le_trans h0 (hr g hg)), h.kept.grown k hr, fun x hx => ⟨(h.room x hx).1, by
    obtain ⟨h3, vs, h1, h2⟩ := h.room x hx
    exact ⟨vs, h1, h2.grown k (fun e => by have := hr _ e.symm; omega)⟩⟩⟩
theorem Cls.upd {w0 W w w' : World} {L : List Nat} {R : List (Nat × Nat × TypeId)} {g : Nat} (h : Cls w0 W L R w) (u : Upd w g w') (hg : W.heap.size ≤ g) (h0 : w0.heap.size ≤ W.heap.size) : Cls w0 W L R w' :=
  ⟨u.ext h.base (by omega), h.kept.upd u (fun hm => by have := h.kept.2.1 g hm; omega), fun x hx => ⟨(h.room x hx).1, by
    obtain ⟨h3, vs, h1, h2⟩ := h.room x hx
    exact ⟨vs, h1, h2.upd u (by omega)⟩⟩⟩
theorem Cls.store {w0 W w w' : World} {L : List Nat} {R : List (Nat × Nat × TypeId)} {r : Nat} {xs : List Value} {T : TypeId} (h : Cls w0 W L R w) (u : Upd w r w') (hb : Blk w' r xs T) (hu : ∀ x ∈ R, x.1 = r → x = (r, xs.length, T)) (hr : w0.heap.size ≤ r) (hL : r ∉ L) : Cls w0 W L R w' :=
  ⟨u.ext h.base hr, h.kept.upd u hL, fun x hx => ⟨(h.room x hx).1, by
    obtain ⟨h3, vs, h1, h2⟩ := h.room x hx
    by_cases e : x.1 = r
    · rw [hu x hx e]; exact ⟨xs, rfl, hb⟩
    · exact ⟨vs, h1, h2.upd u e⟩⟩⟩
theorem Cls.blk {w0 W w : World} {L : List Nat} {R : List (Nat × Nat × TypeId)} {g : Nat} {vs : List Value} {T : TypeId} (h : Cls w0 W L R w) (hb : Blk W g vs T) (hg : g ∈ L) : Blk w g vs T := h.kept.blk hb hg
theorem Cls.at_room {w0 W w : World} {L : List Nat} {r n : Nat} {T : TypeId} {R : List (Nat × Nat × TypeId)} (h : Cls w0 W L R w) (hr : (r, n, T) ∈ R) : ∃ vs, vs.length = n ∧ Blk w r vs T := (h.room _ hr).2
theorem Cls.no_room {w0 W : World} {L : List Nat} (h : Ext w0 W) (k : Kept W L W) : Cls w0 W L [] W := ⟨h, k, by simp⟩
theorem Cls.one_room {w0 W : World} {L : List Nat} {r n : Nat} {vs : List Value} {T : TypeId} (h : Ext w0 W) (k : Kept W L W) (hb : Blk W r vs T) (hn : vs.length = n) : Cls w0 W L [(r, n, T)] W :=
  ⟨h, k, by simp only [List.mem_singleton]; rintro x rfl; exact ⟨hb.lt, vs, hn, hb⟩⟩

/-- a slice's cells -/
def SlcAt (n : Nat) (xs : List Value) (b : Option Addr × Nat) (w : World) : Prop := n ≤ b.2 ∧ b.2 ≤ 9223372036854775807 ∧ (b.1 = none → b.2 = 0) ∧ Cells w b.1 xs
theorem SlcAt.ext {n : Nat} {xs : List Value} : ∀ (b : Option Addr × Nat) (w w' : World), SlcAt n xs b w → Ext w w' → SlcAt n xs b w' := fun _ _ _ h he => ⟨h.1, h.2.1, h.2.2.1, h.2.2.2.ext he⟩

/-- a load of what a block holds, taken first -/
theorem yieldsI_loadw {o : Oper} {a : Act} (hw : Region.wanted o (yielded ops a.tmps) = true) (ty : TypeId) (x : Operand) (ho : o.op = .load ty x) {g : Nat} {vs : List Value} {T : TypeId} {n : Nat}
    (hx : a.eval x = .pointer (some ⟨g, 0, none⟩)) (hb : ∀ w, S w → Blk w g vs T) (ht : AggT P ty n) (hn : vs.length = n) : YieldsIf P ops S o (.agg vs.toArray) a := by
  refine .inl ⟨hw, fun w hw => ?_⟩
  have h1 := run_load_sub (P := P) (off := 0) (hb w hw) ht (by omega)
  have h2 : (vs.drop 0).take n = vs := by simp [← hn]
  rw [h2] at h1
  unfold execOp
  simp only [ho, hx, Instr.loadAt, Instr.sureAddr, Sem.run_bind, Sem.run_pure, Result.andThen_ok, h1]
end
end

section
open Go

/-- i waits for j -/
def waits (ops : Array Oper) (i j : Nat) : Bool := (ops[i]?).any fun o => o.after.any fun e => Region.binds .any e && e.on == j

def dstOf (ops : Array Oper) (i : Nat) : Option Tmp := (ops[i]?).bind (·.dst)

def noSel (o : Oper) : Bool := match o.op with | .select .. => false | _ => true

def clsOk (ops : Array Oper) (n : Nat) : Bool :=
  ((List.range ops.size).all fun i => (ops[i]?).all fun o => o.after.all fun e => !Region.binds .any e || decide (e.on < i)) &&
  ((List.range n).all fun i => (ops[i]?).all fun o => noSel o &&
    ((List.range n).all fun j => (dstOf ops j).all fun t => (i == j || o.dst != some t) &&
          (!(o.looksAt ops).contains t || ((decide (i ≤ j) || waits ops i j) && (decide (j ≤ i) || waits ops j i))))) &&
  ((decide (n = ops.size) || (List.range n).all fun i => (List.range (n + 1)).any fun j => decide (i < j) && waits ops j i) &&
   ((List.range ops.size).all fun t => decide (t ≤ n) || waits ops t (t - 1))) &&
  decide (n ≤ ops.size)

section
variable {P : Program} {ops : Array Oper} {Q : Exit → Act → World → Prop}

theorem wp_region_inv {id : Nat} {a : Act} {w : World} (I : Array Bool → Act → World → Prop) (hm : P.follows .mixedOrders = true)
    (h0 : I (Array.replicate ops.size false) a { w with drawn := w.drawn + 1 })
    (hstep : ∀ listed a w i, listed.size = ops.size → I listed a w → i ∈ Region.ready .any ops listed → wpOp P ops Q i (I (listed.setIfInBounds i true)) a w)
    (hend : ∀ listed a w, listed.size = ops.size → I listed a w → Region.ready .any ops listed = [] → Q .normal a w) : (Code.region id ops true).wp P Q a w := by
  refine wp_region_any hm ?_
  have key : ∀ (f : Nat) (listed : Array Bool) (a : Act) (w : World), listed.size = ops.size → (listed.toList.count false ≤ f) → I listed a w → wpAny P .any ops Q f listed a w := by
    intro f
    induction f with
    | zero =>
      intro listed a w hs hf hI
      have hr : Region.ready .any ops listed = [] := by
        apply List.eq_nil_iff_forall_not_mem.2
        intro i hi
        obtain ⟨h1, o, ho, _⟩ := mem_ready.1 hi
        have hlt : i < listed.size := by
          rw [hs]; exact (Array.getElem?_eq_some_iff.1 ho).1
        have h2 : listed[i] = false := by simpa [hlt] using h1
        have h3 : false ∈ listed.toList := by rw [← h2]; simp
        have := List.count_pos_iff.2 h3
        omega
      exact ⟨hr, hend _ _ _ hs hI hr⟩
    | succ f ih =>
      intro listed a w hs hf hI
      refine ⟨hend _ _ _ hs hI, fun i hi => ?_⟩
      refine wpOp_mono (fun a' w' h' => ih _ a' w' (by simpa using hs) ?_ h') (hstep _ _ _ _ hs hI hi)
      obtain ⟨h1, o, ho, _⟩ := mem_ready.1 hi
      have hlt : i < listed.size := by
        rw [hs]; exact (Array.getElem?_eq_some_iff.1 ho).1
      have h2 : listed[i] = false := by simpa [hlt] using h1
      have h4 : (listed.setIfInBounds i true).toList = listed.toList.set i true := by simp
      have h5 : listed.toList[i]'(by simpa using hlt) = false := by simpa using h2
      have h3 : false ∈ listed.toList := by rw [← h2]; simp
      have h6 := List.count_pos_iff.2 h3
      have h7 : List.count false (listed.toList.set i true) = List.count false listed.toList - 1 := by
        rw [List.count_set (by simpa using hlt), h5]
        rfl
      rw [h4, h7]
      omega
  refine key _ _ _ _ (by simp) ?_ h0
  simp

structure Agree (ops : Array Oper) (n : Nat) (vs : Nat → Value) (a0 : Act) (S : Nat → Bool) (a : Act) : Prop where
  dfs : a.defers = a0.defers
  sz : a.tmps.size = a0.tmps.size
  yes : ∀ t, t < a0.tmps.size → ∀ i, i < n → S i = true → dstOf ops i = some t → a.tmps[t]? = some (vs i)
  no : ∀ t, t < a0.tmps.size → (∀ i, i < n → S i = true → dstOf ops i ≠ some t) → a.tmps[t]? = a0.tmps[t]?

theorem Agree.put {n : Nat} {vs : Nat → Value} {a0 a : Act} {S S' : Nat → Bool} (h : Agree ops n vs a0 S a) {i : Nat} (hin : i < n) (hS : S i = false)
    (hS' : S' i = true) (hSS : ∀ j, j ≠ i → S' j = S j)
    (hd : ∀ j, j < n → j ≠ i → ∀ t, dstOf ops i = some t → dstOf ops j ≠ some t) : Agree ops n vs a0 S' (a.put (dstOf ops i) (vs i)) := by
  cases hdi : dstOf ops i with
  | none =>
    refine ⟨h.dfs, h.sz, fun t ht j hj hSj hdj => ?_, fun t ht hno => ?_⟩
    · have hji : j ≠ i := fun e => by subst e; rw [hdi] at hdj; cases hdj
      exact h.yes t ht j hj (by rw [← hSS j hji]; exact hSj) hdj
    · refine h.no t ht fun j hj hSj => ?_
      have hji : j ≠ i := fun e => by subst e; rw [hS] at hSj; cases hSj
      exact hno j hj (by rw [hSS j hji]; exact hSj)
  | some d =>
    refine ⟨h.dfs, by simp [Act.put, h.sz], fun t ht j hj hSj hdj => ?_, fun t ht hno => ?_⟩
    · by_cases hji : j = i
      · subst hji
        rw [hdi] at hdj
        cases hdj
        have : d < a.tmps.size := by rw [h.sz]; exact ht
        simp [Act.put, this]
      · have hne : d ≠ t := fun e => hd j hj hji d hdi (by rw [hdj, e])
        simp only [Act.put]
        rw [Array.getElem?_setIfInBounds_ne hne]
        exact h.yes t ht j hj (by rw [← hSS j hji]; exact hSj) hdj
    · have hne : d ≠ t := fun e => hno i hin hS' (by rw [hdi, e])
      simp only [Act.put]
      rw [Array.getElem?_setIfInBounds_ne hne]
      refine h.no t ht fun j hj hSj => ?_
      have hji : j ≠ i := fun e => by subst e; rw [hS] at hSj; cases hSj
      exact hno j hj (by rw [hSS j hji]; exact hSj)

theorem Agree.same {n : Nat} {vs : Nat → Value} {a0 a a' : Act} {S S' : Nat → Bool} (h : Agree ops n vs a0 S a) (h' : Agree ops n vs a0 S' a') {t : Nat}
    (hSS : ∀ j, j < n → dstOf ops j = some t → S j = S' j) : a.tmps[t]? = a'.tmps[t]? := by
  by_cases ht : t < a0.tmps.size
  · by_cases he : ∃ i, i < n ∧ S i = true ∧ dstOf ops i = some t
    · obtain ⟨i, hi, hSi, hdi⟩ := he
      rw [h.yes t ht i hi hSi hdi, h'.yes t ht i hi (by rw [← hSS i hi hdi]; exact hSi) hdi]
    · have hn : ∀ i, i < n → S i = true → dstOf ops i ≠ some t := fun i hi hs hd => he ⟨i, hi, hs, hd⟩
      rw [h.no t ht hn, h'.no t ht fun i hi hs hd => hn i hi (by rw [hSS i hi hd]; exact hs) hd]
  · have h1 : ¬ t < a.tmps.size := by rw [h.sz]; exact ht
    have h2 : ¬ t < a'.tmps.size := by rw [h'.sz]; exact ht
    simp [h1, h2]

theorem Agree.eq {n : Nat} {vs : Nat → Value} {a0 a a' : Act} {S S' : Nat → Bool} (h : Agree ops n vs a0 S a) (h' : Agree ops n vs a0 S' a')
    (hSS : ∀ j, j < n → S j = S' j) : a = a' := by
  have e1 : a.tmps = a'.tmps := by
    apply Array.ext_getElem?
    intro t
    exact h.same h' fun j hj _ => hSS j hj
  have e2 : a.defers = a'.defers := by rw [h.dfs, h'.dfs]
  cases a; cases a'; simp_all

theorem Agree.eval {n : Nat} {vs : Nat → Value} {a0 a a' : Act} {S S' : Nat → Bool} (h : Agree ops n vs a0 S a) (h' : Agree ops n vs a0 S' a') {o : Oper}
    (hs : noSel o = true) (hSS : ∀ j, j < n → ∀ t, dstOf ops j = some t → t ∈ o.looksAt ops → S j = S' j) :
    execOp a.eval o = execOp a'.eval o ∧ Region.wanted o (yielded ops a.tmps) = Region.wanted o (yielded ops a'.tmps) := by
  have ht : ∀ t, t ∈ o.looksAt ops → a.tmps[t]? = a'.tmps[t]? := fun t htm => h.same h' fun j hj hd => hSS j hj t hd htm
  constructor
  · refine execOp_congr o (fun cs b e => by simp [noSel, e] at hs) fun x hx => ?_
    cases x with
    | tmp t =>
      have := ht t (List.mem_append_left _ (List.mem_filterMap.2 ⟨.tmp t, by simpa using hx, rfl⟩))
      simp [Act.eval, this]
    | _ => rfl
  · unfold Region.wanted
    cases hg : o.guard with
    | none => rfl
    | some g =>
      obtain ⟨j, want⟩ := g
      simp only [yielded]
      cases hd : (ops[j]?).bind (·.dst) with
      | none => simp
      | some t =>
        have := ht t (List.mem_append_right _ (by simp [hg, hd]))
        simp [this]

theorem lex_vals {C : World → Prop} {K : Act → Prop} : ∀ (l : List Oper) (k : Nat) (a : Act), (∀ j, j < l.length → ops[k + j]? = l[j]?) → wpQuiet P ops C K l a →
    ∃ (vs : Nat → Value) (st : Nat → Act), st k = a ∧ (∀ j, k ≤ j → j < k + l.length → st (j + 1) = (st j).put (dstOf ops j) (vs j) ∧ ∃ o, ops[j]? = some o ∧ YieldsIn P ops C o (vs j) (st j)) ∧ K (st (k + l.length))
  | [], k, a, _, h => ⟨fun _ => undef, fun _ => a, rfl, fun j h1 h2 => by simp at h2; omega, h⟩
  | o :: l, k, a, hl, h => by
    have h0 : ops[k]? = some o := by simpa using hl 0 (by simp)
    have hq : qOp P ops C k (wpQuiet P ops C K l) a := by unfold qOp; simp only [h0]; exact h
    obtain ⟨v, hy, hK⟩ := yieldsIn_of_qOp h0 hq
    obtain ⟨vs, st, h1, h2, h3⟩ := lex_vals l (k + 1) _ (fun j hj => by
      have := hl (j + 1) (by simpa using hj)
      simpa [Nat.add_assoc, Nat.add_comm 1 j] using this) hK
    refine ⟨fun j => if j = k then v else vs j, fun j => if j = k then a else st j, by simp, fun j hj hj' => ?_, ?_⟩
    · by_cases hjk : j = k
      · subst hjk
        simp only [if_true, if_neg (show j + 1 ≠ j by omega)]
        refine ⟨by rw [h1]; simp [dstOf, h0], o, h0, hy⟩
      · simp only [if_neg hjk, if_neg (show j + 1 ≠ k by omega)]
        exact h2 j (by omega) (by simp only [List.length_cons] at hj'; omega)
    · simp only [List.length_cons, if_neg (show k + (l.length + 1) ≠ k by omega)]
      have e : k + (l.length + 1) = k + 1 + l.length := by omega
      rw [e]; exact h3

theorem clsOk_spec {n : Nat} (h : clsOk ops n = true) :
    (∀ i o, ops[i]? = some o → ∀ e ∈ o.after, Region.binds .any e = true → e.on < i) ∧
    (∀ i o, i < n → ops[i]? = some o → noSel o = true ∧ ∀ j t, j < n → dstOf ops j = some t → (i ≠ j → o.dst ≠ some t) ∧ (t ∈ o.looksAt ops → (j < i → waits ops i j = true) ∧ (i < j → waits ops j i = true))) ∧
    ((n < ops.size → ∀ i, i < n → ∃ j, i < j ∧ j ≤ n ∧ waits ops j i = true) ∧ (∀ t, n < t → t < ops.size → waits ops t (t - 1) = true)) ∧ n ≤ ops.size := by
  simp only [clsOk, Bool.and_eq_true, List.all_eq_true, List.any_eq_true, List.mem_range, Option.all_eq_true, Bool.or_eq_true, decide_eq_true_eq, Bool.not_eq_true', Array.all_eq_true', beq_iff_eq, bne_iff_ne] at h
  obtain ⟨⟨⟨h1, h2⟩, h3, h5⟩, h4⟩ := h
  refine ⟨fun i o ho e he hb => ?_, fun i o hi ho => ?_, ⟨fun hn i hi => ?_, fun t ht ht' => ?_⟩, h4⟩
  · rcases h1 i (Array.getElem?_eq_some_iff.1 ho).1 o ho e he with h | h
    · rw [hb] at h; cases h
    · exact h
  · obtain ⟨a, b⟩ := h2 i hi o ho
    refine ⟨a, fun j t hj hd => ?_⟩
    obtain ⟨c, d⟩ := b j hj t hd
    refine ⟨fun hne => ?_, fun hm => ?_⟩
    · rcases c with c | c
      · exact absurd c hne
      · exact c
    · rcases d with d | ⟨d1, d2⟩
      · rw [List.contains_iff_mem.2 hm] at d; cases d
      · refine ⟨fun hlt => ?_, fun hlt => ?_⟩
        · rcases d1 with d1 | d1
          · omega
          · exact d1
        · rcases d2 with d2 | d2
          · omega
          · exact d2
  · rcases h3 with h | h
    · omega
    · obtain ⟨j, hj, hij, hw⟩ := h i hi
      exact ⟨j, hij, by omega, hw⟩
  · rcases h5 t ht' with h | h
    · omega
    · exact h

theorem waits_spec {i j : Nat} (h : waits ops i j = true) : ∃ o, ops[i]? = some o ∧ ∃ e ∈ o.after, Region.binds .any e = true ∧ e.on = j := by
  unfold waits at h
  cases ho : ops[i]? with
  | none => rw [ho] at h; cases h
  | some o =>
    rw [ho] at h
    simp only [Option.any_some, Array.any_eq_true', Bool.and_eq_true, beq_iff_eq] at h
    obtain ⟨e, he, hb, hj⟩ := h
    exact ⟨o, rfl, e, he, hb, hj⟩

theorem getD_ft {listed : Array Bool} {i : Nat} (hi : i < listed.size) : listed.getD i true = listed.getD i false := by
  simp [hi]

theorem mem_ready_of {listed : Array Bool} {m : Nat} (hs : listed.size = ops.size) (hm : m < ops.size) (hun : listed.getD m false = false) (hall : ∀ j, j < m → listed.getD j false = true)
    (he : ∀ o, ops[m]? = some o → ∀ e ∈ o.after, Region.binds .any e = true → e.on < m) : m ∈ Region.ready .any ops listed := by
  have ho : ops[m]? = some ops[m] := by simp [hm]
  exact mem_ready.2 ⟨by rw [getD_ft (by omega)]; exact hun, ops[m], ho, fun e hem hb => hall _ (he _ ho e hem hb)⟩

/-- A region whose order is drawn: the first n operations only read and call quietly, in every world of the class C; the others come behind all of them, one by one. -/
theorem wp_region_cls {id : Nat} {a : Act} {w : World} {l : List Oper} {C : World → Prop} (n : Nat) (hm : P.follows .mixedOrders = true) (hB : clsOk l.toArray n = true) (hC : C w.drew)
    (h : wpQuiet P l.toArray C (fun a' => ∀ w', C w' → wpList P l.toArray Q (l.drop n) a' w') (l.take n) a) : (Code.region id l.toArray true).wp P Q a w := by
  obtain ⟨b1, b2, ⟨b3, b5⟩, b4⟩ := clsOk_spec hB
  have hnl : n ≤ l.length := by simpa using b4
  have htl : (l.take n).length = n := by simp [hnl]
  obtain ⟨vs, st, hst0, hst, hK⟩ := lex_vals (l.take n) 0 a (fun j hj => by
    have hj' : j < n := by rw [htl] at hj; exact hj
    simp [hj']) h
  rw [htl] at hst hK
  simp only [Nat.zero_add] at hst hK
  have hag : ∀ i, i ≤ n → Agree l.toArray n vs a (fun j => decide (j < i)) (st i) := by
    intro i
    induction i with
    | zero =>
      intro _
      rw [hst0]
      exact ⟨rfl, rfl, fun _ _ _ _ h => by simp at h, fun _ _ _ => rfl⟩
    | succ i ih =>
      intro hi
      obtain ⟨h1, o, ho, _⟩ := hst i (Nat.zero_le _) (by omega)
      rw [h1]
      refine (ih (by omega)).put (by omega) (by simp) (by simp) (fun j hj => ?_) (fun j hj hji t hd => ?_)
      · simp; omega
      · intro hd'
        have := ((b2 i o (by omega) ho).2 j t hj hd').1 (Ne.symm hji)
        simp only [dstOf, ho] at hd
        exact this hd
  refine wp_region_inv (I := fun listed a' w' =>
    ((∀ t, n ≤ t → listed.getD t false = false) ∧ (∀ i, listed.getD i false = true → ∀ o, l.toArray[i]? = some o → ∀ e ∈ o.after, Region.binds .any e = true → listed.getD e.on false = true) ∧
      Agree l.toArray n vs a (fun j => listed.getD j false) a' ∧ C w') ∨
    (∃ m, n ≤ m ∧ m ≤ l.length ∧ (∀ j, j < l.length → listed.getD j false = decide (j < m)) ∧ wpList P l.toArray Q (l.drop m) a' w')) hm ?_ ?_ ?_
  · refine .inl ⟨fun t _ => ?_, fun i hi => ?_, ⟨rfl, rfl, fun _ _ _ _ h => ?_, fun _ _ _ => rfl⟩, hC⟩
    · simp [Array.getElem?_replicate]
      split <;> rfl
    · exfalso
      simp [Array.getElem?_replicate] at hi
      split at hi <;> cases hi
    · exfalso
      simp [Array.getElem?_replicate] at h
      split at h <;> cases h
  · intro listed a' w' i hsz hI hi
    obtain ⟨hun, o, ho, hall⟩ := mem_ready.1 hi
    have hil : i < l.length := by simpa using (Array.getElem?_eq_some_iff.1 ho).1
    have hun' : listed.getD i false = false := by rw [← getD_ft (by rw [hsz]; simpa using hil)]; exact hun
    have hw8 : ∀ j, waits l.toArray i j = true → listed.getD j false = true := fun j hj => by
      obtain ⟨o', ho', e, he, hb, hon⟩ := waits_spec hj
      have : o' = o := Option.some.inj (ho'.symm.trans ho)
      subst this
      rw [← hon]; exact hall e he hb
    have two : ∀ m, n ≤ m → m ≤ l.length → (∀ j, j < l.length → listed.getD j false = decide (j < m)) → wpList P l.toArray Q (l.drop m) a' w' →
        wpOp P l.toArray Q i (fun a'' w'' => (∃ m, n ≤ m ∧ m ≤ l.length ∧ (∀ j, j < l.length → (listed.setIfInBounds i true).getD j false = decide (j < m)) ∧ wpList P l.toArray Q (l.drop m) a'' w'')) a' w' := by
      intro m hnm hml hlist hw
      have him : i = m := by
        have h1 : ¬ i < m := fun hlt => by have := hlist i hil; rw [hun'] at this; simp at this; omega
        rcases Nat.lt_or_ge m i with h2 | h2
        · have h3 := hw8 (i - 1) (b5 i (by omega) (by simpa using hil))
          have h4 := hlist (i - 1) (by omega)
          rw [h3] at h4; simp at h4; omega
        · omega
      subst him
      have hd : l.drop i = o :: l.drop (i + 1) := by
        have ho' : l[i] = o := by
          have := (Array.getElem?_eq_some_iff.1 ho).2
          simpa using this
        rw [← ho']; exact List.drop_eq_getElem_cons hil
      rw [hd] at hw
      have hw' : wpOp P l.toArray Q i (wpList P l.toArray Q (l.drop (i + 1))) a' w' := by
        unfold wpOp; simp only [ho]; exact hw
      refine wpOp_mono (fun a'' w'' h'' => ⟨i + 1, by omega, by omega, fun j hj => ?_, h''⟩) hw'
      by_cases hji : j = i
      · subst hji
        have : j < listed.size := by rw [hsz]; simpa using hil
        simp [this]
      · have hne : i ≠ j := Ne.symm hji
        have h9 := hlist j hj
        simp only [Array.getD_eq_getD_getElem?] at h9 ⊢
        rw [Array.getElem?_setIfInBounds_ne hne, h9]
        by_cases hjl : j < i
        · simp [hjl]; omega
        · simp [hjl]; omega
    rcases hI with ⟨hno, hdc, hA, hCw⟩ | ⟨m, hnm, hml, hlist, hw⟩
    · by_cases hin : i < n
      · obtain ⟨_, o', ho', hy⟩ := hst i (Nat.zero_le _) hin
        have : o' = o := Option.some.inj (ho'.symm.trans ho)
        subst this
        obtain ⟨b21, b22⟩ := b2 i o' hin ho
        have hev := hA.eval (hag i (by omega)) (o := o') b21 (fun j hj t hd ht => by
          obtain ⟨_, c2⟩ := b22 j t hj hd
          obtain ⟨c3, c4⟩ := c2 ht
          rcases Nat.lt_trichotomy j i with h1 | h1 | h1
          · simp only [h1, decide_true]; exact hw8 j (c3 h1)
          · subst h1; simp only [Nat.lt_irrefl, decide_false]; exact hun'
          · have : ¬ j < i := by omega
            simp only [this, decide_false]
            cases hl : listed.getD j false with
            | false => rfl
            | true =>
              obtain ⟨oj, hoj, e, he, hb, hon⟩ := waits_spec (c4 h1)
              have := hdc j hl oj hoj e he hb
              rw [hon, hun'] at this; cases this)
        have hy' : YieldsIn P l.toArray C o' (vs i) a' := hy.of_same hev.1 hev.2
        have hq : qOp P l.toArray C i (fun a'' => a'' = a'.put o'.dst (vs i)) a' := hy'.qOp ho rfl
        refine wpOp_of_qOp hCw (fun a'' w'' hCw'' he => ?_) hq
        subst he
        refine .inl ⟨fun t ht => ?_, fun k hk ok hok e he hb => ?_, ?_, hCw''⟩
        · have hne : i ≠ t := by omega
          have h9 := hno t ht
          simp only [Array.getD_eq_getD_getElem?] at h9 ⊢
          rw [Array.getElem?_setIfInBounds_ne hne]; exact h9
        · have hset : ∀ j, listed.getD j false = true → (listed.setIfInBounds i true).getD j false = true := fun j hj => by
            by_cases hji : i = j
            · subst hji; rw [hun'] at hj; cases hj
            · simp only [Array.getD_eq_getD_getElem?] at hj ⊢
              rw [Array.getElem?_setIfInBounds_ne hji]; exact hj
          by_cases hki : i = k
          · subst hki
            have : ok = o' := Option.some.inj (hok.symm.trans ho)
            subst this
            exact hset _ (hall e he hb)
          · refine hset _ (hdc k ?_ ok hok e he hb)
            simp only [Array.getD_eq_getD_getElem?] at hk ⊢
            rw [Array.getElem?_setIfInBounds_ne hki] at hk; exact hk
        · have hdo : o'.dst = dstOf l.toArray i := by simp [dstOf, ho]
          rw [hdo]
          refine hA.put hin hun' ?_ (fun j hj => ?_) (fun j hj hji t hd hd' => ?_)
          · have : i < listed.size := by rw [hsz]; simpa using hil
            simp [this]
          · have hne : i ≠ j := Ne.symm hj
            simp only [Array.getD_eq_getD_getElem?]
            rw [Array.getElem?_setIfInBounds_ne hne]
          · have := (b22 j t hj hd').1 (Ne.symm hji)
            rw [← hdo] at hd
            exact this hd
      · have hin2 : i = n := by
          rcases Nat.lt_or_ge n i with h1 | h1
          · have h2 := hw8 (i - 1) (b5 i h1 (by simpa using hil))
            rw [hno (i - 1) (by omega)] at h2; cases h2
          · omega
        have hall2 : ∀ j, j < i → listed.getD j false = true := by
          have key : ∀ d j, i - j = d → j < i → listed.getD j false = true := by
            intro d
            induction d using Nat.strongRecOn with
            | _ d ih =>
              intro j hd hj
              obtain ⟨k, hjk, hkn, hw⟩ := b3 (by simpa [hin2] using hil) j (by omega)
              by_cases hki : k = i
              · subst hki; exact hw8 j hw
              · have hk := ih (i - k) (by omega) k rfl (by omega)
                obtain ⟨ok, hok, e, he, hb, hon⟩ := waits_spec hw
                rw [← hon]; exact hdc k hk ok hok e he hb
          exact fun j hj => key _ j rfl hj
        have hae : a' = st n := hA.eq (hag n (Nat.le_refl _)) fun j hj => by
          rw [hall2 j (by omega)]; simp [hj]
        refine wpOp_mono (fun a'' w'' h'' => .inr h'') (two n (Nat.le_refl _) (by omega) (fun j hj => ?_) (by rw [hae]; exact hK w' hCw))
        by_cases hjn : j < n
        · rw [hall2 j (by omega)]; simp [hjn]
        · rw [hno j (by omega)]; simp [hjn]
    · exact wpOp_mono (fun a'' w'' h'' => .inr h'') (two m hnm hml hlist hw)
  · intro listed a' w' hsz hI hr
    have hsz' : listed.size = l.length := by rw [hsz]; simp
    rcases hI with ⟨hno, hdc, hA, hCw⟩ | ⟨m, hnm, hml, hlist, hw⟩
    · have hall : ∀ i, i < l.length → listed.getD i false = true := by
        intro i
        induction i using Nat.strongRecOn with
        | _ i ih =>
          intro hi
          cases hl : listed.getD i false with
          | true => rfl
          | false =>
            have := mem_ready_of (ops := l.toArray) hsz (by simpa using hi) hl (fun j hj => ih j hj (by omega)) (fun o ho e he hb => b1 i o ho e he hb)
            rw [hr] at this; cases this
      have hn : n = l.length := by
        rcases Nat.lt_or_ge n l.length with h1 | h1
        · have := hall n h1
          rw [hno n (Nat.le_refl _)] at this; cases this
        · omega
      have hae : a' = st n := hA.eq (hag n (Nat.le_refl _)) fun j hj => by
        rw [hall j (by omega)]; simp [hj]
      have := hK w' hCw
      rw [hae]
      rw [hn, List.drop_length] at this
      rw [hn]
      exact this
    · have hml' : m = l.length := by
        rcases Nat.lt_or_ge m l.length with h1 | h1
        · have := mem_ready_of (ops := l.toArray) hsz (by simpa using h1) (by rw [hlist m h1]; simp) (fun j hj => by rw [hlist j (by omega)]; simp [hj]) (fun o ho e he hb => b1 m o ho e he hb)
          rw [hr] at this; cases this
        · omega
      rw [hml', List.drop_length] at hw
      exact hw
end
end

section
open Go Go.RowKit

theorem and31_u64 (k : Nat) (h : k < 32) : bits .and .u64 (k : Int) 31 = (k : Int) := by
  have ea : (BitVec.ofInt 64 (k : Int)).toNat = k := by simp; omega
  have eb : (BitVec.ofInt 64 (31 : Int)).toNat = 31 := by simp
  change IntKind.u64.wrap ((BitVec.ofInt 64 (k : Int) &&& BitVec.ofInt 64 31).toNat : Int) = _
  rw [BitVec.toNat_and, ea, eb, Nat.and_two_pow_sub_one_eq_mod k 5, IntKind.wrap_u64]; omega

theorem rot_int (x : UInt32) (k : Nat) : bits .or .u32 ((x.toNat : Int) * 2 ^ k % 4294967296) ((x.toNat : Int) / 2 ^ (32 - k)) = ((rotl x k).toNat : Int) := by
  have e1 : (x.toNat : Int) * 2 ^ k % 4294967296 = ((x.toNat * 2 ^ k % 4294967296 : Nat) : Int) := by
    rw [Int.natCast_emod, Int.natCast_mul, Int.natCast_pow]; rfl
  have e2 : (x.toNat : Int) / 2 ^ (32 - k) = ((x.toNat / 2 ^ (32 - k) : Nat) : Int) := by
    rw [Int.natCast_ediv, Int.natCast_pow]; rfl
  rw [e1, e2, (bits_u32 _ _ (Nat.mod_lt _ (by omega)) (Nat.lt_of_le_of_lt (Nat.div_le_self _ _) x.toNat_lt)).2.1, rotl_nat]

set_option maxHeartbeats 400000 in
theorem rot_c (x : UInt32) (k : Nat) (w : World) (h1 : k < 32) :
    Calls Tryz.prog 155 #[.int .u32 x.toNat, .int .i64 k] w fun e w' => e = .returned (.int .u32 (rotl x k).toNat) ∧ w = w' := by
  have hk := and31_u64 k h1
  have hx := u32_lt x
  go_enter Tryz.func155, Tryz.ntmps155
  go_wp2
  go_ret
  refine ⟨?_, rfl⟩
  rw [← rot_int]; rfl

set_option maxHeartbeats 400000 in
theorem rturn_c (x : UInt32) (k : Nat) (w : World) (h1 : k < 32) :
    Calls Tryz.prog 102 #[.int .u32 x.toNat, .int .i64 k] w fun e w' => e = .returned (.int .u32 (rotl x k).toNat) ∧ ∃ n, w' = w.drewN n := by
  have hx := u32_lt x
  have h0 : 0 ≤ (k : Int) := by omega
  have h3 : (k : Int) ≤ 32 := by omega
  have h4 : (0 : Int) ≤ 32 - (k : Int) := by omega
  have h5 : IntKind.i64.wrap (32 - (k : Int)) = 32 - (k : Int) := IntWalk.i64_in _ (by omega)
  have h6 : (32 - (k : Int)).toNat = 32 - k := by omega
  have h7 : IntKind.u32.wrap ((x.toNat : Int) * 2 ^ k) = (x.toNat : Int) * 2 ^ k % 4294967296 := IntKind.wrap_u32' _
  go_enter Tryz.func102, Tryz.ntmps102
  go_wp2
  go_quiet (fail)
  go_wp2
  go_ret
  exact ⟨by rw [← rot_int]; rfl, nq, rfl⟩

/-- what is added to a word -/
def turnW (ws : List UInt32) (r i : Nat) : UInt32 := rotl (ws.getD ((i + 1 + r) % 16) 0) (5 + i) ^^^ UInt32.ofNat (2654435769 * (16 * r + i + 1))

theorem mulc_int (m : Nat) : (2654435769 * (m : Int) % 4294967296) = ((UInt32.ofNat (2654435769 * m)).toNat : Int) := by
  rw [UInt32.toNat_ofNat']; omega
theorem turn_int (ws : List UInt32) (r i : Nat) : bits .xor .u32 ((rotl (ws[(i + 1 + r) % 16]?.getD 0) (5 + i)).toNat : Int) (2654435769 * (16 * (r : Int) + i + 1) % 4294967296) = ((turnW ws r i).toNat : Int) := by
  have e : (16 * (r : Int) + i + 1) = ((16 * r + i + 1 : Nat) : Int) := by omega
  rw [e, mulc_int, xor_u32]; simp [turnW]

set_option maxHeartbeats 400000 in
theorem turn_c (g : Nat) (ws : List UInt32) (r i : Nat) (w : World) (hr : r < 8) (hi : i < 16) (hc : ∀ j, j < 16 → w.cell? ⟨g, j, none⟩ = some (u32v (ws.getD j 0))) :
    Calls Tryz.prog 154 #[.pointer (some ⟨g, 0, none⟩), .int .i64 r, .int .i64 i] w fun e w' => e = .returned (.int .u32 (turnW ws r i).toNat) ∧ w = w' := by
  have hc1 := hc ((i + 1 + r) % 16) (by omega)
  clear hc
  go_enter Tryz.func154, Tryz.ntmps154
  go_wp2_with (go_at_call 155; refine (rot_c _ (5 + i) _ (by omega)).mono ?_; rintro e w' ⟨rfl, rfl⟩)
  go_ret
  refine ⟨?_, rfl⟩
  rw [← turn_int]; rfl
end

section
open Go Go.RowKit

def wordOf (a b c d : UInt8) : UInt32 := UInt32.ofNat (a.toNat * 16777216 + b.toNat * 65536 + c.toNat * 256 + d.toNat)

theorem or_add (a b k : Nat) (h : b < 2 ^ k) : (a * 2 ^ k ||| b) = a * 2 ^ k + b := by
  rw [Nat.mul_comm, ← Nat.two_pow_add_eq_or_of_lt h]

theorem word_int (a b c d : UInt8) : bits .or .u32 (bits .or .u32 (bits .or .u32 ((a.toNat : Int) * 16777216) ((b.toNat : Int) * 65536)) ((c.toNat : Int) * 256)) (d.toNat : Int) = ((wordOf a b c d).toNat : Int) := by
  have ha := a.toNat_lt
  have hb := b.toNat_lt
  have hc := c.toNat_lt
  have hd := d.toNat_lt
  have e1 : (a.toNat : Int) * 16777216 = ((a.toNat * 16777216 : Nat) : Int) := by omega
  have e2 : (b.toNat : Int) * 65536 = ((b.toNat * 65536 : Nat) : Int) := by omega
  have e3 : (c.toNat : Int) * 256 = ((c.toNat * 256 : Nat) : Int) := by omega
  rw [e1, e2, e3, (bits_u32 _ _ (by omega) (by omega)).2.1]
  have f1 : (a.toNat * 16777216 ||| b.toNat * 65536) = a.toNat * 16777216 + b.toNat * 65536 := or_add a.toNat (b.toNat * 65536) 24 (by omega)
  rw [f1, (bits_u32 _ _ (by omega) (by omega)).2.1]
  have f2 : (a.toNat * 16777216 + b.toNat * 65536 ||| c.toNat * 256) = a.toNat * 16777216 + b.toNat * 65536 + c.toNat * 256 := by
    have := or_add (a.toNat * 256 + b.toNat) (c.toNat * 256) 16 (by omega)
    have e : (a.toNat * 256 + b.toNat) * 2 ^ 16 = a.toNat * 16777216 + b.toNat * 65536 := by omega
    rwa [e] at this
  rw [f2, (bits_u32 _ _ (by omega) (by omega)).2.1]
  have f3 : (a.toNat * 16777216 + b.toNat * 65536 + c.toNat * 256 ||| d.toNat) = a.toNat * 16777216 + b.toNat * 65536 + c.toNat * 256 + d.toNat := by
    have := or_add (a.toNat * 65536 + b.toNat * 256 + c.toNat) d.toNat 8 (by omega)
    have e : (a.toNat * 65536 + b.toNat * 256 + c.toNat) * 2 ^ 8 = a.toNat * 16777216 + b.toNat * 65536 + c.toNat * 256 := by omega
    rwa [e] at this
  rw [f3]
  unfold wordOf
  rw [UInt32.toNat_ofNat']; omega

set_option maxHeartbeats 400000 in
theorem word_c (a b c d : UInt8) (w : World) :
    Calls Tryz.prog 163 #[.agg #[.int .u8 a.toNat, .int .u8 b.toNat, .int .u8 c.toNat, .int .u8 d.toNat]] w fun e w' => e = .returned (.int .u32 (wordOf a b c d).toNat) ∧ Ext w w' := by
  have ha := u8_lt a
  have hb := u8_lt b
  have hc := u8_lt c
  have hd := u8_lt d
  go_enter Tryz.func163, Tryz.ntmps163
  go_wp2
  go_ret
  refine ⟨?_, (Ext.refl _).alloc _⟩
  rw [← word_int]; rfl

/-- the four octets of a word -/
def octL (n : UInt32) : List UInt8 := [UInt8.ofNat (n.toNat / 16777216), UInt8.ofNat (n.toNat / 65536), UInt8.ofNat (n.toNat / 256), UInt8.ofNat n.toNat]

theorem u8_ofNat (m : Nat) : ((UInt8.ofNat m).toNat : Int) = (m : Int) % 256 := by
  rw [UInt8.toNat_ofNat']; omega

theorem octL_vals (n : UInt32) : (octL n).map u8v = [.int .u8 ((n.toNat : Int) / 16777216 % 256), .int .u8 ((n.toNat : Int) / 65536 % 256), .int .u8 ((n.toNat : Int) / 256 % 256), .int .u8 ((n.toNat : Int) % 256)] := by
  simp only [octL, List.map_cons, List.map_nil, u8v, u8_ofNat, Int.natCast_ediv, Int.cast_ofNat_Int]

set_option maxHeartbeats 400000 in
theorem octets_c (n : UInt32) (w : World) :
    Calls Tryz.prog 142 #[.int .u32 n.toNat] w fun e w' => e = .returned (.agg ((octL n).map u8v).toArray) ∧ Ext w w' := by
  rw [octL_vals]
  go_enter Tryz.func142, Tryz.ntmps142
  go_wp2
  exact bodyPost_ret (v := .agg #[.int .u8 ((n.toNat : Int) / 16777216 % 256), .int .u8 ((n.toNat : Int) / 65536 % 256), .int .u8 ((n.toNat : Int) / 256 % 256), .int .u8 ((n.toNat : Int) % 256)])
    (by simp [results, Tryz.results142, go_sem]) rfl ⟨rfl, (Ext.refl _).alloc _⟩

def longL (n : UInt64) : List UInt8 := octL (UInt32.ofNat (n.toNat / 4294967296)) ++ octL (UInt32.ofNat n.toNat)

theorem u32_ofNat (m : Nat) : ((UInt32.ofNat m).toNat : Int) = (m : Int) % 4294967296 := by
  rw [UInt32.toNat_ofNat']; omega

theorem octets_lit (n : UInt32) (w : World) :
    Calls Tryz.prog 142 #[.int .u32 n.toNat] w fun e w' => e = .returned (.agg #[.int .u8 ((n.toNat : Int) / 16777216 % 256), .int .u8 ((n.toNat : Int) / 65536 % 256), .int .u8 ((n.toNat : Int) / 256 % 256), .int .u8 ((n.toNat : Int) % 256)]) ∧ Ext w w' := by
  have := octets_c n w
  rw [octL_vals] at this
  exact this

theorem longL_vals (n : UInt64) : (longL n).map u8v = [.int .u8 (((UInt32.ofNat (n.toNat / 4294967296)).toNat : Int) / 16777216 % 256), .int .u8 (((UInt32.ofNat (n.toNat / 4294967296)).toNat : Int) / 65536 % 256), .int .u8 (((UInt32.ofNat (n.toNat / 4294967296)).toNat : Int) / 256 % 256), .int .u8 (((UInt32.ofNat (n.toNat / 4294967296)).toNat : Int) % 256),
    .int .u8 (((UInt32.ofNat n.toNat).toNat : Int) / 16777216 % 256), .int .u8 (((UInt32.ofNat n.toNat).toNat : Int) / 65536 % 256), .int .u8 (((UInt32.ofNat n.toNat).toNat : Int) / 256 % 256), .int .u8 (((UInt32.ofNat n.toNat).toNat : Int) % 256)] := by
  unfold longL
  rw [List.map_append, octL_vals, octL_vals]; rfl

theorem agg_eight : AggT Tryz.prog 151 8 := ⟨⟨_, Tryz.underlying151, rfl⟩, by kernel_rfl⟩

set_option maxHeartbeats 400000 in
theorem longOctets_c (n : UInt64) (w : World) :
    Calls Tryz.prog 123 #[.int .u64 n.toNat] w fun e w' => e = .returned (.agg ((longL n).map u8v).toArray) ∧ Ext w w' := by
  rw [longL_vals]
  have hn : (n.toNat : Int) < 18446744073709551616 := by have := n.toNat_lt; omega
  have h1 : (n.toNat : Int) / 4294967296 = ((UInt32.ofNat (n.toNat / 4294967296)).toNat : Int) := by rw [u32_ofNat]; omega
  have h2 : ((n.toNat : Int) % 4294967296) = ((UInt32.ofNat n.toNat).toNat : Int) := by rw [u32_ofNat]
  generalize UInt32.ofNat (n.toNat / 4294967296) = x at *
  generalize UInt32.ofNat n.toNat = y at *
  go_enter Tryz.func123, Tryz.ntmps123
  go_wp2_with fail
  refine (octets_lit _ _).mono ?_
  rintro e w1 ⟨rfl, hb1⟩
  obtain ⟨hc1, hf1⟩ := bcell hb1
  have hz1 : w.heap.size < w1.heap.size := by have := hb1.size; simp at this; omega
  go_wp2_with fail
  refine (octets_lit _ _).mono ?_
  rintro e w2 ⟨rfl, hb2⟩
  obtain ⟨hc2, hf2⟩ := bcell hb2
  have hz2 : w.heap.size < w2.heap.size := by have := hb2.size; omega
  go_wp2_with fail
  have b2 : Ext w w2 := (((Ext.refl w).alloc _).ext hb1).ext hb2
  have k2 : Blk w2 w.heap.size (List.replicate 8 (.int .u8 0)) 151 :=
    ((Blk.alloc_new w (List.replicate 8 (.int .u8 0)) 151).below hb1 (by simp)).below hb2 hz1
  have k3 := ((((((((k2.set 0 (.int .u8 (↑x.toNat / 16777216 % 256))).set 1 (.int .u8 (↑x.toNat / 65536 % 256))).set 2 (.int .u8 (↑x.toNat / 256 % 256))).set 3 (.int .u8 (↑x.toNat % 256))).set 4 (.int .u8 (↑y.toNat / 16777216 % 256))).set 5 (.int .u8 (↑y.toNat / 65536 % 256))).set 6 (.int .u8 (↑y.toNat / 256 % 256))).set 7 (.int .u8 (↑y.toNat % 256)))
  refine ret_row (g := w.heap.size) rfl rfl ((k3.alloc _).alloc _) agg_eight rfl rfl ⟨rfl, ?_⟩
  refine Ext.alloc (Ext.alloc ?_ _) _
  iterate 8 refine Ext.set ?_ _ (Nat.le_refl _)
  exact b2
end

section
open Go Go.RowKit

def wordAt (l : List UInt8) (i : Nat) : UInt32 := wordOf (l[4 * i]?.getD 0) (l[4 * i + 1]?.getD 0) (l[4 * i + 2]?.getD 0) (l[4 * i + 3]?.getD 0)
def wordsL (l : List UInt8) : List UInt32 := (List.range 16).map (wordAt l)

theorem cell_u8 {w : World} {g : Nat} {l : List UInt8} {T : TypeId} (h : Blk w g (l.map u8v) T) {i : Nat} (hi : i < l.length) : w.cell? ⟨g, i, none⟩ = some (.int .u8 (((l[i]?.getD 0).toNat : Nat) : Int)) := by
  refine h.cell' ?_
  simp [hi, u8v]
theorem cell_u32 {w : World} {g : Nat} {l : List UInt32} {T : TypeId} (h : Blk w g (l.map u32v) T) {i : Nat} (hi : i < l.length) : w.cell? ⟨g, i, none⟩ = some (.int .u32 (((l[i]?.getD 0).toNat : Nat) : Int)) := by
  refine h.cell' ?_
  simp [hi, u32v]

theorem zeros32 (n : Nat) : (List.replicate n (0 : UInt32)).map u32v = List.replicate n (.int .u32 0) := by simp [u32v]
theorem zeros8 (n : Nat) : (List.replicate n (0 : UInt8)).map u8v = List.replicate n (.int .u8 0) := by simp [u8v]

theorem one_u8t : OneT Tryz.prog 5 := ⟨⟨_, Tryz.underlying5, rfl⟩, by kernel_rfl⟩
theorem one_u32t : OneT Tryz.prog 131 := ⟨⟨_, Tryz.underlying131, rfl⟩, by kernel_rfl⟩
theorem agg_words : AggT Tryz.prog 132 16 := ⟨⟨_, Tryz.underlying132, rfl⟩, by kernel_rfl⟩
theorem agg_state : AggT Tryz.prog 64 64 := ⟨⟨_, Tryz.underlying64, rfl⟩, by kernel_rfl⟩
theorem agg_four : AggT Tryz.prog 175 4 := ⟨⟨_, Tryz.underlying175, rfl⟩, by kernel_rfl⟩

set_option maxRecDepth 100000 in
set_option maxHeartbeats 400000 in
theorem wordsOf_c (l : List UInt8) (hl : l.length = 64) (w : World) :
    Calls Tryz.prog 153 #[.agg (l.map u8v).toArray] w fun e w' => e = .returned (.agg ((wordsL l).map u32v).toArray) ∧ Ext w w' := by
  have HL := hid hl
  clear hl
  go_enter Tryz.func153, Tryz.ntmps153
  go_wp2
  generalize hw3 : World.alloc _ _ = w3
  have k0 : Blk w3 w.heap.size (l.map u8v) 64 := by subst hw3; exact ((Blk.mk_alloc rfl rfl).alloc _).alloc _
  have k1 : Blk w3 (w.heap.size + 1) (List.replicate 16 (.int .u32 0)) 132 := by subst hw3; exact (Blk.mk_alloc (by simp) rfl).alloc _
  have k2 : Blk w3 (w.heap.size + 1 + 1) ((fill (wordAt l) 0 16 0).map u32v) 132 := by subst hw3; exact Blk.mk_alloc (by simp) (by rw [fill_zero, zeros32]; rfl)
  have b3 : Ext w w3 := by subst hw3; exact (((Ext.refl w).alloc _).alloc _).alloc _
  clear hw3
  go_loopw [5] (fun i wr => ∃ k : Nat, k ≤ 16 ∧ i = .int .i64 k ∧ Blk wr w.heap.size (l.map u8v) 64 ∧ Blk wr (w.heap.size + 1) (List.replicate 16 (.int .u32 0)) 132 ∧ Blk wr (w.heap.size + 1 + 1) ((fill (wordAt l) 0 16 k).map u32v) 132 ∧ Ext w wr)
    (fun i _ => 16 - (intOf i).toNat)
  case atStart => exact ⟨0, by omega, rfl, k0, k1, k2, b3⟩
  case round =>
    obtain ⟨k, hk, rfl, q0, q1, q2, bb⟩ := hrel
    by_cases hlt : k < 16
    · have h64 := HL.out
      have c0 := cell_u8 q0 (i := 4 * k) (by omega)
      have c1 := cell_u8 q0 (i := 4 * k + 1) (by omega)
      have c2 := cell_u8 q0 (i := 4 * k + 2) (by omega)
      have c3 := cell_u8 q0 (i := 4 * k + 3) (by omega)
      have z2 := cell_u32 q2 (i := k) (by rw [fill_length]; omega)
      have f2 := q2.frozen k
      have lt2 := q2.lt
      have i0 : (0 : Int) ≤ 4 * (k : Int) := by omega
      have i1 : 4 * (k : Int) ≤ 4 * (k : Int) + 4 := by omega
      have i2 : 4 * (k : Int) + 4 ≤ 64 := by omega
      have ha := run_arrayAt (P := Tryz.prog) Tryz.underlying175 (len := 4) (Nat.le_refl 4)
      clear h64
      go_wp2_with fail
      refine (word_c _ _ _ _ _).mono ?_
      rintro e w1 ⟨rfl, hb1⟩
      obtain ⟨hc1, hf1⟩ := bcell hb1
      go_wp2_with fail
      go_roundw
      case rel =>
        have r2 := Blk.fill32 (q2.ext hb1)
        exact ⟨k + 1, by omega, by go_num, (q0.ext hb1).set_other _ _ (by simp; omega), (q1.ext hb1).set_other _ _ (by simp), r2, (bb.ext hb1).set _ (by simp; omega)⟩
      case measure => simp [intOf]; omega
    · obtain rfl : k = 16 := by omega
      have hlen : ((fill (wordAt l) 0 16 16).map u32v).length = 16 := by rw [List.length_map, fill_length]
      go_wp2_with (first | (refine wpl_loadw rfl _ _ rfl rfl q2 agg_words hlen ?_) | (refine wpl_storew rfl _ _ _ rfl rfl rfl q1 agg_words (by simp) hlen (one_u32 _) ?_))
      intro w4 p1 u4
      go_wp2
      refine ret_row (g := w.heap.size + 1) rfl rfl p1 agg_words hlen rfl ⟨?_, u4.ext bb (by omega)⟩
      rw [fill_all _ _ _ _ (Nat.le_refl _)]; rfl



/-- R.words: word j after i octets -/
def wordPart (l : List UInt8) (i j : Nat) : UInt32 :=
  if i ≤ 4 * j then 0 else if i = 4 * j + 1 then wordOf 0 0 0 (l[4 * j]?.getD 0) else if i = 4 * j + 2 then wordOf 0 0 (l[4 * j]?.getD 0) (l[4 * j + 1]?.getD 0)
  else if i = 4 * j + 3 then wordOf 0 (l[4 * j]?.getD 0) (l[4 * j + 1]?.getD 0) (l[4 * j + 2]?.getD 0) else wordAt l j
def wordsPart (l : List UInt8) (i : Nat) : List UInt32 := (List.range 16).map (wordPart l i)

theorem shl_or (a b c d e : UInt8) : bits .or .u32 (((wordOf a b c d).toNat : Int) * 256 % 4294967296) (e.toNat : Int) = ((wordOf b c d e).toNat : Int) := by
  have ha := a.toNat_lt
  have hb := b.toNat_lt
  have hc := c.toNat_lt
  have hd := d.toNat_lt
  have he := e.toNat_lt
  have e1 : ((wordOf a b c d).toNat : Int) * 256 % 4294967296 = ((b.toNat * 65536 + c.toNat * 256 + d.toNat) * 256 : Nat) := by
    unfold wordOf
    rw [UInt32.toNat_ofNat']; omega
  rw [e1, (bits_u32 _ _ (by omega) (by omega)).2.1]
  have f3 := or_add (b.toNat * 65536 + c.toNat * 256 + d.toNat) e.toNat 8 (by omega)
  rw [show (2 : Nat) ^ 8 = 256 from rfl] at f3
  rw [f3]
  unfold wordOf
  rw [UInt32.toNat_ofNat']; omega

theorem wordPart_step (l : List UInt8) (i : Nat) : ∃ a b c d, wordPart l i (i / 4) = wordOf a b c d ∧ wordPart l (i + 1) (i / 4) = wordOf b c d (l[i]?.getD 0) := by
  have h := Nat.div_add_mod i 4
  have hm : i % 4 < 4 := Nat.mod_lt _ (by omega)
  have e : ∃ q, i / 4 = q := ⟨_, rfl⟩
  obtain ⟨q, hq⟩ := e
  rw [hq] at h ⊢
  clear hq
  unfold wordPart
  rcases (by omega : i % 4 = 0 ∨ i % 4 = 1 ∨ i % 4 = 2 ∨ i % 4 = 3) with h0 | h0 | h0 | h0
  · obtain rfl : i = 4 * q := by omega
    exact ⟨0, 0, 0, 0, by rw [if_pos (by omega)]; rfl, by rw [if_neg (by omega), if_pos (by omega)]⟩
  · obtain rfl : i = 4 * q + 1 := by omega
    exact ⟨0, 0, 0, _, by rw [if_neg (by omega), if_pos (by omega)], by rw [if_neg (by omega), if_neg (by omega), if_pos (by omega)]⟩
  · obtain rfl : i = 4 * q + 2 := by omega
    exact ⟨0, 0, _, _, by rw [if_neg (by omega), if_neg (by omega), if_pos (by omega)], by rw [if_neg (by omega), if_neg (by omega), if_neg (by omega), if_pos (by omega)]⟩
  · obtain rfl : i = 4 * q + 3 := by omega
    exact ⟨0, _, _, _, by rw [if_neg (by omega), if_neg (by omega), if_neg (by omega), if_pos (by omega)], by rw [if_neg (by omega), if_neg (by omega), if_neg (by omega), if_neg (by omega)]; rfl⟩

theorem wordPart_other (l : List UInt8) (i j : Nat) (h : j ≠ i / 4) : wordPart l (i + 1) j = wordPart l i j := by
  have h1 := Nat.div_add_mod i 4
  have hm : i % 4 < 4 := Nat.mod_lt _ (by omega)
  generalize i / 4 = q at *
  unfold wordPart
  by_cases h2 : j < q
  · rw [if_neg (by omega), if_neg (by omega), if_neg (by omega), if_neg (by omega)]
    by_cases h3 : i = 4 * j + 3
    · omega
    · rw [if_neg (by omega), if_neg (by omega), if_neg (by omega), if_neg (by omega)]
  · rw [if_pos (by omega), if_pos (by omega)]

theorem wordsPart_step (l : List UInt8) (i : Nat) : (wordsPart l i).set (i / 4) (wordPart l (i + 1) (i / 4)) = wordsPart l (i + 1) := by
  unfold wordsPart
  apply List.ext_getElem?
  intro j
  rw [List.getElem?_set]
  by_cases hj : i / 4 = j
  · subst hj
    simp only [if_true, List.length_map, List.length_range, List.getElem?_map]
    by_cases h16 : i / 4 < 16
    · simp [h16]
    · simp [h16]
  · rw [if_neg hj]
    simp only [List.getElem?_map]
    by_cases h16 : j < 16
    · simp [h16, wordPart_other l i j (Ne.symm hj)]
    · simp [h16]

set_option maxRecDepth 100000 in
set_option maxHeartbeats 400000 in
theorem rwords_c (l : List UInt8) (hl : l.length = 64) (w : World) :
    Calls Tryz.prog 101 #[.agg (l.map u8v).toArray] w fun e w' => e = .returned (.agg ((wordsL l).map u32v).toArray) ∧ Ext w w' := by
  have hl' : (l.map u8v).length = 64 := by rw [List.length_map]; exact hl
  have HL := hid hl'
  clear hl'
  have HL2 := hid hl
  clear hl
  go_enter Tryz.func101, Tryz.ntmps101
  go_wp2_with (refine wpl_loadw rfl _ _ rfl rfl (((Blk.mk_alloc rfl rfl).alloc _).alloc _) agg_state HL.out ?_)
  generalize hw3 : World.alloc _ _ = w3
  have k1 : Blk w3 (w.heap.size + 1) (List.replicate 16 (.int .u32 0)) 132 := by subst hw3; exact (Blk.mk_alloc (by simp) rfl).alloc _
  have k2 : Blk w3 (w.heap.size + 1 + 1) ((wordsPart l 0).map u32v) 132 := by subst hw3; exact Blk.mk_alloc (by simp) rfl
  have b3 : Ext w w3 := by subst hw3; exact (((Ext.refl w).alloc _).alloc _).alloc _
  clear hw3
  go_loopw [7] (fun i wr => ∃ k : Nat, k ≤ 64 ∧ i = .int .i64 k ∧ Blk wr (w.heap.size + 1) (List.replicate 16 (.int .u32 0)) 132 ∧ Blk wr (w.heap.size + 1 + 1) ((wordsPart l k).map u32v) 132 ∧ Ext w wr)
    (fun i _ => 64 - (intOf i).toNat)
  case atStart => exact ⟨0, by omega, rfl, k1, k2, b3⟩
  case round =>
    obtain ⟨k, hk, rfl, q1, q2, bb⟩ := hrel
    by_cases hlt : k < 64
    · obtain ⟨a, b, c, d, s1, s2⟩ := wordPart_step l k
      have z2 : wr.cell? ⟨w.heap.size + 1 + 1, k / 4, none⟩ = some (.int .u32 ((wordOf a b c d).toNat : Nat)) := by
        refine q2.cell' ?_
        rw [← s1]
        simp [wordsPart, u32v, show k / 4 < 16 by omega]
      have f2 := q2.frozen (k / 4)
      have h8 := u8_lt (l[k]?.getD 0)
      have hx := run_index_arr (P := Tryz.prog) (cs := (l.map u8v).toArray) (v := .int .u8 ((l[k]?.getD 0).toNat : Nat)) Tryz.underlying64 one_u8t k hlt (by
        have := HL2.out
        simp [u8v, this, hlt])
      have so := shl_or a b c d (l[k]?.getD 0)
      go_wp2_with fail
      go_roundw
      case rel =>
        have r2 := q2.set (k / 4) (u32v (wordPart l (k + 1) (k / 4)))
        rw [← List.map_set, wordsPart_step, s2] at r2
        exact ⟨k + 1, by omega, by go_num, q1.set_other _ _ (by simp), r2, bb.set _ (by simp; omega)⟩
      case measure => simp [intOf]; omega
    · obtain rfl : k = 64 := by omega
      have hlen : ((wordsPart l 64).map u32v).length = 16 := by simp [wordsPart]
      go_wp2_with (first | (refine wpl_loadw rfl _ _ rfl rfl q2 agg_words hlen ?_) | (refine wpl_storew rfl _ _ _ rfl rfl rfl q1 agg_words (by simp) hlen (one_u32 _) ?_))
      intro w4 p1 u4
      go_wp2
      refine ret_row (g := w.heap.size + 1) rfl rfl p1 agg_words hlen rfl ⟨?_, u4.ext bb (by omega)⟩
      have : wordsPart l 64 = wordsL l := by
        unfold wordsPart wordsL
        apply List.map_congr_left
        intro j hj
        have := List.mem_range.1 hj
        unfold wordPart
        rw [if_neg (by omega), if_neg (by omega), if_neg (by omega), if_neg (by omega)]
      rw [this]

def octAt (ws : List UInt32) (j : Nat) : UInt8 := (octL (ws[j / 4]?.getD 0))[j % 4]?.getD 0
def stateL (ws : List UInt32) : List UInt8 := (List.range 64).map (octAt ws)

theorem octL_range (ws : List UInt32) (k : Nat) : octL (ws[k]?.getD 0) = (List.range 4).map fun j => octAt ws (4 * k + j) := by
  have e : ∀ j, j < 4 → octAt ws (4 * k + j) = (octL (ws[k]?.getD 0))[j]?.getD 0 := fun j hj => by
    unfold octAt
    rw [show (4 * k + j) / 4 = k by omega, show (4 * k + j) % 4 = j by omega]
  show _ = [octAt ws (4 * k + 0), octAt ws (4 * k + 1), octAt ws (4 * k + 2), octAt ws (4 * k + 3)]
  rw [e 0 (by omega), e 1 (by omega), e 2 (by omega), e 3 (by omega)]
  rfl

set_option maxRecDepth 100000 in
set_option maxHeartbeats 400000 in
theorem stateOf_c (ws : List UInt32) (hl : ws.length = 16) (w : World) :
    Calls Tryz.prog 156 #[.agg (ws.map u32v).toArray] w fun e w' => e = .returned (.agg ((stateL ws).map u8v).toArray) ∧ Ext w w' := by
  have hl' : (ws.map u32v).length = 16 := by rw [List.length_map]; exact hl
  have HL := hid hl'
  clear hl'
  have HL2 := hid hl
  clear hl
  go_enter Tryz.func156, Tryz.ntmps156
  go_wp2_with (refine wpl_loadw rfl _ _ rfl rfl (((Blk.mk_alloc rfl rfl).alloc _).alloc _) agg_words HL.out ?_)
  generalize hw3 : World.alloc _ _ = w3
  have k1 : Blk w3 (w.heap.size + 1) (List.replicate 64 (.int .u8 0)) 64 := by subst hw3; exact (Blk.mk_alloc (by simp) rfl).alloc _
  have k2 : Blk w3 (w.heap.size + 1 + 1) ((fill (octAt ws) 0 64 (4 * 0)).map u8v) 64 := by subst hw3; exact Blk.mk_alloc (by simp) (by rw [fill_zero, zeros8]; rfl)
  have b3 : Ext w w3 := by subst hw3; exact (((Ext.refl w).alloc _).alloc _).alloc _
  clear hw3
  go_loopw [8] (fun i wr => ∃ k : Nat, k ≤ 16 ∧ i = .int .i64 k ∧ Blk wr (w.heap.size + 1) (List.replicate 64 (.int .u8 0)) 64 ∧ Blk wr (w.heap.size + 1 + 1) ((fill (octAt ws) 0 64 (4 * k)).map u8v) 64 ∧ Ext w wr)
    (fun i _ => 16 - (intOf i).toNat)
  case atStart => exact ⟨0, by omega, rfl, k1, k2, b3⟩
  case round =>
    obtain ⟨k, hk, rfl, q1, q2, bb⟩ := hrel
    by_cases hlt : k < 16
    · have hx := run_index_arr (P := Tryz.prog) (cs := (ws.map u32v).toArray) (v := .int .u32 ((ws[k]?.getD 0).toNat : Nat)) Tryz.underlying132 one_u32t k hlt (by
        have := HL2.out
        simp [u32v, this, hlt])
      go_wp2_with fail
      refine (octets_c _ _).mono ?_
      rintro e w1 ⟨rfl, hb1⟩
      go_wp2_with (first | (refine wpl_storew rfl _ _ _ rfl rfl rfl (Blk.mk_alloc rfl rfl) agg_four rfl rfl (one_u8 _) ?_))
      intro w2 p6 u6
      have e2 : Ext wr w2 := u6.ext (hb1.alloc _) hb1.size
      have r1 := q1.ext e2
      have r2 := q2.ext e2
      have b2 := bb.ext e2
      have lt2 := q2.lt
      clear u6 q1 q2 bb hx
      have i0 : (0 : Int) ≤ 4 * (k : Int) := by omega
      have i2 : 4 * (k : Int) ≤ 64 := by omega
      have ne : ¬ (64 = 4 * k) := by omega
      have wm : IntKind.i64.wrap (4 * (k : Int)) = 4 * (k : Int) := IntWalk.i64_in _ (by omega)
      have nt : (4 * (k : Int)).toNat = 4 * k := by omega
      go_wp2_with fail
      refine wp_region_cls (C := fun w' => w' = w2.drew) 4 (by kernel_rfl) (by kernel_rfl) rfl ?_
      simp only [List.take_succ_cons, List.take_zero, List.drop_succ_cons, List.drop_zero]
      iterate 4 quiet_step (fail)
      refine wpQuiet_nil ?_
      rintro _ rfl
      have hl4 : ((octL (ws[k]?.getD 0)).map u8v).length = 4 := rfl
      refine wpl_copy rfl _ _ _ _ rfl rfl rfl r2.drew Tryz.underlying39 one_u8t.2 (cs := (octL (ws[k]?.getD 0)).map u8v) (by rw [hl4]; exact (Nat.min_eq_left (by omega)).symm) ?_ (by rw [hl4, List.length_map, fill_length]; omega) (one_u8 _) ?_
      · intro j v hv
        have hadd : (⟨w1.heap.size, 0, none⟩ : Addr).add j = ⟨w1.heap.size, j, none⟩ := by unfold Addr.add; split <;> simp_all
        rw [hadd]
        exact p6.drew.cell' hv
      intro w4 r4 u4
      have r1' := r1.drew.upd u4 (by omega)
      have b4 := u4.ext b2.drew (by omega)
      rw [fill_splice (octAt ws) 0 64 (4 * k) 4 u8v (by omega) (octL (ws[k]?.getD 0)) (octL_range ws k), show 4 * k + 4 = 4 * (k + 1) by omega] at r4
      clear p6 e2 r1 r2 b2 lt2 u4
      go_wp2
      go_roundw
      case rel => exact ⟨k + 1, by omega, by go_num, r1', r4, b4⟩
      case measure => simp [intOf]; omega
    · obtain rfl : k = 16 := by omega
      have hlen : ((fill (octAt ws) 0 64 (4 * 16)).map u8v).length = 64 := by rw [List.length_map, fill_length]
      go_wp2_with (first | (refine wpl_loadw rfl _ _ rfl rfl q2 agg_state hlen ?_) | (refine wpl_storew rfl _ _ _ rfl rfl rfl q1 agg_state (by simp) hlen (one_u8 _) ?_))
      intro w4 p1 u4
      go_wp2
      refine ret_row (g := w.heap.size + 1) rfl rfl p1 agg_state hlen rfl ⟨?_, u4.ext bb (by omega)⟩
      rw [fill_all _ _ _ _ (by omega)]; rfl

theorem shr_oct (n : UInt32) (m : Nat) (hm : m < 4) : ((n.toNat : Int) / 2 ^ (24 - 8 * m) % 256) = (((octL n)[m]?.getD 0).toNat : Int) := by
  rcases (by omega : m = 0 ∨ m = 1 ∨ m = 2 ∨ m = 3) with rfl | rfl | rfl | rfl
  all_goals simp only [octL]; simp; try rw [UInt8.toNat_ofNat']; omega

set_option maxRecDepth 100000 in
set_option maxHeartbeats 400000 in
theorem roctets_c (ws : List UInt32) (hl : ws.length = 16) (w : World) :
    Calls Tryz.prog 103 #[.agg (ws.map u32v).toArray] w fun e w' => e = .returned (.agg ((stateL ws).map u8v).toArray) ∧ Ext w w' := by
  have HL := hid hl
  clear hl
  go_enter Tryz.func103, Tryz.ntmps103
  go_wp2
  generalize hw3 : World.alloc _ _ = w3
  have k0 : Blk w3 w.heap.size (ws.map u32v) 132 := by subst hw3; exact ((Blk.mk_alloc rfl rfl).alloc _).alloc _
  have k1 : Blk w3 (w.heap.size + 1) (List.replicate 64 (.int .u8 0)) 64 := by subst hw3; exact (Blk.mk_alloc (by simp) rfl).alloc _
  have k2 : Blk w3 (w.heap.size + 1 + 1) ((fill (octAt ws) 0 64 0).map u8v) 64 := by subst hw3; exact Blk.mk_alloc (by simp) (by rw [fill_zero, zeros8]; rfl)
  have b3 : Ext w w3 := by subst hw3; exact (((Ext.refl w).alloc _).alloc _).alloc _
  clear hw3
  go_loopw [5] (fun i wr => ∃ k : Nat, k ≤ 64 ∧ i = .int .i64 k ∧ Blk wr w.heap.size (ws.map u32v) 132 ∧ Blk wr (w.heap.size + 1) (List.replicate 64 (.int .u8 0)) 64 ∧ Blk wr (w.heap.size + 1 + 1) ((fill (octAt ws) 0 64 k).map u8v) 64 ∧ Ext w wr)
    (fun i _ => 64 - (intOf i).toNat)
  case atStart => exact ⟨0, by omega, rfl, k0, k1, k2, b3⟩
  case round =>
    obtain ⟨k, hk, rfl, q0, q1, q2, bb⟩ := hrel
    by_cases hlt : k < 64
    · have hw := cell_u32 q0 (i := k / 4) (by rw [HL.out]; omega)
      have z2 := cell_u8 q2 (i := k) (by rw [fill_length]; omega)
      have f2 := q2.frozen k
      have so := shr_oct (ws[k / 4]?.getD 0) (k % 4) (by omega)
      go_wp2_with fail
      go_roundw
      case rel =>
        have r2 := Blk.fill8 q2
        exact ⟨k + 1, by omega, by go_num, q0.set_other _ _ (by simp; omega), q1.set_other _ _ (by simp), r2, bb.set _ (by simp; omega)⟩
      case measure => simp [intOf]; omega
    · obtain rfl : k = 64 := by omega
      have hlen : ((fill (octAt ws) 0 64 64).map u8v).length = 64 := by rw [List.length_map, fill_length]
      go_wp2_with (first | (refine wpl_loadw rfl _ _ rfl rfl q2 agg_state hlen ?_) | (refine wpl_storew rfl _ _ _ rfl rfl rfl q1 agg_state (by simp) hlen (one_u8 _) ?_))
      intro w4 p1 u4
      go_wp2
      refine ret_row (g := w.heap.size + 1) rfl rfl p1 agg_state hlen rfl ⟨?_, u4.ext bb (by omega)⟩
      rw [fill_all _ _ _ _ (by omega)]; rfl
end

section
open Go Go.RowKit

/-- w[i] += turn(&w, r, i) -/
def addW (ws : List UInt32) (r i : Nat) : List UInt32 := ws.set i (add32 (ws[i]?.getD 0) (turnW ws r i))
def subW (ws : List UInt32) (r i : Nat) : List UInt32 := ws.set i (sub32 (ws[i]?.getD 0) (turnW ws r i))
/-- w[(i+9)%16] ^= rotl(w[i], 11) -/
def xorW (ws : List UInt32) (i : Nat) : List UInt32 := ws.set ((i + 9) % 16) (xor32 (ws[(i + 9) % 16]?.getD 0) (rotl (ws[i]?.getD 0) 11))
def stepW (ws : List UInt32) (r i : Nat) : List UInt32 := xorW (addW ws r i) i
def unstepW (ws : List UInt32) (r i : Nat) : List UInt32 := subW (xorW ws i) r i
/-- the first i steps of round r -/
def roundTo (r : Nat) (ws : List UInt32) : Nat → List UInt32
  | 0 => ws
  | i + 1 => stepW (roundTo r ws i) r i
def stirTo (ws : List UInt32) : Nat → List UInt32
  | 0 => ws
  | r + 1 => roundTo r (stirTo ws r) 16
/-- steps 15, 14, .. of round r undone, i of them -/
def unroundTo (r : Nat) (ws : List UInt32) : Nat → List UInt32
  | 0 => ws
  | i + 1 => unstepW (unroundTo r ws i) r (15 - i)
def unstirTo (ws : List UInt32) : Nat → List UInt32
  | 0 => ws
  | r + 1 => unroundTo (7 - r) (unstirTo ws r) 16
def stirL (l : List UInt8) : List UInt8 := stateL (stirTo (wordsL l) 8)
def unstirL (l : List UInt8) : List UInt8 := stateL (unstirTo (wordsL l) 8)

theorem addW_length (ws : List UInt32) (r i : Nat) : (addW ws r i).length = ws.length := by simp [addW]
theorem subW_length (ws : List UInt32) (r i : Nat) : (subW ws r i).length = ws.length := by simp [subW]
theorem xorW_length (ws : List UInt32) (i : Nat) : (xorW ws i).length = ws.length := by simp [xorW]
theorem roundTo_length (r : Nat) (ws : List UInt32) (i : Nat) : (roundTo r ws i).length = ws.length := by
  induction i with
  | zero => rfl
  | succ i ih => simp [roundTo, stepW, xorW_length, addW_length, ih]
theorem stirTo_length (ws : List UInt32) (r : Nat) : (stirTo ws r).length = ws.length := by
  induction r with
  | zero => rfl
  | succ r ih => simp [stirTo, roundTo_length, ih]
theorem unroundTo_length (r : Nat) (ws : List UInt32) (i : Nat) : (unroundTo r ws i).length = ws.length := by
  induction i with
  | zero => rfl
  | succ i ih => simp [unroundTo, unstepW, xorW_length, subW_length, ih]
theorem unstirTo_length (ws : List UInt32) (r : Nat) : (unstirTo ws r).length = ws.length := by
  induction r with
  | zero => rfl
  | succ r ih => simp [unstirTo, unroundTo_length, ih]
theorem wordsL_length (l : List UInt8) : (wordsL l).length = 16 := by simp [wordsL]
theorem stateL_length (ws : List UInt32) : (stateL ws).length = 64 := by simp [stateL]

set_option maxRecDepth 100000 in
set_option maxHeartbeats 1000000 in
theorem stir_c (l : List UInt8) (hl : l.length = 64) (w : World) :
    Calls Tryz.prog 143 #[.agg (l.map u8v).toArray] w fun e w' => e = .returned (.agg ((stirL l).map u8v).toArray) ∧ Ext w w' := by
  have hl' : (l.map u8v).length = 64 := by rw [List.length_map]; exact hl
  have HL := hid hl'
  clear hl'
  have HL2 := hid hl
  clear hl
  have hwl : ((wordsL l).map u32v).length = 16 := by rw [List.length_map, wordsL_length]
  have HW := hid hwl
  clear hwl
  go_enter Tryz.func143, Tryz.ntmps143
  go_wp2_with (refine wpl_loadw rfl _ _ rfl rfl ((Blk.mk_alloc rfl rfl).alloc _) agg_state HL.out ?_)
  refine (wordsOf_c l HL2.out _).mono ?_
  rintro e w1 ⟨rfl, hb1⟩
  have e1 : Ext w w1 := (((Ext.refl w).alloc _).alloc _).ext hb1
  have z1 : Blk w1 (w.heap.size + 1) (List.replicate 64 (.int .u8 0)) 64 := Blk.ext (Blk.mk_alloc (by simp) rfl) hb1
  have lt1 : w.heap.size + 1 < w1.heap.size := z1.lt
  clear hb1
  go_wp2_with (refine wpl_storew rfl _ _ _ rfl rfl rfl (Blk.mk_alloc rfl rfl) agg_words rfl HW.out (one_u32 _) ?_)
  intro w2 k2 u2
  have e2 : Ext w w2 := u2.ext (e1.alloc _) e1.size
  have z2 : Blk w2 (w.heap.size + 1) (List.replicate 64 (.int .u8 0)) 64 := (z1.alloc _).upd u2 (by omega)
  clear u2 z1
  have lg : w.heap.size + 1 < w1.heap.size ∧ w.heap.size ≤ w1.heap.size := ⟨lt1, e1.size⟩
  generalize w1.heap.size = g at *
  clear e1 lt1
  go_wp2
  go_loopw [8] (fun x wr => ∃ r : Nat, r ≤ 8 ∧ x = .int .i64 r ∧ Blk wr (w.heap.size + 1) (List.replicate 64 (.int .u8 0)) 64 ∧ Blk wr g ((stirTo (wordsL l) r).map u32v) 132 ∧ Ext w wr)
    (fun x _ => 8 - (intOf x).toNat)
  case atStart => exact ⟨0, by omega, rfl, z2, k2, e2⟩
  case round =>
    obtain ⟨r, hr, rfl, q1, q2, bb⟩ := hrel
    by_cases hlt : r < 8
    · have hd8 : decide ((r : Int) < 8) = true := decide_eq_true (by omega)
      go_wp2
      go_loopw [11] (fun y wi => ∃ i : Nat, i ≤ 16 ∧ y = .int .i64 i ∧ Blk wi (w.heap.size + 1) (List.replicate 64 (.int .u8 0)) 64 ∧ Blk wi g ((roundTo r (stirTo (wordsL l) r) i).map u32v) 132 ∧ Ext w wi)
        (fun y _ => 16 - (intOf y).toNat)
      case atStart => exact ⟨0, by omega, rfl, q1, q2, bb⟩
      case round =>
        obtain ⟨i, hi, rfl, p1, p2, cc⟩ := hrel
        by_cases hlti : i < 16
        · have hlen : (roundTo r (stirTo (wordsL l) r) i).length = 16 := by rw [roundTo_length, stirTo_length, wordsL_length]
          generalize hws : roundTo r (stirTo (wordsL l) r) i = ws at *
          have hcs := fun n => cells32 (p2.drewN (n := n)) 16 hlen
          have c1 : wr.cell? ⟨g, i, none⟩ = some (.int .u32 ((ws[i]?.getD 0).toNat : Nat)) := cell_u32 p2 (by omega)
          have f1 := p2.frozen i
          have i0 : (0 : Int) ≤ (i : Int) := by omega
          have i1 : (i : Int) < 16 := by omega
          have ad := add32_w (ws[i]?.getD 0) (turnW ws r i)
          have HC := hid hcs
          clear hcs
          have HN := hid hlen
          clear hlen
          go_wp2
          refine wp_region_cls (C := fun w' => ∃ n, w' = wr.drewN n) 7 (by kernel_rfl) (by kernel_rfl) ⟨1, rfl⟩ ?_
          simp only [List.take_succ_cons, List.take_zero, List.drop_succ_cons, List.drop_zero]
          iterate 7 quiet_step ((exact Calls.quiet_of_same ((turn_c g ws r i _ hlt hlti (HC.out _)).mono fun e w' ⟨h1, h2⟩ => ⟨h1, h2.symm⟩)))
          refine wpQuiet_nil ?_
          rintro _ ⟨nq, rfl⟩
          go_wp2
          have p3 := (p2.drewN (n := nq)).set32 i (add32 (ws[i]?.getD 0) (turnW ws r i))
          have p1' := (p1.drewN (n := nq)).set_other ⟨g, i, none⟩ (.int .u32 ((add32 (ws[i]?.getD 0) (turnW ws r i)).toNat : Nat)) (by simp; omega)
          have cc' := (cc.drewN nq).set (p := ⟨g, i, none⟩) (.int .u32 ((add32 (ws[i]?.getD 0) (turnW ws r i)).toNat : Nat)) lg.2
          generalize World.setCell _ _ _ = wq at *
          clear p1 p2 cc c1 f1 ad HC
          have hlen2 : (addW ws r i).length = 16 := by rw [addW_length]; exact HN.out
          change Blk wq g ((addW ws r i).map u32v) _ at p3
          have hst : stepW ws r i = xorW (addW ws r i) i := rfl
          generalize addW ws r i = ws2 at *
          have HST := hid hst
          clear hst
          have c1 : wq.cell? ⟨g, i, none⟩ = some (.int .u32 ((ws2[i]?.getD 0).toNat : Nat)) := cell_u32 p3 (by omega)
          have c2 : wq.cell? ⟨g, (i + 9) % 16, none⟩ = some (.int .u32 ((ws2[(i + 9) % 16]?.getD 0).toNat : Nat)) := cell_u32 p3 (by omega)
          have f2 := p3.frozen ((i + 9) % 16)
          have i2 : (0 : Int) ≤ ((i : Int) + 9) % 16 := by omega
          have i3 : ((i : Int) + 9) % 16 < 16 := by omega
          have i4 : (((i : Int) + 9) % 16).toNat = (i + 9) % 16 := by omega
          have i5 : IntKind.i64.wrap ((i : Int) + 9) = (i : Int) + 9 := IntWalk.i64_in _ (by omega)
          have i6 : ((i : Int) + 9).tmod 16 = ((i : Int) + 9) % 16 := Int.tmod_eq_emod_of_nonneg (by omega)
          have xo := xor32_b (ws2[(i + 9) % 16]?.getD 0) (rotl (ws2[i]?.getD 0) 11)
          clear hlen2
          refine wp_region_cls (C := fun w' => ∃ n, w' = wq.drewN n) 10 (by kernel_rfl) (by kernel_rfl) ⟨1, rfl⟩ ?_
          simp only [List.take_succ_cons, List.take_zero, List.drop_succ_cons, List.drop_zero]
          iterate 10 quiet_step ((exact Calls.quiet_of_same ((rot_c (ws2[i]?.getD 0) 11 _ (by omega)).mono fun e w' ⟨h1, h2⟩ => ⟨h1, h2.symm⟩)))
          refine wpQuiet_nil ?_
          rintro _ ⟨nr, rfl⟩
          have p4 := (p3.drewN (n := nr)).set32 ((i + 9) % 16) (xor32 (ws2[(i + 9) % 16]?.getD 0) (rotl (ws2[i]?.getD 0) 11))
          have p1'' := (p1'.drewN (n := nr)).set_other ⟨g, (i + 9) % 16, none⟩ (.int .u32 ((xor32 (ws2[(i + 9) % 16]?.getD 0) (rotl (ws2[i]?.getD 0) 11)).toNat : Nat)) (by simp; omega)
          have cc'' := (cc'.drewN nr).set (p := ⟨g, (i + 9) % 16, none⟩) (.int .u32 ((xor32 (ws2[(i + 9) % 16]?.getD 0) (rotl (ws2[i]?.getD 0) 11)).toNat : Nat)) lg.2
          go_wp2
          go_roundw
          case rel => exact ⟨i + 1, by omega, by go_num, p1'', by rw [roundTo, hws, HST.out]; exact p4, cc''⟩
          case measure => simp [intOf]; omega
        · obtain rfl : i = 16 := by omega
          go_wp2
          go_roundw
          case rel => exact ⟨r + 1, by omega, by go_num, p1, p2, cc⟩
          case measure => simp [intOf]; omega
    · obtain rfl : r = 8 := by omega
      have hlen : ((stirTo (wordsL l) 8).map u32v).length = 16 := by rw [List.length_map, stirTo_length, wordsL_length]
      go_wp2_with (refine wpl_loadw rfl _ _ rfl rfl q2 agg_words hlen ?_)
      refine (stateOf_c _ (by rw [stirTo_length, wordsL_length]) _).mono ?_
      rintro e w5 ⟨rfl, hb5⟩
      have hlen2 : ((stateL (stirTo (wordsL l) 8)).map u8v).length = 64 := by rw [List.length_map, stateL_length]
      go_wp2_with (refine wpl_storew rfl _ _ _ rfl rfl rfl (q1.ext hb5) agg_state (by simp) hlen2 (one_u8 _) ?_)
      intro w6 k6 u6
      go_wp2
      exact ret_row (g := w.heap.size + 1) rfl rfl k6 agg_state hlen2 rfl ⟨rfl, u6.ext (bb.ext hb5) (by omega)⟩
end

section
open Go Go.RowKit

set_option maxRecDepth 100000 in
set_option maxHeartbeats 1000000 in
theorem rstir_c (l : List UInt8) (hl : l.length = 64) (w : World) :
    Calls Tryz.prog 78 #[.agg (l.map u8v).toArray] w fun e w' => e = .returned (.agg ((stirL l).map u8v).toArray) ∧ Ext w w' := by
  have hl' : (l.map u8v).length = 64 := by rw [List.length_map]; exact hl
  have HL := hid hl'
  clear hl'
  have HL2 := hid hl
  clear hl
  have hwl : ((wordsL l).map u32v).length = 16 := by rw [List.length_map, wordsL_length]
  have HW := hid hwl
  clear hwl
  go_enter Tryz.func78, Tryz.ntmps78
  go_wp2_with (refine wpl_loadw rfl _ _ rfl rfl ((Blk.mk_alloc rfl rfl).alloc _) agg_state HL.out ?_)
  refine (rwords_c l HL2.out _).mono ?_
  rintro e w1 ⟨rfl, hb1⟩
  have e1 : Ext w w1 := (((Ext.refl w).alloc _).alloc _).ext hb1
  have z1 : Blk w1 (w.heap.size + 1) (List.replicate 64 (.int .u8 0)) 64 := Blk.ext (Blk.mk_alloc (by simp) rfl) hb1
  have lt1 : w.heap.size + 1 < w1.heap.size := z1.lt
  clear hb1
  go_wp2_with (refine wpl_storew rfl _ _ _ rfl rfl rfl (Blk.mk_alloc rfl rfl) agg_words rfl HW.out (one_u32 _) ?_)
  intro w2 k2 u2
  have e2 : Ext w w2 := u2.ext (e1.alloc _) e1.size
  have z2 : Blk w2 (w.heap.size + 1) (List.replicate 64 (.int .u8 0)) 64 := (z1.alloc _).upd u2 (by omega)
  clear u2 z1
  have lg : w.heap.size + 1 < w1.heap.size ∧ w.heap.size ≤ w1.heap.size := ⟨lt1, e1.size⟩
  generalize w1.heap.size = g at *
  clear e1 lt1
  go_wp2
  go_loopw [10] (fun x wr => ∃ r : Nat, r ≤ 8 ∧ x = .int .i64 r ∧ Blk wr (w.heap.size + 1) (List.replicate 64 (.int .u8 0)) 64 ∧ Blk wr g ((stirTo (wordsL l) r).map u32v) 132 ∧ Ext w wr)
    (fun x _ => 8 - (intOf x).toNat)
  case atStart => exact ⟨0, by omega, rfl, z2, k2, e2⟩
  case round =>
    obtain ⟨r, hr, rfl, q1, q2, bb⟩ := hrel
    by_cases hlt : r < 8
    · have hd8 : decide ((r : Int) < 8) = true := decide_eq_true (by omega)
      go_wp2
      go_loopw [13] (fun y wi => ∃ i : Nat, i ≤ 16 ∧ y = .int .i64 i ∧ Blk wi (w.heap.size + 1) (List.replicate 64 (.int .u8 0)) 64 ∧ Blk wi g ((roundTo r (stirTo (wordsL l) r) i).map u32v) 132 ∧ Ext w wi)
        (fun y _ => 16 - (intOf y).toNat)
      case atStart => exact ⟨0, by omega, rfl, q1, q2, bb⟩
      case round =>
        obtain ⟨i, hi, rfl, p1, p2, cc⟩ := hrel
        by_cases hlti : i < 16
        · have hlen : (roundTo r (stirTo (wordsL l) r) i).length = 16 := by rw [roundTo_length, stirTo_length, wordsL_length]
          generalize hws : roundTo r (stirTo (wordsL l) r) i = ws at *
          have c1 : wr.cell? ⟨g, i, none⟩ = some (.int .u32 ((ws[i]?.getD 0).toNat : Nat)) := cell_u32 p2 (by omega)
          have c3 : wr.cell? ⟨g, (i + 1 + r) % 16, none⟩ = some (.int .u32 ((ws[(i + 1 + r) % 16]?.getD 0).toNat : Nat)) := cell_u32 p2 (by omega)
          have f1 := p2.frozen i
          have i0 : (0 : Int) ≤ (i : Int) := by omega
          have i1 : (i : Int) < 16 := by omega
          have ad := add32_w (ws[i]?.getD 0) (turnW ws r i)
          have j2 : (0 : Int) ≤ ((i : Int) + 1 + r) % 16 := by omega
          have j3 : ((i : Int) + 1 + r) % 16 < 16 := by omega
          have j4 : (((i : Int) + 1 + r) % 16).toNat = (i + 1 + r) % 16 := by omega
          have j5 : IntKind.i64.wrap (5 + (i : Int)) = 5 + (i : Int) := IntWalk.i64_in _ (by omega)
          have j6 : IntKind.i64.wrap (16 * (r : Int)) = 16 * (r : Int) := IntWalk.i64_in _ (by omega)
          have j7 : IntKind.i64.wrap (16 * (r : Int) + i) = 16 * (r : Int) + i := IntWalk.i64_in _ (by omega)
          have j8 : IntKind.i64.wrap (16 * (r : Int) + i + 1) = 16 * (r : Int) + i + 1 := IntWalk.i64_in _ (by omega)
          have j9 : IntKind.u32.wrap (16 * (r : Int) + i + 1) = 16 * (r : Int) + i + 1 := IntWalk.u32_in _ (by omega)
          have j10 : IntKind.u32.wrap (2654435769 * (16 * (r : Int) + i + 1)) = 2654435769 * (16 * (r : Int) + i + 1) % 4294967296 := IntKind.wrap_u32' _
          have j11 := turn_int ws r i
          have HN := hid hlen
          clear hlen
          go_wp2
          refine wp_region_cls (C := fun w' => ∃ n, w' = wr.drewN n) 18 (by kernel_rfl) (by kernel_rfl) ⟨1, rfl⟩ ?_
          simp only [List.take_succ_cons, List.take_zero, List.drop_succ_cons, List.drop_zero]
          iterate 18 quiet_step ((exact Calls.quiet_of ((rturn_c (ws[(i + 1 + r) % 16]?.getD 0) (5 + i) _ (by omega)))))
          refine wpQuiet_nil ?_
          rintro _ ⟨nq, rfl⟩
          go_wp2
          have p3 := (p2.drewN (n := nq)).set32 i (add32 (ws[i]?.getD 0) (turnW ws r i))
          have p1' := (p1.drewN (n := nq)).set_other ⟨g, i, none⟩ (.int .u32 ((add32 (ws[i]?.getD 0) (turnW ws r i)).toNat : Nat)) (by simp; omega)
          have cc' := (cc.drewN nq).set (p := ⟨g, i, none⟩) (.int .u32 ((add32 (ws[i]?.getD 0) (turnW ws r i)).toNat : Nat)) lg.2
          generalize World.setCell _ _ _ = wq at *
          clear p1 p2 cc c1 c3 f1 ad j2 j3 j4 j5 j6 j7 j8 j9 j10 j11
          have hlen2 : (addW ws r i).length = 16 := by rw [addW_length]; exact HN.out
          change Blk wq g ((addW ws r i).map u32v) _ at p3
          have hst : stepW ws r i = xorW (addW ws r i) i := rfl
          generalize addW ws r i = ws2 at *
          have HST := hid hst
          clear hst
          have c1 : wq.cell? ⟨g, i, none⟩ = some (.int .u32 ((ws2[i]?.getD 0).toNat : Nat)) := cell_u32 p3 (by omega)
          have c2 : wq.cell? ⟨g, (i + 9) % 16, none⟩ = some (.int .u32 ((ws2[(i + 9) % 16]?.getD 0).toNat : Nat)) := cell_u32 p3 (by omega)
          have f2 := p3.frozen ((i + 9) % 16)
          have i2 : (0 : Int) ≤ ((i : Int) + 9) % 16 := by omega
          have i3 : ((i : Int) + 9) % 16 < 16 := by omega
          have i4 : (((i : Int) + 9) % 16).toNat = (i + 9) % 16 := by omega
          have i5 : IntKind.i64.wrap ((i : Int) + 9) = (i : Int) + 9 := IntWalk.i64_in _ (by omega)
          have i6 : ((i : Int) + 9).tmod 16 = ((i : Int) + 9) % 16 := Int.tmod_eq_emod_of_nonneg (by omega)
          have xo := xor32_b (ws2[(i + 9) % 16]?.getD 0) (rotl (ws2[i]?.getD 0) 11)
          clear hlen2
          refine wp_region_cls (C := fun w' => ∃ n, w' = wq.drewN n) 8 (by kernel_rfl) (by kernel_rfl) ⟨1, rfl⟩ ?_
          simp only [List.take_succ_cons, List.take_zero, List.drop_succ_cons, List.drop_zero]
          iterate 8 quiet_step ((exact Calls.quiet_of (rturn_c (ws2[i]?.getD 0) 11 _ (by omega))))
          refine wpQuiet_nil ?_
          rintro _ ⟨nr, rfl⟩
          have p4 := (p3.drewN (n := nr)).set32 ((i + 9) % 16) (xor32 (ws2[(i + 9) % 16]?.getD 0) (rotl (ws2[i]?.getD 0) 11))
          have p1'' := (p1'.drewN (n := nr)).set_other ⟨g, (i + 9) % 16, none⟩ (.int .u32 ((xor32 (ws2[(i + 9) % 16]?.getD 0) (rotl (ws2[i]?.getD 0) 11)).toNat : Nat)) (by simp; omega)
          have cc'' := (cc'.drewN nr).set (p := ⟨g, (i + 9) % 16, none⟩) (.int .u32 ((xor32 (ws2[(i + 9) % 16]?.getD 0) (rotl (ws2[i]?.getD 0) 11)).toNat : Nat)) lg.2
          go_wp2
          go_roundw
          case rel => exact ⟨i + 1, by omega, by go_num, p1'', by rw [roundTo, hws, HST.out]; exact p4, cc''⟩
          case measure => simp [intOf]; omega
        · obtain rfl : i = 16 := by omega
          go_wp2
          go_roundw
          case rel => exact ⟨r + 1, by omega, by go_num, p1, p2, cc⟩
          case measure => simp [intOf]; omega
    · obtain rfl : r = 8 := by omega
      have hlen : ((stirTo (wordsL l) 8).map u32v).length = 16 := by rw [List.length_map, stirTo_length, wordsL_length]
      go_wp2_with (refine wpl_loadw rfl _ _ rfl rfl q2 agg_words hlen ?_)
      refine (roctets_c _ (by rw [stirTo_length, wordsL_length]) _).mono ?_
      rintro e w5 ⟨rfl, hb5⟩
      have hlen2 : ((stateL (stirTo (wordsL l) 8)).map u8v).length = 64 := by rw [List.length_map, stateL_length]
      go_wp2_with (refine wpl_storew rfl _ _ _ rfl rfl rfl (q1.ext hb5) agg_state (by simp) hlen2 (one_u8 _) ?_)
      intro w6 k6 u6
      go_wp2
      exact ret_row (g := w.heap.size + 1) rfl rfl k6 agg_state hlen2 rfl ⟨rfl, u6.ext (bb.ext hb5) (by omega)⟩
end

section
open Go Go.RowKit

/-- the first i octets of b, exclusive or -/
def mixTo (s b : List UInt8) : Nat → List UInt8
  | 0 => s
  | i + 1 => (mixTo s b i).set i (xor8 ((mixTo s b i)[i]?.getD 0) (b[i]?.getD 0))
theorem mixTo_length (s b : List UInt8) (i : Nat) : (mixTo s b i).length = s.length := by
  induction i with
  | zero => rfl
  | succ i ih => simp [mixTo, ih]
/-- the end of a function without results -/
theorem end_none {P : Program} {fn : Func} {R : Ending → World → Prop} {a : Act} {w : World} (hr : fn.results = #[]) (hd : a.defers = []) (hR : R (.returned (.tuple #[])) w) : bodyPost P fn R .normal a w := by
  unfold bodyPost
  simp [hd, results_none hr, hR]
/-- a block taken into the state -/
def absorb (s b : List UInt8) : List UInt8 := stirL (mixTo s b 32)
theorem stirL_length (l : List UInt8) : (stirL l).length = 64 := by simp [stirL, stateL_length]
theorem absorb_length (s b : List UInt8) : (absorb s b).length = 64 := stirL_length _

theorem grown_refl (w : World) (r : Option Nat) : w.grownBy w r := ⟨rfl, rfl, rfl, Nat.le_refl _, fun _ _ _ => rfl⟩
theorem grown_drewN {w w' : World} {r : Option Nat} (h : w.grownBy w' r) (n : Nat) : w.grownBy (w'.drewN n) r := ⟨h.os, h.tape, h.output, h.size, h.block⟩
theorem grown_set {w w' : World} {g : Nat} (h : w.grownBy w' (some g)) (i : Nat) (v : Value) : w.grownBy (w'.setCell ⟨g, i, none⟩ v) (some g) :=
  ⟨h.os, h.tape, h.output, by simp [World.setCell]; exact h.size, fun k hk hn => by rw [Below.heap_setCell _ _ _ _ (fun e => hn (by rw [e]))]; exact h.block k hk hn⟩
theorem grown_ext {w w1 w2 : World} {r : Option Nat} (h : w.grownBy w1 r) (k : Ext w1 w2) : w.grownBy w2 r :=
  ⟨k.os.trans h.os, k.tape.trans h.tape, k.output.trans h.output, Nat.le_trans h.size k.size, fun i hi hn => (k.block i (Nat.lt_of_lt_of_le hi h.size)).trans (h.block i hi hn)⟩
theorem grown_upd {w w1 w2 : World} {g : Nat} (h : w.grownBy w1 (some g)) (k : Upd w1 g w2) : w.grownBy w2 (some g) :=
  ⟨k.os.trans h.os, k.tape.trans h.tape, k.output.trans h.output, by rw [k.size]; exact h.size, fun i hi hn => (k.block i (fun e => hn (by rw [e]))).trans (h.block i hi hn)⟩

/-- the octet behind place i, wherever it lies -/
theorem mix_cell {w : World} {g : Nat} {l : List UInt8} {tl : List Value} {T : TypeId} (h : Blk w g (l.map u8v ++ tl) T) {i : Nat} (hi : i < l.length) :
    w.cell? ⟨g, i, none⟩ = some (.int .u8 ((l[i]?.getD 0).toNat : Int)) := by
  refine h.cell' ?_
  rw [List.getElem?_append_left (by simpa using hi)]
  simp [hi, u8v]
theorem mix_set {w : World} {g : Nat} {l : List UInt8} {tl : List Value} {T : TypeId} (h : Blk w g (l.map u8v ++ tl) T) {i : Nat} (hi : i < l.length) (x : UInt8) :
    Blk (w.setCell ⟨g, i, none⟩ (.int .u8 (x.toNat : Int))) g ((l.set i x).map u8v ++ tl) T := by
  have := h.set i (u8v x)
  rwa [List.set_append_left _ _ (by simpa using hi), ← List.map_set] at this

set_option maxRecDepth 100000 in
set_option maxHeartbeats 1000000 in
theorem block_c (s b : List UInt8) (tl : List Value) (g gb off : Nat) (T : TypeId) (w : World) (hs : s.length = 64) (hB : Blk w g (s.map u8v ++ tl) T)
    (hsrc : ∀ i, i < 32 → w.cell? ⟨gb, off + i, none⟩ = some (.int .u8 ((b[i]?.getD 0).toNat : Int))) (hne : gb ≠ g ∨ 64 ≤ off) :
    Calls Tryz.prog 124 #[.pointer (some ⟨g, 0, none⟩), .pointer (some ⟨gb, off, none⟩)] w fun e w' =>
      e = .returned (.tuple #[]) ∧ Blk w' g ((absorb s b).map u8v ++ tl) T ∧ w.grownBy w' (some g) := by
  have HS := hid hs
  clear hs
  have SRC := hid hsrc
  clear hsrc
  go_enter Tryz.func124, Tryz.ntmps124
  go_wp2
  go_loopw [7] (fun x wr => ∃ i : Nat, i ≤ 32 ∧ x = .int .i64 i ∧ Blk wr g ((mixTo s b i).map u8v ++ tl) T ∧ w.grownBy wr (some g)
      ∧ ∀ j, j < 32 → wr.cell? ⟨gb, off + j, none⟩ = some (.int .u8 ((b[j]?.getD 0).toNat : Int)))
    (fun x _ => 32 - (intOf x).toNat)
  case atStart => exact ⟨0, by omega, rfl, hB, grown_refl _ _, SRC.out⟩
  case round =>
    obtain ⟨i, hi, rfl, q1, q2, q3⟩ := hrel
    by_cases hlt : i < 32
    · have hd : decide ((i : Int) < 32) = true := decide_eq_true (by omega)
      have c1 := q3 i hlt
      have i0 : (0 : Int) ≤ (i : Int) := by omega
      have i1 : (i : Int) < 32 := by omega
      have i2 : (i : Int) < 64 := by omega
      have hlen : (mixTo s b i).length = 64 := by rw [mixTo_length]; exact HS.out
      generalize hws : mixTo s b i = ws at *
      have c2 := mix_cell q1 (i := i) (by omega)
      have f2 := q1.frozen i
      have hxo := xor8_b (ws[i]?.getD 0) (b[i]?.getD 0)
      go_wp2
      refine wp_region_cls (C := fun w' => ∃ n, w' = wr.drewN n) 6 (by kernel_rfl) (by kernel_rfl) ⟨1, rfl⟩ ?_
      simp only [List.take_succ_cons, List.take_zero, List.drop_succ_cons, List.drop_zero]
      iterate 6 quiet_step (fail)
      refine wpQuiet_nil ?_
      rintro _ ⟨nq, rfl⟩
      go_wp2
      refine wp_region_cls (C := fun w' => ∃ n, w' = wr.drewN n) 11 (by kernel_rfl) (by kernel_rfl) ⟨nq + 1, rfl⟩ ?_
      simp only [List.take_succ_cons, List.take_zero, List.drop_succ_cons, List.drop_zero]
      iterate 11 quiet_step (fail)
      refine wpQuiet_nil ?_
      rintro _ ⟨nr, rfl⟩
      go_wp2
      have q1' := mix_set (q1.drewN (n := nr)) (i := i) (by omega) (xor8 (ws[i]?.getD 0) (b[i]?.getD 0))
      have q2' := grown_set (grown_drewN q2 nr) i (.int .u8 ((xor8 (ws[i]?.getD 0) (b[i]?.getD 0)).toNat : Int))
      have q3' : ∀ j, j < 32 → ((wr.drewN nr).setCell ⟨g, i, none⟩ (.int .u8 ((xor8 (ws[i]?.getD 0) (b[i]?.getD 0)).toNat : Int))).cell? ⟨gb, off + j, none⟩ = some (.int .u8 ((b[j]?.getD 0).toNat : Int)) := by
        intro j hj
        rw [← q3 j hj, World.cell?_setCell_other _ _ _ _ (by intro e; simp only [Addr.mk.injEq] at e; omega)]
        rfl
      go_roundw
      case rel => exact ⟨i + 1, by omega, by go_num, by rw [mixTo, hws]; exact q1', q2', q3'⟩
      case measure => simp [intOf]; omega
    · obtain rfl : i = 32 := by omega
      have hlen : ((mixTo s b 32).map u8v).length = 64 := by rw [List.length_map, mixTo_length]; exact HS.out
      have hd1 : ((List.drop 0 ((mixTo s b 32).map u8v ++ tl)).take 64) = (mixTo s b 32).map u8v := by
        rw [List.drop_zero, List.take_append_of_le_length (by omega), List.take_of_length_le (by omega)]
      go_wp2_with (refine wpl_load rfl _ _ rfl rfl q1 agg_state (n := 64) (by simp [mixTo_length, HS.out]) ?_)
      refine (stir_c (mixTo s b 32) (by rw [mixTo_length]; exact HS.out) wr).mono ?_
      rw [show stirL (mixTo s b 32) = absorb s b from rfl]
      rintro e w1 ⟨rfl, e1⟩
      have hla : ((absorb s b).map u8v).length = 64 := by rw [List.length_map, absorb_length]
      generalize hr : absorb s b = r at *
      have hfit : 0 + (r.map u8v).length ≤ ((mixTo s b 32).map u8v ++ tl).length := by rw [List.length_append]; omega
      go_wp2_with (refine wpl_store rfl _ _ _ rfl rfl rfl (q1.ext e1) (by rw [hla]; exact agg_state) hfit (one_u8 _) ?_)
      intro w2 b2 u2
      have hsp : splice ((mixTo s b 32).map u8v ++ tl) 0 (r.map u8v) = r.map u8v ++ tl := by
        unfold splice
        rw [List.take_zero, List.nil_append, hla, ← hlen, Nat.zero_add, List.drop_left]
      rw [hsp] at b2
      have gr := grown_upd (grown_ext q2 e1) u2
      go_wp2
      exact end_none rfl rfl ⟨rfl, by rw [hr]; exact b2, gr⟩
end

section
open Go Go.RowKit

section
variable {P : Program} {ops : Array Oper} {rest : List Oper} {o : Oper} {a : Act} {w : World} {Q : Exit → Act → World → Prop}

theorem run_sliceAt_low {t e : TypeId} {p : Option Addr} {n c k : Nat} (hu : P.underlying t = some (.slice e)) (hs : (P.info? e).map (·.size) = some 1) (hk : k ≤ n) :
    (Instr.sliceAt t (.slice p n c) (some (.int .i64 (k : Int))) none none).run P w = .ok (.slice (shift p c k) (n - k) (c - k)) w := by
  cases hq : P.info? e with
  | none => simp [hq] at hs
  | some i =>
    have hi : i.size = 1 := by simpa [hq] using hs
    have h1 : (0 : Int) ≤ k ∧ (k : Int) ≤ n := by omega
    simp [Instr.sliceAt, Instr.slice, Instr.sliceBounds, Instr.sliceBound, asIntOf, run_underlying hu, sizeOf, typeInfo, hq, hi, h1.1, hk, shift]

/-- b[k:] -/
theorem wpl_slice_low (hgd : o.guard = none) (t e : TypeId) (x y : Operand) (ho : o.op = .slice t x (some y) none none) {p : Option Addr} {n c k : Nat}
    (hx : a.eval x = .slice p n c) (hy : a.eval y = .int .i64 (k : Int)) (hu : P.underlying t = some (.slice e)) (hs : (P.info? e).map (·.size) = some 1) (hk : k ≤ n)
    (h : wpList P ops Q rest (a.put o.dst (.slice (shift p c k) (n - k) (c - k))) w) : wpList P ops Q (o :: rest) a w :=
  wpList_plain hgd fun K hK => by
    unfold Oper.wp execOp
    simp only [ho, hx, hy, Option.map_some, Option.map_none, run_sliceAt_low hu hs hk, Result.andThen_ok, Sem.run_bind, Sem.run_pure]
    exact hK _ _ h

/-- copy, wherever the octets come from -/
theorem wpl_copyc (hgd : o.guard = none) (dT sT : TypeId) (x y : Operand) (ho : o.op = .call { callee := .builtin .copy, args := #[x, y], argTypes := #[dT, sT] }) {g off dLen dCap sLen sCap : Nat} {sa : Option Addr} {vs cs : List Value} {T elem : TypeId}
    (hx : a.eval x = .slice (some ⟨g, off, none⟩) dLen dCap) (hy : a.eval y = .slice sa sLen sCap) (hb : Blk w g vs T)
    (hu : P.underlying dT = some (.slice elem)) (hs : (P.info? elem).map (·.size) = some 1) {k : Nat} (hk : cs.length = k) (hn : k = Nat.min sLen dLen) (h0 : sa = none → sLen = 0)
    (hsrc : Cells w sa cs) (hfit : off + k ≤ vs.length) (h1 : ∀ v ∈ cs, v.oneCell' = true)
    (h : ∀ w', Blk w' g (splice vs off cs) T → Upd w g w' → wpList P ops Q rest (a.put o.dst (.int .i64 (k : Int))) w') : wpList P ops Q (o :: rest) a w := by
  subst hk
  cases sa with
  | some ad => exact wpl_copy hgd dT sT x y ho hx hy hb hu hs hn (news_cells hsrc) hfit h1 h
  | none =>
    have hz := h0 rfl
    subst hz
    have hcs : cs = [] := by
      rcases hsrc with h | ⟨_, _, h, _⟩
      · exact h
      · cases h
    subst hcs
    refine wpList_plain hgd fun K hK => ?_
    have hr : (Builtin.copy_ #[dT, sT] o.type #[.slice (some ⟨g, off, none⟩) dLen dCap, .slice none 0 sCap]).run P w = .ok (goInt 0) w := by
      cases hq : P.info? elem with
      | none => simp [hq] at hs
      | some i => simp [Builtin.copy_, run_underlying hu, Builtin.lenOf, Builtin.firstCells, sizeOf, typeInfo, hq, storeCells]
    unfold Oper.wp execOp
    simp only [ho, resolve, Sem.run_bind, Sem.run_pure, Result.andThen_ok, invoke, builtin]
    have e : (#[x, y].map a.eval) = #[.slice (some ⟨g, off, none⟩) dLen dCap, .slice none 0 sCap] := by simp [hx, hy]
    rw [e, hr]
    simp only [Result.andThen_ok, Sem.run_pure, Oper.upon]
    refine hK _ _ (h _ ?_ (Upd.refl _ _))
    simpa [splice] using hb
end

theorem size_u8 : (Tryz.prog.info? 5).map (·.size) = some 1 := by kernel_rfl

theorem Cells.grown {w w' : World} {a : Option Addr} {xs : List Value} {r : Option Nat} (h : Cells w a xs) (k : w.grownBy w' r) (hn : ∀ x, a = some x → some x.block ≠ r) : Cells w' a xs := by
  rcases h with h | ⟨b, off, ha, h⟩
  · exact .inl h
  · refine .inr ⟨b, off, ha, fun i u hu => ?_⟩
    have h1 := h i u hu
    have hb := block_lt_of_cell h1
    have h2 : w'.heap[b]? = w.heap[b]? := k.block b hb (hn _ ha)
    rw [← h1]
    simp [World.cell?, h2]
theorem shift_away {a : Option Addr} {c k : Nat} {r : Option Nat} (hn : ∀ x, a = some x → some x.block ≠ r) : ∀ x, shift a c k = some x → some x.block ≠ r := by
  intro x hx
  unfold shift at hx
  split at hx
  · exact hn x hx
  · cases a with
    | none => cases hx
    | some y =>
      cases hx
      have : (y.add k).block = y.block := by unfold Addr.add; split <;> rfl
      rw [this]; exact hn y rfl
theorem shift_nil {a : Option Addr} {c k : Nat} : shift a c k = none ↔ a = none := by
  unfold shift
  split
  · rfl
  · simp
theorem upd_grown {w w' : World} {g : Nat} (h : Upd w g w') : w.grownBy w' (some g) := grown_upd (grown_refl w _) h
theorem grown_trans {a b c : World} {r : Option Nat} (h : a.grownBy b r) (k : b.grownBy c r) : a.grownBy c r :=
  ⟨k.os.trans h.os, k.tape.trans h.tape, k.output.trans h.output, Nat.le_trans h.size k.size, fun i hi hn => (k.block i (Nat.lt_of_lt_of_le hi h.size) hn).trans (h.block i hi hn)⟩

/-- the cells of a Summer -/
def sm (s r : List UInt8) (h : Int) (t : Int) : List Value := s.map u8v ++ (r.map u8v ++ [.int .i64 h, .int .i64 t])
theorem sm_length {s r : List UInt8} (h t : Int) (hs : s.length = 64) (hr : r.length = 32) : (sm s r h t).length = 98 := by simp [sm, hs, hr]
theorem sm_have {s r : List UInt8} (h t : Int) (hs : s.length = 64) (hr : r.length = 32) : (sm s r h t)[96]? = some (.int .i64 h) := by
  rw [sm, List.getElem?_append_right (by rw [List.length_map]; omega), List.getElem?_append_right (by rw [List.length_map, List.length_map]; omega)]
  simp [hs, hr]
theorem sm_total {s r : List UInt8} (h t : Int) (hs : s.length = 64) (hr : r.length = 32) : (sm s r h t)[97]? = some (.int .i64 t) := by
  rw [sm, List.getElem?_append_right (by rw [List.length_map]; omega), List.getElem?_append_right (by rw [List.length_map, List.length_map]; omega)]
  simp [hs, hr]
theorem sm_rest {s r : List UInt8} (h t : Int) (hs : s.length = 64) (hr : r.length = 32) {i : Nat} (hi : i < 32) : (sm s r h t)[64 + i]? = some (.int .u8 ((r[i]?.getD 0).toNat : Int)) := by
  rw [sm, List.getElem?_append_right (by rw [List.length_map]; omega), List.getElem?_append_left (by simp [hs, hr]; omega)]
  have : 64 + i - (s.map u8v).length = i := by rw [List.length_map]; omega
  rw [this]
  simp [hr, hi, u8v]
theorem sm_set_have {s r : List UInt8} (h t h' : Int) (hs : s.length = 64) (hr : r.length = 32) : (sm s r h t).set 96 (.int .i64 h') = sm s r h' t := by
  rw [sm, List.set_append_right _ _ (by rw [List.length_map]; omega), List.set_append_right _ _ (by rw [List.length_map, List.length_map]; omega)]
  simp [hs, hr, sm]
theorem sm_set_total {s r : List UInt8} (h t t' : Int) (hs : s.length = 64) (hr : r.length = 32) : (sm s r h t).set 97 (.int .i64 t') = sm s r h t' := by
  rw [sm, List.set_append_right _ _ (by rw [List.length_map]; omega), List.set_append_right _ _ (by rw [List.length_map, List.length_map]; omega)]
  simp [hs, hr, sm]
theorem sm_splice {s r xs : List UInt8} (h t : Int) (hs : s.length = 64) (hr : r.length = 32) (k : Nat) (hk : k + xs.length ≤ 32) :
    splice (sm s r h t) (64 + k) (xs.map u8v) = sm s (r.take k ++ xs ++ r.drop (k + xs.length)) h t := by
  unfold splice sm
  rw [List.length_map]
  have l1 : (s.map u8v).length = 64 := by rw [List.length_map]; exact hs
  have l2 : (r.map u8v).length = 32 := by rw [List.length_map]; exact hr
  rw [List.take_append, l1, List.take_of_length_le (by omega), show 64 + k - 64 = k by omega, List.take_append_of_le_length (by omega),
    List.drop_append, l1, List.drop_of_length_le (by omega), List.nil_append, show 64 + k + xs.length - 64 = k + xs.length by omega, List.drop_append_of_le_length (by omega)]
  simp [List.map_append, List.map_take, List.map_drop]
end

section
open Go Go.RowKit

def rows (ls : List (List UInt8)) : List Value := ls.flatten.map u8v
def All32 (ls : List (List UInt8)) : Prop := ∀ l ∈ ls, l.length = 32

theorem flat_length {ls : List (List UInt8)} (h : All32 ls) : ls.flatten.length = 32 * ls.length := by
  induction ls with
  | nil => rfl
  | cons l ls ih =>
    rw [List.flatten_cons, List.length_append, h l (by simp), ih (fun x hx => h x (by simp [hx])), List.length_cons]; omega
theorem rows_length {ls : List (List UInt8)} (h : All32 ls) : (rows ls).length = 32 * ls.length := by rw [rows, List.length_map, flat_length h]
theorem rows_nil : rows [] = [] := rfl
theorem rows_append (a b : List (List UInt8)) : rows (a ++ b) = rows a ++ rows b := by simp [rows]
theorem rows_one (x : List UInt8) : rows [x] = x.map u8v := by simp [rows]
theorem All32.append {a b : List (List UInt8)} (h1 : All32 a) (h2 : All32 b) : All32 (a ++ b) := fun l hl => by
  rcases List.mem_append.1 hl with h | h
  · exact h1 l h
  · exact h2 l h
theorem All32.take {ls : List (List UInt8)} (h : All32 ls) (k : Nat) : All32 (ls.take k) := fun l hl => h l (List.mem_of_mem_take hl)
theorem All32.drop {ls : List (List UInt8)} (h : All32 ls) (k : Nat) : All32 (ls.drop k) := fun l hl => h l (List.mem_of_mem_drop hl)
theorem All32.one {x : List UInt8} (h : x.length = 32) : All32 [x] := fun l hl => by rw [List.mem_singleton.1 hl]; exact h
theorem All32.nil : All32 [] := fun l hl => by cases hl
theorem All32.at {ls : List (List UInt8)} (h : All32 ls) {i : Nat} {x : List UInt8} (hx : ls[i]? = some x) : x.length = 32 := h x (List.mem_of_getElem? hx)
theorem flat_drop {ls : List (List UInt8)} (h : All32 ls) (k : Nat) : ls.flatten.drop (32 * k) = (ls.drop k).flatten := by
  induction ls generalizing k with
  | nil => simp
  | cons l ls ih =>
    cases k with
    | zero => simp
    | succ k =>
      have hl := h l (by simp)
      rw [List.flatten_cons, List.drop_append, hl, show 32 * (k + 1) - 32 = 32 * k by omega, List.drop_of_length_le (by omega), List.nil_append, ih (fun x hx => h x (by simp [hx])), List.drop_succ_cons]
theorem flat_take {ls : List (List UInt8)} (h : All32 ls) (k : Nat) : ls.flatten.take (32 * k) = (ls.take k).flatten := by
  induction ls generalizing k with
  | nil => simp
  | cons l ls ih =>
    cases k with
    | zero => simp
    | succ k =>
      have hl := h l (by simp)
      rw [List.flatten_cons, List.take_append, hl, show 32 * (k + 1) - 32 = 32 * k by omega, List.take_of_length_le (by omega), ih (fun x hx => h x (by simp [hx])), List.take_succ_cons, List.flatten_cons]
theorem rows_drop {ls : List (List UInt8)} (h : All32 ls) (k : Nat) : (rows ls).drop (32 * k) = rows (ls.drop k) := by rw [rows, ← List.map_drop, flat_drop h]; rfl
theorem rows_take {ls : List (List UInt8)} (h : All32 ls) (k : Nat) : (rows ls).take (32 * k) = rows (ls.take k) := by rw [rows, ← List.map_take, flat_take h]; rfl
theorem rows_at {ls : List (List UInt8)} (h : All32 ls) {i : Nat} {x : List UInt8} (hx : ls[i]? = some x) : ((rows ls).drop (32 * i)).take 32 = x.map u8v := by
  have h1 : ls.drop i = x :: ls.drop (i + 1) := by
    have hi := (List.getElem?_eq_some_iff.1 hx)
    obtain ⟨hlt, he⟩ := hi
    rw [List.drop_eq_getElem_cons hlt, he]
  rw [rows_drop h, h1]
  have h2 := rows_take (ls := x :: ls.drop (i + 1)) (by rw [← h1]; exact h.drop i) 1
  rw [Nat.mul_one] at h2
  rw [h2]; simp [rows]

/-- cells at an address -/
def CellsAt (w : World) (p : Addr) (xs : List Value) : Prop := ∀ j u, xs[j]? = some u → w.cell? (p.add j) = some u
theorem addr_add (b o n : Nat) : (⟨b, o, none⟩ : Addr).add n = ⟨b, o + n, none⟩ := by unfold Addr.add; split <;> simp_all
theorem CellsAt.of {w : World} {p : Addr} {xs : List Value} (h : Cells w (some p) xs) : CellsAt w p xs := news_cells h
theorem CellsAt.ext {w w' : World} {p : Addr} {xs : List Value} (h : CellsAt w p xs) (k : Ext w w') : CellsAt w' p xs := by
  intro j u hu
  have h1 := h j u hu
  have hb := block_lt_of_cell h1
  rw [k.cell hb]; exact h1
/-- the address of a slice's part from row p on -/
def shiftz (a : Option Addr) (c p z : Nat) : Option Addr := if c = p then a else a.map (·.add (p * z))
theorem Cells.rowAt {w : World} {p : Addr} {ls : List (List UInt8)} (h : Cells w (some p) (rows ls)) (h32 : All32 ls) {i : Nat} {x : List UInt8} (hx : ls[i]? = some x) : CellsAt w (p.add (i * 32)) (x.map u8v) := by
  intro j u hu
  have hxl := h32.at hx
  have hj : j < 32 := by
    have := (List.getElem?_eq_some_iff.1 hu).1
    rw [List.length_map, hxl] at this; exact this
  have h1 := rows_at h32 hx
  have h2 : (rows ls)[32 * i + j]? = some u := by
    rw [← h1, List.getElem?_take_of_lt hj, List.getElem?_drop] at hu
    exact hu
  obtain ⟨b, off, hp, hc⟩ := h.some_of (by have := (List.getElem?_eq_some_iff.1 h2).1; omega)
  cases hp
  rw [addr_add, addr_add]
  have := hc _ _ h2
  rw [show off + i * 32 + j = off + (32 * i + j) by omega]
  exact this
theorem Cells.rowsTake {w : World} {a : Option Addr} {ls : List (List UInt8)} (h : Cells w a (rows ls)) (h32 : All32 ls) (k : Nat) : Cells w a (rows (ls.take k)) := by
  rw [← rows_take h32]; exact h.take _
theorem Cells.rowsShift {w : World} {a : Option Addr} {ls : List (List UInt8)} (h : Cells w a (rows ls)) (h32 : All32 ls) (c p : Nat) (hc : ls.length ≤ c) : Cells w (shiftz a c p 32) (rows (ls.drop p)) := by
  unfold shiftz
  rw [← rows_drop h32]
  split
  · rename_i hcp
    left
    rw [rows_drop h32, List.drop_of_length_le (by omega)]; rfl
  · rcases h with h | ⟨b, off, rfl, h⟩
    · left; rw [h]; simp
    · refine .inr ⟨b, off + p * 32, by rw [Option.map_some, addr_add], fun i u hu => ?_⟩
      rw [List.getElem?_drop] at hu
      have := h _ _ hu
      rw [show off + p * 32 + i = off + (32 * p + i) by omega]; exact this

section
variable {P : Program} {ops : Array Oper} {rest : List Oper} {o : Oper} {a : Act} {w : World} {Q : Exit → Act → World → Prop} {S : World → Prop}

theorem run_indexAt_z {t e : TypeId} {p : Addr} {n c i z : Nat} (hu : P.underlying t = some (.slice e)) (hs : (P.info? e).map (·.size) = some z) (hi : i < n) (w : World) :
    (Instr.indexAt t (.slice (some p) n c) (.int .i64 (i : Int))).run P w = .ok (.pointer (some (p.add (i * z)))) w := by
  cases hq : P.info? e with
  | none => simp [hq] at hs
  | some inf =>
    have hz : inf.size = z := by simpa [hq] using hs
    have h0 : (0 : Int) ≤ i ∧ (i : Int) < n := by omega
    simp [Instr.indexAt, asIntOf, run_underlying hu, sizeOf, typeInfo, hq, hz, hi]

theorem run_sliceAt_high_z {t e : TypeId} {p : Option Addr} {n c k z : Nat} (hu : P.underlying t = some (.slice e)) (hs : (P.info? e).map (·.size) = some z) (hk : k ≤ c) (w : World) :
    (Instr.sliceAt t (.slice p n c) none (some (.int .i64 (k : Int))) none).run P w = .ok (.slice p k c) w := by
  cases hq : P.info? e with
  | none => simp [hq] at hs
  | some i =>
    have hi : i.size = z := by simpa [hq] using hs
    have h1 : (0 : Int) ≤ k ∧ (k : Int) ≤ c := by omega
    have ha : p.map (fun x => x.add 0) = p := by
      cases p with
      | none => rfl
      | some x => obtain ⟨b, o, s⟩ := x; simp only [Option.map_some, Addr.add]; split <;> simp_all
    simp [Instr.sliceAt, Instr.slice, Instr.sliceBounds, Instr.sliceBound, asIntOf, run_underlying hu, sizeOf, typeInfo, hq, hi, hk, ha]

theorem run_sliceAt_low_z {t e : TypeId} {p : Option Addr} {n c k z : Nat} (hu : P.underlying t = some (.slice e)) (hs : (P.info? e).map (·.size) = some z) (hk : k ≤ n) (w : World) :
    (Instr.sliceAt t (.slice p n c) (some (.int .i64 (k : Int))) none none).run P w = .ok (.slice (shiftz p c k z) (n - k) (c - k)) w := by
  cases hq : P.info? e with
  | none => simp [hq] at hs
  | some i =>
    have hi : i.size = z := by simpa [hq] using hs
    have h1 : (0 : Int) ≤ k ∧ (k : Int) ≤ n := by omega
    simp [Instr.sliceAt, Instr.slice, Instr.sliceBounds, Instr.sliceBound, asIntOf, run_underlying hu, sizeOf, typeInfo, hq, hi, h1.1, hk, shiftz]

theorem run_load_at {ty : TypeId} {p : Addr} {xs : List Value} {n : Nat} (hc : CellsAt w p xs) (ht : AggT P ty n) (hn : xs.length = n) : (loadVar ty p).run P w = .ok (.agg xs.toArray) w := by
  obtain ⟨⟨d, hu, hd⟩, hi⟩ := ht
  have hl := run_loadCells_list (P := P) w p xs hc
  rw [hn] at hl
  cases hq : P.info? ty with
  | none => simp [hq] at hi
  | some i =>
    have hs : i.size = n := by simpa [hq] using hi
    have hagg : (isAgg ty).run P w = .ok true w := by
      unfold isAgg
      rw [Sem.run_bind, run_underlying hu w]
      cases d <;> simp_all
    simp [loadVar, Sem.run_bind, hagg, sizeOf, typeInfo, hq, hs, hl]

/-- whatever runs to a value: as a step of a plain region -/
theorem wpl_run {v : Value} (hgd : o.guard = none) (hr : (execOp a.eval o).run P w = .ok (.value v) w) (h : wpList P ops Q rest (a.put o.dst v) w) : wpList P ops Q (o :: rest) a w :=
  wpList_plain hgd fun K hK => by
    unfold Oper.wp
    rw [hr, Oper.upon_value]
    exact hK _ _ h
theorem wpg_run {v : Value} (hw : Region.wanted o (yielded ops a.tmps) = true) (hr : (execOp a.eval o).run P w = .ok (.value v) w) (h : wpList P ops Q rest (a.put o.dst v) w) : wpList P ops Q (o :: rest) a w :=
  wpList_step fun K hK => by
    rw [if_pos hw]
    unfold Oper.wp
    rw [hr, Oper.upon_value]
    exact hK _ _ h

theorem exec_index {t e : TypeId} {x y : Operand} {p : Addr} {n c i z : Nat} (ho : o.op = .indexAddr t x y) (hx : a.eval x = .slice (some p) n c) (hy : a.eval y = .int .i64 (i : Int)) (hu : P.underlying t = some (.slice e)) (hs : (P.info? e).map (·.size) = some z) (hi : i < n) (w : World) :
    (execOp a.eval o).run P w = .ok (.value (.pointer (some (p.add (i * z))))) w := by
  unfold execOp
  simp only [ho, hx, hy, Sem.run_bind, run_indexAt_z hu hs hi w, Result.andThen_ok, Sem.run_pure]
theorem exec_high {t e : TypeId} {x y : Operand} {p : Option Addr} {n c k z : Nat} (ho : o.op = .slice t x none (some y) none) (hx : a.eval x = .slice p n c) (hy : a.eval y = .int .i64 (k : Int)) (hu : P.underlying t = some (.slice e)) (hs : (P.info? e).map (·.size) = some z) (hk : k ≤ c) (w : World) :
    (execOp a.eval o).run P w = .ok (.value (.slice p k c)) w := by
  unfold execOp
  simp only [ho, hx, hy, Option.map_some, Option.map_none, Sem.run_bind, run_sliceAt_high_z hu hs hk w, Result.andThen_ok, Sem.run_pure]
theorem exec_low {t e : TypeId} {x y : Operand} {p : Option Addr} {n c k z : Nat} (ho : o.op = .slice t x (some y) none none) (hx : a.eval x = .slice p n c) (hy : a.eval y = .int .i64 (k : Int)) (hu : P.underlying t = some (.slice e)) (hs : (P.info? e).map (·.size) = some z) (hk : k ≤ n) (w : World) :
    (execOp a.eval o).run P w = .ok (.value (.slice (shiftz p c k z) (n - k) (c - k))) w := by
  unfold execOp
  simp only [ho, hx, hy, Option.map_some, Option.map_none, Sem.run_bind, run_sliceAt_low_z hu hs hk w, Result.andThen_ok, Sem.run_pure]
theorem exec_load_at {ty : TypeId} {x : Operand} {p : Addr} {xs : List Value} {n : Nat} (ho : o.op = .load ty x) (hx : a.eval x = .pointer (some p)) (hc : CellsAt w p xs) (ht : AggT P ty n) (hn : xs.length = n) :
    (execOp a.eval o).run P w = .ok (.value (.agg xs.toArray)) w := by
  unfold execOp
  simp only [ho, hx, Instr.loadAt, Instr.sureAddr, Sem.run_bind, Sem.run_pure, Result.andThen_ok, run_load_at hc ht hn]
theorem yieldsI_run {v : Value} (hw : Region.wanted o (yielded ops a.tmps) = true) (hr : ∀ w, S w → (execOp a.eval o).run P w = .ok (.value v) w) : YieldsIf P ops S o v a := .inl ⟨hw, hr⟩
end
end

section
open Go Go.RowKit

theorem cell_extU {w w' : World} {p : Addr} {v : Value} (h : w.cell? p = some v) (e : Ext w w') : w'.cell? p = some v := by
  have hb := block_lt_of_cell h
  rw [e.cell hb]; exact h
theorem bytes_beqU (x y : ByteArray) : (x.toList == y.toList) = true ↔ x = y := by
  rw [beq_iff_eq, ByteArray.toList_eq, ByteArray.toList_eq]
  exact ⟨fun h => ByteArray.ext (Array.toList_inj.mp h), fun h => by rw [h]⟩

def encStr : ByteArray → Value := .string
theorem encs_getS {ls : List ByteArray} {k : Nat} {x : ByteArray} (h : ls[k]? = some x) : (ls.map encStr)[k]? = some (.string x) := by rw [List.getElem?_map, h]; rfl
theorem one_tS : OneT Tryz.prog 9 := ⟨⟨_, Tryz.underlying9, rfl⟩, by kernel_rfl⟩

theorem less_tri : ∀ x y : List UInt8, Op.bytesLess x y = !(Op.bytesLess y x || y == x)
  | [], [] => rfl
  | [], _ :: _ => rfl
  | _ :: _, [] => rfl
  | a :: x, b :: y => by
    have ih := less_tri x y
    unfold Op.bytesLess
    rw [ih]
    have tri : a < b ∨ a = b ∨ b < a := by
      rcases Nat.lt_trichotomy a.toNat b.toNat with h | h | h
      · exact .inl (UInt8.lt_iff_toNat_lt.2 h)
      · exact .inr (.inl (UInt8.toNat_inj.1 h))
      · exact .inr (.inr (UInt8.lt_iff_toNat_lt.2 h))
    rcases tri with h | h | h
    · have h1 : ¬ b < a := UInt8.lt_asymm h
      have h2 : ¬ b = a := fun e => by subst e; exact UInt8.lt_irrefl _ h
      have h3 : (b == a) = false := by simpa using h2
      simp [h, h1, h3, h2]
    · subst h
      simp [UInt8.lt_irrefl]
    · have h1 : ¬ a < b := UInt8.lt_asymm h
      have h2 : ¬ a = b := fun e => by subst e; exact UInt8.lt_irrefl _ h
      have h3 : (a == b) = false := by simpa using h2
      simp [h, h1, h3]
def lessS (a b : ByteArray) : Bool := Op.bytesLess a.toList b.toList
/-- one step: the later is not at most the earlier -/
theorem less_leq (a b : ByteArray) : (Op.bytesLess b.toList a.toList || b.toList == a.toList) = !lessS a b := by
  unfold lessS; rw [less_tri a.toList b.toList]; simp
def Rising (ls : List ByteArray) (k : Nat) : Prop := ∀ i a b, i + 1 < k → ls[i]? = some a → ls[i + 1]? = some b → lessS a b = true
noncomputable def risB (ls : List ByteArray) : Bool := @decide (Rising ls ls.length) (Classical.propDecidable _)
theorem risB_iff {ls : List ByteArray} : risB ls = true ↔ Rising ls ls.length := by unfold risB; exact @decide_eq_true_iff _ (Classical.propDecidable _)
theorem risB_true {ls : List ByteArray} {n : Nat} (hn : ls.length = n) (h : Rising ls n) : risB ls = true := risB_iff.2 (hn ▸ h)
theorem risB_false {ls : List ByteArray} {i : Nat} {a b : ByteArray} (h1 : ls[i]? = some a) (h2 : ls[i + 1]? = some b) (h : lessS a b = false) : risB ls = false := by
  cases hr : risB ls with
  | false => rfl
  | true =>
    have := risB_iff.1 hr i a b (List.getElem?_eq_some_iff.1 h2).1 h1 h2
    rw [h] at this; cases this
theorem Rising.step {ls : List ByteArray} {k : Nat} {a b : ByteArray} (h : Rising ls (k + 1)) (h1 : ls[k]? = some a) (h2 : ls[k + 1]? = some b) (hl : lessS a b = true) : Rising ls (k + 2) := by
  intro i x y hi hx hy
  by_cases hik : i = k
  · subst hik
    rw [h1] at hx; rw [h2] at hy
    injection hx with hx; injection hy with hy
    rw [← hx, ← hy]; exact hl
  · exact h i x y (by omega) hx hy
theorem Rising.one (ls : List ByteArray) {k : Nat} (h : k ≤ 1) : Rising ls k := fun i _ _ hi => by omega
theorem size_str : (Tryz.prog.info? 9).map (·.size) = some 1 := by kernel_rfl
theorem one_str : OneT Tryz.prog 9 := ⟨⟨_, Tryz.underlying9, rfl⟩, by kernel_rfl⟩
theorem exec_load_oneU {P : Program} {o : Oper} {a : Act} {w : World} {ty : TypeId} {x : Operand} {p : Addr} {v : Value} (ho : o.op = .load ty x) (hx : a.eval x = .pointer (some p)) (hc : w.cell? p = some v) (ht : OneT P ty) :
    (execOp a.eval o).run P w = .ok (.value v) w := by
  obtain ⟨⟨d, hu, hd⟩, hi⟩ := ht
  have hagg : (isAgg ty).run P w = .ok false w := by
    unfold isAgg
    rw [Sem.run_bind, run_underlying hu w]
    cases d <;> simp_all
  unfold execOp
  simp only [ho, hx, Instr.loadAt, Instr.sureAddr, Sem.run_bind, Sem.run_pure, Result.andThen_ok]
  simp [loadVar, Sem.run_bind, hagg, go_sem, hc]
theorem strs_at {w : World} {a : Option Addr} {ls : List ByteArray} {k : Nat} {x : ByteArray} (h : Cells w a (ls.map encStr)) (hx : ls[k]? = some x) : ∃ A, a = some A ∧ w.cell? (A.add (k * 1)) = some (.string x) := by
  obtain ⟨g, o, rfl, h2⟩ := h.some_of (by rw [List.length_map]; have := (List.getElem?_eq_some_iff.1 hx).1; omega)
  exact ⟨_, rfl, by rw [addr_add, Nat.mul_one]; exact h2 k _ (encs_getS hx)⟩
end

section
open Go Go.RowKit

set_option maxHeartbeats 1000000 in
theorem indexFS_c (p : ByteArray → Bool) (g : Nat) (lb : Array Value) (ls : List ByteArray) (a : Option Addr) (n c : Nat) (w : World) (eg : ∀ args w, (callFunc g args).run Tryz.prog w = .ok (.enter g args) w) (hn : ls.length = n) (hb63 : n ≤ 4611686018427387904) (hx : Cells w a (ls.map encStr))
    (hp : ∀ y ∈ ls, ∀ w', Ext w w' → Calls Tryz.prog g (#[.string y] ++ lb) w' fun e w'' => e = .returned (.bool (p y)) ∧ Ext w' w'') :
    Calls Tryz.prog 38 #[.slice a n c, .func (.func g) #[] lb] w fun e w' => ∃ z : Int, e = .returned (.int .i64 z) ∧ decide (0 ≤ z) = ls.any p ∧ Ext w w' := by
  have HN := hid hn
  have HX := hid hx
  have HP := hid hp
  clear hn hx hp
  go_enter Tryz.func38, Tryz.ntmps38
  go_wp2
  go_loopw [8] (fun i wr => ∃ k : Nat, k ≤ n ∧ i = .int .i64 (k : Int) ∧ (ls.take k).any p = false ∧ Ext w wr) (fun i _ => n - (intOf i).toNat)
  case atStart => exact ⟨0, by omega, rfl, by simp, Ext.refl _⟩
  case round =>
    obtain ⟨k, hk, rfl, hpre, e1⟩ := hrel
    have E1 := hid e1
    have HPR := hid hpre
    clear e1 hpre
    by_cases hlt : k < n
    · obtain ⟨x, hxk⟩ : ∃ x, ls[k]? = some x := ⟨ls[k]'(by rw [HN.out]; exact hlt), by simp⟩
      obtain ⟨A, rfl, hca⟩ : ∃ A, a = some A ∧ w.cell? (A.add k) = some (.string x) := by
        obtain ⟨g, o, rfl, h⟩ := HX.out.some_of (by rw [List.length_map, HN.out]; omega)
        exact ⟨_, rfl, by rw [addr_add]; exact h k _ (encs_getS hxk)⟩
      have hcl := cell_extU hca E1.out
      have hcall := hid (HP.out x (List.mem_of_getElem? hxk) wr E1.out)
      have hstep : (ls.take (k + 1)).any p = p x := by rw [List.take_add_one, hxk, List.any_append, HPR.out]; simp
      have HS := hid hstep
      have hany : p x = true → ls.any p = true := fun h => List.any_eq_true.2 ⟨x, List.mem_of_getElem? hxk, h⟩
      clear hca hxk hstep
      cases hq : p x with
      | true =>
        rw [hq] at hcall
        have HR := hid (hany hq)
        clear hany hq HS
        go_wp2_with fail
        refine hcall.out.mono ?_
        rintro e w' ⟨rfl, e2⟩
        go_wp2_with fail
        go_ret
        exact ⟨_, rfl, by rw [HR.out]; exact decide_eq_true (by omega), E1.out.ext e2⟩
      | false =>
        rw [hq] at hcall HS
        clear hany hq
        go_wp2_with fail
        refine hcall.out.mono ?_
        rintro e w' ⟨rfl, e2⟩
        go_wp2_with fail
        have E2 := hid (E1.out.ext e2)
        clear e2
        go_roundw
        case rel => exact ⟨k + 1, by omega, by go_num, HS.out, E2.out⟩
        case measure => simp [intOf]; omega
    · obtain rfl : k = n := by omega
      have hres := HPR.out
      rw [List.take_of_length_le (by rw [HN.out]; exact Nat.le_refl _)] at hres
      have HR := hid hres
      clear hres
      go_wp2
      go_ret
      exact ⟨-1, rfl, by rw [HR.out]; rfl, E1.out⟩

set_option maxHeartbeats 1000000 in
theorem containsFS_c (p : ByteArray → Bool) (g : Nat) (lb : Array Value) (ls : List ByteArray) (a : Option Addr) (n c : Nat) (w : World) (eg : ∀ args w, (callFunc g args).run Tryz.prog w = .ok (.enter g args) w) (hn : ls.length = n) (hb63 : n ≤ 4611686018427387904) (hx : Cells w a (ls.map encStr))
    (hp : ∀ y ∈ ls, ∀ w', Ext w w' → Calls Tryz.prog g (#[.string y] ++ lb) w' fun e w'' => e = .returned (.bool (p y)) ∧ Ext w' w'') :
    Calls Tryz.prog 50 #[.slice a n c, .func (.func g) #[] lb] w fun e w' => e = .returned (.bool (ls.any p)) ∧ Ext w w' := by
  have hi := hid (indexFS_c p g lb ls a n c w eg hn hb63 hx hp)
  clear hp hx hn eg
  generalize ls.any p = b at *
  generalize Value.func (.func g) #[] lb = fv at *
  go_enter Tryz.func50, Tryz.ntmps50
  go_wp2_with fail
  refine hi.out.mono ?_
  rintro e w1 ⟨z, rfl, hz, e1⟩
  have E1 := hid e1
  clear e1 hi
  go_wp2_with fail
  go_ret
  exact ⟨by first | rfl | rw [hz], E1.out⟩

set_option maxHeartbeats 1000000 in
theorem indexS_c (x : ByteArray) (ls : List ByteArray) (a : Option Addr) (n c : Nat) (w : World) (hn : ls.length = n) (hb63 : n ≤ 4611686018427387904) (hx : Cells w a (ls.map encStr)) :
    Calls Tryz.prog 47 #[.slice a n c, .string x] w fun e w' => ∃ z : Int, e = .returned (.int .i64 z) ∧ (0 ≤ z ↔ x ∈ ls) ∧ w = w' := by
  have HN := hid hn
  have HX := hid hx
  clear hn hx
  go_enter Tryz.func47, Tryz.ntmps47
  go_wp2
  go_loop [5, 8] (fun _ i => ∃ k : Nat, k ≤ n ∧ i = .int .i64 (k : Int) ∧ Hid (x ∉ ls.take k)) (fun _ i => n - (intOf i).toNat)
  case atStart => exact ⟨0, by omega, rfl, hid (by simp)⟩
  case round =>
    obtain ⟨k, hk, rfl, hpre⟩ := hrel
    by_cases hlt : k < n
    · obtain ⟨y, hyk⟩ : ∃ y, ls[k]? = some y := ⟨ls[k]'(by rw [HN.out]; exact hlt), by simp⟩
      obtain ⟨A, rfl, hca⟩ : ∃ A, a = some A ∧ w.cell? (A.add k) = some (.string y) := by
        obtain ⟨g, o, rfl, h⟩ := HX.out.some_of (by rw [List.length_map, HN.out]; omega)
        exact ⟨_, rfl, by rw [addr_add]; exact h k _ (encs_getS hyk)⟩
      have hmem := hid (List.mem_of_getElem? hyk)
      have hstep : y ≠ x → x ∉ ls.take (k + 1) := by
        intro h hm
        rw [List.take_add_one, hyk, List.mem_append] at hm
        rcases hm with hm | hm
        · exact hpre.out hm
        · simp at hm; exact h hm.symm
      have HS := hid hstep
      have heq := (show ((x.toList == y.toList) = true ↔ y = x) from (bytes_beqU x y).trans eq_comm)
      clear hyk hstep
      by_cases hxy : y = x
      · subst hxy
        have q := heq.2 rfl
        clear heq
        go_wp2
        go_ret
        exact ⟨_, rfl, ⟨fun _ => hmem.out, fun _ => by omega⟩, rfl⟩
      · have q : _ = false := Bool.eq_false_iff.2 fun h => hxy (heq.1 h)
        have HS2 := hid (HS.out hxy)
        clear heq hmem hxy HS
        go_wp2
        go_round
        case rel => exact ⟨k + 1, by omega, by go_num, HS2⟩
        case measure => simp [intOf]; omega
    · obtain rfl : k = n := by omega
      have hres := hpre.out
      rw [List.take_of_length_le (by rw [HN.out]; exact Nat.le_refl _)] at hres
      have HR := hid hres
      clear hres hpre
      go_wp2
      go_ret
      exact ⟨-1, rfl, ⟨fun h => absurd h (by decide), fun h => absurd h HR.out⟩, rfl⟩

set_option maxHeartbeats 1000000 in
theorem containsS_c (x : ByteArray) (ls : List ByteArray) (a : Option Addr) (n c : Nat) (w : World) (hn : ls.length = n) (hb63 : n ≤ 4611686018427387904) (hx : Cells w a (ls.map encStr)) :
    Calls Tryz.prog 87 #[.slice a n c, .string x] w fun e w' => ∃ b : Bool, e = .returned (.bool b) ∧ (b = true ↔ x ∈ ls) ∧ w = w' := by
  have hi := hid (indexS_c x ls a n c w hn hb63 hx)
  clear hx hn
  go_enter Tryz.func87, Tryz.ntmps87
  go_wp2_with fail
  refine hi.out.mono ?_
  rintro e w1 ⟨z, rfl, hz, rfl⟩
  have HZ := hid hz
  clear hi hz
  go_wp2_with fail
  go_ret
  exact ⟨_, rfl, by simpa using HZ.out, rfl⟩
end

section
open Go Go.RowKit

def encI : Int → Value := .int .i64
theorem encs_getI {ls : List Int} {k : Nat} {x : Int} (h : ls[k]? = some x) : (ls.map encI)[k]? = some (.int .i64 x) := by rw [List.getElem?_map, h]; rfl
theorem one_tI : OneT Tryz.prog 3 := ⟨⟨_, Tryz.underlying3, rfl⟩, by kernel_rfl⟩

set_option maxHeartbeats 1000000 in
theorem indexFI_c (p : Int → Bool) (g : Nat) (lb : Array Value) (ls : List Int) (a : Option Addr) (n c : Nat) (w : World) (eg : ∀ args w, (callFunc g args).run Tryz.prog w = .ok (.enter g args) w) (hn : ls.length = n) (hb63 : n ≤ 4611686018427387904) (hx : Cells w a (ls.map encI))
    (hp : ∀ y ∈ ls, ∀ w', Ext w w' → Calls Tryz.prog g (#[.int .i64 y] ++ lb) w' fun e w'' => e = .returned (.bool (p y)) ∧ Ext w' w'') :
    Calls Tryz.prog 92 #[.slice a n c, .func (.func g) #[] lb] w fun e w' => ∃ z : Int, e = .returned (.int .i64 z) ∧ decide (0 ≤ z) = ls.any p ∧ Ext w w' := by
  have HN := hid hn
  have HX := hid hx
  have HP := hid hp
  clear hn hx hp
  go_enter Tryz.func92, Tryz.ntmps92
  go_wp2
  go_loopw [8] (fun i wr => ∃ k : Nat, k ≤ n ∧ i = .int .i64 (k : Int) ∧ (ls.take k).any p = false ∧ Ext w wr) (fun i _ => n - (intOf i).toNat)
  case atStart => exact ⟨0, by omega, rfl, by simp, Ext.refl _⟩
  case round =>
    obtain ⟨k, hk, rfl, hpre, e1⟩ := hrel
    have E1 := hid e1
    have HPR := hid hpre
    clear e1 hpre
    by_cases hlt : k < n
    · obtain ⟨x, hxk⟩ : ∃ x, ls[k]? = some x := ⟨ls[k]'(by rw [HN.out]; exact hlt), by simp⟩
      obtain ⟨A, rfl, hca⟩ : ∃ A, a = some A ∧ w.cell? (A.add k) = some (.int .i64 x) := by
        obtain ⟨g, o, rfl, h⟩ := HX.out.some_of (by rw [List.length_map, HN.out]; omega)
        exact ⟨_, rfl, by rw [addr_add]; exact h k _ (encs_getI hxk)⟩
      have hcl := cell_extU hca E1.out
      have hcall := hid (HP.out x (List.mem_of_getElem? hxk) wr E1.out)
      have hstep : (ls.take (k + 1)).any p = p x := by rw [List.take_add_one, hxk, List.any_append, HPR.out]; simp
      have HS := hid hstep
      have hany : p x = true → ls.any p = true := fun h => List.any_eq_true.2 ⟨x, List.mem_of_getElem? hxk, h⟩
      clear hca hxk hstep
      cases hq : p x with
      | true =>
        rw [hq] at hcall
        have HR := hid (hany hq)
        clear hany hq HS
        go_wp2_with fail
        refine hcall.out.mono ?_
        rintro e w' ⟨rfl, e2⟩
        go_wp2_with fail
        go_ret
        exact ⟨_, rfl, by rw [HR.out]; exact decide_eq_true (by omega), E1.out.ext e2⟩
      | false =>
        rw [hq] at hcall HS
        clear hany hq
        go_wp2_with fail
        refine hcall.out.mono ?_
        rintro e w' ⟨rfl, e2⟩
        go_wp2_with fail
        have E2 := hid (E1.out.ext e2)
        clear e2
        go_roundw
        case rel => exact ⟨k + 1, by omega, by go_num, HS.out, E2.out⟩
        case measure => simp [intOf]; omega
    · obtain rfl : k = n := by omega
      have hres := HPR.out
      rw [List.take_of_length_le (by rw [HN.out]; exact Nat.le_refl _)] at hres
      have HR := hid hres
      clear hres
      go_wp2
      go_ret
      exact ⟨-1, rfl, by rw [HR.out]; rfl, E1.out⟩

set_option maxHeartbeats 1000000 in
theorem containsFI_c (p : Int → Bool) (g : Nat) (lb : Array Value) (ls : List Int) (a : Option Addr) (n c : Nat) (w : World) (eg : ∀ args w, (callFunc g args).run Tryz.prog w = .ok (.enter g args) w) (hn : ls.length = n) (hb63 : n ≤ 4611686018427387904) (hx : Cells w a (ls.map encI))
    (hp : ∀ y ∈ ls, ∀ w', Ext w w' → Calls Tryz.prog g (#[.int .i64 y] ++ lb) w' fun e w'' => e = .returned (.bool (p y)) ∧ Ext w' w'') :
    Calls Tryz.prog 53 #[.slice a n c, .func (.func g) #[] lb] w fun e w' => e = .returned (.bool (ls.any p)) ∧ Ext w w' := by
  have hi := hid (indexFI_c p g lb ls a n c w eg hn hb63 hx hp)
  clear hp hx hn eg
  generalize ls.any p = b at *
  generalize Value.func (.func g) #[] lb = fv at *
  go_enter Tryz.func53, Tryz.ntmps53
  go_wp2_with fail
  refine hi.out.mono ?_
  rintro e w1 ⟨z, rfl, hz, e1⟩
  have E1 := hid e1
  clear e1 hi
  go_wp2_with fail
  go_ret
  exact ⟨by first | rfl | rw [hz], E1.out⟩

set_option maxHeartbeats 1000000 in
theorem indexI_c (x : Int) (ls : List Int) (a : Option Addr) (n c : Nat) (w : World) (hn : ls.length = n) (hb63 : n ≤ 4611686018427387904) (hx : Cells w a (ls.map encI)) :
    Calls Tryz.prog 118 #[.slice a n c, .int .i64 x] w fun e w' => ∃ z : Int, e = .returned (.int .i64 z) ∧ (0 ≤ z ↔ x ∈ ls) ∧ w = w' := by
  have HN := hid hn
  have HX := hid hx
  clear hn hx
  go_enter Tryz.func118, Tryz.ntmps118
  go_wp2
  go_loop [5, 8] (fun _ i => ∃ k : Nat, k ≤ n ∧ i = .int .i64 (k : Int) ∧ Hid (x ∉ ls.take k)) (fun _ i => n - (intOf i).toNat)
  case atStart => exact ⟨0, by omega, rfl, hid (by simp)⟩
  case round =>
    obtain ⟨k, hk, rfl, hpre⟩ := hrel
    by_cases hlt : k < n
    · obtain ⟨y, hyk⟩ : ∃ y, ls[k]? = some y := ⟨ls[k]'(by rw [HN.out]; exact hlt), by simp⟩
      obtain ⟨A, rfl, hca⟩ : ∃ A, a = some A ∧ w.cell? (A.add k) = some (.int .i64 y) := by
        obtain ⟨g, o, rfl, h⟩ := HX.out.some_of (by rw [List.length_map, HN.out]; omega)
        exact ⟨_, rfl, by rw [addr_add]; exact h k _ (encs_getI hyk)⟩
      have hmem := hid (List.mem_of_getElem? hyk)
      have hstep : y ≠ x → x ∉ ls.take (k + 1) := by
        intro h hm
        rw [List.take_add_one, hyk, List.mem_append] at hm
        rcases hm with hm | hm
        · exact hpre.out hm
        · simp at hm; exact h hm.symm
      have HS := hid hstep
      have heq := (show ((x == y) = true ↔ y = x) from by rw [beq_iff_eq]; exact eq_comm)
      clear hyk hstep
      by_cases hxy : y = x
      · subst hxy
        have q := heq.2 rfl
        clear heq
        go_wp2
        go_ret
        exact ⟨_, rfl, ⟨fun _ => hmem.out, fun _ => by omega⟩, rfl⟩
      · have q : _ = false := Bool.eq_false_iff.2 fun h => hxy (heq.1 h)
        have HS2 := hid (HS.out hxy)
        clear heq hmem hxy HS
        go_wp2
        go_round
        case rel => exact ⟨k + 1, by omega, by go_num, HS2⟩
        case measure => simp [intOf]; omega
    · obtain rfl : k = n := by omega
      have hres := hpre.out
      rw [List.take_of_length_le (by rw [HN.out]; exact Nat.le_refl _)] at hres
      have HR := hid hres
      clear hres hpre
      go_wp2
      go_ret
      exact ⟨-1, rfl, ⟨fun h => absurd h (by decide), fun h => absurd h HR.out⟩, rfl⟩

set_option maxHeartbeats 1000000 in
theorem containsI_c (x : Int) (ls : List Int) (a : Option Addr) (n c : Nat) (w : World) (hn : ls.length = n) (hb63 : n ≤ 4611686018427387904) (hx : Cells w a (ls.map encI)) :
    Calls Tryz.prog 94 #[.slice a n c, .int .i64 x] w fun e w' => ∃ b : Bool, e = .returned (.bool b) ∧ (b = true ↔ x ∈ ls) ∧ w = w' := by
  have hi := hid (indexI_c x ls a n c w hn hb63 hx)
  clear hx hn
  go_enter Tryz.func94, Tryz.ntmps94
  go_wp2_with fail
  refine hi.out.mono ?_
  rintro e w1 ⟨z, rfl, hz, rfl⟩
  have HZ := hid hz
  clear hi hz
  go_wp2_with fail
  go_ret
  exact ⟨_, rfl, by simpa using HZ.out, rfl⟩
end

section
open Go Go.RowKit Go.Maps Go.MapKept Go.WideShapes

theorem enc_memS {x : ByteArray} {ls : List ByteArray} : (.string x) ∈ ls.map encStr ↔ x ∈ ls := by
  rw [List.mem_map]
  constructor
  · rintro ⟨y, hy, he⟩
    unfold encStr at he
    injection he with he
    rw [← he]; exact hy
  · intro h; exact ⟨x, h, rfl⟩
theorem nodup_stepS {ls : List ByteArray} {k : Nat} {x : ByteArray} (h : ls[k]? = some x) (hn : (ls.take k).Nodup) : (x ∉ ls.take k → (ls.take (k + 1)).Nodup) ∧ (x ∈ ls.take k → ¬ ls.Nodup) := by
  have ht : ls.take (k + 1) = ls.take k ++ [x] := by rw [List.take_add_one, h]; rfl
  refine ⟨fun hx => ?_, fun hx hd => ?_⟩
  · rw [ht, List.nodup_append]
    refine ⟨hn, by simp, ?_⟩
    intro a ha b hb
    rw [List.mem_singleton] at hb
    subst hb
    intro e; subst e; exact hx ha
  · have h2 : (ls.take (k + 1)).Nodup := hd.sublist (List.take_sublist _ _)
    rw [ht, List.nodup_append] at h2
    exact h2.2.2 x hx x (by simp) rfl

set_option maxHeartbeats 1000000 in
theorem twiceS_c (ls : List ByteArray) (a : Option Addr) (n c : Nat) (w : World) (hn : ls.length = n) (hb63 : n ≤ 4611686018427387904) (hx : Cells w a (ls.map encStr)) (hkey : Keys Tryz.prog 9 (ls.map encStr)) :
    Calls Tryz.prog 73 #[.slice a n c] w fun e w' => ∃ b : Bool, e = .returned (.bool b) ∧ (b = true ↔ ¬ ls.Nodup) ∧ Ext w w' := by
  have HN := hid hn
  have HX := hid hx
  have HK := hid hkey
  clear hn hx hkey
  have hmk := run_makeMapU (P := Tryz.prog) 129 w
  go_enter Tryz.func73, Tryz.ntmps73
  go_upto_region 2 with (fail)
  generalize hwA : World.alloc w _ = wA
  have sA : SetAt wA w.heap.size [] := by rw [← hwA]; exact SetAt.new w
  have eA : Ext w wA := by rw [← hwA]; exact (Ext.refl w).alloc _
  have SA := hid sA
  have EA := hid eA
  clear hwA sA eA hmk

  go_wp2
  go_loopw [9] (fun i wr => ∃ k : Nat, k ≤ n ∧ i = .int .i64 (k : Int) ∧ (ls.take k).Nodup ∧ SetAt wr w.heap.size ((ls.take k).map encStr) ∧ Ext w wr) (fun i _ => n - (intOf i).toNat)
  case atStart => exact ⟨0, by omega, rfl, by simp, by simpa using SA.out, EA.out⟩
  case round =>
    obtain ⟨k, hk, rfl, hpre, hset, e1⟩ := hrel
    have E1 := hid e1
    have HPR := hid hpre
    have HSET := hid hset
    clear e1 hpre hset
    by_cases hlt : k < n
    · obtain ⟨x, hxk⟩ : ∃ x, ls[k]? = some x := ⟨ls[k]'(by rw [HN.out]; exact hlt), by simp⟩
      obtain ⟨A, rfl, hca⟩ : ∃ A, a = some A ∧ w.cell? (A.add k) = some (.string x) := by
        obtain ⟨g, o, rfl, h⟩ := HX.out.some_of (by rw [List.length_map, HN.out]; omega)
        exact ⟨_, rfl, by rw [addr_add]; exact h k _ (encs_getS hxk)⟩
      have hcl := cell_extU hca E1.out
      have HST := hid (nodup_stepS hxk HPR.out)
      have HT := hid (show (ls.take (k + 1)).map encStr = (ls.take k).map encStr ++ [.string x] by rw [List.take_add_one, hxk]; simp [encStr])
      have hks : Keys Tryz.prog 9 ((ls.take k).map encStr) := fun v hv => by
        obtain ⟨y, hy, rfl⟩ := List.mem_map.1 hv
        exact HK.out _ (List.mem_map.2 ⟨y, List.mem_of_mem_take hy, rfl⟩)
      obtain ⟨kl, hkl⟩ := HK.out (.string x) (enc_memS.2 (List.mem_of_getElem? hxk))
      obtain ⟨b, hlk, hb⟩ := run_lookup_set (string_keyed Tryz.underlying9) Tryz.underlying129 (by kernel_rfl) HSET.out hks hkl
      obtain ⟨wU, ks', hup, hU, hS', hor⟩ := run_update_set (string_keyed Tryz.underlying9) Tryz.underlying129 HSET.out hks hkl
      have HU := hid hU
      have HS := hid hS'
      have HOR := hid hor
      rw [enc_memS] at hb
      have HB := hid hb
      clear hca hxk hks hkl hU hS' hor hb
      cases b with
      | true =>
        have HD := hid (HST.out.2 (HB.out.1 rfl))
        clear hup HB HST HOR HS HU HT
        go_wp2
        go_ret
        exact ⟨true, rfl, (by first | exact ⟨fun _ => HD.out, fun _ => rfl⟩ | exact ⟨fun _ => HD.out, fun _ => trivial⟩ | simpa using HD.out), E1.out⟩
      | false =>
        have hnx : x ∉ ls.take k := fun h => by have := HB.out.2 h; cases this
        have hks2 : ks' = (ls.take (k + 1)).map encStr := by
          rcases HOR.out with ⟨h, _⟩ | ⟨_, h⟩
          · exact absurd (enc_memS.1 h) hnx
          · rw [h, HT.out]
        have HS2 := hid (hks2 ▸ HS.out)
        have HND := hid (HST.out.1 hnx)
        have E2 := hid (HU.out.ext E1.out (Nat.le_refl _))
        clear hnx hks2 HOR HS HST HT HB HSET HPR
        go_wp2
        go_roundw
        case rel => exact ⟨k + 1, by omega, by go_num, HND.out, HS2.out, E2.out⟩
        case measure => simp [intOf]; omega
    · obtain rfl : k = n := by omega
      have hres := HPR.out
      rw [List.take_of_length_le (by rw [HN.out]; exact Nat.le_refl _)] at hres
      have HR := hid hres
      clear hres
      go_wp2
      go_ret
      exact ⟨false, rfl, (by first | exact ⟨fun h => (Bool.noConfusion h), fun h => absurd HR.out h⟩ | exact HR.out | simpa using HR.out), E1.out⟩

set_option maxHeartbeats 1000000 in
theorem rtwiceS_c (ls : List ByteArray) (a : Option Addr) (n c : Nat) (w : World) (hn : ls.length = n) (hb63 : n ≤ 4611686018427387904) (hnc : n ≤ c) (hx : Cells w a (ls.map encStr)) :
    Calls Tryz.prog 57 #[.slice a n c] w fun e w' => ∃ b : Bool, e = .returned (.bool b) ∧ (b = true ↔ ¬ ls.Nodup) ∧ Ext w w' := by
  have HN := hid hn
  have HX := hid hx
  clear hn hx
  go_enter Tryz.func57, Tryz.ntmps57
  go_wp2
  go_loopw [7] (fun i wr => ∃ k : Nat, k ≤ n ∧ i = .int .i64 (k : Int) ∧ (ls.take k).Nodup ∧ Ext w wr) (fun i _ => n - (intOf i).toNat)
  case atStart => exact ⟨0, by omega, rfl, by simp, Ext.refl _⟩
  case round =>
    obtain ⟨k, hk, rfl, hpre, e1⟩ := hrel
    have E1 := hid e1
    have HPR := hid hpre
    clear e1 hpre
    by_cases hlt : k < n
    · obtain ⟨x, hxk⟩ : ∃ x, ls[k]? = some x := ⟨ls[k]'(by rw [HN.out]; exact hlt), by simp⟩
      obtain ⟨A, rfl, hca⟩ : ∃ A, a = some A ∧ w.cell? (A.add k) = some (.string x) := by
        obtain ⟨g, o, rfl, h⟩ := HX.out.some_of (by rw [List.length_map, HN.out]; omega)
        exact ⟨_, rfl, by rw [addr_add]; exact h k _ (encs_getS hxk)⟩
      have hcl := cell_extU hca E1.out
      have HST := hid (nodup_stepS hxk HPR.out)
      have hcx : Cells wr (some A) ((ls.take k).map encStr) := by rw [List.map_take]; exact (HX.out.ext E1.out).take k
      have hlk : (ls.take k).length = k := by rw [List.length_take, HN.out]; omega
      have hct := hid (containsS_c x (ls.take k) (some A) k c wr hlk (by omega) hcx)
      have hkc : k ≤ c := by omega
      clear hca hxk hcx hlk
      go_wp2_with fail
      refine hct.out.mono ?_
      rintro e wU ⟨b, rfl, hb, rfl⟩
      have HB := hid hb
      clear hb hct
      cases b with
      | true =>
        have HD := hid (HST.out.2 (HB.out.1 rfl))
        clear HB HST
        go_wp2_with fail
        go_ret
        exact ⟨true, rfl, (by first | exact ⟨fun _ => HD.out, fun _ => rfl⟩ | exact ⟨fun _ => HD.out, fun _ => trivial⟩ | simpa using HD.out), E1.out⟩
      | false =>
        have HND := hid (HST.out.1 fun h => by have := HB.out.2 h; cases this)
        clear HST HB HPR
        go_wp2_with fail
        go_roundw
        case rel => exact ⟨k + 1, by omega, by go_num, HND.out, E1.out⟩
        case measure => simp [intOf]; omega
    · obtain rfl : k = n := by omega
      have hres := HPR.out
      rw [List.take_of_length_le (by rw [HN.out]; exact Nat.le_refl _)] at hres
      have HR := hid hres
      clear hres
      go_wp2
      go_ret
      exact ⟨false, rfl, (by first | exact ⟨fun h => (Bool.noConfusion h), fun h => absurd HR.out h⟩ | exact HR.out | simpa using HR.out), E1.out⟩
end

section
open Go Go.RowKit Go.Maps Go.MapKept Go.WideShapes

theorem enc_memI {x : Int} {ls : List Int} : (.int .i64 x) ∈ ls.map encI ↔ x ∈ ls := by
  rw [List.mem_map]
  constructor
  · rintro ⟨y, hy, he⟩
    unfold encI at he
    injection he with _ he
    rw [← he]; exact hy
  · intro h; exact ⟨x, h, rfl⟩
theorem nodup_stepI {ls : List Int} {k : Nat} {x : Int} (h : ls[k]? = some x) (hn : (ls.take k).Nodup) : (x ∉ ls.take k → (ls.take (k + 1)).Nodup) ∧ (x ∈ ls.take k → ¬ ls.Nodup) := by
  have ht : ls.take (k + 1) = ls.take k ++ [x] := by rw [List.take_add_one, h]; rfl
  refine ⟨fun hx => ?_, fun hx hd => ?_⟩
  · rw [ht, List.nodup_append]
    refine ⟨hn, by simp, ?_⟩
    intro a ha b hb
    rw [List.mem_singleton] at hb
    subst hb
    intro e; subst e; exact hx ha
  · have h2 : (ls.take (k + 1)).Nodup := hd.sublist (List.take_sublist _ _)
    rw [ht, List.nodup_append] at h2
    exact h2.2.2 x hx x (by simp) rfl

set_option maxHeartbeats 1000000 in
theorem twiceI_c (ls : List Int) (a : Option Addr) (n c : Nat) (w : World) (hn : ls.length = n) (hb63 : n ≤ 4611686018427387904) (hx : Cells w a (ls.map encI)) (hkey : Keys Tryz.prog 3 (ls.map encI)) :
    Calls Tryz.prog 74 #[.slice a n c] w fun e w' => ∃ b : Bool, e = .returned (.bool b) ∧ (b = true ↔ ¬ ls.Nodup) ∧ Ext w w' := by
  have HN := hid hn
  have HX := hid hx
  have HK := hid hkey
  clear hn hx hkey
  have hmk := run_makeMapU (P := Tryz.prog) 130 w
  go_enter Tryz.func74, Tryz.ntmps74
  go_upto_region 2 with (fail)
  generalize hwA : World.alloc w _ = wA
  have sA : SetAt wA w.heap.size [] := by rw [← hwA]; exact SetAt.new w
  have eA : Ext w wA := by rw [← hwA]; exact (Ext.refl w).alloc _
  have SA := hid sA
  have EA := hid eA
  clear hwA sA eA hmk

  go_wp2
  go_loopw [9] (fun i wr => ∃ k : Nat, k ≤ n ∧ i = .int .i64 (k : Int) ∧ (ls.take k).Nodup ∧ SetAt wr w.heap.size ((ls.take k).map encI) ∧ Ext w wr) (fun i _ => n - (intOf i).toNat)
  case atStart => exact ⟨0, by omega, rfl, by simp, by simpa using SA.out, EA.out⟩
  case round =>
    obtain ⟨k, hk, rfl, hpre, hset, e1⟩ := hrel
    have E1 := hid e1
    have HPR := hid hpre
    have HSET := hid hset
    clear e1 hpre hset
    by_cases hlt : k < n
    · obtain ⟨x, hxk⟩ : ∃ x, ls[k]? = some x := ⟨ls[k]'(by rw [HN.out]; exact hlt), by simp⟩
      obtain ⟨A, rfl, hca⟩ : ∃ A, a = some A ∧ w.cell? (A.add k) = some (.int .i64 x) := by
        obtain ⟨g, o, rfl, h⟩ := HX.out.some_of (by rw [List.length_map, HN.out]; omega)
        exact ⟨_, rfl, by rw [addr_add]; exact h k _ (encs_getI hxk)⟩
      have hcl := cell_extU hca E1.out
      have HST := hid (nodup_stepI hxk HPR.out)
      have HT := hid (show (ls.take (k + 1)).map encI = (ls.take k).map encI ++ [.int .i64 x] by rw [List.take_add_one, hxk]; simp [encI])
      have hks : Keys Tryz.prog 3 ((ls.take k).map encI) := fun v hv => by
        obtain ⟨y, hy, rfl⟩ := List.mem_map.1 hv
        exact HK.out _ (List.mem_map.2 ⟨y, List.mem_of_mem_take hy, rfl⟩)
      obtain ⟨kl, hkl⟩ := HK.out (.int .i64 x) (enc_memI.2 (List.mem_of_getElem? hxk))
      obtain ⟨b, hlk, hb⟩ := run_lookup_set (int_keyed Tryz.underlying3) Tryz.underlying130 (by kernel_rfl) HSET.out hks hkl
      obtain ⟨wU, ks', hup, hU, hS', hor⟩ := run_update_set (int_keyed Tryz.underlying3) Tryz.underlying130 HSET.out hks hkl
      have HU := hid hU
      have HS := hid hS'
      have HOR := hid hor
      rw [enc_memI] at hb
      have HB := hid hb
      clear hca hxk hks hkl hU hS' hor hb
      cases b with
      | true =>
        have HD := hid (HST.out.2 (HB.out.1 rfl))
        clear hup HB HST HOR HS HU HT
        go_wp2
        go_ret
        exact ⟨true, rfl, (by first | exact ⟨fun _ => HD.out, fun _ => rfl⟩ | exact ⟨fun _ => HD.out, fun _ => trivial⟩ | simpa using HD.out), E1.out⟩
      | false =>
        have hnx : x ∉ ls.take k := fun h => by have := HB.out.2 h; cases this
        have hks2 : ks' = (ls.take (k + 1)).map encI := by
          rcases HOR.out with ⟨h, _⟩ | ⟨_, h⟩
          · exact absurd (enc_memI.1 h) hnx
          · rw [h, HT.out]
        have HS2 := hid (hks2 ▸ HS.out)
        have HND := hid (HST.out.1 hnx)
        have E2 := hid (HU.out.ext E1.out (Nat.le_refl _))
        clear hnx hks2 HOR HS HST HT HB HSET HPR
        go_wp2
        go_roundw
        case rel => exact ⟨k + 1, by omega, by go_num, HND.out, HS2.out, E2.out⟩
        case measure => simp [intOf]; omega
    · obtain rfl : k = n := by omega
      have hres := HPR.out
      rw [List.take_of_length_le (by rw [HN.out]; exact Nat.le_refl _)] at hres
      have HR := hid hres
      clear hres
      go_wp2
      go_ret
      exact ⟨false, rfl, (by first | exact ⟨fun h => (Bool.noConfusion h), fun h => absurd HR.out h⟩ | exact HR.out | simpa using HR.out), E1.out⟩

set_option maxHeartbeats 1000000 in
theorem rtwiceI_c (ls : List Int) (a : Option Addr) (n c : Nat) (w : World) (hn : ls.length = n) (hb63 : n ≤ 4611686018427387904) (hnc : n ≤ c) (hx : Cells w a (ls.map encI)) :
    Calls Tryz.prog 58 #[.slice a n c] w fun e w' => ∃ b : Bool, e = .returned (.bool b) ∧ (b = true ↔ ¬ ls.Nodup) ∧ Ext w w' := by
  have HN := hid hn
  have HX := hid hx
  clear hn hx
  go_enter Tryz.func58, Tryz.ntmps58
  go_wp2
  go_loopw [7] (fun i wr => ∃ k : Nat, k ≤ n ∧ i = .int .i64 (k : Int) ∧ (ls.take k).Nodup ∧ Ext w wr) (fun i _ => n - (intOf i).toNat)
  case atStart => exact ⟨0, by omega, rfl, by simp, Ext.refl _⟩
  case round =>
    obtain ⟨k, hk, rfl, hpre, e1⟩ := hrel
    have E1 := hid e1
    have HPR := hid hpre
    clear e1 hpre
    by_cases hlt : k < n
    · obtain ⟨x, hxk⟩ : ∃ x, ls[k]? = some x := ⟨ls[k]'(by rw [HN.out]; exact hlt), by simp⟩
      obtain ⟨A, rfl, hca⟩ : ∃ A, a = some A ∧ w.cell? (A.add k) = some (.int .i64 x) := by
        obtain ⟨g, o, rfl, h⟩ := HX.out.some_of (by rw [List.length_map, HN.out]; omega)
        exact ⟨_, rfl, by rw [addr_add]; exact h k _ (encs_getI hxk)⟩
      have hcl := cell_extU hca E1.out
      have HST := hid (nodup_stepI hxk HPR.out)
      have hcx : Cells wr (some A) ((ls.take k).map encI) := by rw [List.map_take]; exact (HX.out.ext E1.out).take k
      have hlk : (ls.take k).length = k := by rw [List.length_take, HN.out]; omega
      have hct := hid (containsI_c x (ls.take k) (some A) k c wr hlk (by omega) hcx)
      have hkc : k ≤ c := by omega
      clear hca hxk hcx hlk
      go_wp2_with fail
      refine hct.out.mono ?_
      rintro e wU ⟨b, rfl, hb, rfl⟩
      have HB := hid hb
      clear hb hct
      cases b with
      | true =>
        have HD := hid (HST.out.2 (HB.out.1 rfl))
        clear HB HST
        go_wp2_with fail
        go_ret
        exact ⟨true, rfl, (by first | exact ⟨fun _ => HD.out, fun _ => rfl⟩ | exact ⟨fun _ => HD.out, fun _ => trivial⟩ | simpa using HD.out), E1.out⟩
      | false =>
        have HND := hid (HST.out.1 fun h => by have := HB.out.2 h; cases this)
        clear HST HB HPR
        go_wp2_with fail
        go_roundw
        case rel => exact ⟨k + 1, by omega, by go_num, HND.out, E1.out⟩
        case measure => simp [intOf]; omega
    · obtain rfl : k = n := by omega
      have hres := HPR.out
      rw [List.take_of_length_le (by rw [HN.out]; exact Nat.le_refl _)] at hres
      have HR := hid hres
      clear hres
      go_wp2
      go_ret
      exact ⟨false, rfl, (by first | exact ⟨fun h => (Bool.noConfusion h), fun h => absurd HR.out h⟩ | exact HR.out | simpa using HR.out), E1.out⟩
end

section
open Go Go.RowKit

theorem run_stringAt (s : ByteArray) (i : Nat) (c : UInt8) (h : s.data[i]? = some c) (w : World) : (Instr.index 9 (.string s) (.int .i64 (i : Int))).run Tryz.prog w = .ok (.int .u8 (c.toNat : Int)) w := by
  have h2 : s[i]? = some c := by
    have hi : i < s.size := (Array.getElem?_eq_some_iff.1 h).1
    rw [getElem?_pos s i hi]
    have := (Array.getElem?_eq_some_iff.1 h).2
    exact congrArg some this
  simp [Instr.index, asIntOf, run_underlying Tryz.underlying9, h2]

set_option maxRecDepth 100000 in
set_option maxHeartbeats 2000000 in
theorem isName_c (s : ByteArray) (w : World) (hn : s.size ≤ 140737488355328) :
    Calls Tryz.prog 100 #[.string s] w fun e w' => e = .returned (.bool (isNameL s.data.toList)) ∧ w = w' := by
  obtain ⟨n, hsn⟩ : ∃ n, s.size = n := ⟨_, rfl⟩
  have hll : s.data.toList.length = n := by rw [← hsn, Array.length_toList]; rfl
  obtain ⟨R, hR⟩ : ∃ R, isNameL s.data.toList = R := ⟨_, rfl⟩
  rw [hR]
  unfold isNameL at hR
  have HR := hid hR
  have HLL := hid hll
  have hat : ∀ i : Nat, s.data[i]? = s.data.toList[i]? := fun i => by rw [Array.getElem?_toList]
  have HAT := hid hat
  clear hR hll hat
  go_enter Tryz.func100, Tryz.ntmps100
  go_wp2
  go_loopw [3] (fun x wr => ∃ i : Nat, i ≤ n ∧ x = .int .i64 i ∧ Hid ((s.data.toList.take i).all nameOct = true) ∧ Hid (w = wr))
    (fun x _ => n - (intOf x).toNat)
  case atStart => exact ⟨0, by omega, rfl, hid (by simp), hid rfl⟩
  case round =>
    obtain ⟨i, hi, rfl, hall, hw⟩ := hrel
    by_cases hlt : i < n
    · have hd : decide ((i : Int) < (n : Int)) = true := decide_eq_true (by omega)
      obtain ⟨c, hc⟩ : ∃ c, s.data.toList[i]? = some c := ⟨_, List.getElem?_eq_getElem (by rw [HLL.out]; exact hlt)⟩
      have hix := fun w => run_stringAt s i c (by rw [HAT.out]; exact hc) w
      have hcn := c.toNat_lt
      have hstep : (s.data.toList.take (i + 1)).all nameOct = nameOct c := by
        rw [List.take_add_one, hc, List.all_append, hall.out]; simp
      have hbad : nameOct c = false → R = false := by
        intro hf
        have hm := List.mem_of_getElem? hc
        have : s.data.toList.all nameOct = false := by
          rw [List.all_eq_false]
          exact ⟨c, hm, by rw [hf]; simp⟩
        rw [← HR.out, this]; rfl
      have HST := hid hstep
      have HBAD := hid hbad
      obtain ⟨C, hC⟩ : ∃ C, c.toNat = C := ⟨_, rfl⟩
      rw [hC] at hix hcn
      have HC := hid hC
      have HIX := hid hix
      have hok : ∀ b, nameOct c = b ↔ ((decide (97 ≤ C) && decide (C ≤ 122)) || (decide (48 ≤ C) && decide (C ≤ 57)) || C == 45 || C == 46 || C == 95) = b := by
        intro b
        unfold nameOct
        rw [hC]
      have HOK := hid hok
      clear hstep hbad hC hok hc
      have i0 : (0 : Int) ≤ (i : Int) := by omega
      have i1 : (i : Int) < (n : Int) := by omega
      rcases (by omega : (97 ≤ C ∧ C ≤ 122) ∨ 122 < C ∨ (48 ≤ C ∧ C ≤ 57) ∨ C = 95 ∨ (57 < C ∧ C < 97 ∧ ¬ C = 95) ∨ C = 45 ∨ C = 46 ∨ (C < 48 ∧ ¬ C = 45 ∧ ¬ C = 46)) with h | h | h | h | h | h | h | h
      · have hok2 : nameOct c = true := (HOK.out true).2 (by simp; omega)
        have HO2 := hid hok2
        clear hok2
        have qa : decide (97 ≤ (C : Int)) = true := by simp; omega
        have qan : decide (97 ≤ C) = true := by simp; omega
        have qb : decide ((C : Int) ≤ 122) = true := by simp; omega
        have qbn : decide (C ≤ 122) = true := by simp; omega
        clear h
        have hix2 := HIX.out
        go_wp2
        go_roundw
        case rel => exact ⟨i + 1, by omega, by go_num, hid (by rw [HST.out, HO2.out]), hw⟩
        case measure => simp [intOf]; omega
      · have hok2 : nameOct c = false := (HOK.out false).2 (by simp; omega)
        have hR2 := HBAD.out hok2
        have HR2 := hid hR2
        clear hok2 hR2
        have qa : decide (97 ≤ (C : Int)) = true := by simp; omega
        have qan : decide (97 ≤ C) = true := by simp; omega
        have qb : decide ((C : Int) ≤ 122) = false := by simp; omega
        have qbn : decide (C ≤ 122) = false := by simp; omega
        have qd : decide (48 ≤ (C : Int)) = true := by simp; omega
        have qdn : decide (48 ≤ C) = true := by simp; omega
        have qe : decide ((C : Int) ≤ 57) = false := by simp; omega
        have qen : decide (C ≤ 57) = false := by simp; omega
        have qf : ((C : Int) == 45) = false := by simp; omega
        have qfd : decide ((C : Int) = 45) = false := by simp; omega
        have qg : ((C : Int) == 46) = false := by simp; omega
        have qgd : decide ((C : Int) = 46) = false := by simp; omega
        have qk : ((C : Int) == 95) = false := by simp; omega
        have qkd : decide ((C : Int) = 95) = false := by simp; omega
        clear h
        have hix2 := HIX.out
        go_wp2
        go_ret
        exact ⟨by rw [HR2.out]; rfl, hw.out⟩
      · have hok2 : nameOct c = true := (HOK.out true).2 (by simp; omega)
        have HO2 := hid hok2
        clear hok2
        have qa : decide (97 ≤ (C : Int)) = false := by simp; omega
        have qan : decide (97 ≤ C) = false := by simp; omega
        have qd : decide (48 ≤ (C : Int)) = true := by simp; omega
        have qdn : decide (48 ≤ C) = true := by simp; omega
        have qe : decide ((C : Int) ≤ 57) = true := by simp; omega
        have qen : decide (C ≤ 57) = true := by simp; omega
        clear h
        have hix2 := HIX.out
        go_wp2
        go_roundw
        case rel => exact ⟨i + 1, by omega, by go_num, hid (by rw [HST.out, HO2.out]), hw⟩
        case measure => simp [intOf]; omega
      · have hok2 : nameOct c = true := (HOK.out true).2 (by simp; omega)
        have HO2 := hid hok2
        clear hok2
        have qa : decide (97 ≤ (C : Int)) = false := by simp; omega
        have qan : decide (97 ≤ C) = false := by simp; omega
        have qd : decide (48 ≤ (C : Int)) = true := by simp; omega
        have qdn : decide (48 ≤ C) = true := by simp; omega
        have qe : decide ((C : Int) ≤ 57) = false := by simp; omega
        have qen : decide (C ≤ 57) = false := by simp; omega
        have qf : ((C : Int) == 45) = false := by simp; omega
        have qfd : decide ((C : Int) = 45) = false := by simp; omega
        have qg : ((C : Int) == 46) = false := by simp; omega
        have qgd : decide ((C : Int) = 46) = false := by simp; omega
        have qk : ((C : Int) == 95) = true := by simp; omega
        have qkd : decide ((C : Int) = 95) = true := by simp; omega
        clear h
        have hix2 := HIX.out
        go_wp2
        go_roundw
        case rel => exact ⟨i + 1, by omega, by go_num, hid (by rw [HST.out, HO2.out]), hw⟩
        case measure => simp [intOf]; omega
      · have hok2 : nameOct c = false := (HOK.out false).2 (by simp; omega)
        have hR2 := HBAD.out hok2
        have HR2 := hid hR2
        clear hok2 hR2
        have qa : decide (97 ≤ (C : Int)) = false := by simp; omega
        have qan : decide (97 ≤ C) = false := by simp; omega
        have qd : decide (48 ≤ (C : Int)) = true := by simp; omega
        have qdn : decide (48 ≤ C) = true := by simp; omega
        have qe : decide ((C : Int) ≤ 57) = false := by simp; omega
        have qen : decide (C ≤ 57) = false := by simp; omega
        have qf : ((C : Int) == 45) = false := by simp; omega
        have qfd : decide ((C : Int) = 45) = false := by simp; omega
        have qg : ((C : Int) == 46) = false := by simp; omega
        have qgd : decide ((C : Int) = 46) = false := by simp; omega
        have qk : ((C : Int) == 95) = false := by simp; omega
        have qkd : decide ((C : Int) = 95) = false := by simp; omega
        clear h
        have hix2 := HIX.out
        go_wp2
        go_ret
        exact ⟨by rw [HR2.out]; rfl, hw.out⟩
      · have hok2 : nameOct c = true := (HOK.out true).2 (by simp; omega)
        have HO2 := hid hok2
        clear hok2
        have qa : decide (97 ≤ (C : Int)) = false := by simp; omega
        have qan : decide (97 ≤ C) = false := by simp; omega
        have qd : decide (48 ≤ (C : Int)) = false := by simp; omega
        have qdn : decide (48 ≤ C) = false := by simp; omega
        have qf : ((C : Int) == 45) = true := by simp; omega
        have qfd : decide ((C : Int) = 45) = true := by simp; omega
        clear h
        have hix2 := HIX.out
        go_wp2
        go_roundw
        case rel => exact ⟨i + 1, by omega, by go_num, hid (by rw [HST.out, HO2.out]), hw⟩
        case measure => simp [intOf]; omega
      · have hok2 : nameOct c = true := (HOK.out true).2 (by simp; omega)
        have HO2 := hid hok2
        clear hok2
        have qa : decide (97 ≤ (C : Int)) = false := by simp; omega
        have qan : decide (97 ≤ C) = false := by simp; omega
        have qd : decide (48 ≤ (C : Int)) = false := by simp; omega
        have qdn : decide (48 ≤ C) = false := by simp; omega
        have qf : ((C : Int) == 45) = false := by simp; omega
        have qfd : decide ((C : Int) = 45) = false := by simp; omega
        have qg : ((C : Int) == 46) = true := by simp; omega
        have qgd : decide ((C : Int) = 46) = true := by simp; omega
        clear h
        have hix2 := HIX.out
        go_wp2
        go_roundw
        case rel => exact ⟨i + 1, by omega, by go_num, hid (by rw [HST.out, HO2.out]), hw⟩
        case measure => simp [intOf]; omega
      · have hok2 : nameOct c = false := (HOK.out false).2 (by simp; omega)
        have hR2 := HBAD.out hok2
        have HR2 := hid hR2
        clear hok2 hR2
        have qa : decide (97 ≤ (C : Int)) = false := by simp; omega
        have qan : decide (97 ≤ C) = false := by simp; omega
        have qd : decide (48 ≤ (C : Int)) = false := by simp; omega
        have qdn : decide (48 ≤ C) = false := by simp; omega
        have qf : ((C : Int) == 45) = false := by simp; omega
        have qfd : decide ((C : Int) = 45) = false := by simp; omega
        have qg : ((C : Int) == 46) = false := by simp; omega
        have qgd : decide ((C : Int) = 46) = false := by simp; omega
        have qk : ((C : Int) == 95) = false := by simp; omega
        have qkd : decide ((C : Int) = 95) = false := by simp; omega
        clear h
        have hix2 := HIX.out
        go_wp2
        go_ret
        exact ⟨by rw [HR2.out]; rfl, hw.out⟩
    · have hin : i = n := by omega
      subst hin
      have hal : s.data.toList.all nameOct = true := by
        have := hall.out
        rwa [List.take_of_length_le (by rw [HLL.out]; exact Nat.le_refl _)] at this
      have hr := HR.out
      rw [hal, HLL.out] at hr
      clear hal
      have HR2 := hid hr
      clear hr HR
      have hte : s.toList = s.data.toList := ByteArray.toList_eq s
      by_cases hE : s.data.toList = []
      · have f1 : s.toList = [] := by rw [hte, hE]
        have hRf : R = false := by rw [← HR2.out, hE]; rfl
        have HRF := hid hRf
        clear hRf hte hE HR2 HLL HAT hall
        go_wp2
        go_ret
        exact ⟨by rw [HRF.out]; rfl, hw.out⟩
      · have f1 : ¬ s.toList = [] := by rw [hte]; exact hE
        have f2 : s.toList.isEmpty = false := by
          cases h : s.toList.isEmpty with
          | false => rfl
          | true => exact absurd (List.isEmpty_iff.1 h) f1
        have f3 : s.data.toList.isEmpty = false := by rw [← hte]; exact f2
        by_cases h32 : i ≤ 32
        · have d1 : decide ((i : Int) ≤ 32) = true := decide_eq_true (by omega)
          have d1n : decide (i ≤ 32) = true := decide_eq_true h32
          have hRf : R = true := by rw [← HR2.out, f3, d1n]; rfl
          have HRF := hid hRf
          clear hRf hte hE f3 HR2 HLL HAT hall
          go_wp2
          go_ret
          exact ⟨by rw [HRF.out]; rfl, hw.out⟩
        · have d1 : decide ((i : Int) ≤ 32) = false := decide_eq_false (by omega)
          have d1n : decide (i ≤ 32) = false := decide_eq_false h32
          have hRf : R = false := by rw [← HR2.out, f3, d1n]; rfl
          have HRF := hid hRf
          clear hRf hte hE f3 HR2 HLL HAT hall
          go_wp2
          go_ret
          exact ⟨by rw [HRF.out]; rfl, hw.out⟩
end
end Go.Proofs.YthfddfgncolnbaaGreatDoor
