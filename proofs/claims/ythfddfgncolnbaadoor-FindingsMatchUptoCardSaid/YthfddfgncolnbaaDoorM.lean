/- Blocks of memory that are known whole; no condition. -/
import Derived.WalkKit
import Derived.Deep.Draws
import Derived.Deep.Quiet
import Derived.Deep.RegionLaw
import Derived.Test.YthfddfgncolnbaaDoorV
namespace Go.Proofs.YthfddfgncolnbaaDoor
open Go Go.RowKit

theorem hid {p : Prop} (h : p) : Hid p := h

/-- block g holds just these cells, none frozen -/
def Blk (w : World) (g : Nat) (vs : List Value) (T : TypeId) : Prop := w.heap[g]? = some (.cells vs.toArray T (0, 0))

theorem Blk.lt {w : World} {g : Nat} {vs : List Value} {T : TypeId} (h : Blk w g vs T) : g < w.heap.size := by
  unfold Blk at h
  exact (Array.getElem?_eq_some_iff.1 h).1

theorem Blk.cell {w : World} {g : Nat} {vs : List Value} {T : TypeId} (h : Blk w g vs T) {i : Nat} (hi : i < vs.length) : w.cell? ⟨g, i, none⟩ = some vs[i] := by
  unfold Blk at h
  simp [World.cell?, h, hi]

theorem Blk.cell' {w : World} {g : Nat} {vs : List Value} {T : TypeId} (h : Blk w g vs T) {i : Nat} {v : Value} (hi : vs[i]? = some v) : w.cell? ⟨g, i, none⟩ = some v := by
  unfold Blk at h
  simp [World.cell?, h, hi]

theorem Blk.frozen {w : World} {g : Nat} {vs : List Value} {T : TypeId} (h : Blk w g vs T) (i : Nat) : w.frozen? ⟨g, i, none⟩ = false := by
  unfold Blk at h
  simp [World.frozen?, h]

theorem Blk.below {w w' : World} {B g : Nat} {vs : List Value} {T : TypeId} (h : Blk w g vs T) (hb : Below B w w') (hg : g < B) : Blk w' g vs T := by
  unfold Blk at *
  rw [hb.block g hg]; exact h

theorem Blk.drew {w : World} {g : Nat} {vs : List Value} {T : TypeId} (h : Blk w g vs T) : Blk w.drew g vs T := h
theorem Blk.drewN {w : World} {g n : Nat} {vs : List Value} {T : TypeId} (h : Blk w g vs T) : Blk (w.drewN n) g vs T := h

theorem Blk.alloc_new (w : World) (vs : List Value) (T : TypeId) : Blk (w.alloc (.cells vs.toArray T)) w.heap.size vs T := by
  unfold Blk
  show (w.heap.push _)[w.heap.size]? = _
  simp

theorem Blk.mk_alloc {w : World} {arr : Array Value} {vs : List Value} {T : TypeId} {n : Nat} (hn : n = w.heap.size) (ha : vs.toArray = arr) : Blk (w.alloc (.cells arr T)) n vs T := by
  subst hn; subst ha; exact Blk.alloc_new _ _ _

theorem Blk.alloc {w : World} {g : Nat} {vs : List Value} {T : TypeId} (h : Blk w g vs T) (o : Obj) : Blk (w.alloc o) g vs T := by
  have := h.lt
  unfold Blk at *
  show (w.heap.push _)[g]? = _
  rw [Array.getElem?_push, if_neg (by omega)]; exact h

theorem Blk.set {w : World} {g : Nat} {vs : List Value} {T : TypeId} (h : Blk w g vs T) (i : Nat) (v : Value) : Blk (w.setCell ⟨g, i, none⟩ v) g (vs.set i v) T := by
  unfold Blk at *
  simp only [World.setCell, Array.getElem?_modify, if_true, h, Option.map_some]
  simp

theorem Blk.set_other {w : World} {g : Nat} {vs : List Value} {T : TypeId} (h : Blk w g vs T) (a : Addr) (v : Value) (hn : g ≠ a.block) : Blk (w.setCell a v) g vs T := by
  unfold Blk at *
  rw [Below.heap_setCell _ _ _ _ hn]; exact h

/-- a type of arrays or structs, of n cells -/
def AggT (P : Program) (ty : TypeId) (n : Nat) : Prop := (∃ d, P.underlying ty = some d ∧ (match d with | .struct _ | .array _ _ => true | _ => false) = true) ∧ (P.info? ty).map (·.size) = some n

/-- the end of a function whose result lies in a block of its own -/
theorem ret_row {P : Program} {fn : Func} {R : Ending → World → Prop} {a : Act} {w : World} {p : Tmp} {ty : TypeId} {g : Nat} {vs : List Value} {T : TypeId}
    (hres : fn.results = #[.cell p ty]) (hp : a.tmps.getD p undef = .pointer (some ⟨g, 0, none⟩)) (hb : Blk w g vs T)
    {n : Nat} (ht : AggT P ty n) (hn : vs.length = n)
    (hdef : a.defers = []) (hR : R (.returned (.agg vs.toArray)) w) : bodyPost P fn R .ret a w := by
  obtain ⟨⟨d, hu, hd⟩, hi⟩ := ht
  exact bodyPost_ret (results_cell_row hres a.tmps w g T vs.toArray (0, 0) d hp hb hu (by cases d <;> simp_all) (by rw [hi, ← hn]; simp)) hdef hR

/-- nothing that was there has turned -/
abbrev Ext (W w : World) : Prop := Below W.heap.size W w
theorem Ext.refl (w : World) : Ext w w := Below.refl _ _
theorem Ext.alloc {W w : World} (h : Ext W w) (o : Obj) : Ext W (w.alloc o) := Below.alloc h h.size o
theorem Ext.set {W w : World} (h : Ext W w) {p : Addr} (v : Value) (hp : W.heap.size ≤ p.block) : Ext W (w.setCell p v) := Below.setCell h hp v
theorem Ext.drew {W w : World} (h : Ext W w) : Ext W w.drew := Below.drew h
theorem Ext.drewN {W w : World} (h : Ext W w) (n : Nat) : Ext W (w.drewN n) := ⟨h.os, h.tape, h.output, h.size, h.block⟩
theorem Ext.ext {W w w' : World} (h : Ext W w) (k : Ext w w') : Ext W w' := Below.trans h (k.mono h.size)
theorem Blk.ext {w w' : World} {g : Nat} {vs : List Value} {T : TypeId} (h : Blk w g vs T) (k : Ext w w') : Blk w' g vs T := h.below k h.lt

/-- only block g has turned, and there are no new ones -/
structure Upd (w : World) (g : Nat) (w' : World) : Prop where
  os : w'.os = w.os
  tape : w'.tape = w.tape
  output : w'.output = w.output
  size : w'.heap.size = w.heap.size
  block : ∀ k, k ≠ g → w'.heap[k]? = w.heap[k]?

theorem Upd.ext {W w w' : World} {g : Nat} (h : Ext W w) (k : Upd w g w') (hg : W.heap.size ≤ g) : Ext W w' :=
  ⟨k.os.trans h.os, k.tape.trans h.tape, k.output.trans h.output, by rw [k.size]; exact h.size, fun i hi => (k.block i (by omega)).trans (h.block i hi)⟩
theorem Blk.upd {w w' : World} {k g : Nat} {vs : List Value} {T : TypeId} (h : Blk w k vs T) (u : Upd w g w') (hn : k ≠ g) : Blk w' k vs T := by
  unfold Blk at *; rw [u.block k hn]; exact h
theorem Upd.setRow {w : World} {g : Nat} (cs : Array Value) : Upd w g (w.setRow g cs) :=
  ⟨rfl, rfl, rfl, by simp, fun k hk => setRow_other w g k cs hk⟩
theorem Upd.setCell {w : World} {g i : Nat} (v : Value) : Upd w g (w.setCell ⟨g, i, none⟩ v) :=
  ⟨rfl, rfl, rfl, by simp [World.setCell], fun k hk => Below.heap_setCell _ _ _ _ hk⟩
theorem Blk.setRow {w : World} {g : Nat} {vs : List Value} {T : TypeId} (h : Blk w g vs T) (vs' : List Value) : Blk (w.setRow g vs'.toArray) g vs' T :=
  setRow_heap w g vs.toArray vs'.toArray T (0, 0) h
theorem Upd.refl (w : World) (g : Nat) : Upd w g w := ⟨rfl, rfl, rfl, rfl, fun _ _ => rfl⟩
theorem Upd.trans {a b c : World} {g : Nat} (h : Upd a g b) (k : Upd b g c) : Upd a g c :=
  ⟨k.os.trans h.os, k.tape.trans h.tape, k.output.trans h.output, k.size.trans h.size, fun i hi => (k.block i hi).trans (h.block i hi)⟩

def splice (vs : List Value) (o : Nat) (xs : List Value) : List Value := vs.take o ++ xs ++ vs.drop (o + xs.length)

section
variable {P : Program} {ops : Array Oper} {rest : List Oper} {o : Oper} {a : Act} {w : World} {Q : Exit → Act → World → Prop}

theorem run_load_sub {g off n : Nat} {vs : List Value} {T ty : TypeId} (hb : Blk w g vs T) (ht : AggT P ty n) (hn : off + n ≤ vs.length) :
    (loadVar ty ⟨g, off, none⟩).run P w = .ok (.agg ((vs.drop off).take n).toArray) w := by
  obtain ⟨⟨d, hu, hd⟩, hi⟩ := ht
  have hlen : ((vs.drop off).take n).length = n := by simp; omega
  have hl : (loadCells ⟨g, off, none⟩ ((vs.drop off).take n).length).run P w = .ok ((vs.drop off).take n).toArray w :=
    run_loadCells_list (P := P) w ⟨g, off, none⟩ _ (fun j v hv => by
      have hj : j < n := by
        have := (List.getElem?_eq_some_iff.1 hv).1
        omega
      have hadd : (⟨g, off, none⟩ : Addr).add j = ⟨g, off + j, none⟩ := by unfold Addr.add; split <;> simp_all
      rw [hadd]
      refine hb.cell' ?_
      rw [List.getElem?_take_of_lt hj, List.getElem?_drop] at hv
      exact hv)
  rw [hlen] at hl
  cases hq : P.info? ty with
  | none => simp [hq] at hi
  | some i =>
    have hs : i.size = n := by simpa [hq] using hi
    have hagg : (isAgg ty).run P w = .ok true w := by
      unfold isAgg
      rw [Sem.run_bind, run_underlying hu w]
      cases d <;> simp_all
    simp [loadVar, Sem.run_bind, hagg, sizeOf, typeInfo, hq, hs, hl]

theorem run_store_sub {g off : Nat} {vs xs : List Value} {T ty : TypeId} (hb : Blk w g vs T) (ht : AggT P ty xs.length) (hn : off + xs.length ≤ vs.length) (h1 : ∀ v ∈ xs, v.oneCell' = true) :
    (storeVar ty ⟨g, off, none⟩ (.agg xs.toArray)).run P w = .ok () (w.setRow g (splice vs off xs).toArray) := by
  obtain ⟨_, hi⟩ := ht
  have hst := run_storeCells_at P g off T xs 0 vs.toArray w hb (by simpa using hn) h1
  cases hq : P.info? ty with
  | none => simp [hq] at hi
  | some i =>
    have hs : xs.length = i.size := by simp [hq] at hi; omega
    simp only [Nat.add_zero, List.toList_toArray] at hst
    simp [storeVar, sizeOf, typeInfo, hq, Value.cells, hs, hst, splice]

theorem wpl_load (hgd : o.guard = none) (ty : TypeId) (x : Operand) (ho : o.op = .load ty x) {g off n : Nat} {vs : List Value} {T : TypeId}
    (hx : a.eval x = .pointer (some ⟨g, off, none⟩)) (hb : Blk w g vs T) (ht : AggT P ty n) (hn : off + n ≤ vs.length)
    (h : wpList P ops Q rest (a.put o.dst (.agg ((vs.drop off).take n).toArray)) w) : wpList P ops Q (o :: rest) a w :=
  wpList_plain hgd fun K hK => by
    unfold Oper.wp execOp
    simp only [ho, hx, Instr.loadAt, Instr.sureAddr, Sem.run_bind, Sem.run_pure, Result.andThen_ok, run_load_sub hb ht hn]
    exact hK _ _ h

/-- a whole block -/
theorem wpl_loadw (hgd : o.guard = none) (ty : TypeId) (x : Operand) (ho : o.op = .load ty x) {g : Nat} {vs : List Value} {T : TypeId}
    (hx : a.eval x = .pointer (some ⟨g, 0, none⟩)) (hb : Blk w g vs T) {n : Nat} (ht : AggT P ty n) (hn : vs.length = n)
    (h : wpList P ops Q rest (a.put o.dst (.agg vs.toArray)) w) : wpList P ops Q (o :: rest) a w := by
  subst hn
  exact wpl_load hgd ty x ho hx hb ht (by omega) (by simpa using h)

theorem wpl_store (hgd : o.guard = none) (ty : TypeId) (x y : Operand) (ho : o.op = .store ty x y) {g off : Nat} {vs xs : List Value} {T : TypeId}
    (hx : a.eval x = .pointer (some ⟨g, off, none⟩)) (hy : a.eval y = .agg xs.toArray) (hb : Blk w g vs T) (ht : AggT P ty xs.length) (hn : off + xs.length ≤ vs.length)
    (h1 : ∀ v ∈ xs, v.oneCell' = true)
    (h : ∀ w', Blk w' g (splice vs off xs) T → Upd w g w' → wpList P ops Q rest (a.put o.dst undef) w') : wpList P ops Q (o :: rest) a w :=
  wpList_plain hgd fun K hK => by
    unfold Oper.wp execOp
    simp only [ho, hx, hy, Instr.storeAt, Instr.sureAddr, Sem.run_bind, Sem.run_pure, Result.andThen_ok, run_store_sub hb ht hn h1]
    exact hK _ _ (h _ (hb.setRow _) (Upd.setRow _))

theorem wpl_storew (hgd : o.guard = none) (ty : TypeId) (x y : Operand) (ho : o.op = .store ty x y) {g : Nat} {vs xs : List Value} {T : TypeId}
    (hx : a.eval x = .pointer (some ⟨g, 0, none⟩)) (hy : a.eval y = .agg xs.toArray) (hb : Blk w g vs T) {n : Nat} (ht : AggT P ty n) (hv : vs.length = n) (hn : xs.length = n)
    (h1 : ∀ v ∈ xs, v.oneCell' = true)
    (h : ∀ w', Blk w' g xs T → Upd w g w' → wpList P ops Q rest (a.put o.dst undef) w') : wpList P ops Q (o :: rest) a w :=
  wpl_store hgd ty x y ho hx hy hb (by rw [hn]; exact ht) (by omega) h1 fun w' hb' hu => h w' (by
    have : splice vs 0 xs = xs := by simp [splice, hn, hv]
    rwa [this] at hb') hu

/-- copy into a block of which all is known -/
theorem wpl_copy (hgd : o.guard = none) (dT sT : TypeId) (x y : Operand) (ho : o.op = .call { callee := .builtin .copy, args := #[x, y], argTypes := #[dT, sT] }) {g off dLen dCap sLen sCap : Nat} {sa : Addr} {vs cs : List Value} {T elem : TypeId}
    (hx : a.eval x = .slice (some ⟨g, off, none⟩) dLen dCap) (hy : a.eval y = .slice (some sa) sLen sCap) (hb : Blk w g vs T)
    (hu : P.underlying dT = some (.slice elem)) (hs : (P.info? elem).map (·.size) = some 1) (hn : cs.length = Nat.min sLen dLen)
    (hsrc : ∀ j v, cs[j]? = some v → w.cell? (sa.add j) = some v) (hfit : off + cs.length ≤ vs.length) (h1 : ∀ v ∈ cs, v.oneCell' = true)
    (h : ∀ w', Blk w' g (splice vs off cs) T → Upd w g w' → wpList P ops Q rest (a.put o.dst (.int .i64 cs.length)) w') : wpList P ops Q (o :: rest) a w :=
  wpList_plain hgd fun K hK => by
    have hr := run_copy_row (P := P) w dT sT o.type elem g off dLen dCap sa sLen sCap vs.toArray T cs hu hs hb hn hsrc (by simpa using hfit) h1
    unfold Oper.wp execOp
    simp only [ho, resolve, Sem.run_bind, Sem.run_pure, Result.andThen_ok, invoke, builtin]
    have e : (#[x, y].map a.eval) = #[.slice (some ⟨g, off, none⟩) dLen dCap, .slice (some sa) sLen sCap] := by simp [hx, hy]
    rw [e, hr]
    simp only [Result.andThen_ok, Sem.run_pure, Oper.upon]
    refine hK _ _ (h _ ?_ (Upd.setRow _))
    have := hb.setRow (splice vs off cs)
    simpa [splice] using this

theorem run_arrayAt {T e : TypeId} {n : Nat} (hu : P.underlying T = some (.array n e)) {len : Nat} (hl : n ≤ len) (x : Option Addr) (c : Nat) (w : World) :
    (Instr.arrayAt T (.slice x len c)).run P w = .ok (.pointer x) w := by
  simp [Instr.arrayAt, run_underlying hu, Nat.not_lt.2 hl]

/-- a type of one cell that is no array and no struct -/
def OneT (P : Program) (ty : TypeId) : Prop := (∃ d, P.underlying ty = some d ∧ (match d with | .struct _ | .array _ _ => true | _ => false) = false) ∧ (P.info? ty).map (·.size) = some 1

theorem run_index_arr {T e : TypeId} {n : Nat} {cs : Array Value} {v : Value} (hu : P.underlying T = some (.array n e)) (he : OneT P e) (i : Nat) (hi : i < n) (hv : cs[i]? = some v) (w : World) :
    (Instr.index T (.agg cs) (.int .i64 (i : Int))).run P w = .ok v w := by
  obtain ⟨⟨d, hd, hdd⟩, hs⟩ := he
  cases hq : P.info? e with
  | none => simp [hq] at hs
  | some inf =>
    have hs' : inf.size = 1 := by simpa [hq] using hs
    have hagg : (isAgg e).run P w = .ok false w := by
      unfold isAgg
      rw [Sem.run_bind, run_underlying hd w]
      cases d <;> simp_all
    have h0 : (0 : Int) ≤ i ∧ (i : Int) < n := by omega
    simp [Instr.index, asIntOf, run_underlying hu, part, sizeOf, typeInfo, hq, hs', hagg, hv, hi]

/-- In every world of the class the load yields the same. -/
theorem quiet_loadw {C : World → Prop} {K : Act → Prop} (ty : TypeId) (x : Operand) (ho : o.op = .load ty x) {g off n : Nat} {vs : List Value} {T : TypeId}
    (hx : a.eval x = .pointer (some ⟨g, off, none⟩)) (hb : ∀ w, C w → Blk w g vs T) (ht : AggT P ty n) (hn : off + n ≤ vs.length)
    (h : K (a.put o.dst (.agg ((vs.drop off).take n).toArray))) : o.quiet P a C K :=
  ⟨_, fun w hw => by
    unfold Oper.quietAt execOp
    simp only [ho, hx, Instr.loadAt, Instr.sureAddr, Sem.run_bind, Sem.run_pure, Result.andThen_ok, run_load_sub (hb w hw) ht hn]
    exact ⟨rfl, rfl⟩, h⟩
end

theorem below_refl (w : World) : Below w.heap.size w w := Below.refl _ _

/-- old cells and marks read as before -/
theorem bcell {B : Nat} {W w1 : World} (hb : Below B W w1) : (∀ b o, b < B → w1.cell? ⟨b, o, none⟩ = W.cell? ⟨b, o, none⟩) ∧ (∀ b o, b < B → w1.frozen? ⟨b, o, none⟩ = W.frozen? ⟨b, o, none⟩) :=
  ⟨fun b o h => hb.cell (p := ⟨b, o, none⟩) h, fun b o h => hb.frozen (p := ⟨b, o, none⟩) h⟩

theorem one_u8 (l : List UInt8) : ∀ v ∈ l.map u8v, v.oneCell' = true := by
  intro v hv; obtain ⟨x, _, rfl⟩ := List.mem_map.1 hv; rfl
theorem one_u32 (l : List UInt32) : ∀ v ∈ l.map u32v, v.oneCell' = true := by
  intro v hv; obtain ⟨x, _, rfl⟩ := List.mem_map.1 hv; rfl

theorem ret_eq {a b : Value} (h : a = b) : Ending.returned a = Ending.returned b := by rw [h]
theorem int_eq {k : IntKind} {a b : Int} (h : a = b) : Value.int k a = Value.int k b := by rw [h]

/-- a list that is being filled from the front -/
def fill {α : Type} (f : Nat → α) (d : α) (n i : Nat) : List α := (List.range n).map fun j => if j < i then f j else d
theorem fill_length {α : Type} (f : Nat → α) (d : α) (n i : Nat) : (fill f d n i).length = n := by simp [fill]
theorem fill_get {α : Type} (f : Nat → α) (d : α) (n i j : Nat) (h : j < n) : (fill f d n i)[j]? = some (if j < i then f j else d) := by
  simp [fill, h]
theorem fill_set {α : Type} (f : Nat → α) (d : α) (n i : Nat) : (fill f d n i).set i (f i) = fill f d n (i + 1) := by
  apply List.ext_getElem?
  intro j
  by_cases hj : j < n
  · rw [fill_get _ _ _ _ _ hj, List.getElem?_set]
    by_cases hij : i = j
    · subst hij; simp [fill_length, hj]
    · rw [if_neg hij, fill_get _ _ _ _ _ hj]
      by_cases h1 : j < i
      · rw [if_pos h1, if_pos (by omega)]
      · rw [if_neg h1, if_neg (by omega)]
  · have h1 : ((fill f d n i).set i (f i)).length = n := by simp [fill_length]
    rw [List.getElem?_eq_none (by omega), List.getElem?_eq_none (by rw [fill_length]; omega)]
theorem cells32 {w : World} {g : Nat} {ws : List UInt32} {T : TypeId} (h : Blk w g (ws.map u32v) T) (n : Nat) (hn : ws.length = n) : ∀ j, j < n → w.cell? ⟨g, j, none⟩ = some (u32v (ws.getD j 0)) := by
  intro j hj
  refine h.cell' ?_
  simp [hn, hj]
theorem Blk.set32 {w : World} {g : Nat} {ws : List UInt32} {T : TypeId} (h : Blk w g (ws.map u32v) T) (i : Nat) (x : UInt32) : Blk (w.setCell ⟨g, i, none⟩ (.int .u32 (x.toNat : Nat))) g ((ws.set i x).map u32v) T := by
  have := h.set i (u32v x)
  rwa [← List.map_set] at this
theorem Blk.fill32 {w : World} {g : Nat} {f : Nat → UInt32} {n i : Nat} {T : TypeId} (h : Blk w g ((fill f 0 n i).map u32v) T) : Blk (w.setCell ⟨g, i, none⟩ (.int .u32 ((f i).toNat : Nat))) g ((fill f 0 n (i + 1)).map u32v) T := by
  have := h.set i (u32v (f i))
  rwa [← List.map_set, fill_set] at this
theorem Blk.fill8 {w : World} {g : Nat} {f : Nat → UInt8} {n i : Nat} {T : TypeId} (h : Blk w g ((fill f 0 n i).map u8v) T) : Blk (w.setCell ⟨g, i, none⟩ (.int .u8 ((f i).toNat : Nat))) g ((fill f 0 n (i + 1)).map u8v) T := by
  have := h.set i (u8v (f i))
  rwa [← List.map_set, fill_set] at this
theorem fill_splice {α : Type} (f : Nat → α) (d : α) (n a m : Nat) (g : α → Value) (h : a + m ≤ n) (xs : List α) (hx : xs = (List.range m).map fun j => f (a + j)) :
    splice ((fill f d n a).map g) a (xs.map g) = (fill f d n (a + m)).map g := by
  subst hx
  unfold splice
  have hlen : (((List.range m).map fun j => f (a + j)).map g).length = m := by simp
  rw [hlen]
  apply List.ext_getElem?
  intro j
  rw [List.getElem?_append, List.getElem?_append]
  have l1 : (((fill f d n a).map g).take a).length = a := by simp [fill_length]; omega
  rw [List.length_append, l1, hlen]
  by_cases h1 : j < a + m
  · rw [if_pos h1]
    by_cases h2 : j < a
    · rw [if_pos h2, List.getElem?_take_of_lt h2, List.getElem?_map, List.getElem?_map, fill_get _ _ _ _ _ (by omega), fill_get _ _ _ _ _ (by omega), if_pos h2, if_pos h1]
    · rw [if_neg h2, List.getElem?_map, List.getElem?_map, List.getElem?_map, fill_get _ _ _ _ _ (by omega), if_pos h1]
      simp [show j - a < m by omega, show a + (j - a) = j by omega]
  · rw [if_neg h1, List.getElem?_drop, show a + m + (j - (a + m)) = j by omega, List.getElem?_map, List.getElem?_map]
    by_cases h3 : j < n
    · rw [fill_get _ _ _ _ _ h3, fill_get _ _ _ _ _ h3, if_neg (by omega), if_neg h1]
    · rw [List.getElem?_eq_none (by rw [fill_length]; omega), List.getElem?_eq_none (by rw [fill_length]; omega)]
theorem fill_zero {α : Type} (f : Nat → α) (d : α) (n : Nat) : fill f d n 0 = List.replicate n d := by
  apply List.ext_getElem <;> simp [fill]
theorem fill_all {α : Type} (f : Nat → α) (d : α) (n i : Nat) (h : n ≤ i) : fill f d n i = (List.range n).map f := by
  unfold fill
  apply List.map_congr_left
  intro j hj
  have := List.mem_range.1 hj
  rw [if_pos (by omega)]

/-- the cells behind a slice's address -/
def Cells (w : World) (a : Option Addr) (xs : List Value) : Prop := xs = [] ∨ ∃ b off, a = some ⟨b, off, none⟩ ∧ ∀ i u, xs[i]? = some u → w.cell? ⟨b, off + i, none⟩ = some u

theorem Cells.ext {w w' : World} {a : Option Addr} {xs : List Value} (h : Cells w a xs) (k : Ext w w') : Cells w' a xs := by
  rcases h with h | ⟨b, off, ha, h⟩
  · exact .inl h
  · refine .inr ⟨b, off, ha, fun i u hu => ?_⟩
    have h1 := h i u hu
    have hb := block_lt_of_cell h1
    have := k.cell (p := ⟨b, off + i, none⟩) hb
    rw [this]; exact h1
theorem Cells.nil (w : World) (a : Option Addr) : Cells w a [] := .inl rfl
theorem Cells.of_blk {w : World} {g : Nat} {vs : List Value} {T : TypeId} (h : Blk w g vs T) (o n : Nat) : Cells w (some ⟨g, o, none⟩) ((vs.drop o).take n) := by
  refine .inr ⟨g, o, rfl, fun i u hu => h.cell' ?_⟩
  have hi : i < n := by
    have := (List.getElem?_eq_some_iff.1 hu).1
    simp at this; omega
  rw [List.getElem?_take_of_lt hi, List.getElem?_drop] at hu
  exact hu
theorem Cells.of_blk0 {w : World} {g : Nat} {vs : List Value} {T : TypeId} (h : Blk w g vs T) : Cells w (some ⟨g, 0, none⟩) vs := by
  refine .inr ⟨g, 0, rfl, fun i u hu => h.cell' (by simpa using hu)⟩
theorem Cells.part {w : World} {b o : Nat} {xs : List Value} (h : Cells w (some ⟨b, o, none⟩) xs) (k n : Nat) : Cells w (some ⟨b, o + k, none⟩) ((xs.drop k).take n) := by
  rcases h with rfl | ⟨b', o', hb, h⟩
  · left; simp
  · cases hb
    refine .inr ⟨b, o + k, rfl, fun i u hu => ?_⟩
    have hi : i < n := by
      have := (List.getElem?_eq_some_iff.1 hu).1
      simp at this; omega
    rw [List.getElem?_take_of_lt hi, List.getElem?_drop] at hu
    have := h (k + i) u hu
    rwa [← Nat.add_assoc] at this
theorem Cells.some_of {w : World} {a : Option Addr} {xs : List Value} (h : Cells w a xs) (hn : 0 < xs.length) : ∃ b off, a = some ⟨b, off, none⟩ ∧ ∀ i u, xs[i]? = some u → w.cell? ⟨b, off + i, none⟩ = some u := by
  rcases h with rfl | h
  · simp at hn
  · exact h
/-- the address of a slice's part from p on: Go's own does not point behind the array's end -/
def shift (a : Option Addr) (c p : Nat) : Option Addr := if c = p then a else a.map (·.add p)
theorem Cells.shift {w : World} {a : Option Addr} {xs : List Value} (h : Cells w a xs) (c p m : Nat) (hp : p + m ≤ c) : Cells w (shift a c p) ((xs.drop p).take m) := by
  unfold Go.Proofs.YthfddfgncolnbaaDoor.shift
  by_cases hcp : c = p
  · left
    obtain rfl : m = 0 := by omega
    simp
  · rw [if_neg hcp]
    rcases h with rfl | ⟨b, off, rfl, h⟩
    · left; simp
    · have hadd : (⟨b, off, none⟩ : Addr).add p = ⟨b, off + p, none⟩ := by unfold Addr.add; split <;> simp_all
      rw [Option.map_some, hadd]
      exact Cells.part (.inr ⟨b, off, rfl, h⟩) p m
theorem Cells.take {w : World} {a : Option Addr} {xs : List Value} (h : Cells w a xs) (n : Nat) : Cells w a (xs.take n) := by
  rcases h with rfl | ⟨b, off, ha, h⟩
  · left; simp
  · refine .inr ⟨b, off, ha, fun i u hu => h i u ?_⟩
    have hi : i < n := by
      have := (List.getElem?_eq_some_iff.1 hu).1
      simp at this; omega
    rwa [List.getElem?_take_of_lt hi] at hu

section
variable {P : Program} {ops : Array Oper} {rest : List Oper} {o : Oper} {a : Act} {w : World} {Q : Exit → Act → World → Prop}

/-- append within the capacity, as one step of a region that draws -/
theorem step_append_fits {K : Act → World → Prop} {E : Prop}
    (hg : o.guard = none) (s x : Operand) (t : TypeId) (hop : o.op = Op.call { callee := Callee.builtin Builtin.append, args := #[s, x], argTypes := #[t, t] })
    (base : Nat) (e : TypeId) (i : TypeInfo) (size : Nat) (h1 : P.underlying t = some (.slice e)) (h2 : P.info? e = some i) (h4 : i.size = size)
    (g k cap : Nat) (xs : List Value) (hs : a.eval s = .slice (some ⟨g, 0, none⟩) k cap) (hown : w.ownsRow base e size (.slice (some ⟨g, 0, none⟩) k cap) k xs) (ad : Addr) (m c : Nat) (news : List Value) (hx : a.eval x = .slice (some ad) m c) (hn : news.length = m * size)
    (hc : ∀ j u, news[j]? = some u → w.cell? (ad.add j) = some u) (h1c : ∀ u ∈ news, u.oneCell' = true) (b1 : k + m ≤ cap)
    (hK : ∀ w', w'.ownsRow base e size (.slice (some ⟨g, 0, none⟩) (k + m) cap) (k + m) (xs ++ news) → w.grownBy w' (some g) → K (a.put o.dst (.slice (some ⟨g, 0, none⟩) (k + m) cap)) w') :
    if Region.wanted o (yielded ops a.tmps) = true then Oper.wp P o a w K Q else E := by
  have hw : Region.wanted o (yielded ops a.tmps) = true := by simp [Region.wanted, hg]
  rw [if_pos hw]
  obtain ⟨w', hrun, r1, r2⟩ := run_append_fits (P := P) w base t o.type e i size h1 h2 h4 g k cap xs hown ad m c news hn hc h1c b1
  unfold Oper.wp
  simp [execOp, hop, resolve, invoke, builtin, hs, hx, hrun, Result.andThen]
  exact hK _ r1 r2

/-- append, as one step of a region that draws -/
theorem step_append_own {K : Act → World → Prop} {E : Prop} (hgd : o.guard = none) (s x : Operand) (t : TypeId)
    (ho : o.op = .call { callee := .builtin .append, args := #[s, x], argTypes := #[t, t] })
    (base : Nat) (e : TypeId) (i : TypeInfo) (z : Value) (size bytes : Nat) (ht : P.underlying t = some (.slice e)) (hi : P.info? e = some i) (hz : i.zero = some z)
    (hsize : i.size = size) (hby : i.bytes = bytes) (hzs : z.cells.size = size) (hsz : 0 < size)
    (v : Value) (n : Nat) (xs : List Value) (hs : a.eval s = v) (hown : w.ownsRow base e size v n xs)
    (ad : Addr) (m c : Nat) (news : List Value) (hx : a.eval x = .slice (some ad) m c) (hl : news.length = m * size) (hnews : ∀ j u, news[j]? = some u → w.cell? (ad.add j) = some u) (h1 : ∀ u ∈ news, u.oneCell' = true)
    (h63 : n + m ≤ maxLen) (hbytes : (n + m) * bytes ≤ 140737488355328) (hbase : base ≤ w.heap.size)
    (h : ∀ v' w', w'.ownsRow base e size v' (n + m) (xs ++ news) → w.grownBy w' v.ownBlock → (v' = .slice none 0 0 ↔ v = .slice none 0 0 ∧ m = 0) → K (a.put o.dst v') w') :
    if Region.wanted o (yielded ops a.tmps) = true then Oper.wp P o a w K Q else E := by
  have hw : Region.wanted o (yielded ops a.tmps) = true := by simp [Region.wanted, hgd]
  rw [if_pos hw]
  exact wp_append_own w s x t ho base e i z size bytes ht hi hz hsize hby hzs hsz v n xs hs hown ad m c news hx hl hnews h1 h63 hbytes hbase h
end

theorem news_blk {w : World} {g : Nat} {vs : List Value} {T : TypeId} (h : Blk w g vs T) : ∀ j u, vs[j]? = some u → w.cell? ((⟨g, 0, none⟩ : Addr).add j) = some u := by
  intro j u hu
  have hadd : (⟨g, 0, none⟩ : Addr).add j = ⟨g, j, none⟩ := by unfold Addr.add; split <;> simp_all
  rw [hadd]; exact h.cell' hu
theorem news_cells {w : World} {x : Addr} {xs : List Value} (h : Cells w (some x) xs) : ∀ j u, xs[j]? = some u → w.cell? (x.add j) = some u := by
  intro j u hu
  rcases h with rfl | ⟨b, off, hx, h⟩
  · simp at hu
  · cases hx
    have hadd : (⟨b, off, none⟩ : Addr).add j = ⟨b, off + j, none⟩ := by unfold Addr.add; split <;> simp_all
    rw [hadd]; exact h j u hu

theorem Ext.grown {W w w' : World} {row : Option Nat} (h : Ext W w) (k : w.grownBy w' row) (hr : ∀ g, row = some g → W.heap.size ≤ g) : Ext W w' := Below.grown h k h.size hr
theorem Blk.grown {w w' : World} {row : Option Nat} {g : Nat} {vs : List Value} {T : TypeId} (h : Blk w g vs T) (k : w.grownBy w' row) (hn : some g ≠ row) : Blk w' g vs T := by
  have := h.lt
  unfold Blk at *
  rw [k.block g this hn]; exact h
theorem ownsRow_ext {w w' : World} {base : Nat} {e : TypeId} {size : Nat} {v : Value} {n : Nat} {xs : List Value} (h : w.ownsRow base e size v n xs) (k : Ext w w') : w'.ownsRow base e size v n xs := by
  refine h.kept (row := none) ⟨k.os, k.tape, k.output, k.size, fun i hi _ => k.block i hi⟩ ?_
  cases hv : v.ownBlock with
  | none => exact .inl rfl
  | some g => exact .inr (by simp)
end Go.Proofs.YthfddfgncolnbaaDoor
