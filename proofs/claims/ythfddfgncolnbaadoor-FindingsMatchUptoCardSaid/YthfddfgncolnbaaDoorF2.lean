/- Slices whose elements are rows of 32 octets: their cells, steps on them; conditions: the rows' lengths. -/
import Derived.Test.YthfddfgncolnbaaDoorF1
import Derived.Test.YthfddfgncolnbaaDoorP2
namespace Go.Proofs.YthfddfgncolnbaaDoor
open Go Go.RowKit

def rows (ls : List (List UInt8)) : List Value := ls.flatten.map u8v
def All32 (ls : List (List UInt8)) : Prop := ∀ l ∈ ls, l.length = 32

theorem flat_length {ls : List (List UInt8)} (h : All32 ls) : ls.flatten.length = 32 * ls.length := by
  induction ls with
  | nil => rfl
  | cons l ls ih =>
    rw [List.flatten_cons, List.length_append, h l (by simp), ih (fun x hx => h x (by simp [hx])), List.length_cons]; omega
theorem rows_length {ls : List (List UInt8)} (h : All32 ls) : (rows ls).length = 32 * ls.length := by rw [rows, List.length_map, flat_length h]
theorem rows_nil : rows [] = [] := rfl
theorem rows_append (a b : List (List UInt8)) : rows (a ++ b) = rows a ++ rows b := by simp [rows]
theorem rows_one (x : List UInt8) : rows [x] = x.map u8v := by simp [rows]
theorem All32.append {a b : List (List UInt8)} (h1 : All32 a) (h2 : All32 b) : All32 (a ++ b) := fun l hl => by
  rcases List.mem_append.1 hl with h | h
  · exact h1 l h
  · exact h2 l h
theorem All32.take {ls : List (List UInt8)} (h : All32 ls) (k : Nat) : All32 (ls.take k) := fun l hl => h l (List.mem_of_mem_take hl)
theorem All32.drop {ls : List (List UInt8)} (h : All32 ls) (k : Nat) : All32 (ls.drop k) := fun l hl => h l (List.mem_of_mem_drop hl)
theorem All32.one {x : List UInt8} (h : x.length = 32) : All32 [x] := fun l hl => by rw [List.mem_singleton.1 hl]; exact h
theorem All32.nil : All32 [] := fun l hl => by cases hl
theorem All32.at {ls : List (List UInt8)} (h : All32 ls) {i : Nat} {x : List UInt8} (hx : ls[i]? = some x) : x.length = 32 := h x (List.mem_of_getElem? hx)
theorem flat_drop {ls : List (List UInt8)} (h : All32 ls) (k : Nat) : ls.flatten.drop (32 * k) = (ls.drop k).flatten := by
  induction ls generalizing k with
  | nil => simp
  | cons l ls ih =>
    cases k with
    | zero => simp
    | succ k =>
      have hl := h l (by simp)
      rw [List.flatten_cons, List.drop_append, hl, show 32 * (k + 1) - 32 = 32 * k by omega, List.drop_of_length_le (by omega), List.nil_append, ih (fun x hx => h x (by simp [hx])), List.drop_succ_cons]
theorem flat_take {ls : List (List UInt8)} (h : All32 ls) (k : Nat) : ls.flatten.take (32 * k) = (ls.take k).flatten := by
  induction ls generalizing k with
  | nil => simp
  | cons l ls ih =>
    cases k with
    | zero => simp
    | succ k =>
      have hl := h l (by simp)
      rw [List.flatten_cons, List.take_append, hl, show 32 * (k + 1) - 32 = 32 * k by omega, List.take_of_length_le (by omega), ih (fun x hx => h x (by simp [hx])), List.take_succ_cons, List.flatten_cons]
theorem rows_drop {ls : List (List UInt8)} (h : All32 ls) (k : Nat) : (rows ls).drop (32 * k) = rows (ls.drop k) := by rw [rows, ← List.map_drop, flat_drop h]; rfl
theorem rows_take {ls : List (List UInt8)} (h : All32 ls) (k : Nat) : (rows ls).take (32 * k) = rows (ls.take k) := by rw [rows, ← List.map_take, flat_take h]; rfl
theorem rows_at {ls : List (List UInt8)} (h : All32 ls) {i : Nat} {x : List UInt8} (hx : ls[i]? = some x) : ((rows ls).drop (32 * i)).take 32 = x.map u8v := by
  have h1 : ls.drop i = x :: ls.drop (i + 1) := by
    have hi := (List.getElem?_eq_some_iff.1 hx)
    obtain ⟨hlt, he⟩ := hi
    rw [List.drop_eq_getElem_cons hlt, he]
  rw [rows_drop h, h1]
  have h2 := rows_take (ls := x :: ls.drop (i + 1)) (by rw [← h1]; exact h.drop i) 1
  rw [Nat.mul_one] at h2
  rw [h2]; simp [rows]

/-- cells at an address -/
def CellsAt (w : World) (p : Addr) (xs : List Value) : Prop := ∀ j u, xs[j]? = some u → w.cell? (p.add j) = some u
theorem addr_add (b o n : Nat) : (⟨b, o, none⟩ : Addr).add n = ⟨b, o + n, none⟩ := by unfold Addr.add; split <;> simp_all
theorem CellsAt.of {w : World} {p : Addr} {xs : List Value} (h : Cells w (some p) xs) : CellsAt w p xs := news_cells h
theorem CellsAt.ext {w w' : World} {p : Addr} {xs : List Value} (h : CellsAt w p xs) (k : Ext w w') : CellsAt w' p xs := by
  intro j u hu
  have h1 := h j u hu
  have hb := block_lt_of_cell h1
  rw [k.cell hb]; exact h1
/-- the address of a slice's part from row p on -/
def shiftz (a : Option Addr) (c p z : Nat) : Option Addr := if c = p then a else a.map (·.add (p * z))
theorem Cells.rowAt {w : World} {p : Addr} {ls : List (List UInt8)} (h : Cells w (some p) (rows ls)) (h32 : All32 ls) {i : Nat} {x : List UInt8} (hx : ls[i]? = some x) : CellsAt w (p.add (i * 32)) (x.map u8v) := by
  intro j u hu
  have hxl := h32.at hx
  have hj : j < 32 := by
    have := (List.getElem?_eq_some_iff.1 hu).1
    rw [List.length_map, hxl] at this; exact this
  have h1 := rows_at h32 hx
  have h2 : (rows ls)[32 * i + j]? = some u := by
    rw [← h1, List.getElem?_take_of_lt hj, List.getElem?_drop] at hu
    exact hu
  obtain ⟨b, off, hp, hc⟩ := h.some_of (by have := (List.getElem?_eq_some_iff.1 h2).1; omega)
  cases hp
  rw [addr_add, addr_add]
  have := hc _ _ h2
  rw [show off + i * 32 + j = off + (32 * i + j) by omega]
  exact this
theorem Cells.rowsTake {w : World} {a : Option Addr} {ls : List (List UInt8)} (h : Cells w a (rows ls)) (h32 : All32 ls) (k : Nat) : Cells w a (rows (ls.take k)) := by
  rw [← rows_take h32]; exact h.take _
theorem Cells.rowsShift {w : World} {a : Option Addr} {ls : List (List UInt8)} (h : Cells w a (rows ls)) (h32 : All32 ls) (c p : Nat) (hc : ls.length ≤ c) : Cells w (shiftz a c p 32) (rows (ls.drop p)) := by
  unfold shiftz
  rw [← rows_drop h32]
  split
  · rename_i hcp
    left
    rw [rows_drop h32, List.drop_of_length_le (by omega)]; rfl
  · rcases h with h | ⟨b, off, rfl, h⟩
    · left; rw [h]; simp
    · refine .inr ⟨b, off + p * 32, by rw [Option.map_some, addr_add], fun i u hu => ?_⟩
      rw [List.getElem?_drop] at hu
      have := h _ _ hu
      rw [show off + p * 32 + i = off + (32 * p + i) by omega]; exact this

section
variable {P : Program} {ops : Array Oper} {rest : List Oper} {o : Oper} {a : Act} {w : World} {Q : Exit → Act → World → Prop} {S : World → Prop}

theorem run_indexAt_z {t e : TypeId} {p : Addr} {n c i z : Nat} (hu : P.underlying t = some (.slice e)) (hs : (P.info? e).map (·.size) = some z) (hi : i < n) (w : World) :
    (Instr.indexAt t (.slice (some p) n c) (.int .i64 (i : Int))).run P w = .ok (.pointer (some (p.add (i * z)))) w := by
  cases hq : P.info? e with
  | none => simp [hq] at hs
  | some inf =>
    have hz : inf.size = z := by simpa [hq] using hs
    have h0 : (0 : Int) ≤ i ∧ (i : Int) < n := by omega
    simp [Instr.indexAt, asIntOf, run_underlying hu, sizeOf, typeInfo, hq, hz, hi]

theorem run_sliceAt_high_z {t e : TypeId} {p : Option Addr} {n c k z : Nat} (hu : P.underlying t = some (.slice e)) (hs : (P.info? e).map (·.size) = some z) (hk : k ≤ c) (w : World) :
    (Instr.sliceAt t (.slice p n c) none (some (.int .i64 (k : Int))) none).run P w = .ok (.slice p k c) w := by
  cases hq : P.info? e with
  | none => simp [hq] at hs
  | some i =>
    have hi : i.size = z := by simpa [hq] using hs
    have h1 : (0 : Int) ≤ k ∧ (k : Int) ≤ c := by omega
    have ha : p.map (fun x => x.add 0) = p := by
      cases p with
      | none => rfl
      | some x => obtain ⟨b, o, s⟩ := x; simp only [Option.map_some, Addr.add]; split <;> simp_all
    simp [Instr.sliceAt, Instr.slice, Instr.sliceBounds, Instr.sliceBound, asIntOf, run_underlying hu, sizeOf, typeInfo, hq, hi, hk, ha]

theorem run_sliceAt_low_z {t e : TypeId} {p : Option Addr} {n c k z : Nat} (hu : P.underlying t = some (.slice e)) (hs : (P.info? e).map (·.size) = some z) (hk : k ≤ n) (w : World) :
    (Instr.sliceAt t (.slice p n c) (some (.int .i64 (k : Int))) none none).run P w = .ok (.slice (shiftz p c k z) (n - k) (c - k)) w := by
  cases hq : P.info? e with
  | none => simp [hq] at hs
  | some i =>
    have hi : i.size = z := by simpa [hq] using hs
    have h1 : (0 : Int) ≤ k ∧ (k : Int) ≤ n := by omega
    simp [Instr.sliceAt, Instr.slice, Instr.sliceBounds, Instr.sliceBound, asIntOf, run_underlying hu, sizeOf, typeInfo, hq, hi, h1.1, hk, shiftz]

theorem run_load_at {ty : TypeId} {p : Addr} {xs : List Value} {n : Nat} (hc : CellsAt w p xs) (ht : AggT P ty n) (hn : xs.length = n) : (loadVar ty p).run P w = .ok (.agg xs.toArray) w := by
  obtain ⟨⟨d, hu, hd⟩, hi⟩ := ht
  have hl := run_loadCells_list (P := P) w p xs hc
  rw [hn] at hl
  cases hq : P.info? ty with
  | none => simp [hq] at hi
  | some i =>
    have hs : i.size = n := by simpa [hq] using hi
    have hagg : (isAgg ty).run P w = .ok true w := by
      unfold isAgg
      rw [Sem.run_bind, run_underlying hu w]
      cases d <;> simp_all
    simp [loadVar, Sem.run_bind, hagg, sizeOf, typeInfo, hq, hs, hl]

/-- whatever runs to a value: as a step of a plain region -/
theorem wpl_run {v : Value} (hgd : o.guard = none) (hr : (execOp a.eval o).run P w = .ok (.value v) w) (h : wpList P ops Q rest (a.put o.dst v) w) : wpList P ops Q (o :: rest) a w :=
  wpList_plain hgd fun K hK => by
    unfold Oper.wp
    rw [hr, Oper.upon_value]
    exact hK _ _ h
theorem wpg_run {v : Value} (hw : Region.wanted o (yielded ops a.tmps) = true) (hr : (execOp a.eval o).run P w = .ok (.value v) w) (h : wpList P ops Q rest (a.put o.dst v) w) : wpList P ops Q (o :: rest) a w :=
  wpList_step fun K hK => by
    rw [if_pos hw]
    unfold Oper.wp
    rw [hr, Oper.upon_value]
    exact hK _ _ h

theorem exec_index {t e : TypeId} {x y : Operand} {p : Addr} {n c i z : Nat} (ho : o.op = .indexAddr t x y) (hx : a.eval x = .slice (some p) n c) (hy : a.eval y = .int .i64 (i : Int)) (hu : P.underlying t = some (.slice e)) (hs : (P.info? e).map (·.size) = some z) (hi : i < n) (w : World) :
    (execOp a.eval o).run P w = .ok (.value (.pointer (some (p.add (i * z))))) w := by
  unfold execOp
  simp only [ho, hx, hy, Sem.run_bind, run_indexAt_z hu hs hi w, Result.andThen_ok, Sem.run_pure]
theorem exec_high {t e : TypeId} {x y : Operand} {p : Option Addr} {n c k z : Nat} (ho : o.op = .slice t x none (some y) none) (hx : a.eval x = .slice p n c) (hy : a.eval y = .int .i64 (k : Int)) (hu : P.underlying t = some (.slice e)) (hs : (P.info? e).map (·.size) = some z) (hk : k ≤ c) (w : World) :
    (execOp a.eval o).run P w = .ok (.value (.slice p k c)) w := by
  unfold execOp
  simp only [ho, hx, hy, Option.map_some, Option.map_none, Sem.run_bind, run_sliceAt_high_z hu hs hk w, Result.andThen_ok, Sem.run_pure]
theorem exec_low {t e : TypeId} {x y : Operand} {p : Option Addr} {n c k z : Nat} (ho : o.op = .slice t x (some y) none none) (hx : a.eval x = .slice p n c) (hy : a.eval y = .int .i64 (k : Int)) (hu : P.underlying t = some (.slice e)) (hs : (P.info? e).map (·.size) = some z) (hk : k ≤ n) (w : World) :
    (execOp a.eval o).run P w = .ok (.value (.slice (shiftz p c k z) (n - k) (c - k))) w := by
  unfold execOp
  simp only [ho, hx, hy, Option.map_some, Option.map_none, Sem.run_bind, run_sliceAt_low_z hu hs hk w, Result.andThen_ok, Sem.run_pure]
theorem exec_load_at {ty : TypeId} {x : Operand} {p : Addr} {xs : List Value} {n : Nat} (ho : o.op = .load ty x) (hx : a.eval x = .pointer (some p)) (hc : CellsAt w p xs) (ht : AggT P ty n) (hn : xs.length = n) :
    (execOp a.eval o).run P w = .ok (.value (.agg xs.toArray)) w := by
  unfold execOp
  simp only [ho, hx, Instr.loadAt, Instr.sureAddr, Sem.run_bind, Sem.run_pure, Result.andThen_ok, run_load_at hc ht hn]
theorem yieldsI_run {v : Value} (hw : Region.wanted o (yielded ops a.tmps) = true) (hr : ∀ w, S w → (execOp a.eval o).run P w = .ok (.value v) w) : YieldsIf P ops S o v a := .inl ⟨hw, hr⟩
end
end Go.Proofs.YthfddfgncolnbaaDoor
