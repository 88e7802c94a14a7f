/- Steps on slices and copies; no condition. -/
import Derived.Test.YthfddfgncolnbaaDoorP1
namespace Go.Proofs.YthfddfgncolnbaaDoor
open Go Go.RowKit

section
variable {P : Program} {ops : Array Oper} {rest : List Oper} {o : Oper} {a : Act} {w : World} {Q : Exit → Act → World → Prop}

theorem run_sliceAt_low {t e : TypeId} {p : Option Addr} {n c k : Nat} (hu : P.underlying t = some (.slice e)) (hs : (P.info? e).map (·.size) = some 1) (hk : k ≤ n) :
    (Instr.sliceAt t (.slice p n c) (some (.int .i64 (k : Int))) none none).run P w = .ok (.slice (shift p c k) (n - k) (c - k)) w := by
  cases hq : P.info? e with
  | none => simp [hq] at hs
  | some i =>
    have hi : i.size = 1 := by simpa [hq] using hs
    have h1 : (0 : Int) ≤ k ∧ (k : Int) ≤ n := by omega
    simp [Instr.sliceAt, Instr.slice, Instr.sliceBounds, Instr.sliceBound, asIntOf, run_underlying hu, sizeOf, typeInfo, hq, hi, h1.1, hk, shift]

/-- b[k:] -/
theorem wpl_slice_low (hgd : o.guard = none) (t e : TypeId) (x y : Operand) (ho : o.op = .slice t x (some y) none none) {p : Option Addr} {n c k : Nat}
    (hx : a.eval x = .slice p n c) (hy : a.eval y = .int .i64 (k : Int)) (hu : P.underlying t = some (.slice e)) (hs : (P.info? e).map (·.size) = some 1) (hk : k ≤ n)
    (h : wpList P ops Q rest (a.put o.dst (.slice (shift p c k) (n - k) (c - k))) w) : wpList P ops Q (o :: rest) a w :=
  wpList_plain hgd fun K hK => by
    unfold Oper.wp execOp
    simp only [ho, hx, hy, Option.map_some, Option.map_none, run_sliceAt_low hu hs hk, Result.andThen_ok, Sem.run_bind, Sem.run_pure]
    exact hK _ _ h

/-- copy, wherever the octets come from -/
theorem wpl_copyc (hgd : o.guard = none) (dT sT : TypeId) (x y : Operand) (ho : o.op = .call { callee := .builtin .copy, args := #[x, y], argTypes := #[dT, sT] }) {g off dLen dCap sLen sCap : Nat} {sa : Option Addr} {vs cs : List Value} {T elem : TypeId}
    (hx : a.eval x = .slice (some ⟨g, off, none⟩) dLen dCap) (hy : a.eval y = .slice sa sLen sCap) (hb : Blk w g vs T)
    (hu : P.underlying dT = some (.slice elem)) (hs : (P.info? elem).map (·.size) = some 1) {k : Nat} (hk : cs.length = k) (hn : k = Nat.min sLen dLen) (h0 : sa = none → sLen = 0)
    (hsrc : Cells w sa cs) (hfit : off + k ≤ vs.length) (h1 : ∀ v ∈ cs, v.oneCell' = true)
    (h : ∀ w', Blk w' g (splice vs off cs) T → Upd w g w' → wpList P ops Q rest (a.put o.dst (.int .i64 (k : Int))) w') : wpList P ops Q (o :: rest) a w := by
  subst hk
  cases sa with
  | some ad => exact wpl_copy hgd dT sT x y ho hx hy hb hu hs hn (news_cells hsrc) hfit h1 h
  | none =>
    have hz := h0 rfl
    subst hz
    have hcs : cs = [] := by
      rcases hsrc with h | ⟨_, _, h, _⟩
      · exact h
      · cases h
    subst hcs
    refine wpList_plain hgd fun K hK => ?_
    have hr : (Builtin.copy_ #[dT, sT] o.type #[.slice (some ⟨g, off, none⟩) dLen dCap, .slice none 0 sCap]).run P w = .ok (goInt 0) w := by
      cases hq : P.info? elem with
      | none => simp [hq] at hs
      | some i => simp [Builtin.copy_, run_underlying hu, Builtin.lenOf, Builtin.firstCells, sizeOf, typeInfo, hq, storeCells]
    unfold Oper.wp execOp
    simp only [ho, resolve, Sem.run_bind, Sem.run_pure, Result.andThen_ok, invoke, builtin]
    have e : (#[x, y].map a.eval) = #[.slice (some ⟨g, off, none⟩) dLen dCap, .slice none 0 sCap] := by simp [hx, hy]
    rw [e, hr]
    simp only [Result.andThen_ok, Sem.run_pure, Oper.upon]
    refine hK _ _ (h _ ?_ (Upd.refl _ _))
    simpa [splice] using hb
end

theorem size_u8 : (Tryd.prog.info? 5).map (·.size) = some 1 := by kernel_rfl

theorem Cells.grown {w w' : World} {a : Option Addr} {xs : List Value} {r : Option Nat} (h : Cells w a xs) (k : w.grownBy w' r) (hn : ∀ x, a = some x → some x.block ≠ r) : Cells w' a xs := by
  rcases h with h | ⟨b, off, ha, h⟩
  · exact .inl h
  · refine .inr ⟨b, off, ha, fun i u hu => ?_⟩
    have h1 := h i u hu
    have hb := block_lt_of_cell h1
    have h2 : w'.heap[b]? = w.heap[b]? := k.block b hb (hn _ ha)
    rw [← h1]
    simp [World.cell?, h2]
theorem shift_away {a : Option Addr} {c k : Nat} {r : Option Nat} (hn : ∀ x, a = some x → some x.block ≠ r) : ∀ x, shift a c k = some x → some x.block ≠ r := by
  intro x hx
  unfold shift at hx
  split at hx
  · exact hn x hx
  · cases a with
    | none => cases hx
    | some y =>
      cases hx
      have : (y.add k).block = y.block := by unfold Addr.add; split <;> rfl
      rw [this]; exact hn y rfl
theorem shift_nil {a : Option Addr} {c k : Nat} : shift a c k = none ↔ a = none := by
  unfold shift
  split
  · rfl
  · simp
theorem upd_grown {w w' : World} {g : Nat} (h : Upd w g w') : w.grownBy w' (some g) := grown_upd (grown_refl w _) h
theorem grown_trans {a b c : World} {r : Option Nat} (h : a.grownBy b r) (k : b.grownBy c r) : a.grownBy c r :=
  ⟨k.os.trans h.os, k.tape.trans h.tape, k.output.trans h.output, Nat.le_trans h.size k.size, fun i hi hn => (k.block i (Nat.lt_of_lt_of_le hi h.size) hn).trans (h.block i hi hn)⟩

/-- the cells of a Summer -/
def sm (s r : List UInt8) (h : Int) (t : Int) : List Value := s.map u8v ++ (r.map u8v ++ [.int .i64 h, .int .i64 t])
theorem sm_length {s r : List UInt8} (h t : Int) (hs : s.length = 64) (hr : r.length = 32) : (sm s r h t).length = 98 := by simp [sm, hs, hr]
theorem sm_have {s r : List UInt8} (h t : Int) (hs : s.length = 64) (hr : r.length = 32) : (sm s r h t)[96]? = some (.int .i64 h) := by
  rw [sm, List.getElem?_append_right (by rw [List.length_map]; omega), List.getElem?_append_right (by rw [List.length_map, List.length_map]; omega)]
  simp [hs, hr]
theorem sm_total {s r : List UInt8} (h t : Int) (hs : s.length = 64) (hr : r.length = 32) : (sm s r h t)[97]? = some (.int .i64 t) := by
  rw [sm, List.getElem?_append_right (by rw [List.length_map]; omega), List.getElem?_append_right (by rw [List.length_map, List.length_map]; omega)]
  simp [hs, hr]
theorem sm_rest {s r : List UInt8} (h t : Int) (hs : s.length = 64) (hr : r.length = 32) {i : Nat} (hi : i < 32) : (sm s r h t)[64 + i]? = some (.int .u8 ((r[i]?.getD 0).toNat : Int)) := by
  rw [sm, List.getElem?_append_right (by rw [List.length_map]; omega), List.getElem?_append_left (by simp [hs, hr]; omega)]
  have : 64 + i - (s.map u8v).length = i := by rw [List.length_map]; omega
  rw [this]
  simp [hr, hi, u8v]
theorem sm_set_have {s r : List UInt8} (h t h' : Int) (hs : s.length = 64) (hr : r.length = 32) : (sm s r h t).set 96 (.int .i64 h') = sm s r h' t := by
  rw [sm, List.set_append_right _ _ (by rw [List.length_map]; omega), List.set_append_right _ _ (by rw [List.length_map, List.length_map]; omega)]
  simp [hs, hr, sm]
theorem sm_set_total {s r : List UInt8} (h t t' : Int) (hs : s.length = 64) (hr : r.length = 32) : (sm s r h t).set 97 (.int .i64 t') = sm s r h t' := by
  rw [sm, List.set_append_right _ _ (by rw [List.length_map]; omega), List.set_append_right _ _ (by rw [List.length_map, List.length_map]; omega)]
  simp [hs, hr, sm]
theorem sm_splice {s r xs : List UInt8} (h t : Int) (hs : s.length = 64) (hr : r.length = 32) (k : Nat) (hk : k + xs.length ≤ 32) :
    splice (sm s r h t) (64 + k) (xs.map u8v) = sm s (r.take k ++ xs ++ r.drop (k + xs.length)) h t := by
  unfold splice sm
  rw [List.length_map]
  have l1 : (s.map u8v).length = 64 := by rw [List.length_map]; exact hs
  have l2 : (r.map u8v).length = 32 := by rw [List.length_map]; exact hr
  rw [List.take_append, l1, List.take_of_length_le (by omega), show 64 + k - 64 = k by omega, List.take_append_of_le_length (by omega),
    List.drop_append, l1, List.drop_of_length_le (by omega), List.nil_append, show 64 + k + xs.length - 64 = k + xs.length by omega, List.drop_append_of_le_length (by omega)]
  simp [List.map_append, List.map_take, List.map_drop]
end Go.Proofs.YthfddfgncolnbaaDoor
