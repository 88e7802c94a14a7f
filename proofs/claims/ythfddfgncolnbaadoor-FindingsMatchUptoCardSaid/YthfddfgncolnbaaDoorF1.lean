/- Moves for regions whose order is drawn: operations that go one by one beside a variable that the region makes at whatever time; no condition. -/
import Derived.Test.YthfddfgncolnbaaDoorM
import Derived.OrdersHeld
import Derived.Deep.RegionHeld3
namespace Go.Proofs.YthfddfgncolnbaaDoor
open Go Go.RowKit

section
variable {P : Program} {ops : Array Oper} {Q : Exit → Act → World → Prop} {S : World → Prop}

/-- K where the way goes on, Q elsewhere -/
def onNormal (K : Act → World → Prop) (Q : Exit → Act → World → Prop) : Exit → Act → World → Prop
  | .normal, a, w => K a w
  | e, a, w => Q e a w

theorem letsOut_onNormal {K : Act → World → Prop} (h : LetsOut (onNormal K Q)) : LetsOut Q := h

theorem oper_wp_onNormal {o : Oper} {a : Act} {w : World} {K K' : Act → World → Prop} (h : o.wp P a w K (onNormal K' Q)) : o.wp P a w K Q := by
  unfold Oper.wp at *
  generalize (execOp a.eval o).run P w = r at *
  cases r with
  | ok n w' =>
    cases n
    case enter f args =>
      refine Calls.mono h fun e w'' he => ?_
      cases e with
      | returned u => exact he
      | panicked c => exact he
      | outgrown => exact letsOut_onNormal he
    all_goals exact h
  | halt x w' =>
    cases x <;> first | exact h | exact h.elim

theorem wpOp_of_list {i : Nat} {o : Oper} {K : Act → World → Prop} {a : Act} {w : World} (ho : ops[i]? = some o) (h : wpList P ops (onNormal K Q) [o] a w) : wpOp P ops Q i K a w := by
  unfold wpOp
  simp only [ho]
  unfold wpList at h
  split
  · rename_i hw
    rw [if_pos hw] at h
    rcases h with h | ⟨h1, h2⟩
    · exact .inl (oper_wp_onNormal h)
    · exact .inr ⟨h1, letsOut_onNormal h2⟩
  · rename_i hw
    rw [if_neg hw] at h
    exact h

theorem op_of_drop {i : Nat} {o : Oper} {r : List Oper} (h : ops.toList.drop i = o :: r) : ops[i]? = some o := by
  have h1 := List.getElem?_drop (xs := ops.toList) (i := i) (j := 0)
  rw [h, Nat.add_zero] at h1
  simpa using h1.symm

/-- one operation is taken first -/
theorem held_take (i : Nat) {oi : Oper} {r : List Oper} {v : Value} {fuel : Nat} {listed : Array Bool} {a : Act} {w : World} (hi : ops.toList.drop i = oi :: r)
    (hs : Region.noSelect ops = true) (hf : Region.free .any ops listed i = true) (hr : (Region.ready .any ops listed).contains i = true)
    (hQ : ∀ c a w, Q (.panic c) (a.put oi.dst v) w → Q (.panic c) a w) (hy : YieldsIf P ops S oi v a) (hS : S w)
    (h : wpAnyH P .any ops Q S fuel (listed.setIfInBounds i true) (a.put oi.dst v) w) : wpAnyH P .any ops Q S (fuel + 1) listed a w :=
  wpAnyH_take (op_of_drop hi) hs hf hr hQ hy hS h

/-- just one operation may come up -/
theorem held_one {i : Nat} {o : Oper} {r : List Oper} {f : Nat} {listed : Array Bool} {a : Act} {w : World} (hr : Region.ready .any ops listed = [i]) (ho : ops.toList.drop i = o :: r)
    (h : ∀ Q' : Exit → Act → World → Prop, (∀ a w, S w → wpAnyH P .any ops Q S f (listed.setIfInBounds i true) a w → Q' .normal a w) → wpList P ops Q' [o] a w) :
    wpAnyH P .any ops Q S (f + 1) listed a w :=
  wpAnyH_all hr (by simp) fun j hj => by
    obtain rfl : j = i := by simpa using hj
    exact wpOp_of_list (op_of_drop ho) (h _ fun a w hS hW => ⟨hS, hW⟩)

def ptrAt (g : Nat) : Value := .pointer (some ⟨g, 0, none⟩)

/-- number A makes a variable (vs, of type T) at whatever time; the other operations go one by one; D is what is known of the world -/
def Fl (P : Program) (ops : Array Oper) (Q : Exit → Act → World → Prop) (S : World → Prop) (B A : Nat) (vs : List Value) (T : TypeId) (f : Nat) (listed : Array Bool) (α : Value → Act) (D : World → Prop) : Prop :=
  (∀ w w', D w → Ext w w' → D w') → (∀ w, D w → S w) → (∀ w, D w → B ≤ w.heap.size) →
  (∀ x w, D w → wpAnyH P .any ops Q S (f + 1) listed (α x) w) ∧ ∀ g w, D w → B ≤ g → Blk w g vs T → wpAnyH P .any ops Q S f (listed.setIfInBounds A true) (α (ptrAt g)) w

theorem Fl_start {B A d : Nat} {vs : List Value} {T : TypeId} {f : Nat} {listed : Array Bool} {a : Act} {w : World} {D : World → Prop} (y : Value) (hy : a.put (some d) y = a) (hDx : ∀ w w', D w → Ext w w' → D w') (hDS : ∀ w, D w → S w) (hDB : ∀ w, D w → B ≤ w.heap.size) (hD : D w)
    (h : Fl P ops Q S B A vs T f listed (fun x => a.put (some d) x) D) : wpAnyH P .any ops Q S (f + 1) listed a w := by
  have := (h hDx hDS hDB).1 y w hD
  simp only [hy] at this
  exact this

theorem Fl_take {B A : Nat} {vs : List Value} {T : TypeId} {f : Nat} {listed : Array Bool} {α : Value → Act} {D : World → Prop} (i : Nat) {oi : Oper} {r : List Oper} {v : Value} (hi : ops.toList.drop i = oi :: r) (hs : Region.noSelect ops = true)
    (hf : Region.free .any ops listed i = true) (hf' : Region.free .any ops (listed.setIfInBounds A true) i = true)
    (hr : (Region.ready .any ops listed).contains i = true) (hr' : (Region.ready .any ops (listed.setIfInBounds A true)).contains i = true) (hne : (i == A) = false)
    (hQ : ∀ c a w, Q (.panic c) (a.put oi.dst v) w → Q (.panic c) a w) (hy : ∀ x, YieldsIf P ops S oi v (α x))
    (h : Fl P ops Q S B A vs T f (listed.setIfInBounds i true) (fun x => (α x).put oi.dst v) D) : Fl P ops Q S B A vs T (f + 1) listed α D := by
  intro hDx hDS hDB
  have hne' : i ≠ A := by simpa using hne
  have h := h hDx hDS hDB
  refine ⟨fun x w hD => wpAnyH_take (op_of_drop hi) hs hf hr hQ (hy x) (hDS w hD) (h.1 x w hD), fun g w hD hB hb => wpAnyH_take (op_of_drop hi) hs hf' hr' hQ (hy _) (hDS w hD) ?_⟩
  have := h.2 g w hD hB hb
  rwa [Array.setIfInBounds_comm _ _ hne'] at this

theorem Fl_step {B A : Nat} {vs : List Value} {T : TypeId} {f : Nat} {listed : Array Bool} {α : Value → Act} {D : World → Prop} (i : Nat) {o oA : Oper} {r rA : List Oper} {d : Tmp} {β : Type} (val : β → Value) (Φ : β → World → Prop)
    (ho' : ops.toList.drop i = o :: r) (hA' : ops.toList.drop A = oA :: rA) (hAd : oA.dst = some d) (hAg : oA.guard = none) (hAr : ∀ ρ w, (execOp ρ oA).run P w = .ok (.value (ptrAt w.heap.size)) (w.alloc (.cells vs.toArray T)))
    (hr : ((Region.ready .any ops listed).all fun j => j == i || j == A) = true) (hrn : (Region.ready .any ops listed).isEmpty = false) (hr' : Region.ready .any ops (listed.setIfInBounds A true) = [i]) (hne : (i == A) = false)
    (hα : ∀ x y, (α x).put (some d) y = α y) (hΦ : ∀ b w w', Φ b w → Ext w w' → Φ b w')
    (hstep : ∀ x w, D w → ∀ Q' : Exit → Act → World → Prop, (∀ b w', Ext w w' → Φ b w' → Q' .normal ((α x).put o.dst (val b)) w') → wpList P ops Q' [o] (α x) w)
    (h : ∀ b, Fl P ops Q S B A vs T f (listed.setIfInBounds i true) (fun x => (α x).put o.dst (val b)) (fun w => D w ∧ Φ b w)) : Fl P ops Q S B A vs T (f + 1) listed α D := by
  have ho := op_of_drop ho'
  have hA := op_of_drop hA'
  intro hD hDS hDB
  have h := fun b => h b (fun w w' hh he => ⟨hD w w' hh.1 he, hΦ b w w' hh.2 he⟩) (fun w hh => hDS w hh.1) (fun w hh => hDB w hh.1)
  have hne' : i ≠ A := by simpa using hne
  have second : ∀ g w, D w → B ≤ g → Blk w g vs T → wpAnyH P .any ops Q S (f + 1) (listed.setIfInBounds A true) (α (ptrAt g)) w := by
    intro g w hDw hB hb
    refine wpAnyH_all hr' (by simp) fun j hj => ?_
    obtain rfl : j = i := by simpa using hj
    refine wpOp_of_list ho (hstep _ w hDw _ fun b w' he hΦ => ?_)
    have := (h b).2 g w' ⟨hD _ _ hDw he, hΦ⟩ hB (hb.ext he)
    rw [Array.setIfInBounds_comm _ _ hne'] at this
    exact ⟨hDS _ (hD _ _ hDw he), this⟩
  refine ⟨fun x w hDw => ?_, second⟩
  refine wpAnyH_all (rs := Region.ready .any ops listed) rfl (fun e => by rw [e] at hrn; cases hrn) fun j hj => ?_
  have hj' := List.all_eq_true.1 hr j hj
  simp only [Bool.or_eq_true, beq_iff_eq] at hj'
  rcases hj' with rfl | rfl
  · refine wpOp_of_list ho (hstep _ w hDw _ fun b w' he hΦ => ?_)
    exact ⟨hDS _ (hD _ _ hDw he), (h b).1 x w' ⟨hD _ _ hDw he, hΦ⟩⟩
  · refine wpOp_of_list hA ?_
    refine wpList_plain hAg fun K hK => ?_
    unfold Oper.wp
    rw [hAr, Oper.upon_value, hAd]
    refine hK _ _ ?_
    have he : Ext w (w.alloc (.cells vs.toArray T)) := (Ext.refl w).alloc _
    rw [hα]
    exact ⟨hDS _ (hD _ _ hDw he), second _ _ (hD _ _ hDw he) (hDB _ hDw) (Blk.alloc_new _ _ _)⟩

theorem Fl_end {B A : Nat} {vs : List Value} {T : TypeId} {f : Nat} {listed : Array Bool} {α : Value → Act} {D : World → Prop} {oA : Oper} {rA : List Oper} {d : Tmp}
    (hA' : ops.toList.drop A = oA :: rA) (hAd : oA.dst = some d) (hAg : oA.guard = none) (hAr : ∀ ρ w, (execOp ρ oA).run P w = .ok (.value (ptrAt w.heap.size)) (w.alloc (.cells vs.toArray T)))
    (hr : Region.ready .any ops listed = [A]) (hα : ∀ x y, (α x).put (some d) y = α y)
    (h : ∀ g w, D w → B ≤ g → Blk w g vs T → wpAnyH P .any ops Q S f (listed.setIfInBounds A true) (α (ptrAt g)) w) : Fl P ops Q S B A vs T f listed α D := by
  have hA := op_of_drop hA'
  intro hD hDS hDB
  refine ⟨fun x w hDw => ?_, h⟩
  refine wpAnyH_all hr (by simp) fun j hj => ?_
  obtain rfl : j = A := by simpa using hj
  refine wpOp_of_list hA ?_
  refine wpList_plain hAg fun K hK => ?_
  unfold Oper.wp
  rw [hAr, Oper.upon_value, hAd]
  refine hK _ _ ?_
  have he : Ext w (w.alloc (.cells vs.toArray T)) := (Ext.refl w).alloc _
  rw [hα]
  exact ⟨hDS _ (hD _ _ hDw he), h _ _ (hD _ _ hDw he) (hDB _ hDw) (Blk.alloc_new _ _ _)⟩

/-- these blocks are as they were in W -/
def Kept (W : World) (L : List Nat) (w' : World) : Prop := W.heap.size ≤ w'.heap.size ∧ (∀ g ∈ L, g < W.heap.size) ∧ ∀ g ∈ L, w'.heap[g]? = W.heap[g]?
theorem Kept.ext {W w w' : World} {L : List Nat} (h : Kept W L w) (e : Ext w w') : Kept W L w' :=
  ⟨Nat.le_trans h.1 e.size, h.2.1, fun g hg => (e.block g (Nat.lt_of_lt_of_le (h.2.1 g hg) h.1)).trans (h.2.2 g hg)⟩
theorem Kept.upd {W w w' : World} {L : List Nat} {r : Nat} (h : Kept W L w) (u : Upd w r w') (hr : r ∉ L) : Kept W L w' :=
  ⟨by rw [u.size]; exact h.1, h.2.1, fun g hg => (u.block g (fun e => hr (e ▸ hg))).trans (h.2.2 g hg)⟩
theorem Kept.blk {W w : World} {L : List Nat} {g : Nat} {vs : List Value} {T : TypeId} (h : Kept W L w) (hb : Blk W g vs T) (hg : g ∈ L) : Blk w g vs T := by
  unfold Blk at *; rw [h.2.2 g hg]; exact hb
theorem Kept.none (W : World) : Kept W [] W := ⟨Nat.le_refl _, by simp, by simp⟩
theorem Kept.one {W : World} {a : Nat} (ha : a < W.heap.size) : Kept W [a] W := ⟨Nat.le_refl _, by simpa using ha, fun _ _ => rfl⟩
theorem Kept.two {W : World} {a b : Nat} (ha : a < W.heap.size) (hb : b < W.heap.size) : Kept W [a, b] W := ⟨Nat.le_refl _, by simpa using ⟨ha, hb⟩, fun _ _ => rfl⟩
theorem Kept.three {W : World} {a b c : Nat} (ha : a < W.heap.size) (hb : b < W.heap.size) (hc : c < W.heap.size) : Kept W [a, b, c] W := ⟨Nat.le_refl _, by simpa using ⟨ha, hb, hc⟩, fun _ _ => rfl⟩
theorem Kept.four {W : World} {a b c d : Nat} (ha : a < W.heap.size) (hb : b < W.heap.size) (hc : c < W.heap.size) (hd : d < W.heap.size) : Kept W [a, b, c, d] W := ⟨Nat.le_refl _, by simpa using ⟨ha, hb, hc, hd⟩, fun _ _ => rfl⟩

theorem Kept.grown {W w w' : World} {L : List Nat} {row : Option Nat} (h : Kept W L w) (k : w.grownBy w' row) (hr : ∀ g, row = some g → W.heap.size ≤ g) : Kept W L w' :=
  ⟨Nat.le_trans h.1 k.size, h.2.1, fun g hg => (k.block g (Nat.lt_of_lt_of_le (h.2.1 g hg) h.1) (fun e => by have h1 := hr g e.symm; have h2 := h.2.1 g hg; omega)).trans (h.2.2 g hg)⟩

/-- a class of worlds: nothing that was in w0 has turned; the blocks of L are as in W; there are rooms R -/
structure Cls (w0 W : World) (L : List Nat) (R : List (Nat × Nat × TypeId)) (w : World) : Prop where
  base : Ext w0 w
  kept : Kept W L w
  room : ∀ x ∈ R, x.1 < W.heap.size ∧ ∃ vs, vs.length = x.2.1 ∧ Blk w x.1 vs x.2.2
theorem Cls.ext {w0 W w w' : World} {L : List Nat} {R : List (Nat × Nat × TypeId)} (h : Cls w0 W L R w) (e : Ext w w') : Cls w0 W L R w' :=
  ⟨h.base.ext e, h.kept.ext e, fun x hx => ⟨(h.room x hx).1, by obtain ⟨_, vs, h1, h2⟩ := h.room x hx; exact ⟨vs, h1, h2.ext e⟩⟩⟩
theorem Cls.grown {w0 W w w' : World} {L : List Nat} {R : List (Nat × Nat × TypeId)} {row : Option Nat} (h : Cls w0 W L R w) (k : w.grownBy w' row) (hr : ∀ g, row = some g → W.heap.size ≤ g) (h0 : w0.heap.size ≤ W.heap.size) : Cls w0 W L R w' :=
  ⟨h.base.grown k (fun g hg => Nat.le_trans h0 (hr g hg)), h.kept.grown k hr, fun x hx => ⟨(h.room x hx).1, by
    obtain ⟨h3, vs, h1, h2⟩ := h.room x hx
    exact ⟨vs, h1, h2.grown k (fun e => by have := hr _ e.symm; omega)⟩⟩⟩
theorem Cls.upd {w0 W w w' : World} {L : List Nat} {R : List (Nat × Nat × TypeId)} {g : Nat} (h : Cls w0 W L R w) (u : Upd w g w') (hg : W.heap.size ≤ g) (h0 : w0.heap.size ≤ W.heap.size) : Cls w0 W L R w' :=
  ⟨u.ext h.base (by omega), h.kept.upd u (fun hm => by have := h.kept.2.1 g hm; omega), fun x hx => ⟨(h.room x hx).1, by
    obtain ⟨h3, vs, h1, h2⟩ := h.room x hx
    exact ⟨vs, h1, h2.upd u (by omega)⟩⟩⟩
theorem Cls.store {w0 W w w' : World} {L : List Nat} {R : List (Nat × Nat × TypeId)} {r : Nat} {xs : List Value} {T : TypeId} (h : Cls w0 W L R w) (u : Upd w r w') (hb : Blk w' r xs T) (hu : ∀ x ∈ R, x.1 = r → x = (r, xs.length, T)) (hr : w0.heap.size ≤ r) (hL : r ∉ L) : Cls w0 W L R w' :=
  ⟨u.ext h.base hr, h.kept.upd u hL, fun x hx => ⟨(h.room x hx).1, by
    obtain ⟨h3, vs, h1, h2⟩ := h.room x hx
    by_cases e : x.1 = r
    · rw [hu x hx e]; exact ⟨xs, rfl, hb⟩
    · exact ⟨vs, h1, h2.upd u e⟩⟩⟩
theorem Cls.blk {w0 W w : World} {L : List Nat} {R : List (Nat × Nat × TypeId)} {g : Nat} {vs : List Value} {T : TypeId} (h : Cls w0 W L R w) (hb : Blk W g vs T) (hg : g ∈ L) : Blk w g vs T := h.kept.blk hb hg
theorem Cls.at_room {w0 W w : World} {L : List Nat} {r n : Nat} {T : TypeId} {R : List (Nat × Nat × TypeId)} (h : Cls w0 W L R w) (hr : (r, n, T) ∈ R) : ∃ vs, vs.length = n ∧ Blk w r vs T := (h.room _ hr).2
theorem Cls.no_room {w0 W : World} {L : List Nat} (h : Ext w0 W) (k : Kept W L W) : Cls w0 W L [] W := ⟨h, k, by simp⟩
theorem Cls.one_room {w0 W : World} {L : List Nat} {r n : Nat} {vs : List Value} {T : TypeId} (h : Ext w0 W) (k : Kept W L W) (hb : Blk W r vs T) (hn : vs.length = n) : Cls w0 W L [(r, n, T)] W :=
  ⟨h, k, by simp only [List.mem_singleton]; rintro x rfl; exact ⟨hb.lt, vs, hn, hb⟩⟩

/-- a slice's cells -/
def SlcAt (n : Nat) (xs : List Value) (b : Option Addr × Nat) (w : World) : Prop := n ≤ b.2 ∧ b.2 ≤ 9223372036854775807 ∧ (b.1 = none → b.2 = 0) ∧ Cells w b.1 xs
theorem SlcAt.ext {n : Nat} {xs : List Value} : ∀ (b : Option Addr × Nat) (w w' : World), SlcAt n xs b w → Ext w w' → SlcAt n xs b w' := fun _ _ _ h he => ⟨h.1, h.2.1, h.2.2.1, h.2.2.2.ext he⟩

/-- a load of what a block holds, taken first -/
theorem yieldsI_loadw {o : Oper} {a : Act} (hw : Region.wanted o (yielded ops a.tmps) = true) (ty : TypeId) (x : Operand) (ho : o.op = .load ty x) {g : Nat} {vs : List Value} {T : TypeId} {n : Nat}
    (hx : a.eval x = .pointer (some ⟨g, 0, none⟩)) (hb : ∀ w, S w → Blk w g vs T) (ht : AggT P ty n) (hn : vs.length = n) : YieldsIf P ops S o (.agg vs.toArray) a := by
  refine .inl ⟨hw, fun w hw => ?_⟩
  have h1 := run_load_sub (P := P) (off := 0) (hb w hw) ht (by omega)
  have h2 : (vs.drop 0).take n = vs := by simp [← hn]
  rw [h2] at h1
  unfold execOp
  simp only [ho, hx, Instr.loadAt, Instr.sureAddr, Sem.run_bind, Sem.run_pure, Result.andThen_ok, h1]
end
end Go.Proofs.YthfddfgncolnbaaDoor
