/- Contracts and laws that the claim's row leans on (17 texts, joined): The Summer's take, Write, Copy, NewSummer; conditions: the octets' number, and where they lie. The Summer's end; conditions: its octets' number. The Summer's Sum, and what summed makes; conditions: the octets' number. The reference's long; condition: a number that is not negative. append(s, make([]byte, k)...) onto a row of one's own; conditions: the lengths. The reference's state: what it computes; conditions: the text's length, the domain. The reference's Sum: what it computes; conditions: the text's length, the domain. Results that lie in memory, with others beside them; no condition. Take16; conditions: the slice's size. TagOf and SealOf: what they compute; conditions: the key's length, the text's size. The reference's Tag and SealBy: what they compute; conditions: the key's length, the text's size. Arrays of octets are compared; condition: their lengths. The law SummersAreBounded, walked; no condition. Steps of a walk behind a guard; no condition. The law TagsMatch, walked; conditions: the lengths. policy.decide with 'always'; conditions: the memory of both, and that the ask is right. policy.Meets and policy.Decide; conditions: the memory of the arguments. -/
import Derived.Test.YthfddfgncolnbaaGreatJ3
import Derived.Laws.MakeOwn
import Derived.Laws.ResultCell
import Derived.Test.YthfddfgncolnbaaGreatProg
import Derived.Stop.BytesEq
import Derived.Laws.StructEq
namespace Go.Proofs.YthfddfgncolnbaaGreat
section
open Go Go.RowKit

theorem run_mk8 (w : World) (n : Nat) (hn : n ≤ 140737488355328) : (Instr.makeSlice 66 (.int .i64 (n : Int)) (.int .i64 (n : Int))).run Tryz.prog w =
    .ok (.slice (some ⟨w.heap.size, 0, none⟩) n n) (w.alloc (.cells ((List.replicate n (0 : UInt8)).map u8v).toArray 5)) := by
  obtain ⟨i0, hi, hz, hs, hb⟩ := info_parts info_u8
  have h := run_make (P := Tryz.prog) w 66 5 i0 (.int .u8 0) Tryz.underlying66 hi hz .i64 .i64 n n (by omega) (by omega) (by rw [hb]; omega) (by omega)
  rw [h, hs]
  have : madeCells (Value.int .u8 0).cells ((n : Int).toNat * 1) = ((List.replicate n (0 : UInt8)).map u8v).toArray := by
    have e : (Value.int .u8 0).cells = #[.int .u8 0] := rfl
    apply Array.ext
    · simp [size_madeCells]
    · intro i h1 h2
      simp [madeCells, e, u8v, Nat.mod_one]
  rw [this]
  simp

theorem wpl_mk8 {ops : Array Oper} {rest : List Oper} {o : Oper} {a : Act} {w : World} {Q : Exit → Act → World → Prop} (hgd : o.guard = none) (x y : Operand) (ho : o.op = .makeSlice 66 x y) {n : Nat}
    (hx : a.eval x = .int .i64 (n : Int)) (hy : a.eval y = .int .i64 (n : Int)) (hn : n ≤ 140737488355328)
    (h : wpList Tryz.prog ops Q rest (a.put o.dst (.slice (some ⟨w.heap.size, 0, none⟩) n n)) (w.alloc (.cells ((List.replicate n (0 : UInt8)).map u8v).toArray 5))) : wpList Tryz.prog ops Q (o :: rest) a w :=
  wpList_plain hgd fun K hK => by
    unfold Oper.wp execOp
    simp only [ho, hx, hy, Result.andThen_ok, Sem.run_bind, Sem.run_pure, run_mk8 w n hn]
    exact hK _ _ h

theorem cells_grown0 {w w' : World} {a : Option Addr} {xs : List Value} {r : Option Nat} {n : Nat} (h : Cells w a xs) (hl : xs.length = n) (k : w.grownBy w' r) (hn : n = 0 ∨ ∀ x, a = some x → some x.block ≠ r) : Cells w' a xs := by
  rcases hn with rfl | hn
  · exact .inl (List.length_eq_zero_iff.1 hl)
  · exact h.grown k hn
theorem away_of {w0 : World} {a : Option Addr} {xs : List Value} {n g : Nat} (h : Cells w0 a xs) (hl : xs.length = n) (hg : w0.heap.size ≤ g) : n = 0 ∨ ∀ x, a = some x → some x.block ≠ some g := by
  by_cases h0 : n = 0
  · exact .inl h0
  · refine .inr ?_
    intro x hx
    obtain ⟨b, off, rfl, hc⟩ := h.some_of (by omega)
    cases hx
    have h1 : b < w0.heap.size := block_lt_of_cell (hc 0 _ (List.getElem?_eq_getElem (by omega)))
    intro e
    have h2 : b = g := by injection e
    omega

theorem Holds.blk {w : World} {g : Nat} {T : TypeId} {s0 t : List UInt8} {tot : Int} (h : Holds w g T s0 t tot) : ∃ vs, vs.length = vs.length ∧ Blk w g vs T := by
  obtain ⟨r, _, _, hb⟩ := h; exact ⟨_, rfl, hb⟩
theorem Holds.lt {w : World} {g : Nat} {T : TypeId} {s0 t : List UInt8} {tot : Int} (h : Holds w g T s0 t tot) : g < w.heap.size := by
  obtain ⟨r, _, _, hb⟩ := h; exact hb.lt
theorem Holds.ext {w w' : World} {g : Nat} {T : TypeId} {s0 t : List UInt8} {tot : Int} (h : Holds w g T s0 t tot) (k : Ext w w') : Holds w' g T s0 t tot := by
  obtain ⟨r, h1, h2, hb⟩ := h; exact ⟨r, h1, h2, hb.ext k⟩
theorem Holds.grown {w w' : World} {g : Nat} {T : TypeId} {s0 t : List UInt8} {tot : Int} {r : Option Nat} (h : Holds w g T s0 t tot) (k : w.grownBy w' r) (hn : some g ≠ r) : Holds w' g T s0 t tot := by
  obtain ⟨r, h1, h2, hb⟩ := h; exact ⟨r, h1, h2, hb.grown k hn⟩

def writePost (w : World) (g : Nat) (T : TypeId) (s0 t b : List UInt8) (tot : Int) (e : Ending) (w' : World) : Prop :=
  if (b.length : Int) ≤ 1048576 - tot then e = .returned (.int .i64 0) ∧ Holds w' g T s0 (t ++ b) (tot + b.length) ∧ w.grownBy w' (some g)
  else e = .returned (.int .i64 5) ∧ w = w'

def initS (d : Int) : List UInt8 := (List.replicate 64 0).set 63 (UInt8.ofNat d.toNat)
theorem initS_length (d : Int) : (initS d).length = 64 := by simp [initS]
end

section
open Go Go.RowKit

/-- the octets behind a text, up to whole blocks -/
def padT (t : List UInt8) : List UInt8 := t ++ 128 :: List.replicate (31 - t.length % 32) 0
theorem padT_length (t : List UInt8) : (padT t).length % 32 = 0 := by
  unfold padT
  rw [List.length_append, List.length_cons, List.length_replicate]
  omega
/-- the state at the end -/
def finL (s t : List UInt8) (n : Nat) : List UInt8 := absorb (absN s (padT t) ((padT t).length / 32)) (List.replicate 24 0 ++ longL (UInt64.ofNat n))
theorem finL_length (s t : List UInt8) (n : Nat) : (finL s t n).length = 64 := absorb_length _ _
theorem agg_sum : AggT Tryz.prog 37 32 := ⟨⟨_, Tryz.underlying37, rfl⟩, by kernel_rfl⟩
theorem grown_none {w w' : World} (h : Ext w w') (r : Option Nat) : w.grownBy w' r := ⟨h.os, h.tape, h.output, h.size, fun i hi _ => h.block i hi⟩

theorem wpl_loadp {P : Program} {ops : Array Oper} {rest : List Oper} {o : Oper} {a : Act} {w : World} {Q : Exit → Act → World → Prop} (hgd : o.guard = none) (ty : TypeId) (x : Operand) (ho : o.op = .load ty x) {g off n : Nat} {vs xs : List Value} {T : TypeId}
    (hx : a.eval x = .pointer (some ⟨g, off, none⟩)) (hb : Blk w g vs T) (ht : AggT P ty n) (hn : off + n ≤ vs.length) (hxs : (vs.drop off).take n = xs)
    (h : wpList P ops Q rest (a.put o.dst (.agg xs.toArray)) w) : wpList P ops Q (o :: rest) a w :=
  wpl_load hgd ty x ho hx hb ht hn (by rw [hxs]; exact h)
end

section
open Go Go.RowKit

theorem agg_apisum : AggT Tryz.prog 38 32 := ⟨⟨_, Tryz.underlying38, rfl⟩, by kernel_rfl⟩

/-- the sum of a text -/
def sumL (d : Int) (t : List UInt8) : List UInt8 := (finL (initS d) t t.length).take 32
theorem sumL_length (d : Int) (t : List UInt8) : (sumL d t).length = 32 := by rw [sumL, List.length_take, finL_length]; rfl
end

section
open Go Go.RowKit

theorem longL_at (N i : Nat) (hN : N < 18446744073709551616) (hi : i < 8) : ((((longL (UInt64.ofNat N))[i]?.getD 0).toNat : Nat) : Int) = (N : Int) / 2 ^ (56 - 8 * i) % 256 := by
  have hN' : (UInt64.ofNat N).toNat = N := by rw [UInt64.toNat_ofNat']; omega
  unfold longL
  rw [hN']
  have h1 : (UInt32.ofNat (N / 4294967296)).toNat = N / 4294967296 % 4294967296 := UInt32.toNat_ofNat' ..
  have h2 : (UInt32.ofNat N).toNat = N % 4294967296 := UInt32.toNat_ofNat' ..
  rcases (by omega : i = 0 ∨ i = 1 ∨ i = 2 ∨ i = 3 ∨ i = 4 ∨ i = 5 ∨ i = 6 ∨ i = 7) with rfl | rfl | rfl | rfl | rfl | rfl | rfl | rfl
  all_goals
    simp only [octL, h1, h2, List.cons_append, List.nil_append, List.getElem?_cons_zero, List.getElem?_cons_succ, Option.getD_some, u8_ofNat]
    simp
    try omega
end

section
open Go Go.RowKit

theorem zeroCells_u8 (k : Nat) : Builtin.zeroCells (Value.int .u8 0).cells k = (List.replicate k (Value.int .u8 0)).toArray := by
  have e : (Value.int .u8 0).cells = #[.int .u8 0] := rfl
  apply Array.ext
  · simp [Builtin.zeroCells, e]
  · intro i h1 h2
    simp [Builtin.zeroCells, e, Nat.mod_one]

theorem run_append_zeros_own (w : World) (base : Nat) (ty : TypeId) (v : Value) (n : Nat) (xs : List Value) (hown : w.ownsRow base 5 1 v n xs) (k : Nat) (hk : 0 < k)
    (hb : n + k ≤ 140737488355328) (hbase : base ≤ w.heap.size) :
    ∃ v' w', (Builtin.append_ #[66, 3] ty #[v, .int .i64 (k : Int)]).run Tryz.prog w = .ok v' w' ∧ w'.ownsRow base 5 1 v' (n + k) (xs ++ List.replicate k (.int .u8 0)) ∧ w.grownBy w' v.ownBlock := by
  obtain ⟨i0, hi, hz, hs, hb1⟩ := info_parts info_u8
  have hl1 := hown.1
  have hlen : (xs ++ List.replicate k (Value.int .u8 0)).length = (n + k) * 1 := by rw [List.length_append, List.length_replicate, hl1]; omega
  have grown : ∀ (old : Nat), old < n + k → ∀ (row : Option Nat),
      (w.drew.alloc (.cells (xs.toArray ++ Builtin.zeroCells (Value.int .u8 0).cells k ++ Builtin.zeroCells (Value.int .u8 0).cells (grownCap w (n + k) old 5 - (n + k))) 5)).ownsRow base 5 1
        (.slice (some ⟨w.heap.size, 0, none⟩) (n + k) (grownCap w (n + k) old 5)) (n + k) (xs ++ List.replicate k (.int .u8 0)) ∧
      w.grownBy (w.drew.alloc (.cells (xs.toArray ++ Builtin.zeroCells (Value.int .u8 0).cells k ++ Builtin.zeroCells (Value.int .u8 0).cells (grownCap w (n + k) old 5 - (n + k))) 5)) row := by
    intro old ho row
    have hge := grownCap_ge w (n + k) old 5
    have hcm : grownCap w (n + k) old 5 ≤ maxLen := grownCap_le_maxLen w (n + k) old 5 (by unfold maxLen; omega)
    refine ⟨⟨hlen, .inr ⟨w.heap.size, _, _, rfl, hbase, heap_alloc_new w.drew _, hge, hcm, ?_, ?_⟩⟩, ⟨rfl, rfl, rfl, by simp, fun j hj _ => heap_alloc_old w.drew _ hj⟩⟩
    · simp only [Array.size_append, List.size_toArray, zeroCells_u8, List.length_replicate, hl1]; omega
    · simp only [Array.toList_append, zeroCells_u8, List.append_assoc]
      rw [← List.append_assoc, ← hlen]
      exact List.take_left
  rcases hown.2 with ⟨rfl, rfl⟩ | ⟨g, cap, cur, rfl, hbg, hg, hnc, hcm, hcs, htake⟩
  · have hx : xs = [] := List.eq_nil_of_length_eq_zero (by simpa using hl1)
    subst hx
    have hr := Lib.run_append_nil_zeros (P := Tryz.prog) w 66 3 ty 5 i0 (.int .u8 0) .i64 .i64 Tryz.underlying66 Tryz.underlying3 hi hz k hk (by omega) (by omega) (by rw [hb1]; omega)
    have hgr := grown 0 (by omega) (Value.ownBlock (.slice none 0 0))
    simp only [Nat.zero_add, Array.empty_append] at hgr hr ⊢
    exact ⟨_, _, hr, by simpa using hgr.1, by simpa using hgr.2⟩
  · by_cases hroom : n + k ≤ cap
    · have hfit : n * 1 + (List.replicate k (Value.int .u8 0)).length ≤ cur.size := by rw [List.length_replicate, hcs]; omega
      have hst := run_storeCells_at Tryz.prog g (n * 1) 5 (List.replicate k (Value.int .u8 0)) 0 cur w hg (by simpa using hfit) (by intro u hu; simp at hu; rw [hu.2]; rfl)
      have hw : IntKind.i64.wrap (k : Int) = k := by rw [IntKind.wrap_i64]; omega
      have h48i : ¬ (281474976710656 < (k : Int) * (i0.bytes : Int)) := by rw [hb1]; omega
      have hns : ¬ (k * i0.size = 0) := by rw [hs]; omega
      have hneg : ¬ ((k : Int) < 0) := by omega
      have hk0 : k ≠ 0 := by omega
      simp only [Nat.add_zero] at hst
      have hr : (Builtin.append_ #[66, 3] ty #[.slice (some ⟨g, 0, none⟩) n cap, .int .i64 (k : Int)]).run Tryz.prog w =
          .ok (.slice (some ⟨g, 0, none⟩) (n + k) cap) (w.setRow g (cur.toList.take (n * 1) ++ List.replicate k (Value.int .u8 0) ++ cur.toList.drop (n * 1 + (List.replicate k (Value.int .u8 0)).length)).toArray) := by
        simp [Builtin.append_, run_underlying Tryz.underlying66, run_underlying Tryz.underlying3, sizeOf, typeInfo, zeroValue, hi, hz, asInt, asIntOf, hw, hneg, h48i, hns, hroom, zeroCells_u8, hk0, hs, Addr.add_lit]
        simp at hst
        simp [hst]
      refine ⟨_, _, hr, ⟨hlen, .inr ⟨g, cap, _, rfl, hbg, setRow_heap w g cur _ _ _ hg, hroom, hcm, ?_, ?_⟩⟩, ⟨rfl, rfl, rfl, by simp, fun j _ hj => setRow_other w g j _ (fun e => hj (by simp [Value.ownBlock, e]))⟩⟩
      · simp only [List.size_toArray, List.length_append, List.length_take, List.length_drop, Array.length_toList, List.length_replicate]
        omega
      · rw [htake, ← hlen]
        exact List.take_left
    · have holds : ∀ j u, xs[j]? = some u → w.cell? ((⟨g, 0, none⟩ : Addr).add j) = some u := hown.cells (g := g) rfl
      have hold : (Builtin.firstCells i0.size n (.slice (some ⟨g, 0, none⟩) n cap)).run Tryz.prog w.drew = .ok xs.toArray w.drew := run_firstCells_some (P := Tryz.prog) w.drew i0.size n ⟨g, 0, none⟩ n cap xs (by rw [hs]; exact hl1) holds
      have hr := Lib.run_append_grow_zeros (P := Tryz.prog) w 66 3 ty 5 i0 (.int .u8 0) .i64 .i64 Tryz.underlying66 Tryz.underlying3 hi hz (some ⟨g, 0, none⟩) n cap xs hold k hk (by omega) (by omega) (by omega) (by rw [hb1]; omega) (growslice_fits (by omega) (by rw [hb1]; omega))
      have hgr := grown cap (by omega) (Value.ownBlock (.slice (some ⟨g, 0, none⟩) n cap))
      exact ⟨_, _, hr, hgr.1, hgr.2⟩

theorem wpl_append_zeros {ops : Array Oper} {rest : List Oper} {o : Oper} {a : Act} {w : World} {Q : Exit → Act → World → Prop} (hgd : o.guard = none) (s x : Operand)
    (ho : o.op = .call { callee := .builtin .append, args := #[s, x], argTypes := #[66, 3] }) (base : Nat) {v : Value} {n : Nat} {xs : List Value} {k : Nat}
    (hs : a.eval s = v) (hx : a.eval x = .int .i64 (k : Int)) (hown : w.ownsRow base 5 1 v n xs) (hk : 0 < k) (hb : n + k ≤ 140737488355328) (hbase : base ≤ w.heap.size)
    (h : ∀ v' w', w'.ownsRow base 5 1 v' (n + k) (xs ++ List.replicate k (.int .u8 0)) → w.grownBy w' v.ownBlock → wpList Tryz.prog ops Q rest (a.put o.dst v') w') : wpList Tryz.prog ops Q (o :: rest) a w := by
  obtain ⟨v', w', hr, h1, h2⟩ := run_append_zeros_own w base o.type v n xs hown k hk hb hbase
  exact Lib.wpList_append_run w hgd s x _ _ ho v _ hs hx v' w' hr (h v' w' h1 h2)

/-- append onto a row of one's own: octets -/
theorem wpl_append8 {ops : Array Oper} {rest : List Oper} {o : Oper} {a : Act} {w : World} {Q : Exit → Act → World → Prop} (hgd : o.guard = none) (s x : Operand)
    (ho : o.op = .call { callee := .builtin .append, args := #[s, x], argTypes := #[66, 66] }) (base : Nat) {v : Value} {n m c : Nat} {xs ys : List UInt8} {ad : Option Addr}
    (hs : a.eval s = v) (hx : a.eval x = .slice ad m c) (hown : w.ownsRow base 5 1 v n (xs.map u8v)) (hm : ys.length = m) (had : ad = none → m = 0 ∧ c = 0) (hc : Cells w ad (ys.map u8v))
    (hb : n + m ≤ 140737488355328) (hbase : base ≤ w.heap.size)
    (h : ∀ v' w', w'.ownsRow base 5 1 v' (n + m) ((xs ++ ys).map u8v) → w.grownBy w' v.ownBlock → wpList Tryz.prog ops Q rest (a.put o.dst v') w') : wpList Tryz.prog ops Q (o :: rest) a w := by
  obtain ⟨i0, hi, hz, hsz, hb1⟩ := info_parts info_u8
  cases ad with
  | none =>
    obtain ⟨rfl, rfl⟩ := had rfl
    have hy : ys = [] := List.length_eq_zero_iff.1 hm
    subst hy
    have h' := h v w (by simpa using hown) (grown_refl w _)
    exact wpList_append_own_none hgd s x 66 ho base 5 i0 1 Tryz.underlying66 hi v n (xs.map u8v) hs hown hx h'
  | some y =>
    exact wpList_append_own w hgd s x 66 ho base 5 i0 (.int .u8 0) 1 1 Tryz.underlying66 hi hz hsz hb1 rfl (by decide) v n (xs.map u8v) hs hown y m c (ys.map u8v) hx
      (by rw [List.length_map, hm, Nat.mul_one]) (news_cells hc) (one_u8 _) (by unfold maxLen; omega) (by omega) hbase (fun v' w' h1 h2 _ => h v' w' (by rw [List.map_append]; exact h1) h2)

theorem own_block_ge {w : World} {B : Nat} {e : TypeId} {size n : Nat} {v : Value} {xs : List Value} (h : w.ownsRow B e size v n xs) : ∀ g, v.ownBlock = some g → B ≤ g := by
  intro g hg
  rcases h.2 with ⟨rfl, _⟩ | ⟨g', cap, cur, rfl, hb, _⟩
  · cases hg
  · simp [Value.ownBlock] at hg; omega
end

section
open Go Go.RowKit

theorem absN_more {s p q : List UInt8} {m : Nat} (hp : p.length = 32 * m) (hq : q.length = 32) : absN s (p ++ q) (m + 1) = absorb (absN s p m) q := by
  rw [absN, absN_append _ (by omega), ← hp, List.drop_left, List.take_of_length_le (by omega)]
theorem finL_blocks (s t : List UInt8) (n : Nat) : finL s t n = absN s (padT t ++ (List.replicate 24 0 ++ longL (UInt64.ofNat n))) ((padT t).length / 32 + 1) := by
  have h := padT_length t
  rw [absN_more (by omega) rfl]; rfl

theorem u8_wrap (d : Int) (h : 0 ≤ d) (h2 : d ≤ 255) : ((UInt8.ofNat d.toNat).toNat : Int) = d := by rw [UInt8.toNat_ofNat']; omega
theorem init_cells (d : Int) (h : 0 ≤ d) (h2 : d ≤ 255) : (List.replicate 64 (Value.int .u8 0)).set 63 (.int .u8 d) = (initS d).map u8v := by
  unfold initS
  rw [List.map_set]
  have : u8v (UInt8.ofNat d.toNat) = .int .u8 d := by
    unfold u8v
    rw [u8_wrap d h h2]
  rw [this]
  rfl

theorem own_away {w : World} {B n c : Nat} {e : TypeId} {size : Nat} {a : Option Addr} {xs : List Value} (h : w.ownsRow B e size (.slice a n c) n xs) : ∀ x, a = some x → B ≤ x.block := by
  intro x hx
  rcases h.2 with ⟨h1, _⟩ | ⟨g', cap, cur, h1, hb, _⟩
  · injection h1 with h1 _ _; rw [h1] at hx; cases hx
  · injection h1 with h1 _ _; rw [h1] at hx; cases hx; exact hb
end

section
open Go Go.RowKit
end

section
open Go Go.RowKit

theorem ret_row2 {P : Program} {fn : Func} {R : Ending → World → Prop} {a : Act} {w : World} {p u : Tmp} {ty : TypeId} {g : Nat} {vs : List Value} {T : TypeId}
    (hres : fn.results = #[.cell p ty, .tmp u]) (hp : a.tmps.getD p undef = .pointer (some ⟨g, 0, none⟩)) (hb : Blk w g vs T)
    {n : Nat} (ht : AggT P ty n) (hn : vs.length = n)
    (hdef : a.defers = []) (hR : R (.returned (.tuple #[.agg vs.toArray, a.tmps.getD u undef])) w) : bodyPost P fn R .ret a w := by
  have h1 := run_load_sub (P := P) (off := 0) hb ht (by omega)
  have h2 : (vs.drop 0).take n = vs := by simp [← hn]
  rw [h2] at h1
  refine bodyPost_ret ?_ hdef hR
  rw [results_cell_tmp hres, hp]
  simp [asAddr, h1]

theorem ret_row3 {P : Program} {fn : Func} {R : Ending → World → Prop} {a : Act} {w : World} {p u q : Tmp} {ty : TypeId} {g : Nat} {vs : List Value} {T : TypeId}
    (hres : fn.results = #[.cell p ty, .tmp u, .tmp q]) (hp : a.tmps.getD p undef = .pointer (some ⟨g, 0, none⟩)) (hb : Blk w g vs T)
    {n : Nat} (ht : AggT P ty n) (hn : vs.length = n)
    (hdef : a.defers = []) (hR : R (.returned (.tuple #[.agg vs.toArray, a.tmps.getD u undef, a.tmps.getD q undef])) w) : bodyPost P fn R .ret a w := by
  have h1 := run_load_sub (P := P) (off := 0) hb ht (by omega)
  have h2 : (vs.drop 0).take n = vs := by simp [← hn]
  rw [h2] at h1
  refine bodyPost_ret (v := .tuple #[.agg vs.toArray, a.tmps.getD u undef, a.tmps.getD q undef]) ?_ hdef hR
  simp only [Array.getD_eq_getD_getElem?] at hp
  simp [results, hres, hp, asAddr, h1]
end

section
open Go Go.RowKit

theorem agg_16 : AggT Tryz.prog 34 16 := ⟨⟨_, Tryz.underlying34, rfl⟩, by kernel_rfl⟩
/-- the end of a function whose first result lies in a block of its own, the second in a slot -/
theorem wpl_loadc {P : Program} {ops : Array Oper} {rest : List Oper} {o : Oper} {a : Act} {w : World} {Q : Exit → Act → World → Prop} (hgd : o.guard = none) (ty : TypeId) (x : Operand) (ho : o.op = .load ty x) {b off n : Nat} {vs : List Value}
    (hx : a.eval x = .pointer (some ⟨b, off, none⟩)) (hb : ∀ j u, vs[j]? = some u → w.cell? ⟨b, off + j, none⟩ = some u) (ht : AggT P ty n) (hn : vs.length = n)
    (h : wpList P ops Q rest (a.put o.dst (.agg vs.toArray)) w) : wpList P ops Q (o :: rest) a w :=
  wpList_plain hgd fun K hK => by
    unfold Oper.wp execOp
    simp only [ho, hx, Instr.loadAt, Instr.sureAddr, Sem.run_bind, Sem.run_pure, Result.andThen_ok, run_load_cells hb ht hn]
    exact hK _ _ h

def takeV (l : List UInt8) (n m : Nat) (at_ : Int) : Value :=
  if roomE n at_ m = 0 then .tuple #[.agg (((l.drop at_.toNat).take m).map u8v).toArray, .int .i64 0] else .tuple #[.agg (List.replicate m (.int .u8 0)).toArray, .int .i64 (roomE n at_ m)]
end

section
open Go Go.RowKit

/-- the tag of a text -/
def tagL (k t : List UInt8) : List UInt8 := (sumL 8 (k ++ t)).take 16
theorem tagL_length (k t : List UInt8) : (tagL k t).length = 16 := by rw [tagL, List.length_take, sumL_length]; rfl
def sealL (k t : List UInt8) : List UInt8 := stirL (finL (initS 9) (k ++ t) (k ++ t).length)
theorem sealL_length (k t : List UInt8) : (sealL k t).length = 64 := stirL_length _

theorem nil0 {w : World} {a : Option Addr} {t : List UInt8} {n c : Nat} (hcl : Cells w a (t.map u8v)) (ht : t.length = n) (h0 : a = none → c = 0) : a = none → n = 0 ∧ c = 0 := by
  intro e
  refine ⟨?_, h0 e⟩
  rcases hcl with h | ⟨b, o, h, _⟩
  · have h1 := congrArg List.length h
    rw [List.length_map, ht] at h1
    exact h1
  · rw [e] at h; cases h

def zeros (n : Nat) : Value := .agg (List.replicate n (.int .u8 0)).toArray
theorem one_zeros (n : Nat) : ∀ v ∈ List.replicate n (Value.int .u8 0), v.oneCell' = true := by intro v hv; rw [List.mem_replicate] at hv; rw [hv.2]; rfl
end

section
open Go Go.RowKit
end

section
open Go Go.RowKit

theorem eq_arr {t : TypeId} {n : Nat} (ht : Tryz.prog.underlying t = some (.array n 5)) (xs ys : List UInt8) (hx : xs.length = n) (hy : ys.length = n) (w : World) :
    (binOp .eql t (.agg (xs.map u8v).toArray) (.agg (ys.map u8v).toArray)).run Tryz.prog w = .ok (.bool (xs == ys)) w :=
  run_eql_bytes w t 5 n ht Tryz.underlying5 (fun w => by kernel_rfl) xs ys hx hy
theorem neq_arr {t : TypeId} {n : Nat} (ht : Tryz.prog.underlying t = some (.array n 5)) (xs ys : List UInt8) (hx : xs.length = n) (hy : ys.length = n) (w : World) :
    (binOp .neq t (.agg (xs.map u8v).toArray) (.agg (ys.map u8v).toArray)).run Tryz.prog w = .ok (.bool (!(xs == ys))) w := by
  have h := run_equalIn_bytes w 9998 t 5 n ht Tryz.underlying5 (fun w => by kernel_rfl) xs ys hx hy
  rw [run_neq_struct]
  have h2 : (Op.equalIn 10000 t (.agg (xs.map u8v).toArray) (.agg (ys.map u8v).toArray)).run Tryz.prog w = .ok (xs == ys) w := h
  rw [h2]; rfl
theorem eq_self {t : TypeId} {n : Nat} (ht : Tryz.prog.underlying t = some (.array n 5)) (xs : List UInt8) (hx : xs.length = n) (w : World) :
    (binOp .eql t (.agg (xs.map u8v).toArray) (.agg (xs.map u8v).toArray)).run Tryz.prog w = .ok (.bool true) w := by
  rw [eq_arr ht xs xs hx hx]; simp
end

section
open Go Go.RowKit

theorem guard_sum : Tryz.prog.eqGuardType Tryz.prog.depth 38 = false := by kernel_rfl
end

section
open Go Go.RowKit

section
variable {P : Program} {ops : Array Oper} {rest : List Oper} {o : Oper} {a : Act} {w : World} {Q : Exit → Act → World → Prop}
theorem wpList_want (hw : Region.wanted o (yielded ops a.tmps) = true) (h : ∀ K : Act → World → Prop, (∀ a w, wpList P ops Q rest a w → K a w) → o.wp P a w K Q) : wpList P ops Q (o :: rest) a w :=
  wpList_step fun K hK => by rw [if_pos hw]; exact h K hK
/-- a load that stands behind a guard -/
theorem wpg_loadw (hw : Region.wanted o (yielded ops a.tmps) = true) (ty : TypeId) (x : Operand) (ho : o.op = .load ty x) {g : Nat} {vs : List Value} {T : TypeId}
    (hx : a.eval x = .pointer (some ⟨g, 0, none⟩)) (hb : Blk w g vs T) {n : Nat} (ht : AggT P ty n) (hn : vs.length = n)
    (h : wpList P ops Q rest (a.put o.dst (.agg vs.toArray)) w) : wpList P ops Q (o :: rest) a w :=
  wpList_want hw fun K hK => by
    have h1 := run_load_sub (P := P) (off := 0) hb ht (by omega)
    have h2 : (vs.drop 0).take n = vs := by simp [← hn]
    rw [h2] at h1
    unfold Oper.wp execOp
    simp only [ho, hx, Instr.loadAt, Instr.sureAddr, Sem.run_bind, Sem.run_pure, Result.andThen_ok, h1]
    exact hK _ _ h
/-- a comparison of arrays, whether behind a guard or not -/
theorem wpg_cmp (hw : Region.wanted o (yielded ops a.tmps) = true) (op : BinOp) (t u : TypeId) (x y : Operand) (ho : o.op = .binOp op t x y u) {xs ys : Array Value} {b : Value} (hx : a.eval x = .agg xs) (hy : a.eval y = .agg ys)
    (hg : P.eqGuardType P.depth t = false) (hr : ∀ w, (binOp op t (.agg xs) (.agg ys)).run P w = .ok b w)
    (h : wpList P ops Q rest (a.put o.dst b) w) : wpList P ops Q (o :: rest) a w :=
  wpList_want hw fun K hK => by
    unfold Oper.wp execOp
    simp only [ho, hx, hy, Sem.run_bind, run_eqGuard_agg w op t x y xs ys hg, Result.andThen_ok, hr, Sem.run_pure]
    exact hK _ _ h
end

theorem run_eqFields_cons {P : Program} {d : Nat} {xs ys : Array Value} {f : Field} {fs : List Field} {a b : Value} {w : World} (hn : f.name ≠ "_") (h1 : (part f.type xs f.offset).run P w = .ok a w) (h2 : (part f.type ys f.offset).run P w = .ok b w) (h3 : (Op.equalIn d f.type a b).run P w = .ok true w) :
    (Op.eqFields d xs ys (f :: fs)).run P w = (Op.eqFields d xs ys fs).run P w := by
  simp [Op.eqFields, hn, h1, h2, h3]
theorem run_part_int {P : Program} {t : TypeId} {k : IntKind} {xs : Array Value} {off : Nat} {v : Value} {w : World} (ht : P.underlying t = some (.int k)) (hv : xs[off]? = some v) : (part t xs off).run P w = .ok v w := by
  simp [part, isAgg, run_underlying ht, hv]
theorem run_part_arr {P : Program} {t e : TypeId} {n m : Nat} {xs : Array Value} {off : Nat} {w : World} (ht : P.underlying t = some (.array n e)) (hs : P.cellsOf t = m) : (part t xs off).run P w = .ok (.agg (xs.extract off (off + m))) w := by
  obtain ⟨i, hi⟩ := info_of_underlying ht
  simp [part, isAgg, run_underlying ht, run_sizeOf w hi, hs]
end

section
open Go Go.RowKit

theorem zeros_u8 (n : Nat) : List.replicate n (Value.int .u8 0) = (List.replicate n (0 : UInt8)).map u8v := by simp [u8v]
end

section
open Go Go.RowKit

theorem field_at {w : World} {p : Addr} {xs : List Value} {j : Nat} {v : Value} (h : CellsAt w p xs) (hv : xs[j]? = some v) : w.cell? ⟨p.block, p.off + j, none⟩ = some v := by
  have h2 := h j v hv
  obtain ⟨b, o, s⟩ := p
  cases s with
  | none => rw [addr_add] at h2; exact h2
  | some s =>
    exfalso
    have hj := (List.getElem?_eq_some_iff.1 hv).1
    have h0 := h 0 (xs[0]'(by omega)) (by simp)
    have h3 := World.cell?_spot h0
    simp [Addr.add] at h3
theorem agg_dec : AggT Tryz.prog 52 4 := ⟨⟨_, Tryz.underlying52, rfl⟩, by kernel_rfl⟩
theorem always_c (n : Int) (w : World) : Calls Tryz.prog 37 #[.int .i64 n] w fun e w' => e = .returned (.bool true) ∧ w = w' := by
  go_enter Tryz.func37, Tryz.ntmps37
  go_wp2
  go_ret
  exact ⟨rfl, rfl⟩
def bestI : Option (Nat × RuleR) → Int
  | none => -1
  | some (b, _) => b
theorem built_dec1 (k : Int) : Tryz.prog.built 52 [(1, .int .i64 k)] = some (DecR.v ⟨false, k, 0, ⟨#[]⟩⟩).toArray := by kernel_rfl
theorem built_dec4 (b : Bool) (k n : Int) (s : ByteArray) : Tryz.prog.built 52 [(0, .bool b), (1, .int .i64 k), (2, .int .i64 n), (3, .string s)] = some (DecR.v ⟨b, k, n, s⟩).toArray := by kernel_rfl

set_option maxRecDepth 100000 in
set_option maxHeartbeats 2000000 in
theorem decide_c (pa : Option Addr) (pn pc : Nat) (rs : List RuleR) (a : AskR) (T : Nat) (w : World) (hp : PolOk w pa pn pc rs) (ha : a.Ok w) (hT : a.time = (T : Int)) (hTb : T ≤ 1099511627776) :
    Calls Tryz.prog 36 #[.agg #[.slice pa pn pc], .agg a.v.toArray, .func (.func 37) #[] #[]] w fun e w' => e = .returned (.agg (decideD a rs).v.toArray) ∧ Ext w w' := by
  have hme := hid (fun r w' h1 h2 => meets_c r a T w' h1 h2 hT hTb)
  have HPO := hid hp
  have hn63 : pn ≤ 140737488355328 := by have := hp.hnc; have := hp.hm; omega
  have HLEN := hid (AskR.len ha)
  have HAO := hid ha
  have HAG := hid agg_ask
  clear hp ha hT hTb
  obtain ⟨D, hD⟩ : ∃ D, decideD a rs = D := ⟨_, rfl⟩
  have HD := hid hD
  rw [hD]
  clear hD
  go_enter Tryz.func36, Tryz.ntmps36
  go_upto_region 1 with (fail)
  generalize hwA : World.alloc (World.alloc (World.alloc w _) _) _ = wA
  have bA : Blk wA w.heap.size [.slice pa pn pc] 24 := by rw [← hwA]; exact ((Blk.mk_alloc rfl rfl).alloc _).alloc _
  have gA : Blk wA (w.heap.size + 1) a.v 40 := by rw [← hwA]; exact (Blk.mk_alloc (by simp) rfl).alloc _
  have zA : Blk wA (w.heap.size + 2) zeroDec.v 52 := by rw [← hwA]; exact Blk.mk_alloc (by simp) rfl
  have eA : Ext w wA := by rw [← hwA]; exact (((Ext.refl w).alloc _).alloc _).alloc _
  have BA := hid bA
  have GA := hid gA
  have ZA := hid zA
  have EA := hid eA
  have PA := hid (HPO.out.ext eA)
  have QA := hid (HAO.out.ext eA)
  have c0 := bA.cell' (i := 0) rfl
  clear hwA bA gA zA eA HPO HAO
  go_wp2
  go_loopw [7, 14] (fun b i wr => ∃ (k : Nat) (best : Option (Nat × RuleR)), k ≤ pn ∧ i = .int .i64 (k : Int) ∧ b = .int .i64 (bestI best) ∧ (∀ b q, best = some (b, q) → b < pn ∧ rs[b]? = some q) ∧ decF a (rs.drop k) k best = D ∧ Ext wA wr) (fun _ i _ => pn - (intOf i).toNat)
  case atStart => exact ⟨0, none, by omega, rfl, rfl, fun b q h => (by cases h), by rw [List.drop_zero]; exact HD.out, Ext.refl _⟩
  case round =>
    obtain ⟨k, best, hk, rfl, rfl, hbest, hdec, e1⟩ := hrel
    have E1 := hid e1
    have HDC := hid hdec
    have HBE := hid hbest
    clear e1 hdec hbest
    by_cases hlt : k < pn
    · obtain ⟨r, hrk⟩ : ∃ r, rs[k]? = some r := ⟨rs[k]'(by rw [PA.out.hl]; exact hlt), by simp⟩
      obtain ⟨A, rfl, hca⟩ := (PA.out.ext E1.out).at hrk
      have HCA := hid hca
      have HOK := hid ((PA.out.ok r (List.mem_of_getElem? hrk)).ext E1.out)
      have HRL := hid (RuleR.len r)
      have HRK := hid hrk
      clear hca hrk
      have hro := ruleV_one r
      go_wp2_with (first | (refine wpl_run rfl (exec_index (i := k) rfl rfl rfl Tryz.underlying22 size_rule hlt _) ?_) | (refine wpl_run rfl (exec_load_at rfl rfl HCA.out agg_rule HRL.out) ?_) | (refine wpl_storew rfl _ (.tmp 9) _ rfl rfl rfl (Blk.mk_alloc (vs := zeroRule) rfl rfl) agg_rule rfl HRL.out hro ?_))
      intro wB bB uB
      have eB : Ext wr wB := uB.ext ((Ext.refl wr).alloc _) (Nat.le_refl _)
      have BB := hid bB
      have EB := hid (E1.out.ext eB)
      have HOB := hid (HOK.out.ext eB)
      have GB := hid (GA.out.ext EB.out)
      have QB := hid (QA.out.ext EB.out)
      clear bB uB eB HOK
      generalize wr.heap.size = gr at *
      go_wp2_with (first | (refine (always_c _ _).mono ?_; rintro e w4 ⟨rfl, rfl⟩) | (refine wpg_loadw rfl 50 (.tmp 9) rfl rfl BB.out agg_rule HRL.out ?_) | (refine wpg_loadw rfl 40 (.tmp 4) rfl rfl GB.out agg_ask HLEN.out ?_))
      refine (hme.out r wB HOB.out QB.out).mono ?_
      rintro e wC ⟨rfl, eC⟩
      have EC := hid (EB.out.ext eC)
      have BC := hid (BB.out.ext eC)
      clear eC BB EB HOB GB QB
      cases hm : meetsB r a with
      | false =>
        have HN := hid ((decF_no HRK.out hm).symm.trans HDC.out)
        clear hm HDC HRK
        go_wp2
        go_roundw
        case rel => exact ⟨k + 1, best, by omega, by go_num, rfl, HBE.out, HN.out, EC.out⟩
        case measure => simp [intOf]; omega
      | true =>
      have c9 := BC.out.cell' (i := 0) rfl
      cases hd : r.deny with
      | true =>
        have HN := hid ((decF_deny HRK.out hm hd).symm.trans HDC.out)
        have ZC := hid (ZA.out.ext EC.out)
        rw [hd] at c9
        have hbu := fun w => run_build (P := Tryz.prog) w 52 #[(1, .int .i64 (k : Int))] _ (built_dec1 (k : Int))
        clear hm HDC HRK
        clear hbu
        go_wp2_with (refine wpl_storew rfl _ (.tmp 6) _ rfl rfl rfl ZC.out agg_dec rfl (DecR.len (denyDec k)) (decV_one (denyDec k)) ?_)
        intro wD bD uD
        have ED := hid (uD.ext (EA.out.ext EC.out) (by omega))
        go_wp2_with fail
        exact ret_row rfl rfl bD agg_dec rfl rfl ⟨by rw [← HN.out]; rfl, ED.out⟩
      | false =>
        have HN := hid ((decF_yes HRK.out hm hd).symm.trans HDC.out)
        rw [hd] at c9
        clear hm HDC
        cases best with
        | none =>
          have hN := HN.out
          rw [show (if betterB r none then some (k, r) else none) = some (k, r) from rfl] at hN
          have HN2 := hid hN
          clear hN HN
          go_upto_region 8 with (fail)
          obtain ⟨C, hC⟩ : ∃ C : World → Prop, C = fun w' => Ext wC w' := ⟨_, rfl⟩
          have hC0 : ∀ w', C w' ↔ Ext wC w' := fun w' => by rw [hC]
          clear hC
          have HCC := hid hC0
          clear hC0
          have hCx : ∀ w w', C w → Ext w w' → C w' := fun w w' h1 h2 => (HCC.out w').2 (((HCC.out w).1 h1).ext h2)
          have hCA : C wC := (HCC.out _).2 (Ext.refl wC)
          have hneg : decide (bestI none < 0) = true := rfl
          refine wp_region_held_drew (S := C) (by kernel_rfl) (hCx _ _ hCA (Ext.refl _).drew) (fun hS0 => ?_)
          refine held_take 0 (v := ?tv1) rfl (by kernel_rfl) (by kernel_rfl) (by kernel_rfl) (fun _ _ _ h => h) (.inl ⟨rfl, ?ty1⟩) hS0 ?tr1
          case ty1 => (intro _ _; go_simp; try with_reducible rfl)
          case tr1 =>
          simp only [Act.put, List.setIfInBounds_toArray, List.set_cons_succ, List.set_cons_zero]
          refine held_take 1 (v := ?tv2) rfl (by kernel_rfl) (by kernel_rfl) (by kernel_rfl) (fun _ _ _ h => h) (.inl ⟨rfl, ?ty2⟩) hS0 ?tr2
          case ty2 => (intro _ _; go_simp; try with_reducible rfl)
          case tr2 =>
          simp only [Act.put, List.setIfInBounds_toArray, List.set_cons_succ, List.set_cons_zero]
          refine held_take 2 (v := ?tv3) rfl (by kernel_rfl) (by kernel_rfl) (by kernel_rfl) (fun _ _ _ h => h) (.inl ⟨rfl, ?ty3⟩) hS0 ?tr3
          case ty3 => (intro _ _; go_simp; try with_reducible rfl)
          case tr3 =>
          simp only [Act.put, List.setIfInBounds_toArray, List.set_cons_succ, List.set_cons_zero]
          refine held_take 3 (v := undef) rfl (by kernel_rfl) (by kernel_rfl) (by kernel_rfl) (fun _ _ _ h => h) (.inr ⟨rfl, rfl⟩) hS0 ?_
          simp only [Act.put, List.setIfInBounds_toArray, List.set_cons_succ, List.set_cons_zero]
          refine held_take 4 (v := undef) rfl (by kernel_rfl) (by kernel_rfl) (by kernel_rfl) (fun _ _ _ h => h) (.inr ⟨rfl, rfl⟩) hS0 ?_
          simp only [Act.put, List.setIfInBounds_toArray, List.set_cons_succ, List.set_cons_zero]
          refine held_take 5 (v := undef) rfl (by kernel_rfl) (by kernel_rfl) (by kernel_rfl) (fun _ _ _ h => h) (.inr ⟨rfl, rfl⟩) hS0 ?_
          simp only [Act.put, List.setIfInBounds_toArray, List.set_cons_succ, List.set_cons_zero]
          refine held_take 6 (v := undef) rfl (by kernel_rfl) (by kernel_rfl) (by kernel_rfl) (fun _ _ _ h => h) (.inr ⟨rfl, rfl⟩) hS0 ?_
          simp only [Act.put, List.setIfInBounds_toArray, List.set_cons_succ, List.set_cons_zero]
          refine held_take 7 (v := undef) rfl (by kernel_rfl) (by kernel_rfl) (by kernel_rfl) (fun _ _ _ h => h) (.inr ⟨rfl, rfl⟩) hS0 ?_
          simp only [Act.put, List.setIfInBounds_toArray, List.set_cons_succ, List.set_cons_zero]
          refine held_take 8 (v := undef) rfl (by kernel_rfl) (by kernel_rfl) (by kernel_rfl) (fun _ _ _ h => h) (.inr ⟨rfl, rfl⟩) hS0 ?_
          simp only [Act.put, List.setIfInBounds_toArray, List.set_cons_succ, List.set_cons_zero]
          refine held_take 9 (v := undef) rfl (by kernel_rfl) (by kernel_rfl) (by kernel_rfl) (fun _ _ _ h => h) (.inr ⟨rfl, rfl⟩) hS0 ?_
          simp only [Act.put, List.setIfInBounds_toArray, List.set_cons_succ, List.set_cons_zero]
          refine held_take 10 (v := undef) rfl (by kernel_rfl) (by kernel_rfl) (by kernel_rfl) (fun _ _ _ h => h) (.inr ⟨rfl, rfl⟩) hS0 ?_
          simp only [Act.put, List.setIfInBounds_toArray, List.set_cons_succ, List.set_cons_zero]
          refine held_take 11 (v := undef) rfl (by kernel_rfl) (by kernel_rfl) (by kernel_rfl) (fun _ _ _ h => h) (.inr ⟨rfl, rfl⟩) hS0 ?_
          simp only [Act.put, List.setIfInBounds_toArray, List.set_cons_succ, List.set_cons_zero]
          refine held_take 12 (v := ?tv4) rfl (by kernel_rfl) (by kernel_rfl) (by kernel_rfl) (fun _ _ _ h => h) (.inl ⟨rfl, ?ty4⟩) hS0 ?tr4
          case ty4 => (intro _ _; go_simp; try with_reducible rfl)
          case tr4 =>
          simp only [Act.put, List.setIfInBounds_toArray, List.set_cons_succ, List.set_cons_zero]
          refine wpAnyH_done (by kernel_rfl) ?_ _
          have E2 := hid (EC.out.ext ((HCC.out _).1 hS0))
          clear hS0 hCx hCA HCC
          go_wp2
          go_roundw
          case rel =>
            refine ⟨k + 1, some (k, r), by omega, by go_num, rfl, ?_, HN2.out, E2.out⟩
            intro b q hbq
            cases hbq
            exact ⟨hlt, HRK.out⟩
          case measure => simp [intOf]; omega
        | some bq =>
          obtain ⟨b, q⟩ := bq
          obtain ⟨hbn, hbq⟩ := HBE.out b q rfl
          obtain ⟨A2, hA2, hcq⟩ := PA.out.at hbq
          injection hA2 with hA2
          subst hA2
          have HCQ := hid hcq
          have HBQ := hid hbq
          have HPC := hid (BA.out.ext EC.out)
          clear hcq hbq
          go_upto_region 8 with (fail)
          obtain ⟨C, hC⟩ : ∃ C : World → Prop, C = fun w' => Ext wC w' := ⟨_, rfl⟩
          have hC0 : ∀ w', C w' ↔ Ext wC w' := fun w' => by rw [hC]
          clear hC
          have HCC := hid hC0
          clear hC0
          have hCx : ∀ w w', C w → Ext w w' → C w' := fun w w' h1 h2 => (HCC.out w').2 (((HCC.out w).1 h1).ext h2)
          have hCA : C wC := (HCC.out _).2 (Ext.refl wC)
          have hb0 : decide (((b : Nat) : Int) < 0) = false := decide_eq_false (by omega)
          have hbi : bestI (some (b, q)) = (b : Int) := rfl
          rw [hbi]
          have hc6 : ∀ w1, C w1 → w1.cell? ⟨gr, 6, none⟩ = some (.int .i64 r.nd) := fun w1 h1 => (BC.out.ext ((HCC.out w1).1 h1)).cell' (i := 6) rfl
          have hcp : ∀ w1, C w1 → w1.cell? ⟨w.heap.size, 0, none⟩ = some (.slice (some A) pn pc) := fun w1 h1 => (HPC.out.ext ((HCC.out w1).1 h1)).cell' (i := 0) rfl
          have hcz : ∀ w1, C w1 → w1.cell? ⟨(A.add (b * 8)).block, (A.add (b * 8)).off + 6, none⟩ = some (.int .i64 q.nd) := fun w1 h1 => field_at (HCQ.out.ext (EC.out.ext ((HCC.out w1).1 h1))) (j := 6) rfl
          refine wp_region_held_drew (S := C) (by kernel_rfl) (hCx _ _ hCA (Ext.refl _).drew) (fun hS0 => ?_)
          refine held_take 0 (v := ?tv5) rfl (by kernel_rfl) (by kernel_rfl) (by kernel_rfl) (fun _ _ _ h => h) (.inl ⟨rfl, ?ty5⟩) hS0 ?tr5
          case ty5 => (intro _ _; go_simp; try with_reducible rfl)
          case tr5 =>
          simp only [Act.put, List.setIfInBounds_toArray, List.set_cons_succ, List.set_cons_zero]
          refine held_take 1 (v := ?tv6) rfl (by kernel_rfl) (by kernel_rfl) (by kernel_rfl) (fun _ _ _ h => h) (.inl ⟨rfl, ?ty6⟩) hS0 ?tr6
          case ty6 => (intro _ _; go_simp; try with_reducible rfl)
          case tr6 =>
          simp only [Act.put, List.setIfInBounds_toArray, List.set_cons_succ, List.set_cons_zero]
          refine held_take 2 (v := ?tv7) rfl (by kernel_rfl) (by kernel_rfl) (by kernel_rfl) (fun _ _ _ h => h) (.inl ⟨rfl, ?ty7⟩) hS0 ?tr7
          case ty7 => (intro _ _; go_simp; try with_reducible rfl)
          case tr7 =>
          simp only [Act.put, List.setIfInBounds_toArray, List.set_cons_succ, List.set_cons_zero]
          refine held_take 3 (v := ?tv8) rfl (by kernel_rfl) (by kernel_rfl) (by kernel_rfl) (fun _ _ _ h => h) (.inl ⟨rfl, ?ty8⟩) hS0 ?tr8
          case ty8 => (intro _ _; go_simp; try with_reducible rfl)
          case tr8 =>
          simp only [Act.put, List.setIfInBounds_toArray, List.set_cons_succ, List.set_cons_zero]
          refine held_take 4 (v := ?tv9) rfl (by kernel_rfl) (by kernel_rfl) (by kernel_rfl) (fun _ _ _ h => h) (.inl ⟨rfl, ?ty9⟩) hS0 ?tr9
          case ty9 => (intro wq hwq; have hcq := (hc6) wq hwq; go_simp; try with_reducible rfl)
          case tr9 =>
          simp only [Act.put, List.setIfInBounds_toArray, List.set_cons_succ, List.set_cons_zero]
          refine held_take 5 (v := ?tv10) rfl (by kernel_rfl) (by kernel_rfl) (by kernel_rfl) (fun _ _ _ h => h) (.inl ⟨rfl, ?ty10⟩) hS0 ?tr10
          case ty10 => (intro _ _; go_simp; try with_reducible rfl)
          case tr10 =>
          simp only [Act.put, List.setIfInBounds_toArray, List.set_cons_succ, List.set_cons_zero]
          refine held_take 6 (v := ?tv11) rfl (by kernel_rfl) (by kernel_rfl) (by kernel_rfl) (fun _ _ _ h => h) (.inl ⟨rfl, ?ty11⟩) hS0 ?tr11
          case ty11 => (intro wq hwq; have hcq := (hcp) wq hwq; go_simp; try with_reducible rfl)
          case tr11 =>
          simp only [Act.put, List.setIfInBounds_toArray, List.set_cons_succ, List.set_cons_zero]
          refine held_take 7 (v := ?tv12) rfl (by kernel_rfl) (by kernel_rfl) (by kernel_rfl) (fun _ _ _ h => h) (.inl ⟨rfl, ?ty12⟩) hS0 ?tr12
          case ty12 => (intro _ _; go_simp; try with_reducible rfl)
          case tr12 =>
          simp only [Act.put, List.setIfInBounds_toArray, List.set_cons_succ, List.set_cons_zero]
          refine held_take 8 (v := _) rfl (by kernel_rfl) (by kernel_rfl) (by kernel_rfl) (fun _ _ _ h => h) (yieldsI_run rfl (fun w1 _ => exec_index (i := b) rfl rfl rfl Tryz.underlying22 size_rule hbn w1)) hS0 ?_
          simp only [Act.put, List.setIfInBounds_toArray, List.set_cons_succ, List.set_cons_zero]
          refine held_take 9 (v := ?tv13) rfl (by kernel_rfl) (by kernel_rfl) (by kernel_rfl) (fun _ _ _ h => h) (.inl ⟨rfl, ?ty13⟩) hS0 ?tr13
          case ty13 => (intro _ _; go_simp; try with_reducible rfl)
          case tr13 =>
          simp only [Act.put, List.setIfInBounds_toArray, List.set_cons_succ, List.set_cons_zero]
          refine held_take 10 (v := ?tv14) rfl (by kernel_rfl) (by kernel_rfl) (by kernel_rfl) (fun _ _ _ h => h) (.inl ⟨rfl, ?ty14⟩) hS0 ?tr14
          case ty14 => (intro wq hwq; have hcq := (hcz) wq hwq; go_simp; try with_reducible rfl)
          case tr14 =>
          simp only [Act.put, List.setIfInBounds_toArray, List.set_cons_succ, List.set_cons_zero]
          refine held_take 11 (v := ?tv15) rfl (by kernel_rfl) (by kernel_rfl) (by kernel_rfl) (fun _ _ _ h => h) (.inl ⟨rfl, ?ty15⟩) hS0 ?tr15
          case ty15 => (intro _ _; go_simp; try with_reducible rfl)
          case tr15 =>
          simp only [Act.put, List.setIfInBounds_toArray, List.set_cons_succ, List.set_cons_zero]
          refine held_take 12 (v := ?tv16) rfl (by kernel_rfl) (by kernel_rfl) (by kernel_rfl) (fun _ _ _ h => h) (.inl ⟨rfl, ?ty16⟩) hS0 ?tr16
          case ty16 => (intro _ _; go_simp; try with_reducible rfl)
          case tr16 =>
          simp only [Act.put, List.setIfInBounds_toArray, List.set_cons_succ, List.set_cons_zero]
          refine wpAnyH_done (by kernel_rfl) ?_ _
          have E2 := hid (EC.out.ext ((HCC.out _).1 hS0))
          clear hS0 hCx hCA HCC hc6 hcp hcz hb0
          have hN := HN.out
          by_cases hbt : r.nd < q.nd
          · have q1 : decide (r.nd < q.nd) = true := decide_eq_true hbt
            rw [show betterB r (some (b, q)) = true from q1, if_pos rfl] at hN
            have HN2 := hid hN
            have HRK2 := hid HRK.out
            clear hN HN
            go_wp2
            go_roundw
            case rel =>
              refine ⟨k + 1, some (k, r), by omega, by go_num, rfl, ?_, HN2.out, E2.out⟩
              intro b q hbq
              cases hbq
              exact ⟨hlt, HRK2.out⟩
            case measure => simp [intOf]; omega
          · have q1 : decide (r.nd < q.nd) = false := decide_eq_false hbt
            rw [show betterB r (some (b, q)) = false from q1] at hN
            simp only [Bool.false_eq_true, if_false] at hN
            have HN2 := hid hN
            clear hN HN
            go_wp2
            go_roundw
            case rel => exact ⟨k + 1, some (b, q), by omega, by go_num, by first | rfl | (simp [bestI]; done), HBE.out, HN2.out, E2.out⟩
            case measure => simp [intOf]; omega
    · obtain rfl : k = pn := by omega
      have HN := hid ((decF_end (by rw [PA.out.hl]; exact Nat.le_refl _)).symm.trans HDC.out)
      have ZC := hid (ZA.out.ext E1.out)
      cases best with
      | none =>
        have hneg : decide (bestI none < 0) = true := rfl
        go_wp2_with (refine wpl_storew rfl _ (.tmp 6) _ rfl rfl rfl ZC.out agg_dec rfl (DecR.len noneDec) (decV_one noneDec) ?_)
        intro wD bD uD
        have ED := hid (uD.ext (EA.out.ext E1.out) (by omega))
        go_wp2_with fail
        exact ret_row rfl rfl bD agg_dec rfl rfl ⟨by rw [← HN.out]; rfl, ED.out⟩
      | some bq =>
        obtain ⟨b, q⟩ := bq
        obtain ⟨hbn, hbq⟩ := HBE.out b q rfl
        obtain ⟨A, rfl, hcq⟩ := PA.out.at hbq
        have HCQ := hid (hcq.ext E1.out)
        have c0' := (BA.out.ext E1.out).cell' (i := 0) rfl
        have hbi : bestI (some (b, q)) = (b : Int) := rfl
        rw [hbi]
        have hb0 : decide (((b : Nat) : Int) < 0) = false := decide_eq_false (by omega)
        have HQL := hid (RuleR.len q)
        have hqo := ruleV_one q
        clear hcq hbq
        go_wp2_with (first | (refine wpl_run rfl (exec_index (i := b) rfl rfl rfl Tryz.underlying22 size_rule hbn _) ?_) | (refine wpl_run rfl (exec_load_at rfl rfl HCQ.out agg_rule HQL.out) ?_) | (refine wpl_storew rfl _ (.tmp 10) _ rfl rfl rfl (Blk.mk_alloc (vs := zeroRule) rfl rfl) agg_rule rfl HQL.out hqo ?_))
        intro wB bB uB
        have eB : Ext wr wB := uB.ext ((Ext.refl wr).alloc _) (Nat.le_refl _)
        have c6 := bB.cell' (i := 6) rfl
        have c7 := bB.cell' (i := 7) rfl
        have EB := hid (E1.out.ext eB)
        have ZB := hid (ZC.out.ext eB)
        clear bB uB eB c0'
        generalize wr.heap.size = gr at *
        go_wp2_with (refine wpl_storew rfl _ (.tmp 6) _ rfl rfl rfl ZB.out agg_dec rfl (DecR.len (bestDec (some (b, q)))) (decV_one (bestDec (some (b, q)))) ?_)
        intro wD bD uD
        have ED := hid (uD.ext (EA.out.ext EB.out) (by omega))
        go_wp2_with fail
        exact ret_row rfl rfl bD agg_dec rfl rfl ⟨by rw [← HN.out]; rfl, ED.out⟩
end

section
open Go Go.RowKit

theorem askE_time {a : AskR} (h : askE a = 0) : ∃ T : Nat, a.time = (T : Int) ∧ T ≤ 1099511627776 := by
  have h6 : j6 a = false := by
    cases hj : j6 a with
    | false => rfl
    | true =>
      exfalso
      unfold askE at h
      rw [hj] at h
      repeat' split at h
      all_goals (first | (revert h; decide) | contradiction)
  unfold j6 at h6
  simp only [Bool.or_eq_false_iff, decide_eq_false_iff_not] at h6
  obtain ⟨T, hT⟩ := Int.eq_ofNat_of_zero_le (show 0 ≤ a.time by omega)
  exact ⟨T, hT, by omega⟩
theorem ruleE_parts {r : RuleR} (h : ruleE r = 0) : k4 r = false ∧ k6 r = false := by
  constructor
  · cases hk : k4 r with
    | false => rfl
    | true =>
      exfalso
      unfold ruleE at h
      rw [hk] at h
      repeat' split at h
      all_goals (first | (revert h; decide) | contradiction)
  · cases hk : k6 r with
    | false => rfl
    | true =>
      exfalso
      unfold ruleE at h
      rw [hk] at h
      repeat' split at h
      all_goals (first | (revert h; decide) | contradiction)
theorem ruleE_labels {r : RuleR} (h : ruleE r = 0) : ∀ s ∈ r.labels, patL s.data.toList = true := by
  have h4 := (ruleE_parts h).1
  unfold k4 at h4
  rw [List.any_eq_false] at h4
  intro s hs
  have := h4 s hs
  unfold badP at this
  simpa using this
theorem ruleE_hours {r : RuleR} (h : ruleE r = 0) : r.fr = r.tt → r.fr = 0 := by
  have h6 := (ruleE_parts h).2
  unfold k6 at h6
  simp only [Bool.or_eq_false_iff, Bool.and_eq_false_iff, decide_eq_false_iff_not] at h6
  intro he
  rcases h6.1.2 with h | h
  · exact absurd he h
  · exact Decidable.not_not.1 h

noncomputable def pMeetsV (r : RuleR) (a : AskR) : Value := if ruleE r = 0 then (if askE a = 0 then .tuple #[.bool (meetsB r a), .int .i64 0] else .tuple #[.bool false, .int .i64 (askE a)]) else .tuple #[.bool false, .int .i64 (ruleE r)]

noncomputable def pDecD (rs : List RuleR) (pn : Nat) (a : AskR) : DecR := if polE rs pn = 0 then (if askE a = 0 then decideD a rs else zeroDec) else zeroDec
noncomputable def pDecE (rs : List RuleR) (pn : Nat) (a : AskR) : Int := if polE rs pn = 0 then askE a else polE rs pn
theorem built_dec0 : Tryz.prog.built 52 [] = some zeroDec.v.toArray := by kernel_rfl
end
end Go.Proofs.YthfddfgncolnbaaGreat
