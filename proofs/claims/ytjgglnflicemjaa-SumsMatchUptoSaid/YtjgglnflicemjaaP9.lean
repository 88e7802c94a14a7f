/- append(s, make([]byte, k)...) onto a row of one's own; conditions: the lengths. -/
import Derived.Test.YtjgglnflicemjaaP8
namespace Go.Proofs.Ytjgglnflicemjaa
open Go Go.RowKit

theorem zeroCells_u8 (k : Nat) : Builtin.zeroCells (Value.int .u8 0).cells k = (List.replicate k (Value.int .u8 0)).toArray := by
  have e : (Value.int .u8 0).cells = #[.int .u8 0] := rfl
  apply Array.ext
  · simp [Builtin.zeroCells, e]
  · intro i h1 h2
    simp [Builtin.zeroCells, e, Nat.mod_one]

theorem run_append_zeros_own (w : World) (base : Nat) (ty : TypeId) (v : Value) (n : Nat) (xs : List Value) (hown : w.ownsRow base 5 1 v n xs) (k : Nat) (hk : 0 < k)
    (hb : n + k ≤ 140737488355328) (hbase : base ≤ w.heap.size) :
    ∃ v' w', (Builtin.append_ #[26, 3] ty #[v, .int .i64 (k : Int)]).run Try.prog w = .ok v' w' ∧ w'.ownsRow base 5 1 v' (n + k) (xs ++ List.replicate k (.int .u8 0)) ∧ w.grownBy w' v.ownBlock := by
  obtain ⟨i0, hi, hz, hs, hb1⟩ := info_parts info_u8
  have hl1 := hown.1
  have hlen : (xs ++ List.replicate k (Value.int .u8 0)).length = (n + k) * 1 := by rw [List.length_append, List.length_replicate, hl1]; omega
  have grown : ∀ (old : Nat), old < n + k → ∀ (row : Option Nat),
      (w.drew.alloc (.cells (xs.toArray ++ Builtin.zeroCells (Value.int .u8 0).cells k ++ Builtin.zeroCells (Value.int .u8 0).cells (grownCap w (n + k) old 5 - (n + k))) 5)).ownsRow base 5 1
        (.slice (some ⟨w.heap.size, 0, none⟩) (n + k) (grownCap w (n + k) old 5)) (n + k) (xs ++ List.replicate k (.int .u8 0)) ∧
      w.grownBy (w.drew.alloc (.cells (xs.toArray ++ Builtin.zeroCells (Value.int .u8 0).cells k ++ Builtin.zeroCells (Value.int .u8 0).cells (grownCap w (n + k) old 5 - (n + k))) 5)) row := by
    intro old ho row
    have hge := grownCap_ge w (n + k) old 5
    have hcm : grownCap w (n + k) old 5 ≤ maxLen := grownCap_le_maxLen w (n + k) old 5 (by unfold maxLen; omega)
    refine ⟨⟨hlen, .inr ⟨w.heap.size, _, _, rfl, hbase, heap_alloc_new w.drew _, hge, hcm, ?_, ?_⟩⟩, ⟨rfl, rfl, rfl, by simp, fun j hj _ => heap_alloc_old w.drew _ hj⟩⟩
    · simp only [Array.size_append, List.size_toArray, zeroCells_u8, List.length_replicate, hl1]; omega
    · simp only [Array.toList_append, zeroCells_u8, List.append_assoc]
      rw [← List.append_assoc, ← hlen]
      exact List.take_left
  rcases hown.2 with ⟨rfl, rfl⟩ | ⟨g, cap, cur, rfl, hbg, hg, hnc, hcm, hcs, htake⟩
  · have hx : xs = [] := List.eq_nil_of_length_eq_zero (by simpa using hl1)
    subst hx
    have hr := Lib.run_append_nil_zeros (P := Try.prog) w 26 3 ty 5 i0 (.int .u8 0) .i64 .i64 Try.underlying26 Try.underlying3 hi hz k hk (by omega) (by omega) (by rw [hb1]; omega)
    have hgr := grown 0 (by omega) (Value.ownBlock (.slice none 0 0))
    simp only [Nat.zero_add, Array.empty_append] at hgr hr ⊢
    exact ⟨_, _, hr, by simpa using hgr.1, by simpa using hgr.2⟩
  · by_cases hroom : n + k ≤ cap
    · have hfit : n * 1 + (List.replicate k (Value.int .u8 0)).length ≤ cur.size := by rw [List.length_replicate, hcs]; omega
      have hst := run_storeCells_at Try.prog g (n * 1) 5 (List.replicate k (Value.int .u8 0)) 0 cur w hg (by simpa using hfit) (by intro u hu; simp at hu; rw [hu.2]; rfl)
      have hw : IntKind.i64.wrap (k : Int) = k := by rw [IntKind.wrap_i64]; omega
      have h48i : ¬ (281474976710656 < (k : Int) * (i0.bytes : Int)) := by rw [hb1]; omega
      have hns : ¬ (k * i0.size = 0) := by rw [hs]; omega
      have hneg : ¬ ((k : Int) < 0) := by omega
      have hk0 : k ≠ 0 := by omega
      simp only [Nat.add_zero] at hst
      have hr : (Builtin.append_ #[26, 3] ty #[.slice (some ⟨g, 0, none⟩) n cap, .int .i64 (k : Int)]).run Try.prog w =
          .ok (.slice (some ⟨g, 0, none⟩) (n + k) cap) (w.setRow g (cur.toList.take (n * 1) ++ List.replicate k (Value.int .u8 0) ++ cur.toList.drop (n * 1 + (List.replicate k (Value.int .u8 0)).length)).toArray) := by
        simp [Builtin.append_, run_underlying Try.underlying26, run_underlying Try.underlying3, sizeOf, typeInfo, zeroValue, hi, hz, asInt, asIntOf, hw, hneg, h48i, hns, hroom, zeroCells_u8, hk0, hs, Addr.add_lit]
        simp at hst
        simp [hst]
      refine ⟨_, _, hr, ⟨hlen, .inr ⟨g, cap, _, rfl, hbg, setRow_heap w g cur _ _ _ hg, hroom, hcm, ?_, ?_⟩⟩, ⟨rfl, rfl, rfl, by simp, fun j _ hj => setRow_other w g j _ (fun e => hj (by simp [Value.ownBlock, e]))⟩⟩
      · simp only [List.size_toArray, List.length_append, List.length_take, List.length_drop, Array.length_toList, List.length_replicate]
        omega
      · rw [htake, ← hlen]
        exact List.take_left
    · have holds : ∀ j u, xs[j]? = some u → w.cell? ((⟨g, 0, none⟩ : Addr).add j) = some u := hown.cells (g := g) rfl
      have hold : (Builtin.firstCells i0.size n (.slice (some ⟨g, 0, none⟩) n cap)).run Try.prog w.drew = .ok xs.toArray w.drew := run_firstCells_some (P := Try.prog) w.drew i0.size n ⟨g, 0, none⟩ n cap xs (by rw [hs]; exact hl1) holds
      have hr := Lib.run_append_grow_zeros (P := Try.prog) w 26 3 ty 5 i0 (.int .u8 0) .i64 .i64 Try.underlying26 Try.underlying3 hi hz (some ⟨g, 0, none⟩) n cap xs hold k hk (by omega) (by omega) (by omega) (by rw [hb1]; omega) (growslice_fits (by omega) (by rw [hb1]; omega))
      have hgr := grown cap (by omega) (Value.ownBlock (.slice (some ⟨g, 0, none⟩) n cap))
      exact ⟨_, _, hr, hgr.1, hgr.2⟩

theorem wpl_append_zeros {ops : Array Oper} {rest : List Oper} {o : Oper} {a : Act} {w : World} {Q : Exit → Act → World → Prop} (hgd : o.guard = none) (s x : Operand)
    (ho : o.op = .call { callee := .builtin .append, args := #[s, x], argTypes := #[26, 3] }) (base : Nat) {v : Value} {n : Nat} {xs : List Value} {k : Nat}
    (hs : a.eval s = v) (hx : a.eval x = .int .i64 (k : Int)) (hown : w.ownsRow base 5 1 v n xs) (hk : 0 < k) (hb : n + k ≤ 140737488355328) (hbase : base ≤ w.heap.size)
    (h : ∀ v' w', w'.ownsRow base 5 1 v' (n + k) (xs ++ List.replicate k (.int .u8 0)) → w.grownBy w' v.ownBlock → wpList Try.prog ops Q rest (a.put o.dst v') w') : wpList Try.prog ops Q (o :: rest) a w := by
  obtain ⟨v', w', hr, h1, h2⟩ := run_append_zeros_own w base o.type v n xs hown k hk hb hbase
  exact Lib.wpList_append_run w hgd s x _ _ ho v _ hs hx v' w' hr (h v' w' h1 h2)

/-- append onto a row of one's own: octets -/
theorem wpl_append8 {ops : Array Oper} {rest : List Oper} {o : Oper} {a : Act} {w : World} {Q : Exit → Act → World → Prop} (hgd : o.guard = none) (s x : Operand)
    (ho : o.op = .call { callee := .builtin .append, args := #[s, x], argTypes := #[26, 26] }) (base : Nat) {v : Value} {n m c : Nat} {xs ys : List UInt8} {ad : Option Addr}
    (hs : a.eval s = v) (hx : a.eval x = .slice ad m c) (hown : w.ownsRow base 5 1 v n (xs.map u8v)) (hm : ys.length = m) (had : ad = none → m = 0 ∧ c = 0) (hc : Cells w ad (ys.map u8v))
    (hb : n + m ≤ 140737488355328) (hbase : base ≤ w.heap.size)
    (h : ∀ v' w', w'.ownsRow base 5 1 v' (n + m) ((xs ++ ys).map u8v) → w.grownBy w' v.ownBlock → wpList Try.prog ops Q rest (a.put o.dst v') w') : wpList Try.prog ops Q (o :: rest) a w := by
  obtain ⟨i0, hi, hz, hsz, hb1⟩ := info_parts info_u8
  cases ad with
  | none =>
    obtain ⟨rfl, rfl⟩ := had rfl
    have hy : ys = [] := List.length_eq_zero_iff.1 hm
    subst hy
    have h' := h v w (by simpa using hown) (grown_refl w _)
    exact wpList_append_own_none hgd s x 26 ho base 5 i0 1 Try.underlying26 hi v n (xs.map u8v) hs hown hx h'
  | some y =>
    exact wpList_append_own w hgd s x 26 ho base 5 i0 (.int .u8 0) 1 1 Try.underlying26 hi hz hsz hb1 rfl (by decide) v n (xs.map u8v) hs hown y m c (ys.map u8v) hx
      (by rw [List.length_map, hm, Nat.mul_one]) (news_cells hc) (one_u8 _) (by unfold maxLen; omega) (by omega) hbase (fun v' w' h1 h2 _ => h v' w' (by rw [List.map_append]; exact h1) h2)

theorem own_block_ge {w : World} {B : Nat} {e : TypeId} {size n : Nat} {v : Value} {xs : List Value} (h : w.ownsRow B e size v n xs) : ∀ g, v.ownBlock = some g → B ≤ g := by
  intro g hg
  rcases h.2 with ⟨rfl, _⟩ | ⟨g', cap, cur, rfl, hb, _⟩
  · cases hg
  · simp [Value.ownBlock] at hg; omega
end Go.Proofs.Ytjgglnflicemjaa
