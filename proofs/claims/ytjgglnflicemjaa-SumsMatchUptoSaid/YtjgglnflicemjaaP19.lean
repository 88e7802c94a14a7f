/- Appends of which the row's block is told; conditions: the lengths. -/
import Derived.Test.YtjgglnflicemjaaP18
import Derived.Test.YtjgglnflicemjaaQ3
namespace Go.Proofs.Ytjgglnflicemjaa
open Go Go.RowKit

theorem ok_block {r : Result Value} {v v' : Value} {w w' : World} {x : Option Nat} (h1 : r = .ok v w) (h2 : r = .ok v' w') (hv : v.ownBlock = x) : v'.ownBlock = x := by
  rw [h1] at h2
  injection h2 with e1 e2
  rw [← e1, hv]

theorem append8_block (w : World) (B : Nat) (ty : TypeId) {v : Value} {n m c : Nat} {xs ys : List UInt8} {y : Addr} (hown : w.ownsRow B 5 1 v n (xs.map u8v)) (hm : ys.length = m) (hc : Cells w (some y) (ys.map u8v))
    (hb : n + m ≤ 140737488355328) (hbase : B ≤ w.heap.size) :
    ∃ v' w', (Builtin.append_ #[26, 26] ty #[v, .slice (some y) m c]).run Try.prog w = .ok v' w' ∧ w'.ownsRow B 5 1 v' (n + m) ((xs ++ ys).map u8v) ∧ w.grownBy w' v.ownBlock ∧
      (v'.ownBlock = v.ownBlock ∨ v'.ownBlock = some w.heap.size) := by
  obtain ⟨i0, hi, hz, hsz, hb1⟩ := info_parts info_u8
  have hl : (ys.map u8v).length = m * 1 := by rw [List.length_map, hm, Nat.mul_one]
  have hl' : (ys.map u8v).length = m * i0.size := by rw [hsz]; exact hl
  obtain ⟨v', w', hr, h1, h2, h3⟩ := run_append_own (P := Try.prog) w B 26 ty 5 i0 (.int .u8 0) 1 1 Try.underlying26 hi hz hsz hb1 rfl (by decide) v n (xs.map u8v) hown y m c (ys.map u8v) hl (news_cells hc) (one_u8 _) (by unfold maxLen; omega) (by omega) hbase
  refine ⟨v', w', hr, by rw [List.map_append]; exact h1, h2, ?_⟩
  rcases hown.2 with ⟨rfl, rfl⟩ | ⟨g, cap, cur, rfl, hbg, hg, hnc, hcm, hcs, htake⟩
  · by_cases hm0 : m = 0
    · left
      rw [h3.2 ⟨rfl, hm0⟩]
    · right
      have hr2 := run_append_nil (P := Try.prog) w 26 ty 5 i0 (.int .u8 0) Try.underlying26 hi hz y m c (ys.map u8v) hl' (news_cells hc) (by omega) (by omega) (by rw [hb1]; omega)
      exact ok_block hr2 hr rfl
  · by_cases hroom : n + m ≤ cap
    · left
      obtain ⟨w2, hr2, _⟩ := run_append_fits (P := Try.prog) w B 26 ty 5 i0 1 Try.underlying26 hi hsz g n cap (xs.map u8v) hown y m c (ys.map u8v) hl (news_cells hc) (one_u8 _) hroom
      exact ok_block hr2 hr rfl
    · right
      have hr2 := run_append_grow (P := Try.prog) w 26 ty 5 i0 (.int .u8 0) Try.underlying26 hi hz ⟨g, 0, none⟩ n cap (xs.map u8v) (by rw [hsz]; exact hown.1) (hown.cells (g := g) rfl) y m c (ys.map u8v) hl' (news_cells hc) (by omega) (by omega) (growslice_fits (by omega) (by rw [hb1]; omega))
      exact ok_block hr2 hr rfl

section
variable {ops : Array Oper} {rest : List Oper} {o : Oper} {a : Act} {w : World} {Q : Exit → Act → World → Prop}
/-- append onto a row of one's own, whether behind a guard or not -/
theorem wpg_append8 (hw : Region.wanted o (yielded ops a.tmps) = true) (s x : Operand)
    (ho : o.op = .call { callee := .builtin .append, args := #[s, x], argTypes := #[26, 26] }) (base : Nat) {v : Value} {n m c : Nat} {xs ys : List UInt8} {ad : Option Addr}
    (hs : a.eval s = v) (hx : a.eval x = .slice ad m c) (hown : w.ownsRow base 5 1 v n (xs.map u8v)) (hm : ys.length = m) (had : ad = none → m = 0 ∧ c = 0) (hc : Cells w ad (ys.map u8v))
    (hb : n + m ≤ 140737488355328) (hbase : base ≤ w.heap.size)
    (h : ∀ v' w', w'.ownsRow base 5 1 v' (n + m) ((xs ++ ys).map u8v) → w.grownBy w' v.ownBlock → (v'.ownBlock = v.ownBlock ∨ v'.ownBlock = some w.heap.size) → wpList Try.prog ops Q rest (a.put o.dst v') w') : wpList Try.prog ops Q (o :: rest) a w := by
  obtain ⟨i0, hi, hz, hsz, hb1⟩ := info_parts info_u8
  refine wpList_want hw fun K hK => ?_
  cases ad with
  | none =>
    obtain ⟨rfl, rfl⟩ := had rfl
    have hy : ys = [] := List.length_eq_zero_iff.1 hm
    subst hy
    have h' := h v w (by simpa using hown) (grown_refl w _) (.inl rfl)
    have hrun := run_append_owned_none (P := Try.prog) (w := w) base 26 o.type 5 i0 1 Try.underlying26 hi v n (xs.map u8v) hown
    unfold Oper.wp
    simp [execOp, ho, resolve, invoke, builtin, hs, hx, hrun, Result.andThen]
    exact hK _ _ h'
  | some y =>
    obtain ⟨v', w', hr, h1, h2, h3⟩ := append8_block w base o.type (c := c) hown hm hc hb hbase
    exact Lib.wp_append_run w s x _ _ ho v _ hs hx v' w' hr (hK _ _ (h v' w' h1 h2 h3))
end
end Go.Proofs.Ytjgglnflicemjaa
