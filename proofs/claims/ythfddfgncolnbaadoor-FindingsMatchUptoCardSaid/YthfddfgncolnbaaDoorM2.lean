/- Results that lie in memory, with others beside them; no condition. -/
import Derived.Test.YthfddfgncolnbaaDoorM
import Derived.Laws.ResultCell
namespace Go.Proofs.YthfddfgncolnbaaDoor
open Go Go.RowKit

theorem ret_row2 {P : Program} {fn : Func} {R : Ending → World → Prop} {a : Act} {w : World} {p u : Tmp} {ty : TypeId} {g : Nat} {vs : List Value} {T : TypeId}
    (hres : fn.results = #[.cell p ty, .tmp u]) (hp : a.tmps.getD p undef = .pointer (some ⟨g, 0, none⟩)) (hb : Blk w g vs T)
    {n : Nat} (ht : AggT P ty n) (hn : vs.length = n)
    (hdef : a.defers = []) (hR : R (.returned (.tuple #[.agg vs.toArray, a.tmps.getD u undef])) w) : bodyPost P fn R .ret a w := by
  have h1 := run_load_sub (P := P) (off := 0) hb ht (by omega)
  have h2 : (vs.drop 0).take n = vs := by simp [← hn]
  rw [h2] at h1
  refine bodyPost_ret ?_ hdef hR
  rw [results_cell_tmp hres, hp]
  simp [asAddr, h1]

theorem ret_row3 {P : Program} {fn : Func} {R : Ending → World → Prop} {a : Act} {w : World} {p u q : Tmp} {ty : TypeId} {g : Nat} {vs : List Value} {T : TypeId}
    (hres : fn.results = #[.cell p ty, .tmp u, .tmp q]) (hp : a.tmps.getD p undef = .pointer (some ⟨g, 0, none⟩)) (hb : Blk w g vs T)
    {n : Nat} (ht : AggT P ty n) (hn : vs.length = n)
    (hdef : a.defers = []) (hR : R (.returned (.tuple #[.agg vs.toArray, a.tmps.getD u undef, a.tmps.getD q undef])) w) : bodyPost P fn R .ret a w := by
  have h1 := run_load_sub (P := P) (off := 0) hb ht (by omega)
  have h2 : (vs.drop 0).take n = vs := by simp [← hn]
  rw [h2] at h1
  refine bodyPost_ret (v := .tuple #[.agg vs.toArray, a.tmps.getD u undef, a.tmps.getD q undef]) ?_ hdef hR
  simp only [Array.getD_eq_getD_getElem?] at hp
  simp [results, hres, hp, asAddr, h1]

end Go.Proofs.YthfddfgncolnbaaDoor
