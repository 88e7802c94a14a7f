/- A reading of a struct of four ints is opened; no condition. -/
import Derived.Test.YthfddfgncolnbaaDoorI3
import Derived.OpenShut
import Derived.ChangeArms
import Derived.ChangeMaps5
import Derived.Deep.DeepHandedRow
namespace Go.Proofs.YthfddfgncolnbaaDoor
open Go Go.RowKit Go.ChangeShapes Go.WideShapes Go.ChangeAt

theorem wf_i64 {z : Int} (h : (Lit.int .i64 z).wf = true) : -9223372036854775808 ≤ z ∧ z ≤ 9223372036854775807 := by
  simp only [Lit.wf, Bool.and_eq_true, decide_eq_true_eq] at h
  have h3 : IntKind.i64.max = 9223372036854775807 := by decide
  have h4 : IntKind.i64.min = -9223372036854775808 := by decide
  rw [h3, h4] at h
  exact h
section
variable {H : Type} {enc : TypeId × Value → H} {P : Program} {w : World}
theorem open_find {r : Reach} {b0 base : Nat} {held : Bool} {t : TypeId} {f0 f1 f2 f3 : Field} {v : Value} {d : DataW H} {ps : List MemPlace} (ht : P.underlying t = some (.struct #[f0, f1, f2, f3])) (h0 : P.underlying f0.type = some (.int .i64)) (h1 : P.underlying f1.type = some (.int .i64))
    (h2 : P.underlying f2.type = some (.int .i64)) (h3 : P.underlying f3.type = some (.int .i64)) (c0 : P.cellsOf f0.type = 1) (c1 : P.cellsOf f1.type = 1) (c2 : P.cellsOf f2.type = 1) (c3 : P.cellsOf f3.type = 1) (ct : P.cellsOf t = 4)
    (o0 : f0.offset = 0) (o1 : f1.offset = 1) (o2 : f2.offset = 2) (o3 : f3.offset = 3)
    (hval : Value.okWide P w r b0 t v) (hd : DataW.Trod enc P w base (fun _ => true) held t v d ps) :
    ∃ f : FindR, v = fv f ∧ FindB f := by
  obtain ⟨cs, rfl, hs⟩ := okWide_struct ht hval
  obtain ⟨fuel, hf⟩ := hd
  obtain ⟨xs, m, _, _, hl, hlen, hfs⟩ := DataW.trod_struct ht hf
  match xs, hlen with
  | [y0, y1, y2, y3], _ =>
  have g0 : DataW.trod enc P w base (fun _ => true) held m f0.type (((Value.agg cs).cells.toList.drop f0.offset).take (P.cellsOf f0.type)) = some y0 := by simpa using hfs 0 f0 rfl
  have g1 : DataW.trod enc P w base (fun _ => true) held m f1.type (((Value.agg cs).cells.toList.drop f1.offset).take (P.cellsOf f1.type)) = some y1 := by simpa using hfs 1 f1 rfl
  have g2 : DataW.trod enc P w base (fun _ => true) held m f2.type (((Value.agg cs).cells.toList.drop f2.offset).take (P.cellsOf f2.type)) = some y2 := by simpa using hfs 2 f2 rfl
  have g3 : DataW.trod enc P w base (fun _ => true) held m f3.type (((Value.agg cs).cells.toList.drop f3.offset).take (P.cellsOf f3.type)) = some y3 := by simpa using hfs 3 f3 rfl
  rw [c0, o0] at g0
  rw [c1, o1] at g1
  rw [c2, o2] at g2
  rw [c3, o3] at g3
  obtain ⟨A, hA, _, w0⟩ := DataW.trod_int h0 g0
  obtain ⟨B, hB, _, w1⟩ := DataW.trod_int h1 g1
  obtain ⟨C, hC, _, w2⟩ := DataW.trod_int h2 g2
  obtain ⟨D, hD, _, w3⟩ := DataW.trod_int h3 g3
  refine ⟨⟨A, B, C, D⟩, ?_, ⟨(wf_i64 w1).1, (wf_i64 w1).2, (wf_i64 w2).1, (wf_i64 w2).2, (wf_i64 w3).1, (wf_i64 w3).2⟩⟩
  have e0 : (Value.agg cs).cells.toList = cs.toList := rfl
  rw [e0] at hA hB hC hD hl
  rw [ct] at hl
  have hcs : cs.toList = [.int .i64 A, .int .i64 B, .int .i64 C, .int .i64 D] := by
    have s1 : cs.toList = cs.toList.take 1 ++ (cs.toList.drop 1).take 1 ++ (cs.toList.drop 2).take 1 ++ (cs.toList.drop 3).take 1 := by
      have e : ∀ p q : Nat, cs.toList.take p ++ (cs.toList.drop p).take q = cs.toList.take (p + q) := fun p q => List.take_add.symm
      rw [e 1 1, e 2 1, e 3 1, List.take_of_length_le (by omega)]
    rw [List.drop_zero] at hA
    rw [s1, hA, hB, hC, hD]; rfl
  have : cs = cs.toList.toArray := by simp
  rw [this, hcs]; rfl
end
end Go.Proofs.YthfddfgncolnbaaDoor
