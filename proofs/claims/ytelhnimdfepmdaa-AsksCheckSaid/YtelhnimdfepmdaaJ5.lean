/- Contracts and laws that the claim's row leans on (1 texts, joined): Readings of asks, of lists of rules, and of both as arguments, are opened; no condition. -/
import Derived.Test.YtelhnimdfepmdaaJ4
namespace Go.Proofs.Ytelhnimdfepmdaa
section
open Go Go.RowKit Go.ChangeShapes Go.WideShapes Go.ChangeAt Go.Deep

section
variable {H : Type} {enc : TypeId × Value → H} {w : World}
set_option maxRecDepth 100000 in
theorem ask_of_trod {base f : Nat} {held : Bool} {cs : List Value} {x : DataW H × List MemPlace} (hf : DataW.trod enc Try.prog w base (fun _ => true) held f 42 cs = some x) (hw : ∀ n ∈ x.1.weights Try.prog 42, n ≤ reachBytes) :
    ∃ a : AskR, cs = a.v ∧ a.Ok w := by
  have ht := Try.underlying42
  obtain ⟨xs, m, _, rfl, hl, hlen, hfs⟩ := DataW.trod_struct ht hf
  have ct : Try.prog.cellsOf 42 = 68 := by kernel_rfl
  have c29 : Try.prog.cellsOf 29 = 16 := by kernel_rfl
  have c40 : Try.prog.cellsOf 40 = 32 := by kernel_rfl
  have c39 : Try.prog.cellsOf 39 = 1 := by kernel_rfl
  have c3 : Try.prog.cellsOf 3 = 1 := by kernel_rfl
  have c5 : Try.prog.cellsOf 5 = 1 := by kernel_rfl
  have c9 : Try.prog.cellsOf 9 = 1 := by kernel_rfl
  rw [ct] at hl
  match xs, hlen with
  | [y0, y1, y2, y3, y4, y5, y6], _ =>
  have g0 : DataW.trod enc Try.prog w base (fun _ => true) held m 29 ((cs.drop 0).take 16) = some y0 := by rw [← c29]; exact hfs 0 _ rfl
  have g1 : DataW.trod enc Try.prog w base (fun _ => true) held m 39 ((cs.drop 16).take 1) = some y1 := by rw [← c39]; exact hfs 1 _ rfl
  have g2 : DataW.trod enc Try.prog w base (fun _ => true) held m 3 ((cs.drop 17).take 1) = some y2 := by rw [← c3]; exact hfs 2 _ rfl
  have g3 : DataW.trod enc Try.prog w base (fun _ => true) held m 9 ((cs.drop 18).take 1) = some y3 := by rw [← c9]; exact hfs 3 _ rfl
  have g4 : DataW.trod enc Try.prog w base (fun _ => true) held m 29 ((cs.drop 19).take 16) = some y4 := by rw [← c29]; exact hfs 4 _ rfl
  have g5 : DataW.trod enc Try.prog w base (fun _ => true) held m 3 ((cs.drop 35).take 1) = some y5 := by rw [← c3]; exact hfs 5 _ rfl
  have g6 : DataW.trod enc Try.prog w base (fun _ => true) held m 40 ((cs.drop 36).take 32) = some y6 := by rw [← c40]; exact hfs 6 _ rfl
  have w1 := weights_part ht hw (i := 1) rfl rfl
  have w3 := weights_part ht hw (i := 3) rfl rfl
  obtain ⟨l0, hl0, h0⟩ := octets_of_trod Try.underlying29 Try.underlying5 c5 c29 g0
  obtain ⟨a1, n1, c1, l1, h1, p1, p2, p3, p4, p5⟩ := strs_of_trod Try.underlying39 Try.underlying9 c9 (by kernel_rfl) g1 w1
  obtain ⟨z2, h2, _, _⟩ := DataW.trod_int Try.underlying3 g2
  obtain ⟨s3, h3, hx3, _⟩ := DataW.trod_string Try.underlying9 g3
  obtain ⟨l4, hl4, h4⟩ := octets_of_trod Try.underlying29 Try.underlying5 c5 c29 g4
  obtain ⟨z5, h5, _, _⟩ := DataW.trod_int Try.underlying3 g5
  obtain ⟨l6, hl6, h6⟩ := octets_of_trod Try.underlying40 Try.underlying5 c5 c40 g6
  have hs3 : s3.size ≤ 140737488355328 := by
    have := w3 s3.data.toList.length (by rw [hx3]; simp [DataW.weights])
    rw [Array.length_toList, reach_is] at this
    have e : s3.size = s3.data.size := rfl
    omega
  refine ⟨⟨l0, a1, n1, c1, l1, z2, s3, l4, z5, l6⟩, ?_, ⟨hl0, hl4, hl6, p1, p2, p3, p4, p5, hs3⟩⟩
  unfold AskR.v
  have e : ∀ p q : Nat, cs.take p ++ (cs.drop p).take q = cs.take (p + q) := fun p q => List.take_add.symm
  have s1 : cs = cs.take 16 ++ (cs.drop 16).take 1 ++ (cs.drop 17).take 1 ++ (cs.drop 18).take 1 ++ (cs.drop 19).take 16 ++ (cs.drop 35).take 1 ++ (cs.drop 36).take 32 := by
    rw [e 16 1, e 17 1, e 18 1, e 19 16, e 35 1, e 36 32, List.take_of_length_le (by omega)]
  rw [List.drop_zero] at h0
  rw [s1, h0, h1, h2, h3, h4, h5, h6]
  simp

set_option maxRecDepth 100000 in
theorem open_rule {r : Reach} {b0 base : Nat} {held : Bool} {v : Value} {d : DataW H} {ps : List MemPlace} {ts : List TypeId} {ds : List (DataW H)} {j : Nat} (hsz : (DataW.weightsEach Try.prog ts ds).all (· ≤ reachBytes) = true)
    (hval : Value.okWide Try.prog w r b0 50 v) (hd : DataW.Trod enc Try.prog w base (fun _ => true) held 50 v d ps) (htj : ts[j]? = some 50) (hdj : ds[j]? = some d) : ∃ q : RuleR, v = .agg q.v.toArray ∧ q.Ok w := by
  have hw := fun n hn => of_decide_eq_true (List.all_eq_true.1 hsz n (DataW.weights_mem_each htj hdj n hn))
  obtain ⟨cs, rfl, hs⟩ := okWide_struct Try.underlying50 hval
  obtain ⟨fuel, hf⟩ := hd
  obtain ⟨q, hq, hok⟩ := rule_of_trod hf hw
  exact ⟨q, by rw [← hq]; rfl, hok⟩
set_option maxRecDepth 100000 in
theorem open_ask {r : Reach} {b0 base : Nat} {held : Bool} {v : Value} {d : DataW H} {ps : List MemPlace} {ts : List TypeId} {ds : List (DataW H)} {j : Nat} (hsz : (DataW.weightsEach Try.prog ts ds).all (· ≤ reachBytes) = true)
    (hval : Value.okWide Try.prog w r b0 42 v) (hd : DataW.Trod enc Try.prog w base (fun _ => true) held 42 v d ps) (htj : ts[j]? = some 42) (hdj : ds[j]? = some d) : ∃ q : AskR, v = .agg q.v.toArray ∧ q.Ok w := by
  have hw := fun n hn => of_decide_eq_true (List.all_eq_true.1 hsz n (DataW.weights_mem_each htj hdj n hn))
  obtain ⟨cs, rfl, hs⟩ := okWide_struct Try.underlying42 hval
  obtain ⟨fuel, hf⟩ := hd
  obtain ⟨q, hq, hok⟩ := ask_of_trod hf hw
  exact ⟨q, by rw [← hq]; rfl, hok⟩
end
end
end Go.Proofs.Ytelhnimdfepmdaa
