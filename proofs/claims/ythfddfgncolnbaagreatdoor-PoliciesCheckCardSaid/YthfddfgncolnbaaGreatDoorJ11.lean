/- Contracts and laws that the claim's row leans on (1 texts, joined): Readings of policies and approvals are opened; no condition. -/
import Derived.Test.YthfddfgncolnbaaGreatDoorJ10
namespace Go.Proofs.YthfddfgncolnbaaGreatDoor
section
open Go Go.RowKit Go.ChangeShapes Go.WideShapes Go.ChangeAt Go.Deep

instance : Inhabited RuleR := ⟨⟨false, none, 0, 0, [], none, 0, 0, [], none, 0, 0, [], 0, 0, 0, ⟨#[]⟩⟩⟩
instance : Inhabited ApprR := ⟨⟨[], none, 0, 0, []⟩⟩
theorem flatV_length {z : Nat} {V : Nat → List Value} : ∀ len, (∀ i, i < len → (V i).length = z) → ((List.range len).flatMap V).length = len * z
  | 0, _ => by simp
  | len + 1, h => by
    rw [List.range_succ, List.flatMap_append, List.length_append, flatV_length len (fun i hi => h i (by omega))]
    simp [h len (by omega), Nat.add_mul]
theorem flatV_get {z : Nat} {V : Nat → List Value} : ∀ len, (∀ i, i < len → (V i).length = z) → ∀ i r, i < len → r < z → ((List.range len).flatMap V)[i * z + r]? = (V i)[r]?
  | 0, _, i, r, hi, _ => by omega
  | len + 1, h, i, r, hi, hr => by
    rw [List.range_succ, List.flatMap_append]
    have hl := flatV_length (V := V) (z := z) len (fun i hi => h i (by omega))
    by_cases hil : i < len
    · have : i * z + r < len * z := by
        have h1 : (i + 1) * z ≤ len * z := Nat.mul_le_mul_right _ hil
        rw [Nat.add_mul, Nat.one_mul] at h1
        omega
      rw [List.getElem?_append_left (by rw [hl]; exact this)]
      exact flatV_get len (fun i hi => h i (by omega)) i r hil hr
    · obtain rfl : i = len := by omega
      rw [List.getElem?_append_right (by rw [hl]; omega), hl]
      simp
theorem cells_rows {w : World} {a : Addr} {z len : Nat} {V : Nat → List Value} (hz : 0 < z) (hV : ∀ i, i < len → (V i).length = z ∧ CellsAt w (a.add (i * z)) (V i)) : Cells w (some a) ((List.range len).flatMap V) := by
  by_cases h0 : len = 0
  · left; subst h0; rfl
  · obtain ⟨b, off, spot⟩ := a
    have hspot : spot = none := by
      obtain ⟨h1, h2⟩ := hV 0 (by omega)
      have := World.cell?_spot (h2 0 ((V 0)[0]'(by omega)) (by simp))
      simpa [Addr.add] using this
    subst hspot
    refine .inr ⟨b, off, rfl, fun t u hu => ?_⟩
    have hl := flatV_length (V := V) (z := z) len (fun i hi => (hV i hi).1)
    have ht : t < len * z := by
      have := (List.getElem?_eq_some_iff.1 hu).1
      rwa [hl] at this
    have hi : t / z < len := Nat.div_lt_of_lt_mul (by rw [Nat.mul_comm]; exact ht)
    have hr : t % z < z := Nat.mod_lt _ hz
    have hsplit : t / z * z + t % z = t := by rw [Nat.mul_comm]; exact Nat.div_add_mod t z
    have h2 := flatV_get len (fun i hi => (hV i hi).1) (t / z) (t % z) hi hr
    rw [hsplit, hu] at h2
    have h3 := (hV (t / z) hi).2 (t % z) u h2.symm
    rw [addr_add, addr_add, Nat.add_assoc, hsplit] at h3
    exact h3
theorem flatMap_map {α : Type} (f : α → List Value) (g : Nat → α) (len : Nat) : ((List.range len).map g).flatMap f = (List.range len).flatMap (fun i => f (g i)) := by
  rw [List.flatMap_map]

section
variable {H : Type} {enc : TypeId × Value → H} {w : World}
set_option maxRecDepth 100000 in
theorem rules_of_trod {base f : Nat} {held : Bool} {cs : List Value} {x : DataW H × List MemPlace} (hf : DataW.trod enc Tryz.prog w base (fun _ => true) held f 23 cs = some x) (hw : ∀ n ∈ x.1.weights Tryz.prog 23, n ≤ reachBytes) :
    ∃ (a : Option Addr) (n c : Nat) (rs : List RuleR), cs = [.slice a n c] ∧ PolOk w a n c rs := by
  have ct : Tryz.prog.cellsOf 51 = 8 := by kernel_rfl
  have hb : Tryz.prog.bytesOf 51 = 120 := by kernel_rfl
  rcases DataW.trod_slice Tryz.underlying23 hf with ⟨rfl, rfl⟩ | ⟨a, len, cap, elems, rest, m, _, rfl, rfl, hba, hl, hm, hlen, hel, hsp, hns⟩
  · exact ⟨none, 0, 0, [], rfl, rfl, Nat.le_refl _, Nat.zero_le _, .inl rfl, by simp⟩
  · obtain ⟨hrl, _⟩ := hsp rfl
    have hcap : cap ≤ 140737488355328 := by
      have := hw ((elems.map (·.1)).length * Tryz.prog.bytesOf 51 + (rest.map (·.1)).length * Tryz.prog.bytesOf 51) (by simp [DataW.weights, Tryz.underlying23, Nat.add_mul])
      rw [hb, reach_is] at this
      simp at this
      omega
    have each : ∀ i, i < len → ∃ r : RuleR, CellsAt w (a.add (i * 8)) r.v ∧ r.Ok w := by
      intro i hi
      have h1 := hel i hi
      have hx : elems[i]? = some (elems[i]'(by omega)) := by simp
      rw [ct, hx, Option.bind_eq_some_iff] at h1
      obtain ⟨cs', hcs, hy⟩ := h1
      have hwe : ∀ n ∈ (elems[i]'(by omega)).1.weights Tryz.prog 51, n ≤ reachBytes := fun n hn => by
        refine hw n ?_
        simp only [DataW.weights, Tryz.underlying23, List.mem_cons, List.mem_append]
        refine .inr (.inl (mem_weightsU (List.mem_map.2 ⟨elems[i]'(by omega), List.getElem_mem _, rfl⟩) n hn))
      obtain ⟨r, rfl, hok⟩ := rule_of_trod hy hwe
      exact ⟨r, (cells?_at hcs).2, hok⟩
    obtain ⟨g, hg⟩ := choose_lt each
    refine ⟨some a, len, cap, (List.range len).map g, rfl, by simp, hl, Nat.le_trans hl hcap, ?_, ?_⟩
    · unfold rulesV
      rw [flatMap_map]
      exact cells_rows (z := 8) (by omega) (fun i hi => ⟨RuleR.len _, (hg i hi).1⟩)
    · intro r hr
      obtain ⟨i, hi, rfl⟩ := List.mem_map.1 hr
      exact (hg i (List.mem_range.1 hi)).2
set_option maxRecDepth 100000 in
theorem open_policy {r : Reach} {b0 base : Nat} {held : Bool} {v : Value} {d : DataW H} {ps : List MemPlace} {ts : List TypeId} {ds : List (DataW H)} {j : Nat} (hsz : (DataW.weightsEach Tryz.prog ts ds).all (· ≤ reachBytes) = true)
    (hval : Value.okWide Tryz.prog w r b0 25 v) (hd : DataW.Trod enc Tryz.prog w base (fun _ => true) held 25 v d ps) (htj : ts[j]? = some 25) (hdj : ds[j]? = some d) :
    ∃ (pa : Option Addr) (pn pc : Nat) (rs : List RuleR), v = .agg #[.slice pa pn pc] ∧ PolOk w pa pn pc rs := by
  have hw := fun n hn => of_decide_eq_true (List.all_eq_true.1 hsz n (DataW.weights_mem_each htj hdj n hn))
  obtain ⟨cs, rfl, hs⟩ := okWide_struct Tryz.underlying25 hval
  obtain ⟨fuel, hf⟩ := hd
  have ht := Tryz.underlying25
  obtain ⟨xs, m, _, hx, hl, hlen, hfs⟩ := DataW.trod_struct ht hf
  have ct : Tryz.prog.cellsOf 25 = 1 := by kernel_rfl
  have c36 : Tryz.prog.cellsOf 23 = 1 := by kernel_rfl
  simp only [Prod.mk.injEq] at hx
  rw [hx.1] at hw
  rw [ct] at hl
  have hl2 : cs.toList.length = 1 := hl
  match xs, hlen with
  | [y0], _ =>
  have g0 : DataW.trod enc Tryz.prog w base (fun _ => true) held m 23 ((cs.toList.drop 0).take 1) = some y0 := by rw [← c36]; exact hfs 0 _ rfl
  have w0 := weights_part ht hw (i := 0) rfl rfl
  obtain ⟨a, n, c, rs, h0, hok⟩ := rules_of_trod g0 w0
  rw [List.drop_zero, List.take_of_length_le (by omega)] at h0
  refine ⟨a, n, c, rs, ?_, hok⟩
  obtain ⟨cl⟩ := cs
  have h1 : cl = [.slice a n c] := h0
  rw [h1]
end
end
end Go.Proofs.YthfddfgncolnbaaGreatDoor
