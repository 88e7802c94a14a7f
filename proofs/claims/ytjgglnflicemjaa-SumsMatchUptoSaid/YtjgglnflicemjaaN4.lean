/- Clone, Grow (of nil) and Concat at octets; conditions: lengths below 2^47. -/
import Derived.Test.YtjgglnflicemjaaN3
import Derived.Test.YtjgglnflicemjaaH
import Derived.WalkKit
import Derived.Lib.Walk
import Derived.Lib.SliceRun
import Derived.Lib.AppendZerosOnto
import Derived.Laws.AppendOwn
import Derived.Laws.AppendOwnNone
namespace Go.Proofs.Ytjgglnflicemjaa
open Go Go.RowKit

set_option maxRecDepth 100000 in
set_option maxHeartbeats 1000000 in
theorem grow0_c (n : Nat) (w : World) (hn : n ≤ 140737488355328) :
    Calls Try.prog 88 #[.slice none 0 0, .int .i64 n] w fun e w' => ∃ v, e = .returned v ∧ w'.ownsRow w.heap.size 5 1 v 0 [] ∧ Ext w w' := by
  by_cases h0 : n = 0
  · subst h0
    go_enter Try.func88, Try.ntmps88
    go_wp2
    go_ret
    exact ⟨_, rfl, World.ownsRow_nil _ _ _ _, Ext.refl _⟩
  · have h1 : ¬ ((n : Int) < 0) := by omega
    have h3 : IntKind.i64.wrap (n : Int) = (n : Int) := IntWalk.i64_in _ (by omega)
    have h4 : decide ((0 : Int) < (n : Int)) = true := decide_eq_true (by omega)
    obtain ⟨i0, hi, hz, hs, hb⟩ := info_parts info_u8
    obtain ⟨G, hG⟩ : ∃ G, G = grownCap w n 0 5 := ⟨_, rfl⟩
    have hGn : n ≤ G := by rw [hG]; exact grownCap_ge w _ _ _
    have hG63 : G ≤ maxLen := by rw [hG]; exact grownCap_le_maxLen w n 0 5 (by unfold maxLen; omega)
    have hrz : ∀ ty, (Builtin.append_ #[26, 3] ty #[.slice none 0 0, .int .i64 (n : Int)]).run Try.prog w =
        .ok (.slice (some ⟨w.heap.size, 0, none⟩) n G) (w.drew.alloc (.cells (#[] ++ Builtin.zeroCells (Value.int .u8 0).cells n ++ Builtin.zeroCells (Value.int .u8 0).cells (G - n)) 5)) := fun ty => by
      have h := Lib.run_append_grow_zeros w 26 3 ty 5 i0 (.int .u8 0) .i64 .i64 Try.underlying26 Try.underlying3 hi hz none 0 0 [] (by rw [hs]; exact run_firstCells_none w.drew 1 0 0 0) n (by omega) (by omega) (by omega) (by omega) (by rw [hb]; omega)
        (by exact growslice_fits (by omega) (by rw [hb]; omega))
      rw [Nat.zero_add, ← hG] at h
      exact h
    have hsz : (#[] ++ Builtin.zeroCells (Value.int .u8 0).cells n ++ Builtin.zeroCells (Value.int .u8 0).cells (G - n)).size = G * 1 := by
      have h1 : (Value.int .u8 0).cells.size = 1 := rfl
      simp [Builtin.zeroCells, h1]
      omega
    have hown : ∀ cs : Array Value, cs.size = G * 1 → (w.drew.alloc (.cells cs 5)).ownsRow w.heap.size 5 1 (.slice (some ⟨w.heap.size, 0, none⟩) 0 G) 0 [] := fun cs hc => World.ownsRow_made w.drew cs G (Nat.le_refl _) hG63 hc
    generalize hcs : (#[] ++ Builtin.zeroCells (Value.int .u8 0).cells n ++ Builtin.zeroCells (Value.int .u8 0).cells (G - n)) = cs at *
    clear hG hcs
    unfold maxLen at hG63
    go_enter Try.func88, Try.ntmps88
    go_wp2_with (at_builtin; refine Lib.wpList_append_run _ rfl _ _ _ _ rfl _ _ rfl rfl _ _ (hrz _) ?_)
    all_goals (go_ret; exact ⟨_, rfl, hown cs hsz, (Ext.refl w).drew.alloc _⟩)

/-- a list of slices of octets: address, capacity, octets -/
abbrev Item := Option Addr × Nat × List UInt8
def cat (its : List Item) : List UInt8 := (its.map (·.2.2)).flatten
def itemV (it : Item) : Value := .slice it.1 it.2.2.length it.2.1

theorem cat_succ {its : List Item} {k : Nat} {it : Item} (h : its[k]? = some it) : cat (its.take (k + 1)) = cat (its.take k) ++ it.2.2 := by
  unfold cat
  rw [List.take_add_one, h]; simp
theorem cat_le (its : List Item) (k : Nat) : (cat (its.take k)).length ≤ (cat its).length := by
  have h2 : cat its = cat (its.take k) ++ cat (its.drop k) := by
    unfold cat
    rw [← List.flatten_append, ← List.map_append, List.take_append_drop]
  rw [h2, List.length_append]
  omega

set_option maxRecDepth 100000 in
set_option maxHeartbeats 1000000 in
theorem concat_c (its : List Item) (g nn cap : Nat) (w : World) (hnn : its.length = nn) (hnn2 : nn ≤ 140737488355328) (hcap : nn ≤ cap) (hg : ∀ (i : Nat) it, its[i]? = some it → w.cell? ⟨g, i, none⟩ = some (itemV it))
    (hc : ∀ it ∈ its, Cells w it.1 (it.2.2.map u8v)) (hn0 : ∀ it ∈ its, it.1 = none → it.2.1 = 0) (hlen : (cat its).length ≤ 140737488355328) :
    Calls Try.prog 72 #[.slice (some ⟨g, 0, none⟩) nn cap] w fun e w' => ∃ v, e = .returned v ∧ w'.ownsRow w.heap.size 5 1 v (cat its).length ((cat its).map u8v) ∧ Ext w w' := by
  have HNN := hid hnn
  have HG := hid hg
  have HC := hid hc
  have HN0 := hid hn0
  have HL := hid hlen
  obtain ⟨i0, hi, hz, hs, hb1⟩ := info_parts info_u8
  clear hg hc hn0 hlen hnn
  go_enter Try.func72, Try.ntmps72
  go_wp2
  go_loopw [3, 11] (fun s i wr => ∃ k : Nat, k ≤ nn ∧ s = .int .i64 ((cat (its.take k)).length : Nat) ∧ i = .int .i64 k ∧ wr = w)
    (fun _ i _ => nn - (intOf i).toNat)
  case atStart => exact ⟨0, by omega, by simp [cat], rfl, rfl⟩
  case round =>
    obtain ⟨k, hk, rfl, rfl, hwr⟩ := hrel
    subst wr
    by_cases hlt : k < nn
    · obtain ⟨it, hit⟩ : ∃ it, its[k]? = some it := ⟨its[k]'(by rw [HNN.out]; exact hlt), by simp⟩
      have c1 := HG.out k it hit
      unfold itemV at c1
      have hcs := cat_succ hit
      have hcl := cat_le its (k + 1)
      rw [hcs] at hcl
      have hcl2 := HL.out
      rw [List.length_append] at hcl
      obtain ⟨m, hm⟩ : ∃ m, (cat (its.take k)).length = m := ⟨_, rfl⟩
      obtain ⟨q, hq⟩ : ∃ q, it.2.2.length = q := ⟨_, rfl⟩
      have hsum : (cat (its.take (k + 1))).length = m + q := by rw [hcs, List.length_append, hm, hq]
      rw [hm, hq] at hcl
      rw [hq] at c1
      rw [hm]
      have h3 : IntKind.i64.wrap ((m : Int) + (q : Int)) = (m : Int) + (q : Int) := IntWalk.i64_in _ (by omega)
      have h4 : decide ((m : Int) + (q : Int) < 0) = false := decide_eq_false (by omega)
      have HS := hid hsum
      clear hsum hcs hcl hcl2 hm hq hit
      go_wp2
      go_roundw
      case rel => exact ⟨k + 1, by omega, by rw [HS.out]; go_num, by go_num, by simp⟩
      case measure => simp [intOf]; omega
    · have hkn : k = nn := by omega
      subst k
      have htk : its.take nn = its := List.take_of_length_le (by rw [HNN.out]; omega)
      rw [htk]
      have hl := HL.out
      obtain ⟨N, hN⟩ : ∃ N, (cat its).length = N := ⟨_, rfl⟩
      have HNL := hid hN
      rw [hN] at hl ⊢
      clear htk hN
      go_wp2_with fail
      refine (grow0_c N _ hl).mono ?_
      rintro e w1 ⟨v, rfl, own, e1⟩
      go_wp2
      go_loopw [6, 27] (fun v i wr => ∃ k : Nat, k ≤ nn ∧ i = .int .i64 k ∧ wr.ownsRow w.heap.size 5 1 v (cat (its.take k)).length ((cat (its.take k)).map u8v) ∧ Ext w wr)
        (fun _ i _ => nn - (intOf i).toNat)
      case atStart => exact ⟨0, by omega, rfl, by simpa [cat] using own, e1⟩
      case round =>
        obtain ⟨k, hk, rfl, own2, e2⟩ := hrel
        by_cases hlt : k < nn
        · obtain ⟨it, hit⟩ : ∃ it, its[k]? = some it := ⟨its[k]'(by rw [HNN.out]; exact hlt), by simp⟩
          have c1 := HG.out k it hit
          have hb := block_lt_of_cell c1
          rw [← e2.cell (p := ⟨g, k, none⟩) hb] at c1
          have hcs := cat_succ hit
          have hcl := cat_le its (k + 1)
          rw [hcs, HNL.out, List.length_append] at hcl
          have hci := (HC.out it (List.mem_of_getElem? hit)).ext e2
          have hn0 := HN0.out it (List.mem_of_getElem? hit)
          unfold itemV at c1
          obtain ⟨x, c, li⟩ := it
          obtain ⟨q, hq⟩ : ∃ q, li.length = q := ⟨_, rfl⟩
          obtain ⟨m, hm⟩ : ∃ m, (cat (its.take k)).length = m := ⟨_, rfl⟩
          simp only at c1 hcs hcl hci hn0
          rw [hq] at c1
          rw [hm, hq] at hcl
          rw [hm] at own2
          have HCS := hid hcs
          have HQ := hid hq
          have HM := hid hm
          clear hcs hq hm hit hb
          cases x with
          | none =>
            have hli : li = [] := by
              rcases hci with h | ⟨_, _, h, _⟩
              · simpa using h
              · cases h
            have hc0 : c = 0 := hn0 rfl
            have hq0 : q = 0 := by rw [← HQ.out, hli]; rfl
            subst hc0
            subst hq0
            have hcs2 := HCS.out
            rw [hli, List.append_nil] at hcs2
            have HCS2 := hid hcs2
            clear hcs2 hli HCS
            go_wp2_with (at_builtin; refine wpList_append_own_none rfl _ _ 26 rfl w.heap.size 5 i0 1 Try.underlying26 hi _ _ _ rfl own2 rfl ?_)
            go_wp2
            go_roundw
            case rel => exact ⟨k + 1, by omega, by go_num, by rw [HCS2.out, HM.out]; exact own2, e2⟩
            case measure => simp [intOf]; omega
          | some ad =>
            go_wp2_with (at_builtin; refine wpList_append_own _ rfl _ _ 26 rfl w.heap.size 5 i0 (.int .u8 0) 1 1 Try.underlying26 hi hz hs hb1 rfl (by decide) _ _ _ rfl own2 ad q c (li.map u8v) rfl ?qc1 (news_cells hci) (one_u8 _) ?qc4 ?qc5 e2.size ?_)
            case qc1 => rw [List.length_map, HQ.out, Nat.mul_one]
            case qc4 => unfold maxLen; omega
            case qc5 => omega
            intro v2 w2 own3 gr _
            have e3 : Ext w w2 := e2.grown gr (fun g' h => (own2.lt g' h).1)
            rw [← List.map_append] at own3
            clear own2 gr e2 c1 hci
            go_wp2
            go_roundw
            case rel => exact ⟨k + 1, by omega, by go_num, by rw [HCS.out, List.length_append, HM.out, HQ.out]; exact own3, e3⟩
            case measure => simp [intOf]; omega
        · have hkn : k = nn := by omega
          subst k
          rw [List.take_of_length_le (by rw [HNN.out]; omega)] at own2
          go_wp2
          go_ret
          exact ⟨_, rfl, own2, e2⟩
end Go.Proofs.Ytjgglnflicemjaa
