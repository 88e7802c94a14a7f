/- PutNumber, PutLong, Clone; conditions: lengths below 2^47 - 8. -/
import Derived.Test.YtjgglnflicemjaaN4
namespace Go.Proofs.Ytjgglnflicemjaa
open Go Go.RowKit

theorem own_slice {w : World} {B : Nat} {v : Value} {n : Nat} {xs : List Value} (h : w.ownsRow B 5 1 v n xs) :
    ∃ a c, v = .slice a n c ∧ n ≤ c ∧ c ≤ maxLen ∧ (a = none → c = 0) ∧ Cells w a xs := by
  obtain ⟨hl, h⟩ := h
  rcases h with ⟨rfl, rfl⟩ | ⟨g, cap, cur, rfl, hb, hg, h1, h2, h3, h4⟩
  · refine ⟨none, 0, rfl, Nat.le_refl _, by unfold maxLen; omega, fun _ => rfl, .inl ?_⟩
    exact List.length_eq_zero_iff.1 (by omega)
  · refine ⟨_, cap, rfl, h1, h2, (fun h => by cases h), .inr ⟨g, 0, rfl, fun i u hu => ?_⟩⟩
    rw [← h4] at hu
    have hi : i < n * 1 := by
      have := (List.getElem?_eq_some_iff.1 hu).1
      simp at this; omega
    rw [List.getElem?_take_of_lt hi] at hu
    rw [Nat.zero_add]
    exact Blk.cell' (vs := cur.toList) (T := 5) (by simpa [Blk] using hg) hu

theorem own_lower {w : World} {B B' : Nat} {e : TypeId} {size : Nat} {v : Value} {n : Nat} {xs : List Value} (h : w.ownsRow B e size v n xs) (hb : B' ≤ B) : w.ownsRow B' e size v n xs := by
  refine ⟨h.1, ?_⟩
  rcases h.2 with h | ⟨g, cap, cur, h1, h2, h3⟩
  · exact .inl h
  · exact .inr ⟨g, cap, cur, h1, Nat.le_trans hb h2, h3⟩

set_option maxRecDepth 100000 in
set_option maxHeartbeats 1000000 in
theorem putNumber_c (l : List UInt8) (a : Option Addr) (n c : Nat) (x : UInt32) (w : World) (hnl : l.length = n) (hn : n ≤ 140737488355320) (hcl : Cells w a (l.map u8v)) (h0 : a = none → c = 0) :
    Calls Try.prog 29 #[.slice a n c, .int .u32 x.toNat] w fun e w' => ∃ v, e = .returned v ∧ w'.ownsRow w.heap.size 5 1 v (n + 4) ((l ++ octL x).map u8v) ∧ Ext w w' := by
  have HN := hid hnl
  have HC := hid hcl
  have H0 := hid h0
  clear hnl hcl h0
  go_enter Try.func29, Try.ntmps29
  go_wp2_with fail
  refine (octets_c x _).mono ?_
  rintro e w1 ⟨rfl, e1⟩
  go_wp2_with (first | (refine wpl_storew rfl _ _ _ rfl rfl rfl (Blk.mk_alloc rfl rfl) agg_four rfl rfl (one_u8 _) ?_))
  intro w2 b2 u2
  have e2 : Ext w w2 := u2.ext (e1.alloc _) e1.size
  go_wp2_with fail
  have hB : Blk (w2.alloc (.cells #[.slice a n c, .slice (some ⟨w1.heap.size, 0, none⟩) 4 4] 26)) w2.heap.size [.slice a n c, .slice (some ⟨w1.heap.size, 0, none⟩) 4 4] 26 := Blk.mk_alloc rfl rfl
  have b3 := b2.alloc (.cells #[.slice a n c, .slice (some ⟨w1.heap.size, 0, none⟩) 4 4] 26)
  have e3 : Ext w (w2.alloc (.cells #[.slice a n c, .slice (some ⟨w1.heap.size, 0, none⟩) 4 4] 26)) := e2.alloc _
  generalize w2.alloc (.cells #[.slice a n c, .slice (some ⟨w1.heap.size, 0, none⟩) 4 4] 26) = w3 at *
  have hcat : cat [(a, c, l), (some ⟨w1.heap.size, 0, none⟩, 4, octL x)] = l ++ octL x := by simp [cat]
  have hlen : (l ++ octL x).length = n + 4 := by rw [List.length_append, HN.out]; rfl
  refine (concat_c [(a, c, l), (some ⟨w1.heap.size, 0, none⟩, 4, octL x)] w2.heap.size 2 2 w3 rfl (by omega) (by omega) ?hg ?hc ?hn ?hl).mono ?_
  case hg =>
    intro i it hit
    match i, hit with
    | 0, hit => cases hit; rw [itemV]; simp only; rw [HN.out]; exact hB.cell' rfl
    | 1, hit => cases hit; exact hB.cell' rfl
  case hc =>
    intro it hit
    simp only [List.mem_cons, List.not_mem_nil, or_false] at hit
    rcases hit with rfl | rfl
    · exact HC.out.ext e3
    · exact Cells.of_blk0 b3
  case hn =>
    intro it hit
    simp only [List.mem_cons, List.not_mem_nil, or_false] at hit
    rcases hit with rfl | rfl
    · exact H0.out
    · intro h; cases h
  case hl => rw [hcat, hlen]; omega
  rintro e w4 ⟨v, rfl, own, e4⟩
  rw [hcat, hlen] at own
  have own' : w4.ownsRow w.heap.size 5 1 v (n + 4) ((l ++ octL x).map u8v) := own_lower own e3.size
  have e5 := e3.ext e4
  clear hcat hlen hB b3 e3 own e4 b2 u2 e2
  go_wp2
  go_ret
  exact ⟨_, rfl, own', e5⟩

/-- the number that PutLong puts -/
def longNat (k : Int) : Nat := if k < 0 ∨ 4611686018427387904 < k then 0 else k.toNat
theorem longNat_lt (k : Int) : longNat k ≤ 4611686018427387904 := by unfold longNat; split <;> omega

theorem longL_length (u : UInt64) : (longL u).length = 8 := rfl

set_option maxRecDepth 100000 in
set_option maxHeartbeats 1000000 in
theorem putLong_c (l : List UInt8) (a : Option Addr) (n c : Nat) (k : Int) (w : World) (hnl : l.length = n) (hn : n ≤ 140737488355320) (hcl : Cells w a (l.map u8v)) (h0 : a = none → c = 0) :
    Calls Try.prog 28 #[.slice a n c, .int .i64 k] w fun e w' => ∃ v, e = .returned v ∧ w'.ownsRow w.heap.size 5 1 v (n + 8) ((l ++ longL (UInt64.ofNat (longNat k))).map u8v) ∧ Ext w w' := by
  have HN := hid hnl
  have HC := hid hcl
  have H0 := hid h0
  clear hnl hcl h0
  obtain ⟨u, hu⟩ : ∃ u, UInt64.ofNat (longNat k) = u := ⟨_, rfl⟩
  have hun : (u.toNat : Int) = longNat k := by
    have := longNat_lt k
    rw [← hu, UInt64.toNat_ofNat']; omega
  rw [hu]
  clear hu
  by_cases hk : k < 0 ∨ 4611686018427387904 < k
  · have h0 : (u.toNat : Int) = 0 := by rw [hun, longNat, if_pos hk]; rfl
    clear hun
    have hlong := fun w => longOctets_c u w
    rw [h0] at hlong
    by_cases hk1 : k < 0
    · go_enter Try.func28, Try.ntmps28
      go_wp2_with fail
      refine (hlong _).mono ?_
      rintro e w1 ⟨rfl, e1⟩
      go_wp2_with (first | (refine wpl_storew rfl _ _ _ rfl rfl rfl (Blk.mk_alloc rfl rfl) agg_eight rfl rfl (one_u8 _) ?_))
      intro w2 b2 u2
      have e2 : Ext w w2 := u2.ext (e1.alloc _) e1.size
      go_wp2_with fail
      have hB : Blk (w2.alloc (.cells #[.slice a n c, .slice (some ⟨w1.heap.size, 0, none⟩) 8 8] 26)) w2.heap.size [.slice a n c, .slice (some ⟨w1.heap.size, 0, none⟩) 8 8] 26 := Blk.mk_alloc rfl rfl
      have b3 := b2.alloc (.cells #[.slice a n c, .slice (some ⟨w1.heap.size, 0, none⟩) 8 8] 26)
      have e3 : Ext w (w2.alloc (.cells #[.slice a n c, .slice (some ⟨w1.heap.size, 0, none⟩) 8 8] 26)) := e2.alloc _
      generalize w2.alloc (.cells #[.slice a n c, .slice (some ⟨w1.heap.size, 0, none⟩) 8 8] 26) = w3 at *
      have hcat : cat [(a, c, l), (some ⟨w1.heap.size, 0, none⟩, 8, longL u)] = l ++ longL u := by simp [cat]
      have hlen : (l ++ longL u).length = n + 8 := by rw [List.length_append, HN.out]; rfl
      refine (concat_c [(a, c, l), (some ⟨w1.heap.size, 0, none⟩, 8, longL u)] w2.heap.size 2 2 w3 rfl (by omega) (by omega) ?hg ?hc ?hn ?hl).mono ?_
      case hg =>
        intro i it hit
        match i, hit with
        | 0, hit => cases hit; rw [itemV]; simp only; rw [HN.out]; exact hB.cell' rfl
        | 1, hit => cases hit; exact hB.cell' rfl
      case hc =>
        intro it hit
        simp only [List.mem_cons, List.not_mem_nil, or_false] at hit
        rcases hit with rfl | rfl
        · exact HC.out.ext e3
        · exact Cells.of_blk0 b3
      case hn =>
        intro it hit
        simp only [List.mem_cons, List.not_mem_nil, or_false] at hit
        rcases hit with rfl | rfl
        · exact H0.out
        · intro h; cases h
      case hl => rw [hcat, hlen]; omega
      rintro e w4 ⟨v, rfl, own, e4⟩
      rw [hcat, hlen] at own
      have own' : w4.ownsRow w.heap.size 5 1 v (n + 8) ((l ++ longL u).map u8v) := own_lower own e3.size
      have e5 := e3.ext e4
      clear hcat hlen hB b3 e3 own e4 b2 u2 e2
      go_wp2
      go_ret
      exact ⟨_, rfl, own', e5⟩
    · have hk2 : 4611686018427387904 < k := by omega
      go_enter Try.func28, Try.ntmps28
      go_wp2_with fail
      refine (hlong _).mono ?_
      rintro e w1 ⟨rfl, e1⟩
      go_wp2_with (first | (refine wpl_storew rfl _ _ _ rfl rfl rfl (Blk.mk_alloc rfl rfl) agg_eight rfl rfl (one_u8 _) ?_))
      intro w2 b2 u2
      have e2 : Ext w w2 := u2.ext (e1.alloc _) e1.size
      go_wp2_with fail
      have hB : Blk (w2.alloc (.cells #[.slice a n c, .slice (some ⟨w1.heap.size, 0, none⟩) 8 8] 26)) w2.heap.size [.slice a n c, .slice (some ⟨w1.heap.size, 0, none⟩) 8 8] 26 := Blk.mk_alloc rfl rfl
      have b3 := b2.alloc (.cells #[.slice a n c, .slice (some ⟨w1.heap.size, 0, none⟩) 8 8] 26)
      have e3 : Ext w (w2.alloc (.cells #[.slice a n c, .slice (some ⟨w1.heap.size, 0, none⟩) 8 8] 26)) := e2.alloc _
      generalize w2.alloc (.cells #[.slice a n c, .slice (some ⟨w1.heap.size, 0, none⟩) 8 8] 26) = w3 at *
      have hcat : cat [(a, c, l), (some ⟨w1.heap.size, 0, none⟩, 8, longL u)] = l ++ longL u := by simp [cat]
      have hlen : (l ++ longL u).length = n + 8 := by rw [List.length_append, HN.out]; rfl
      refine (concat_c [(a, c, l), (some ⟨w1.heap.size, 0, none⟩, 8, longL u)] w2.heap.size 2 2 w3 rfl (by omega) (by omega) ?hg ?hc ?hn ?hl).mono ?_
      case hg =>
        intro i it hit
        match i, hit with
        | 0, hit => cases hit; rw [itemV]; simp only; rw [HN.out]; exact hB.cell' rfl
        | 1, hit => cases hit; exact hB.cell' rfl
      case hc =>
        intro it hit
        simp only [List.mem_cons, List.not_mem_nil, or_false] at hit
        rcases hit with rfl | rfl
        · exact HC.out.ext e3
        · exact Cells.of_blk0 b3
      case hn =>
        intro it hit
        simp only [List.mem_cons, List.not_mem_nil, or_false] at hit
        rcases hit with rfl | rfl
        · exact H0.out
        · intro h; cases h
      case hl => rw [hcat, hlen]; omega
      rintro e w4 ⟨v, rfl, own, e4⟩
      rw [hcat, hlen] at own
      have own' : w4.ownsRow w.heap.size 5 1 v (n + 8) ((l ++ longL u).map u8v) := own_lower own e3.size
      have e5 := e3.ext e4
      clear hcat hlen hB b3 e3 own e4 b2 u2 e2
      go_wp2
      go_ret
      exact ⟨_, rfl, own', e5⟩
  · have hk1 : ¬ k < 0 := by omega
    have hk2 : ¬ 4611686018427387904 < k := by omega
    have h0 : (u.toNat : Int) = k := by rw [hun, longNat, if_neg hk]; omega
    have hw : IntKind.u64.wrap k = k := IntWalk.u64_in _ (by omega)
    clear hun hk
    have hlong := fun w => longOctets_c u w
    rw [h0] at hlong
    go_enter Try.func28, Try.ntmps28
    go_wp2_with fail
    refine (hlong _).mono ?_
    rintro e w1 ⟨rfl, e1⟩
    go_wp2_with (first | (refine wpl_storew rfl _ _ _ rfl rfl rfl (Blk.mk_alloc rfl rfl) agg_eight rfl rfl (one_u8 _) ?_))
    intro w2 b2 u2
    have e2 : Ext w w2 := u2.ext (e1.alloc _) e1.size
    go_wp2_with fail
    have hB : Blk (w2.alloc (.cells #[.slice a n c, .slice (some ⟨w1.heap.size, 0, none⟩) 8 8] 26)) w2.heap.size [.slice a n c, .slice (some ⟨w1.heap.size, 0, none⟩) 8 8] 26 := Blk.mk_alloc rfl rfl
    have b3 := b2.alloc (.cells #[.slice a n c, .slice (some ⟨w1.heap.size, 0, none⟩) 8 8] 26)
    have e3 : Ext w (w2.alloc (.cells #[.slice a n c, .slice (some ⟨w1.heap.size, 0, none⟩) 8 8] 26)) := e2.alloc _
    generalize w2.alloc (.cells #[.slice a n c, .slice (some ⟨w1.heap.size, 0, none⟩) 8 8] 26) = w3 at *
    have hcat : cat [(a, c, l), (some ⟨w1.heap.size, 0, none⟩, 8, longL u)] = l ++ longL u := by simp [cat]
    have hlen : (l ++ longL u).length = n + 8 := by rw [List.length_append, HN.out]; rfl
    refine (concat_c [(a, c, l), (some ⟨w1.heap.size, 0, none⟩, 8, longL u)] w2.heap.size 2 2 w3 rfl (by omega) (by omega) ?hg ?hc ?hn ?hl).mono ?_
    case hg =>
      intro i it hit
      match i, hit with
      | 0, hit => cases hit; rw [itemV]; simp only; rw [HN.out]; exact hB.cell' rfl
      | 1, hit => cases hit; exact hB.cell' rfl
    case hc =>
      intro it hit
      simp only [List.mem_cons, List.not_mem_nil, or_false] at hit
      rcases hit with rfl | rfl
      · exact HC.out.ext e3
      · exact Cells.of_blk0 b3
    case hn =>
      intro it hit
      simp only [List.mem_cons, List.not_mem_nil, or_false] at hit
      rcases hit with rfl | rfl
      · exact H0.out
      · intro h; cases h
    case hl => rw [hcat, hlen]; omega
    rintro e w4 ⟨v, rfl, own, e4⟩
    rw [hcat, hlen] at own
    have own' : w4.ownsRow w.heap.size 5 1 v (n + 8) ((l ++ longL u).map u8v) := own_lower own e3.size
    have e5 := e3.ext e4
    clear hcat hlen hB b3 e3 own e4 b2 u2 e2
    go_wp2
    go_ret
    exact ⟨_, rfl, own', e5⟩

set_option maxRecDepth 100000 in
set_option maxHeartbeats 1000000 in
theorem clone_c (l : List UInt8) (a : Option Addr) (n c : Nat) (w : World) (hnl : l.length = n) (hn : n ≤ 140737488355320) (hcl : Cells w a (l.map u8v)) :
    Calls Try.prog 18 #[.slice a n c] w fun e w' => ∃ v, e = .returned v ∧ w'.ownsRow w.heap.size 5 1 v n (l.map u8v) ∧ (v = .slice none 0 0 ↔ a = none) ∧ Ext w w' := by
  have HN := hid hnl
  have HC := hid hcl
  clear hnl hcl
  obtain ⟨i0, hi, hz, hs, hb1⟩ := info_parts info_u8
  have q26 : ∀ (w : World) (a : Option Addr) (n c n' c' : Nat), (binOp .eql 26 (.slice a n c) (.slice none n' c')).run Try.prog w = .ok (.bool a.isNone) w := fun w a n c n' c' => Lib.run_eql_slice_nil w _ _ a n c n' c' Try.underlying26
  cases a with
  | none =>
    have hl : l = [] := by
      rcases HC.out with h | ⟨_, _, h, _⟩
      · simpa using h
      · cases h
    have hn0 : n = 0 := by rw [← HN.out, hl]; rfl
    subst hn0
    have HL := hid hl
    clear hl HN HC
    go_enter Try.func18, Try.ntmps18
    go_wp2
    go_ret
    exact ⟨_, rfl, by rw [HL.out]; exact World.ownsRow_nil _ _ _ _, by simp, Ext.refl _⟩
  | some ad =>
    go_enter Try.func18, Try.ntmps18
    go_wp2_with (at_builtin; refine wpList_append_own _ rfl _ _ 26 rfl w.heap.size 5 i0 (.int .u8 0) 1 1 Try.underlying26 hi hz hs hb1 rfl (by decide) _ _ _ rfl (World.ownsRow_made w #[] 0 (Nat.le_refl _) (Nat.zero_le _) (by simp)) ad n c (l.map u8v) rfl ?qc1 (news_cells (HC.out.ext ((Ext.refl w).alloc _))) (one_u8 _) ?qc4 ?qc5 ?qc6 ?_)
    case qc1 => rw [List.length_map, HN.out, Nat.mul_one]
    case qc4 => unfold maxLen; omega
    case qc5 => omega
    case qc6 => simp
    intro v' w1 hown hgrow hnil
    have e1 : Ext w w1 := ((Ext.refl w).alloc _).grown hgrow (by intro k hk; simp [Value.ownBlock] at hk; omega)
    clear hgrow
    go_wp2
    go_ret
    exact ⟨v', rfl, hown, by simp [hnil], e1⟩
end Go.Proofs.Ytjgglnflicemjaa
