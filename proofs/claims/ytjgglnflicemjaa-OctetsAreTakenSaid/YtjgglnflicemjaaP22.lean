/- Cut, Take and a comparison, together; conditions: the slice's length. -/
import Derived.Test.YtjgglnflicemjaaP21
namespace Go.Proofs.Ytjgglnflicemjaa
open Go Go.RowKit

set_option maxHeartbeats 400000 in
theorem rcutw_c (a : Option Addr) (n c : Nat) (at_ many : Int) (w : World) (hn : n ≤ 140737488355328) (hc : n ≤ c) (hm : 0 ≤ many) (hm2 : many ≤ 1099511627776) :
    Calls Try.prog 67 #[.slice a n c, .int .i64 at_, .int .i64 many] w (CutPost a n c at_ many w) := by
  by_cases h1 : at_ < 0
  · have hp : ∀ e w', (e = Ending.returned (.tuple #[.slice none 0 0, .int .i64 4]) ∧ w = w') → CutPost a n c at_ many w e w' := by
      rintro e w' ⟨rfl, rfl⟩
      have : roomE n at_ many = 4 := by simp [roomE, h1]
      refine ⟨rfl, ?_⟩
      rw [if_neg (by omega), this]
    refine Calls.mono ?_ hp
    clear hp
    go_enter Try.func67, Try.ntmps67
    go_wp2
    go_ret2
    exact ⟨rfl, rfl⟩
  · have h0 : 0 ≤ at_ := by omega
    by_cases h2 : (n : Int) < at_
    · have hp : ∀ e w', (e = Ending.returned (.tuple #[.slice none 0 0, .int .i64 1]) ∧ w = w') → CutPost a n c at_ many w e w' := by
        rintro e w' ⟨rfl, rfl⟩
        have : roomE n at_ many = 1 := by simp only [roomE, h1, if_false]; rw [if_pos (by omega)]
        refine ⟨rfl, ?_⟩
        rw [if_neg (by omega), this]
      refine Calls.mono ?_ hp
      clear hp
      go_enter Try.func67, Try.ntmps67
      go_wp2
      go_ret2
      exact ⟨rfl, rfl⟩
    · by_cases h3 : (n : Int) - at_ < many
      · have hp : ∀ e w', (e = Ending.returned (.tuple #[.slice none 0 0, .int .i64 1]) ∧ w = w') → CutPost a n c at_ many w e w' := by
          rintro e w' ⟨rfl, rfl⟩
          have : roomE n at_ many = 1 := by simp only [roomE, h1, if_false]; rw [if_pos (by omega)]
          refine ⟨rfl, ?_⟩
          rw [if_neg (by omega), this]
        refine Calls.mono ?_ hp
        clear hp
        go_enter Try.func67, Try.ntmps67
        go_wp2
        go_ret2
        exact ⟨rfl, rfl⟩
      · have hE : roomE n at_ many = 0 := by simp only [roomE, h1, if_false]; rw [if_neg (by omega)]
        have HE := hid hE
        clear hE
        obtain ⟨p, rfl⟩ := Int.eq_ofNat_of_zero_le h0
        obtain ⟨m, rfl⟩ := Int.eq_ofNat_of_zero_le hm
        go_enter Try.func67, Try.ntmps67
        go_wp2
        all_goals
          go_ret2
          refine ⟨rfl, ?_⟩
          rw [if_pos HE.out]
          simp [shift, *]

set_option maxHeartbeats 400000 in
theorem rCutw_c (a : Option Addr) (n c : Nat) (at_ many : Int) (w : World) (hn : n ≤ 140737488355328) (hc : n ≤ c) (hm : 0 ≤ many) (hm2 : many ≤ 1099511627776) :
    Calls Try.prog 19 #[.slice a n c, .int .i64 at_, .int .i64 many] w (CutPost a n c at_ many w) := by
  by_cases h : roomE n at_ many = 0
  · have hp : ∀ e w', (e = Ending.returned (.tuple #[.slice (shift a c at_.toNat) many.toNat (c - at_.toNat), .int .i64 0]) ∧ w = w') → CutPost a n c at_ many w e w' := by
      rintro e w' ⟨rfl, rfl⟩
      exact ⟨rfl, by rw [if_pos h]⟩
    refine Calls.mono ?_ hp
    clear hp
    have H := hid h
    clear h
    go_enter Try.func19, Try.ntmps19
    go_wp2_with fail
    refine (rcutw_c a n c at_ many w hn hc hm hm2).mono ?_
    rintro e w' ⟨rfl, rfl⟩
    rw [if_pos H.out]
    go_wp2
    go_ret2
    exact ⟨rfl, rfl⟩
  · have hp : ∀ e w', (e = Ending.returned (.tuple #[.slice none 0 0, .int .i64 (roomE n at_ many)]) ∧ w = w') → CutPost a n c at_ many w e w' := by
      rintro e w' ⟨rfl, rfl⟩
      exact ⟨rfl, by rw [if_neg h]⟩
    refine Calls.mono ?_ hp
    clear hp
    have H := hid h
    clear h
    go_enter Try.func19, Try.ntmps19
    go_wp2_with fail
    refine (rcutw_c a n c at_ many w hn hc hm hm2).mono ?_
    rintro e w' ⟨rfl, rfl⟩
    rw [if_neg H.out]
    go_wp2
    go_ret2
    exact ⟨rfl, rfl⟩

theorem both16 (l : List UInt8) (a : Option Addr) (n c : Nat) (at_ : Int) (w : World) (hnl : l.length = n) (hn : n ≤ 140737488355320) (hc : n ≤ c) (hcl : Cells w a (l.map u8v)) :
    ∃ (e : Int) (cv : Value) (tv : List Value), tv.length = 16 ∧ (∀ v ∈ tv, v.oneCell' = true) ∧
      (∀ w', Calls Try.prog 19 #[.slice a n c, .int .i64 at_, .int .i64 16] w' fun r w'' => r = .returned (.tuple #[cv, .int .i64 e]) ∧ w' = w'') ∧
      (∀ w', Ext w w' → Calls Try.prog 20 #[.slice a n c, .int .i64 at_] w' fun r w'' => r = .returned (.tuple #[.agg tv.toArray, .int .i64 e]) ∧ Ext w' w'') ∧
      e = roomE n at_ 16 ∧ ((e = 0 ∧ ∃ (x : Option Addr) (y : Nat) (xs : List UInt8), cv = .slice x 16 y ∧ xs.length = 16 ∧ tv = xs.map u8v ∧ xs = (l.drop at_.toNat).take 16 ∧ Cells w x (xs.map u8v)) ∨ ¬ e = 0) := by
  by_cases h : roomE n at_ 16 = 0
  · obtain ⟨p, rfl, hp⟩ := roomE_zero h (by omega)
    have hol : ((l.drop p).take 16).length = 16 := by rw [List.length_take, List.length_drop, hnl]; omega
    refine ⟨0, .slice (shift a c p) 16 (c - p), ((l.drop p).take 16).map u8v, by rw [List.length_map, hol], one_u8 _, fun w' => ?_, fun w' hw => ?_, h.symm, .inl ⟨rfl, _, _, _, rfl, hol, rfl, rfl, ?_⟩⟩
    · refine (rCutw_c a n c p 16 w' (by omega) hc (by omega) (by omega)).mono fun e w'' hh => ?_
      unfold CutPost at hh
      rw [if_pos h] at hh
      exact ⟨hh.2, hh.1⟩
    · refine (take16_c l a n c p w' hnl (by omega) hc (hcl.ext hw)).mono fun e w'' hh => ⟨?_, hh.2⟩
      rw [hh.1]
      unfold takeV
      rw [if_pos (by exact h)]; rfl
    · have h1 := hcl.shift c p 16 (by omega)
      rwa [← List.map_drop, ← List.map_take] at h1
  · refine ⟨roomE n at_ 16, .slice none 0 0, List.replicate 16 (.int .u8 0), by simp, one_zeros 16, fun w' => ?_, fun w' hw => ?_, rfl, .inr h⟩
    · refine (rCutw_c a n c at_ 16 w' (by omega) hc (by omega) (by omega)).mono fun e w'' hh => ?_
      unfold CutPost at hh
      rw [if_neg h] at hh
      exact ⟨hh.2, hh.1⟩
    · refine (take16_c l a n c at_ w' hnl (by omega) hc (hcl.ext hw)).mono fun e w'' hh => ⟨?_, hh.2⟩
      rw [hh.1]
      unfold takeV
      rw [if_neg (by exact h)]; rfl

theorem both32 (l : List UInt8) (a : Option Addr) (n c : Nat) (at_ : Int) (w : World) (hnl : l.length = n) (hn : n ≤ 140737488355320) (hc : n ≤ c) (hcl : Cells w a (l.map u8v)) :
    ∃ (e : Int) (cv : Value) (tv : List Value), tv.length = 32 ∧ (∀ v ∈ tv, v.oneCell' = true) ∧
      (∀ w', Calls Try.prog 19 #[.slice a n c, .int .i64 at_, .int .i64 32] w' fun r w'' => r = .returned (.tuple #[cv, .int .i64 e]) ∧ w' = w'') ∧
      (∀ w', Ext w w' → Calls Try.prog 21 #[.slice a n c, .int .i64 at_] w' fun r w'' => r = .returned (.tuple #[.agg tv.toArray, .int .i64 e]) ∧ Ext w' w'') ∧
      e = roomE n at_ 32 ∧ ((e = 0 ∧ ∃ (x : Option Addr) (y : Nat) (xs : List UInt8), cv = .slice x 32 y ∧ xs.length = 32 ∧ tv = xs.map u8v ∧ xs = (l.drop at_.toNat).take 32 ∧ Cells w x (xs.map u8v)) ∨ ¬ e = 0) := by
  by_cases h : roomE n at_ 32 = 0
  · obtain ⟨p, rfl, hp⟩ := roomE_zero h (by omega)
    have hol : ((l.drop p).take 32).length = 32 := by rw [List.length_take, List.length_drop, hnl]; omega
    refine ⟨0, .slice (shift a c p) 32 (c - p), ((l.drop p).take 32).map u8v, by rw [List.length_map, hol], one_u8 _, fun w' => ?_, fun w' hw => ?_, h.symm, .inl ⟨rfl, _, _, _, rfl, hol, rfl, rfl, ?_⟩⟩
    · refine (rCutw_c a n c p 32 w' (by omega) hc (by omega) (by omega)).mono fun e w'' hh => ?_
      unfold CutPost at hh
      rw [if_pos h] at hh
      exact ⟨hh.2, hh.1⟩
    · refine (take32_c l a n c p w' hnl (by omega) hc (hcl.ext hw)).mono fun e w'' hh => ⟨?_, hh.2⟩
      rw [hh.1]
      unfold takeV
      rw [if_pos (by exact h)]; rfl
    · have h1 := hcl.shift c p 32 (by omega)
      rwa [← List.map_drop, ← List.map_take] at h1
  · refine ⟨roomE n at_ 32, .slice none 0 0, List.replicate 32 (.int .u8 0), by simp, one_zeros 32, fun w' => ?_, fun w' hw => ?_, rfl, .inr h⟩
    · refine (rCutw_c a n c at_ 32 w' (by omega) hc (by omega) (by omega)).mono fun e w'' hh => ?_
      unfold CutPost at hh
      rw [if_neg h] at hh
      exact ⟨hh.2, hh.1⟩
    · refine (take32_c l a n c at_ w' hnl (by omega) hc (hcl.ext hw)).mono fun e w'' hh => ⟨?_, hh.2⟩
      rw [hh.1]
      unfold takeV
      rw [if_neg (by exact h)]; rfl

theorem both64 (l : List UInt8) (a : Option Addr) (n c : Nat) (at_ : Int) (w : World) (hnl : l.length = n) (hn : n ≤ 140737488355320) (hc : n ≤ c) (hcl : Cells w a (l.map u8v)) :
    ∃ (e : Int) (cv : Value) (tv : List Value), tv.length = 64 ∧ (∀ v ∈ tv, v.oneCell' = true) ∧
      (∀ w', Calls Try.prog 19 #[.slice a n c, .int .i64 at_, .int .i64 64] w' fun r w'' => r = .returned (.tuple #[cv, .int .i64 e]) ∧ w' = w'') ∧
      (∀ w', Ext w w' → Calls Try.prog 22 #[.slice a n c, .int .i64 at_] w' fun r w'' => r = .returned (.tuple #[.agg tv.toArray, .int .i64 e]) ∧ Ext w' w'') ∧
      e = roomE n at_ 64 ∧ ((e = 0 ∧ ∃ (x : Option Addr) (y : Nat) (xs : List UInt8), cv = .slice x 64 y ∧ xs.length = 64 ∧ tv = xs.map u8v ∧ xs = (l.drop at_.toNat).take 64 ∧ Cells w x (xs.map u8v)) ∨ ¬ e = 0) := by
  by_cases h : roomE n at_ 64 = 0
  · obtain ⟨p, rfl, hp⟩ := roomE_zero h (by omega)
    have hol : ((l.drop p).take 64).length = 64 := by rw [List.length_take, List.length_drop, hnl]; omega
    refine ⟨0, .slice (shift a c p) 64 (c - p), ((l.drop p).take 64).map u8v, by rw [List.length_map, hol], one_u8 _, fun w' => ?_, fun w' hw => ?_, h.symm, .inl ⟨rfl, _, _, _, rfl, hol, rfl, rfl, ?_⟩⟩
    · refine (rCutw_c a n c p 64 w' (by omega) hc (by omega) (by omega)).mono fun e w'' hh => ?_
      unfold CutPost at hh
      rw [if_pos h] at hh
      exact ⟨hh.2, hh.1⟩
    · refine (take64_c l a n c p w' hnl (by omega) hc (hcl.ext hw)).mono fun e w'' hh => ⟨?_, hh.2⟩
      rw [hh.1]
      unfold takeV
      rw [if_pos (by exact h)]; rfl
    · have h1 := hcl.shift c p 64 (by omega)
      rwa [← List.map_drop, ← List.map_take] at h1
  · refine ⟨roomE n at_ 64, .slice none 0 0, List.replicate 64 (.int .u8 0), by simp, one_zeros 64, fun w' => ?_, fun w' hw => ?_, rfl, .inr h⟩
    · refine (rCutw_c a n c at_ 64 w' (by omega) hc (by omega) (by omega)).mono fun e w'' hh => ?_
      unfold CutPost at hh
      rw [if_neg h] at hh
      exact ⟨hh.2, hh.1⟩
    · refine (take64_c l a n c at_ w' hnl (by omega) hc (hcl.ext hw)).mono fun e w'' hh => ⟨?_, hh.2⟩
      rw [hh.1]
      unfold takeV
      rw [if_neg (by exact h)]; rfl
end Go.Proofs.Ytjgglnflicemjaa
