/- Contracts of room, cut, Number; conditions: the slices' sizes. -/
import Derived.Test.YtjgglnflicemjaaS2
import Derived.Test.YtjgglnflicemjaaH
namespace Go.Proofs.Ytjgglnflicemjaa
open Go Go.RowKit

def roomE (n : Nat) (at_ many : Int) : Int := if at_ < 0 then 4 else if (n : Int) < many ∨ (n : Int) - many < at_ then 1 else 0

set_option maxHeartbeats 400000 in
theorem room_c (a : Option Addr) (n c : Nat) (at_ many : Int) (w : World) (hn : n ≤ 140737488355328) (hm : 0 ≤ many) (hm2 : many ≤ 1099511627776) :
    Calls Try.prog 68 #[.slice a n c, .int .i64 at_, .int .i64 many] w fun e w' => e = .returned (.int .i64 (roomE n at_ many)) ∧ w = w' := by
  by_cases h1 : at_ < 0
  · go_enter Try.func68, Try.ntmps68
    go_wp2
    go_ret
    exact ⟨by simp [roomE, h1], rfl⟩
  · by_cases h2 : (n : Int) < many
    · go_enter Try.func68, Try.ntmps68
      go_wp2
      go_ret
      exact ⟨by simp [roomE, h1, h2], rfl⟩
    · by_cases h3 : (n : Int) - many < at_
      · go_enter Try.func68, Try.ntmps68
        go_wp2
        go_ret
        exact ⟨by simp [roomE, h1, h2, h3], rfl⟩
      · have hE : roomE n at_ many = 0 := by simp only [roomE, h1, if_false]; rw [if_neg (by omega)]
        have HE := hid hE
        clear hE
        go_enter Try.func68, Try.ntmps68
        go_wp2
        go_ret
        exact ⟨by rw [HE.out]; rfl, rfl⟩

/-- what a reference's cut gives -/
def CutPost (a : Option Addr) (n c : Nat) (at_ many : Int) (w : World) (e : Ending) (w' : World) : Prop :=
  w = w' ∧ e = .returned (if roomE n at_ many = 0 then .tuple #[.slice (shift a c at_.toNat) many.toNat (c - at_.toNat), .int .i64 0] else .tuple #[.slice none 0 0, .int .i64 (roomE n at_ many)])

set_option maxHeartbeats 400000 in
theorem rcut_c (a : Option Addr) (n c : Nat) (at_ many : Int) (w : World) (hn : n ≤ 140737488355328) (hc : n ≤ c) (hc2 : c ≤ 140737488355328) (hm : 0 ≤ many) (hm2 : many ≤ 1099511627776) :
    Calls Try.prog 67 #[.slice a n c, .int .i64 at_, .int .i64 many] w (CutPost a n c at_ many w) := by
  by_cases h1 : at_ < 0
  · have hp : ∀ e w', (e = Ending.returned (.tuple #[.slice none 0 0, .int .i64 4]) ∧ w = w') → CutPost a n c at_ many w e w' := by
      rintro e w' ⟨rfl, rfl⟩
      have : roomE n at_ many = 4 := by simp [roomE, h1]
      refine ⟨rfl, ?_⟩
      rw [if_neg (by omega), this]
    refine Calls.mono ?_ hp
    clear hp
    go_enter Try.func67, Try.ntmps67
    go_wp2
    go_ret2
    exact ⟨rfl, rfl⟩
  · have h0 : 0 ≤ at_ := by omega
    by_cases h2 : (n : Int) < at_
    · have hp : ∀ e w', (e = Ending.returned (.tuple #[.slice none 0 0, .int .i64 1]) ∧ w = w') → CutPost a n c at_ many w e w' := by
        rintro e w' ⟨rfl, rfl⟩
        have : roomE n at_ many = 1 := by simp only [roomE, h1, if_false]; rw [if_pos (by omega)]
        refine ⟨rfl, ?_⟩
        rw [if_neg (by omega), this]
      refine Calls.mono ?_ hp
      clear hp
      go_enter Try.func67, Try.ntmps67
      go_wp2
      go_ret2
      exact ⟨rfl, rfl⟩
    · by_cases h3 : (n : Int) - at_ < many
      · have hp : ∀ e w', (e = Ending.returned (.tuple #[.slice none 0 0, .int .i64 1]) ∧ w = w') → CutPost a n c at_ many w e w' := by
          rintro e w' ⟨rfl, rfl⟩
          have : roomE n at_ many = 1 := by simp only [roomE, h1, if_false]; rw [if_pos (by omega)]
          refine ⟨rfl, ?_⟩
          rw [if_neg (by omega), this]
        refine Calls.mono ?_ hp
        clear hp
        go_enter Try.func67, Try.ntmps67
        go_wp2
        go_ret2
        exact ⟨rfl, rfl⟩
      · have hE : roomE n at_ many = 0 := by simp only [roomE, h1, if_false]; rw [if_neg (by omega)]
        have HE := hid hE
        clear hE
        obtain ⟨p, rfl⟩ := Int.eq_ofNat_of_zero_le h0
        obtain ⟨m, rfl⟩ := Int.eq_ofNat_of_zero_le hm
        go_enter Try.func67, Try.ntmps67
        go_wp2
        all_goals
          go_ret2
          refine ⟨rfl, ?_⟩
          rw [if_pos HE.out]
          simp [shift, *]
end Go.Proofs.Ytjgglnflicemjaa
