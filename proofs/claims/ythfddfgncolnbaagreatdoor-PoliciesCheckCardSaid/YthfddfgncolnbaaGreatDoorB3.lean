/- strings.CutSuffix, HasPrefix, TrimSuffix and Count of one octet, by the shelf's templates; conditions: the string's size. -/
import Derived.Test.YthfddfgncolnbaaGreatDoorProg
import Derived.Lib.Strings
import Derived.Lib.Slices
import Derived.Lib.Walk
import Derived.Lib.Bytealg
namespace Go.Proofs.YthfddfgncolnbaaGreatDoor
open Go

set_option maxHeartbeats 1000000 in
theorem cutSuffix_c (s p : ByteArray) (w : World) (hs : s.size ≤ 9223372036854775807) :
    Calls Tryz.prog 93 #[.string s, .string p] w fun e w' => e = .returned (.tuple #[.string ⟨(Lib.trimSuffix s.data.toList p.data.toList).toArray⟩, .bool (Lib.hasSuffix s.data.toList p.data.toList)]) ∧ w' = w := by
  have hlo : p.size ≤ s.size → ((s.size : Int) - (p.size : Int) + 9223372036854775808) % 18446744073709551616 - 9223372036854775808 = ((s.size - p.size : Nat) : Int) := fun _ => by omega
  go_enter Tryz.func93, Tryz.ntmps93
  go_wp2
  · have h2 : (!((s.extract (s.size - p.size) s.size).toList == p.toList)) = true := by assumption
    have h3 : (decide (p.size ≤ s.size) && ((s.extract (s.size - p.size) s.size).toList == p.toList)) = false := by
      have : ((s.extract (s.size - p.size) s.size).toList == p.toList) = false := by simpa using h2
      rw [this]
      simp
    go_ret2
    refine ⟨?_, rfl⟩
    rw [Lib.trimSuffix_miss s p h3, ← Lib.hasSuffix_raw, h3]
    rfl
  · have h1 : p.size ≤ s.size := by assumption
    have h2 : (!((s.extract (s.size - p.size) s.size).toList == p.toList)) = false := by assumption
    have h2' : ((s.extract (s.size - p.size) s.size).toList == p.toList) = true := by simpa using h2
    go_ret2
    refine ⟨?_, rfl⟩
    rw [Lib.trimSuffix_hit s p h1 h2', ← Lib.hasSuffix_raw, h2', decide_eq_true h1]
    rfl
  · have h1 : ¬ p.size ≤ s.size := by assumption
    have h3 : (decide (p.size ≤ s.size) && ((s.extract (s.size - p.size) s.size).toList == p.toList)) = false := by simp [h1]
    go_ret2
    refine ⟨?_, rfl⟩
    rw [Lib.trimSuffix_miss s p h3, ← Lib.hasSuffix_raw, h3]
    rfl

set_option maxHeartbeats 1000000 in
set_option maxRecDepth 100000 in
theorem countOne_c (s : ByteArray) (c : UInt8) (w : World) :
    Calls Tryz.prog 80 #[.string s, .string ⟨#[c]⟩] w fun e w' => e = .returned (.int .i64 (Lib.countByte s.data.toList c)) ∧ w' = w := by
  go_enter Tryz.func80, Tryz.ntmps80
  go_wp2
  rw [run_callFunc_extern Tryz.func105 (by kernel_rfl) (by kernel_rfl) (by kernel_rfl) (e := Extern.BytealgCount.count) (by kernel_rfl), Lib.run_countString]
  simp only [Result.andThen]
  rw [Oper.upon_value]
  go_wp2
  go_ret
  exact ⟨rfl, rfl⟩
end Go.Proofs.YthfddfgncolnbaaGreatDoor
