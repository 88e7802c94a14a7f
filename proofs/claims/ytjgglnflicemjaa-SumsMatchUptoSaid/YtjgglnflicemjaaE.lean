/- Arrays of octets are compared; condition: their lengths. -/
import Derived.Test.YtjgglnflicemjaaProg
import Derived.Test.YtjgglnflicemjaaK2
import Derived.Stop.BytesEq
namespace Go.Proofs.Ytjgglnflicemjaa
open Go Go.RowKit

theorem eq_arr {t : TypeId} {n : Nat} (ht : Try.prog.underlying t = some (.array n 5)) (xs ys : List UInt8) (hx : xs.length = n) (hy : ys.length = n) (w : World) :
    (binOp .eql t (.agg (xs.map u8v).toArray) (.agg (ys.map u8v).toArray)).run Try.prog w = .ok (.bool (xs == ys)) w :=
  run_eql_bytes w t 5 n ht Try.underlying5 (fun w => by kernel_rfl) xs ys hx hy
theorem neq_arr {t : TypeId} {n : Nat} (ht : Try.prog.underlying t = some (.array n 5)) (xs ys : List UInt8) (hx : xs.length = n) (hy : ys.length = n) (w : World) :
    (binOp .neq t (.agg (xs.map u8v).toArray) (.agg (ys.map u8v).toArray)).run Try.prog w = .ok (.bool (!(xs == ys))) w := by
  have h := run_equalIn_bytes w 9998 t 5 n ht Try.underlying5 (fun w => by kernel_rfl) xs ys hx hy
  rw [run_neq_struct]
  have h2 : (Op.equalIn 10000 t (.agg (xs.map u8v).toArray) (.agg (ys.map u8v).toArray)).run Try.prog w = .ok (xs == ys) w := h
  rw [h2]; rfl
theorem eq_self {t : TypeId} {n : Nat} (ht : Try.prog.underlying t = some (.array n 5)) (xs : List UInt8) (hx : xs.length = n) (w : World) :
    (binOp .eql t (.agg (xs.map u8v).toArray) (.agg (xs.map u8v).toArray)).run Try.prog w = .ok (.bool true) w := by
  rw [eq_arr ht xs xs hx hx]; simp
end Go.Proofs.Ytjgglnflicemjaa
