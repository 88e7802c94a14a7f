/- Texts are joined; no condition. -/
import Derived.Test.YthfddfgncolnbaaDoorH
namespace Go.Proofs.YthfddfgncolnbaaDoor
open Go Go.RowKit

theorem strOf_app (x y : List UInt8) : strOf x ++ strOf y = strOf (x ++ y) := by
  apply ByteArray.ext
  simp [strOf, ByteArray.data_append]

theorem exec_cat {o : Oper} {a : Act} {x y : Operand} {u v : List UInt8} (ho : o.op = .binOp .add 9 x y 9) (hx : a.eval x = .string (strOf u)) (hy : a.eval y = .string (strOf v)) (h : u.length + v.length ≤ 9223372036854775807) (w : World) :
    (execOp a.eval o).run Tryd.prog w = .ok (.value (.string (strOf (u ++ v)))) w := by
  have h2 : ¬ 9223372036854775807 < (strOf u).size + (strOf v).size := by
    show ¬ 9223372036854775807 < u.toArray.size + v.toArray.size
    simp; omega
  unfold execOp
  simp only [ho, hx, hy, Sem.run_bind]
  go_simp
  simp [h2, strOf_app]

/-- the same, the joined text told: the walk keeps texts nested to the right -/
theorem exec_catR {o : Oper} {a : Act} {x y : Operand} {u v r : List UInt8} (hr : u ++ v = r) (ho : o.op = .binOp .add 9 x y 9) (hx : a.eval x = .string (strOf u)) (hy : a.eval y = .string (strOf v)) (h : u.length + v.length ≤ 9223372036854775807) (w : World) :
    (execOp a.eval o).run Tryd.prog w = .ok (.value (.string (strOf r))) w := by
  subst hr
  exact exec_cat ho hx hy h w
end Go.Proofs.YthfddfgncolnbaaDoor
