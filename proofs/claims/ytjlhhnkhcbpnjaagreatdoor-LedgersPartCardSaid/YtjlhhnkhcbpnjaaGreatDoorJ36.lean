/- Laws that the row leans on; no condition. -/
import Derived.Test.YtjlhhnkhcbpnjaaGreatDoorJ11
namespace Go.Proofs.YtjlhhnkhcbpnjaaGreatDoor
open Go Go.RowKit List Tryz
set_option linter.unusedVariables false
set_option linter.unusedSectionVars false
set_option linter.unusedSimpArgs false
set_option maxHeartbeats 40000000
set_option maxRecDepth 100000
theorem xV(l m r:aj)(q:Nat)(h:l.length=q)(E:m.length=8):fE (l++(m++r)) q=fE (l++m) q:=by
 subst h;unfold fE iW;have j:∀i,i<l.length+8->(l++(m++r))[i]? =(l++m)[i]? :=fun i u=>by
  rw[<-append_assoc,List.getElem?_append_left (by rw[length_append];omega)]
 rw[j _ J,j _ J,j _ J,j _ J,j _ J,j _ J,j _ J,j _ J]
end Go.Proofs.YtjlhhnkhcbpnjaaGreatDoor
