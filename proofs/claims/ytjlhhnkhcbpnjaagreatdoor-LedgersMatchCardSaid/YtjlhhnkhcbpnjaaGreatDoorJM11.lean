/- Laws that the row leans on; no condition. -/
import Derived.Test.YtjlhhnkhcbpnjaaGreatDoorProg
import Derived.Lib.Strings
import Derived.Lib.Slices
import Derived.Lib.Walk
import Derived.Lib.Bytealg
namespace Go.Proofs.YtjlhhnkhcbpnjaaGreatDoor
open Go List Tryz
set_option linter.unusedVariables false
set_option linter.unusedSimpArgs false
set_option maxHeartbeats 40000000
set_option maxRecDepth 100000
set_option maxHeartbeats 1000000 in
theorem Y2(s p:ByteArray)(w:World)(hs:s.size<=9223372036854775807):
 Calls prog 213 #[.string s,.string p] w fun e w'=>e= .returned (.tuple #[.string ⟨(Lib.trimSuffix s.data.toList p.data.toList).toArray⟩,.bool (Lib.hasSuffix s.data.toList p.data.toList)])/\w'=w:=by
 have R:p.size<=s.size->((s.size:Int) - (p.size:Int)+9223372036854775808)%18446744073709551616 - 9223372036854775808=((s.size - p.size:Nat):Int):=fun _=>by omega
 go_enter func213,ntmps213;go_wp2
 ·have E:(!((s.extract (s.size - p.size) s.size).toList==p.toList))=true:=by assumption
  have j:(decide (p.size<=s.size)&&((s.extract (s.size - p.size) s.size).toList==p.toList))=false:=by
   have:((s.extract (s.size - p.size) s.size).toList==p.toList)=false:=by simpa using E
   rw[this];simp
  go_ret2
  refine⟨?_,rfl⟩;rw[Lib.trimSuffix_miss s p j,<-Lib.hasSuffix_raw,j];rfl
 ·have u:p.size<=s.size:=by assumption
  have E:(!((s.extract (s.size - p.size) s.size).toList==p.toList))=false:=by assumption
  have I:((s.extract (s.size - p.size) s.size).toList==p.toList)=true:=by simpa using E
  go_ret2
  refine⟨?_,rfl⟩;rw[Lib.trimSuffix_hit s p u I,<-Lib.hasSuffix_raw,I,decide_eq_true u];rfl
 ·have u:¬p.size<=s.size:=by assumption
  have j:(decide (p.size<=s.size)&&((s.extract (s.size - p.size) s.size).toList==p.toList))=false:=by simp[u]
  go_ret2
  refine⟨?_,rfl⟩;rw[Lib.trimSuffix_miss s p j,<-Lib.hasSuffix_raw,j];rfl
end Go.Proofs.YtjlhhnkhcbpnjaaGreatDoor
