/- Laws; no condition. -/
import Derived.Test.YtjlhhnkhcbpnjaaGreatDoorProg
import Derived.Lib.Strings
import Derived.Lib.Slices
import Derived.Lib.Walk
import Derived.Lib.Bytealg
namespace Go.Proofs.YtjlhhnkhcbpnjaaGreatDoor
open Go List Tryz
set_option linter.all false
set_option maxHeartbeats 40000000
set_option maxRecDepth 100000
set_option maxHeartbeats 1000000 in
def agb(s p:ByteArray)(w:World)(hs:s.size<=9223372036854775807):
 Calls prog 213 #[.string s,.string p] w λe w'=>e= .returned (.tuple #[.string ⟨(Lib.trimSuffix s.data.toList p.data.toList).toArray⟩,.bool (Lib.hasSuffix s.data.toList p.data.toList)])/\w'=w:=by
 have f:p.size<=s.size->((s.size:Int) - (p.size:Int)+9223372036854775808)%18446744073709551616 - 9223372036854775808=((s.size - p.size:Nat):Int):=λ_=>by omega
 go_enter func213,ntmps213;go_wp2
 ·have c:(!((s.extract (s.size - p.size) s.size).toList==p.toList))=true:=by assumption
  have a:(decide (p.size<=s.size)&&((s.extract (s.size - p.size) s.size).toList==p.toList))=false:=by
   have:((s.extract (s.size - p.size) s.size).toList==p.toList)=false:=by simpa using c
   rw[this];simp
  go_ret2
  refine⟨?_,rfl⟩;rw[Lib.trimSuffix_miss s p a,<-Lib.hasSuffix_raw,a];rfl
 ·have b:p.size<=s.size:=by assumption
  have c:(!((s.extract (s.size - p.size) s.size).toList==p.toList))=false:=by assumption
  have d:((s.extract (s.size - p.size) s.size).toList==p.toList)=true:=by simpa using c
  go_ret2
  refine⟨?_,rfl⟩;rw[Lib.trimSuffix_hit s p b d,<-Lib.hasSuffix_raw,d,decide_eq_true b];rfl
 ·have b:¬p.size<=s.size:=by assumption
  have a:(decide (p.size<=s.size)&&((s.extract (s.size - p.size) s.size).toList==p.toList))=false:=by simp[b]
  go_ret2
  refine⟨?_,rfl⟩;rw[Lib.trimSuffix_miss s p a,<-Lib.hasSuffix_raw,a];rfl
end Go.Proofs.YtjlhhnkhcbpnjaaGreatDoor
