/- Laws that the row leans on; no condition. -/
import Derived.Test.YtjlhhnkhcbpnjaaGreatDoorJ12
import Derived.Test.YtjlhhnkhcbpnjaaGreatDoorJ13
namespace Go.Proofs.YtjlhhnkhcbpnjaaGreatDoor
open Go Go.RowKit List Tryz
set_option linter.unusedVariables false
set_option linter.unusedSectionVars false
set_option linter.unusedSimpArgs false
set_option maxHeartbeats 40000000
set_option maxRecDepth 100000
def wF(l:aj):aj:=Lib.trimSuffix l [42]
def KG(l:aj):Bool:=Lib.hasSuffix l [42]
def BU(l:aj):Bool:=jK (wF l)||(KG l&&(wF l).isEmpty)
theorem Y3(s:ByteArray):(⟨(wF s.data.toList).toArray⟩:ByteArray).size<=s.size:=by
 show(wF s.data.toList).toArray.size<=s.size;rw[size_toArray,Lib.size_eq];unfold wF Lib.trimSuffix;split
 ·rw[length_take];omega
 ·exact Nat.le_refl _
theorem Y4(H:ByteArray):H.toList.isEmpty=H.data.toList.isEmpty:=by rw[Lib.toList_data]
theorem Et{P:Program}{f:FuncId}{j:Func}{c:Code}(hf:P.funcs[f]? =some j)(I:(j.name== "runtime.NumGoroutine")=false)(hb:j.body=some c):∀u w,(callFunc f u).run P w= .ok (.enter f u) w:=by
 intro u w;have E:j.name≠ "runtime.NumGoroutine" :=by simpa using I
 simp[callFunc,hf,E,hb,mark]
def Ac(n:Int):Bool:=decide (1<=n)&&decide (n<=12)
theorem Y5(s:ByteArray)(w:World)(hn:s.size<=140737488355328):
 Calls prog 240 #[.string s] w fun e w'=>e= .returned (.bool (!jK s.data.toList))/\X w w':=by
 have h:=O (Ec s w J);generalize jK s.data.toList=b at*;go_enter func240,ntmps240;go_wp2_with fail;refine h.mono ?_;rintro e E ⟨rfl,j⟩;have u:=O j;clear j h;go_wp2_with fail;go_ret;exact⟨F,u⟩
theorem Y6(n:Int)(w:World):
 Calls prog 242 #[.int .i64 n] w fun e w'=>e= .returned (.bool (!Ac n))/\w=w':=by
 by_cases h:n<1
 ·have u:decide (n<1)=true:=aQ h;have j:(!Ac n)=true:=by unfold Ac;rw[aP (show¬1<=n by omega)];rfl
  rw[j];clear j;go_enter func242,ntmps242;go_wp2;go_ret;exact⟨by first|rfl|(rw[u];rfl),F⟩
 ·have u:decide (n<1)=false:=aP h;have j:(!Ac n)=decide (12<n):=by
   unfold Ac;rw[aQ (show 1<=n by omega),Bool.true_and,<-decide_not];congr 1;simp only[Int.not_le]
  rw[j];clear j;go_enter func242,ntmps242;go_wp2;go_ret;exact⟨by first|rfl|(rw[u];rfl),F⟩
theorem Y7(s:ByteArray)(w:World)(hn:s.size<=140737488355328):
 Calls prog 244 #[.string s] w fun e w'=>e= .returned (.bool (BU s.data.toList))/\X w w':=by
 have hcut:=O (fun w'=>Y2 s ⟨#[42]⟩ w' J);have ab:=Y3 s;obtain⟨H,u⟩:=aC ((⟨(wF s.data.toList).toArray⟩:ByteArray):ByteArray);have R:H=⟨(Lib.trimSuffix s.data.toList [42]).toArray⟩:=u.symm;have E:Hid (∀w',Calls prog 213 #[.string s,.string ⟨#[42]⟩] w' fun e af=>e= .returned (.tuple #[.string H,.bool (KG s.data.toList)])/\af=w'):=by
  rw[R];exact hcut
 rw[u]at ab;have I:=O (fun w'=>Ec H w' J);have aa:wF s.data.toList=H.data.toList:=by rw[<-u]
 unfold BU;rw[aa];have ad:=O (Y4 H);clear hcut u R aa ab hn;generalize KG s.data.toList=ae at*;generalize jK H.data.toList=nm at*;cases nm with
 |true=>
  go_enter func244,ntmps244;go_wp2_with fail;refine(E w).mono ?_;rintro e ac ⟨rfl,rfl⟩;go_wp2_with fail;refine(I _).mono ?_;rintro e w2 ⟨rfl,e2⟩;have j:=O e2;clear e2;go_wp2_with fail;go_ret;exact⟨F,j⟩
 |false=>
  cases ae with
  |false=>
   go_enter func244,ntmps244;go_wp2_with fail;refine(E w).mono ?_;rintro e ac ⟨rfl,rfl⟩;go_wp2_with fail;refine(I _).mono ?_;rintro e w2 ⟨rfl,e2⟩;have j:=O e2;clear e2;go_wp2_with fail;go_ret;exact⟨F,j⟩
  |true=>
   go_enter func244,ntmps244;go_wp2_with fail;refine(E w).mono ?_;rintro e ac ⟨rfl,rfl⟩;go_wp2_with fail;refine(I _).mono ?_;rintro e w2 ⟨rfl,e2⟩;have j:=O e2;clear e2;go_wp2_with fail;go_ret;exact⟨by show Ending.returned (Value.bool H.toList.isEmpty)=Ending.returned (Value.bool H.data.toList.isEmpty);rw[ad.out],j⟩
theorem Y8(s:ByteArray)(w:World)(hn:s.size<=140737488355328):
 Calls prog 243 #[.string s] w fun e w'=>e= .returned (.bool (!BU s.data.toList))/\X w w':=by
 have h:=O (Y7 s w hn);generalize BU s.data.toList=b at*;go_enter func243,ntmps243;go_wp2_with fail;refine h.mono ?_;rintro e E ⟨rfl,j⟩;have u:=O j;clear j h;go_wp2_with fail;go_ret;exact⟨F,u⟩
section
open Go Go.RowKit Go.Maps Go.MapKept Go.WideShapes
structure aS where
 deny:Bool
 ra:aN
 rn:Nat
 rc:Nat
 roles:aT
 aa:aN
 an:Nat
 ac:Nat
 acts:List Int
 la:aN
 ln:Nat
 lc:Nat
 labels:aT
 fr:Int
 tt:Int
 nd:Int
 ow:ByteArray
def aS.v(r:aS):aO:=[.bool r.deny,.slice r.ra r.rn r.rc,.slice r.aa r.an r.ac,.slice r.la r.ln r.lc,.int .i64 r.fr,.int .i64 r.tt,.int .i64 r.nd,.string r.ow]
structure aS.Ok(w:World)(r:aS):Prop where
 rl:r.roles.length=r.rn
 qZ:r.rn<=r.rc
 rm:r.rn<=140737488355328
 nU:aK w r.ra (r.roles.map bM)
 rs:∀s∈r.roles,s.size<=140737488355328
 al:r.acts.length=r.an
 Ad:r.an<=r.ac
 am:r.an<=140737488355328
 mF:aK w r.aa (r.acts.map lN)
 Hf:∀z∈r.acts,(Lit.int .i64 z).wf=true
 ll:r.labels.length=r.ln
 Eu:r.ln<=r.lc
 lm:r.ln<=140737488355328
 sN:aK w r.la (r.labels.map bM)
 ls:∀s∈r.labels,s.size<=140737488355328
 os:r.ow.size<=140737488355328
theorem aS.Ok.ext{w w':World}{r:aS}(h:r.Ok w)(e:X w w'):r.Ok w':=
 ⟨h.rl,h.qZ,h.rm,h.nU.ext e,h.rs,h.al,h.Ad,h.am,h.mF.ext e,h.Hf,h.ll,h.Eu,h.lm,h.sN.ext e,h.ls,h.os⟩
theorem aS.len(r:aS):r.v.length=8:=F
noncomputable def Ae{α:Type}(l:List α):Bool:= @decide (¬l.Nodup) (Classical.propDecidable _)
theorem QU{α:Type}{l:List α}:Ae l=true↔¬l.Nodup:=by unfold Ae;exact @decide_eq_true_iff _ (Classical.propDecidable _)
theorem KH{α:Type}{l:List α}{b:Bool}(h:b=true↔¬l.Nodup):b=Ae l:=by
 cases b with
 |true=>exact(QU.2 (h.1 F)).symm
 |false=>
  cases j:Ae l with
  |true=>have:=h.2 (QU.1 j);cases this
  |false=>rfl
def rJ(s:ByteArray):Bool:= !jK s.data.toList
def yO(s:ByteArray):Bool:= !BU s.data.toList
def Af(z:Int):Bool:= !Ac z
def uq(s:ByteArray):Bool:=s.toList.isEmpty
def k1(r:aS):Bool:=decide ((16:Int)<(r.rn:Int))||decide ((16:Int)<(r.an:Int))||decide ((16:Int)<(r.ln:Int))
def k2(r:aS):Bool:=r.roles.any rJ||(!uq r.ow&&rJ r.ow)
def k3(r:aS):Bool:=r.acts.any Af
def k4(r:aS):Bool:=r.labels.any yO
noncomputable def k5(r:aS):Bool:=Ae r.roles||Ae r.acts||Ae r.labels
def k6(r:aS):Bool:=(decide (r.fr<0)||decide (24<r.fr))||(decide (r.tt<0)||decide (24<r.tt))||(decide (r.fr=r.tt)&&decide (r.fr≠0))||(decide (r.nd<0)||decide (16<r.nd))
def k7(r:aS):Bool:=(decide (r.nd=0) != uq r.ow)||(r.deny&&decide (0<r.nd))
noncomputable def jd(r:aS):Int:=if k1 r then 5 else if k2 r then 6 else if k3 r then 3 else if k4 r then 6 else if k5 r then 8 else if k6 r then 4 else if k7 r then 17 else 0
end
end Go.Proofs.YtjlhhnkhcbpnjaaGreatDoor
