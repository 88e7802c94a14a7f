/- Laws; no condition. -/
import Derived.Test.YtjlhhnkhcbpnjaaGreatDoorJN5
import Derived.Test.YtjlhhnkhcbpnjaaGreatDoorJN6
import Derived.Lib.AtoiAll
import Derived.Lib.IndexMore
import Derived.Lib.SplitLaws
import Derived.Lib.ReplaceLaws
import Derived.Lib.FieldsP
import Derived.Lib.TrimUEq
import Derived.Lib.SpaceUEq
import Derived.Lib.RuneCount
import Derived.Lib.AppendZeros
import Derived.Lib.SlFresh
import Derived.Shelf.LaysM
import Derived.Shelf.LaysC
import Derived.Shelf.SlLaysH
import Derived.Shelf.Strconv.Itoa3
import Derived.Shelf.Strconv.AtoiAll
import Derived.Shelf.Strings.Cut
import Derived.Shelf.Strings.Split
import Derived.Shelf.Strings.SplitShaped
import Derived.Shelf.Strings.Replace
import Derived.Shelf.Strings.FieldsFuncAny
import Derived.Shelf.SlicesE.DeleteFunc
import Derived.Lib.AppendIntMem
import Derived.Lib.LaidTab
import Derived.Shelf.Strings.OnBuilder
import Derived.Shelf.Strings.Builder1
import Derived.Shelf.GgSortFunc.InsertionK
import Derived.Sort.Statements
import Derived.Lib.BytesEntry
import Derived.Lib.AppendStr
namespace Go.Proofs.YtjlhhnkhcbpnjaaGreatDoor
open Go Go.RowKit Go.Shelf List Tryz
open Go.Value(slice cells bool)
open Go.World(alloc drew)
open Go.Region(wanted)
set_option linter.all false
set_option maxHeartbeats 40000000
set_option maxRecDepth 100000
def EI(l:ah):ah:=Lib.trimSuffix l [42]
def Xy(l:ah):Bool:=Lib.hasSuffix l [42]
def L8(l:ah):Bool:=nH (EI l)||(Xy l&&(EI l).isEmpty)
def anm(s:ByteArray):(⟨(EI s.data.toList).toArray⟩:ByteArray).size<=s.size:=by
 show(EI s.data.toList).toArray.size<=s.size;rw[zh,Lib.size_eq];unfold EI Lib.trimSuffix;split
 ·rw[fP];omega
 ·exact aQ _
def agq(a:ByteArray):a.toList.isEmpty=a.data.toList.isEmpty:=by rw[Lib.toList_data]
def NQ{P:Program}{f:FuncId}{a:Func}{c:Code}(g:P.funcs[f]? =some a)(h:(a.name== "runtime.NumGoroutine")=false)(e:a.body=some c):∀b w,(callFunc f b).run P w= .ok (.enter f b) w:=by
 intro b w;have d:a.name≠ "runtime.NumGoroutine" :=by simpa using h
 simp[callFunc,g,d,e,mark]
def Jp(n:Int):Bool:=decide (1<=n)&&decide (n<=12)
def ad5{a:Prop}(e:a:=by
 go_wp2_with fail;refine h.mono ?_;rintro e w1 ⟨rfl,e1⟩;have E1:=O e1;clear e1 h;go_wp2;go_ret;exact⟨F,E1⟩):a:=e
def ak9(s:ByteArray)(w:World)(a:s.size<=140737488355328):
 eO 240 #[.string s] w (.bool (!nH s.data.toList)):=by
 have h:=O (O6 s w J);generalize nH s.data.toList=b at*;go_enter func240,ntmps240;exact ad5
def ala(n:Int)(w:World):
 qR 242 #[.int .i64 n] w (.bool (!Jp n)):=by
 by_cases h:n<1
 ·have b:=bV h;have a:(!Jp n)=true:=by unfold Jp;rw[bg (show¬1<=n by omega)];rfl
  rw[a];clear a;go_enter func242,ntmps242;go_wp2;go_ret;exact⟨by first|rfl|(rw[b];rfl),F⟩
 ·have b:=bg h;have a:(!Jp n)=decide (12<n):=by
   unfold Jp;rw[bV (show 1<=n by omega),Nl,<-decide_not];congr 1;simp only[Int.not_le]
  rw[a];clear a;go_enter func242,ntmps242;go_wp2;go_ret;exact⟨by first|rfl|(rw[b];rfl),F⟩
def adN{a:Prop}(e:a:=by
 go_enter func244,ntmps244;go_wp2_with fail;refine(aal w).mono ?_;rintro e w1 ⟨rfl,rfl⟩;go_wp2_with fail;refine(iR _).mono ?_;rintro e w2 ⟨rfl,e2⟩;have E2:=O e2;clear e2;go_wp2;go_ret;exact⟨F,E2⟩):a:=e
def ak3(s:ByteArray)(w:World)(h:s.size<=140737488355328):
 eO 244 #[.string s] w (.bool (L8 s.data.toList)):=by
 have hcut:=O (λw'=>agb s ⟨#[42]⟩ w' J);have f:=anm s;obtain⟨a,b⟩:=aF ((⟨(EI s.data.toList).toArray⟩:ByteArray):ByteArray);have c:a=⟨(Lib.trimSuffix s.data.toList [42]).toArray⟩:=b.symm;have aal:Hid (∀w',Calls prog 213 #[.string s,.string ⟨#[42]⟩] w' λe k=>e= .returned (.tuple #[.string a,.bool (Xy s.data.toList)])/\k=w'):=by
  rw[c];exact hcut
 rw[b]at f;have iR:=O (λw'=>O6 a w' J);have d:EI s.data.toList=a.data.toList:=by rw[<-b]
 unfold L8;rw[d];have g:=O (agq a);clear hcut b c d f h;generalize Xy s.data.toList=j at*;generalize nH a.data.toList=i at*;cases i with
 |true=>
  exact adN
 |false=>
  cases j with
  |false=>
   exact adN
  |true=>
   go_enter func244,ntmps244;go_wp2_with fail;refine(aal w).mono ?_;rintro e w1 ⟨rfl,rfl⟩;go_wp2_with fail;refine(iR _).mono ?_;rintro e w2 ⟨rfl,e2⟩;have E2:=O e2;clear e2;go_wp2;go_ret;exact⟨by show Ending.returned (bool a.toList.isEmpty)=Ending.returned (bool a.data.toList.isEmpty);rw[g.out],E2⟩
def alb(s:ByteArray)(w:World)(a:s.size<=140737488355328):
 eO 243 #[.string s] w (.bool (!L8 s.data.toList)):=by
 have h:=O (ak3 s w a);generalize L8 s.data.toList=b at*;go_enter func243,ntmps243;exact ad5
section
open Go Go.RowKit Go.Maps Go.MapKept Go.WideShapes
structure aX where
 deny:Bool
 ra:aO
 rn:Nat
 rc:Nat
 roles:bq
 aa:aO
 an:Nat
 ac:Nat
 acts:List Int
 la:aO
 ln:Nat
 lc:Nat
 labels:bq
 fr:Int
 tt:Int
 nd:Int
 ow:ByteArray
def aX.v(r:aX):aP:=[.bool r.deny,.slice r.ra r.rn r.rc,.slice r.aa r.an r.ac,.slice r.la r.ln r.lc,.int .i64 r.fr,.int .i64 r.tt,.int .i64 r.nd,.string r.ow]
structure aX.Ok(w:World)(r:aX):Prop where
 rl:r.roles.length=r.rn
 Ap:r.rn<=r.rc
 rm:r.rn<=140737488355328
 vk:aM w r.ra (r.roles.map dx)
 rs:∀s∈r.roles,s.size<=140737488355328
 al:r.acts.length=r.an
 Jr:r.an<=r.ac
 am:r.an<=140737488355328
 uQ:aM w r.aa (r.acts.map qH)
 QC:∀z∈r.acts,(Lit.int .i64 z).wf=true
 ll:r.labels.length=r.ln
 Oz:r.ln<=r.lc
 lm:r.ln<=140737488355328
 Bz:aM w r.la (r.labels.map dx)
 ls:∀s∈r.labels,s.size<=140737488355328
 os:r.ow.size<=140737488355328
def aX.Ok.ext{w w':World}{r:aX}(h:r.Ok w)(e:aj w w'):r.Ok w':=
 ⟨h.rl,h.Ap,h.rm,h.vk.ext e,h.rs,h.al,h.Jr,h.am,h.uQ.ext e,h.QC,h.ll,h.Oz,h.lm,h.Bz.ext e,h.ls,h.os⟩
def aX.len(r:aX):r.v.length=8:=F
noncomputable def Lm{a:Type}(l:List a):Bool:= @decide (¬l.Nodup) (Classical.propDecidable _)
theorem agm{a:Type}{l:List a}:Lm l=true↔¬l.Nodup:=by grind [Lm]
def UY{a:Type}{l:List a}{b:Bool}(h:b=true↔¬l.Nodup):b=Lm l:=by grind [agm]
def Ae(s:ByteArray):Bool:= !nH s.data.toList
def Hu(s:ByteArray):Bool:= !L8 s.data.toList
def Jt(z:Int):Bool:= !Jp z
def Co(s:ByteArray):Bool:=s.toList.isEmpty
def k1(r:aX):Bool:=decide ((16:Int)<(r.rn:Int))||decide ((16:Int)<(r.an:Int))||decide ((16:Int)<(r.ln:Int))
def k2(r:aX):Bool:=r.roles.any Ae||(!Co r.ow&&Ae r.ow)
def k3(r:aX):Bool:=r.acts.any Jt
def k4(r:aX):Bool:=r.labels.any Hu
noncomputable def k5(r:aX):Bool:=Lm r.roles||Lm r.acts||Lm r.labels
def k6(r:aX):Bool:=(decide (r.fr<0)||decide (24<r.fr))||(decide (r.tt<0)||decide (24<r.tt))||(decide (r.fr=r.tt)&&decide (r.fr≠0))||(decide (r.nd<0)||decide (16<r.nd))
def k7(r:aX):Bool:=(decide (r.nd=0) != Co r.ow)||(r.deny&&decide (0<r.nd))
noncomputable def l6(r:aX):Int:=if k1 r then 5 else if k2 r then 6 else if k3 r then 3 else if k4 r then 6 else if k5 r then 8 else if k6 r then 4 else if k7 r then 17 else 0
end
def ad9{a:Prop}(e:a:=by
 rw[n1,n3]at Oi;clear hn0 kG;cases em with
 |true=>
  have e1:r.ow.toList.isEmpty=true:=tQ.symm;have e2:r.ow.toList=[]:=FB.1 e1;cases dn;all_goals
   have hv:=Oi;simp at hv;subst hv;clear Oi tQ;go_wp2;go_meet;exact⟨by first|rfl|simp,F⟩
 |false=>
  have e1:r.ow.toList.isEmpty=false:=tQ.symm;have e2:r.ow.toList≠[]:=λh=>by rw[h]at e1;cases e1
  cases dn;all_goals
   have hv:=Oi;simp at hv;subst hv;clear Oi tQ;go_wp2;go_meet;exact⟨by first|rfl|simp,F⟩):a:=e
def aeg{a:Prop}(e:a:=by
 by_cases xE:r.nd<0
 ·have q9:=bV xE;rw[q9]at qJ;clear xE;have hv:kk=true:=by rw[qJ];simp
  subst hv;clear qJ;go_wp2;go_meet;exact⟨by first|rfl|simp,F⟩
 have q9:=bg xE;rw[q9]at qJ;clear xE;have hv:kk=decide (16<r.nd):=by rw[qJ];simp
 subst hv;clear qJ;go_wp2;go_meet;exact⟨by first|rfl|simp,F⟩):a:=e
def ald(r:aX)(w:World)(W:r.Ok w):
 eO 193 #[.agg r.v.toArray] w (.int .i64 (l6 r)):=by
 obtain⟨bh,bi,bj,bk,bl,bm,bo,ba⟩:=mQ (λw' (h:r.Ok w')=>Zb Ae 240 #[] r.roles r.ra r.rn r.rc w' (NQ func240 aC F) h.rl (by have:=h.Ap;have:=h.rm;omega) h.vk (λy Q u _=>ak9 y u (h.rs y Q))) (λw'=>O6 r.ow w' (by have:=W.os;omega)) (λw' (h:r.Ok w')=>af4 Jt 242 #[] r.acts r.aa r.an r.ac w' (NQ func242 aC F) h.al (by have:=h.Jr;have:=h.am;omega) h.uQ (λy Q u _=>(ala y u).mono λe b4 ⟨be,bp⟩=>⟨be,bp▸aj.refl _⟩)) (λw' (h:r.Ok w')=>Zb Hu 243 #[] r.labels r.la r.ln r.lc w' (NQ func243 aC F) h.ll (by have:=h.Oz;have:=h.lm;omega) h.Bz (λy Q u _=>alb y u (h.ls y Q))) (λw' (h:r.Ok w')=>acH r.roles r.ra r.rn r.rc w' h.rl (by have:=h.Ap;have:=h.rm;omega) h.Ap h.vk) (λw' (h:r.Ok w')=>ak8 r.acts r.aa r.an r.ac w' h.al (by have:=h.Jr;have:=h.am;omega) h.Jr h.uQ) (λw' (h:r.Ok w')=>acH r.labels r.la r.ln r.lc w' h.ll (by have:=h.Oz;have:=h.lm;omega) h.Oz h.Bz) W;clear W;go_enter func193,ntmps193;go_upto_region 1 with(fail);generalize aa:alloc w _=bv;obtain⟨x,a9⟩:=aA (dX aa r.v 192) (dS aa);clear aa;go_cut [13] (λv a=>v= .bool (k1 r)/\aj bv a)
 ·have z:=x.cell' (i:=1) F;have A:=x.cell' (i:=2) F;have B:=x.cell' (i:=3) F;go_wp2;all_goals
   go_meet;refine⟨?_,aj.refl _⟩;refine lq bool ?_;unfold k1;rw[Cc];simp only[zf,tJ];split at* <;>omega
 ·obtain⟨rfl,V⟩:=hcut;obtain⟨R,T⟩:=aA (x.ext V) (a9.ext V);clear V;cases f:k1 r with
  |true=>
   go_wp2;go_ret;exact⟨by simp[l6,f],T⟩
  |false=>
  have aq:=O (ba.ext T);go_upto_region 3 with(fail);go_cut [27] (λv a=>v= .bool (k2 r)/\aj wc a)
  ·have z:=R.cell' (i:=1) F;go_wp2_with fail;refine(bh wc aq).mono ?_;rintro e a5 ⟨rfl,c⟩;generalize q:r.roles.any Ae=U;have p:=O q;clear q;have bd:=(R.ext c).cell' (i:=7) F;have o:=O c;clear c z;have t:=O (show k2 r=(r.roles.any Ae||(!Co r.ow&&Ae r.ow))from F);rw[p]at t;have a4:Ae r.ow= !nH r.ow.data.toList:=F;rw[a4]at t;generalize nH r.ow.data.toList=br at*;have tQ:=O (show Co r.ow=r.ow.toList.isEmpty from F);generalize Co r.ow=em at*;generalize s:k2 r=kk at*;clear s a4;cases U with
   |true=>
    have hv:kk=true:=by rw[t];rfl
    subst hv;go_wp2;go_meet;exact⟨by first|rfl|simp,o⟩
   |false=>
   cases em with
   |true=>
    have e1:r.ow.toList.isEmpty=true:=tQ.symm;have e2:r.ow.toList=[]:=FB.1 e1;have hv:kk=false:=by rw[t];rfl
    subst hv;go_wp2;go_meet;exact⟨by first|rfl|simp,o⟩
   |false=>
    have e1:r.ow.toList.isEmpty=false:=tQ.symm;have e2:r.ow.toList≠[]:=λh=>by rw[h]at e1;cases e1
    have hv:kk= !br:=by rw[t];simp
    subst hv;go_wp2_with fail;refine(bi _).mono ?_;rintro e b5 ⟨rfl,aE⟩;have a8:=O (o.ext aE);clear aE;go_wp2;go_meet;exact⟨by first|rfl|simp,a8⟩
  ·obtain⟨rfl,C⟩:=hcut;obtain⟨ai,am,ar⟩:=aW (R.ext C) (T.ext C) (aq.ext C);clear C;cases l:k2 r with
   |true=>
    go_wp2;go_ret;exact⟨by simp[l6,f,l],am⟩
   |false=>
   have A:=ai.cell' (i:=2) F;go_wp2_with fail;refine(bj wc ar).mono ?_;rintro e a5 ⟨rfl,c⟩;obtain⟨al,o,aw⟩:=aW (ai.ext c) (am.ext c) (ar.ext c);clear c;clear A;cases g:k3 r with
   |true=>
    have G:r.acts.any Jt=true:=g;rw[G];go_wp2;go_ret;exact⟨by simp[l6,f,l,g],o⟩
   |false=>
   have G:r.acts.any Jt=false:=g;rw[G];have B:=al.cell' (i:=3) F;go_wp2_with fail;refine(bk a5 aw).mono ?_;rintro e a6 ⟨rfl,D⟩;obtain⟨S,an,ax⟩:=aW (al.ext D) (o.ext D) (aw.ext D);clear D;clear B;cases m:k4 r with
   |true=>
    have H:r.labels.any Hu=true:=m;rw[H];go_wp2;go_ret;exact⟨by simp[l6,f,l,g,m],an⟩
   |false=>
   have H:r.labels.any Hu=false:=m;rw[H];clear G H;go_upto_region 9 with(fail);go_cut [34] (λv a=>v= .bool (k5 r)/\aj a6 a)
   ·have z:=S.cell' (i:=1) F;go_wp2_with fail;refine(bl a6 ax).mono ?_;rintro e bw ⟨U,rfl,q,d⟩;obtain⟨p,b,az,k⟩:=bT (UY q) (S.ext d) (ax.ext d) d;clear q d z;have A:=b.cell' (i:=2) F;cases U with
    |true=>
     go_wp2;go_meet;exact⟨by unfold k5;rw[<-p];rfl,k⟩
    |false=>
     go_wp2_with fail;refine(bm bw az).mono ?_;rintro e bx ⟨bc,rfl,a2,E⟩;obtain⟨ap,a7,bb,ao⟩:=bT (UY a2) (b.ext E) (az.ext E) (k.ext E);clear a2 E A;have B:=a7.cell' (i:=3) F;cases bc with
     |true=>
      go_wp2;go_meet;exact⟨by unfold k5;rw[<-p,<-ap];rfl,ao⟩
     |false=>
      go_wp2_with fail;refine(bo bx bb).mono ?_;rintro e b6 ⟨bz,rfl,a3,a0⟩;obtain⟨a',a_⟩:=aA (UY a3) (ao.ext a0);clear a3 a0 B;go_wp2;go_meet;exact⟨by unfold k5;rw[<-p,<-ap,<-a'];first|rfl|simp,a_⟩
   ·obtain⟨rfl,d⟩:=hcut;obtain⟨b,k⟩:=aA (S.ext d) (an.ext d);clear d;cases I:k5 r with
    |true=>
     go_wp2;go_ret;exact⟨by simp[l6,f,l,g,m,I],k⟩
    |false=>
    have b1:=b.cell' (i:=4) F;have b2:=b.cell' (i:=5) F;have b3:=b.cell' (i:=6) F;have bd:=b.cell' (i:=7) F;have b0:=b.cell' (i:=0) F;go_upto_region 11 with(fail);go_cut [48] (λv a=>v= .bool (k6 r)/\a=wc)
    ·have qJ:=O (show k6 r=((((decide (r.fr<0)||decide (24<r.fr))||(decide (r.tt<0)||decide (24<r.tt)))||(decide (r.fr=r.tt)&&decide (r.fr≠0)))||(decide (r.nd<0)||decide (16<r.nd)))from F);generalize s:k6 r=kk at*;clear s;by_cases L:r.fr<0
     ·have ab:=bV L;rw[ab]at qJ;clear L;have hv:kk=true:=by rw[qJ];simp
      subst hv;go_wp2;go_meet;exact⟨by first|rfl|simp,F⟩
     have ab:=bg L;rw[ab]at qJ;clear L;by_cases M:24<r.fr
     ·have ac:=bV M;rw[ac]at qJ;clear M;have hv:kk=true:=by rw[qJ];simp
      subst hv;go_wp2;go_meet;exact⟨by first|rfl|simp,F⟩
     have ac:=bg M;rw[ac]at qJ;clear M;by_cases N:r.tt<0
     ·have ad:=bV N;rw[ad]at qJ;clear N;have hv:kk=true:=by rw[qJ];simp
      subst hv;go_wp2;go_meet;exact⟨by first|rfl|simp,F⟩
     have ad:=bg N;rw[ad]at qJ;clear N;by_cases P:24<r.tt
     ·have ae:=bV P;rw[ae]at qJ;clear P;have hv:kk=true:=by rw[qJ];simp
      subst hv;go_wp2;go_meet;exact⟨by first|rfl|simp,F⟩
     have ae:=bg P;rw[ae]at qJ;clear P;by_cases n:r.fr=r.tt
     ·have af:=bV n;have bs:(r.fr==r.tt)=true:=by simp[n]
      rw[af]at qJ;by_cases j:r.fr=0
      ·have bt:=bV j;have bu:(r.fr != 0)=false:=by simp[j]
       have ag:decide (r.fr≠0)=false:=bg (λh=>h j);rw[ag]at qJ;clear n j;exact aeg
      ·have bt:=bg j;have bu:(r.fr != 0)=true:=by simp[j]
       have ag:=bV j;rw[ag]at qJ;clear n j;have hv:kk=true:=by rw[qJ];simp
       subst hv;go_wp2;go_meet;exact⟨by first|rfl|simp,F⟩
     ·have af:=bg n;have bs:(r.fr==r.tt)=false:=by simp[n]
      rw[af]at qJ;clear n;exact aeg
    ·obtain⟨rfl,rfl⟩:=hcut;cases K:k6 r with
     |true=>
      go_wp2;go_ret;exact⟨by simp[l6,f,l,g,m,I,K],k⟩
     |false=>
     have kG:0<=r.nd:=by
      by_cases h:r.nd<0
      ·exfalso;have:k6 r=true:=by unfold k6;rw[bV h];simp
       rw[K]at this;cases this
      ·omega
     go_upto_region 13 with(fail);go_cut [89] (λv a=>v= .bool (k7 r)/\a=wc)
     ·have Oi:=O (show k7 r=((decide (r.nd=0) != Co r.ow)||(r.deny&&decide (0<r.nd)))from F);generalize s:k7 r=kk at*;clear s;have tQ:=O (show Co r.ow=r.ow.toList.isEmpty from F);generalize Co r.ow=em at*;generalize r.deny=dn at*;by_cases hn0:r.nd=0
      ·have n1:=bV hn0;have n3:=bU (0<r.nd);exact ad9
      ·have n1:=bg hn0;have n3:=cO (0<r.nd);exact ad9
     ·obtain⟨rfl,rfl⟩:=hcut;cases a1:k7 r with
      |true=>
       go_wp2;go_ret;exact⟨by simp[l6,f,l,g,m,I,K,a1],k⟩
      |false=>
       go_wp2;go_ret;exact⟨by simp[l6,f,l,g,m,I,K,a1],k⟩
structure iq where
 dz:ah
 sa:aO
 sn:Nat
 sc:Nat
 roles:bq
 act:Int
 label:ByteArray
 key:ah
 time:Int
 detail:ah
def iq.v(a:iq):aP:=a.dz.map Y++(.slice a.sa a.sn a.sc:: .int .i64 a.act:: .string a.label::(a.key.map Y++(.int .i64 a.time::a.detail.map Y)))
structure iq.Ok(w:World)(a:iq):Prop where
 ha:a.dz.length=16
 hk:a.key.length=16
 hd:a.detail.length=32
 sl:a.roles.length=a.sn
 snc:a.sn<=a.sc
 sm:a.sn<=140737488355328
 alJ:aM w a.sa (a.roles.map dx)
 ss:∀s∈a.roles,s.size<=140737488355328
 ls:a.label.size<=140737488355328
def iq.Ok.ext{w w':World}{a:iq}(h:a.Ok w)(e:aj w w'):a.Ok w':=⟨h.ha,h.hk,h.hd,h.sl,h.snc,h.sm,h.alJ.ext e,h.ss,h.ls⟩
def iq.len{w:World}{a:iq}(h:a.Ok w):a.v.length=68:=by unfold iq.v;simp[h.ha,h.hk,h.hd]
def iq.Uu{w:World}{a:iq}(h:a.Ok w):a.v[16]? =some (.slice a.sa a.sn a.sc):=by
 unfold iq.v;rw[yc (by simp[h.ha])];simp[h.ha]
def iq.yC{w:World}{a:iq}(h:a.Ok w):a.v[17]? =some (.int .i64 a.act):=by
 unfold iq.v;rw[yc (by simp[h.ha])];simp[h.ha]
def j5(a:iq):Bool:= !Co a.label&&Ae a.label
def j6(a:iq):Bool:=decide (a.time<0)||decide (1099511627776<a.time)
def Jq:jc prog 192 8:=⟨⟨_,underlying192,F⟩,aC⟩
def CX(rs:List aX):aP:=rs.flatMap aX.v
def Sy(rs:List aX):(CX rs).length=8*rs.length:=by
 induction rs with
 |nil=>rfl
 |cons r rs a=>unfold CX at a⊢;rw[yh,bQ,a,aX.len,iU];omega
def ale{rs:List aX}{k:Nat}{r:aX}(h:rs[k]? =some r):((CX rs).drop (k*8)).take 8=r.v:=by
 induction rs generalizing k with
 |nil=>simp at h
 |cons x rs a=>
  unfold CX at a⊢;rw[yh];cases k with
  |zero=>
   simp only[P_,wY]at h;subst h;rw[Hg,jP,MW (by rw[aX.len];exact aQ _),gY (by rw[aX.len];exact aQ _)]
  |succ k=>
   rw[uN]at h;rw[drop_append,aX.len,FP (by rw[aX.len];omega),zi,show(k+1)*8 - 8=k*8 by omega];exact a h
structure qj(w:World)(pa:aO)(pn pc:Nat)(rs:List aX):Prop where
 hl:rs.length=pn
 hnc:pn<=pc
 hm:pn<=140737488355328
 cell:aM w pa (CX rs)
 ok:∀r∈rs,r.Ok w
def qj.ext{w w':World}{a:aO}{c b:Nat}{rs:List aX}(h:qj w a c b rs)(e:aj w w'):qj w' a c b rs:=⟨h.hl,h.hnc,h.hm,h.cell.ext e,λr d=>(h.ok r d).ext e⟩
def qj.at{w:World}{d:aO}{i g:Nat}{rs:List aX}(h:qj w d i g rs){k:Nat}{r:aX}(c:rs[k]? =some r):∃A,d=some A/\d9 w (A.add (k*8)) r.v:=by
 have l:=(iK.1 c).1;obtain⟨b,o,rfl,e⟩:=h.cell.jg (by rw[Sy];omega);refine⟨_,F,λj u a=> ?_⟩;rw[eX,eX,k_];refine e _ _ ?_;rw[<-ale c]at a;have f:j<8:=by
  have:=(iK.1 a).1;rw[fP]at this;omega
 rw[uM f,qY]at a;exact a
noncomputable def Bl:List aX->Int
 |[]=>0
 |r::rs=>if l6 r=0 then Bl rs else l6 r
def ahl{rs:List aX}{k:Nat}{r:aX}(h:rs[k]? =some r)(a:∀x∈rs.take k,l6 x=0)(b:l6 r≠0):Bl rs=l6 r:=by
 induction rs generalizing k with
 |nil=>simp at h
 |cons x rs d=>
  cases k with
  |zero=>
   simp only[P_,wY]at h;subst h;unfold Bl;rw[aJ b]
  |succ k=>
   rw[uN]at h;unfold Bl;rw[aN (a x aB)];exact d h (λy c=>a y (by rw[pE];exact yg _ c))
def ahm{rs:List aX}(h:∀x∈rs,l6 x=0):Bl rs=0:=by induction rs<;>grind [Bl]
theorem ahk{rs:List aX}(h:Bl rs=0):∀x∈rs,l6 x=0:=by induction rs<;>grind [Bl,l6]
noncomputable def oV(rs:List aX)(a:Nat):Int:=if(100:Int)<(a:Int)then 5 else Bl rs
def SY:(prog.info? 192).map (·.size)=some 8:=aC
def xO(r:aX):∀v∈r.v,v.oneCell'=true:=by
 intro v a;unfold aX.v at a;simp at a;rcases a with rfl|rfl|rfl|rfl|rfl|rfl|rfl|rfl<;>rfl
def MG:aP:=[.bool false,.slice none 0 0,.slice none 0 0,.slice none 0 0,.int .i64 0,.int .i64 0,.int .i64 0,.string ⟨#[]⟩]
def amW{a:Prop}(e:a:=by
 go_upto_region 1 with(fail);generalize aG:alloc w _=wA;have bA:=dX aG [.slice pa pn pc] 152;have EA:=O (dS aG);have c0:=bA.cell' (i:=0) F;clear aG bA;by_cases uW:(100:Int)<(pn:Int)
 ·have d1:=bV uW;have d2:=cO (100<pn);have HV:=O (show E=5 by rw[<-HE.out];unfold oV;rw[aN uW]);clear uW HE;go_wp2;go_ret;exact⟨by rw[HV.out];rfl,EA⟩
 have d1:=bg uW;have d2:=bU (100<pn);have HV:=O (show E=Bl rs by rw[<-HE.out];unfold oV;rw[aJ uW]);clear HE;go_wp2;go_loopw [13] (λi wr=>∃k:Nat,k<=pn/\i= .int .i64 (k:Int)/\(∀x∈rs.take k,l6 x=0)/\aj w wr) (λi _=>pn - (intOf i).toNat)
 ·exact⟨0,J,F,aB,EA⟩
 ·obtain⟨k,hk,rfl,gu,e1⟩:=hrel;obtain⟨E1,uw⟩:=aA e1 gu;clear e1 gu;by_cases aS:k<pn
  ·obtain⟨r,kQ⟩:∃r,rs[k]? =some r:=⟨rs[k]'(by rw[oK.hl];exact aS),aB⟩;obtain⟨A,rfl,dD⟩:=(oK.ext E1).at kQ;obtain⟨gW,eP,dQ,tH⟩:=bT dD ((oK.ok r (f_ kQ)).ext E1) (aX.len r) kQ;clear dD kQ;have LG:=xO r;go_wp2_with (first|(refine bZ F (gD (i:=k) F F F underlying150 SY aS _) ?_)|(refine bZ F (cB F F gW Jq dQ) ?_)|(refine aZ F _ (.tmp 4) _ F F F (au.bK (vs:=MG) F F) Jq F dQ LG ?_));intro wB bB uB;have eB:aj wr wB:=uB.ext ((aj.refl wr).alloc _) (aQ _);obtain⟨BB,EB,tF⟩:=aW bB (E1.ext eB) (eP.ext eB);clear bB uB eB;generalize wr.heap.size=gr at*;go_wp2_with (refine dA F 192 (.tmp 4) F F BB Jq dQ ?_);refine(LD r wB tF).mono ?_;rintro e wC ⟨rfl,eC⟩;have EC:=O (EB.ext eC);clear eC;by_cases h0:l6 r=0
   ·have q1:(l6 r != 0)=false:=by simp[h0]
    have q2:=bV h0;have HN:=O (show∀x∈rs.take (k+1),l6 x=0 from λx hx=>by
     rw[ny,tH.out,kU]at hx;rcases hx with hx|hx
     ·exact uw x hx
     ·simp at hx;rw[hx];exact h0)
    generalize l6 r=er at*;subst h0;go_wp2;go_roundw
    ·exact⟨k+1,J,by go_num,HN,EC⟩
    ·exact fV
   ·have q1:(l6 r != 0)=true:=by simp[h0]
    have q2:=bg h0;have HN:=O (HV.trans (ahl tH uw h0));generalize l6 r=er at*;go_wp2;go_ret;exact⟨by rw[HN.out];rfl,EC⟩
  ·obtain rfl:k=pn:=J;have kP:=uw.out;rw[gY (by rw[oK.hl];exact aQ _)]at kP;have HR:=O (HV.trans (ahm kP));clear kP;go_wp2;go_ret;exact⟨by rw[HR.out];rfl,E1⟩):a:=e
def Y8(pa:aO)(pn pc:Nat)(rs:List aX)(w:World)(a:qj w pa pn pc rs):
 eO 135 #[.agg #[.slice pa pn pc]] w (.int .i64 (oV rs pn)):=by
 have oK:=O a;have c:pn<=140737488355328:=by have:=a.hnc;have:=a.hm;omega
 have LD:=O (λr w' h=>ald r w' h);clear a;obtain⟨E,b⟩:=aF (oV rs pn);have HE:=O b;rw[b];clear b;go_enter func135,ntmps135;exact amW
structure aot where
 st:Int
 en:Int
 at_:Int
 er:Int
def jL(l:ah):Int:=match Lib.atoiAll l with| .ok v=>v| .range=>Lib.atoiSat l|_=>0
def ES(l:ah):Bool:=match Lib.atoiAll l with| .ok _=>true|_=>false
structure aos where
 n:Int
 rest:ah
 ok:Bool
def Cn(c:UInt8):Bool:=decide (48<=c.toNat)&&decide (c.toNat<=57)
def OL(d:Nat)(h:d<10):(UInt8.ofNat (48+d)).toNat=48+d:=by
 rw[FL];omega
def abI:∀(l:ah) (acc u d:Nat),Lib.parseUint10 acc l= .ok u->d<10->u<1844674407370955161->Lib.parseUint10 acc (l++[UInt8.ofNat (48+d)])= .ok (u*10+d)
 |[],acc,u,d,h,a,b=>by
  simp only[Lib.parseUint10]at h;injection h with h;subst h;have h1:=OL d a;simp only[zi,Lib.parseUint10,h1];rw[aN J,aJ J,aJ J]
  congr 1
  omega
 |c::r,acc,u,d,h,a,b=>by
  simp only[Lib.parseUint10,cons_append]at h⊢;split at h
  ·split at h
   ·cases h
   ·split at h
    ·cases h
    ·rename_i h1 e f;rw[aN h1,aJ e,aJ f];exact abI r _ u d h a b
  ·cases h
def ajT(u:Nat):u<18446744073709551610->Lib.parseUint10 0 (Lib.decDigits u)= .ok u:=by
 induction u using Nat.strongRecOn with
 |_ u a=>
  intro b;rw[Lib.decDigits];by_cases h:u<10
  ·rw[zW h];have h1:=OL u h;simp only[Lib.parseUint10,h1];rw[aN J,aJ J,aJ J]
   congr 1
   omega
  ·rw[FI h,abI _ 0 (u / 10) (u%10) (a (u / 10) J J) J J]
   congr 1
   omega
def Zh(u:Nat):∀c∈Lib.decDigits u,Cn c=true:=by
 induction u using Nat.strongRecOn with
 |_ u d=>
  intro c a;rw[Lib.decDigits]at a;by_cases h:u<10
  ·rw[zW h]at a;have:c=UInt8.ofNat (48+u):=by simpa using a
   subst this;have b:=OL u h;simp[Cn,b];omega
  ·rw[FI h]at a;rcases kU.1 a with a|a
   ·exact d (u / 10) J c a
   ·have:c=UInt8.ofNat (48+u%10):=by simpa using a
    subst this;have b:=OL (u%10) J;simp[Cn,b];omega
def UO(u:Nat):Lib.decDigits u≠[]:=by
 rw[Lib.decDigits];split<;>simp
def Ow{n:Int}(h:0<=n):Lib.itoa n=Lib.decDigits n.toNat:=by unfold Lib.itoa;rw[aJ J]
def aiu{n:Int}(h:0<=n):∀c∈Lib.itoa n,Cn c=true:=by rw[Ow h];exact Zh _
def YW{n:Int}(h:0<=n)(g:n<=9223372036854775807):Lib.atoiAll (Lib.itoa n)= .ok n:=by
 have a:=aiu h;rw[Ow h]at a⊢;have d:=ajT n.toNat J;have f:=UO n.toNat;cases b:Lib.decDigits n.toNat with
 |nil=>exact absurd b f
 |cons c r=>
  rw[b]at d a;have e:=a c aB;simp only[Cn,qZ,tJ]at e;unfold Lib.atoiAll;simp only;rw[aJ J];unfold Lib.parseMag;rw[aJ aB,d];simp only;rw[aJ J,aJ J,aJ J]
  congr 1
  omega
def ajw{n:Int}(h:0<=n)(a:n<=9223372036854775807):ES (Lib.itoa n)=true:=by unfold ES;rw[YW h a]
def ajv{n:Int}(h:0<=n)(a:n<=9223372036854775807):jL (Lib.itoa n)=n:=by unfold jL;rw[YW h a]
def UN:∀(k u:Nat),u<10^(k+1)->(Lib.decDigits u).length<=k+1
 |0,u,h=>by rw[Lib.decDigits,zW (by simpa using h)];simp
 |k+1,u,h=>by
  rw[Lib.decDigits];by_cases h1:u<10
  ·rw[zW h1];simp
  ·rw[FI h1,bQ];have:=UN k (u / 10) (by rw[Qn]at h;omega);simp;omega
def JN{n:Int}(a: -9223372036854775808<=n)(h1:n<=9223372036854775807):(Lib.itoa n).length<=20:=by
 unfold Lib.itoa;split
 ·have:=UN 18 n.natAbs (by simp;omega);simp;omega
 ·have:=UN 18 n.toNat (by simp;omega);omega
section
open Go Go.RowKit Go.Lib
def aaB(b c:UInt8)(l:ah):index (b::l) [c]=if c=b then 0 else if index l [c]== -1 then -1 else index l [c]+1:=by
 have e:index (b::l) [c]=if([c]:ah).isPrefixOf (b::l)=true then 0 else if index l [c]== -1 then -1 else index l [c]+1:=F
 rw[e];by_cases h:c=b
 ·rw[aN h];subst h;rw[aN (by simp[List.isPrefixOf])]
 ·rw[aJ h];have:([c]:ah).isPrefixOf (b::l)=false:=by simp[List.isPrefixOf,h]
  rw[this,aJ aB]
def amr(c:UInt8)(k:Nat)(l:ah):splitK [c] 0 (k+1) (c::l)=[]::splitK [c] 0 k l:=by
 have a:index (c::l) [c]=0:=by rw[aaB,aN F]
 rw[splitK,aJ (by rw[a];decide),a];rfl
def QH(b:UInt8):List (ah)->List (ah)
 |[]=>[[b]]
 |x::r=>(b::x)::r
def ams{b c:UInt8}(h:b≠c)(k:Nat)(l:ah):splitK [c] 0 k (b::l)=QH b (splitK [c] 0 k l):=by
 cases k with
 |zero=>rfl
 |succ k=>
  have a:=aaB b c l;rw[aJ (λe=>h e.symm)]at a;by_cases d:(index l [c]== -1)=true
  ·rw[aN d]at a;have f:splitK [c] 0 (k+1) (b::l)=[b::l]:=by unfold splitK;rw[a];rfl
   have g:splitK [c] 0 (k+1) l=[l]:=by unfold splitK;rw[aN d]
   rw[f,g];rfl
  ·rw[aJ d]at a;have o:=index_ge l [c];have p:¬index l [c]= -1:=λe=>d (yj.2 e);obtain⟨i,j⟩:∃i:Nat,index l [c]=i:=⟨(index l [c]).toNat,J⟩;have m:(index (b::l) [c]).toNat=i+1:=by rw[a,j];omega
   have n:(index l [c]).toNat=i:=by rw[j];omega
   have f:splitK [c] 0 (k+1) (b::l)=(b::l).take (i+1)::splitK [c] 0 k ((b::l).drop (i+1+1)):=by
    rw[splitK,aJ (by rw[a,j];intro e;have:=yj.1 e;omega),m];rfl
   have g:splitK [c] 0 (k+1) l=l.take i::splitK [c] 0 k (l.drop (i+1)):=by
    rw[splitK,aJ d,n];rfl
   rw[f,g];rfl
def oG(c:UInt8):ah->List (ah)
 |[]=>[[]]
 |b::l=>if b=c then[]::oG c l else QH b (oG c l)
def Xw(c:UInt8):∀l:ah,splitK [c] 0 (count l [c]) l=oG c l
 |[]=>by rw[count_one];rfl
 |b::l=>by
  unfold oG;by_cases h:b=c
  ·subst h;rw[aN F,count_cons_eq,Np,amr,Xw b l]
  ·rw[aJ h,count_cons_ne b c l h,ams h,Xw c l]
def Xv(c:UInt8):∀l:ah,oG c l≠[]
 |[]=>by simp[oG]
 |b::l=>by
  unfold oG;split
  ·simp
  ·cases hs:oG c l with
   |nil=>exact absurd hs (Xv c l)
   |cons x r=>simp[QH]
def wK(q:UInt8->Bool):ah->ah->List (ah)
 |dK,[]=>if dK=[]then[]else[dK]
 |dK,b::l=>if q b then(if dK=[]then wK q [] l else dK::wK q [] l)else wK q (dK++[b]) l
def Dp(b:UInt8):Bool:=b==32||b==9
def DZ(l:ah):List (ah):=wK Dp [] l
def aeB(q:UInt8->Bool):∀(x dK r:ah),(∀b∈x,q b=false)->wK q dK (x++r)=wK q (dK++x) r
 |[],dK,r,_=>by simp
 |b::x,dK,r,h=>by
  rw[cons_append]
  conv=>lhs;unfold wK
  rw[h b aB,aJ aB,aeB q x (dK++[b]) r (λc hc=>h c (by simp[hc]))];simp
def uS(r:Nat):Bool:=r==32||r==9
def agh(n a b c d:Nat)(h:a<128):decodeN n a b c d=(a,1):=by unfold decodeN;rw[aN h]
def agf(n a b c d:Nat)(h:¬a<128):128<=(decodeN n a b c d).1:=by grind [decodeN]
def tY(l:ah)(x:Nat×Nat):ah:=(l.drop x.1).take (x.2 - x.1)
def NH(l:ah)(c:Option Nat)(b:Nat):ah:=match c with|some a=>tY l (a,b)|none=>[]
def abN(l:ah)(a b k:Nat)(h:a<=b):tY l (a,b)++(l.drop b).take k=tY l (a,b+k):=by
 unfold tY;simp only;have e:l.drop b=(l.drop a).drop (b - a):=by rw[tK];congr 1;omega
 rw[e,show b+k - a=(b - a)+k by omega,<-take_add]
def abO(l:ah){a b:Nat}(h:a<b)(c:b<=l.length):tY l (a,b)≠[]:=by grind [tY,List.length,length_take,length_drop,length_nil]
def ami(s:ByteArray):∀(f d:Nat) (k:Option Nat) (g:List (Nat×Nat)),s.size<=d+f->d<=s.size->(∀a,k=some a->a<d)->
 (closeSpans s (spansFromP uS s f d k g)).map (tY s.data.toList)=g.map (tY s.data.toList)++wK Dp (NH s.data.toList k d) (s.data.toList.drop d):=by
 have ab:s.data.toList.length=s.size:=by first|rfl|simp
 have A:∀(d:Nat) (k:Option Nat) (g:List (Nat×Nat)),¬d<s.size->d<=s.size->(∀a,k=some a->a<d)->(closeSpans s (g,k)).map (tY s.data.toList)=g.map (tY s.data.toList)++wK Dp (NH s.data.toList k d) (s.data.toList.drop d):=by
  intro d k g B q l;obtain rfl:d=s.size:=J;rw[FP J];unfold closeSpans wK NH;cases k with
  |none=>simp
  |some a=>
   have:=abO s.data.toList (l a F) J;simp[this]
 intro f;induction f with
 |zero=>
  intro d k g B q l;exact A d k g J q l
 |succ f m=>
  intro d k g B q l;by_cases p:d<s.size
  ·have n:=decode_N s d;have N:=decode_width_pos s d p;obtain⟨b,D⟩:∃b,s.data.toList[d]? =some b:=⟨s.data.toList[d]'J,aB⟩;have G:s.data.toList.getD d 0=b:=by rw[Hl,D];rfl
   have E:s.data.toList.drop d=b::s.data.toList.drop (d+1):=by
    obtain⟨T,R⟩:=iK.1 D;rw[<-R];exact FJ T
   obtain⟨r,i,z⟩:∃r i,Utf8.decode s d=(r,i):=⟨_,_,F⟩;rw[G]at n;have v:spansFromP uS s (f+1) d none g=if uS r=true then spansFromP uS s f (d+i) none g else spansFromP uS s f (d+i) (some d) g:=by
    conv=>lhs;unfold spansFromP
    rw[aN p,z]
   have w:∀a,spansFromP uS s (f+1) d (some a) g=if uS r=true then spansFromP uS s f (d+i) none (g++[(a,d)])else spansFromP uS s f (d+i) (some a) g:=by
    intro a
    conv=>lhs;unfold spansFromP
    rw[aN p,z]
   rw[z]at n N;simp only at N;by_cases I:b.toNat<128
   ·rw[agh _ _ _ _ _ I]at n;injection n with V aa;subst V aa;have t:uS b.toNat=Dp b:=by
     unfold uS Dp
     congr 1
     ·rw[Cc,yj,yj,<-M5];rfl
     ·rw[Cc,yj,yj,<-M5];rfl
    rw[E]
    conv=>rhs;rw[wK]
    cases u:Dp b with
    |true=>
     cases k with
     |none=>
      have:=m (d+1) none g J J (λa h=>by cases h);rw[v,t,u,aN F,this];rfl
     |some a=>
      have:=m (d+1) none (g++[(a,d)]) J J (λa h=>by cases h);rw[w,t,u,aN F,this];have U:¬NH s.data.toList (some a) d=[]:=abO s.data.toList (l a F) J;rw[aN F,aJ U];simp[NH]
    |false=>
     have M:(s.data.toList.drop d).take 1=[b]:=by rw[E];rfl
     cases k with
     |none=>
      have:=m (d+1) (some d) g J J (λa h=>by cases h;omega);rw[v,t,u,aJ aB,aJ aB,this]
      congr 2
      show tY s.data.toList (d,d+1)=[]++[b];unfold tY;simp only;rw[show d+1 - d=1 by omega,M];rfl
     |some a=>
      have ha:=l a F;have:=m (d+1) (some a) g J J (λP h=>by cases h;omega);rw[w,t,u,aJ aB,aJ aB,this]
      congr 2
      show tY s.data.toList (a,d+1)=tY s.data.toList (a,d)++[b];rw[<-abN _ _ _ _ J,M]
   ·have L:=agf (s.data.toList.length - d) b.toNat (s.data.toList.getD (d+1) 0).toNat (s.data.toList.getD (d+2) 0).toNat (s.data.toList.getD (d+3) 0).toNat I;have x:=decodeN_conts (s.data.toList.length - d) b.toNat (s.data.toList.getD (d+1) 0).toNat (s.data.toList.getD (d+2) 0).toNat (s.data.toList.getD (d+3) 0).toNat;have H:=decodeN_le_n' (s.data.toList.length - d) b.toNat (s.data.toList.getD (d+1) 0).toNat (s.data.toList.getD (d+2) 0).toNat (s.data.toList.getD (d+3) 0).toNat J;rw[<-n]at L x H;simp only at L x H;have K:uS r=false:=by unfold uS;rw[M4.2 J,M4.2 J];rfl
    have Q:∀c∈(s.data.toList.drop d).take i,Dp c=false:=by
     intro c hc;obtain⟨j,y⟩:=AU hc;have S:j<i:=by
      have:=(iK.1 y).1;rw[fP]at this;omega
     rw[uM S,qY]at y;have C:128<=c.toNat:=by
      have o:s.data.toList.getD (d+j) 0=c:=by rw[Hl,y];rfl
      obtain⟨k1,k2,k3,k4⟩:=x;rcases(show j=0∨j=1∨j=2∨j=3 by omega)with rfl|rfl|rfl|rfl
      ·rw[z8,G]at o;rw[<-o];omega
      ·have:=(k1 J).1;rw[o]at this;omega
      ·have:=(k2 J).1;rw[o]at this;omega
      ·have:=(k3 J).1;rw[o]at this;omega
     unfold Dp;rw[Qs,M4,M4];exact⟨λe=>by subst e;exact absurd C bS,λe=>by subst e;exact absurd C bS⟩
    have W:s.data.toList.drop d=(s.data.toList.drop d).take i++s.data.toList.drop (d+i):=by
     rw[<-tK,AX]
    rw[W,aeB _ _ _ _ Q];cases k with
    |none=>
     have:=m (d+i) (some d) g J J (λa h=>by cases h;omega);rw[v,K,aJ aB,this]
     congr 2
     show tY s.data.toList (d,d+i)=[]++(s.data.toList.drop d).take i;unfold tY;simp only;rw[show d+i - d=i by omega];rfl
    |some a=>
     have ha:=l a F;have:=m (d+i) (some a) g J J (λP h=>by cases h;omega);rw[w,K,aJ aB,this]
     congr 2
     show tY s.data.toList (a,d+i)=tY s.data.toList (a,d)++(s.data.toList.drop d).take i;rw[<-abN _ _ _ _ J]
  ·rw[spansFromP_end uS s (f+1) d k g p];exact A d k g p q l
def an0(s:ByteArray):(goFieldsP uS s).map (λx=>x.data.toList)=DZ s.data.toList:=by
 have h:=ami s s.size 0 none [] J J (λa h=>by cases h);unfold goFieldsP spansOfP;rw[zU];have b:((λx:ByteArray=>x.data.toList)∘λx:Nat×Nat=>s.extract x.1 x.2)=tY s.data.toList:=by
  funext x
  show(s.extract x.1 x.2).data.toList=tY s.data.toList x;rw[extract_data];rfl
 rw[b,h];rfl
end
def ET(l:ah):Nat:=l.foldl (λn b=>10*n+(b.toNat - 48)) 0
def l5(l:ah):Bool:= !l.isEmpty&&decide (l.length<=3)&& !(decide (l.headD 0=48)&& !decide (l=[48]))&&l.all Cn
def Pq(l:ah):Bool:=ES l&&decide (0<=jL l)&&decide (l.length<=3)&&decide (Lib.itoa (jL l)=l)
def agd(u:Nat):(Lib.decDigits u).headD 0=48->u=0:=by
 induction u using Nat.strongRecOn with
 |_ u f=>
  intro a;rw[Lib.decDigits]at a;by_cases h:u<10
  ·rw[zW h]at a;have c:=OL u h;have d:UInt8.ofNat (48+u)=48:=by simpa using a
   rw[d]at c;have:(48:UInt8).toNat=48:=F;omega
  ·rw[FI h]at a;have e:=UO (u / 10);cases b:Lib.decDigits (u / 10)with
   |nil=>exact absurd b e
   |cons x r=>
    rw[b]at a;have:=f (u / 10) J (by rw[b];simpa using a);omega
def En{b:UInt8}(h:Cn b=true):48<=b.toNat/\b.toNat<=57:=by
 unfold Cn at h;simpa using h
def Zk{b:UInt8}(h:Cn b=true):UInt8.ofNat (48+(b.toNat - 48))=b:=by simp_all [En]
def UR{x:Nat}{b:UInt8}(a:0<x)(h:Cn b=true):Lib.decDigits (10*x+(b.toNat - 48))=Lib.decDigits x++[b]:=by
 have:=En h;rw[Lib.decDigits,FI J,show(10*x+(b.toNat - 48)) / 10=x by omega,show(10*x+(b.toNat - 48))%10=b.toNat - 48 by omega,Zk h]
def UQ{b:UInt8}(h:Cn b=true):Lib.decDigits (b.toNat - 48)=[b]:=by
 have:=En h;rw[Lib.decDigits,zW J,Zk h]
def abr{l:ah}(h:l5 l=true):ET l<1000:=by
 unfold l5 at h;simp only[qZ,tJ]at h;obtain⟨⟨⟨_,e⟩,_⟩,d⟩:=h;rw[z_]at d
 match l,e,d with
 |[],_,_=>decide
 |[a],_,d=>
  have:=En (d a aB);show 10*0+(a.toNat - 48)<1000;omega
 |[a,b],_,d=>
  have:=En (d a aB);have:=En (d b aB);show 10*(10*0+(a.toNat - 48))+(b.toNat - 48)<1000;omega
 |[a,b,c],_,d=>
  have:=En (d a aB);have:=En (d b aB);have:=En (d c aB);show 10*(10*(10*0+(a.toNat - 48))+(b.toNat - 48))+(c.toNat - 48)<1000;omega
def abo{a:UInt8}(h:Cn a=true)(b:a≠48):0<a.toNat - 48:=by
 have:=En h;have:a.toNat≠48:=λe=>b (M5.1 e);omega
def abq{l:ah}(h:l5 l=true):Lib.decDigits (ET l)=l:=by
 unfold l5 at h;simp only[qZ,tJ]at h;obtain⟨⟨⟨k,j⟩,f⟩,d⟩:=h;rw[z_]at d
 match l,k,j,f,d with
 |[a],_,_,_,d=>
  have e:=d a aB;show Lib.decDigits (10*0+(a.toNat - 48))=[a];rw[G_,kD];exact UQ e
 |[a,b],_,_,f,d=>
  have e:=d a aB;have g:=d b aB;have ha:a≠48:=by
   rintro rfl;simp at f
  show Lib.decDigits (10*(10*0+(a.toNat - 48))+(b.toNat - 48))=[a,b];rw[G_,kD,UR (abo e ha) g,UQ e];rfl
 |[a,b,c],_,_,f,d=>
  have e:=d a aB;have g:=d b aB;have i:=d c aB;have ha:a≠48:=by
   rintro rfl;simp at f
  have:=abo e ha;show Lib.decDigits (10*(10*(10*0+(a.toNat - 48))+(b.toNat - 48))+(c.toNat - 48))=[a,b,c];rw[G_,kD,UR J i,UR this g,UQ e];rfl
def Ta(l:ah):Pq l=l5 l/\(l5 l=true->jL l=ET l):=by
 have d:l5 l=true->ES l=true/\jL l=ET l:=by
  intro h;have b:=abq h;have k:=abr h;have e:Lib.itoa (ET l:Int)=l:=by rw[Ow J,su,b]
  have k1:=ajw (n:=(ET l:Int)) J J;have k2:=ajv (n:=(ET l:Int)) J J;rw[e]at k1 k2;exact⟨k1,k2⟩
 refine⟨?_,λh=>(d h).2⟩;rw[Cc]
 constructor
 ·intro h;unfold Pq at h;simp only[qZ,tJ]at h;obtain⟨⟨⟨_,f⟩,j⟩,a⟩:=h;rw[Ow f]at a;unfold l5;simp only[qZ,tJ];refine⟨⟨⟨?_,j⟩,?_⟩,?_⟩
  ·rw[<-a];cases b:Lib.decDigits (jL l).toNat with
   |nil=>exact absurd b (UO _)
   |cons x r=>rfl
  ·by_cases c:l.headD 0=48
   ·rw[<-a]at c;have g:=agd _ c;rw[g]at a;have i:l=[48]:=by
     rw[<-a,Lib.decDigits,zW bS];rfl
    simp[i]
   ·rw[bg c];rfl
  ·rw[z_];rw[<-a];exact Zh _
 ·intro h;obtain⟨k1,k2⟩:=d h;have k:=abr h;unfold Pq;simp only[qZ,tJ];refine⟨⟨⟨k1,J⟩,?_⟩,?_⟩
  ·unfold l5 at h;simp only[qZ,tJ]at h;exact h.1.1.2
  ·rw[k2,Ow J,su];exact abq h
def DY:ByteArray:=⟨#[100,101,110,121]⟩
def Ko:ByteArray:=⟨#[97,108,108,111,119]⟩
def BJ:ByteArray:=⟨#[114,111,108,101]⟩
def zK:ByteArray:=⟨#[97,99,116]⟩
def BI:ByteArray:=⟨#[111,110]⟩
def zL:ByteArray:=⟨#[97,116]⟩
def zM:ByteArray:=⟨#[110,101,101,100]⟩
def yu:bq:=[⟨#[112,111,108,105,99,121]⟩,⟨#[101,110,114,111,108,108]⟩,⟨#[100,105,115,109,105,115,115]⟩,⟨#[99,114,101,97,116,101]⟩,⟨#[114,111,116,97,116,101]⟩,⟨#[117,115,101]⟩,⟨#[114,101,118,111,107,101]⟩,⟨#[97,112,112,114,111,118,101]⟩,⟨#[101,115,99,114,111,119]⟩,⟨#[114,101,99,111,118,101,114]⟩,⟨#[98,97,99,107,117,112]⟩,⟨#[114,101,115,116,111,114,101]⟩]
def Gq(x:ByteArray):Bool:=decide (x=BJ)||decide (x=zK)||decide (x=BI)||decide (x=zL)||decide (x=zM)
def lJ(a:ByteArray):bq->Bool
 |[]=>false
 |x::_=>decide (x=a)
def GD(ws:bq):Nat:=(ws.takeWhile λx=> !Gq x).length
def xP(a:ByteArray)(ws:bq):bq:=if lJ a ws then ws.tail.take (GD ws.tail)else[]
def CY(a:ByteArray)(ws:bq):bq:=if lJ a ws then ws.tail.drop (GD ws.tail)else ws
def aes{ws:bq}{k:Nat}(a:k<=ws.length)(d:∀x∈ws.take k,Gq x=false)(c:∀x,ws[k]? =some x->Gq x=true):GD ws=k:=by
 induction ws generalizing k with
 |nil=>simp at a;subst a;rfl
 |cons y ws e=>
  unfold GD at e⊢;cases k with
  |zero=>
   have:=c y F;simp[this]
  |succ k=>
   have f:=d y aB;have g:=e (k:=k) (by simpa using a) (λx b=>d x (by simp[b])) (λx b=>c x (by simpa using b));simp[f,g]
def Ak(x:ByteArray):bq->Option Nat
 |[]=>none
 |y::r=>if y=x then some 0 else(Ak x r).map (· +1)
def aay{x:ByteArray}:∀{l:bq},Ak x l=none↔x∉l
 |[]=>by simp[Ak]
 |y::r=>by
  unfold Ak;by_cases h:y=x
  ·subst h;simp
  ·rw[aJ h];simp only[Option.map_eq_none_iff,aay (l:=r),gM,not_or];exact⟨λk=>⟨λe=>h e.symm,k⟩,λk=>k.2⟩
def aaz{x:ByteArray}:∀{l:bq} {k:Nat},l[k]? =some x->x∉l.take k->Ak x l=some k
 |[],k,h,_=>by simp at h
 |y::r,0,h,_=>by
  simp at h;unfold Ak;rw[aN h]
 |y::r,k+1,h,hn=>by
  rw[uN]at h;rw[pE,gM,not_or]at hn;unfold Ak;rw[aJ (λe=>hn.1 e.symm),aaz h hn.2];rfl
def Aj(x:ByteArray)(l:bq):Int:=match Ak x l with|some k=>k|none=> -1
def aax{x:ByteArray}:∀{l:bq} {k:Nat},Ak x l=some k->k<l.length
 |[],k,h=>by simp[Ak]at h
 |y::r,k,h=>by
  unfold Ak at h;by_cases e:y=x
  ·rw[aN e]at h;injection h with h;subst h;simp
  ·rw[aJ e]at h;cases hr:Ak x r with
   |none=>rw[hr]at h;cases h
   |some j=>
    rw[hr]at h;have:=aax hr;simp at h;simp;omega
def ahY(x:ByteArray)(l:bq): -1<=Aj x l/\Aj x l<l.length:=by
 unfold Aj;cases h:Ak x l with
 |none=>exact⟨bS,by show(-1:Int)<_;omega⟩
 |some k=>
  have:=aax h;exact⟨by show(-1:Int)<=(k:Int);omega,by show(k:Int)<_;omega⟩
def sF(x:ByteArray):Int:=Aj x yu+1
def Ej(l:bq):Bool:=l.all λx=>decide (sF x≠0)
theorem Yy(x:ByteArray):0<=sF x/\sF x<=12:=by
 have h:=ahY x yu;have a:yu.length=12:=F;unfold sF;omega
theorem ahZ(x:ByteArray):Aj x (⟨#[]⟩::yu)=if x=⟨#[]⟩then 0 else if sF x=0 then -1 else sF x:=by grind [Aj,Ak,sF]
theorem ae5:sF ⟨#[]⟩=0:=bS
def akz(x:ByteArray):decide (Aj x (⟨#[]⟩::yu)<1)=decide (sF x=0)/\(sF x≠0->Aj x (⟨#[]⟩::yu)=sF x):=by grind [sF,Aj,yu,Yy,ahZ,ae5]
def yE(x:ByteArray):ah×ah×Bool:=Lib.cut x.data.toList [45]
def LA(ws:bq):Bool:=lJ DY ws||lJ Ko ws
def Ol(x:ByteArray):Bool:=(yE x).2.2&&l5 (yE x).1&&l5 (yE x).2.1
def Bc:bq->Bool
 |[x]=>Ol x
 |_=>false
def Gj:bq->Bool
 |[x,_]=>l5 x.data.toList
 |_=>false
def QY:bq->Int
 |[x]=>ET (yE x).1
 |_=>0
def Tq:bq->Int
 |[x]=>ET (yE x).2.1
 |_=>0
def RN:bq->Int
 |[x,_]=>ET x.data.toList
 |_=>0
def RU:bq->ByteArray
 |[_,y]=>y
 |_=>⟨#[]⟩
structure aow where
 roles:bq
 acts:bq
 labels:bq
 at_:bq
 need:bq
 rest:bq
def Mr(ws:bq):bq:=ws.tail
def Ms(ws:bq):bq:=CY BJ (Mr ws)
def PI(ws:bq):bq:=CY zK (Ms ws)
def Mt(ws:bq):bq:=CY BI (PI ws)
def Mv(ws:bq):bq:=CY zL (Mt ws)
def IQ(ws:bq):bq:=CY zM (Mv ws)
def wu(ws:bq):bq:=xP BJ (Mr ws)
def pJ(ws:bq):bq:=xP zK (Ms ws)
def vX(ws:bq):bq:=xP BI (PI ws)
def kg(ws:bq):bq:=xP zL (Mt ws)
def lT(ws:bq):bq:=xP zM (Mv ws)
def vg(ws:bq):Bool:=
 LA ws&&(!lJ BJ (Mr ws)|| !(wu ws).isEmpty)&&(!lJ zK (Ms ws)||(Ej (pJ ws)&& !(pJ ws).isEmpty))&&
 (!lJ BI (PI ws)|| !(vX ws).isEmpty)&&(!lJ zL (Mt ws)||Bc (kg ws))&&(!lJ zM (Mv ws)||Gj (lT ws))&&(IQ ws).isEmpty
def J6(ws:bq):aX:=
 {
  deny:=lJ DY ws,ra:=none,rn:=(wu ws).length,rc:=0,roles:=wu ws,aa:=none,an:=(pJ ws).length,ac:=0,acts:=(pJ ws).map sF,
  la:=none,ln:=(vX ws).length,lc:=0,labels:=vX ws,fr:=QY (kg ws),tt:=Tq (kg ws),nd:=RN (lT ws),ow:=RU (lT ws)}
def Wj(ws:bq):Bool:=
 LA ws&&(!lJ BJ (Mr ws)|| !(wu ws).isEmpty)&&(!lJ zK (Ms ws)|| !(pJ ws).isEmpty)&&(!lJ BI (PI ws)|| !(vX ws).isEmpty)&&
 (!lJ zL (Mt ws)|| !(kg ws).isEmpty)&&(!lJ zM (Mv ws)|| !(lT ws).isEmpty)&&(IQ ws).isEmpty&&Ej (pJ ws)&&((kg ws).isEmpty||Bc (kg ws))&&((lT ws).isEmpty||Gj (lT ws))
def SL{a:ByteArray}{ws:bq}(h:lJ a ws=false):xP a ws=[]:=by
 unfold xP;rw[h];rfl
def Wn(ws:bq):Wj ws=vg ws:=by
 unfold Wj vg;have a:lJ zK (Ms ws)=false->pJ ws=[]:=SL;have b:lJ zL (Mt ws)=false->kg ws=[]:=SL;have c:lJ zM (Mv ws)=false->lT ws=[]:=SL;have o:Ej []=true:=F;have p:([]:bq).isEmpty=true:=F;have kV:(kg ws).isEmpty=true->Bc (kg ws)=false:=by
  intro h;rw[FB.1 h];rfl
 have t:(lT ws).isEmpty=true->Gj (lT ws)=false:=by
  intro h;rw[FB.1 h];rfl
 cases q:lJ zK (Ms ws)<;>cases r:lJ zL (Mt ws)<;>cases s:lJ zM (Mv ws)
 all_goals
  (try rw[a q])
  (try rw[b r])
  (try rw[c s])
  generalize LA ws=d;generalize (!lJ BJ (Mr ws)|| !(wu ws).isEmpty)=e;generalize (!lJ BI (PI ws)|| !(vX ws).isEmpty)=f;generalize (IQ ws).isEmpty=g
 all_goals (revert kV t;(try simp only[o,p]);generalize (kg ws).isEmpty=i;generalize (lT ws).isEmpty=j;generalize (pJ ws).isEmpty=k;generalize Bc (kg ws)=l;generalize Gj (lT ws)=m;generalize Ej (pJ ws)=n;revert d e f g i j k l m n;decide)
def IV(l:ah):bq:=(DZ (Lib.cut l [35]).1).map bN
def rM(s:ah):List (bq):=(oG 10 s).map IV
def JC(ws:bq):Bool:=ws.isEmpty||vg ws
def E_(ls:List (bq)):List aX:=(ls.filter λws=> !ws.isEmpty).map J6
def Cj:List (bq)->Option Nat
 |[]=>none
 |ws::r=>if JC ws then(Cj r).map (· +1)else some 0
def afz{ls:List (bq)}(h:∀ws∈ls,JC ws=true):Cj ls=none:=by induction ls<;>grind [Cj]
def afA{ls:List (bq)}{k:Nat}{ws:bq}(a:ls[k]? =some ws)(b:∀x∈ls.take k,JC x=true)(c:JC ws=false):Cj ls=some k:=by
 induction ls generalizing k with
 |nil=>simp at a
 |cons x ls e=>
  cases k with
  |zero=>
   simp at a;subst a;unfold Cj;rw[aJ (by rw[c];simp)]
  |succ k=>
   rw[uN]at a;rw[pE]at b;unfold Cj;rw[aN (b x aB),e a λy d=>b y (yg _ d)];rfl
def acL{ls:List (bq)}{k:Nat}{ws:bq}(a:ls[k]? =some ws):E_ (ls.take (k+1))=E_ (ls.take k)++(if ws.isEmpty then[]else[J6 ws]):=by
 unfold E_;rw[ny,a,Nj,jv]
 congr 1
 cases h:ws.isEmpty with
 |true=>simp[List.filter,h]
 |false=>simp[List.filter,h]
section
structure wO(P:Program)(t e:TypeId)(z y:Nat):Prop where
 hu:P.underlying t=some (.slice e)
 info:∃i0 z0,P.info? e=some i0/\i0.zero=some z0/\i0.size=z/\i0.bytes=y/\z0.cells.size=z
 pos:0<z
def Wp{P:Program}{f:Sem Value}{w w' c:World}{v a:Value}{b:Option Nat}(d:f.run P w= .ok v c)(e:f.run P w= .ok a w')(g:v.ownBlock=b):a.ownBlock=b:=by grind
section
variable {P:Program} {t e:TypeId} {z y:Nat}
def YR(T:wO P t e z y)(ty:TypeId)(w:World)(B:Nat){v:Value}{n m c:Nat}{xs news:aP}{a:Addr}(f:w.ownsRow B e z v n xs)(o:news.length=m*z)(k:∀j u,news[j]? =some u->w.cell? (a.add j)=some u)(A:∀u∈news,u.oneCell'=true)
 (N:n+m<=140737488355328)(C:(n+m)*y<=140737488355328)(H:B<=w.heap.size):
 ∃d w',(Builtin.append_ #[t,t] ty #[v,.slice (some a) m c]).run P w= .ok d w'/\w'.ownsRow B e z d (n+m) (xs++news)/\w.grownBy w' v.ownBlock/\
  (d.ownBlock=v.ownBlock∨d.ownBlock=some w.heap.size):=by
 obtain⟨b,x,l,s,i,q,L⟩:=T.info;obtain⟨d,w',p,D,E,G⟩:=run_append_own (P:=P) w B t ty e b x z y T.hu l s i q L T.pos v n xs f a m c news o k A (by unfold maxLen;omega) C H;refine⟨d,w',p,D,E,?_⟩;rcases f.2 with⟨rfl,rfl⟩|⟨g,cap,M,rfl,Q,U,V,R,S,W⟩
 ·by_cases I:m=0
  ·left
   rw[G.2 ⟨F,I⟩]
  ·right
   have r:news.length=m*b.size:=by rw[i];exact o
   have h:=run_append_nil (P:=P) w t ty e b x T.hu l s a m c news r k J J (by rw[q];rw[kD]at C;omega);exact Wp h p F
 ·by_cases K:n+m<=cap
  ·left
   obtain⟨aa,h,_⟩:=run_append_fits (P:=P) w B t ty e b z T.hu l i g n cap xs f a m c news o k A K;exact Wp h p F
  ·right
   have r:news.length=m*b.size:=by rw[i];exact o
   have h:=run_append_grow (P:=P) w t ty e b x T.hu l s ⟨g,0,none⟩ n cap xs (by rw[i];exact f.1) (f.cells (g:=g) F) a m c news r k J J (KN J (by rw[q];omega));exact Wp h p F
def afj(T:wO P t e z y)(ty:TypeId)(w:World)(B:Nat){v:Value}{n:Nat}{xs:aP}(b:w.ownsRow B e z v n xs):
 (Builtin.append_ #[t,t] ty #[v,.slice none 0 0]).run P w= .ok v w:=by
 obtain⟨c,i,a,g,f,d,h⟩:=T.info;exact run_append_owned_none (P:=P) (w:=w) B t ty e c z T.hu a v n xs b
def afh(T:wO P t e z y)(ty:TypeId)(w:World)(B:Nat){v:Value}{n m c:Nat}{xs news:aP}{a:aO}(d:w.ownsRow B e z v n xs)(f:news.length=m*z)(p:m<=c)(g:a=none->c=0)(l:aM w a news)(h:∀u∈news,u.oneCell'=true)
 (i:n+m<=140737488355328)(j:(n+m)*y<=140737488355328)(k:B<=w.heap.size):
 ∃b w',(Builtin.append_ #[t,t] ty #[v,.slice a m c]).run P w= .ok b w'/\w'.ownsRow B e z b (n+m) (xs++news)/\w.grownBy w' v.ownBlock/\
  (b.ownBlock=v.ownBlock∨b.ownBlock=some w.heap.size):=by
 cases a with
 |some a=>exact YR T ty w B d f (Gl l) h i j k
 |none=>
  obtain rfl:c=0:=g F;obtain rfl:m=0:=J;have o:news=[]:=by
   have:news.length=0:=by rw[f];omega
   exact qm.1 this
  subst o;refine⟨v,w,afj T ty w B d,by simpa using d,⟨F,F,F,aQ _,λ_ _ _=>rfl⟩,.inl F⟩
variable {ops:Array Oper} {rest:List Oper} {o:Oper} {a:Act} {w:World} {Q:Exit->Act->World->Prop}
def yY(T:wO P t e z y)(C:o.guard=none)(s x:Operand)(G:o.op= .call {callee:= .builtin .append,args:= #[s,x],argTypes:= #[t,t]})(B:Nat){v:Value}{n m c:Nat}{xs news:aP}{d:aO}
 (hs:a.eval s=v)(K:a.eval x= .slice d m c)(H:w.ownsRow B e z v n xs)(D:news.length=m*z)(E:m<=c)(f:d=none->c=0)(A:aM w d news)(g:∀u∈news,u.oneCell'=true)
 (l:n+m<=140737488355328)(q:(n+m)*y<=140737488355328)(r:B<=w.heap.size)
 (h:∀b w',w'.ownsRow B e z b (n+m) (xs++news)->w.grownBy w' v.ownBlock->(b.ownBlock=v.ownBlock∨b.ownBlock=some w.heap.size)->wpList P ops Q rest (a.put o.dst b) w'):wpList P ops Q (o::rest) a w:=by
 obtain⟨b,w',I,i,j,k⟩:=afh T o.type w B H D E f A g l q r;exact q8 C λL p=>Lib.wp_append_run w s x _ _ G v _ hs K b w' I (p _ _ (h b w' i j k))
end
section
variable {w w':World} {B B2:Nat} {e e2:TypeId} {z z2 n n2:Nat} {v v' v2:Value} {xs xs2:aP} {r:Option Nat}
def CQ(h:w.ownsRow B e z v n xs)(k:w.grownBy w' r)(a:∀g,v.ownBlock=some g->r≠some g):w'.ownsRow B e z v n xs:=by
 refine h.kept k ?_;cases b:v.ownBlock with
 |none=>exact .inl F
 |some g=>exact .inr (λe=>a g b e.symm)
def Da(v v2:Value):Prop:=∀g,v.ownBlock=some g->v2.ownBlock≠some g
def Da.symm(h:Da v v2):Da v2 v:=λg a b=>h g b a
def Da.nil(c:Nat):Da (.slice none 0 c) v2:=λg h=>by cases h
def Da.abx(h:w.ownsRow B e z v n xs)(d:w.ownsRow B2 e2 z2 v2 n2 xs2)(i:e≠e2):Da v v2:=by
 intro g a b;rcases h.2 with⟨rfl,_⟩|⟨g1,j,l,rfl,_,f,_⟩
 ·cases a
 rcases d.2 with⟨rfl,_⟩|⟨o,k,m,rfl,_,c,_⟩
 ·cases b
 simp only[Value.ownBlock,wY]at a b;subst a;subst b;rw[f]at c;simp only[wY,Obj.cells.injEq]at c;exact i c.2.1
def Da.keep(h:Da v v2)(a:w.ownsRow B2 e2 z2 v2 n2 xs2)(k:w.grownBy w' v.ownBlock):w'.ownsRow B2 e2 z2 v2 n2 xs2:=
 CQ a k λg b c=>h g c b
def R3{g:Nat}{vs:aP}{T:TypeId}(h:w.ownsRow B e z v n xs)(a:au w g vs T)(d:e≠T):v.ownBlock≠some g:=by
 intro b;rcases h.2 with⟨rfl,_⟩|⟨g1,f,i,rfl,_,c,_⟩
 ·cases b
 simp only[Value.ownBlock,wY]at b;subst b;unfold au at a;rw[c]at a;simp only[wY,Obj.cells.injEq]at a;exact d a.2.1
def au.besides{g:Nat}{vs:aP}{T:TypeId}(a:au w g vs T)(h:w.ownsRow B e z v n xs)(k:w.grownBy w' v.ownBlock)(b:e≠T):au w' g vs T:=a.grown k (λe2=>R3 h a b e2.symm)
def zJ{g:Nat}(u:dF w g w'):w.grownBy w' (some g):=⟨u.os,u.tape,u.output,by rw[u.size];exact aQ _,λi _ a=>u.block i (λe=>a (by rw[e]))⟩
def JZ{g:Nat}{vs:aP}{T:TypeId}(h:w.ownsRow B e z v n xs)(u:dF w g w')(a:au w g vs T)(d:e≠T):w'.ownsRow B e z v n xs:=
 CQ h (zJ u) λf c b=>R3 h a d (by cases b;exact c)
theorem j3(h:w.ownsRow B e z v n xs):∃a c,v= .slice a n c/\n<=c/\(a=none->c=0)/\aM w a xs:=by
 have d:=h.1;rcases h.2 with⟨rfl,rfl⟩|⟨g,cap,k,rfl,_,l,f,_⟩
 ·have:xs=[]:=qm.1 (by rw[d];omega);subst this;exact⟨none,0,F,aQ _,λ_=>rfl,.inl F⟩
 ·refine⟨some ⟨g,0,none⟩,cap,F,f,(λh=>by cases h),Or.inr ⟨g,0,F,λi u j=> ?_⟩⟩;have:=h.cells (g:=g) F i u j;have b:(⟨g,0,none⟩:Addr).add i=⟨g,i,none⟩:=by unfold Addr.add;split<;>simp_all
  rw[b]at this;simpa using this
end
end
def aga:Go.Shelf.Ren:=⟨fun|145=>131 |217=>295 |219=>238 |220=>188 |224=>297 |225=>296 |266=>328 |267=>298 |314=>329 |n=>n,fun|3=>3 |4=>4 |5=>5 |9=>9 |46=>141 |51=>239 |59=>214 |146=>393 |n=>n,fun|1=>0 |n=>n⟩
def af9:Go.Proofs.Lays.n145 prog aga:=by repeat' first|kernel_rfl|(intro _;kernel_rfl)|constructor
def ait:Go.Shelf.Ren:=⟨fun|129=>224 |171=>141 |243=>195 |246=>255 |283=>305 |284=>306 |285=>307 |286=>308 |317=>336 |318=>337 |319=>338 |320=>339 |337=>347 |338=>348 |n=>n,fun|0=>0 |2=>2 |3=>3 |4=>4 |5=>5 |9=>9 |20=>20 |37=>32 |46=>141 |51=>239 |53=>246 |171=>376 |173=>378 |212=>402 |213=>403 |232=>30 |233=>77 |n=>n,fun|17=>1 |18=>6 |19=>7 |n=>n⟩
def ais:Go.Proofs.LaysM.n171 prog ait:=by repeat' first|kernel_rfl|(intro _;kernel_rfl)|constructor
def aft:Go.Shelf.Ren:=⟨fun|129=>224 |171=>141 |172=>239 |205=>346 |243=>195 |244=>299 |245=>300 |246=>255 |247=>330 |279=>331 |280=>332 |281=>333 |282=>334 |283=>305 |284=>306 |285=>307 |286=>308 |287=>344 |316=>345 |317=>336 |318=>337 |319=>338 |320=>339 |321=>350 |322=>351 |337=>347 |338=>348 |n=>n,fun|0=>0 |2=>2 |3=>3 |4=>4 |5=>5 |9=>9 |20=>20 |21=>21 |37=>32 |46=>141 |51=>239 |53=>246 |75=>290 |76=>291 |80=>293 |85=>396 |127=>343 |143=>419 |145=>421 |167=>395 |168=>398 |171=>376 |173=>378 |175=>411 |210=>415 |212=>402 |213=>403 |232=>30 |233=>77 |n=>n,fun|15=>4 |16=>5 |17=>1 |18=>6 |19=>7 |n=>n⟩
def Uz:Go.Proofs.LaysC.n172 prog aft:=by repeat' first|kernel_rfl|(intro _;kernel_rfl)|constructor
def amu:Go.Shelf.Ren:=⟨fun|138=>237 |143=>232 |146=>130 |195=>292 |197=>293 |217=>295 |218=>294 |219=>238 |221=>187 |224=>297 |225=>296 |260=>327 |266=>328 |267=>298 |268=>236 |314=>329 |n=>n,fun|0=>0 |3=>3 |4=>4 |5=>5 |9=>9 |21=>21 |31=>98 |46=>141 |51=>239 |105=>369 |119=>407 |138=>409 |139=>410 |146=>393 |n=>n,fun|1=>0 |3=>2 |4=>3 |n=>n⟩
def amt:Go.Proofs.Lays.n146 prog amu:=by repeat' first|kernel_rfl|(intro _;kernel_rfl)|constructor
def agX:Go.Shelf.Ren:=⟨fun|229=>132 |n=>n,fun|0=>0 |3=>3 |4=>4 |9=>9 |21=>21 |31=>98 |40=>217 |152=>274 |154=>276 |n=>n,fun|n=>n⟩
def ffL:Go.Proofs.Lays.n229 prog agX:=by repeat' first|kernel_rfl|(intro _;kernel_rfl)|constructor
structure KD(w:World):Prop where
 ml:∃m,w.cell? ⟨0,0,none⟩=some (.int .i64 m)
 pw:Lib.TabIs prog w "internal/strconv.uint64pow10" .u64 Lib.pow10Tab
 sy:∃te pe,w.cell? ⟨4,0,none⟩=some (.iface te pe)
 ra:∃te pe,w.cell? ⟨5,0,none⟩=some (.iface te pe)
def UJ{w w':World}{p:Addr}{v:Value}(h:w.cell? p=some v)(e:aj w w'):w'.cell? p=some v:=by
 rw[e.cell (kN h)];exact h
def ady{w w':World}{a:String}{k:IntKind}{zs:List Int}{g:Nat}(h:Lib.TabIs prog w a k zs)(b:prog.globalNamed a=some g)(e:aj w w'):Lib.TabIs prog w' a k zs:=by
 unfold Lib.TabIs World.var? at h⊢;rw[b]at h⊢;simp only[AV]at h⊢;have d:g<w.heap.size:=by
  by_cases c:g<w.heap.size
  ·exact c
  ·rw[Array.getElem?_eq_none J]at h;cases h
 rw[e.block g d];exact h
def KD.ext{w w':World}(h:KD w)(e:aj w w'):KD w':=by
 obtain⟨⟨m,a⟩,b,⟨j,f,c⟩,⟨k,i,d⟩⟩:=h;exact⟨⟨m,UJ a e⟩,ady (g:=1) b aC e,⟨j,f,UJ c e⟩,⟨k,i,UJ d e⟩⟩
def yU(l:ah):(bN l).data.toList=l:=by simp[bN]
def xQ(l:ah):(bN l).size=l.length:=by show l.toArray.size=_;simp
def Ze(l a:ah)(w:World)(c:l.length<4294967281)(b:∃m,w.cell? ⟨0,0,none⟩=some (.int .i64 m)):
 eO 131 #[.string (bN l),.string (bN a)] w (.tuple #[.string (bN (Lib.cut l a).1),.string (bN (Lib.cut l a).2.1),.bool (Lib.cut l a).2.2]):=by
 obtain⟨m,b⟩:=b;have h:=Any.strings_Cut af9 (bN l) (bN a) m w (by rw[xQ];exact c) b;rw[yU,yU]at h;refine h.mono ?_;rintro e w' ⟨rfl,n,rfl⟩;exact⟨F,(aj.refl w).drewN n⟩
def EN(n:Int)(w:World)(a: -9223372036854775808<=n)(b:n<=9223372036854775807)(c:Lib.TabIs prog w "internal/strconv.uint64pow10" .u64 Lib.pow10Tab):
 eO 141 #[.int .i64 n] w (.string (bN (Lib.itoa n))):=by
 refine(Any.strconv_Itoa ais n a b w c).mono ?_;rintro e w' ⟨rfl,k,os,rfl⟩;exact⟨F,Lib.below_grow _ w (aQ _) k os⟩
def afv(l:ah)(w:World)(b:l.length<=281474976710656)(h:ES l=true):
 eO 239 #[.string (bN l)] w (.tuple #[.int .i64 (jL l),.nilIface]):=by
 unfold ES at h;cases ha:Lib.atoiAll l with
 |range=>rw[ha]at h;cases h
 |ok v=>
  have a:jL l=v:=by unfold jL;rw[ha]
  rw[a];refine(Any.strconv_Atoi_ok Uz (bN l) (by rw[xQ];omega) v (by rw[yU];exact ha) w).mono ?_;rintro e w' ⟨rfl,rfl|⟨t,rfl⟩⟩
  ·exact⟨F,aj.refl _⟩
  ·exact⟨F,Lib.bytesWorld_below _ _ _⟩
 |_=>rw[ha]at h;cases h
def afu(l:ah)(w:World)(j:l.length<=281474976710656)(h:ES l=false)(i:KD w):
 Calls prog 239 #[.string (bN l)] w λe w'=>∃a,e= .returned (.tuple #[.int .i64 (jL l),.iface 398 (.pointer (some ⟨a,0,none⟩))])/\aj w w':=by
 obtain⟨_,_,⟨n,k,f⟩,⟨o,m,g⟩⟩:=i;unfold ES at h;cases ha:Lib.atoiAll l with
 |ok v=>rw[ha]at h;cases h
 |range=>
  have b:jL l=Lib.atoiSat l:=by unfold jL;rw[ha]
  rw[b];have d:=Any.strconv_Atoi_range Uz (bN l) (by rw[xQ];omega) (by rw[yU];exact ha) _ w g (.inr ⟨_,_,F⟩);rw[yU]at d;refine d.mono ?_;rintro e w' ⟨a,rfl, -, -,c⟩;exact⟨a,F,c⟩
 |_=>
  have b:jL l=0:=by unfold jL;rw[ha]
  rw[b];refine(Any.strconv_Atoi_syntax Uz (bN l) (by rw[xQ];omega) (by rw[yU];exact ha) _ w f (.inr ⟨_,_,F⟩)).mono ?_;rintro e w' ⟨a,rfl, -, -,c⟩;exact⟨a,F,c⟩
section
open Go Go.RowKit Go.Shelf Go.Sort
def XD(b:ByteArray):bN b.data.toList=b:=by
 cases b with
 |mk d=>simp[bN]
def aa5(a:bq):(a.map λb=>b.data.toList).map bN=a:=by simp_all [zU,map_id,GZ,XD]
def amq(l:ah)(c:UInt8):Lib.splitB (bN [c]) 0 (Lib.countB (bN l) (bN [c])) (bN l)=(oG c l).map bN:=by
 have h:=Lib.splitB_data (bN [c]) 0 (Lib.countB (bN l) (bN [c])) (bN l);have a:Lib.countB (bN l) (bN [c])=Lib.count l [c]:=by
  show Lib.count (bN l).data.toList (bN [c]).data.toList=_;rw[yU,yU]
 rw[yU,yU,a,Xw]at h;rw[a,<-h,aa5]
def amv(l:ah)(c:UInt8)(w:World)(f:l.length<4294967281)(a:∃m,w.cell? ⟨0,0,none⟩=some (.int .i64 m)):
 Calls prog 130 #[.string (bN l),.string (bN [c])] w λe w'=>e= .returned (.slice (some ⟨w.heap.size,0,none⟩) (oG c l).length (oG c l).length)/\au w' w.heap.size (((oG c l).map bN).map dx) 9/\aj w w':=by
 obtain⟨m,a⟩:=a;have h:=Any.strings_Split amt aC (bN l) (bN [c]) m w (by rw[xQ];exact f) a (by rw[xQ];simp);have b:=amq l c;have d:Lib.countB (bN l) (bN [c])+1=(oG c l).length:=by
  have:=Lib.splitB_all (bN [c]) (by rw[xQ];simp) 0 _ (bN l) F;rw[b,aI]at this;exact this.symm
 rw[b,d]at h;refine h.mono ?_;rintro e w' ⟨rfl,rfl⟩;exact⟨F,au.FU w _ _,(aj.refl w).alloc _⟩
end
section
section
variable {P:Program} {ops:Array Oper} {rest:List Oper} {o:Oper} {a:Act} {w:World} {Q:Exit->Act->World->Prop}
def alT{p:aO}{c k:Nat}{A:Addr}(h:p=some A):∃a,fu p c k=some a/\a.block=A.block:=by grind [fu,Addr.add]
def Qw(A:Addr):A.add 0=A:=by unfold Addr.add;split<;>simp_all
def anf{a:Prop}(e:a:=by
 cases p with
 |none=>rfl
 |some A=>
  show some (A.add 0)=some A;rw[show A.add 0=A by unfold Addr.add;split<;>simp_all]):a:=e
def QO{t e:TypeId}{x y:Operand}{p:aO}{n c k:Nat}(h:o.op= .slice t x (some y) none none)(l:a.eval x= .slice p n c)(m:a.eval y= .int .i64 (k:Int))(j:P.underlying t=some (.slice e))(hs:(P.info? e).map (·.size)=some 1)(g:k<=n)(w:World):
 (execOp a.eval o).run P w= .ok (.value (.slice (fu p c k) (n - k) (c - k))) w:=by
 cases b:P.info? e with
 |none=>simp[b]at hs
 |some i=>
  have f:i.size=1:=by simpa[b]using hs
  have d:(0:Int)<=k/\(k:Int)<=n:=J;unfold execOp;simp[h,l,m,Instr.sliceAt,Instr.slice,Instr.sliceBounds,Instr.sliceBound,asIntOf,jB j,sizeOf,typeInfo,b,f,d.1,g,fu]
def ZN{t e:TypeId}{x y:Operand}{p:aO}{n c k:Nat}(g:o.op= .slice t x none (some y) none)(j:a.eval x= .slice p n c)(l:a.eval y= .int .i64 (k:Int))(h:P.underlying t=some (.slice e))(hs:(P.info? e).map (·.size)=some 1)(f:k<=c)(w:World):
 (execOp a.eval o).run P w= .ok (.value (.slice p k c)) w:=by
 cases b:P.info? e with
 |none=>simp[b]at hs
 |some i=>
  have d:i.size=1:=by simpa[b]using hs
  have m:(0:Int)<=k/\(k:Int)<=c:=J;have ha:p.map (λx=>x.add 0)=p:=by
   exact anf
  unfold execOp;simp[g,j,l,Instr.sliceAt,Instr.slice,Instr.sliceBounds,Instr.sliceBound,asIntOf,jB h,sizeOf,typeInfo,b,d,f,ha]
end
def aad(w:World)(r:Option Nat):w.grownBy w r:=⟨F,F,F,aQ _,λ_ _ _=>rfl⟩
def aht{w b c:World}{r:Option Nat}(h:w.grownBy b r)(e:aj b c):w.grownBy c r:=
 ⟨e.os.trans h.os,e.tape.trans h.tape,e.output.trans h.output,dJ h.size e.size,λi a d=>(e.block i (vL a h.size)).trans (h.block i a d)⟩
def aae{w b c:World}{g:Nat}(h:w.grownBy b (some g))(u:dF b g c):w.grownBy c (some g):=
 ⟨u.os.trans h.os,u.tape.trans h.tape,u.output.trans h.output,dJ h.size (Nat.le_of_eq u.size.symm),λi d a=>(u.block i (λe=>a (by rw[e]))).trans (h.block i d a)⟩
def BR(B:Nat)(a:aO)(n:Nat):Prop:=n=0∨∃A,a=some A/\B<=A.block
structure jE(w:World)(B:Nat)(a:aO)(n c:Nat)(ws:bq):Prop where
 hl:ws.length=n
 hnc:n<=c
 hm:n<=1000000
 hs:∀s∈ws,s.size<=1000000
 hi:BR B a n
 cell:aM w a (ws.map dx)
def jE.nil(w:World)(B:Nat):jE w B none 0 0 []:=⟨F,aQ _,J,(λ_ h=>by cases h),.inl F,.inl F⟩
def jE.ext{w w':World}{B:Nat}{a:aO}{n c:Nat}{ws:bq}(h:jE w B a n c ws)(e:aj w w'):jE w' B a n c ws:=⟨h.hl,h.hnc,h.hm,h.hs,h.hi,h.cell.ext e⟩
def jE.drop{w:World}{B:Nat}{a:aO}{n c:Nat}{ws:bq}(h:jE w B a n c ws){k:Nat}(l:k<=n):jE w B (fu a c k) (n - k) (c - k) (ws.drop k):=by
 have b:=h.hl;have o:=h.hnc;have m:=h.hm;refine⟨by rw[iI,b],J,J,λs hs=>h.hs s (mem_of_mem_drop hs),?_,?_⟩
 ·rcases h.hi with j|⟨A,e,f⟩
  ·exact .inl J
  ·obtain⟨d,g,i⟩:=alT (c:=c) (k:=k) e;exact .inr ⟨d,g,by rw[i];exact f⟩
 ·have:=h.cell.shift c k (n - k) J;rw[<-ze,<-wW,gY (by rw[iI,b];exact aQ _)]at this;exact this
def jE.take{w:World}{B:Nat}{a:aO}{n c:Nat}{ws:bq}(h:jE w B a n c ws){k b:Nat}(i:k<=n)(e:k<=b):jE w B a k b (ws.take k):=by
 have f:=h.hl;have j:=h.hm;refine⟨by rw[fP,f];omega,e,J,λs hs=>h.hs s (wZ hs),?_,?_⟩
 ·rcases h.hi with g|d
  ·exact .inl J
  ·exact .inr d
 ·have:=h.cell.take k;rw[<-wW]at this;exact this
def jE.at{w:World}{B:Nat}{a:aO}{n c:Nat}{ws:bq}(h:jE w B a n c ws){k:Nat}{x:ByteArray}(d:ws[k]? =some x):∃A,a=some A/\w.cell? (A.add k)=some (.string x):=by
 have f:=(iK.1 d).1;obtain⟨b,o,rfl,e⟩:=h.cell.jg (by rw[aI];omega);refine⟨_,F,?_⟩;rw[eX];exact e k _ (by rw[iT,d];rfl)
def Ju(x y:ByteArray):(x.toList==y.toList)=decide (x=y):=by
 by_cases h:x=y
 ·subst h;simp
 ·rw[bg h];exact Qk.2 λe=>h (by
   have a:=yj.1 e;rw[FN,FN]at a;cases x;cases y;simpa using a)
def aiX(x:ByteArray):(x.toList==[100,101,110,121])=decide (x=DY):=by
 rw[<-Ju,show DY.toList=[100,101,110,121] by rw[FN];rfl]
def aiW(x:ByteArray):(x.toList==[97,108,108,111,119])=decide (x=Ko):=by
 rw[<-Ju,show Ko.toList=[97,108,108,111,119] by rw[FN];rfl]
def Av:(prog.info? 9).map (·.size)=some 1:=aC
end
def ah0(x:ByteArray)(ls:bq)(a:aO)(n c:Nat)(w:World)(hn:ls.length=n)(H:n<=4611686018427387904)(B:aM w a (ls.map dx)):
 qR 174 #[.slice a n c,.string x] w (.int .i64 (Aj x ls)):=by
 obtain⟨l,D⟩:=aA hn B;obtain⟨v,r⟩:=aF (Aj x ls);rw[r];have u:=O r;clear hn B r;go_enter func174,ntmps174;go_wp2
 go_loop [5,8] (λ_ i=>∃k:Nat,k<=n/\i= .int .i64 (k:Int)/\Hid (x∉ls.take k)) (λ_ i=>n - (intOf i).toNat)
 ·exact⟨0,J,F,O aB⟩
 ·obtain⟨k,K,rfl,d⟩:=hrel;by_cases G:k<n
  ·obtain⟨y,j⟩:∃y,ls[k]? =some y:=⟨ls[k]'(by rw[l.out];exact G),aB⟩;obtain⟨A,rfl,I⟩:∃A,a=some A/\w.cell? (A.add k)=some (.string y):=by
    obtain⟨g,o,rfl,h⟩:=D.jg (by rw[aI,l.out];omega);exact⟨_,F,by rw[eX];exact h k _ (NP j)⟩
   have z:y≠x->x∉ls.take (k+1):=by
    intro h b;rw[ny,j,kU]at b;rcases b with b|b
    ·exact d b
    ·simp at b;exact h b.symm
   obtain⟨p,E⟩:=aA z j;have f:=(show((x.toList==y.toList)=true↔y=x)from(QD x y).trans eq_comm);clear j z;by_cases e:y=x
   ·have q:=f.2 e;have s:=E.out;rw[e]at s;have m:=O (show v=(k:Int) by rw[<-u.out];unfold Aj;rw[aaz s d.out]);clear f s p d;go_wp2;go_ret;exact⟨by rw[m.out];rfl,F⟩
   ·have q:_=false:=Qk.2 λh=>e (f.1 h);have C:=O (p e);clear f e p;go_wp2
    go_round
    ·exact⟨k+1,J,by go_num,C⟩
    ·exact fV
  ·obtain rfl:k=n:=J;have t:=d.out;rw[gY (by rw[l.out];exact aQ _)]at t;have m:=O (show v= -1 by rw[<-u.out];unfold Aj;rw[aay.2 t]);clear t d;go_wp2;go_ret;exact⟨by rw[m.out];rfl,F⟩
def YB(w:World):
 Calls prog 191 #[] w λe w'=>e= .returned (.slice (some ⟨w.heap.size,0,none⟩) 13 13)/\aM w' (some ⟨w.heap.size,0,none⟩) (((⟨#[]⟩:ByteArray)::yu).map dx)/\aj w w':=by
 go_enter func191,ntmps191;go_wp2;go_ret;exact⟨F,aM.iM (au.bK F F),(aj.refl w).alloc _⟩
def agn:wO prog 106 3 1 8:=⟨underlying106,⟨_,_,(gJ (show(prog.info? 3).map (λi=>(i.zero,i.size,i.bytes))=some (some (.int .i64 0),1,8) by kernel_rfl)).choose_spec.1,(gJ (show(prog.info? 3).map (λi=>(i.zero,i.size,i.bytes))=some (some (.int .i64 0),1,8) by kernel_rfl)).choose_spec.2.1,(gJ (show(prog.info? 3).map (λi=>(i.zero,i.size,i.bytes))=some (some (.int .i64 0),1,8) by kernel_rfl)).choose_spec.2.2.1,(gJ (show(prog.info? 3).map (λi=>(i.zero,i.size,i.bytes))=some (some (.int .i64 0),1,8) by kernel_rfl)).choose_spec.2.2.2,F⟩,bS⟩
def CS{w w':World}{e:TypeId}{z n B:Nat}{v:Value}{xs:aP}(h:w.ownsRow B e z v n xs)(k:aj w w'):w'.ownsRow B e z v n xs:=CQ h (r:=none) ⟨k.os,k.tape,k.output,k.size,λi a _=>k.block i a⟩ (λ_ _ h=>by cases h)
def DU(w:World)(o:Obj):(w.alloc o).heap.size=w.heap.size+1:=Ef ..
structure uK(w:World):Prop where
 lw:KD w
 sp:∀g,prog.globalNamed "strings.asciiSpace" =some g->Lib.TabIs prog w "strings.asciiSpace" .u8 Lib.asciiSpaceTab
def uK.ext{w w':World}(h:uK w)(e:aj w w'):uK w':=⟨h.lw.ext e,λg a=>ady (g:=g) (h.sp g a) a e⟩
def Zf(l s:ah):(Lib.cut l s).1.length<=l.length/\(Lib.cut l s).2.1.length<=l.length:=by grind [Lib.cut]
section
def aX.bare(r:aX):aX:={r with ra:=none,rc:=0,aa:=none,ac:=0,la:=none,lc:=0}
def GJ(d:Bool):aX:={deny:=d,ra:=none,rn:=0,rc:=0,roles:=[],aa:=none,an:=0,ac:=0,acts:=[],la:=none,ln:=0,lc:=0,labels:=[],fr:=0,tt:=0,nd:=0,ow:=⟨#[]⟩}
structure aX.Hi(B:Nat)(r:aX):Prop where
 r1:BR B r.ra r.rn
 r2:BR B r.aa r.an
 r3:BR B r.la r.ln
structure jC(w W:World)(B G:Nat)(r x:aX):Prop where
 q:r.bare=x
 ro:jE w B r.ra r.rn r.rc r.roles
 la:jE w B r.la r.ln r.lc r.labels
 al:r.acts.length=r.an
 Jr:r.an<=r.ac
 am:r.an<=1000000
 uQ:aM W r.aa (r.acts.map qH)
 Us:r.an=0∨∃A,r.aa=some A/\G<A.block
 QC:∀z∈r.acts,(Lit.int .i64 z).wf=true
 os:r.ow.size<=140737488355328
def jC.zero(w W:World)(B a:Nat)(d:Bool):jC w W B a (GJ d) (GJ d):=⟨F,jE.nil _ _,jE.nil _ _,F,aQ _,by show 0<=_;omega,.inl F,.inl F,(λ_ h=>by cases h),by show(⟨#[]⟩:ByteArray).size<=_;decide⟩
variable {w W W':World} {B G:Nat} {r x:aX}
def jC.ext(h:jC w W B G r x)(e:aj W W'):jC w W' B G r x:={h with uQ:=h.uQ.ext e}
def jC.upd{g:Nat}(h:jC w W B G r x)(u:dF W g W')(j:g<=G):jC w W' B G r x:=by
 refine{h with uQ:= ?_};rcases h.Us with b|⟨A,c,f⟩
 ·have:r.acts=[]:=qm.1 (by rw[h.al];exact b);rw[this];exact .inl F
 ·refine h.uQ.grown (r:=some g) ⟨u.os,u.tape,u.output,by rw[u.size];exact aQ _,λi _ d=>u.block i (λe=>d (by rw[e]))⟩ (λy a=> ?_);rw[c]at a;injection a with a;rw[<-a];intro e;injection e with e;omega
def jC.ok(h:jC w W B G r x)(e:aj w W):r.Ok W:=
 ⟨h.ro.hl,h.ro.hnc,dJ h.ro.hm J,h.ro.cell.ext e,(λs hs=>dJ (h.ro.hs s hs) J),h.al,h.Jr,dJ h.am J,h.uQ,h.QC,h.la.hl,h.la.hnc,dJ h.la.hm J,h.la.cell.ext e,(λs hs=>dJ (h.la.hs s hs) J),h.os⟩
def jC.hi(h:jC w W B G r x)(c:B<=G):r.Hi B:=
 ⟨h.ro.hi,h.Us.imp id (λ⟨A,a,b⟩=>⟨A,a,J⟩),h.la.hi⟩
def jC.roles{a:aO}{n c:Nat}{ws:bq}(h:jC w W B G r x)(k:jE w B a n c ws):
 jC w W B G {r with ra:=a,rn:=n,rc:=c,roles:=ws} {x with rn:=ws.length,roles:=ws}:=
 {h with ro:=k,q:=by rw[<-h.q,k.hl];rfl}
def jC.labels{a:aO}{n c:Nat}{ws:bq}(h:jC w W B G r x)(k:jE w B a n c ws):
 jC w W B G {r with la:=a,ln:=n,lc:=c,labels:=ws} {x with ln:=ws.length,labels:=ws}:=
 {h with la:=k,q:=by rw[<-h.q,k.hl];rfl}
def jC.acts{a:aO}{n c B0:Nat}{zs:List Int}(h:jC w W B G r x)(k:W.ownsRow B0 3 1 (.slice a n c) zs.length (zs.map qH))(v:G<B0)(l:zs.length<=1000000)(p:∀z∈zs,(Lit.int .i64 z).wf=true):
 jC w W B G {r with aa:=a,an:=n,ac:=c,acts:=zs} {x with an:=zs.length,acts:=zs}:=by
 obtain⟨s,t,d,o,_,i⟩:=j3 k;injection d with b e f;subst b e f;refine{h with al:=F,Jr:=o,am:=l,uQ:=i,Us:= ?_,QC:=p,q:=by rw[<-h.q];rfl};rcases k.2 with⟨m,j⟩|⟨g,cap,u,d,y,_⟩
 ·left
  first|exact j|(injection m)
 ·right
  injection d with b e f;exact⟨_,b,by show G<g;omega⟩
def jC.to{x':aX}(h:jC w W B G r x)(e:x=x'):jC w W B G r x':=e▸h
def anu{a:Type}:∀(l:List a),l.length=2->∃x y,l=[x,y]
 |[x,y],_=>⟨x,y,F⟩
def am3{G:Prop}(e:G:=by
 obtain⟨y,_,rfl⟩:=pI.1 hz;have:=Yy y;obtain⟨m,hm⟩:∃m:Nat,sF y=(m:Int):=⟨(sF y).toNat,J⟩;rw[hm]at this⊢;have aS:m<13:=J;exact(show∀m<13,(Lit.int .i64 ((m:Nat):Int)).wf=true by decide) m aS):G:=e
variable {G1 G2 G4 n c n' c':Nat} {ok ok':Bool} {ws ws':bq} {a a':aO} {wx wy:World} {x' r':aX}
end
def IC(w:World)(o:Obj):(w.alloc o).heap.size=w.heap.size+1:=Ef ..
section
section
variable {P:Program} {t e:TypeId} {z y:Nat} {ops:Array Oper} {rest:List Oper} {o:Oper} {a:Act} {w:World} {Q:Exit->Act->World->Prop}
def Mw(T:wO P t e z y)(H:z<=100000)(l:o.guard=none){x:Operand}{cs:aP}(q:o.op= .buildSlice t 1 #[(0,x)])(B:a.eval x= .agg cs.toArray)(n:cs.length=z)
 (h:wpList P ops Q rest (a.put o.dst (.slice (some ⟨w.heap.size,0,none⟩) 1 1)) (w.alloc (.cells cs.toArray e))):wpList P ops Q (o::rest) a w:=by
 obtain⟨D,K,m,C,c,G,I⟩:=T.info;have r:=T.pos;refine q8 l λE f=> ?_;have k:∀b:Array Value,b.size=z->Instr.fill (λi=>some (i*z,z)) b [(0,.agg cs.toArray)]=some cs.toArray:=by
  intro b g;have h:=Great.fill_whole (s:=z) r [.agg cs.toArray] b (by intro v A;rw[nu.1 A];simp[cells,n]) (by simp[g]);simpa[cells]using h
 have u:(execOp a.eval o).run P w= .ok (.value (.slice (some ⟨w.heap.size,0,none⟩) 1 1)) (w.alloc (.cells cs.toArray e)):=by
  have h:=run_buildSlice (P:=P) w t e 1 #[(0,.agg cs.toArray)] cs.toArray D _ T.hu m C (by rw[c];omega) (by rw[c];omega) (by rw[c];exact k _ aB);have j:(#[(0,x)].map λ(p:Nat×Operand)=>(p.1,a.eval p.2))= #[(0,.agg cs.toArray)]:=by simp[B]
  unfold execOp;simp only[q,iC];have d:(Instr.buildSlice t 1 (#[(0,x)].map λ(p:Nat×Operand)=>(p.1,a.eval p.2))).run P w= .ok (.slice (some ⟨w.heap.size,0,none⟩) 1 1) (w.alloc (.cells cs.toArray e)):=by rw[j];exact h
  rw[d];rfl
 unfold Oper.wp;rw[u,Cb];exact f _ _ h
end
def Rw:(prog.info? 192).map (λi=>(i.zero,i.size,i.bytes))=some (some (.agg MG.toArray),8,120):=aC
def agp:wO prog 150 192 8 120:=⟨underlying150,⟨_,_,(gJ Rw).choose_spec.1,(gJ Rw).choose_spec.2.1,(gJ Rw).choose_spec.2.2.1,(gJ Rw).choose_spec.2.2.2,F⟩,bS⟩
def af2(b:UInt8)(ls:List (ah))(h:ls≠[]):(QH b ls).length=ls.length:=by
 cases ls with
 |nil=>exact absurd F h
 |cons x r=>rfl
def adl(c:UInt8):∀l:ah,(oG c l).length<=l.length+1
 |[]=>by simp[oG]
 |b::l=>by
  have ih:=adl c l;unfold oG;split
  ·simp;omega
  ·rw[af2 b _ (Xv c l),iU];omega
def adn(c:UInt8):∀(l:ah),∀x∈oG c l,x.length<=l.length
 |[],x,h=>by simp[oG]at h;subst h;simp
 |b::l,x,h=>by
  have ih:=adn c l;unfold oG at h;split at h
  ·rcases gM.1 h with rfl|h
   ·simp
   ·have:=ih x h;simp;omega
  ·cases hs:oG c l with
   |nil=>exact absurd hs (Xv c l)
   |cons y r=>
    rw[hs]at h ih;rcases gM.1 h with rfl|h
    ·have:=ih y aB;simp;omega
    ·have:=ih x (yg _ h);simp;omega
def TF(q:UInt8->Bool):∀(l dK:ah),∀x∈wK q dK l,x.length<=dK.length+l.length
 |[],dK,x,h=>by
  unfold wK at h;split at h
  ·cases h
  ·simp at h;subst h;simp
 |b::l,dK,x,h=>by
  unfold wK at h;split at h
  ·split at h
   ·have:=TF q l [] x h;simp at this⊢;omega
   ·rcases gM.1 h with rfl|h
    ·simp
    ·have:=TF q l [] x h;simp at this⊢;omega
  ·have:=TF q l (dK++[b]) x h;simp at this⊢;omega
def TD(q:UInt8->Bool):∀(l dK:ah),(wK q dK l).length<=l.length+1
 |[],dK=>by
  unfold wK;split<;>simp
 |b::l,dK=>by
  unfold wK;split
  ·split
   ·have:=TD q l [];simp;omega
   ·have:=TD q l [];simp;omega
  ·have:=TD q l (dK++[b]);simp;omega
noncomputable def pY(s:ah):Int:=if 65536<s.length then 5 else match Cj (rM s)with|some _=>11 |none=>oV (E_ (rM s)) (E_ (rM s)).length
def EW(s:ah):Int:=if 65536<s.length then 0 else match Cj (rM s)with|some k=>(k:Int)|none=>0
noncomputable def sQ(s:ah):List aX:=if pY s=0 then E_ (rM s)else[]
def alc(r:aX):l6 r.bare=l6 r:=F
def Z_:∀rs:List aX,Bl (rs.map aX.bare)=Bl rs
 |[]=>rfl
 |r::rs=>by
  rw[oM];unfold Bl;rw[alc,Z_ rs]
theorem Wy{rs a:List aX}(h:rs.map aX.bare=a)(n:Nat):oV a n=oV rs n:=by
 unfold oV;rw[<-h,Z_]
def abF{s:ah}(h:65536<s.length):pY s=5/\EW s=0/\sQ s=[]:=by grind [pY,EW,sQ]
def abE{s:ah}{k:Nat}(h:¬65536<s.length)(a:Cj (rM s)=some k):pY s=11/\EW s=k/\sQ s=[]:=by grind [pY,EW,sQ]
def abD{s:ah}(h:¬65536<s.length)(a:Cj (rM s)=none):pY s=oV (E_ (rM s)) (E_ (rM s)).length/\EW s=0:=by grind [pY,EW]
def Dk(q:Option Nat)(a:aO)(n:Nat):Prop:=n=0∨∃A,a=some A/\q≠some A.block
structure aX.Off(q:Option Nat)(r:aX):Prop where
 r1:Dk q r.ra r.rn
 r2:Dk q r.aa r.an
 r3:Dk q r.la r.ln
def BR.off{B:Nat}{a:aO}{n:Nat}{q:Option Nat}(h:BR B a n)(b:∀g,q=some g->g<B):Dk q a n:=by grind [BR,Dk]
def aX.Hi.off{B:Nat}{r:aX}{q:Option Nat}(h:r.Hi B)(a:∀g,q=some g->g<B):r.Off q:=⟨h.r1.off a,h.r2.off a,h.r3.off a⟩
def aX.Hi.mono{B B':Nat}{r:aX}(h:r.Hi B)(c:B'<=B):r.Hi B':=
 ⟨h.r1.imp id (λ⟨A,a,b⟩=>⟨A,a,J⟩),h.r2.imp id (λ⟨A,a,b⟩=>⟨A,a,J⟩),h.r3.imp id (λ⟨A,a,b⟩=>⟨A,a,J⟩)⟩
def Dk.cells{w w':World}{q:Option Nat}{a:aO}{n:Nat}{xs:aP}(h:Dk q a n)(i:xs.length=n)(d:aM w a xs)(k:w.grownBy w' q):aM w' a xs:=by
 rcases h with g|⟨A,c,f⟩
 ·have:xs=[]:=qm.1 J;rw[this];exact .inl F
 ·refine d.grown k (λy b=> ?_);rw[c]at b;injection b with b;rw[<-b];exact λe=>f e.symm
def aX.Ok.JD{w w':World}{r:aX}{q:Option Nat}(h:r.Ok w)(a:r.Off q)(k:w.grownBy w' q):r.Ok w':=
 {h with vk:=a.r1.cells (by rw[aI];exact h.rl) h.vk k,uQ:=a.r2.cells (by rw[aI];exact h.al) h.uQ k,Bz:=a.r3.cells (by rw[aI];exact h.ll) h.Bz k}
def Y4{w:World}{a:aO}{xs:aP}(c:aM w a xs)(h:xs≠[]):∃A,a=some A/\A.block<w.heap.size:=by
 rcases c with d|⟨b,o,rfl,c⟩
 ·exact absurd d h
 ·obtain⟨x,r,rfl⟩:∃x r,xs=x::r:=by
   cases xs with
   |nil=>exact absurd F h
   |cons x r=>exact⟨x,r,F⟩
  have:=c 0 x F;exact⟨_,F,kN this⟩
def V_{w:World}{a:aO}{n:Nat}{xs:aP}(c:aM w a xs)(d:xs.length=n):Dk (some w.heap.size) a n:=by
 by_cases h:xs=[]
 ·left;rw[<-d,h];rfl
 ·obtain⟨A,b,f⟩:=Y4 c h;exact .inr ⟨A,b,λe=>by injection e with e;omega⟩
def aX.Ok.OM{w:World}{r:aX}(h:r.Ok w):r.Off (some w.heap.size):=
 ⟨V_ h.vk (by rw[aI];exact h.rl),V_ h.uQ (by rw[aI];exact h.al),V_ h.Bz (by rw[aI];exact h.ll)⟩
structure zS(w:World)(G2 G5 g0 B:Nat)(s:ah)(k:Nat)(a:aO)(c:Nat)(rs:List aX)(wx:World):Prop where
 e:aj w wx
 b2:au wx G2 [.slice none 0 0] 152
 b5:au wx G5 [.slice a rs.length c] 152
 ln:au wx g0 (((oG 10 s).map bN).map dx) 9
 own:wx.ownsRow B 192 8 (.slice a rs.length c) rs.length (CX rs)
 ru:rs.map aX.bare=E_ ((rM s).take k)
 ok:∀r∈rs,r.Ok wx
 hi:∀r∈rs,r.Hi B
 off:∀r∈rs,r.Off (slice a rs.length c).ownBlock
 good:∀x∈(rM s).take k,JC x=true
 cnt:rs.length<=k
variable {w wx wy wz:World} {G2 G5 g0 B k c c':Nat} {s:ah} {a a':aO} {rs:List aX} {r:aX}
def zS.ext(h:zS w G2 G5 g0 B s k a c rs wx)(e:aj wx wy):zS w G2 G5 g0 B s k a c rs wy:=
 {h with e:=h.e.ext e,b2:=h.b2.ext e,b5:=h.b5.ext e,ln:=h.ln.ext e,own:=CS h.own e,ok:=λr b=>(h.ok r b).ext e}
def zS.skip(h:zS w G2 G5 g0 B s k a c rs wx){ws:bq}(d:(rM s)[k]? =some ws)(e:ws=[]):zS w G2 G5 g0 B s (k+1) a c rs wx:=by
 subst e;refine{h with ru:= ?_,good:= ?_,cnt:=by have:=h.cnt;omega}
 ·rw[acL d,h.ru];simp
 ·intro x b;rw[ny,d,kU]at b;rcases b with b|b
  ·exact h.good x b
  ·simp at b;rw[b];rfl
def alf(rs:List aX)(r:aX):CX (rs++[r])=CX rs++r.v:=by grind [CX]
def zS.push(h:zS w G2 G5 g0 B s k a c rs wx){ws:bq}(n:(rM s)[k]? =some ws)(D:ws≠[])(P:vg ws=true)(V:w.heap.size<=G2)(H:G2≠G5)(K:w.heap.size<=G5)(E:g0≠G5)(U:G5<B)(I:G2<B)(G:g0<B)(S:w.heap.size<=B)
 {g1:Nat}(L:r.bare=J6 ws)(R:r.Ok wx)(m:r.Hi g1)(M:B<=g1)(Q:∀g,(slice a rs.length c).ownBlock=some g->g<g1)
 (p:wy.ownsRow B 192 8 (.slice a' (rs.length+1) c') (rs.length+1) (CX rs++r.v))(d:wx.grownBy wy (slice a rs.length c).ownBlock)(f:(slice a' (rs.length+1) c').ownBlock=(slice a rs.length c).ownBlock∨(slice a' (rs.length+1) c').ownBlock=some wx.heap.size)
 (u:dF wy G5 wz)(C:au wz G5 [.slice a' (rs.length+1) c'] 152):
 zS w G2 G5 g0 B s (k+1) a' c' (rs++[r]) wz:=by
 have i:(rs++[r]).length=rs.length+1:=aB;have l:∀g,(slice a rs.length c).ownBlock=some g->B<=g:=λg e=>(h.own.lt g e).1;have o:∀g,g<B->some g≠(slice a rs.length c).ownBlock:=λg d e=>by have:=l g e.symm;omega
 have j:∀x∈rs++[r],x.Ok wz/\x.Hi B/\x.Off (slice a' (rs.length+1) c').ownBlock:=by
  intro x b;have T:x.Ok wx/\x.Hi B/\x.Off (slice a rs.length c).ownBlock:=by
   rcases kU.1 b with b|b
   ·exact⟨h.ok x b,h.hi x b,h.off x b⟩
   ·rw[nu]at b;subst b;exact⟨R,m.mono M,m.off Q⟩
  obtain⟨t,v,A⟩:=T;refine⟨(t.JD A d).JD (v.off (q:=some G5) (λg e=>by injection e with e;omega)) (zJ u),v,?_⟩;rcases f with f|f
  ·rw[f];exact A
  ·rw[f];exact t.OM
 refine⟨?_,?_,by rw[i];exact C,?_,?_,?_,λx b=>(j x b).1,λx b=>(j x b).2.1,λx b=>by rw[i];exact(j x b).2.2,?_,by have:=h.cnt;omega⟩
 ·exact u.ext (h.e.grown d (λg e=>dJ S (l g e))) K
 ·exact(h.b2.grown d (o _ I)).upd u H
 ·exact(h.ln.grown d (o _ G)).upd u E
 ·rw[i,alf];refine CQ p (zJ u) (λg N e=> ?_);injection e with e;have:=(p.lt g N).1;omega
 ·rw[acL n,jv,h.ru];have:ws.isEmpty=false:=by
   cases ws with
   |nil=>exact absurd F D
   |cons y z=>rfl
  rw[this];simp[L]
 ·intro x b;rw[ny,n,kU]at b;rcases b with b|b
  ·exact h.good x b
  ·simp at b;rw[b];unfold JC;rw[P,Bool.or_true]
def zS.pol(h:zS w G2 G5 g0 B s k a c rs wx)(b:k<=1000000):qj wx a rs.length c rs:=by grind [zS,qj,j3]
def aiU{s:ah}{k:Nat}{l:ah}(h:(oG 10 s)[k]? =some l):(rM s)[k]? =some (IV l):=by grind [rM]
def aiV(s:ah):(rM s).length=(oG 10 s).length:=by unfold rM;rw[aI]
end
def aaJ:Go.Shelf.Ren:=⟨fun|156=>144 |165=>198 |166=>199 |169=>200 |240=>257 |241=>258 |276=>317 |277=>318 |n=>n,fun|0=>0 |3=>3 |4=>4 |5=>5 |9=>9 |20=>20 |31=>98 |37=>32 |70=>285 |72=>287 |75=>290 |76=>291 |80=>293 |127=>343 |164=>385 |n=>n,fun|n=>n⟩
def aiv:Go.Proofs.Lays.n156 prog aaJ:=by repeat' first|kernel_rfl|(intro _;kernel_rfl)|constructor
def agW:Go.Proofs.Builder.Extra prog aaJ:=by repeat' first|kernel_rfl|(intro _;kernel_rfl)|decide|constructor
def TL(B b:Nat)(l:ah)(w:World):Prop:=Lib.IsBuilder 287 5 B b (Lib.byteCells l) w
def TL.ext{B b:Nat}{l:ah}{w w':World}(h:TL B b l w)(e:aj w w'):TL B b l w':=by
 have at_:∀p,Lib.BuilderAt 287 5 B b p (Lib.byteCells l) w->Lib.BuilderAt 287 5 B b p (Lib.byteCells l) w':=by
  intro p h;have g:=h.lt;obtain⟨a,v,c,d,f⟩:=h;exact⟨a,v,(e.block b g).trans c,CS d e,f⟩
 rcases h with h|h
 ·exact .inl (at_ _ h)
 ·exact .inr (at_ _ h)
def VF(a:aO)(n c:Nat)(xs:bq)(w:World)(k:xs.length=n)(p:n<=c)(d:xs≠[])(m:n<=140737488355328)(i:aM w a (xs.map dx))
 (l:(Lib.join (xs.map (·.data.toList)) [32]).length<=140737488355328):
 eO 144 #[.slice a n c,.string (bN [32])] w (.string (bN (Lib.join (xs.map (·.data.toList)) [32]))):=by
 subst k;obtain⟨b,o,rfl,g⟩:=i.jg (by
  rw[aI];cases xs with
  |nil=>exact absurd F d
  |cons x r=>simp)
 have e:∀(j:Nat) x,xs[j]? =some x->w.cell? ⟨b,o+j,none⟩=some (.string x):=λj x h=>g j _ (by rw[iT,h];rfl);have f:b<w.heap.size:=by
  cases xs with
  |nil=>exact absurd F d
  |cons x r=>exact kN (e 0 x F)
 have h:=Any.strings_Join aiv agW b o c xs (bN [32]) w e f m p (by rw[yU];exact l);rw[yU]at h;exact h
def zk(z:Int):ByteArray:=yu.getD (z - 1).toNat ⟨#[]⟩
def LC(f t:Int):ByteArray:=bN (Lib.itoa f++45::Lib.itoa t)
def Sm(r:aX):bq:=if r.roles=[]then[]else BJ::r.roles
def KZ(r:aX):bq:=if r.acts=[]then[]else zK::r.acts.map zk
def RD(r:aX):bq:=if r.labels=[]then[]else BI::r.labels
def Cz(r:aX):bq:=if r.fr=r.tt then[]else[zL,LC r.fr r.tt]
def CJ(r:aX):bq:=if 0<r.nd then[zM,bN (Lib.itoa r.nd),r.ow]else[]
def JJ(d:Bool):ByteArray:=if d then DY else Ko
def E9(r:aX):bq:=[JJ r.deny]++Sm r++KZ r++RD r++Cz r++CJ r
def J7(r:aX):ah:=Lib.join ((E9 r).map (·.data.toList)) [32]
def kY(rs:List aX):ah:=rs.flatMap λr=>J7 r++[10]
theorem R9(rs:List aX):kY (rs.map aX.bare)=kY rs:=by
 unfold kY;rw[flatMap_map];rfl
def amG(x y:ah):bN x++bN y=bN (x++y):=by
 apply KQ;simp[bN,ByteArray.data_append]
def U_{o:Oper}{a:Act}{x y:Operand}{u v:ah}(c:o.op= .binOp .add 9 x y 9)(d:a.eval x= .string (bN u))(e:a.eval y= .string (bN v))(h:u.length+v.length<=9223372036854775807)(w:World):
 (execOp a.eval o).run prog w= .ok (.value (.string (bN (u++v)))) w:=by
 have b:¬9223372036854775807<(bN u).size+(bN v).size:=by
  show¬9223372036854775807<u.toArray.size+v.toArray.size;simp;omega
 unfold execOp;simp only[c,d,e,iC]
 go_simp
 simp[b,amG]
def lD{o:Oper}{a:Act}{x y:Operand}{u v r:ah}(c:u++v=r)(b:o.op= .binOp .add 9 x y 9)(d:a.eval x= .string (bN u))(e:a.eval y= .string (bN v))(h:u.length+v.length<=9223372036854775807)(w:World):
 (execOp a.eval o).run prog w= .ok (.value (.string (bN r))) w:=by
 subst c;exact U_ b d e h w
section
def abA{w:World}{B q:Nat}{e:TypeId}{z n cap:Nat}{xs rest:aP}(c:au w q (xs++rest) e)(f:(xs++rest).length=cap*z)(a:xs.length=n*z)(b:B<=q)(g:n<=cap)(d:cap<=maxLen):
 w.ownsRow B e z (.slice (some ⟨q,0,none⟩) n cap) n xs:=
 ⟨a,.inr ⟨q,cap,(xs++rest).toArray,F,b,c,g,d,by simpa using f,by simp[<-a]⟩⟩
def Rx:(prog.info? 9).map (λi=>(i.zero,i.size,i.bytes))=some (some (.string ⟨#[]⟩),1,16):=aC
def Zq:wO prog 98 9 1 16:=⟨underlying98,⟨_,_,(gJ Rx).choose_spec.1,(gJ Rx).choose_spec.2.1,(gJ Rx).choose_spec.2.2.1,(gJ Rx).choose_spec.2.2.2,F⟩,bS⟩
structure Qu(r:aX):Prop where
 n1:r.rn<=16
 n2:r.an<=16
 n3:r.ln<=16
 s1:∀s∈r.roles,s.size<=33
 s3:∀s∈r.labels,s.size<=33
 a1:∀z∈r.acts,1<=z/\z<=12
 f1:0<=r.fr/\r.fr<=24
 t1:0<=r.tt/\r.tt<=24
 d1:0<=r.nd/\r.nd<=16
 o1:r.ow.size<=33
def abd{s:ByteArray}(h:Ae s=false):s.size<=33:=by
 unfold Ae nH at h;have a:s.data.toList.length<=32:=by
  simp only[Bool.not_eq_false',qZ,tJ]at h;exact h.2
 rw[pz]at a;exact dJ a J
def aj3{s:ByteArray}(h:Hu s=false):s.size<=33:=by
 unfold Hu L8 at h;simp only[Bool.not_eq_false',zf,qZ]at h;have a:(EI s.data.toList).length<=32:=by
  rcases h with h|h
  ·unfold nH at h;simp only[qZ,tJ]at h;exact h.2
  ·rw[FB.1 h.2];simp
 have hs:s.data.toList.length<=(EI s.data.toList).length+1:=by
  unfold EI Lib.trimSuffix;split
  ·simp;omega
  ·omega
 rw[pz]at hs;exact dJ hs J
def acK{r:aX}{W:World}(o:r.Ok W)(h:l6 r=0):Qu r:=by
 unfold l6 at h;split at h
 ·cases h
 rename_i b;split at h
 ·cases h
 rename_i c;split at h
 ·cases h
 rename_i d;split at h
 ·cases h
 rename_i e;split at h
 ·cases h
 split at h
 ·cases h
 rename_i a;unfold k1 at b;unfold k2 at c;unfold k3 at d;unfold k4 at e;unfold k6 at a;simp only[zf,tJ,not_or]at b;simp only[zf,qZ,tJ,not_or]at a;have r2:r.roles.any Ae=false/\(Co r.ow=true∨Ae r.ow=false):=by
  revert c;cases r.roles.any Ae<;>cases Co r.ow<;>cases Ae r.ow<;>simp
 have g:r.acts.any Jt=false:=by revert d;cases r.acts.any Jt<;>simp
 have i:r.labels.any Hu=false:=by revert e;cases r.labels.any Hu<;>simp
 rw[any_eq_false]at g i;have f:=r2.1;rw[any_eq_false]at f;obtain⟨⟨⟨⟨m,n⟩,p,q⟩,_⟩,k,l⟩:=a;refine⟨J,J,J,λs hs=>abd (by simpa using f s hs),λs hs=>aj3 (by simpa using i s hs),λz j=> ?_,⟨J,J⟩,⟨J,J⟩,⟨J,J⟩,?_⟩
 ·have:=g z j;unfold Jt Jp at this;simp at this;exact this
 ·rcases r2.2 with h|h
  ·unfold Co at h;rw[FN,FB]at h;have:r.ow.data.toList.length=0:=by rw[h];rfl
   rw[pz]at this;show r.ow.data.size<=33;omega
  ·exact abd h
def Ov{n:Int}(a:0<=n)(b:n<=24):(Lib.itoa n).length<=20:=JN J J
def ae7(z:Int):(zk z).size<=60:=by
 unfold zk;rw[Hl];cases h:yu[(z - 1).toNat]? with
 |none=>show(⟨#[]⟩:ByteArray).size<=60;decide
 |some x=>
  have:=f_ h;exact(show∀x∈yu,x.size<=60 by decide) x this
def aoe{r:aX}(h:Qu r):∀x∈E9 r,x.size<=60:=by
 intro x a;unfold E9 at a;simp only[kU]at a;rcases a with((((a|a)|a)|a)|a)|a
 ·rw[nu]at a;subst a;unfold JJ;split
  ·show DY.size<=60;decide
  ·show Ko.size<=60;decide
 ·unfold Sm at a;split at a
  ·cases a
  ·rcases gM.1 a with rfl|a
   ·show BJ.size<=60;decide
   ·have:=h.s1 x a;omega
 ·unfold KZ at a;split at a
  ·cases a
  ·rcases gM.1 a with rfl|a
   ·show zK.size<=60;decide
   ·obtain⟨z,_,rfl⟩:=pI.1 a;exact ae7 z
 ·unfold RD at a;split at a
  ·cases a
  ·rcases gM.1 a with rfl|a
   ·show BI.size<=60;decide
   ·have:=h.s3 x a;omega
 ·unfold Cz at a;split at a
  ·cases a
  ·rcases gM.1 a with rfl|a
   ·show zL.size<=60;decide
   ·rw[nu]at a;subst a;unfold LC;rw[xQ];have b:=Ov h.f1.1 h.f1.2;have c:=Ov h.t1.1 h.t1.2;simp;omega
 ·unfold CJ at a;split at a
  ·rcases gM.1 a with rfl|a
   ·show zM.size<=60;decide
   ·rcases gM.1 a with rfl|a
    ·rw[xQ];have b:=Ov h.d1.1 (by have:=h.d1.2;omega);omega
    ·rw[nu]at a;subst a;have:=h.o1;omega
  ·cases a
def aod{r:aX}{W:World}(a:r.Ok W)(h:Qu r):(E9 r).length<=60:=by
 have b:(Sm r).length<=17:=by
  have:=a.rl;have:=h.n1;unfold Sm;split
  ·simp
  ·rw[iU];omega
 have c:(KZ r).length<=17:=by
  have:=a.al;have:=h.n2;unfold KZ;split
  ·simp
  ·rw[iU,aI];omega
 have d:(RD r).length<=17:=by
  have:=a.ll;have:=h.n3;unfold RD;split
  ·simp
  ·rw[iU];omega
 have e:(Cz r).length<=2:=by unfold Cz;split<;>simp
 have f:(CJ r).length<=3:=by unfold CJ;split<;>simp
 unfold E9;simp only[bQ,iU,sD];omega
def aaK(M:Nat):∀xs:List (ah),(∀x∈xs,x.length<=M)->(Lib.join xs [32]).length<=xs.length*(M+1)
 |[],_=>by simp[Lib.join]
 |[x],h=>by
  have:=h x aB;simp[Lib.join];omega
 |x::y::r,h=>by
  have d:=h x aB;have b:=aaK M (y::r) (λz c=>h z (yg _ c));have e:Lib.join (x::y::r) [32]=x++[32]++Lib.join (y::r) [32]:=by simp[Lib.join]
  rw[e,bQ,bQ,iU (a:=x),Nat.add_mul];simp only[iU,sD];simp only[iU]at b;omega
def acJ{r:aX}{W:World}(c:r.Ok W)(h:Qu r):(J7 r).length<=4000:=by
 have a:=aaK 60 ((E9 r).map (·.data.toList)) (λx d=>by
  obtain⟨y,e,rfl⟩:=pI.1 d;rw[pz];exact aoe h y e)
 have b:=aod c h;rw[aI]at a;show(Lib.join _ _).length<=4000;have:(E9 r).length*(60+1)<=60*61:=Ho _ b;omega
structure Uk(w:World)(G1 B:Nat)(r:aX)(ws:bq)(a:aO)(c:Nat)(wx:World):Prop where
 e:aj w wx
 b1:au wx G1 r.v 192
 own:wx.ownsRow B 9 1 (.slice a ws.length c) ws.length (ws.map dx)
 sz:B<=wx.heap.size
variable {w wx wy:World} {G1 B:Nat} {r:aX} {ws news:bq} {a a':aO} {c c':Nat}
def Uk.ext(h:Uk w G1 B r ws a c wx)(e:aj wx wy):Uk w G1 B r ws a c wy:=⟨h.e.ext e,h.b1.ext e,CS h.own e,dJ h.sz e.size⟩
end
def ako{b:Prop}(e:b:=by
 intro n;induction n using Nat.strongRecOn with
 |ind n ih=>
 intro ls i c a w hl hi h2 cu hnc pV hcl;have tq:=O ih;clear ih;by_cases hn:n=1
 ·subst hn;obtain⟨y,rfl⟩:=Na.1 hl;rw[aj5];clear hcl cu hl;first|go_enter func105,ntmps105|go_enter func25,ntmps25
  go_wp2
  (try go_ret)
  exact⟨_,F,Hq _ _ _ _,aj.refl _⟩
 ·have iE:=oF (n:=n) J;obtain⟨hc,hd⟩:=aA (λw=>Kg n w J J) (λw=>Oa n w J J);have hr:=Ww dN (ls:=ls) J i;rw[hl]at hr;have ko:(ls.take (aU n)).length=aU n:=by rw[fP];omega
  have iO:(ls.drop (aU n)).length=n - aU n:=by rw[iI];omega
  have rF:=hcl.Mc cu (aU n);have nU:=hcl.WU cu c (aU n) J;have d1:((n:Int)==1)=false:=by simp;omega
  have d2:(n==1)=false:=by simp[hn]
  by_cases iw:i<aU n
  ·rw[aN iw]at hr;rw[hr];obtain⟨Ag,Cv,jG,wT⟩:=bT (λw' iD=>tq (aU n) J (ls.take (aU n)) i c a w' ko iw J (cu.take _) J pV iD) (λw' iD=>O_ (n - aU n) (ls.drop (aU n)) (c - aU n) (p8 a c (aU n) 32) w' iO J J (cu.drop _) J J iD) (λw' iD=>Md (n - aU n) (ls.drop (aU n)) (c - aU n) (p8 a c (aU n) 32) w' iO J J (cu.drop _) J J iD) (Ar dN lU (cu.drop (aU n)));have nD:=abK dN (aU n) (ls.take (aU n)) i ko;have d3:=cO ((i:Int)<(aU n:Int));have d4:=bV iw;generalize xM dN (ls.take (aU n)) i=p at*;generalize lV dN (ls.drop (aU n))=q at*;generalize ls.take (aU n)=l1 at*;generalize ls.drop (aU n)=l2 at*;generalize aU n=k at*;obtain⟨k1,k2,k3⟩:=iE;obtain⟨wR,Dh⟩:=aA rF nU;clear hcl cu hl hr ko iO rF nU;first|go_enter func105,ntmps105|go_enter func25,ntmps25
   go_upto_region 5 with(first|(go_at_call 157;refine(hc _).mono ?_;rintro e w' ⟨rfl,rfl⟩)|(go_at_call 66;refine(hd _).mono ?_;rintro e w' ⟨rfl,rfl⟩));obtain⟨C,Z,aK,bR⟩:=fK (show bM w w [] [] w from bM.iP (aj.refl _) (dR.none _));refine fF λX=> ?_;refine ay 0 ?_;refine ay 1 ?_;refine aV 2 F (aY F (λw1 _=>yG (k:=k) F F F underlying59 qO J w1)) ?_;refine ay 3 ?_;refine ay 5 ?_;refine ay 6 ?_;refine aV 7 F (aY F (λw1 _=>Lp (k:=k) F F F underlying59 qO J w1)) ?_;generalize drew w=wD at X⊢;refine aT 4 ?_;intro Q' hQ;go_wp2_with fail;refine(Ag wD (wR.ext ((Z wD).1 X).base)).mono ?_;rintro e wE ⟨v,rfl,ow,eE⟩;have OW:=O (xL ow ((Z wD).1 X).base.size);have hE:=aK _ _ X eE;go_wp2_with fail;refine hQ _ _ hE ?_;clear hQ Q' X eE ow;refine aL ?_;refine aT 8 ?_;intro Q' hQ;go_wp2_with fail;first|refine(Cv wE (Dh.ext ((Z wE).1 hE).base)).mono ?_|refine(jG wE (Dh.ext ((Z wE).1 hE).base)).mono ?_
   rintro e wF ⟨rfl,eF⟩;have hF:=aK _ _ hE eF;have OF:=O (iy OW eF);go_wp2_with fail;refine hQ _ _ hF ?_;clear hQ Q' hE eF;refine aL ?_;refine aT 9 ?_;intro Q' hQ;go_wp2_with (refine Mx F F F wT ?_);generalize oU:alloc wF _=wG;have bG:=dX oU (q.map Y) 31;have eG:=dS oU;obtain⟨BG,OG⟩:=aA bG (iy OF eG);have hG:=aK _ _ hF eG;clear oU bG eG hF;go_wp2_with fail;refine hQ _ _ hG ?_;clear hQ Q';refine aL ?_;have BP:=O ((Z wG).1 hG).base;have b_:=BP.size;refine aT 10 ?_;intro Q' hQ;go_wp2_with (refine PL F _ _ F w.heap.size F F OG wT BG J b_ ?_);intro v' wH xK xw _;have X:C wH:=(Z wH).2 (((Z wG).1 hG).grown xw (λg hg=>(OG.lt g hg).1) (aQ _));have OH:=O xK;go_wp2_with fail;refine hQ _ _ X ?_;clear hQ Q' hG xK xw;refine aL ?_;refine aT 11 ?_;intro Q' hQ;go_wp2_with (fail);refine hQ _ _ X ?_;clear hQ Q';refine aL ?_;refine dP ?_;have EH:=O ((Z wH).1 X).base;clear X aK Z bR;go_wp2
   (try go_ret)
   exact⟨_,F,by rw[bQ];exact OH,EH⟩
  ·rw[aJ iw]at hr;rw[hr];obtain⟨Ag,Cv,jG,wT⟩:=bT (λw' iD=>tq (n - aU n) J (ls.drop (aU n)) (i - aU n) (c - aU n) (p8 a c (aU n) 32) w' iO J J (cu.drop _) J J iD) (λw' iD=>O_ (aU n) (ls.take (aU n)) c a w' ko J J (cu.take _) J pV iD) (λw' iD=>Md (aU n) (ls.take (aU n)) c a w' ko J J (cu.take _) J pV iD) (Ar dN lU (cu.take (aU n)));have nD:=abK dN (n - aU n) (ls.drop (aU n)) (i - aU n) iO;have d3:=bU ((i:Int)<(aU n:Int));have d4:=bg iw;have vU:IntKind.i64.wrap ((i:Int) - (aU n:Int))=((i - aU n:Nat):Int):=by rw[fJ _ J];omega
   generalize xM dN (ls.drop (aU n)) (i - aU n)=p at*;generalize lV dN (ls.take (aU n))=q at*;generalize i - aU n=j at*;generalize ls.take (aU n)=l1 at*;generalize ls.drop (aU n)=l2 at*;generalize aU n=k at*;obtain⟨k1,k2,k3⟩:=iE;obtain⟨wR,Dh⟩:=aA rF nU;clear hcl cu hl hr ko iO rF nU;first|go_enter func105,ntmps105|go_enter func25,ntmps25
   go_upto_region 6 with(first|(go_at_call 157;refine(hc _).mono ?_;rintro e w' ⟨rfl,rfl⟩)|(go_at_call 66;refine(hd _).mono ?_;rintro e w' ⟨rfl,rfl⟩));obtain⟨C,Z,aK,bR⟩:=fK (show bM w w [] [] w from bM.iP (aj.refl _) (dR.none _));refine fF λX=> ?_;refine ay 0 ?_;refine ay 1 ?_;refine aV 2 F (aY F (λw1 _=>Lp (k:=k) F F F underlying59 qO J w1)) ?_;refine ay 3 ?_;refine ay 4 ?_;refine ay 5 ?_;refine ay 7 ?_;refine ay 8 ?_;refine aV 9 F (aY F (λw1 _=>yG (k:=k) F F F underlying59 qO J w1)) ?_;generalize drew w=wD at X⊢;refine aT 6 ?_;intro Q' hQ;go_wp2_with fail;refine(Ag wD (Dh.ext ((Z wD).1 X).base)).mono ?_;rintro e wE ⟨v,rfl,ow,eE⟩;have OW:=O (xL ow ((Z wD).1 X).base.size);have hE:=aK _ _ X eE;go_wp2_with fail;refine hQ _ _ hE ?_;clear hQ Q' X eE ow;refine aL ?_;refine aT 10 ?_;intro Q' hQ;go_wp2_with fail;first|refine(Cv wE (wR.ext ((Z wE).1 hE).base)).mono ?_|refine(jG wE (wR.ext ((Z wE).1 hE).base)).mono ?_
   rintro e wF ⟨rfl,eF⟩;have hF:=aK _ _ hE eF;have OF:=O (iy OW eF);go_wp2_with fail;refine hQ _ _ hF ?_;clear hQ Q' hE eF;refine aL ?_;refine aT 11 ?_;intro Q' hQ;go_wp2_with (refine Mx F F F wT ?_);generalize oU:alloc wF _=wG;have bG:=dX oU (q.map Y) 31;have eG:=dS oU;obtain⟨BG,OG⟩:=aA bG (iy OF eG);have hG:=aK _ _ hF eG;clear oU bG eG hF;go_wp2_with fail;refine hQ _ _ hG ?_;clear hQ Q';refine aL ?_;have BP:=O ((Z wG).1 hG).base;have b_:=BP.size;refine aT 12 ?_;intro Q' hQ;go_wp2_with (refine PL F _ _ F w.heap.size F F OG wT BG J b_ ?_);intro v' wH xK xw _;have X:C wH:=(Z wH).2 (((Z wG).1 hG).grown xw (λg hg=>(OG.lt g hg).1) (aQ _));have OH:=O xK;go_wp2_with fail;refine hQ _ _ X ?_;clear hQ Q' hG xK xw;refine aL ?_;refine aT 13 ?_;intro Q' hQ;go_wp2_with (fail);refine hQ _ _ X ?_;clear hQ Q';refine aL ?_;refine dP ?_;have EH:=O ((Z wH).1 X).base;clear X aK Z bR;go_wp2
   (try go_ret)
   exact⟨_,F,by rw[bQ];exact OH,EH⟩):b:=e
def acy:∀(n:Nat) (ls:List (ah)) (i c:Nat) (a:aO) (w:World),ls.length=n->i<n->n<=65536->iH ls->n<=c->c<=9223372036854775807->aM w a (dH ls)->
 Calls prog 25 #[.slice a n c,.int .i64 (i:Int)] w λe w'=>∃v,e= .returned v/\w'.ownsRow w.heap.size 31 32 v (xM dN ls i).length (dH (xM dN ls i))/\aj w w':=ako
def ahD{d:Prop}(e:d:=by
 intro n;induction n using Nat.strongRecOn with
 |ind n ih=>
 intro ls m b c a w hl yN jK h2 cu hnc pV hcl;have tq:=O ih;clear ih;by_cases hn:m=n
 ·subst hn;have hw:=ahA dN ls b;rw[hl]at hw;rw[hw];have d1:((m:Int)==(m:Int))=true:=beq_self_eq_true _;obtain⟨vJ,KA,wT,gX⟩:=bT (λw' iD=>O_ m ls c a w' hl J h2 cu hnc pV iD) (λw' iD=>Md m ls c a w' hl J h2 cu hnc pV iD) (Ar dN lU cu) hcl;generalize lV dN ls=q at*;clear hcl cu hl hw;cases b with
  |true=>
   first|go_enter func106,ntmps106|go_enter func28,ntmps28
   go_wp2
   (try go_ret)
   exact⟨_,F,Hq _ _ _ _,aj.refl _⟩
  |false=>
   first|go_enter func106,ntmps106|go_enter func28,ntmps28
   go_wp2_with fail;first|refine(vJ w gX).mono ?_|refine(KA w gX).mono ?_
   rintro e w1 ⟨rfl,e1⟩;go_wp2_with (refine Mx F F F wT ?_);generalize oU:alloc w1 _=wG;have bG:au wG w1.heap.size (q.map Y++[]) 31:=by rw[<-oU,xg];exact au.bK F F
   have eG:aj w wG:=by rw[<-oU];exact e1.alloc _
   have JK:=abA (n:=1) (cap:=1) (z:=32) bG (by rw[xg,aI,wT.out]) (by rw[aI,wT.out]) e1.size J (by unfold maxLen;omega);have OV:=O (show wG.ownsRow w.heap.size 31 32 (.slice (some ⟨w1.heap.size,0,none⟩) 1 1) 1 (dH [q]) by rw[WW];exact JK);clear oU bG JK e1;go_wp2
   (try go_ret)
   exact⟨_,F,OV,eG⟩
 ·have iE:=oF (n:=n) J;obtain⟨hc,hd⟩:=aA (λw=>Kg n w J J) (λw=>Oa n w J J);have hr:=Vk dN (ls:=ls) J (m:=m) J b;rw[hl]at hr;have ko:(ls.take (aU n)).length=aU n:=by rw[fP];omega
  have iO:(ls.drop (aU n)).length=n - aU n:=by rw[iI];omega
  have rF:=hcl.Mc cu (aU n);have nU:=hcl.WU cu c (aU n) J;have d1:((m:Int)==(n:Int))=false:=by simp;omega
  have d2:(m==n)=false:=by simp[hn]
  by_cases iw:m<=aU n
  ·rw[aN iw]at hr;rw[hr];obtain⟨Ag,Cv,jG,wT⟩:=bT (λw' iD=>tq (aU n) J (ls.take (aU n)) m b c a w' ko yN iw J (cu.take _) J pV iD) (λw' iD=>O_ (n - aU n) (ls.drop (aU n)) (c - aU n) (p8 a c (aU n) 32) w' iO J J (cu.drop _) J J iD) (λw' iD=>Md (n - aU n) (ls.drop (aU n)) (c - aU n) (p8 a c (aU n) 32) w' iO J J (cu.drop _) J J iD) (Ar dN lU (cu.drop (aU n)));have nD:=aag dN (aU n) (ls.take (aU n)) m b ko;have d3:=cO ((m:Int)<=(aU n:Int));have d4:=bV iw;generalize xB dN (ls.take (aU n)) m b=p at*;generalize lV dN (ls.drop (aU n))=q at*;generalize ls.take (aU n)=l1 at*;generalize ls.drop (aU n)=l2 at*;generalize aU n=k at*;obtain⟨k1,k2,k3⟩:=iE;obtain⟨wR,Dh⟩:=aA rF nU;clear hcl cu hl hr ko iO rF nU;first|go_enter func106,ntmps106|go_enter func28,ntmps28
   go_upto_region 7 with(first|(go_at_call 157;refine(hc _).mono ?_;rintro e w' ⟨rfl,rfl⟩)|(go_at_call 66;refine(hd _).mono ?_;rintro e w' ⟨rfl,rfl⟩));obtain⟨C,Z,aK,bR⟩:=fK (show bM w w [] [] w from bM.iP (aj.refl _) (dR.none _));refine fF λX=> ?_;refine ay 0 ?_;refine ay 1 ?_;refine aV 2 F (aY F (λw1 _=>yG (k:=k) F F F underlying59 qO J w1)) ?_;refine ay 3 ?_;refine ay 4 ?_;refine ay 6 ?_;refine ay 7 ?_;refine aV 8 F (aY F (λw1 _=>Lp (k:=k) F F F underlying59 qO J w1)) ?_;generalize drew w=wD at X⊢;refine aT 5 ?_;intro Q' hQ;go_wp2_with fail;refine(Ag wD (wR.ext ((Z wD).1 X).base)).mono ?_;rintro e wE ⟨v,rfl,ow,eE⟩;have OW:=O (xL ow ((Z wD).1 X).base.size);have hE:=aK _ _ X eE;go_wp2_with fail;refine hQ _ _ hE ?_;clear hQ Q' X eE ow;refine aL ?_;refine aT 9 ?_;intro Q' hQ;go_wp2_with fail;first|refine(Cv wE (Dh.ext ((Z wE).1 hE).base)).mono ?_|refine(jG wE (Dh.ext ((Z wE).1 hE).base)).mono ?_
   rintro e wF ⟨rfl,eF⟩;have hF:=aK _ _ hE eF;have OF:=O (iy OW eF);go_wp2_with fail;refine hQ _ _ hF ?_;clear hQ Q' hE eF;refine aL ?_;refine aT 10 ?_;intro Q' hQ;go_wp2_with (refine Mx F F F wT ?_);generalize oU:alloc wF _=wG;have bG:=dX oU (q.map Y) 31;have eG:=dS oU;obtain⟨BG,OG⟩:=aA bG (iy OF eG);have hG:=aK _ _ hF eG;clear oU bG eG hF;go_wp2_with fail;refine hQ _ _ hG ?_;clear hQ Q';refine aL ?_;have BP:=O ((Z wG).1 hG).base;have b_:=BP.size;refine aT 11 ?_;intro Q' hQ;go_wp2_with (refine PL F _ _ F w.heap.size F F OG wT BG J b_ ?_);intro v' wH xK xw _;have X:C wH:=(Z wH).2 (((Z wG).1 hG).grown xw (λg hg=>(OG.lt g hg).1) (aQ _));have OH:=O xK;go_wp2_with fail;refine hQ _ _ X ?_;clear hQ Q' hG xK xw;refine aL ?_;refine aT 12 ?_;intro Q' hQ;go_wp2_with (fail);refine hQ _ _ X ?_;clear hQ Q';refine aL ?_;refine dP ?_;have EH:=O ((Z wH).1 X).base;clear X aK Z bR;go_wp2
   (try go_ret)
   exact⟨_,F,by rw[bQ];exact OH,EH⟩
  ·rw[aJ iw]at hr;rw[hr];obtain⟨Ag,Cv,jG,wT⟩:=bT (λw' iD=>tq (n - aU n) J (ls.drop (aU n)) (m - aU n) false (c - aU n) (p8 a c (aU n) 32) w' iO J J J (cu.drop _) J J iD) (λw' iD=>O_ (aU n) (ls.take (aU n)) c a w' ko J J (cu.take _) J pV iD) (λw' iD=>Md (aU n) (ls.take (aU n)) c a w' ko J J (cu.take _) J pV iD) (Ar dN lU (cu.take (aU n)));have nD:=aag dN (n - aU n) (ls.drop (aU n)) (m - aU n) false iO;have d3:=bU ((m:Int)<=(aU n:Int));have d4:=bg iw;have vU:IntKind.i64.wrap ((m:Int) - (aU n:Int))=((m - aU n:Nat):Int):=by rw[fJ _ J];omega
   generalize xB dN (ls.drop (aU n)) (m - aU n) false=p at*;generalize lV dN (ls.take (aU n))=q at*;generalize m - aU n=j at*;generalize ls.take (aU n)=l1 at*;generalize ls.drop (aU n)=l2 at*;generalize aU n=k at*;obtain⟨k1,k2,k3⟩:=iE;obtain⟨wR,Dh⟩:=aA rF nU;clear hcl cu hl hr ko iO rF nU;first|go_enter func106,ntmps106|go_enter func28,ntmps28
   go_upto_region 8 with(first|(go_at_call 157;refine(hc _).mono ?_;rintro e w' ⟨rfl,rfl⟩)|(go_at_call 66;refine(hd _).mono ?_;rintro e w' ⟨rfl,rfl⟩));obtain⟨C,Z,aK,bR⟩:=fK (show bM w w [] [] w from bM.iP (aj.refl _) (dR.none _));refine fF λX=> ?_;refine ay 0 ?_;refine ay 1 ?_;refine aV 2 F (aY F (λw1 _=>Lp (k:=k) F F F underlying59 qO J w1)) ?_;refine ay 3 ?_;refine ay 4 ?_;refine ay 5 ?_;refine ay 7 ?_;refine ay 8 ?_;refine aV 9 F (aY F (λw1 _=>yG (k:=k) F F F underlying59 qO J w1)) ?_;generalize drew w=wD at X⊢;refine aT 6 ?_;intro Q' hQ;go_wp2_with fail;refine(Ag wD (Dh.ext ((Z wD).1 X).base)).mono ?_;rintro e wE ⟨v,rfl,ow,eE⟩;have OW:=O (xL ow ((Z wD).1 X).base.size);have hE:=aK _ _ X eE;go_wp2_with fail;refine hQ _ _ hE ?_;clear hQ Q' X eE ow;refine aL ?_;refine aT 10 ?_;intro Q' hQ;go_wp2_with fail;first|refine(Cv wE (wR.ext ((Z wE).1 hE).base)).mono ?_|refine(jG wE (wR.ext ((Z wE).1 hE).base)).mono ?_
   rintro e wF ⟨rfl,eF⟩;have hF:=aK _ _ hE eF;have OF:=O (iy OW eF);go_wp2_with fail;refine hQ _ _ hF ?_;clear hQ Q' hE eF;refine aL ?_;refine aT 11 ?_;intro Q' hQ;go_wp2_with (refine Mx F F F wT ?_);generalize oU:alloc wF _=wG;have bG:=dX oU (q.map Y) 31;have eG:=dS oU;obtain⟨BG,OG⟩:=aA bG (iy OF eG);have hG:=aK _ _ hF eG;clear oU bG eG hF;go_wp2_with fail;refine hQ _ _ hG ?_;clear hQ Q';refine aL ?_;have BP:=O ((Z wG).1 hG).base;have b_:=BP.size;refine aT 12 ?_;intro Q' hQ;go_wp2_with (refine PL F _ _ F w.heap.size F F OG wT BG J b_ ?_);intro v' wH xK xw _;have X:C wH:=(Z wH).2 (((Z wG).1 hG).grown xw (λg hg=>(OG.lt g hg).1) (aQ _));have OH:=O xK;go_wp2_with fail;refine hQ _ _ X ?_;clear hQ Q' hG xK xw;refine aL ?_;refine aT 13 ?_;intro Q' hQ;go_wp2_with (fail);refine hQ _ _ X ?_;clear hQ Q';refine aL ?_;refine dP ?_;have EH:=O ((Z wH).1 X).base;clear X aK Z bR;go_wp2
   (try go_ret)
   exact⟨_,F,by rw[bQ];exact OH,EH⟩):d:=e
def akL:∀(n:Nat) (ls:List (ah)) (m:Nat) (b:Bool) (c:Nat) (a:aO) (w:World),ls.length=n->1<=m->m<=n->n<=65536->iH ls->n<=c->c<=9223372036854775807->aM w a (dH ls)->
 Calls prog 28 #[.slice a n c,.int .i64 (m:Int),.bool b] w λe w'=>∃v,e= .returned v/\w'.ownsRow w.heap.size 31 32 v (xB dN ls m b).length (dH (xB dN ls m b))/\aj w w':=ahD
def kR(n:Int):Bool:=decide (1<=n)&&decide (n<=12)
def aaX(n:Int)(w:World):
 qR 205 #[.int .i64 n] w (.bool (kR n)):=by
 by_cases h:1<=n
 ·have a:=bV h;go_enter func205,ntmps205;go_wp2;go_ret;exact⟨by unfold kR;first|rfl|(rw[a];rfl),F⟩
 ·have a:=bg h;go_enter func205,ntmps205;go_wp2;go_ret;exact⟨by unfold kR;first|rfl|(rw[a];rfl),F⟩
def wo:Option ByteArray->bq->Int
 |_,[]=>0
 |p,s::t=>if nH s.data.toList then(if p.all λq=>BA q s then wo (some s) t else 9)else 6
def Gv(ls:bq):Int:=wo none ls
def yT(ls:bq):Nat->Option ByteArray
 |0=>none
 |j+1=>ls[j]?
def aco{ls:bq}{k:Nat}{x:ByteArray}(a:ls[k]? =some x):
 wo (yT ls k) (ls.drop k)=if nH x.data.toList then(if(yT ls k).all λq=>BA q x then wo (yT ls (k+1)) (ls.drop (k+1))else 9)else 6:=by grind [wo,yT,nH,List.getElem?_eq_some_iff,drop_eq_getElem_cons]
def acn{ls:bq}{k:Nat}(h:ls.length<=k)(p:Option ByteArray):wo p (ls.drop k)=0:=by
 rw[drop_eq_nil_of_le h];cases p<;>rfl
def akP(ls:bq)(a:aO)(n c:Nat)(w:World)(L:ls.length=n)(ad:n<=4611686018427387904)(hs:∀s∈ls,s.size<=140737488355328)(Q:aM w a (ls.map dx)):
 eO 276 #[.slice a n c] w (.int .i64 (Gv ls)):=by
 obtain⟨t,E,T⟩:=aW L Q hs;obtain⟨o,y⟩:=aF (Gv ls);rw[y];have H:wo (yT ls 0) (ls.drop 0)=o:=y;clear L Q hs y;go_enter func276,ntmps276;go_wp2;go_loopw [7] (λi wr=>∃k:Nat,k<=n/\i= .int .i64 (k:Int)/\wo (yT ls k) (ls.drop k)=o/\aj w wr) (λi _=>n - (intOf i).toNat)
 ·exact⟨0,J,F,H,aj.refl _⟩
 ·obtain⟨k,ae,rfl,b,G⟩:=hrel;have d:=O G;clear G H;by_cases g:k<n
  ·have U:=cO ((k:Int)<(n:Int));have V:=bV g;obtain⟨x,h⟩:∃x,ls[k]? =some x:=⟨ls[k]'(by rw[t.out];exact g),aB⟩;rw[aco h]at b;obtain⟨A,rfl,K⟩:=Ki E h;obtain⟨r,l⟩:=aA (oP K d) (aaH x wr (T x (f_ h)));clear K;cases M:nH x.data.toList with
   |false=>
    rw[M]at l b;have m:=O b;clear b h;go_wp2_with (first|(refine oH F (gD (i:=k) F F F underlying98 CZ g _) ?_)|(refine oH F (pR F F r xJ) ?_));refine l.mono ?_;rintro e R ⟨rfl,rfl⟩;go_wp2;go_ret;exact⟨by rw[<-m.out];rfl,d⟩
   |true=>
    rw[M]at l b;simp only[wX]at b;cases k with
    |zero=>
     have P:wo (yT ls 1) (ls.drop 1)=o:=b;have m:=O P;clear P b h;go_wp2_with (first|(refine oH F (gD (i:=0) F F F underlying98 CZ g _) ?_)|(refine oH F (pR F F r xJ) ?_));refine l.mono ?_;rintro e R ⟨rfl,rfl⟩;go_wp2;go_roundw
     ·exact⟨1,J,by go_num,m,d⟩
     ·exact fV
    |succ j=>
     obtain⟨q,z⟩:∃q,ls[j]? =some q:=⟨ls[j]'(by rw[t.out];omega),aB⟩;obtain⟨ab,v,I⟩:=Ki E z;injection v with v;subst v;have S:=O (oP I d);have N:(if BA q x=true then wo (yT ls (j+2)) (ls.drop (j+2))else 9)=o:=by
      rw[show yT ls (j+1)=some q from z]at b;exact b
     obtain⟨D,C⟩:=aA N (aaQ q x);have aa:j<n:=J;have af:IntKind.i64.wrap (((j+1:Nat):Int) - 1)=(j:Int):=by rw[fJ _ J];omega
     have ac:=cO ((0:Int)<((j+1:Nat):Int));clear I z b h N;go_wp2_with (first|(refine oH F (gD (i:=j+1) F F F underlying98 CZ g _) ?_)|(refine oH F (pR F F r xJ) ?_));refine l.mono ?_;rintro e R ⟨rfl,rfl⟩;go_wp2_with (first|(refine oH F (gD (i:=j) F F F underlying98 CZ aa _) ?_)|(refine oH F (pR F F S xJ) ?_))
     ·rename_i p;have B:BA q x=false:=by
       have f:=C.out;rcases p with u|u
       ·rw[u]at f;simpa using f.symm
       ·rw[u]at f;simpa using f.symm
      go_ret;exact⟨by rw[<-D.out,B];rfl,d⟩
     ·rename_i p;have B:BA q x=true:=by
       have f:=C.out;rw[p.1,p.2]at f;simpa using f.symm
      have W:wo (yT ls (j+2)) (ls.drop (j+2))=o:=by have:=D.out;rw[B]at this;simpa using this
      go_roundw
      ·exact⟨j+2,J,by go_num,W,d⟩
      ·exact fV
  ·have U:=bU ((k:Int)<(n:Int));have V:=bg g;rw[acn (by rw[t.out];omega)]at b;have m:=O b;clear b;go_wp2;go_ret;exact⟨by rw[<-m.out];rfl,d⟩
section
open Go Go.Lib
abbrev gZ:=Lib.compareBytes
def UK:∀x:ah,gZ x x=0
 |[]=>rfl
 |a::ar=>by
  unfold gZ Lib.compareBytes;rw[aJ (Ng a),aJ (Ng a)];exact UK ar
theorem UL:∀x y:ah,gZ y x= - gZ x y
 |[],[]=>rfl
 |[],_::_=>rfl
 |_::_,[]=>rfl
 |a::e,b::f=>by
  have ih:=UL e f;unfold gZ Lib.compareBytes at ih⊢;by_cases c:a<b
  ·have d:¬b<a:=UInt8.lt_asymm c;simp[c,d]
  ·by_cases d:b<a
   ·simp[c,d]
   ·simp only[c,d,Ed];unfold Lib.compareBytes;cases e<;>cases f<;>simp_all [Lib.compareBytes]
theorem Y_:∀{x y:ah},gZ x y=0->x=y
 |[],[],_=>rfl
 |[],_::_,h=>by simp[gZ,Lib.compareBytes]at h
 |_::_,[],h=>by simp[gZ,Lib.compareBytes]at h
 |a::ar,b::bs,h=>by
  unfold gZ at h;unfold Lib.compareBytes at h;by_cases h1:a<b
  ·rw[aN h1]at h;cases h
  ·by_cases h2:b<a
   ·rw[aJ h1,aN h2]at h;cases h
   ·rw[aJ h1,aJ h2]at h;have e1:a=b:=UInt8.le_antisymm (KS.1 h2) (KS.1 h1);rw[e1,Y_ h]
theorem Za:∀x y:ah,gZ x y= -1∨gZ x y=0∨gZ x y=1
 |[],[]=> .inr (.inl F)
 |[],_::_=> .inl F
 |_::_,[]=> .inr (.inr F)
 |a::ar,b::bs=>by
  unfold gZ Lib.compareBytes;split
  ·exact .inl F
  ·split
   ·exact .inr (.inr F)
   ·exact Za ar bs
theorem Y':∀{x y z:ah},gZ x y<0->gZ y z<0->gZ x z<0
 |[],[],_,h,_=>by simp[gZ,Lib.compareBytes]at h
 |_,_::_,[],_,h=>by simp[gZ,Lib.compareBytes]at h
 |[],_::_,_::_,_,_=>by simp[gZ,Lib.compareBytes]
 |_::_,[],_,h,_=>by simp[gZ,Lib.compareBytes]at h
 |a::ar,b::bs,c::cs,h1,h2=>by
  unfold gZ at h1 h2⊢;unfold Lib.compareBytes at h1 h2⊢;by_cases p1:a<b
  ·by_cases q1:b<c
   ·rw[aN (UInt8.lt_trans p1 q1)];decide
   ·by_cases q2:c<b
    ·rw[aJ q1,aN q2]at h2;exact absurd h2 bS
    ·have e:b=c:=UInt8.le_antisymm (KS.1 q2) (KS.1 q1);rw[<-e,aN p1];decide
  ·by_cases d:b<a
   ·rw[aJ p1,aN d]at h1;exact absurd h1 bS
   ·have e:a=b:=UInt8.le_antisymm (KS.1 d) (KS.1 p1);rw[aJ p1,aJ d]at h1;subst e;by_cases q1:a<c
    ·rw[aN q1];decide
    ·by_cases q2:c<a
     ·rw[aJ q1,aN q2]at h2;exact absurd h2 bS
     ·rw[aJ q1,aJ q2]at h2⊢;exact Y' h1 h2
def Al(x y:ah):Bool:=decide (gZ x y<0)
def VQ(x:ah):Al x x=false:=by unfold Al;rw[UK];rfl
theorem RL{x y z:ah}(h1:Al x y=true)(h2:Al y z=true):Al x z=true:=by grind [Al,Y']
theorem ai9(x y:ah):Al x y=true∨x=y∨Al y x=true:=by grind [Al,UL,Za,Y_]
def VR{x y z:ah}(a:Al x y=false)(b:Al y z=false):Al x z=false:=by grind [ai9,RL]
end
section
open Go Go.RowKit Go.Sort
structure S32 where
 l:ah
 h:l.length=32
instance:Inhabited S32:=⟨⟨replicate 32 0,aB⟩⟩
end
def acT{P:Program}(x:ah)(p:Addr)(w:World)(f:d9 w p (x.map Y)):Sem.run P (Extern.Bytes.loadBytes p x.length ByteArray.empty) w= .ok ⟨x.toArray⟩ w:=by
 have c:=Go.Lib.run_loadBytesX (P:=P) w (x.map λb=>(b.toNat:Int)) p .empty (λj u a=>by
  rw[iT]at a;cases d:x[j]? with
  |none=>rw[d]at a;cases a
  |some b=>
   rw[d]at a;simp only[jr,wY]at a;subst a;exact f j _ (by rw[iT,d];rfl))
 rw[aI]at c;have e:Go.Lib.bytesOf (x.map λb=>(b.toNat:Int))=x:=aaG x;rw[e]at c;have h:(⟨ByteArray.empty.data++x.toArray⟩:ByteArray)=⟨x.toArray⟩:=by apply KQ;show(#[]:Array UInt8)++x.toArray=x.toArray;simp
 rw[h]at c;exact c
def alj{P:Program}(x y:ah)(p q:Addr)(c d:Nat)(w:World)(a:d9 w p (x.map Y))(b:d9 w q (y.map Y)):
 (Extern.BytealgCompare.compare #[.slice (some p) x.length c,.slice (some q) y.length d]).run P w= .ok (.int .i64 (gZ x y)) w:=by
 change Sem.run P (do pure (goInt (Extern.BytealgCompare.cmp (<-Extern.Bytes.bytesOf (.slice (some p) x.length c)) (<-Extern.Bytes.bytesOf (.slice (some q) y.length d))))) w=_;simp only[Extern.Bytes.bytesOf,iC,ni,Result.andThen,acT x p w a,acT y q w b];rw[Lib.cmp_eq];rfl
def YZ(x y:ah)(p q:Addr)(n m c d:Nat)(w:World)(g:x.length=n)(f:y.length=m)(a:d9 w p (x.map Y))(b:d9 w q (y.map Y)):
 qR 177 #[.slice (some p) n c,.slice (some q) m d] w (.int .i64 (gZ x y)):=by
 subst g;subst f;have h:=alj (P:=prog) x y p q c d w a b;generalize gZ x y=r at*;generalize x.length=n at*;generalize y.length=m at*;clear a b;go_enter func177,ntmps177;go_wp2;rw[run_callFunc_extern func225 aC aC aC (e:=Extern.BytealgCompare.compare) aC,h];simp only[Result.andThen];rw[Cb];go_wp2;go_ret;exact⟨F,F⟩
def mg(w w':World):Prop:=∃q os,w'=Sort.grow (w.drewN q) os
def mg.refl(w:World):mg w w:=⟨0,#[],by simp[Sort.grow,World.drewN]⟩
def mg.alloc{w w':World}(h:mg w w')(o:Obj):mg w (w'.alloc o):=by
 obtain⟨q,os,rfl⟩:=h;exact⟨q,os.push o,by simp[Sort.grow,World.alloc]⟩
def mg.drewN{w w':World}(h:mg w w')(n:Nat):mg w (w'.drewN n):=by
 obtain⟨q,os,rfl⟩:=h;exact⟨q+n,os,by simp[Sort.grow,World.drewN,k_]⟩
def mg.trans{a b c:World}(h:mg a b)(k:mg b c):mg a c:=by
 obtain⟨q,os,rfl⟩:=h;obtain⟨e,d,rfl⟩:=k;exact⟨q+e,os++d,by simp[Sort.grow,World.drewN,k_,Array.append_assoc]⟩
def mg.ext{w w':World}(h:mg w w'):aj w w':=by
 obtain⟨q,os,rfl⟩:=h;refine⟨F,F,F,by simp[Sort.grow,World.drewN],λi a=> ?_⟩;show(w.heap++os)[i]? =_;rw[P6 a]
def QE{w:World}{g:Nat}{vs:aP}{T:TypeId}(h:au w g vs T):d9 w ⟨g,0,none⟩ vs:=λj u a=>by rw[eX,kD];exact h.cell' a
def Z4{a:Prop}(e:a:=by
 obtain⟨HX,HY,vV,nW⟩:=bT hx hy (show(x.map Y).length=16 by rw[aI];exact hx) (show(y.map Y).length=16 by rw[aI];exact hy);clear hx hy;first|go_enter func278,ntmps278|go_enter func122,ntmps122
 go_wp2_with fail;generalize aG:alloc (alloc w _) _=wA;have xA:=qA aG (x.map Y) 29;have yA:=qQ aG (y.map Y) 29;have eA:mg w wA:=by rw[<-aG];exact((mg.refl w).alloc _).alloc _
 obtain⟨hb,EA⟩:=aA (λn=>YZ x y ⟨w.heap.size,0,none⟩ ⟨w.heap.size+1,0,none⟩ 16 16 16 16 (wA.drewN n) HX HY (QE xA.drewN) (QE yA.drewN)) eA;clear aG xA yA eA;refine qX (S:=λw'=>∃n,w'=wA.drewN n) aC ⟨1,F⟩ (λX=> ?_);refine ay 0 ?_;refine ay 1 ?_;refine aT 2 ?_;intro Q' hQ;obtain⟨nq,Vy⟩:=X;generalize wA.drew=wB at*;subst Vy;go_wp2_with fail;refine(hb nq).mono ?_;rintro e w' ⟨rfl,rfl⟩;go_wp2_with fail;refine hQ _ _ ⟨nq,F⟩ ?_;clear hQ Q';have X:∃n,wA.drewN nq=wA.drewN n:=⟨nq,F⟩;refine aL ?_;refine ay 3 ?_;refine dP ?_;go_wp2;go_ret;first|exact⟨F,(EA.drewN nq).ext⟩|exact⟨F,EA.drewN nq⟩):a:=e
def aiG(x y:ah)(w:World)(hx:x.length=16)(hy:y.length=16):
 Calls prog 278 #[.agg (x.map Y).toArray,.agg (y.map Y).toArray] w λe w'=>e= .returned (.int .i64 (gZ x y))/\aj w w':=Z4
def Sj(x y:ah)(w:World)(hx:x.length=16)(hy:y.length=16):
 Calls prog 122 #[.agg (x.map Y).toArray,.agg (y.map Y).toArray] w λe w'=>e= .returned (.int .i64 (gZ x y))/\mg w w':=Z4
def akN(x y:ah)(w:World)(a:x.length=16)(b:y.length=16):
 Calls prog 122 #[.agg (x.map Y).toArray,.agg (y.map Y).toArray] w λe w'=>e= .returned (.int .i64 (gZ x y))/\aj w w':=
 (Sj x y w a b).mono λ_ _ h=>⟨h.1,h.2.ext⟩
def sP(n:Int):List Bool:=
 if n=1 then[true,false,false,false,false,false,false,false,false,false,false,false]
 else if n=2 then[false,true,true,false,false,false,false,false,false,false,false,false]
 else if n=3 then[false,true,false,false,false,false,false,false,false,false,false,false]
 else if n=4 then[false,false,false,true,true,false,false,false,false,false,false,false]
 else if n=5 then[false,false,false,false,true,true,false,false,false,false,false,false]
 else if n=6 then[false,false,false,false,true,true,true,false,false,false,false,false]
 else if n=7 then[false,false,false,false,false,false,false,true,false,false,false,false]
 else if n=8 then[false,false,false,false,true,false,false,false,false,false,false,false]
 else if n=9 then[false,false,false,false,true,true,false,false,true,true,false,false]
 else if n=10 then[false,false,false,false,true,true,false,false,false,true,false,false]
 else if n=11 then[false,false,false,false,true,false,false,false,false,false,true,false]
 else[false,false,false,false,true,false,false,false,false,false,true,true]
def OB(n:Int):(sP n).length=12:=by
 unfold sP;simp only[apply_ite List.length,iU,sD,ite_self]
def OC(n:Int):aP:=(sP n).map .bool
def A9:jc prog 304 12:=⟨⟨_,underlying304,F⟩,aC⟩
def abg(n:Int)(w:World):
 eO 207 #[.int .i64 n] w (.agg (OC n).toArray):=by
 rcases(by omega:n=1∨n=2∨n=3∨n=4∨n=5∨n=6∨n=7∨n=8∨n=9∨n=10∨n=11∨(¬n=1/\¬n=2/\¬n=3/\¬n=4/\¬n=5/\¬n=6/\¬n=7/\¬n=8/\¬n=9/\¬n=10/\¬n=11))with rfl|rfl|rfl|rfl|rfl|rfl|rfl|rfl|rfl|rfl|rfl|h
 ·skip
  go_enter func207,ntmps207;go_wp2_with fail;refine jS F F (au.bK (vs:=[.bool true,.bool false,.bool false,.bool false,.bool false,.bool false,.bool false,.bool false,.bool false,.bool false,.bool false,.bool false]) F F) A9 F F ⟨F,(aj.refl w).alloc _⟩
 ·skip
  go_enter func207,ntmps207;go_wp2_with fail;refine jS F F (au.bK (vs:=[.bool false,.bool true,.bool true,.bool false,.bool false,.bool false,.bool false,.bool false,.bool false,.bool false,.bool false,.bool false]) F F) A9 F F ⟨F,(aj.refl w).alloc _⟩
 ·skip
  go_enter func207,ntmps207;go_wp2_with fail;refine jS F F (au.bK (vs:=[.bool false,.bool true,.bool false,.bool false,.bool false,.bool false,.bool false,.bool false,.bool false,.bool false,.bool false,.bool false]) F F) A9 F F ⟨F,(aj.refl w).alloc _⟩
 ·skip
  go_enter func207,ntmps207;go_wp2_with fail;refine jS F F (au.bK (vs:=[.bool false,.bool false,.bool false,.bool true,.bool true,.bool false,.bool false,.bool false,.bool false,.bool false,.bool false,.bool false]) F F) A9 F F ⟨F,(aj.refl w).alloc _⟩
 ·skip
  go_enter func207,ntmps207;go_wp2_with fail;refine jS F F (au.bK (vs:=[.bool false,.bool false,.bool false,.bool false,.bool true,.bool true,.bool false,.bool false,.bool false,.bool false,.bool false,.bool false]) F F) A9 F F ⟨F,(aj.refl w).alloc _⟩
 ·skip
  go_enter func207,ntmps207;go_wp2_with fail;refine jS F F (au.bK (vs:=[.bool false,.bool false,.bool false,.bool false,.bool true,.bool true,.bool true,.bool false,.bool false,.bool false,.bool false,.bool false]) F F) A9 F F ⟨F,(aj.refl w).alloc _⟩
 ·skip
  go_enter func207,ntmps207;go_wp2_with fail;refine jS F F (au.bK (vs:=[.bool false,.bool false,.bool false,.bool false,.bool false,.bool false,.bool false,.bool true,.bool false,.bool false,.bool false,.bool false]) F F) A9 F F ⟨F,(aj.refl w).alloc _⟩
 ·skip
  go_enter func207,ntmps207;go_wp2_with fail;refine jS F F (au.bK (vs:=[.bool false,.bool false,.bool false,.bool false,.bool true,.bool false,.bool false,.bool false,.bool false,.bool false,.bool false,.bool false]) F F) A9 F F ⟨F,(aj.refl w).alloc _⟩
 ·skip
  go_enter func207,ntmps207;go_wp2_with fail;refine jS F F (au.bK (vs:=[.bool false,.bool false,.bool false,.bool false,.bool true,.bool true,.bool false,.bool false,.bool true,.bool true,.bool false,.bool false]) F F) A9 F F ⟨F,(aj.refl w).alloc _⟩
 ·skip
  go_enter func207,ntmps207;go_wp2_with fail;refine jS F F (au.bK (vs:=[.bool false,.bool false,.bool false,.bool false,.bool true,.bool true,.bool false,.bool false,.bool false,.bool true,.bool false,.bool false]) F F) A9 F F ⟨F,(aj.refl w).alloc _⟩
 ·skip
  go_enter func207,ntmps207;go_wp2_with fail;refine jS F F (au.bK (vs:=[.bool false,.bool false,.bool false,.bool false,.bool true,.bool false,.bool false,.bool false,.bool false,.bool false,.bool true,.bool false]) F F) A9 F F ⟨F,(aj.refl w).alloc _⟩
 ·have a:OC n=[.bool false,.bool false,.bool false,.bool false,.bool true,.bool false,.bool false,.bool false,.bool false,.bool false,.bool true,.bool true]:=by unfold OC sP;rw[aJ h.1,aJ h.2.1,aJ h.2.2.1,aJ h.2.2.2.1,aJ h.2.2.2.2.1,aJ h.2.2.2.2.2.1,aJ h.2.2.2.2.2.2.1,aJ h.2.2.2.2.2.2.2.1,aJ h.2.2.2.2.2.2.2.2.1,aJ h.2.2.2.2.2.2.2.2.2.1,aJ h.2.2.2.2.2.2.2.2.2.2];rfl
  rw[a];have b:(n==1)=false:=by simpa using h.1
  have o:=bg h.1;have c:(n==2)=false:=by simpa using h.2.1
  have p:=bg h.2.1;have e:(n==3)=false:=by simpa using h.2.2.1
  have r2:=bg h.2.2.1;have f:(n==4)=false:=by simpa using h.2.2.2.1
  have r:=bg h.2.2.2.1;have g:(n==5)=false:=by simpa using h.2.2.2.2.1
  have s:=bg h.2.2.2.2.1;have i:(n==6)=false:=by simpa using h.2.2.2.2.2.1
  have t:=bg h.2.2.2.2.2.1;have j:(n==7)=false:=by simpa using h.2.2.2.2.2.2.1
  have u:=bg h.2.2.2.2.2.2.1;have k:(n==8)=false:=by simpa using h.2.2.2.2.2.2.2.1
  have v:=bg h.2.2.2.2.2.2.2.1;have l:(n==9)=false:=by simpa using h.2.2.2.2.2.2.2.2.1
  have x:=bg h.2.2.2.2.2.2.2.2.1;have m:(n==10)=false:=by simpa using h.2.2.2.2.2.2.2.2.2.1
  have y:=bg h.2.2.2.2.2.2.2.2.2.1;have d:(n==11)=false:=by simpa using h.2.2.2.2.2.2.2.2.2.2
  have q:=bg h.2.2.2.2.2.2.2.2.2.2;clear h a;go_enter func207,ntmps207;go_wp2_with fail;refine jS F F (au.bK (vs:=[.bool false,.bool false,.bool false,.bool false,.bool true,.bool false,.bool false,.bool false,.bool false,.bool false,.bool true,.bool true]) F F) A9 F F ⟨F,(aj.refl w).alloc _⟩
structure aD where
 text:ByteArray
 member:ah
 ra:aO
 rn:Nat
 rc:Nat
 roles:bq
 label:ByteArray
 commit:ah
 epoch:Int
 purpose:Int
 reason:Int
 need:Int
 version:Int
 count:Int
 ha:aO
 hn:Nat
 hc:Nat
 dG:List (ah)
def aD.t(b:aD):aP:=[.int .i64 b.epoch,.int .i64 b.purpose,.int .i64 b.reason,.int .i64 b.need,.int .i64 b.version,.int .i64 b.count,.slice b.ha b.hn b.hc]
def aD.v(b:aD):aP:= .string b.text::(b.member.map Y++(.slice b.ra b.rn b.rc:: .string b.label::(b.commit.map Y++b.t)))
def yZ(l:List (ah)):Prop:=∀x∈l,x.length=16
structure aD.Ok(w:World)(b:aD):Prop where
 ts:b.text.size<=140737488355328
 hm:b.member.length=16
 hcm:b.commit.length=32
 rl:b.roles.length=b.rn
 Ap:b.rn<=b.rc
 rm:b.rn<=140737488355328
 vk:aM w b.ra (b.roles.map dx)
 rs:∀s∈b.roles,s.size<=140737488355328
 ls:b.label.size<=140737488355328
 hl:b.dG.length=b.hn
 hnc:b.hn<=b.hc
 Ey:b.hn<=140737488355328
 h16:yZ b.dG
 hcell:aM w b.ha (dH b.dG)
def aD.Ok.ext{w w':World}{b:aD}(h:b.Ok w)(e:aj w w'):b.Ok w':=
 ⟨h.ts,h.hm,h.hcm,h.rl,h.Ap,h.rm,h.vk.ext e,h.rs,h.ls,h.hl,h.hnc,h.Ey,h.h16,h.hcell.ext e⟩
def aD.len{w:World}{b:aD}(h:b.Ok w):b.v.length=58:=by unfold aD.v aD.t;simp[h.hm,h.hcm]
def jQ:jc prog 101 58:=⟨⟨_,underlying101,F⟩,aC⟩
def qE{x:Value}{l r:aP}{n i:Nat}(a:l.length=n):(x::(l++r))[n+1+i]? =r[i]? :=by grind
def aD.kV(b:aD):b.v[0]? =some (.string b.text):=F
def aD.yC{w:World}{b:aD}(h:b.Ok w):b.v[17]? =some (.slice b.ra b.rn b.rc):=by
 unfold aD.v;exact qE (n:=16) (i:=0) (by rw[aI,h.hm])
def aD.K5{w:World}{b:aD}(h:b.Ok w):b.v[18]? =some (.string b.label):=by
 unfold aD.v;exact qE (n:=16) (i:=1) (by rw[aI,h.hm])
def aD.Js{w:World}{b:aD}(h:b.Ok w)(i:Nat):b.v[51+i]? =b.t[i]? :=by
 unfold aD.v;rw[show 51+i=16+1+(32+1+(i+1)) by omega,qE (by rw[aI,h.hm])];rw[show 32+1+(i+1)=(32+1+i)+1 by omega,uN];exact qE (n:=32) (by rw[aI,h.hcm])
def aD.sG{w:World}{b:aD}(h:b.Ok w):b.v[51]? =some (.int .i64 b.epoch):=aD.Js h 0
def aD.yD{w:World}{b:aD}(h:b.Ok w):b.v[52]? =some (.int .i64 b.purpose):=aD.Js h 1
def aD.Ad{w:World}{b:aD}(h:b.Ok w):b.v[53]? =some (.int .i64 b.reason):=aD.Js h 2
def aD.K8{w:World}{b:aD}(h:b.Ok w):b.v[54]? =some (.int .i64 b.need):=aD.Js h 3
def aD.K9{w:World}{b:aD}(h:b.Ok w):b.v[55]? =some (.int .i64 b.version):=aD.Js h 4
def aD.K_{w:World}{b:aD}(h:b.Ok w):b.v[56]? =some (.int .i64 b.count):=aD.Js h 5
def aD.FV{w:World}{b:aD}(h:b.Ok w):b.v[57]? =some (.slice b.ha b.hn b.hc):=aD.Js h 6
def aD.VY{w:World}{b:aD}{g:Nat}(h:b.Ok w)(c:au w g b.v 101):d9 w ⟨g,1,none⟩ (b.member.map Y):=by
 intro j u a;rw[eX];refine c.cell' ?_;unfold aD.v;rw[show 1+j=j+1 by omega,uN,zY (iK.1 a).1];exact a
def aD.comm{w:World}{b:aD}{g:Nat}(h:b.Ok w)(c:au w g b.v 101):d9 w ⟨g,19,none⟩ (b.commit.map Y):=by
 intro j u a;rw[eX];refine c.cell' ?_;unfold aD.v;rw[show 19+j=16+1+(j+2) by omega,qE (by rw[aI,h.hm]),uN,uN,zY (iK.1 a).1];exact a
def aD.set(b:aD):List Bool:=[!b.text.toList.isEmpty,!(b.member==replicate 16 0),decide (0<b.rn),!b.label.toList.isEmpty,!(b.commit==replicate 32 0),b.epoch != 0,b.purpose != 0,b.reason != 0,b.need != 0,decide (0<b.hn),b.version != 0,b.count != 0]
def vP(b:aD)(n:List Bool):Bool:=(n.zip b.set).any λp=> !p.1&&p.2
def rO(s:ByteArray):ah:=UInt8.ofNat s.size::s.data.toList
def Pv(s:ByteArray):(rO s).length=s.size+1:=by simp_all [rO]
def an9(n:Nat):IntKind.u8.wrap (n:Int)=((UInt8.ofNat n).toNat:Int):=by
 have h:(UInt8.ofNat n).toNat=n%256:=UInt8.toNat_ofNat;rw[h];show(n:Int)%256=_;omega
def Below.blk{B:Nat}{w w':World}{g:Nat}{vs:aP}{T:TypeId}(h:Below B w w')(b:g<B)(a:au w g vs T):au w' g vs T:=by
 unfold au at*;rw[h.block g b];exact a
section
def pQ{P:Program}{o:Oper}{a:Act}{c:BinOp}{t u:TypeId}{x y:Operand}(e:o.op= .binOp c t x y u){xs ys:Array Value}{b:Value}(g:a.eval x= .agg xs)(h:a.eval y= .agg ys)
 (d:P.eqGuardType P.depth t=false)(f:∀w,(binOp c t (.agg xs) (.agg ys)).run P w= .ok b w)(w:World):(execOp a.eval o).run P w= .ok (.value b) w:=by
 unfold execOp;simp only[e,g,h,iC,run_eqGuard_agg w c t x y xs ys d,ng,f,ni]
def Bn:prog.eqGuardType prog.depth 29=false:=aC
section
variable {P:Program} {ops:Array Oper} {rest:List Oper} {o:Oper} {a:Act} {w:World} {Q:Exit->Act->World->Prop}
def xU{v:Value}(b:(wanted o (yielded ops a.tmps)=true/\(execOp a.eval o).run P w= .ok (.value v) w)∨(wanted o (yielded ops a.tmps)=false/\v=undef))(h:wpList P ops Q rest (a.put o.dst v) w):wpList P ops Q (o::rest) a w:=by grind [oH,wpList_skip]
def oI{v:Value}{X:Prop}(h:X)(b:((wanted o (yielded ops a.tmps)=true/\(execOp a.eval o).run P w= .ok (.value v) w)∨(wanted o (yielded ops a.tmps)=false/\v=undef)):=by(first|exact .inl ⟨F,by first|(go_simp;try with_reducible rfl)⟩|exact .inr ⟨F,F⟩))(hx:X->wpList P ops Q rest (a.put o.dst v) w:=by(intro hx;(try simp only[Act.put,o_,nk,pF]);exact hx)):wpList P ops Q (o::rest) a w:=xU b (hx h)
def eH(b:Bool){v:Value}{X:Prop}(h:X)(d:(b=true->((wanted o (yielded ops a.tmps)=true/\(execOp a.eval o).run P w= .ok (.value v) w)∨(wanted o (yielded ops a.tmps)=false/\v=undef)))/\(b=false->((wanted o (yielded ops a.tmps)=true/\(execOp a.eval o).run P w= .ok (.value v) w)∨(wanted o (yielded ops a.tmps)=false/\v=undef))):=by(refine⟨λoz=> ?_,λoz=> ?_⟩<;>(subst oz;first|exact .inl ⟨F,by first|(go_simp;try with_reducible rfl)⟩|exact .inr ⟨F,F⟩)))(hx:X->wpList P ops Q rest (a.put o.dst v) w:=by(intro hx;(try simp only[Act.put,o_,nk,pF]);exact hx)):wpList P ops Q (o::rest) a w:=xU (by cases c:b with|true=>exact d.1 c|false=>exact d.2 c) (hx h)
def kT(b c:Bool){v:Value}{X:Prop}(h:X)(f:(b=true->(c=true->((wanted o (yielded ops a.tmps)=true/\(execOp a.eval o).run P w= .ok (.value v) w)∨(wanted o (yielded ops a.tmps)=false/\v=undef)))/\(c=false->((wanted o (yielded ops a.tmps)=true/\(execOp a.eval o).run P w= .ok (.value v) w)∨(wanted o (yielded ops a.tmps)=false/\v=undef))))/\(b=false->(c=true->((wanted o (yielded ops a.tmps)=true/\(execOp a.eval o).run P w= .ok (.value v) w)∨(wanted o (yielded ops a.tmps)=false/\v=undef)))/\(c=false->((wanted o (yielded ops a.tmps)=true/\(execOp a.eval o).run P w= .ok (.value v) w)∨(wanted o (yielded ops a.tmps)=false/\v=undef)))):=by(refine⟨λoz=>⟨λRm=> ?_,λRm=> ?_⟩,λoz=>⟨λRm=> ?_,λRm=> ?_⟩⟩<;>(subst oz;subst Rm;first|exact .inl ⟨F,by first|(go_simp;try with_reducible rfl)⟩|exact .inr ⟨F,F⟩)))(hx:X->wpList P ops Q rest (a.put o.dst v) w:=by(intro hx;(try simp only[Act.put,o_,nk,pF]);exact hx)):wpList P ops Q (o::rest) a w:=xU (by cases e:b with|true=>(cases d:c with|true=>exact(f.1 e).1 d|false=>exact(f.1 e).2 d)|false=>(cases d:c with|true=>exact(f.2 e).1 d|false=>exact(f.2 e).2 d)) (hx h)
end
def agV(b:aD)(z m n s o t u x y p q r:Bool)(w:World)(aa:b.Ok w):
 eO 275 #[.agg b.v.toArray,.agg #[.bool z,.bool m,.bool n,.bool s,.bool o,.bool t,.bool u,.bool x,.bool y,.bool p,.bool q,.bool r]] w (.bool (vP b [z,m,n,s,o,t,u,x,y,p,q,r])):=by
 have A:=O aa;clear aa;go_enter func275,ntmps275;go_upto_region 1 with(fail);generalize E:alloc (alloc w _) _=D;have B:=qQ E [.bool z,.bool m,.bool n,.bool s,.bool o,.bool t,.bool u,.bool x,.bool y,.bool p,.bool q,.bool r] 304;obtain⟨C,G⟩:=aA (qA E b.v 101) (wN E);clear E;have aE:D.cell? ⟨w.heap.size+1,0,none⟩=some (.bool z):=B.cell' F;have a0:D.cell? ⟨w.heap.size+1,1,none⟩=some (.bool m):=B.cell' F;have a3:D.cell? ⟨w.heap.size+1,2,none⟩=some (.bool n):=B.cell' F;have a4:D.cell? ⟨w.heap.size+1,3,none⟩=some (.bool s):=B.cell' F;have a5:D.cell? ⟨w.heap.size+1,4,none⟩=some (.bool o):=B.cell' F;have a6:D.cell? ⟨w.heap.size+1,5,none⟩=some (.bool t):=B.cell' F;have a7:D.cell? ⟨w.heap.size+1,6,none⟩=some (.bool u):=B.cell' F;have a8:D.cell? ⟨w.heap.size+1,7,none⟩=some (.bool x):=B.cell' F;have a9:D.cell? ⟨w.heap.size+1,8,none⟩=some (.bool y):=B.cell' F;have a_:D.cell? ⟨w.heap.size+1,9,none⟩=some (.bool p):=B.cell' F;have a1:D.cell? ⟨w.heap.size+1,10,none⟩=some (.bool q):=B.cell' F;have a2:D.cell? ⟨w.heap.size+1,11,none⟩=some (.bool r):=B.cell' F;clear B;have al:=C.cell' (aD.kV b);have am:=C.cell' (aD.yC A);have an:=C.cell' (aD.K5 A);have ao:=C.cell' (aD.sG A);have ap:=C.cell' (aD.yD A);have aq:=C.cell' (aD.Ad A);have ar:=C.cell' (aD.K8 A);have aw:=C.cell' (aD.K9 A);have ax:=C.cell' (aD.K_ A);have az:=C.cell' (aD.FV A);obtain⟨ac,ab,af,ad,ai,ag⟩:=jW (aD.VY (b:=b) (A.ext G) C) (aD.comm (b:=b) (A.ext G) C) (show(b.member.map Y).length=16 by rw[aI];exact A.hm) (show(b.commit.map Y).length=32 by rw[aI];exact A.hcm) (λw=>xI underlying29 b.member (replicate 16 0) A.hm aB w) (λw=>xI underlying31 b.commit (replicate 32 0) A.hcm aB w)
 refine wp_region_list ?_;refine oI (v:= .pointer (some ⟨w.heap.size+1,0,none⟩)) ?_;refine oI (v:= .bool z) ?_;refine oI (v:= .bool (!z)) ?_;refine oI (v:= .bool (!z)) ?_;refine eH z (v:=bif z then undef else .pointer (some ⟨w.heap.size,0,none⟩)) ?_;refine eH z (v:=bif z then undef else .string b.text) ?_;refine eH z (v:=bif z then undef else .bool (!b.text.toList.isEmpty)) ?_;refine eH z (v:= .bool (!z&& !b.text.toList.isEmpty)) ?_;generalize I:(!z&& !b.text.toList.isEmpty)=a;refine oI (v:= .bool a) ?_;refine eH a (v:=bif a then undef else .pointer (some ⟨w.heap.size+1,1,none⟩)) ?_;refine eH a (v:=bif a then undef else .bool m) ?_;refine eH a (v:=bif a then undef else .bool (!m)) ?_;refine eH a (v:=bif a then undef else .bool (!m)) ?_;refine kT a m (v:=bif (a||m)then undef else .pointer (some ⟨w.heap.size,1,none⟩)) ?_;refine xU (v:=bif (a||m)then undef else .agg (b.member.map Y).toArray) ?hy15 ?hz15
 case hy15=>((cases a<;>cases m)<;>(first|exact .inl ⟨F,by first|(simp only[Bool.or_self,cond_false];exact cB F F ac eu af)⟩|exact .inr ⟨F,F⟩))
 case hz15=>
 refine sj ?_;refine xU (v:=bif (a||m)then undef else .agg ((replicate 16 (0:UInt8)).map Y).toArray) ?hy16 ?hz16
 case hy16=>((cases a<;>cases m)<;>(first|exact .inl ⟨F,by first|(go_simp;first|with_reducible rfl|rfl|done)⟩|exact .inr ⟨F,F⟩))
 case hz16=>
 refine sj ?_;refine xU (v:=bif (a||m)then undef else .bool (!(b.member==replicate 16 0))) ?hy17 ?hz17
 case hy17=>((cases a<;>cases m)<;>(first|exact .inl ⟨F,by first|(simp only[Bool.or_self,cond_false];exact pQ F F F Bn ai _)⟩|exact .inr ⟨F,F⟩))
 case hz17=>
 refine sj ?_;refine kT a m (v:=bif a then undef else .bool (!m&& !(b.member==replicate 16 0))) ?_;refine eH a (v:= .bool (a||(!m&& !(b.member==replicate 16 0)))) ?_;generalize N:(a||(!m&& !(b.member==replicate 16 0)))=c;refine oI (v:= .bool c) ?_;refine eH c (v:=bif c then undef else .pointer (some ⟨w.heap.size+1,2,none⟩)) ?_;refine eH c (v:=bif c then undef else .bool n) ?_;refine eH c (v:=bif c then undef else .bool (!n)) ?_;refine eH c (v:=bif c then undef else .bool (!n)) ?_;refine kT c n (v:=bif (c||n)then undef else .pointer (some ⟨w.heap.size,17,none⟩)) ?_;refine kT c n (v:=bif (c||n)then undef else .slice b.ra b.rn b.rc) ?_;refine kT c n (v:=bif (c||n)then undef else .int .i64 (b.rn:Int)) ?_;refine xU (v:=bif (c||n)then undef else .bool (decide (0<b.rn))) ?hy28 ?hz28
 case hy28=>((cases c<;>cases n)<;>(first|exact .inl ⟨F,by first|(go_simp;first|with_reducible rfl|rfl|done)⟩|exact .inr ⟨F,F⟩))
 case hz28=>
 refine sj ?_;refine kT c n (v:=bif c then undef else .bool (!n&&decide (0<b.rn))) ?_;refine eH c (v:= .bool (c||(!n&&decide (0<b.rn)))) ?_;generalize P:(c||(!n&&decide (0<b.rn)))=h;refine oI (v:= .bool h) ?_;refine eH h (v:=bif h then undef else .pointer (some ⟨w.heap.size+1,3,none⟩)) ?_;refine eH h (v:=bif h then undef else .bool s) ?_;refine eH h (v:=bif h then undef else .bool (!s)) ?_;refine eH h (v:=bif h then undef else .bool (!s)) ?_;refine kT h s (v:=bif (h||s)then undef else .pointer (some ⟨w.heap.size,18,none⟩)) ?_;refine kT h s (v:=bif (h||s)then undef else .string b.label) ?_;refine kT h s (v:=bif (h||s)then undef else .bool (!b.label.toList.isEmpty)) ?_;refine kT h s (v:=bif h then undef else .bool (!s&& !b.label.toList.isEmpty)) ?_;refine eH h (v:= .bool (h||(!s&& !b.label.toList.isEmpty))) ?_;generalize Q:(h||(!s&& !b.label.toList.isEmpty))=d;refine oI (v:= .bool d) ?_;refine eH d (v:=bif d then undef else .pointer (some ⟨w.heap.size+1,4,none⟩)) ?_;refine eH d (v:=bif d then undef else .bool o) ?_;refine eH d (v:=bif d then undef else .bool (!o)) ?_;refine eH d (v:=bif d then undef else .bool (!o)) ?_;refine kT d o (v:=bif (d||o)then undef else .pointer (some ⟨w.heap.size,19,none⟩)) ?_;refine xU (v:=bif (d||o)then undef else .agg (b.commit.map Y).toArray) ?hy47 ?hz47
 case hy47=>((cases d<;>cases o)<;>(first|exact .inl ⟨F,by first|(simp only[Bool.or_self,cond_false];exact cB F F ab bf ad)⟩|exact .inr ⟨F,F⟩))
 case hz47=>
 refine sj ?_;refine xU (v:=bif (d||o)then undef else .agg ((replicate 32 (0:UInt8)).map Y).toArray) ?hy48 ?hz48
 case hy48=>((cases d<;>cases o)<;>(first|exact .inl ⟨F,by first|(go_simp;first|with_reducible rfl|rfl|done)⟩|exact .inr ⟨F,F⟩))
 case hz48=>
 refine sj ?_;refine xU (v:=bif (d||o)then undef else .bool (!(b.commit==replicate 32 0))) ?hy49 ?hz49
 case hy49=>((cases d<;>cases o)<;>(first|exact .inl ⟨F,by first|(simp only[Bool.or_self,cond_false];exact pQ F F F N9 ag _)⟩|exact .inr ⟨F,F⟩))
 case hz49=>
 refine sj ?_;refine kT d o (v:=bif d then undef else .bool (!o&& !(b.commit==replicate 32 0))) ?_;refine eH d (v:= .bool (d||(!o&& !(b.commit==replicate 32 0)))) ?_;generalize R:(d||(!o&& !(b.commit==replicate 32 0)))=i;refine oI (v:= .bool i) ?_;refine eH i (v:=bif i then undef else .pointer (some ⟨w.heap.size+1,5,none⟩)) ?_;refine eH i (v:=bif i then undef else .bool t) ?_;refine eH i (v:=bif i then undef else .bool (!t)) ?_;refine eH i (v:=bif i then undef else .bool (!t)) ?_;refine kT i t (v:=bif (i||t)then undef else .pointer (some ⟨w.heap.size,51,none⟩)) ?_;refine kT i t (v:=bif (i||t)then undef else .int .i64 b.epoch) ?_;refine xU (v:=bif (i||t)then undef else .bool (b.epoch != 0)) ?hy59 ?hz59
 case hy59=>((cases i<;>cases t)<;>(first|exact .inl ⟨F,by first|(go_simp;first|with_reducible rfl|rfl|done)⟩|exact .inr ⟨F,F⟩))
 case hz59=>
 refine sj ?_;refine kT i t (v:=bif i then undef else .bool (!t&&b.epoch != 0)) ?_;refine eH i (v:= .bool (i||(!t&&b.epoch != 0))) ?_;generalize S:(i||(!t&&b.epoch != 0))=j;refine oI (v:= .bool j) ?_;refine eH j (v:=bif j then undef else .pointer (some ⟨w.heap.size+1,6,none⟩)) ?_;refine eH j (v:=bif j then undef else .bool u) ?_;refine eH j (v:=bif j then undef else .bool (!u)) ?_;refine eH j (v:=bif j then undef else .bool (!u)) ?_;refine kT j u (v:=bif (j||u)then undef else .pointer (some ⟨w.heap.size,52,none⟩)) ?_;refine kT j u (v:=bif (j||u)then undef else .int .i64 b.purpose) ?_;refine xU (v:=bif (j||u)then undef else .bool (b.purpose != 0)) ?hy69 ?hz69
 case hy69=>((cases j<;>cases u)<;>(first|exact .inl ⟨F,by first|(go_simp;first|with_reducible rfl|rfl|done)⟩|exact .inr ⟨F,F⟩))
 case hz69=>
 refine sj ?_;refine kT j u (v:=bif j then undef else .bool (!u&&b.purpose != 0)) ?_;refine eH j (v:= .bool (j||(!u&&b.purpose != 0))) ?_;generalize T:(j||(!u&&b.purpose != 0))=k;refine oI (v:= .bool k) ?_;refine eH k (v:=bif k then undef else .pointer (some ⟨w.heap.size+1,7,none⟩)) ?_;refine eH k (v:=bif k then undef else .bool x) ?_;refine eH k (v:=bif k then undef else .bool (!x)) ?_;refine eH k (v:=bif k then undef else .bool (!x)) ?_;refine kT k x (v:=bif (k||x)then undef else .pointer (some ⟨w.heap.size,53,none⟩)) ?_;refine kT k x (v:=bif (k||x)then undef else .int .i64 b.reason) ?_;refine xU (v:=bif (k||x)then undef else .bool (b.reason != 0)) ?hy79 ?hz79
 case hy79=>((cases k<;>cases x)<;>(first|exact .inl ⟨F,by first|(go_simp;first|with_reducible rfl|rfl|done)⟩|exact .inr ⟨F,F⟩))
 case hz79=>
 refine sj ?_;refine kT k x (v:=bif k then undef else .bool (!x&&b.reason != 0)) ?_;refine eH k (v:= .bool (k||(!x&&b.reason != 0))) ?_;generalize U:(k||(!x&&b.reason != 0))=l;refine oI (v:= .bool l) ?_;refine eH l (v:=bif l then undef else .pointer (some ⟨w.heap.size+1,8,none⟩)) ?_;refine eH l (v:=bif l then undef else .bool y) ?_;refine eH l (v:=bif l then undef else .bool (!y)) ?_;refine eH l (v:=bif l then undef else .bool (!y)) ?_;refine kT l y (v:=bif (l||y)then undef else .pointer (some ⟨w.heap.size,54,none⟩)) ?_;refine kT l y (v:=bif (l||y)then undef else .int .i64 b.need) ?_;refine xU (v:=bif (l||y)then undef else .bool (b.need != 0)) ?hy89 ?hz89
 case hy89=>((cases l<;>cases y)<;>(first|exact .inl ⟨F,by first|(go_simp;first|with_reducible rfl|rfl|done)⟩|exact .inr ⟨F,F⟩))
 case hz89=>
 refine sj ?_;refine kT l y (v:=bif l then undef else .bool (!y&&b.need != 0)) ?_;refine eH l (v:= .bool (l||(!y&&b.need != 0))) ?_;generalize V:(l||(!y&&b.need != 0))=e;refine oI (v:= .bool e) ?_;refine eH e (v:=bif e then undef else .pointer (some ⟨w.heap.size+1,9,none⟩)) ?_;refine eH e (v:=bif e then undef else .bool p) ?_;refine eH e (v:=bif e then undef else .bool (!p)) ?_;refine eH e (v:=bif e then undef else .bool (!p)) ?_;refine kT e p (v:=bif (e||p)then undef else .pointer (some ⟨w.heap.size,57,none⟩)) ?_;refine kT e p (v:=bif (e||p)then undef else .slice b.ha b.hn b.hc) ?_;refine kT e p (v:=bif (e||p)then undef else .int .i64 (b.hn:Int)) ?_;refine xU (v:=bif (e||p)then undef else .bool (decide (0<b.hn))) ?hy100 ?hz100
 case hy100=>((cases e<;>cases p)<;>(first|exact .inl ⟨F,by first|(go_simp;first|with_reducible rfl|rfl|done)⟩|exact .inr ⟨F,F⟩))
 case hz100=>
 refine sj ?_;refine kT e p (v:=bif e then undef else .bool (!p&&decide (0<b.hn))) ?_;refine eH e (v:= .bool (e||(!p&&decide (0<b.hn)))) ?_;generalize K:(e||(!p&&decide (0<b.hn)))=f;refine oI (v:= .bool f) ?_;refine eH f (v:=bif f then undef else .pointer (some ⟨w.heap.size+1,10,none⟩)) ?_;refine eH f (v:=bif f then undef else .bool q) ?_;refine eH f (v:=bif f then undef else .bool (!q)) ?_;refine eH f (v:=bif f then undef else .bool (!q)) ?_;refine kT f q (v:=bif (f||q)then undef else .pointer (some ⟨w.heap.size,55,none⟩)) ?_;refine kT f q (v:=bif (f||q)then undef else .int .i64 b.version) ?_;refine xU (v:=bif (f||q)then undef else .bool (b.version != 0)) ?hy110 ?hz110
 case hy110=>((cases f<;>cases q)<;>(first|exact .inl ⟨F,by first|(go_simp;first|with_reducible rfl|rfl|done)⟩|exact .inr ⟨F,F⟩))
 case hz110=>
 refine sj ?_;refine kT f q (v:=bif f then undef else .bool (!q&&b.version != 0)) ?_;refine eH f (v:= .bool (f||(!q&&b.version != 0))) ?_;generalize L:(f||(!q&&b.version != 0))=g;refine oI (v:= .bool g) ?_;refine eH g (v:=bif g then undef else .pointer (some ⟨w.heap.size+1,11,none⟩)) ?_;refine eH g (v:=bif g then undef else .bool r) ?_;refine eH g (v:=bif g then undef else .bool (!r)) ?_;refine eH g (v:=bif g then undef else .bool (!r)) ?_;refine kT g r (v:=bif (g||r)then undef else .pointer (some ⟨w.heap.size,56,none⟩)) ?_;refine kT g r (v:=bif (g||r)then undef else .int .i64 b.count) ?_;refine xU (v:=bif (g||r)then undef else .bool (b.count != 0)) ?hy120 ?hz120
 case hy120=>((cases g<;>cases r)<;>(first|exact .inl ⟨F,by first|(go_simp;first|with_reducible rfl|rfl|done)⟩|exact .inr ⟨F,F⟩))
 case hz120=>
 refine sj ?_;refine kT g r (v:=bif g then undef else .bool (!r&&b.count != 0)) ?_;refine eH g (v:= .bool (g||(!r&&b.count != 0))) ?_;generalize M:(g||(!r&&b.count != 0))=H;refine oI (v:= .bool H) ?_;have W:vP b [z,m,n,s,o,t,u,x,y,p,q,r]=H:=by rw[<-M,<-L,<-K,<-V,<-U,<-T,<-S,<-R,<-Q,<-P,<-N,<-I];simp only[vP,aD.set,zip_cons_cons,zip_nil_right,any_cons,any_nil,Bool.or_false,Bool.or_assoc]
 have ae:=O W;clear W I N P Q R S T U V K L M;go_wp2;go_ret;exact⟨by rw[ae.out];rfl,G⟩
end
def fZ(n a b:Int):Bool:=decide (n<a)||decide (b<n)
def fO(act:Int)(i:Nat):Bool:=(sP act).getD i false
def DK(act:Int)(b:aD):Bool:=
 (fO act 6&&fZ b.purpose 1 3)||fZ b.reason 0 255||fZ b.version 0 255||(fO act 8&&fZ b.need 1 32)||fZ b.epoch 0 4294967295||fZ b.count 0 65536
def A8(l:List (ah))(k:Nat):Prop:=∀i x y,i+1<k->l[i]? =some x->l[i+1]? =some y->gZ x y<0
noncomputable def EX(l:List (ah)):Bool:= @decide (A8 l l.length) (Classical.propDecidable _)
def WL{l:List (ah)}:EX l=true↔A8 l l.length:=by grind [EX]
def A8.one(l:List (ah)){k:Nat}(h:k<=1):A8 l k:=λi _ _ a=>by omega
def A8.step{l:List (ah)}{k:Nat}{x y:ah}(h:A8 l (k+1))(c:l[k]? =some x)(d:l[k+1]? =some y)(f:gZ x y<0):A8 l (k+2):=by
 intro i u v g a b;by_cases e:i=k
 ·subst e;rw[c]at a;rw[d]at b;injection a with a;injection b with b;rw[<-a,<-b];exact f
 ·exact h i u v J a b
def acg{l:List (ah)}{i:Nat}{x y:ah}(b:l[i]? =some x)(a:l[i+1]? =some y)(h:¬gZ x y<0):EX l=false:=by
 cases c:EX l with
 |false=>rfl
 |true=>exact absurd (WL.1 c i x y (iK.1 a).1 b a) h
noncomputable def qG(act:Int)(b:aD):Int:=
 if !kR act then 3 else if vP b (sP act)then 2
 else if decide (32768<b.text.size)||(decide (16<b.rn)||decide (32<b.hn))then 5
 else if Gv b.roles != 0 then Gv b.roles
 else if fO act 3&& !nH b.label.data.toList then 6
 else if DK act b then 4
 else if !EX b.dG then 9 else 0
end Go.Proofs.YtjlhhnkhcbpnjaaGreatDoor
