/- Laws that the row leans on; no condition. -/
import Derived.Test.YtjlhhnkhcbpnjaaGreatDoorJ10
import Derived.Lib.SlBytesConst
import Derived.Great.FillDense
import Derived.Lib.AppendZeros
import Derived.Lib.SlFresh
import Derived.Maps.Keyed
import Derived.Maps.RangeRun
import Derived.Maps.RangeWalk
namespace Go.Proofs.YtjlhhnkhcbpnjaaGreatDoor
open Go Go.RowKit List Tryz
set_option linter.unusedVariables false
set_option linter.unusedSectionVars false
set_option linter.unusedSimpArgs false
set_option maxHeartbeats 40000000
set_option maxRecDepth 100000
def rG(i:Nat)(x y:bZ):bZ:=
 if i=0 then{x with text:=y.text}
 else if i=1 then{x with member:=y.member}
 else if i=2 then{x with roles:=y.roles}
 else if i=3 then{x with label:=y.label}
 else if i=4 then{x with commit:=y.commit}
 else if i=5 then{x with epoch:=y.epoch}
 else if i=6 then{x with purpose:=y.purpose}
 else if i=7 then{x with reason:=y.reason}
 else if i=8 then{x with need:=y.need}
 else if i=9 then{x with bH:=y.bH}
 else if i=10 then{x with version:=y.version}
 else{x with count:=y.count}
theorem GI{n:Int}(h:0<=n/\n<=255):((kL n).toNat:Int)=n:=by
 unfold kL;rw[UInt8.toNat_ofNat'];omega
theorem Yd{act:Int}{b:ay}(h:zi b act):(dK act 6=true->0<=b.purpose/\b.purpose<=255)/\(0<=b.reason/\b.reason<=255)/\(dK act 8=true->0<=b.need/\b.need<=255)/\(0<=b.version/\b.version<=255):=by
 have j:=h.range;unfold pJ dR at j;simp only[Bool.or_eq_false_iff,Bool.and_eq_false_imp,decide_eq_false_iff_not]at j;obtain⟨⟨⟨⟨⟨u,I⟩,R⟩,E⟩,aa⟩,ab⟩:=j;exact⟨fun q=>by have:=u q;omega,J,fun q=>by have:=E q;omega,J⟩
theorem Ye(N:Nat)(h:N<=4294967295):jM (gq (UInt32.ofNat N))=N:=by
 rw[Gs (x:=gq (UInt32.ofNat N)) F];have:=OV [] (UInt32.ofNat N) 0 F;rw[nil_append]at this;rw[this,UInt32.toNat_ofNat'];omega
theorem Yf(N:Nat)(h:N<=65536):fE (dG (UInt64.ofNat N)) 0=N:=by
 have:=Wy [] (UInt64.ofNat N) 0 F;rw[nil_append]at this;rw[this,UInt64.toNat_ofNat'];omega
theorem Yg{act:Int}{b:ay}(h:zi b act)(E:b.member.length=16)(hc:b.commit.length=32)(ai:b.roles.length=b.rn)(af:b.bH.length=b.hn)(u:oP b.bH)(i:Nat)(j:dK act i=true)(ag:i<12)(ad:i≠0)(x:bZ)(r:aj):iP jV i x (jo i b.p++r)=some (rG i x b.p,r):=by
 have sm:=h.small;obtain⟨aa,ab,ac,R⟩:=Yd h;rcases(by omega:i=1∨i=2∨i=3∨i=4∨i=5∨i=6∨i=7∨i=8∨i=9∨i=10∨i=11)with rfl|rfl|rfl|rfl|rfl|rfl|rfl|rfl|rfl|rfl|rfl
 ·simp only[iP,jo,rG,reduceIte,Nat.reduceEqDiff,ay.p];rw[zJ 16 _ _ E];rfl
 ·simp only[iP,jo,rG,reduceIte,Nat.reduceEqDiff,ay.p];unfold Bj;rw[cons_append,zK];have hn:(UInt8.ofNat b.roles.length).toNat=b.roles.length:=by rw[UInt8.toNat_ofNat'];have:=sm.rn;omega
  show(kW rD _ [] _).map _=_;rw[hn,Po r b.roles [] (fun s hs=>by have:=sm.rs s hs;omega)];rfl
 ·simp only[iP,jo,rG,reduceIte,Nat.reduceEqDiff,ay.p];rw[Pn _ _ (by have:=sm.l;omega)];rfl
 ·simp only[iP,jo,rG,reduceIte,Nat.reduceEqDiff,ay.p];rw[zJ 32 _ _ hc];rfl
 ·simp only[iP,jo,rG,reduceIte,Nat.reduceEqDiff,ay.p];rw[zJ 4 _ _ F];show some (({x with epoch:=_}:bZ),r)=some (({x with epoch:=b.epoch}:bZ),r);have ae:=sm.e;rw[Ye _ J,show((b.epoch.toNat:Nat):Int)=b.epoch by omega]
 ·simp only[iP,jo,rG,reduceIte,Nat.reduceEqDiff,ay.p];rw[cons_append,nil_append,zK];show some (({x with purpose:=_}:bZ),r)=some (({x with purpose:=b.purpose}:bZ),r);rw[GI (aa j)]
 ·simp only[iP,jo,rG,reduceIte,Nat.reduceEqDiff,ay.p];rw[cons_append,nil_append,zK];show some (({x with reason:=_}:bZ),r)=some (({x with reason:=b.reason}:bZ),r);rw[GI (ab)]
 ·simp only[iP,jo,rG,reduceIte,Nat.reduceEqDiff,ay.p];rw[cons_append,nil_append,zK];show some (({x with need:=_}:bZ),r)=some (({x with need:=b.need}:bZ),r);rw[GI (ac j)]
 ·simp only[iP,jo,rG,reduceIte,Nat.reduceEqDiff,ay.p];unfold Bl;rw[cons_append,zK];have hn:(UInt8.ofNat b.bH.length).toNat=b.bH.length:=by rw[UInt8.toNat_ofNat'];have:=sm.hn;omega
  show(kW (fK 16) _ [] _).map _=_;rw[hn,Pq r b.bH [] u];rfl
 ·simp only[iP,jo,rG,reduceIte,Nat.reduceEqDiff,ay.p];rw[cons_append,nil_append,zK];show some (({x with version:=_}:bZ),r)=some (({x with version:=b.version}:bZ),r);rw[GI R]
 ·simp only[iP,jo,rG,reduceIte,Nat.reduceEqDiff,ay.p];unfold NG;rw[zJ 8 _ _ F];have hk:=sm.c;have I:jV (dG (UInt64.ofNat b.count.toNat))=b.count:=by
   unfold jV;rw[Yf _ J,if_pos J];omega
  show some (({x with count:=jV (dG (UInt64.ofNat b.count.toNat))}:bZ),r)=some (({x with count:=b.count}:bZ),r);rw[I]
theorem Qp{act:Int}{b:ay}(h:zi b act)(I:b.member.length=16)(hc:b.commit.length=32)(R:b.roles.length=b.rn)(E:b.bH.length=b.hn)(u:oP b.bH):∀(s:List Nat) (x:bZ),(∀i∈s,dK act i=true/\i<12/\i≠0)->jC jV s x (fG s b.p)=some (s.foldl (fun x i=>rG i x b.p) x,[])
 |[],x,_=>rfl
 |i::s,x,hs=>by
  have hi:=hs i aF;have ab:fG (i::s) b.p=jo i b.p++fG s b.p:=F;rw[ab,jC,Yg h I hc R E u i hi.1 hi.2.1 hi.2.2];exact Qp h I hc R E u s _ (fun j aa=>hs j (by simp[aa]))
theorem Qq{act:Int}{b:ay}(h:zi b act)(I:b.roles.length=b.rn)(E:b.bH.length=b.hn):(gy act).foldl (fun x i=>rG i x b.p) kD=b.p:=by
 have z:=h.zeros;have j:dK act 2=false->b.roles=[]:=fun q=>length_eq_zero_iff.1 (by rw[I];exact z.r q);have u:dK act 9=false->b.bH=[]:=fun q=>length_eq_zero_iff.1 (by rw[E];exact z.h q);rcases wo h.uZ with rfl|rfl|rfl|rfl|rfl|rfl|rfl|rfl|rfl|rfl|rfl|rfl
 ·show(⟨b.text,List.replicate 16 0,[],⟨#[]⟩,List.replicate 32 0,0,0,0,0,0,0,[]⟩:bZ)=⟨b.text,b.member,b.roles,b.label,b.commit,b.epoch,b.purpose,b.reason,b.need,b.version,b.count,b.bH⟩;rw[z.m F,j F,z.l F,z.c F,z.e F,z.p F,z.a F,z.n F,z.v F,z.k F,u F]
 ·show(⟨⟨#[]⟩,b.member,b.roles,⟨#[]⟩,List.replicate 32 0,0,0,0,0,0,0,[]⟩:bZ)=⟨b.text,b.member,b.roles,b.label,b.commit,b.epoch,b.purpose,b.reason,b.need,b.version,b.count,b.bH⟩;rw[z.t F,z.l F,z.c F,z.e F,z.p F,z.a F,z.n F,z.v F,z.k F,u F]
 ·show(⟨⟨#[]⟩,b.member,[],⟨#[]⟩,List.replicate 32 0,0,0,0,0,0,0,[]⟩:bZ)=⟨b.text,b.member,b.roles,b.label,b.commit,b.epoch,b.purpose,b.reason,b.need,b.version,b.count,b.bH⟩;rw[z.t F,j F,z.l F,z.c F,z.e F,z.p F,z.a F,z.n F,z.v F,z.k F,u F]
 ·show(⟨⟨#[]⟩,List.replicate 16 0,[],b.label,b.commit,0,0,0,0,0,0,[]⟩:bZ)=⟨b.text,b.member,b.roles,b.label,b.commit,b.epoch,b.purpose,b.reason,b.need,b.version,b.count,b.bH⟩;rw[z.t F,z.m F,j F,z.e F,z.p F,z.a F,z.n F,z.v F,z.k F,u F]
 ·show(⟨⟨#[]⟩,List.replicate 16 0,[],⟨#[]⟩,b.commit,b.epoch,0,0,0,0,0,[]⟩:bZ)=⟨b.text,b.member,b.roles,b.label,b.commit,b.epoch,b.purpose,b.reason,b.need,b.version,b.count,b.bH⟩;rw[z.t F,z.m F,j F,z.l F,z.p F,z.a F,z.n F,z.v F,z.k F,u F]
 ·show(⟨⟨#[]⟩,List.replicate 16 0,[],⟨#[]⟩,b.commit,b.epoch,b.purpose,0,0,0,0,[]⟩:bZ)=⟨b.text,b.member,b.roles,b.label,b.commit,b.epoch,b.purpose,b.reason,b.need,b.version,b.count,b.bH⟩;rw[z.t F,z.m F,j F,z.l F,z.a F,z.n F,z.v F,z.k F,u F]
 ·show(⟨⟨#[]⟩,List.replicate 16 0,[],⟨#[]⟩,List.replicate 32 0,0,0,b.reason,0,0,0,[]⟩:bZ)=⟨b.text,b.member,b.roles,b.label,b.commit,b.epoch,b.purpose,b.reason,b.need,b.version,b.count,b.bH⟩;rw[z.t F,z.m F,j F,z.l F,z.c F,z.e F,z.p F,z.n F,z.v F,z.k F,u F]
 ·show(⟨⟨#[]⟩,List.replicate 16 0,[],⟨#[]⟩,b.commit,0,0,0,0,0,0,[]⟩:bZ)=⟨b.text,b.member,b.roles,b.label,b.commit,b.epoch,b.purpose,b.reason,b.need,b.version,b.count,b.bH⟩;rw[z.t F,z.m F,j F,z.l F,z.e F,z.p F,z.a F,z.n F,z.v F,z.k F,u F]
 ·show(⟨⟨#[]⟩,List.replicate 16 0,[],⟨#[]⟩,b.commit,b.epoch,0,0,b.need,0,0,b.bH⟩:bZ)=⟨b.text,b.member,b.roles,b.label,b.commit,b.epoch,b.purpose,b.reason,b.need,b.version,b.count,b.bH⟩;rw[z.t F,z.m F,j F,z.l F,z.p F,z.a F,z.v F,z.k F]
 ·show(⟨⟨#[]⟩,List.replicate 16 0,[],⟨#[]⟩,b.commit,b.epoch,0,0,0,0,0,b.bH⟩:bZ)=⟨b.text,b.member,b.roles,b.label,b.commit,b.epoch,b.purpose,b.reason,b.need,b.version,b.count,b.bH⟩;rw[z.t F,z.m F,j F,z.l F,z.p F,z.a F,z.n F,z.v F,z.k F]
 ·show(⟨⟨#[]⟩,List.replicate 16 0,[],⟨#[]⟩,b.commit,0,0,0,0,b.version,0,[]⟩:bZ)=⟨b.text,b.member,b.roles,b.label,b.commit,b.epoch,b.purpose,b.reason,b.need,b.version,b.count,b.bH⟩;rw[z.t F,z.m F,j F,z.l F,z.e F,z.p F,z.a F,z.n F,z.k F,u F]
 ·show(⟨⟨#[]⟩,List.replicate 16 0,[],⟨#[]⟩,b.commit,0,0,0,0,b.version,b.count,[]⟩:bZ)=⟨b.text,b.member,b.roles,b.label,b.commit,b.epoch,b.purpose,b.reason,b.need,b.version,b.count,b.bH⟩;rw[z.t F,z.m F,j F,z.l F,z.e F,z.p F,z.a F,z.n F,u F]
theorem Qr{act:Int}(h:iI act=true):(act=1/\gy act=[0])∨(∀i∈gy act,i<12/\i≠0):=by
 rcases wo h with rfl|rfl|rfl|rfl|rfl|rfl|rfl|rfl|rfl|rfl|rfl|rfl
 ·exact .inl ⟨F,F⟩
 all_goals exact .inr aX
theorem Yh{act:Int}(h:iI act=true):(gy act).length<=4:=by
 rcases wo h with rfl|rfl|rfl|rfl|rfl|rfl|rfl|rfl|rfl|rfl|rfl|rfl<;>decide
theorem Qs{act:Int}{b:ay}(h:zi b act)(ag:b.member.length=16)(hc:b.commit.length=32)(aa:b.roles.length=b.rn)(I:b.bH.length=b.hn)(E:oP b.bH):(fG (gy act) b.p).length<=32768:=by
 rcases Qr h.uZ with⟨ad,j⟩|j
 ·rw[j];show(b.text.data.toList++[]).length<=_;rw[append_nil,Array.length_toList];exact h.t
 ·have hf:∀i∈gy act,(jo i b.p).length<=600:=by
   intro i u;obtain⟨ae,ac⟩:=j i u;rcases(by omega:i=1∨i=2∨i=3∨i=4∨i=5∨i=6∨i=7∨i=8∨i=9∨i=10∨i=11)with rfl|rfl|rfl|rfl|rfl|rfl|rfl|rfl|rfl|rfl|rfl
   ·show b.member.length<=_;omega
   ·exact Qe h.small aa
   ·show(kU b.label).length<=_;rw[DU];have:=h.small.l;omega
   ·show b.commit.length<=_;omega
   ·show(gq _).length<=_;simp[gq]
   ·show[kL _].length<=_;simp
   ·show[kL _].length<=_;simp
   ·show[kL _].length<=_;simp
   ·exact Qg h.small I E
   ·show[kL _].length<=_;simp
   ·show(dG _).length<=_;rw[Bc];decide
  have R:=Ee (l:=(gy act).map fun i=>jo i b.p) (k:=600) (by
   intro x ab;obtain⟨i,u,rfl⟩:=mem_map.1 ab;exact hf i u)
  rw[length_map]at R;have:=Yh h.uZ;unfold fG;have af:(gy act).length*600<=4*600:=Nat.mul_le_mul_right _ this;omega
theorem Yi{act:Int}{b:ay}(R:jS act b=0)(aa:b.member.length=16)(hc:b.commit.length=32)(u:b.roles.length=b.rn)(j:b.bH.length=b.hn)(I:oP b.bH):kE jV act (fG (gy act) b.p)=(b.p,0):=by
 have h:=Ed R;have ab:jC jV (gy act) kD (fG (gy act) b.p)=some (b.p,[]):=by
  rcases Qr h.uZ with⟨ac,E⟩|E
  ·have hf:=Qq h u j;rw[E]at hf⊢;rw[<-hf];show some (({kD with text:=⟨(b.text.data.toList++[]).toArray⟩}:bZ),([]:aj))=some (({kD with text:=b.text}:bZ),[]);rw[append_nil]
  ·have hs:∀i∈gy act,dK act i=true/\i<12/\i≠0:=fun i hi=>⟨by
    rw[<-JR h.uZ]at hi;exact(mem_filter.1 hi).2,E i hi⟩
   rw[Qp h aa hc u j I (gy act) kD hs,Qq h u j]
 unfold kE;rw[if_neg (by rw[h.uZ];simp),if_neg (by have:=Qs h aa hc u j I;omega),ab];show(if 0<([]:aj).length then _ else _)=_;rw[if_neg aF,<-Gv u j,if_pos R]
theorem Yj(f g:aj->Int)(i:Nat)(j:i<11)(x:bZ)(l:aj):iP f i x l=iP g i x l:=by
 rcases(by omega:i=0∨i=1∨i=2∨i=3∨i=4∨i=5∨i=6∨i=7∨i=8∨i=9∨i=10)with rfl|rfl|rfl|rfl|rfl|rfl|rfl|rfl|rfl|rfl|rfl<;>simp only[iP,reduceIte,Nat.reduceEqDiff]
theorem Qu(f g:aj->Int):∀(s:List Nat) (x:bZ) (l:aj),(∀i∈s,i<11)->jC f s x l=jC g s x l
 |[],_,_,_=>rfl
 |i::s,x,l,h=>by
  rw[jC,jC,Yj f g i (h i aF)];cases iP g i x l with
  |none=>rfl
  |some p=>exact Qu f g s p.1 p.2 (fun j hj=>h j (by simp[hj]))
theorem Yk{x:bZ}{m n:Int}(j:dR m 0 65536=true)(hn:dR n 0 65536=true):uh 12 {x with count:=m}=uh 12 {x with count:=n}/\uh 12 {x with count:=m}≠0:=by
 have E:∀k:Int,nX (({x with count:=k}:bZ).r) (lT 12)=nX (({x with count:=0}:bZ).r) (lT 12):=fun k=>by
  rfl
 have u:∀k:Int,dR k 0 65536=true->pJ 12 (({x with count:=k}:bZ).r)=true:=fun k hk=>by
  unfold pJ;rw[show(({x with count:=k}:bZ).r).count=k from F,hk,Bool.or_true]
 have key:∀k:Int,dR k 0 65536=true->uh 12 {x with count:=k}=if nX (({x with count:=0}:bZ).r) (lT 12)then 2
  else if decide (32768<x.text.size)||(decide (16<x.roles.length)||decide (32<x.bH.length))then 5
  else if vV x.roles != 0 then vV x.roles else if dK 12 3&& !jK x.label.data.toList then 6 else 4:=fun k hk=>by
  unfold uh jS;rw[E k,u k hk];rfl
 rw[key m j,key n hn];refine⟨F,?_⟩;split
 ·decide
 ·split
  ·decide
  ·split
   ·rename_i h;simpa using h
   ·split<;>decide
theorem Qv(f:aj->Int)(l:aj):jC f [10,11,4] kD l=(kV l).bind fun p=>(fK 8 p.2).bind fun q=>(fK 32 q.2).map fun u=>(({({kD with version:=(p.1:Int),commit:=u.1}:bZ)with count:=f q.1}:bZ),u.2):=by
 show((kV l).map _).bind _=_;cases kV l with
 |none=>rfl
 |some p=>
  show(((fK 8 p.2).map _).map _).bind _=(fK 8 p.2).bind _;cases fK 8 p.2 with
  |none=>rfl
  |some q=>
   show(((fK 32 q.2).map _).bind _)=(fK 32 q.2).map _;cases fK 32 q.2<;>rfl
theorem Qw{n:Nat}{l:aj}{p:aj×aj}(h:fK n l=some p):p.1.length=n:=by
 unfold fK at h;split at h
 ·cases h
 ·injection h with h;rw[<-h,length_take];omega
theorem Qx(act:Int)(l:aj):kE jV act l=kE kF act l:=by
 unfold kE;by_cases ha:iI act=false
 ·rw[if_pos ha,if_pos ha]
 ·rw[if_neg ha,if_neg ha];by_cases j:32768<l.length
  ·rw[if_pos j,if_pos j]
  ·rw[if_neg j,if_neg j];by_cases R:act=12
   ·subst R;show(match jC jV [10,11,4] kD l with|none=>_|some (x,rest)=>_)=(match jC kF [10,11,4] kD l with|none=>_|some (x,rest)=>_);rw[Qv,Qv];cases kV l with
    |none=>rfl
    |some p=>
     simp only[Option.bind_some];cases af:fK 8 p.2 with
     |none=>rfl
     |some q=>
      simp only[Option.bind_some];cases fK 32 q.2 with
      |none=>rfl
      |some u=>
       simp only[Option.map_some];by_cases E:0<u.2.length
       ·rw[if_pos E,if_pos E]
       ·rw[if_neg E,if_neg E];have ai:=Qw af;have ac:jM q.1=fE q.1 0:=by
         have:=JO (l:=q.1) (p:=0) J;rw[drop_zero,take_of_length_le J]at this;exact this
        by_cases hc:fE q.1 0<=4611686018427387904
        ·have I:jV q.1=kF q.1:=by
          unfold jV kF;rw[if_pos hc,ac,DW J]
         rw[I]
        ·have I:dR (jV q.1) 0 65536=true:=by
          unfold jV dR;rw[if_neg hc];decide
         have ad:dR (kF q.1) 0 65536=true:=by
          have ag:=JQ q.1 0;unfold kF dR kK;rw[ac,IntKind.wrap_i64];generalize fE q.1 0=M at*;simp only[Bool.or_eq_true,decide_eq_true_eq];omega
         obtain⟨aa,ab⟩:=Yk (x:={kD with version:=(p.1:Int),commit:=u.1}) I ad;rw[if_neg ab,if_neg (by rw[<-aa];exact ab),aa]
   ·have hs:∀i∈gy act,i<11:=by
     have ae:iI act=true:=by simpa using ha
     rcases wo ae with rfl|rfl|rfl|rfl|rfl|rfl|rfl|rfl|rfl|rfl|rfl|rfl
     all_goals first|decide|exact absurd F R
    rw[Qu jV kF (gy act) kD l hs]
structure aG where
 num:Int
 time:Int
 act:Int
 bI:aj
 key:aj
 prev:aj
 ba:aN
 bn:Nat
 bc:Nat
 body:aj
def aG.v(e:aG):aO:= .int .i64 e.num:: .int .i64 e.time:: .int .i64 e.act::(e.bI.map Y++(e.key.map Y++(e.prev.map Y++[.slice e.ba e.bn e.bc])))
structure aG.Ok(w:World)(e:aG):Prop where
 ha:e.bI.length=16
 hk:e.key.length=16
 hp:e.prev.length=32
 hb:e.body.length=e.bn
 hbc:e.bn<=e.bc
 bE:e.bn<=140737488355328
 hn0:e.ba=none->e.bn=0/\e.bc=0
 hcl:aK w e.ba (e.body.map Y)
theorem aG.Ok.ext{w w':World}{e:aG}(h:e.Ok w)(k:X w w'):e.Ok w':=⟨h.ha,h.hk,h.hp,h.hb,h.hbc,h.bE,h.hn0,h.hcl.ext k⟩
theorem aG.len{w:World}{e:aG}(h:e.Ok w):e.v.length=68:=by unfold aG.v;simp[h.ha,h.hk,h.hp]
theorem cZ:iH prog 34 68:=⟨⟨_,underlying34,F⟩,au⟩
theorem aG.aL(e:aG):e.v[0]? =some (.int .i64 e.num):=F
theorem aG.rH(e:aG):e.v[1]? =some (.int .i64 e.time):=F
theorem aG.at2(e:aG):e.v[2]? =some (.int .i64 e.act):=F
theorem aG.tail(e:aG):e.v.drop 3=e.bI.map Y++(e.key.map Y++(e.prev.map Y++[.slice e.ba e.bn e.bc])):=F
theorem aG.Eh{w:World}{e:aG}(h:e.Ok w):(e.v.drop 3).take 16=e.bI.map Y:=by
 rw[aG.tail,take_left' (by rw[length_map,h.ha])]
theorem aG.wB{w:World}{e:aG}(h:e.Ok w):(e.v.drop 19).take 16=e.key.map Y:=by
 have:e.v.drop 19=(e.v.drop 3).drop 16:=by rw[drop_drop]
 rw[this,aG.tail,drop_left' (by rw[length_map,h.ha]),take_left' (by rw[length_map,h.hk])]
theorem aG.BH{w:World}{e:aG}(h:e.Ok w):(e.v.drop 35).take 32=e.prev.map Y:=by
 have:e.v.drop 35=((e.v.drop 3).drop 16).drop 16:=by rw[drop_drop,drop_drop]
 rw[this,aG.tail,drop_left' (by rw[length_map,h.ha]),drop_left' (by rw[length_map,h.hk]),take_left' (by rw[length_map,h.hp])]
theorem aG.zV{w:World}{e:aG}(h:e.Ok w):e.v[67]? =some (.slice e.ba e.bn e.bc):=by
 have:e.v[67]? =(((e.v.drop 3).drop 16).drop 16)[32]? :=by rw[drop_drop,drop_drop,List.getElem?_drop]
 rw[this,aG.tail,drop_left' (by rw[length_map,h.ha]),drop_left' (by rw[length_map,h.hk]),List.getElem?_append_right (by rw[length_map,h.hp];exact Nat.le_refl _),length_map,h.hp];rfl
noncomputable def dN(e:aG):Int:=if dR e.num 0 65535||dR e.time 0 1099511627776 then 4 else(kE kF e.act e.body).2
theorem Qy(e:aG)(w:World)(af:e.Ok w):
 Calls prog 96 #[.agg e.v.toArray] w fun x w'=>x= .returned (.int .i64 (dN e))/\X w w':=by
 have ao:=O af;obtain⟨E,j⟩:=aC (dN e);rw[j];unfold dN at j;have a3:=O (aG.len af);clear af;go_enter func96,ntmps96;go_upto_region 1 with(fail);generalize ai:World.alloc w _=am;have R:ah am w.heap.size e.v 34:=by rw[<-ai];exact ah.aI F F
 have ae:X w am:=by rw[<-ai];exact(X.refl w).alloc _
 have aE:=R.cell' (aG.aL e);have a0:=R.cell' (aG.rH e);have a1:=R.cell' (aG.at2 e);have a2:=R.cell' (aG.zV ao);obtain⟨ac,aa⟩:=aB ae (ao.ext ae);clear ai R ae;by_cases u:dR e.num 0 65535=true
 ·rw[u,Bool.true_or,if_pos F]at j;subst j;have ab:(decide (e.num<0)||decide (65535<e.num))=true:=u;go_wp2_with (first|(go_at_call 155;refine(xg _ _ _ _).mono ?_;rintro x w' ⟨rfl,rfl⟩;rw[ab]));go_ret;exact⟨F,ac⟩
 have u:dR e.num 0 65535=false:=by simpa using u
 have ab:(decide (e.num<0)||decide (65535<e.num))=false:=u;rw[u,Bool.false_or]at j;by_cases I:dR e.time 0 1099511627776=true
 ·rw[if_pos I]at j;subst j;have ad:(decide (e.time<0)||decide (1099511627776<e.time))=true:=I;go_wp2_with (first|(go_at_call 155;refine(xg _ _ _ _).mono ?_;rintro x w' ⟨rfl,rfl⟩;first|rw[ab]|rw[ad]));go_ret;exact⟨F,ac⟩
 have I:dR e.time 0 1099511627776=false:=by simpa using I
 have ad:(decide (e.time<0)||decide (1099511627776<e.time))=false:=I;rw[if_neg (by rw[I];exact Bool.false_ne_true)]at j;have ag:=XC e.act e.body e.ba e.bn e.bc am aa.hb aa.hbc aa.bE aa.hcl;rw[Qx,j]at ag;have ap:=O ag;clear ag j u I;go_wp2_with (first|(go_at_call 155;refine(xg _ _ _ _).mono ?_;rintro x w' ⟨rfl,rfl⟩;first|rw[ab]|rw[ad]));refine ap.mono ?_;rintro x a4 ⟨y,rfl,al, -, -, -,aq⟩;obtain⟨ax,an⟩:=aB (show y.v.length=58 by unfold ay.v ay.t;simp[al.hm,al.hcm]) (ac.ext aq);clear al aq ap aE a0 a1 a2;go_wp2_with (refine bg F _ _ _ F F F (ah.aI (vs:=dI.v) F F) eP fM (xs:=y.v) ax (lD y) ?_);intro a5 az ar;have aw:=O (ar.ext (an.alloc _) an.size);clear az ar;go_wp2_with fail;go_ret;exact⟨F,aw⟩
theorem Ei(e:aG)(w:World)(af:e.Ok w):
 Calls prog 78 #[.agg e.v.toArray] w fun x w'=>x= .returned (.int .i64 (dN e))/\X w w':=by
 have ao:=O af;obtain⟨E,j⟩:=aC (dN e);rw[j];unfold dN at j;have a7:=O (aG.len af);clear af;go_enter func78,ntmps78;go_upto_region 1 with(fail);generalize ai:World.alloc w _=am;have I:ah am w.heap.size e.v 34:=by rw[<-ai];exact ah.aI F F
 have ae:X w am:=by rw[<-ai];exact(X.refl w).alloc _
 have aE:=I.cell' (aG.aL e);have a0:=I.cell' (aG.rH e);have a1:=I.cell' (aG.at2 e);have a2:=I.cell' (aG.zV ao);obtain⟨u,R⟩:=aB ae (ao.ext ae);clear ai I ae;unfold dR at j;by_cases aa:e.num<0
 ·rw[if_pos (by simp;omega)]at j;have a3:decide (e.num<0)=true:=aQ aa;subst j;go_wp2;go_ret;exact⟨F,u⟩
 have a3:decide (e.num<0)=false:=aP aa;by_cases ab:65536<=e.num
 ·rw[if_pos (by simp;omega)]at j;have a4:decide (65536<=e.num)=true:=aQ ab;subst j;go_wp2;go_ret;exact⟨F,u⟩
 have a4:decide (65536<=e.num)=false:=aP ab;by_cases ac:e.time<0
 ·rw[if_pos (by simp;omega)]at j;have a5:decide (e.time<0)=true:=aQ ac;subst j;go_wp2;go_ret;exact⟨F,u⟩
 have a5:decide (e.time<0)=false:=aP ac;by_cases ad:1099511627776<e.time
 ·rw[if_pos (by simp;omega)]at j;have a6:decide (1099511627776<e.time)=true:=aQ ad;subst j;go_wp2;go_ret;exact⟨F,u⟩
 have a6:decide (1099511627776<e.time)=false:=aP ad;rw[if_neg (by simp;omega)]at j;have ag:=GH e.act e.body e.ba e.bn e.bc am R.hb R.hbc R.bE R.hcl;rw[j]at ag;have ap:=O ag;clear ag j aa ab ac ad;go_wp2_with fail;refine ap.mono ?_;rintro x a8 ⟨y,rfl,al, -, -, -,aq⟩;obtain⟨ax,an⟩:=aB (show y.v.length=58 by unfold ay.v ay.t;simp[al.hm,al.hcm]) (u.ext aq);clear al aq ap aE a0 a1 a2;go_wp2_with (refine bg F _ _ _ F F F (ah.aI (vs:=dI.v) F F) eP fM (xs:=y.v) ax (lD y) ?_);intro a9 az ar;have aw:=O (ar.ext (an.alloc _) an.size);clear az ar;go_wp2_with fail;go_ret;exact⟨F,aw⟩
theorem bT.yJ{w0 W w w':World}{L:List Nat}{row:Option Nat}(h:bT w0 W L [] w)(k:w.grownBy w' row)(E:∀g,row=some g->g∉L)(u:∀g,row=some g->w0.heap.size<=g):bT w0 W L [] w':=
 ⟨h.base.grown k u,⟨Nat.le_trans h.kept.1 k.size,h.kept.2.1,fun g j=>(k.block g (Nat.lt_of_lt_of_le (h.kept.2.1 g j) h.kept.1) (fun e=>E g e.symm j)).trans (h.kept.2.2 g j)⟩,fun x I=>by cases I⟩
theorem Yp(ys:aO)(T:TypeId)(w:World)(z:Nat×Nat):aK (w.alloc (.cells ys.toArray T z)) (some ⟨w.heap.size,0,none⟩) ys:=by
 refine .inr ⟨w.heap.size,0,F,fun i u E=> ?_⟩;have j:(w.alloc (.cells ys.toArray T z)).heap[w.heap.size]? =some (.cells ys.toArray T z):=by
  show(w.heap.push _)[w.heap.size]? =_;simp
 rw[Nat.zero_add];simp only[World.cell?,j];simpa using E
def ny(e:aG):aj:=[75,87,69,49]++dG (UInt64.ofNat e.num.toNat)++dG (UInt64.ofNat e.time.toNat)++[UInt8.ofNat e.act.toNat]++e.bI++e.key++e.prev++gq (UInt32.ofNat e.bn)++e.body
theorem qy{e:aG}{w:World}(h:e.Ok w)(j:dN e=0):0<=e.num/\e.num<=65535/\0<=e.time/\e.time<=1099511627776/\1<=e.act/\e.act<=12/\e.bn<=32768:=by
 unfold dN at j;by_cases b:(dR e.num 0 65535||dR e.time 0 1099511627776)=true
 ·rw[if_pos b]at j;omega
 rw[if_neg b]at j;unfold dR at b;simp only[Bool.or_eq_true,decide_eq_true_eq,not_or]at b;unfold kE at j;by_cases ha:iI e.act=false
 ·rw[if_pos ha]at j;simp at j
 rw[if_neg ha]at j;unfold iI at ha;simp only[Bool.not_eq_false,Bool.and_eq_true,decide_eq_true_eq]at ha;by_cases u:32768<e.body.length
 ·rw[if_pos u]at j;simp at j
 rw[h.hb]at u;omega
theorem GL{e:aG}{w:World}(h:e.Ok w):(ny e).length=89+e.bn:=by
 simp[ny,Bc,h.ha,h.hk,h.hp,h.hb];simp[gq];omega
theorem Qz(e:aG)(w:World)(ad:e.Ok w)(az:dN e=0):
 Calls prog 104 #[.agg e.v.toArray] w fun x w'=>∃v,x= .returned v/\w'.ownsRow w.heap.size 5 1 v (89+e.bn) ((ny e).map Y)/\X w w':=by
 obtain⟨b1,cU,b2,cV,cW,cX,b3⟩:=qy ad az;have c1:=O (aG.len ad);have a4:=O ad.ha;have a5:=O ad.hk;have a6:=O ad.hp;have cf:=O ad.hb;obtain⟨ch,ci,cj,a7⟩:=bU (aG.Eh ad) (aG.wB ad) (aG.BH ad) (aG.zV ad);have cg:=O ad.hn0;have ce:=O ad.hcl;obtain⟨bz,b4,act,bI,key,al,ar,bn,aw,ax⟩:=e;have br:=aG.aL ⟨bz,b4,act,bI,key,al,ar,bn,aw,ax⟩;have bt:=aG.rH ⟨bz,b4,act,bI,key,al,ar,bn,aw,ax⟩;have bu:=aG.at2 ⟨bz,b4,act,bI,key,al,ar,bn,aw,ax⟩;simp only[ny];generalize aG.v _=aa at*;simp only at b1 cU b2 cV cW cX b3 br bt bu c1 a4 a5 a6 cf ch ci cj a7 cg ce;clear ad az;obtain⟨i,rfl⟩:=Int.eq_ofNat_of_zero_le b1;obtain⟨z,rfl⟩:=Int.eq_ofNat_of_zero_le b2;have cG:uU (i:Int)=i:=by unfold uU;rw[if_neg J];rfl
 have cH:uU (z:Int)=z:=by unfold uU;rw[if_neg J];rfl
 obtain⟨bo,bp⟩:=aB (fun g w' h=>OO [75,87,69,49] (some ⟨g,0,none⟩) 4 4 (i:Int) w' F J h (fun h=>by cases h)) (fun a' c' w' h az=>OO ([75,87,69,49]++dG (UInt64.ofNat i)) a' 12 c' (z:Int) w' F J h az);rw[cG]at bo;rw[cH]at bp;obtain⟨ab,bx⟩:=aC (UInt8.ofNat act.toNat);have dq:IntKind.u8.wrap act=(ab.toNat:Int):=by
  rw[<-bx,UInt8.toNat_ofNat',IntWalk.u8_in _ J];omega
 obtain⟨cY,bw⟩:=aC (UInt32.ofNat bn);have dp:IntKind.u32.wrap (bn:Int)=(cY.toNat:Int):=by
  rw[<-bw,UInt32.toNat_ofNat',IntWalk.u32_in _ J];omega
 simp only[Int.toNat_natCast];rw[bx,bw];have c5:=O b3;clear cG cH b1 cU b2 cV cW cX b3 bx bw;go_enter func104,ntmps104;go_upto_region 1 with(fail);generalize bv:World.alloc w _=ap;have cT:ah ap w.heap.size aa 34:=by rw[<-bv];exact ah.aI F F
 have cw:X w ap:=by rw[<-bv];exact(X.refl w).alloc _
 obtain⟨an,ca,c2,c3,c4⟩:=dM cT cw br bt bu;clear bv cT cw br bt bu;obtain⟨C,u,aJ,bP⟩:=iw (show bT w ap [w.heap.size] [] ap from bT.jA ca (dV.one an.lt));have cs:∀j,C j->j.cell? ⟨w.heap.size,0,none⟩=some (.int .i64 (i:Int)):=fun j ac=>(((u j).1 ac).blk an aF).cell' c2;have ct:∀j,C j->j.cell? ⟨w.heap.size,1,none⟩=some (.int .i64 (z:Int)):=fun j ac=>(((u j).1 ac).blk an aF).cell' c3;refine fJ fun Z=> ?_;refine aA 2 ?_;refine dA 3 (cs) ?_;refine aA 5 ?_;refine dA 6 (ct) ?_;generalize ap.drew=ae at*;have dr:ap.heap.size<=ae.heap.size:=((u ae).1 Z).kept.1;have dc:=fun(w:World) (C:Array Value) (n c:Nat)=>Lib.run_convert_bytes_const (P:=prog) w 32 5 C n c underlying32 underlying5;refine aZ 0 ?_;intro R E;go_wp2_with fail;refine E _ _ (aJ _ _ Z ((X.refl ae).alloc _)) ?_;clear E R;refine aH ?_;refine aZ 1 ?_;intro R E;go_wp2_with fail;refine E _ _ (aJ _ _ Z ((X.refl ae).alloc _)) ?_;clear E R dc;have b8:=O (show aK (ae.alloc (.cells #[Value.int .u8 75,Value.int .u8 87,Value.int .u8 69,Value.int .u8 49] 5 (4,5))) (some ⟨ae.heap.size,0,none⟩) (List.map Y [75,87,69,49])from Yp ([75,87,69,49].map Y) 5 ae (4,5));have cA:=aJ _ _ Z ((X.refl ae).alloc (.cells #[Value.int .u8 75,Value.int .u8 87,Value.int .u8 69,Value.int .u8 49] 5 (4,5)));clear Z;generalize ae.alloc (.cells #[Value.int .u8 75,Value.int .u8 87,Value.int .u8 69,Value.int .u8 49] 5 (4,5))=dj at*;generalize ae.heap.size=g4 at*;refine aH ?_;have Z:=cA;clear cA;refine aZ 4 ?_;intro R E;go_wp2_with fail;refine(bo g4 dj b8).mono ?_;rintro e b5 ⟨ds,rfl,cL,cx⟩
 obtain⟨c6,k1,rfl, -, -,cI,cE⟩:=nT cL;have hF:=aJ _ _ Z cx;go_wp2_with fail;refine E _ _ hF ?_;clear E R Z cx cL bo b8;obtain⟨b7,ck⟩:=aB cE cI;clear cE cI;refine aH ?_;refine aZ 7 ?_;intro R E;go_wp2_with fail;refine(bp c6 k1 b5 b7 ck).mono ?_;rintro e am ⟨v2,rfl,cM,cy⟩;have bd:=aJ _ _ hF cy;have b0:=mg cM (show w.heap.size+1<=b5.heap.size from by have:=an.lt;have:=((u b5).1 hF).kept.1;omega);obtain⟨dl,k2,rfl, -, -,db,da⟩:=nT b0;go_wp2_with fail;refine E _ _ bd ?_;clear E R hF cy cM b7 ck bp db da;have cm:=O b0;clear b0;refine aH ?_;have Z:=bd;clear bd;refine aA 8 ?_;have ai:=O (((u am).1 Z).blk an aF);have cb:=O ((u am).1 Z).base;clear Z u aJ bP cs ct an ca;refine dH ?_;go_wp2;obtain⟨C,u,aJ,bP⟩:=iw (show bT w am [w.heap.size] [] am from bT.jA cb (dV.one ai.lt));have e2:∀j,C j->aK j (some ⟨w.heap.size,3,none⟩) (bI.map Y):=fun j ac=>by
  have:=aK.vP (((u j).1 ac).blk ai aF) 3 16;rwa[ch.out]at this
 have cv:∀j,C j->aK j (some ⟨w.heap.size,19,none⟩) (key.map Y):=fun j ac=>by
  have:=aK.vP (((u j).1 ac).blk ai aF) 19 16;rwa[ci.out]at this
 have aq:∀j,C j->j.cell? ⟨w.heap.size,2,none⟩=some (.int .i64 act):=fun j ac=>(((u j).1 ac).blk ai aF).cell' c4;refine fJ fun Z=> ?_;refine aA 0 ?_;refine aA 1 ?_;refine dA 2 (aq) ?_;refine aA 3 ?_;refine aA 6 ?_;refine aA 7 ?_;refine aA 9 ?_;refine aA 10 ?_;have cn:=O (dQ cm (X.refl am).drew);have c9:w.heap.size+1<=am.drew.heap.size:=by have:=ai.lt;have:=((u _).1 Z).kept.1;omega
 clear cm;generalize am.drew=ag at*;refine aZ 4 ?_;intro R E;go_wp2_with fail;have be:=aJ _ _ Z ((X.refl ag).alloc (.cells #[.int .u8 (ab.toNat:Int)] 5));obtain⟨b',a8⟩:=aB (show aK (ag.alloc (.cells #[.int .u8 (ab.toNat:Int)] 5)) (some ⟨ag.heap.size,0,none⟩) ([ab].map Y)from aK.eG (T:=5) (ah.aI F F)) (dQ cn ((X.refl ag).alloc (.cells #[.int .u8 (ab.toNat:Int)] 5)));have bk:w.heap.size+1<=(ag.alloc (.cells #[.int .u8 (ab.toNat:Int)] 5)).heap.size:=by have:=((X.refl ag).alloc (.cells #[.int .u8 (ab.toNat:Int)] 5)).size;omega
 refine E _ _ be ?_;clear E R Z cn c9;generalize ag.alloc (.cells #[.int .u8 (ab.toNat:Int)] 5)=du at*;generalize ag.heap.size=g5 at*;refine aH ?_;refine aZ 5 ?_;intro R E;go_wp2_with (at_builtin;refine sH F _ _ F (w.heap.size+1) (ys:=[ab]) F F a8 F (fun h=>by cases h) b' J bk ?_);intro v3 a1 cN g4;have a9:=O (show a1.ownsRow (w.heap.size+1) 5 1 v3 21 (([75,87,69,49]++dG (UInt64.ofNat i)++dG (UInt64.ofNat z)++[ab]).map Y)from by simpa using cN);clear cN;have aa:=fun I h=>pG a8 I h;have aE:C a1:=(u _).2 (((u _).1 be).yJ g4 (fun I h=>by have:=aa I h;simp;omega) (fun I h=>by have:=aa I h;omega));have bl:w.heap.size+1<=a1.heap.size:=Nat.le_trans bk g4.size;go_wp2_with fail;refine E _ _ aE ?_;clear E R be g4 aa a8 bk b';refine aH ?_;refine aZ 8 ?_;intro R E;go_wp2_with (at_builtin;refine sH F _ _ F (w.heap.size+1) (ys:=bI) F F a9 a4 (fun h=>by cases h) (e2 a1 aE) J bl ?_);intro de a2 cP g5;have a_:=O (show a2.ownsRow (w.heap.size+1) 5 1 de 37 (([75,87,69,49]++dG (UInt64.ofNat i)++dG (UInt64.ofNat z)++[ab]++bI).map Y)from by simpa using cP);clear cP;have aa:=fun I h=>pG a9 I h;have a0:C a2:=(u _).2 (((u _).1 aE).yJ g5 (fun I h=>by have:=aa I h;simp;omega) (fun I h=>by have:=aa I h;omega));have cC:w.heap.size+1<=a2.heap.size:=Nat.le_trans bl g5.size;go_wp2_with fail;refine E _ _ a0 ?_;clear E R aE g5 aa a9 bl;refine aH ?_;refine aZ 11 ?_;intro R E;go_wp2_with (at_builtin;refine sH F _ _ F (w.heap.size+1) (ys:=key) F F a_ a5 (fun h=>by cases h) (cv a2 a0) J cC ?_);intro df af cQ g6;have co:=O (show af.ownsRow (w.heap.size+1) 5 1 df 53 (([75,87,69,49]++dG (UInt64.ofNat i)++dG (UInt64.ofNat z)++[ab]++bI++key).map Y)from by simpa using cQ)
 clear cQ;have aa:=fun I h=>pG a_ I h;have bh:C af:=(u _).2 (((u _).1 a0).yJ g6 (fun I h=>by have:=aa I h;simp;omega) (fun I h=>by have:=aa I h;omega));go_wp2_with fail;refine E _ _ bh ?_;clear E R a0 g6 aa a_ cC;refine aH ?_;have Z:=bh;clear bh;refine aA 12 ?_;have ao:=O (((u af).1 Z).blk ai aF);have cc:=O ((u af).1 Z).base;clear Z u aJ bP e2 cv aq ai cb;refine dH ?_;go_wp2;obtain⟨C,u,aJ,bP⟩:=iw (show bT w af [w.heap.size] [] af from bT.jA cc (dV.one ao.lt));have e2:∀j,C j->aK j (some ⟨w.heap.size,35,none⟩) (al.map Y):=fun j ac=>by
  have:=aK.vP (((u j).1 ac).blk ao aF) 35 32;rwa[cj.out]at this
 have aq:∀j,C j->j.cell? ⟨w.heap.size,67,none⟩=some (.slice ar bn aw):=fun j ac=>(((u j).1 ac).blk ao aF).cell' a7;refine fJ fun Z=> ?_;refine aA 0 ?_;refine aA 1 ?_;refine aA 2 ?_;refine aA 4 ?_;refine dA 5 (aq) ?_;refine aA 6 ?_;refine aA 7 ?_;have ba:=O (dQ co (X.refl af).drew);have bm:w.heap.size+1<=af.drew.heap.size:=by have:=ao.lt;have:=((u _).1 Z).kept.1;omega
 clear co;generalize af.drew=dk at*;refine aZ 3 ?_;intro R E;go_wp2_with (at_builtin;refine sH F _ _ F (w.heap.size+1) (ys:=al) F F ba a6 (fun h=>by cases h) (e2 dk Z) J bm ?_);intro dg a3 cR bc;have aa:=fun I h=>pG ba I h;have bi:C a3:=(u _).2 (((u _).1 Z).yJ bc (fun I h=>by have:=aa I h;simp;omega) (fun I h=>by have:=aa I h;omega));have cD:w.heap.size+1<=a3.heap.size:=Nat.le_trans bm bc.size;have cp:=O (show a3.ownsRow (w.heap.size+1) 5 1 dg 85 (([75,87,69,49]++dG (UInt64.ofNat i)++dG (UInt64.ofNat z)++[ab]++bI++key++al).map Y)from by simpa using cR);clear cR;obtain⟨c7,k6,rfl, -, -,cJ,cF⟩:=nT cp;obtain⟨b9,cl⟩:=aB cF cJ;go_wp2_with fail;refine E _ _ bi ?_;clear E R Z bc aa ba bm cF cJ;refine aH ?_;refine aZ 8 ?_;intro R E;go_wp2_with fail;refine(Wv ([75,87,69,49]++dG (UInt64.ofNat i)++dG (UInt64.ofNat z)++[ab]++bI++key++al) c7 85 k6 cY a3 (by simp[Bc,a4.out,a5.out,a6.out]) J b9 cl).mono ?_;rintro e b6 ⟨dt,rfl,cS,cz⟩;have cq:=O (mg cS cD);have bj:=aJ _ _ bi cz;clear cS cz b9 cl cp;go_wp2_with fail;refine E _ _ bj ?_;clear E R bi cD;refine aH ?_;have Z:=bj;clear bj;refine aA 9 ?_;have cr:=O (((u b6).1 Z).blk ao aF);have cd:=O ((u b6).1 Z).base;clear Z u aJ bP e2 aq ao cc;refine dH ?_;have dm:=cr.cell' a7;have c0:=ce.ext cd;have c_:w.heap.size+1<=b6.heap.size:=cr.lt;go_wp2_with (at_builtin;refine sH F _ _ F (w.heap.size+1) (ys:=ax) F F cq cf cg c0 (by have:=c5.out;omega) c_ ?_);intro di dv dd c8;have aa:=fun I h=>pG cq I h;go_wp2_with fail;go_ret;refine⟨di,F,mg (B:=w.heap.size+1) ?_ (Nat.le_succ _),cd.grown c8 (fun I h=>by have:=aa I h;omega)⟩
 simpa using dd
def jI(w w':World):Prop:=w.heap.size<=w'.heap.size/\∀(k:Nat) c e z,w.heap[k]? =some (.cells c e z)->∃j,w'.heap[k]? =some (.cells c e j)
theorem jI.refl(w:World):jI w w:=⟨Nat.le_refl _,fun k c e z h=>⟨z,h⟩⟩
theorem jI.trans{a b c:World}(h:jI a b)(k:jI b c):jI a c:=⟨Nat.le_trans h.1 k.1,fun i x e z u=>by obtain⟨E,j⟩:=h.2 i x e z u;exact k.2 i x e E j⟩
theorem jI.Ej{w w':World}(h:X w w'):jI w w':=⟨h.size,fun k c e z hk=>⟨z,(h.block k (Array.getElem?_eq_some_iff.1 hk).1).trans hk⟩⟩
theorem jI.cell{w w':World}(h:jI w w'){a:Addr}{v:Value}(hs:a.spot=none)(hc:w.cell? a=some v):w'.cell? a=some v:=by
 simp only[World.cell?]at hc⊢;cases hk:w.heap[a.block]? with
 |none=>rw[hk]at hc;simp at hc
 |some o=>
  rw[hk]at hc;cases o with
  |cells c e z=>obtain⟨u,j⟩:=h.2 _ _ _ _ hk;rw[j];exact hc
  |_=>simp at hc
theorem aK.rel{w w':World}{a:aN}{xs:aO}(h:aK w a xs)(k:jI w w'):aK w' a xs:=by
 rcases h with h|⟨b,off,ha,h⟩
 ·exact .inl h
 ·exact .inr ⟨b,off,ha,fun i u j=>k.cell F (h i u j)⟩
theorem Yq(t e:TypeId)(g n c:Nat)(cs:Array Value)(e2:TypeId)(z:Nat×Nat)(w:World){P:Program}(ht:P.underlying t=some (.slice e))(j:P.underlying e=some (.int .u8))(hb:w.heap[g]? =some (.cells cs e2 z)):
 (convert t t (.slice (some ⟨g,0,none⟩) n c)).run P w= .ok (.slice (some ⟨g,0,none⟩) n c) (w.freeze ⟨g,cs.size,none⟩ 1):=by
 have u:w.shape? g=some (e2,cs.size):=by
  unfold World.shape?;rw[hb]
 simp[convert,run_underlying ht,run_underlying j,markStringish,u]
theorem QA(w:World)(a:Addr):jI w (w.freeze a 1):=by
 unfold World.freeze;rw[if_neg aX];refine⟨aF,fun k c e z hk=> ?_⟩;simp only[Array.getElem?_modify];split
 ·rw[hk];simp
 ·exact⟨z,hk⟩
theorem Yr(w:World)(a:Addr):w.grownBy (w.freeze a 1) (some a.block):=by
 unfold World.freeze;rw[if_neg aX];refine⟨F,F,F,aF,fun k _ hk=> ?_⟩;simp only[Array.getElem?_modify];rw[if_neg (fun e=>hk (by rw[e]))]
section
open Go Go.RowKit
section
variable {P:Program} {ops:Array Oper} {Q:Exit->Act->World->Prop} {S:World->Prop}
theorem Yt{α β ao:Type}(R:α->World->Prop)(aa:β->World->Prop)(ab:ao->World->Prop)(ae:α->Nat)(af:β->Nat)(ag:ao->Nat)(a4:α->Option Nat)(a5:β->Option Nat)(a6:ao->Option Nat)(L:α->β->ao->Array Bool)(mk:α->β->ao->Act){f:Nat}
 (a1:∀x w w',R x w->jI w w'->R x w')(a2:∀x w w',aa x w->jI w w'->aa x w')(a3:∀x w w',ab x w->jI w w'->ab x w')
 (bd:∀x y z,0<ae x+af y+ag z->(Region.ready .any ops (L x y z)).all (fun i=>a4 x==some i||a5 y==some i||a6 z==some i)=true)
 (bc:∀x y z,0<ae x+af y+ag z->(Region.ready .any ops (L x y z)).isEmpty=false)
 (a7:∀x y z w i,a4 x=some i->S w->R x w->∃o r,ops.toList.drop i=o::r/\∀j:Exit->Act->World->Prop,(∀x' w',S w'->jI w w'->R x' w'->ae x'+1=ae x->L x' y z=(L x y z).setIfInBounds i true->j .normal (mk x' y z) w')->wpList P ops j [o] (mk x y z) w)
 (a8:∀x y z w i,a5 y=some i->S w->aa y w->∃o r,ops.toList.drop i=o::r/\∀j:Exit->Act->World->Prop,(∀ac w',S w'->jI w w'->aa ac w'->af ac+1=af y->L x ac z=(L x y z).setIfInBounds i true->j .normal (mk x ac z) w')->wpList P ops j [o] (mk x y z) w)
 (a9:∀x y z w i,a6 z=some i->S w->ab z w->∃o r,ops.toList.drop i=o::r/\∀j:Exit->Act->World->Prop,(∀ad w',S w'->jI w w'->ab ad w'->ag ad+1=ag z->L x y ad=(L x y z).setIfInBounds i true->j .normal (mk x y ad) w')->wpList P ops j [o] (mk x y z) w)
 (a_:∀x y z w,ae x=0->af y=0->ag z=0->S w->R x w->aa y w->ab z w->wpAnyH P .any ops Q S f (L x y z) (mk x y z) w):
 ∀n x y z w,ae x+af y+ag z=n->S w->R x w->aa y w->ab z w->wpAnyH P .any ops Q S (f+n) (L x y z) (mk x y z) w:=by
 intro n;induction n with
 |zero=>intro x y z w hn;exact a_ x y z w J J J
 |succ n ax=>
  intro x y z w hn ap aq ar aw;have az:=bc x y z J;have aE:=bd x y z J;rw[all_eq_true]at aE;refine wpAnyH_all F (by intro h;rw[h]at az;simp at az) fun i ba=> ?_;have u:=aE i ba;simp only[Bool.or_eq_true,beq_iff_eq]at u;rcases u with(u|u)|u
  ·obtain⟨o,r,am,an⟩:=a7 x y z w i u ap aq;exact mZ (jy am) (an _ fun x' w' I E ai a0 al=>⟨I,by rw[<-al];exact ax x' y z w' J I ai (a2 _ _ _ ar E) (a3 _ _ _ aw E)⟩)
  ·obtain⟨o,r,am,an⟩:=a8 x y z w i u ap ar;exact mZ (jy am) (an _ fun ac w' I E ai a0 al=>⟨I,by rw[<-al];exact ax x ac z w' J I (a1 _ _ _ aq E) ai (a3 _ _ _ aw E)⟩)
  ·obtain⟨o,r,am,an⟩:=a9 x y z w i u ap aw;exact mZ (jy am) (an _ fun ad w' I E ai a0 al=>⟨I,by rw[<-al];exact ax x y ad w' J I (a1 _ _ _ aq E) (a2 _ _ _ ar E) ai⟩)
theorem Yu{α β ac:Type}(n:Nat)(x:α)(y:β)(z:ac)(u:α->World->Prop)(E:β->World->Prop)(I:ac->World->Prop)(R:α->Nat)(aa:β->Nat)(ab:ac->Nat)(af:α->Option Nat)(ag:β->Option Nat)(ai:ac->Option Nat)(L:α->β->ac->Array Bool)(mk:α->β->ac->Act){f al:Nat}{am:Array Bool}{a:Act}{w:World}
 (aw:L x y z=am)(ha:mk x y z=a)(hF:f+n=al)(hn:R x+aa y+ab z=n)(aq:S w)(aE:u x w)(a0:E y w)(a1:I z w)
 (a2:∀x w w',u x w->jI w w'->u x w')(a3:∀x w w',E x w->jI w w'->E x w')(a4:∀x w w',I x w->jI w w'->I x w')
 (az:∀x y z,0<R x+aa y+ab z->(Region.ready .any ops (L x y z)).all (fun i=>af x==some i||ag y==some i||ai z==some i)=true)
 (ax:∀x y z,0<R x+aa y+ab z->(Region.ready .any ops (L x y z)).isEmpty=false)
 (an:∀x y z w i,af x=some i->S w->u x w->∃o r,ops.toList.drop i=o::r/\∀j:Exit->Act->World->Prop,(∀x' w',S w'->jI w w'->u x' w'->R x'+1=R x->L x' y z=(L x y z).setIfInBounds i true->j .normal (mk x' y z) w')->wpList P ops j [o] (mk x y z) w)
 (ao:∀x y z w i,ag y=some i->S w->E y w->∃o r,ops.toList.drop i=o::r/\∀j:Exit->Act->World->Prop,(∀ad w',S w'->jI w w'->E ad w'->aa ad+1=aa y->L x ad z=(L x y z).setIfInBounds i true->j .normal (mk x ad z) w')->wpList P ops j [o] (mk x y z) w)
 (ap:∀x y z w i,ai z=some i->S w->I z w->∃o r,ops.toList.drop i=o::r/\∀j:Exit->Act->World->Prop,(∀ae w',S w'->jI w w'->I ae w'->ab ae+1=ab z->L x y ae=(L x y z).setIfInBounds i true->j .normal (mk x y ae) w')->wpList P ops j [o] (mk x y z) w)
 (ar:∀x y z w,R x=0->aa y=0->ab z=0->S w->u x w->E y w->I z w->wpAnyH P .any ops Q S f (L x y z) (mk x y z) w):
 wpAnyH P .any ops Q S al am a w:=by
 subst aw ha hF;exact Yt u E I R aa ab af ag ai L mk a2 a3 a4 az ax an ao ap ar n x y z w hn aq aE a0 a1
end
inductive jW where
 |n
 |o (b:Nat)
 |t (b:Nat)
inductive iE where
 |n
 |o (b1:Nat)
 |t (b1 b2:Nat)
 |h (b1 b2 b3:Nat)
inductive nY where
 |n
 |o (g:Nat)
def jW.v0:jW->Value| .n=>undef| .o b=> .slice (some ⟨b,0,none⟩) 4 4 | .t b=> .slice (some ⟨b,0,none⟩) 4 4
def jW.v1:jW->Value| .n=>undef| .o _=>undef| .t b=> .slice (some ⟨b,0,none⟩) 4 4
def iE.v0:iE->Value| .n=>undef| .o b=> .slice (some ⟨b,0,none⟩) 8 8 | .t b _=> .slice (some ⟨b,0,none⟩) 8 8 | .h b _ _=> .slice (some ⟨b,0,none⟩) 8 8
def iE.v1:iE->Value| .n=>undef| .o _=>undef| .t _ b=> .slice (some ⟨b,0,none⟩) 8 8 | .h _ b _=> .slice (some ⟨b,0,none⟩) 8 8
def iE.v2:iE->Value| .n=>undef| .o _=>undef| .t _ _=>undef| .h _ _ b=> .slice (some ⟨b,4,none⟩) 4 4
def nY.v0:nY->Value| .n=>undef| .o b=> .slice (some ⟨b,0,none⟩) 1 1
def jW.d0:jW->Bool| .n=>false| .o _=>true| .t _=>true
def jW.d1:jW->Bool| .n=>false| .o _=>false| .t _=>true
def iE.d0:iE->Bool| .n=>false| .o _=>true| .t _ _=>true| .h _ _ _=>true
def iE.d1:iE->Bool| .n=>false| .o _=>false| .t _ _=>true| .h _ _ _=>true
def iE.d2:iE->Bool| .n=>false| .o _=>false| .t _ _=>false| .h _ _ _=>true
def nY.d0:nY->Bool| .n=>false| .o _=>true
def jW.m:jW->Nat| .n=>2 | .o _=>1 | .t _=>0
def iE.m:iE->Nat| .n=>3 | .o _=>2 | .t _ _=>1 | .h _ _ _=>0
def nY.m:nY->Nat| .n=>1 | .o _=>0
def jW.op:jW->Option Nat| .n=>some 0 | .o _=>some 1 | .t _=>none
def iE.op:iE->Option Nat| .n=>some 4 | .o _=>some 7 | .t _ _=>some 21 | .h _ _ _=>none
def nY.op:nY->Option Nat| .n=>some 11 | .o _=>none
def zW(B:Nat)(w:World)(b:Nat):Prop:=B<=b/\∃j,w.heap[b]? =some (.cells #[Value.int .u8 75,Value.int .u8 87,Value.int .u8 69,Value.int .u8 49] 5 j)
def jW.I(B:Nat)(w:World):jW->Prop| .n=>True| .o b=>zW B w b| .t b=>zW B w b
def nC(w:World)(b o:Nat)(l:aj):Prop:=aK w (some ⟨b,o,none⟩) (l.map Y)
def iE.I(j u E:aj)(w:World):iE->Prop| .n=>True| .o b=>nC w b 0 j| .t b c=>nC w b 0 j/\nC w c 0 u| .h b c d=>nC w b 0 j/\nC w c 0 u/\nC w d 4 E
def nY.I(l:aj)(w:World):nY->Prop| .n=>True| .o b=>nC w b 0 l
theorem zW.rel{B:Nat}{w w':World}{b:Nat}(h:zW B w b)(k:jI w w'):zW B w' b:=⟨h.1,by obtain⟨u,j⟩:=h.2;exact k.2 _ _ _ _ j⟩
theorem nC.rel{w w':World}{b o:Nat}{l:aj}(h:nC w b o l)(k:jI w w'):nC w' b o l:=aK.rel h k
def QB(x:jW)(y:iE)(z:nY):Array Bool:= #[x.d0,x.d1,true,true,y.d0,true,true,y.d1,true,true,true,z.d0,true,true,true,true,true,true,true,true,true,y.d2,true,true,false,false,false]
def yK(E:aO)(g i k:Nat)(act:Int)(I:UInt8)(j:aN)(bn u:Nat)(x:jW)(y:iE)(z:nY):Act:={tmps:= #[Value.agg E.toArray,Value.pointer (some {block:=g,off:=0}),Value.slice none 0 0,x.v0,x.v1,Value.pointer (some {block:=g,off:=0}),Value.int IntKind.i64 (i:Int),y.v0,Value.pointer (some {block:=g,off:=1}),Value.int IntKind.i64 (k:Int),y.v1,Value.pointer (some {block:=g,off:=2}),Value.int IntKind.i64 act,Value.int IntKind.u8 (I.toNat:Int),z.v0,Value.pointer (some {block:=g,off:=3}),Value.slice (some {block:=g,off:=3}) 16 16,Value.pointer (some {block:=g,off:=19}),Value.slice (some {block:=g,off:=19}) 16 16,Value.pointer (some {block:=g,off:=35}),Value.slice (some {block:=g,off:=35}) 32 32,Value.pointer (some {block:=g,off:=67}),Value.slice j bn u,Value.int IntKind.i64 (bn:Int),y.v2,Value.pointer (some {block:=g,off:=67}),Value.slice j bn u,undef,undef],defers:=[]}
theorem QC(e:aG)(w:World)(aa:e.Ok w)(b9:dN e=0):
 Calls prog 92 #[.agg e.v.toArray] w fun x w'=>∃v,x= .returned v/\w'.ownsRow w.heap.size 5 1 v (89+e.bn) ((ny e).map Y)/\X w w':=by
 have bx:=O (GL aa);obtain⟨bm,ck,bo,cl,cm,cn,bp⟩:=qy aa b9;have ct:=O (aG.len aa);have bt:=O aa.ha;have bu:=O aa.hk;have bv:=O aa.hp;have bw:=O aa.hb;obtain⟨b0,b1,b2,b3⟩:=bU (aG.Eh aa) (aG.wB aa) (aG.BH aa) (aG.zV aa);have bz:=O aa.hn0;have br:=O aa.hcl;obtain⟨a2,a3,act,bI,key,aq,ab,bn,ac,ax⟩:=e;have bh:=aG.aL ⟨a2,a3,act,bI,key,aq,ab,bn,ac,ax⟩;have bi:=aG.rH ⟨a2,a3,act,bI,key,aq,ab,bn,ac,ax⟩;have bj:=aG.at2 ⟨a2,a3,act,bI,key,aq,ab,bn,ac,ax⟩;have a7:ny ⟨a2,a3,act,bI,key,aq,ab,bn,ac,ax⟩=[75,87,69,49]++dG (UInt64.ofNat a2.toNat)++dG (UInt64.ofNat a3.toNat)++[UInt8.ofNat act.toNat]++bI++key++aq++gq (UInt32.ofNat bn)++ax:=F;generalize ny _=co at*;generalize aG.v _=cc at*;simp only at bm ck bo cl cm cn bp bh bi bj ct bt bu bv bw b0 b1 b2 b3 bz br bx⊢;clear aa b9;obtain⟨i,rfl⟩:=Int.eq_ofNat_of_zero_le bm;obtain⟨k,rfl⟩:=Int.eq_ofNat_of_zero_le bo;obtain⟨b',ca,cb⟩:=aW (fun w'=>DN i w' J) (fun w'=>DN k w' J) (fun w'=>O9 bn w' J);obtain⟨a5,bl⟩:=aC (UInt8.ofNat act.toNat);have cT:IntKind.u8.wrap act=(a5.toNat:Int):=by
  rw[<-bl,UInt8.toNat_ofNat',IntWalk.u8_in _ J];omega
 rw[bl]at a7;simp only[Int.toNat_natCast]at a7;obtain⟨cr,cJ⟩:=aB a7 bp;clear bm ck bo cl cm cn bp bl a7;go_enter func92,ntmps92;go_upto_region 1 with(fail);generalize bk:World.alloc w _=a4;have cj:ah a4 w.heap.size cc 34:=by rw[<-bk];exact ah.aI F F
 have b7:X w a4:=by rw[<-bk];exact(X.refl w).alloc _
 obtain⟨ar,cp,cv,cw,cx⟩:=dM cj b7 bh bi bj;clear bk cj b7 bh bi bj;obtain⟨C,ae,aJ,bP⟩:=iw (show bT w a4 [w.heap.size] [] a4 from bT.jA cp (dV.one ar.lt));have b5:∀E,C E->E.cell? ⟨w.heap.size,0,none⟩=some (.int .i64 (i:Int)):=fun E ao=>(((ae E).1 ao).blk ar aF).cell' cv;have b6:∀E,C E->E.cell? ⟨w.heap.size,1,none⟩=some (.int .i64 (k:Int)):=fun E ao=>(((ae E).1 ao).blk ar aF).cell' cw;have e2:∀E,C E->E.cell? ⟨w.heap.size,2,none⟩=some (.int .i64 act):=fun E ao=>(((ae E).1 ao).blk ar aF).cell' cx;have a8:∀E,C E->E.cell? ⟨w.heap.size,67,none⟩=some (.slice ab bn ac):=fun E ao=>(((ae E).1 ao).blk ar aF).cell' b3;refine fJ fun Z=> ?_;refine aA 2 ?_;refine dA 3 (b5) ?_;refine aA 5 ?_;refine dA 6 (b6) ?_;refine aA 8 ?_;refine dA 9 (e2) ?_;refine aA 10 ?_;refine aA 12 ?_;refine aA 13 ?_;refine aA 14 ?_;refine aA 15 ?_;refine aA 16 ?_;refine aA 17 ?_;refine aA 18 ?_;refine dA 19 (a8) ?_;refine aA 20 ?_;refine aA 22 ?_;refine dA 23 (a8) ?_;generalize a4.drew=cV at*;have bd:∀E,C E->w.heap.size+1<=E.heap.size:=fun E ao=>by have:=ar.lt;have:=((ae E).1 ao).kept.1;omega
 clear b5 b6 e2 a8;obtain⟨g,hg⟩:=aC w.heap.size;rw[hg]at bd;refine Yu 6 jW.n iE.n nY.n (fun x E=>jW.I (g+1) E x) (fun y E=>iE.I (dG (UInt64.ofNat i)) (dG (UInt64.ofNat k)) (gq (UInt32.ofNat bn)) E y) (fun z E=>nY.I [a5] E z) jW.m iE.m nY.m jW.op iE.op nY.op QB (yK cc g i k act a5 ab bn ac)
  au ?ha F F Z trivial trivial trivial ?mA ?mB ?mC ?hr ?hne ?hA ?hB ?hC ?hfin
 case ha=>rw[<-hg];rfl
 case mA=>intro x E w2 h k;cases x<;>first|exact h|exact zW.rel h k
 case mB=>
  intro y E w2 h k;cases y with
  |n=>exact h
  |o b=>exact nC.rel h k
  |t b c=>exact⟨nC.rel h.1 k,nC.rel h.2 k⟩
  |h b c d=>exact⟨nC.rel h.1 k,nC.rel h.2.1 k,nC.rel h.2.2 k⟩
 case mC=>intro z E w2 h k;cases z<;>first|exact h|exact nC.rel h k
 case hr=>intro x y z be;cases x<;>cases y<;>cases z<;>first|exact absurd be (Nat.lt_irrefl 0)|kernel_rfl
 case hne=>intro x y z be;cases x<;>cases y<;>cases z<;>first|exact absurd be (Nat.lt_irrefl 0)|kernel_rfl
 case hA=>
  intro x y z E j af ap az;have hb:=bd E ap;clear Z;cases x with
  |n=>
   cases af;refine⟨_,_,F,fun al I=> ?_⟩;unfold yK;simp only[jW.v0,jW.v1];go_wp2_with fail;exact I (.o E.heap.size) _ (aJ _ _ ap ((X.refl E).alloc _)) (jI.Ej ((X.refl E).alloc _)) ⟨hb,(0,0),ah.yu E ([75,87,69,49].map Y) 5⟩ F F
  |o b=>
   cases af;obtain⟨hb,cR,aE⟩:=az;refine⟨_,_,F,fun al I=> ?_⟩;have cU:=Yq (P:=prog) 32 5 b 4 4 _ _ _ E underlying32 underlying5 aE;unfold yK;simp only[jW.v0,jW.v1];have cs:=O aE;clear aE;go_wp2_with fail;exact I (.t b) _ ((ae _).2 (((ae _).1 ap).yJ (Yr E _) (fun g h=>by cases h;simp;omega) (fun g h=>by cases h;show _<=b;omega))) (QA E _) (zW.rel ⟨hb,cR,cs⟩ (QA E _)) F F
  |t b=>cases af
 case hB=>
  intro x y z E j af ap az;clear Z;cases y with
  |n=>
   cases af;refine⟨_,_,F,fun al I=> ?_⟩;unfold yK;simp only[iE.v0,iE.v1,iE.v2];go_wp2_with fail;refine(b' E).mono ?_;rintro e w2 ⟨rfl,R,e2⟩;have a1:=aJ _ _ ap e2;have a0:=O (aK.eG R);have hr:=jI.Ej e2;clear R e2;go_wp2_with fail;exact I (.o E.heap.size) _ a1 hr a0 F F
  |o b=>
   cases af;refine⟨_,_,F,fun al I=> ?_⟩;unfold yK;simp only[iE.v0,iE.v1,iE.v2];go_wp2_with fail;refine(ca E).mono ?_;rintro e w2 ⟨rfl,R,e2⟩;have a1:=aJ _ _ ap e2;have a0:=O (aK.eG R);have hr:=jI.Ej e2;clear R e2;go_wp2_with fail;exact I (.t b E.heap.size) _ a1 hr ⟨nC.rel az hr,a0⟩ F F
  |t b c=>
   cases af;refine⟨_,_,F,fun al I=> ?_⟩;unfold yK;simp only[iE.v0,iE.v1,iE.v2];go_wp2_with fail;refine(cb E).mono ?_;rintro e w2 ⟨rfl,b4,e2⟩;have a1:=aJ _ _ ap e2;have a0:=O b4;have hr:=jI.Ej e2;clear b4 e2;go_wp2_with fail;exact I (.h b c E.heap.size) _ a1 hr ⟨nC.rel az.1 hr,nC.rel az.2 hr,a0⟩ F F
  |h b c d=>cases af
 case hC=>
  intro x y z E j af ap az;clear Z;cases z with
  |n=>
   cases af;refine⟨_,_,F,fun al I=> ?_⟩;unfold yK;simp only[nY.v0];go_wp2_with fail;exact I (.o E.heap.size) _ (aJ _ _ ap ((X.refl E).alloc _)) (jI.Ej ((X.refl E).alloc _)) (aK.eG (T:=5) (ah.aI F F)) F F
  |o b=>cases af
 case hfin=>
  clear Z b' ca cb;intro x y z ad cg ch ci hF cM cN cd;obtain⟨b,rfl⟩:∃b,x= .t b:=by cases x<;>first|exact⟨_,F⟩|cases cg
  obtain⟨am,R,an,rfl⟩:∃am R an,y= .h am R an:=by cases y<;>first|exact⟨_,_,_,F⟩|cases ch
  obtain⟨aw,rfl⟩:∃b,z= .o b:=by cases z<;>first|exact⟨_,F⟩|cases ci
  obtain⟨hb,zb,aE⟩:=cM;obtain⟨k1,k2,k3⟩:=cN;have cf:aK ad (some ⟨b,0,none⟩) ([75,87,69,49].map Y):=by
   refine .inr ⟨b,0,F,fun j u cL=> ?_⟩;rw[Nat.zero_add];simp only[World.cell?,aE];exact(List.getElem?_toArray (xs:=[75,87,69,49].map Y)).trans cL
  have a6:=O (((ae ad).1 hF).blk ar aF);have k5:aK ad (some ⟨w.heap.size,3,none⟩) (bI.map Y):=by
   have:=aK.vP a6 3 16;rwa[b0.out]at this
  have k6:aK ad (some ⟨w.heap.size,19,none⟩) (key.map Y):=by
   have:=aK.vP a6 19 16;rwa[b1.out]at this
  have k7:aK ad (some ⟨w.heap.size,35,none⟩) (aq.map Y):=by
   have:=aK.vP a6 35 32;rwa[b2.out]at this
  rw[hg]at k5 k6 k7;obtain⟨cy,cz,cA,cC,cD,cE,cF,cG⟩:=jg cf k1 k2 k3 cd k5 k6 k7;have cH:=O (br.ext ((ae ad).1 hF).base);clear cf k1 k2 k3 cd k5 k6 k7 aE hb bd cg ch ci;unfold yK QB;simp only[jW.v0,jW.v1,iE.v0,iE.v1,iE.v2,nY.v0,jW.d0,jW.d1,iE.d0,iE.d1,iE.d2,nY.d0];refine aZ 24 ?_;intro al I;go_wp2_with fail;have a9:=aJ _ _ hF ((X.refl ad).alloc (.cells #[.slice (some ⟨b,0,none⟩) 4 4,.slice (some ⟨am,0,none⟩) 8 8,.slice (some ⟨R,0,none⟩) 8 8,.slice (some ⟨aw,0,none⟩) 1 1,.slice (some ⟨g,3,none⟩) 16 16,.slice (some ⟨g,19,none⟩) 16 16,.slice (some ⟨g,35,none⟩) 32 32,.slice (some ⟨an,4,none⟩) 4 4,.slice ab bn ac] 32));obtain⟨ai,ag⟩:=aB (show ah (ad.alloc (.cells #[.slice (some ⟨b,0,none⟩) 4 4,.slice (some ⟨am,0,none⟩) 8 8,.slice (some ⟨R,0,none⟩) 8 8,.slice (some ⟨aw,0,none⟩) 1 1,.slice (some ⟨g,3,none⟩) 16 16,.slice (some ⟨g,19,none⟩) 16 16,.slice (some ⟨g,35,none⟩) 32 32,.slice (some ⟨an,4,none⟩) 4 4,.slice ab bn ac] 32)) ad.heap.size [.slice (some ⟨b,0,none⟩) 4 4,.slice (some ⟨am,0,none⟩) 8 8,.slice (some ⟨R,0,none⟩) 8 8,.slice (some ⟨aw,0,none⟩) 1 1,.slice (some ⟨g,3,none⟩) 16 16,.slice (some ⟨g,19,none⟩) 16 16,.slice (some ⟨g,35,none⟩) 32 32,.slice (some ⟨an,4,none⟩) 4 4,.slice ab bn ac] 32 from ah.aI F F) ((X.refl ad).alloc (.cells #[.slice (some ⟨b,0,none⟩) 4 4,.slice (some ⟨am,0,none⟩) 8 8,.slice (some ⟨R,0,none⟩) 8 8,.slice (some ⟨aw,0,none⟩) 1 1,.slice (some ⟨g,3,none⟩) 16 16,.slice (some ⟨g,19,none⟩) 16 16,.slice (some ⟨g,35,none⟩) 32 32,.slice (some ⟨an,4,none⟩) 4 4,.slice ab bn ac] 32))
  refine I _ _ a9 ?_;clear I al;generalize ad.alloc (.cells #[.slice (some ⟨b,0,none⟩) 4 4,.slice (some ⟨am,0,none⟩) 8 8,.slice (some ⟨R,0,none⟩) 8 8,.slice (some ⟨aw,0,none⟩) 1 1,.slice (some ⟨g,3,none⟩) 16 16,.slice (some ⟨g,19,none⟩) 16 16,.slice (some ⟨g,35,none⟩) 32 32,.slice (some ⟨an,4,none⟩) 4 4,.slice ab bn ac] 32)=cP at*;refine aH ?_;refine aZ 25 ?_;intro al I;go_wp2_with fail;have ba:fZ [(some ⟨b,0,none⟩,4,[75,87,69,49]),(some ⟨am,0,none⟩,8,dG (UInt64.ofNat i)),(some ⟨R,0,none⟩,8,dG (UInt64.ofNat k)),(some ⟨aw,0,none⟩,1,[a5]),(some ⟨g,3,none⟩,16,bI),(some ⟨g,19,none⟩,16,key),(some ⟨g,35,none⟩,32,aq),(some ⟨an,4,none⟩,4,gq (UInt32.ofNat bn)),(ab,ac,ax)]=co:=by rw[cr.out];simp[fZ]
  have bc:=bx.out;refine(zG [(some ⟨b,0,none⟩,4,[75,87,69,49]),(some ⟨am,0,none⟩,8,dG (UInt64.ofNat i)),(some ⟨R,0,none⟩,8,dG (UInt64.ofNat k)),(some ⟨aw,0,none⟩,1,[a5]),(some ⟨g,3,none⟩,16,bI),(some ⟨g,19,none⟩,16,key),(some ⟨g,35,none⟩,32,aq),(some ⟨an,4,none⟩,4,gq (UInt32.ofNat bn)),(ab,ac,ax)] ad.heap.size 9 9 cP F J J ?hg ?hc ?hn ?hl).mono ?_
  case hg=>
   intro j ce hit
   match j,hit with
   |0,hit=>cases hit;exact ai.cell' F
   |1,hit=>cases hit;exact ai.cell' F
   |2,hit=>cases hit;exact ai.cell' F
   |3,hit=>cases hit;exact ai.cell' F
   |4,hit=>cases hit;unfold nS;simp only;rw[bt.out];exact ai.cell' F
   |5,hit=>cases hit;unfold nS;simp only;rw[bu.out];exact ai.cell' F
   |6,hit=>cases hit;unfold nS;simp only;rw[bv.out];exact ai.cell' F
   |7,hit=>cases hit;exact ai.cell' F
   |8,hit=>cases hit;unfold nS;simp only;rw[bw.out];exact ai.cell' F
  case hc=>
   intro ce hit;simp only[mem_cons,not_mem_nil,or_false]at hit;rcases hit with rfl|rfl|rfl|rfl|rfl|rfl|rfl|rfl|rfl
   ·exact cy.ext ag
   ·exact aK.ext cz ag
   ·exact aK.ext cA ag
   ·exact aK.ext cD ag
   ·exact cE.ext ag
   ·exact cF.ext ag
   ·exact cG.ext ag
   ·exact aK.ext cC ag
   ·exact cH.ext ag
  case hn=>
   intro ce hit;simp only[mem_cons,not_mem_nil,or_false]at hit;rcases hit with rfl|rfl|rfl|rfl|rfl|rfl|rfl|rfl|rfl<;>first|(intro h;cases h;done)|exact fun h=>(bz h).2
  case hl=>rw[ba,bc];have:=cJ.out;omega
  rw[ba,bc];rintro e cQ ⟨v,rfl,own,b8⟩;have a_:=aJ _ _ a9 b8;have cI:=O own;clear own ba bc;go_wp2_with fail;refine I _ _ a_ ?_;clear I al hF a9 b8;refine aH ?_;have Z:=a_;clear a_;refine aA 26 ?_;have cq:=O ((ae cQ).1 Z).base;have cS:=ag.size;clear Z ae aJ bP;refine dH ?_;go_wp2;go_ret;exact⟨v,F,mg cI (by have:=a6.lt;omega),cq⟩
end
noncomputable def ig(e:aG):aj:=if dN e=0 then dY 3 (ny e)else List.replicate 32 0
theorem nZ(e:aG):(ig e).length=32:=by
 unfold ig;split
 ·exact j_ _ _
 ·simp
theorem qA:iH prog 31 32:=⟨⟨_,underlying31,F⟩,au⟩
theorem Yv(e:aG)(w:World)(u:e.Ok w):
 Calls prog 103 #[.agg e.v.toArray] w fun x w'=>x= .returned (.tuple #[.agg ((ig e).map Y).toArray,.int .i64 (dN e)])/\X w w':=by
 obtain⟨aw,ax,an,a4,bc,am⟩:=iq u (aG.len u) (fun w' h=>Qy e w' h) (fun w' al h=>Qz e w' h al) (GL u) (show((ig e).map Y).length=32 by rw[length_map,nZ]);have ap:=b_ (ig e);have a5:=O (fun h=>(qy u h).2.2.2.2.2.2);obtain⟨S,j⟩:=aC (ig e);rw[j]at am ap⊢;unfold ig at j;obtain⟨E,a3⟩:=aC (dN e);rw[a3]at an a4 j a5⊢;clear a3 u;go_enter func103,ntmps103;go_upto_region 1 with(fail);generalize aa:World.alloc (World.alloc w _) _=ab;have a1:ah ab w.heap.size e.v 34:=by rw[<-aa];exact(ah.aI F F).alloc _
 have a8:ah ab (w.heap.size+1) (List.replicate 32 (.int .u8 0)) 31:=by rw[<-aa];exact ah.aI (uO _ _).symm rfl
 have a2:X w ab:=by rw[<-aa];exact((X.refl w).alloc _).alloc _
 obtain⟨ac,aE,ad⟩:=aW a1 a8 a2;clear aa a1 a8 a2;go_wp2_with (refine bV F 34 (.tmp 1) F F ac cZ ax ?_);refine(an ab (aw.ext ad)).mono ?_;rintro x bi ⟨rfl,R⟩;obtain⟨a9,ae,I⟩:=aW (ac.ext R) (aE.ext R) (ad.ext R);clear R ac aE ad an;by_cases q:E=0
 ·subst q;rw[if_pos F]at j;go_wp2_with (refine bV F 34 (.tmp 1) F F a9 cZ ax ?_);refine(a4 bi (by trivial) (aw.ext I)).mono ?_;rintro x bj ⟨v,rfl,own,ag⟩;obtain⟨a,c,rfl,be,bd,al,a6⟩:=nT own;have ao:=Gf 3 (ny e) (89+e.bn) c a bj bc be bd al a6;have a7:uX 3 (ny e) (89+e.bn)= .tuple #[.agg (S.map Y).toArray,.int .i64 0]:=by
   have:=a5.out (by trivial);unfold uX;rw[if_neg J,if_pos J,j]
  rw[a7]at ao;obtain⟨az,a0,ar⟩:=aW ao (ae.ext ag) (I.ext ag);clear ao a7 ag own a6 ae I j;go_wp2_with fail;refine az.mono ?_;rintro x bm ⟨rfl,ai⟩;obtain⟨ba,a_⟩:=aB (a0.ext ai) (ar.ext ai);clear ai a0 ar az;go_wp2_with (refine bg F _ _ _ F F F ba qA aF am ap ?_);intro bk af aq;go_wp2_with fail;exact iy F F af qA am F ⟨F,aq.ext a_ J⟩
 ·rw[if_neg q]at j;have bl:(E != 0)=true:=by simpa using q
  clear q;subst j;clear ap;go_wp2_with (refine bg F _ _ _ F F F ae qA aF (xs:=List.replicate 32 (.int .u8 0)) aF (fun v bh=>by rw[eq_of_mem_replicate bh];rfl) ?_);intro bk af aq;go_wp2_with fail;exact iy F F af qA aF F ⟨by rfl,aq.ext I J⟩
theorem GN(e:aG)(w:World)(u:e.Ok w)(j:dN e=0):
 Calls prog 57 #[.agg e.v.toArray] w fun x w'=>x= .returned (.agg ((ig e).map Y).toArray)/\X w w':=by
 obtain⟨ax,az,a1,a2,ac⟩:=dM u (aG.len u) (fun w' h=>QC e w' h j) (GL u) (show((ig e).map Y).length=32 by rw[length_map,nZ]);have ap:=b_ (ig e);have a3:=O (qy u j).2.2.2.2.2.2;have Z:ig e=dY 3 (ny e):=by unfold ig;rw[if_pos j]
 obtain⟨S,an⟩:=aC (ig e);rw[an]at ac ap Z⊢;clear u j an;go_enter func57,ntmps57;go_upto_region 1 with(fail);generalize E:World.alloc (World.alloc w _) _=I;have al:ah I w.heap.size e.v 34:=by rw[<-E];exact(ah.aI F F).alloc _
 have aq:ah I (w.heap.size+1) (List.replicate 32 (.int .u8 0)) 31:=by rw[<-E];exact ah.aI (uO _ _).symm rfl
 have am:X w I:=by rw[<-E];exact((X.refl w).alloc _).alloc _
 obtain⟨ar,ag,R⟩:=aW al aq am;clear E al aq am;go_wp2_with (refine bV F 34 (.tmp 1) F F ar cZ az ?_);refine(a1 I (ax.ext R)).mono ?_;rintro x a5 ⟨v,rfl,own,aa⟩;obtain⟨a,c,rfl,a7,a6,j,ao⟩:=nT own;have ad:=uV 3 (ny e) (89+e.bn) c a a5 J J a2 (by have:=a3.out;omega) ao;rw[<-Z]at ad;obtain⟨af,ai,ae⟩:=aW ad (ag.ext aa) (R.ext aa);clear ad aa own ao ag R Z;go_wp2_with fail;refine af.mono ?_;rintro x a8 ⟨rfl,ab⟩;obtain⟨aE,aw⟩:=aB (ai.ext ab) (ae.ext ab);clear ab ai ae af;go_wp2_with (refine bg F _ _ _ F F F aE qA aF ac ap ?_);intro a9 a0 a4;go_wp2_with fail;exact gG F F a0 qA ac F ⟨F,a4.ext aw J⟩
noncomputable def iZ(e:aG):aj:=ny e++ig e
theorem GR{e:aG}{w:World}(h:e.Ok w):(iZ e).length=121+e.bn:=by
 unfold iZ;rw[length_append,GL h,nZ];omega
def QD(e:aG)(w:World)(x:Ending)(w':World):Prop:=
 X w w'/\((dN e=0/\∃v,x= .returned (.tuple #[v,.int .i64 0])/\w'.ownsRow w.heap.size 5 1 v (121+e.bn) ((iZ e).map Y))∨(dN e≠0/\x= .returned (.tuple #[.slice none 0 0,.int .i64 (dN e)])))
theorem Yw(e:aG)(w:World)(ag:e.Ok w):
 Calls prog 62 #[.agg e.v.toArray] w (QD e w):=by
 obtain⟨a9,a_,ai,bj,a4⟩:=dM ag (aG.len ag) (fun w' h=>Yv e w' h) (fun w' bw h=>Qz e w' h bw) (fun h=>(qy ag h).2.2.2.2.2.2);have al:=b_ (ig e);obtain⟨ba,ax⟩:=aB (nZ e) (show((ig e).map Y).length=32 by rw[length_map,nZ]);obtain⟨S,a3⟩:=aC (ig e);rw[a3]at ai ba ax al;have bu:=O a3;clear a3 ag;obtain⟨E,a1⟩:=aC (dN e);rw[a1]at ai bj a4;have aw:=O a1;clear a1;go_enter func62,ntmps62;go_upto_region 1 with(fail);generalize a6:World.alloc w _=a7;have bc:ah a7 w.heap.size e.v 34:=by rw[<-a6];exact ah.aI F F
 have be:X w a7:=by rw[<-a6];exact(X.refl w).alloc _
 obtain⟨ao,aq⟩:=aB bc be;clear a6 bc be;go_wp2_with (refine bV F 34 (.tmp 1) F F ao cZ a_ ?_);refine(ai a7 (a9.ext aq)).mono ?_;rintro x an ⟨rfl,aE⟩;obtain⟨ap,ae⟩:=aB (ao.ext aE) (aq.ext aE);clear aE ao aq ai;have b0:w.heap.size+1<=an.heap.size:=ap.lt;by_cases q:E=0
 ·subst q;go_wp2_with (refine bg F _ _ _ F F F (ah.aI (vs:=List.replicate 32 (.int .u8 0)) F F) qA aF ax al ?_);intro ad am ab;have a0:X an ad:=ab.ext ((X.refl an).alloc _) bG;obtain⟨a8,ar,af,br⟩:=bU (ap.ext a0) (ae.ext a0) am (a4 (by trivial));clear ab a0 am ap ae al a4;obtain⟨gs,bk⟩:=aC an.heap.size;rw[bk]at af b0⊢;clear bk;go_upto_region 4 with(fail);obtain⟨C,j,aJ,bP⟩:=iw (show bT w ad [w.heap.size,gs] [] ad from bT.jA ar (dV.two a8.lt af.lt));refine fJ fun Z=> ?_;refine aA 2 ?_;have bz:∀ac,C ac->w.heap.size+2<=ac.heap.size/\gs+1<=ac.heap.size:=fun ac bx=>by have:=af.lt;have:=((j ac).1 bx).kept.1;omega
  generalize ad.drew=I at*;refine aZ 0 ?_;intro R u;go_wp2_with (refine bV F 34 (.tmp 1) F F (((j I).1 Z).blk a8 aF) cZ a_ ?_);refine u _ _ Z ?_;clear u R;refine aH ?_;refine aZ 1 ?_;intro R u;go_wp2_with fail;refine(bj I (by trivial) (a9.ext ((j I).1 Z).base)).mono ?_;rintro x bm ⟨v,rfl,own,bh⟩;have hF:=aJ _ _ Z bh;have az:=O own;clear own;go_wp2_with fail;refine u _ _ hF ?_;clear u R;refine aH ?_;refine aZ 3 ?_;intro R u;have bd:aK bm (some ⟨gs,0,none⟩) (S.map Y):=aK.eG (((j bm).1 hF).blk af aF);have b2:=bz I Z;go_wp2_with (at_builtin;refine sH F _ _ F I.heap.size (ys:=S) F F az ba (fun h=>by cases h) bd (by have:=br.out;omega) bh.size ?_);intro v2 bo bl bi;have a5:=fun aa h=>pG az aa h;have a2:C bo:=(j _).2 (((j _).1 hF).yJ bi (fun aa h=>by have:=a5 aa h;simp;omega) (fun aa h=>by have:=a5 aa h;omega));have bv:=O (mg bl (show w.heap.size<=I.heap.size by omega));clear bl;go_wp2_with fail;refine u _ _ a2 ?_;clear u R Z hF bi a5 az bd;refine aH ?_;have Z:=a2;clear a2;refine aA 4 ?_;refine aA 5 ?_;have bp:=O ((j bo).1 Z).base;clear Z j aJ bP;refine dH ?_;go_wp2
  go_ret2
  refine⟨bp,.inl ⟨aw,v2,F,?_⟩⟩;rw[show 121+e.bn=89+e.bn+32 by omega];unfold iZ;rw[bu.out];simpa using bv.out
 ·have b1:(E != 0)=true:=by simpa using q
  have bt:=O q;clear q;go_wp2_with (refine bg F _ _ _ F F F (ah.aI (vs:=List.replicate 32 (.int .u8 0)) F F) qA aF ax al ?_);intro ad am ab;have ar:=O (ab.ext (ae.alloc _) ae.size);clear ab am;go_wp2_with fail
  go_ret2
  exact⟨ar,.inr ⟨by rw[aw.out];exact bt,by rw[aw.out];rfl⟩⟩
theorem QE(e:aG)(w:World)(af:e.Ok w):
 Calls prog 54 #[.agg e.v.toArray] w (QD e w):=by
 obtain⟨aq,aw,a4,ag,bk,a3⟩:=iq af (aG.len af) (fun w' h=>Ei e w' h) (fun w' aE h=>GN e w' h aE) (fun w' aE h=>QC e w' h aE) (fun h=>(qy af h).2.2.2.2.2.2);have a7:=b_ (ig e);obtain⟨ba,bc⟩:=aB (nZ e) (show((ig e).map Y).length=32 by rw[length_map,nZ]);obtain⟨S,a2⟩:=aC (ig e);rw[a2]at ag ba bc a7;have bz:=O a2;clear a2 af;obtain⟨E,a0⟩:=aC (dN e);rw[a0]at a4 ag bk a3;have ar:=O a0;clear a0;go_enter func54,ntmps54;go_upto_region 1 with(fail);generalize a6:World.alloc w _=a8;have bd:ah a8 w.heap.size e.v 34:=by rw[<-a6];exact ah.aI F F
 have bh:X w a8:=by rw[<-a6];exact(X.refl w).alloc _
 obtain⟨am,ap⟩:=aB bd bh;clear a6 bd bh;go_wp2_with (refine bV F 34 (.tmp 1) F F am cZ aw ?_);refine(a4 a8 (aq.ext ap)).mono ?_;rintro x b4 ⟨rfl,I⟩;obtain⟨ao,ad⟩:=aB (am.ext I) (ap.ext I);clear I am ap a4;by_cases q:E=0
 ·subst q;go_wp2_with (refine bV F 34 (.tmp 1) F F ao cZ aw ?_);refine(ag b4 (by trivial) (aq.ext ad)).mono ?_;rintro x ai ⟨rfl,I⟩;obtain⟨an,a_⟩:=aB (ao.ext I) (ad.ext I);clear I ao ad ag;have b3:w.heap.size+1<=ai.heap.size:=an.lt;go_wp2_with (refine bg F _ _ _ F F F (ah.aI (vs:=List.replicate 32 (.int .u8 0)) F F) qA aF bc a7 ?_);intro al bo bp;have az:X ai al:=bp.ext ((X.refl ai).alloc _) bG;obtain⟨a9,bu,ae,bw⟩:=bU (an.ext az) (a_.ext az) bo (a3 (by trivial));clear bp az bo an a_ a7 a3;obtain⟨gs,bl⟩:=aC ai.heap.size;rw[bl]at ae b3⊢;clear bl;go_upto_region 5 with(fail);obtain⟨C,j,aJ,bP⟩:=iw (show bT w al [w.heap.size,gs] [] al from bT.jA bu (dV.two a9.lt ae.lt));refine fJ fun Z=> ?_;refine aA 2 ?_;have b2:∀ac,C ac->w.heap.size+2<=ac.heap.size/\gs+1<=ac.heap.size:=fun ac b1=>by have:=ae.lt;have:=((j ac).1 b1).kept.1;omega
  generalize al.drew=R at*;refine aZ 0 ?_;intro aa u;go_wp2_with (refine bV F 34 (.tmp 1) F F (((j R).1 Z).blk a9 aF) cZ aw ?_);refine u _ _ Z ?_;clear u aa;refine aH ?_;refine aZ 1 ?_;intro aa u;go_wp2_with fail;refine(bk R (by trivial) (aq.ext ((j R).1 Z).base)).mono ?_;rintro x br ⟨v,rfl,own,bi⟩;have hF:=aJ _ _ Z bi;have ax:=O own;clear own;go_wp2_with fail;refine u _ _ hF ?_;clear u aa;refine aH ?_;refine aZ 3 ?_;intro aa u;have be:aK br (some ⟨gs,0,none⟩) (S.map Y):=aK.eG (((j br).1 hF).blk ae aF);have b6:=b2 R Z;go_wp2_with (at_builtin;refine sH F _ _ F R.heap.size (ys:=S) F F ax ba (fun h=>by cases h) be (by have:=bw.out;omega) bi.size ?_);intro v2 bt bm bj;have a5:=fun ab h=>pG ax ab h;have a1:C bt:=(j _).2 (((j _).1 hF).yJ bj (fun ab h=>by have:=a5 ab h;simp;omega) (fun ab h=>by have:=a5 ab h;omega));have b0:=O (mg bm (show w.heap.size<=R.heap.size by omega));clear bm;go_wp2_with fail;refine u _ _ a1 ?_;clear u aa Z hF bj a5 ax be;refine aH ?_;have Z:=a1;clear a1;refine aA 4 ?_;refine aA 5 ?_;have bv:=O ((j bt).1 Z).base;clear Z j aJ bP;refine dH ?_;go_wp2
  go_ret2
  refine⟨bv,.inl ⟨ar,v2,F,?_⟩⟩;rw[show 121+e.bn=89+e.bn+32 by omega];unfold iZ;rw[bz.out];simpa using b0.out
 ·have b5:(E != 0)=true:=by simpa using q
  have bx:=O q;clear q;go_wp2_with fail
  go_ret2
  exact⟨ad,.inr ⟨by rw[ar.out];exact bx,by rw[ar.out];rfl⟩⟩
theorem Yx(p m q:aO)(v:Array Value)(R:m.length=v.size):
 v.zipIdx.foldl (fun cs (x:Value×Nat)=>cs.setIfInBounds (p.length+x.2) x.1) (p++m++q).toArray=(p++v.toList++q).toArray:=by
 rw[<-Array.foldl_toList,Array.toList_zipIdx];obtain⟨aa,I⟩:=Great.foldl_set p.length v.toList 0 (p++m++q).toArray;apply Array.ext_getElem?;intro k;rw[I k];simp only[Nat.add_zero,Array.length_toList,size_toArray,length_append,List.getElem?_toArray,Nat.zero_add];have j:v.toList.length=v.size:=Array.length_toList;by_cases u:k<p.length
 ·rw[if_neg J,append_assoc,append_assoc,List.getElem?_append_left u,List.getElem?_append_left u]
 ·by_cases E:k<p.length+v.size
  ·rw[if_pos ⟨J,E,J⟩,append_assoc,List.getElem?_append_right J,List.getElem?_append_left (by rw[j];omega)]
  ·rw[if_neg J,List.getElem?_append_right (by rw[length_append];omega),List.getElem?_append_right (by rw[length_append,j];omega)]
   congr 1
   rw[length_append,length_append,j,R]
theorem jh{j:Nat->Option (Nat×Nat)}{i off u:Nat}{v:Value}{rest:List (Nat×Value)}(p m q:aO)(aa:j i=some (off,u))(I:off=p.length)(R:v.cells.size=u)(E:m.length=u):
 Instr.fill j (p++m++q).toArray ((i,v)::rest)=Instr.fill j (p++v.cells.toList++q).toArray rest:=by
 rw[Instr.fill];simp only[aa];rw[if_neg (by simp[R,I,E])];subst I;rw[<-Yx p m q v.cells (by rw[E,R])]
structure dW where
 num:Int
 time:Int
 act:Int
 bI:aj
 key:aj
 prev:aj
 body:aj
def aG.p(e:aG):dW:=⟨e.num,e.time,e.act,e.bI,e.key,e.prev,e.body⟩
def dW.r(x:dW):aG:=⟨x.num,x.time,x.act,x.bI,x.key,x.prev,none,x.body.length,x.body.length,x.body⟩
noncomputable def jX(x:dW):Int:=dN x.r
theorem xH(e:aG):dN e=jX e.p:=F
def fD:aj:=List.replicate 16 0
def u_:dW:=⟨0,0,0,fD,fD,List.replicate 32 0,[]⟩
def dS:aG:=⟨0,0,0,fD,fD,List.replicate 32 0,none,0,0,[]⟩
theorem dZ:dS.v.length=68:=F
theorem i_(e:aG):∀v∈e.v,v.oneCell'=true:=by
 intro v j;unfold aG.v at j;simp only[mem_cons,mem_append,not_mem_nil,or_false]at j;rcases j with rfl|rfl|rfl|j|j|j|rfl
 ·rfl
 ·rfl
 ·rfl
 ·exact b_ _ v j
 ·exact b_ _ v j
 ·exact b_ _ v j
 ·rfl
theorem BJ:(prog.info? 34).map (fun i=>(i.zero,i.size,i.bytes))=some (some (.agg dS.v.toArray),68,112):=au
theorem QG:(prog.underlying 34).bind (fun d=>match d with| .struct j=>j.toList.mapM (fun f=>(prog.info? f.type).map fun i=>(f.offset,i.size))|_=>none)=some [(0,1),(1,1),(2,1),(3,16),(19,16),(35,32),(67,1)]:=au
theorem YB(n t k:Int)(x y z:aj)(j:x.length=16)(u:y.length=16)(af:z.length=32):prog.built 34 [(0,Value.int .i64 n),(1,Value.int .i64 t),(2,Value.int .i64 k),(3,Value.agg (x.map Y).toArray),(4,Value.agg (y.map Y).toArray),(5,Value.agg (z.map Y).toArray)]=some (aG.v ⟨n,t,k,x,y,z,none,0,0,[]⟩).toArray:=by
 obtain⟨al,ad,ae,ai,ag⟩:=info_parts BJ;have hf:=QG;rw[underlying34]at hf;simp only[Option.bind_some]at hf;unfold Program.built;rw[ad,underlying34];simp only[ae,hf];have E:(Value.agg dS.v.toArray).cells=(([]:aO)++[Value.int .i64 0]++(Value.int .i64 0::Value.int .i64 0::(fD.map Y++(fD.map Y++((List.replicate 32 (0:UInt8)).map Y++[Value.slice none 0 0]))))).toArray:=F;rw[E,jh ([]:aO) ([Value.int .i64 0]) (Value.int .i64 0::Value.int .i64 0::(fD.map Y++(fD.map Y++((List.replicate 32 (0:UInt8)).map Y++[Value.slice none 0 0])))) F F F (by rfl)];have I:(([]:aO)++(Value.int .i64 n).cells.toList++(Value.int .i64 0::Value.int .i64 0::(fD.map Y++(fD.map Y++((List.replicate 32 (0:UInt8)).map Y++[Value.slice none 0 0])))))=[Value.int .i64 n]++[Value.int .i64 0]++(Value.int .i64 0::(fD.map Y++(fD.map Y++((List.replicate 32 (0:UInt8)).map Y++[Value.slice none 0 0])))):=by simp[Value.cells]
 rw[I,jh [Value.int .i64 n] ([Value.int .i64 0]) (Value.int .i64 0::(fD.map Y++(fD.map Y++((List.replicate 32 (0:UInt8)).map Y++[Value.slice none 0 0])))) F F F (by rfl)];have R:([Value.int .i64 n]++(Value.int .i64 t).cells.toList++(Value.int .i64 0::(fD.map Y++(fD.map Y++((List.replicate 32 (0:UInt8)).map Y++[Value.slice none 0 0])))))=[Value.int .i64 n,Value.int .i64 t]++[Value.int .i64 0]++(fD.map Y++(fD.map Y++((List.replicate 32 (0:UInt8)).map Y++[Value.slice none 0 0]))):=by simp[Value.cells]
 rw[R,jh [Value.int .i64 n,Value.int .i64 t] ([Value.int .i64 0]) (fD.map Y++(fD.map Y++((List.replicate 32 (0:UInt8)).map Y++[Value.slice none 0 0]))) F F F (by rfl)];have aa:([Value.int .i64 n,Value.int .i64 t]++(Value.int .i64 k).cells.toList++(fD.map Y++(fD.map Y++((List.replicate 32 (0:UInt8)).map Y++[Value.slice none 0 0]))))=[Value.int .i64 n,Value.int .i64 t,Value.int .i64 k]++fD.map Y++(fD.map Y++((List.replicate 32 (0:UInt8)).map Y++[Value.slice none 0 0])):=by simp[Value.cells]
 rw[aa,jh [Value.int .i64 n,Value.int .i64 t,Value.int .i64 k] (fD.map Y) (fD.map Y++((List.replicate 32 (0:UInt8)).map Y++[Value.slice none 0 0])) F F (by simp[Value.cells,j]) (by rfl)];have ab:([Value.int .i64 n,Value.int .i64 t,Value.int .i64 k]++(Value.agg (x.map Y).toArray).cells.toList++(fD.map Y++((List.replicate 32 (0:UInt8)).map Y++[Value.slice none 0 0])))=([Value.int .i64 n,Value.int .i64 t,Value.int .i64 k]++x.map Y)++fD.map Y++((List.replicate 32 (0:UInt8)).map Y++[Value.slice none 0 0]):=by simp[Value.cells]
 rw[ab,jh ([Value.int .i64 n,Value.int .i64 t,Value.int .i64 k]++x.map Y) (fD.map Y) ((List.replicate 32 (0:UInt8)).map Y++[Value.slice none 0 0]) F (by simp[j]) (by simp[Value.cells,u]) (by rfl)];have ac:(([Value.int .i64 n,Value.int .i64 t,Value.int .i64 k]++x.map Y)++(Value.agg (y.map Y).toArray).cells.toList++((List.replicate 32 (0:UInt8)).map Y++[Value.slice none 0 0]))=([Value.int .i64 n,Value.int .i64 t,Value.int .i64 k]++x.map Y++y.map Y)++(List.replicate 32 (0:UInt8)).map Y++[Value.slice none 0 0]:=by simp[Value.cells]
 rw[ac,jh ([Value.int .i64 n,Value.int .i64 t,Value.int .i64 k]++x.map Y++y.map Y) ((List.replicate 32 (0:UInt8)).map Y) [Value.slice none 0 0] F (by simp[j,u]) (by simp[Value.cells,af]) (by rfl)];rw[Instr.fill];simp[Value.cells,aG.v]
theorem YC(n t k:Int)(x y z:aj)(E:aN)(bn I:Nat)(l:aj)(j:x.length=16)(u:y.length=16)(R:z.length=32):prog.built 34 [(0,Value.int .i64 n),(1,Value.int .i64 t),(2,Value.int .i64 k),(3,Value.agg (x.map Y).toArray),(4,Value.agg (y.map Y).toArray),(5,Value.agg (z.map Y).toArray),(6,Value.slice E bn I)]=some (aG.v ⟨n,t,k,x,y,z,E,bn,I,l⟩).toArray:=by
 obtain⟨ao,ai,al,an,am⟩:=info_parts BJ;have hf:=QG;rw[underlying34]at hf;simp only[Option.bind_some]at hf;unfold Program.built;rw[ai,underlying34];simp only[al,hf];have aa:(Value.agg dS.v.toArray).cells=(([]:aO)++[Value.int .i64 0]++(Value.int .i64 0::Value.int .i64 0::(fD.map Y++(fD.map Y++((List.replicate 32 (0:UInt8)).map Y++[Value.slice none 0 0]))))).toArray:=F;rw[aa,jh ([]:aO) ([Value.int .i64 0]) (Value.int .i64 0::Value.int .i64 0::(fD.map Y++(fD.map Y++((List.replicate 32 (0:UInt8)).map Y++[Value.slice none 0 0])))) F F F (by rfl)];have ab:(([]:aO)++(Value.int .i64 n).cells.toList++(Value.int .i64 0::Value.int .i64 0::(fD.map Y++(fD.map Y++((List.replicate 32 (0:UInt8)).map Y++[Value.slice none 0 0])))))=[Value.int .i64 n]++[Value.int .i64 0]++(Value.int .i64 0::(fD.map Y++(fD.map Y++((List.replicate 32 (0:UInt8)).map Y++[Value.slice none 0 0])))):=by simp[Value.cells]
 rw[ab,jh [Value.int .i64 n] ([Value.int .i64 0]) (Value.int .i64 0::(fD.map Y++(fD.map Y++((List.replicate 32 (0:UInt8)).map Y++[Value.slice none 0 0])))) F F F (by rfl)];have ac:([Value.int .i64 n]++(Value.int .i64 t).cells.toList++(Value.int .i64 0::(fD.map Y++(fD.map Y++((List.replicate 32 (0:UInt8)).map Y++[Value.slice none 0 0])))))=[Value.int .i64 n,Value.int .i64 t]++[Value.int .i64 0]++(fD.map Y++(fD.map Y++((List.replicate 32 (0:UInt8)).map Y++[Value.slice none 0 0]))):=by simp[Value.cells]
 rw[ac,jh [Value.int .i64 n,Value.int .i64 t] ([Value.int .i64 0]) (fD.map Y++(fD.map Y++((List.replicate 32 (0:UInt8)).map Y++[Value.slice none 0 0]))) F F F (by rfl)];have ad:([Value.int .i64 n,Value.int .i64 t]++(Value.int .i64 k).cells.toList++(fD.map Y++(fD.map Y++((List.replicate 32 (0:UInt8)).map Y++[Value.slice none 0 0]))))=[Value.int .i64 n,Value.int .i64 t,Value.int .i64 k]++fD.map Y++(fD.map Y++((List.replicate 32 (0:UInt8)).map Y++[Value.slice none 0 0])):=by simp[Value.cells]
 rw[ad,jh [Value.int .i64 n,Value.int .i64 t,Value.int .i64 k] (fD.map Y) (fD.map Y++((List.replicate 32 (0:UInt8)).map Y++[Value.slice none 0 0])) F F (by simp[Value.cells,j]) (by rfl)];have ae:([Value.int .i64 n,Value.int .i64 t,Value.int .i64 k]++(Value.agg (x.map Y).toArray).cells.toList++(fD.map Y++((List.replicate 32 (0:UInt8)).map Y++[Value.slice none 0 0])))=([Value.int .i64 n,Value.int .i64 t,Value.int .i64 k]++x.map Y)++fD.map Y++((List.replicate 32 (0:UInt8)).map Y++[Value.slice none 0 0]):=by simp[Value.cells]
 rw[ae,jh ([Value.int .i64 n,Value.int .i64 t,Value.int .i64 k]++x.map Y) (fD.map Y) ((List.replicate 32 (0:UInt8)).map Y++[Value.slice none 0 0]) F (by simp[j]) (by simp[Value.cells,u]) (by rfl)];have af:(([Value.int .i64 n,Value.int .i64 t,Value.int .i64 k]++x.map Y)++(Value.agg (y.map Y).toArray).cells.toList++((List.replicate 32 (0:UInt8)).map Y++[Value.slice none 0 0]))=([Value.int .i64 n,Value.int .i64 t,Value.int .i64 k]++x.map Y++y.map Y)++(List.replicate 32 (0:UInt8)).map Y++[Value.slice none 0 0]:=by simp[Value.cells]
 rw[af,jh ([Value.int .i64 n,Value.int .i64 t,Value.int .i64 k]++x.map Y++y.map Y) ((List.replicate 32 (0:UInt8)).map Y) [Value.slice none 0 0] F (by simp[j,u]) (by simp[Value.cells,R]) (by rfl)];have ag:(([Value.int .i64 n,Value.int .i64 t,Value.int .i64 k]++x.map Y++y.map Y)++(Value.agg (z.map Y).toArray).cells.toList++[Value.slice none 0 0])=([Value.int .i64 n,Value.int .i64 t,Value.int .i64 k]++x.map Y++y.map Y++z.map Y)++[Value.slice none 0 0]++([]:aO):=by simp[Value.cells]
 rw[ag,jh ([Value.int .i64 n,Value.int .i64 t,Value.int .i64 k]++x.map Y++y.map Y++z.map Y) ([Value.slice none 0 0]) ([]:aO) F (by simp[j,u,R]) F (by rfl)];rw[Instr.fill];simp[Value.cells,aG.v]
theorem YD{o:Oper}{a:Act}{j u E I R aa:Operand}{n t k:Int}{x y z:aj}(al:o.op= .build 34 #[(0,j),(1,u),(2,E),(3,I),(4,R),(5,aa)])(ac:a.eval j=Value.int .i64 n)(ad:a.eval u=Value.int .i64 t)(ab:a.eval E=Value.int .i64 k)(ae:a.eval I=Value.agg (x.map Y).toArray)(af:a.eval R=Value.agg (y.map Y).toArray)(ag:a.eval aa=Value.agg (z.map Y).toArray)(am:x.length=16)(an:y.length=16)(ao:z.length=32)(w:World):
 (execOp a.eval o).run prog w= .ok (.value (.agg (aG.v ⟨n,t,k,x,y,z,none,0,0,[]⟩).toArray)) w:=by
 have h:=run_build (P:=prog) w 34 #[(0,Value.int .i64 n),(1,Value.int .i64 t),(2,Value.int .i64 k),(3,Value.agg (x.map Y).toArray),(4,Value.agg (y.map Y).toArray),(5,Value.agg (z.map Y).toArray)] _ (YB n t k x y z am an ao);have ai:(#[(0,j),(1,u),(2,E),(3,I),(4,R),(5,aa)].map fun(r:Nat×Operand)=>(r.1,a.eval r.2))= #[(0,Value.int .i64 n),(1,Value.int .i64 t),(2,Value.int .i64 k),(3,Value.agg (x.map Y).toArray),(4,Value.agg (y.map Y).toArray),(5,Value.agg (z.map Y).toArray)]:=by simp[ac,ad,ab,ae,af,ag]
 unfold execOp;simp only[al,Sem.run_bind];have ab:(Instr.build 34 (#[(0,j),(1,u),(2,E),(3,I),(4,R),(5,aa)].map fun(r:Nat×Operand)=>(r.1,a.eval r.2))).run prog w= .ok (.agg (aG.v ⟨n,t,k,x,y,z,none,0,0,[]⟩).toArray) w:=by rw[ai];exact h
 rw[ab];rfl
theorem QH{o:Oper}{a:Act}{E I R aa ab ac ad:Operand}{n t k:Int}{x y z:aj}{j:aN}{bn u:Nat}(l:aj)(ap:o.op= .build 34 #[(0,E),(1,I),(2,R),(3,aa),(4,ab),(5,ac),(6,ad)])(af:a.eval E=Value.int .i64 n)(ag:a.eval I=Value.int .i64 t)(ae:a.eval R=Value.int .i64 k)(ai:a.eval aa=Value.agg (x.map Y).toArray)(al:a.eval ab=Value.agg (y.map Y).toArray)(am:a.eval ac=Value.agg (z.map Y).toArray)(an:a.eval ad=Value.slice j bn u)(aq:x.length=16)(ar:y.length=16)(aw:z.length=32)(w:World):
 (execOp a.eval o).run prog w= .ok (.value (.agg (aG.v ⟨n,t,k,x,y,z,j,bn,u,l⟩).toArray)) w:=by
 have h:=run_build (P:=prog) w 34 #[(0,Value.int .i64 n),(1,Value.int .i64 t),(2,Value.int .i64 k),(3,Value.agg (x.map Y).toArray),(4,Value.agg (y.map Y).toArray),(5,Value.agg (z.map Y).toArray),(6,Value.slice j bn u)] _ (YC n t k x y z j bn u l aq ar aw);have ao:(#[(0,E),(1,I),(2,R),(3,aa),(4,ab),(5,ac),(6,ad)].map fun(r:Nat×Operand)=>(r.1,a.eval r.2))= #[(0,Value.int .i64 n),(1,Value.int .i64 t),(2,Value.int .i64 k),(3,Value.agg (x.map Y).toArray),(4,Value.agg (y.map Y).toArray),(5,Value.agg (z.map Y).toArray),(6,Value.slice j bn u)]:=by simp[af,ag,ae,ai,al,am,an]
 unfold execOp;simp only[ap,Sem.run_bind];have ae:(Instr.build 34 (#[(0,E),(1,I),(2,R),(3,aa),(4,ab),(5,ac),(6,ad)].map fun(r:Nat×Operand)=>(r.1,a.eval r.2))).run prog w= .ok (.agg (aG.v ⟨n,t,k,x,y,z,j,bn,u,l⟩).toArray) w:=by rw[ao];exact h
 rw[ae];rfl
section
open Go Go.RowKit
structure pO(P:Program)(t e:TypeId)(z y:Nat):Prop where
 hu:P.underlying t=some (.slice e)
 info:∃i0 z0,P.info? e=some i0/\i0.zero=some z0/\i0.size=z/\i0.bytes=y/\z0.cells.size=z
 pos:0<z
theorem Ky{P:Program}{f:Sem Value}{w w' w2:World}{v v':Value}{b:Option Nat}(u:f.run P w= .ok v w2)(j:f.run P w= .ok v' w')(E:v.ownBlock=b):v'.ownBlock=b:=by
 rw[u]at j;injection j with I R;rw[<-I];exact E
section
variable {P:Program} {t e:TypeId} {z y:Nat}
theorem QI(T:pO P t e z y)(ty:TypeId)(w:World)(B:Nat){v:Value}{n m c:Nat}{xs news:aO}{E:Addr}(R:w.ownsRow B e z v n xs)(ad:news.length=m*z)(hc:∀j u,news[j]? =some u->w.cell? (E.add j)=some u)(an:∀u∈news,u.oneCell'=true)
 (aE:n+m<=140737488355328)(hb:(n+m)*y<=140737488355328)(ar:B<=w.heap.size):
 ∃v' w',(Builtin.append_ #[t,t] ty #[v,.slice (some E) m c]).run P w= .ok v' w'/\w'.ownsRow B e z v' (n+m) (xs++news)/\w.grownBy w' v.ownBlock/\
  (v'.ownBlock=v.ownBlock∨v'.ownBlock=some w.heap.size):=by
 obtain⟨I,am,ac,al,ab,ag,az⟩:=T.info;obtain⟨v',w',ae,ao,ap,aq⟩:=run_append_own (P:=P) w B t ty e I am z y T.hu ac al ab ag az T.pos v n xs R E m c news ad hc an (by unfold maxLen;omega) hb ar;refine⟨v',w',ae,ao,ap,?_⟩;rcases R.2 with⟨rfl,rfl⟩|⟨g,af,cu,rfl,a0,a3,a4,a1,a2,a5⟩
 ·by_cases aw:m=0
  ·left
   rw[aq.2 ⟨F,aw⟩]
  ·right
   have ai:news.length=m*I.size:=by rw[ab];exact ad
   have aa:=run_append_nil (P:=P) w t ty e I am T.hu ac al E m c news ai hc J J (by rw[ag];rw[Nat.zero_add]at hb;omega);exact Ky aa ae F
 ·by_cases ax:n+m<=af
  ·left
   obtain⟨w2,aa,_⟩:=run_append_fits (P:=P) w B t ty e I z T.hu ac ab g n af xs R E m c news ad hc an ax;exact Ky aa ae F
  ·right
   have ai:news.length=m*I.size:=by rw[ab];exact ad
   have aa:=run_append_grow (P:=P) w t ty e I am T.hu ac al ⟨g,0,none⟩ n af xs (by rw[ab];exact R.1) (R.cells (g:=g) F) E m c news ai hc J J (growslice_fits J (by rw[ag];omega));exact Ky aa ae F
theorem YE(T:pO P t e z y)(ty:TypeId)(w:World)(B:Nat){v:Value}{n:Nat}{xs:aO}(u:w.ownsRow B e z v n xs):
 (Builtin.append_ #[t,t] ty #[v,.slice none 0 0]).run P w= .ok v w:=by
 obtain⟨E,ac,j,aa,R,I,ab⟩:=T.info;exact run_append_owned_none (P:=P) (w:=w) B t ty e E z T.hu j v n xs u
theorem YF(T:pO P t e z y)(ty:TypeId)(w:World)(B:Nat){v:Value}{n m c:Nat}{xs news:aO}{j:aN}(E:w.ownsRow B e z v n xs)(I:news.length=m*z)(ad:m<=c)(R:j=none->c=0)(hc:aK w j news)(aa:∀u∈news,u.oneCell'=true)
 (ab:n+m<=140737488355328)(hb:(n+m)*y<=140737488355328)(ac:B<=w.heap.size):
 ∃v' w',(Builtin.append_ #[t,t] ty #[v,.slice j m c]).run P w= .ok v' w'/\w'.ownsRow B e z v' (n+m) (xs++news)/\w.grownBy w' v.ownBlock/\
  (v'.ownBlock=v.ownBlock∨v'.ownBlock=some w.heap.size):=by
 cases j with
 |some j=>exact QI T ty w B E I (wX hc) aa ab hb ac
 |none=>
  obtain rfl:c=0:=R F;obtain rfl:m=0:=J;have hn:news=[]:=by
   have:news.length=0:=by rw[I];omega
   exact length_eq_zero_iff.1 this
  subst hn;refine⟨v,w,YE T ty w B E,by simpa using E,⟨F,F,F,Nat.le_refl _,fun _ _ _=>rfl⟩,.inl F⟩
variable {ops:Array Oper} {rest:List Oper} {o:Oper} {a:Act} {w:World} {Q:Exit->Act->World->Prop}
theorem qB(T:pO P t e z y)(af:o.guard=none)(s x:Operand)(al:o.op= .call {callee:= .builtin .append,args:= #[s,x],argTypes:= #[t,t]})(B:Nat){v:Value}{n m c:Nat}{xs news:aO}{j:aN}
 (hs:a.eval s=v)(ao:a.eval x= .slice j m c)(am:w.ownsRow B e z v n xs)(ag:news.length=m*z)(ai:m<=c)(E:j=none->c=0)(hc:aK w j news)(I:∀u∈news,u.oneCell'=true)
 (ac:n+m<=140737488355328)(hb:(n+m)*y<=140737488355328)(ae:B<=w.heap.size)
 (h:∀v' w',w'.ownsRow B e z v' (n+m) (xs++news)->w.grownBy w' v.ownBlock->(v'.ownBlock=v.ownBlock∨v'.ownBlock=some w.heap.size)->wpList P ops Q rest (a.put o.dst v') w'):wpList P ops Q (o::rest) a w:=by
 obtain⟨v',w',an,R,aa,ab⟩:=YF T o.type w B am ag ai E hc I ac hb ae;exact wpList_plain af fun K ad=>Lib.wp_append_run w s x _ _ al v _ hs ao v' w' an (ad _ _ (h v' w' R aa ab))
end
section
variable {w w':World} {B B2:Nat} {e e2:TypeId} {z z2 n n2:Nat} {v v' v2:Value} {xs xs2:aO} {r:Option Nat}
theorem um(h:w.ownsRow B e z v n xs)(k:w.grownBy w' r)(j:∀g,v.ownBlock=some g->r≠some g):w'.ownsRow B e z v n xs:=by
 refine h.kept k ?_;cases u:v.ownBlock with
 |none=>exact .inl F
 |some g=>exact .inr (fun e=>j g u e.symm)
def nP(v v2:Value):Prop:=∀g,v.ownBlock=some g->v2.ownBlock≠some g
theorem nP.symm(h:nP v v2):nP v2 v:=fun g j u=>h g u j
theorem nP.nil(c:Nat):nP (.slice none 0 c) v2:=fun g h=>by cases h
theorem nP.yL(h:w.ownsRow B e z v n xs)(I:w.ownsRow B2 e2 z2 v2 n2 xs2)(aa:e≠e2):nP v v2:=by
 intro g j u;rcases h.2 with⟨rfl,_⟩|⟨g1,ab,ad,rfl,_,R,_⟩
 ·cases j
 rcases I.2 with⟨rfl,_⟩|⟨af,ac,ae,rfl,_,E,_⟩
 ·cases u
 simp only[Value.ownBlock,Option.some.injEq]at j u;subst j;subst u;rw[R]at E;simp only[Option.some.injEq,Obj.cells.injEq]at E;exact aa E.2.1
theorem nP.append(h:nP v v2)(E:w.ownsRow B2 e2 z2 v2 n2 xs2)(hb:v'.ownBlock=v.ownBlock∨v'.ownBlock=some w.heap.size):nP v' v2:=by
 intro g j u;rcases hb with hb|hb
 ·exact h g (hb▸j) u
 ·rw[hb]at j;injection j with j;have:=(E.lt g u).2;omega
theorem nP.keep(h:nP v v2)(j:w.ownsRow B2 e2 z2 v2 n2 xs2)(k:w.grownBy w' v.ownBlock):w'.ownsRow B2 e2 z2 v2 n2 xs2:=
 um j k fun g u E=>h g E u
theorem GU{g:Nat}{vs:aO}{T:TypeId}(h:w.ownsRow B e z v n xs)(hb:ah w g vs T)(E:e≠T):v.ownBlock≠some g:=by
 intro j;rcases h.2 with⟨rfl,_⟩|⟨g1,I,R,rfl,_,u,_⟩
 ·cases j
 simp only[Value.ownBlock,Option.some.injEq]at j;subst j;unfold ah at hb;rw[u]at hb;simp only[Option.some.injEq,Obj.cells.injEq]at hb;exact E hb.2.1
theorem ah.besides{g:Nat}{vs:aO}{T:TypeId}(hb:ah w g vs T)(h:w.ownsRow B e z v n xs)(k:w.grownBy w' v.ownBlock)(j:e≠T):ah w' g vs T:=hb.grown k (fun e2=>GU h hb j e2.symm)
theorem qC{g:Nat}(u:aU w g w'):w.grownBy w' (some g):=⟨u.os,u.tape,u.output,by rw[u.size];exact Nat.le_refl _,fun i _ j=>u.block i (fun e=>j (by rw[e]))⟩
theorem n_{g:Nat}{vs:aO}{T:TypeId}(h:w.ownsRow B e z v n xs)(u:aU w g w')(hb:ah w g vs T)(I:e≠T):w'.ownsRow B e z v n xs:=
 um h (qC u) fun R E j=>GU h hb I (by cases j;exact E)
theorem iJ(h:w.ownsRow B e z v n xs):∃j c,v= .slice j n c/\n<=c/\(j=none->c=0)/\aK w j xs:=by
 have R:=h.1;rcases h.2 with⟨rfl,rfl⟩|⟨g,E,cu,rfl,_,ac,aa,_⟩
 ·have:xs=[]:=length_eq_zero_iff.1 (by rw[R];omega);subst this;exact⟨none,0,F,Nat.le_refl _,fun _=>rfl,.inl F⟩
 ·refine⟨some ⟨g,0,none⟩,E,F,aa,(fun h=>by cases h),Or.inr ⟨g,0,F,fun i u ab=> ?_⟩⟩;have:=h.cells (g:=g) F i u ab;have I:(⟨g,0,none⟩:Addr).add i=⟨g,i,none⟩:=by unfold Addr.add;split<;>simp_all
  rw[I]at this;simpa using this
end
end
section
open Go Go.RowKit
def iM(es:List aG):aO:=es.flatMap aG.v
def BK(es:List aG):Prop:=∀e∈es,e.v.length=68
theorem BL{es:List aG}(h:BK es):(iM es).length=68*es.length:=by
 unfold iM;induction es with
 |nil=>rfl
 |cons e es u=>rw[flatMap_cons,length_append,h e aF,u (fun x j=>h x (mem_cons_of_mem _ j)),length_cons];omega
theorem YG{es:List aG}(h:BK es){k:Nat}{e:aG}(hk:es[k]? =some e):((iM es).drop (k*68)).take 68=e.v:=by
 have u:es=es.take k++e::es.drop (k+1):=by
  obtain⟨j,R⟩:=List.getElem?_eq_some_iff.1 hk;rw[<-R,<-drop_eq_getElem_cons j,take_append_drop]
 have j:=(List.getElem?_eq_some_iff.1 hk).1;have E:(iM (es.take k)).length=k*68:=by
  rw[BL (fun x aa=>h x (mem_of_mem_take aa)),length_take];omega
 have I:iM es=iM (es.take k)++(e.v++iM (es.drop (k+1))):=by
  conv=>lhs;rw[u]
  unfold iM;rw[flatMap_append,flatMap_cons]
 rw[I,drop_left' E,take_left' (h e (mem_of_getElem? hk))]
theorem GV(xs ys:List aG):iM (xs++ys)=iM xs++iM ys:=by unfold iM;rw[flatMap_append]
theorem u7(es:List aG):∀v∈iM es,v.oneCell'=true:=by
 intro v j;obtain⟨e,_,h⟩:=mem_flatMap.1 j;exact i_ e v h
theorem Kz:(prog.info? 34).map (·.size)=some 68:=au
theorem GX:pO prog 24 34 68 112:=⟨underlying24,⟨_,_,(info_parts BJ).choose_spec.1,(info_parts BJ).choose_spec.2.1,(info_parts BJ).choose_spec.2.2.1,(info_parts BJ).choose_spec.2.2.2,F⟩,aX⟩
structure sK(w:World)(a:aN)(n c:Nat)(es:List aG):Prop where
 hl:es.length=n
 nc:n<=c
 n0:a=none->c=0
 ok:∀e∈es,e.Ok w
 cell:aK w a (iM es)
section
variable {w w':World} {a:aN} {n c:Nat} {es:List aG}
theorem sK.QJ(h:sK w a n c es):BK es:=fun e j=>aG.len (h.ok e j)
theorem sK.ext(h:sK w a n c es)(e:X w w'):sK w' a n c es:=⟨h.hl,h.nc,h.n0,fun x j=>(h.ok x j).ext e,h.cell.ext e⟩
theorem sK.at(h:sK w a n c es){k:Nat}{e:aG}(hk:es[k]? =some e):∃A,a=some A/\dP w (A.add (k*68)) e.v:=by
 have R:=(List.getElem?_eq_some_iff.1 hk).1;obtain⟨b,o,rfl,hc⟩:=h.cell.gQ (by rw[BL h.QJ];omega);refine⟨_,F,fun j u E=> ?_⟩;rw[dn,dn,Nat.add_assoc];refine hc _ _ ?_;rw[<-YG h.QJ hk]at E;have I:j<68:=by
  have:=(List.getElem?_eq_some_iff.1 E).1;rw[length_take]at this;omega
 rw[List.getElem?_take_of_lt I,List.getElem?_drop]at E;exact E
end
noncomputable def kG(es:List aG):aj:=es.flatMap iZ
theorem YH{es:List aG}{k:Nat}{e:aG}(h:es[k]? =some e):kG (es.take (k+1))=kG (es.take k)++iZ e:=by
 unfold kG;rw[take_add_one,h,flatMap_append];simp
theorem YI(es:List aG)(k:Nat):(kG (es.take k)).length<=(kG es).length:=by
 have:kG es=kG (es.take k)++kG (es.drop k):=by
  conv=>lhs;rw[<-take_append_drop k es]
  unfold kG;rw[flatMap_append]
 rw[this,length_append];omega
theorem QK(a:aN)(n c:Nat)(es:List aG)(w:World)(h:sK w a n c es)(a3:∀e∈es,dN e=0)(hn:n<=1000000)(a2:(kG es).length<=140737488355328):
 Calls prog 9 #[.slice a n c] w fun x w'=>∃v,x= .returned v/\w'.ownsRow w.heap.size 5 1 v (kG es).length ((kG es).map Y)/\X w w':=by
 obtain⟨I,bd,a_,bc⟩:=bU h a3 a2 (YI es);clear h a3 a2;go_enter func9,ntmps9;go_wp2;go_loopw [3,10] (fun u i wr=>∃k:Nat,k<=n/\i= .int .i64 (k:Int)/\wr.ownsRow w.heap.size 5 1 u (kG (es.take k)).length ((kG (es.take k)).map Y)/\X w wr) (fun _ i _=>n - (intOf i).toNat)
 case atStart=>exact⟨0,J,F,⟨F,.inl ⟨F,F⟩⟩,X.refl _⟩
 case round=>
  obtain⟨k,hk,rfl,own,aw⟩:=hrel;obtain⟨j,R⟩:=aB aw own;clear aw own;by_cases a1:k<n
  ·obtain⟨r,E⟩:∃r,es[k]? =some r:=⟨es[k]'(by rw[I.hl];exact a1),aF⟩;obtain⟨A,rfl,a0⟩:=(I.ext j).at E;obtain⟨ao,ad,a9⟩:=aW a0 ((I.ext j).ok r (mem_of_getElem? E)) (bd r (mem_of_getElem? E));obtain⟨ae,ap,ba⟩:=aW (aG.len ad) (YH E) (bc (k+1));clear a0 E;go_wp2_with (first|(refine bF F (fP (i:=k) F F F underlying24 Kz a1 _) ?_)|(refine bF F (bQ F F ao cZ ae) ?_)|(refine bg F _ (.tmp 5) _ F F F (ah.aI (vs:=dS.v) F F) cZ dZ ae (i_ r) ?_));intro a7 ar a6;have aa:X wr a7:=a6.ext ((X.refl wr).alloc _) bG;obtain⟨al,am,ac,aq⟩:=bU ar (j.ext aa) (ad.ext aa) (dQ R aa);clear ar a6 aa ad ao R j;generalize wr.heap.size=bu at*;go_wp2_with (refine bV F 34 (.tmp 5) F F al cZ ae ?_);refine(QE r a7 ac).mono ?_;rintro x bw ⟨ag,⟨z,v,rfl,ow⟩|⟨z,rfl⟩⟩
   ·have ab:=O (am.ext ag);have af:=O (dQ aq ag);obtain⟨bi,bj,rfl,bk,bl,az,aE⟩:=nT ow;obtain⟨an,ai⟩:=aB aE (show(iZ r).length=121+r.bn from GR ac);have a8:=O (show(kG (es.take k)).length+(121+r.bn)<=140737488355328 by
     have bo:=ba.out;rw[ap.out,length_append,ai.out]at bo;have bv:=a_.out;omega)
    have br:=ab.size;have bm:bi=none->121+r.bn=0/\bj=0:=fun h=>by have:=az h;omega
    clear ow z aE ag am ac aq al bk bl az;go_wp2_with (refine sH F _ _ F w.heap.size (ys:=iZ r) F F af ai bm an a8 br ?_);intro v' w' a5 ax;have a4:X w w':=ab.grown ax (fun q bt=>(af.lt q bt).1);obtain⟨be,bh⟩:=aB a4 (show w'.ownsRow w.heap.size 5 1 v' (kG (es.take (k+1))).length ((kG (es.take (k+1))).map Y) by rw[ap.out,length_append,ai.out,map_append];exact a5);clear a4 a5 ax an af ab;go_wp2;go_roundw
    case rel=>exact⟨k+1,J,by go_num,bh,be⟩
    case measure=>simp[intOf];omega
   ·exact absurd a9.out z
  ·obtain rfl:k=n:=J;have bp:es.take k=es:=take_of_length_le (by rw[I.hl];exact Nat.le_refl _);rw[bp]at R;go_wp2_with fail;go_ret;exact⟨_,F,R,j⟩
end
section
open Go Go.RowKit Go.Maps Go.MapKept Go.WideShapes
set_option linter.unusedSectionVars false
structure GY{K:Type}(P:Program)(k:TypeId)(kv:K->Value)(good:K->Prop):Prop where
 keyed:Keyed P k
 key:∀x,good x->∃l,keyOf P k (kv x)=some l
 inj:∀x y,kv x=kv y->x=y
section Nz
variable {K V:Type} [DecidableEq K]
structure jc(good:K->Prop)(hs:List (K×V)):Prop where
 good:∀p∈hs,good p.1
 nodup:(hs.map Prod.fst).Nodup
theorem jc.nil{good:K->Prop}:jc good ([]:List (K×V)):=⟨aF,aF⟩
def jq(k:K)(hs:List (K×V)):Option Nat:=hs.findIdx? (fun p=>decide (p.1=k))
def bW(hs:List (K×V))(k:K):Option V:=match jq k hs with|some i=>hs[i]?.map Prod.snd|none=>none
def dU(hs:List (K×V))(k:K)(v:V):List (K×V):=match jq k hs with|some i=>hs.set i (k,v)|none=>hs++[(k,v)]
def iQ(hs:List (K×V))(k:K):List (K×V):=match jq k hs with|some i=>hs.eraseIdx i|none=>hs
theorem BM{k:K}{hs:List (K×V)}:jq k hs=none↔∀p∈hs,p.1≠k:=by
 unfold jq;rw[List.findIdx?_eq_none_iff];simp
theorem QL{k:K}{hs:List (K×V)}{i:Nat}(h:jq k hs=some i):i<hs.length:=by
 unfold jq at h;exact(List.findIdx?_eq_some_iff_getElem.1 h).1
theorem zX{k:K}{hs:List (K×V)}{i:Nat}(h:jq k hs=some i):∃v,hs[i]? =some (k,v):=by
 have E:=QL h;unfold jq at h;obtain⟨_,j,_⟩:=List.findIdx?_eq_some_iff_getElem.1 h;have u:hs[i].1=k:=of_decide_eq_true j;exact⟨hs[i].2,by rw[List.getElem?_eq_getElem E,<-u]⟩
theorem Em{hs:List (K×V)}(h:(hs.map Prod.fst).Nodup){i j:Nat}{k:K}{v u:V}(R:hs[i]? =some (k,v))(ab:hs[j]? =some (k,u)):i=j:=by
 have E:(hs.map Prod.fst)[i]? =some k:=by rw[List.getElem?_map,R];rfl
 have I:(hs.map Prod.fst)[j]? =some k:=by rw[List.getElem?_map,ab];rfl
 have aa:i<(hs.map Prod.fst).length:=(List.getElem?_eq_some_iff.1 E).1;exact(List.getElem?_inj aa h).1 (E.trans I.symm)
theorem En{hs:List (K×V)}(h:(hs.map Prod.fst).Nodup){j:Nat}{k:K}{v:V}(E:hs[j]? =some (k,v)):jq k hs=some j:=by
 cases I:jq k hs with
 |none=>exact absurd F (BM.1 I _ (mem_of_getElem? E))
 |some i=>
  obtain⟨u,R⟩:=zX I;rw[Em h R E]
theorem BN{α β:Type}{f:α->β}{l:List α}{i:Nat}{x y:α}(u:l[i]? =some x)(h:f x=f y):(l.set i y).map f=l.map f:=by
 rw[map_set,<-h];apply ext_getElem?;intro j;rw[List.getElem?_set];split
 ·rename_i e;subst e;split
  ·rw[List.getElem?_map,u];rfl
  ·rename_i E;rw[List.getElem?_eq_none J]
 ·rfl
theorem KA{α β:Type}(f:α->β)(l:List α)(i:Nat):(l.eraseIdx i).map f=(l.map f).eraseIdx i:=by
 rw[eraseIdx_eq_take_drop_succ,eraseIdx_eq_take_drop_succ,map_append,map_take,map_drop]
theorem xI{hs:List (K×V)}(h:(hs.map Prod.fst).Nodup){k:K}{v:V}(E:(k,v)∈hs):bW hs k=some v:=by
 obtain⟨j,u⟩:=List.getElem?_of_mem E;unfold bW;rw[En h u];simp[u]
theorem BO{hs:List (K×V)}{k:K}{v:V}(h:bW hs k=some v):(k,v)∈hs:=by
 unfold bW at h;cases j:jq k hs with
 |none=>rw[j]at h;cases h
 |some i=>
  obtain⟨u,E⟩:=zX j;rw[j]at h;simp only[E,Option.map_some,Option.some.injEq]at h;subst h;exact mem_of_getElem? E
theorem YJ{hs:List (K×V)}{k:K}:bW hs k=none↔∀p∈hs,p.1≠k:=by
 unfold bW;cases E:jq k hs with
 |none=>simp only[true_iff];exact BM.1 E
 |some i=>
  obtain⟨u,j⟩:=zX E;simp only[j,Option.map_some,reduceCtorEq,false_iff];intro h;exact h _ (mem_of_getElem? j) F
theorem YK{hs:List (K×V)}{k:K}:(bW hs k).isSome=(jq k hs).isSome:=by
 unfold bW;cases E:jq k hs with
 |none=>rfl
 |some i=>
  obtain⟨u,j⟩:=zX E;simp[j]
theorem jc.set{good:K->Prop}{hs:List (K×V)}(h:jc good hs){k:K}(v:V)(hk:good k):jc good (dU hs k v):=by
 unfold dU;cases I:jq k hs with
 |none=>
  refine⟨fun p E=> ?_,?_⟩
  ·rcases mem_append.1 E with j|j
   ·exact h.good p j
   ·simp at j;subst j;exact hk
  ·simp only[map_append,map_cons,map_nil];rw[nodup_append];refine⟨h.nodup,aF,fun a ha b hb=> ?_⟩;simp at hb;subst hb;obtain⟨p,E,rfl⟩:=mem_map.1 ha;exact BM.1 I p E
 |some i=>
  obtain⟨u,R⟩:=zX I;refine⟨fun p E=> ?_,?_⟩
  ·rcases mem_or_eq_of_mem_set E with j|j
   ·exact h.good p j
   ·subst j;exact hk
  ·have:(hs.set i (k,v)).map Prod.fst=hs.map Prod.fst:=BN R F;show((hs.set i (k,v)).map Prod.fst).Nodup;rw[this];exact h.nodup
theorem jc.sub{good:K->Prop}{hs u:List (K×V)}(h:jc good hs)(j:u.Sublist hs):jc good u:=
 ⟨fun p E=>h.good p (j.mem E),h.nodup.sublist (j.map _)⟩
theorem BP(hs:List (K×V))(k:K):(iQ hs k).Sublist hs:=by
 unfold iQ;cases jq k hs with
 |none=>exact List.Sublist.refl _
 |some i=>exact eraseIdx_sublist hs i
theorem jc.del{good:K->Prop}{hs:List (K×V)}(h:jc good hs)(k:K):jc good (iQ hs k):=h.sub (BP hs k)
theorem uo{hs:List (K×V)}(h:(hs.map Prod.fst).Nodup){k:K}{v:V}{p:K×V}:p∈dU hs k v↔p=(k,v)∨(p∈hs/\p.1≠k):=by
 unfold dU;cases aa:jq k hs with
 |none=>
  simp only[mem_append,mem_singleton]
  constructor
  ·rintro(E|E)
   ·exact .inr ⟨E,BM.1 aa p E⟩
   ·exact .inl E
  ·rintro(E|E)
   ·exact .inr E
   ·exact .inl E.1
 |some i=>
  obtain⟨u,R⟩:=zX aa;have ac:=(List.getElem?_eq_some_iff.1 R).1
  constructor
  ·intro ae;obtain⟨j,I⟩:=List.getElem?_of_mem ae;simp only[List.getElem?_set]at I;split at I
   ·first
     |exact .inl (Option.some.inj I).symm
     |(
      split at I
      ·exact .inl (Option.some.inj I).symm
      ·cases I)
   ·rename_i ad;refine .inr ⟨mem_of_getElem? I,fun e=>ad ?_⟩;obtain⟨af,ag⟩:=p;simp only at e;subst e;exact Em h R I
  ·rintro(E|⟨E,ab⟩)
   ·subst E;exact mem_of_getElem? (i:=i) (by simp[ac])
   ·obtain⟨j,I⟩:=List.getElem?_of_mem E;refine mem_of_getElem? (i:=j) ?_;simp only[List.getElem?_set];rw[if_neg,I];rintro rfl;rw[R]at I;exact ab (by rw[<-Option.some.inj I])
theorem YL{good:K->Prop}{hs:List (K×V)}(h:jc good hs){k j:K}(v:V)(hk:good k):bW (dU hs k v) j=if j=k then some v else bW hs j:=by
 have hn:=(h.set v hk).nodup;by_cases e:j=k
 ·subst e;rw[if_pos F];exact xI hn ((uo h.nodup).2 (.inl F))
 ·rw[if_neg e];cases I:bW hs j with
  |none=>
   rw[YJ]at I⊢;intro p R;rcases(uo h.nodup).1 R with E|E
   ·subst E;exact fun e2=>e e2.symm
   ·exact I p E.1
  |some u=>exact xI hn ((uo h.nodup).2 (.inr ⟨BO I,e⟩))
end Nz
section
variable {P:Program} {K V:Type} [DecidableEq K] {kv:K->Value} {vv:V->Value} {good:K->Prop}
def f_(kv:K->Value)(vv:V->Value)(w:World)(g:Nat)(hs:List (K×V)):Prop:=
 ∃es j,w.heap[g]? =some (.map es j)/\es.toList.map (fun e=>(e.key,e.val))=hs.map (fun p=>(kv p.1,vv p.2))/\Stamped es j
theorem f_.lt{w:World}{g:Nat}{hs:List (K×V)}(h:f_ kv vv w g hs):g<w.heap.size:=by
 obtain⟨es,c,hb,_⟩:=h;exact(Array.getElem?_eq_some_iff.1 hb).1
theorem f_.keep{w w':World}{g:Nat}{hs:List (K×V)}(h:f_ kv vv w g hs)(e:w'.heap[g]? =w.heap[g]?):f_ kv vv w' g hs:=by
 obtain⟨es,c,hb,j,u⟩:=h;exact⟨es,c,e.trans hb,j,u⟩
theorem f_.ext{w w':World}{g:Nat}{hs:List (K×V)}(h:f_ kv vv w g hs)(e:X w w'):f_ kv vv w' g hs:=h.keep (e.block g h.lt)
theorem f_.upd{w w':World}{g q:Nat}{hs:List (K×V)}(h:f_ kv vv w g hs)(u:aU w q w')(j:g≠q):f_ kv vv w' g hs:=h.keep (u.block g j)
theorem f_.grown{w w':World}{g:Nat}{hs:List (K×V)}{r:Option Nat}(h:f_ kv vv w g hs)(k:w.grownBy w' r)(j:some g≠r):f_ kv vv w' g hs:=h.keep (k.block g h.lt j)
theorem f_.new(w:World):f_ kv vv (w.alloc (.map #[] 0)) w.heap.size []:=⟨#[],0,by show(w.heap.push _)[w.heap.size]? =_;simp,F,stamped_empty 0⟩
theorem KC{es:Array MapEntry}{hs:List (K×V)}(h:es.toList.map (fun e=>(e.key,e.val))=hs.map (fun p=>(kv p.1,vv p.2))){j:Nat}{e:MapEntry}(I:es.toList[j]? =some e):∃k v,hs[j]? =some (k,v)/\e.key=kv k/\e.val=vv v:=by
 have u:(hs.map (fun p=>(kv p.1,vv p.2)))[j]? =some (e.key,e.val):=by rw[<-h,List.getElem?_map,I];rfl
 rw[List.getElem?_map]at u;cases E:hs[j]? with
 |none=>rw[E]at u;simp at u
 |some p=>
  rw[E]at u;simp only[Option.map_some,Option.some.injEq,Prod.mk.injEq]at u;exact⟨p.1,p.2,F,u.1.symm,u.2.symm⟩
variable {k:TypeId} (KV:GY P k kv good)
include KV
theorem YM{es:Array MapEntry}{hs:List (K×V)}(u:jc good hs)(h:es.toList.map (fun e=>(e.key,e.val))=hs.map (fun p=>(kv p.1,vv p.2))):∀e∈es.toList,∃l,keyOf P k e.key=some l:=fun e E=>by
 obtain⟨j,I⟩:=List.getElem?_of_mem E;obtain⟨x,v,R,hk,_⟩:=KC h I;rw[hk];exact KV.key x (u.good _ (mem_of_getElem? R))
theorem GZ{es:Array MapEntry}{hs:List (K×V)}(w:World)(ac:jc good hs)(h:es.toList.map (fun e=>(e.key,e.val))=hs.map (fun p=>(kv p.1,vv p.2))){x:K}(hk:good x):
 (jq x hs=none/\(Instr.findKey k (kv x) es.toList).run P w= .ok none w/\∀e∈es.toList,e.key≠kv x)∨
 ∃j e v,jq x hs=some j/\hs[j]? =some (x,v)/\es.toList[j]? =some e/\e.key=kv x/\e.val=vv v/\(Instr.findKey k (kv x) es.toList).run P w= .ok (some (j,vv v)) w:=by
 obtain⟨kl,ag⟩:=KV.key x hk;rcases KV.keyed.find w (x:=kv x) ag es.toList (YM KV ac h)with⟨R,E⟩|⟨j,e,R,E,ab⟩
 ·refine .inl ⟨BM.2 fun p I ai=> ?_,R,E⟩;obtain⟨j,ae⟩:=List.getElem?_of_mem I;have u:(es.toList.map (fun e=>(e.key,e.val)))[j]? =some (kv p.1,vv p.2):=by rw[h,List.getElem?_map,ae];rfl
  rw[List.getElem?_map]at u;cases aa:es.toList[j]? with
  |none=>rw[aa]at u;simp at u
  |some e=>
   rw[aa]at u;simp only[Option.map_some,Option.some.injEq,Prod.mk.injEq]at u;exact E e (mem_of_getElem? aa) (by rw[u.1,ai])
 ·obtain⟨al,v,I,af,ad⟩:=KC h E;obtain rfl:al=x:=KV.inj _ _ (af.symm.trans ab);exact .inr ⟨j,e,v,En ac.nodup I,I,E,ab,ad,by rw[R,ad]⟩
theorem yM(w:World)(j:Bool){x:K}(hk:good x):(Instr.checkKey j 10000 k (kv x)).run P w= .ok () w:=by
 obtain⟨kl,u⟩:=KV.key x hk;exact KV.keyed.check w j u
variable {t e:TypeId} (ht:P.underlying t=some (.map k e)) {w:World} {g:Nat} {hs:List (K×V)} {x:K}
include ht
def Eo(vv:V->Value)(z:Value)(o:Option V):Value:=match o with|some v=>vv v|none=>z
theorem G9{z:Value}(ac:(zeroValue e).run P w= .ok z w)(h:f_ kv vv w g hs)(aa:jc good hs)(hk:good x)(c:Bool):
 (Instr.lookup t (.map (some g)) (kv x) c).run P w= .ok (if c then .tuple #[Eo vv z (bW hs x),.bool (bW hs x).isSome]else Eo vv z (bW hs x)) w:=by
 obtain⟨es,ad,hb,ab,af⟩:=h;rcases GZ KV w aa ab hk with⟨u,E,_⟩|⟨j,ae,v,u,E,_,_,_,R⟩
 ·have I:bW hs x=none:=by unfold bW;rw[u]
  rw[I];simp[Instr.lookup,run_underlying ht,MapKept.run_getObj_map hb,yM KV w _ hk,E,ac,Result.andThen,Eo];all_goals (cases c<;>rfl)
 ·have I:bW hs x=some v:=by unfold bW;rw[u];simp[E]
  rw[I];simp[Instr.lookup,run_underlying ht,MapKept.run_getObj_map hb,yM KV w _ hk,R,Result.andThen,Eo];all_goals (cases c<;>rfl)
omit KV in
theorem YN{ty:TypeId}(h:f_ kv vv w g hs):(Builtin.len_ #[t] ty #[.map (some g)]).run P w= .ok (.int .i64 (hs.length:Int)) w:=by
 obtain⟨es,c,hb,u,E⟩:=h;have j:es.size=hs.length:=by have:=congrArg List.length u;simpa using this
 simp[Builtin.len_,run_underlying ht,MapKept.run_getObj_map hb,j,goInt]
omit KV ht in
theorem yN(w:World)(g:Nat)(o:Obj):aU w g {w with heap:=w.heap.setIfInBounds g o}:=⟨F,F,F,aF,fun j u=>by
 show(w.heap.setIfInBounds g o)[j]? =_;rw[Array.getElem?_setIfInBounds_ne (Ne.symm u)]⟩
omit KV ht in
theorem BQ{w:World}{g:Nat}(j:g<w.heap.size)(o:Obj):({w with heap:=w.heap.setIfInBounds g o}:World).heap[g]? =some o:=by
 show(w.heap.setIfInBounds g o)[g]? =_;rw[Array.getElem?_setIfInBounds_self_of_lt j]
theorem zY{v:V}(h:f_ kv vv w g hs)(an:jc good hs)(hk:good x):
 ∃w',(Instr.mapUpdate t (.map (some g)) (kv x) (vv v)).run P w= .ok () w'/\aU w g w'/\f_ kv vv w' g (dU hs x v):=by
 have af:=h.lt;obtain⟨es,aw,hb,ac,ag⟩:=h;obtain⟨kl,ap⟩:=KV.key x hk;rcases GZ KV w an ac hk with⟨aa,ad,am⟩|⟨j,I,u,aa,ad,E,ae,ax,al⟩
 ·refine⟨_,by simp[Instr.mapUpdate,run_underlying ht,MapKept.run_getObj_map hb,yM KV w _ hk,ad,MapKept.run_setObj_map _ hb,Result.andThen];rfl,yN _ _ _,⟨_,_,BQ af _,?_,stamped_push ag am⟩⟩;unfold dU;rw[aa];simp[ac]
 ·have ao:es[j]? =some I:=by simpa using E
  refine⟨_,by simp[Instr.mapUpdate,run_underlying ht,MapKept.run_getObj_map hb,yM KV w _ hk,al,ao,ae,KV.keyed.stays w (v:=kv x) ap,MapKept.run_setObj_map _ hb,Result.andThen];rfl,yN _ _ _,⟨_,_,BQ af _,?_,?_⟩⟩
  ·unfold dU;rw[aa,Array.toList_modify,ChangeMaps.modify_eq_set _ _ _ _ E,map_set,ac,map_set]
  ·obtain⟨ai,aq,ar⟩:=ag;refine⟨fun y R=> ?_,?_,?_⟩
   ·rw[Array.toList_modify,ChangeMaps.modify_eq_set _ _ _ _ E]at R;rcases mem_or_eq_of_mem_set R with R|rfl
    ·exact ai y R
    ·exact ai I (mem_of_getElem? E)
   ·rw[Array.toList_modify,ChangeMaps.modify_eq_set _ _ _ _ E];have ab:(es.toList.set j {I with key:=kv x,val:=vv v}).map (·.born)=es.toList.map (·.born):=BN E F;exact ab▸aq
   ·rw[Array.toList_modify,ChangeMaps.modify_eq_set _ _ _ _ E];have ab:(es.toList.set j {I with key:=kv x,val:=vv v}).map (·.key)=es.toList.map (·.key):=BN E ae;exact ab▸ar
theorem KD{ty:TypeId}(h:f_ kv vv w g hs)(af:jc good hs)(hk:good x):
 ∃w',(Builtin.delete_ #[t,k] ty #[.map (some g),kv x]).run P w= .ok (.tuple #[]) w'/\aU w g w'/\f_ kv vv w' g (iQ hs x):=by
 have ac:=h.lt;obtain⟨es,an,hb,R,ad⟩:=h;rcases GZ KV w af R hk with⟨E,aa,ap⟩|⟨j,ao,u,E,aa,ab,aq,ar,ae⟩
 ·refine⟨_,by simp[Builtin.delete_,run_underlying ht,MapKept.run_getObj_map hb,yM KV w _ hk,aa,MapKept.run_setObj_map _ hb,Result.andThen],yN _ _ _,⟨_,_,BQ ac _,?_,ad⟩⟩;unfold iQ;rw[E];exact R
 ·refine⟨_,by simp[Builtin.delete_,run_underlying ht,MapKept.run_getObj_map hb,yM KV w _ hk,ae,MapKept.run_setObj_map _ hb,Result.andThen];rfl,yN _ _ _,⟨_,_,BQ ac _,?_,?_⟩⟩
  ·unfold iQ;rw[E];simp only[Array.eraseIdxIfInBounds,dif_pos (show j<es.size by have:=(List.getElem?_eq_some_iff.1 ab).1;simpa using this),Array.toList_eraseIdx,KA,R]
  ·obtain⟨ai,al,am⟩:=ad;have I:(es.eraseIdxIfInBounds j).toList.Sublist es.toList:=by
    simp only[Array.eraseIdxIfInBounds,dif_pos (show j<es.size by have:=(List.getElem?_eq_some_iff.1 ab).1;simpa using this),Array.toList_eraseIdx];exact eraseIdx_sublist _ _
   exact⟨fun y ag=>ai y (I.mem ag),al.sublist (I.map _),am.sublist (I.map _)⟩
end
end
section
open Go Go.RowKit Go.Maps Go.MapKept Go.WideShapes
set_option linter.unusedSectionVars false
open Go.ChangeMaps (setBlock)
section
variable {P:Program} {K V:Type} [DecidableEq K] {kv:K->Value} {vv:V->Value} {good:K->Prop}
def gJ(kv:K->Value)(vv:V->Value)(w:World)(g r:Nat)(hs:List (K×V))(lf:List K):Prop:=
 ∃es u j I E,w.heap[g]? =some (.map es u)/\es.toList.map (fun e=>(e.key,e.val))=hs.map (fun p=>(kv p.1,vv p.2))/\Stamped es u/\
  w.heap[r]? =some (.mapIter (some g) j I E)/\(∀x∈es.toList,x.born<j)/\j<=E/\j<=u/\(leftOf es I).toList.map (·.key)=lf.map kv
theorem gJ.map{w:World}{g r:Nat}{hs:List (K×V)}{lf:List K}(h:gJ kv vv w g r hs lf):f_ kv vv w g hs:=by
 obtain⟨es,j,aa,R,I,hb,u,E,_⟩:=h;exact⟨es,j,hb,u,E⟩
theorem gJ.lt{w:World}{g r:Nat}{hs:List (K×V)}{lf:List K}(h:gJ kv vv w g r hs lf):r<w.heap.size:=by
 obtain⟨es,E,ab,aa,u,hb,I,R,j,_⟩:=h;exact(Array.getElem?_eq_some_iff.1 j).1
theorem gJ.ne{w:World}{g r:Nat}{hs:List (K×V)}{lf:List K}(h:gJ kv vv w g r hs lf):r≠g:=by
 obtain⟨es,I,ac,ab,E,hb,R,aa,j,_⟩:=h;intro u;rw[u,hb]at j;cases j
theorem gJ.keep{w w':World}{g r:Nat}{hs:List (K×V)}{lf:List K}(h:gJ kv vv w g r hs lf)(E:w'.heap[g]? =w.heap[g]?)(I:w'.heap[r]? =w.heap[r]?):gJ kv vv w' g r hs lf:=by
 obtain⟨es,u,ae,ad,j,hb,R,ac,aa,ab⟩:=h;exact⟨es,u,ae,ad,j,E.trans hb,R,ac,I.trans aa,ab⟩
theorem gJ.ext{w w':World}{g r:Nat}{hs:List (K×V)}{lf:List K}(h:gJ kv vv w g r hs lf)(e:X w w'):gJ kv vv w' g r hs lf:=h.keep (e.block g h.map.lt) (e.block r h.lt)
theorem gJ.upd{w w':World}{g r q:Nat}{hs:List (K×V)}{lf:List K}(h:gJ kv vv w g r hs lf)(u:aU w q w')(j:g≠q)(E:r≠q):gJ kv vv w' g r hs lf:=h.keep (u.block g j) (u.block r E)
theorem gJ.grown{w w':World}{g r:Nat}{hs:List (K×V)}{lf:List K}{q:Option Nat}(h:gJ kv vv w g r hs lf)(k:w.grownBy w' q)(j:some g≠q)(u:some r≠q):gJ kv vv w' g r hs lf:=h.keep (k.block g h.map.lt j) (k.block r h.lt u)
end
section
theorem YO{es:Array MapEntry}{j:Array Nat}{e:MapEntry}(hn:(es.toList.map (·.born)).Nodup)(ac:e∈(leftOf es j).toList):
 ∃A B,(leftOf es j).toList=A++e::B/\(leftOf es (j.push e.born)).toList=A++B:=by
 obtain⟨A,B,R⟩:=append_of_mem ac;have I:(leftOf es (j.push e.born)).toList=(leftOf es j).toList.filter (fun x=>x.born != e.born):=by
  unfold leftOf;rw[Array.toList_filter,Array.toList_filter,filter_filter];apply filter_congr;intro x _;rw[contains_push];cases j.contains x.born<;>cases u:(x.born==e.born)<;>simp_all
 have E:((leftOf es j).toList.map (·.born)).Nodup:=by
  unfold leftOf;rw[Array.toList_filter];exact hn.sublist ((filter_sublist).map _)
 rw[R]at E I;rw[map_append,map_cons,nodup_append]at E;obtain⟨af,n2,ae⟩:=E;have aa:∀x∈A,(x.born != e.born)=true:=fun x u=>by
  have:=ae x.born (mem_map.2 ⟨x,u,F⟩) e.born aF;simpa using this
 have ab:∀x∈B,(x.born != e.born)=true:=fun x u=>by
  rw[nodup_cons]at n2;have:x.born≠e.born:=fun ad=>n2.1 (ad▸mem_map.2 ⟨x,u,F⟩);simpa using this
 refine⟨A,B,R,?_⟩;rw[I,filter_append,filter_cons,filter_eq_self.2 aa,filter_eq_self.2 ab];simp
end
section
variable {P:Program} {K V:Type} [DecidableEq K] {kv:K->Value} {vv:V->Value} {good:K->Prop}
variable {ops:Array Oper} {rest:List Oper} {o:Oper} {a:Act} {w:World} {Q:Exit->Act->World->Prop}
theorem zZ(ac:o.guard=none)(t k e:TypeId)(ht:P.underlying t=some (.map k e))(m:Operand)(af:o.op= .range t m){g:Nat}{hs:List (K×V)}(ae:a.eval m= .map (some g))(h:f_ kv vv w g hs)
 (aa:∀w',gJ kv vv w' g w.heap.size hs (hs.map Prod.fst)->X w w'->w'.heap.size=w.heap.size+1->wpList P ops Q rest (a.put o.dst (.pointer (some ⟨w.heap.size,0,none⟩))) w'):wpList P ops Q (o::rest) a w:=by
 have ad:=h.lt;obtain⟨es,j,hb,u,E⟩:=h;have ag:=run_range_map (P:=P) w t k e g es j ht hb;refine wpList_plain ac fun ai ab=> ?_;unfold Oper.wp;simp[execOp,af,ae,ag,Result.andThen];refine ab _ _ (aa _ ⟨es,j,j,#[],j,((MapKept.heap_alloc w _).2 g ad).trans hb,u,E,(MapKept.heap_alloc w _).1,E.1,Nat.le_refl _,Nat.le_refl _,?_⟩ ((X.refl w).alloc _) aF);have I:(leftOf es #[]).toList=es.toList:=by
  unfold leftOf;rw[Array.toList_filter];exact filter_eq_self.2 (fun _ _=>by simp)
 rw[I];have R:(es.toList.map (fun e=>(e.key,e.val))).map Prod.fst=(hs.map (fun p=>(kv p.1,vv p.2))).map Prod.fst:=by rw[u]
 simpa[Function.comp_def]using R
theorem z_(be:o.guard=none)(bi:∀x y,kv x=kv y->x=y)(a4:Operand)(aE:o.op= .next a4 false){g r:Nat}{hs:List (K×V)}{lf:List K}(ax:a.eval a4= .pointer (some ⟨r,0,none⟩))(h:gJ kv vv w g r hs lf)
 (ba:lf=[]->wpList P ops Q rest (a.put o.dst (.tuple #[.bool false])) w)
 (bc:∀(x:K) (v:V) (w':World) (am:List K),(x,v)∈hs->lf.Perm (x::am)->lf.length=am.length+1->gJ kv vv w' g r hs am->aU w r w'->(Instr.entry (.pointer (some ⟨r,0,none⟩))).run P w'= .ok (.tuple #[kv x,vv v]) w'->
  wpList P ops Q rest (a.put o.dst (.tuple #[.bool true,kv x,vv v])) w'):wpList P ops Q (o::rest) a w:=by
 have bl:=h.ne;obtain⟨es,u,R,E,ao,hb,a0,al,a1,az,bp,a2,ac⟩:=h;refine wpList_plain be fun bu ap=> ?_;unfold Oper.wp;rcases run_next_at (P:=P) w o.type r g R ao E es u a1 hb az bp with⟨a6,ad⟩|⟨e,ar,an,ag,ad⟩
 ·have bk:lf=[]:=by
   have aa:(leftOf es E).toList=[]:=by simpa using a6
   rw[aa]at ac;simpa using ac.symm
  simp[execOp,aE,ax,ad,Result.andThen];exact ap _ _ (ba bk)
 ·obtain⟨aw,bv⟩:=mem_left ar;obtain⟨j,bj⟩:=List.getElem?_of_mem aw;obtain⟨x,v,bm,ai,a3⟩:=KC a0 bj;obtain⟨A,B,a9,a_⟩:=YO al.2.1 ar;have bo:an.heap[r]? =some (.mapIter (some g) R E ao):=by rcases ag with rfl|rfl<;>exact a1
  have bd:an.heap[g]? =some (.map es u):=by rcases ag with rfl|rfl<;>exact hb
  have ae:=heap_set (o':= .mapIter (some g) R (E.push e.born) u) bo;have aq:(setBlock an r (.mapIter (some g) R (E.push e.born) u)).heap[g]? =some (.map es u):=(ae.2 g (fun a5=>bl a5.symm)).trans bd;have br:∃I ab,lf=I++x::ab/\A.map (·.key)=I.map kv/\B.map (·.key)=ab.map kv:=by
   rw[a9,map_append,map_cons]at ac;obtain⟨I,ab,rfl,aa,af⟩:=map_eq_append_iff.1 ac.symm;obtain⟨y,bt,rfl,a7,a8⟩:=map_eq_cons_iff.1 af;obtain rfl:y=x:=bi _ _ (a7.trans ai);exact⟨I,bt,F,aa.symm,a8.symm⟩
  obtain⟨I,ab,rfl,aa,af⟩:=br;rw[ai,a3]at ad;simp[execOp,aE,ax,ad,Result.andThen];refine ap _ _ (bc x v _ (I++ab) (mem_of_getElem? bm) perm_middle (by simp only[length_append,length_cons];omega) ⟨es,u,R,E.push e.born,u,aq,a0,al,ae.1,az,a2,a2,by rw[a_,map_append,aa,af,map_append]⟩ ?_ ?_)
  ·rcases ag with rfl|rfl<;>exact⟨F,F,F,by simp[setBlock],fun i bh=>ae.2 i bh⟩
  ·have:=run_entry_at (P:=P) _ r g R E es u e ae.1 aq aw al.2.1;rw[ai,a3]at this;exact this
end
section
variable {P:Program} {K V:Type} [DecidableEq K] {kv:K->Value} {vv:V->Value} {good:K->Prop}
variable {k:TypeId} (KV:GY P k kv good) {t e:TypeId} (ht:P.underlying t=some (.map k e)) {w:World} {g r:Nat} {hs:List (K×V)} {lf:List K} {x:K}
include KV ht
theorem YP{ty:TypeId}(h:gJ kv vv w g r hs lf)(az:jc good hs)(hk:good x)(a6:x∉lf):
 ∃w',(Builtin.delete_ #[t,k] ty #[.map (some g),kv x]).run P w= .ok (.tuple #[]) w'/\aU w g w'/\gJ kv vv w' g r (iQ hs x) lf:=by
 have am:=h.ne;have al:=h.map.lt;obtain⟨es,bc,bh,aa,ba,hb,af,ar,ao,an,ap,aq,ad⟩:=h;rcases GZ KV w az af hk with⟨ab,ag,bd⟩|⟨j,E,u,ab,ag,ac,ax,be,aw⟩
 ·refine⟨_,by simp[Builtin.delete_,run_underlying ht,MapKept.run_getObj_map hb,yM KV w _ hk,ag,MapKept.run_setObj_map _ hb,Result.andThen],yN _ _ _,⟨_,_,_,_,_,BQ al _,?_,ar,((yN w g _).block r am).trans ao,an,ap,aq,ad⟩⟩;unfold iQ;rw[ab];exact af
 ·have a1:j<es.size:=by have:=(List.getElem?_eq_some_iff.1 ac).1;simpa using this
  have ae:(es.eraseIdxIfInBounds j).toList=es.toList.eraseIdx j:=by
   simp only[Array.eraseIdxIfInBounds,dif_pos a1,Array.toList_eraseIdx]
  have R:(es.eraseIdxIfInBounds j).toList.Sublist es.toList:=by rw[ae];exact eraseIdx_sublist _ _
  refine⟨_,by simp[Builtin.delete_,run_underlying ht,MapKept.run_getObj_map hb,yM KV w _ hk,aw,MapKept.run_setObj_map _ hb,Result.andThen],yN _ _ _,⟨_,_,_,_,_,BQ al _,?_,?_,((yN w g _).block r am).trans ao,fun y I=>an y (R.mem I),ap,aq,?_⟩⟩
  ·unfold iQ;rw[ab];simp only[ae,KA,af]
  ·obtain⟨a8,a9,a_⟩:=ar;exact⟨fun y I=>a8 y (R.mem I),a9.sublist (R.map _),a_.sublist (R.map _)⟩
  ·rw[<-ad];unfold leftOf;rw[Array.toList_filter,Array.toList_filter,ae];have a4:aa.contains E.born=true:=by
    cases hs:aa.contains E.born with
    |true=>rfl
    |false=>
     exfalso;have a3:E∈(leftOf es aa).toList:=by
      unfold leftOf;rw[Array.toList_filter,mem_filter];refine⟨mem_of_getElem? ac,?_⟩;simpa using hs
     have a2:kv x∈lf.map kv:=by rw[<-ad,<-ax];exact mem_map.2 ⟨E,a3,F⟩
     obtain⟨y,I,a7⟩:=mem_map.1 a2;exact a6 (KV.inj _ _ a7▸I)
   congr 1
   have a5:es.toList=es.toList.take j++E::es.toList.drop (j+1):=by
    obtain⟨a0,aE⟩:=List.getElem?_eq_some_iff.1 ac;have ai:=(take_append_drop j es.toList).symm;rw[drop_eq_getElem_cons a0,aE]at ai;exact ai
   rw[eraseIdx_eq_take_drop_succ]
   conv=>rhs;rw[a5]
   rw[filter_append,filter_append,filter_cons];have:(!aa.contains E.born)=false:=by rw[a4];rfl
   simp only[this,Bool.false_eq_true,if_false]
end
end
end Go.Proofs.YtjlhhnkhcbpnjaaGreatDoor
