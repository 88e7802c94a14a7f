/- Laws that the row leans on; no condition. -/
import Derived.Test.YtjlhhnkhcbpnjaaGreatDoorJM8
import Derived.Lib.SlBytesConst
import Derived.Great.FillDense
import Derived.Lib.AppendZeros
import Derived.Lib.SlFresh
import Derived.Maps.Keyed
import Derived.Maps.RangeRun
import Derived.Maps.RangeWalk
namespace Go.Proofs.YtjlhhnkhcbpnjaaGreatDoor
open Go Go.RowKit List Tryz
set_option linter.unusedVariables false
set_option linter.unusedSimpArgs false
set_option maxHeartbeats 40000000
set_option maxRecDepth 100000
def rG(i:Nat)(x y:bZ):bZ:=
 if i=0 then{x with text:=y.text}
 else if i=1 then{x with member:=y.member}
 else if i=2 then{x with roles:=y.roles}
 else if i=3 then{x with label:=y.label}
 else if i=4 then{x with commit:=y.commit}
 else if i=5 then{x with epoch:=y.epoch}
 else if i=6 then{x with purpose:=y.purpose}
 else if i=7 then{x with reason:=y.reason}
 else if i=8 then{x with need:=y.need}
 else if i=9 then{x with mK:=y.mK}
 else if i=10 then{x with version:=y.version}
 else{x with count:=y.count}
theorem GI{n:Int}(h:0<=n/\n<=255):((kL n).toNat:Int)=n:=by grind [kL,UInt8.toNat_ofNat']
theorem Yd{act:Int}{b:ay}(h:zi b act):(dK act 6=true->0<=b.purpose/\b.purpose<=255)/\(0<=b.reason/\b.reason<=255)/\(dK act 8=true->0<=b.need/\b.need<=255)/\(0<=b.version/\b.version<=255):=by grind [pJ,dR,ay,zi,dK]
theorem Ye(N:Nat)(h:N<=4294967295):jM (gq (UInt32.ofNat N))=N:=by
 rw[Gs (x:=gq (UInt32.ofNat N)) F];have:=LA [] (UInt32.ofNat N) 0 F;rw[nil_append]at this;rw[this,UInt32.toNat_ofNat'];omega
theorem Yf(N:Nat)(h:N<=65536):fE (dG (UInt64.ofNat N)) 0=N:=by
 have:=Wy [] (UInt64.ofNat N) 0 F;rw[nil_append]at this;rw[this,UInt64.toNat_ofNat'];omega
theorem Yg{act:Int}{b:ay}(h:zi b act)(E:b.member.length=16)(hc:b.commit.length=32)(ai:b.roles.length=b.rn)(af:b.mK.length=b.hn)(u:oP b.mK)(i:Nat)(j:dK act i=true)(ag:i<12)(ad:i≠0)(x:bZ)(r:aj):iP jV i x (jo i b.p++r)=some (rG i x b.p,r):=by
 have sm:=h.small;obtain⟨aa,ab,ac,R⟩:=Yd h;rcases(by omega:i=1∨i=2∨i=3∨i=4∨i=5∨i=6∨i=7∨i=8∨i=9∨i=10∨i=11)with rfl|rfl|rfl|rfl|rfl|rfl|rfl|rfl|rfl|rfl|rfl
 ·simp only[iP,jo,rG,reduceIte,Nat.reduceEqDiff,ay.p];rw[zJ 16 _ _ E];rfl
 ·simp only[iP,jo,rG,reduceIte,Nat.reduceEqDiff,ay.p];unfold Bj;rw[cons_append,zK];have hn:(UInt8.ofNat b.roles.length).toNat=b.roles.length:=by rw[UInt8.toNat_ofNat'];have:=sm.rn;omega
  show(kW rD _ [] _).map _=_;rw[hn,Po r b.roles [] (fun s hs=>by have:=sm.rs s hs;omega)];rfl
 ·simp only[iP,jo,rG,reduceIte,Nat.reduceEqDiff,ay.p];rw[Pn _ _ (by have:=sm.l;omega)];rfl
 ·simp only[iP,jo,rG,reduceIte,Nat.reduceEqDiff,ay.p];rw[zJ 32 _ _ hc];rfl
 ·simp only[iP,jo,rG,reduceIte,Nat.reduceEqDiff,ay.p];rw[zJ 4 _ _ F];show some (({x with epoch:=_}:bZ),r)=some (({x with epoch:=b.epoch}:bZ),r);have ae:=sm.e;rw[Ye _ J,show((b.epoch.toNat:Nat):Int)=b.epoch by omega]
 ·simp only[iP,jo,rG,reduceIte,Nat.reduceEqDiff,ay.p];rw[cons_append,nil_append,zK];show some (({x with purpose:=_}:bZ),r)=some (({x with purpose:=b.purpose}:bZ),r);rw[GI (aa j)]
 ·simp only[iP,jo,rG,reduceIte,Nat.reduceEqDiff,ay.p];rw[cons_append,nil_append,zK];show some (({x with reason:=_}:bZ),r)=some (({x with reason:=b.reason}:bZ),r);rw[GI (ab)]
 ·simp only[iP,jo,rG,reduceIte,Nat.reduceEqDiff,ay.p];rw[cons_append,nil_append,zK];show some (({x with need:=_}:bZ),r)=some (({x with need:=b.need}:bZ),r);rw[GI (ac j)]
 ·simp only[iP,jo,rG,reduceIte,Nat.reduceEqDiff,ay.p];unfold Bl;rw[cons_append,zK];have hn:(UInt8.ofNat b.mK.length).toNat=b.mK.length:=by rw[UInt8.toNat_ofNat'];have:=sm.hn;omega
  show(kW (fK 16) _ [] _).map _=_;rw[hn,Pq r b.mK [] u];rfl
 ·simp only[iP,jo,rG,reduceIte,Nat.reduceEqDiff,ay.p];rw[cons_append,nil_append,zK];show some (({x with version:=_}:bZ),r)=some (({x with version:=b.version}:bZ),r);rw[GI R]
 ·simp only[iP,jo,rG,reduceIte,Nat.reduceEqDiff,ay.p];unfold NG;rw[zJ 8 _ _ F];have hk:=sm.c;have I:jV (dG (UInt64.ofNat b.count.toNat))=b.count:=by
   unfold jV;rw[Yf _ J,if_pos J];omega
  show some (({x with count:=jV (dG (UInt64.ofNat b.count.toNat))}:bZ),r)=some (({x with count:=b.count}:bZ),r);rw[I]
theorem Qp{act:Int}{b:ay}(h:zi b act)(I:b.member.length=16)(hc:b.commit.length=32)(R:b.roles.length=b.rn)(E:b.mK.length=b.hn)(u:oP b.mK):∀(s:List Nat) (x:bZ),(∀i∈s,dK act i=true/\i<12/\i≠0)->jC jV s x (fG s b.p)=some (s.foldl (fun x i=>rG i x b.p) x,[])
 |[],x,_=>rfl
 |i::s,x,hs=>by
  have hi:=hs i aF;have ab:fG (i::s) b.p=jo i b.p++fG s b.p:=F;rw[ab,jC,Yg h I hc R E u i hi.1 hi.2.1 hi.2.2];exact Qp h I hc R E u s _ (fun j aa=>hs j (by simp[aa]))
theorem Qq{act:Int}{b:ay}(h:zi b act)(I:b.roles.length=b.rn)(E:b.mK.length=b.hn):(gy act).foldl (fun x i=>rG i x b.p) kD=b.p:=by
 have z:=h.zeros;have j:dK act 2=false->b.roles=[]:=fun q=>length_eq_zero_iff.1 (by rw[I];exact z.r q);have u:dK act 9=false->b.mK=[]:=fun q=>length_eq_zero_iff.1 (by rw[E];exact z.h q);rcases wo h.uZ with rfl|rfl|rfl|rfl|rfl|rfl|rfl|rfl|rfl|rfl|rfl|rfl
 ·show(⟨b.text,List.replicate 16 0,[],⟨#[]⟩,List.replicate 32 0,0,0,0,0,0,0,[]⟩:bZ)=⟨b.text,b.member,b.roles,b.label,b.commit,b.epoch,b.purpose,b.reason,b.need,b.version,b.count,b.mK⟩;rw[z.m F,j F,z.l F,z.c F,z.e F,z.p F,z.a F,z.n F,z.v F,z.k F,u F]
 ·show(⟨⟨#[]⟩,b.member,b.roles,⟨#[]⟩,List.replicate 32 0,0,0,0,0,0,0,[]⟩:bZ)=⟨b.text,b.member,b.roles,b.label,b.commit,b.epoch,b.purpose,b.reason,b.need,b.version,b.count,b.mK⟩;rw[z.t F,z.l F,z.c F,z.e F,z.p F,z.a F,z.n F,z.v F,z.k F,u F]
 ·show(⟨⟨#[]⟩,b.member,[],⟨#[]⟩,List.replicate 32 0,0,0,0,0,0,0,[]⟩:bZ)=⟨b.text,b.member,b.roles,b.label,b.commit,b.epoch,b.purpose,b.reason,b.need,b.version,b.count,b.mK⟩;rw[z.t F,j F,z.l F,z.c F,z.e F,z.p F,z.a F,z.n F,z.v F,z.k F,u F]
 ·show(⟨⟨#[]⟩,List.replicate 16 0,[],b.label,b.commit,0,0,0,0,0,0,[]⟩:bZ)=⟨b.text,b.member,b.roles,b.label,b.commit,b.epoch,b.purpose,b.reason,b.need,b.version,b.count,b.mK⟩;rw[z.t F,z.m F,j F,z.e F,z.p F,z.a F,z.n F,z.v F,z.k F,u F]
 ·show(⟨⟨#[]⟩,List.replicate 16 0,[],⟨#[]⟩,b.commit,b.epoch,0,0,0,0,0,[]⟩:bZ)=⟨b.text,b.member,b.roles,b.label,b.commit,b.epoch,b.purpose,b.reason,b.need,b.version,b.count,b.mK⟩;rw[z.t F,z.m F,j F,z.l F,z.p F,z.a F,z.n F,z.v F,z.k F,u F]
 ·show(⟨⟨#[]⟩,List.replicate 16 0,[],⟨#[]⟩,b.commit,b.epoch,b.purpose,0,0,0,0,[]⟩:bZ)=⟨b.text,b.member,b.roles,b.label,b.commit,b.epoch,b.purpose,b.reason,b.need,b.version,b.count,b.mK⟩;rw[z.t F,z.m F,j F,z.l F,z.a F,z.n F,z.v F,z.k F,u F]
 ·show(⟨⟨#[]⟩,List.replicate 16 0,[],⟨#[]⟩,List.replicate 32 0,0,0,b.reason,0,0,0,[]⟩:bZ)=⟨b.text,b.member,b.roles,b.label,b.commit,b.epoch,b.purpose,b.reason,b.need,b.version,b.count,b.mK⟩;rw[z.t F,z.m F,j F,z.l F,z.c F,z.e F,z.p F,z.n F,z.v F,z.k F,u F]
 ·show(⟨⟨#[]⟩,List.replicate 16 0,[],⟨#[]⟩,b.commit,0,0,0,0,0,0,[]⟩:bZ)=⟨b.text,b.member,b.roles,b.label,b.commit,b.epoch,b.purpose,b.reason,b.need,b.version,b.count,b.mK⟩;rw[z.t F,z.m F,j F,z.l F,z.e F,z.p F,z.a F,z.n F,z.v F,z.k F,u F]
 ·show(⟨⟨#[]⟩,List.replicate 16 0,[],⟨#[]⟩,b.commit,b.epoch,0,0,b.need,0,0,b.mK⟩:bZ)=⟨b.text,b.member,b.roles,b.label,b.commit,b.epoch,b.purpose,b.reason,b.need,b.version,b.count,b.mK⟩;rw[z.t F,z.m F,j F,z.l F,z.p F,z.a F,z.v F,z.k F]
 ·show(⟨⟨#[]⟩,List.replicate 16 0,[],⟨#[]⟩,b.commit,b.epoch,0,0,0,0,0,b.mK⟩:bZ)=⟨b.text,b.member,b.roles,b.label,b.commit,b.epoch,b.purpose,b.reason,b.need,b.version,b.count,b.mK⟩;rw[z.t F,z.m F,j F,z.l F,z.p F,z.a F,z.n F,z.v F,z.k F]
 ·show(⟨⟨#[]⟩,List.replicate 16 0,[],⟨#[]⟩,b.commit,0,0,0,0,b.version,0,[]⟩:bZ)=⟨b.text,b.member,b.roles,b.label,b.commit,b.epoch,b.purpose,b.reason,b.need,b.version,b.count,b.mK⟩;rw[z.t F,z.m F,j F,z.l F,z.e F,z.p F,z.a F,z.n F,z.k F,u F]
 ·show(⟨⟨#[]⟩,List.replicate 16 0,[],⟨#[]⟩,b.commit,0,0,0,0,b.version,b.count,[]⟩:bZ)=⟨b.text,b.member,b.roles,b.label,b.commit,b.epoch,b.purpose,b.reason,b.need,b.version,b.count,b.mK⟩;rw[z.t F,z.m F,j F,z.l F,z.e F,z.p F,z.a F,z.n F,u F]
theorem Qr{act:Int}(h:iI act=true):(act=1/\gy act=[0])∨(∀i∈gy act,i<12/\i≠0):=by
 rcases wo h with rfl|rfl|rfl|rfl|rfl|rfl|rfl|rfl|rfl|rfl|rfl|rfl
 ·exact .inl ⟨F,F⟩
 all_goals exact .inr aX
theorem Yh{act:Int}(h:iI act=true):(gy act).length<=4:=by
 rcases wo h with rfl|rfl|rfl|rfl|rfl|rfl|rfl|rfl|rfl|rfl|rfl|rfl<;>decide
theorem Qs{act:Int}{b:ay}(h:zi b act)(ag:b.member.length=16)(hc:b.commit.length=32)(aa:b.roles.length=b.rn)(I:b.mK.length=b.hn)(E:oP b.mK):(fG (gy act) b.p).length<=32768:=by
 rcases Qr h.uZ with⟨ad,j⟩|j
 ·rw[j];show(b.text.data.toList++[]).length<=_;rw[append_nil,Array.length_toList];exact h.t
 ·have hf:∀i∈gy act,(jo i b.p).length<=600:=by
   intro i u;obtain⟨ae,ac⟩:=j i u;rcases(by omega:i=1∨i=2∨i=3∨i=4∨i=5∨i=6∨i=7∨i=8∨i=9∨i=10∨i=11)with rfl|rfl|rfl|rfl|rfl|rfl|rfl|rfl|rfl|rfl|rfl
   ·show b.member.length<=_;omega
   ·exact Qe h.small aa
   ·show(kU b.label).length<=_;rw[DU];have:=h.small.l;omega
   ·show b.commit.length<=_;omega
   ·show(gq _).length<=_;simp[gq]
   ·show[kL _].length<=_;simp
   ·show[kL _].length<=_;simp
   ·show[kL _].length<=_;simp
   ·exact Qg h.small I E
   ·show[kL _].length<=_;simp
   ·show(dG _).length<=_;rw[Bc];decide
  have R:=Ee (l:=(gy act).map fun i=>jo i b.p) (k:=600) (by
   intro x ab;obtain⟨i,u,rfl⟩:=mem_map.1 ab;exact hf i u)
  rw[length_map]at R;have:=Yh h.uZ;unfold fG;have af:(gy act).length*600<=4*600:=Nat.mul_le_mul_right _ this;omega
theorem Yi{act:Int}{b:ay}(R:jS act b=0)(aa:b.member.length=16)(hc:b.commit.length=32)(u:b.roles.length=b.rn)(j:b.mK.length=b.hn)(I:oP b.mK):kE jV act (fG (gy act) b.p)=(b.p,0):=by
 have h:=Ed R;have ab:jC jV (gy act) kD (fG (gy act) b.p)=some (b.p,[]):=by
  rcases Qr h.uZ with⟨ac,E⟩|E
  ·have hf:=Qq h u j;rw[E]at hf⊢;rw[<-hf];show some (({kD with text:=⟨(b.text.data.toList++[]).toArray⟩}:bZ),([]:aj))=some (({kD with text:=b.text}:bZ),[]);rw[append_nil]
  ·have hs:∀i∈gy act,dK act i=true/\i<12/\i≠0:=fun i hi=>⟨by
    rw[<-JR h.uZ]at hi;exact(mem_filter.1 hi).2,E i hi⟩
   rw[Qp h aa hc u j I (gy act) kD hs,Qq h u j]
 unfold kE;rw[if_neg (by rw[h.uZ];simp),if_neg (by have:=Qs h aa hc u j I;omega),ab];show(if 0<([]:aj).length then _ else _)=_;rw[if_neg aF,<-Gv u j,if_pos R]
theorem Yj(f g:aj->Int)(i:Nat)(j:i<11)(x:bZ)(l:aj):iP f i x l=iP g i x l:=by
 rcases(by omega:i=0∨i=1∨i=2∨i=3∨i=4∨i=5∨i=6∨i=7∨i=8∨i=9∨i=10)with rfl|rfl|rfl|rfl|rfl|rfl|rfl|rfl|rfl|rfl|rfl<;>simp only[iP,reduceIte,Nat.reduceEqDiff]
theorem Qu(f g:aj->Int):∀(s:List Nat) (x:bZ) (l:aj),(∀i∈s,i<11)->jC f s x l=jC g s x l
 |[],_,_,_=>rfl
 |i::s,x,l,h=>by
  rw[jC,jC,Yj f g i (h i aF)];cases iP g i x l with
  |none=>rfl
  |some p=>exact Qu f g s p.1 p.2 (fun j hj=>h j (by simp[hj]))
theorem Yk{x:bZ}{m n:Int}(j:dR m 0 65536=true)(hn:dR n 0 65536=true):uh 12 {x with count:=m}=uh 12 {x with count:=n}/\uh 12 {x with count:=m}≠0:=by
 have E:∀k:Int,nX (({x with count:=k}:bZ).r) (lT 12)=nX (({x with count:=0}:bZ).r) (lT 12):=fun k=>by
  rfl
 have u:∀k:Int,dR k 0 65536=true->pJ 12 (({x with count:=k}:bZ).r)=true:=fun k hk=>by
  unfold pJ;rw[show(({x with count:=k}:bZ).r).count=k from F,hk,Bool.or_true]
 have key:∀k:Int,dR k 0 65536=true->uh 12 {x with count:=k}=if nX (({x with count:=0}:bZ).r) (lT 12)then 2
  else if decide (32768<x.text.size)||(decide (16<x.roles.length)||decide (32<x.mK.length))then 5
  else if vV x.roles != 0 then vV x.roles else if dK 12 3&& !jK x.label.data.toList then 6 else 4:=fun k hk=>by
  unfold uh jS;rw[E k,u k hk];rfl
 rw[key m j,key n hn];refine⟨F,?_⟩;split
 ·decide
 ·split
  ·decide
  ·split
   ·rename_i h;simpa using h
   ·split<;>decide
theorem Qv(f:aj->Int)(l:aj):jC f [10,11,4] kD l=(kV l).bind fun p=>(fK 8 p.2).bind fun q=>(fK 32 q.2).map fun u=>(({({kD with version:=(p.1:Int),commit:=u.1}:bZ)with count:=f q.1}:bZ),u.2):=by
 show((kV l).map _).bind _=_;cases kV l with
 |none=>rfl
 |some p=>
  show(((fK 8 p.2).map _).map _).bind _=(fK 8 p.2).bind _;cases fK 8 p.2 with
  |none=>rfl
  |some q=>
   show(((fK 32 q.2).map _).bind _)=(fK 32 q.2).map _;cases fK 32 q.2<;>rfl
theorem Qw{n:Nat}{l:aj}{p:aj×aj}(h:fK n l=some p):p.1.length=n:=by grind [fK]
theorem Qx(act:Int)(l:aj):kE jV act l=kE kF act l:=by
 unfold kE;by_cases ha:iI act=false
 ·rw[if_pos ha,if_pos ha]
 ·rw[if_neg ha,if_neg ha];by_cases j:32768<l.length
  ·rw[if_pos j,if_pos j]
  ·rw[if_neg j,if_neg j];by_cases R:act=12
   ·subst R;show(match jC jV [10,11,4] kD l with|none=>_|some (x,rest)=>_)=(match jC kF [10,11,4] kD l with|none=>_|some (x,rest)=>_);rw[Qv,Qv];cases kV l with
    |none=>rfl
    |some p=>
     simp only[Option.bind_some];cases af:fK 8 p.2 with
     |none=>rfl
     |some q=>
      simp only[Option.bind_some];cases fK 32 q.2 with
      |none=>rfl
      |some u=>
       simp only[Option.map_some];by_cases E:0<u.2.length
       ·rw[if_pos E,if_pos E]
       ·rw[if_neg E,if_neg E];have ag:=Qw af;have ac:jM q.1=fE q.1 0:=by
         have:=JO (l:=q.1) (p:=0) J;rw[drop_zero,take_of_length_le J]at this;exact this
        by_cases hc:fE q.1 0<=4611686018427387904
        ·have I:jV q.1=kF q.1:=by
          unfold jV kF;rw[if_pos hc,ac,DW J]
         rw[I]
        ·have I:dR (jV q.1) 0 65536=true:=by
          unfold jV dR;rw[if_neg hc];decide
         have ad:dR (kF q.1) 0 65536=true:=by
          have j3:=JQ q.1 0;unfold kF dR kK;rw[ac,IntKind.wrap_i64];generalize fE q.1 0=M at*;simp only[Bool.or_eq_true,decide_eq_true_eq];omega
         obtain⟨aa,ab⟩:=Yk (x:={kD with version:=(p.1:Int),commit:=u.1}) I ad;rw[if_neg ab,if_neg (by rw[<-aa];exact ab),aa]
   ·have hs:∀i∈gy act,i<11:=by
     have ae:iI act=true:=by simpa using ha
     rcases wo ae with rfl|rfl|rfl|rfl|rfl|rfl|rfl|rfl|rfl|rfl|rfl|rfl
     all_goals first|decide|exact absurd F R
    rw[Qu jV kF (gy act) kD l hs]
structure aG where
 num:Int
 time:Int
 act:Int
 bI:aj
 key:aj
 prev:aj
 ba:aN
 bn:Nat
 bc:Nat
 body:aj
def aG.v(e:aG):aO:= .int .i64 e.num:: .int .i64 e.time:: .int .i64 e.act::(e.bI.map Y++(e.key.map Y++(e.prev.map Y++[.slice e.ba e.bn e.bc])))
structure aG.Ok(w:World)(e:aG):Prop where
 ha:e.bI.length=16
 hk:e.key.length=16
 hp:e.prev.length=32
 hb:e.body.length=e.bn
 hbc:e.bn<=e.bc
 bE:e.bn<=140737488355328
 hn0:e.ba=none->e.bn=0/\e.bc=0
 hcl:aK w e.ba (e.body.map Y)
theorem aG.Ok.ext{w w':World}{e:aG}(h:e.Ok w)(k:X w w'):e.Ok w':=⟨h.ha,h.hk,h.hp,h.hb,h.hbc,h.bE,h.hn0,h.hcl.ext k⟩
theorem aG.len{w:World}{e:aG}(h:e.Ok w):e.v.length=68:=by unfold aG.v;simp[h.ha,h.hk,h.hp]
theorem cZ:iH prog 34 68:=⟨⟨_,underlying34,F⟩,au⟩
theorem aG.aL(e:aG):e.v[0]? =some (.int .i64 e.num):=F
theorem aG.rH(e:aG):e.v[1]? =some (.int .i64 e.time):=F
theorem aG.at2(e:aG):e.v[2]? =some (.int .i64 e.act):=F
theorem aG.tail(e:aG):e.v.drop 3=e.bI.map Y++(e.key.map Y++(e.prev.map Y++[.slice e.ba e.bn e.bc])):=F
theorem aG.Eh{w:World}{e:aG}(h:e.Ok w):(e.v.drop 3).take 16=e.bI.map Y:=by
 rw[aG.tail,take_left' (by rw[length_map,h.ha])]
theorem aG.F4{w:World}{e:aG}(h:e.Ok w):(e.v.drop 19).take 16=e.key.map Y:=by
 have:e.v.drop 19=(e.v.drop 3).drop 16:=by rw[drop_drop]
 rw[this,aG.tail,drop_left' (by rw[length_map,h.ha]),take_left' (by rw[length_map,h.hk])]
theorem aG.BH{w:World}{e:aG}(h:e.Ok w):(e.v.drop 35).take 32=e.prev.map Y:=by
 have:e.v.drop 35=((e.v.drop 3).drop 16).drop 16:=by rw[drop_drop,drop_drop]
 rw[this,aG.tail,drop_left' (by rw[length_map,h.ha]),drop_left' (by rw[length_map,h.hk]),take_left' (by rw[length_map,h.hp])]
theorem aG.zV{w:World}{e:aG}(h:e.Ok w):e.v[67]? =some (.slice e.ba e.bn e.bc):=by
 have:e.v[67]? =(((e.v.drop 3).drop 16).drop 16)[32]? :=by rw[drop_drop,drop_drop,List.getElem?_drop]
 rw[this,aG.tail,drop_left' (by rw[length_map,h.ha]),drop_left' (by rw[length_map,h.hk]),List.getElem?_append_right (by rw[length_map,h.hp];exact Nat.le_refl _),length_map,h.hp];rfl
noncomputable def dN(e:aG):Int:=if dR e.num 0 65535||dR e.time 0 1099511627776 then 4 else(kE kF e.act e.body).2
theorem Qy(e:aG)(w:World)(ae:e.Ok w):
 nW 96 #[.agg e.v.toArray] w (.int .i64 (dN e)):=by
 have am:=O ae;obtain⟨E,j⟩:=aC (dN e);rw[j];unfold dN at j;have a1:=O (aG.len ae);clear ae;go_enter func96,ntmps96;go_upto_region 1 with(fail);generalize iX:World.alloc w _=ai;have R:ah ai w.heap.size e.v 34:=by rw[<-iX];exact ah.aI F F
 have ad:X w ai:=by rw[<-iX];exact(X.refl w).alloc _
 have ax:=R.cell' (aG.aL e);have az:=R.cell' (aG.rH e);have aE:=R.cell' (aG.at2 e);have a0:=R.cell' (aG.zV am);obtain⟨EA,aa⟩:=aB ad (am.ext ad);clear iX R ad;by_cases u:dR e.num 0 65535=true
 ·rw[u,Bool.true_or,if_pos F]at j;subst j;have ab:(decide (e.num<0)||decide (65535<e.num))=true:=u;go_wp2_with (first|(go_at_call 155;refine(xg _ _ _ _).mono ?_;rintro x w' ⟨rfl,rfl⟩;rw[ab]));go_ret;exact⟨F,EA⟩
 have u:dR e.num 0 65535=false:=by simpa using u
 have ab:(decide (e.num<0)||decide (65535<e.num))=false:=u;rw[u,Bool.false_or]at j;by_cases I:dR e.time 0 1099511627776=true
 ·rw[if_pos I]at j;subst j;have ac:(decide (e.time<0)||decide (1099511627776<e.time))=true:=I;go_wp2_with (first|(go_at_call 155;refine(xg _ _ _ _).mono ?_;rintro x w' ⟨rfl,rfl⟩;first|rw[ab]|rw[ac]));go_ret;exact⟨F,EA⟩
 have I:dR e.time 0 1099511627776=false:=by simpa using I
 have ac:(decide (e.time<0)||decide (1099511627776<e.time))=false:=I;rw[if_neg (by rw[I];exact Bool.false_ne_true)]at j;have af:=XC e.act e.body e.ba e.bn e.bc ai aa.hb aa.hbc aa.bE aa.hcl;rw[Qx,j]at af;have an:=O af;clear af j u I;go_wp2_with (first|(go_at_call 155;refine(xg _ _ _ _).mono ?_;rintro x w' ⟨rfl,rfl⟩;first|rw[ab]|rw[ac]));refine an.mono ?_;rintro x a2 ⟨y,rfl,ag, -, -, -,ao⟩;obtain⟨ar,al⟩:=aB (show y.v.length=58 by unfold ay.v ay.t;simp[ag.hm,ag.hcm]) (EA.ext ao);clear ag ao an ax az aE a0;go_wp2_with (refine bg F _ _ _ F F F (ah.aI (vs:=dI.v) F F) eP fM (xs:=y.v) ar (lD y) ?_);intro a3 aw ap;have aq:=O (ap.ext (al.alloc _) al.size);clear aw ap;go_wp2_with fail;go_ret;exact⟨F,aq⟩
theorem Ei(e:aG)(w:World)(ae:e.Ok w):
 nW 78 #[.agg e.v.toArray] w (.int .i64 (dN e)):=by
 have am:=O ae;obtain⟨E,j⟩:=aC (dN e);rw[j];unfold dN at j;have a5:=O (aG.len ae);clear ae;go_enter func78,ntmps78;go_upto_region 1 with(fail);generalize iX:World.alloc w _=ai;have u:ah ai w.heap.size e.v 34:=by rw[<-iX];exact ah.aI F F
 have ad:X w ai:=by rw[<-iX];exact(X.refl w).alloc _
 have ax:=u.cell' (aG.aL e);have az:=u.cell' (aG.rH e);have aE:=u.cell' (aG.at2 e);have a0:=u.cell' (aG.zV am);obtain⟨EA,I⟩:=aB ad (am.ext ad);clear iX u ad;unfold dR at j;by_cases R:e.num<0
 ·rw[if_pos (by simp;omega)]at j;have a1:decide (e.num<0)=true:=aQ R;subst j;go_wp2;go_ret;exact⟨F,EA⟩
 have a1:decide (e.num<0)=false:=aP R;by_cases aa:65536<=e.num
 ·rw[if_pos (by simp;omega)]at j;have a2:decide (65536<=e.num)=true:=aQ aa;subst j;go_wp2;go_ret;exact⟨F,EA⟩
 have a2:decide (65536<=e.num)=false:=aP aa;by_cases ab:e.time<0
 ·rw[if_pos (by simp;omega)]at j;have a3:decide (e.time<0)=true:=aQ ab;subst j;go_wp2;go_ret;exact⟨F,EA⟩
 have a3:decide (e.time<0)=false:=aP ab;by_cases ac:1099511627776<e.time
 ·rw[if_pos (by simp;omega)]at j;have a4:decide (1099511627776<e.time)=true:=aQ ac;subst j;go_wp2;go_ret;exact⟨F,EA⟩
 have a4:decide (1099511627776<e.time)=false:=aP ac;rw[if_neg (by simp;omega)]at j;have af:=GH e.act e.body e.ba e.bn e.bc ai I.hb I.hbc I.bE I.hcl;rw[j]at af;have an:=O af;clear af j R aa ab ac;go_wp2_with fail;refine an.mono ?_;rintro x a6 ⟨y,rfl,ag, -, -, -,ao⟩;obtain⟨ar,al⟩:=aB (show y.v.length=58 by unfold ay.v ay.t;simp[ag.hm,ag.hcm]) (EA.ext ao);clear ag ao an ax az aE a0;go_wp2_with (refine bg F _ _ _ F F F (ah.aI (vs:=dI.v) F F) eP fM (xs:=y.v) ar (lD y) ?_);intro a7 aw ap;have aq:=O (ap.ext (al.alloc _) al.size);clear aw ap;go_wp2_with fail;go_ret;exact⟨F,aq⟩
def iK:aj:=List.replicate 32 0
theorem Yl:iK.map Y=List.replicate 32 (.int .u8 0):=by simp[iK,Y]
theorem Ym:iK.length=32:=by simp[iK]
def Kw(p:aj×Int):Value:= .tuple #[.agg (p.1.map Y).toArray,.int .i64 p.2]
def iY(C T:Int)(j r2:aj):aO:= .int .i64 C:: .int .i64 T::(j.map Y++r2.map Y)
theorem GK(C T:Int){j r2:aj}(u:j.length=32)(E:r2.length=32):(iY C T j r2).length=66:=by simp[iY,u,E]
theorem Yn(C T:Int){j r2:aj}(u:j.length=32):((iY C T j r2).drop 2).take 32=j.map Y:=by
 simp[iY,<-u]
theorem Yo(C T:Int){j r2:aj}(u:j.length=32)(E:r2.length=32):((iY C T j r2).drop 34).take 32=r2.map Y:=by simp_all [iY,Y,drop_succ_cons,drop_left',take_of_length_le]
theorem BI:iH prog 46 66:=⟨⟨_,underlying46,F⟩,au⟩
theorem bT.yJ{w0 W w w':World}{L:List Nat}{row:Option Nat}(h:bT w0 W L [] w)(k:w.grownBy w' row)(E:∀g,row=some g->g∉L)(u:∀g,row=some g->w0.heap.size<=g):bT w0 W L [] w':=
 ⟨h.base.grown k u,⟨Nat.le_trans h.kept.1 k.size,h.kept.2.1,fun g j=>(k.block g (Nat.lt_of_lt_of_le (h.kept.2.1 g j) h.kept.1) (fun e=>E g e.symm j)).trans (h.kept.2.2 g j)⟩,fun x I=>by cases I⟩
theorem Yp(ys:aO)(T:TypeId)(w:World)(z:Nat×Nat):aK (w.alloc (.cells ys.toArray T z)) (some ⟨w.heap.size,0,none⟩) ys:=by
 refine .inr ⟨w.heap.size,0,F,fun i u E=> ?_⟩;have j:(w.alloc (.cells ys.toArray T z)).heap[w.heap.size]? =some (.cells ys.toArray T z):=by
  show(w.heap.push _)[w.heap.size]? =_;simp
 rw[Nat.zero_add];simp only[World.cell?,j];simpa using E
def ny(e:aG):aj:=[75,87,69,49]++dG (UInt64.ofNat e.num.toNat)++dG (UInt64.ofNat e.time.toNat)++[UInt8.ofNat e.act.toNat]++e.bI++e.key++e.prev++gq (UInt32.ofNat e.bn)++e.body
theorem qy{e:aG}{w:World}(h:e.Ok w)(j:dN e=0):0<=e.num/\e.num<=65535/\0<=e.time/\e.time<=1099511627776/\1<=e.act/\e.act<=12/\e.bn<=32768:=by
 unfold dN at j;by_cases b:(dR e.num 0 65535||dR e.time 0 1099511627776)=true
 ·rw[if_pos b]at j;omega
 rw[if_neg b]at j;unfold dR at b;simp only[Bool.or_eq_true,decide_eq_true_eq,not_or]at b;unfold kE at j;by_cases ha:iI e.act=false
 ·rw[if_pos ha]at j;simp at j
 rw[if_neg ha]at j;unfold iI at ha;simp only[Bool.not_eq_false,Bool.and_eq_true,decide_eq_true_eq]at ha;by_cases u:32768<e.body.length
 ·rw[if_pos u]at j;simp at j
 rw[h.hb]at u;omega
theorem GL{e:aG}{w:World}(h:e.Ok w):(ny e).length=89+e.bn:=by
 simp[ny,Bc,h.ha,h.hk,h.hp,h.hb];simp[gq];omega
theorem Qz(e:aG)(w:World)(ac:e.Ok w)(aq:dN e=0):
 Calls prog 104 #[.agg e.v.toArray] w fun x w'=>∃v,x= .returned v/\w'.ownsRow w.heap.size 5 1 v (89+e.bn) ((ny e).map Y)/\X w w':=by
 obtain⟨bv,r2,bw,cH,cI,cJ,bx⟩:=qy ac aq;have cM:=O (aG.len ac);have a0:=O ac.ha;have a1:=O ac.hk;have a2:=O ac.hp;have b8:=O ac.hb;obtain⟨b',ca,cb,a3⟩:=bU (aG.Eh ac) (aG.F4 ac) (aG.BH ac) (aG.zV ac);have b9:=O ac.hn0;have uE:=O ac.hcl;obtain⟨bt,bz,act,bI,key,af,an,bn,ao,ap⟩:=e;have bl:=aG.aL ⟨bt,bz,act,bI,key,af,an,bn,ao,ap⟩;have bm:=aG.rH ⟨bt,bz,act,bI,key,af,an,bn,ao,ap⟩;have bo:=aG.at2 ⟨bt,bz,act,bI,key,af,an,bn,ao,ap⟩;simp only[ny];generalize aG.v _=R at*;simp only at bv r2 bw cH cI cJ bx bl bm bo cM a0 a1 a2 b8 b' ca cb a3 b9 uE;clear ac aq;obtain⟨i,rfl⟩:=Int.eq_ofNat_of_zero_le bv;obtain⟨z,rfl⟩:=Int.eq_ofNat_of_zero_le bw;have ct:uU (i:Int)=i:=by unfold uU;rw[if_neg J];rfl
 have cv:uU (z:Int)=z:=by unfold uU;rw[if_neg J];rfl
 obtain⟨bj,bk⟩:=aB (fun g w' h=>OO [75,87,69,49] (some ⟨g,0,none⟩) 4 4 (i:Int) w' F J h (fun h=>by cases h)) (fun a' c' w' h aq=>OO ([75,87,69,49]++dG (UInt64.ofNat i)) a' 12 c' (z:Int) w' F J h aq);rw[ct]at bj;rw[cv]at bk;obtain⟨aa,br⟩:=aC (UInt8.ofNat act.toNat);have c_:IntKind.u8.wrap act=(aa.toNat:Int):=by
  rw[<-br,UInt8.toNat_ofNat',IntWalk.u8_in _ J];omega
 obtain⟨cL,bp⟩:=aC (UInt32.ofNat bn);have c9:IntKind.u32.wrap (bn:Int)=(cL.toNat:Int):=by
  rw[<-bp,UInt32.toNat_ofNat',IntWalk.u32_in _ J];omega
 simp only[Int.toNat_natCast];rw[br,bp];have cR:=O bx;clear ct cv bv r2 bw cH cI cJ bx br bp;go_enter func104,ntmps104;go_upto_region 1 with(fail);generalize iX:World.alloc w _=al;have cG:ah al w.heap.size R 34:=by rw[<-iX];exact ah.aI F F
 have cm:X w al:=by rw[<-iX];exact(X.refl w).alloc _
 obtain⟨ag,EA,cN,cP,cQ⟩:=dM cG cm bl bm bo;clear iX cG cm bl bm bo;obtain⟨C,iB,aJ,bP⟩:=iw (show bT w al [w.heap.size] [] al from bT.jA EA (dV.one ag.lt));have cj:∀j,C j->j.cell? ⟨w.heap.size,0,none⟩=some (.int .i64 (i:Int)):=fun j ab=>(((iB j).1 ab).blk ag aF).cell' cN;have ck:∀j,C j->j.cell? ⟨w.heap.size,1,none⟩=some (.int .i64 (z:Int)):=fun j ab=>(((iB j).1 ab).blk ag aF).cell' cP;refine fJ fun Z=> ?_;refine aA 2 ?_;refine dA 3 (cj) ?_;refine aA 5 ?_;refine dA 6 (ck) ?_;generalize al.drew=wD at*;have da:al.heap.size<=wD.heap.size:=((iB wD).1 Z).kept.1;have c0:=fun(w:World) (C:Array Value) (n c:Nat)=>Lib.run_convert_bytes_const (P:=prog) w 32 5 C n c underlying32 underlying5;refine aZ 0 ?_;intro I u;go_wp2_with fail;refine u _ _ (aJ _ _ Z ((X.refl wD).alloc _)) ?_;clear u I;refine aH ?_;refine aZ 1 ?_;intro I u;go_wp2_with fail;refine u _ _ (aJ _ _ Z ((X.refl wD).alloc _)) ?_;clear u I c0;have b2:=O (show aK (wD.alloc (.cells #[Value.int .u8 75,Value.int .u8 87,Value.int .u8 69,Value.int .u8 49] 5 (4,5))) (some ⟨wD.heap.size,0,none⟩) (List.map Y [75,87,69,49])from Yp ([75,87,69,49].map Y) 5 wD (4,5));have co:=aJ _ _ Z ((X.refl wD).alloc (.cells #[Value.int .u8 75,Value.int .u8 87,Value.int .u8 69,Value.int .u8 49] 5 (4,5)));clear Z;generalize wD.alloc (.cells #[Value.int .u8 75,Value.int .u8 87,Value.int .u8 69,Value.int .u8 49] 5 (4,5))=wE at*;generalize wD.heap.size=g4 at*;refine aH ?_;have Z:=co;clear co;refine aZ 4 ?_;intro I u;go_wp2_with fail;refine(bj g4 wE b2).mono ?_;rintro e wF ⟨db,rfl,cy,eF⟩
 obtain⟨cS,k1,rfl, -, -,cw,cr⟩:=nT cy;have hF:=aJ _ _ Z eF;go_wp2_with fail;refine u _ _ hF ?_;clear u I Z eF cy bj b2;obtain⟨b1,cc⟩:=aB cr cw;clear cr cw;refine aH ?_;refine aZ 7 ?_;intro I u;go_wp2_with fail;refine(bk cS k1 wF b1 cc).mono ?_;rintro e wG ⟨v2,rfl,cz,eG⟩;have a9:=aJ _ _ hF eG;have bu:=mg cz (show w.heap.size+1<=wF.heap.size from by have:=ag.lt;have:=((iB wF).1 hF).kept.1;omega);obtain⟨c7,k2,rfl, -, -,cY,cX⟩:=nT bu;go_wp2_with fail;refine u _ _ a9 ?_;clear u I hF eG cz b1 cc bk cY cX;have ce:=O bu;clear bu;refine aH ?_;have Z:=a9;clear a9;refine aA 8 ?_;have ae:=O (((iB wG).1 Z).blk ag aF);have b5:=O ((iB wG).1 Z).base;clear Z iB aJ bP cj ck ag EA;refine dH ?_;go_wp2;obtain⟨C,iB,aJ,bP⟩:=iw (show bT w wG [w.heap.size] [] wG from bT.jA b5 (dV.one ae.lt));have e2:∀j,C j->aK j (some ⟨w.heap.size,3,none⟩) (bI.map Y):=fun j ab=>by
  have:=aK.vP (((iB j).1 ab).blk ae aF) 3 16;rwa[b'.out]at this
 have cl:∀j,C j->aK j (some ⟨w.heap.size,19,none⟩) (key.map Y):=fun j ab=>by
  have:=aK.vP (((iB j).1 ab).blk ae aF) 19 16;rwa[ca.out]at this
 have am:∀j,C j->j.cell? ⟨w.heap.size,2,none⟩=some (.int .i64 act):=fun j ab=>(((iB j).1 ab).blk ae aF).cell' cQ;refine fJ fun Z=> ?_;refine aA 0 ?_;refine aA 1 ?_;refine dA 2 (am) ?_;refine aA 3 ?_;refine aA 6 ?_;refine aA 7 ?_;refine aA 9 ?_;refine aA 10 ?_;have OH:=O (dQ ce (X.refl wG).drew);have cV:w.heap.size+1<=wG.drew.heap.size:=by have:=ae.lt;have:=((iB _).1 Z).kept.1;omega
 clear ce;generalize wG.drew=wH at*;refine aZ 4 ?_;intro I u;go_wp2_with fail;have a_:=aJ _ _ Z ((X.refl wH).alloc (.cells #[.int .u8 (aa.toNat:Int)] 5));obtain⟨b4,a4⟩:=aB (show aK (wH.alloc (.cells #[.int .u8 (aa.toNat:Int)] 5)) (some ⟨wH.heap.size,0,none⟩) ([aa].map Y)from aK.tO (T:=5) (ah.aI F F)) (dQ OH ((X.refl wH).alloc (.cells #[.int .u8 (aa.toNat:Int)] 5)));have be:w.heap.size+1<=(wH.alloc (.cells #[.int .u8 (aa.toNat:Int)] 5)).heap.size:=by have:=((X.refl wH).alloc (.cells #[.int .u8 (aa.toNat:Int)] 5)).size;omega
 refine u _ _ a_ ?_;clear u I Z OH cV;generalize wH.alloc (.cells #[.int .u8 (aa.toNat:Int)] 5)=dd at*;generalize wH.heap.size=g5 at*;refine aH ?_;refine aZ 5 ?_;intro I u;go_wp2_with (at_builtin;refine sH F _ _ F (w.heap.size+1) (ys:=[aa]) F F a4 F (fun h=>by cases h) b4 J be ?_);intro v3 ax cA g4;have a5:=O (show ax.ownsRow (w.heap.size+1) 5 1 v3 21 (([75,87,69,49]++dG (UInt64.ofNat i)++dG (UInt64.ofNat z)++[aa]).map Y)from by simpa using cA);clear cA;have R:=fun E h=>pG a4 E h;have ar:C ax:=(iB _).2 (((iB _).1 a_).yJ g4 (fun E h=>by have:=R E h;simp;omega) (fun E h=>by have:=R E h;omega));have bh:w.heap.size+1<=ax.heap.size:=Nat.le_trans be g4.size;go_wp2_with fail;refine u _ _ ar ?_;clear u I a_ g4 R a4 be b4;refine aH ?_;refine aZ 8 ?_;intro I u;go_wp2_with (at_builtin;refine sH F _ _ F (w.heap.size+1) (ys:=bI) F F a5 a0 (fun h=>by cases h) (e2 ax ar) J bh ?_);intro c2 az cC g5;have a6:=O (show az.ownsRow (w.heap.size+1) 5 1 c2 37 (([75,87,69,49]++dG (UInt64.ofNat i)++dG (UInt64.ofNat z)++[aa]++bI).map Y)from by simpa using cC);clear cC;have R:=fun E h=>pG a5 E h;have aw:C az:=(iB _).2 (((iB _).1 ar).yJ g5 (fun E h=>by have:=R E h;simp;omega) (fun E h=>by have:=R E h;omega));have cp:w.heap.size+1<=az.heap.size:=Nat.le_trans bh g5.size;go_wp2_with fail;refine u _ _ aw ?_;clear u I ar g5 R a5 bh;refine aH ?_;refine aZ 11 ?_;intro I u;go_wp2_with (at_builtin;refine sH F _ _ F (w.heap.size+1) (ys:=key) F F a6 a1 (fun h=>by cases h) (cl az aw) J cp ?_);intro c3 ad cD g6;have cf:=O (show ad.ownsRow (w.heap.size+1) 5 1 c3 53 (([75,87,69,49]++dG (UInt64.ofNat i)++dG (UInt64.ofNat z)++[aa]++bI++key).map Y)from by simpa using cD)
 clear cD;have R:=fun E h=>pG a6 E h;have ba:C ad:=(iB _).2 (((iB _).1 aw).yJ g6 (fun E h=>by have:=R E h;simp;omega) (fun E h=>by have:=R E h;omega));go_wp2_with fail;refine u _ _ ba ?_;clear u I aw g6 R a6 cp;refine aH ?_;have Z:=ba;clear ba;refine aA 12 ?_;have ai:=O (((iB ad).1 Z).blk ae aF);have b6:=O ((iB ad).1 Z).base;clear Z iB aJ bP e2 cl am ae b5;refine dH ?_;go_wp2;obtain⟨C,iB,aJ,bP⟩:=iw (show bT w ad [w.heap.size] [] ad from bT.jA b6 (dV.one ai.lt));have e2:∀j,C j->aK j (some ⟨w.heap.size,35,none⟩) (af.map Y):=fun j ab=>by
  have:=aK.vP (((iB j).1 ab).blk ai aF) 35 32;rwa[cb.out]at this
 have am:∀j,C j->j.cell? ⟨w.heap.size,67,none⟩=some (.slice an bn ao):=fun j ab=>(((iB j).1 ab).blk ai aF).cell' a3;refine fJ fun Z=> ?_;refine aA 0 ?_;refine aA 1 ?_;refine aA 2 ?_;refine aA 4 ?_;refine dA 5 (am) ?_;refine aA 6 ?_;refine aA 7 ?_;have a7:=O (dQ cf (X.refl ad).drew);have bi:w.heap.size+1<=ad.drew.heap.size:=by have:=ai.lt;have:=((iB _).1 Z).kept.1;omega
 clear cf;generalize ad.drew=c6 at*;refine aZ 3 ?_;intro I u;go_wp2_with (at_builtin;refine sH F _ _ F (w.heap.size+1) (ys:=af) F F a7 a2 (fun h=>by cases h) (e2 c6 Z) J bi ?_);intro c4 aE cE a8;have R:=fun E h=>pG a7 E h;have bc:C aE:=(iB _).2 (((iB _).1 Z).yJ a8 (fun E h=>by have:=R E h;simp;omega) (fun E h=>by have:=R E h;omega));have cq:w.heap.size+1<=aE.heap.size:=Nat.le_trans bi a8.size;have cg:=O (show aE.ownsRow (w.heap.size+1) 5 1 c4 85 (([75,87,69,49]++dG (UInt64.ofNat i)++dG (UInt64.ofNat z)++[aa]++bI++key++af).map Y)from by simpa using cE);clear cE;obtain⟨cT,k6,rfl, -, -,cx,cs⟩:=nT cg;obtain⟨b3,cd⟩:=aB cs cx;go_wp2_with fail;refine u _ _ bc ?_;clear u I Z a8 R a7 bi cs cx;refine aH ?_;refine aZ 8 ?_;intro I u;go_wp2_with fail;refine(Wv ([75,87,69,49]++dG (UInt64.ofNat i)++dG (UInt64.ofNat z)++[aa]++bI++key++af) cT 85 k6 cL aE (by simp[Bc,a0.out,a1.out,a2.out]) J b3 cd).mono ?_;rintro e b0 ⟨dc,rfl,cF,cn⟩;have ch:=O (mg cF cq);have bd:=aJ _ _ bc cn;clear cF cn b3 cd cg;go_wp2_with fail;refine u _ _ bd ?_;clear u I bc cq;refine aH ?_;have Z:=bd;clear bd;refine aA 9 ?_;have ci:=O (((iB b0).1 Z).blk ai aF);have b7:=O ((iB b0).1 Z).base;clear Z iB aJ bP e2 am ai b6;refine dH ?_;have c8:=ci.cell' a3;have CB:=uE.ext b7;have cW:w.heap.size+1<=b0.heap.size:=ci.lt;go_wp2_with (at_builtin;refine sH F _ _ F (w.heap.size+1) (ys:=ap) F F ch b8 b9 CB (by have:=cR.out;omega) cW ?_);intro c5 de c1 cU;have R:=fun E h=>pG ch E h;go_wp2_with fail;go_ret;refine⟨c5,F,mg (B:=w.heap.size+1) ?_ (Nat.le_succ _),b7.grown cU (fun E h=>by have:=R E h;omega)⟩
 simpa using c1
def jI(w w':World):Prop:=w.heap.size<=w'.heap.size/\∀(k:Nat) c e z,w.heap[k]? =some (.cells c e z)->∃j,w'.heap[k]? =some (.cells c e j)
theorem jI.refl(w:World):jI w w:=⟨Nat.le_refl _,fun k c e z h=>⟨z,h⟩⟩
theorem jI.trans{a b c:World}(h:jI a b)(k:jI b c):jI a c:=by grind [jI]
theorem jI.Ej{w w':World}(h:X w w'):jI w w':=⟨h.size,fun k c e z hk=>⟨z,(h.block k (Array.getElem?_eq_some_iff.1 hk).1).trans hk⟩⟩
theorem jI.cell{w w':World}(h:jI w w'){a:Addr}{v:Value}(hs:a.spot=none)(hc:w.cell? a=some v):w'.cell? a=some v:=by grind [jI,World.cell?]
theorem aK.rel{w w':World}{a:aN}{xs:aO}(h:aK w a xs)(k:jI w w'):aK w' a xs:=by
 rcases h with h|⟨b,off,ha,h⟩
 ·exact .inl h
 ·exact .inr ⟨b,off,ha,fun i u j=>k.cell F (h i u j)⟩
theorem Yq(t e:TypeId)(g n c:Nat)(cs:Array Value)(e2:TypeId)(z:Nat×Nat)(w:World){P:Program}(ht:P.underlying t=some (.slice e))(j:P.underlying e=some (.int .u8))(hb:w.heap[g]? =some (.cells cs e2 z)):
 (convert t t (.slice (some ⟨g,0,none⟩) n c)).run P w= .ok (.slice (some ⟨g,0,none⟩) n c) (w.freeze ⟨g,cs.size,none⟩ 1):=by
 have u:w.shape? g=some (e2,cs.size):=by
  unfold World.shape?;rw[hb]
 simp[convert,run_underlying ht,run_underlying j,markStringish,u]
theorem QA(w:World)(a:Addr):jI w (w.freeze a 1):=by
 unfold World.freeze;rw[if_neg aX];refine⟨aF,fun k c e z hk=> ?_⟩;simp only[Array.getElem?_modify];split
 ·rw[hk];simp
 ·exact⟨z,hk⟩
theorem Yr(w:World)(a:Addr):w.grownBy (w.freeze a 1) (some a.block):=by
 unfold World.freeze;rw[if_neg aX];refine⟨F,F,F,aF,fun k _ hk=> ?_⟩;simp only[Array.getElem?_modify];rw[if_neg (fun e=>hk (by rw[e]))]
section
open Go Go.RowKit
section
variable {P:Program} {ops:Array Oper} {Q:Exit->Act->World->Prop} {S:World->Prop}
theorem Yt{α β ao:Type}(R:α->World->Prop)(aa:β->World->Prop)(ab:ao->World->Prop)(ae:α->Nat)(af:β->Nat)(ag:ao->Nat)(a4:α->Option Nat)(a5:β->Option Nat)(a6:ao->Option Nat)(L:α->β->ao->Array Bool)(mk:α->β->ao->Act){f:Nat}
 (a1:∀x w w',R x w->jI w w'->R x w')(a2:∀x w w',aa x w->jI w w'->aa x w')(a3:∀x w w',ab x w->jI w w'->ab x w')
 (bd:∀x y z,0<ae x+af y+ag z->(Region.ready .any ops (L x y z)).all (fun i=>a4 x==some i||a5 y==some i||a6 z==some i)=true)
 (bc:∀x y z,0<ae x+af y+ag z->(Region.ready .any ops (L x y z)).isEmpty=false)
 (a7:∀x y z w i,a4 x=some i->S w->R x w->∃o r,ops.toList.drop i=o::r/\∀j:Exit->Act->World->Prop,(∀x' w',S w'->jI w w'->R x' w'->ae x'+1=ae x->L x' y z=(L x y z).setIfInBounds i true->j .normal (mk x' y z) w')->wpList P ops j [o] (mk x y z) w)
 (a8:∀x y z w i,a5 y=some i->S w->aa y w->∃o r,ops.toList.drop i=o::r/\∀j:Exit->Act->World->Prop,(∀ac w',S w'->jI w w'->aa ac w'->af ac+1=af y->L x ac z=(L x y z).setIfInBounds i true->j .normal (mk x ac z) w')->wpList P ops j [o] (mk x y z) w)
 (a9:∀x y z w i,a6 z=some i->S w->ab z w->∃o r,ops.toList.drop i=o::r/\∀j:Exit->Act->World->Prop,(∀ad w',S w'->jI w w'->ab ad w'->ag ad+1=ag z->L x y ad=(L x y z).setIfInBounds i true->j .normal (mk x y ad) w')->wpList P ops j [o] (mk x y z) w)
 (a_:∀x y z w,ae x=0->af y=0->ag z=0->S w->R x w->aa y w->ab z w->wpAnyH P .any ops Q S f (L x y z) (mk x y z) w):
 ∀n x y z w,ae x+af y+ag z=n->S w->R x w->aa y w->ab z w->wpAnyH P .any ops Q S (f+n) (L x y z) (mk x y z) w:=by
 intro n;induction n with
 |zero=>intro x y z w hn;exact a_ x y z w J J J
 |succ n ax=>
  intro x y z w hn ap aq ar aw;have az:=bc x y z J;have aE:=bd x y z J;rw[all_eq_true]at aE;refine wpAnyH_all F (by intro h;rw[h]at az;simp at az) fun i ba=> ?_;have u:=aE i ba;simp only[Bool.or_eq_true,beq_iff_eq]at u;rcases u with(u|u)|u
  ·obtain⟨o,r,am,an⟩:=a7 x y z w i u ap aq;exact mZ (jy am) (an _ fun x' w' I E ai a0 al=>⟨I,by rw[<-al];exact ax x' y z w' J I ai (a2 _ _ _ ar E) (a3 _ _ _ aw E)⟩)
  ·obtain⟨o,r,am,an⟩:=a8 x y z w i u ap ar;exact mZ (jy am) (an _ fun ac w' I E ai a0 al=>⟨I,by rw[<-al];exact ax x ac z w' J I (a1 _ _ _ aq E) ai (a3 _ _ _ aw E)⟩)
  ·obtain⟨o,r,am,an⟩:=a9 x y z w i u ap aw;exact mZ (jy am) (an _ fun ad w' I E ai a0 al=>⟨I,by rw[<-al];exact ax x y ad w' J I (a1 _ _ _ aq E) (a2 _ _ _ ar E) ai⟩)
theorem Yu{α β ac:Type}(n:Nat)(x:α)(y:β)(z:ac)(u:α->World->Prop)(E:β->World->Prop)(I:ac->World->Prop)(R:α->Nat)(aa:β->Nat)(ab:ac->Nat)(af:α->Option Nat)(ag:β->Option Nat)(ai:ac->Option Nat)(L:α->β->ac->Array Bool)(mk:α->β->ac->Act){f al:Nat}{am:Array Bool}{a:Act}{w:World}
 (aw:L x y z=am)(ha:mk x y z=a)(hF:f+n=al)(hn:R x+aa y+ab z=n)(aq:S w)(aE:u x w)(a0:E y w)(a1:I z w)
 (a2:∀x w w',u x w->jI w w'->u x w')(a3:∀x w w',E x w->jI w w'->E x w')(a4:∀x w w',I x w->jI w w'->I x w')
 (az:∀x y z,0<R x+aa y+ab z->(Region.ready .any ops (L x y z)).all (fun i=>af x==some i||ag y==some i||ai z==some i)=true)
 (ax:∀x y z,0<R x+aa y+ab z->(Region.ready .any ops (L x y z)).isEmpty=false)
 (an:∀x y z w i,af x=some i->S w->u x w->∃o r,ops.toList.drop i=o::r/\∀j:Exit->Act->World->Prop,(∀x' w',S w'->jI w w'->u x' w'->R x'+1=R x->L x' y z=(L x y z).setIfInBounds i true->j .normal (mk x' y z) w')->wpList P ops j [o] (mk x y z) w)
 (ao:∀x y z w i,ag y=some i->S w->E y w->∃o r,ops.toList.drop i=o::r/\∀j:Exit->Act->World->Prop,(∀ad w',S w'->jI w w'->E ad w'->aa ad+1=aa y->L x ad z=(L x y z).setIfInBounds i true->j .normal (mk x ad z) w')->wpList P ops j [o] (mk x y z) w)
 (ap:∀x y z w i,ai z=some i->S w->I z w->∃o r,ops.toList.drop i=o::r/\∀j:Exit->Act->World->Prop,(∀ae w',S w'->jI w w'->I ae w'->ab ae+1=ab z->L x y ae=(L x y z).setIfInBounds i true->j .normal (mk x y ae) w')->wpList P ops j [o] (mk x y z) w)
 (ar:∀x y z w,R x=0->aa y=0->ab z=0->S w->u x w->E y w->I z w->wpAnyH P .any ops Q S f (L x y z) (mk x y z) w):
 wpAnyH P .any ops Q S al am a w:=by
 subst aw ha hF;exact Yt u E I R aa ab af ag ai L mk a2 a3 a4 az ax an ao ap ar n x y z w hn aq aE a0 a1
end
inductive jW where
 |n
 |o (b:Nat)
 |t (b:Nat)
inductive iE where
 |n
 |o (b1:Nat)
 |t (b1 b2:Nat)
 |h (b1 b2 b3:Nat)
inductive nY where
 |n
 |o (g:Nat)
def jW.v0:jW->Value| .n=>undef| .o b=> .slice (some ⟨b,0,none⟩) 4 4 | .t b=> .slice (some ⟨b,0,none⟩) 4 4
def jW.v1:jW->Value| .n=>undef| .o _=>undef| .t b=> .slice (some ⟨b,0,none⟩) 4 4
def iE.v0:iE->Value| .n=>undef| .o b=> .slice (some ⟨b,0,none⟩) 8 8 | .t b _=> .slice (some ⟨b,0,none⟩) 8 8 | .h b _ _=> .slice (some ⟨b,0,none⟩) 8 8
def iE.v1:iE->Value| .n=>undef| .o _=>undef| .t _ b=> .slice (some ⟨b,0,none⟩) 8 8 | .h _ b _=> .slice (some ⟨b,0,none⟩) 8 8
def iE.v2:iE->Value| .n=>undef| .o _=>undef| .t _ _=>undef| .h _ _ b=> .slice (some ⟨b,4,none⟩) 4 4
def nY.v0:nY->Value| .n=>undef| .o b=> .slice (some ⟨b,0,none⟩) 1 1
def jW.d0:jW->Bool| .n=>false| .o _=>true| .t _=>true
def jW.d1:jW->Bool| .n=>false| .o _=>false| .t _=>true
def iE.d0:iE->Bool| .n=>false| .o _=>true| .t _ _=>true| .h _ _ _=>true
def iE.d1:iE->Bool| .n=>false| .o _=>false| .t _ _=>true| .h _ _ _=>true
def iE.d2:iE->Bool| .n=>false| .o _=>false| .t _ _=>false| .h _ _ _=>true
def nY.d0:nY->Bool| .n=>false| .o _=>true
def jW.m:jW->Nat| .n=>2 | .o _=>1 | .t _=>0
def iE.m:iE->Nat| .n=>3 | .o _=>2 | .t _ _=>1 | .h _ _ _=>0
def nY.m:nY->Nat| .n=>1 | .o _=>0
def jW.op:jW->Option Nat| .n=>some 0 | .o _=>some 1 | .t _=>none
def iE.op:iE->Option Nat| .n=>some 4 | .o _=>some 7 | .t _ _=>some 21 | .h _ _ _=>none
def nY.op:nY->Option Nat| .n=>some 11 | .o _=>none
def zW(B:Nat)(w:World)(b:Nat):Prop:=B<=b/\∃j,w.heap[b]? =some (.cells #[Value.int .u8 75,Value.int .u8 87,Value.int .u8 69,Value.int .u8 49] 5 j)
def jW.I(B:Nat)(w:World):jW->Prop| .n=>True| .o b=>zW B w b| .t b=>zW B w b
def nC(w:World)(b o:Nat)(l:aj):Prop:=aK w (some ⟨b,o,none⟩) (l.map Y)
def iE.I(j u E:aj)(w:World):iE->Prop| .n=>True| .o b=>nC w b 0 j| .t b c=>nC w b 0 j/\nC w c 0 u| .h b c d=>nC w b 0 j/\nC w c 0 u/\nC w d 4 E
def nY.I(l:aj)(w:World):nY->Prop| .n=>True| .o b=>nC w b 0 l
theorem zW.rel{B:Nat}{w w':World}{b:Nat}(h:zW B w b)(k:jI w w'):zW B w' b:=⟨h.1,by obtain⟨u,j⟩:=h.2;exact k.2 _ _ _ _ j⟩
theorem nC.rel{w w':World}{b o:Nat}{l:aj}(h:nC w b o l)(k:jI w w'):nC w' b o l:=aK.rel h k
def QB(x:jW)(y:iE)(z:nY):Array Bool:= #[x.d0,x.d1,true,true,y.d0,true,true,y.d1,true,true,true,z.d0,true,true,true,true,true,true,true,true,true,y.d2,true,true,false,false,false]
def yK(E:aO)(g i k:Nat)(act:Int)(I:UInt8)(j:aN)(bn u:Nat)(x:jW)(y:iE)(z:nY):Act:={tmps:= #[Value.agg E.toArray,Value.pointer (some {block:=g,off:=0}),Value.slice none 0 0,x.v0,x.v1,Value.pointer (some {block:=g,off:=0}),Value.int IntKind.i64 (i:Int),y.v0,Value.pointer (some {block:=g,off:=1}),Value.int IntKind.i64 (k:Int),y.v1,Value.pointer (some {block:=g,off:=2}),Value.int IntKind.i64 act,Value.int IntKind.u8 (I.toNat:Int),z.v0,Value.pointer (some {block:=g,off:=3}),Value.slice (some {block:=g,off:=3}) 16 16,Value.pointer (some {block:=g,off:=19}),Value.slice (some {block:=g,off:=19}) 16 16,Value.pointer (some {block:=g,off:=35}),Value.slice (some {block:=g,off:=35}) 32 32,Value.pointer (some {block:=g,off:=67}),Value.slice j bn u,Value.int IntKind.i64 (bn:Int),y.v2,Value.pointer (some {block:=g,off:=67}),Value.slice j bn u,undef,undef],defers:=[]}
theorem QC(e:aG)(w:World)(aa:e.Ok w)(b3:dN e=0):
 Calls prog 92 #[.agg e.v.toArray] w fun x w'=>∃v,x= .returned v/\w'.ownsRow w.heap.size 5 1 v (89+e.bn) ((ny e).map Y)/\X w w':=by
 have bp:=O (GL aa);obtain⟨bh,r2,bi,ce,cf,cg,bj⟩:=qy aa b3;have ck:=O (aG.len aa);have bk:=O aa.ha;have bl:=O aa.hk;have bm:=O aa.hp;have bo:=O aa.hb;obtain⟨bt,bu,bv,bw⟩:=bU (aG.Eh aa) (aG.F4 aa) (aG.BH aa) (aG.zV aa);have br:=O aa.hn0;have uE:=O aa.hcl;obtain⟨az,aE,act,bI,key,an,ab,bn,ac,aq⟩:=e;have ba:=aG.aL ⟨az,aE,act,bI,key,an,ab,bn,ac,aq⟩;have bc:=aG.rH ⟨az,aE,act,bI,key,an,ab,bn,ac,aq⟩;have bd:=aG.at2 ⟨az,aE,act,bI,key,an,ab,bn,ac,aq⟩;have a3:ny ⟨az,aE,act,bI,key,an,ab,bn,ac,aq⟩=[75,87,69,49]++dG (UInt64.ofNat az.toNat)++dG (UInt64.ofNat aE.toNat)++[UInt8.ofNat act.toNat]++bI++key++an++gq (UInt32.ofNat bn)++aq:=F;generalize ny _=ch at*;generalize aG.v _=b7 at*;simp only at bh r2 bi ce cf cg bj ba bc bd ck bk bl bm bo bt bu bv bw br uE bp⊢;clear aa b3;obtain⟨i,rfl⟩:=Int.eq_ofNat_of_zero_le bh;obtain⟨k,rfl⟩:=Int.eq_ofNat_of_zero_le bi;obtain⟨b4,b5,b6⟩:=aW (fun w'=>DN i w' J) (fun w'=>DN k w' J) (fun w'=>O9 bn w' J);obtain⟨a1,be⟩:=aC (UInt8.ofNat act.toNat);have cF:IntKind.u8.wrap act=(a1.toNat:Int):=by
  rw[<-be,UInt8.toNat_ofNat',IntWalk.u8_in _ J];omega
 rw[be]at a3;simp only[Int.toNat_natCast]at a3;obtain⟨ci,cy⟩:=aB a3 bj;clear bh r2 bi ce cf cg bj be a3;go_enter func92,ntmps92;go_upto_region 1 with(fail);generalize iX:World.alloc w _=a0;have cd:ah a0 w.heap.size b7 34:=by rw[<-iX];exact ah.aI F F
 have b1:X w a0:=by rw[<-iX];exact(X.refl w).alloc _
 obtain⟨ao,EA,cl,cm,cn⟩:=dM cd b1 ba bc bd;clear iX cd b1 ba bc bd;obtain⟨C,iB,aJ,bP⟩:=iw (show bT w a0 [w.heap.size] [] a0 from bT.jA EA (dV.one ao.lt));have bz:∀E,C E->E.cell? ⟨w.heap.size,0,none⟩=some (.int .i64 (i:Int)):=fun E al=>(((iB E).1 al).blk ao aF).cell' cl;have b0:∀E,C E->E.cell? ⟨w.heap.size,1,none⟩=some (.int .i64 (k:Int)):=fun E al=>(((iB E).1 al).blk ao aF).cell' cm;have e2:∀E,C E->E.cell? ⟨w.heap.size,2,none⟩=some (.int .i64 act):=fun E al=>(((iB E).1 al).blk ao aF).cell' cn;have a4:∀E,C E->E.cell? ⟨w.heap.size,67,none⟩=some (.slice ab bn ac):=fun E al=>(((iB E).1 al).blk ao aF).cell' bw;refine fJ fun Z=> ?_;refine aA 2 ?_;refine dA 3 (bz) ?_;refine aA 5 ?_;refine dA 6 (b0) ?_;refine aA 8 ?_;refine dA 9 (e2) ?_;refine aA 10 ?_;refine aA 12 ?_;refine aA 13 ?_;refine aA 14 ?_;refine aA 15 ?_;refine aA 16 ?_;refine aA 17 ?_;refine aA 18 ?_;refine dA 19 (a4) ?_;refine aA 20 ?_;refine aA 22 ?_;refine dA 23 (a4) ?_;generalize a0.drew=wD at*;have a9:∀E,C E->w.heap.size+1<=E.heap.size:=fun E al=>by have:=ao.lt;have:=((iB E).1 al).kept.1;omega
 clear bz b0 e2 a4;obtain⟨g,hg⟩:=aC w.heap.size;rw[hg]at a9;refine Yu 6 jW.n iE.n nY.n (fun x E=>jW.I (g+1) E x) (fun y E=>iE.I (dG (UInt64.ofNat i)) (dG (UInt64.ofNat k)) (gq (UInt32.ofNat bn)) E y) (fun z E=>nY.I [a1] E z) jW.m iE.m nY.m jW.op iE.op nY.op QB (yK b7 g i k act a1 ab bn ac)
  au ?ha F F Z trivial trivial trivial ?mA ?mB ?mC ?hr ?hne ?hA ?hB ?hC ?hfin
 case ha=>rw[<-hg];rfl
 case mA=>intro x E w2 h k;cases x<;>first|exact h|exact zW.rel h k
 case mB=>
  intro y E w2 h k;cases y with
  |n=>exact h
  |o b=>exact nC.rel h k
  |t b c=>exact⟨nC.rel h.1 k,nC.rel h.2 k⟩
  |h b c d=>exact⟨nC.rel h.1 k,nC.rel h.2.1 k,nC.rel h.2.2 k⟩
 case mC=>intro z E w2 h k;cases z<;>first|exact h|exact nC.rel h k
 case hr=>intro x y z a_;cases x<;>cases y<;>cases z<;>first|exact absurd a_ (Nat.lt_irrefl 0)|kernel_rfl
 case hne=>intro x y z a_;cases x<;>cases y<;>cases z<;>first|exact absurd a_ (Nat.lt_irrefl 0)|kernel_rfl
 case hA=>
  intro x y z E j ad am ar;have hb:=a9 E am;clear Z;cases x with
  |n=>
   cases ad;refine⟨_,_,F,fun af I=> ?_⟩;unfold yK;simp only[jW.v0,jW.v1];go_wp2_with fail;exact I (.o E.heap.size) _ (aJ _ _ am ((X.refl E).alloc _)) (jI.Ej ((X.refl E).alloc _)) ⟨hb,(0,0),ah.yu E ([75,87,69,49].map Y) 5⟩ F F
  |o b=>
   cases ad;obtain⟨hb,cD,Bb⟩:=ar;refine⟨_,_,F,fun af I=> ?_⟩;have cG:=Yq (P:=prog) 32 5 b 4 4 _ _ _ E underlying32 underlying5 Bb;unfold yK;simp only[jW.v0,jW.v1];have cj:=O Bb;clear Bb;go_wp2_with fail;exact I (.t b) _ ((iB _).2 (((iB _).1 am).yJ (Yr E _) (fun g h=>by cases h;simp;omega) (fun g h=>by cases h;show _<=b;omega))) (QA E _) (zW.rel ⟨hb,cD,cj⟩ (QA E _)) F F
  |t b=>cases ad
 case hB=>
  intro x y z E j ad am ar;clear Z;cases y with
  |n=>
   cases ad;refine⟨_,_,F,fun af I=> ?_⟩;unfold yK;simp only[iE.v0,iE.v1,iE.v2];go_wp2_with fail;refine(b4 E).mono ?_;rintro e w2 ⟨rfl,R,e2⟩;have ax:=aJ _ _ am e2;have aw:=O (aK.tO R);have hr:=jI.Ej e2;clear R e2;go_wp2_with fail;exact I (.o E.heap.size) _ ax hr aw F F
  |o b=>
   cases ad;refine⟨_,_,F,fun af I=> ?_⟩;unfold yK;simp only[iE.v0,iE.v1,iE.v2];go_wp2_with fail;refine(b5 E).mono ?_;rintro e w2 ⟨rfl,R,e2⟩;have ax:=aJ _ _ am e2;have aw:=O (aK.tO R);have hr:=jI.Ej e2;clear R e2;go_wp2_with fail;exact I (.t b E.heap.size) _ ax hr ⟨nC.rel ar hr,aw⟩ F F
  |t b c=>
   cases ad;refine⟨_,_,F,fun af I=> ?_⟩;unfold yK;simp only[iE.v0,iE.v1,iE.v2];go_wp2_with fail;refine(b6 E).mono ?_;rintro e w2 ⟨rfl,bx,e2⟩;have ax:=aJ _ _ am e2;have aw:=O bx;have hr:=jI.Ej e2;clear bx e2;go_wp2_with fail;exact I (.h b c E.heap.size) _ ax hr ⟨nC.rel ar.1 hr,nC.rel ar.2 hr,aw⟩ F F
  |h b c d=>cases ad
 case hC=>
  intro x y z E j ad am ar;clear Z;cases z with
  |n=>
   cases ad;refine⟨_,_,F,fun af I=> ?_⟩;unfold yK;simp only[nY.v0];go_wp2_with fail;exact I (.o E.heap.size) _ (aJ _ _ am ((X.refl E).alloc _)) (jI.Ej ((X.refl E).alloc _)) (aK.tO (T:=5) (ah.aI F F)) F F
  |o b=>cases ad
 case hfin=>
  clear Z b4 b5 b6;intro x y z wF ca cb cc hF cA cC b8;obtain⟨b,rfl⟩:∃b,x= .t b:=by cases x<;>first|exact⟨_,F⟩|cases ca
  obtain⟨ag,R,ai,rfl⟩:∃ag R ai,y= .h ag R ai:=by cases y<;>first|exact⟨_,_,_,F⟩|cases cb
  obtain⟨ap,rfl⟩:∃b,z= .o b:=by cases z<;>first|exact⟨_,F⟩|cases cc
  obtain⟨hb,zb,Bb⟩:=cA;obtain⟨k1,k2,k3⟩:=cC;have b':aK wF (some ⟨b,0,none⟩) ([75,87,69,49].map Y):=by
   refine .inr ⟨b,0,F,fun j u cz=> ?_⟩;rw[Nat.zero_add];simp only[World.cell?,Bb];exact(List.getElem?_toArray (xs:=[75,87,69,49].map Y)).trans cz
  have a2:=O (((iB wF).1 hF).blk ao aF);have k5:aK wF (some ⟨w.heap.size,3,none⟩) (bI.map Y):=by
   have:=aK.vP a2 3 16;rwa[bt.out]at this
  have k6:aK wF (some ⟨w.heap.size,19,none⟩) (key.map Y):=by
   have:=aK.vP a2 19 16;rwa[bu.out]at this
  have k7:aK wF (some ⟨w.heap.size,35,none⟩) (an.map Y):=by
   have:=aK.vP a2 35 32;rwa[bv.out]at this
  rw[hg]at k5 k6 k7;obtain⟨co,cp,cq,cr,cs,ct,cv,cw⟩:=jg b' k1 k2 k3 b8 k5 k6 k7;have cx:=O (uE.ext ((iB wF).1 hF).base);clear b' k1 k2 k3 b8 k5 k6 k7 Bb hb a9 ca cb cc;unfold yK QB;simp only[jW.v0,jW.v1,iE.v0,iE.v1,iE.v2,nY.v0,jW.d0,jW.d1,iE.d0,iE.d1,iE.d2,nY.d0];refine aZ 24 ?_;intro af I;go_wp2_with fail;have a5:=aJ _ _ hF ((X.refl wF).alloc (.cells #[.slice (some ⟨b,0,none⟩) 4 4,.slice (some ⟨ag,0,none⟩) 8 8,.slice (some ⟨R,0,none⟩) 8 8,.slice (some ⟨ap,0,none⟩) 1 1,.slice (some ⟨g,3,none⟩) 16 16,.slice (some ⟨g,19,none⟩) 16 16,.slice (some ⟨g,35,none⟩) 32 32,.slice (some ⟨ai,4,none⟩) 4 4,.slice ab bn ac] 32));obtain⟨BG,ae⟩:=aB (show ah (wF.alloc (.cells #[.slice (some ⟨b,0,none⟩) 4 4,.slice (some ⟨ag,0,none⟩) 8 8,.slice (some ⟨R,0,none⟩) 8 8,.slice (some ⟨ap,0,none⟩) 1 1,.slice (some ⟨g,3,none⟩) 16 16,.slice (some ⟨g,19,none⟩) 16 16,.slice (some ⟨g,35,none⟩) 32 32,.slice (some ⟨ai,4,none⟩) 4 4,.slice ab bn ac] 32)) wF.heap.size [.slice (some ⟨b,0,none⟩) 4 4,.slice (some ⟨ag,0,none⟩) 8 8,.slice (some ⟨R,0,none⟩) 8 8,.slice (some ⟨ap,0,none⟩) 1 1,.slice (some ⟨g,3,none⟩) 16 16,.slice (some ⟨g,19,none⟩) 16 16,.slice (some ⟨g,35,none⟩) 32 32,.slice (some ⟨ai,4,none⟩) 4 4,.slice ab bn ac] 32 from ah.aI F F) ((X.refl wF).alloc (.cells #[.slice (some ⟨b,0,none⟩) 4 4,.slice (some ⟨ag,0,none⟩) 8 8,.slice (some ⟨R,0,none⟩) 8 8,.slice (some ⟨ap,0,none⟩) 1 1,.slice (some ⟨g,3,none⟩) 16 16,.slice (some ⟨g,19,none⟩) 16 16,.slice (some ⟨g,35,none⟩) 32 32,.slice (some ⟨ai,4,none⟩) 4 4,.slice ab bn ac] 32))
  refine I _ _ a5 ?_;clear I af;generalize wF.alloc (.cells #[.slice (some ⟨b,0,none⟩) 4 4,.slice (some ⟨ag,0,none⟩) 8 8,.slice (some ⟨R,0,none⟩) 8 8,.slice (some ⟨ap,0,none⟩) 1 1,.slice (some ⟨g,3,none⟩) 16 16,.slice (some ⟨g,19,none⟩) 16 16,.slice (some ⟨g,35,none⟩) 32 32,.slice (some ⟨ai,4,none⟩) 4 4,.slice ab bn ac] 32)=wG at*;refine aH ?_;refine aZ 25 ?_;intro af I;go_wp2_with fail;have a7:fZ [(some ⟨b,0,none⟩,4,[75,87,69,49]),(some ⟨ag,0,none⟩,8,dG (UInt64.ofNat i)),(some ⟨R,0,none⟩,8,dG (UInt64.ofNat k)),(some ⟨ap,0,none⟩,1,[a1]),(some ⟨g,3,none⟩,16,bI),(some ⟨g,19,none⟩,16,key),(some ⟨g,35,none⟩,32,an),(some ⟨ai,4,none⟩,4,gq (UInt32.ofNat bn)),(ab,ac,aq)]=ch:=by rw[ci.out];simp[fZ]
  have a8:=bp.out;refine(JN [(some ⟨b,0,none⟩,4,[75,87,69,49]),(some ⟨ag,0,none⟩,8,dG (UInt64.ofNat i)),(some ⟨R,0,none⟩,8,dG (UInt64.ofNat k)),(some ⟨ap,0,none⟩,1,[a1]),(some ⟨g,3,none⟩,16,bI),(some ⟨g,19,none⟩,16,key),(some ⟨g,35,none⟩,32,an),(some ⟨ai,4,none⟩,4,gq (UInt32.ofNat bn)),(ab,ac,aq)] wF.heap.size 9 9 wG F J J ?hg ?hc ?hn ?hl).mono ?_
  case hg=>
   intro j b9 hit
   match j,hit with
   |0,hit=>cases hit;exact BG.cell' F
   |1,hit=>cases hit;exact BG.cell' F
   |2,hit=>cases hit;exact BG.cell' F
   |3,hit=>cases hit;exact BG.cell' F
   |4,hit=>cases hit;unfold nS;simp only;rw[bk.out];exact BG.cell' F
   |5,hit=>cases hit;unfold nS;simp only;rw[bl.out];exact BG.cell' F
   |6,hit=>cases hit;unfold nS;simp only;rw[bm.out];exact BG.cell' F
   |7,hit=>cases hit;exact BG.cell' F
   |8,hit=>cases hit;unfold nS;simp only;rw[bo.out];exact BG.cell' F
  case hc=>
   intro b9 hit;simp only[mem_cons,not_mem_nil,or_false]at hit;rcases hit with rfl|rfl|rfl|rfl|rfl|rfl|rfl|rfl|rfl
   ·exact co.ext ae
   ·exact aK.ext cp ae
   ·exact aK.ext cq ae
   ·exact aK.ext cs ae
   ·exact ct.ext ae
   ·exact cv.ext ae
   ·exact cw.ext ae
   ·exact aK.ext cr ae
   ·exact cx.ext ae
  case hn=>
   intro b9 hit;simp only[mem_cons,not_mem_nil,or_false]at hit;rcases hit with rfl|rfl|rfl|rfl|rfl|rfl|rfl|rfl|rfl<;>first|(intro h;cases h;done)|exact fun h=>(br h).2
  case hl=>rw[a7,a8];have:=cy.out;omega
  rw[a7,a8];rintro e wH ⟨v,rfl,own,b2⟩;have a6:=aJ _ _ a5 b2;have OH:=O own;clear own a7 a8;go_wp2_with fail;refine I _ _ a6 ?_;clear I af hF a5 b2;refine aH ?_;have Z:=a6;clear a6;refine aA 26 ?_;have EH:=O ((iB wH).1 Z).base;have cE:=ae.size;clear Z iB aJ bP;refine dH ?_;go_wp2;go_ret;exact⟨v,F,mg OH (by have:=a2.lt;omega),EH⟩
end
noncomputable def ig(e:aG):aj:=if dN e=0 then dY 3 (ny e)else List.replicate 32 0
theorem nZ(e:aG):(ig e).length=32:=by
 unfold ig;split
 ·exact j_ _ _
 ·simp
theorem qA:iH prog 31 32:=⟨⟨_,underlying31,F⟩,au⟩
theorem Yv(e:aG)(w:World)(u:e.Ok w):
 nW 103 #[.agg e.v.toArray] w (.tuple #[.agg ((ig e).map Y).toArray,.int .i64 (dN e)]):=by
 obtain⟨aq,ar,al,a1,a8,ai⟩:=iq u (aG.len u) (fun w' h=>Qy e w' h) (fun w' ag h=>Qz e w' h ag) (GL u) (show((ig e).map Y).length=32 by rw[length_map,nZ]);have an:=b_ (ig e);have a2:=O (fun h=>(qy u h).2.2.2.2.2.2);obtain⟨S,j⟩:=aC (ig e);rw[j]at ai an⊢;unfold ig at j;obtain⟨E,a0⟩:=aC (dN e);rw[a0]at al a1 j a2⊢;clear a0 u;go_enter func103,ntmps103;go_upto_region 1 with(fail);generalize iX:World.alloc (World.alloc w _) _=aa;have az:ah aa w.heap.size e.v 34:=by rw[<-iX];exact(ah.aI F F).alloc _
 have zA:ah aa (w.heap.size+1) (List.replicate 32 (.int .u8 0)) 31:=by rw[<-iX];exact ah.aI (uO _ _).symm rfl
 have aE:X w aa:=by rw[<-iX];exact((X.refl w).alloc _).alloc _
 obtain⟨ab,ZA,EA⟩:=aW az zA aE;clear iX az zA aE;go_wp2_with (refine bV F 34 (.tmp 1) F F ab cZ ar ?_);refine(al aa (aq.ext EA)).mono ?_;rintro x wB ⟨rfl,R⟩;obtain⟨a5,ac,I⟩:=aW (ab.ext R) (ZA.ext R) (EA.ext R);clear R ab ZA EA al;by_cases q:E=0
 ·subst q;rw[if_pos F]at j;go_wp2_with (refine bV F 34 (.tmp 1) F F a5 cZ ar ?_);refine(a1 wB (by trivial) (aq.ext I)).mono ?_;rintro x bc ⟨v,rfl,own,ae⟩;obtain⟨a,c,rfl,a_,a9,ag,a3⟩:=nT own;have am:=Gf 3 (ny e) (89+e.bn) c a bc a8 a_ a9 ag a3;have a4:uX 3 (ny e) (89+e.bn)= .tuple #[.agg (S.map Y).toArray,.int .i64 0]:=by
   have:=a2.out (by trivial);unfold uX;rw[if_neg J,if_pos J,j]
  rw[a4]at am;obtain⟨aw,ax,ap⟩:=aW am (ac.ext ae) (I.ext ae);clear am a4 ae own a3 ac I j;go_wp2_with fail;refine aw.mono ?_;rintro x wD ⟨rfl,af⟩;obtain⟨a7,a6⟩:=aB (ax.ext af) (ap.ext af);clear af ax ap aw;go_wp2_with (refine bg F _ _ _ F F F a7 qA aF ai an ?_);intro wE ad ao;go_wp2_with fail;exact iy F F ad qA ai F ⟨F,ao.ext a6 J⟩
 ·rw[if_neg q]at j;have bd:(E != 0)=true:=by simpa using q
  clear q;subst j;clear an;go_wp2_with (refine bg F _ _ _ F F F ac qA aF (xs:=List.replicate 32 (.int .u8 0)) aF (fun v ba=>by rw[eq_of_mem_replicate ba];rfl) ?_);intro wE ad ao;go_wp2_with fail;exact iy F F ad qA aF F ⟨by rfl,ao.ext I J⟩
theorem GN(e:aG)(w:World)(u:e.Ok w)(j:dN e=0):
 nW 57 #[.agg e.v.toArray] w (.agg ((ig e).map Y).toArray):=by
 obtain⟨ap,aq,ax,az,aa⟩:=dM u (aG.len u) (fun w' h=>QC e w' h j) (GL u) (show((ig e).map Y).length=32 by rw[length_map,nZ]);have am:=b_ (ig e);have aE:=O (qy u j).2.2.2.2.2.2;have Z:ig e=dY 3 (ny e):=by unfold ig;rw[if_pos j]
 obtain⟨S,ai⟩:=aC (ig e);rw[ai]at aa am Z⊢;clear u j ai;go_enter func57,ntmps57;go_upto_region 1 with(fail);generalize iX:World.alloc (World.alloc w _) _=E;have af:ah E w.heap.size e.v 34:=by rw[<-iX];exact(ah.aI F F).alloc _
 have zA:ah E (w.heap.size+1) (List.replicate 32 (.int .u8 0)) 31:=by rw[<-iX];exact ah.aI (uO _ _).symm rfl
 have ag:X w E:=by rw[<-iX];exact((X.refl w).alloc _).alloc _
 obtain⟨an,ZA,EA⟩:=aW af zA ag;clear iX af zA ag;go_wp2_with (refine bV F 34 (.tmp 1) F F an cZ aq ?_);refine(ax E (ap.ext EA)).mono ?_;rintro x a1 ⟨v,rfl,own,I⟩;obtain⟨a,c,rfl,a3,a2,j,al⟩:=nT own;have ab:=uV 3 (ny e) (89+e.bn) c a a1 J J az (by have:=aE.out;omega) al;rw[<-Z]at ab;obtain⟨ad,ae,ac⟩:=aW ab (ZA.ext I) (EA.ext I);clear ab I own al ZA EA Z;go_wp2_with fail;refine ad.mono ?_;rintro x wD ⟨rfl,R⟩;obtain⟨ar,ao⟩:=aB (ae.ext R) (ac.ext R);clear R ae ac ad;go_wp2_with (refine bg F _ _ _ F F F ar qA aF aa am ?_);intro wE aw a0;go_wp2_with fail;exact gG F F aw qA aa F ⟨F,a0.ext ao J⟩
noncomputable def iZ(e:aG):aj:=ny e++ig e
theorem GR{e:aG}{w:World}(h:e.Ok w):(iZ e).length=121+e.bn:=by grind [iZ,length_append,GL,nZ]
def QD(e:aG)(w:World)(x:Ending)(w':World):Prop:=
 X w w'/\((dN e=0/\∃v,x= .returned (.tuple #[v,.int .i64 0])/\w'.ownsRow w.heap.size 5 1 v (121+e.bn) ((iZ e).map Y))∨(dN e≠0/\x= .returned (.tuple #[.slice none 0 0,.int .i64 (dN e)])))
theorem Yw(e:aG)(w:World)(ae:e.Ok w):
 Calls prog 62 #[.agg e.v.toArray] w (QD e w):=by
 obtain⟨a4,a5,af,ba,a0⟩:=dM ae (aG.len ae) (fun w' h=>Yv e w' h) (fun w' bk h=>Qz e w' h bk) (fun h=>(qy ae h).2.2.2.2.2.2);have ag:=b_ (ig e);obtain⟨a6,ap⟩:=aB (nZ e) (show((ig e).map Y).length=32 by rw[length_map,nZ]);obtain⟨S,aE⟩:=aC (ig e);rw[aE]at af a6 ap ag;have bj:=O aE;clear aE ae;obtain⟨E,ax⟩:=aC (dN e);rw[ax]at af ba a0;have ao:=O ax;clear ax;go_enter func62,ntmps62;go_upto_region 1 with(fail);generalize iX:World.alloc w _=a2;have a7:ah a2 w.heap.size e.v 34:=by rw[<-iX];exact ah.aI F F
 have a9:X w a2:=by rw[<-iX];exact(X.refl w).alloc _
 obtain⟨al,EA⟩:=aB a7 a9;clear iX a7 a9;go_wp2_with (refine bV F 34 (.tmp 1) F F al cZ a5 ?_);refine(af a2 (a4.ext EA)).mono ?_;rintro x wB ⟨rfl,ar⟩;obtain⟨am,ac⟩:=aB (al.ext ar) (EA.ext ar);clear ar al EA af;have bo:w.heap.size+1<=wB.heap.size:=am.lt;by_cases q:E=0
 ·subst q;go_wp2_with (refine bg F _ _ _ F F F (ah.aI (vs:=List.replicate 32 (.int .u8 0)) F F) qA aF ap ag ?_);intro ab ai R;have aw:X wB ab:=R.ext ((X.refl wB).alloc _) l5;obtain⟨a3,an,ad,bh⟩:=bU (am.ext aw) (ac.ext aw) ai (a0 (by trivial));clear R aw ai am ac ag a0;obtain⟨gs,bc⟩:=aC wB.heap.size;rw[bc]at ad bo⊢;clear bc;go_upto_region 4 with(fail);obtain⟨C,iB,aJ,bP⟩:=iw (show bT w ab [w.heap.size,gs] [] ab from bT.jA an (dV.two a3.lt ad.lt));refine fJ fun Z=> ?_;refine aA 2 ?_;have bm:∀aa,C aa->w.heap.size+2<=aa.heap.size/\gs+1<=aa.heap.size:=fun aa bl=>by have:=ad.lt;have:=((iB aa).1 bl).kept.1;omega
  generalize ab.drew=wD at*;refine aZ 0 ?_;intro u j;go_wp2_with (refine bV F 34 (.tmp 1) F F (((iB wD).1 Z).blk a3 aF) cZ a5 ?_);refine j _ _ Z ?_;clear j u;refine aH ?_;refine aZ 1 ?_;intro u j;go_wp2_with fail;refine(ba wD (by trivial) (a4.ext ((iB wD).1 Z).base)).mono ?_;rintro x wF ⟨v,rfl,own,eF⟩;have hF:=aJ _ _ Z eF;have aq:=O own;clear own;go_wp2_with fail;refine j _ _ hF ?_;clear j u;refine aH ?_;refine aZ 3 ?_;intro u j;have a8:aK wF (some ⟨gs,0,none⟩) (S.map Y):=aK.tO (((iB wF).1 hF).blk ad aF);have br:=bm wD Z;go_wp2_with (at_builtin;refine sH F _ _ F wD.heap.size (ys:=S) F F aq a6 (fun h=>by cases h) a8 (by have:=bh.out;omega) eF.size ?_);intro v2 wG bd a_;have a1:=fun I h=>pG aq I h;have az:C wG:=(iB _).2 (((iB _).1 hF).yJ a_ (fun I h=>by have:=a1 I h;simp;omega) (fun I h=>by have:=a1 I h;omega));have OG:=O (mg bd (show w.heap.size<=wD.heap.size by omega));clear bd;go_wp2_with fail;refine j _ _ az ?_;clear j u Z hF a_ a1 aq a8;refine aH ?_;have Z:=az;clear az;refine aA 4 ?_;refine aA 5 ?_;have be:=O ((iB wG).1 Z).base;clear Z iB aJ bP;refine dH ?_;go_wp2
  go_ret2
  refine⟨be,.inl ⟨ao,v2,F,?_⟩⟩;rw[show 121+e.bn=89+e.bn+32 by omega];unfold iZ;rw[bj.out];simpa using OG.out
 ·have bp:(E != 0)=true:=by simpa using q
  have bi:=O q;clear q;go_wp2_with (refine bg F _ _ _ F F F (ah.aI (vs:=List.replicate 32 (.int .u8 0)) F F) qA aF ap ag ?_);intro ab ai R;have an:=O (R.ext (ac.alloc _) ac.size);clear R ai;go_wp2_with fail
  go_ret2
  exact⟨an,.inr ⟨by rw[ao.out];exact bi,by rw[ao.out];rfl⟩⟩
theorem QE(e:aG)(w:World)(ad:e.Ok w):
 Calls prog 54 #[.agg e.v.toArray] w (QD e w):=by
 obtain⟨am,ao,a0,ae,bc,aE⟩:=iq ad (aG.len ad) (fun w' h=>Ei e w' h) (fun w' ar h=>GN e w' h ar) (fun w' ar h=>QC e w' h ar) (fun h=>(qy ad h).2.2.2.2.2.2);have a2:=b_ (ig e);obtain⟨a6,a7⟩:=aB (nZ e) (show((ig e).map Y).length=32 by rw[length_map,nZ]);obtain⟨S,az⟩:=aC (ig e);rw[az]at ae a6 a7 a2;have bo:=O az;clear az ad;obtain⟨E,aw⟩:=aC (dN e);rw[aw]at a0 ae bc aE;have an:=O aw;clear aw;go_enter func54,ntmps54;go_upto_region 1 with(fail);generalize iX:World.alloc w _=a3;have a8:ah a3 w.heap.size e.v 34:=by rw[<-iX];exact ah.aI F F
 have a_:X w a3:=by rw[<-iX];exact(X.refl w).alloc _
 obtain⟨ag,EA⟩:=aB a8 a_;clear iX a8 a_;go_wp2_with (refine bV F 34 (.tmp 1) F F ag cZ ao ?_);refine(a0 a3 (am.ext EA)).mono ?_;rintro x bu ⟨rfl,u⟩;obtain⟨al,ab⟩:=aB (ag.ext u) (EA.ext u);clear u ag EA a0;by_cases q:E=0
 ·subst q;go_wp2_with (refine bV F 34 (.tmp 1) F F al cZ ao ?_);refine(ae bu (by trivial) (am.ext ab)).mono ?_;rintro x wB ⟨rfl,u⟩;obtain⟨ai,a5⟩:=aB (al.ext u) (ab.ext u);clear u al ab ae;have bt:w.heap.size+1<=wB.heap.size:=ai.lt;go_wp2_with (refine bg F _ _ _ F F F (ah.aI (vs:=List.replicate 32 (.int .u8 0)) F F) qA aF a7 a2 ?_);intro af bh bi;have aq:X wB af:=bi.ext ((X.refl wB).alloc _) l5;obtain⟨a4,bj,ac,bl⟩:=bU (ai.ext aq) (a5.ext aq) bh (aE (by trivial));clear bi aq bh ai a5 a2 aE;obtain⟨gs,bd⟩:=aC wB.heap.size;rw[bd]at ac bt⊢;clear bd;go_upto_region 5 with(fail);obtain⟨C,iB,aJ,bP⟩:=iw (show bT w af [w.heap.size,gs] [] af from bT.jA bj (dV.two a4.lt ac.lt));refine fJ fun Z=> ?_;refine aA 2 ?_;have br:∀aa,C aa->w.heap.size+2<=aa.heap.size/\gs+1<=aa.heap.size:=fun aa bp=>by have:=ac.lt;have:=((iB aa).1 bp).kept.1;omega
  generalize af.drew=wD at*;refine aZ 0 ?_;intro I j;go_wp2_with (refine bV F 34 (.tmp 1) F F (((iB wD).1 Z).blk a4 aF) cZ ao ?_);refine j _ _ Z ?_;clear j I;refine aH ?_;refine aZ 1 ?_;intro I j;go_wp2_with fail;refine(bc wD (by trivial) (am.ext ((iB wD).1 Z).base)).mono ?_;rintro x wF ⟨v,rfl,own,eF⟩;have hF:=aJ _ _ Z eF;have ap:=O own;clear own;go_wp2_with fail;refine j _ _ hF ?_;clear j I;refine aH ?_;refine aZ 3 ?_;intro I j;have a9:aK wF (some ⟨gs,0,none⟩) (S.map Y):=aK.tO (((iB wF).1 hF).blk ac aF);have bw:=br wD Z;go_wp2_with (at_builtin;refine sH F _ _ F wD.heap.size (ys:=S) F F ap a6 (fun h=>by cases h) a9 (by have:=bl.out;omega) eF.size ?_);intro v2 wG be ba;have a1:=fun R h=>pG ap R h;have ax:C wG:=(iB _).2 (((iB _).1 hF).yJ ba (fun R h=>by have:=a1 R h;simp;omega) (fun R h=>by have:=a1 R h;omega));have OG:=O (mg be (show w.heap.size<=wD.heap.size by omega));clear be;go_wp2_with fail;refine j _ _ ax ?_;clear j I Z hF ba a1 ap a9;refine aH ?_;have Z:=ax;clear ax;refine aA 4 ?_;refine aA 5 ?_;have bk:=O ((iB wG).1 Z).base;clear Z iB aJ bP;refine dH ?_;go_wp2
  go_ret2
  refine⟨bk,.inl ⟨an,v2,F,?_⟩⟩;rw[show 121+e.bn=89+e.bn+32 by omega];unfold iZ;rw[bo.out];simpa using OG.out
 ·have bv:(E != 0)=true:=by simpa using q
  have bm:=O q;clear q;go_wp2_with fail
  go_ret2
  exact⟨ab,.inr ⟨by rw[an.out];exact bm,by rw[an.out];rfl⟩⟩
theorem Yx(p m q:aO)(v:Array Value)(R:m.length=v.size):
 v.zipIdx.foldl (fun cs (x:Value×Nat)=>cs.setIfInBounds (p.length+x.2) x.1) (p++m++q).toArray=(p++v.toList++q).toArray:=by
 rw[<-Array.foldl_toList,Array.toList_zipIdx];obtain⟨aa,I⟩:=Great.foldl_set p.length v.toList 0 (p++m++q).toArray;apply Array.ext_getElem?;intro k;rw[I k];simp only[Nat.add_zero,Array.length_toList,size_toArray,length_append,List.getElem?_toArray,Nat.zero_add];have j:v.toList.length=v.size:=Array.length_toList;by_cases u:k<p.length
 ·rw[if_neg J,append_assoc,append_assoc,List.getElem?_append_left u,List.getElem?_append_left u]
 ·by_cases E:k<p.length+v.size
  ·rw[if_pos ⟨J,E,J⟩,append_assoc,List.getElem?_append_right J,List.getElem?_append_left (by rw[j];omega)]
  ·rw[if_neg J,List.getElem?_append_right (by rw[length_append];omega),List.getElem?_append_right (by rw[length_append,j];omega)]
   congr 1
   rw[length_append,length_append,j,R]
theorem jh{j:Nat->Option (Nat×Nat)}{i off u:Nat}{v:Value}{rest:List (Nat×Value)}(p m q:aO)(aa:j i=some (off,u))(I:off=p.length)(R:v.cells.size=u)(E:m.length=u):
 Instr.fill j (p++m++q).toArray ((i,v)::rest)=Instr.fill j (p++v.cells.toList++q).toArray rest:=by
 rw[Instr.fill];simp only[aa];rw[if_neg (by simp[R,I,E])];subst I;rw[<-Yx p m q v.cells (by rw[E,R])]
theorem Yy:(prog.info? 46).map (fun i=>(i.zero,i.size,i.bytes))=some (some (.agg (iY 0 0 iK iK).toArray),66,80):=au
theorem Yz:(prog.underlying 46).bind (fun d=>match d with| .struct j=>j.toList.mapM (fun f=>(prog.info? f.type).map fun i=>(f.offset,i.size))|_=>none)=some [(0,1),(1,1),(2,32),(34,32)]:=au
theorem YA(C T:Int)(x y:aj)(j:x.length=32)(ab:y.length=32):prog.built 46 [(0,.int .i64 C),(1,.int .i64 T),(2,.agg (x.map Y).toArray),(3,.agg (y.map Y).toArray)]=some (iY C T x y).toArray:=by
 obtain⟨ae,aa,ac,mU,ad⟩:=info_parts Yy;have hf:=Yz;rw[underlying46]at hf;simp only[Option.bind_some]at hf;unfold Program.built;rw[aa,underlying46];simp only[ac,hf];have u:(Value.agg (iY 0 0 iK iK).toArray).cells=([]++[Value.int .i64 0]++(Value.int .i64 0::(iK.map Y++iK.map Y))).toArray:=F;rw[u,jh [] [Value.int .i64 0] _ F F F F];have E:([]++(Value.int .i64 C).cells.toList++(Value.int .i64 0::(iK.map Y++iK.map Y)))=[Value.int .i64 C]++[Value.int .i64 0]++(iK.map Y++iK.map Y):=F;rw[E,jh [Value.int .i64 C] [Value.int .i64 0] _ F F F F];have I:([Value.int .i64 C]++(Value.int .i64 T).cells.toList++(iK.map Y++iK.map Y))=[Value.int .i64 C,Value.int .i64 T]++iK.map Y++iK.map Y:=F;rw[I,jh [Value.int .i64 C,Value.int .i64 T] (iK.map Y) _ F F (by simp[Value.cells,j]) (by rfl)];have R:([Value.int .i64 C,Value.int .i64 T]++(Value.agg (x.map Y).toArray).cells.toList++iK.map Y)=([Value.int .i64 C,Value.int .i64 T]++x.map Y)++iK.map Y++[]:=by simp[Value.cells]
 rw[R,jh ([Value.int .i64 C,Value.int .i64 T]++x.map Y) (iK.map Y) [] F (by simp[j]) (by simp[Value.cells,ab]) (by rfl)];rw[Instr.fill];simp[Value.cells,iY]
theorem QF{o:Oper}{a:Act}{j u E I:Operand}{C T:Int}{x y:aj}(ae:o.op= .build 46 #[(0,j),(1,u),(2,E),(3,I)])(aa:a.eval j= .int .i64 C)(ab:a.eval u= .int .i64 T)(R:a.eval E= .agg (x.map Y).toArray)(ac:a.eval I= .agg (y.map Y).toArray)(af:x.length=32)(ag:y.length=32)(w:World):
 (execOp a.eval o).run prog w= .ok (.value (.agg (iY C T x y).toArray)) w:=by
 have h:=run_build (P:=prog) w 46 #[(0,.int .i64 C),(1,.int .i64 T),(2,.agg (x.map Y).toArray),(3,.agg (y.map Y).toArray)] _ (YA C T x y af ag);have ad:(#[(0,j),(1,u),(2,E),(3,I)].map fun(r:Nat×Operand)=>(r.1,a.eval r.2))= #[(0,.int .i64 C),(1,.int .i64 T),(2,.agg (x.map Y).toArray),(3,.agg (y.map Y).toArray)]:=by simp[aa,ab,R,ac]
 unfold execOp;simp only[ae,Sem.run_bind];have R:(Instr.build 46 (#[(0,j),(1,u),(2,E),(3,I)].map fun(r:Nat×Operand)=>(r.1,a.eval r.2))).run prog w= .ok (.agg (iY C T x y).toArray) w:=by rw[ad];exact h
 rw[R];rfl
theorem Cn:zeroCells46=(iY 0 0 iK iK).toArray:=au
structure dW where
 num:Int
 time:Int
 act:Int
 bI:aj
 key:aj
 prev:aj
 body:aj
def aG.p(e:aG):dW:=⟨e.num,e.time,e.act,e.bI,e.key,e.prev,e.body⟩
def dW.r(x:dW):aG:=⟨x.num,x.time,x.act,x.bI,x.key,x.prev,none,x.body.length,x.body.length,x.body⟩
noncomputable def jX(x:dW):Int:=dN x.r
theorem xH(e:aG):dN e=jX e.p:=F
def fD:aj:=List.replicate 16 0
def u_:dW:=⟨0,0,0,fD,fD,List.replicate 32 0,[]⟩
def dS:aG:=⟨0,0,0,fD,fD,List.replicate 32 0,none,0,0,[]⟩
theorem dZ:dS.v.length=68:=F
theorem i_(e:aG):∀v∈e.v,v.oneCell'=true:=by
 intro v j;unfold aG.v at j;simp only[mem_cons,mem_append,not_mem_nil,or_false]at j;rcases j with rfl|rfl|rfl|j|j|j|rfl
 ·rfl
 ·rfl
 ·rfl
 ·exact b_ _ v j
 ·exact b_ _ v j
 ·exact b_ _ v j
 ·rfl
theorem BJ:(prog.info? 34).map (fun i=>(i.zero,i.size,i.bytes))=some (some (.agg dS.v.toArray),68,112):=au
theorem QG:(prog.underlying 34).bind (fun d=>match d with| .struct j=>j.toList.mapM (fun f=>(prog.info? f.type).map fun i=>(f.offset,i.size))|_=>none)=some [(0,1),(1,1),(2,1),(3,16),(19,16),(35,32),(67,1)]:=au
theorem YC(n t k:Int)(x y z:aj)(E:aN)(bn I:Nat)(l:aj)(j:x.length=16)(u:y.length=16)(R:z.length=32):prog.built 34 [(0,Value.int .i64 n),(1,Value.int .i64 t),(2,Value.int .i64 k),(3,Value.agg (x.map Y).toArray),(4,Value.agg (y.map Y).toArray),(5,Value.agg (z.map Y).toArray),(6,Value.slice E bn I)]=some (aG.v ⟨n,t,k,x,y,z,E,bn,I,l⟩).toArray:=by
 obtain⟨an,ai,al,mU,am⟩:=info_parts BJ;have hf:=QG;rw[underlying34]at hf;simp only[Option.bind_some]at hf;unfold Program.built;rw[ai,underlying34];simp only[al,hf];have aa:(Value.agg dS.v.toArray).cells=(([]:aO)++[Value.int .i64 0]++(Value.int .i64 0::Value.int .i64 0::(fD.map Y++(fD.map Y++((List.replicate 32 (0:UInt8)).map Y++[Value.slice none 0 0]))))).toArray:=F;rw[aa,jh ([]:aO) ([Value.int .i64 0]) (Value.int .i64 0::Value.int .i64 0::(fD.map Y++(fD.map Y++((List.replicate 32 (0:UInt8)).map Y++[Value.slice none 0 0])))) F F F (by rfl)];have ab:(([]:aO)++(Value.int .i64 n).cells.toList++(Value.int .i64 0::Value.int .i64 0::(fD.map Y++(fD.map Y++((List.replicate 32 (0:UInt8)).map Y++[Value.slice none 0 0])))))=[Value.int .i64 n]++[Value.int .i64 0]++(Value.int .i64 0::(fD.map Y++(fD.map Y++((List.replicate 32 (0:UInt8)).map Y++[Value.slice none 0 0])))):=by simp[Value.cells]
 rw[ab,jh [Value.int .i64 n] ([Value.int .i64 0]) (Value.int .i64 0::(fD.map Y++(fD.map Y++((List.replicate 32 (0:UInt8)).map Y++[Value.slice none 0 0])))) F F F (by rfl)];have ac:([Value.int .i64 n]++(Value.int .i64 t).cells.toList++(Value.int .i64 0::(fD.map Y++(fD.map Y++((List.replicate 32 (0:UInt8)).map Y++[Value.slice none 0 0])))))=[Value.int .i64 n,Value.int .i64 t]++[Value.int .i64 0]++(fD.map Y++(fD.map Y++((List.replicate 32 (0:UInt8)).map Y++[Value.slice none 0 0]))):=by simp[Value.cells]
 rw[ac,jh [Value.int .i64 n,Value.int .i64 t] ([Value.int .i64 0]) (fD.map Y++(fD.map Y++((List.replicate 32 (0:UInt8)).map Y++[Value.slice none 0 0]))) F F F (by rfl)];have ad:([Value.int .i64 n,Value.int .i64 t]++(Value.int .i64 k).cells.toList++(fD.map Y++(fD.map Y++((List.replicate 32 (0:UInt8)).map Y++[Value.slice none 0 0]))))=[Value.int .i64 n,Value.int .i64 t,Value.int .i64 k]++fD.map Y++(fD.map Y++((List.replicate 32 (0:UInt8)).map Y++[Value.slice none 0 0])):=by simp[Value.cells]
 rw[ad,jh [Value.int .i64 n,Value.int .i64 t,Value.int .i64 k] (fD.map Y) (fD.map Y++((List.replicate 32 (0:UInt8)).map Y++[Value.slice none 0 0])) F F (by simp[Value.cells,j]) (by rfl)];have ae:([Value.int .i64 n,Value.int .i64 t,Value.int .i64 k]++(Value.agg (x.map Y).toArray).cells.toList++(fD.map Y++((List.replicate 32 (0:UInt8)).map Y++[Value.slice none 0 0])))=([Value.int .i64 n,Value.int .i64 t,Value.int .i64 k]++x.map Y)++fD.map Y++((List.replicate 32 (0:UInt8)).map Y++[Value.slice none 0 0]):=by simp[Value.cells]
 rw[ae,jh ([Value.int .i64 n,Value.int .i64 t,Value.int .i64 k]++x.map Y) (fD.map Y) ((List.replicate 32 (0:UInt8)).map Y++[Value.slice none 0 0]) F (by simp[j]) (by simp[Value.cells,u]) (by rfl)];have af:(([Value.int .i64 n,Value.int .i64 t,Value.int .i64 k]++x.map Y)++(Value.agg (y.map Y).toArray).cells.toList++((List.replicate 32 (0:UInt8)).map Y++[Value.slice none 0 0]))=([Value.int .i64 n,Value.int .i64 t,Value.int .i64 k]++x.map Y++y.map Y)++(List.replicate 32 (0:UInt8)).map Y++[Value.slice none 0 0]:=by simp[Value.cells]
 rw[af,jh ([Value.int .i64 n,Value.int .i64 t,Value.int .i64 k]++x.map Y++y.map Y) ((List.replicate 32 (0:UInt8)).map Y) [Value.slice none 0 0] F (by simp[j,u]) (by simp[Value.cells,R]) (by rfl)];have ag:(([Value.int .i64 n,Value.int .i64 t,Value.int .i64 k]++x.map Y++y.map Y)++(Value.agg (z.map Y).toArray).cells.toList++[Value.slice none 0 0])=([Value.int .i64 n,Value.int .i64 t,Value.int .i64 k]++x.map Y++y.map Y++z.map Y)++[Value.slice none 0 0]++([]:aO):=by simp[Value.cells]
 rw[ag,jh ([Value.int .i64 n,Value.int .i64 t,Value.int .i64 k]++x.map Y++y.map Y++z.map Y) ([Value.slice none 0 0]) ([]:aO) F (by simp[j,u,R]) F (by rfl)];rw[Instr.fill];simp[Value.cells,aG.v]
theorem QH{o:Oper}{a:Act}{E I R aa ab ac ad:Operand}{n t k:Int}{x y z:aj}{j:aN}{bn u:Nat}(l:aj)(ap:o.op= .build 34 #[(0,E),(1,I),(2,R),(3,aa),(4,ab),(5,ac),(6,ad)])(af:a.eval E=Value.int .i64 n)(ag:a.eval I=Value.int .i64 t)(ae:a.eval R=Value.int .i64 k)(ai:a.eval aa=Value.agg (x.map Y).toArray)(al:a.eval ab=Value.agg (y.map Y).toArray)(am:a.eval ac=Value.agg (z.map Y).toArray)(an:a.eval ad=Value.slice j bn u)(aq:x.length=16)(ar:y.length=16)(aw:z.length=32)(w:World):
 (execOp a.eval o).run prog w= .ok (.value (.agg (aG.v ⟨n,t,k,x,y,z,j,bn,u,l⟩).toArray)) w:=by
 have h:=run_build (P:=prog) w 34 #[(0,Value.int .i64 n),(1,Value.int .i64 t),(2,Value.int .i64 k),(3,Value.agg (x.map Y).toArray),(4,Value.agg (y.map Y).toArray),(5,Value.agg (z.map Y).toArray),(6,Value.slice j bn u)] _ (YC n t k x y z j bn u l aq ar aw);have ao:(#[(0,E),(1,I),(2,R),(3,aa),(4,ab),(5,ac),(6,ad)].map fun(r:Nat×Operand)=>(r.1,a.eval r.2))= #[(0,Value.int .i64 n),(1,Value.int .i64 t),(2,Value.int .i64 k),(3,Value.agg (x.map Y).toArray),(4,Value.agg (y.map Y).toArray),(5,Value.agg (z.map Y).toArray),(6,Value.slice j bn u)]:=by simp[af,ag,ae,ai,al,am,an]
 unfold execOp;simp only[ap,Sem.run_bind];have ae:(Instr.build 34 (#[(0,E),(1,I),(2,R),(3,aa),(4,ab),(5,ac),(6,ad)].map fun(r:Nat×Operand)=>(r.1,a.eval r.2))).run prog w= .ok (.agg (aG.v ⟨n,t,k,x,y,z,j,bn,u,l⟩).toArray) w:=by rw[ao];exact h
 rw[ae];rfl
section
open Go Go.RowKit
structure pO(P:Program)(t e:TypeId)(z y:Nat):Prop where
 hu:P.underlying t=some (.slice e)
 info:∃i0 z0,P.info? e=some i0/\i0.zero=some z0/\i0.size=z/\i0.bytes=y/\z0.cells.size=z
 pos:0<z
theorem Ky{P:Program}{f:Sem Value}{w w' w2:World}{v v':Value}{b:Option Nat}(j:f.run P w= .ok v w2)(u:f.run P w= .ok v' w')(E:v.ownBlock=b):v'.ownBlock=b:=by grind
section
variable {P:Program} {t e:TypeId} {z y:Nat}
theorem QI(T:pO P t e z y)(ty:TypeId)(w:World)(B:Nat){v:Value}{n m c:Nat}{xs news:aO}{E:Addr}(R:w.ownsRow B e z v n xs)(ac:news.length=m*z)(hc:∀j u,news[j]? =some u->w.cell? (E.add j)=some u)(al:∀u∈news,u.oneCell'=true)
 (ax:n+m<=140737488355328)(hb:(n+m)*y<=140737488355328)(ap:B<=w.heap.size):
 ∃v' w',(Builtin.append_ #[t,t] ty #[v,.slice (some E) m c]).run P w= .ok v' w'/\w'.ownsRow B e z v' (n+m) (xs++news)/\w.grownBy w' v.ownBlock/\
  (v'.ownBlock=v.ownBlock∨v'.ownBlock=some w.heap.size):=by
 obtain⟨I,ai,ab,ag,mU,ae,aw⟩:=T.info;obtain⟨v',w',ad,am,an,ao⟩:=run_append_own (P:=P) w B t ty e I ai z y T.hu ab ag mU ae aw T.pos v n xs R E m c news ac hc al (by unfold maxLen;omega) hb ap;refine⟨v',w',ad,am,an,?_⟩;rcases R.2 with⟨rfl,rfl⟩|⟨g,cap,cu,rfl,az,a1,a2,aE,a0,a3⟩
 ·by_cases aq:m=0
  ·left
   rw[ao.2 ⟨F,aq⟩]
  ·right
   have af:news.length=m*I.size:=by rw[mU];exact ac
   have aa:=run_append_nil (P:=P) w t ty e I ai T.hu ab ag E m c news af hc J J (by rw[ae];rw[Nat.zero_add]at hb;omega);exact Ky aa ad F
 ·by_cases ar:n+m<=cap
  ·left
   obtain⟨w2,aa,_⟩:=run_append_fits (P:=P) w B t ty e I z T.hu ab mU g n cap xs R E m c news ac hc al ar;exact Ky aa ad F
  ·right
   have af:news.length=m*I.size:=by rw[mU];exact ac
   have aa:=run_append_grow (P:=P) w t ty e I ai T.hu ab ag ⟨g,0,none⟩ n cap xs (by rw[mU];exact R.1) (R.cells (g:=g) F) E m c news af hc J J (growslice_fits J (by rw[ae];omega));exact Ky aa ad F
theorem YE(T:pO P t e z y)(ty:TypeId)(w:World)(B:Nat){v:Value}{n:Nat}{xs:aO}(u:w.ownsRow B e z v n xs):
 (Builtin.append_ #[t,t] ty #[v,.slice none 0 0]).run P w= .ok v w:=by
 obtain⟨E,ab,j,R,mU,I,aa⟩:=T.info;exact run_append_owned_none (P:=P) (w:=w) B t ty e E z T.hu j v n xs u
theorem YF(T:pO P t e z y)(ty:TypeId)(w:World)(B:Nat){v:Value}{n m c:Nat}{xs news:aO}{j:aN}(E:w.ownsRow B e z v n xs)(I:news.length=m*z)(ad:m<=c)(R:j=none->c=0)(hc:aK w j news)(aa:∀u∈news,u.oneCell'=true)
 (ab:n+m<=140737488355328)(hb:(n+m)*y<=140737488355328)(ac:B<=w.heap.size):
 ∃v' w',(Builtin.append_ #[t,t] ty #[v,.slice j m c]).run P w= .ok v' w'/\w'.ownsRow B e z v' (n+m) (xs++news)/\w.grownBy w' v.ownBlock/\
  (v'.ownBlock=v.ownBlock∨v'.ownBlock=some w.heap.size):=by
 cases j with
 |some j=>exact QI T ty w B E I (wX hc) aa ab hb ac
 |none=>
  obtain rfl:c=0:=R F;obtain rfl:m=0:=J;have hn:news=[]:=by
   have:news.length=0:=by rw[I];omega
   exact length_eq_zero_iff.1 this
  subst hn;refine⟨v,w,YE T ty w B E,by simpa using E,⟨F,F,F,Nat.le_refl _,fun _ _ _=>rfl⟩,.inl F⟩
variable {ops:Array Oper} {rest:List Oper} {o:Oper} {a:Act} {w:World} {Q:Exit->Act->World->Prop}
theorem qB(T:pO P t e z y)(af:o.guard=none)(s x:Operand)(al:o.op= .call {callee:= .builtin .append,args:= #[s,x],argTypes:= #[t,t]})(B:Nat){v:Value}{n m c:Nat}{xs news:aO}{j:aN}
 (hs:a.eval s=v)(ao:a.eval x= .slice j m c)(am:w.ownsRow B e z v n xs)(ag:news.length=m*z)(ai:m<=c)(E:j=none->c=0)(hc:aK w j news)(I:∀u∈news,u.oneCell'=true)
 (ac:n+m<=140737488355328)(hb:(n+m)*y<=140737488355328)(ae:B<=w.heap.size)
 (h:∀v' w',w'.ownsRow B e z v' (n+m) (xs++news)->w.grownBy w' v.ownBlock->(v'.ownBlock=v.ownBlock∨v'.ownBlock=some w.heap.size)->wpList P ops Q rest (a.put o.dst v') w'):wpList P ops Q (o::rest) a w:=by
 obtain⟨v',w',an,R,aa,ab⟩:=YF T o.type w B am ag ai E hc I ac hb ae;exact wpList_plain af fun K ad=>Lib.wp_append_run w s x _ _ al v _ hs ao v' w' an (ad _ _ (h v' w' R aa ab))
end
section
variable {w w':World} {B B2:Nat} {e e2:TypeId} {z z2 n n2:Nat} {v v' v2:Value} {xs xs2:aO} {r:Option Nat}
theorem um(h:w.ownsRow B e z v n xs)(k:w.grownBy w' r)(j:∀g,v.ownBlock=some g->r≠some g):w'.ownsRow B e z v n xs:=by
 refine h.kept k ?_;cases u:v.ownBlock with
 |none=>exact .inl F
 |some g=>exact .inr (fun e=>j g u e.symm)
def nP(v v2:Value):Prop:=∀g,v.ownBlock=some g->v2.ownBlock≠some g
theorem nP.symm(h:nP v v2):nP v2 v:=fun g j u=>h g u j
theorem nP.nil(c:Nat):nP (.slice none 0 c) v2:=fun g h=>by cases h
theorem nP.yL(h:w.ownsRow B e z v n xs)(I:w.ownsRow B2 e2 z2 v2 n2 xs2)(aa:e≠e2):nP v v2:=by
 intro g j u;rcases h.2 with⟨rfl,_⟩|⟨g1,ab,ad,rfl,_,R,_⟩
 ·cases j
 rcases I.2 with⟨rfl,_⟩|⟨af,ac,ae,rfl,_,E,_⟩
 ·cases u
 simp only[Value.ownBlock,Option.some.injEq]at j u;subst j;subst u;rw[R]at E;simp only[Option.some.injEq,Obj.cells.injEq]at E;exact aa E.2.1
theorem nP.append(h:nP v v2)(E:w.ownsRow B2 e2 z2 v2 n2 xs2)(hb:v'.ownBlock=v.ownBlock∨v'.ownBlock=some w.heap.size):nP v' v2:=by
 intro g j u;rcases hb with hb|hb
 ·exact h g (hb▸j) u
 ·rw[hb]at j;injection j with j;have:=(E.lt g u).2;omega
theorem nP.keep(h:nP v v2)(j:w.ownsRow B2 e2 z2 v2 n2 xs2)(k:w.grownBy w' v.ownBlock):w'.ownsRow B2 e2 z2 v2 n2 xs2:=
 um j k fun g u E=>h g E u
theorem GU{g:Nat}{vs:aO}{T:TypeId}(h:w.ownsRow B e z v n xs)(hb:ah w g vs T)(E:e≠T):v.ownBlock≠some g:=by
 intro j;rcases h.2 with⟨rfl,_⟩|⟨g1,I,R,rfl,_,u,_⟩
 ·cases j
 simp only[Value.ownBlock,Option.some.injEq]at j;subst j;unfold ah at hb;rw[u]at hb;simp only[Option.some.injEq,Obj.cells.injEq]at hb;exact E hb.2.1
theorem ah.besides{g:Nat}{vs:aO}{T:TypeId}(hb:ah w g vs T)(h:w.ownsRow B e z v n xs)(k:w.grownBy w' v.ownBlock)(j:e≠T):ah w' g vs T:=hb.grown k (fun e2=>GU h hb j e2.symm)
theorem qC{g:Nat}(u:aU w g w'):w.grownBy w' (some g):=⟨u.os,u.tape,u.output,by rw[u.size];exact Nat.le_refl _,fun i _ j=>u.block i (fun e=>j (by rw[e]))⟩
theorem n_{g:Nat}{vs:aO}{T:TypeId}(h:w.ownsRow B e z v n xs)(u:aU w g w')(hb:ah w g vs T)(I:e≠T):w'.ownsRow B e z v n xs:=
 um h (qC u) fun R E j=>GU h hb I (by cases j;exact E)
theorem iJ(h:w.ownsRow B e z v n xs):∃j c,v= .slice j n c/\n<=c/\(j=none->c=0)/\aK w j xs:=by
 have I:=h.1;rcases h.2 with⟨rfl,rfl⟩|⟨g,cap,cu,rfl,_,ab,R,_⟩
 ·have:xs=[]:=length_eq_zero_iff.1 (by rw[I];omega);subst this;exact⟨none,0,F,Nat.le_refl _,fun _=>rfl,.inl F⟩
 ·refine⟨some ⟨g,0,none⟩,cap,F,R,(fun h=>by cases h),Or.inr ⟨g,0,F,fun i u aa=> ?_⟩⟩;have:=h.cells (g:=g) F i u aa;have E:(⟨g,0,none⟩:Addr).add i=⟨g,i,none⟩:=by unfold Addr.add;split<;>simp_all
  rw[E]at this;simpa using this
end
end
section
open Go Go.RowKit
def iM(es:List aG):aO:=es.flatMap aG.v
def BK(es:List aG):Prop:=∀e∈es,e.v.length=68
theorem BL{es:List aG}(h:BK es):(iM es).length=68*es.length:=by induction es<;>grind [iM,aG,BK]
theorem YG{es:List aG}(h:BK es){k:Nat}{e:aG}(hk:es[k]? =some e):((iM es).drop (k*68)).take 68=e.v:=by
 have u:es=es.take k++e::es.drop (k+1):=by
  obtain⟨j,R⟩:=List.getElem?_eq_some_iff.1 hk;rw[<-R,<-drop_eq_getElem_cons j,take_append_drop]
 have j:=(List.getElem?_eq_some_iff.1 hk).1;have E:(iM (es.take k)).length=k*68:=by
  rw[BL (fun x aa=>h x (mem_of_mem_take aa)),length_take];omega
 have I:iM es=iM (es.take k)++(e.v++iM (es.drop (k+1))):=by
  conv=>lhs;rw[u]
  unfold iM;rw[flatMap_append,flatMap_cons]
 rw[I,drop_left' E,take_left' (h e (mem_of_getElem? hk))]
theorem GV(xs ys:List aG):iM (xs++ys)=iM xs++iM ys:=by unfold iM;rw[flatMap_append]
theorem Kz:(prog.info? 34).map (·.size)=some 68:=au
theorem GX:pO prog 24 34 68 112:=⟨underlying24,⟨_,_,(info_parts BJ).choose_spec.1,(info_parts BJ).choose_spec.2.1,(info_parts BJ).choose_spec.2.2.1,(info_parts BJ).choose_spec.2.2.2,F⟩,aX⟩
structure sK(w:World)(a:aN)(n c:Nat)(es:List aG):Prop where
 hl:es.length=n
 nc:n<=c
 n0:a=none->c=0
 ok:∀e∈es,e.Ok w
 cell:aK w a (iM es)
section
variable {w w':World} {a:aN} {n c:Nat} {es:List aG}
theorem sK.QJ(h:sK w a n c es):BK es:=fun e j=>aG.len (h.ok e j)
theorem sK.ext(h:sK w a n c es)(e:X w w'):sK w' a n c es:=⟨h.hl,h.nc,h.n0,fun x j=>(h.ok x j).ext e,h.cell.ext e⟩
theorem sK.at(h:sK w a n c es){k:Nat}{e:aG}(hk:es[k]? =some e):∃A,a=some A/\dP w (A.add (k*68)) e.v:=by
 have y9:=(List.getElem?_eq_some_iff.1 hk).1;obtain⟨b,o,rfl,hc⟩:=h.cell.gQ (by rw[BL h.QJ];omega);refine⟨_,F,fun j u E=> ?_⟩;rw[dn,dn,Nat.add_assoc];refine hc _ _ ?_;rw[<-YG h.QJ hk]at E;have I:j<68:=by
  have:=(List.getElem?_eq_some_iff.1 E).1;rw[length_take]at this;omega
 rw[List.getElem?_take_of_lt I,List.getElem?_drop]at E;exact E
end
noncomputable def kG(es:List aG):aj:=es.flatMap iZ
theorem YH{es:List aG}{k:Nat}{e:aG}(h:es[k]? =some e):kG (es.take (k+1))=kG (es.take k)++iZ e:=by simp_all [kG,take_add_one,flatMap_append]
theorem YI(es:List aG)(k:Nat):(kG (es.take k)).length<=(kG es).length:=by
 have:kG es=kG (es.take k)++kG (es.drop k):=by
  conv=>lhs;rw[<-take_append_drop k es]
  unfold kG;rw[flatMap_append]
 rw[this,length_append];omega
theorem QK(a:aN)(n c:Nat)(es:List aG)(w:World)(h:sK w a n c es)(aw:∀e∈es,dN e=0)(hn:n<=1000000)(mU:(kG es).length<=140737488355328):
 Calls prog 9 #[.slice a n c] w fun x w'=>∃v,x= .returned v/\w'.ownsRow w.heap.size 5 1 v (kG es).length ((kG es).map Y)/\X w w':=by
 obtain⟨I,HV,a1,a3⟩:=bU h aw mU (YI es);clear h aw mU;go_enter func9,ntmps9;go_wp2;go_loopw [3,10] (fun u i wr=>∃k:Nat,k<=n/\i= .int .i64 (k:Int)/\wr.ownsRow w.heap.size 5 1 u (kG (es.take k)).length ((kG (es.take k)).map Y)/\X w wr) (fun _ i _=>n - (intOf i).toNat)
 case atStart=>exact⟨0,J,F,⟨F,.inl ⟨F,F⟩⟩,X.refl _⟩
 case round=>
  obtain⟨k,hk,rfl,own,ap⟩:=hrel;obtain⟨j,OW⟩:=aB ap own;clear ap own;by_cases j3:k<n
  ·obtain⟨r,E⟩:∃r,es[k]? =some r:=⟨es[k]'(by rw[I.hl];exact j3),aF⟩;obtain⟨A,rfl,nu⟩:=(I.ext j).at E;obtain⟨rz,ac,a0⟩:=aW nu ((I.ext j).ok r (mem_of_getElem? E)) (HV r (mem_of_getElem? E));obtain⟨ad,nA,a2⟩:=aW (aG.len ac) (YH E) (a3 (k+1));clear nu E;go_wp2_with (first|(refine bF F (fP (i:=k) F F F underlying24 Kz j3 _) ?_)|(refine bF F (bQ F F rz cZ ad) ?_)|(refine bg F _ (.tmp 5) _ F F F (ah.aI (vs:=dS.v) F F) cZ dZ ad (i_ r) ?_));intro wB ao az;have R:X wr wB:=az.ext ((X.refl wr).alloc _) l5;obtain⟨ai,al,ab,an⟩:=bU ao (j.ext R) (ac.ext R) (dQ OW R);clear ao az R ac rz OW j;generalize wr.heap.size=be at*;go_wp2_with (refine bV F 34 (.tmp 5) F F ai cZ ad ?_);refine(QE r wB ab).mono ?_;rintro x bi ⟨af,⟨z,v,rfl,ow⟩|⟨z,rfl⟩⟩
   ·have aa:=O (al.ext af);have ae:=O (dQ an af);obtain⟨a6,a7,rfl,a8,a9,aq,ar⟩:=nT ow;obtain⟨am,ag⟩:=aB ar (show(iZ r).length=121+r.bn from GR ab);have aE:=O (show(kG (es.take k)).length+(121+r.bn)<=140737488355328 by
     have ba:=a2.out;rw[nA.out,length_append,ag.out]at ba;have bh:=a1.out;omega)
    have bc:=aa.size;have a_:a6=none->121+r.bn=0/\a7=0:=fun h=>by have:=aq h;omega
    clear ow z ar af al ab an ai a8 a9 aq;go_wp2_with (refine sH F _ _ F w.heap.size (ys:=iZ r) F F ae ag a_ am aE bc ?_);intro v' w' El C8;have ax:X w w':=aa.grown C8 (fun q bd=>(ae.lt q bd).1);obtain⟨a4,a5⟩:=aB ax (show w'.ownsRow w.heap.size 5 1 v' (kG (es.take (k+1))).length ((kG (es.take (k+1))).map Y) by rw[nA.out,length_append,ag.out,map_append];exact El);clear ax El C8 am ae aa;go_wp2;go_roundw
    case rel=>exact⟨k+1,J,by go_num,a5,a4⟩
    case measure=>simp[intOf];omega
   ·exact absurd a0.out z
  ·obtain rfl:k=n:=J;have om:es.take k=es:=take_of_length_le (by rw[I.hl];exact Nat.le_refl _);rw[om]at OW;go_wp2_with fail;go_ret;exact⟨_,F,OW,j⟩
end
section
open Go Go.RowKit Go.Maps Go.MapKept Go.WideShapes
set_option linter.unusedSectionVars false
structure GY{K:Type}(P:Program)(k:TypeId)(kv:K->Value)(good:K->Prop):Prop where
 keyed:Keyed P k
 key:∀x,good x->∃l,keyOf P k (kv x)=some l
 inj:∀x y,kv x=kv y->x=y
section Nz
variable {K V:Type} [DecidableEq K]
structure jc(good:K->Prop)(hs:List (K×V)):Prop where
 good:∀p∈hs,good p.1
 nodup:(hs.map Prod.fst).Nodup
theorem jc.nil{good:K->Prop}:jc good ([]:List (K×V)):=⟨aF,aF⟩
def jq(k:K)(hs:List (K×V)):Option Nat:=hs.findIdx? (fun p=>decide (p.1=k))
def bW(hs:List (K×V))(k:K):Option V:=match jq k hs with|some i=>hs[i]?.map Prod.snd|none=>none
def dU(hs:List (K×V))(k:K)(v:V):List (K×V):=match jq k hs with|some i=>hs.set i (k,v)|none=>hs++[(k,v)]
def iQ(hs:List (K×V))(k:K):List (K×V):=match jq k hs with|some i=>hs.eraseIdx i|none=>hs
theorem BM{k:K}{hs:List (K×V)}:jq k hs=none↔∀p∈hs,p.1≠k:=by grind [jq]
theorem QL{k:K}{hs:List (K×V)}{i:Nat}(h:jq k hs=some i):i<hs.length:=by grind [jq,List.findIdx?_eq_some_iff_getElem]
theorem zX{k:K}{hs:List (K×V)}{i:Nat}(h:jq k hs=some i):∃v,hs[i]? =some (k,v):=by grind [jq,QL,List.findIdx?_eq_some_iff_getElem,List.getElem?_eq_getElem]
theorem Em{hs:List (K×V)}(h:(hs.map Prod.fst).Nodup){i j:Nat}{k:K}{v u:V}(R:hs[i]? =some (k,v))(ab:hs[j]? =some (k,u)):i=j:=by
 have E:(hs.map Prod.fst)[i]? =some k:=by rw[List.getElem?_map,R];rfl
 have I:(hs.map Prod.fst)[j]? =some k:=by rw[List.getElem?_map,ab];rfl
 have aa:i<(hs.map Prod.fst).length:=(List.getElem?_eq_some_iff.1 E).1;exact(List.getElem?_inj aa h).1 (E.trans I.symm)
theorem En{hs:List (K×V)}(h:(hs.map Prod.fst).Nodup){j:Nat}{k:K}{v:V}(E:hs[j]? =some (k,v)):jq k hs=some j:=by
 cases I:jq k hs with
 |none=>exact absurd F (BM.1 I _ (mem_of_getElem? E))
 |some i=>
  obtain⟨u,R⟩:=zX I;rw[Em h R E]
theorem BN{α β:Type}{f:α->β}{l:List α}{i:Nat}{x y:α}(u:l[i]? =some x)(h:f x=f y):(l.set i y).map f=l.map f:=by
 rw[map_set,<-h];apply ext_getElem?;intro j;rw[List.getElem?_set];split
 ·rename_i e;subst e;split
  ·rw[List.getElem?_map,u];rfl
  ·rename_i E;rw[List.getElem?_eq_none J]
 ·rfl
theorem KA{α β:Type}(f:α->β)(l:List α)(i:Nat):(l.eraseIdx i).map f=(l.map f).eraseIdx i:=by simp_all [eraseIdx_eq_take_drop_succ,map_append,map_take,map_drop]
theorem xI{hs:List (K×V)}(h:(hs.map Prod.fst).Nodup){k:K}{v:V}(E:(k,v)∈hs):bW hs k=some v:=by
 obtain⟨j,u⟩:=List.getElem?_of_mem E;unfold bW;rw[En h u];simp[u]
theorem BO{hs:List (K×V)}{k:K}{v:V}(h:bW hs k=some v):(k,v)∈hs:=by
 unfold bW at h;cases j:jq k hs with
 |none=>rw[j]at h;cases h
 |some i=>
  obtain⟨u,E⟩:=zX j;rw[j]at h;simp only[E,Option.map_some,Option.some.injEq]at h;subst h;exact mem_of_getElem? E
theorem YJ{hs:List (K×V)}{k:K}:bW hs k=none↔∀p∈hs,p.1≠k:=by
 unfold bW;cases E:jq k hs with
 |none=>simp only[true_iff];exact BM.1 E
 |some i=>
  obtain⟨u,j⟩:=zX E;simp only[j,Option.map_some,reduceCtorEq,false_iff];intro h;exact h _ (mem_of_getElem? j) F
theorem YK{hs:List (K×V)}{k:K}:(bW hs k).isSome=(jq k hs).isSome:=by
 unfold bW;cases E:jq k hs with
 |none=>rfl
 |some i=>
  obtain⟨u,j⟩:=zX E;simp[j]
theorem jc.set{good:K->Prop}{hs:List (K×V)}(h:jc good hs){k:K}(v:V)(hk:good k):jc good (dU hs k v):=by
 unfold dU;cases I:jq k hs with
 |none=>
  refine⟨fun p E=> ?_,?_⟩
  ·rcases mem_append.1 E with j|j
   ·exact h.good p j
   ·simp at j;subst j;exact hk
  ·simp only[map_append,map_cons,map_nil];rw[nodup_append];refine⟨h.nodup,aF,fun a ha b hb=> ?_⟩;simp at hb;subst hb;obtain⟨p,E,rfl⟩:=mem_map.1 ha;exact BM.1 I p E
 |some i=>
  obtain⟨u,R⟩:=zX I;refine⟨fun p E=> ?_,?_⟩
  ·rcases mem_or_eq_of_mem_set E with j|j
   ·exact h.good p j
   ·subst j;exact hk
  ·have:(hs.set i (k,v)).map Prod.fst=hs.map Prod.fst:=BN R F;show((hs.set i (k,v)).map Prod.fst).Nodup;rw[this];exact h.nodup
theorem jc.sub{good:K->Prop}{hs j:List (K×V)}(h:jc good hs)(u:j.Sublist hs):jc good j:=by grind [jc]
theorem BP(hs:List (K×V))(k:K):(iQ hs k).Sublist hs:=by grind [iQ]
theorem jc.del{good:K->Prop}{hs:List (K×V)}(h:jc good hs)(k:K):jc good (iQ hs k):=h.sub (BP hs k)
theorem uo{hs:List (K×V)}(h:(hs.map Prod.fst).Nodup){k:K}{v:V}{p:K×V}:p∈dU hs k v↔p=(k,v)∨(p∈hs/\p.1≠k):=by
 unfold dU;cases aa:jq k hs with
 |none=>
  simp only[mem_append,mem_singleton]
  constructor
  ·rintro(E|E)
   ·exact .inr ⟨E,BM.1 aa p E⟩
   ·exact .inl E
  ·rintro(E|E)
   ·exact .inr E
   ·exact .inl E.1
 |some i=>
  obtain⟨u,R⟩:=zX aa;have ac:=(List.getElem?_eq_some_iff.1 R).1
  constructor
  ·intro ae;obtain⟨j,I⟩:=List.getElem?_of_mem ae;simp only[List.getElem?_set]at I;split at I
   ·first
     |exact .inl (Option.some.inj I).symm
     |(
      split at I
      ·exact .inl (Option.some.inj I).symm
      ·cases I)
   ·rename_i ad;refine .inr ⟨mem_of_getElem? I,fun e=>ad ?_⟩;obtain⟨af,ag⟩:=p;simp only at e;subst e;exact Em h R I
  ·rintro(E|⟨E,ab⟩)
   ·subst E;exact mem_of_getElem? (i:=i) (by simp[ac])
   ·obtain⟨j,I⟩:=List.getElem?_of_mem E;refine mem_of_getElem? (i:=j) ?_;simp only[List.getElem?_set];rw[if_neg,I];rintro rfl;rw[R]at I;exact ab (by rw[<-Option.some.inj I])
theorem YL{good:K->Prop}{hs:List (K×V)}(h:jc good hs){k j:K}(v:V)(hk:good k):bW (dU hs k v) j=if j=k then some v else bW hs j:=by grind [bW,jc,dU,xI,uo,YJ,BO]
end Nz
section
variable {P:Program} {K V:Type} [DecidableEq K] {kv:K->Value} {vv:V->Value} {good:K->Prop}
def f_(kv:K->Value)(vv:V->Value)(w:World)(g:Nat)(hs:List (K×V)):Prop:=
 ∃es j,w.heap[g]? =some (.map es j)/\es.toList.map (fun e=>(e.key,e.val))=hs.map (fun p=>(kv p.1,vv p.2))/\Stamped es j
theorem f_.lt{w:World}{g:Nat}{hs:List (K×V)}(h:f_ kv vv w g hs):g<w.heap.size:=by grind [f_]
theorem f_.keep{w w':World}{g:Nat}{hs:List (K×V)}(h:f_ kv vv w g hs)(e:w'.heap[g]? =w.heap[g]?):f_ kv vv w' g hs:=by grind [f_]
theorem f_.ext{w w':World}{g:Nat}{hs:List (K×V)}(h:f_ kv vv w g hs)(e:X w w'):f_ kv vv w' g hs:=h.keep (e.block g h.lt)
theorem f_.upd{w w':World}{g q:Nat}{hs:List (K×V)}(h:f_ kv vv w g hs)(u:aU w q w')(j:g≠q):f_ kv vv w' g hs:=h.keep (u.block g j)
theorem f_.grown{w w':World}{g:Nat}{hs:List (K×V)}{r:Option Nat}(h:f_ kv vv w g hs)(k:w.grownBy w' r)(j:some g≠r):f_ kv vv w' g hs:=h.keep (k.block g h.lt j)
theorem f_.new(w:World):f_ kv vv (w.alloc (.map #[] 0)) w.heap.size []:=⟨#[],0,by show(w.heap.push _)[w.heap.size]? =_;simp,F,stamped_empty 0⟩
theorem KC{es:Array MapEntry}{hs:List (K×V)}(h:es.toList.map (fun e=>(e.key,e.val))=hs.map (fun p=>(kv p.1,vv p.2))){j:Nat}{e:MapEntry}(I:es.toList[j]? =some e):∃k v,hs[j]? =some (k,v)/\e.key=kv k/\e.val=vv v:=by
 have u:(hs.map (fun p=>(kv p.1,vv p.2)))[j]? =some (e.key,e.val):=by rw[<-h,List.getElem?_map,I];rfl
 rw[List.getElem?_map]at u;cases E:hs[j]? with
 |none=>rw[E]at u;simp at u
 |some p=>
  rw[E]at u;simp only[Option.map_some,Option.some.injEq,Prod.mk.injEq]at u;exact⟨p.1,p.2,F,u.1.symm,u.2.symm⟩
variable {k:TypeId} (KV:GY P k kv good)
include KV
theorem YM{es:Array MapEntry}{hs:List (K×V)}(u:jc good hs)(h:es.toList.map (fun e=>(e.key,e.val))=hs.map (fun p=>(kv p.1,vv p.2))):∀e∈es.toList,∃l,keyOf P k e.key=some l:=fun e E=>by
 obtain⟨j,I⟩:=List.getElem?_of_mem E;obtain⟨x,v,R,hk,_⟩:=KC h I;rw[hk];exact KV.key x (u.good _ (mem_of_getElem? R))
theorem GZ{es:Array MapEntry}{hs:List (K×V)}(w:World)(ac:jc good hs)(h:es.toList.map (fun e=>(e.key,e.val))=hs.map (fun p=>(kv p.1,vv p.2))){x:K}(hk:good x):
 (jq x hs=none/\(Instr.findKey k (kv x) es.toList).run P w= .ok none w/\∀e∈es.toList,e.key≠kv x)∨
 ∃j e v,jq x hs=some j/\hs[j]? =some (x,v)/\es.toList[j]? =some e/\e.key=kv x/\e.val=vv v/\(Instr.findKey k (kv x) es.toList).run P w= .ok (some (j,vv v)) w:=by
 obtain⟨kl,ag⟩:=KV.key x hk;rcases KV.keyed.find w (x:=kv x) ag es.toList (YM KV ac h)with⟨R,E⟩|⟨j,e,R,E,ab⟩
 ·refine .inl ⟨BM.2 fun p I ai=> ?_,R,E⟩;obtain⟨j,ae⟩:=List.getElem?_of_mem I;have u:(es.toList.map (fun e=>(e.key,e.val)))[j]? =some (kv p.1,vv p.2):=by rw[h,List.getElem?_map,ae];rfl
  rw[List.getElem?_map]at u;cases aa:es.toList[j]? with
  |none=>rw[aa]at u;simp at u
  |some e=>
   rw[aa]at u;simp only[Option.map_some,Option.some.injEq,Prod.mk.injEq]at u;exact E e (mem_of_getElem? aa) (by rw[u.1,ai])
 ·obtain⟨al,v,I,af,ad⟩:=KC h E;obtain rfl:al=x:=KV.inj _ _ (af.symm.trans ab);exact .inr ⟨j,e,v,En ac.nodup I,I,E,ab,ad,by rw[R,ad]⟩
theorem yM(w:World)(j:Bool){x:K}(hk:good x):(Instr.checkKey j 10000 k (kv x)).run P w= .ok () w:=by
 obtain⟨kl,u⟩:=KV.key x hk;exact KV.keyed.check w j u
variable {t e:TypeId} (ht:P.underlying t=some (.map k e)) {w:World} {g:Nat} {hs:List (K×V)} {x:K}
include ht
def Eo(vv:V->Value)(z:Value)(o:Option V):Value:=match o with|some v=>vv v|none=>z
theorem G9{z:Value}(ac:(zeroValue e).run P w= .ok z w)(h:f_ kv vv w g hs)(aa:jc good hs)(hk:good x)(c:Bool):
 (Instr.lookup t (.map (some g)) (kv x) c).run P w= .ok (if c then .tuple #[Eo vv z (bW hs x),.bool (bW hs x).isSome]else Eo vv z (bW hs x)) w:=by
 obtain⟨es,ad,hb,ab,af⟩:=h;rcases GZ KV w aa ab hk with⟨u,E,_⟩|⟨j,ae,v,u,E,_,_,_,R⟩
 ·have I:bW hs x=none:=by unfold bW;rw[u]
  rw[I];simp[Instr.lookup,run_underlying ht,MapKept.run_getObj_map hb,yM KV w _ hk,E,ac,Result.andThen,Eo];all_goals (cases c<;>rfl)
 ·have I:bW hs x=some v:=by unfold bW;rw[u];simp[E]
  rw[I];simp[Instr.lookup,run_underlying ht,MapKept.run_getObj_map hb,yM KV w _ hk,R,Result.andThen,Eo];all_goals (cases c<;>rfl)
omit KV in
theorem YN{ty:TypeId}(h:f_ kv vv w g hs):(Builtin.len_ #[t] ty #[.map (some g)]).run P w= .ok (.int .i64 (hs.length:Int)) w:=by
 obtain⟨es,c,hb,u,E⟩:=h;have j:es.size=hs.length:=by have:=congrArg List.length u;simpa using this
 simp[Builtin.len_,run_underlying ht,MapKept.run_getObj_map hb,j,goInt]
omit KV ht in
theorem yN(w:World)(g:Nat)(o:Obj):aU w g {w with heap:=w.heap.setIfInBounds g o}:=by grind [aU]
omit KV ht in
theorem BQ{w:World}{g:Nat}(j:g<w.heap.size)(o:Obj):({w with heap:=w.heap.setIfInBounds g o}:World).heap[g]? =some o:=by grind
theorem zY{v:V}(h:f_ kv vv w g hs)(an:jc good hs)(hk:good x):
 ∃w',(Instr.mapUpdate t (.map (some g)) (kv x) (vv v)).run P w= .ok () w'/\aU w g w'/\f_ kv vv w' g (dU hs x v):=by
 have af:=h.lt;obtain⟨es,aw,hb,ac,ag⟩:=h;obtain⟨kl,ap⟩:=KV.key x hk;rcases GZ KV w an ac hk with⟨aa,ad,am⟩|⟨j,I,u,aa,ad,E,ae,ax,al⟩
 ·refine⟨_,by simp[Instr.mapUpdate,run_underlying ht,MapKept.run_getObj_map hb,yM KV w _ hk,ad,MapKept.run_setObj_map _ hb,Result.andThen];rfl,yN _ _ _,⟨_,_,BQ af _,?_,stamped_push ag am⟩⟩;unfold dU;rw[aa];simp[ac]
 ·have ao:es[j]? =some I:=by simpa using E
  refine⟨_,by simp[Instr.mapUpdate,run_underlying ht,MapKept.run_getObj_map hb,yM KV w _ hk,al,ao,ae,KV.keyed.stays w (v:=kv x) ap,MapKept.run_setObj_map _ hb,Result.andThen];rfl,yN _ _ _,⟨_,_,BQ af _,?_,?_⟩⟩
  ·unfold dU;rw[aa,Array.toList_modify,ChangeMaps.modify_eq_set _ _ _ _ E,map_set,ac,map_set]
  ·obtain⟨ai,aq,ar⟩:=ag;refine⟨fun y R=> ?_,?_,?_⟩
   ·rw[Array.toList_modify,ChangeMaps.modify_eq_set _ _ _ _ E]at R;rcases mem_or_eq_of_mem_set R with R|rfl
    ·exact ai y R
    ·exact ai I (mem_of_getElem? E)
   ·rw[Array.toList_modify,ChangeMaps.modify_eq_set _ _ _ _ E];have ab:(es.toList.set j {I with key:=kv x,val:=vv v}).map (·.born)=es.toList.map (·.born):=BN E F;exact ab▸aq
   ·rw[Array.toList_modify,ChangeMaps.modify_eq_set _ _ _ _ E];have ab:(es.toList.set j {I with key:=kv x,val:=vv v}).map (·.key)=es.toList.map (·.key):=BN E ae;exact ab▸ar
theorem KD{ty:TypeId}(h:f_ kv vv w g hs)(af:jc good hs)(hk:good x):
 ∃w',(Builtin.delete_ #[t,k] ty #[.map (some g),kv x]).run P w= .ok (.tuple #[]) w'/\aU w g w'/\f_ kv vv w' g (iQ hs x):=by
 have ac:=h.lt;obtain⟨es,an,hb,R,ad⟩:=h;rcases GZ KV w af R hk with⟨E,aa,ap⟩|⟨j,ao,u,E,aa,ab,aq,ar,ae⟩
 ·refine⟨_,by simp[Builtin.delete_,run_underlying ht,MapKept.run_getObj_map hb,yM KV w _ hk,aa,MapKept.run_setObj_map _ hb,Result.andThen],yN _ _ _,⟨_,_,BQ ac _,?_,ad⟩⟩;unfold iQ;rw[E];exact R
 ·refine⟨_,by simp[Builtin.delete_,run_underlying ht,MapKept.run_getObj_map hb,yM KV w _ hk,ae,MapKept.run_setObj_map _ hb,Result.andThen];rfl,yN _ _ _,⟨_,_,BQ ac _,?_,?_⟩⟩
  ·unfold iQ;rw[E];simp only[Array.eraseIdxIfInBounds,dif_pos (show j<es.size by have:=(List.getElem?_eq_some_iff.1 ab).1;simpa using this),Array.toList_eraseIdx,KA,R]
  ·obtain⟨ai,al,am⟩:=ad;have I:(es.eraseIdxIfInBounds j).toList.Sublist es.toList:=by
    simp only[Array.eraseIdxIfInBounds,dif_pos (show j<es.size by have:=(List.getElem?_eq_some_iff.1 ab).1;simpa using this),Array.toList_eraseIdx];exact eraseIdx_sublist _ _
   exact⟨fun y ag=>ai y (I.mem ag),al.sublist (I.map _),am.sublist (I.map _)⟩
end
end
section
open Go Go.RowKit Go.Maps Go.MapKept Go.WideShapes
set_option linter.unusedSectionVars false
open Go.ChangeMaps (setBlock)
section
variable {P:Program} {K V:Type} [DecidableEq K] {kv:K->Value} {vv:V->Value} {good:K->Prop}
def gJ(kv:K->Value)(vv:V->Value)(w:World)(g r:Nat)(hs:List (K×V))(lf:List K):Prop:=
 ∃es u j I E,w.heap[g]? =some (.map es u)/\es.toList.map (fun e=>(e.key,e.val))=hs.map (fun p=>(kv p.1,vv p.2))/\Stamped es u/\
  w.heap[r]? =some (.mapIter (some g) j I E)/\(∀x∈es.toList,x.born<j)/\j<=E/\j<=u/\(leftOf es I).toList.map (·.key)=lf.map kv
theorem gJ.map{w:World}{g r:Nat}{hs:List (K×V)}{lf:List K}(h:gJ kv vv w g r hs lf):f_ kv vv w g hs:=by grind [gJ,f_]
theorem gJ.lt{w:World}{g r:Nat}{hs:List (K×V)}{lf:List K}(h:gJ kv vv w g r hs lf):r<w.heap.size:=by grind [gJ]
theorem gJ.ne{w:World}{g r:Nat}{hs:List (K×V)}{lf:List K}(h:gJ kv vv w g r hs lf):r≠g:=by grind [gJ]
theorem gJ.keep{w w':World}{g r:Nat}{hs:List (K×V)}{lf:List K}(h:gJ kv vv w g r hs lf)(E:w'.heap[g]? =w.heap[g]?)(I:w'.heap[r]? =w.heap[r]?):gJ kv vv w' g r hs lf:=by
 obtain⟨es,u,ae,ad,j,hb,R,ac,aa,ab⟩:=h;exact⟨es,u,ae,ad,j,E.trans hb,R,ac,I.trans aa,ab⟩
theorem gJ.ext{w w':World}{g r:Nat}{hs:List (K×V)}{lf:List K}(h:gJ kv vv w g r hs lf)(e:X w w'):gJ kv vv w' g r hs lf:=h.keep (e.block g h.map.lt) (e.block r h.lt)
theorem gJ.upd{w w':World}{g r q:Nat}{hs:List (K×V)}{lf:List K}(h:gJ kv vv w g r hs lf)(u:aU w q w')(j:g≠q)(E:r≠q):gJ kv vv w' g r hs lf:=h.keep (u.block g j) (u.block r E)
theorem gJ.grown{w w':World}{g r:Nat}{hs:List (K×V)}{lf:List K}{q:Option Nat}(h:gJ kv vv w g r hs lf)(k:w.grownBy w' q)(j:some g≠q)(u:some r≠q):gJ kv vv w' g r hs lf:=h.keep (k.block g h.map.lt j) (k.block r h.lt u)
end
section
theorem YO{es:Array MapEntry}{j:Array Nat}{e:MapEntry}(hn:(es.toList.map (·.born)).Nodup)(ac:e∈(leftOf es j).toList):
 ∃A B,(leftOf es j).toList=A++e::B/\(leftOf es (j.push e.born)).toList=A++B:=by
 obtain⟨A,B,R⟩:=append_of_mem ac;have I:(leftOf es (j.push e.born)).toList=(leftOf es j).toList.filter (fun x=>x.born != e.born):=by
  unfold leftOf;rw[Array.toList_filter,Array.toList_filter,filter_filter];apply filter_congr;intro x _;rw[contains_push];cases j.contains x.born<;>cases u:(x.born==e.born)<;>simp_all
 have E:((leftOf es j).toList.map (·.born)).Nodup:=by
  unfold leftOf;rw[Array.toList_filter];exact hn.sublist ((filter_sublist).map _)
 rw[R]at E I;rw[map_append,map_cons,nodup_append]at E;obtain⟨af,n2,ae⟩:=E;have aa:∀x∈A,(x.born != e.born)=true:=fun x u=>by
  have:=ae x.born (mem_map.2 ⟨x,u,F⟩) e.born aF;simpa using this
 have ab:∀x∈B,(x.born != e.born)=true:=fun x u=>by
  rw[nodup_cons]at n2;have:x.born≠e.born:=fun ad=>n2.1 (ad▸mem_map.2 ⟨x,u,F⟩);simpa using this
 refine⟨A,B,R,?_⟩;rw[I,filter_append,filter_cons,filter_eq_self.2 aa,filter_eq_self.2 ab];simp
end
section
variable {P:Program} {K V:Type} [DecidableEq K] {kv:K->Value} {vv:V->Value} {good:K->Prop}
variable {ops:Array Oper} {rest:List Oper} {o:Oper} {a:Act} {w:World} {Q:Exit->Act->World->Prop}
theorem zZ(ac:o.guard=none)(t k e:TypeId)(ht:P.underlying t=some (.map k e))(m:Operand)(ae:o.op= .range t m){g:Nat}{hs:List (K×V)}(ad:a.eval m= .map (some g))(h:f_ kv vv w g hs)
 (aa:∀w',gJ kv vv w' g w.heap.size hs (hs.map Prod.fst)->X w w'->w'.heap.size=w.heap.size+1->wpList P ops Q rest (a.put o.dst (.pointer (some ⟨w.heap.size,0,none⟩))) w'):wpList P ops Q (o::rest) a w:=by
 have j3:=h.lt;obtain⟨es,j,hb,u,E⟩:=h;have af:=run_range_map (P:=P) w t k e g es j ht hb;refine wpList_plain ac fun ag ab=> ?_;unfold Oper.wp;simp[execOp,ae,ad,af,Result.andThen];refine ab _ _ (aa _ ⟨es,j,j,#[],j,((MapKept.heap_alloc w _).2 g j3).trans hb,u,E,(MapKept.heap_alloc w _).1,E.1,Nat.le_refl _,Nat.le_refl _,?_⟩ ((X.refl w).alloc _) aF);have I:(leftOf es #[]).toList=es.toList:=by
  unfold leftOf;rw[Array.toList_filter];exact filter_eq_self.2 (fun _ _=>by simp)
 rw[I];have R:(es.toList.map (fun e=>(e.key,e.val))).map Prod.fst=(hs.map (fun p=>(kv p.1,vv p.2))).map Prod.fst:=by rw[u]
 simpa[Function.comp_def]using R
theorem z_(be:o.guard=none)(bi:∀x y,kv x=kv y->x=y)(a4:Operand)(aE:o.op= .next a4 false){g r:Nat}{hs:List (K×V)}{lf:List K}(ax:a.eval a4= .pointer (some ⟨r,0,none⟩))(h:gJ kv vv w g r hs lf)
 (ba:lf=[]->wpList P ops Q rest (a.put o.dst (.tuple #[.bool false])) w)
 (bc:∀(x:K) (v:V) (w':World) (am:List K),(x,v)∈hs->lf.Perm (x::am)->lf.length=am.length+1->gJ kv vv w' g r hs am->aU w r w'->(Instr.entry (.pointer (some ⟨r,0,none⟩))).run P w'= .ok (.tuple #[kv x,vv v]) w'->
  wpList P ops Q rest (a.put o.dst (.tuple #[.bool true,kv x,vv v])) w'):wpList P ops Q (o::rest) a w:=by
 have bl:=h.ne;obtain⟨es,u,R,E,ao,hb,a0,al,a1,az,bp,a2,ac⟩:=h;refine wpList_plain be fun bu ap=> ?_;unfold Oper.wp;rcases run_next_at (P:=P) w o.type r g R ao E es u a1 hb az bp with⟨a6,ad⟩|⟨e,ar,an,ag,ad⟩
 ·have bk:lf=[]:=by
   have aa:(leftOf es E).toList=[]:=by simpa using a6
   rw[aa]at ac;simpa using ac.symm
  simp[execOp,aE,ax,ad,Result.andThen];exact ap _ _ (ba bk)
 ·obtain⟨aw,bv⟩:=mem_left ar;obtain⟨j,bj⟩:=List.getElem?_of_mem aw;obtain⟨x,v,bm,ai,a3⟩:=KC a0 bj;obtain⟨A,B,a9,a_⟩:=YO al.2.1 ar;have bo:an.heap[r]? =some (.mapIter (some g) R E ao):=by rcases ag with rfl|rfl<;>exact a1
  have bd:an.heap[g]? =some (.map es u):=by rcases ag with rfl|rfl<;>exact hb
  have ae:=heap_set (o':= .mapIter (some g) R (E.push e.born) u) bo;have aq:(setBlock an r (.mapIter (some g) R (E.push e.born) u)).heap[g]? =some (.map es u):=(ae.2 g (fun a5=>bl a5.symm)).trans bd;have br:∃I ab,lf=I++x::ab/\A.map (·.key)=I.map kv/\B.map (·.key)=ab.map kv:=by
   rw[a9,map_append,map_cons]at ac;obtain⟨I,ab,rfl,aa,af⟩:=map_eq_append_iff.1 ac.symm;obtain⟨y,bt,rfl,a7,a8⟩:=map_eq_cons_iff.1 af;obtain rfl:y=x:=bi _ _ (a7.trans ai);exact⟨I,bt,F,aa.symm,a8.symm⟩
  obtain⟨I,ab,rfl,aa,af⟩:=br;rw[ai,a3]at ad;simp[execOp,aE,ax,ad,Result.andThen];refine ap _ _ (bc x v _ (I++ab) (mem_of_getElem? bm) perm_middle (by simp only[length_append,length_cons];omega) ⟨es,u,R,E.push e.born,u,aq,a0,al,ae.1,az,a2,a2,by rw[a_,map_append,aa,af,map_append]⟩ ?_ ?_)
  ·rcases ag with rfl|rfl<;>exact⟨F,F,F,by simp[setBlock],fun i bh=>ae.2 i bh⟩
  ·have:=run_entry_at (P:=P) _ r g R E es u e ae.1 aq aw al.2.1;rw[ai,a3]at this;exact this
end
section
variable {P:Program} {K V:Type} [DecidableEq K] {kv:K->Value} {vv:V->Value} {good:K->Prop}
variable {k:TypeId} (KV:GY P k kv good) {t e:TypeId} (ht:P.underlying t=some (.map k e)) {w:World} {g r:Nat} {hs:List (K×V)} {lf:List K} {x:K}
include KV ht
theorem YP{ty:TypeId}(h:gJ kv vv w g r hs lf)(az:jc good hs)(hk:good x)(a5:x∉lf):
 ∃w',(Builtin.delete_ #[t,k] ty #[.map (some g),kv x]).run P w= .ok (.tuple #[]) w'/\aU w g w'/\gJ kv vv w' g r (iQ hs x) lf:=by
 have am:=h.ne;have al:=h.map.lt;obtain⟨es,ba,be,aa,a_,hb,af,ar,ao,an,ap,aq,ad⟩:=h;rcases GZ KV w az af hk with⟨ab,ag,bc⟩|⟨j,E,u,ab,ag,ac,ax,bd,aw⟩
 ·refine⟨_,by simp[Builtin.delete_,run_underlying ht,MapKept.run_getObj_map hb,yM KV w _ hk,ag,MapKept.run_setObj_map _ hb,Result.andThen],yN _ _ _,⟨_,_,_,_,_,BQ al _,?_,ar,((yN w g _).block r am).trans ao,an,ap,aq,ad⟩⟩;unfold iQ;rw[ab];exact af
 ·have a1:j<es.size:=by have:=(List.getElem?_eq_some_iff.1 ac).1;simpa using this
  have ae:(es.eraseIdxIfInBounds j).toList=es.toList.eraseIdx j:=by
   simp only[Array.eraseIdxIfInBounds,dif_pos a1,Array.toList_eraseIdx]
  have R:(es.eraseIdxIfInBounds j).toList.Sublist es.toList:=by rw[ae];exact eraseIdx_sublist _ _
  refine⟨_,by simp[Builtin.delete_,run_underlying ht,MapKept.run_getObj_map hb,yM KV w _ hk,aw,MapKept.run_setObj_map _ hb,Result.andThen],yN _ _ _,⟨_,_,_,_,_,BQ al _,?_,?_,((yN w g _).block r am).trans ao,fun y I=>an y (R.mem I),ap,aq,?_⟩⟩
  ·unfold iQ;rw[ab];simp only[ae,KA,af]
  ·obtain⟨a7,a8,a9⟩:=ar;exact⟨fun y I=>a7 y (R.mem I),a8.sublist (R.map _),a9.sublist (R.map _)⟩
  ·rw[<-ad];unfold leftOf;rw[Array.toList_filter,Array.toList_filter,ae];have a3:aa.contains E.born=true:=by
    cases hs:aa.contains E.born with
    |true=>rfl
    |false=>
     exfalso;have a2:E∈(leftOf es aa).toList:=by
      unfold leftOf;rw[Array.toList_filter,mem_filter];refine⟨mem_of_getElem? ac,?_⟩;simpa using hs
     have y9:kv x∈lf.map kv:=by rw[<-ad,<-ax];exact mem_map.2 ⟨E,a2,F⟩
     obtain⟨y,I,a6⟩:=mem_map.1 y9;exact a5 (KV.inj _ _ a6▸I)
   congr 1
   have a4:es.toList=es.toList.take j++E::es.toList.drop (j+1):=by
    obtain⟨a0,aE⟩:=List.getElem?_eq_some_iff.1 ac;have ai:=(take_append_drop j es.toList).symm;rw[drop_eq_getElem_cons a0,aE]at ai;exact ai
   rw[eraseIdx_eq_take_drop_succ]
   conv=>rhs;rw[a4]
   rw[filter_append,filter_append,filter_cons];have:(!aa.contains E.born)=false:=by rw[a3];rfl
   simp only[this,Bool.false_eq_true,if_false]
end
end
end Go.Proofs.YtjlhhnkhcbpnjaaGreatDoor
