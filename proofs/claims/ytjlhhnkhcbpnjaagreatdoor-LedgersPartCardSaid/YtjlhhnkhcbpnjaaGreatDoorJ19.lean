/- Laws that the row leans on; no condition. -/
import Derived.Test.YtjlhhnkhcbpnjaaGreatDoorJ18
namespace Go.Proofs.YtjlhhnkhcbpnjaaGreatDoor
open Go Go.RowKit List Tryz
set_option linter.unusedVariables false
set_option linter.unusedSectionVars false
set_option linter.unusedSimpArgs false
set_option maxHeartbeats 40000000
set_option maxRecDepth 100000
theorem R_(j u:aT)(a b:aN)(n m c d:Nat)(w:World)(a1:j.length=n)(a2:u.length=m)(hn:n<=140737488355328)(ha:aK w a (j.map bM))(hb:aK w b (u.map bM)):
 Calls prog 229 #[.slice a n c,.slice b m d] w fun e w'=>e= .returned (.bool (decide (j=u)))/\X w w':=by
 obtain⟨ad,ae,a6,a7⟩:=bU a1 a2 ha hb;obtain⟨ag,ai⟩:=aC (decide (j=u));rw[ai];have af:=O ai;clear a1 a2 ha hb ai;by_cases an:n≠m
 ·have g1:((n:Int) != (m:Int))=true:=by simp;omega
  have bd:decide ((n:Int)=(m:Int))=false:=aP J;have g3:decide (n=m)=false:=aP an;have ac:=O (show ag=false by
   rw[<-af.out];exact aP (fun e=>an (by rw[<-ad.out,<-ae.out,e])))
  go_enter func229,ntmps229;go_wp2_with fail;go_ret;exact⟨by rw[ac.out];rfl,X.refl _⟩
 obtain rfl:n=m:=J;clear an;go_enter func229,ntmps229;go_wp2_with fail;go_loopw [13] (fun i wr=>∃k:Nat,k<=n/\i= .int .i64 (k:Int)/\Hid (j.take k=u.take k)/\X w wr) (fun i _=>n - (intOf i).toNat)
 case atStart=>exact⟨0,J,F,O aF,X.refl _⟩
 case round=>
  obtain⟨k,hk,rfl,ao,az⟩:=hrel;have R:=O az;clear az;by_cases am:k<n
  ·have a_:decide ((k:Int)<(n:Int))=true:=aQ J;have bc:decide (k<n)=true:=aQ am;obtain⟨x,aq⟩:∃x,j[k]? =some x:=⟨j[k]'(by rw[ad.out];omega),List.getElem?_eq_getElem _⟩;obtain⟨y,ar⟩:∃y,u[k]? =some y:=⟨u[k]'(by rw[ae.out];omega),List.getElem?_eq_getElem _⟩;obtain⟨A,rfl,aE⟩:=zC a6 aq;obtain⟨ba,rfl,a0⟩:=zC a7 ar;obtain⟨a4,a5,aw,ax⟩:=bU (gW aE R) (gW a0 R) aq ar;clear aE a0 aq ar;go_upto_region 6 with(fail);obtain⟨C,aa,aJ⟩:=jJ wr;refine wp_region_held_drew (S:=C) au ((aa _).2 (X.refl wr).drew) (fun Z=> ?_);refine aA 0 ?_;refine aA 1 ?_;refine bD 2 F (bf F (fun E _=>fP (i:=k) F F F underlying98 tV am E)) ?_;refine bD 3 F (bf F (fun E h=>kT F F (gW a4 ((aa E).1 h)) oO)) ?_;refine aA 4 ?_;refine aA 5 ?_;refine bD 6 F (bf F (fun E _=>fP (i:=k) F F F underlying98 tV am E)) ?_;refine bD 7 F (bf F (fun E h=>kT F F (gW a5 ((aa E).1 h)) oO)) ?_;have a3:=Am x y;by_cases I:x=y
   ·rw[aQ I]at a3;have a8:=O (show j.take (k+1)=u.take (k+1) by rw[take_add_one,take_add_one,aw.out,ax.out,ao.out,I]);clear I;refine aA 8 ?_;refine dH ?_;have ap:=(aa _).1 Z;go_wp2_with fail;go_roundw
    case rel=>exact⟨k+1,J,by go_num,a8,R.ext ap⟩
    case measure=>simp[intOf];omega
   ·rw[aP I]at a3;have ac:=O (show ag=false by
     rw[<-af.out];exact aP (fun e=>I (by
      have ab:=aw.out;rw[e,ax.out]at ab;injection ab with ab;exact ab.symm)))
    clear I;refine aA 8 ?_;refine dH ?_;have ap:=(aa _).1 Z;go_wp2_with fail;go_ret;exact⟨by rw[ac.out];rfl,R.ext ap⟩
  ·obtain rfl:k=n:=J;have a_:decide ((k:Int)<(k:Int))=false:=aP J;have al:=ao.out;rw[take_of_length_le (by rw[ad.out];exact Nat.le_refl _),take_of_length_le (by rw[ae.out];exact Nat.le_refl _)]at al;have a9:=O (show ag=true by rw[<-af.out];exact aQ al);clear al ao;go_wp2_with fail;go_ret;exact⟨by rw[a9.out];rfl,R⟩
theorem Z'(j u:List Int)(a b:aN)(n m c d:Nat)(w:World)(a1:j.length=n)(a2:u.length=m)(hn:n<=140737488355328)(ha:aK w a (j.map lN))(hb:aK w b (u.map lN)):
 Calls prog 230 #[.slice a n c,.slice b m d] w fun e w'=>e= .returned (.bool (decide (j=u)))/\X w w':=by
 obtain⟨ad,ae,a6,a7⟩:=bU a1 a2 ha hb;obtain⟨ag,ai⟩:=aC (decide (j=u));rw[ai];have af:=O ai;clear a1 a2 ha hb ai;by_cases an:n≠m
 ·have g1:((n:Int) != (m:Int))=true:=by simp;omega
  have bd:decide ((n:Int)=(m:Int))=false:=aP J;have g3:decide (n=m)=false:=aP an;have ac:=O (show ag=false by
   rw[<-af.out];exact aP (fun e=>an (by rw[<-ad.out,<-ae.out,e])))
  go_enter func230,ntmps230;go_wp2_with fail;go_ret;exact⟨by rw[ac.out];rfl,X.refl _⟩
 obtain rfl:n=m:=J;clear an;go_enter func230,ntmps230;go_wp2_with fail;go_loopw [13] (fun i wr=>∃k:Nat,k<=n/\i= .int .i64 (k:Int)/\Hid (j.take k=u.take k)/\X w wr) (fun i _=>n - (intOf i).toNat)
 case atStart=>exact⟨0,J,F,O aF,X.refl _⟩
 case round=>
  obtain⟨k,hk,rfl,ao,az⟩:=hrel;have R:=O az;clear az;by_cases am:k<n
  ·have a_:decide ((k:Int)<(n:Int))=true:=aQ J;have bc:decide (k<n)=true:=aQ am;obtain⟨x,aq⟩:∃x,j[k]? =some x:=⟨j[k]'(by rw[ad.out];omega),List.getElem?_eq_getElem _⟩;obtain⟨y,ar⟩:∃y,u[k]? =some y:=⟨u[k]'(by rw[ae.out];omega),List.getElem?_eq_getElem _⟩;obtain⟨A,rfl,aE⟩:=RY a6 aq;obtain⟨ba,rfl,a0⟩:=RY a7 ar;obtain⟨a4,a5,aw,ax⟩:=bU (gW aE R) (gW a0 R) aq ar;clear aE a0 aq ar;go_upto_region 6 with(fail);obtain⟨C,aa,aJ⟩:=jJ wr;refine wp_region_held_drew (S:=C) au ((aa _).2 (X.refl wr).drew) (fun Z=> ?_);refine aA 0 ?_;refine aA 1 ?_;refine bD 2 F (bf F (fun E _=>fP (i:=k) F F F underlying106 RZ am E)) ?_;refine bD 3 F (bf F (fun E h=>kT F F (gW a4 ((aa E).1 h)) BR)) ?_;refine aA 4 ?_;refine aA 5 ?_;refine bD 6 F (bf F (fun E _=>fP (i:=k) F F F underlying106 RZ am E)) ?_;refine bD 7 F (bf F (fun E h=>kT F F (gW a5 ((aa E).1 h)) BR)) ?_;have a3:=show((x==y)=decide (x=y))from F;by_cases I:x=y
   ·rw[aQ I]at a3;have a8:=O (show j.take (k+1)=u.take (k+1) by rw[take_add_one,take_add_one,aw.out,ax.out,ao.out,I]);clear I;refine aA 8 ?_;refine dH ?_;have ap:=(aa _).1 Z;go_wp2_with fail;go_roundw
    case rel=>exact⟨k+1,J,by go_num,a8,R.ext ap⟩
    case measure=>simp[intOf];omega
   ·rw[aP I]at a3;have ac:=O (show ag=false by
     rw[<-af.out];exact aP (fun e=>I (by
      have ab:=aw.out;rw[e,ax.out]at ab;injection ab with ab;exact ab.symm)))
    clear I;refine aA 8 ?_;refine dH ?_;have ap:=(aa _).1 Z;go_wp2_with fail;go_ret;exact⟨by rw[ac.out];rfl,R.ext ap⟩
  ·obtain rfl:k=n:=J;have a_:decide ((k:Int)<(k:Int))=false:=aP J;have al:=ao.out;rw[take_of_length_le (by rw[ad.out];exact Nat.le_refl _),take_of_length_le (by rw[ae.out];exact Nat.le_refl _)]at al;have a9:=O (show ag=true by rw[<-af.out];exact aQ al);clear al ao;go_wp2_with fail;go_ret;exact⟨by rw[a9.out];rfl,R⟩
def vG(x y:aS):Bool:=decide (x.deny=y.deny)&&decide (x.roles=y.roles)&&decide (x.acts=y.acts)&&decide (x.labels=y.labels)&&decide (x.fr=y.fr)&&decide (x.tt=y.tt)&&decide (x.nd=y.nd)&&decide (x.ow=y.ow)
def jY:List aS->List aS->Bool
 |[],[]=>true
 |x::xs,y::ys=>vG x y&&jY xs ys
 |_,_=>false
theorem Si:∀xs ys:List aS,jY xs (ys.map aS.bare)=jY xs ys
 |[],[]=>rfl
 |[],_::_=>rfl
 |_::_,[]=>rfl
 |x::xs,y::ys=>by
  show(vG x y.bare&&jY xs (ys.map aS.bare))=(vG x y&&jY xs ys);rw[Si xs ys];rfl
theorem Sj:∀{xs ys:List aS},jY xs ys=true->xs.length=ys.length
 |[],[],_=>rfl
 |[],_::_,h=>by cases h
 |_::_,[],h=>by cases h
 |x::xs,y::ys,h=>by
  simp only[jY,Bool.and_eq_true]at h;simp[Sj h.2]
theorem aac{xs ys:List aS}{k:Nat}{x y:aS}(j:xs[k]? =some x)(u:ys[k]? =some y)(h:vG x y=false):jY xs ys=false:=by
 induction k generalizing xs ys with
 |zero=>
  cases xs<;>cases ys<;>simp_all [jY]
 |succ k E=>
  cases xs with
  |nil=>simp at j
  |cons p I=>
   cases ys with
   |nil=>simp at u
   |cons q R=>
    simp only[List.getElem?_cons_succ]at j u;simp[jY,E j u]
theorem Sm:∀{xs ys:List aS},xs.length=ys.length->(∀(k:Nat) (x y:aS),xs[k]? =some x->ys[k]? =some y->vG x y=true)->jY xs ys=true
 |[],[],_,_=>rfl
 |[],_::_,h,_=>by simp at h
 |_::_,[],h,_=>by simp at h
 |x::xs,y::ys,h,hk=>by
  simp only[jY,Bool.and_eq_true];exact⟨hk 0 x y F F,Sm (by simpa using h) fun k a b ha hb=>hk (k+1) a b (by simpa using ha) (by simpa using hb)⟩
theorem aad(x y:aS)(w:World)(ab:x.Ok w)(a2:y.Ok w):
 Calls prog 228 #[.agg x.v.toArray,.agg y.v.toArray] w fun e w'=>e= .returned (.bool (vG x y))/\X w w':=by
 obtain⟨I,R⟩:=aB ab a2;have ba:=ab.rm;have bc:=ab.am;have bd:=ab.lm;have be:(x.deny==y.deny)=decide (x.deny=y.deny):=F;have bu:(x.fr==y.fr)=decide (x.fr=y.fr):=F;have bv:(x.tt==y.tt)=decide (x.tt=y.tt):=F;have bw:(x.nd==y.nd)=decide (x.nd=y.nd):=F;have bx:=Am x.ow y.ow;obtain⟨az,aE,a0⟩:=aW (fun E (h:X w E)=>R_ x.roles y.roles x.ra y.ra x.rn y.rn x.rc y.rc E I.rl R.rl J (I.nU.ext h) (R.nU.ext h)) (fun E (h:X w E)=>Z' x.acts y.acts x.aa y.aa x.an y.an x.ac y.ac E I.al R.al J (I.mF.ext h) (R.mF.ext h)) (fun E (h:X w E)=>R_ x.labels y.labels x.la y.la x.ln y.ln x.lc y.lc E I.ll R.ll J (I.sN.ext h) (R.sN.ext h));have a1:vG x y=(decide (x.deny=y.deny)&&decide (x.roles=y.roles)&&decide (x.acts=y.acts)&&decide (x.labels=y.labels)&&decide (x.fr=y.fr)&&decide (x.tt=y.tt)&&decide (x.nd=y.nd)&&decide (x.ow=y.ow)):=F;rw[a1];clear a1 ab a2 ba bc bd;generalize decide (x.deny=y.deny)=a3 at*;generalize decide (x.roles=y.roles)=a4 at*;generalize decide (x.acts=y.acts)=a5 at*;generalize decide (x.labels=y.labels)=a6 at*;generalize decide (x.fr=y.fr)=a7 at*;generalize decide (x.tt=y.tt)=a8 at*;generalize decide (x.nd=y.nd)=a9 at*;generalize decide (x.ow=y.ow)=a_ at*;go_enter func228,ntmps228;go_upto_region 1 with(fail);generalize al:World.alloc (World.alloc w _) _=am;have j:ah am w.heap.size x.v 192:=by rw[<-al];exact(ah.aI F F).alloc _
 have u:ah am (w.heap.size+1) y.v 192:=by rw[<-al];exact ah.aI (rQ _ _).symm rfl
 have ax:X w am:=by rw[<-al];exact((X.refl w).alloc _).alloc _
 obtain⟨ar,aw,ac⟩:=aW j u ax;have bj:=j.cell' (i:=0) F;have bo:=u.cell' (i:=0) F;have bk:=j.cell' (i:=1) F;have bp:=u.cell' (i:=1) F;clear al j u ax;cases a3 with
 |false=>
  go_wp2_with fail;go_ret;exact⟨F,ac⟩
 |true=>
 go_wp2_with fail;refine(az am ac).mono ?_;rintro e bh ⟨rfl,af⟩;obtain⟨ad,an,ap⟩:=aW (ac.ext af) (ar.ext af) (aw.ext af);have bl:=an.cell' (i:=2) F;have br:=ap.cell' (i:=2) F;clear af ar aw ac bj bo bk bp az be;cases a4 with
 |false=>
  go_wp2_with fail;go_ret;exact⟨F,ad⟩
 |true=>
 go_wp2_with fail;refine(aE bh ad).mono ?_;rintro e bi ⟨rfl,ag⟩;obtain⟨ae,ao,aq⟩:=aW (ad.ext ag) (an.ext ag) (ap.ext ag);have bm:=ao.cell' (i:=3) F;have bt:=aq.cell' (i:=3) F;clear ag an ap ad bl br aE;cases a5 with
 |false=>
  go_wp2_with fail;go_ret;exact⟨F,ae⟩
 |true=>
 go_wp2_with fail;refine(a0 bi ae).mono ?_;rintro e bz ⟨rfl,ai⟩;have aa:=O (ae.ext ai);have j:=ao.ext ai;have u:=aq.ext ai;have b0:=j.cell' (i:=4) F;have b4:=u.cell' (i:=4) F;have b1:=j.cell' (i:=5) F;have b5:=u.cell' (i:=5) F;have b2:=j.cell' (i:=6) F;have b6:=u.cell' (i:=6) F;have b3:=j.cell' (i:=7) F;have b7:=u.cell' (i:=7) F;clear ai j u ao aq ae bm bt a0;cases a6 with
 |false=>
  go_wp2_with fail;go_ret;exact⟨F,aa⟩
 |true=>
 cases a7 with
 |false=>
  go_wp2_with fail;go_ret;exact⟨F,aa⟩
 |true=>
 cases a8 with
 |false=>
  go_wp2_with fail;go_ret;exact⟨F,aa⟩
 |true=>
 cases a9 with
 |false=>
  go_wp2_with fail;go_ret;exact⟨F,aa⟩
 |true=>
 cases a_;all_goals (
  go_wp2_with fail;go_ret;exact⟨F,aa⟩)
theorem aae(xs ys:List aS)(a b:aN)(n m c d:Nat)(w:World)(aE:lG w a n c xs)(bp:lG w b m d ys):
 Calls prog 227 #[.slice a n c,.slice b m d,.func (.func 228) #[] #[]] w fun e w'=>e= .returned (.bool (jY xs ys))/\X w w':=by
 obtain⟨aa,ab⟩:=aB aE bp;have hn:=aE.hm;have R:=O Ag;obtain⟨aq,aw⟩:=aC (jY xs ys);rw[aw];have an:=O aw;clear aE bp aw;by_cases ax:n≠m
 ·have g1:((n:Int) != (m:Int))=true:=by simp;omega
  have b5:decide ((n:Int)=(m:Int))=false:=aP J;have g3:decide (n=m)=false:=aP ax;have am:=O (show aq=false by
   rw[<-an.out];cases bx:jY xs ys with
   |false=>rfl
   |true=>exact absurd (Sj bx) (by rw[aa.hl,ab.hl];exact ax))
  go_enter func227,ntmps227;go_wp2_with fail;go_ret;exact⟨by rw[am.out];rfl,X.refl _⟩
 obtain rfl:n=m:=J;clear ax;go_enter func227,ntmps227;go_wp2;go_loopw [17] (fun i wr=>∃k:Nat,k<=n/\i= .int .i64 (k:Int)/\Hid (∀(j:Nat) (x y:aS),j<k->xs[j]? =some x->ys[j]? =some y->vG x y=true)/\X w wr) (fun i _=>n - (intOf i).toNat)
 case atStart=>exact⟨0,J,F,O (fun j x y h=>by omega),X.refl _⟩
 case round=>
  obtain⟨k,hk,rfl,bo,bj⟩:=hrel;have E:=O bj;clear bj;by_cases ae:k<n
  ·obtain⟨x,af⟩:∃x,xs[k]? =some x:=⟨xs[k]'(by rw[aa.hl];exact ae),aF⟩;obtain⟨y,ag⟩:∃y,ys[k]? =some y:=⟨ys[k]'(by rw[ab.hl];exact ae),aF⟩;obtain⟨ba,be⟩:=aB af ag;obtain⟨A,rfl,bl⟩:=(aa.ext E).at af;obtain⟨b4,rfl,bm⟩:=(ab.ext E).at ag;obtain⟨a6,a7,bc,bh,ao,ap⟩:=iq bl bm ((aa.ext E).ok x (mem_of_getElem? af)) ((ab.ext E).ok y (mem_of_getElem? ag)) (aS.len x) (aS.len y);have bz:=nD x;have b0:=nD y;clear bl bm af ag;go_wp2_with (first|(refine bF F (fP (i:=k) F F F underlying150 Hl ae _) ?_)|(refine bF F (bQ F F a6 R ao) ?_)|(refine bg F _ (.tmp 8) _ F F F (ah.aI (vs:=BX) F F) R F ao bz ?_));intro ai ar br;have ad:X wr ai:=br.ext ((X.refl wr).alloc _) bG;obtain⟨a0,a3,a8,al⟩:=bU ar (E.ext ad) (a7.ext ad) ad;have b8:=ar.lt;clear ar br ad a6 a7 E;generalize wr.heap.size=b7 at*;go_wp2_with (first|(refine bF F (fP (i:=k) F F F underlying150 Hl ae _) ?_)|(refine bF F (bQ F F a8 R ap) ?_)|(refine bg F _ (.tmp 9) _ F F F (ah.aI (vs:=BX) F F) R F ap b0 ?_));intro bu bi bt;have ac:X ai bu:=bt.ext ((X.refl ai).alloc _) bG;obtain⟨a2,a1,a4,a_,bd⟩:=dM bi (a0.ext ac) (a3.ext ac) ((bc.ext al).ext ac) ((bh.ext al).ext ac);clear bi bt ac a8 a3 a0 al bc bh;generalize ai.heap.size=b6 at*;go_wp2_with (first|(refine bV F 192 (.tmp 8) F F a1 R ao ?_)|(refine bV F 192 (.tmp 9) F F a2 R ap ?_));refine(aad x y bu a_ bd).mono ?_;rintro e b' ⟨rfl,bk⟩;have a5:=O (a4.ext bk);clear bk a4 a1 a2 a_ bd;obtain⟨b1,az⟩:=aC (vG x y);have a9:=O az;rw[az];clear az;cases b1 with
   |true=>
    go_wp2_with fail;go_roundw
    case rel=>
     refine⟨k+1,J,by go_num,O (fun j b2 b3 b9 u I=> ?_),a5⟩;by_cases bw:j=k
     ·subst bw;rw[ba.out]at u;rw[be.out]at I;injection u with u;injection I with I;rw[<-u,<-I];exact a9
     ·exact bo j b2 b3 J u I
    case measure=>simp[intOf];omega
   |false=>
    have am:=O (show aq=false by rw[<-an.out];exact aac ba be a9);go_wp2_with fail;go_ret;exact⟨by rw[am.out];rfl,a5⟩
  ·obtain rfl:k=n:=J;have bv:=O (show aq=true by
    rw[<-an.out];refine Sm (by rw[aa.hl,ab.hl]) (fun j x y u I=>bo j x y ?_ u I);have:=(List.getElem?_eq_some_iff.1 u).1;rw[aa.hl]at this;exact this)
   go_wp2;go_ret;exact⟨by rw[bv.out];rfl,E⟩
theorem aaf(u:aN)(I E:Nat)(rs:List aS)(R:aN)(ab aa:Nat)(ad:List aS)(w:World)(al:lG w u I E rs)(am:lG w R ab aa ad):
 Calls prog 179 #[.agg #[.slice u I E],.agg #[.slice R ab aa]] w fun e w'=>e= .returned (.bool (jY rs ad))/\X w w':=by
 have an:=O (fun W (h:X w W)=>aae rs ad u R I ab E aa W (al.ext h) (am.ext h));clear al am;go_enter func179,ntmps179;go_upto_region 1 with(fail);generalize j:World.alloc (World.alloc w _) _=ac;have af:ah ac w.heap.size [.slice u I E] 152:=by rw[<-j];exact(ah.aI F F).alloc _
 have ag:ah ac (w.heap.size+1) [.slice R ab aa] 152:=by rw[<-j];exact ah.aI (rQ _ _).symm rfl
 have ai:X w ac:=by rw[<-j];exact((X.refl w).alloc _).alloc _
 have ae:=O ai;have aq:=af.cell' (i:=0) F;have ar:=ag.cell' (i:=0) F;clear j af ag ai;go_wp2_with fail;refine(an ac ae).mono ?_;rintro e ap ⟨rfl,ao⟩;go_wp2_with fail;go_ret;exact⟨F,ae.ext ao⟩
end Go.Proofs.YtjlhhnkhcbpnjaaGreatDoor
