/- Laws that the row leans on; no condition. -/
import Derived.Test.YtjlhhnkhcbpnjaaGreatDoorJM12
namespace Go.Proofs.YtjlhhnkhcbpnjaaGreatDoor
open Go Go.RowKit List Tryz
set_option linter.unusedVariables false
set_option linter.unusedSimpArgs false
set_option maxHeartbeats 40000000
set_option maxRecDepth 100000
theorem K6{G:Prop}(e:G:=by
 obtain⟨HL,HM,HA,HB⟩:=bU hl hm ha hb;obtain⟨R,hR⟩:=aC (decide (ls=ms));rw[hR];have HR:=O hR;clear hl hm ha hb hR;by_cases tL:n≠m
 ·have g1:((n:Int) != (m:Int))=true:=by simp;omega
  have g2:decide ((n:Int)=(m:Int))=false:=aP J;have g3:decide (n=m)=false:=aP tL;have HF:=O (show R=false by
   rw[<-HR.out];exact aP (fun e=>tL (by rw[<-HL.out,<-HM.out,e])))
  first|go_enter func229,ntmps229|go_enter func230,ntmps230
  go_wp2_with fail;go_ret;exact⟨by rw[HF.out];rfl,X.refl _⟩
 obtain rfl:n=m:=J;clear tL;first|go_enter func229,ntmps229|go_enter func230,ntmps230
 go_wp2_with fail;go_loopw [13] (fun i wr=>∃k:Nat,k<=n/\i= .int .i64 (k:Int)/\Hid (ls.take k=ms.take k)/\X w wr) (fun i _=>n - (intOf i).toNat)
 case atStart=>exact⟨0,J,F,O aF,X.refl _⟩
 case round=>
  obtain⟨k,hk,rfl,ou,e1⟩:=hrel;have E1:=O e1;clear e1;by_cases j3:k<n
  ·have d1:decide ((k:Int)<(n:Int))=true:=aQ J;have d2:decide (k<n)=true:=aQ j3;obtain⟨x,pQ⟩:∃x,ls[k]? =some x:=⟨ls[k]'(by rw[HL.out];omega),List.getElem?_eq_getElem _⟩;obtain⟨y,Ab⟩:∃y,ms[k]? =some y:=⟨ms[k]'(by rw[HM.out];omega),List.getElem?_eq_getElem _⟩;first|obtain⟨A,rfl,nu⟩:=zC HA pQ|obtain⟨A,rfl,nu⟩:=RY HA pQ
   first|obtain⟨A2,rfl,Bb⟩:=zC HB Ab|obtain⟨A2,rfl,Bb⟩:=RY HB Ab
   obtain⟨CA,CB,Kh,Ja⟩:=bU (gW nu E1) (gW Bb E1) pQ Ab;clear nu Bb pQ Ab;go_upto_region 6 with(fail);obtain⟨C,iB,aJ⟩:=jJ wr;refine wp_region_held_drew (S:=C) au ((iB _).2 (X.refl wr).drew) (fun Z=> ?_);refine aA 0 ?_;refine aA 1 ?_;first|refine bD 2 F (bf F (fun w1 _=>fP (i:=k) F F F underlying98 tV j3 w1)) ?_|refine bD 2 F (bf F (fun w1 _=>fP (i:=k) F F F underlying106 RZ j3 w1)) ?_
   first|refine bD 3 F (bf F (fun w1 h=>kT F F (gW CA ((iB w1).1 h)) oO)) ?_|refine bD 3 F (bf F (fun w1 h=>kT F F (gW CA ((iB w1).1 h)) BR)) ?_
   refine aA 4 ?_;refine aA 5 ?_;first|refine bD 6 F (bf F (fun w1 _=>fP (i:=k) F F F underlying98 tV j3 w1)) ?_|refine bD 6 F (bf F (fun w1 _=>fP (i:=k) F F F underlying106 RZ j3 w1)) ?_
   first|refine bD 7 F (bf F (fun w1 h=>kT F F (gW CB ((iB w1).1 h)) oO)) ?_|refine bD 7 F (bf F (fun w1 h=>kT F F (gW CB ((iB w1).1 h)) BR)) ?_
   first|have qe:=Am x y|have qe:=show((x==y)=decide (x=y))from F
   by_cases ze:x=y
   ·rw[aQ ze]at qe;have HN:=O (show ls.take (k+1)=ms.take (k+1) by rw[take_add_one,take_add_one,Kh.out,Ja.out,ou.out,ze]);clear ze;refine aA 8 ?_;refine dH ?_;have Fx:=(iB _).1 Z;go_wp2_with fail;go_roundw
    case rel=>exact⟨k+1,J,by go_num,HN,E1.ext Fx⟩
    case measure=>simp[intOf];omega
   ·rw[aP ze]at qe;have HF:=O (show R=false by
     rw[<-HR.out];exact aP (fun e=>ze (by
      have h1:=Kh.out;rw[e,Ja.out]at h1;injection h1 with h1;exact h1.symm)))
    clear ze;refine aA 8 ?_;refine dH ?_;have Fx:=(iB _).1 Z;go_wp2_with fail;go_ret;exact⟨by rw[HF.out];rfl,E1.ext Fx⟩
  ·obtain rfl:k=n:=J;have d1:decide ((k:Int)<(k:Int))=false:=aP J;have om:=ou.out;rw[take_of_length_le (by rw[HL.out];exact Nat.le_refl _),take_of_length_le (by rw[HM.out];exact Nat.le_refl _)]at om;have HT:=O (show R=true by rw[<-HR.out];exact aQ om);clear om ou;go_wp2_with fail;go_ret;exact⟨by rw[HT.out];rfl,E1⟩):G:=e
theorem R_(ls ms:aT)(a b:aN)(n m c d:Nat)(w:World)(hl:ls.length=n)(hm:ms.length=m)(hn:n<=140737488355328)(ha:aK w a (ls.map bM))(hb:aK w b (ms.map bM)):
 Calls prog 229 #[.slice a n c,.slice b m d] w fun e w'=>e= .returned (.bool (decide (ls=ms)))/\X w w':=K6
theorem Z'(ls ms:List Int)(a b:aN)(n m c d:Nat)(w:World)(hl:ls.length=n)(hm:ms.length=m)(hn:n<=140737488355328)(ha:aK w a (ls.map lN))(hb:aK w b (ms.map lN)):
 Calls prog 230 #[.slice a n c,.slice b m d] w fun e w'=>e= .returned (.bool (decide (ls=ms)))/\X w w':=K6
def vG(x y:aS):Bool:=decide (x.deny=y.deny)&&decide (x.roles=y.roles)&&decide (x.acts=y.acts)&&decide (x.labels=y.labels)&&decide (x.fr=y.fr)&&decide (x.tt=y.tt)&&decide (x.nd=y.nd)&&decide (x.ow=y.ow)
def jY:List aS->List aS->Bool
 |[],[]=>true
 |x::xs,y::ys=>vG x y&&jY xs ys
 |_,_=>false
theorem Si:∀xs ys:List aS,jY xs (ys.map aS.bare)=jY xs ys
 |[],[]=>rfl
 |[],_::_=>rfl
 |_::_,[]=>rfl
 |x::xs,y::ys=>by
  show(vG x y.bare&&jY xs (ys.map aS.bare))=(vG x y&&jY xs ys);rw[Si xs ys];rfl
theorem Sj:∀{xs ys:List aS},jY xs ys=true->xs.length=ys.length
 |[],[],_=>rfl
 |[],_::_,h=>by cases h
 |_::_,[],h=>by cases h
 |x::xs,y::ys,h=>by
  simp only[jY,Bool.and_eq_true]at h;simp[Sj h.2]
theorem aac{xs ys:List aS}{k:Nat}{x y:aS}(j:xs[k]? =some x)(u:ys[k]? =some y)(h:vG x y=false):jY xs ys=false:=by
 induction k generalizing xs ys with
 |zero=>
  cases xs<;>cases ys<;>simp_all [jY]
 |succ k E=>
  cases xs with
  |nil=>simp at j
  |cons p I=>
   cases ys with
   |nil=>simp at u
   |cons q R=>
    simp only[List.getElem?_cons_succ]at j u;simp[jY,E j u]
theorem Sm:∀{xs ys:List aS},xs.length=ys.length->(∀(k:Nat) (x y:aS),xs[k]? =some x->ys[k]? =some y->vG x y=true)->jY xs ys=true
 |[],[],_,_=>rfl
 |[],_::_,h,_=>by simp at h
 |_::_,[],h,_=>by simp at h
 |x::xs,y::ys,h,hk=>by
  simp only[jY,Bool.and_eq_true];exact⟨hk 0 x y F F,Sm (by simpa using h) fun k a b ha hb=>hk (k+1) a b (by simpa using ha) (by simpa using hb)⟩
theorem aad(x y:aS)(w:World)(aa:x.Ok w)(aE:y.Ok w):
 nW 228 #[.agg x.v.toArray,.agg y.v.toArray] w (.bool (vG x y)):=by
 obtain⟨I,HY⟩:=aB aa aE;have Dm:=aa.rm;have a8:=aa.am;have a9:=aa.lm;have a_:(x.deny==y.deny)=decide (x.deny=y.deny):=F;have bm:(x.fr==y.fr)=decide (x.fr=y.fr):=F;have bo:(x.tt==y.tt)=decide (x.tt=y.tt):=F;have bp:(x.nd==y.nd)=decide (x.nd=y.nd):=F;have br:=Am x.ow y.ow;obtain⟨ar,aw,ax⟩:=aW (fun E (h:X w E)=>R_ x.roles y.roles x.ra y.ra x.rn y.rn x.rc y.rc E I.rl HY.rl J (I.nU.ext h) (HY.nU.ext h)) (fun E (h:X w E)=>Z' x.acts y.acts x.aa y.aa x.an y.an x.ac y.ac E I.al HY.al J (I.mF.ext h) (HY.mF.ext h)) (fun E (h:X w E)=>R_ x.labels y.labels x.la y.la x.ln y.ln x.lc y.lc E I.ll HY.ll J (I.sN.ext h) (HY.sN.ext h));have az:vG x y=(decide (x.deny=y.deny)&&decide (x.roles=y.roles)&&decide (x.acts=y.acts)&&decide (x.labels=y.labels)&&decide (x.fr=y.fr)&&decide (x.tt=y.tt)&&decide (x.nd=y.nd)&&decide (x.ow=y.ow)):=F;rw[az];clear az aa aE Dm a8 a9;generalize decide (x.deny=y.deny)=a0 at*;generalize decide (x.roles=y.roles)=a1 at*;generalize decide (x.acts=y.acts)=a2 at*;generalize decide (x.labels=y.labels)=a3 at*;generalize decide (x.fr=y.fr)=a4 at*;generalize decide (x.tt=y.tt)=a5 at*;generalize decide (x.nd=y.nd)=a6 at*;generalize decide (x.ow=y.ow)=a7 at*;go_enter func228,ntmps228;go_upto_region 1 with(fail);generalize iX:World.alloc (World.alloc w _) _=ag;have j:ah ag w.heap.size x.v 192:=by rw[<-iX];exact(ah.aI F F).alloc _
 have u:ah ag (w.heap.size+1) y.v 192:=by rw[<-iX];exact ah.aI (rQ _ _).symm rfl
 have aq:X w ag:=by rw[<-iX];exact((X.refl w).alloc _).alloc _
 obtain⟨ao,ap,EA⟩:=aW j u aq;have bc:=j.cell' (i:=0) F;have bi:=u.cell' (i:=0) F;have bd:=j.cell' (i:=1) F;have bj:=u.cell' (i:=1) F;clear iX j u aq;cases a0 with
 |false=>
  go_wp2_with fail;go_ret;exact⟨F,EA⟩
 |true=>
 go_wp2_with fail;refine(ar ag EA).mono ?_;rintro e wB ⟨rfl,ad⟩;obtain⟨ab,ai,am⟩:=aW (EA.ext ad) (ao.ext ad) (ap.ext ad);have be:=ai.cell' (i:=2) F;have bk:=am.cell' (i:=2) F;clear ad ao ap EA bc bi bd bj ar a_;cases a1 with
 |false=>
  go_wp2_with fail;go_ret;exact⟨F,ab⟩
 |true=>
 go_wp2_with fail;refine(aw wB ab).mono ?_;rintro e ba ⟨rfl,ae⟩;obtain⟨ac,al,an⟩:=aW (ab.ext ae) (ai.ext ae) (am.ext ae);have bh:=al.cell' (i:=3) F;have bl:=an.cell' (i:=3) F;clear ae ai am ab be bk aw;cases a2 with
 |false=>
  go_wp2_with fail;go_ret;exact⟨F,ac⟩
 |true=>
 go_wp2_with fail;refine(ax ba ac).mono ?_;rintro e wD ⟨rfl,af⟩;have R:=O (ac.ext af);have j:=al.ext af;have u:=an.ext af;have bt:=j.cell' (i:=4) F;have bx:=u.cell' (i:=4) F;have bu:=j.cell' (i:=5) F;have bz:=u.cell' (i:=5) F;have bv:=j.cell' (i:=6) F;have b0:=u.cell' (i:=6) F;have bw:=j.cell' (i:=7) F;have b1:=u.cell' (i:=7) F;clear af j u al an ac bh bl ax;cases a3 with
 |false=>
  go_wp2_with fail;go_ret;exact⟨F,R⟩
 |true=>
 cases a4 with
 |false=>
  go_wp2_with fail;go_ret;exact⟨F,R⟩
 |true=>
 cases a5 with
 |false=>
  go_wp2_with fail;go_ret;exact⟨F,R⟩
 |true=>
 cases a6 with
 |false=>
  go_wp2_with fail;go_ret;exact⟨F,R⟩
 |true=>
 cases a7;all_goals (
  go_wp2_with fail;go_ret;exact⟨F,R⟩)
theorem aae(xs ys:List aS)(a b:aN)(n m c d:Nat)(w:World)(ao:lG w a n c xs)(a9:lG w b m d ys):
 nW 227 #[.slice a n c,.slice b m d,.func (.func 228) #[] #[]] w (.bool (jY xs ys)):=by
 obtain⟨aa,HY⟩:=aB ao a9;have hn:=ao.hm;have R:=O Ag;obtain⟨al,an⟩:=aC (jY xs ys);rw[an];have af:=O an;clear ao a9 an;by_cases tL:n≠m
 ·have g1:((n:Int) != (m:Int))=true:=by simp;omega
  have bp:decide ((n:Int)=(m:Int))=false:=aP J;have g3:decide (n=m)=false:=aP tL;have ae:=O (show al=false by
   rw[<-af.out];cases bh:jY xs ys with
   |false=>rfl
   |true=>exact absurd (Sj bh) (by rw[aa.hl,HY.hl];exact tL))
  go_enter func227,ntmps227;go_wp2_with fail;go_ret;exact⟨by rw[ae.out];rfl,X.refl _⟩
 obtain rfl:n=m:=J;clear tL;go_enter func227,ntmps227;go_wp2;go_loopw [17] (fun i wr=>∃k:Nat,k<=n/\i= .int .i64 (k:Int)/\Hid (∀(j:Nat) (x y:aS),j<k->xs[j]? =some x->ys[j]? =some y->vG x y=true)/\X w wr) (fun i _=>n - (intOf i).toNat)
 case atStart=>exact⟨0,J,F,O (fun j x y h=>by omega),X.refl _⟩
 case round=>
  obtain⟨k,hk,rfl,ou,a7⟩:=hrel;have E:=O a7;clear a7;by_cases j3:k<n
  ·obtain⟨x,pQ⟩:∃x,xs[k]? =some x:=⟨xs[k]'(by rw[aa.hl];exact j3),aF⟩;obtain⟨y,Ab⟩:∃y,ys[k]? =some y:=⟨ys[k]'(by rw[HY.hl];exact j3),aF⟩;obtain⟨Kh,Ja⟩:=aB pQ Ab;obtain⟨A,rfl,nu⟩:=(aa.ext E).at pQ;obtain⟨bo,rfl,Bb⟩:=(HY.ext E).at Ab;obtain⟨rz,aE,a3,a5,ag,ai⟩:=iq nu Bb ((aa.ext E).ok x (mem_of_getElem? pQ)) ((HY.ext E).ok y (mem_of_getElem? Ab)) (aS.len x) (aS.len y);have bi:=nD x;have bj:=nD y;clear nu Bb pQ Ab;go_wp2_with (first|(refine bF F (fP (i:=k) F F F underlying150 Hl j3 _) ?_)|(refine bF F (bQ F F rz R ag) ?_)|(refine bg F _ (.tmp 8) _ F F F (ah.aI (vs:=BX) F F) R F ag bi ?_));intro wB am a_;have ac:X wr wB:=a_.ext ((X.refl wr).alloc _) l5;obtain⟨ap,aw,a0,ad⟩:=bU am (E.ext ac) (aE.ext ac) ac;have bu:=am.lt;clear am a_ ac rz aE E;generalize wr.heap.size=bt at*;go_wp2_with (first|(refine bF F (fP (i:=k) F F F underlying150 Hl j3 _) ?_)|(refine bF F (bQ F F a0 R ai) ?_)|(refine bg F _ (.tmp 9) _ F F F (ah.aI (vs:=BX) F F) R F ai bj ?_));intro bc a6 ba;have ab:X wB bc:=ba.ext ((X.refl wB).alloc _) l5;obtain⟨ar,aq,ax,a2,a4⟩:=dM a6 (ap.ext ab) (aw.ext ab) ((a3.ext ad).ext ab) ((a5.ext ad).ext ab);clear a6 ba ab a0 aw ap ad a3 a5;generalize wB.heap.size=br at*;go_wp2_with (first|(refine bV F 192 (.tmp 8) F F aq R ag ?_)|(refine bV F 192 (.tmp 9) F F ar R ai ?_));refine(aad x y bc a2 a4).mono ?_;rintro e wD ⟨rfl,a8⟩;have az:=O (ax.ext a8);clear a8 ax aq ar a2 a4;obtain⟨bk,Fy⟩:=aC (vG x y);have a1:=O Fy;rw[Fy];clear Fy;cases bk with
   |true=>
    go_wp2_with fail;go_roundw
    case rel=>
     refine⟨k+1,J,by go_num,O (fun j bl bm bv u I=> ?_),az⟩;by_cases be:j=k
     ·subst be;rw[Kh.out]at u;rw[Ja.out]at I;injection u with u;injection I with I;rw[<-u,<-I];exact a1
     ·exact ou j bl bm J u I
    case measure=>simp[intOf];omega
   |false=>
    have ae:=O (show al=false by rw[<-af.out];exact aac Kh Ja a1);go_wp2_with fail;go_ret;exact⟨by rw[ae.out];rfl,az⟩
  ·obtain rfl:k=n:=J;have bd:=O (show al=true by
    rw[<-af.out];refine Sm (by rw[aa.hl,HY.hl]) (fun j x y u I=>ou j x y ?_ u I);have:=(List.getElem?_eq_some_iff.1 u).1;rw[aa.hl]at this;exact this)
   go_wp2;go_ret;exact⟨by rw[bd.out];rfl,E⟩
theorem aaf(j:aN)(E u:Nat)(rs:List aS)(I:aN)(aa R:Nat)(ac:List aS)(w:World)(ag:lG w j E u rs)(ai:lG w I aa R ac):
 nW 179 #[.agg #[.slice j E u],.agg #[.slice I aa R]] w (.bool (jY rs ac)):=by
 have al:=O (fun W (h:X w W)=>aae rs ac j I E aa u R W (ag.ext h) (ai.ext h));clear ag ai;go_enter func179,ntmps179;go_upto_region 1 with(fail);generalize iX:World.alloc (World.alloc w _) _=ab;have ad:ah ab w.heap.size [.slice j E u] 152:=by rw[<-iX];exact(ah.aI F F).alloc _
 have ae:ah ab (w.heap.size+1) [.slice I aa R] 152:=by rw[<-iX];exact ah.aI (rQ _ _).symm rfl
 have af:X w ab:=by rw[<-iX];exact((X.refl w).alloc _).alloc _
 have EA:=O af;have an:=ad.cell' (i:=0) F;have ao:=ae.cell' (i:=0) F;clear iX ad ae af;go_wp2_with fail;refine(al ab EA).mono ?_;rintro e wB ⟨rfl,am⟩;go_wp2_with fail;go_ret;exact⟨F,EA.ext am⟩
end Go.Proofs.YtjlhhnkhcbpnjaaGreatDoor
