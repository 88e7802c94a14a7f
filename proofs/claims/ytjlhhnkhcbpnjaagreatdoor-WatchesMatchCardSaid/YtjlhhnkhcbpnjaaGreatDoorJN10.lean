/- Laws; no condition. -/
import Derived.Test.YtjlhhnkhcbpnjaaGreatDoorJN9
import Derived.Lib.AtoiAllCases
namespace Go.Proofs.YtjlhhnkhcbpnjaaGreatDoor
open Go Go.RowKit Go.Shelf List Tryz
open Go.Value(int slice agg cells string bool)
open Go.World(alloc setCell drew)
set_option linter.all false
set_option maxHeartbeats 40000000
set_option maxRecDepth 100000
def Z0{a:Prop}(e:a:=by
 obtain⟨HL,HM,HA,HB⟩:=bT hl hm ha hb;obtain⟨R,hR⟩:=aF (decide (ls=ms));rw[hR];have HR:=O hR;clear hl hm ha hb hR;by_cases iR:n≠m
 ·have g1:((n:Int) != (m:Int))=true:=by simp;omega
  have g2:=bU ((n:Int)=(m:Int));have g3:=bg iR;have HF:=O (show R=false by
   rw[<-HR.out];exact bg (λe=>iR (by rw[<-HL.out,<-HM.out,e])))
  first|go_enter func229,ntmps229|go_enter func230,ntmps230
  go_wp2;go_ret;exact⟨by rw[HF.out];rfl,aj.refl _⟩
 obtain rfl:n=m:=J;clear iR;first|go_enter func229,ntmps229|go_enter func230,ntmps230
 go_wp2_with fail;go_loopw [13] (λi wr=>∃k:Nat,k<=n/\i= .int .i64 (k:Int)/\Hid (ls.take k=ms.take k)/\aj w wr) (λi _=>n - (intOf i).toNat)
 ·exact⟨0,J,F,O aB,aj.refl _⟩
 ·obtain⟨k,hk,rfl,gu,e1⟩:=hrel;have E1:=O e1;clear e1;by_cases aS:k<n
  ·have d1:=cO ((k:Int)<(n:Int));have d2:=bV aS;obtain⟨x,gy⟩:∃x,ls[k]? =some x:=⟨ls[k]'(by rw[HL.out];omega),mG _⟩;obtain⟨y,tT⟩:∃y,ms[k]? =some y:=⟨ms[k]'(by rw[HM.out];omega),mG _⟩;first|obtain⟨A,rfl,dD⟩:=Ki HA gy|obtain⟨A,rfl,dD⟩:=aaF HA gy
   first|obtain⟨A2,rfl,qI⟩:=Ki HB tT|obtain⟨A2,rfl,qI⟩:=aaF HB tT
   obtain⟨CA,CB,MU,I5⟩:=bT (oP dD E1) (oP qI E1) gy tT;clear dD qI gy tT;go_upto_region 6 with(fail);obtain⟨C,Z,aK⟩:=nR wr;refine qX (S:=C) aC ((Z _).2 (aj.refl wr).drew) (λX=> ?_);refine ay 0 ?_;refine ay 1 ?_;first|refine aV 2 F (aY F (λw1 _=>gD (i:=k) F F F underlying98 CZ aS w1)) ?_|refine aV 2 F (aY F (λw1 _=>gD (i:=k) F F F underlying106 adb aS w1)) ?_
   first|refine aV 3 F (aY F (λw1 h=>pR F F (oP CA ((Z w1).1 h)) xJ)) ?_|refine aV 3 F (aY F (λw1 h=>pR F F (oP CA ((Z w1).1 h)) L6)) ?_
   refine ay 4 ?_;refine ay 5 ?_;first|refine aV 6 F (aY F (λw1 _=>gD (i:=k) F F F underlying98 CZ aS w1)) ?_|refine aV 6 F (aY F (λw1 _=>gD (i:=k) F F F underlying106 adb aS w1)) ?_
   first|refine aV 7 F (aY F (λw1 h=>pR F F (oP CB ((Z w1).1 h)) xJ)) ?_|refine aV 7 F (aY F (λw1 h=>pR F F (oP CB ((Z w1).1 h)) L6)) ?_
   first|have qe:=Ju x y|have qe:=show((x==y)=decide (x=y))from F
   by_cases u_:x=y
   ·rw[bV u_]at qe;have HN:=O (show ls.take (k+1)=ms.take (k+1) by rw[ny,ny,MU.out,I5.out,gu.out,u_]);clear u_;refine ay 8 ?_;refine dP ?_;have zw:=(Z _).1 X;go_wp2;go_roundw
    ·exact⟨k+1,J,by go_num,HN,E1.ext zw⟩
    ·exact fV
   ·rw[bg u_]at qe;have HF:=O (show R=false by
     rw[<-HR.out];exact bg (λe=>u_ (by
      have h1:=MU.out;rw[e,I5.out]at h1;injection h1 with h1;exact h1.symm)))
    clear u_;refine ay 8 ?_;refine dP ?_;have zw:=(Z _).1 X;go_wp2;go_ret;exact⟨by rw[HF.out];rfl,E1.ext zw⟩
  ·obtain rfl:k=n:=J;have d1:=bU ((k:Int)<(k:Int));have fM:=gu.out;rw[gY (by rw[HL.out];exact aQ _),gY (by rw[HM.out];exact aQ _)]at fM;have HT:=O (show R=true by rw[<-HR.out];exact bV fM);clear fM gu;go_wp2;go_ret;exact⟨by rw[HT.out];rfl,E1⟩):a:=e
def ZC(ls ms:bq)(a b:aO)(n m c d:Nat)(w:World)(hl:ls.length=n)(hm:ms.length=m)(f:n<=140737488355328)(ha:aM w a (ls.map dx))(hb:aM w b (ms.map dx)):
 Calls prog 229 #[.slice a n c,.slice b m d] w λe w'=>e= .returned (.bool (decide (ls=ms)))/\aj w w':=Z0
def agB(ls ms:List Int)(a b:aO)(n m c d:Nat)(w:World)(hl:ls.length=n)(hm:ms.length=m)(f:n<=140737488355328)(ha:aM w a (ls.map qH))(hb:aM w b (ms.map qH)):
 Calls prog 230 #[.slice a n c,.slice b m d] w λe w'=>e= .returned (.bool (decide (ls=ms)))/\aj w w':=Z0
def DT(x y:aX):Bool:=decide (x.deny=y.deny)&&decide (x.roles=y.roles)&&decide (x.acts=y.acts)&&decide (x.labels=y.labels)&&decide (x.fr=y.fr)&&decide (x.tt=y.tt)&&decide (x.nd=y.nd)&&decide (x.ow=y.ow)
def nZ:List aX->List aX->Bool
 |[],[]=>true
 |x::xs,y::ys=>DT x y&&nZ xs ys
 |_,_=>false
def acY:∀xs ys:List aX,nZ xs (ys.map aX.bare)=nZ xs ys
 |[],[]=>rfl
 |[],_::_=>rfl
 |_::_,[]=>rfl
 |x::xs,y::ys=>by
  show(DT x y.bare&&nZ xs (ys.map aX.bare))=(DT x y&&nZ xs ys);rw[acY xs ys];rfl
def acZ:∀{xs ys:List aX},nZ xs ys=true->xs.length=ys.length
 |[],[],_=>rfl
 |[],_::_,h=>by cases h
 |_::_,[],h=>by cases h
 |x::xs,y::ys,h=>by
  simp only[nZ,qZ]at h;simp[acZ h.2]
def alH{xs ys:List aX}{k:Nat}{x y:aX}(a:xs[k]? =some x)(b:ys[k]? =some y)(h:DT x y=false):nZ xs ys=false:=by
 induction k generalizing xs ys with
 |zero=>
  cases xs<;>cases ys<;>simp_all [nZ]
 |succ k c=>
  cases xs with
  |nil=>simp at a
  |cons p d=>
   cases ys with
   |nil=>simp at b
   |cons q e=>
    simp only[uN]at a b;simp[nZ,c a b]
def ac0:∀{xs ys:List aX},xs.length=ys.length->(∀(k:Nat) (x y:aX),xs[k]? =some x->ys[k]? =some y->DT x y=true)->nZ xs ys=true
 |[],[],_,_=>rfl
 |[],_::_,h,_=>by simp at h
 |_::_,[],h,_=>by simp at h
 |x::xs,y::ys,h,hk=>by
  simp only[nZ,qZ];exact⟨hk 0 x y F F,ac0 (by simpa using h) λk a b ha hb=>hk (k+1) a b (by simpa using ha) (by simpa using hb)⟩
def amY{a:Prop}(e:a:=by
 go_upto_region 1 with(fail);generalize aG:alloc (alloc w _) _=wA;have bX:=qA aG x.v 192;have bY:=qQ aG y.v 192;obtain⟨BX,BY,EA⟩:=aW bX bY (wN aG);have x0:=bX.cell' (i:=0) F;have y0:=bY.cell' (i:=0) F;have x1:=bX.cell' (i:=1) F;have y1:=bY.cell' (i:=1) F;clear aG bX bY;cases b0 with
 |false=>
  go_wp2;go_ret;exact⟨F,EA⟩
 |true=>
 go_wp2_with fail;refine(Ie wA EA).mono ?_;rintro e wB ⟨rfl,eB⟩;obtain⟨EB,X7,X9⟩:=aW (EA.ext eB) (BX.ext eB) (BY.ext eB);have x2:=X7.cell' (i:=2) F;have y2:=X9.cell' (i:=2) F;clear eB BX BY EA x0 y0 x1 y1 Ie q0;cases b1 with
 |false=>
  go_wp2;go_ret;exact⟨F,EB⟩
 |true=>
 go_wp2_with fail;refine(hE2 wB EB).mono ?_;rintro e wC ⟨rfl,eC⟩;obtain⟨EC,X8,X_⟩:=aW (EB.ext eC) (X7.ext eC) (X9.ext eC);have x3:=X8.cell' (i:=3) F;have y3:=X_.cell' (i:=3) F;clear eC X7 X9 EB x2 y2 hE2;cases b2 with
 |false=>
  go_wp2;go_ret;exact⟨F,EC⟩
 |true=>
 go_wp2_with fail;refine(Rb wC EC).mono ?_;rintro e wD ⟨rfl,eD⟩;have ED:=O (EC.ext eD);have bX:=X8.ext eD;have bY:=X_.ext eD;have x4:=bX.cell' (i:=4) F;have y4:=bY.cell' (i:=4) F;have x5:=bX.cell' (i:=5) F;have y5:=bY.cell' (i:=5) F;have x6:=bX.cell' (i:=6) F;have y6:=bY.cell' (i:=6) F;have x7:=bX.cell' (i:=7) F;have y7:=bY.cell' (i:=7) F;clear eD bX bY X8 X_ EC x3 y3 Rb;cases b3 with
 |false=>
  go_wp2;go_ret;exact⟨F,ED⟩
 |true=>
 cases b4 with
 |false=>
  go_wp2;go_ret;exact⟨F,ED⟩
 |true=>
 cases b5 with
 |false=>
  go_wp2;go_ret;exact⟨F,ED⟩
 |true=>
 cases b6 with
 |false=>
  go_wp2;go_ret;exact⟨F,ED⟩
 |true=>
 cases b7;all_goals (
  go_wp2;go_ret;exact⟨F,ED⟩)):a:=e
def alI(x y:aX)(w:World)(d:x.Ok w)(f:y.Ok w):
 eO 228 #[.agg x.v.toArray,.agg y.v.toArray] w (.bool (DT x y)):=by
 obtain⟨b,c⟩:=aA d f;have g:=d.rm;have i:=d.am;have j:=d.lm;have q0:(x.deny==y.deny)=decide (x.deny=y.deny):=F;have k:(x.fr==y.fr)=decide (x.fr=y.fr):=F;have l:(x.tt==y.tt)=decide (x.tt=y.tt):=F;have m:(x.nd==y.nd)=decide (x.nd=y.nd):=F;have n:=Ju x.ow y.ow;obtain⟨Ie,hE2,Rb⟩:=aW (λa (h:aj w a)=>ZC x.roles y.roles x.ra y.ra x.rn y.rn x.rc y.rc a b.rl c.rl J (b.vk.ext h) (c.vk.ext h)) (λa (h:aj w a)=>agB x.acts y.acts x.aa y.aa x.an y.an x.ac y.ac a b.al c.al J (b.uQ.ext h) (c.uQ.ext h)) (λa (h:aj w a)=>ZC x.labels y.labels x.la y.la x.ln y.ln x.lc y.lc a b.ll c.ll J (b.Bz.ext h) (c.Bz.ext h));have e:DT x y=(decide (x.deny=y.deny)&&decide (x.roles=y.roles)&&decide (x.acts=y.acts)&&decide (x.labels=y.labels)&&decide (x.fr=y.fr)&&decide (x.tt=y.tt)&&decide (x.nd=y.nd)&&decide (x.ow=y.ow)):=F;rw[e];clear e d f g i j;generalize decide (x.deny=y.deny)=b0 at*;generalize decide (x.roles=y.roles)=b1 at*;generalize decide (x.acts=y.acts)=b2 at*;generalize decide (x.labels=y.labels)=b3 at*;generalize decide (x.fr=y.fr)=b4 at*;generalize decide (x.tt=y.tt)=b5 at*;generalize decide (x.nd=y.nd)=b6 at*;generalize decide (x.ow=y.ow)=b7 at*;go_enter func228,ntmps228;exact amY
def am5{a:Prop}(e:a:=by
 rintro e wD ⟨rfl,eD⟩;have ED:=O (EC.ext eD);clear eD EC BC CC za Yo;obtain⟨sb,vU⟩:=aF (DT x y);have Fx:=O vU;rw[vU];clear vU;cases sb with
 |true=>
  go_wp2;go_roundw
  ·refine⟨k+1,J,by go_num,O (λj x2 y2 hj h1 h2=> ?_),ED⟩;by_cases lS:j=k
   ·subst lS;rw[MU.out]at h1;rw[I5.out]at h2;injection h1 with h1;injection h2 with h2;rw[<-h1,<-h2];exact Fx
   ·exact gu j x2 y2 J h1 h2
  ·exact fV
 |false=>
  have HF:=O (show R=false by rw[<-HR.out];exact alH MU I5 Fx);go_wp2;go_ret;exact⟨by rw[HF.out];rfl,ED⟩):a:=e
def ang{a:Prop}(e:a:=by
 have g1:((n:Int) != (m:Int))=true:=by simp;omega
 have g2:=bU ((n:Int)=(m:Int));have g3:=bg iR;have HF:=O (show R=false by
  rw[<-HR.out];cases hq:nZ xs ys with
  |false=>rfl
  |true=>exact absurd (acZ hq) (by rw[HX.hl,HY.hl];exact iR))
 go_enter func227,ntmps227;go_wp2;go_ret;exact⟨by rw[HF.out];rfl,aj.refl _⟩):a:=e
def am2{a:Prop}(e:a:=by
 ·obtain rfl:k=n:=J;have HT:=O (show R=true by
   rw[<-HR.out];refine ac0 (by rw[HX.hl,HY.hl]) (λj x y h1 h2=>gu j x y ?_ h1 h2);have:=(iK.1 h1).1;rw[HX.hl]at this;exact this)
  go_wp2;go_ret;exact⟨by rw[HT.out];rfl,E1⟩):a:=e
def agC(xs ys:List aX)(a b:aO)(n m c d:Nat)(w:World)(v:qj w a n c xs)(H:qj w b m d ys):
 eO 227 #[.slice a n c,.slice b m d,.func (.func 228) #[] #[]] w (.bool (nZ xs ys)):=by
 obtain⟨HX,HY⟩:=aA v H;have ad:=v.hm;have e:=O Jq;obtain⟨R,u⟩:=aF (nZ xs ys);rw[u];have HR:=O u;clear v H u;by_cases iR:n≠m
 ·exact ang
 obtain rfl:n=m:=J;clear iR;go_enter func227,ntmps227;go_wp2;go_loopw [17] (λi wr=>∃k:Nat,k<=n/\i= .int .i64 (k:Int)/\Hid (∀(j:Nat) (x y:aX),j<k->xs[j]? =some x->ys[j]? =some y->DT x y=true)/\aj w wr) (λi _=>n - (intOf i).toNat)
 ·exact⟨0,J,F,O (λj x y h=>by omega),aj.refl _⟩
 ·obtain⟨k,hk,rfl,gu,D⟩:=hrel;have E1:=O D;clear D;by_cases l:k<n
  ·obtain⟨x,o⟩:∃x,xs[k]? =some x:=⟨xs[k]'(by rw[HX.hl];exact l),aB⟩;obtain⟨y,p⟩:∃y,ys[k]? =some y:=⟨ys[k]'(by rw[HY.hl];exact l),aB⟩;obtain⟨MU,I5⟩:=aA o p;obtain⟨A,rfl,E⟩:=(HX.ext E1).at o;obtain⟨W,rfl,G⟩:=(HY.ext E1).at p;obtain⟨P,B,S,T,r,s⟩:=jW E G ((HX.ext E1).ok x (f_ o)) ((HY.ext E1).ok y (f_ p)) (aX.len x) (aX.len y);have U:=xO x;have V:=xO y;clear E G o p;go_wp2_with (first|(refine bZ F (gD (i:=k) F F F underlying150 SY l _) ?_)|(refine bZ F (cB F F P e r) ?_)|(refine aZ F _ (.tmp 8) _ F F F (au.bK (vs:=MG) F F) e F r U ?_));intro q t I;have g:aj wr q:=I.ext ((aj.refl wr).alloc _) (aQ _);obtain⟨M,N,Q,z⟩:=bT t (E1.ext g) (B.ext g) g;have ac:=t.lt;clear t I g B E1;generalize wr.heap.size=ab at*;go_wp2_with (first|(refine bZ F (gD (i:=k) F F F underlying150 SY l _) ?_)|(refine bZ F (cB F F Q e s) ?_)|(refine aZ F _ (.tmp 9) _ F F F (au.bK (vs:=MG) F F) e F s V ?_));intro L C K;have f:aj q L:=K.ext ((aj.refl q).alloc _) (aQ _);obtain⟨CC,BC,EC,za,Yo⟩:=fC C (M.ext f) (N.ext f) ((S.ext z).ext f) ((T.ext z).ext f);clear C K f;generalize q.heap.size=aa at*;go_wp2_with (first|(refine dA F 192 (.tmp 8) F F BC e r ?_)|(refine dA F 192 (.tmp 9) F F CC e s ?_));refine(alI x y L za Yo).mono ?_;exact am5
  exact am2
def alG(a:aO)(c b:Nat)(rs:List aX)(d:aO)(f e:Nat)(g:List aX)(w:World)(i:qj w a c b rs)(j:qj w d f e g):
 eO 179 #[.agg #[.slice a c b],.agg #[.slice d f e]] w (.bool (nZ rs g)):=by
 have HE:=O (λW (h:aj w W)=>agC rs g a d c f b e W (i.ext h) (j.ext h));clear i j;go_enter func179,ntmps179;go_upto_region 1 with(fail);generalize aG:alloc (alloc w _) _=wA;have bX:=qA aG [.slice a c b] 152;have bY:=qQ aG [.slice d f e] 152;exact am1
def K4:jc prog 152 1:=⟨⟨_,underlying152,F⟩,aC⟩
def Wz(w:World):qj w none 0 0 []:=⟨F,aQ _,J,.inl F,λ_ h=>by cases h⟩
def am4{b:Prop}(e:b:=by
 have I4:=O (qm.1 (nG.trans h0));subst h0;clear nG HW;go_wp2;go_roundw
 ·exact⟨k+1,a,c,rs,J,by go_num,P4.skip g_ I4,J⟩
 ·simp[intOf];omega):b:=e
def amX{a:Prop}(e:a:=by
 rw[<-Ct,<-Cu,<-Vu];exact⟨E1.ext e2,B2.ext e2,B5.ext e2,bL,⟨F,.inl ⟨F,F⟩⟩,F,(λ_ h=>by cases h),(λ_ h=>by cases h),(λ_ h=>by cases h),(λ_ h=>by simp at h),aQ _⟩):a:=e
def ake{rs:List aX}{k:Nat}{r:aX}(h:rs[k]? =some r):kY (rs.take (k+1))=kY (rs.take k)++J7 r++[10]:=by simp_all [kY,ny,Eh]
def abQ{rs:List aX}{W:World}(a:∀r∈rs,r.Ok W)(c:∀r∈rs,l6 r=0):(kY rs).length<=rs.length*4001:=by
 induction rs with
 |nil=>simp[kY]
 |cons r rs d=>
  have f:=acJ (a r aB) (acK (a r aB) (c r aB));have g:=d (λx b=>a x (yg _ b)) (λx b=>c x (yg _ b));have e:kY (r::rs)=(J7 r++[10])++kY rs:=by unfold kY;rw[yh]
  rw[e];simp only[bQ,iU,sD];omega
def am9{a:Prop}(e:a:=by
 intro k;have h1:=abQ (rs:=rs.take k) (W:=w) (λr hr=>hp.ok r (wZ hr)) (λr hr=>hv r (wZ hr));have h2:(rs.take k).length<=100:=by rw[fP];have:=hp.hl;omega
 have:(rs.take k).length*4001<=100*4001:=Ho _ h2;omega):a:=e
noncomputable def tZ(rs:List aX)(a:Nat):Int:=if oV rs a≠0 then oV rs a else if pY (kY rs)=0/\nZ rs (sQ (kY rs))=true then 0 else 2
noncomputable def qN(rs:List aX)(a:Nat):ah:=if tZ rs a=0 then kY rs else[]
def abX{rs:List aX}{a:Nat}(h:oV rs a≠0):tZ rs a=oV rs a/\qN rs a=[]:=by grind [tZ,qN]
def abY{rs:List aX}{a:Nat}(b:oV rs a=0)(h:¬(pY (kY rs)=0/\nZ rs (sQ (kY rs))=true)):tZ rs a=2/\qN rs a=[]:=by grind [tZ,qN]
def akm{rs:List aX}{a:Nat}(b:oV rs a=0)(h:pY (kY rs)=0/\nZ rs (sQ (kY rs))=true):tZ rs a=0/\qN rs a=kY rs:=by grind [tZ,qN]
def akf{rs:List aX}{a:Nat}(h:oV rs a=0):a<=100/\∀r∈rs,l6 r=0:=by grind [oV,ahk]
def anh{a:Prop}(e:a:=by
 refine mW.mono ?_;rintro e wF ⟨rfl,eF⟩;have EF:=O (EE.ext eF);clear eF mW;obtain⟨sb,vU⟩:=aF (nZ rs qs);have Fx:=O vU;rw[vU];clear vU;cases sb with
 |false=>
  have rX:=O (TP (λh=>by have:=h.2;rw[zP.out,Fx.out]at this;cases this));go_wp2
  (try go_ret2)
  rw[HR.out];exact⟨by rw[rX.1,rX.2];rfl,EF⟩
 |true=>
  have rX:=O (Yh ⟨by first|rfl|trivial,by rw[zP.out,Fx.out]⟩);go_wp2
  (try go_ret2)
  rw[HR.out];exact⟨by rw[rX.1,rX.2];rfl,EF⟩):a:=e
def anb{a:Prop}(e:a:=by
 have rX:=O (TP (λh=>yO h.1));have n1:=om yO;have n2:=bg yO;generalize pY S=E at*;clear yO;go_wp2
 (try go_ret2)
 rw[HR.out];exact⟨by rw[rX.1,rX.2];rfl,EE⟩):a:=e
def am8{a:Prop}(e:a:=by
 have rX:=O (abX hE);have n1:=om hE;have n2:=bg hE;generalize oV rs pn=E at*;clear hE;go_wp2
 (try go_ret2)
 rw[HR.out];exact⟨by rw[rX.1,rX.2];rfl,EB⟩):a:=e
structure fB where
 cnt:Nat
 tm:Int
 last:ah
 lY:ah
 pol:Option (List aX)
 ms:List (ah×bq)
 ks:List (ah×bP)
 av:List (ah×List (ah×(bq×Int)))
def oW(l:List (ah×gN)):List (ah×(bq×Int)):=l.map λy=>(y.1,(y.2.r.l,y.2.t))
def bD.p(S:bD):fB:=⟨S.cnt,S.tm,S.last,S.lY,S.pol.map λP=>P.rs.map aX.bare,S.ms.map λx=>(x.1,x.2.l),S.ks,S.av.map λx=>(x.1,oW x.2.2)⟩
def jo:ah:=replicate 16 0
def wL:ah:=replicate 32 0
def fB.zero:fB:=⟨0,0,wL,jo,none,[],[],[]⟩
noncomputable def vO(e:aR):fA:=(qM oD e.act e.body).1
noncomputable def Q0(t:ah):Bool:=decide (pY t=0)&&decide (tZ (sQ t) (sQ t).length=0)&&decide (qN (sQ t) (sQ t).length=t)
def Oy(a:Int):Bool:=decide (a=1)||decide (a=2)||decide (a=3)||decide (a=8)||decide (a=11)||decide (a=12)
noncomputable def fB.Sc(S:fB)(e:aR)(x:fA):Int:=
 if e.act=2 then(if(dM S.ms x.member).isSome then 8 else if x.member=jo then 2 else 0)
 else if e.act=3 then(if(dM S.ms x.member).isNone then 7 else if S.ms.length=1 then 15 else 0)
 else if e.act=12 then(if(S.cnt:Int)<x.count then 4 else 0)else 0
noncomputable def fB.O1(S:fB)(e:aR)(x:fA)(k:bP):Int:=
 if e.act=5 then(if x.epoch≠k.epoch+1 then 4 else 0)
 else if e.act=6 then(if k.epoch<x.epoch then 4 else if x.purpose≠2/\x.epoch≠k.epoch then 15 else 0)
 else if e.act=9 then(if x.epoch≠k.epoch∨(x.dG.length:Int)<x.need then 4 else if x.dG.any (λh=>(dM S.ms h).isNone)then 6 else if x.commit≠k.commit then 17 else 0)
 else if e.act=10 then(if k.esc≠x.epoch then 15 else if x.commit≠k.shared then 17 else 0)else 0
noncomputable def fB.ref(S:fB)(e:aR):Int:=
 if iJ e≠0 then iJ e else
 if e.num≠(S.cnt:Int)then 9 else if e.prev≠S.last then 13 else if e.time<S.tm then 16
 else if S.cnt=0/\e.act≠2 then 3
 else if(S.cnt=0/\(vO e).member≠e.dz)∨(0<S.cnt/\(dM S.ms e.dz).isNone)then 6
 else if e.act=1/\Q0 (vO e).text.data.toList=false then 2
 else if e.act=4 then(if e.key=jo then 2 else if(dM S.ks e.key).isSome then 8 else 0)
 else if Oy e.act then(if e.key≠jo then 2 else S.Sc e (vO e))
 else match dM S.ks e.key with
  |none=>7
  |some k=>if k.rev then 15 else S.O1 e (vO e) k
noncomputable def rz(e:aR):ah:=eY 5 (e.dz++[UInt8.ofNat e.act.toNat]++e.key++eY 0 e.body)
def JB(t:Int)(l:List (ah×(bq×Int))):List (ah×(bq×Int)):=l.filter λy=>decide (t - y.2.2<=86400)
noncomputable def fB.act(S:fB)(e:aR)(x:fA):fB:=
 let k:=(dM S.ks e.key).getD bP.zero
 if e.act=1 then{S with pol:=some (sQ x.text.data.toList)}
 else if e.act=2 then{S with ms:=gF S.ms x.member x.roles}
 else if e.act=3 then{S with ms:=kW S.ms x.member,av:=S.av.map λy=>(y.1,kW y.2 x.member)}
 else if e.act=4 then{S with ks:=gF S.ks e.key ⟨e.key,x.label,0,x.commit,false, -1,wL⟩}
 else if e.act=5 then{S with ks:=gF S.ks e.key {k with epoch:=x.epoch,commit:=x.commit}}
 else if e.act=7 then{S with ks:=gF S.ks e.key {k with rev:=true}}
 else if e.act=9 then{S with ks:=gF S.ks e.key {k with esc:=x.epoch,shared:=x.commit}}
 else if e.act=8 then{S with av:=gF S.av x.commit (gF ((dM S.av x.commit).getD []) e.dz ((dM S.ms e.dz).getD [],e.time))}
 else S
noncomputable def fB.next(S:fB)(e:aR):fB:=
 let T:={S with lY:=if S.cnt=0 then e.dz else S.lY}.act e (vO e);let A:=if e.act≠8 then kW T.av (rz e)else T.av
 {T with av:=A.map λy=>(y.1,JB e.time y.2),cnt:=S.cnt+1,tm:=e.time,last:=pO e}
noncomputable def fB.apply(S:fB)(e:aR):fB:=if S.ref e=0 then S.next e else S
def tN(l:ah)(p:Nat):Nat:=(mo l (p+85)).toNat
def zu(l:ah)(at_:Int):Int:=
 if at_<0 then 4 else if(l.length:Int)<89∨(l.length:Int) - 89<at_ then 1 else if(l.drop at_.toNat).take 4≠[75,87,69,49]then 2 else if 32768<tN l at_.toNat then 5 else 0
def ahH{l:ah}{at_:Int}(h:zu l at_=0):∃p:Nat,at_=(p:Int)/\p+89<=l.length/\(l.drop p).take 4=[75,87,69,49]/\tN l p<=32768:=by
 unfold zu at h;split at h
 ·cases h
 split at h
 ·cases h
 split at h
 ·cases h
 split at h
 ·cases h
 rename_i c d a b;obtain⟨p,rfl⟩:=uO (show 0<=at_ by omega);rw[su]at a b;exact⟨p,F,J,by simpa using a,J⟩
def aee{a:Prop}(e:a:=by
 go_enter func93,ntmps93;go_wp2_with (refine bZ F (yH (k:=p) (h:=p+4) F F F F underlying32 jO J Dv F _) ?_);refine Yk.mono ?_;rintro e w' ⟨rfl,e1⟩;have E1:=O e1;clear e1 jy;go_wp2
 go_ret2
 exact⟨F,E1⟩):a:=e
def al0(l:ah)(a:aO)(n c:Nat)(at_:Int)(w:World)(m:l.length=n)(L:n<=c)(K:n<=140737488355328)(t:aM w a (l.map Y)):
 eO 93 #[.slice a n c,.int .i64 at_] w (.tuple #[.int .i64 (if zu l at_=0 then((121+tN l at_.toNat:Nat):Int)else 0),.int .i64 (zu l at_)]):=by
 obtain⟨r,q⟩:=aA m t;obtain⟨M,d⟩:=aF ((if zu l at_=0 then((121+tN l at_.toNat:Nat):Int)else 0));rw[d];obtain⟨E,b⟩:=aF (zu l at_);rw[b]at d⊢;unfold zu at b;rw[m]at b;clear t m;by_cases f:at_<0
 ·rw[aN f]at b;subst b;rw[aJ bS]at d;subst d;have A:=bV f;go_enter func93,ntmps93;go_wp2
  go_ret2
  exact⟨F,aj.refl w⟩
 rw[aJ f]at b;obtain⟨p,rfl⟩:=uO (show 0<=at_ by omega);rw[su]at b d;have A:=bU ((p:Int)<0);have N:=bU (p<0);clear f;by_cases z:n<89
 ·rw[aN J]at b;subst b;rw[aJ bS]at d;subst d;have B:=cO ((n:Int)<89);have C:=cO (n<89);go_enter func93,ntmps93;go_wp2
  go_ret2
  exact⟨F,aj.refl w⟩
 have B:=bU ((n:Int)<89);have C:=bU (n<89);have R:IntKind.i64.wrap ((n:Int) - 89)=(n:Int) - 89:=fJ _ J;by_cases j:(n:Int) - 89<p
 ·rw[aN J]at b;subst b;rw[aJ bS]at d;subst d;have D:=bV j;go_enter func93,ntmps93;go_wp2
  go_ret2
  exact⟨F,aj.refl w⟩
 have D:=bg j;rw[aJ J]at b;have Q:p+89<=n:=J;have S:IntKind.i64.wrap ((p:Int)+4)=(p:Int)+4:=fJ _ J;have u:((l.drop p).take 4).length=4:=by rw[fP,iI,r.out];omega
 have y:aM w (fu a c p) (((l.drop p).take 4).map Y):=by rw[wW,ze];exact q.shift c p 4 J
 have jy:=SH w (fu a c p) ((l.drop p).take 4) 4 (c - p) y u.symm;have i:(bN ((l.drop p).take 4)).toList=(l.drop p).take 4:=by unfold bN;rw[ByteArray.toList_mk]
 have Dv:p+4<=c:=J;clear z j y u;by_cases e:(l.drop p).take 4=[75,87,69,49]
 rotate_left
 ·rw[aN e]at b;subst b;rw[aJ bS]at d;subst d;have I:((bN ((l.drop p).take 4)).toList==[75,87,69,49])=false:=by rw[i];simpa using e
  clear e i;go_enter func93,ntmps93;go_wp2_with (refine bZ F (yH (k:=p) (h:=p+4) F F F F underlying32 jO J Dv F _) ?_)
  go_ret2
  exact⟨F,aj.refl w⟩
 rw[aJ (by simpa using e)]at b;have I:(bN ((l.drop p).take 4)).toList=[75,87,69,49]:=i.trans e;have x:jT n ((p+85:Nat):Int) 4=0:=by unfold jT;rw[aJ J,aJ J]
 have o:=abt l a n c ((p+85:Nat):Int) w r K L q;have v:Il l n ((p+85:Nat):Int)= .tuple #[.int .u32 ((mo l (p+85)).toNat:Nat),.int .i64 0]:=by rw[Il,aN x];rfl
 rw[v]at o;have Yk:=O o;unfold tN at b d;obtain⟨W,s⟩:=aF (mo l (p+85));rw[s]at b d Yk;have P:=W.toNat_lt;have T:IntKind.i64.wrap ((p:Int)+89)=(p:Int)+89:=fJ _ J;have U:IntKind.i64.wrap ((p:Int)+89 - 4)=((p+85:Nat):Int):=by rw[fJ _ J];omega
 clear e i x v o s;by_cases g:32768<W.toNat
 ·rw[aN g]at b;subst b;rw[aJ bS]at d;subst d;have G:=bV g;have H:=cO ((32768:Int)<(W.toNat:Int));exact aee
 ·rw[aJ g]at b;subst b;rw[aN F]at d;subst d;have G:=bg g;have H:=bU ((32768:Int)<(W.toNat:Int));have V:IntKind.i64.wrap (W.toNat:Int)=(W.toNat:Int):=fJ _ J;have aa:IntKind.i64.wrap (89+(W.toNat:Int))=89+(W.toNat:Int):=fJ _ J;have ab:IntKind.i64.wrap (89+(W.toNat:Int)+32)=((121+W.toNat:Nat):Int):=by rw[fJ _ J];omega
  exact aee
def Ao{P:Program}{c:Func}{b:Ending->World->Prop}{a:Act}{w:World}{p u q:Tmp}{ty:TypeId}{g:Nat}{vs:aP}{T:TypeId}
 (kP:c.results= #[.cell p ty,.tmp u,.tmp q])(hp:a.tmps.getD p undef= .pointer (some ⟨g,0,none⟩))(hb:au w g vs T)
 {n:Nat}(ht:jc P ty n)(hn:vs.length=n)
 (Ez:a.defers=[])(hR:b (.returned (.tuple #[.agg vs.toArray,a.tmps.getD u undef,a.tmps.getD q undef])) w):bodyPost P c b .ret a w:=by
 exact adP
def Q7:prog.eqGuardType prog.depth 31=false:=aC
def Gr{w:World}{b off:Nat}{l:ah}(h:∀(i:Nat) (u:Value),(l.map Y)[i]? =some u->w.cell? ⟨b,off+i,none⟩=some u)(k m:Nat):d9 w ⟨b,off+k,none⟩ (((l.drop k).take m).map Y):=by
 intro j u a;rw[eX];have c:j<m:=by have:=(iK.1 a).1;simp at this;omega
 rw[k_];refine h (k+j) u ?_;rw[wW,ze,uM c,qY]at a;exact a
def Gs{w:World}{b off:Nat}{l:ah}(h:∀(i:Nat) (u:Value),(l.map Y)[i]? =some u->w.cell? ⟨b,off+i,none⟩=some u)(k m:Nat):aM w (some ⟨b,off+k,none⟩) (((l.drop k).take m).map Y):=
 .inr ⟨b,off+k,F,λi u a=>by have:=Gr h k m i u a;rwa[eX]at this⟩
def Ep(l:ah)(p a:Nat):lX:=⟨oZ (iZ l (p+4)),oZ (iZ l (p+12)),(l[p+20]?.getD 0).toNat,(l.drop (p+21)).take 16,(l.drop (p+37)).take 16,(l.drop (p+53)).take 32,(l.drop (p+89)).take a⟩
def Me(l:ah)(p a:Nat):Bool:=eY 3 ((l.drop p).take (89+a))==(l.drop (p+89+a)).take 32
noncomputable def mM(l:ah)(at_:Int):lX×Int×Int:=
 if zu l at_≠0 then(D6,0,zu l at_)else
 if l.length<at_.toNat+121+tN l at_.toNat then(D6,0,1)else
 if Me l at_.toNat (tN l at_.toNat)=false then(D6,0,13)else
 if rC (Ep l at_.toNat (tN l at_.toNat))=0 then(Ep l at_.toNat (tN l at_.toNat),((at_.toNat+121+tN l at_.toNat:Nat):Int),0)
 else(D6,0,rC (Ep l at_.toNat (tN l at_.toNat)))
def ahQ{w:World}{B B':Nat}{e:TypeId}{z n c:Nat}{a:aO}{xs:aP}(h:w.ownsRow B e z (.slice a n c) n xs)(g:aM w a xs)(f:B'<=B):dh w B' a xs:=by
 rcases g with d|⟨b,off,ha,d⟩
 ·exact .inl d
 ·exact .inr ⟨b,off,ha,dJ f (h.lt b (by rw[ha];rfl)).1,d⟩
def aR.T_(w:World)(B:Nat)(r:aR):Prop:=r.Ok w/\dh w B r.ba (r.body.map Y)
def Ua(l:ah)(at_:Int)(w:World)(x:Ending)(w':World):Prop:=
 ∃r:aR,x= .returned (.tuple #[.agg r.v.toArray,.int .i64 (mM l at_).2.1,.int .i64 (mM l at_).2.2])/\r.T_ w' w.heap.size/\r.p=(mM l at_).1/\aj w w'
def X5(w:World):gB.Ok w:=⟨F,F,F,F,aQ _,bS,λ_=>⟨F,F⟩,.inl F⟩
def aeV{l:ah}{at_:Int}{w w':World}{E:Int}(h:mM l at_=(D6,0,E))(e:aj w w'):Ua l at_ w (.returned (.tuple #[.agg gB.v.toArray,.int .i64 0,.int .i64 E])) w':=
 ⟨gB,by rw[h],⟨X5 w',.inl F⟩,by rw[h];rfl,e⟩
section
noncomputable def aaP(es:List lX):ah:=match es.getLast? with|none=>wL|some e=>pO e.r
noncomputable def Ws(l:ah):Nat->Nat->List lX->List lX×Int
 |0,_,es=>(es,0)
 |f+1,p,es=>
  if l.length<=p then(es,0)
  else if(mM l p).2.2≠0 then(es,(mM l p).2.2)
  else if(mM l p).1.num≠(es.length:Int)then(es,9)
  else if(mM l p).1.prev≠aaP es then(es,13)
  else Ws l f (mM l p).2.1.toNat (es++[(mM l p).1])
noncomputable def ajD(l:ah):List lX×Int:=Ws l (l.length+1) 0 []
def ajR{l:ah}{p:Nat}(h:(mM l p).2.2=0):∃q:Nat,(mM l p).2.1=(q:Int)/\q=p+121+(mM l p).1.body.length/\q<=l.length/\rC (mM l p).1=0:=by
 unfold mM at h⊢;by_cases b:zu l p≠0
 ·rw[aN b]at h;exact absurd h b
 rw[aJ b]at h⊢;rw[show((p:Int)).toNat=p from F]at*;by_cases c:l.length<p+121+tN l p
 ·rw[aN c]at h;cases h
 rw[aJ c]at h⊢;by_cases d:Me l p (tN l p)=false
 ·rw[aN d]at h;cases h
 rw[aJ d]at h⊢;by_cases a:rC (Ep l p (tN l p))=0
 ·rw[aN a];refine⟨_,F,?_,J,a⟩;show _=p+121+((l.drop (p+89)).take (tN l p)).length;rw[fP,iI];omega
 ·rw[aJ a]at h;exact absurd h a
structure Yt(l:ah)(p:Nat)(es:List lX):Prop where
 f:∃f,l.length<p+f/\Ws l f p es=ajD l
 pl:p<=l.length
 good:∀e∈es,rC e=0
 sz:(es.map λe=>121+e.body.length).sum=p
section
variable {l:ah} {p:Nat} {es:List lX}
def Yt.many(h:Yt l p es):121*es.length<=p:=by
 have a:∀es:List lX,121*es.length<=(es.map λe=>121+e.body.length).sum:=by
  intro es;induction es with
  |nil=>exact aQ _
  |cons e es b=>rw[oM,Ec,iU];omega
 rw[<-h.sz];exact a es
end
end
def jf(w:World)(o:Obj):(w.alloc o).heap.size=w.heap.size+1:=by show(w.heap.push o).size=_;simp
def ajk(w:World):Calls prog 42 #[] w λe w'=>∃p S,e= .returned (.pointer (some ⟨p,0,none⟩))/\eT w' p S/\S.p=fB.zero/\aj w w'/\(∀g,S.M p g->w.heap.size<=g)/\p+1=w'.heap.size:=by
 have B:=λw=>SF (P:=prog) 142 w;have C:=λw=>SF (P:=prog) 143 w;have D:=λw=>SF (P:=prog) 144 w;go_enter func42,ntmps42;go_wp2;go_ret;generalize i:alloc w _=a;generalize j:alloc a _=b;generalize k:alloc b _=d;generalize l:alloc d _=A;have q:a.heap.size=w.heap.size+1:=by rw[<-i,jf]
 have r:b.heap.size=w.heap.size+2:=by rw[<-j,jf,q]
 have s:d.heap.size=w.heap.size+3:=by rw[<-k,jf,r]
 have E:A.heap.size=w.heap.size+4:=by rw[<-l,jf,s]
 have u:=dS i;have m:=dS j;have f:=dS k;have c:=dS l;have z:iN h_ j_.v a w.heap.size []:=by rw[<-i];exact iN.new w
 have n:iN h_ bP.va b a.heap.size []:=by rw[<-j];exact iN.new a
 have o:iN h_ vW d b.heap.size []:=by rw[<-k];exact iN.new b
 rw[q]at n;rw[r]at o;have t:=dX l (bD.v ⟨0,0,wL,jo,none,w.heap.size,w.heap.size+1,w.heap.size+2,[],[],[]⟩) 147;refine⟨d.heap.size,⟨0,0,wL,jo,none,w.heap.size,w.heap.size+1,w.heap.size+2,[],[],[]⟩,?_,?_,F,((u.ext m).ext f).ext c,?_,J⟩
 ·first|rfl|(rw[s];rfl)
 ·exact⟨t,F,F,aB,aB,aB,((z.ext m).ext f).ext c,(n.ext f).ext c,o.ext c,kL.nil,kL.nil,kL.nil,aB,by simp only[FH,nodup_cons,gM,lN,lQ,not_or];exact⟨J,J,aB,aB⟩,aB,aB,aB⟩
 ·intro g v;rcases v with h|h|h|h|⟨x,y,_⟩
  ·omega
  ·simp at h;omega
  ·simp at h;omega
  ·simp at h;omega
  ·simp at y
def adB(p:Nat)(S:bD)(w:World)(h:eT w p S):
 eO 51 #[.pointer (some ⟨p,0,none⟩)] w (.int .i64 S.tm):=by
 have a:=h.blk.cell' (i:=1) (v:= .int .i64 S.tm) F;clear h;go_enter func51,ntmps51;go_wp2;go_ret;exact⟨F,aj.refl _⟩
structure PS where
 al:Bool
 ru:Int
 nd:Int
 ow:ByteArray
def PS.v(d:PS):aP:=[.bool d.al,.int .i64 d.ru,.int .i64 d.nd,.string d.ow]
def PS.len(d:PS):d.v.length=4:=F
def iq.ajX{w:World}{a:iq}(h:a.Ok w):(a.v.drop 0).take 16=a.dz.map Y:=by
 unfold iq.v;rw[jP,oo (by simp[h.ha])]
def iq.amo(a:iq):a.v=(a.dz.map Y++[.slice a.sa a.sn a.sc,.int .i64 a.act,.string a.label])++(a.key.map Y++(.int .i64 a.time::a.detail.map Y)):=by
 unfold iq.v;simp
def iq.ajY{w:World}{a:iq}(h:a.Ok w):(a.v.drop 19).take 16=a.key.map Y:=by
 rw[iq.amo,q_ (by simp[h.ha]),oo (by simp[h.hk])]
def iq.ajZ{w:World}{a:iq}(h:a.Ok w):(a.v.drop 36).take 32=a.detail.map Y:=by
 have:a.v=(a.dz.map Y++[.slice a.sa a.sn a.sc,.int .i64 a.act,.string a.label]++a.key.map Y++[.int .i64 a.time])++a.detail.map Y:=by unfold iq.v;simp
 rw[this,q_ (by simp[h.ha,h.hk]),gY (by simp[h.hd])]
def Bb(a:iq):ah:=a.dz++[UInt8.ofNat a.act.toNat]++a.key++a.detail
def YS{w:World}{a:iq}(h:a.Ok w):(Bb a).length=65:=by unfold Bb;simp[h.ha,h.hk,h.hd]
def ab7(a:iq)(w:World)(ha:a.Ok w)(a4:∃A:Nat,a.act=(A:Int)/\A<=12):
 eO 53 #[.agg a.v.toArray] w (.agg ((eY 5 (Bb a)).map Y).toArray):=by
 obtain⟨ba,I,aw,ax,az⟩:=fC (iq.len ha) (iq.yC ha) (iq.ajX ha) (iq.ajY ha) (iq.ajZ ha);have ao:=O ha.ha;have ap:=O ha.hk;have aq:=O ha.hd;obtain⟨a6,L,K⟩:=aW (λ(b:aO) (c:Nat) w' h=>CW 5 (Bb a) 65 c b w' J J (YS ha) J h) (YS ha) (show((eY 5 (Bb a)).map Y).length=32 by rw[aI,nJ]);have a8:=dw (eY 5 (Bb a));obtain⟨A,u,bb⟩:=a4;obtain⟨k,B⟩:=mP (UInt8.ofNat A);have V:a.dz++[k]++a.key++a.detail=Bb a:=by unfold Bb;rw[u,B];rfl
 obtain⟨aE,ar⟩:=aA V B;rw[u]at I;clear B V u ha;generalize a5:eY 5 (Bb a)=S at*;clear a5;generalize Bb a=a9 at*;generalize a.v=av at*;generalize a.dz=D at*;generalize a.key=E at*;generalize a.detail=G at*;go_enter func53,ntmps53;go_upto_region 1 with(fail);generalize s:alloc (alloc w _) _=H;obtain⟨o,t,al⟩:=aW (qA s av 108) (qQ s (replicate 32 (.int .u8 0)) 31) (wN s);clear s;obtain⟨C,l,aK,bR⟩:=fK (show bM w H [w.heap.size,w.heap.size+1] [] H from bM.iP al (dR.two o.lt t.lt));have P:∀d,C d->d.cell? ⟨w.heap.size,17,none⟩=some (.int .i64 (A:Int)):=λd n=>(((l d).1 n).blk o aB).cell' I;have N:∀d,C d->aM d (some ⟨w.heap.size,0,none⟩) (D.map Y):=λd n=>by
  have:=aM.DI (((l d).1 n).blk o aB) 0 16;rwa[aw.out]at this
 have Q:∀d,C d->aM d (some ⟨w.heap.size,19,none⟩) (E.map Y):=λd n=>by
  have:=aM.DI (((l d).1 n).blk o aB) 19 16;rwa[ax.out]at this
 have R:∀d,C d->aM d (some ⟨w.heap.size,36,none⟩) (G.map Y):=λd n=>by
  have:=aM.DI (((l d).1 n).blk o aB) 36 32;rwa[az.out]at this
 refine nK (W:=[13]) λX=> ?_;refine dL 0 ?_;refine dL 1 ?_;refine dL 2 ?_;refine kK 3 (P) ?_;refine dL 4 ?_;refine dL 6 ?_;refine dL 7 ?_;refine dL 8 ?_;refine dL 9 ?_;have ab:IntKind.u8.wrap (A:Int)=(k.toNat:Int):=by
  rw[ar.out,FL,Nk _ J];omega
 rw[ab];clear ab;have bc:=O t.lt;generalize H.drew=p at*;refine i_ 5 ?_;intro g f;go_wp2_with fail;have ai:=O (show au (p.alloc (.cells #[.int .u8 (k.toNat:Int)] 5)) p.heap.size ([k].map Y) 5 from au.bK F F);have hF:=aK _ _ X ((aj.refl p).alloc (.cells #[.int .u8 (k.toNat:Int)] 5));refine f _ _ hF ?_;clear f g X;have X:=hF;clear hF;generalize p.alloc (.cells #[.int .u8 (k.toNat:Int)] 5)=i at*;generalize p.heap.size=m at*;refine aL ?_;obtain⟨k1,a7,k4,k6⟩:=bT (aM.iM ai) (N i X) (Q i X) (R i X);clear N Q R P;refine i_ 10 ?_;intro g f;go_wp2_with fail;have x:=aK _ _ X ((aj.refl i).alloc (.cells #[.slice (some ⟨w.heap.size,0,none⟩) 16 16,.slice (some ⟨m,0,none⟩) 1 1,.slice (some ⟨w.heap.size,19,none⟩) 16 16,.slice (some ⟨w.heap.size,36,none⟩) 32 32] 32));obtain⟨q,r⟩:=aA (show au (i.alloc (.cells #[.slice (some ⟨w.heap.size,0,none⟩) 16 16,.slice (some ⟨m,0,none⟩) 1 1,.slice (some ⟨w.heap.size,19,none⟩) 16 16,.slice (some ⟨w.heap.size,36,none⟩) 32 32] 32)) i.heap.size [.slice (some ⟨w.heap.size,0,none⟩) 16 16,.slice (some ⟨m,0,none⟩) 1 1,.slice (some ⟨w.heap.size,19,none⟩) 16 16,.slice (some ⟨w.heap.size,36,none⟩) 32 32] 32 from au.bK F F) ((aj.refl i).alloc (.cells #[.slice (some ⟨w.heap.size,0,none⟩) 16 16,.slice (some ⟨m,0,none⟩) 1 1,.slice (some ⟨w.heap.size,19,none⟩) 16 16,.slice (some ⟨w.heap.size,36,none⟩) 32 32] 32));refine f _ _ x ?_;clear f g X;have X:=x;clear x;generalize i.alloc (.cells #[.slice (some ⟨w.heap.size,0,none⟩) 16 16,.slice (some ⟨m,0,none⟩) 1 1,.slice (some ⟨w.heap.size,19,none⟩) 16 16,.slice (some ⟨w.heap.size,36,none⟩) 32 32] 32)=a_ at*
 generalize i.heap.size=a3 at*;refine aL ?_;refine i_ 11 ?_;intro g f;go_wp2_with fail;have z:jw [(some ⟨w.heap.size,0,none⟩,16,D),(some ⟨m,0,none⟩,1,[k]),(some ⟨w.heap.size,19,none⟩,16,E),(some ⟨w.heap.size,36,none⟩,32,G)]=a9:=by rw[<-aE.out];simp[jw]
 refine(NC [(some ⟨w.heap.size,0,none⟩,16,D),(some ⟨m,0,none⟩,1,[k]),(some ⟨w.heap.size,19,none⟩,16,E),(some ⟨w.heap.size,36,none⟩,32,G)] a3 4 4 a_ F J J ?hg ?hc ?hn ?hl).mono ?_
 case hg=>
  intro j ac bO
  match j,bO with
  |0,bO=>cases bO;unfold tV;simp only;rw[ao.out];exact q.cell' F
  |1,bO=>cases bO;exact q.cell' F
  |2,bO=>cases bO;unfold tV;simp only;rw[ap.out];exact q.cell' F
  |3,bO=>cases bO;unfold tV;simp only;rw[aq.out];exact q.cell' F
 case hc=>
  intro ac bO;simp only[gM,lN,lQ]at bO;rcases bO with rfl|rfl|rfl|rfl
  ·exact a7.ext r
  ·exact k1.ext r
  ·exact k4.ext r
  ·exact k6.ext r
 case hn=>
  intro ac bO;simp only[gM,lN,lQ]at bO;rcases bO with rfl|rfl|rfl|rfl<;>(intro h;cases h)
 case hl=>rw[z,L.out];omega
 rw[z,L.out];rintro e a' ⟨v,rfl,ad,T⟩;have y:=aK _ _ X T;obtain⟨a2,k5,rfl,bd,be,bh,aa⟩:=wm ad;have a0:=O aa;clear ad z aa;go_wp2_with fail;refine f _ _ y ?_;clear f g X T;have X:=y;clear y;refine aL ?_;refine i_ 12 ?_;intro g f;go_wp2_with fail;refine(a6 a2 k5 a' a0).mono ?_;rintro e af ⟨rfl,U⟩;replace X:=aK _ _ X U;go_wp2_with fail;refine f _ _ X ?_;clear f g U;refine aL ?_;have a1:=O (((l af).1 X).blk t aB);have am:=O ((l af).1 X).base;clear X l aK bR;refine lK 13 ?_;intro g f;go_wp2_with (refine aZ F _ _ _ F F F a1 bf aB K a8 ?_);intro bi M ae;go_wp2_with fail;refine f _ _ trivial ?_;clear f g;obtain⟨ag,an⟩:=aA M (ae.ext am J);clear M ae;refine aL ?_;refine n_ ?_;go_wp2;exact jS F F ag bf K F ⟨F,an⟩
section
def d_{w:World}{g:Nat}{vs xs:aP}{T:TypeId}{off n:Nat}(h:au w g vs T)(b:(vs.drop off).take n=xs):d9 w ⟨g,off,none⟩ xs:=by
 intro j u a;rw[eX];refine h.cell' ?_;rw[<-b,M8]at a;split at a
 ·rwa[qY]at a
 ·cases a
def Dr{P:Program}{o:Oper}{a:Act}{t:TypeId}{y z:Operand}{c:Bool}{b d v:Value}{w:World}(e:o.op= .lookup t y z c)(f:a.eval y=b)(g:a.eval z=d)
 (h:(Instr.lookup t b d c).run P w= .ok v w):(execOp a.eval o).run P w= .ok (.value v) w:=by simp_all [execOp]
def aa0{a:Type}(b:a->Value)(d:a)(o:Option a):OA b (b d) o=b (o.getD d):=by cases o<;>rfl
def bD.kV(S:bD):S.v[0]? =some (.int .i64 (S.cnt:Int)):=F
def bD.Ci(S:bD):S.v[1]? =some (.int .i64 S.tm):=F
theorem bD.tail(S:bD):S.v.drop 2=S.last.map Y++(S.lY.map Y++[.pointer (S.pol.map λp=>⟨p.q,0,none⟩),.map (some S.gm),.map (some S.gk),.map (some S.ga)]):=F
def bD.last_at{S:bD}(h:S.last.length=32):(S.v.drop 2).take 32=S.last.map Y:=by grind [bD.tail,take_left',length_map]
def bD.ahr{S:bD}(h:S.last.length=32)(a:S.lY.length=16):(S.v.drop 34).take 16=S.lY.map Y:=by
 have:S.v.drop 34=(S.v.drop 2).drop 32:=by rw[tK]
 rw[this,bD.tail,q_ (by rw[aI,h]),oo (by rw[aI,a])]
def bD.QN{S:bD}(h:S.last.length=32)(a:S.lY.length=16):S.v.drop 50=[.pointer (S.pol.map λp=>⟨p.q,0,none⟩),.map (some S.gm),.map (some S.gk),.map (some S.ga)]:=by
 have:S.v.drop 50=((S.v.drop 2).drop 32).drop 16:=by rw[tK,tK]
 rw[this,bD.tail,q_ (by rw[aI,h]),q_ (by rw[aI,a])]
def bD.K6{S:bD}(h:S.last.length=32)(a:S.lY.length=16):S.v[50]? =some (.pointer (S.pol.map λp=>⟨p.q,0,none⟩)):=by
 have:=lq (λl=>l[0]?) (bD.QN h a);simpa using this
def bD.sG{S:bD}(h:S.last.length=32)(a:S.lY.length=16):S.v[51]? =some (.map (some S.gm)):=by
 have:=lq (λl=>l[1]?) (bD.QN h a);simpa using this
def bD.yD{S:bD}(h:S.last.length=32)(a:S.lY.length=16):S.v[52]? =some (.map (some S.gk)):=by
 have:=lq (λl=>l[2]?) (bD.QN h a);simpa using this
def bD.Ad{S:bD}(h:S.last.length=32)(a:S.lY.length=16):S.v[53]? =some (.map (some S.ga)):=by
 have:=lq (λl=>l[3]?) (bD.QN h a);simpa using this
def bD.len{S:bD}(h:S.last.length=32)(a:S.lY.length=16):S.v.length=54:=by unfold bD.v;simp[h,a]
def j_.Hi.ext{w w':World}{B:Nat}{r:j_}(h:r.Hi w B)(e:aj w w'):r.Hi w' B:=⟨h.hl,h.nc,h.n16,h.sz,h.cell.ext' e⟩
def vK.Hi.ext{w w':World}{B:Nat}{r:vK}(h:r.Hi w B)(e:aj w w'):r.Hi w' B:=
 ⟨h.blk.ext e,h.ge,h.hl,h.nc,h.n100,h.cell.ext' e,λr a=>(h.Aq r a).ext e,λr a=>⟨(h.mO r a).1.ext' e,(h.mO r a).2.1.ext' e,(h.mO r a).2.2.ext' e⟩⟩
def eT.ext{w w':World}{p:Nat}{S:bD}(h:eT w p S)(e:aj w w'):eT w' p S:=
 {h with blk:=h.blk.ext e,mem:=h.mem.ext e,key:=h.key.ext e,app:=h.app.ext e,inn:=λx a=>⟨(h.inn x a).1.ext e,(h.inn x a).2.1,λy b=>⟨((h.inn x a).2.2 y b).1.ext e,((h.inn x a).2.2 y b).2⟩⟩,mr:=λx a=>(h.mr x a).ext e,po:=λP c=>(h.po P c).ext e}
def aoo(w:World):(zeroValue 98).run prog w= .ok (j_.v j_.nil) w:=aC
def aon(w:World):(zeroValue 159).run prog w= .ok (bP.va bP.zero) w:=aC
section
variable {K V U:Type} [DecidableEq K] (f:V->U)
def VE(hs:List (K×V))(k:K):mK k (hs.map λx=>(x.1,f x.2))=mK k hs:=by
 unfold mK;rw[List.findIdx?_map];rfl
def NY(hs:List (K×V))(k:K):dM (hs.map λx=>(x.1,f x.2)) k=(dM hs k).map f:=by
 unfold dM;rw[VE];cases mK k hs with
 |none=>rfl
 |some i=>simp only[iT,Option.map_map];rfl
def Xk(hs:List (K×V))(k:K)(v:V):gF (hs.map λx=>(x.1,f x.2)) k (f v)=(gF hs k v).map λx=>(x.1,f x.2):=by
 unfold gF;rw[VE];cases mK k hs with
 |none=>simp
 |some i=>simp[zV]
def UU(hs:List (K×V))(k:K):kW (hs.map λx=>(x.1,f x.2)) k=(kW hs k).map λx=>(x.1,f x.2):=by
 unfold kW;rw[VE];cases mK k hs with
 |none=>rfl
 |some i=>simp[VW]
end
noncomputable def bD.mZ(S:bD)(id:ah):j_:=(dM S.ms id).getD .nil
noncomputable def bD.CF(S:bD)(id:ah):bP:=(dM S.ks id).getD .zero
def eT.Pf{w:World}{p:Nat}{S:bD}(h:eT w p S){id:ah}(a:id.length=16)(c:Bool):
 (Instr.lookup 142 (.map (some S.gm)) (h_ id) c).run prog w= .ok (if c then .tuple #[(S.mZ id).v,.bool (dM S.ms id).isSome]else(S.mZ id).v) w:=by
 have:=SB Dy underlying142 (aoo w) h.mem h.em (show uT id from a) c;rwa[aa0]at this
def eT.W9{w:World}{p:Nat}{S:bD}(h:eT w p S){id:ah}(a:id.length=16)(c:Bool):
 (Instr.lookup 143 (.map (some S.gk)) (h_ id) c).run prog w= .ok (if c then .tuple #[(S.CF id).va,.bool (dM S.ks id).isSome]else(S.CF id).va) w:=by
 have:=SB Dy underlying143 (aon w) h.key h.ek (show uT id from a) c;rwa[aa0]at this
def eT.acj{w:World}{p:Nat}{S:bD}(h:eT w p S)(id:ah):(S.mZ id).Hi w (p+1):=by
 unfold bD.mZ;cases a:dM S.ms id with
 |none=>exact⟨F,aQ _,bS,by simp[j_.nil],.inl F⟩
 |some r=>exact h.mr _ (Lr a)
def eT.RA{w:World}{p:Nat}{S:bD}(h:eT w p S)(id:ah):(S.CF id).Ok:=by grind [bD.CF,dM,bD,eT,bP.D7,Lr]
end
def zb(n:Nat):aP:=(replicate n (0:UInt8)).map Y
def IW:iq:=⟨jo,none,0,0,[],0,⟨#[]⟩,jo,0,wL⟩
def aic:(prog.info? 108).map (λi=>(i.zero,i.size,i.bytes))=some (some (.agg IW.v.toArray),68,120):=aC
def ag2:(prog.underlying 108).bind (λd=>match d with| .struct a=>a.toList.mapM (λf=>(prog.info? f.type).map λi=>(f.offset,i.size))|_=>none)=some [(0,16),(16,1),(17,1),(18,1),(19,16),(35,1),(36,32)]:=aC
def Oq:(prog.info? 159).map (λi=>(i.zero,i.size,i.bytes))=some (some (.agg bP.zero.v.toArray),84,120):=aC
def ag6:(prog.underlying 159).bind (λd=>match d with| .struct a=>a.toList.mapM (λf=>(prog.info? f.type).map λi=>(f.offset,i.size))|_=>none)=some [(0,16),(16,1),(17,1),(18,32),(50,1),(51,1),(52,32)]:=aC
def afG(x:ah)(sa:aO)(sn sc:Nat)(l:bq)(act:Int)(y:ah)(t:Int)(z:ah)(a:x.length=16)(b:y.length=16)(c:z.length=32):prog.built 108 [(0,agg (x.map Y).toArray),(1,slice sa sn sc),(2,int .i64 act),(4,agg (y.map Y).toArray),(5,int .i64 t),(6,agg (z.map Y).toArray)]=some (iq.v ⟨x,sa,sn,sc,l,act,⟨#[]⟩,y,t,z⟩).toArray:=by
 obtain⟨o,j,k,n,m⟩:=gJ aic;have d:=ag2;rw[underlying108]at d;simp only[AV]at d;unfold Program.built;rw[j,underlying108];simp only[k,d];have e:(agg IW.v.toArray).cells=((([]:aP))++(zb 16)++([slice none 0 0]++[int .i64 0]++[string ⟨#[]⟩]++(zb 16)++[int .i64 0]++(zb 32))).toArray:=F;rw[e,lF (([]:aP)) (zb 16) ([slice none 0 0]++[int .i64 0]++[string ⟨#[]⟩]++(zb 16)++[int .i64 0]++(zb 32)) F (by simp[zb,a,b,c]) (by simp[cells,a,b,c]) (by simp[zb])];have g1:(([]:aP))++(agg (x.map Y).toArray).cells.toList++([slice none 0 0]++[int .i64 0]++[string ⟨#[]⟩]++(zb 16)++[int .i64 0]++(zb 32))=((x.map Y))++[slice none 0 0]++([int .i64 0]++[string ⟨#[]⟩]++(zb 16)++[int .i64 0]++(zb 32)):=by simp[cells,zb]
 rw[g1,lF ((x.map Y)) [slice none 0 0] ([int .i64 0]++[string ⟨#[]⟩]++(zb 16)++[int .i64 0]++(zb 32)) F (by simp[zb,a,b,c]) (by simp[cells,a,b,c]) (by simp[zb])];have f:((x.map Y))++(slice sa sn sc).cells.toList++([int .i64 0]++[string ⟨#[]⟩]++(zb 16)++[int .i64 0]++(zb 32))=((x.map Y)++[slice sa sn sc])++[int .i64 0]++([string ⟨#[]⟩]++(zb 16)++[int .i64 0]++(zb 32)):=by simp[cells,zb]
 rw[f,lF ((x.map Y)++[slice sa sn sc]) [int .i64 0] ([string ⟨#[]⟩]++(zb 16)++[int .i64 0]++(zb 32)) F (by simp[zb,a,b,c]) (by simp[cells,a,b,c]) (by simp[zb])];have g:((x.map Y)++[slice sa sn sc])++(int .i64 act).cells.toList++([string ⟨#[]⟩]++(zb 16)++[int .i64 0]++(zb 32))=((x.map Y)++[slice sa sn sc]++[int .i64 act]++[string ⟨#[]⟩])++(zb 16)++([int .i64 0]++(zb 32)):=by simp[cells,zb]
 rw[g,lF ((x.map Y)++[slice sa sn sc]++[int .i64 act]++[string ⟨#[]⟩]) (zb 16) ([int .i64 0]++(zb 32)) F (by simp[zb,a,b,c]) (by simp[cells,a,b,c]) (by simp[zb])];have h:((x.map Y)++[slice sa sn sc]++[int .i64 act]++[string ⟨#[]⟩])++(agg (y.map Y).toArray).cells.toList++([int .i64 0]++(zb 32))=((x.map Y)++[slice sa sn sc]++[int .i64 act]++[string ⟨#[]⟩]++(y.map Y))++[int .i64 0]++((zb 32)):=by simp[cells,zb]
 rw[h,lF ((x.map Y)++[slice sa sn sc]++[int .i64 act]++[string ⟨#[]⟩]++(y.map Y)) [int .i64 0] ((zb 32)) F (by simp[zb,a,b,c]) (by simp[cells,a,b,c]) (by simp[zb])];have i:((x.map Y)++[slice sa sn sc]++[int .i64 act]++[string ⟨#[]⟩]++(y.map Y))++(int .i64 t).cells.toList++((zb 32))=((x.map Y)++[slice sa sn sc]++[int .i64 act]++[string ⟨#[]⟩]++(y.map Y)++[int .i64 t])++(zb 32)++(([]:aP)):=by simp[cells,zb]
 rw[i,lF ((x.map Y)++[slice sa sn sc]++[int .i64 act]++[string ⟨#[]⟩]++(y.map Y)++[int .i64 t]) (zb 32) (([]:aP)) F (by simp[zb,a,b,c]) (by simp[cells,a,b,c]) (by simp[zb])];rw[Instr.fill];simp[cells,zb,iq.v]
def agF{o:Oper}{a:Act}{b c d e f g:Operand}{x:ah}{sa:aO}{sn sc:Nat}{l:bq}{act:Int}{y:ah}{t:Int}{z:ah}(u:o.op= .build 108 #[(0,b),(1,c),(2,d),(4,e),(5,f),(6,g)])(i:a.eval b=agg (x.map Y).toArray)(j:a.eval c=slice sa sn sc)(k:a.eval d=int .i64 act)(m:a.eval e=agg (y.map Y).toArray)(n:a.eval f=int .i64 t)(p:a.eval g=agg (z.map Y).toArray)(v:x.length=16)(A:y.length=16)(B:z.length=32)(w:World):(execOp a.eval o).run prog w= .ok (.value (.agg (iq.v ⟨x,sa,sn,sc,l,act,⟨#[]⟩,y,t,z⟩).toArray)) w:=by
 have h:=B_ (P:=prog) w 108 #[(0,agg (x.map Y).toArray),(1,slice sa sn sc),(2,int .i64 act),(4,agg (y.map Y).toArray),(5,int .i64 t),(6,agg (z.map Y).toArray)] _ (afG x sa sn sc l act y t z v A B);have s:(#[(0,b),(1,c),(2,d),(4,e),(5,f),(6,g)].map λ(r:Nat×Operand)=>(r.1,a.eval r.2))= #[(0,agg (x.map Y).toArray),(1,slice sa sn sc),(2,int .i64 act),(4,agg (y.map Y).toArray),(5,int .i64 t),(6,agg (z.map Y).toArray)]:=by simp[i,j,k,m,n,p]
 unfold execOp;simp only[u,iC];have q:(Instr.build 108 (#[(0,b),(1,c),(2,d),(4,e),(5,f),(6,g)].map λ(r:Nat×Operand)=>(r.1,a.eval r.2))).run prog w= .ok (.agg (iq.v ⟨x,sa,sn,sc,l,act,⟨#[]⟩,y,t,z⟩).toArray) w:=by rw[s];exact h
 rw[q];rfl
def afL(x:ah)(c:ByteArray)(y:ah)(es:Int)(a:x.length=16)(b:y.length=32):prog.built 159 [(0,agg (x.map Y).toArray),(1,string c),(3,agg (y.map Y).toArray),(5,int .i64 es)]=some (bP.v ⟨x,c,0,y,false,es,wL⟩).toArray:=by
 obtain⟨l,h,i,k,j⟩:=gJ Oq;have d:=ag6;rw[underlying159]at d;simp only[AV]at d;unfold Program.built;rw[h,underlying159];simp only[i,d];have e:(agg bP.zero.v.toArray).cells=((([]:aP))++(zb 16)++([string ⟨#[]⟩]++[int .i64 0]++(zb 32)++[bool false]++[int .i64 0]++(zb 32))).toArray:=F;rw[e,lF (([]:aP)) (zb 16) ([string ⟨#[]⟩]++[int .i64 0]++(zb 32)++[bool false]++[int .i64 0]++(zb 32)) F (by simp[zb,a,b]) (by simp[cells,a,b]) (by simp[zb])];have g1:(([]:aP))++(agg (x.map Y).toArray).cells.toList++([string ⟨#[]⟩]++[int .i64 0]++(zb 32)++[bool false]++[int .i64 0]++(zb 32))=((x.map Y))++[string ⟨#[]⟩]++([int .i64 0]++(zb 32)++[bool false]++[int .i64 0]++(zb 32)):=by simp[cells,zb]
 rw[g1,lF ((x.map Y)) [string ⟨#[]⟩] ([int .i64 0]++(zb 32)++[bool false]++[int .i64 0]++(zb 32)) F (by simp[zb,a,b]) (by simp[cells,a,b]) (by simp[zb])];have f:((x.map Y))++(string c).cells.toList++([int .i64 0]++(zb 32)++[bool false]++[int .i64 0]++(zb 32))=((x.map Y)++[string c]++[int .i64 0])++(zb 32)++([bool false]++[int .i64 0]++(zb 32)):=by simp[cells,zb]
 rw[f,lF ((x.map Y)++[string c]++[int .i64 0]) (zb 32) ([bool false]++[int .i64 0]++(zb 32)) F (by simp[zb,a,b]) (by simp[cells,a,b]) (by simp[zb])];have g:((x.map Y)++[string c]++[int .i64 0])++(agg (y.map Y).toArray).cells.toList++([bool false]++[int .i64 0]++(zb 32))=((x.map Y)++[string c]++[int .i64 0]++(y.map Y)++[bool false])++[int .i64 0]++((zb 32)):=by simp[cells,zb]
 rw[g,lF ((x.map Y)++[string c]++[int .i64 0]++(y.map Y)++[bool false]) [int .i64 0] ((zb 32)) F (by simp[zb,a,b]) (by simp[cells,a,b]) (by simp[zb])];rw[Instr.fill];simp[cells,zb,bP.v,wL]
def agL{o:Oper}{a:Act}{c d e f:Operand}{x:ah}{b:ByteArray}{y:ah}{es:Int}(n:o.op= .build 159 #[(0,c),(1,d),(3,e),(5,f)])(g:a.eval c=agg (x.map Y).toArray)(i:a.eval d=string b)(j:a.eval e=agg (y.map Y).toArray)(k:a.eval f=int .i64 es)(p:x.length=16)(q:y.length=32)(w:World):(execOp a.eval o).run prog w= .ok (.value (.agg (bP.v ⟨x,b,0,y,false,es,wL⟩).toArray)) w:=by
 have h:=B_ (P:=prog) w 159 #[(0,agg (x.map Y).toArray),(1,string b),(3,agg (y.map Y).toArray),(5,int .i64 es)] _ (afL x b y es p q);have m:(#[(0,c),(1,d),(3,e),(5,f)].map λ(r:Nat×Operand)=>(r.1,a.eval r.2))= #[(0,agg (x.map Y).toArray),(1,string b),(3,agg (y.map Y).toArray),(5,int .i64 es)]:=by simp[g,i,j,k]
 unfold execOp;simp only[n,iC];have l:(Instr.build 159 (#[(0,c),(1,d),(3,e),(5,f)].map λ(r:Nat×Operand)=>(r.1,a.eval r.2))).run prog w= .ok (.agg (bP.v ⟨x,b,0,y,false,es,wL⟩).toArray) w:=by rw[m];exact h
 rw[l];rfl
def ZJ{x:ah}(h:x.length=16)(w:World):(binOp .eql 29 (.agg (x.map Y).toArray) (.agg (replicate 16 (.int .u8 0)).toArray)).run prog w= .ok (.bool (decide (x=jo))) w:=by
 have b:(replicate 16 (int .u8 0))=jo.map Y:=by simp[jo,Y]
 rw[b,ZH underlying29 x jo h (by simp[jo]) w]
 congr 1
 by_cases a:x=jo<;>simp[a]
def aD.VX{b:aD}(h:b.member.length=16):(b.v.drop 1).take 16=b.member.map Y:=by grind [aD.v]
def adQ{a:Prop}(e:a:=by
 go_wp2_with (first|(refine bZ F (cB F F (d_ MH Yi) eu tC) ?_)|(refine bZ F (pQ F F F Bn TN _) ?_));go_ret;exact⟨by rw[<-iB.out];rfl,EB⟩):a:=e
def acd(p:Nat)(S:bD)(e:aR)(b:aD)(w:World)(h:eT w p S)(j:b.member.length=16)(I:b.commit.length=32):
 eO 124 #[.pointer (some ⟨p,0,none⟩),.agg e.v.toArray,.agg b.v.toArray] w (.int .i64 (S.p.Sc e b.p)):=by
 obtain⟨ao,tC,Yi,ae,U,Q⟩:=jW h (show(b.member.map Y).length=16 by rw[aI,j]) (aD.VX j) (λa (W:aj w a)=>(h.ext W).Pf (id:=b.member) j true) (λa=>ZJ j a) (aD.Ux (b:=b) j I);have K:dM S.p.ms b.member=(dM S.ms b.member).map j_.l:=NY j_.l S.ms b.member;have L:S.p.ms.length=S.ms.length:=by show(S.ms.map _).length=_;rw[aI]
 obtain⟨n,l⟩:=aF (S.p.Sc e b.p);rw[l];unfold fB.Sc at l;rw[show b.p.member=b.member from F,K,L,show S.p.cnt=S.cnt from F,show b.p.count=b.count from F,Option.isSome_map,Option.isNone_map,show(dM S.ms b.member).isNone= !(dM S.ms b.member).isSome by cases dM S.ms b.member<;>rfl]at l;obtain⟨d,af⟩:=aA l (aR.at2 e);have ab:=O h.blk;have m:=O (And.intro h.hl h.hf);have ac:=O h.mem;clear l h j I K L;generalize e.v=aa at*;generalize b.v=V at*;go_enter func124,ntmps124;go_upto_region 1 with fail;generalize t:alloc (alloc w _) _=B;have y:=wN t;obtain⟨D,u,v,x⟩:=bT (qA t aa 34) (qQ t V 101) y (ab.ext y);clear t y;generalize w.heap.size+1=G5 at*;generalize w.heap.size=an at*;obtain⟨C,c,H⟩:=nR B;have G:∀a,C a->a.cell? ⟨p,51,none⟩=some (.map (some S.gm)):=λa k=>(x.ext ((c a).1 k)).cell' (bD.sG m.1 m.2);refine qX (S:=C) aC ((c _).2 (aj.refl B).drew) (λX=> ?_);refine ay 0 ?_;refine ay 1 ?_;refine ay 2 ?_;refine dW 3 (G) ?_;refine ay 4 ?_;refine aV 5 F (aY F (λa h=>cB F F (d_ (u.ext ((c a).1 h)) Yi) eu tC)) ?_;refine aV 6 F (aY F (λa h=>Dr F F F (ae a (v.ext ((c a).1 h))))) ?_;simp only[wX];generalize (dM S.ms b.member).isSome=N at*;generalize (S.mZ b.member).v=a1 at*;refine ay 7 ?_;refine ay 8 ?_;refine ay 9 ?_;refine ay 10 ?_;refine ay 11 ?_;refine dP ?_;have f:=(c _).1 X;generalize ag:drew B=R at f⊢;obtain⟨T,MH,E,EB⟩:=bT (D.ext f) (u.ext f) (x.ext f) (v.ext f);have a2:=T.cell' af;have ap:=λty=>alq (ty:=ty) underlying142 (ac.ext EB);have a3:=E.cell' (bD.sG m.1 m.2)
 have am:=E.cell' (bD.kV S);have a4:=MH.cell' Q;clear ag f D v x u X H c G;generalize e.act=act at*;by_cases q:act=2
 ·subst q;cases N with
  |true=>
   go_wp2;go_ret;exact⟨by rw[<-d.out];rfl,EB⟩
  |false=>
   have z:=U.out;obtain⟨zb,A⟩:=aF (decide (b.member=jo));rw[A]at z;have TN:=O z;have iB:=O (show(if zb=true then(2:Int)else 0)=n by
    rw[<-d.out,<-A];by_cases ad:b.member=jo<;>simp[ad])
   clear z A d;cases zb with
   |true=>
    exact adQ
   |false=>
    exact adQ
 have aq:=qd q;have ar:=bg q;by_cases r:act=3
 ·subst r;cases N with
  |false=>
   go_wp2;go_ret;exact⟨by rw[<-d.out];rfl,EB⟩
  |true=>
   generalize S.ms.length=g at*;by_cases s:g=1
   ·subst s;go_wp2;go_ret;exact⟨by rw[<-d.out];rfl,EB⟩
   ·have P:((g:Int)==1)=false:=by simp;omega
    have r2:=bU ((g:Int)=1);have a0:=bg s;have iB:=O (show(0:Int)=n by rw[<-d.out];simp[s]);clear d s;go_wp2;go_ret;exact⟨by rw[<-iB.out];rfl,EB⟩
 have aw:=qd r;have ax:=bg r;by_cases o:act=12
 ·subst o;have iB:=O (show(if(S.cnt:Int)<b.count then(4:Int)else 0)=n by rw[<-d.out];simp);clear d;generalize S.cnt=g at*;generalize b.count=M at*;obtain⟨C,c,H⟩:=nR R;have al:∀a,C a->a.cell? ⟨G5,56,none⟩=some (.int .i64 M):=λa k=>(MH.ext ((c a).1 k)).cell' Q;have ai:∀a,C a->a.cell? ⟨p,0,none⟩=some (.int .i64 (g:Int)):=λa k=>oP am ((c a).1 k);go_upto_region 14 with fail;refine qX (S:=C) aC ((c _).2 (aj.refl R).drew) (λX=> ?_);refine ay 0 ?_;refine dW 1 (al) ?_;refine ay 2 ?_;refine ay 3 ?_;refine ay 4 ?_;refine dW 5 (ai) ?_;refine ay 6 ?_;refine dP ?_;have f:=(c _).1 X;by_cases i:(g:Int)<M
  ·have P:=bV i;have r2:=bV i;rw[aN i]at iB;go_wp2;go_ret;exact⟨by rw[<-iB.out];rfl,EB.ext f⟩
  ·have P:=bg i;have r2:=bg i;rw[aJ i]at iB;go_wp2;go_ret;exact⟨by rw[<-iB.out];rfl,EB.ext f⟩
 have az:=qd o;have aE:=bg o;have iB:=O (show(0:Int)=n by rw[<-d.out];simp[q,r,o]);go_wp2;go_ret;exact⟨by rw[<-iB.out];rfl,EB⟩
section
def ah1(p:ah->Bool)(g:Nat)(Q:Array Value)(ls:List (ah))(a:aO)(n c:Nat)(w:World)(V:∀D w,(callFunc g D).run prog w= .ok (.enter g D) w)(H:ls.length=n)(W:n<=140737488355328)(G:yZ ls)(N:aM w a (dH ls))
 (I:∀y∈ls,∀w',aj w w'->Calls prog g (#[.agg (y.map Y).toArray]++Q) w' λe U=>e= .returned (.bool (p y))/\aj w' U):
 Calls prog 231 #[.slice a n c,.func (.func g) #[] Q] w λe w'=>∃z:Int,e= .returned (.int .i64 z)/\decide (0<=z)=ls.any p/\aj w w':=by
 obtain⟨u,T,S,s⟩:=bT H N I G;clear H N I G;go_enter func231,ntmps231;go_wp2;go_loopw [8] (λi wr=>∃k:Nat,k<=n/\i= .int .i64 (k:Int)/\(ls.take k).any p=false/\aj w wr) (λi _=>n - (intOf i).toNat)
 ·exact⟨0,J,F,aB,aj.refl _⟩
 ·obtain⟨k,aa,rfl,K,E⟩:=hrel;obtain⟨d,v⟩:=aA E K;clear E K;by_cases q:k<n
  ·obtain⟨x,b⟩:∃x,ls[k]? =some x:=⟨ls[k]'(by rw[u.out];exact q),aB⟩;have P:x.length=16:=s.out x (f_ b);obtain⟨A,rfl,L⟩:=Sq T s b;have t:=O ((L k x b).ext d);have C:Hid ((x.map Y).length=16):=O (by rw[aI,P]);have l:=O (S x (f_ b) wr d);have M:(ls.take (k+1)).any p=p x:=by rw[ny,b,any_append,v.out];simp
   have B:=O M;have o:p x=true->ls.any p=true:=λh=>He.2 ⟨x,f_ b,h⟩;clear L b M P;cases f:p x with
   |true=>
    rw[f]at l;have m:=O (o f);clear o f;go_wp2_with (first|(refine bZ F (gD (i:=k) F F F underlying99 Ke q _) ?_)|(refine bZ F (cB F F t eu C) ?_));refine l.mono ?_;rintro e w' ⟨rfl,j⟩;go_wp2;go_ret;exact⟨_,F,by rw[m.out];exact bV J,d.ext j⟩
   |false=>
    rw[f]at l B;clear o f;go_wp2_with (first|(refine bZ F (gD (i:=k) F F F underlying99 Ke q _) ?_)|(refine bZ F (cB F F t eu C) ?_));refine l.mono ?_;rintro e w' ⟨rfl,j⟩;go_wp2_with fail;have R:=O (d.ext j);clear j;go_roundw
    ·exact⟨k+1,J,by go_num,B,R⟩
    ·exact fV
  ·obtain rfl:k=n:=J;have r:=v.out;rw[gY (by rw[u.out];exact aQ _)]at r;have m:=O r;clear r;go_wp2;go_ret;exact⟨-1,F,by rw[m.out];rfl,d⟩
def af3(p:ah->Bool)(g:Nat)(d:Array Value)(ls:List (ah))(a:aO)(n c:Nat)(w:World)(i:∀f w,(callFunc g f).run prog w= .ok (.enter g f) w)(k:ls.length=n)(q:n<=140737488355328)(j:yZ ls)(m:aM w a (dH ls))
 (l:∀y∈ls,∀w',aj w w'->Calls prog g (#[.agg (y.map Y).toArray]++d) w' λe t=>e= .returned (.bool (p y))/\aj w' t):
 eO 180 #[.slice a n c,.func (.func g) #[] d] w (.bool (ls.any p)):=by
 have r:=O (ah1 p g d ls a n c w i k q j m l);clear l m k i j;generalize ls.any p=b at*;generalize Value.func (.func g) #[] d=u at*;go_enter func180,ntmps180;go_wp2_with fail;refine r.mono ?_;rintro e v ⟨z,rfl,s,h⟩;have o:=O h;clear h;go_wp2;go_ret;exact⟨by first|rfl|rw[s],o⟩
def akx(p g:Nat)(S:bD)(id:ah)(w:World)(h:eT w p S)(e:id.length=16)(k:w.cell? ⟨g,0,none⟩=some (.pointer (some ⟨p,0,none⟩))):
 eO 181 #[.agg (id.map Y).toArray,.pointer (some ⟨g,0,none⟩)] w (.bool (dM S.ms id).isNone):=by
 obtain⟨r,z⟩:=aA (show(id.map Y).length=16 by rw[aI,e]) (λa (v:aj w a)=>(h.ext v).Pf (id:=id) e true);have y:=O h.blk;obtain⟨j,q⟩:=aA (And.intro h.hl h.hf) k;have l:(dM S.ms id).isNone= !(dM S.ms id).isSome:=by cases dM S.ms id<;>rfl
 rw[l];clear h e k l;generalize (dM S.ms id).isSome=D at*;generalize (S.mZ id).v=E at*;go_enter func181,ntmps181;go_upto_region 1 with fail;generalize f:alloc w _=m;have c:=dS f;obtain⟨n,i,s,o⟩:=bT (dX f (id.map Y) 29) c (y.ext c) (oP q c);clear f c;generalize w.heap.size=A at*;obtain⟨C,b,B⟩:=nR m;have t:∀a,C a->a.cell? ⟨p,51,none⟩=some (.map (some S.gm)):=λa d=>(s.ext ((b a).1 d)).cell' (bD.sG j.1 j.2);have u:∀a,C a->a.cell? ⟨g,0,none⟩=some (.pointer (some ⟨p,0,none⟩)):=λa d=>oP o ((b a).1 d);refine qX (S:=C) aC ((b _).2 (aj.refl m).drew) (λX=> ?_);refine dW 0 (u) ?_;refine ay 1 ?_;refine ay 2 ?_;refine dW 3 (t) ?_;refine aV 4 F (gP F 29 _ F F (λa h=>n.ext ((b a).1 h)) eu r) ?_;refine aV 5 F (aY F (λa h=>Dr F F F (z a (i.ext ((b a).1 h))))) ?_;simp only[wX];refine ay 6 ?_;refine ay 7 ?_;refine ay 8 ?_;refine ay 9 ?_;refine ay 10 ?_;refine dP ?_;have x:=(b _).1 X;go_wp2;go_ret;exact⟨F,i.ext x⟩
section
variable {k:bP} (h:k.Ok)
include h
def bP.Ti:k.v.drop 16= .string k.label:: .int .i64 k.epoch::(k.commit.map Y++(.bool k.rev:: .int .i64 k.esc::k.shared.map Y)):=by
 unfold bP.v;rw[q_ (by rw[aI,h.hk])]
def bP.XF:k.v.drop 50= .bool k.rev:: .int .i64 k.esc::k.shared.map Y:=by
 have:k.v.drop 50=(k.v.drop 16).drop 34:=by rw[tK]
 rw[this,bP.Ti h,mH,mH,q_ (by rw[aI,h.hc])]
def bP.Uu:k.v[16]? =some (.string k.label):=by
 have:=lq (λl=>l[0]?) (bP.Ti h);simpa using this
def bP.yC:k.v[17]? =some (.int .i64 k.epoch):=by
 have:=lq (λl=>l[1]?) (bP.Ti h);simpa using this
def bP.K6:k.v[50]? =some (.bool k.rev):=by
 have:=lq (λl=>l[0]?) (bP.XF h);simpa using this
def bP.sG:k.v[51]? =some (.int .i64 k.esc):=by
 have:=lq (λl=>l[1]?) (bP.XF h);simpa using this
def bP.Gi:(k.v.drop 0).take 16=k.key.map Y:=by
 unfold bP.v;rw[jP,oo (by rw[aI,h.hk])]
def bP.Lf:(k.v.drop 18).take 32=k.commit.map Y:=by
 have:k.v.drop 18=(k.v.drop 16).drop 2:=by rw[tK]
 rw[this,bP.Ti h,mH,mH,jP,oo (by rw[aI,h.hc])]
def bP.Xn:(k.v.drop 52).take 32=k.shared.map Y:=by
 have:k.v.drop 52=(k.v.drop 50).drop 2:=by rw[tK]
 rw[this,bP.XF h,mH,mH,jP,gY (by rw[aI,h.hs];exact aQ _)]
end
def aD.Lf{b:aD}(h:b.member.length=16)(a:b.commit.length=32):(b.v.drop 19).take 32=b.commit.map Y:=by
 unfold aD.v;rw[mH,show 18=16+2 by rfl,<-tK,q_ (by rw[aI,h]),mH,mH,jP,oo (by rw[aI,a])]
def V3{x y:ah}(a:x.length=32)(b:y.length=32)(w:World):(binOp .neq 31 (.agg (x.map Y).toArray) (.agg (y.map Y).toArray)).run prog w= .ok (.bool (decide (x≠y))) w:=by
 rw[xI underlying31 x y a b w]
 congr 1
 by_cases h:x=y<;>simp[h]
def yx:jc prog 159 84:=⟨⟨_,underlying159,F⟩,aC⟩
def Q8:prog.eqGuardType prog.depth 31=false:=aC
def aej{a:Prop}(e:a:=by
 clear hz hd hq iB Yj HV;go_wp2_with (first|(refine bZ F (cB F F (d_ BB rW) bf xW) ?_)|(refine bZ F (cB F F (d_ BK uo) bf D_) ?_)|(refine bZ F (pQ F F F Q8 HZ _) ?_));go_ret;exact⟨by rw[<-fI.out];rfl,EA⟩):a:=e
def adE{a:Prop}(e:a:=by
 clear hz hd hq Ea Di;go_wp2_with (first|(refine bZ F (cB F F (d_ MH rW) bf xW) ?_)|(refine bZ F (cB F F (d_ BK2 fG) bf jq) ?_)|(refine bZ F (pQ F F F Q8 HZ _) ?_));go_ret;exact⟨by rw[<-fI.out];rfl,EB⟩):a:=e
def aky(p:Nat)(S:bD)(e:aR)(b:aD)(k:bP)(w:World)(h:eT w p S)(g:b.Fit)(T:aM w b.ha (dH b.dG))(j:k.Ok):
 eO 125 #[.pointer (some ⟨p,0,none⟩),.agg e.v.toArray,.agg b.v.toArray,.agg k.v.toArray] w (.int .i64 (S.p.O1 e b.p k)):=by
 obtain⟨ab,B,aa,Di,Yj,xW,jq,D_⟩:=mQ h g T (λG=>V3 g.hcm j.hc G) (λG=>V3 g.hcm j.hs G) (show(b.commit.map Y).length=32 by rw[aI,g.hcm]) (show(k.commit.map Y).length=32 by rw[aI,j.hc]) (show(k.shared.map Y).length=32 by rw[aI,j.hs]);obtain⟨rW,fG,uo,aw,ax,az,aE,V⟩:=mQ (aD.Lf g.hm g.hcm) (bP.Lf j) (bP.Xn j) (aD.K7 (b:=b) g.hm g.hcm) (aD.Uv (b:=b) g.hm g.hcm) (aD.Uw (b:=b) g.hm g.hcm) (aD.Uy (b:=b) g.hm g.hcm) (bP.yC j);obtain⟨ap,an⟩:=aA (bP.sG j) (aR.at2 e);have Q:b.dG.any (λh=>(dM S.p.ms h).isNone)=b.dG.any (λh=>(dM S.ms h).isNone):=by
  congr 1;funext h;rw[show dM S.p.ms h=(dM S.ms h).map j_.l from NY j_.l S.ms h,Option.isNone_map]
 have U:(b.dG.length:Int)=(b.hn:Int):=by rw[g.hl]
 have a1:b.hn<=256:=g.Ey;obtain⟨f,o⟩:=aF (S.p.O1 e b.p k);rw[o];unfold fB.O1 at o;rw[show b.p.epoch=b.epoch from F,show b.p.purpose=b.purpose from F,show b.p.need=b.need from F,show b.p.dG=b.dG from F,show b.p.commit=b.commit from F,Q,U]at o;obtain⟨c,R⟩:=uO j.e0;have a0:c<=4294967295:=by have:=j.e1;omega
 rw[R]at o V;have HV:=O o;clear o h g T j Q U R;generalize e.v=ae at*;generalize b.v=ad at*;generalize k.v=aq at*;generalize b.epoch=a at*;generalize b.purpose=l at*;generalize b.need=bn at*;generalize k.esc=n at*;generalize e.act=act at*;go_enter func125,ntmps125;go_upto_region 1 with fail;generalize q:alloc (alloc (alloc (alloc w _) _) _) _=r;have M:au r w.heap.size [.pointer (some ⟨p,0,none⟩)] 25:=by rw[<-q];exact(((au.bK F F).alloc _).alloc _).alloc _
 have K:au r (w.heap.size+1) ae 34:=by rw[<-q];exact((au.bK (jf _ _).symm rfl).alloc _).alloc _
 have I:au r (w.heap.size+2) ad 101:=by rw[<-q];exact(au.bK (by rw[jf,jf]) F).alloc _
 have L:au r (w.heap.size+3) aq 159:=by rw[<-q];exact au.bK (by rw[jf,jf,jf]) F
 have P:aj w r:=by rw[<-q];exact((((aj.refl w).alloc _).alloc _).alloc _).alloc _
 obtain⟨W,BB,BK,EA⟩:=bT M I L P;have ba:=K.cell' an;clear q M I L K P;generalize w.heap.size+3=G7 at*;generalize w.heap.size+2=G6 at*;generalize w.heap.size+1=G5 at*;generalize w.heap.size=H at*;have bb:=BB.cell' aw;have bc:=BB.cell' ax;have bd:=BB.cell' az;have be:=BB.cell' aE;have bh:=BK.cell' V;have bi:=BK.cell' ap;by_cases v:act=5
 ·subst v;have a2:IntKind.i64.wrap ((c:Int)+1)=(c:Int)+1:=fJ _ J;have iB:=O (show(if a≠(c:Int)+1 then(4:Int)else 0)=f by rw[<-HV.out];simp);by_cases hq:a=(c:Int)+1
  ·have ar:(a != (c:Int)+1)=false:=by simp[hq]
   have fI:=O (show(0:Int)=f by rw[<-iB.out];simp[hq]);clear HV hq;go_wp2;go_ret;exact⟨by rw[<-fI.out];rfl,EA⟩
  ·have ar:(a != (c:Int)+1)=true:=by simp;exact hq
   have r2:=bg hq;have fI:=O (show(4:Int)=f by rw[<-iB.out];simp[hq]);clear HV hq;go_wp2;go_ret;exact⟨by rw[<-fI.out];rfl,EA⟩
 have a5:=qd v;have a6:=bg v;by_cases x:act=6
 ·subst x;have iB:=O (show(if(c:Int)<a then(4:Int)else if l≠2/\a≠(c:Int)then 15 else 0)=f by rw[<-HV.out];simp);by_cases d:(c:Int)<a
  ·skip
   have s:=cO ((c:Int)<a);have t:=cO (a>(c:Int));have fI:=O (show(4:Int)=f by rw[<-iB.out];simp[d]);clear HV;go_wp2;go_ret;exact⟨by rw[<-fI.out];rfl,EA⟩
  have s:=bU ((c:Int)<a);have t:=bU (a>(c:Int));by_cases i:l=2
  ·skip
   have D:(l==2)=true:=by simp[i]
   have E:(l != 2)=false:=by simp[i]
   have af:decide (l=2)=true:=by simp[i]
   have fI:=O (show(0:Int)=f by rw[<-iB.out];simp[d,i]);clear HV;go_wp2;go_ret;exact⟨by rw[<-fI.out];rfl,EA⟩
  have D:(l==2)=false:=by simp[i]
  have E:(l != 2)=true:=by simp[i]
  have af:decide (l=2)=false:=by simp[i]
  by_cases m:a=(c:Int)
  ·skip
   have ag:(a==(c:Int))=true:=by simp[m]
   have ai:(a != (c:Int))=false:=by simp[m]
   have al:decide (a=(c:Int))=true:=by simp[m]
   have fI:=O (show(0:Int)=f by rw[<-iB.out];simp[d,m]);clear HV;go_wp2;go_ret;exact⟨by rw[<-fI.out];rfl,EA⟩
  have ag:(a==(c:Int))=false:=by simp[m]
  have ai:(a != (c:Int))=true:=by simp[m]
  have al:decide (a=(c:Int))=false:=by simp[m]
  have fI:=O (show(15:Int)=f by rw[<-iB.out];simp[d,i,m]);clear HV;go_wp2;go_ret;exact⟨by rw[<-fI.out];rfl,EA⟩
 have a7:=qd x;have a8:=bg x;by_cases z:act=9
 ·subst z;have iB:=O (show(if a≠(c:Int)∨(b.hn:Int)<bn then(4:Int)else if b.dG.any (λh=>(dM S.ms h).isNone)then 6 else if b.commit≠k.commit then 17 else 0)=f by rw[<-HV.out];simp);by_cases d:a=(c:Int)
  case neg=>
   have s:(a==(c:Int))=false:=by simp[d]
   have t:(a != (c:Int))=true:=by simp[d]
   have C:decide (a=(c:Int))=false:=by simp[d]
   have fI:=O (show(4:Int)=f by rw[<-iB.out];simp[d]);clear HV;go_wp2;go_ret;exact⟨by rw[<-fI.out];rfl,EA⟩
  have s:(a==(c:Int))=true:=by simp[d]
  have t:(a != (c:Int))=false:=by simp[d]
  have C:decide (a=(c:Int))=true:=by simp[d]
  by_cases i:(b.hn:Int)<bn
  ·skip
   have D:=cO ((b.hn:Int)<bn);have E:=cO (bn>(b.hn:Int));have fI:=O (show(4:Int)=f by rw[<-iB.out];simp[i]);clear HV;go_wp2;go_ret;exact⟨by rw[<-fI.out];rfl,EA⟩
  have D:=bU ((b.hn:Int)<bn);have E:=bU (bn>(b.hn:Int));have Ea:=O (show(if b.dG.any (λh=>(dM S.ms h).isNone)then(6:Int)else if b.commit≠k.commit then 17 else 0)=f by rw[<-iB.out];simp[d,i]);clear HV;have am:=O (af3 (λh=>(dM S.ms h).isNone) 181 #[.pointer (some ⟨H,0,none⟩)] b.dG b.ha b.hn b.hc r (NQ func181 aC F) B.hl J B.h16 (aa.ext EA) (λy ao w' N=>akx p H S y w' ((ab.ext EA).ext N) (B.h16 y ao) ((W.ext N).cell' F)));generalize b.dG.any _=ac at*;go_wp2_with fail;refine am.mono ?_;rintro e a' ⟨rfl,A⟩;obtain⟨MH,BK2,EB⟩:=aW (BB.ext A) (BK.ext A) (EA.ext A);clear A;cases ac with
  |true=>
   go_wp2;go_ret;exact⟨by rw[<-Ea.out];rfl,EB⟩
  |false=>
   have hz:=Di.out;by_cases hq:b.commit=k.commit
   ·have hd:decide (b.commit≠k.commit)=false:=by simp[hq]
    rw[hd]at hz;obtain⟨HZ,fI⟩:=aA hz (show(0:Int)=f by rw[<-Ea.out];simp[hq]);exact adE
   ·have hd:decide (b.commit≠k.commit)=true:=by simp[hq]
    rw[hd]at hz;obtain⟨HZ,fI⟩:=aA hz (show(17:Int)=f by rw[<-Ea.out];simp[hq]);exact adE
 have a9:=qd z;have a_:=bg z;by_cases u:act=10
 ·subst u;have iB:=O (show(if n≠a then(15:Int)else if b.commit≠k.shared then 17 else 0)=f by rw[<-HV.out];simp);by_cases d:n=a
  case neg=>
   have s:(n==a)=false:=by simp[d]
   have t:(n != a)=true:=by simp[d]
   have C:decide (n=a)=false:=by simp[d]
   have fI:=O (show(15:Int)=f by rw[<-iB.out];simp[d]);clear HV;go_wp2;go_ret;exact⟨by rw[<-fI.out];rfl,EA⟩
  have s:(n==a)=true:=by simp[d]
  have t:(n != a)=false:=by simp[d]
  have C:decide (n=a)=true:=by simp[d]
  have hz:=Yj.out;by_cases hq:b.commit=k.shared
  ·have hd:decide (b.commit≠k.shared)=false:=by simp[hq]
   rw[hd]at hz;obtain⟨HZ,fI⟩:=aA hz (show(0:Int)=f by rw[<-iB.out];simp[d,hq]);exact aej
  ·have hd:decide (b.commit≠k.shared)=true:=by simp[hq]
   rw[hd]at hz;obtain⟨HZ,fI⟩:=aA hz (show(17:Int)=f by rw[<-iB.out];simp[d,hq]);exact aej
 have a3:=qd u;have a4:=bg u;have fI:=O (show(0:Int)=f by rw[<-HV.out];simp[v,x,z,u]);go_wp2;go_ret;exact⟨by rw[<-fI.out];rfl,EA⟩
end
section
section
variable {w w':World} {B p g:Nat} {S:bD}
def kM.ne{vs:aP}{T:TypeId}(h:kM w g){k:Nat}(a:au w k vs T):k≠g:=by grind [au,kM]
abbrev r9(g:Nat):World->World->Prop:=gL (λx=>x=g)
def dF.iL(u:dF w g w'):r9 g w w':=gL.RV u F
def dh.iL{a:aO}{xs:aP}(h:dh w B a xs)(u:r9 g w w')(b:g<B∨kM w g):dh w' B a xs:=
 h.mut u (λx c d=>by
  subst c;rcases b with b|b
  ·omega
  ·exact b)
def j_.Hi.iL{r:j_}(h:r.Hi w B)(u:r9 g w w')(a:g<B∨kM w g):r.Hi w' B:=⟨h.hl,h.nc,h.n16,h.sz,h.cell.iL u a⟩
def vK.Hi.iL{P:vK}(h:P.Hi w B)(u:r9 g w w')(a:g<B∨kM w g):P.Hi w' B:=by
 have d:P.q≠g:=by
  rcases a with a|a
  ·have:=h.ge;omega
  ·exact a.ne h.blk
 have b:∀r∈P.rs,dh w' B r.ra (r.roles.map dx)/\dh w' B r.aa (r.acts.map qH)/\dh w' B r.la (r.labels.map dx):=λr b=>
  ⟨(h.mO r b).1.iL u a,(h.mO r b).2.1.iL u a,(h.mO r b).2.2.iL u a⟩
 exact⟨h.blk.mut u d,h.ge,h.hl,h.nc,h.n100,h.cell.iL u a,λr c=>{h.Aq r c with vk:=(b r c).1.cells,uQ:=(b r c).2.1.cells,Bz:=(b r c).2.2.cells},b⟩
def eT.JX(h:eT w p S):kM w S.gm:=kM.map h.mem
def eT.RS(h:eT w p S):kM w S.gk:=kM.map h.key
def eT.OD(h:eT w p S):kM w S.ga:=kM.map h.app
def eT.OE(h:eT w p S){x:ah×(Nat×List (ah×gN))}(a:x∈S.av):kM w x.2.1:=kM.map (h.inn x a).1
def eT.LU(h:eT w p S):S.gm≠S.gk/\S.gm≠S.ga/\S.gk≠S.ga/\(∀x∈S.av,x.2.1≠S.gm/\x.2.1≠S.gk/\x.2.1≠S.ga)/\(S.av.map λx=>x.2.1).Nodup:=by grind [eT]
def eT.rest(h:eT w p S)(u:r9 g w w')(a:kM w g):
 au w' p S.v 147/\(∀x∈S.av,∀y∈x.2.2,y.2.r.Hi w' (p+1)/\0<=y.2.t/\y.2.t<=1099511627776)/\(∀x∈S.ms,x.2.Hi w' (p+1))/\∀P,S.pol=some P->P.Hi w' (p+1):=
 ⟨h.blk.mut u (a.ne h.blk),λx b y c=>⟨((h.inn x b).2.2 y c).1.iL u (.inr a),((h.inn x b).2.2 y c).2⟩,λx b=>(h.mr x b).iL u (.inr a),λP d=>(h.po P d).iL u (.inr a)⟩
def eT.ac5(h:eT w p S)(u:r9 S.gm w w'){ms:List (ah×j_)}(m:iN h_ j_.v w' S.gm ms)(em:kL uT ms)(mr:∀x∈ms,x.2.Hi w' (p+1)):eT w' p {S with ms:=ms}:=by
 obtain⟨b,c,g,d,i⟩:=h.LU;obtain⟨e,r2,j,f⟩:=h.rest u h.JX;exact{blk:=e,hl:=h.hl,hf:=h.hf,c1:=h.c1,t0:=h.t0,t1:=h.t1,mem:=m,key:=h.key.mut u b.symm,app:=h.app.mut u c.symm,em:=em,ek:=h.ek,ea:=h.ea,inn:=λx a=>⟨(h.inn x a).1.mut u (d x a).1,(h.inn x a).2.1,r2 x a⟩,nd:=h.nd,mr:=mr,kr:=h.kr,po:=f}
def eT.SQ(h:eT w p S)(u:r9 S.gk w w'){ks:List (ah×bP)}(m:iN h_ bP.va w' S.gk ks)(ek:kL uT ks)(kr:∀x∈ks,x.2.Ok):eT w' p {S with ks:=ks}:=by
 obtain⟨b,i,c,d,j⟩:=h.LU;obtain⟨e,r2,f,g⟩:=h.rest u h.RS;exact{blk:=e,hl:=h.hl,hf:=h.hf,c1:=h.c1,t0:=h.t0,t1:=h.t1,mem:=h.mem.mut u b,key:=m,app:=h.app.mut u c.symm,em:=h.em,ek:=ek,ea:=h.ea,inn:=λx a=>⟨(h.inn x a).1.mut u (d x a).2.1,(h.inn x a).2.1,r2 x a⟩,nd:=h.nd,mr:=f,kr:=kr,po:=g}
def eT.ac3(h:eT w p S)(u:r9 S.ga w w'){av:List (ah×(Nat×List (ah×gN)))}(m:iN h_ vW w' S.ga av)(ea:kL Eu av)
 (b:∀x∈av,(iN h_ gN.v w x.2.1 x.2.2/\kL uT x.2.2/\∀y∈x.2.2,y.2.r.Hi w (p+1)/\0<=y.2.t/\y.2.t<=1099511627776))(nd:(S.gm::S.gk::S.ga::av.map (λx=>x.2.1)).Nodup):eT w' p {S with av:=av}:=by
 obtain⟨n,g,i,o,q⟩:=h.LU;obtain⟨j,r2,k,l⟩:=h.rest u h.OD;have c:=nd;simp only[nodup_cons,gM,not_or]at c;obtain⟨⟨_,_,_⟩,⟨_,_⟩,f,_⟩:=c;exact{blk:=j,hl:=h.hl,hf:=h.hf,c1:=h.c1,t0:=h.t0,t1:=h.t1,mem:=h.mem.mut u g,key:=h.key.mut u i,app:=m,em:=h.em,ek:=h.ek,ea:=ea,inn:=λx a=>⟨(b x a).1.mut u (λe=>f (e▸mem_map_of_mem a)),(b x a).2.1,λy d=>⟨((b x a).2.2 y d).1.iL u (.inr h.OD),((b x a).2.2 y d).2⟩⟩,nd:=nd,mr:=k,kr:=h.kr,po:=l}
def eT.Xl(h:eT w p S){i:Nat}{x:ah×(Nat×List (ah×gN))}(f:S.av[i]? =some x)(u:r9 x.2.1 w w'){l:List (ah×gN)}(m:iN h_ gN.v w' x.2.1 l)(z:kL uT l)
 (hl:∀y∈l,y.2.r.Hi w (p+1)/\0<=y.2.t/\y.2.t<=1099511627776):eT w' p {S with av:=S.av.set i (x.1,(x.2.1,l))}:=by
 obtain⟨M,N,P,n,H⟩:=h.LU;have b:=f_ f;obtain⟨I,r2,K,L⟩:=h.rest u (h.OE b);have D:(S.av.set i (x.1,(x.2.1,l))).map (λx=>x.2.1)=S.av.map (λx=>x.2.1):=LQ f F;have C:(S.av.set i (x.1,(x.2.1,l))).map Prod.fst=S.av.map Prod.fst:=LQ f F;have E:(S.av.set i (x.1,(x.2.1,l))).map (λq=>(h_ q.1,vW q.2))=S.av.map (λq=>(h_ q.1,vW q.2)):=LQ f F;refine{blk:=I,hl:=h.hl,hf:=h.hf,c1:=h.c1,t0:=h.t0,t1:=h.t1,mem:=h.mem.mut u (n x b).1.symm,key:=h.key.mut u (n x b).2.1.symm,app:= ?_,em:=h.em,ek:=h.ek,ea:= ?_,inn:= ?_,nd:=by show(S.gm::S.gk::S.ga::_).Nodup;rw[D];exact h.nd,mr:=K,kr:=h.kr,po:=L}
 ·obtain⟨es,c,r,s,t⟩:=h.app.mut u (n x b).2.2.symm;exact⟨es,c,r,by rw[E];exact s,t⟩
 ·refine⟨λq d=> ?_,by rw[C];exact h.ea.nodup⟩;rcases Jl d with d|rfl
  ·exact h.ea.good q d
  ·exact h.ea.good x b
 ·intro q d;obtain⟨j,a⟩:=AU d;rw[Jd]at a;split at a
  ·split at a
   ·injection a with a;subst a;exact⟨m,z,λy o=>⟨(hl y o).1.iL u (.inr (h.OE b)),(hl y o).2⟩⟩
   ·cases a
  ·rename_i B;have g:=f_ a;have G:q.2.1≠x.2.1:=by
    intro e;have A:((S.av.map λx=>(x.2.1,x.1)).map Prod.fst).Nodup:=by rw[zU];exact H
    exact B (OJ A (k:=x.2.1) (v:=x.1) (u:=q.1) (by rw[iT,f];rfl) (by rw[iT,a,<-e];rfl))
   exact⟨(h.inn q g).1.mut u G,(h.inn q g).2.1,r2 q g⟩
def eT.Xm(h:eT w p S)(u:r9 p w w'){T:bD}(m:au w' p T.v 147)(hl:T.last.length=32)(hf:T.lY.length=16)(c1:T.cnt<=65536)(t0:0<=T.tm)(t1:T.tm<=1099511627776)
 (f:T.gm=S.gm)(i:T.gk=S.gk)(j:T.ga=S.ga)(d:T.ms=S.ms)(e:T.ks=S.ks)(b:T.av=S.av)(po:∀P,T.pol=some P->P.Hi w (p+1)):eT w' p T:=by
 have c:∀g,kM w g->g≠p:=λg n=>(n.ne h.blk).symm;exact{blk:=m,hl:=hl,hf:=hf,c1:=c1,t0:=t0,t1:=t1,mem:=by rw[f,d];exact h.mem.mut u (c _ h.JX),key:=by rw[i,e];exact h.key.mut u (c _ h.RS),app:=by rw[j,b];exact h.app.mut u (c _ h.OD),em:=by rw[d];exact h.em,ek:=by rw[e];exact h.ek,ea:=by rw[b];exact h.ea,inn:=by rw[b];exact λx a=>⟨(h.inn x a).1.mut u (c _ (h.OE a)),(h.inn x a).2.1,λy k=>⟨((h.inn x a).2.2 y k).1.iL u (.inl J),((h.inn x a).2.2 y k).2⟩⟩,nd:=by rw[f,i,j,b];exact h.nd,mr:=by rw[d];exact λx a=>(h.mr x a).iL u (.inl J),kr:=by rw[e];exact h.kr,po:=λP l=>(po P l).iL u (.inl J)}
end
end
noncomputable def bD.lab(S:bD)(e:aR):ByteArray:=if e.act=4 then(vO e).label else(S.CF e.key).label
noncomputable def bD.uR(S:bD)(e:aR)(l:ByteArray):iq:=⟨e.dz,(S.mZ e.dz).a,(S.mZ e.dz).n,(S.mZ e.dz).c,(S.mZ e.dz).l,e.act,l,e.key,e.time,eY 0 e.body⟩
def bD.Nv{w:World}{p:Nat}{S:bD}{e:aR}(h:eT w p S)(b:e.Ok w){l:ByteArray}(c:l.size<=140737488355328):(S.uR e l).Ok w:=by
 have a:=h.acj e.dz;exact⟨b.ha,b.hk,nJ _ _,a.hl,a.nc,by show(S.mZ e.dz).n<=_;have:=a.n16;omega,a.cell.cells,λs hs=>by have:=a.sz s hs;omega,c⟩
def Qy(a:iq):∀v∈a.v,v.oneCell'=true:=by
 intro v b;unfold iq.v at b;simp only[kU,gM,pI]at b;rcases b with⟨a,_,rfl⟩|rfl|rfl|rfl|⟨a,_,rfl⟩|rfl|⟨a,_,rfl⟩<;>rfl
def iq.Ph{a:iq}(h:a.dz.length=16)(l:ByteArray):a.v.set 18 (.string l)={a with label:=l}.v:=by simp_all [iq.v]
def agN{o:Oper}{a:Act}{x:Operand}{xs:Array Value}{s:ByteArray}(b:o.op= .field 159 x 1)(d:a.eval x= .agg xs)(c:xs[16]? =some (.string s))(w:World):(execOp a.eval o).run prog w= .ok (.value (.string s)) w:=by
 have h:(Instr.field 159 (.agg xs) 1).run prog w= .ok (.string s) w:=by
  simp[Instr.field,jB underlying159,asAgg,part,isAgg,jB underlying9,c]
 unfold execOp;simp only[b,d,iC,h,ng,ni]
def Ht:jc prog 108 68:=⟨⟨_,underlying108,F⟩,aC⟩
def adF{a:Prop}(e:a:=by
 go_wp2_with (first|(refine dA F 108 _ F F B7 Ht (TS _) ?_)|(refine aZ F _ _ _ F F F X6 Ht F (TS _) (Qy _) ?_));intro w8 b8 u8;go_wp2;refine jS F F b8 Ht (TS _) F ⟨F,u8.ext E7 Rf.1⟩):a:=e
def YT(p:Nat)(S:bD)(e:aR)(w:World)(h:eT w p S)(f:e.Ok w)(I:iJ e=0):
 eO 79 #[.pointer (some ⟨p,0,none⟩),.agg e.v.toArray] w (.agg (S.uR e (S.lab e)).v.toArray):=by
 obtain⟨cg,ch,ci,cj,ck,cl,cm⟩:=Er f I;have b':=O (show(qM oD e.act e.body).2=0 by
  unfold iJ at I;rw[aJ (by unfold fZ;simp;omega)]at I;exact I)
 obtain⟨P,R⟩:=aA f (And.intro h.hl h.hf);have b9:=O h.blk;obtain⟨a4,a6,a0,a1,bs,b8,b6,b3⟩:=mQ (show(e.dz.map Y).length=16 by rw[aI,f.ha]) (show(e.key.map Y).length=16 by rw[aI,f.hk]) (aR.Qv f) (aR.Gi f) (aR.La f) (λa (u:aj w a)=>(show(Instr.lookup 142 (.map (some S.gm)) (h_ e.dz) false).run prog a= .ok (S.mZ e.dz).v a from(h.ext u).Pf (id:=e.dz) f.ha false)) (λa (u:aj w a)=>(show(Instr.lookup 143 (.map (some S.gk)) (h_ e.key) false).run prog a= .ok (S.CF e.key).va a from(h.ext u).W9 (id:=e.key) f.hk false)) (h.RA e.key);obtain⟨cd,b5,cr⟩:=aW (λa (g:aj w a)=>CW 0 e.body e.bn e.bc e.ba a J J f.hb J (f.hcl.ext g)) (nJ 0 e.body) (show(S.mZ e.dz).v= .slice (S.mZ e.dz).a (S.mZ e.dz).n (S.mZ e.dz).c from F);have al:=O f.ha;have b1:=O f.hk;obtain⟨U,ac⟩:=aF (S.lab e);rw[ac];unfold bD.lab at ac;have Q:=O ac;obtain⟨L,ab⟩:=aF (S.uR e ⟨#[]⟩);obtain⟨a5,an⟩:=aA (show L.v.length=68 by rw[<-ab];exact iq.len (bD.Nv h f bS)) (λl=>show L.v.set 18 (.string l)=(S.uR e l).v by rw[<-ab];exact iq.Ph f.ha l);obtain⟨TS,aE,cq⟩:=aW (λl=>show(S.uR e l).v.length=68 by rw[<-an.out l,length_set];exact a5) ab (aR.len f);clear ac h f I cg ch ci cj ck cl cm ab;go_enter func79,ntmps79;go_upto_region 1 with fail;generalize K:alloc (alloc w _) _=z;have aq:=wN K;have ce:z.heap.size=w.heap.size+2:=by rw[<-K,jf,jf]
 obtain⟨j,af,N,ao⟩:=bT (qA K e.v 34) (qQ K IW.v 108) aq (b9.ext aq);clear K aq;obtain⟨t,bj⟩:=aF (w.heap.size+1);obtain⟨ai,bi⟩:=aF w.heap.size;rw[bj]at af⊢;rw[bi]at j⊢;have Rf:w.heap.size<=t/\t<z.heap.size:=J;clear bj bi ce;obtain⟨C,c,aK⟩:=nR z;have bb:∀a,C a->a.cell? ⟨p,51,none⟩=some (.map (some S.gm)):=λa g=>(ao.ext ((c a).1 g)).cell' (bD.sG R.1 R.2);have a':∀a,C a->a.cell? ⟨ai,1,none⟩=some (.int .i64 e.time):=λa g=>(j.ext ((c a).1 g)).cell' (aR.Ci e);have ba:∀a,C a->a.cell? ⟨ai,2,none⟩=some (.int .i64 e.act):=λa g=>(j.ext ((c a).1 g)).cell' (aR.at2 e);have bd:∀a,C a->a.cell? ⟨ai,67,none⟩=some (.slice e.ba e.bn e.bc):=λa g=>(j.ext ((c a).1 g)).cell' bs;refine qX (S:=C) aC ((c _).2 (aj.refl z).drew) (λX=> ?_);refine ay 0 ?_;refine aV 1 F (aY F (λa h=>cB F F (d_ (j.ext ((c a).1 h)) a0) eu a4)) ?_;refine ay 2 ?_;refine ay 3 ?_;refine ay 4 ?_;refine dW 5 (bb) ?_;refine ay 6 ?_;refine aV 7 F (aY F (λa h=>cB F F (d_ (j.ext ((c a).1 h)) a0) eu a4)) ?_;refine aV 8 F (aY F (λa h=>Dr F F F (b8 a (N.ext ((c a).1 h))))) ?_;refine ay 9 ?_;refine dW 10 (ba) ?_;refine ay 11 ?_;refine aV 12 F (aY F (λa h=>cB F F (d_ (j.ext ((c a).1 h)) a1) eu a6)) ?_;refine ay 13 ?_;refine dW 14 (a') ?_;refine ay 15 ?_;refine dW 16 (bd) ?_;refine GU (B:=World.heap z |>.size) (A:=19) (d:=5) (T:=108) (vs:=IW.v) (D:=C) undef F aK (λ_ h=>h) (λ_ h=>((c _).1 h).size) X ?_;try dsimp only
 refine dY ?_;refine rT 17 (β:=Unit) (λ_=> .agg ((eY 0 e.body).map Y).toArray) (λ_ _=>True) F F F F (λ_ _=>rfl) aC aC aC F (λ_ _=>mF) ?phi17 ?step17 ?rest17
 case phi17=>exact λ_ _ _ _ _=>trivial
 case step17=>
  intro x a bh V o;have u:=(c a).1 bh;have b0:=O u;clear u bh;go_wp2_with fail;refine(cd a (N.ext b0)).mono ?_;rintro cb cn ⟨rfl,ca⟩;go_wp2_with fail;exact o () cn ca trivial
 case rest17=>
 rintro⟨⟩;refine aL ?_;refine QT 18 F (λ_=>aY F (λa _=>agF (l:=(S.mZ e.dz).l) F F F F F F F al b1 b5 a)) ?_;rw[show(iq.mk e.dz (S.mZ e.dz).a (S.mZ e.dz).n (S.mZ e.dz).c (S.mZ e.dz).l e.act ⟨#[]⟩ e.key e.time (eY 0 e.body))=L from aE.out];refine GR F F F (λ_ _=>rfl) aC (λ_ _=>mF) ?_;rintro b co ⟨be,_⟩ az bk;obtain⟨a2,a3⟩:=aA bk be;clear bk be;refine aT 20 ?_;intro V o;go_wp2_with (refine aZ F _ _ _ F F F a2 Ht F a5 (Qy _) ?_);intro y a9 bp;have v:=bp.ext ((c co).1 a3) az;have cs:z.heap.size<=b:=az;refine o _ _ ((c y).2 v) ?_;obtain⟨ae,G,M,ag,a8⟩:=fC a9 (N.ext v) (j.ext v) (af.ext v) (ao.ext v);clear o V bp a9 v a2 az a3 j af ao N bb a' ba bd aK c X;refine aL ?_;refine dP ?_;simp only[DJ];have bu:=M.cell' (aR.at2 e);have a7:=O (show L.v[18]? =some (.string ⟨#[]⟩) by rw[<-aE.out];unfold bD.uR iq.v;rw[yc (by simp[al.out])];simp[al.out]);by_cases n:e.act=4
 ·have g1:(e.act==4)=true:=by simp;exact n
  have cc:=bV n;have q:=Q.out;rw[aN n]at q;obtain⟨am,ax⟩:=aA q (λa (g:aj w a)=>Sw e.act e.body e.ba e.bn e.bc a P.hb P.hbc P.Lv (P.hcl.ext g));rw[b'.out]at ax;have cp:=M.cell' bs;clear q Q n;go_wp2_with fail;refine(ax y G).mono ?_;rintro cb ad ⟨r,rfl,aw,bm,bl,bo,k⟩;obtain⟨b2,b7,b4,bw,bx,bz⟩:=jW aw (show r.label=U by rw[<-am.out];show r.p.label=_;rw[bo];rfl) (aD.len (aw.ok bm bl)) (ae.ext k) (ag.ext k) (G.ext k);clear aw bm bl bo ax k cp bu ae ag G M a8;go_wp2_with (refine aZ F _ _ _ F F F (au.bK (vs:=gQ.v) F F) jQ og (xs:=r.v) b4 (yV r) ?_);intro bt a_ br;have aa:aj ad bt:=br.ext ((aj.refl _).alloc _) (aQ _);have bv:=a_.cell' (aD.Qz b2);rw[b7.out]at bv;obtain⟨i,E,H⟩:=aW (bw.ext aa) (bx.ext aa) (bz.ext aa);have ap:=i.cell' a7;have ar:=i.frozen 18;clear a_ br aa;go_upto_region 6 with fail;generalize m:setCell bt _ _=s;have B7:Hid (au s b (S.uR e U).v 108):=O (by rw[<-m,<-an.out];exact i.set 18 _);have X6:Hid (au s t IW.v 108):=O (by rw[<-m];exact E.Au _ _ (by show t≠b;omega));have E7:Hid (aj w s):=O (by rw[<-m];exact H.set _ (by show w.heap.size<=b;omega));clear m bv ap ar i E H;exact adF
 ·have g1:=qd n;have cc:=bg n;have q:=Q.out;rw[aJ n]at q;have am:=O (show(bP.v (S.CF e.key)).toArray[16]? =some (.string U) by rw[<-q];simpa using bP.Uu b3);clear q Q n;go_upto_region 5 with fail;obtain⟨C,c,aK⟩:=nR y;have bR:C y:=(c _).2 (aj.refl _);have bc:∀a,C a->a.cell? ⟨p,52,none⟩=some (.map (some S.gk)):=λa g=>(a8.ext ((c a).1 g)).cell' (bD.yD R.1 R.2);refine nK (W:=[9]) λX=> ?_;refine dL 0 ?_;refine dL 1 ?_;refine dL 2 ?_;refine kK 3 (bc) ?_;refine dL 4 ?_;refine l8 5 F (aY F (λa h=>cB F F (d_ (M.ext ((c a).1 h)) a1) eu a6)) ?_;refine l8 6 F (aY F (λa h=>Dr F F F (b6 a (G.ext ((c a).1 h))))) ?_;refine l8 7 F (aY F (λa _=>agN F F am a)) ?_;refine dL 8 ?_;generalize cf:drew y=ad at X⊢;have k:aj y ad:=(c _).1 X;obtain⟨i,E,H⟩:=aW (ae.ext k) (ag.ext k) (G.ext k);have ap:=i.cell' a7;have ar:=i.frozen 18;clear k cf;refine lK 9 ?_;intro V o;go_wp2_with fail;refine o _ _ trivial ?_;clear o V;refine aL ?_;refine n_ ?_;generalize m:setCell ad _ _=s;have B7:Hid (au s b (S.uR e U).v 108):=O (by rw[<-m,<-an.out];exact i.set 18 _);have X6:Hid (au s t IW.v 108):=O (by rw[<-m];exact E.Au _ _ (by show t≠b;omega));have E7:Hid (aj w s):=O (by rw[<-m];exact H.set _ (by show w.heap.size<=b;omega));clear m ap ar i E H bc X aK c bR bu;exact adF
section
def yS(a:ByteArray)(ls:bq):bq:=if ls=[]then[]else a::ls
structure xk(w:World)(G5 G6 B:Nat)(r:aX)(ws:bq)(a:aO)(c:Nat)(wx:World):Prop where
 e:aj w wx
 b5:au wx G5 r.v 192
 b6:au wx G6 [.slice a ws.length c] 98
 own:wx.ownsRow B 9 1 (.slice a ws.length c) ws.length (ws.map dx)
 sz:B<=wx.heap.size
section
variable {w wx wy wz:World} {G5 G6 B:Nat} {r:aX} {ws news:bq} {a a':aO} {c c':Nat}
def xk.ext(h:xk w G5 G6 B r ws a c wx)(e:aj wx wy):xk w G5 G6 B r ws a c wy:=⟨h.e.ext e,h.b5.ext e,h.b6.ext e,CS h.own e,dJ h.sz e.size⟩
end
def WG(w:World)(G5 G6 B:Nat)(r:aX)(ws:bq)(a:aO)(c:Nat)(f:ByteArray)(y:aO)(d z:Nat)(ls:bq)(P:World)
 (h:xk w G5 G6 B r ws a c P)(ae:w.heap.size<=B)(aE:G5≠G6)(a3:w.heap.size<=G6)(k:ls.length=d)(L:d<=z)(V:aM P y (ls.map dx))(ad:Dk (slice a ws.length c).ownBlock y d)(a8:ws.length+d<=1000):
 Calls prog 226 #[.string f,.slice y d z,.pointer (some ⟨G6,0,none⟩)] P λe w'=>e= .returned (.tuple #[])/\∃aq aw,xk w G5 G6 B r (ws++yS f ls) aq aw w':=by
 obtain⟨I,R,D,an,ao,S⟩:=jW h V k L ad Zq;clear h V ad;by_cases v:d=0
 ·have ab:ls=[]:=qm.1 (k.trans v);have E:=O (show ws++yS f ls=ws by unfold yS;rw[aN ab,xg]);clear ab k L;subst v;go_enter func226,ntmps226;go_wp2
  go_end0
  exact⟨F,a,c,by rw[E.out];exact I⟩
 ·have ac:ls≠[]:=λe=>v (by rw[<-k,e];rfl);have E:=O (show ws++yS f ls=(ws++[f])++ls by unfold yS;rw[aJ ac];simp);have al:=O (show y=none->z=0 from λh=>by
   obtain⟨b,o,e,_⟩:=R.jg (by rw[aI,k];omega);rw[e]at h;cases h)
  have g1:=cO ((0:Int)<(d:Int));have g:=cO (0<d);have az:0<d:=J;have k6:=I.b6.cell' (i:=0) F;clear ac v k L;go_enter func226,ntmps226;go_upto_region 1 with fail;clear g1 g az;go_wp2_with (refine yY (n:=ws.length) (m:=1) (c:=1) (xs:=ws.map dx) (news:=[dx f]) S F _ _ F B F F (CS I.own ((aj.refl _).alloc _)) F (aQ _) (λh=>by cases h) (aM.iM (au.bK F F)) (λu x=>by simp at x;rw[x];rfl) J J (dJ I.sz (by rw[DU];omega)) ?_);intro ba a' N g1 a0;obtain⟨ar,ax,rfl,_,_,_⟩:=j3 N;obtain⟨p,ag,C⟩:=aW N (ao.cells (by rw[aI,D.out]) (R.ext ((aj.refl _).alloc _)) g1) g1;have a2:=g1.size;rw[DU]at a2;have a_:=I.sz;clear N g1 a0;go_wp2_with (refine yY (n:=ws.length+1) (m:=d) (c:=z) (xs:=ws.map dx++[dx f]) (news:=ls.map dx) S F _ _ F B F F p (by rw[aI,nA];exact D) an al ag (λu x=>by obtain⟨s,_,rfl⟩:=pI.1 x;rfl) J J J ?_);intro bb l A g a1;obtain⟨G,H,rfl,_,_,_⟩:=j3 A;have K:((ws++[f])++ls).length=ws.length+1+d:=by simp only[bQ,iU,sD,D.out]
  have ap:Hid (l.ownsRow B 9 1 (.slice G ((ws++[f])++ls).length H) ((ws++[f])++ls).length (((ws++[f])++ls).map dx)):=O (by rw[K];first|exact A|simpa using A);have aa:∀q,(slice ar (ws.length+1) ax).ownBlock=some q->B<=q:=λq j=>(p.lt q j).1;have t:au l G6 [.slice a ws.length c] 98:=((I.b6.alloc _).besides (CS I.own ((aj.refl _).alloc _)) C bS).besides p g bS;have a6:=t.cell' (i:=0) F;have a7:=t.frozen 0;obtain⟨Q,a5,am⟩:=aW t g K;have W:∀q,(slice a ws.length c).ownBlock=some q->B<=q:=λq j=>(I.own.lt q j).1;have T:au l G5 r.v 192:=((I.b5.alloc _).besides (CS I.own ((aj.refl _).alloc _)) C bS).besides p g bS;have U:aj w l:=((I.e.alloc _).grown C (λq j=>dJ ae (W q j))).grown g (λq j=>dJ ae (aa q j));obtain⟨af,ai⟩:=aA T U;have a9:=g.size;clear A g a1 K aa W t T U k6;go_wp2_with fail;obtain⟨a4,M⟩:=aF (setCell l ⟨G6,0,none⟩ (.slice G (ws.length+1+d) H));try rw[M]
  go_end0
  refine⟨F,G,H,?_⟩;have u:dF l G6 a4:=by rw[<-M];exact dF.setCell _
  rw[E.out];refine⟨u.ext ai a3,af.upd u aE,?_,JZ ap u Q bS,by rw[u.size];omega⟩;rw[am.out,<-M];exact Q.set 0 _
end
def akw{z:Int}(h:1<=z/\z<=12):∃j:Nat,z=(j:Int)/\j<13/\(((⟨#[]⟩:ByteArray)::yu))[j]? =some (zk z):=by
 obtain⟨j,rfl⟩:∃j:Nat,z=(j:Int):=⟨z.toNat,J⟩;obtain⟨i,rfl⟩:∃i,j=i+1:=⟨j - 1,J⟩;refine⟨i+1,F,J,?_⟩;rw[uN];unfold zk;have a:i<yu.length:=by show i<12;omega
 rw[show(((i+1:Nat):Int) - 1).toNat=i by omega,Hl,mG a];rfl
def ahW{r:aX}(h:l6 r=0):(r.fr≠0∨r.tt≠0)↔r.fr≠r.tt:=by grind [l6,k6]
def aby{w:World}{p:Option Nat}{a:aO}{n:Nat}{xs:aP}(c:aM w a xs)(d:xs.length=n)(f:∀q,p=some q->w.heap.size<=q):Dk p a n:=by
 by_cases h:xs=[]
 ·left;rw[<-d,h];rfl
 ·obtain⟨A,b,g⟩:=Y4 c h;exact .inr ⟨A,b,λe=>by have:=f _ e;omega⟩
def ajA{w:World}{B n c:Nat}{e:TypeId}{a:aO}{xs:aP}{p:Option Nat}(h:w.ownsRow B e 1 (.slice a n c) n xs)(i:∀q,p=some q->q<B):Dk p a n:=by
 rcases h.2 with⟨_,f⟩|⟨g,cap,k,j,d,_⟩
 ·left
  exact f
 ·right
  injection j with b l m;refine⟨_,b,λe=> ?_⟩;have o:g<B:=i g e;have r:B<=g:=d;omega
def xk.JD{w i wy:World}{G5 G6 B b:Nat}{r:aX}{ws:bq}{a:aO}{c:Nat}{p:Option Nat}(h:xk w G5 G6 B r ws a c i)(g:i.grownBy wy p)(d:∀q,p=some q->b<=q)(k:w.heap.size<=b)(n:G5<b)(o:G6<b)(j:∀q,(slice a ws.length c).ownBlock=some q->q<b):
 xk w G5 G6 B r ws a c wy:=
 ⟨h.e.grown g (λq f=>dJ k (d q f)),h.b5.grown g (λe=>by have:=d _ e.symm;omega),h.b6.grown g (λe=>by have:=d _ e.symm;omega),CQ h.own g (λq f e=>by have l:=d _ e;have m:=j q f;omega),dJ h.sz g.size⟩
def abJ{a:ByteArray}{ls:bq}{n:Nat}(h:ls.length<=n):(yS a ls).length<=n+1:=by grind [yS]
def aj2(r:aX):KZ r=yS zK (r.acts.map zk):=by simp_all [KZ,yS]
def xk.mid{w b wy:World}{G5 G6 B:Nat}{r:aX}{ws:bq}{a:aO}{c:Nat}(h:xk w G5 G6 B r ws a c b)(e:w.heap.size<=B)(g:b.grownBy wy (slice a ws.length c).ownBlock):
 aj w wy/\au wy G5 r.v 192/\au wy G6 [.slice a ws.length c] 98:=
 ⟨h.e.grown g (λq d=>dJ e (h.own.lt q d).1),h.b5.besides h.own g bS,h.b6.besides h.own g bS⟩
def xk.put{w i wy:World}{G5 G6 B:Nat}{r:aX}{ws news:bq}{a b:aO}{c d m:Nat}(h:xk w G5 G6 B r ws a c i)(q:w.heap.size<=B)(l:G5≠G6)(p:w.heap.size<=G6)(n:news.length=m)
 (o:wy.ownsRow B 9 1 (.slice b (ws.length+m) d) (ws.length+m) (ws.map dx++news.map dx))(g:i.grownBy wy (slice a ws.length c).ownBlock):
 xk w G5 G6 B r (ws++news) b d (wy.setCell ⟨G6,0,none⟩ (.slice b (ws.length+m) d)):=by
 obtain⟨j,k,e⟩:=h.mid q g;have u:dF wy G6 (wy.setCell ⟨G6,0,none⟩ (.slice b (ws.length+m) d)):=dF.setCell _;have f:(ws++news).length=ws.length+m:=by rw[bQ,n]
 refine⟨u.ext j p,k.upd u l,?_,?_,by rw[u.size];exact dJ h.sz g.size⟩
 ·rw[f];exact e.set 0 _
 ·rw[f,jv];exact JZ o u e bS
def adT{a:Prop}(e:a:=by
 intro Q' hQ;go_wp2_with fail;refine hQ _ _ trivial ?_;clear hQ Q';refine aL ?_;refine n_ ?_;clear X aK bR Z I7 NB M9 c6 f6;go_wp2;go_meet;exact⟨a9,c9,by rw[wV.out];exact I9⟩):a:=e
def alX(co:aO)(K cp:Nat)(rs:List aX)(w:World)(hp:qj w co K cp rs)(hv:∀r∈rs,l6 r=0)(el:K<=100)(hl:uK w):
 eO 178 #[.agg #[.slice co K cp]] w (.string (bN (kY rs))):=by
 obtain⟨al,ds,bw,cx,bx⟩:=fC hp hv hl Jq Zq;have cX:∀k,(kY (rs.take k)).length<=400100:=by
  exact am9
 have de:=O cX;clear hp hv hl cX;go_enter func178,ntmps178;go_upto_region 2 with fail;generalize ck:alloc w _=eM;have cH:=dX ck [.slice co K cp] 152;have ei:=cH.cell' (i:=0) F;have c':=O (dS ck);clear ck cH;go_wp2;go_loopw [3,14] (λv i wr=>∃k:Nat,k<=K/\i= .int .i64 (k:Int)/\v= .string (bN (kY (rs.take k)))/\aj w wr) (λ_ i _=>K - (intOf i).toNat)
 ·exact⟨0,J,F,F,c'⟩
 ·obtain⟨k,eC,rfl,rfl,f⟩:=hrel;have ai:=O f;clear f;by_cases cY:k<K
  ·obtain⟨r,ae⟩:∃r,rs[k]? =some r:=⟨rs[k]'(by rw[al.hl];exact cY),aB⟩;obtain⟨A,rfl,bi⟩:=(al.ext ai).at ae;obtain⟨dc,dg,l,cA⟩:=bT bi ((al.ext ai).ok r (f_ ae)) (al.ok r (f_ ae)) (ds r (f_ ae));obtain⟨t,cC,dp⟩:=aW (acK dg cA) (aX.len r) (ake ae);have d3:=xO r;have eE:=de.out k;have eJ:=t.n1;have ch:=t.n2;have d2:=t.n3;clear bi ae;go_wp2_with (first|(refine bZ F (gD (i:=k) F F F underlying150 SY cY _) ?_)|(refine bZ F (cB F F dc cx cC) ?_)|(refine aZ F _ (.tmp 5) _ F F F (au.bK (vs:=MG) F F) cx F cC d3 ?_));intro af b8 c_;have G:aj wr af:=c_.ext ((aj.refl wr).alloc _) (aQ _);obtain⟨a5,bu⟩:=aA b8 (ai.ext G);have cV:wr.heap.size<af.heap.size:=b8.lt;have d6:=ai.size;clear b8 c_ G;obtain⟨G5,cS⟩:=aF wr.heap.size;rw[cS]at a5 cV d6⊢;clear cS;have cm:=a5.cell' (i:=0) F;go_upto_region 6 with fail;generalize a1:alloc (alloc af _) _=ee;have b7:au ee G5 r.v 192:=by rw[<-a1];exact(a5.alloc _).alloc _
   have an:=qA a1 [dx (JJ false)] 9;have a_:=qQ a1 [.slice (some ⟨af.heap.size,0,none⟩) 1 1] 98;have cP:=wN a1;obtain⟨S,bh⟩:=aF af.heap.size;obtain⟨G6,cb⟩:=aF (af.heap.size+1);have B:w.heap.size<=S:=by have:=bu.size;omega
   have ap:G5≠G6:=J;have em:G5<S:=J;have a0:w.heap.size<=G6:=J;have ex:S+1=G6:=J;have bv:=O (bu.ext cP);rw[cb,bh]at a_;rw[bh]at an;rw[cb,bh];obtain⟨br,bt,bs⟩:=aW b7 an a_;have cm:=b7.cell' (i:=0) F;have k6:=a_.cell' (i:=0) F;have d7:=an.cell' (i:=0) F;have dE:=an.frozen 0;clear a1 b7 an a_ cP bh cb cV bu a5;obtain⟨d,cf⟩:=aF r.deny;have dd:=O cf;rw[cf]at cm;clear cf;go_upto_if 20 with fail;go_cut [] (λD=>aj w D/\au D G5 r.v 192/\au D S [dx (JJ d)] 9/\au D G6 [.slice (some ⟨S,0,none⟩) 1 1] 98)
   ·cases d with
    |false=>
     go_wp2;go_meet;exact⟨bv,br,bt,bs⟩
    |true=>
     go_wp2;go_meet;exact⟨bv.set _ B,br.Au _ _ (by show G5≠S;omega),bt.set 0 _,bs.Au _ _ (by show G6≠S;omega)⟩
   obtain⟨cq,bm,cr,bo⟩:=hcut;obtain⟨c8,y⟩:=aF wc;rw[y]at cq bm cr bo⊢;have ep:=bo.lt;have eo:=bm.lt;have b0:xk w G5 G6 S r [JJ d] (some ⟨S,0,none⟩) 1 c8:=⟨cq,bm,bo,abA (rest:=[]) (by simpa using cr) aB F (aQ _) (aQ _) (by unfold maxLen;omega),J⟩;have a6:=O b0;have k1:=b0.b5.cell' (i:=1) (v:= .slice r.ra r.rn r.rc) F;clear y wc cq bm cr bo b0 bv br bt bs cm k6 d7 dE;go_upto_region 9 with fail;go_wp2_with fail;refine(WG w G5 G6 S r [JJ d] (some ⟨S,0,none⟩) 1 BJ r.ra r.rn r.rc r.roles c8 a6 B ap a0 l.rl l.Ap (l.vk.ext a6.e) (aby l.vk (by rw[aI];exact l.rl) (λq Q=>dJ B (a6.own.lt q Q).1)) (by simp;omega)).mono ?_;rintro e cs ⟨rfl,b5,b9,cc⟩;have M:=O cc;have k2:=cc.b5.cell' (i:=2) (v:= .slice r.aa r.an r.ac) F;have az:(yS BJ r.roles).length<=17:=by
    unfold yS;split
    ·simp
    ·rw[iU,l.rl];omega
   obtain⟨am,ba⟩:=aF ([JJ d]++yS BJ r.roles);have di:=O ba;have er:am.length<=18:=by rw[<-ba,bQ];simp only[iU,sD];omega
   rw[ba]at M;have cQ:G5<cs.heap.size:=M.b5.lt;have cR:G6<cs.heap.size:=M.b6.lt;obtain⟨ag,aq⟩:=aF cs.heap.size;have cz:Hid (∀q,(slice b5 am.length b9).ownBlock=some q->q<ag):=O (λq Q=>by rw[<-aq];exact(M.own.lt q Q).2);have d5:w.heap.size<=ag:=by rw[<-aq];exact M.e.size
   rw[aq]at cQ cR;have db:=O aq;clear cc a6 k1 az ba aq;go_wp2_with fail;go_loopw [8,31] (λv i cw=>∃(j:Nat) (a:aO) (c:Nat),j<=r.an/\i= .int .i64 (j:Int)/\v= .slice a j c/\cw.ownsRow ag 9 1 (.slice a j c) j (((r.acts.take j).map zk).map dx)/\xk w G5 G6 S r am b5 b9 cw/\ag<=cw.heap.size) (λ_ i _=>r.an - (intOf i).toNat)
   ·exact⟨0,none,0,J,F,F,⟨F,.inl ⟨F,F⟩⟩,M,by rw[db.out];exact aQ _⟩
   ·obtain⟨j,a,c,eA,rfl,rfl,c3,cT,en⟩:=hrel;obtain⟨P,V⟩:=aA cT c3;clear c3 cT M k2;by_cases bk:j<r.an
    ·have cM:=cO ((j:Int)<(r.an:Int));have cN:=bV bk;obtain⟨z,bl⟩:∃z,r.acts[j]? =some z:=⟨r.acts[j]'(by rw[l.al];exact bk),aB⟩;have c7:=t.a1 z (f_ bl);obtain⟨ef,d0,bi⟩:∃A,r.aa=some A/\wr.cell? (A.add j)=some (.int .i64 z):=by
      obtain⟨g,o,e,h⟩:=(l.uQ.ext P.e).jg (by rw[aI,l.al];omega);exact⟨_,e,by rw[eX];exact h j _ (by rw[iT,bl];rfl)⟩
     have aE:r.acts.take (j+1)=r.acts.take j++[z]:=by rw[ny,bl];rfl
     have dq:=O aE;obtain⟨m,cg,eI,c1⟩:=akw c7;obtain⟨df,eg⟩:=aA c1 cg;clear bl aE c7 c1;rw[d0];rw[cg]at bi;clear cg;go_wp2_with fail;refine(YB wr).mono ?_;rintro e L ⟨rfl,cU,f⟩;obtain⟨dv,cD⟩:=aA (P.ext f) (CS V f);have eK:=f.size;have cL:L.cell? ⟨wr.heap.size,m,none⟩=some (.string (zk z)):=by
      obtain⟨b,o,bj,h⟩:=cU.jg bS;have ca:b=wr.heap.size:=by simp at bj;exact bj.1.symm
      have ao:o=0:=by simp at bj;exact bj.2.symm
      have:=h m (.string (zk z)) (by rw[iT,df.out];rfl);rw[ca,ao,kD]at this;exact this
     clear cU f P V;obtain⟨x,cl⟩:=aF (zk z);have dt:=O cl;rw[cl]at cL;clear cl;go_wp2_with (refine yY (n:=j) (m:=1) (c:=1) (xs:=((r.acts.take j).map zk).map dx) (news:=[.string x]) bx F _ _ F ag F F (CS cD ((aj.refl _).alloc _)) F (aQ _) (λh=>by cases h) (aM.iM (au.bK F F)) (λu H=>by simp at H;rw[H];rfl) J J (by rw[DU];omega) ?_);intro eL a4 cn ad ch;obtain⟨b6,b',rfl,_,_,_⟩:=j3 cn;obtain⟨b2,du⟩:=aA ((dv.ext ((aj.refl _).alloc _)).JD ad (λq Q=>(cD.lt q Q).1) d5 cQ cR cz) cn;have d4:=ad.size;rw[DU]at d4;clear cn ad ch cL;go_wp2;go_roundw
     ·exact⟨j+1,b6,b',J,by go_num,F,by rw[dq.out,jv,jv];simp only[oM,FH];rw[dt.out];simp only[wW,zU];exact du,b2,J⟩
     ·exact fV
    ·obtain rfl:j=r.an:=J;have cM:=bU ((r.an:Int)<(r.an:Int));have cN:=bU (r.an<r.an);have aE:r.acts.take r.an=r.acts:=gY (by have:=l.al;omega);rw[aE]at V;have c2:=ajA V cz;obtain⟨dy,ek,cj,ax,_,aw⟩:=j3 V;injection cj with f ca ao;subst f;subst ao;have c0:(r.acts.map zk).length=r.an:=by rw[aI,l.al]
     have c4:=O (WG w G5 G6 S r am b5 b9 zK a r.an c (r.acts.map zk) wr P B ap a0 c0 ax aw c2 J);clear aE c2 ax aw c0;go_wp2_with fail;refine c4.mono ?_;rintro e ea ⟨rfl,b6,b',a'⟩;have k3:=a'.b5.cell' (i:=3) (v:= .slice r.la r.ln r.lc) F;have az:(yS zK (r.acts.map zk)).length<=17:=abJ (by rw[aI,l.al];exact ch);obtain⟨b4,bb⟩:=aF (am++yS zK (r.acts.map zk));have dj:=O bb;have es:b4.length<=35:=by rw[<-bb,bQ];omega
     rw[bb]at a';have a7:=O a';have c5:=O (WG w G5 G6 S r b4 b6 b' BI r.la r.ln r.lc r.labels ea a7 B ap a0 l.ll l.Oz (l.Bz.ext a7.e) (aby l.Bz (by rw[aI];exact l.ll) (λq Q=>dJ B (a7.own.lt q Q).1)) J);clear a' az bb c4 P V cM cN;go_wp2_with fail;refine c5.mono ?_;rintro e bp ⟨rfl,cE,cI,ar⟩;have az:(yS BI r.labels).length<=17:=abJ (by rw[l.ll];exact d2);obtain⟨aa,bc⟩:=aF (b4++yS BI r.labels);have dk:=O bc;have et:aa.length<=52:=by rw[<-bc,bQ];omega
     rw[bc]at ar;have U:=O ar;have k4:=ar.b5.cell' (i:=4) (v:= .int .i64 r.fr) F;have k5:=ar.b5.cell' (i:=5) (v:= .int .i64 r.tt) F;have cy:=O (ahW cA);clear ar az bc c5 a7 k3;go_upto_region 18 with fail;go_cut [57] (λv D=>v= .bool (decide (r.fr≠r.tt))/\D=bp)
     ·by_cases s:r.fr=0
      ·have d8:(r.fr != 0)=false:=by simp[s]
       have d':=bV s;have b3:=O (show decide (r.fr≠r.tt)=decide (r.tt≠0)from decide_eq_decide.2 (by rw[<-cy.out];exact⟨λh=>h.resolve_left (λh=>h s),.inr⟩));go_wp2;go_meet;exact⟨by rw[b3.out];first|rfl|(simp[bne,BEq.beq];done)|(congr 1;by_cases dT:r.tt=0<;>simp[dT]),F⟩
      ·have d8:(r.fr != 0)=true:=by simp[s]
       have d':=bg s;have b3:=O (show decide (r.fr≠r.tt)=true from bV (cy.1 (.inl s)));go_wp2;go_meet;exact⟨by rw[b3.out],F⟩
     obtain⟨rfl,y⟩:=hcut;rw[y];clear y wc;clear k4 k5;go_upto_if 57 with fail;go_cut [] (λD=>∃a c,xk w G5 G6 S r (aa++Cz r) a c D)
     ·by_cases s:r.fr=r.tt
      ·have bz:=O (show Cz r=[] by unfold Cz;rw[aN s]);have g1:decide (r.fr≠r.tt)=false:=bg (λh=>h s);rw[g1];go_wp2;go_meet;exact⟨cE,cI,by rw[bz.out,xg];exact U⟩
      ·have wV:=O (show Cz r=[zL,LC r.fr r.tt] by unfold Cz;rw[aJ s]);have g1:=bV s;rw[g1];go_upto_region 19 with fail;clear g1;obtain⟨C,Z,aK,bR⟩:=tO (I:=λw'=>aj w w'/\au w' G5 r.v 192/\au w' G6 [.slice cE aa.length cI] 98) (λ_ _ h1 h2=>⟨h1.1.ext h2,h1.2.1.ext h2,h1.2.2.ext h2⟩) (w:=bp) (⟨U.e,U.b5,U.b6⟩);have ey:=Ov t.f1.1 t.f1.2;have ez:=Ov t.t1.1 t.t1.2;refine nK (W:=[11]) λX=> ?_;refine dL 1 ?_;refine dL 5 ?_;refine kK 0 (λp h=>((Z p).1 h).2.2.cell' (i:=0) F) ?_;refine kK 2 (λp h=>((Z p).1 h).2.1.cell' (i:=4) (v:= .int .i64 r.fr) F) ?_;refine kK 6 (λp h=>((Z p).1 h).2.1.cell' (i:=5) (v:= .int .i64 r.tt) F) ?_;refine i_ 3 ?_;intro Q' hQ;go_wp2_with fail;refine(EN r.fr _ (by have:=t.f1;omega) (by have:=t.f1;omega) (bw.ext ((Z _).1 X).1).lw.pw).mono ?_;rintro e L ⟨rfl,f⟩;have b1:=O (U.ext (show aj bp L from((aj.refl bp).drew).ext f));replace X:=aK _ _ X f;go_wp2_with fail;refine hQ _ _ X ?_;clear hQ Q' f;refine aL ?_;refine TG 4 F (aY F (λp _=>lD (u:=Lib.itoa r.fr) (v:=[45]) F F F F (by simp;omega) p)) ?_;refine i_ 7 ?_;intro Q' hQ;go_wp2_with fail;refine(EN r.tt _ (by have:=t.t1;omega) (by have:=t.t1;omega) (bw.ext ((Z _).1 X).1).lw.pw).mono ?_;rintro e a4 ⟨rfl,f⟩;have b2:=O (b1.ext (show aj L a4 from f));replace X:=aK _ _ X f;go_wp2_with fail;refine hQ _ _ X ?_;clear hQ Q' f;refine aL ?_;refine TG 8 F (aY F (λp _=>lD (u:=Lib.itoa r.fr++[45]) (v:=Lib.itoa r.tt) F F F F (by simp;omega) p)) ?_;refine i_ 9 ?_;intro Q' hQ;go_wp2_with fail;refine hQ _ _ (aK _ _ X ((aj.refl _).alloc _)) ?_
       clear hQ Q';generalize R:alloc a4 _=ec;have a3:=dX R [dx zL,dx (LC r.fr r.tt)] 9;have G:=dS R;obtain⟨I7,NB⟩:=aA (b2.ext G) a3;replace X:C ec:=(Z _).2 ⟨I7.e,I7.b5,I7.b6⟩;clear R a3 G;refine aL ?_;refine i_ 10 ?_;intro Q' hQ;go_wp2_with (at_builtin;refine yY (n:=aa.length) (m:=2) (c:=2) (xs:=aa.map dx) (news:=[dx zL,dx (LC r.fr r.tt)]) bx F _ _ F S F F I7.own F (aQ _) (λh=>by cases h) (aM.iM NB) (λu H=>by simp only[gM,lN,lQ]at H;rcases H with rfl|rfl<;>rfl) J J I7.sz ?_);intro ed cv T N ci;obtain⟨a9,c9,rfl,_,_,_⟩:=j3 T;obtain⟨M9,I9⟩:=aA (I7.mid B N) (I7.put B ap a0 (news:=[zL,LC r.fr r.tt]) F T N);have c6:=M9.2.2.cell' (i:=0) F;have f6:=M9.2.2.frozen 0;replace X:C cv:=(Z _).2 M9;clear T N ci;go_wp2_with fail;refine hQ _ _ X ?_;clear hQ Q';refine aL ?_;refine lK 11 ?_;exact adT
     obtain⟨cF,cJ,cd⟩:=hcut;obtain⟨ab,bd⟩:=aF (aa++Cz r);have dl:=O bd;rw[bd]at cd;have ev:ab.length<=54:=by
      rw[<-bd,bQ];have:(Cz r).length<=2:=by unfold Cz;split<;>simp
      omega
     obtain⟨ct,y⟩:=aF wc;have E:=O cd;rw[y]at E⊢;clear y wc cd bd U;have k6:=E.b5.cell' (i:=6) (v:= .int .i64 r.nd) F;go_upto_if 71 with fail;go_cut [] (λD=>∃a c,xk w G5 G6 S r (ab++CJ r) a c D)
     ·by_cases s:0<r.nd
      ·have wV:=O (show CJ r=[zM,bN (Lib.itoa r.nd),r.ow] by unfold CJ;rw[aN s]);have ad:=bV s;go_upto_region 21 with fail;clear ad k6;obtain⟨C,Z,aK,bR⟩:=tO (I:=λw'=>aj w w'/\au w' G5 r.v 192/\au w' G6 [.slice cF ab.length cJ] 98) (λ_ _ h1 h2=>⟨h1.1.ext h2,h1.2.1.ext h2,h1.2.2.ext h2⟩) (w:=ct) (⟨E.e,E.b5,E.b6⟩);refine nK (W:=[8]) λX=> ?_;refine dL 1 ?_;refine dL 4 ?_;refine kK 0 (λp h=>((Z p).1 h).2.2.cell' (i:=0) F) ?_;refine kK 2 (λp h=>((Z p).1 h).2.1.cell' (i:=6) (v:= .int .i64 r.nd) F) ?_;refine kK 5 (λp h=>((Z p).1 h).2.1.cell' (i:=7) (v:= .string r.ow) F) ?_;refine i_ 3 ?_;intro Q' hQ;go_wp2_with fail;refine(EN r.nd _ (by have:=t.d1;omega) (by have:=t.d1;omega) (bw.ext ((Z _).1 X).1).lw.pw).mono ?_;rintro e L ⟨rfl,f⟩;have b1:=O (E.ext (show aj ct L from((aj.refl ct).drew).ext f));replace X:=aK _ _ X f;go_wp2_with fail;refine hQ _ _ X ?_;clear hQ Q' f;refine aL ?_;refine i_ 6 ?_;intro Q' hQ;go_wp2_with fail;refine hQ _ _ (aK _ _ X ((aj.refl _).alloc _)) ?_;clear hQ Q';generalize R:alloc L _=a4;have a3:=dX R [dx zM,dx (bN (Lib.itoa r.nd)),dx r.ow] 9;have G:=dS R;obtain⟨I7,NB⟩:=aA (b1.ext G) a3;replace X:C a4:=(Z _).2 ⟨I7.e,I7.b5,I7.b6⟩;clear R a3 G;refine aL ?_;refine i_ 7 ?_;intro Q' hQ;go_wp2_with (at_builtin;refine yY (n:=ab.length) (m:=3) (c:=3) (xs:=ab.map dx) (news:=[dx zM,dx (bN (Lib.itoa r.nd)),dx r.ow]) bx F _ _ F S F F I7.own F (aQ _) (λh=>by cases h) (aM.iM NB) (λu H=>by simp only[gM,lN,lQ]at H;rcases H with rfl|rfl|rfl<;>rfl) J J I7.sz ?_)
       intro ed cv T N ci;obtain⟨a9,c9,rfl,_,_,_⟩:=j3 T;obtain⟨M9,I9⟩:=aA (I7.mid B N) (I7.put B ap a0 (news:=[zM,bN (Lib.itoa r.nd),r.ow]) F T N);have c6:=M9.2.2.cell' (i:=0) F;have f6:=M9.2.2.frozen 0;replace X:C cv:=(Z _).2 M9;clear T N ci;go_wp2_with fail;refine hQ _ _ X ?_;clear hQ Q';refine aL ?_;refine lK 8 ?_;exact adT
      ·have bz:=O (show CJ r=[] by unfold CJ;rw[aJ s]);have ad:=bg s;go_wp2;go_meet;exact⟨cF,cJ,by rw[bz.out,xg];exact E⟩
     obtain⟨cG,dC,ce⟩:=hcut;obtain⟨ac,be⟩:=aF (ab++CJ r);have dm:=O be;rw[be]at ce;have ew:ac.length<=57:=by
      rw[<-be,bQ];have:(CJ r).length<=3:=by unfold CJ;split<;>simp
      omega
     obtain⟨eb,y⟩:=aF wc;have a8:=O ce;rw[y]at a8⊢;clear y wc ce be E k6;have a2:ac=E9 r:=by
      rw[<-dm.out,<-dl.out,<-dk.out,<-dj.out,<-di.out,<-dd.out];unfold E9;rw[aj2];rfl
     have bk:=acJ l t;obtain⟨dy,ej,cj,ax,_,aw⟩:=j3 a8.own;injection cj with f ca ao;subst f;subst ao;obtain⟨cW,eh,dr⟩:=aW (λp (h:aM p cG (ac.map dx))=>VF cG ac.length dC ac p F ax (by rw[a2];simp[E9]) J h (by rw[a2];exact dJ bk J)) a2 (show Lib.join (ac.map (·.data.toList)) [32]=J7 r by rw[a2];rfl);have k6:=a8.b6.cell' (i:=0) F;clear a2 ax;go_wp2_with fail;refine(cW eb aw).mono ?_;rintro e L ⟨rfl,f⟩;have da:=O (a8.e.ext f);rw[dr.out];clear f aw k6 cW;go_wp2_with (first|(refine bZ F (lD (u:=J7 r) (v:=[10]) F F F F (by simp;omega) _) ?_)|(refine bZ F (lD (u:=kY (rs.take k)) (v:=J7 r++[10]) F F F F (by simp;omega) _) ?_));go_roundw
     ·exact⟨k+1,J,by go_num,by rw[dp.out,sw],da⟩
     ·exact fV
  ·obtain rfl:k=K:=J;have d1:rs.take k=rs:=gY (by rw[al.hl];exact aQ _);rw[d1];go_wp2;go_ret;exact⟨F,ai⟩
def XK{a:Prop}(e:a:=by
 go_enter func133,ntmps133;go_wp2;go_ret;exact⟨F,0,F⟩):a:=e
def afC(x:Nat)(w:World):Calls prog 133 #[.int .i32 (x:Int)] w λe w'=>e= .returned (.bool (uS x))/\∃q,w'=w.drewN q:=by
 unfold uS;by_cases b:x=32
 ·subst b;exact XK
 by_cases c:x=9
 ·subst c;exact XK
 have d:((x:Int)==32)=false:=by simp;omega
 have f:=bU ((x:Int)=32);have g:((x:Int)==9)=false:=by simp;omega
 have h:=bU ((x:Int)=9);have a:(x==32||x==9)=false:=by simp;exact⟨b,c⟩
 rw[a];clear a;exact XK
def agY(l:ah)(w:World)(o:l.length<=100000):
 Calls prog 132 #[.string (bN l),.func (.func 133) #[] #[]] w λe w'=>∃A,e= .returned (.slice (some ⟨A,0,none⟩) (DZ l).length (DZ l).length)/\
  jE w' w.heap.size (some ⟨A,0,none⟩) (DZ l).length (DZ l).length ((DZ l).map bN)/\aj w w':=by
 have h:=Any.strings_FieldsFunc_runes ffL 133 #[] (NQ func133 aC F) uS (bN l) w (by rw[xQ];omega) (λW x _ _=>afC x W) aC aC;have g:Lib.goFieldsP uS (bN l)=(DZ l).map bN:=by
  have:=an0 (bN l);rw[yU]at this;rw[<-this,aa5]
 rw[g,aI]at h;refine h.mono ?_;rintro e w' ⟨A,rfl,c,d,f⟩;obtain⟨_,_,i,_,_,a⟩:=j3 d;injection i with b k m;rw[<-b]at a;have n:=TD Dp l [];refine⟨A,F,⟨by rw[aI],aQ _,?_,?_,.inr ⟨_,F,c⟩,a⟩,f⟩
 ·show(wK Dp [] l).length<=_;omega
 ·intro s hs;obtain⟨y,j,rfl⟩:=pI.1 hs;have:=TF Dp l [] y j;rw[xQ];simp at this;omega
def R8:bq:=[BJ,zK,BI,zL,zM]
def aj1(x:ByteArray):Gq x=true↔x∈R8:=by grind [Gq,R8]
def aj0(x:ByteArray)(w:World):Calls prog 190 #[.string x] w λe w'=>e= .returned (.bool (Gq x))/\aj w w':=by
 go_enter func190,ntmps190;go_wp2_with fail;generalize a:alloc w _=h;obtain⟨d,f⟩:=aA (dX a (R8.map dx) 9) (dS a);clear a;refine(Zc x R8 (some ⟨w.heap.size,0,none⟩) 5 5 h F J (aM.iM d)).mono ?_;rintro e i ⟨b,rfl,c,rfl⟩;have g:b=Gq x:=by
  rw[Cc,c,aj1]
 subst g;clear c;go_wp2;go_ret;exact⟨F,f⟩
def aju(l:ah): -9223372036854775808<=jL l/\jL l<=9223372036854775807:=by
 unfold jL;cases h:Lib.atoiAll l with
 |ok v=>exact Lib.atoiAll_bounds h
 |range=>
  simp only[Lib.atoiSat];split<;>omega
 |_=>simp
def ael{a:Prop}(e:a:=by
 have MQ:=O Gd;clear Gd bO;go_enter func192,ntmps192;go_wp2_with fail;refine(fq (by first|rfl|trivial|exact hO)).mono ?_;rintro e w1 ⟨rfl,e1⟩;have E1:=O e1;clear e1;go_wp2
 go_ret2
 exact⟨by rw[MQ.out];rfl,E1⟩):a:=e
def Xr(l:ah)(w:World)(A:l.length<=1000000)(j:KD w):
 eO 192 #[.string (bN l)] w (.tuple #[.int .i64 (jL l),.bool (l5 l)]):=by
 have o:=(Ta l).1;rw[<-o];clear o;have B:=xQ l;have x:=Ju (bN (Lib.itoa (jL l))) (bN l);have n:decide (bN (Lib.itoa (jL l))=bN l)=decide (Lib.itoa (jL l)=l):=by
  congr 1
  exact propext ⟨λe=>by have:=lq (λs=>s.data.toList) e;simpa[bN]using this,λe=>by rw[e]⟩
 rw[n]at x;have i:=aju l;obtain⟨bO,t,fq,y,c⟩:=fC (λw h=>EN (jL l) w i.1 i.2 h) j (λh=>afv l w J h) (λh=>afu l w J h j) (show Pq l=(ES l&&decide (0<=jL l)&&decide (l.length<=3)&&decide (Lib.itoa (jL l)=l))from F);clear n j;obtain⟨S,g⟩:=aF (Pq l);have b:=O g;rw[g];clear g i;generalize hO:ES l=ok at*;generalize Lib.itoa (jL l)=p at*;generalize jL l=u at*;cases ok with
 |false=>
  have Gd:S=false:=by rw[<-b.out,c.out];rfl
  have MQ:=O Gd;clear Gd;go_enter func192,ntmps192;go_wp2_with fail;refine(y (by first|rfl|trivial|exact hO)).mono ?_;rintro e w1 ⟨z,rfl,e1⟩;have E1:=O e1;clear e1;go_wp2
  go_ret2
  exact⟨by rw[MQ.out];rfl,E1⟩
 |true=>
  by_cases f:0<=u
  ·by_cases m:l.length<=3
   ·have a:=bV f;have d:=bV m;have v:=cO ((l.length:Int)<=3);have Gd:S=decide (p=l):=by rw[<-b.out,c.out,a,d];rfl
    have MQ:=O Gd;clear Gd;generalize decide (p=l)=q at*;go_enter func192,ntmps192;go_wp2_with fail;refine(fq (by first|rfl|trivial|exact hO)).mono ?_;rintro e w1 ⟨rfl,e1⟩;have E1:=O e1;clear e1;go_wp2_with fail;refine(bO w1 (t.ext E1).pw).mono ?_;rintro e C ⟨rfl,k⟩;have r:=O (E1.ext k);clear k;go_wp2
    go_ret2
    exact⟨by rw[MQ.out];rfl,r⟩
   ·have a:=bV f;have d:=bg m;have v:=bU ((l.length:Int)<=3);have Gd:S=false:=by rw[<-b.out,c.out,a,d];rfl
    exact ael
  ·have a:=bg f;have Gd:S=false:=by rw[<-b.out,c.out,a];rfl
   exact ael
def O7(g B:Nat)(T:TypeId)(a:aO)(n c:Nat)(ws:bq)(f:ByteArray)(v w:World)(C:au w g [.slice a n c] T)(af:jE v B a n c ws)(ac:aj v w)(b8:v.heap.size<=g):
 Calls prog 189 #[.string f,.pointer (some ⟨g,0,none⟩)] w λe w'=>∃I S L H R K,e= .returned (.tuple #[.slice I S L,.bool (!lJ f ws|| !(xP f ws).isEmpty)])/\
  jE v B I S L (xP f ws)/\jE v B H R K (CY f ws)/\au w' g [.slice H R K] T/\w.grownBy w' (some g):=by
 have b3:=C.cell' (i:=0) F;have b6:=C.frozen 0;obtain⟨an,W,u⟩:=aW C ac af;obtain⟨b,az⟩:=aF (lJ f ws);have s:=O az;rw[az];obtain⟨t,a0⟩:=aF (xP f ws);have a7:=O a0;rw[a0];obtain⟨aa,ax⟩:∃aa:Ending->World->Prop,aa=λe w'=>∃I S L H R K,e= .returned (.tuple #[.slice I S L,.bool (!b|| !t.isEmpty)])/\
  jE v B I S L t/\jE v B H R K (CY f ws)/\au w' g [.slice H R K] T/\w.grownBy w' (some g):=⟨_,F⟩
 rw[<-ax];have aq:=O ax;clear ax a0 az;by_cases bh:b=false
 ·subst bh;have bj:t=[]:=by rw[<-a7.out];exact SL s
  have br:CY f ws=ws:=by unfold CY;rw[s.out];rfl
  have N:∀e,e=Ending.returned (.tuple #[.slice none 0 0,.bool true])->aa e w:=by
   rintro e rfl;rw[aq.out,br,bj];exact⟨none,0,0,a,n,c,F,jE.nil _ _,u,an,aad _ _⟩
  have E:=O N;clear N bj br;cases ws with
  |nil=>
   obtain rfl:n=0:=u.hl.symm;clear af C ac;go_enter func189,ntmps189;go_wp2
   (try go_ret2)
   exact E _ F
  |cons x r=>
   obtain⟨A,rfl,ab⟩:=(u.ext W).at (k:=0) (x:=x) F;rw[Qw]at ab;have P:1<=n:=by have:=u.hl;simp at this;omega
   have bu:((n:Int)==0)=false:=by simp;omega
   have bv:=bU ((n:Int)=0);have bw:=bU (n=0);have ca:0<n:=J;have ae:=Ju x f;rw[show decide (x=f)=false from s.out]at ae;clear af C ac P;go_enter func189,ntmps189;go_wp2
   (try go_ret2)
   exact E _ F
 obtain rfl:b=true:=by cases b<;>simp_all
 obtain⟨x,r,rfl⟩:∃x r,ws=x::r:=by
  cases ws with
  |nil=>exact absurd s.out (by simp[lJ])
  |cons x r=>exact⟨x,r,F⟩
 have bk:t=r.take (GD r):=by rw[<-a7.out];unfold xP;rw[s.out];rfl
 have bs:CY f (x::r)=r.drop (GD r):=by unfold CY;rw[s.out];rfl
 rw[bs]at aq;have b1:=O bk;obtain⟨A,rfl,ab⟩:=(u.ext W).at (k:=0) (x:=x) F;rw[Qw]at ab;have P:1<=n:=by have:=u.hl;simp at this;omega
 have a8:=O P;have bu:((n:Int)==0)=false:=by simp;omega
 have bv:=bU ((n:Int)=0);have bw:=bU (n=0);have ae:=Ju x f;rw[show decide (x=f)=true from s.out]at ae;have a':=O (u.drop P);clear af C ac P bk bs bh;go_enter func189,ntmps189;go_upto_region 4 with(refine bZ F (QO (p:=some A) (n:=n) (c:=c) (k:=1) F F F underlying98 Av a8 _) ?_);have Q:=a'.out;rw[show(x::r).drop 1=r from F]at Q;obtain⟨o,be⟩:=aF (fu (some A) c 1);obtain⟨j,bm⟩:=aF (n - 1);obtain⟨h,bi⟩:=aF (c - 1);rw[be,bm,bi]at Q⊢;obtain⟨ai,ag⟩:=aF (setCell w ⟨g,0,none⟩ (.slice o j h));rw[ag];have bb:au ai g [.slice o j h] T:=by rw[<-ag];exact an.set 0 (.slice o j h)
 have a4:dF w g ai:=by rw[<-ag];exact dF.setCell _
 obtain⟨l,bx,bz,b0⟩:=bT Q bb (a4.ext W b8) (aae (aad w (some g)) a4);have b':=Q.hm;clear Q bb a4 ag be bm bi a' a8 bu bv bw ae ab b3 b6 an W s;go_wp2_with fail;go_loopw [5] (λi wr=>∃k:Nat,k<=j/\i= .int .i64 (k:Int)/\(∀x∈r.take k,Gq x=false)/\aj ai wr) (λi _=>j - (intOf i).toNat)
 ·exact⟨0,J,F,aB,aj.refl _⟩
 ·obtain⟨k,m,rfl,bp,aw⟩:=hrel;obtain⟨G,V,D⟩:=aW bp aw (bx.ext aw);have bc:=D.cell' (i:=0) F;have bd:=D.frozen 0;clear bp aw;have N:∀(k:Nat) (U al:World),k<=j->k=GD r->aj ai U->au al g [.slice (fu o h k) (j - k) (h - k)] T->dF U g al->∀e,e=Ending.returned (.tuple #[.slice o k h,.bool (decide ((0:Int)<(k:Int)))])->aa e al:=by
   rintro k U al m bt M b2 b9 e rfl;rw[aq.out];have bo:=l.hnc;have bl:t=r.take k:=by rw[b1.out,bt]
   refine⟨o,k,h,fu o h k,j - k,h - k,?_,?_,?_,b2,aae (aht b0 M) b9⟩
   ·have:decide ((0:Int)<(k:Int))=(!true|| !t.isEmpty):=by
     have aE:t.length=k:=by
      have:=(l.take m (dJ m bo)).hl;rw[bl];exact this
     cases t with
     |nil=>simp at aE;subst aE;rfl
     |cons y z=>simp at aE;simp;omega
    rw[this]
   ·rw[bl];exact l.take m (dJ m bo)
   ·rw[<-bt];exact l.drop m
  have E:=O N;clear N;by_cases ad:k<j
  ·have b4:=cO ((k:Int)<(j:Int));have b5:=bV ad;obtain⟨y,a3⟩:∃y,r[k]? =some y:=⟨r[k]'(by rw[l.hl];exact ad),aB⟩;obtain⟨a5,rfl,b7⟩:=(l.ext (bz.ext V)).at a3;have ba:=O a3;have a1:=aj0 y wr;obtain⟨q,a2⟩:=aF (Gq y);rw[a2]at a1;obtain⟨a_,a9⟩:=aA a2 a1;clear a3 a2 a1;go_wp2_with fail;refine a9.mono ?_;rintro e U ⟨rfl,M⟩;obtain⟨a6,am⟩:=aA (V.ext M) (D.ext M);clear M a9 bc bd D V;have bc:=am.cell' (i:=0) F;have bd:=am.frozen 0;cases q with
   |false=>
    go_wp2;go_roundw
    ·refine⟨k+1,J,by go_num,(λz d=> ?_),a6⟩;rw[ny,ba.out,kU]at d;rcases d with d|d
     ·exact G z d
     ·simp at d;rw[d];exact a_
    ·exact fV
   |true=>
    obtain⟨ar,ao⟩:=aA (show k=GD r from(aes (by rw[l.hl];exact m) G (λz d=>by rw[ba.out]at d;injection d with d;rw[<-d];exact a_)).symm) ad;have ap:=O l.hnc;clear ad b4 b5 m b7 G;go_upto_region 7 with fail;go_wp2_with (first|(refine bZ F (ZN (p:=some a5) (n:=j) (c:=h) (k:=k) F F F underlying98 Av (by have:=ao.out;have:=ap.out;omega) _) ?_)|(refine bZ F (QO (p:=some a5) (n:=j) (c:=h) (k:=k) F F F underlying98 Av (by have:=ao.out;omega) _) ?_))
    (try go_ret2)
    exact E k U _ (zX ao) ar a6 (am.set 0 _) (dF.setCell _) _ (by first|rfl|simp)
  ·obtain rfl:k=j:=J;have ar:=O (show k=GD r from(aes (by rw[l.hl];exact m) G (λz d=>by
    have:=(iK.1 d).1;rw[l.hl]at this;omega)).symm)
   have ap:=O l.hnc;clear G m;go_upto_region 7 with fail;go_wp2_with (first|(refine bZ F (ZN (p:=o) (n:=k) (c:=h) (k:=k) F F F underlying98 Av ap _) ?_)|(refine bZ F (QO (p:=o) (n:=k) (c:=h) (k:=k) F F F underlying98 Av (aQ _) _) ?_))
   (try go_ret2)
   refine E k wr _ (aQ _) ar V ?_ (dF.setCell _) _ (by first|rfl|simp);rw[Nat.sub_self];exact D.set 0 _
section
structure Sl where
 a:aO
 n:Nat
 c:Nat
def Sl.v(s:Sl):Value:= .slice s.a s.n s.c
def ajo:Sl:=⟨none,0,0⟩
def vY:Nat->ByteArray
 |0=>BJ
 |1=>zK
 |2=>BI
 |3=>zL
 |_=>zM
def sU:Nat->bq->bq
 |0,ws=>Mr ws
 |k+1,ws=>CY (vY k) (sU k ws)
def SK(k:Nat)(ws:bq):bq:=xP (vY k) (sU k ws)
def Bh(k:Nat)(ws:bq):Bool:= !lJ (vY k) (sU k ws)|| !(SK k ws).isEmpty
def zI(q:Nat->Sl)(k:Nat)(s:Sl):Nat->Sl:=λj=>if j=k then s else q j
def t_(d:Bool)(q:Nat->Sl)(a la:bq):aX:={GJ d with ra:=(q 0).a,rn:=(q 0).n,rc:=(q 0).c,roles:=a,la:=(q 2).a,ln:=(q 2).n,lc:=(q 2).c,labels:=la}
def X3(d:Bool)(ws:bq):aX:={GJ d with rn:=(wu ws).length,roles:=wu ws,ln:=(vX ws).length,labels:=vX ws}
def GK(d:Bool)(ws:bq):aX:={X3 d ws with an:=(pJ ws).length,acts:=(pJ ws).map sF}
def BL(d:Bool)(ws:bq):aX:={GK d ws with fr:=QY (kg ws),tt:=Tq (kg ws)}
def MC(d:Bool)(ws:bq):aX:={BL d ws with nd:=RN (lT ws),ow:=RU (lT ws)}
def aoj(ws:bq):MC (lJ DY ws) ws=J6 ws:=F
def aoh{d:Bool}{ws:bq}(h:kg ws=[]):BL d ws=GK d ws:=by
 show({GK d ws with fr:=QY (kg ws),tt:=Tq (kg ws)}:aX)=GK d ws;rw[h];rfl
def aok{d:Bool}{ws:bq}(h:lT ws=[]):MC d ws=BL d ws:=by
 show({BL d ws with nd:=RN (lT ws),ow:=RU (lT ws)}:aX)=BL d ws;rw[h];rfl
def aoi{d:Bool}{ws:bq}{x:ByteArray}(h:kg ws=[x])(a:l5 (yE x).1=true)(b:l5 (yE x).2.1=true):{GK d ws with fr:=jL (yE x).1,tt:=jL (yE x).2.1}=BL d ws:=by
 show _=({GK d ws with fr:=QY (kg ws),tt:=Tq (kg ws)}:aX);rw[h,(Ta _).2 a,(Ta _).2 b];rfl
def aol{d:Bool}{ws:bq}{x y:ByteArray}(h:lT ws=[x,y])(a:l5 x.data.toList=true):{BL d ws with nd:=jL x.data.toList,ow:=y}=MC d ws:=by
 show _=({BL d ws with nd:=RN (lT ws),ow:=RU (lT ws)}:aX);rw[h,(Ta _).2 a];rfl
def Wm(ws:bq):Wj ws=(LA ws&&Bh 0 ws&&Bh 1 ws&&Bh 2 ws&&Bh 3 ws&&Bh 4 ws&&(IQ ws).isEmpty&&Ej (pJ ws)&&((kg ws).isEmpty||Bc (kg ws))&&((lT ws).isEmpty||Gj (lT ws))):=F
def OO{ws:bq}{k:Nat}(a:k<5)(h:Bh k ws=false):vg ws=false:=by
 rw[<-Wn,Wm];rcases(show k=0∨k=1∨k=2∨k=3∨k=4 by omega)with rfl|rfl|rfl|rfl|rfl<;>rw[h]<;>simp
def ajB{ws:bq}(a:LA ws=true)(h:∀j,j<5->Bh j ws=true):vg ws=((IQ ws).isEmpty&&Ej (pJ ws)&&((kg ws).isEmpty||Bc (kg ws))&&((lT ws).isEmpty||Gj (lT ws))):=by
 rw[<-Wn,Wm,a,h 0 J,h 1 J,h 2 J,h 3 J,h 4 J];simp
structure AZ(w:World)(B G1 G2 G5 G6 G7 G8:Nat)(d:Bool)(ws:bq)(k:Nat)(q:Nat->Sl)(a:aO)(n c:Nat)(wx:World):Prop where
 e:aj w wx
 b1:au wx G1 [.slice a n c] 98
 wd:jE w B a n c (sU k ws)
 b2:au wx G2 (t_ d q [] []).v 192
 b5:au wx G5 [(q 1).v] 98
 b6:au wx G6 [(q 3).v] 98
 b7:au wx G7 [(q 4).v] 98
 b8:au wx G8 [.pointer (some ⟨G2,1,none⟩),.pointer (some ⟨G5,0,none⟩),.pointer (some ⟨G2,3,none⟩),.pointer (some ⟨G6,0,none⟩),.pointer (some ⟨G7,0,none⟩)] 278
 ql:∀j,j<5->jE w B (q j).a (q j).n (q j).c (if j<k then SK j ws else[])
def II(a G5 G6 G7:Nat):Nat->Nat
 |0=>a
 |1=>G5
 |2=>a
 |3=>G6
 |_=>G7
def ofS:Nat->Nat
 |0=>1
 |2=>3
 |_=>0
variable {w wx wy wz:World} {B G1 G2 G5 G6 G7 G8 k n c n' c':Nat} {d:Bool} {ws:bq} {q:Nat->Sl} {a a':aO} {s:Sl}
def AZ.ext(h:AZ w B G1 G2 G5 G6 G7 G8 d ws k q a n c wx)(e:aj wx wy):AZ w B G1 G2 G5 G6 G7 G8 d ws k q a n c wy:=
 {h with e:=h.e.ext e,b1:=h.b1.ext e,b2:=h.b2.ext e,b5:=h.b5.ext e,b6:=h.b6.ext e,b7:=h.b7.ext e,b8:=h.b8.ext e}
def AZ.step(h:AZ w B G1 G2 G5 G6 G7 G8 d ws k q a n c wx)(N:k<5)(G:w.heap.size<=G1)(H:G1<G2)(I:G2<G5)(K:G5<G6)(L:G6<G7)(M:G7<G8)
 (y:au wy G1 [.slice a' n' c'] 98)(b:wx.grownBy wy (some G1))(hs:jE w B s.a s.n s.c (SK k ws))(A:jE w B a' n' c' (sU (k+1) ws))
 (t:wz=wy.setCell ⟨II G2 G5 G6 G7 k,ofS k,none⟩ s.v):AZ w B G1 G2 G5 G6 G7 G8 d ws (k+1) (zI q k s) a' n' c' wz:=by
 have u:dF wy (II G2 G5 G6 G7 k) wz:=by rw[t];exact dF.setCell _
 have D:II G2 G5 G6 G7 k≠G1:=by
  rcases(show k=0∨k=1∨k=2∨k=3∨k=4 by omega)with rfl|rfl|rfl|rfl|rfl<;>(simp only[II];omega)
 have E:II G2 G5 G6 G7 k≠G8:=by
  rcases(show k=0∨k=1∨k=2∨k=3∨k=4 by omega)with rfl|rfl|rfl|rfl|rfl<;>(simp only[II];omega)
 have C:w.heap.size<=II G2 G5 G6 G7 k:=by
  rcases(show k=0∨k=1∨k=2∨k=3∨k=4 by omega)with rfl|rfl|rfl|rfl|rfl<;>(simp only[II];omega)
 have x:aj w wy:=h.e.grown b (λg e=>by injection e with e;omega);have f:=h.b2.grown b (λe=>by injection e with e;omega);have i:=h.b5.grown b (λe=>by injection e with e;omega);have l:=h.b6.grown b (λe=>by injection e with e;omega);have m:=h.b7.grown b (λe=>by injection e with e;omega);have v:=h.b8.grown b (λe=>by injection e with e;omega);have ql:∀j,j<5->jE w B (zI q k s j).a (zI q k s j).n (zI q k s j).c (if j<k+1 then SK j ws else[]):=by
  intro j z;unfold zI;by_cases p:j=k
  ·subst p;rw[aN F,aN J];exact hs
  ·have o:=h.ql j z;rw[aJ p];by_cases r:j<k
   ·rw[aN r]at o;rw[aN J];exact o
   ·rw[aJ r]at o;rw[aJ J];exact o
 refine⟨u.ext x C,y.upd u D.symm,A,?_,?_,?_,?_,v.upd u E.symm,ql⟩;all_goals
  subst t;rcases(show k=0∨k=1∨k=2∨k=3∨k=4 by omega)with rfl|rfl|rfl|rfl|rfl
 ·exact f.set 1 s.v
 ·exact f.upd u (by show G2≠G5;omega)
 ·exact f.set 3 s.v
 ·exact f.upd u (by show G2≠G6;omega)
 ·exact f.upd u (by show G2≠G7;omega)
 ·exact i.upd u (by show G5≠G2;omega)
 ·exact i.set 0 s.v
 ·exact i.upd u (by show G5≠G2;omega)
 ·exact i.upd u (by show G5≠G6;omega)
 ·exact i.upd u (by show G5≠G7;omega)
 ·exact l.upd u (by show G6≠G2;omega)
 ·exact l.upd u (by show G6≠G5;omega)
 ·exact l.upd u (by show G6≠G2;omega)
 ·exact l.set 0 s.v
 ·exact l.upd u (by show G6≠G7;omega)
 ·exact m.upd u (by show G7≠G2;omega)
 ·exact m.upd u (by show G7≠G5;omega)
 ·exact m.upd u (by show G7≠G2;omega)
 ·exact m.upd u (by show G7≠G6;omega)
 ·exact m.set 0 s.v
def AZ.st(h:AZ w B G1 G2 G5 G6 G7 G8 d ws 5 q a n c wx):jC w wx B G2 (t_ d q (wu ws) (vX ws)) (X3 d ws):=by
 have b:=h.ql 0 J;have e:=h.ql 2 J;exact((jC.zero w wx B G2 d).roles (a:=(q 0).a) (n:=(q 0).n) (c:=(q 0).c) (ws:=wu ws) b).labels (a:=(q 2).a) (n:=(q 2).n) (c:=(q 2).c) (ws:=vX ws) e
structure yt(w:World)(B G2 G5 G6 G7:Nat)(ws:bq)(q:Nat->Sl)(r x:aX)(wx:World):Prop where
 e:aj w wx
 b2:au wx G2 r.v 192
 b5:au wx G5 [(q 1).v] 98
 b6:au wx G6 [(q 3).v] 98
 b7:au wx G7 [(q 4).v] 98
 w1:jE w B (q 1).a (q 1).n (q 1).c (pJ ws)
 w3:jE w B (q 3).a (q 3).n (q 3).c (kg ws)
 w4:jE w B (q 4).a (q 4).n (q 4).c (lT ws)
 st:jC w wx B G2 r x
def jC.fr{W:World}{a:Nat}{r x:aX}(h:jC w W B a r x)(f:Int):jC w W B a {r with fr:=f} {x with fr:=f}:={h with q:=by rw[<-h.q];rfl}
def jC.tt{W:World}{a:Nat}{r x:aX}(h:jC w W B a r x)(f:Int):jC w W B a {r with tt:=f} {x with tt:=f}:={h with q:=by rw[<-h.q];rfl}
def jC.nd{W:World}{a:Nat}{r x:aX}(h:jC w W B a r x)(f:Int):jC w W B a {r with nd:=f} {x with nd:=f}:={h with q:=by rw[<-h.q];rfl}
def jC.ow{W:World}{a:Nat}{r x:aX}(h:jC w W B a r x)(o:ByteArray)(b:o.size<=140737488355328):jC w W B a {r with ow:=o} {x with ow:=o}:={h with q:=by rw[<-h.q];rfl,os:=b}
structure Ab(w:World)(G2 G5 G6 G7:Nat)(q:Nat->Sl)(r:aX)(wx:World):Prop where
 e:aj w wx
 b2:au wx G2 r.v 192
 b5:au wx G5 [(q 1).v] 98
 b6:au wx G6 [(q 3).v] 98
 b7:au wx G7 [(q 4).v] 98
def Ab.ext{r:aX}(h:Ab w G2 G5 G6 G7 q r wx)(e:aj wx wy):Ab w G2 G5 G6 G7 q r wy:=⟨h.e.ext e,h.b2.ext e,h.b5.ext e,h.b6.ext e,h.b7.ext e⟩
def Ab.JD{r:aX}{p:Option Nat}(h:Ab w G2 G5 G6 G7 q r wx)(c:G2<G5)(d:G5<G6)(f:G6<G7)(g:wx.grownBy wy p)(a:∀g,p=some g->w.heap.size<=g/\G7<g):Ab w G2 G5 G6 G7 q r wy:=
 ⟨h.e.grown g (λi b=>(a i b).1),h.b2.grown g (λe=>by have:=(a _ e.symm).2;omega),h.b5.grown g (λe=>by have:=(a _ e.symm).2;omega),h.b6.grown g (λe=>by have:=(a _ e.symm).2;omega),h.b7.grown g (λe=>by have:=(a _ e.symm).2;omega)⟩
def Ab.rule{r r':aX}(h:Ab w G2 G5 G6 G7 q r wx)(a:w.heap.size<=G2)(c:G2<G5)(d:G5<G6)(e:G6<G7)(b:au wy G2 r'.v 192)(u:dF wx G2 wy):Ab w G2 G5 G6 G7 q r' wy:=
 ⟨u.ext h.e a,b,h.b5.upd u J,h.b6.upd u J,h.b7.upd u J⟩
def afa(l:bq):∀z∈l.map sF,(Lit.int .i64 z).wf=true:=by
 intro z hz;exact am3
def AZ.j(h:AZ w B G1 G2 G5 G6 G7 G8 d ws 5 q a n c wx):yt w B G2 G5 G6 G7 ws q (t_ d q (wu ws) (vX ws)) (X3 d ws) wx:=
 ⟨h.e,h.b2,h.b5,h.b6,h.b7,h.ql 1 J,h.ql 3 J,h.ql 4 J,h.st⟩
variable {r x r' x':aX}
def yt.toK(h:yt w B G2 G5 G6 G7 ws q r x wx):Ab w G2 G5 G6 G7 q r wx:=⟨h.e,h.b2,h.b5,h.b6,h.b7⟩
def Ab.j(h:Ab w G2 G5 G6 G7 q r wx)(a:jE w B (q 1).a (q 1).n (q 1).c (pJ ws))(b:jE w B (q 3).a (q 3).n (q 3).c (kg ws))(c:jE w B (q 4).a (q 4).n (q 4).c (lT ws))(d:jC w wx B G2 r x):yt w B G2 G5 G6 G7 ws q r x wx:=
 ⟨h.e,h.b2,h.b5,h.b6,h.b7,a,b,c,d⟩
def yt.ext(h:yt w B G2 G5 G6 G7 ws q r x wx)(e:aj wx wy):yt w B G2 G5 G6 G7 ws q r x wy:=
 {h with e:=h.e.ext e,b2:=h.b2.ext e,b5:=h.b5.ext e,b6:=h.b6.ext e,b7:=h.b7.ext e,st:=h.st.ext e}
def yt.rule(h:yt w B G2 G5 G6 G7 ws q r x wx)(a:w.heap.size<=G2)(c:G2<G5)(d:G5<G6)(e:G6<G7)(b:au wy G2 r'.v 192)(u:dF wx G2 wy)(hs:jC w wy B G2 r x->jC w wy B G2 r' x'):
 yt w B G2 G5 G6 G7 ws q r' x' wy:=
 ⟨u.ext h.e a,b,h.b5.upd u J,h.b6.upd u J,h.b7.upd u J,h.w1,h.w3,h.w4,hs (h.st.upd u (aQ _))⟩
end
end Go.Proofs.YtjlhhnkhcbpnjaaGreatDoor
