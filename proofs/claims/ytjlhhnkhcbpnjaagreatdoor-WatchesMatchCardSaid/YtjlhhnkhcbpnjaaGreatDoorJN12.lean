/- Laws; no condition. -/
import Derived.Test.YtjlhhnkhcbpnjaaGreatDoorJN11
import Derived.Shelf.SlSortCmp.WholeK
import Derived.Shelf.SlSortCmp.NoneTotal
import Derived.Shelf.SlGeneric
namespace Go.Proofs.YtjlhhnkhcbpnjaaGreatDoor
open Go Go.RowKit Go.Shelf List Tryz
open Go.Value(int slice agg cells tuple)
open Go.World(alloc drew)
open Go.Region(ready wanted noSelect free binds)
set_option linter.all false
set_option maxHeartbeats 40000000
set_option maxRecDepth 100000
def I_(B:Nat)(a:aO)(c b:Nat)(rs:List aX):Prop:=(∀g,(slice a c b).ownBlock=some g->B<=g)/\∀r∈rs,r.Hi B
def V4(B:Nat):I_ B none 0 0 []:=⟨λg h=>(by cases h),λ_ h=>(by cases h)⟩
def Vw{B B':Nat}{a:aO}{n:Nat}(h:BR B a n)(b:B'<=B):BR B' a n:=by grind [BR]
theorem acI{B B':Nat}{r:aX}(h:r.Hi B)(a:B'<=B):r.Hi B':=⟨Vw h.r1 a,Vw h.r2 a,Vw h.r3 a⟩
def abH(s:ah)(w:World)(bv:uK w)(c5:s.length<=9223372036854775807):
 Calls prog 85 #[.string (bN s)] w λe w'=>∃H K I rs,e= .returned (.tuple #[.agg #[.slice H K I],.int .i64 (EW s),.int .i64 (pY s)])/\qj w' H K I rs/\rs.map aX.bare=sQ s/\aj w w'/\I_ w.heap.size H K I rs:=by
 obtain⟨aw,j,be⟩:=aW bv K4 Jq;have c6:=xQ s;have ce:=O (show pY s=pY s from F);clear bv;obtain⟨cP,a8⟩:=mP (λe w'=>∃H K I rs,e= .returned (.tuple #[.agg #[.slice H K I],.int .i64 (EW s),.int .i64 (pY s)])/\qj w' H K I rs/\rs.map aX.bare=sQ s/\aj w w'/\I_ w.heap.size H K I rs:Ending->World->Prop);rw[<-a8];have W:=O a8;clear a8 ce;go_enter func85,ntmps85;go_upto_region 1 with fail;generalize ao:alloc w _=U;have b2:U.heap.size=w.heap.size+1:=by rw[<-ao,DU]
 obtain⟨ap,aq,bm⟩:=aW (dX ao [.slice none 0 0] 152) (dS ao) b2;clear ao b2;by_cases al:65536<s.length
 ·have ae:=cO ((65536:Int)<(s.length:Int));have a3:=cO (65536<s.length);have ar:=O (abF al);clear al;go_wp2_with (refine aZ F _ _ _ F F F ap j F (xs:=[.slice none 0 0]) F (λv d=>by simp at d;rw[d];rfl) ?_);intro o ac cM;go_wp2_with fail;refine Sg F F ac j F F ?_;rw[W.out];refine⟨none,0,0,[],?_,Wz _,?_,cM.ext aq (aQ _),V4 _⟩
  ·rw[ar.1,ar.2.1];rfl
  ·rw[ar.2.2];rfl
 have ae:=bU ((65536:Int)<(s.length:Int));have a3:=bU (65536<s.length);have cv:s.length<=65536:=J;have bh:=O al;clear al;go_upto_region 3 with fail;go_upto_region 4 with fail;obtain⟨o,T⟩:=aF (alloc U (.cells #[.slice none 0 0] 152));rw[T];have ac:au o U.heap.size [.slice none 0 0] 152:=by rw[<-T];exact au.bK F F
 have f:aj U o:=by rw[<-T];exact(aj.refl U).alloc _
 obtain⟨B5,B2,E1⟩:=aW ac (ap.ext f) (aq.ext f);have b1:o.heap.size=w.heap.size+2:=by rw[<-T,DU,bm.out]
 have ch:=O b1;rw[bm.out]at B5⊢;clear ac T f ap aq b1 ae a3;go_wp2_with fail;refine(amv s 10 o J (aw.ext E1).lw.ml).mono ?_;rintro e D ⟨rfl,bL,e2⟩;obtain⟨P,a7⟩:=aF ((oG 10 s).length);have cW:P<=65537:=by have:=adl 10 s;omega
 have ct:o.heap.size<D.heap.size:=bL.lt;obtain⟨N,Ct⟩:=aF w.heap.size;obtain⟨G5,Cu⟩:=aF (w.heap.size+1);obtain⟨ai,Vu⟩:=aF o.heap.size;have a2:zS w N G5 ai D.heap.size s 0 none 0 [] D:=by
  exact amX
 have br:w.heap.size<=N/\N≠G5/\w.heap.size<=G5/\ai≠G5/\G5<D.heap.size/\N<D.heap.size/\ai<D.heap.size/\w.heap.size<=D.heap.size:=by
  have:=ch.out;omega
 obtain⟨t,bj⟩:=aA br a7;rw[a7,Cu,Ct,Vu];obtain⟨V,a5⟩:=aF D.heap.size;rw[a5]at a2 t;have b':=O a5;clear bL e2 a7 Cu Ct Vu ct br a5;go_wp2_with fail;go_loopw [19] (λi wr=>∃(k:Nat) (a:aO) (c:Nat) (rs:List aX),k<=P/\i= .int .i64 (k:Int)/\zS w N G5 ai V s k a c rs wr/\V<=wr.heap.size) (λi _=>P - (intOf i).toNat)
 ·exact⟨0,none,0,[],J,F,a2,by rw[b'.out];exact aQ _⟩
 ·obtain⟨k,a,c,rs,cX,rfl,a6,cV⟩:=hrel;have A:=O a6;have cc:Hid (∀g,(slice a rs.length c).ownBlock=some g->g<wr.heap.size):=O (λg x=>(a6.own.lt g x).2);clear a6 a2;by_cases bx:k<P
  ·have ae:=cO ((k:Int)<(P:Int));have a3:=bV bx;obtain⟨l,an⟩:∃l,(oG 10 s)[k]? =some l:=⟨(oG 10 s)[k]'(by rw[bj.out];exact bx),aB⟩;have cY:l.length<=65536:=dJ (adn 10 s l (f_ an)) cv;have cm:=A.ln.cell' (i:=k) (v:= .string (bN l)) (by rw[iT,iT,an];rfl);have g_:=O (aiU an);have cs:=(Zf l [35]).1;clear an;go_wp2_with fail;refine(Ze l [35] wr J (aw.ext A.e).lw.ml).mono ?_;rintro e M ⟨rfl,f⟩;have E1:=O f;clear f cm;go_wp2_with fail;refine(agY (Lib.cut l [35]).1 M J).mono ?_;rintro e bc ⟨g1,rfl,b3,af⟩;have c1:=af.size;have P4:=O (A.ext (E1.ext af));have cx:=E1.size;have c2:=(E1.ext af).size;have bb:jE bc M.heap.size (some ⟨g1,0,none⟩) (DZ (Lib.cut l [35]).1).length (DZ (Lib.cut l [35]).1).length (IV l):=b3;clear b3 af cs;have cz:M.heap.size<=bc.heap.size:=J;generalize (DZ (Lib.cut l [35]).1).length=m at*;have nG:=bb.hl;have HW:=O bb;clear bb;by_cases h0:m=0
   ·exact am4
   have cn:((m:Int)==0)=false:=by simp;exact h0
   have co:=bU ((m:Int)=0);have cp:=bg h0;have a1:Hid (IV l≠[]):=O (λe=>h0 (by rw[<-nG,e];rfl));clear nG;go_wp2_with fail;refine(ajS M.heap.size (some ⟨g1,0,none⟩) m m (IV l) bc HW a1 (aw.ext P4.e) cz).mono ?_;rintro e bd ⟨r,rfl,G,a4⟩;have ci:=O (P4.ext a4);have c3:=a4.size;have a0:=O G;obtain⟨b,a9⟩:=aF (vg (IV l));have bi:=O a9;rw[a9]at a0⊢;clear a9 G a4 P4 HW h0 cn co cp;obtain⟨ab,bl⟩:=aA (aX.len r) (xO r);go_wp2_with (refine aZ F _ _ _ F F F (au.bK (vs:=MG) F F) be F (xs:=r.v) ab bl ?_);intro cN bp b4;have ag:aj bd cN:=b4.ext ((aj.refl bd).alloc _) (aQ _);obtain⟨u,b8,b9⟩:=aW (ci.ext ag) bp ag;have c4:=ag.size;clear bp b4 ag;cases b with
   |false=>
    have bt:Cj (rM s)=some k:=afA g_ u.good (by
     unfold JC;rw[bi.out,Bool.or_false];cases cw:IV l with
     |nil=>exact absurd cw a1
     |cons y z=>rfl)
    have ax:=O (abE bh bt);clear bt;go_wp2_with (refine aZ F _ _ _ F F F u.b2 j F (xs:=[.slice none 0 0]) F (λv d=>by simp at d;rw[d];rfl) ?_);intro b5 R L;go_wp2_with fail;refine Sg F F R j F F ?_;rw[W.out];refine⟨none,0,0,[],?_,Wz _,?_,L.ext u.e t.1,V4 _⟩
    ·rw[ax.1,ax.2.1];rfl
    ·rw[ax.2.2];rfl
   |true=>
    have b0:r.bare=J6 (IV l)/\r.Ok bd/\r.Hi M.heap.size:=by first|exact a0 F|exact a0 trivial
    have aE:=O b0;have cl:=u.b5.cell' (i:=0) F;have bo:=O agp;have c0:=u.cnt;clear b0;go_wp2_with (first|(refine dA F 192 _ F F b8 be ab ?_)|(refine Mw bo bS F F F ab ?_)|(refine yY (n:=rs.length) (m:=1) (c:=1) (xs:=CX rs) (news:=r.v) bo F _ _ F V F F (CS u.own ((aj.refl _).alloc _)) ab (aQ _) (λh=>by cases h) (aM.iM (au.bK F F)) bl J J (by rw[DU];omega) ?_));intro c7 b6 a' am bz;obtain⟨cj,ck,rfl,_,_,_⟩:=j3 a';obtain⟨cd,ca,cb⟩:=aW a' am bz;have bu:∀g,(slice a rs.length c).ownBlock=some g->V<=g:=λg x=>(u.own.lt g x).1;have ad:au b6 G5 [.slice a rs.length c] 152:=(u.b5.alloc _).grown am (λe=>by
     have cT:=bu G5 e.symm;have cU:=t.out;omega)
    have cy:=am.size;rw[DU]at cy;have b7:=O ad;have cQ:=ad.cell' (i:=0) F;have cS:=ad.frozen 0;clear a' am bz bu ad cl;go_wp2;go_roundw
    ·refine⟨k+1,cj,ck,rs++[r],J,by go_num,?_,by rw[(dF.setCell (w:=b6) (g:=G5) (i:=0) _).size];omega⟩;obtain⟨cD,cE,cF,cG,cH,cI,cJ,cL⟩:=t.out;exact(u.ext ((aj.refl _).alloc _)).push g_ a1 bi cD cE cF cG cH cI cJ cL (g1:=M.heap.size) aE.1 ((aE.2.1.ext b9).ext ((aj.refl _).alloc _)) aE.2.2 J (λg x=>vL (cc g x) cx) cd ca (by rw[DU];exact cb) (dF.setCell _) (b7.set 0 _)
    ·exact fV
  ·obtain rfl:k=P:=J;have ae:=bU ((k:Int)<(k:Int));have bs:(rM s).take k=rM s:=gY (by rw[aiV,bj.out];exact aQ _);have S:=A.ru;have a_:=A.good;rw[bs]at S a_;have ba:=abD bh (afz a_);have bw:(E_ (rM s)).length=rs.length:=by rw[<-S,aI]
   rw[bw,Wy S]at ba;obtain⟨cg,Q,az⟩:=aW S ba (A.pol J);clear bs S a_ ba bw;have cr:=O (λo (h:qj o a rs.length c rs)=>Y8 a rs.length c rs o h);go_wp2_with (refine dA F 152 _ F F A.b5 j F ?_);refine(cr wr az).mono ?_;rintro e M ⟨rfl,f⟩;obtain⟨B,bk⟩:=aA (A.ext f) (az.ext f);clear f az;by_cases C:oV rs rs.length=0
   ·have aa:=O (show pY s=0 from Q.1.trans C);have cA:(oV rs rs.length != 0)=false:=by simp[C]
    have cC:=bV C;generalize oV rs rs.length=E at*;subst C;go_wp2_with (first|(refine dA F 152 _ F F B.b5 j F ?_)|(refine aZ F _ _ _ F F F B.b2 j F (xs:=[.slice a rs.length c]) F (λv d=>by simp at d;rw[d];rfl) ?_));intro b5 R L;go_wp2_with fail;refine Sg F F R j F F ?_;rw[W.out];refine⟨a,rs.length,c,rs,?_,?_,?_,L.ext B.e t.1,λg x=>dJ (by have:=t.out;omega) (B.own.lt g x).1,λr G=>acI (B.hi r G) (by have:=t.out;omega)⟩
    ·rw[aa.out,Q.2];rfl
    ·have p:=B.out;have q:=t.out;refine⟨F,bk.hnc,bk.hm,?_,λr G=>(p.ok r G).JD ((p.hi r G).off (q:=some N) (λg e=>by injection e with e;omega)) (zJ L)⟩;obtain⟨_,_,d,_,_,cq⟩:=j3 (CQ p.own (zJ L) (λg x e=>by
      injection e with e;have:=(p.own.lt g x).1;omega))
     injection d with f e2 cR;rw[f];exact cq
    ·unfold sQ;rw[aN aa.out];exact cg
   ·have aa:=O (show pY s≠0 from λe=>C (Q.1.symm.trans e));have cA:(oV rs rs.length != 0)=true:=by simp[C]
    have cC:=bg C;have cf:=O Q.1;generalize oV rs rs.length=E at*;clear C;go_wp2_with (refine aZ F _ _ _ F F F B.b2 j F (xs:=[.slice none 0 0]) F (λv d=>by simp at d;rw[d];rfl) ?_);intro b5 R L;go_wp2_with fail;refine Sg F F R j F F ?_;rw[W.out];refine⟨none,0,0,[],?_,Wz _,?_,L.ext B.e t.1,V4 _⟩
    ·rw[cf.out,Q.2];rfl
    ·unfold sQ;rw[aJ aa.out];rfl
def abG(s:ah)(w:World)(i:uK w)(j:s.length<=9223372036854775807):
 Calls prog 85 #[.string (bN s)] w λe w'=>∃a c b rs,e= .returned (.tuple #[.agg #[.slice a c b],.int .i64 (EW s),.int .i64 (pY s)])/\qj w' a c b rs/\rs.map aX.bare=sQ s/\aj w w':=
 (abH s w i j).mono λe w' ⟨a,c,b,rs,d,f,g,h,_⟩=>⟨a,c,b,rs,d,f,g,h⟩
def abV(a:aO)(pn b:Nat)(rs:List aX)(w:World)(E:qj w a pn b rs)(D:uK w):
 eO 123 #[.agg #[.slice a pn b]] w (.tuple #[.string (bN (qN rs pn)),.int .i64 (tZ rs pn)]):=by
 obtain⟨f,A,d⟩:=aW E D K4;obtain⟨ao,o⟩:=mP (λe w'=>e= .returned (.tuple #[.string (bN (qN rs pn)),.int .i64 (tZ rs pn)])/\aj w w':Ending->World->Prop);unfold eO;rw[<-o];obtain⟨HR,ac⟩:=aA o (λc (h:qj c a pn b rs)=>Y8 a pn b rs c h);clear o E D;go_enter func123,ntmps123;go_upto_region 1 with fail;generalize p:alloc w _=al;obtain⟨s,y⟩:=aA (dX p [.slice a pn b] 152) (dS p);clear p;go_wp2_with (refine dA F 152 _ F F s d F ?_);refine(ac al (f.ext y)).mono ?_;rintro e am ⟨rfl,l⟩;obtain⟨t,EB⟩:=aA (s.ext l) (y.ext l);clear l;by_cases hE:oV rs pn≠0
 ·exact am8
 have g:oV rs pn=0:=Qj.1 hE;have j:=akf g;obtain⟨Yh,TP⟩:=aA (λh=>akm (rs:=rs) g h) (λh=>abY (rs:=rs) g h);rw[g];have af:=abQ (W:=w) (λr ae=>f.ok r ae) j.2;have K:rs.length<=100:=by rw[f.hl];exact j.1
 have ag:(kY rs).length<=400100:=by
  have:rs.length*4001<=100*4001:=Ho _ K;omega
 obtain⟨ai,ad⟩:=aA (λc (h:qj c a pn b rs) ab=>alX a pn b rs c h j.2 j.1 ab) (λc h=>abG (kY rs) c h J);clear hE g j af K ag;go_wp2_with (refine dA F 152 _ F F t d F ?_);refine(ai am (f.ext EB) (A.ext EB)).mono ?_;rintro e an ⟨rfl,m⟩;obtain⟨T,z⟩:=aA (t.ext m) (EB.ext m);clear m;generalize kY rs=S at*;go_wp2_with fail;refine(ad an (A.ext z)).mono ?_;rintro e q ⟨M,P,N,qs,rfl,H,I,n⟩;obtain⟨B,zP,U,V⟩:=bT H (show nZ rs (sQ S)=nZ rs qs by rw[<-I,acY]) (T.ext n) (z.ext n);clear H I n;go_wp2_with (refine aZ F _ _ _ F F F (au.bK (vs:=[.slice none 0 0]) F F) d F (xs:=[.slice M P N]) F (λv L=>by simp at L;rw[L];rfl) ?_);intro R C Q;have k:aj q R:=Q.ext ((aj.refl q).alloc _) (aQ _);obtain⟨u,x,EE,aa⟩:=bT C (U.ext k) (V.ext k) (B.ext k);clear C Q k B;generalize q.heap.size=G6 at*;by_cases yO:pY S≠0
 ·exact anb
 have G:pY S=0:=Qj.1 yO;rw[G]at Yh TP⊢;have ap:=x.cell' (i:=0) F;have aq:=u.cell' (i:=0) F;have mW:=O (alG a pn b rs M P N qs R (f.ext EE) aa);clear yO G;go_wp2_with (first|(refine qP F 152 (.tmp 1) F F x d F ?_)|(refine qP F 152 (.tmp 6) F F u d F ?_));exact anh
def aaM{a:Int}:Oy a=true↔a∈([1,2,3,8,11,12]:List Int):=by
 unfold Oy;simp[or_assoc]
def abj{x y:ah}(a:x.length=16)(b:y.length=16)(w:World):(binOp .neq 29 (.agg (x.map Y).toArray) (.agg (y.map Y).toArray)).run prog w= .ok (.bool (decide (x≠y))) w:=by
 rw[xI underlying29 x y a b w]
 congr 1
 by_cases h:x=y<;>simp[h]
def aji{x:ah}(h:x.length=16)(w:World):(binOp .neq 29 (.agg (x.map Y).toArray) (.agg (replicate 16 (.int .u8 0)).toArray)).run prog w= .ok (.bool (decide (x≠jo))) w:=by
 have a:(replicate 16 (int .u8 0))=jo.map Y:=by simp[jo,Y]
 rw[a];exact abj h (by simp[jo]) w
def Ij(k:bP):∀v∈k.v,v.oneCell'=true:=by
 intro v b;unfold bP.v at b;simp only[kU,gM,pI]at b;rcases b with⟨a,_,rfl⟩|rfl|rfl|⟨a,_,rfl⟩|rfl|rfl|⟨a,_,rfl⟩<;>rfl
def XE(s:ByteArray):bN s.data.toList=s:=by
 apply KQ;simp[bN]
theorem Xa:∀xs ys:List aX,nZ (xs.map aX.bare) ys=nZ xs ys
 |[],[]=>rfl
 |[],_::_=>rfl
 |_::_,[]=>rfl
 |x::xs,y::ys=>by
  show(DT x.bare y&&nZ (xs.map aX.bare) ys)=(DT x y&&nZ xs ys);rw[Xa xs ys];rfl
theorem abW{rs a:List aX}(h:rs.map aX.bare=a)(n:Nat):tZ a n=tZ rs n:=by grind [tZ,Wy,R9,Xa]
def akk{rs a:List aX}(h:rs.map aX.bare=a)(n:Nat):qN a n=qN rs n:=by grind [qN,abW,R9]
def adX{a:Prop}(e:a:=by
 have Om:=O (λw1 (h1:aj v9 w1)=>acd p S e r w1 (KX.ext h1) jh.hm jh.hcm);go_wp2_with (first|(refine bZ F (cB F F (d_ Fj o7) eu g_) ?_)|(refine bZ F (pQ F F F Bn fU _) ?_)|(refine dA F 34 (.tmp 3) F F Fj eZ gq ?_)|(refine dA F 101 (.tmp 6) F F MI jQ tu ?_));refine(Om _ (aj.refl _)).mono ?_;rintro e0 vz ⟨rfl,eN⟩;have EZ:=O (BN.ext eN);clear eN;go_wp2;go_ret;exact⟨by rw[<-KC.out]<;>rfl,EZ⟩):a:=e
def XH{a:Prop}(e:a:=by
 go_wp2_with (first|(refine bZ F (cB F F (d_ Fj o7) eu g_) ?_)|(refine bZ F (pQ F F F Bn fU _) ?_));go_ret;exact⟨by rw[<-fI.out]<;>rfl,BN⟩):a:=e
def aec{a:Prop}(e:a:=by
 go_wp2_with (first|(refine bZ F (cB F F (d_ Fj o7) eu g_) ?_)|(refine bZ F (pQ F F F Bn fU _) ?_));go_ret;exact⟨by rw[<-KC.out];rfl,BN⟩):a:=e
def akA(p:Nat)(S:bD)(e:aR)(w:World)(h:eT w p S)(g:e.Ok w)(cU:uK w):
 eO 83 #[.pointer (some ⟨p,0,none⟩),.agg e.v.toArray] w (.int .i64 (S.p.ref e)):=by
 obtain⟨gq,W,cC,dy,ab,az,g_,cE⟩:=mQ (aR.len g) g cU h (And.intro h.hl h.hf) (show(e.dz.map Y).length=16 by rw[aI,g.ha]) (show(e.key.map Y).length=16 by rw[aI,g.hk]) (show(e.prev.map Y).length=32 by rw[aI,g.hp]);obtain⟨cD,aw,o7,cz,cG,ev,em,c0⟩:=mQ (show(S.last.map Y).length=32 by rw[aI,h.hl]) (aR.Qv g) (aR.Gi g) (aR.abR g) (bD.last_at h.hl) (aR.La g) (λw1 (b':aj w w1)=>(h.ext b').Pf (id:=e.dz) g.ha true) (λw1 (b':aj w w1)=>(h.ext b').W9 (id:=e.key) g.hk true);obtain⟨cF,cA,ac,ej,aa⟩:=fC (λw1=>V3 g.hp h.hl w1) (λw1=>ZJ g.hk w1) (λw1=>aji g.hk w1) (λw1 (h1:e.Ok w1)=>NR e w1 h1) (h.RA e.key);obtain⟨d3,a3⟩:=aF (S.p.ref e);rw[a3];unfold fB.ref at a3;rw[show S.p.cnt=S.cnt from F,show S.p.last=S.last from F,show S.p.tm=S.tm from F,show S.p.ks=S.ks from F,show dM S.p.ms e.dz=(dM S.ms e.dz).map j_.l from NY j_.l S.ms e.dz,Option.isNone_map]at a3;obtain⟨bj,dr⟩:=aA a3 (λag:iJ e=0=>Er g ag);have dq:=O (λag:iJ e=0=>show(qM oD e.act e.body).2=0 by
  obtain⟨eJ,r2,eK,eL,eM,eQ,eR⟩:=Er g ag;unfold iJ at ag;rw[aJ (by unfold fZ;simp;omega)]at ag;exact ag)
 clear h g cU a3;go_enter func83,ntmps83;go_upto_region 1 with fail;generalize cf:alloc w _=ep;have ca:=dS cf;obtain⟨co,cw,dT⟩:=aW (dX cf e.v 34) ca (dy.ext ca);clear cf ca;generalize w.heap.size=cy at*;go_wp2_with (refine dA F 34 _ F F co eZ gq ?_);refine(ej ep (W.ext cw)).mono ?_;rintro e0 er ⟨rfl,eN⟩;obtain⟨a_,bc,cJ⟩:=aW (co.ext eN) (cw.ext eN) (dT.ext eN);clear eN;by_cases N:iJ e≠0
 ·skip
  have b:=bj.out;rw[aN N]at b;have fI:=O b;have c3:=om N;have br:=bg N;generalize iJ e=E at*;clear N b bj;go_wp2;go_ret;exact⟨by rw[<-fI.out];first|rfl|simp,bc⟩
 have bp:iJ e=0:=Qj.1 N;have b:=bj.out;rw[aJ N]at b;obtain⟨dC,eE,dE⟩:=aW b (dr bp) (dq bp);rw[bp];clear N bp b bj;have cd:=O (λw1 (h1:aj w w1)=>Sw e.act e.body e.ba e.bn e.bc w1 W.hb W.hbc W.Lv (W.hcl.ext h1));rw[dE.out]at cd;have j:=a_.cell' (aR.at2 e);have ew:=a_.cell' ev;go_wp2_with fail;refine(cd er bc).mono ?_;rintro e0 cj ⟨r,rfl,cb,cX,cc,cY,eN⟩;obtain⟨jh,du⟩:=aA cb (show r.p=vO e from cY);have df:=O cc.cells;have tu:=O (aD.len (cb.ok cX cc));clear cb cX cc cY cd j ew;obtain⟨da,dl,d2⟩:=aW (a_.ext eN) (bc.ext eN) (cJ.ext eN);clear eN a_ bc cJ;go_wp2_with (refine aZ F _ _ _ F F F (au.bK (vs:=gQ.v) F F) jQ og (xs:=r.v) tu (yV r) ?_);intro bs f t;have eN:aj cj bs:=t.ext ((aj.refl cj).alloc _) (aQ _);have c8:=O f;clear f t;obtain⟨cp,cx,cM,dg⟩:=bT (da.ext eN) (dl.ext eN) (d2.ext eN) (df.ext eN);clear eN;generalize cj.heap.size=G6 at*;generalize c1:(dM S.ms e.dz).isSome=c2 at*;have dv:=O (show(dM S.ms e.dz).isNone= !c2 by rw[<-c1];cases dM S.ms e.dz<;>rfl);clear c1;have b:=dC.out;rw[dv.out,<-du.out]at b;have b6:=O b;clear b;go_upto_region 5 with fail;obtain⟨C,c,aK⟩:=nR bs;have cP:∀w1,C w1->w1.cell? ⟨p,51,none⟩=some (.map (some S.gm)):=λw1 h1=>((cM.ext ((c w1).1 h1)).blk).cell' (bD.sG ab.1 ab.2);refine qX (S:=C) aC ((c _).2 (aj.refl bs).drew) (λX=> ?_);refine ay 0 ?_;refine ay 1 ?_;refine ay 2 ?_;refine dW 3 (cP) ?_;refine ay 4 ?_;refine aV 5 F (aY F (λw1 h=>cB F F (d_ (cp.ext ((c w1).1 h)) aw) eu az)) ?_;refine aV 6 F (aY F (λw1 h=>Dr F F F (em w1 (cx.ext ((c w1).1 h))))) ?_
 simp only[wX];generalize (S.mZ e.dz).v=eS at*;refine ay 7 ?_;refine ay 8 ?_;refine ay 9 ?_;refine ay 10 ?_;refine ay 11 ?_;refine dP ?_;have eN:=(c _).1 X;generalize G:drew bs=ck at eN⊢;clear G X aK c cP;obtain⟨cq,dm,cN,di,c9⟩:=fC (cp.ext eN) (cx.ext eN) (cM.ext eN) (dg.ext eN) (c8.ext eN);clear eN;go_upto_region 6 with fail;obtain⟨C,c,aK⟩:=nR ck;have k1:∀w1,C w1->w1.cell? ⟨cy,0,none⟩=some (.int .i64 e.num):=λw1 h1=>(cq.ext ((c w1).1 h1)).cell' (aR.kV e);have k2:∀w1,C w1->w1.cell? ⟨p,0,none⟩=some (.int .i64 (S.cnt:Int)):=λw1 h1=>((cN.ext ((c w1).1 h1)).blk).cell' (bD.kV S);refine qX (S:=C) aC ((c _).2 (aj.refl ck).drew) (λX=> ?_);refine ay 0 ?_;refine dW 1 (k1) ?_;refine ay 2 ?_;refine ay 3 ?_;refine ay 4 ?_;refine dW 5 (k2) ?_;refine ay 6 ?_;refine ay 7 ?_;refine dP ?_;have eN:=(c _).1 X;generalize G:drew ck=ap at eN⊢;clear G X aK c k1 k2;obtain⟨ba,b1,bm,cs,cm⟩:=fC (cq.ext eN) (dm.ext eN) (cN.ext eN) (di.ext eN) (c9.ext eN);clear eN;by_cases I:e.num=(S.cnt:Int)
 case neg=>
  have d4:(e.num != (S.cnt:Int))=true:=by simp;exact I
  have d6:=bg I;have b:=b6.out;rw[aN (show e.num≠(S.cnt:Int)from I)]at b;have fI:=O b;clear b I;go_wp2;go_ret;exact⟨by rw[<-fI.out];first|rfl|simp,b1⟩
 have d4:(e.num != (S.cnt:Int))=false:=by simp;exact I
 have d6:=bV I;have b:=b6.out;rw[aJ (λh=>h I)]at b;have bk:=O b;clear b I b6;by_cases al:e.prev=S.last
 case neg=>
  have fU:=cF.out;rw[show decide (e.prev≠S.last)=true from bV al]at fU;replace fU:=O fU;have b:=bk.out;rw[aN (show e.prev≠S.last from al)]at b;have fI:=O b;clear b al bk;go_upto_region 8 with fail;obtain⟨C,c,aK⟩:=nR ap;refine qX (S:=C) aC ((c _).2 (aj.refl ap).drew) (λX=> ?_);refine ay 0 ?_;refine aV 1 F (aY F (λw1 h=>cB F F (d_ (ba.ext ((c w1).1 h)) cz) bf cE)) ?_;refine ay 2 ?_;refine ay 3 ?_;refine ay 4 ?_;refine aV 5 F (aY F (λw1 h=>cB F F (d_ ((bm.ext ((c w1).1 h)).blk) cG) bf cD)) ?_;refine aV 6 F (aY F (λw1 _=>pQ F F F Q8 fU w1)) ?_;refine ay 7 ?_;refine dP ?_;have eN:=(c _).1 X;generalize G:drew ap=bt at eN⊢;clear G X aK c;obtain⟨bv,b2,b9,ct,cn⟩:=fC (ba.ext eN) (b1.ext eN) (bm.ext eN) (cs.ext eN) (cm.ext eN);clear eN;go_wp2;go_ret;exact⟨by rw[<-fI.out];first|rfl|simp,b2⟩
 have fU:=cF.out;rw[show decide (e.prev≠S.last)=false from bg (λh=>h al)]at fU;replace fU:=O fU;have b:=bk.out;rw[aJ (λh=>h al)]at b;have b7:=O b;clear b al bk;go_upto_region 8 with fail;obtain⟨C,c,aK⟩:=nR ap;refine qX (S:=C) aC ((c _).2 (aj.refl ap).drew) (λX=> ?_);refine ay 0 ?_;refine aV 1 F (aY F (λw1 h=>cB F F (d_ (ba.ext ((c w1).1 h)) cz) bf cE)) ?_;refine ay 2 ?_;refine ay 3 ?_;refine ay 4 ?_;refine aV 5 F (aY F (λw1 h=>cB F F (d_ ((bm.ext ((c w1).1 h)).blk) cG) bf cD)) ?_;refine aV 6 F (aY F (λw1 _=>pQ F F F Q8 fU w1)) ?_;refine ay 7 ?_;refine dP ?_;have eN:=(c _).1 X;generalize G:drew ap=bt at eN⊢;clear G X aK c;obtain⟨bv,b2,b9,ct,cn⟩:=fC (ba.ext eN) (b1.ext eN) (bm.ext eN) (cs.ext eN) (cm.ext eN);clear eN;clear fU;go_upto_region 10 with fail;obtain⟨C,c,aK⟩:=nR bt;have k1:∀w1,C w1->w1.cell? ⟨cy,1,none⟩=some (.int .i64 e.time):=λw1 h1=>(bv.ext ((c w1).1 h1)).cell' (aR.Ci e);have k2:∀w1,C w1->w1.cell? ⟨p,1,none⟩=some (.int .i64 S.tm):=λw1 h1=>((b9.ext ((c w1).1 h1)).blk).cell' (bD.Ci S);refine qX (S:=C) aC ((c _).2 (aj.refl bt).drew) (λX=> ?_);refine ay 0 ?_;refine dW 1 (k1) ?_;refine ay 2 ?_;refine ay 3 ?_;refine ay 4 ?_;refine dW 5 (k2) ?_;refine ay 6 ?_;refine ay 7 ?_;refine dP ?_;have eN:=(c _).1 X;generalize G:drew bt=c5 at eN⊢;clear G X aK c k1 k2;obtain⟨n,V,A,cv,U⟩:=fC (bv.ext eN) (b2.ext eN) (b9.ext eN) (ct.ext eN) (cn.ext eN);clear eN;by_cases R:e.time<S.tm
 ·skip
  have d7:=bV R;have d8:=bU (S.tm<=e.time);have d':¬S.tm<=e.time:=J;have eI:e.time<S.tm:=R;have b:=b7.out;rw[aN R]at b;have fI:=O b;clear b R;go_wp2;go_ret;exact⟨by rw[<-fI.out];first|rfl|simp,V⟩
 have d7:=bg R;have d8:=cO (S.tm<=e.time);have d':S.tm<=e.time:=J;have b:=b7.out;rw[aJ R]at b;have bl:=O b;clear b R b7;by_cases i:S.cnt=0
 ·skip
  have ea:((S.cnt:Int)==0)=true:=by simp;exact i
  have eb:decide ((S.cnt:Int)=0)=true:=by simp;exact i
  have ec:=bU ((S.cnt:Int)>0);have ed:=bU ((0:Int)<(S.cnt:Int));have ee:decide (S.cnt=0)=true:=by simp;exact i
  have ef:=bU (0<S.cnt);have d5:(S.cnt==0)=true:=by simp;exact i
  by_cases x:e.act=2
  case neg=>
   have eg:=om x;have eh:=bg x;have b:=bl.out;rw[aN ⟨i,x⟩]at b;have fI:=O b;clear b i x bl;have q:=A.blk.cell' (bD.kV S);have j:=n.cell' (aR.at2 e);go_wp2;go_ret;exact⟨by rw[<-fI.out];first|rfl|simp,V⟩
  have eg:(e.act != 2)=false:=by simp;exact x
  have eh:=bV x;have b:=bl.out;rw[aJ (λh=>h.2 x)]at b;have y:=O b;clear b;obtain⟨bi,be⟩:=aA (show(r.member.map Y).length=16 by rw[aI,jh.hm]) (aD.VX jh.hm);have ad:=λw1=>abj jh.hm W.ha w1;by_cases am:r.member=e.dz
  case neg=>
   rw[show decide (r.member≠e.dz)=true from bV am]at ad;have fU:=O ad;have b:=y.out;rw[aN (.inl ⟨i,am⟩)]at b;have fI:=O b;clear b i x am y ad;have q:=A.blk.cell' (bD.kV S);have j:=n.cell' (aR.at2 e);go_wp2_with (first|(refine bZ F (cB F F (d_ U be) eu bi) ?_)|(refine bZ F (cB F F (d_ n aw) eu az) ?_)|(refine bZ F (pQ F F F Bn fU _) ?_)|(refine oH F (cB F F (d_ U be) eu bi) ?_)|(refine oH F (cB F F (d_ n aw) eu az) ?_)|(refine oH F (pQ F F F Bn fU _) ?_));go_ret;exact⟨by rw[<-fI.out];rfl,V⟩
  rw[show decide (r.member≠e.dz)=false from bg (λh=>h am)]at ad;have fU:=O ad;have b:=y.out;rw[aJ (by rintro(⟨_,h⟩|⟨h,_⟩);exact h am;omega)]at b;obtain⟨b8,M⟩:=aA b x;clear b i x am y ad;have q:=A.blk.cell' (bD.kV S);have j:=n.cell' (aR.at2 e);go_upto_region 14 with fail;go_upto_region 17 with(first|(refine bZ F (cB F F (d_ U be) eu bi) ?_)|(refine bZ F (cB F F (d_ n aw) eu az) ?_)|(refine bZ F (pQ F F F Bn fU _) ?_)|(refine oH F (cB F F (d_ U be) eu bi) ?_)|(refine oH F (cB F F (d_ n aw) eu az) ?_)|(refine oH F (pQ F F F Bn fU _) ?_));have a4:=O (λa w1 h1=>NG e.act [1,2,3,8,11,12] a 6 6 w1 F J h1);have q:=A.blk.cell' (bD.kV S);have j:=n.cell' (aR.at2 e);go_upto_region 17 with fail;go_wp2_with (first|(refine bZ F (pR F F (oP j ((aj.refl _).alloc _)) L6) ?_));refine(a4 _ _ (aM.iM (vs:=([1,2,3,8,11,12]:List Int).map qH) (au.bK F F))).mono ?_;rintro e0 u ⟨ai,rfl,o,a7⟩;have eN:aj c5 u:=by rw[<-a7];exact(aj.refl _).alloc _
  have ax:=O (show Oy e.act=ai from Cc.2 (aaM.trans o.symm));clear a7 a4 q j o;obtain⟨aq,ar,aE,bx,bu⟩:=fC (n.ext eN) (V.ext eN) (A.ext eN) (cv.ext eN) (U.ext eN);clear eN;obtain⟨k,D⟩:=aF (S.CF e.key);generalize a6:(dM S.ks e.key).isSome=Q at*;have b3:=O (show dM S.ks e.key=if Q=true then some k else none by
   rw[<-a6,<-D];unfold bD.CF;cases dM S.ks e.key<;>rfl)
  rw[D]at aa;obtain⟨b5,bh⟩:=aA (λw1 h1=>(c0 w1 h1).trans (by rw[D];rfl:_=Result.ok (tuple #[.agg k.v.toArray,.bool Q]) w1)) (bP.len aa);clear D a6;go_upto_region 18 with fail;obtain⟨C,c,aK,bR⟩:=fK (show bM u u [] [] u from bM.iP (aj.refl _) (dR.none _));have a0:∀w1,C w1->w1.cell? ⟨p,52,none⟩=some (.map (some S.gk)):=λw1 h1=>((aE.ext ((c w1).1 h1).base).blk).cell' (bD.yD ab.1 ab.2);refine fF λX=> ?_;refine ay 0 ?_;refine ay 1 ?_;refine ay 2 ?_;refine dW 3 (a0) ?_;refine ay 4 ?_;refine aV 5 F (aY F (λw1 h=>cB F F (d_ (aq.ext ((c w1).1 h).base) o7) eu g_)) ?_;refine aV 6 F (aY F (λw1 h=>Dr F F F (b5 w1 (ar.ext ((c w1).1 h).base)))) ?_;refine ay 7 ?_;refine ay 8 ?_;refine ay 9 ?_;generalize drew u=m at X⊢;refine aT 10 ?_;intro L s;go_wp2_with fail;refine s _ _ (aK _ _ X ((aj.refl m).alloc _)) ?_;clear s L;generalize P:alloc m _=a8;have f:=dX P (bP.zero.v) 159;have a2:C a8:=by rw[<-P];exact aK _ _ X ((aj.refl m).alloc _)
  have a1:=((c m).1 X).kept.1;have bw:=O f;clear X P f;have X:=a2;clear a2;generalize m.heap.size=dp at*;refine aL ?_;refine aT 11 ?_;intro L s;go_wp2_with (refine aZ F _ _ _ F F F bw yx (bP.len bP.D7) bh (Ij _) ?_);intro v9 f t;replace X:C v9:=(c v9).2 (((c a8).1 X).upd t a1 (by first|exact aQ _|omega));go_wp2_with fail;refine s _ _ X ?_;have bb:=O f;clear s L f t;refine aL ?_;refine ay 12 ?_;refine dP ?_;have eN:=((c v9).1 X).base;clear X aK c a0 bR a1;obtain⟨Fj,BN,KX,bz,MI⟩:=fC (aq.ext eN) (ar.ext eN) (aE.ext eN) (bx.ext eN) (bu.ext eN);clear eN;have q:=KX.blk.cell' (bD.kV S);have j:=Fj.cell' (aR.at2 e);have b:=b8.out;rw[b3.out,ax.out]at b;have ae:=O b;clear b;have o:=ax.out;rw[M.out]at o;obtain rfl:ai=true:=o.symm;have b:=ae.out;rw[aJ (λh=>by have:=M.out;omega),aJ (by have:=M.out;omega),aN F]at b;have l:=O b;clear b o;have g1:(e.act==1)=false:=by simp;have:=M.out;omega
  have cQ:decide (e.act=1)=false:=by simp;have:=M.out;omega
  have cR:(e.act==4)=false:=by simp;have:=M.out;omega
  have cS:decide (e.act=4)=false:=by simp;have:=M.out;omega
  by_cases d:e.key=jo
  case neg=>
   have fU:=ac.out;rw[show decide (e.key≠jo)=true from bV d]at fU;replace fU:=O fU;have b:=l.out;rw[aN (show e.key≠jo from d)]at b;have fI:=O b;clear b d l;exact XH
  have fU:=ac.out;rw[show decide (e.key≠jo)=false from bg (λh=>h d)]at fU;replace fU:=O fU;have b:=l.out;rw[aJ (λh=>h d)]at b;have KC:=O b;clear b d l;exact adX
 have ea:((S.cnt:Int)==0)=false:=by simp;exact i
 have eb:decide ((S.cnt:Int)=0)=false:=by simp;exact i
 have ec:=cO ((S.cnt:Int)>0);have ed:=cO ((0:Int)<(S.cnt:Int));have ee:decide (S.cnt=0)=false:=by simp;exact i
 have ef:=cO (0<S.cnt);have d5:=qd i;have b:=bl.out;rw[aJ (λh=>i h.1)]at b;have y:=O b;clear b;cases c2 with
 |false=>
  have b:=y.out;rw[aN (.inr ⟨J,F⟩)]at b;have fI:=O b;clear b i y;have q:=A.blk.cell' (bD.kV S);have j:=n.cell' (aR.at2 e);go_wp2;go_ret;exact⟨by rw[<-fI.out];first|rfl|simp,V⟩
 |true=>
  have b:=y.out;rw[aJ (by rintro(⟨h,_⟩|⟨_,h⟩);exact i h;cases h)]at b;have b8:=O b;clear b i y;have q:=A.blk.cell' (bD.kV S);have j:=n.cell' (aR.at2 e);have a4:=O (λa w1 h1=>NG e.act [1,2,3,8,11,12] a 6 6 w1 F J h1);have q:=A.blk.cell' (bD.kV S);have j:=n.cell' (aR.at2 e);go_upto_region 17 with fail;go_wp2_with (first|(refine bZ F (pR F F (oP j ((aj.refl _).alloc _)) L6) ?_));refine(a4 _ _ (aM.iM (vs:=([1,2,3,8,11,12]:List Int).map qH) (au.bK F F))).mono ?_;rintro e0 u ⟨ai,rfl,o,a7⟩;have eN:aj c5 u:=by rw[<-a7];exact(aj.refl _).alloc _
  have ax:=O (show Oy e.act=ai from Cc.2 (aaM.trans o.symm));clear a7 a4 q j o;obtain⟨aq,ar,aE,bx,bu⟩:=fC (n.ext eN) (V.ext eN) (A.ext eN) (cv.ext eN) (U.ext eN);clear eN;obtain⟨k,D⟩:=aF (S.CF e.key);generalize a6:(dM S.ks e.key).isSome=Q at*;have b3:=O (show dM S.ks e.key=if Q=true then some k else none by
   rw[<-a6,<-D];unfold bD.CF;cases dM S.ks e.key<;>rfl)
  rw[D]at aa;obtain⟨b5,bh⟩:=aA (λw1 h1=>(c0 w1 h1).trans (by rw[D];rfl:_=Result.ok (tuple #[.agg k.v.toArray,.bool Q]) w1)) (bP.len aa);clear D a6;go_upto_region 18 with fail;obtain⟨C,c,aK,bR⟩:=fK (show bM u u [] [] u from bM.iP (aj.refl _) (dR.none _));have a0:∀w1,C w1->w1.cell? ⟨p,52,none⟩=some (.map (some S.gk)):=λw1 h1=>((aE.ext ((c w1).1 h1).base).blk).cell' (bD.yD ab.1 ab.2);refine fF λX=> ?_;refine ay 0 ?_;refine ay 1 ?_;refine ay 2 ?_;refine dW 3 (a0) ?_;refine ay 4 ?_;refine aV 5 F (aY F (λw1 h=>cB F F (d_ (aq.ext ((c w1).1 h).base) o7) eu g_)) ?_;refine aV 6 F (aY F (λw1 h=>Dr F F F (b5 w1 (ar.ext ((c w1).1 h).base)))) ?_;refine ay 7 ?_;refine ay 8 ?_;refine ay 9 ?_;generalize drew u=m at X⊢;refine aT 10 ?_;intro L s;go_wp2_with fail;refine s _ _ (aK _ _ X ((aj.refl m).alloc _)) ?_;clear s L;generalize P:alloc m _=a8;have f:=dX P (bP.zero.v) 159;have a2:C a8:=by rw[<-P];exact aK _ _ X ((aj.refl m).alloc _)
  have a1:=((c m).1 X).kept.1;have bw:=O f;clear X P f;have X:=a2;clear a2;generalize m.heap.size=dp at*;refine aL ?_;refine aT 11 ?_;intro L s;go_wp2_with (refine aZ F _ _ _ F F F bw yx (bP.len bP.D7) bh (Ij _) ?_);intro v9 f t;replace X:C v9:=(c v9).2 (((c a8).1 X).upd t a1 (by first|exact aQ _|omega));go_wp2_with fail;refine s _ _ X ?_;have bb:=O f;clear s L f t;refine aL ?_;refine ay 12 ?_;refine dP ?_;have eN:=((c v9).1 X).base;clear X aK c a0 bR a1;obtain⟨Fj,BN,KX,bz,MI⟩:=fC (aq.ext eN) (ar.ext eN) (aE.ext eN) (bx.ext eN) (bu.ext eN);clear eN;have q:=KX.blk.cell' (bD.kV S);have j:=Fj.cell' (aR.at2 e);have b:=b8.out;rw[b3.out,ax.out]at b;have ae:=O b;clear b;by_cases B:e.act=1
  ·skip
   have g1:(e.act==1)=true:=by simp;exact B
   have cQ:=bV B;have o:=ax.out;rw[B]at o;obtain rfl:ai=true:=o.symm;clear o;have a9:=O B;clear B;have m:=MI.cell' (aD.kV r);have ce:=O (λw1 (h1:uK w1)=>abG r.text.data.toList w1 h1 (by rw[pz];exact dJ jh.ts J));rw[XE]at ce;go_wp2_with fail;refine(ce _ (cC.ext BN)).mono ?_;rintro e0 c4 ⟨ch,T,ci,an,rfl,cV,cW,eN⟩;obtain⟨ds,dt⟩:=aA cV cW;clear cV cW ce q j m;obtain⟨c_,dk,d0,dd,c6,db⟩:=jW (Fj.ext eN) (BN.ext eN) (KX.ext eN) (bz.ext eN) (MI.ext eN) (bb.ext eN);clear eN;go_wp2_with (refine aZ F _ _ _ F F F (au.bK (vs:=[.slice none 0 0]) F F) K4 F (xs:=[.slice ch T ci]) F (λv b=>by simp at b;rw[b];rfl) ?_);intro es f t;have eN:aj c4 es:=t.ext ((aj.refl _).alloc _) (aQ _);have cr:=O f;clear f t;obtain⟨c',b0,d1,de,c7,dc,b4⟩:=zT (c_.ext eN) (dk.ext eN) (d0.ext eN) (dd.ext eN) (c6.ext eN) (db.ext eN) (ds.ext eN);clear eN;generalize c4.heap.size=eA at*;by_cases a5:pY r.text.data.toList=0
   case neg=>
    have c3:=om a5;have br:=bg a5;have b:=ae.out;rw[aN ⟨a9,by unfold Q0;rw[show r.p.text=r.text from F,br];rfl⟩]at b;have fI:=O b;clear b;generalize pY r.text.data.toList=E at*;go_wp2;go_ret;exact⟨by rw[<-fI.out];first|rfl|simp,b0⟩
   have cT:Q0 r.p.text.data.toList=(decide (tZ an T=0)&&decide (qN an T=r.text.data.toList)):=by
    unfold Q0;rw[show r.p.text=r.text from F,<-dt.out,aI,b4.hl,abW F,akk F,bV a5,Nl]
   have b:=ae.out;rw[cT]at b;have l:=O b;clear b cT;rw[a5];clear a5;have ek:=O (λw1 (h1:qj w1 ch T ci an) ei=>abV ch T ci an w1 h1 ei);go_wp2_with (refine dA F 152 _ F F cr K4 F ?_);refine(ek _ b4 (cC.ext b0)).mono ?_;rintro e0 et ⟨rfl,eN⟩;obtain⟨a',bd,cL,ez,cl,ex,eC,ey⟩:=mQ (c'.ext eN) (b0.ext eN) (d1.ext eN) (de.ext eN) (c7.ext eN) (dc.ext eN) (b4.ext eN) (cr.ext eN);clear eN;generalize tZ an T=dj at*;generalize qN an T=af at*;have m:=cl.cell' (aD.kV r);have q:=cL.blk.cell' (bD.kV S);have j:=a'.cell' (aR.at2 e);by_cases bo:dj=0
   case neg=>
    have c3:=om bo;have br:=bg bo;have b:=l.out;rw[aN ⟨a9,by rw[br];rfl⟩]at b;have fI:=O b;clear b bo;go_wp2;go_ret;exact⟨by rw[<-fI.out];first|rfl|simp,bd⟩
   subst bo;by_cases ao:af=r.text.data.toList
   case neg=>
    have cg:((bN af).toList==r.text.toList)=false:=by
     rw[Qk];intro h;exact ao (by rw[<-(QD _ _).1 h];exact(yU af).symm)
    have en:((bN af).toList != r.text.toList)=true:=by unfold bne;rw[cg];rfl
    have b:=l.out;rw[aN ⟨a9,by rw[bg ao];simp⟩]at b;have fI:=O b;clear b l ao;go_wp2;go_ret;exact⟨by rw[<-fI.out];first|rfl|simp,bd⟩
   have cg:((bN af).toList==r.text.toList)=true:=(QD _ _).2 (by rw[ao,XE]);have en:((bN af).toList != r.text.toList)=false:=by unfold bne;rw[cg];rfl
   have b:=l.out;rw[aJ (λh=>by have:=h.2;rw[bV ao]at this;simp at this),aJ (by have:=a9.out;omega),aN trivial]at b;have z:=O b;clear b l ao;by_cases d:e.key=jo
   case neg=>
    have fU:=ac.out;rw[show decide (e.key≠jo)=true from bV d]at fU;replace fU:=O fU;have b:=z.out;rw[aN (show e.key≠jo from d)]at b;have fI:=O b;clear b d z;go_wp2_with (first|(refine bZ F (cB F F (d_ a' o7) eu g_) ?_)|(refine bZ F (pQ F F F Bn fU _) ?_));go_ret;exact⟨by rw[<-fI.out]<;>rfl,bd⟩
   have fU:=ac.out;rw[show decide (e.key≠jo)=false from bg (λh=>h d)]at fU;replace fU:=O fU;have b:=z.out;rw[aJ (λh=>h d)]at b;have KC:=O b;clear b d z;have Om:=O (λw1 (h1:aj et w1)=>acd p S e r w1 (cL.ext h1) jh.hm jh.hcm);go_wp2_with (first|(refine bZ F (cB F F (d_ a' o7) eu g_) ?_)|(refine bZ F (pQ F F F Bn fU _) ?_)|(refine dA F 34 (.tmp 3) F F a' eZ gq ?_)|(refine dA F 101 (.tmp 6) F F cl jQ tu ?_));refine(Om _ (aj.refl _)).mono ?_;rintro e0 vz ⟨rfl,eN⟩;have EZ:=O (bd.ext eN);clear eN;go_wp2;go_ret;exact⟨by rw[<-KC.out]<;>rfl,EZ⟩
  have g1:=qd B;have cQ:=bg B;have b:=ae.out;rw[aJ (λh=>B h.1)]at b;have l:=O b;clear b ae B;by_cases H:e.act=4
  ·skip
   have cR:(e.act==4)=true:=by simp;exact H
   have cS:=bV H;have b:=l.out;rw[aN H]at b;have z:=O b;clear b l H;by_cases d:e.key=jo
   ·skip
    have fU:=cA.out;rw[show decide (e.key=jo)=true from bV d]at fU;replace fU:=O fU;have b:=z.out;rw[aN d]at b;have fI:=O b;clear b d z;exact XH
   have fU:=cA.out;rw[show decide (e.key=jo)=false from bg d]at fU;replace fU:=O fU;have b:=z.out;rw[aJ d]at b;have KC:=O b;clear b d z;cases Q with
   |true=>
    exact aec
   |false=>
    exact aec
  have cR:=qd H;have cS:=bg H;have b:=l.out;rw[aJ H]at b;have cH:=O b;clear b l H;cases ai with
  |true=>
   have b:=cH.out;rw[aN F]at b;have K:=O b;clear b;by_cases d:e.key=jo
   case neg=>
    have fU:=ac.out;rw[show decide (e.key≠jo)=true from bV d]at fU;replace fU:=O fU;have b:=K.out;rw[aN (show e.key≠jo from d)]at b;have fI:=O b;clear b d K;exact XH
   have fU:=ac.out;rw[show decide (e.key≠jo)=false from bg (λh=>h d)]at fU;replace fU:=O fU;have b:=K.out;rw[aJ (λh=>h d)]at b;have KC:=O b;clear b d K;exact adX
  |false=>
   have b:=cH.out;rw[aJ bS]at b;have K:=O b;clear b;cases Q with
   |false=>
    go_wp2;go_ret;exact⟨by rw[<-K.out];first|rfl|simp,BN⟩
   |true=>
    have cI:=O (show(if k.rev=true then(15:Int)else S.p.O1 e r.p k)=d3 from K);have eV:=bb.cell' (bP.K6 aa);have el:=O (λw1 (h1:aj v9 w1)=>aky p S e r k w1 (KX.ext h1) jh (bz.ext h1) aa);generalize k.rev=eo at*;cases eo with
    |true=>
     go_wp2;go_ret;exact⟨by rw[<-cI.out];first|rfl|simp,BN⟩
    |false=>
     go_wp2_with (first|(refine dA F 34 (.tmp 3) F F Fj eZ gq ?_)|(refine dA F 101 (.tmp 6) F F MI jQ tu ?_)|(refine dA F 159 (.tmp 11) F F bb yx bh ?_));refine(el _ (aj.refl _)).mono ?_;rintro e0 vz ⟨rfl,eN⟩;have EZ:=O (BN.ext eN);clear eN;go_wp2;go_ret;exact⟨by rw[<-cI.out];rfl,EZ⟩
section
section
variable {K V:Type} [DecidableEq K]
def agi{hs:List (K×V)}(h:(hs.map Prod.fst).Nodup)(x:K):kW hs x=hs.filter λp=>decide (p.1≠x):=by
 unfold kW;cases b:mK x hs with
 |none=>
  refine(KO.2 λp d=> ?_).symm;have:=LM.1 b p d;simp[this]
 |some i=>
  induction hs generalizing i with
  |nil=>simp[mK]at b
  |cons a l f=>
   rw[oM,nodup_cons]at h;unfold mK at b;rw[List.findIdx?_cons]at b;by_cases ha:a.1=x
   ·rw[aN (by simp[ha])]at b;injection b with b;subst b;rw[filter_cons_of_neg (by simp[ha])];show l=_;refine(KO.2 λp d=> ?_).symm;have:p.1≠x:=λe=>h.1 (ha▸e▸mem_map_of_mem d);simp[this]
   ·rw[aJ (by simp[ha])]at b;cases c:l.findIdx? (λp=>decide (p.1=x))with
    |none=>rw[c]at b;cases b
    |some j=>
     rw[c]at b;injection b with b;subst b;rw[filter_cons_of_pos (by simp[ha])];show(a::l).eraseIdx (j+1)=_;rw[eraseIdx_cons_succ];exact lq (a:: ·) (f h.2 j c)
def Gg(keep:K×V->Bool)(b:List K)(a:List (K×V)):List (K×V):=a.filter λy=>decide (y.1∈b)||keep y
def aiw(keep:K×V->Bool)(a:List (K×V)):Gg keep (a.map Prod.fst) a=a:=
 KO.2 λy b=>by simp[mem_map_of_mem (f:=Prod.fst) b]
def aiy(keep:K×V->Bool)(a:List (K×V)):Gg keep [] a=a.filter keep:=by unfold Gg;simp
variable {keep:K×V->Bool} {lf lf2:List K} {L:List (K×V)} {x:K} {v:V}
def aa8(h:(L.map Prod.fst).Nodup)(f:(x,v)∈L){y:K×V}(g:y∈L)(e:y.1=x):y=(x,v):=by
 obtain⟨i,d⟩:=AU f;obtain⟨j,c⟩:=AU g;obtain⟨a,b⟩:=y;simp only at e;subst e;have:=OJ h d c;subst this;rw[d]at c;injection c with c;exact c.symm
def aiz(h:(L.map Prod.fst).Nodup)(d:(x,v)∈L)(c:lf.Perm (x::lf2))(b:keep (x,v)=true):Gg keep lf2 L=Gg keep lf L:=by
 refine filter_congr λy f=> ?_;have a:y.1∈lf↔y.1=x∨y.1∈lf2:=by rw[c.mem_iff,gM]
 by_cases e:y.1=x
 ·rw[aa8 h d f e,b];simp
 ·have:(y.1∈lf)=(y.1∈lf2):=propext ⟨λh=>(a.1 h).resolve_left e,λh=>a.2 (.inr h)⟩;simp only[this]
def aix(h:(L.map Prod.fst).Nodup)(f:(x,v)∈L)(d:lf.Perm (x::lf2))(c:x∉lf2)(b:keep (x,v)=false):kW (Gg keep lf L) x=Gg keep lf2 L:=by
 unfold Gg;rw[agi ((filter_sublist.map Prod.fst).nodup h)];rw[filter_filter];refine filter_congr λy g=> ?_;have a:y.1∈lf↔y.1=x∨y.1∈lf2:=by rw[d.mem_iff,gM]
 by_cases e:y.1=x
 ·rw[aa8 h f g e,b];simp[c]
 ·have:(y.1∈lf)=(y.1∈lf2):=propext ⟨λh=>(a.1 h).resolve_left e,λh=>a.2 (.inr h)⟩;simp[this,e]
def iV.zy{d:K->Value}{e:V->Value}{w:World}{g r:Nat}{hs:List (K×V)}{lf:List K}(h:iV d e w g r hs lf):w.rangeLeft g r=lf.length:=by
 obtain⟨es,i,p,o,f,a,m,n,c,j,k,l,b⟩:=h;have:=lq List.length b;simp only[aI,pz]at this;rw[<-this];simp[World.rangeLeft,a,c]
def iV.same{a:K->Value}{b:V->Value}{w:World}{g r:Nat}{hs c:List (K×V)}{lf:List K}(h:iV a b w g r hs lf)(e:c.map (λp=>(a p.1,b p.2))=hs.map (λp=>(a p.1,b p.2))):iV a b w g r c lf:=by
 obtain⟨es,f,l,k,d,i,j,h⟩:=h;exact⟨es,f,l,k,d,i,by rw[e];exact j,h⟩
def iV.mut{M:Nat->Prop}{a:K->Value}{b:V->Value}{w w':World}{g r:Nat}{hs:List (K×V)}{lf:List K}(h:iV a b w g r hs lf)(m:gL M w w')(c:¬M g)(d:¬M r):iV a b w' g r hs lf:=
 h.keep (m.block g h.map.lt c) (m.block r h.lt d)
end
def sH(f:List (ah×gN)->List (ah×gN))(a:List (ah))(A:List (ah×(Nat×List (ah×gN)))):List (ah×(Nat×List (ah×gN))):=
 A.map λx=>if x.1∈a then x else(x.1,(x.2.1,f x.2.2))
section
variable {f:List (ah×gN)->List (ah×gN)} {lf lf2:List (ah)} {x:ah} {A:List (ah×(Nat×List (ah×gN)))}
def QA(A:List (ah×(Nat×List (ah×gN)))):sH f (A.map Prod.fst) A=A:=by
 unfold sH
 conv=>rhs;rw[<-map_id A]
 refine GZ λx a=> ?_;rw[aN (mem_map_of_mem a)];rfl
def QB(lf:List (ah))(A:List (ah×(Nat×List (ah×gN)))):(sH f lf A).map (λp=>(h_ p.1,vW p.2))=A.map (λp=>(h_ p.1,vW p.2)):=by
 unfold sH;rw[zU];refine GZ λx a=> ?_;show(h_ (if x.1∈lf then x else(x.1,(x.2.1,f x.2.2))).1,vW (if x.1∈lf then x else(x.1,(x.2.1,f x.2.2))).2)=_;split<;>rfl
def YX(h:(A.map Prod.fst).Nodup)(g:lf.Perm (x::lf2))(p:x∉lf2){v:Nat×List (ah×gN)}(q:(x,v)∈sH f lf A):
 ∃i,(sH f lf A)[i]? =some (x,v)/\sH f lf2 A=(sH f lf A).set i (x,(v.1,f v.2)):=by
 obtain⟨i,c⟩:=AU q;refine⟨i,c,?_⟩;have r:x∈lf:=by rw[g.mem_iff];simp
 unfold sH at c⊢;rw[iT]at c;cases ha:A[i]? with
 |none=>rw[ha]at c;cases c
 |some a=>
  rw[ha]at c;simp only[jr,wY]at c;have m:a.1=x:=by
   by_cases l:a.1∈lf
   ·rw[aN l]at c;rw[c]
   ·rw[aJ l]at c;exact lq Prod.fst c
  rw[aN (by rw[m];exact r)]at c;subst c;apply Nn;intro j;rw[iT,Jd,aI,iT];by_cases d:i=j
  ·subst d;rw[aN F,aN (iK.1 ha).1,ha];simp only[jr];rw[aJ p]
  ·rw[aJ d];cases n:A[j]? with
   |none=>rfl
   |some b=>
    simp only[jr];have o:b.1≠x:=λe=>d (OJ (k:=x) h (v:=v) (u:=b.2) ha (by rw[n,<-e]));have:(b.1∈lf)=(b.1∈lf2):=propext ⟨λh=>by rw[g.mem_iff,gM]at h;exact h.resolve_left o,λh=>by rw[g.mem_iff];exact yg _ h⟩;simp only[this]
end
def lM(g:Nat)(a:aO)(n:Nat):Prop:=n=0∨∀A,a=some A->A.block≠g
structure bD.Off(S:bD)(g:Nat):Prop where
 ms:∀x∈S.ms,lM g x.2.a x.2.n
 av:∀x∈S.av,∀y∈x.2.2,lM g y.2.r.a y.2.r.n
 po:∀P,S.pol=some P->P.q≠g/\lM g P.a P.n/\∀r∈P.rs,lM g r.ra r.rn/\lM g r.aa r.an/\lM g r.la r.ln
def dh.off{w:World}{B g n z:Nat}{a:aO}{xs:aP}(h:dh w B a xs)(e:xs.length=z*n)(f:0<z)(j:g<B):lM g a n:=by
 rcases h with h|⟨b,off,ha,i,_⟩
 ·rw[h]at e;rcases Nat.eq_zero_or_pos n with d|d
  ·exact .inl d
  ·have:=Nat.mul_pos f d;simp at e;omega
 ·refine .inr λA c=> ?_;rw[ha]at c;injection c with c;rw[<-c];show b≠g;omega
def vK.Hi.mono{w:World}{B B':Nat}{P:vK}(h:P.Hi w B)(a:B'<=B):P.Hi w B':=
 ⟨h.blk,dJ a h.ge,h.hl,h.nc,h.n100,h.cell.mono a,h.Aq,λr b=>⟨(h.mO r b).1.mono a,(h.mO r b).2.1.mono a,(h.mO r b).2.2.mono a⟩⟩
def vK.Hi.off{w:World}{B g:Nat}{P:vK}(h:P.Hi w B)(b:g<B):P.q≠g/\lM g P.a P.n/\∀r∈P.rs,lM g r.ra r.rn/\lM g r.aa r.an/\lM g r.la r.ln:=by
 refine⟨by have:=h.ge;omega,h.cell.off (z:=8) (by rw[Sy,h.hl]) J b,λr a=>⟨?_,?_,?_⟩⟩
 ·exact(h.mO r a).1.off (z:=1) (by rw[aI,(h.Aq r a).rl,BS]) J b
 ·exact(h.mO r a).2.1.off (z:=1) (by rw[aI,(h.Aq r a).al,BS]) J b
 ·exact(h.mO r a).2.2.off (z:=1) (by rw[aI,(h.Aq r a).ll,BS]) J b
def bD.Off.mZ{S:bD}{g:Nat}(h:S.Off g)(id:ah):lM g (S.mZ id).a (S.mZ id).n:=by
 unfold bD.mZ;cases a:dM S.ms id with
 |none=>exact .inl F
 |some r=>exact h.ms _ (Lr a)
def Wh{g i q:Nat}{k:ah}{l:List (ah×gN)}{A:List (ah×(Nat×List (ah×gN)))}(h:∀x∈A,∀y∈x.2.2,lM g y.2.r.a y.2.r.n)(b:∀y∈l,lM g y.2.r.a y.2.r.n):∀x∈A.set i (k,(q,l)),∀y∈x.2.2,lM g y.2.r.a y.2.r.n:=by
 intro x a;rcases Jl a with a|rfl
 ·exact h x a
 ·exact b
def KE(p:Nat)(e:aR):Prop:=∀A,e.ba=some A->A.block≠p
def aR.Ok.iL{w w':World}{g p:Nat}{e:aR}(h:e.Ok w)(u:r9 g w w')(a:g=p∨kM w g)(j:KE p e):e.Ok w':=by
 refine{h with hcl:= ?_};rcases h.hcl with d|⟨b,off,ha,d⟩
 ·exact .inl d
 refine .inr ⟨b,off,ha,λi x k=> ?_⟩;have c:=d i x k;refine FX c (u.block b (kN c) (λf=> ?_));subst f;rcases a with a|a
 ·exact j _ ha a
 ·rw[a.cell]at c;cases c
structure qc(w:World)(p:Nat)(S:bD)(e:aR)(r:aD)(ak:ah)(G3 G6 G8:Nat)(T:bD)(wx:World):Prop where
 st:eT wx p T
 mu:gL (S.M p) w wx
 new:∀g,T.M p g->S.M p g∨w.heap.size<=g
 be:au wx G3 e.v 34
 bb:au wx G6 r.v 101
 ba:au wx G8 (ak.map Y) 31
 rh:dh wx w.heap.size r.ra (r.roles.map dx)
 ok:e.Ok wx
 off:KE p e
 g3:w.heap.size<=G3
 g6:w.heap.size<=G6
 g8:w.heap.size<=G8
 pl:p<w.heap.size
 Wi:∀g,g<w.heap.size->S.Off g->T.Off g
section
variable {w wx wy:World} {p:Nat} {S T T':bD} {e:aR} {r:aD} {ak:ah} {G3 G6 G8 g:Nat}
def eT.RQ(h:eT wx p T)(a:T.M p g):g=p∨kM wx g:=by
 rcases a with rfl|rfl|rfl|rfl|⟨x,b,rfl⟩
 ·exact .inl F
 ·exact .inr h.JX
 ·exact .inr h.RS
 ·exact .inr h.OD
 ·exact .inr (h.OE b)
def qc.ext(h:qc w p S e r ak G3 G6 G8 T wx)(k:aj wx wy):qc w p S e r ak G3 G6 G8 T wy:=
 {h with st:=h.st.ext k,mu:=h.mu.same (gL.CO k),be:=h.be.ext k,bb:=h.bb.ext k,ba:=h.ba.ext k,rh:=h.rh.ext' k,ok:=h.ok.ext k}
def qc.aen(h:qc w p S e r ak G3 G6 G8 T wx)(u:r9 g wx wy)(a:T.M p g)(j:eT wy p T')(n:∀k,T'.M p k->T.M p k∨w.heap.size<=k)(o:∀g,g<w.heap.size->T.Off g->T'.Off g):qc w p S e r ak G3 G6 G8 T' wy:=by
 have c:=h.st.RQ a;have b:∀{k:Nat} {vs:aP} {d:TypeId},w.heap.size<=k->au wx k vs d->¬k=g:=by
  intro k vs d f l m;rcases c with i|i
  ·have:=h.pl;omega
  ·exact i.ne l m
 exact{
  st:=j,mu:=h.mu.trans u (λx t q=>by subst q;exact(h.new _ a).resolve_right J),
  new:=λk f=>(n k f).elim (h.new k) .inr,
  be:=h.be.mut u (b h.g3 h.be),bb:=h.bb.mut u (b h.g6 h.bb),ba:=h.ba.mut u (b h.g8 h.ba),rh:=h.rh.iL u (c.elim (λs=> .inl (by have:=h.pl;omega)) .inr),
  ok:=h.ok.iL u c h.off,off:=h.off,g3:=h.g3,g6:=h.g6,g8:=h.g8,pl:=h.pl,Wi:=λg a hs=>o g a (h.Wi g a hs)}
def qc.turn(h:qc w p S e r ak G3 G6 G8 T wx)(u:r9 g wx wy)(b:T.M p g)(a:eT wy p T')(d:∀k,T'.M p k->T.M p k∨wx.heap.size<=k)(f:∀g,g<w.heap.size->T.Off g->T'.Off g):qc w p S e r ak G3 G6 G8 T' wy:=
 h.aen u b a (λk c=>(d k c).imp id (dJ h.mu.size)) f
end
end
section
def adj{l m r xs:aP}{n:Nat}(a:l.length=n)(b:m.length=xs.length):jm (l++(m++r)) n xs=l++(xs++r):=by grind [jm]
section
variable {S:bD} (h:S.last.length=32) (hf:S.lY.length=16)
def bD.set1(S:bD)(n:Int):S.v.set 1 (.int .i64 n)={S with tm:=n}.v:=F
include h in
def bD.akq{x:ah}(a:x.length=32):jm S.v 2 (x.map Y)={S with last:=x}.v:=by grind [bD.v,jm,Y]
include h hf in
def bD.akr{x:ah}(a:x.length=16):jm S.v 34 (x.map Y)={S with lY:=x}.v:=by grind [bD.v,Y,jm]
include h hf in
def bD.Xd(P:vK):S.v.set 50 (.pointer (some ⟨P.q,0,none⟩))={S with pol:=some P}.v:=by simp_all [bD.v]
end
section
variable {k:bP} (h:k.Ok)
include h
def bP.Pg(n:Int):k.v.set 17 (.int .i64 n)={k with epoch:=n}.v:=by
 unfold bP.v;rw[Je _ _ (by simp[h.hk]),aI,h.hk];rfl
def bP.akp{x:ah}(a:x.length=32):jm k.v 18 (x.map Y)={k with commit:=x}.v:=by
 unfold bP.v;have:=adj (l:=k.key.map Y++[.string k.label,.int .i64 k.epoch]) (m:=k.commit.map Y) (r:= .bool k.rev:: .int .i64 k.esc::k.shared.map Y) (xs:=x.map Y) (n:=18) (by simp[h.hk]) (by rw[aI,aI,h.hc,a]);simpa using this
def bP.Xd(b:Bool):k.v.set 50 (.bool b)={k with rev:=b}.v:=by
 unfold bP.v;rw[Je _ _ (by simp[h.hk]),aI,h.hk,show 50 - 16=32+1+1 by rfl,nk,nk,Je _ _ (by simp[h.hc]),aI,h.hc];rfl
def bP.Pj(n:Int):k.v.set 51 (.int .i64 n)={k with esc:=n}.v:=by
 unfold bP.v;rw[Je _ _ (by simp[h.hk]),aI,h.hk,show 51 - 16=33+1+1 by rfl,nk,nk,Je _ _ (by simp[h.hc]),aI,h.hc];rfl
def bP.aks{x:ah}(a:x.length=32):jm k.v 52 (x.map Y)={k with shared:=x}.v:=by
 unfold bP.v;have:=adj (l:=k.key.map Y++(.string k.label:: .int .i64 k.epoch::(k.commit.map Y++[.bool k.rev,.int .i64 k.esc]))) (m:=k.shared.map Y) (r:=[]) (xs:=x.map Y) (n:=52) (by simp[h.hk,h.hc]) (by rw[aI,aI,h.hs,a]);simpa using this
end
def afn(S:bD)(e:aR)(l:ByteArray):eY 5 (Bb (S.uR e l))=rz e:=F
def bD.RF{w:World}{p:Nat}{S:bD}{e:aR}(h:eT w p S)(a:(vO e).label.size<=140737488355328):(S.lab e).size<=140737488355328:=by
 unfold bD.lab;split
 ·exact a
 ·have:=(h.RA e.key).ls;omega
def ajW{f:ah->Int}{act:Int}{l:ah}(h:(qM f act l).2=0):Ck act (qM f act l).1=0:=by grind [qM]
def al6{e:aR}{r:aD}(a:r.Fit)(d:r.p=vO e)(h:(qM oD e.act e.body).2=0):Ns r:=by
 have b:=ajW h;have c:qG e.act r=0:=by rw[UD a.rl a.hl,d];exact b
 exact(Sk c).small
def aaq{w:World}{B:Nat}{a:aO}{xs:aP}(h:aM w a xs)(b:∀A,a=some A->xs≠[]->B<=A.block):dh w B a xs:=by grind [aM,dh]
def Vx{w:World}{B n:Nat}{a:aO}{xs:aP}(h:aM w a xs)(c:xs.length=n)(b:BR B a n):dh w B a xs:=by grind [aM,BR,dh]
def akc{w:World}{q n c B:Nat}{a:aO}{rs:List aX}(f:au w q [.slice a n c] 152)(g:B<=q)(b:qj w a n c rs)(e:I_ B a n c rs):vK.Hi w B ⟨q,a,n,c,rs⟩:=
 ⟨f,g,b.hl,b.hnc,b.hm,aaq b.cell (λA (ha:a=some A) _=>e.1 A.block (by rw[ha];rfl)),b.ok,λr d=>
  ⟨Vx (b.ok r d).vk (by rw[aI];exact(b.ok r d).rl) (e.2 r d).r1,Vx (b.ok r d).uQ (by rw[aI];exact(b.ok r d).al) (e.2 r d).r2,Vx (b.ok r d).Bz (by rw[aI];exact(b.ok r d).ll) (e.2 r d).r3⟩⟩
def vK.Hi.pok{w:World}{B:Nat}{P:vK}(h:P.Hi w B):qj w P.a P.n P.c P.rs:=⟨h.hl,h.nc,h.n100,h.cell.cells,h.Aq⟩
def ajj{B B' n c:Nat}{a:aO}{rs:List aX}(h:I_ B a n c rs)(b:B'<=B):I_ B' a n c rs:=by grind [aX,I_,Nat.le_trans,acI]
end
section
section
variable {w wx wy:World} {p g q:Nat} {S T:bD} {e:aR} {r:aD} {ak:ah} {G3 G6 G8:Nat}
def L9{a c b d:Type}[DecidableEq a][DecidableEq b]{f:a->Value}{l:c->Value}{j:b->Value}{n:d->Value}{hs:List (a×c)}{k:List a}{e:List (b×d)}{g i:Nat}(h:iV f l wx g i hs k)(m:iN j n wx q e):i≠q:=by grind [iV,iN]
def L_{a b:Type}[DecidableEq a]{c:a->Value}{e:b->Value}{hs:List (a×b)}{d:List a}{g i:Nat}(h:iV c e wx g i hs d):kM wx i:=by grind [iV,kM]
def eT.abn{c d:Type}[DecidableEq c]{f:c->Value}{k:d->Value}{hs:List (c×d)}{j:List c}{g i:Nat}(h:eT wx p T)(b:iV f k wx g i hs j):¬T.M p i:=by
 rintro(a|a|a|a|⟨x,e,a⟩)
 ·exact(L_ b).ne h.blk a.symm
 ·exact L9 b h.mem a
 ·exact L9 b h.key a
 ·exact L9 b h.app a
 ·exact L9 b (h.inn x e).1 a
def eT.beside(h:eT wx p T)(u:r9 g wx wy)(c:kM wx g)(a:¬T.M p g):eT wy p T:=by
 obtain⟨d,r2,f,i⟩:=h.rest u c;exact{h with blk:=d,mem:=h.mem.mut u (λe=>a (.inr (.inl e.symm))),key:=h.key.mut u (λe=>a (.inr (.inr (.inl e.symm)))),app:=h.app.mut u (λe=>a (.inr (.inr (.inr (.inl e.symm))))),inn:=λx b=>⟨(h.inn x b).1.mut u (λe=>a (.inr (.inr (.inr (.inr ⟨x,b,e.symm⟩))))),(h.inn x b).2.1,r2 x b⟩,mr:=f,po:=i}
def qc.beside(h:qc w p S e r ak G3 G6 G8 T wx)(u:r9 g wx wy)(a:kM wx g)(c:w.heap.size<=g)(b:¬T.M p g):qc w p S e r ak G3 G6 G8 T wy:=
 {h with st:=h.st.beside u a b,mu:=h.mu.trans u (λx d f=>by omega),be:=h.be.mut u (a.ne h.be),bb:=h.bb.mut u (a.ne h.bb),ba:=h.ba.mut u (a.ne h.ba),rh:=h.rh.iL u (.inr a),ok:=h.ok.iL u (.inr a) h.off}
end
def QX(t:Int)(y:ah×gN):Bool:=decide (t - y.2.t<=86400)
def Es(t:Int)(l:List (ah×gN)):List (ah×gN):=l.filter (QX t)
def anE(t:Int)(l:List (ah×gN)):oW (Es t l)=JB t (oW l):=by
 unfold oW Es JB;rw[filter_map];rfl
def afx(t:Int)(A:List (ah×(Nat×List (ah×gN)))):(sH (Es t) [] A).map (λx=>(x.1,oW x.2.2))=(A.map λx=>(x.1,oW x.2.2)).map λy=>(y.1,JB t y.2):=by
 unfold sH;rw[zU,zU];refine GZ λx a=> ?_;show((if x.1∈[]then x else(x.1,(x.2.1,Es t x.2.2))).1,oW (if x.1∈[]then x else(x.1,(x.2.1,Es t x.2.2))).2.2)=(x.1,JB t (oW x.2.2));rw[aJ aB,anE]
def Un:jc prog 164 2:=⟨⟨_,underlying164,F⟩,aC⟩
def JY{b:Type}{l a:List b}{x:b}(h:l.Nodup)(c:l.Perm (x::a)):x∉a/\a.Nodup:=nodup_cons.1 (c.nodup_iff.1 h)
end
def alR{b c:Type}[DecidableEq b]{g:b->Prop}{hs:List (b×c)}(h:kL g hs){k:b}(l:g k)(v u:c):gF (gF hs k v) k u=gF hs k u:=by
 have d:=(h.set v l).nodup;cases f:mK k hs with
 |none=>
  have a:∀y:c,gF hs k y=hs++[(k,y)]:=λy=>by unfold gF;rw[f]
  rw[a]at d⊢;rw[a];have e:=Ox d (j:=hs.length) (k:=k) (v:=v) aB;unfold gF;rw[e];simp
 |some i=>
  have a:∀y:c,gF hs k y=hs.set i (k,y):=λy=>by unfold gF;rw[f]
  rw[a]at d⊢;rw[a];have e:=Ox d (j:=i) (k:=k) (v:=v) (by simp[aaI f]);unfold gF;rw[e];simp
abbrev BM:=List (ah×(Nat×List (ah×gN)))
def Am(A:BM):List (ah×List (ah×(bq×Int))):=A.map λx=>(x.1,oW x.2.2)
def abM{A:BM}(k:ah)(g:Nat)(l:List (ah×gN)):Am (gF A k (g,l))=gF (Am A) k (oW l):=
 (Xk (λy:Nat×List (ah×gN)=>oW y.2) A k (g,l)).symm
def anF(l:List (ah×gN))(k:ah)(v:gN):oW (gF l k v)=gF (oW l) k (v.r.l,v.t):=
 (Xk (λv:gN=>(v.r.l,v.t)) l k v).symm
def abL(A:BM)(k:ah):dM (Am A) k=(dM A k).map λy=>oW y.2:=NY (λy:Nat×List (ah×gN)=>oW y.2) A k
def aj6{A:BM}(h:kL Eu A):kL Eu (Am A):=⟨λp a=>by
 obtain⟨x,b,rfl⟩:=pI.1 a;exact h.good x b,by
 have:=h.nodup;unfold Am;rw[zU];exact this⟩
def aj7{A:BM}(h:kL Eu A){k:ah}{g:Nat}{l:List (ah×gN)}(d:dM A k=some (g,l)):∃i,A[i]? =some (k,(g,l))/\
 ∀a v,Am (A.set i (k,(g,gF l a v)))=gF (Am A) k (gF (oW l) a (v.r.l,v.t)):=by
 obtain⟨i,b⟩:=AU (Lr d);refine⟨i,b,λa v=> ?_⟩;have c:gF A k (g,gF l a v)=A.set i (k,(g,gF l a v)):=by
  unfold gF;rw[Ox h.nodup b]
 rw[<-c,abM,anF]
def ajg{a b c n:Nat}{k:ah}{A:BM}(h:(a::b::c::A.map (λx=>x.2.1)).Nodup)(ha:a<n)(m:b<n)(o:c<n)(g:∀x∈A,x.2.1<n)(j:dM A k=none):(a::b::c::(gF A k (n,([]:List (ah×gN)))).map (λx=>x.2.1)).Nodup:=by
 have f:gF A k (n,([]:List (ah×gN)))=A++[(k,(n,[]))]:=by
  unfold gF;cases d:mK k A with
  |none=>rfl
  |some i=>
   have:=(ahu (hs:=A) (k:=k));rw[j,d]at this;cases this
 rw[f,jv];show((a::b::c::A.map (λx=>x.2.1))++[n]).Nodup;rw[KR];refine⟨h,aB,λx d y e=> ?_⟩;simp only[nu]at e;subst e;simp only[gM,pI]at d;rcases d with rfl|rfl|rfl|⟨q,l,rfl⟩
 ·omega
 ·omega
 ·omega
 ·have:=g q l;omega
def aeW(w:World):(zeroValue 162).run prog w= .ok (.map none) w:=aC
def afF(sa:aO)(sn sc:Nat)(t:Int):prog.built 164 [(0,slice sa sn sc),(1,int .i64 t)]=some #[slice sa sn sc,int .i64 t]:=aC
def agE{o:Oper}{a:Act}{b c:Operand}{sa:aO}{sn sc:Nat}{t:Int}(i:o.op= .build 164 #[(0,b),(1,c)])(d:a.eval b=slice sa sn sc)(e:a.eval c=int .i64 t)(w:World):(execOp a.eval o).run prog w= .ok (.value (.agg #[slice sa sn sc,int .i64 t])) w:=by
 have h:=B_ (P:=prog) w 164 #[(0,slice sa sn sc),(1,int .i64 t)] _ (afF sa sn sc t);have g:(#[(0,b),(1,c)].map λ(r:Nat×Operand)=>(r.1,a.eval r.2))= #[(0,slice sa sn sc),(1,int .i64 t)]:=by simp[d,e]
 unfold execOp;simp only[i,iC];have f:(Instr.build 164 (#[(0,b),(1,c)].map λ(r:Nat×Operand)=>(r.1,a.eval r.2))).run prog w= .ok (.agg #[slice sa sn sc,int .i64 t]) w:=by rw[g];exact h
 rw[f];rfl
def abk{p n:Nat}{T:bD}{A:BM}(h:∀x∈A,(∃y∈T.av,x.2.1=y.2.1)∨n<=x.2.1):∀k,bD.M {T with av:=A} p k->T.M p k∨n<=k:=by
 rintro k (a|a|a|a|⟨x,c,a⟩)
 ·exact .inl (.inl a)
 ·exact .inl (.inr (.inl a))
 ·exact .inl (.inr (.inr (.inl a)))
 ·exact .inl (.inr (.inr (.inr (.inl a))))
 ·rcases h x c with⟨y,d,e⟩|b
  ·exact .inl (.inr (.inr (.inr (.inr ⟨y,d,a.trans e⟩))))
  ·exact .inr (a▸b)
def ae6(S:fB)(e:aR)(x:fA):(S.act e x).cnt=S.cnt:=by grind [fB.act]
section
section
variable {w w':World} {p B:Nat} {T:bD} {r:Option Nat}
def dh.row{a:aO}{xs:aP}{n z:Nat}(h:dh w B a xs)(m:xs.length=z*n)(o:∀g,r=some g->lM g a n)(k:w.grownBy w' r):dh w' B a xs:=by
 rcases h with h|⟨b,off,ha,j,l⟩
 ·exact .inl h
 by_cases d:n=0
 ·subst d;exact .inl (qm.1 (by rw[m,G_]))
 refine .inr ⟨b,off,ha,j,λi u p=> ?_⟩;have f:=l i u p;refine FX f (k.block b (kN f) λe=> ?_);rcases o b e.symm with c|c
 ·exact d c
 ·exact c _ ha F
def aM.row{a:aO}{xs:aP}{n z:Nat}(h:aM w a xs)(d:xs.length=z*n)(e:∀g,r=some g->lM g a n)(k:w.grownBy w' r):aM w' a xs:=by
 rcases h with h|⟨b,off,ha,c⟩
 ·exact .inl h
 ·exact(dh.row (B:=0) (.inr ⟨b,off,ha,w_ _,c⟩) d e k).cells
def j_.Hi.row{a:j_}(h:a.Hi w B)(b:∀g,r=some g->lM g a.a a.n)(k:w.grownBy w' r):a.Hi w' B:=
 ⟨h.hl,h.nc,h.n16,h.sz,h.cell.row (z:=1) (by rw[aI,h.hl,BS]) b k⟩
def vK.Hi.row{P:vK}(h:P.Hi w B)(c:∀g,r=some g->P.q≠g/\lM g P.a P.n/\∀x∈P.rs,lM g x.ra x.rn/\lM g x.aa x.an/\lM g x.la x.ln)(k:w.grownBy w' r):P.Hi w' B:=by
 have d:∀x∈P.rs,dh w' B x.ra (x.roles.map dx)/\dh w' B x.aa (x.acts.map qH)/\dh w' B x.la (x.labels.map dx):=λx a=>
  ⟨(h.mO x a).1.row (z:=1) (by rw[aI,(h.Aq x a).rl,BS]) (λg b=>((c g b).2.2 x a).1) k,
   (h.mO x a).2.1.row (z:=1) (by rw[aI,(h.Aq x a).al,BS]) (λg b=>((c g b).2.2 x a).2.1) k,
   (h.mO x a).2.2.row (z:=1) (by rw[aI,(h.Aq x a).ll,BS]) (λg b=>((c g b).2.2 x a).2.2) k⟩
 exact⟨h.blk.grown k (λe=>(c _ e.symm).1 F),h.ge,h.hl,h.nc,h.n100,h.cell.row (z:=8) (by rw[Sy,h.hl]) (λg b=>(c g b).2.1) k,
  λx a=>{h.Aq x a with vk:=(d x a).1.cells,uQ:=(d x a).2.1.cells,Bz:=(d x a).2.2.cells},d⟩
def eT.row(h:eT w p T)(l:r≠some p)(j:∀g,r=some g->¬kM w g)(d:∀g,r=some g->T.Off g)(k:w.grownBy w' r):eT w' p T:=by
 have c:∀{g:Nat},kM w g->some g≠r:=λb e=>j _ e.symm b;exact{h with
  blk:=h.blk.grown k (λe=>l e.symm),mem:=h.mem.grown k (c h.JX),key:=h.key.grown k (c h.RS),app:=h.app.grown k (c h.OD),
  inn:=λx a=>⟨(h.inn x a).1.grown k (c (h.OE a)),(h.inn x a).2.1,λy f=>⟨((h.inn x a).2.2 y f).1.row (λg b=>(d g b).av x a y f) k,((h.inn x a).2.2 y f).2⟩⟩,
  mr:=λx a=>(h.mr x a).row (λg b=>(d g b).ms x a) k,po:=λP i=>(h.po P i).row (λg b=>(d g b).po P i) k}
def OU{e:TypeId}{z n:Nat}{v:Value}{xs:aP}(h:w.ownsRow B e z v n xs):∀g,v.ownBlock=some g->¬kM w g:=by
 intro g b f;rcases h.2 with⟨rfl,_⟩|⟨g1,i,j,rfl,_,d,_⟩
 ·cases b
 simp only[Value.ownBlock,wY]at b;subst b;obtain⟨o,a,c⟩:=f;rw[d]at a;injection a with a;exact c _ _ _ a.symm
def Jv{a:aO}{xs:aP}{n g:Nat}(h:aM w a xs)(e:xs.length=0->n=0)(i:w.heap.size<=g):lM g a n:=by
 rcases h with h|⟨b,off,ha,f⟩
 ·exact .inl (e (by rw[h];rfl))
 by_cases d:xs=[]
 ·exact .inl (e (by rw[d];rfl))
 refine .inr λA c=> ?_;rw[ha]at c;injection c with c;rw[<-c];obtain⟨x,l,rfl⟩:=exists_cons_of_ne_nil d;have:=kN (f 0 x F);show b≠g;simp only at this;omega
def eT.OM(h:eT w p T){g:Nat}(c:w.heap.size<=g):T.Off g where
 ms x a:=Jv (h.mr x a).cell.cells (λe=>by rw[aI,(h.mr x a).hl]at e;exact e) c
 av x a y hy:=Jv ((h.inn x a).2.2 y hy).1.cell.cells (λe=>by rw[aI,((h.inn x a).2.2 y hy).1.hl]at e;exact e) c
 po P b:=by
  have b:=h.po P b;refine⟨by have:=b.blk.lt;omega,Jv b.cell.cells (λe=>by rw[Sy,b.hl]at e;omega) c,λx a=>⟨?_,?_,?_⟩⟩
  ·exact Jv (b.mO x a).1.cells (λe=>by rw[aI,(b.Aq x a).rl]at e;exact e) c
  ·exact Jv (b.mO x a).2.1.cells (λe=>by rw[aI,(b.Aq x a).al]at e;exact e) c
  ·exact Jv (b.mO x a).2.2.cells (λe=>by rw[aI,(b.Aq x a).ll]at e;exact e) c
def aR.Ok.row{e:aR}(h:e.Ok w)(a:∀g,r=some g->lM g e.ba e.bn)(k:w.grownBy w' r):e.Ok w':=
 {h with hcl:=h.hcl.row (z:=1) (by rw[aI,h.hb,BS]) a k}
def aR.Ok.mut{M:Nat->Prop}{e:aR}(h:e.Ok w)(m:gL M w w')(f:∀g,M g->g=p∨kM w g)(k:KE p e):e.Ok w':=by
 refine{h with hcl:= ?_};rcases h.hcl with c|⟨b,off,ha,c⟩
 ·exact .inl c
 refine .inr ⟨b,off,ha,λi x l=> ?_⟩;have a:=c i x l;refine FX a (m.block b (kN a) (λj=> ?_));rcases f b j with d|d
 ·exact k _ ha d
 ·rw[d.cell]at a;cases a
def ajN{M:Nat->Prop}{e:TypeId}{z n:Nat}{v:Value}{xs:aP}(h:w.ownsRow B e z v n xs)(m:gL M w w')(j:∀g,v.ownBlock=some g->¬M g):w'.ownsRow B e z v n xs:=by
 refine⟨h.1,?_⟩;rcases h.2 with d|⟨g1,b,c,rfl,f,a,i⟩
 ·exact .inl d
 ·exact .inr ⟨g1,b,c,F,f,(m.block g1 (o9.1 a).1 (j g1 F)).trans a,i⟩
end
inductive vD:List aR->fB->Prop
 |nil:vD [] fB.zero
 |snoc {es:List aR} {S:fB} {e:aR}:vD es S->S.ref e=0->vD (es++[e]) (S.next e)
def eT.notM{w:World}{p g:Nat}{S:bD}{vs:aP}{d:TypeId}(h:eT w p S)(c:au w g vs d)(f:d≠147):¬S.M p g:=by
 intro e;rcases h.RQ e with b|b
 ·subst b;have a:=h.blk;unfold au at c a;rw[c]at a;injection a with a;injection a with _ a _;exact f a
 ·exact b.ne c F
structure Ei(w0 w:World)(gj gs go p:Nat)(S:bD)(v:Value)(es:List aR):Prop where
 st:eT w p S
 bj:au w gj [.bool false] 4
 bs:au w gs [.pointer (some ⟨p,0,none⟩)] 25
 bo:au w go [v] 24
 own:w.ownsRow w0.heap.size 34 68 v es.length (kX es)
 off:∀g,(v.ownBlock=some g∨g=go)->S.Off g
 ok:∀e∈es,e.Ok w
 eo:∀e∈es,∀g,(v.ownBlock=some g∨g=go)->lM g e.ba e.bn
 ep:∀e∈es,KE p e
 ch:vD es S.p
 ex:aj w0 w
 hi:∀g,S.M p g->w0.heap.size<=g
 go0:w0.heap.size<=go
section
variable {w0 w w':World} {gj gs go p:Nat} {S:bD} {v:Value} {es:List aR}
def Ei.ext(h:Ei w0 w gj gs go p S v es)(e:aj w w'):Ei w0 w' gj gs go p S v es:=
 {h with st:=h.st.ext e,bj:=h.bj.ext e,bs:=h.bs.ext e,bo:=h.bo.ext e,own:=iy h.own e,ok:=λx a=>(h.ok x a).ext e,ex:=h.ex.ext e}
def Ei.apply(h:Ei w0 w gj gs go p S v es){T:bD}(i:eT w' p T)(m:gL (S.M p) w w')(j:∀g,T.M p g->S.M p g∨w.heap.size<=g)(k:∀g,g<w.heap.size->S.Off g->T.Off g):
 eT w' p T/\au w' gj [.bool false] 4/\au w' gs [.pointer (some ⟨p,0,none⟩)] 25/\au w' go [v] 24/\w'.ownsRow w0.heap.size 34 68 v es.length (kX es)/\
  (∀g,(v.ownBlock=some g∨g=go)->T.Off g)/\(∀e∈es,e.Ok w')/\aj w0 w'/\(∀g,T.M p g->w0.heap.size<=g):=by
 have d:∀g,S.M p g->g=p∨kM w g:=λg a=>h.st.RQ a;have l:∀g,v.ownBlock=some g->¬S.M p g:=by
  intro g a c;rcases d g c with b|b
  ·subst b;exact R3 h.own h.st.blk bS a
  ·exact OU h.own g a b
 exact⟨i,h.bj.mut m (h.st.notM h.bj bS),h.bs.mut m (h.st.notM h.bs bS),h.bo.mut m (h.st.notM h.bo bS),ajN h.own m l,λg a=>k g (a.elim (λa=>(h.own.lt g a).2) (λa=>a▸h.bo.lt)) (h.off g a),
  λe f=>(h.ok e f).mut m d (h.ep e f),m.LZ h.ex (λx n c=>by have:=h.hi x c;omega),λg a=>(j g a).elim (h.hi g) (λb=>dJ h.ex.size b)⟩
end
end
def aey{x:Nat}(h:4611686018427387904<x)(a:x<18446744073709551616):oZ x<0∨1099511627776<oZ x:=by grind [oZ,IntKind.wrap_i64]
def R6{w w':World}{B b:Nat}{e T:TypeId}{z n:Nat}{v:Value}{xs vs:aP}(h:w.ownsRow B e z v n xs)(u:dF w b w')(a:au w b vs T)(l:e≠T):w'.ownsRow B e z v n xs:=by
 refine⟨h.1,?_⟩;rcases h.2 with h|⟨g,cap,d,f,i,c,j⟩
 ·exact .inl h
 ·have k:g≠b:=by
   rintro rfl;unfold au at a;rw[c]at a;injection a with a;injection a with _ a;exact l a
  exact .inr ⟨g,cap,d,f,i,(u.block g k).trans c,j⟩
theorem anU{l:ah}{p M k:Nat}(h:k+4<=M):mo ((l.drop p).take M) k=mo l (p+k):=by grind [mo]
def aaY{l:ah}{p M k:Nat}(h:k+8<=M):iZ ((l.drop p).take M) k=iZ l (p+k):=by grind [iZ,anU,Nat.add_assoc]
def aaZ(a:ah)(M k:Nat)(h:k+8<=M):∃c b:Int,EO a M (k:Int)= .tuple #[.int .i64 c,.int .i64 b]/\((b=0/\c=(iZ a k:Nat)/\iZ a k<=4611686018427387904)∨(b=4/\4611686018427387904<iZ a k)):=by
 unfold EO;rw[aN (by unfold jT;rw[aJ J,aJ J]),su];by_cases h:iZ a k<=4611686018427387904
 ·rw[aN h];exact⟨_,_,F,.inl ⟨F,F,h⟩⟩
 ·rw[aJ h];exact⟨_,_,F,.inr ⟨F,J⟩⟩
def agr{x:lX}(h:fZ x.num 0 65535=true∨fZ x.time 0 1099511627776=true):rC x=4:=by grind [rC,iJ,lX.r]
def Z8{x:lX}{e:Int}{a:lX×Int×Int}(h:(if rC x=0 then(x,e,0)else(D6,0,rC x))=a):(rC x=0/\a=(x,e,0))∨(rC x≠0/\a=(D6,0,rC x)):=by grind
def ahj{x:lX}{e:Int}{a:lX×Int×Int}(h:(rC x=0/\a=(x,e,0))∨(rC x≠0/\a=(D6,0,rC x)))(b:rC x=4):a=(D6,0,4):=by grind
def ajJ{A:Int}(h:A<0∨1099511627776<A):fZ A 0 1099511627776=true:=by grind [fZ]
def ajI{A:Int}(h:A<0∨1099511627776<A):fZ A 0 65535=true:=by grind [fZ]
def aj9{l:ah}{p a:Nat}(h:4611686018427387904<iZ l (p+4)∨4611686018427387904<iZ l (p+12)):rC (Ep l p a)=4:=by
 refine agr ?_;rcases h with h|h
 ·exact .inl (ajI (aey h (VL _ _)))
 ·exact .inr (ajJ (aey h (VL _ _)))
def ZM{P:Program}{o:Oper}{a:Act}{t e:TypeId}{x y:Operand}{p q:aO}{n c k z:Nat}(f:p8 p c k z=q)(d:o.op= .slice t x (some y) none none)(h:a.eval x= .slice p n c)(i:a.eval y= .int .i64 (k:Int))(g:P.underlying t=some (.slice e))(hs:(P.info? e).map (·.size)=some z)(b:k<=n)(w:World):
 (execOp a.eval o).run P w= .ok (.value (.slice q (n - k) (c - k))) w:=by grind [Lp]
def aea{a:Prop}(e:a:=by
 intro w' h;obtain⟨a',c',he,h1,h2,h3,h4⟩:=wm h;cases he;have hNb:N<=140737488355328:=by clear h4 nL;omega
 rw[HR.out];refine⟨⟨GV,rU,GX,Ra,h1,hNb,λh=> ?_,h4⟩,ahQ h h4 J⟩;have:=h3 h;exact⟨by simp only;omega,this⟩):a:=e
def adH{a:Prop}(e:a:=by
 clear q4 d4;go_wp2_with (refine aZ F _ _ _ F F F ZF eZ iA (xs:=gB.v) iA (nQ gB) ?_);intro wG bG uG;go_wp2_with fail;exact Ao F F bG eZ iA F (zQ 4 _ HP (uG.ext EF (aQ _)))):a:=e
def adZ{a:Prop}(e:a:=by
 have h:=Dc.out (p+20) (Y x8) (by rw[iT];have:l[p+20]? =some (l[p+20]'(by rw[HL.out];clear eU;omega)):=mG _;rw[this]at sO⊢;rw[<-sO];rfl);rw[<-k_]at h;exact h):a:=e
def ai8(l:ah)(a:aO)(n c:Nat)(at_:Int)(w:World)(bx:l.length=n)(es:n<=c)(er:n<=140737488355328)(eE:c<=9223372036854775807)(cN:aM w a (l.map Y)):
 Calls prog 55 #[.slice a n c,.int .i64 at_] w (Ua l at_ w):=by
 obtain⟨HL,ap,t⟩:=aW bx cN (λw' h=>al0 l a n c at_ w' bx es er h);have da:=λE w' h e=>aeV (l:=l) (at_:=at_) (w:=w) (w':=w') (E:=E) h e;have zQ:=O da;obtain⟨d6,eU⟩:=aF (mM l at_);rw[eU]at zQ;have cf:=O eU;unfold mM at eU;obtain⟨E,a0⟩:=aF (zu l at_);rw[a0]at t eU;clear cN da;by_cases q:E=0
 rotate_left
 ·rw[aN q]at eU;have ez:(E != 0)=true:=by simpa using q
  rw[aJ q]at t;have HP:=O eU.symm;clear eU q a0;go_enter func55,ntmps55;go_upto_region 1 with(fail);generalize o:alloc w _=ao;have L:=dX o gB.v 34;have K:=dS o;obtain⟨ae,I⟩:=aA L K;clear o L K;go_wp2_with fail;refine(t ao (ap.ext I)).mono ?_;rintro x b5 ⟨rfl,m⟩;obtain⟨af,R⟩:=aA (ae.ext m) (I.ext m);clear m;go_wp2_with (refine aZ F _ _ _ F F F af eZ iA (xs:=gB.v) iA (nQ gB) ?_);intro ac bh ab;go_wp2_with fail;exact Ao F F bh eZ iA F (zQ E _ HP (ab.ext R (aQ _)))
 rw[aJ (by simpa using q)]at eU;rw[aN q]at t;obtain⟨p,rfl,et,ep,ei⟩:=ahH (a0.trans q);rw[su]at eU t;obtain⟨N,cF⟩:=aF (tN l p);rw[cF]at eU t ei;subst q;rw[bx]at eU et;clear a0 ep cF;have eJ:IntKind.i64.wrap ((n:Int) - p)=(n:Int) - p:=fJ _ J;by_cases b1:n<p+121+N
 ·rw[aN b1]at eU;have HP:=O eU.symm;have bj:=cO ((n:Int) - p<((121+N:Nat):Int));clear eU b1;obtain⟨M,bs⟩:=aF (121+N);rw[bs]at t bj;go_enter func55,ntmps55;go_upto_region 1 with(fail);generalize o:alloc w _=ao;have L:=dX o gB.v 34;have K:=dS o;obtain⟨ae,I⟩:=aA L K;clear o L K;go_wp2_with fail;refine(t ao (ap.ext I)).mono ?_;rintro x b5 ⟨rfl,m⟩;obtain⟨af,R⟩:=aA (ae.ext m) (I.ext m);clear m;go_wp2_with (refine aZ F _ _ _ F F F af eZ iA (xs:=gB.v) iA (nQ gB) ?_);intro ac bh ab;go_wp2_with fail;exact Ao F F bh eZ iA F (zQ 1 _ HP (ab.ext R (aQ _)))
 rw[aJ b1]at eU;have bj:=bU ((n:Int) - p<((121+N:Nat):Int));obtain⟨b,off,rfl,a6⟩:=ap.jg (by rw[aI,HL.out];omega);have c2:fu (some ⟨b,off,none⟩) c p=some ⟨b,off+p,none⟩:=by unfold fu;rw[aJ J,jr,eX]
 have dC:=O c2;obtain⟨g,cD⟩:=aF (89+N);obtain⟨M,bs⟩:=aF (121+N);obtain⟨S,a3⟩:=aF (eY 3 ((l.drop p).take g));obtain⟨P,a4⟩:=aF ((l.drop (p+g)).take 32);have c7:Me l p N=(S==P):=by unfold Me;rw[cD,k_,cD,a3,a4]
 rw[c7]at eU;rw[bs]at t bj;have bv:S.length=32:=by rw[<-a3];exact nJ _ _
 have bu:P.length=32:=by rw[<-a4,fP,iI,HL.out];omega
 have c8:=O (λw' h=>Tf 3 ((l.drop p).take g) g (c - p) (some ⟨b,off+p,none⟩) w' (by rw[fP,iI,HL.out];omega) J J (λh=>by cases h) h);have c9:DX 3 ((l.drop p).take g) g= .tuple #[.agg (S.map Y).toArray,.int .i64 0]:=by
  unfold DX;rw[aJ J,aN J,a3]
 rw[c9]at c8;obtain⟨cU,ch,ci⟩:=aW (λw=>xI underlying31 S P bv bu w) (show(S.map Y).length=32 by rw[aI,bv]) (show(P.map Y).length=32 by rw[aI,bu]);have dc:=dw S;have cq:aM w (some ⟨b,off+p,none⟩) (((l.drop p).take g).map Y):=Gs a6 p g;have cr:d9 w ⟨b,off+p+g*1,none⟩ (P.map Y):=by
  rw[<-a4,nA,k_];exact Gr a6 (p+g) 32
 obtain⟨dr,b9,Dc⟩:=aW cq cr a6;have eM:IntKind.i64.wrap ((p:Int)+(M:Int))=((p+M:Nat):Int):=by rw[fJ _ J];omega
 have eL:IntKind.i64.wrap ((M:Int) - 32)=(g:Int):=by rw[fJ _ J];omega
 have em:p+M<=c:=J;have cE:g<=c - p:=J;have eC:M - g=32:=J;have c_:p8 (some ⟨b,off+p,none⟩) (c - p) g 1=some ⟨b,off+p+g*1,none⟩:=by unfold p8;rw[aJ J,jr,eX]
 obtain⟨d2,nL⟩:=aA c_ eU;clear a6 c2 a3 a4 c7 c9 bv bu cq cr c_ eU;go_enter func55,ntmps55;go_upto_region 1 with(fail);generalize o:alloc w _=ao;have L:=dX o gB.v 34;have K:=dS o;obtain⟨ae,I⟩:=aA L K;clear o L K;go_wp2_with fail;refine(t ao (ap.ext I)).mono ?_;rintro x b5 ⟨rfl,m⟩;obtain⟨af,R⟩:=aA (ae.ext m) (I.ext m);clear m;go_wp2_with (first|(refine bZ F (yH (k:=p) (h:=p+M) F F F F underlying32 jO J em dC _) ?_)|(refine bZ F (yG (k:=g) F F F underlying32 jO cE _) ?_));refine(c8 b5 (dr.ext R)).mono ?_;rintro x a_ ⟨rfl,Q⟩;obtain⟨bd,cc⟩:=aA (af.ext Q) (R.ext Q);clear Q;go_wp2_with (refine aZ F _ _ _ F F F (au.bK (vs:=replicate 32 (.int .u8 0)) F F) FR aB ch dc ?_);intro ac df ab;have Q:aj a_ ac:=ab.ext ((aj.refl a_).alloc _) (aQ _);obtain⟨bc,cb,aq⟩:=aW (bd.ext Q) (cc.ext Q) df;have eo:w.heap.size<a_.heap.size:=bd.lt;clear ab Q df bd cc dc;obtain⟨gs,cT⟩:=aF a_.heap.size;rw[cT]at aq eo⊢;clear cT;go_upto_region 9 with(fail);obtain⟨C,j,aK,bR⟩:=fK (show bM w ac [w.heap.size,gs] [] ac from bM.iP cb (dR.two bc.lt aq.lt));have al:∀f,C f->d9 f ⟨gs,0,none⟩ (S.map Y):=λf h1=>d9.of (aM.iM (((j f).1 h1).blk aq aB));have am:∀f,C f->d9 f ⟨b,off+p+g*1,none⟩ (P.map Y):=λf h1=>b9.ext ((j f).1 h1).base;refine fF λX=> ?_;refine aV 0 F (aY F (λf h=>cB F F (al f h) FR ch)) ?_;refine ay 1 ?_;refine ay 2 ?_;refine aV 3 F (aY F (λf _=>ZM (k:=g) d2 F F F underlying32 jO J f)) ?_;refine aV 4 F (aY F (λf _=>Bg (n:=32) F F underlying31 J f)) ?_;refine aV 5 F (aY F (λf h=>cB F F (am f h) FR ci)) ?_
 refine aV 6 F (aY F (λf _=>pQ F F F Q7 cU f)) ?_;generalize ac.drew=b6 at*;have cl:=O (((j b6).1 X).blk bc aB);have ba:=O ((j b6).1 X).base;clear X j aK bR al am bc cb aq b9 ci cU;refine dP ?_;cases b2:(S==P)with
 |false=>
  have HP:=O (show d6=(D6,0,13) by have h:=nL.out;rw[b2,aN F]at h;exact h.symm);clear nL;go_wp2_with (refine aZ F _ _ _ F F F cl eZ iA (xs:=gB.v) iA (nQ gB) ?_);intro dj eb ev;go_wp2_with fail;exact Ao F F eb eZ iA F (zQ 13 _ HP (ev.ext ba (aQ _)))
 |true=>
 have eU:=nL.out;rw[b2,aJ bS]at eU;replace eU:=Z8 eU;clear nL b2;obtain⟨s,a5⟩:=aF ((l.drop p).take M);have cJ:s.length=M:=by rw[<-a5,fP,iI,HL.out];omega
 have cI:iZ s 4=iZ l (p+4):=by rw[<-a5];exact aaY J
 have cH:iZ s 12=iZ l (p+12):=by rw[<-a5];exact aaY J
 obtain⟨cy,aa,cV,V⟩:=aaZ s M 4 J;obtain⟨dg,an,cX,W⟩:=aaZ s M 12 J;rw[cI]at V;rw[cH]at W;have cs:∀w',aj w w'->aM w' (some ⟨b,off+p,none⟩) (s.map Y):=λw' e=>by rw[<-a5];exact(Gs Dc p M).ext e
 obtain⟨cR,cS⟩:=aA (λw' h=>VO s (some ⟨b,off+p,none⟩) M (c - p) 4 w' cJ J J h) (λw' h=>VO s (some ⟨b,off+p,none⟩) M (c - p) 12 w' cJ J J h);have cW:EO s M 4= .tuple #[.int .i64 cy,.int .i64 aa]:=cV;have cY:EO s M 12= .tuple #[.int .i64 dg,.int .i64 an]:=cX;rw[cW]at cR;rw[cY]at cS;have b':=O cs;clear cV cX cW cY cs cI cH;go_wp2_with fail;refine(cR b6 (b' _ ba)).mono ?_;rintro x dj ⟨rfl,bk⟩;obtain⟨d',U⟩:=aA (cl.ext bk) (ba.ext bk);clear bk;go_wp2_with fail;refine(cS dj (b' _ U)).mono ?_;rintro x b7 ⟨rfl,bl⟩;obtain⟨ZF,EF⟩:=aA (d'.ext bl) (U.ext bl);clear bl U;by_cases q4:aa=0/\an=0
 rotate_left
 ·have cM:4611686018427387904<iZ l (p+4)∨4611686018427387904<iZ l (p+12):=by
   rcases V with⟨h1, -, -⟩|⟨-,h1⟩
   ·rcases W with⟨h2, -, -⟩|⟨-,h2⟩
    ·exact absurd ⟨h1,h2⟩ q4
    ·exact .inr h2
   ·exact .inl h1
  have h4:rC (Ep l p N)=4:=aj9 cM;have HP:=O (ahj eU h4);have d4:((aa != 0)||(an != 0))=true:=by
   by_cases h1:aa=0
   ·have h2:an≠0:=λh2=>q4 ⟨h1,h2⟩;simp[h1,h2]
   ·simp[h1]
  clear eU h4 V W cM;by_cases h1:aa=0
  ·subst h1;have h2:(an != 0)=true:=by simpa using d4
   exact adH
  ·have h1:(aa != 0)=true:=by simpa using h1
   exact adH
 obtain⟨rfl,rfl⟩:=q4;obtain⟨rfl,V⟩:cy=(iZ l (p+4):Nat)/\iZ l (p+4)<=4611686018427387904:=by rcases V with⟨-,h,bm⟩|⟨h, -⟩;exact⟨h,bm⟩;cases h
 obtain⟨rfl,W⟩:dg=(iZ l (p+12):Nat)/\iZ l (p+12)<=4611686018427387904:=by rcases W with⟨-,h,bm⟩|⟨h, -⟩;exact⟨h,bm⟩;cases h
 have sO:∃x8,l[p+20]?.getD 0=x8:=⟨_,F⟩;obtain⟨x8,sO⟩:=sO;obtain⟨y,ar⟩:=aF ((l.drop (p+21)).take 16);obtain⟨G,aw⟩:=aF ((l.drop (p+37)).take 16);obtain⟨H,ax⟩:=aF ((l.drop (p+53)).take 32);obtain⟨r,az⟩:=aF ((l.drop (p+89)).take N);have bo:y.length=16:=by rw[<-ar,fP,iI,HL.out];clear eU;omega
 have bp:G.length=16:=by rw[<-aw,fP,iI,HL.out];clear eU;omega
 have br:H.length=32:=by rw[<-ax,fP,iI,HL.out];clear eU;omega
 have Ra:r.length=N:=by rw[<-az,fP,iI,HL.out];clear eU;omega
 have cP:Ep l p N=⟨(iZ l (p+4):Nat),(iZ l (p+12):Nat),(x8.toNat:Int),y,G,H,r⟩:=by
  unfold Ep;rw[PG (by clear eU;omega),PG (by clear eU;omega),sO,ar,aw,ax,az]
 rw[cP]at eU;have ct:d9 w ⟨b,off+p+21,none⟩ (y.map Y):=by rw[<-ar,k_];exact Gr Dc (p+21) 16
 have cv:d9 w ⟨b,off+p+37,none⟩ (G.map Y):=by rw[<-aw,k_];exact Gr Dc (p+37) 16
 have cw:d9 w ⟨b,off+p+53,none⟩ (H.map Y):=by rw[<-ax,k_];exact Gr Dc (p+53) 32
 have cx:aM w (some ⟨b,off+p+89,none⟩) (r.map Y):=by rw[<-az,k_];exact Gs Dc (p+89) N
 have cp:w.cell? ⟨b,off+p+20*1,none⟩=some (.int .u8 (x8.toNat:Nat)):=by
  exact adZ
 obtain⟨bi,bw⟩:=aF (((iZ l (p+4):Nat):Int):Int);obtain⟨b3,b0⟩:=aF (((iZ l (p+12):Nat):Int):Int);rw[bw,b0]at eU;rw[bw,b0];have nL:=O eU;clear eU;have eK:IntKind.i64.wrap (x8.toNat:Int)=(x8.toNat:Int):=fJ _ (by have:=x8.toNat_lt;omega);have c3:fu (some ⟨b,off+p,none⟩) (c - p) 21=some ⟨b,off+p+21,none⟩:=by unfold fu;rw[aJ J,jr,eX]
 have c4:fu (some ⟨b,off+p,none⟩) (c - p) 37=some ⟨b,off+p+37,none⟩:=by unfold fu;rw[aJ J,jr,eX]
 have c5:fu (some ⟨b,off+p,none⟩) (c - p) 53=some ⟨b,off+p+53,none⟩:=by unfold fu;rw[aJ J,jr,eX]
 have c6:fu (some ⟨b,off+p,none⟩) (c - p) 89=some ⟨b,off+p+89,none⟩:=by unfold fu;rw[aJ J,jr,eX]
 obtain⟨dE,dT,d0,d1,dm,dp,dq,dl⟩:=mQ c3 c4 c5 c6 ct cv cw cp;have ef:g - 89=N:=J;obtain⟨en,du,dv,dy,GV,rU,GX⟩:=zT (λw' e=>NA r (some ⟨b,off+p+89,none⟩) N (c - p - 89) w' Ra J (cx.ext e)) (show(y.map Y).length=16 by rw[aI,bo]) (show(G.map Y).length=16 by rw[aI,bp]) (show(H.map Y).length=32 by rw[aI,br]) bo bp br;have ej:37<=c - p:=J;have ek:53<=c - p:=J;have el:85<=c - p:=J;have eg:20<M:=J;have ee:89<=g:=J;clear c3 c4 c5 c6 ct cv cw cp cx bo bp br cP bw b0 sO V W ar aw ax az;go_upto_region 15 with(fail);obtain⟨C,j,aK,bR⟩:=fK (show bM w b7 [w.heap.size] [] b7 from bM.iP EF (dR.one ZF.lt));have al:∀f,C f->f.cell? ⟨b,off+p+20*1,none⟩=some (.int .u8 (x8.toNat:Nat)):=λf h1=>oP dl ((j f).1 h1).base;have am:∀f,C f->d9 f ⟨b,off+p+21,none⟩ (y.map Y):=λf h1=>dm.ext ((j f).1 h1).base;have c0:∀f,C f->d9 f ⟨b,off+p+37,none⟩ (G.map Y):=λf h1=>dp.ext ((j f).1 h1).base;have c1:∀f,C f->d9 f ⟨b,off+p+53,none⟩ (H.map Y):=λf h1=>dq.ext ((j f).1 h1).base;refine fF λX=> ?_;refine ay 0 ?_;refine ay 1 ?_;refine ay 2 ?_;refine aV 3 F (aY F (λf _=>gD (i:=20) F F F underlying32 jO eg f)) ?_;refine aV 4 F (aY F (λf h=>pR F F (al f h) RY)) ?_;refine ay 5 ?_;refine ay 6 ?_;refine aV 7 F (aY F (λf _=>yH (k:=21) (h:=37) F F F F underlying32 jO J ej dE f)) ?_;refine aV 8 F (aY F (λf _=>Bg (n:=16) F F underlying29 J f)) ?_;refine aV 9 F (aY F (λf h=>cB F F (am f h) eu du)) ?_;refine ay 10 ?_;refine aV 11 F (aY F (λf _=>yH (k:=37) (h:=53) F F F F underlying32 jO J ek dT f)) ?_;refine aV 12 F (aY F (λf _=>Bg (n:=16) F F underlying29 J f)) ?_
 refine aV 13 F (aY F (λf h=>cB F F (c0 f h) eu dv)) ?_;refine ay 14 ?_;refine aV 15 F (aY F (λf _=>yH (k:=53) (h:=85) F F F F underlying32 jO J el d0 f)) ?_;refine aV 16 F (aY F (λf _=>Bg (n:=32) F F underlying31 J f)) ?_;refine aV 17 F (aY F (λf h=>cB F F (c1 f h) FR dy)) ?_;refine ay 18 ?_;refine ay 19 ?_;refine aV 20 F (aY F (λf _=>yH (k:=89) (h:=g) F F F F underlying32 jO ee cE d1 f)) ?_;rw[ef];refine GU (B:=World.heap b7 |>.size) (A:=23) (d:=17) (T:=34) (vs:=gB.v) (D:=C) undef F aK (λ_ h=>h) (λ_ h=>((j _).1 h).kept.1) X ?_;try dsimp only
 refine dY ?_;refine rT 21 (β:=aO×Nat) (λz=> .slice z.1 N z.2) (λz w'=>w'.ownsRow (w.heap.size+1) 5 1 (.slice z.1 N z.2) N (r.map Y)) F F F F (λ_ _=>rfl) aC aC aC F (λ_ _=>mF) ?phi21 ?step21 ?rest21
 case phi21=>exact λz f ew h e=>iy h e
 case step21=>
  intro x f cA ck a1;have eh:w.heap.size+1<=f.heap.size:=by have:=ZF.lt;have:=((j f).1 cA).kept.1;omega
  have ec:=((j f).1 cA).base;clear X;go_wp2_with fail;refine(en f ec).mono ?_;rintro e ew ⟨v,rfl,dd, -,ed⟩;obtain⟨a',c',rfl, -, -, -, -⟩:=wm dd;go_wp2_with fail;exact a1 (a',c') _ ed (xL dd eh)
 case rest21=>
 rintro⟨cn,co⟩;refine aL ?_;refine QT 22 F (λ_=>aY F (λf _=>ZL r F F F F F F F F GV rU GX f)) ?_;refine GR F F F (λ_ _=>rfl) aC (λ_ _=>mF) ?_;rintro ea ex ⟨cz,de⟩ db cL;obtain⟨cd,dt,d3⟩:=aW cL ((j ex).1 cz) de;clear cL cz de al am c0 c1;obtain⟨u,a2⟩:=mP (⟨bi,b3,(x8.toNat:Int),y,G,H,cn,N,co,r⟩:aR);rw[<-a2];obtain⟨HR,ad⟩:=aA a2 (show u.v.length=68 by rw[a2];unfold aR.v;simp[GV.out,rU.out,GX.out]);clear a2;refine aT 24 ?_;intro ck a1;go_wp2_with (refine aZ F _ _ _ F F F cd eZ iA (xs:=u.v) ad (nQ u) ?_);intro di cm b4;have aE:=bM.upd dt b4 db EF.size;refine a1 _ _ ((j di).2 aE) ?_;obtain⟨b8,d8⟩:=aA cm (aE.blk ZF aB);have ds:=O aE.base;have cj:=O (R6 d3 b4 cd bS);have eI:w.heap.size<ea:=vL ZF.lt db;clear a1 ck b4 cm aE;refine dP ?_;unfold DJ;have bz:∀w',w'.ownsRow (w.heap.size+1) 5 1 (.slice cn N co) N (r.map Y)->u.T_ w' w.heap.size:=by
  exact aea
 have ce:=O bz;have bt:u.p=⟨bi,b3,(x8.toNat:Int),y,G,H,r⟩:=by rw[HR.out];rfl
 have a7:=O (λw' h=>agw u w' h);rw[Zv,bt]at a7;have cg:=O bt;obtain⟨d7,cG⟩:=aF ((⟨bi,b3,(x8.toNat:Int),y,G,H,r⟩:lX):lX);rw[cG]at nL a7 cg;obtain⟨U,cC⟩:=aF (rC d7);rw[cC]at nL a7;have cQ:((p+121+N:Nat):Int)=((p+M:Nat):Int):=by clear bz;omega
 rw[cQ]at nL;clear bz bt cG cC cQ;go_wp2_with (refine dA F 34 (.tmp 17) F F b8 eZ ad ?_);refine(a7 di (ce _ cj).1).mono ?_;rintro x eN ⟨rfl,ag⟩;obtain⟨bb,dk,ca,d5⟩:=bT (d8.ext ag) (b8.ext ag) (ds.ext ag) (iy cj ag);clear ag;rcases nL.out with⟨a8,ai⟩|⟨a8,ai⟩
 ·subst a8;have HP:=O ai;clear nL ai;go_wp2_with (first|(refine dA F 34 (.tmp 17) F F dk eZ ad ?_)|(refine aZ F _ _ _ F F F bb eZ iA (xs:=u.v) ad (nQ u) ?_));intro ey be a9;go_wp2_with fail;refine Ao F F be eZ ad F ⟨u,?_,ce _ (R6 d5 a9 bb bS),?_,a9.ext ca (aQ _)⟩
  ·rw[cf.out,HP.out];rfl
  ·rw[cf.out,HP.out,cg.out]
 ·have HP:=O ai;have eA:(U != 0)=true:=by simpa using a8
  clear nL ai a8;go_wp2_with (refine aZ F _ _ _ F F F bb eZ iA (xs:=gB.v) iA (nQ gB) ?_);intro ey be a9;go_wp2_with fail;exact Ao F F be eZ iA F (zQ U _ HP (a9.ext ca (aQ _)))
def ab8(a:aO)(n c:Nat)(at_ many:Int)(w:World)(f:n<=140737488355328)(b:n<=c)(d:c<=9223372036854775807)(hm:0<=many)(e:many<=1099511627776):
 Calls prog 98 #[.slice a n c,.int .i64 at_,.int .i64 many] w (GN a n c at_ many w):=by
 exact anj
def LW(E:Int)(w:World):
 eO 97 #[.int .i64 E] w (.tuple #[.agg gB.v.toArray,.int .i64 0,.int .i64 E]):=by
 go_enter func97,ntmps97;go_upto_region 1 with(fail);generalize a:alloc w _=f;obtain⟨c,b⟩:=aA (dX a gB.v 34) (dS a);clear a;go_wp2_with (refine aZ F _ _ _ F F F c eZ iA (xs:=gB.v) iA (nQ gB) ?_);intro g d e;go_wp2_with fail;exact Ao F F d eZ iA F ⟨F,e.ext b (aQ _)⟩
def agc(l:ah)(n:Nat)(at_:Int)(a:l.length=n):jT n at_ 89≠0->zu l at_=jT n at_ 89:=by unfold jT zu at*;omega
def aR.len'{e:aR}(ha:e.dz.length=16)(a:e.key.length=16)(b:e.prev.length=32):e.v.length=68:=by unfold aR.v;simp[ha,a,b]
def aR.afs{e:aR}(ha:e.dz.length=16)(a:e.key.length=16)(b:e.prev.length=32):e.v[67]? =some (.slice e.ba e.bn e.bc):=by grind [aR.v]
def aR.alQ(e:aR)(a:aO)(n c:Nat)(l:ah)(ha:e.dz.length=16)(b:e.key.length=16)(d:e.prev.length=32):e.v.set 67 (.slice a n c)={e with ba:=a,bn:=n,bc:=c,body:=l}.v:=by simp_all [aR.v]
def ak2(l:ah)(a:aO)(n c:Nat)(at_:Int)(w:World)(c2:l.length=n)(c7:n<=c)(c4:n<=140737488355328)(cW:c<=9223372036854775807)(cX:aM w a (l.map Y)):
 Calls prog 56 #[.slice a n c,.int .i64 at_] w (Ua l at_ w):=by
 obtain⟨HL,d4,u⟩:=aW c2 cX (λw'=>ab8 a n c at_ 89 w' c4 c7 cW J J);have dm:=λE w' h e=>aeV (l:=l) (at_:=at_) (w:=w) (w':=w') (E:=E) h e;have ag:=O dm;obtain⟨ek,eU⟩:=aF (mM l at_);rw[eU]at ag;have bw:=O eU;unfold mM at eU;clear cX dm;by_cases q:jT n at_ 89=0
 rotate_left
 ·have cP:=agc l n at_ c2 q;rw[cP,aN q]at eU;unfold GN at u;simp only[aJ q]at u;obtain⟨E,a0⟩:=aF (jT n at_ 89);rw[a0]at eU u q;have eW:(E != 0)=true:=by simpa using q
  have z:=O eU.symm;clear eU q cP a0;go_enter func56,ntmps56;go_upto_region 1 with(fail);generalize r:alloc w _=j;have H:=dX r gB.v 34;have G:=dS r;obtain⟨L,t⟩:=aA H G;clear r H G;go_wp2_with fail;refine(u j).mono ?_;rintro x s ⟨g,rfl⟩;rw[<-g];clear g s u;go_wp2_with fail;refine(LW E j).mono ?_;rintro x a6 ⟨rfl,m⟩;obtain⟨P,I⟩:=aA (L.ext m) (t.ext m);clear m;go_wp2_with (refine aZ F _ _ _ F F F P eZ iA (xs:=gB.v) iA (nQ gB) ?_);intro a7 Q R;go_wp2_with fail;exact Ao F F Q eZ iA F (ag E _ z (R.ext I (aQ _)))
 obtain⟨p,rfl,e6⟩:=WO q J;have e7:p+89<=n:=J;obtain⟨b,off,rfl,ad⟩:=d4.jg (by rw[aI,HL.out];omega);have Dc:=O ad;have a4:fu (some ⟨b,off,none⟩) c p=some ⟨b,off+p,none⟩:=by unfold fu;rw[aJ J,jr,eX]
 unfold GN at u;simp only[aN q,su,a4]at u;have cY:(89:Int).toNat=89:=F;rw[cY]at u;have cM:zu l (p:Int)=if(l.drop p).take 4≠[75,87,69,49]then 2 else if 32768<tN l p then 5 else 0:=by
  unfold zu;rw[aJ J,aJ (by rw[HL.out];omega),su]
 rw[cM,su]at eU;have c3:((l.drop p).take 4).length=4:=by rw[fP,iI,HL.out];omega
 have a5:=O (λw' (e:aj w w')=>SH w' (some ⟨b,off+p,none⟩) ((l.drop p).take 4) 4 (c - p) ((Gs ad p 4).ext e) c3.symm);have bo:(bN ((l.drop p).take 4)).toList=(l.drop p).take 4:=by unfold bN;rw[ByteArray.toList_mk]
 have di:fu (some ⟨b,off+p,none⟩) (c - p) 0=some ⟨b,off+p,none⟩:=by unfold fu;rw[aJ J,jr,eX,z8]
 have ar:=O di;have bl:4<=c - p:=J;clear cM q a4 cY di c3;by_cases an:(l.drop p).take 4=[75,87,69,49]
 rotate_left
 ·rw[aN an,aN bS]at eU;have z:=O eU.symm;have eJ:((bN ((l.drop p).take 4)).toList==[75,87,69,49])=false:=by rw[bo];simpa using an
  clear eU an bo;go_enter func56,ntmps56;go_upto_region 1 with(fail);generalize r:alloc w _=j;have H:=dX r gB.v 34;have G:=dS r;obtain⟨L,t⟩:=aA H G;clear r H G;have am:=a5.out j t;go_wp2_with fail;refine(u j).mono ?_;rintro x s ⟨g,rfl⟩;rw[<-g];clear g s u;go_wp2_with (refine bZ F (NT (h:=4) F F F underlying32 jO bl ar _) ?_);refine(LW 2 j).mono ?_;rintro x a6 ⟨rfl,m⟩;obtain⟨P,I⟩:=aA (L.ext m) (t.ext m);clear m am;go_wp2_with (refine aZ F _ _ _ F F F P eZ iA (xs:=gB.v) iA (nQ gB) ?_);intro a7 Q R;go_wp2_with fail;exact Ao F F Q eZ iA F (ag 2 _ z (R.ext I (aQ _)))
 rw[aJ (show¬((l.drop p).take 4≠[75,87,69,49]) by simpa using an)]at eU;have eJ:(bN ((l.drop p).take 4)).toList=[75,87,69,49]:=bo.trans an;have dj:fu (some ⟨b,off+p,none⟩) (c - p) 85=some ⟨b,off+p+85,none⟩:=by unfold fu;rw[aJ J,jr,eX]
 have a9:=O dj;have b':89<=c - p:=J;have dr:((l.drop (p+85)).take 4).length=4:=by rw[fP,iI,HL.out];omega
 have af:=O (λw' (e:aj w w')=>O8 ((l.drop (p+85)).take 4) (some ⟨b,off+p+85,none⟩) 4 (c - p - 85) w' dr J (by have h:=(Gs ad (p+85) 4).ext e;rw[<-k_]at h;exact h));have cV:nI ((l.drop (p+85)).take 4)=tN l p:=abf (by rw[HL.out];omega);have ex:tN l p<4294967296:=(mo l (p+85)).toNat_lt;rw[cV,PG J]at af;obtain⟨N,cS⟩:=aF (tN l p);rw[cS]at eU af ex;clear bo an dj dr cV cS;by_cases ax:32768<N
 ·rw[aN ax,aN bS]at eU;have z:=O eU.symm;have eo:=bV ax;have ep:=cO ((32768:Int)<(N:Int));clear eU ax;go_enter func56,ntmps56;go_upto_region 1 with(fail);generalize r:alloc w _=j;have H:=dX r gB.v 34;have G:=dS r;obtain⟨L,t⟩:=aA H G;clear r H G;have am:=a5.out j t;go_wp2_with fail;refine(u j).mono ?_;rintro x s ⟨g,rfl⟩;rw[<-g];clear g s u;go_wp2_with (first|(refine bZ F (NT (h:=4) F F F underlying32 jO bl ar _) ?_)|(refine bZ F (yH (k:=85) (h:=89) F F F F underlying32 jO J b' a9 _) ?_));refine(af j t).mono ?_;rintro x s ⟨rfl,g⟩;rw[<-g];clear g s af;go_wp2_with fail;refine(LW 5 j).mono ?_;rintro x a6 ⟨rfl,m⟩;obtain⟨P,I⟩:=aA (L.ext m) (t.ext m);clear m am;go_wp2_with (refine aZ F _ _ _ F F F P eZ iA (xs:=gB.v) iA (nQ gB) ?_);intro a7 Q R;go_wp2_with fail;exact Ao F F Q eZ iA F (ag 5 _ z (R.ext I (aQ _)))
 rw[aJ ax,aJ bS,HL.out]at eU;have eo:=bg ax;have ep:=bU ((32768:Int)<(N:Int));obtain⟨o,cQ⟩:=aF (89+N);obtain⟨M,e2⟩:=aF (121+N);have e9:IntKind.i64.wrap (89+(N:Int))=(o:Int):=by rw[fJ _ J];omega
 have e_:IntKind.i64.wrap ((o:Int)+32)=(M:Int):=by rw[fJ _ J];omega
 have ae:=O (λw'=>ab8 (some ⟨b,off,none⟩) n c p (M:Int) w' c4 c7 cW J J);by_cases bz:n<p+121+N
 ·rw[aN bz]at eU;have z:=O eU.symm;have eL:jT n (p:Int) (M:Int)=1:=by unfold jT;rw[aJ J,aN J]
  unfold GN at ae;simp only[eL]at ae;clear eU bz;go_enter func56,ntmps56;go_upto_region 1 with(fail);generalize r:alloc w _=j;have H:=dX r gB.v 34;have G:=dS r;obtain⟨L,t⟩:=aA H G;clear r H G;have am:=a5.out j t;go_wp2_with fail;refine(u j).mono ?_;rintro x s ⟨g,rfl⟩;rw[<-g];clear g s u;go_wp2_with (first|(refine bZ F (NT (h:=4) F F F underlying32 jO bl ar _) ?_)|(refine bZ F (yH (k:=85) (h:=89) F F F F underlying32 jO J b' a9 _) ?_));refine(af j t).mono ?_;rintro x s ⟨rfl,g⟩;rw[<-g];clear g s af;go_wp2_with fail;refine(ae j).mono ?_;rintro x s ⟨g,rfl⟩;rw[<-g];clear g s ae;go_wp2_with fail;refine(LW 1 j).mono ?_;rintro x a6 ⟨rfl,m⟩;obtain⟨P,I⟩:=aA (L.ext m) (t.ext m);clear m am;go_wp2_with (refine aZ F _ _ _ F F F P eZ iA (xs:=gB.v) iA (nQ gB) ?_);intro a7 Q R;go_wp2_with fail;exact Ao F F Q eZ iA F (ag 1 _ z (R.ext I (aQ _)))
 rw[aJ bz]at eU;have al:jT n (p:Int) (M:Int)=0:=by unfold jT;rw[aJ J,aJ J]
 unfold GN at ae;have a4:fu (some ⟨b,off,none⟩) c p=some ⟨b,off+p,none⟩:=by unfold fu;rw[aJ J,jr,eX]
 simp only[al,wX,su,a4]at ae;have e4:((M:Nat):Int).toNat=M:=F;obtain⟨S,bj⟩:=aF (eY 3 ((l.drop p).take o));obtain⟨ai,bk⟩:=aF ((l.drop (p+o)).take 32);have dg:Me l p N=(S==ai):=by unfold Me;rw[cQ,k_,cQ,bj,bk]
 rw[dg]at eU;have b8:S.length=32:=by rw[<-bj];exact nJ _ _
 have b7:ai.length=32:=by rw[<-bk,fP,iI,HL.out];omega
 have dk:=O (λw' (e:aj w w')=>CW 3 ((l.drop p).take o) o (c - p) (some ⟨b,off+p,none⟩) w' J J (by rw[fP,iI,HL.out];omega) J ((Gs ad p o).ext e));rw[bj]at dk;obtain⟨eK,eV,eg⟩:=aW (λw=>xI underlying31 S ai b8 b7 w) (show(S.map Y).length=32 by rw[aI,b8]) (show(ai.map Y).length=32 by rw[aI,b7]);have cF:d9 w ⟨b,off+p+o*1,none⟩ (ai.map Y):=by
  rw[<-bk,nA,k_];exact Gr ad (p+o) 32
 have d2:=O cF;have sO:∃x8,l[p+20]?.getD 0=x8:=⟨_,F⟩;obtain⟨x8,sO⟩:=sO;obtain⟨U,a'⟩:=aF ((l.drop (p+21)).take 16);obtain⟨V,bb⟩:=aF ((l.drop (p+37)).take 16);obtain⟨W,bd⟩:=aF ((l.drop (p+53)).take 32);obtain⟨aa,be⟩:=aF ((l.drop (p+89)).take N);have b1:U.length=16:=by rw[<-a',fP,iI,HL.out];clear eU;omega
 have b2:V.length=16:=by rw[<-bb,fP,iI,HL.out];clear eU;omega
 have b3:W.length=32:=by rw[<-bd,fP,iI,HL.out];clear eU;omega
 have Ra:aa.length=N:=by rw[<-be,fP,iI,HL.out];clear eU;omega
 obtain⟨ao,ca⟩:=aF (oZ (iZ l (p+4)):Int);obtain⟨ap,cd⟩:=aF (oZ (iZ l (p+12)):Int);have c0:Ep l p N=⟨ao,ap,(x8.toNat:Int),U,V,W,aa⟩:=by
  unfold Ep;rw[ca,cd,sO,a',bb,bd,be]
 rw[c0]at eU;have dp:((l.drop (p+4)).take 8).length=8:=by rw[fP,iI,HL.out];clear eU;omega
 have dq:((l.drop (p+12)).take 8).length=8:=by rw[fP,iI,HL.out];clear eU;omega
 obtain⟨c6,c5⟩:=aA (λw' (e:aj w w')=>O8 ((l.drop (p+4)).take 8) (some ⟨b,off+p+4,none⟩) 8 (c - p - 4) w' dp J (by have h:=(Gs ad (p+4) 8).ext e;rw[<-k_]at h;exact h)) (λw' (e:aj w w')=>O8 ((l.drop (p+12)).take 8) (some ⟨b,off+p+12,none⟩) 8 (c - p - 12) w' dq J (by have h:=(Gs ad (p+12) 8).ext e;rw[<-k_]at h;exact h));rw[VZ (by rw[HL.out];clear eU;omega),ca]at c6;rw[VZ (by rw[HL.out];clear eU;omega),cd]at c5;have cG:d9 w ⟨b,off+p+21,none⟩ (U.map Y):=by rw[<-a',k_];exact Gr Dc (p+21) 16
 have cH:d9 w ⟨b,off+p+37,none⟩ (V.map Y):=by rw[<-bb,k_];exact Gr Dc (p+37) 16
 have cI:d9 w ⟨b,off+p+53,none⟩ (W.map Y):=by rw[<-bd,k_];exact Gr Dc (p+53) 32
 have cJ:aM w (some ⟨b,off+p+89,none⟩) (aa.map Y):=by rw[<-be,k_];exact Gs Dc (p+89) N
 have cE:w.cell? ⟨b,off+p+20*1,none⟩=some (.int .u8 (x8.toNat:Nat)):=by
  exact adZ
 have nL:=O eU;clear eU;have e8:IntKind.i64.wrap (x8.toNat:Int)=(x8.toNat:Int):=fJ _ (by have:=x8.toNat_lt;omega);have da:fu (some ⟨b,off+p,none⟩) (c - p) 21=some ⟨b,off+p+21,none⟩:=by unfold fu;rw[aJ J,jr,eX]
 have db:fu (some ⟨b,off+p,none⟩) (c - p) 37=some ⟨b,off+p+37,none⟩:=by unfold fu;rw[aJ J,jr,eX]
 have dc:fu (some ⟨b,off+p,none⟩) (c - p) 53=some ⟨b,off+p+53,none⟩:=by unfold fu;rw[aJ J,jr,eX]
 have dd:fu (some ⟨b,off+p,none⟩) (c - p) 89=some ⟨b,off+p+89,none⟩:=by unfold fu;rw[aJ J,jr,eX]
 have de:fu (some ⟨b,off+p,none⟩) (c - p) 4=some ⟨b,off+p+4,none⟩:=by unfold fu;rw[aJ J,jr,eX]
 have df:fu (some ⟨b,off+p,none⟩) (c - p) 12=some ⟨b,off+p+12,none⟩:=by unfold fu;rw[aJ J,jr,eX]
 have dl:p8 (some ⟨b,off+p,none⟩) (c - p) o 1=some ⟨b,off+p+o*1,none⟩:=by unfold p8;rw[aJ J,jr,eX]
 obtain⟨eh,ea,eb,ec,ed,ee,ef,dT⟩:=mQ dl da db dc dd de df cG;obtain⟨d0,d1,dE⟩:=aW cH cI cE;have e1:o - 89=N:=J;obtain⟨eI,d6,d7,d8,GV,rU,GX⟩:=zT (λw' e=>NA aa (some ⟨b,off+p+89,none⟩) N (c - p - 89) w' Ra J (cJ.ext e)) (show(U.map Y).length=16 by rw[aI,b1]) (show(V.map Y).length=16 by rw[aI,b2]) (show(W.map Y).length=32 by rw[aI,b3]) b1 b2 b3;have ey:12<=c - p:=J;have ez:20<=c - p:=J;have eA:37<=c - p:=J;have eC:53<=c - p:=J;have eE:85<=c - p:=J;have cR:o<=c - p:=J;have e3:M - o=32:=J;have es:89<=o:=J;have cf:IntKind.i64.wrap ((p:Int)+89)=((p+89:Nat):Int):=by rw[fJ _ J];omega
 have cg:IntKind.i64.wrap (((p+89:Nat):Int)+(N:Int))=((p+o:Nat):Int):=by rw[fJ _ J];omega
 have ch:IntKind.i64.wrap (((p+o:Nat):Int)+32)=((p+M:Nat):Int):=by rw[fJ _ J];omega
 have c1:((p+121+N:Nat):Int)=((p+M:Nat):Int):=J;rw[c1]at nL;obtain⟨et,ev,ew⟩:=aW cf cg ch;clear c1 cf cg ch da db dc dd de df dl cG cH cI cE cJ b1 b2 b3 c0 ca cd sO a' bb bd be bj bk dg b8 b7 cF dp dq ad al a4;go_enter func56,ntmps56;go_upto_region 1 with(fail);generalize r:alloc w _=j;have H:=dX r gB.v 34;have G:=dS r;obtain⟨L,t⟩:=aA H G;clear r H G;have am:=a5.out j t;go_wp2_with fail;refine(u j).mono ?_;rintro x s ⟨g,rfl⟩;rw[<-g];clear g s u;go_wp2_with (first|(refine bZ F (NT (h:=4) F F F underlying32 jO bl ar _) ?_)|(refine bZ F (yH (k:=85) (h:=89) F F F F underlying32 jO J b' a9 _) ?_));refine(af j t).mono ?_;rintro x s ⟨rfl,g⟩;rw[<-g];clear g s af;go_wp2_with fail;refine(ae j).mono ?_;rintro x s ⟨g,rfl⟩;rw[<-g];clear g s ae am a5 ar a9;go_upto_region 13 with(fail);obtain⟨C,y,aK,bR⟩:=fK (show bM w j [w.heap.size] [] j from bM.iP t (dR.one L.lt));have c9:∀f,C f->f.cell? ⟨b,off+p+20*1,none⟩=some (.int .u8 (x8.toNat:Nat)):=λf h1=>oP dE ((y f).1 h1).base;have a3:∀f,C f->d9 f ⟨b,off+p+21,none⟩ (U.map Y):=λf h1=>dT.ext ((y f).1 h1).base;have c_:∀f,C f->d9 f ⟨b,off+p+37,none⟩ (V.map Y):=λf h1=>d0.ext ((y f).1 h1).base;have c':∀f,C f->d9 f ⟨b,off+p+53,none⟩ (W.map Y):=λf h1=>d1.ext ((y f).1 h1).base;refine fF λX=> ?_;refine ay 0 ?_;refine aV 1 F (aY F (λf _=>yH (k:=4) (h:=12) F F F F underlying32 jO J ey ee f)) ?_;refine ay 3 ?_;refine aV 4 F (aY F (λf _=>yH (k:=12) (h:=20) F F F F underlying32 jO J ez ef f)) ?_;refine ay 6 ?_;refine aV 7 F (aY F (λf _=>gD (i:=20) F F F underlying32 jO bS f)) ?_
 refine aV 8 F (aY F (λf h=>pR F F (c9 f h) RY)) ?_;refine ay 9 ?_;refine ay 10 ?_;refine aV 11 F (aY F (λf _=>yH (k:=21) (h:=37) F F F F underlying32 jO J eA ea f)) ?_;refine aV 12 F (aY F (λf _=>Bg (n:=16) F F underlying29 J f)) ?_;refine aV 13 F (aY F (λf h=>cB F F (a3 f h) eu d6)) ?_;refine ay 14 ?_;refine aV 15 F (aY F (λf _=>yH (k:=37) (h:=53) F F F F underlying32 jO J eC eb f)) ?_;refine aV 16 F (aY F (λf _=>Bg (n:=16) F F underlying29 J f)) ?_;refine aV 17 F (aY F (λf h=>cB F F (c_ f h) eu d7)) ?_;refine ay 18 ?_;refine aV 19 F (aY F (λf _=>yH (k:=53) (h:=85) F F F F underlying32 jO J eE ec f)) ?_;refine aV 20 F (aY F (λf _=>Bg (n:=32) F F underlying31 J f)) ?_;refine aV 21 F (aY F (λf h=>cB F F (c' f h) FR d8)) ?_;refine GU (B:=World.heap j |>.size) (A:=23) (d:=12) (T:=34) (vs:=gB.v) (D:=C) undef F aK (λ_ h=>h) (λ_ h=>((y _).1 h).kept.1) X ?_;try dsimp only
 refine dY ?_;refine rT 2 (β:=Unit) (λ_=> .int .i64 ao) (λ_ _=>True) F F F F (λ_ _=>rfl) aC aC aC F (λ_ _=>mF) ?phi2 ?step2 ?rest2
 case phi2=>exact λ_ _ _ _ _=>trivial
 case step2=>
  intro x f b4 aw ac;have b0:=((y f).1 b4).base;clear X;go_wp2_with fail;refine(c6 f b0).mono ?_;rintro e eN ⟨rfl,rfl⟩;go_wp2_with fail;exact ac () _ (aj.refl _) trivial
 case rest2=>
 intro _;refine aL ?_;refine rT 5 (β:=Unit) (λ_=> .int .i64 ap) (λ_ _=>True) F F F F (λ_ _=>rfl) aC aC aC F (λ_ _=>mF) ?phi5 ?step5 ?rest5
 case phi5=>exact λ_ _ _ _ _=>trivial
 case step5=>
  rintro x f ⟨b4,_⟩ aw ac;have b0:=((y f).1 b4).base;clear X;go_wp2_with fail;refine(c5 f b0).mono ?_;rintro e eN ⟨rfl,rfl⟩;go_wp2_with fail;exact ac () _ (aj.refl _) trivial
 case rest5=>
 intro _;refine aL ?_;refine QT 22 F (λ_=>aY F (λf _=>agJ F F F F F F F GV rU GX f)) ?_;refine GR F F F (λ_ _=>rfl) aC (λ_ _=>mF) ?_;rintro cA eQ ⟨⟨cN,_⟩,_⟩ ds cU;obtain⟨d3,d5⟩:=aA cU ((y eQ).1 cN);clear cU cN c9 a3 c_ c';obtain⟨K,bi⟩:=mP (⟨ao,ap,(x8.toNat:Int),U,V,W,none,0,0,[]⟩:aR);rw[<-bi];obtain⟨cs,d'⟩:=aA bi (show K.v.length=68 by rw[bi];unfold aR.v;simp[GV.out,rU.out,GX.out]);clear bi;refine aT 24 ?_;intro aw ac;go_wp2_with (refine aZ F _ _ _ F F F d3 eZ iA (xs:=K.v) d' (nQ K) ?_);intro ck cC dt;have bh:=bM.upd d5 dt ds t.size;refine ac _ _ ((y ck).2 bh) ?_;obtain⟨dv,cx⟩:=aA cC (bh.blk L aB);have cn:=O bh.base;have e5:w.heap.size<cA:=vL L.lt ds;clear ac aw dt cC bh X y aK bR;refine dP ?_;unfold DJ;go_wp2_with (refine bZ F (yH (k:=89) (h:=o) F F F F underlying32 jO es cR ed _) ?_);refine(eI ck cn).mono ?_;rintro x eR ⟨v,rfl,ci, -,a_⟩;obtain⟨ba,bc,rfl, -, -, -, -⟩:=wm ci;obtain⟨cv,cy,aq,co⟩:=bT (xL ci (show w.heap.size+1<=ck.heap.size from cx.lt)) (cx.ext a_) (dv.ext a_) (cn.ext a_);clear ci a_;have al:K.dz=U/\K.key=V/\K.prev=W:=by rw[cs.out];exact⟨F,F,F⟩
 have b9:K.dz.length=16:=by rw[al.1];exact GV
 have cb:K.key.length=16:=by rw[al.2.1];exact rU
 have cc:K.prev.length=32:=by rw[al.2.2];exact GX
 have eM:=aq.cell' (aR.afs b9 cb cc);have er:=aq.frozen 67;have bv:=O (And.intro b9 (And.intro cb cc));clear al b9 cb cc;go_upto_region 15 with(fail);generalize ce:World.setCell eR _ _=bs;obtain⟨ab,b5⟩:=mP ({K with ba:=ba,bn:=N,bc:=bc,body:=aa}:aR);have cD:au bs cA ab.v 34:=by rw[<-ce,b5,<-aR.alQ K ba N bc aa bv.1 bv.2.1 bv.2.2];exact aq.set 67 _
 have br:=kE ce;have a2:ab=⟨ao,ap,(x8.toNat:Int),U,V,W,ba,N,bc,aa⟩:=by rw[b5,cs.out]
 obtain⟨HR,dy,a8,em,bt,ei⟩:=jW a2 cD (aR.len' (e:=ab) (by rw[a2];exact GV) (by rw[a2];exact rU) (by rw[a2];exact GX)) (cy.upd br J) (br.ext co J) (R6 cv br aq bS);clear ce eM er b5 a2 cD br aq cy co cv;obtain⟨C,y,aK,bR⟩:=fK (show bM bs bs [] [] bs from bM.iP (aj.refl _) (dR.none _));have a3:∀f,C f->d9 f ⟨b,off+p+o*1,none⟩ (ai.map Y):=λf h1=>d2.ext (bt.ext ((y f).1 h1).base);refine fF λX=> ?_;refine ay 0 ?_;refine ay 1 ?_;refine ay 2 ?_;refine aV 3 F (aY F (λf _=>yG (k:=o) F F F underlying32 jO cR f)) ?_;refine ay 5 ?_;refine ay 6 ?_;refine ay 7 ?_;refine aV 8 F (aY F (λf _=>ZM (k:=o) eh F F F underlying32 jO J f)) ?_;refine aV 9 F (aY F (λf _=>Bg (n:=32) F F underlying31 J f)) ?_;refine aV 10 F (aY F (λf h=>cB F F (a3 f h) FR eg)) ?_;refine aT 4 ?_;intro aw ac;go_wp2_with fail;refine((dk _ (bt.ext ((y _).1 X).base))).mono ?_;rintro e cl ⟨rfl,cL⟩;replace X:=aK _ _ X cL;go_wp2_with fail;refine ac _ _ X ?_;clear ac aw cL;refine aL ?_;refine aV 11 F (aY F (λf _=>pQ F F F Q7 eK f)) ?_;have az:=((y cl).1 X).base;obtain⟨cz,cm,cp,cw⟩:=bT (em.ext az) (dy.ext az) (bt.ext az) (iy ei az);clear X y aK bR a3 az;refine dP ?_;cases cj:(S==ai)with
 |false=>
  have z:=O (show ek=(D6,0,13) by have h:=nL.out;rw[cj,aN F]at h;exact h.symm);clear nL;go_wp2_with fail;refine(LW 13 cl).mono ?_;rintro x a6 ⟨rfl,m⟩;obtain⟨P,I⟩:=aA (cz.ext m) (cp.ext m);clear m;go_wp2_with (refine aZ F _ _ _ F F F P eZ iA (xs:=gB.v) iA (nQ gB) ?_);intro a7 Q R;go_wp2_with fail;exact Ao F F Q eZ iA F (ag 13 _ z (R.ext I (aQ _)))
 |true=>
 have eU:=nL.out;rw[cj,aJ bS]at eU;replace eU:=Z8 eU;clear nL cj;have nL:=O eU;clear eU;have c8:∀w',w'.ownsRow (w.heap.size+1) 5 1 (.slice ba N bc) N (aa.map Y)->ab.T_ w' w.heap.size:=by
  exact aea
 have cr:=O c8;have b6:ab.p=⟨ao,ap,(x8.toNat:Int),U,V,W,aa⟩:=by rw[HR.out];rfl
 have bm:=O (λw' h=>NR ab w' h);rw[Zv,b6]at bm;have ct:=O b6;obtain⟨el,cT⟩:=aF ((⟨ao,ap,(x8.toNat:Int),U,V,W,aa⟩:lX):lX);rw[cT]at nL bm ct;obtain⟨bu,a0⟩:=aF (rC el);rw[a0]at nL bm;clear c8 b6 cT a0;go_wp2_with (refine dA F 34 (.tmp 12) F F cm eZ a8 ?_);refine(bm cl (cr _ cw).1).mono ?_;rintro x eS ⟨rfl,aE⟩;obtain⟨bx,dC,cq,ej⟩:=bT (cz.ext aE) (cm.ext aE) (cp.ext aE) (iy cw aE);clear aE;rcases nL.out with⟨bp,a1⟩|⟨bp,a1⟩
 ·subst bp;have z:=O a1;have cf:=et.out;have cg:=ev.out;have ch:=ew.out;clear nL a1;go_wp2_with (first|(refine dA F 34 (.tmp 12) F F dC eZ a8 ?_)|(refine aZ F _ _ _ F F F bx eZ iA (xs:=ab.v) a8 (nQ ab) ?_));intro e' en du;go_wp2_with fail;refine Ao F F en eZ a8 F ⟨ab,?_,cr _ (R6 ej du bx bS),?_,du.ext cq (aQ _)⟩
  ·rw[bw.out,z.out,show((p+M:Nat):Int)=(p:Int)+89+(N:Int)+32 by clear bw;omega];rfl
  ·rw[bw.out,z.out,ct.out]
 ·have z:=O a1;have e0:(bu != 0)=true:=by simpa using bp
  clear nL a1 bp;go_wp2_with fail;refine(LW bu eS).mono ?_;rintro x a6 ⟨rfl,m⟩;obtain⟨P,I⟩:=aA (bx.ext m) (cq.ext m);clear m;go_wp2_with (refine aZ F _ _ _ F F F P eZ iA (xs:=gB.v) iA (nQ gB) ?_);intro a7 Q R;go_wp2_with fail;exact Ao F F Q eZ iA F (ag bu _ z (R.ext I (aQ _)))
section
section
variable {P:Program} {ops:Array Oper} {Q:Exit->Act->World->Prop} {T S:World->Prop} {W:List Nat}
def rP(P:Program)(ops:Array Oper)(Q:Exit->Act->World->Prop)(T S:World->Prop)(W:List Nat):Nat->Array Bool->Act->World->Prop
 |0,aH,a,w=>ready .any ops aH=[]/\Q .normal a w
 |f+1,aH,a,w=>(ready .any ops aH=[]->Q .normal a w)/\
  ∀i∈ready .any ops aH,wpOp P ops Q i (λb w'=>(T w'/\(W.contains i=false->S w->S w'))/\rP P ops Q T S W f (aH.setIfInBounds i true) b w') a w
def aeC:∀(f:Nat) (b:Array Bool) (a:Act) (w:World),rP P ops Q T S W f b a w->wpAny P .any ops Q f b a w
 |0,_,_,_,h=>h
 |f+1,_,_,_,h=>⟨h.1,λi e=>AO (λc w' d=>aeC f _ c w' d.2) (h.2 i e)⟩
def XU{I:World->Prop}{i:Nat}{n:Oper}{v:Value}(z:ops[i]? =some n)(K:∀(j:Nat) (o:Oper) cs b,ops[j]? =some o->o.op≠.select cs b)
 (R:∀d j w w',GQ ops d->(d.getD i false=true->False)->j∈ready .any ops d->(T w'/\(W.contains j=false->S w->S w'))->I w->I w')
 (U:∀c a w,Q (.panic c) (a.put n.dst v) w->Q (.panic c) a w):
 ∀(f:Nat) (d:Array Bool) (a:Act) (w:World),GQ ops d->
  (∀j p,ops[j]? =some p->j≠i->d.getD j true=false->(∀e∈p.after,binds .any e=true->e.on≠i)->n.apart ops p=true)->
  i∈ready .any ops d->YieldsIf P ops I n v a->I w->T w->
  rP P ops Q T S W f (d.setIfInBounds i true) (a.put n.dst v) w->rP P ops Q T S W (f+1) d a w:=by
 intro f;induction f with
 |zero=>
  intro d a w _ _ m x u y r;refine⟨λh=>(by rw[h]at m;cases m),λj q=> ?_⟩;by_cases g:j=i
  ·subst g;exact x.wpOp z u ⟨⟨y,λ_ h=>h⟩,r⟩
  ·have:=FE q g;rw[r.1]at this;cases this
 |succ f al=>
  intro d a w B C m x u y r;refine⟨λh=>(by rw[h]at m;cases m),λj q=> ?_⟩;by_cases g:j=i
  ·subst g;exact x.wpOp z u ⟨⟨y,λ_ h=>h⟩,r⟩
  ·have t:=r.2 j (FE q g);obtain⟨G,p,A,V⟩:=AP.1 q;have l:=(AP.1 m).1;have D:d.getD i false=true->False:=λh=>by
    simp only[Ca]at h l;cases H:d[i]? with
    |none=>rw[H]at l;simp at l
    |some b=>rw[H]at h l;simp at h l;rw[h]at l;cases l
   have ai:∀e∈p.after,binds .any e=true->e.on≠i:=λe ab aa ac=>by
    have t:=V e ab aa;rw[ac]at t;exact D t
   have N:=wpOp_putIf A (C j p A g G ai) (λcs b=>K i n cs b z) (λcs b=>K j p cs b A) U x t;have ad:∀k ok,ops[k]? =some ok->k≠i->(d.setIfInBounds j true).getD k true=false->
    (∀e∈ok.after,binds .any e=true->e.on≠i)->n.apart ops ok=true:=λk ok ae af L ag=>by
    refine C k ok ae af ?_ ag;by_cases E:j=k
    ·subst E;exact G
    ·rw[getD_set_ne true E]at L;exact L
   refine AO (λM w' s=>⟨s.2.1,al (d.setIfInBounds j true) M w' (B.set q) ad (FE m (Ne.symm g)) s.1 (R d j w w' B D q s.2.1 u) s.2.1.1 ?_⟩) N;rw[AQ _ _ g];exact s.2.2
def anH(i:Nat){d:Oper}{r:List Oper}{v:Value}{f:Nat}{b:Array Bool}{a:Act}{w:World}(e:ops.toList.drop i=d::r)
 (hs:noSelect ops=true)(k:Dq ops b=true)(l:free .any ops b i=true)(m:(ready .any ops b).contains i=true)
 (g:∀c a w,Q (.panic c) (a.put d.dst v) w->Q (.panic c) a w)(n:YieldsIf P ops (λ_=>True) d v a)(j:T w)
 (h:rP P ops Q T S W f (b.setIfInBounds i true) (a.put d.dst v) w):rP P ops Q T S W (f+1) b a w:=
 XU (kJ e) (M0 hs) (λ_ _ _ _ _ _ _ _ _=>trivial) g f b a w (QK k) (Nc (kJ e) l) (by simpa using m) n trivial j h
def aex(i:Nat){d:Oper}{r:List Oper}{v:Value}{f:Nat}{b:Array Bool}{a:Act}{w:World}(g:ops.toList.drop i=d::r)
 (hs:noSelect ops=true)(k:Dq ops b=true)(l:free .any ops b i=true)(m:(ready .any ops b).contains i=true)
 (j:∀c a w,Q (.panic c) (a.put d.dst v) w->Q (.panic c) a w)(n:YieldsIf P ops T d v a)(e:T w)
 (h:rP P ops Q T S W f (b.setIfInBounds i true) (a.put d.dst v) w):rP P ops Q T S W (f+1) b a w:=
 XU (kJ g) (M0 hs) (λ_ _ _ _ _ _ _ h _=>h.1) j f b a w (QK k) (Nc (kJ g) l) (by simpa using m) n e e h
def anI(i:Nat){d:Oper}{r:List Oper}{v:Value}{f:Nat}{b:Array Bool}{a:Act}{w:World}(e:ops.toList.drop i=d::r)
 (hs:noSelect ops=true)(n:(W.all λj=>Gt ops 12 j i)=true)(o:Dq ops b=true)(p:free .any ops b i=true)(q:(ready .any ops b).contains i=true)
 (g:∀c a w,Q (.panic c) (a.put d.dst v) w->Q (.panic c) a w)(t:YieldsIf P ops S d v a)(k:S w)(m:T w)
 (h:rP P ops Q T S W f (b.setIfInBounds i true) (a.put d.dst v) w):rP P ops Q T S W (f+1) b a w:=
 XU (kJ e) (M0 hs) (λb j w w' hd s hj h l=>h.2 (by
  cases hq:W.contains j with
  |false=>rfl
  |true=>exact absurd (WH hd 12 j i (ab9 hj) (z_.1 n j (by simpa using hq))) s) l) g f b a w (QK o) (Nc (kJ e) p) (by simpa using q) t k m h
def TA{i:Nat}{o:Oper}{r:List Oper}{f:Nat}{b:Array Bool}{a:Act}{w:World}(g:ready .any ops b=[i])(n:ops.toList.drop i=o::r)
 (h:∀c:Exit->Act->World->Prop,(∀a w',T w'->(W.contains i=false->S w->S w')->rP P ops Q T S W f (b.setIfInBounds i true) a w'->c .normal a w')->wpList P ops c [o] a w):
 rP P ops Q T S W (f+1) b a w:=by
 refine⟨λd=>(by rw[g]at d;cases d),λj e=> ?_⟩;rw[g]at e;obtain rfl:j=i:=by simpa using e
 exact p9 (kJ n) (h _ λa w' l k m=>⟨⟨l,k⟩,m⟩)
def anG{b:Array Bool}{a:Act}{w:World}(hr:ready .any ops b=[])(h:Q .normal a w):∀f,rP P ops Q T S W f b a w
 |0=>⟨hr,h⟩
 |_+1=>⟨λ_=>h,by rw[hr];simp⟩
def an3{id:Nat}{a:Act}{w:World}(b:P.follows .mixedOrders=true)
 (h:rP P ops Q T S W ops.size (Array.replicate ops.size false) a w.drew):(Code.region id ops true).wp P Q a w:=
 wp_region_any b (aeC _ _ _ _ h)
end
section
variable {P:Program} {ops:Array Oper} {Q:Exit->Act->World->Prop} {T S:World->Prop} {W:List Nat}
def Ay(i:Nat){d:Oper}{r:List Oper}{f:Nat}{b:Array Bool}{a:Act}{w:World}{X:Prop}{v:Value}(h:X)(l:ops.toList.drop i=d::r:=by exact F)(hs:noSelect ops=true:=by kernel_rfl)(j:Dq ops b=true:=by kernel_rfl)(k:free .any ops b i=true:=by kernel_rfl)(m:(ready .any ops b).contains i=true:=by kernel_rfl)(n:wanted d (yielded ops a.tmps)=true:=by exact F)(o:∀w,(λ_=>True) w->(execOp a.eval d).run P w= .ok (.value v) w:=by(intro _ _;go_simp;try with_reducible rfl))(hx:X->rP P ops Q T S W f (b.setIfInBounds i true) (a.put d.dst v) w:=by(intro hx;simp only[Act.put,o_,nk,pF];exact hx))(g:T w:=by exact zo)(e:∀c a w,Q (.panic c) (a.put d.dst v) w->Q (.panic c) a w:=by exact λ_ _ _ h=>h):rP P ops Q T S W (f+1) b a w:=
 anH i l hs j k m e (.inl ⟨n,o⟩) g (hx h)
def anK(i:Nat){d:Oper}{r:List Oper}{f:Nat}{b:Array Bool}{a:Act}{w:World}{X:Prop}{v:Value}{e:Prop}(hf:e)(h:X)(m:ops.toList.drop i=d::r:=by exact F)(hs:noSelect ops=true:=by kernel_rfl)(k:Dq ops b=true:=by kernel_rfl)(l:free .any ops b i=true:=by kernel_rfl)(n:(ready .any ops b).contains i=true:=by kernel_rfl)(o:wanted d (yielded ops a.tmps)=true:=by exact F)(p:e->∀w,T w->(execOp a.eval d).run P w= .ok (.value v) w:=by(intro hf wq jl;have sM:=hf wq jl;go_simp;try with_reducible rfl))(hx:X->rP P ops Q T S W f (b.setIfInBounds i true) (a.put d.dst v) w:=by(intro hx;simp only[Act.put,o_,nk,pF];exact hx))(j:T w:=by exact zo)(g:∀c a w,Q (.panic c) (a.put d.dst v) w->Q (.panic c) a w:=by exact λ_ _ _ h=>h):rP P ops Q T S W (f+1) b a w:=
 aex i m hs k l n g (.inl ⟨o,p hf⟩) j (hx h)
def anL(i:Nat){d:Oper}{r:List Oper}{f:Nat}{b:Array Bool}{a:Act}{w:World}{X:Prop}{v:Value}(l:ops.toList.drop i=d::r)(n:YieldsIf P ops T d v a)(h:X)(hs:noSelect ops=true:=by kernel_rfl)(j:Dq ops b=true:=by kernel_rfl)(k:free .any ops b i=true:=by kernel_rfl)(m:(ready .any ops b).contains i=true:=by kernel_rfl)(hx:X->rP P ops Q T S W f (b.setIfInBounds i true) (a.put d.dst v) w:=by(intro hx;simp only[Act.put,o_,nk,pF];exact hx))(g:T w:=by exact zo)(e:∀c a w,Q (.panic c) (a.put d.dst v) w->Q (.panic c) a w:=by exact λ_ _ _ h=>h):rP P ops Q T S W (f+1) b a w:=
 aex i l hs j k m e n g (hx h)
def anJ(i:Nat){d:Oper}{r:List Oper}{f:Nat}{b:Array Bool}{a:Act}{w:World}{g:Prop}{v:Value}{e:Prop}(hf:e)(h:g)(q:ops.toList.drop i=d::r:=by exact F)(hs:noSelect ops=true:=by kernel_rfl)(n:(W.all λj=>Gt ops 12 j i)=true:=by kernel_rfl)(o:Dq ops b=true:=by kernel_rfl)(p:free .any ops b i=true:=by kernel_rfl)(s:(ready .any ops b).contains i=true:=by kernel_rfl)(t:wanted d (yielded ops a.tmps)=true:=by exact F)(u:e->∀w,S w->(execOp a.eval d).run P w= .ok (.value v) w:=by(intro hf wq jl;have sM:=hf wq jl;go_simp;try with_reducible rfl))(hx:g->rP P ops Q T S W f (b.setIfInBounds i true) (a.put d.dst v) w:=by(intro hx;simp only[Act.put,o_,nk,pF];exact hx))(l:S w:=by exact X)(m:T w:=by exact zo)(k:∀c a w,Q (.panic c) (a.put d.dst v) w->Q (.panic c) a w:=by exact λ_ _ _ h=>h):rP P ops Q T S W (f+1) b a w:=
 anI i q hs n o p s k (.inl ⟨t,u hf⟩) l m (hx h)
end
end
def H6(n:Nat):Code->Option (Array Oper)
 | .region id ops _=>if id=n then some ops else none
 | .seq a b=>match H6 n a with
  |some c=>some c
  |none=>H6 n b
 | .cond _ a b=>match H6 n a with
  |some c=>some c
  |none=>H6 n b
 | .loop c=>H6 n c
 | .block _ c=>H6 n c
 | .scope c=>H6 n c
 |_=>none
def Sd(f:Func)(n:Nat):Array Oper:=((f.body.bind (H6 n)).getD #[])
section
structure Ce(w:World)(B:Nat)(v:Value)(rs:List aR):Prop where
 own:w.ownsRow B 34 68 v rs.length (kX rs)
 ok:∀e∈rs,e.Ok w
 eo:∀e∈rs,∀g,v.ownBlock=some g->lM g e.ba e.bn
section
variable {w w':World} {B:Nat} {v v':Value} {rs:List aR}
def Ce.nil(w:World)(B:Nat):Ce w B (.slice none 0 0) []:=⟨⟨F,.inl ⟨F,F⟩⟩,aB,aB⟩
def Ce.ext(h:Ce w B v rs)(e:aj w w'):Ce w' B v rs:=⟨iy h.own e,λx a=>(h.ok x a).ext e,h.eo⟩
def Ce.upd(h:Ce w B v rs){g:Nat}{vs:aP}{T:TypeId}(u:dF w g w')(d:au w g vs T)(c:34≠T)(f:∀e∈rs,lM g e.ba e.bn):Ce w' B v rs:=
 ⟨JZ h.own u d c,λx b=>(h.ok x b).row (r:=some g) (λq a=>by injection a with a;exact a▸f x b) (zJ u),h.eo⟩
def Ce.aoy(h:Ce w B v rs):∃a c,v= .slice a rs.length c/\uj w a rs.length c rs:=by grind [Ce,uj,j3]
end
end
noncomputable def RH(e:aR):ah:=eY 1 (xu e)
noncomputable def yQ(es:List aR):List (ah):=es.map RH
def aiK(e:aR):(RH e).length=32:=nJ _ _
def RI(es:List aR):iH (yQ es):=λx a=>by
 obtain⟨e,_,rfl⟩:=pI.1 a;exact aiK e
def aiN{es:List aR}{k:Nat}{e:aR}(h:es[k]? =some e):yQ (es.take (k+1))=yQ (es.take k)++[RH e]:=by
 unfold yQ;rw[ny,h,jv];rfl
def aci(a:aO)(n c:Nat)(es:List aR)(w:World)(h:uj w a n c es)(U:∀e∈es,iJ e=0)(a6:n<=65536):
 Calls prog 26 #[.slice a n c] w λx w'=>∃v,x= .returned v/\w'.ownsRow w.heap.size 31 32 v n (dH (yQ es))/\aj w w':=by
 obtain⟨f,am⟩:=aA h U;clear h U;go_enter func26,ntmps26;go_wp2;go_loopw [3,10] (λu i wr=>∃k:Nat,k<=n/\i= .int .i64 (k:Int)/\wr.ownsRow w.heap.size 31 32 u k (dH (yQ (es.take k)))/\aj w wr) (λ_ i _=>n - (intOf i).toNat)
 ·exact⟨0,J,F,⟨F,.inl ⟨F,F⟩⟩,aj.refl _⟩
 ·obtain⟨k,a5,rfl,aa,P⟩:=hrel;obtain⟨b,j⟩:=aA P aa;clear P aa;by_cases T:k<n
  ·obtain⟨r,d⟩:∃r,es[k]? =some r:=⟨es[k]'(by rw[f.hl];exact T),aB⟩;obtain⟨A,rfl,S⟩:=(f.ext b).at d;obtain⟨I,g,L⟩:=aW S ((f.ext b).ok r (f_ d)) (am r (f_ d));obtain⟨t,al⟩:=aA (aR.len g) (aiN d);have af:=O (Er g L).2.2.2.2.2.2;clear S d;go_wp2_with (first|(refine bZ F (gD (i:=k) F F F underlying24 Xp T _) ?_)|(refine bZ F (cB F F I eZ t) ?_)|(refine aZ F _ (.tmp 5) _ F F F (au.bK (vs:=gB.v) F F) eZ iA t (nQ r) ?_));intro ac N ab;have l:aj wr ac:=ab.ext ((aj.refl wr).alloc _) (aQ _);obtain⟨G,H,s,M⟩:=bT N (b.ext l) (g.ext l) (iy j l);clear N ab l g I j b;generalize wr.heap.size=a3 at*;go_wp2_with (refine dA F 34 (.tmp 5) F F G eZ t ?_);refine(acz r ac s).mono ?_;rintro x a2 ⟨C,⟨z,v,rfl,ow⟩|⟨z,rfl⟩⟩
   ·have ae:=O (H.ext C);have an:=O (iy M C);obtain⟨ap,aq,rfl,ar,aw,ax,R⟩:=wm ow;obtain⟨ag,aE⟩:=aA R (show(xu r).length=121+r.bn from U7 s);clear ow z R C H s M G ar aw ax;go_wp2_with fail;refine(ach (xu r) ap (121+r.bn) aq a2 aE (by have:=af.out;omega) ag).mono ?_;rintro a7 ad ⟨rfl,D⟩;obtain⟨p,B⟩:=aA (ae.ext D) (iy an D);obtain⟨o,m⟩:=aF (eY 1 (xu r));obtain⟨ai,K⟩:=aA (show RH r=o from m) (show o.length=32 by rw[<-m];exact nJ _ _);rw[m];have a4:=p.size;clear D m;go_wp2_with (first|(refine Mx F F F K ?_)|(refine PL F _ _ F w.heap.size F F (iy B ((aj.refl _).alloc _)) K (au.bK (vs:=o.map Y) F F) J (by rw[jf];omega) ?_));intro a1 w' V Q _;have E:aj ad (alloc ad (.cells (o.map Y).toArray 31)):=(aj.refl _).alloc _;have W:=iy B E;obtain⟨y,ao⟩:=aA (show aj w w' from(p.ext E).grown Q (λq a0=>(W.lt q a0).1)) (show w'.ownsRow w.heap.size 31 32 a1 (k+1) (dH (yQ (es.take (k+1)))) by rw[al.out,ai.out];exact V);clear V Q B p E W;go_wp2;go_roundw
    ·exact⟨k+1,J,by go_num,ao,y⟩
    ·exact fV
   ·exact absurd L.out z
  ·obtain rfl:k=n:=J;have az:es.take k=es:=gY (by rw[f.hl];exact aQ _);rw[az]at j;have y:=O b.out;go_wp2
   (try go_ret)
   exact⟨_,F,j,y⟩
def F9(C T:Int)(b r2:ah):∀v∈iX C T b r2,v.oneCell'=true:=by
 intro v a;unfold iX at a;rcases gM.1 a with rfl|a
 ·rfl
 rcases gM.1 a with rfl|a
 ·rfl
 rcases kU.1 a with h|h
 ·exact dw _ v h
 ·exact dw _ v h
def R4{w:World}{B:Nat}{e:TypeId}{z n c:Nat}{a:aO}{m:Nat}{xs:aP}(h:w.ownsRow B e z (.slice a n c) m xs):c<=9223372036854775807:=by
 rcases h.2 with⟨b,_⟩|⟨g,cap,i,b,_,_,_,f,_⟩
 ·injection b with _ _ d;omega
 ·injection b with _ _ d;subst d;unfold maxLen at f;omega
noncomputable def LB(es:List aR):aP:=match es.getLast? with
 |none=>iX 0 0 fT fT
 |some e=>iX es.length e.time (pO e) (lV dN (yQ es))
noncomputable def ajG(n:Nat):Array Oper:=Sd f16 n
def akM(a:aO)(n c:Nat)(es:List aR)(w:World)(h:uj w a n c es)(l:∀e∈es,iJ e=0)(W:n<=65536):
 eO 16 #[.slice a n c] w (.agg (LB es).toArray):=by
 obtain⟨ar,bd⟩:=aA h l;by_cases y:n=0
 ·have S:es=[]:=qm.1 (by rw[h.hl,y]);subst y;have az:=O (show LB es=iX 0 0 fT fT by rw[S];rfl);clear h l S;go_enter func16,ntmps16;go_wp2_with (refine aZ F _ _ _ F F F (au.bK (vs:=iX 0 0 fT fT) F F) iW (by rfl) (xs:=iX 0 0 fT fT) (by rfl) bS ?_);intro b a6 bb;go_wp2_with fail;exact jS F F a6 iW (by rfl) F ⟨by rw[az.out],bb.ext ((aj.refl w).alloc _) (aQ _)⟩
 ·obtain⟨r,k⟩:∃r,es[n - 1]? =some r:=⟨es[n - 1]'(by rw[h.hl];omega),aB⟩;have U:es.getLast? =some r:=by rw[Uc,h.hl];exact k
  obtain⟨I,a2⟩:=aA (h.ok r (f_ k)) (l r (f_ k));obtain⟨q,ax⟩:=aA (aR.len I) (show LB es=iX n r.time (pO r) (lV dN (yQ es)) by unfold LB;rw[U,h.hl]);obtain⟨A,rfl,R⟩:=h.at k;obtain⟨aq,L,K⟩:=aW R (F3 r) (show(lV dN (yQ es)).length=32 from Ar dN lU (RI es));have a':n - 1<n:=J;have bi:((n:Int) - 1)=((n - 1:Nat):Int):=J;have be:=bU ((n:Int)=0);have bh:=bg y;have a0:=O (λb (a7:aj w b)=>aci (some A) n c es b (h.ext a7) l W);clear h l k U R;go_enter func16,ntmps16;go_upto_region 3 with fail;generalize D:alloc w _=G;have u:=dS D;obtain⟨B0,am,ap⟩:=aW (dX D (iX 0 0 fT fT) 46) u (aq.ext u);clear D u;obtain⟨x,m⟩:=aF w.heap.size;have aw:=O m;rw[m]at B0
  conv=>rw[m]
  clear m;go_upto_region 4 with(first|(refine bZ F (gD (i:=n - 1) F F F underlying24 Xp a' _) ?_)|(refine bZ F (cB F F ap eZ q) ?_)|(refine aZ F _ (.tmp 3) _ F F F (au.bK (vs:=gB.v) F F) eZ iA q (nQ r) ?_));intro o M ac;have v:aj G o:=ac.ext ((aj.refl _).alloc _) (aQ _);obtain⟨p,ai,an⟩:=aW M (B0.ext v) (am.ext v);have a4:=O I.out;have a1:=O (show x<G.heap.size from B0.lt);clear M ac v;generalize G.heap.size=Q at*;go_upto_region 4 with fail;obtain⟨C,f,aK,bR⟩:=fK (show bM w o [Q] [(x,66,46)] o from bM.Gn an (dR.one p.lt) ai (Ih _ _ F F));have N:∀b,C b->b.cell? ⟨Q,1,none⟩=some (.int .i64 r.time):=λb a8=>(((f b).1 a8).blk p aB).cell' (aR.Ci r);refine fF (ops:=(ajG 4)) λX=> ?_;refine ay 0 ?_;refine ay 1 ?_;refine ay 2 ?_;refine dW 3 (N) ?_;refine aV 4 F (gP F 34 _ F F (λb h=>((f b).1 h).blk p aB) eZ q) ?_;refine ay 6 ?_;generalize drew o=ae at X⊢;refine aT 5 ?_;intro g d;go_wp2_with fail;refine((WJ r ae (a4.ext ((f ae).1 X).base) a2)).mono ?_;rintro e af ⟨rfl,j⟩;replace X:=aK _ _ X j;go_wp2_with fail;refine d _ _ X ?_;clear d g j;refine aL ?_;refine aT 7 ?_;intro g d;go_wp2_with fail;refine(a0 af ((f af).1 X).base).mono ?_;rintro bl bc ⟨bj,rfl,E,P⟩;obtain⟨ba,ab,rfl,a_, -,V⟩:=j3 E;have a9:ab<=9223372036854775807:=R4 E;have z:=aK _ _ X P;have aE:=O V;go_wp2_with fail;refine d _ _ z ?_;clear d g X E P V;have X:=z;clear z;refine aL ?_;refine aT 8 ?_;intro g d;go_wp2_with fail;refine((Md n (yQ es) ab ba bc (by unfold yQ;rw[aI,ar.hl]) J W (RI es) a_ a9 aE)).mono ?_;rintro e ag ⟨rfl,j⟩
  replace X:=aK _ _ X j;go_wp2_with fail;refine d _ _ X ?_;clear d g j;refine aL ?_;refine aV 9 F (aY F (λb _=>agK F F F F F L K b)) ?_;obtain⟨bk,aa,zb⟩:=((f ag).1 X).qo (r:=x) (n:=66) (T:=46) aB;obtain⟨a5,a3,s⟩:=aW zb aa (Ih (n:Int) r.time L K);clear zb aa;refine aT 10 ?_;intro g d;go_wp2_with (refine aZ F _ _ _ F F F a5 iW a3 s (F9 _ _ _ _) ?_);intro H t ad;have B:C H:=(f H).2 (((f ag).1 X).store ad t (by simp[s.out]) (by have:=aw.out;omega) (by simp;have:=a1.out;omega));have al:=O t;go_wp2_with fail;refine d _ _ B ?_;have ao:=O ((f H).1 B).base;clear d g X t ad B;refine aL ?_;refine dP ?_;clear aK f bR N C;go_wp2_with fail;exact jS F F al iW s F ⟨by rw[ax.out],ao⟩
def oO(n:Int):Nat:=(BitVec.ofInt 64 n &&& BitVec.ofInt 64 (3:Int)).toNat
def Ba(n:Int)(m:Nat)(a:m<9223372036854775808):(BitVec.ofInt 64 n &&& BitVec.ofInt 64 (m:Int)).toNat<=m:=by
 rw[Qm];refine dJ Nat.and_le_right ?_;rw[M_];omega
def YQ(n:Int):oO n<=3:=Ba n 3 J
def Ch(n:Int)(m:Nat)(a:m<9223372036854775808):bits BinOp.and IntKind.i64 n (m:Int)=((BitVec.ofInt 64 n &&& BitVec.ofInt 64 (m:Int)).toNat:Int):=by
 have h:bits BinOp.and IntKind.i64 n (m:Int)=IntKind.i64.wrap ((BitVec.ofInt 64 n &&& BitVec.ofInt 64 (m:Int)).toNat:Int):=F;rw[h];exact fJ _ (by have:=Ba n m a;omega)
def YP(n:Int):bits BinOp.and IntKind.i64 n 3=(oO n:Int):=Ch n 3 J
def tX(i:Nat):ah:=replicate 15 0++[UInt8.ofNat (1+i)]
def LP(i:Nat):ah:=7::(replicate 14 0++[UInt8.ofNat i])
def EP(i:Nat):(tX i).length=16:=by unfold tX;simp
def VH(i:Nat):(LP i).length=16:=by unfold LP;simp
def BD(n:Int)(w:World):Calls prog 47 #[.int .i64 n] w λx w'=>x= .returned (.agg ((tX (oO n)).map Y).toArray)/\aj w w':=by
 have k:=YP n;have l:=YQ n;generalize oO n=i at*;have f:wrap64 1=1:=by unfold wrap64;omega
 have g:wrap64 2=2:=by unfold wrap64;omega
 have h:wrap64 3=3:=by unfold wrap64;omega
 have j:wrap64 4=4:=by unfold wrap64;omega
 rcases(show i=0∨i=1∨i=2∨i=3 by omega)with rfl|rfl|rfl|rfl
 all_goals
  (
   go_enter func47,ntmps47;go_upto_region 1 with fail;generalize a:alloc w _=m;obtain⟨b,c⟩:=aA (dX a (replicate 16 (.int .u8 0)) 29) (dS a);clear a;go_wp2_with (refine aZ F _ _ _ F F F b eu aB F (by repeat (first|exact forall_mem_nil _|refine forall_mem_cons.2 ⟨F,?_⟩)) ?_);intro o d e;go_wp2_with fail;exact jS F F d eu F F ⟨F,e.ext c (aQ _)⟩)
def VG(n:Int)(w:World):Calls prog 49 #[.int .i64 n] w λx w'=>x= .returned (.agg ((LP (oO n)).map Y).toArray)/\aj w w':=by
 have k:=YP n;have l:=YQ n;generalize oO n=i at*;have f:wrap64 1=1:=by unfold wrap64;omega
 have g:wrap64 2=2:=by unfold wrap64;omega
 have h:wrap64 3=3:=by unfold wrap64;omega
 have j:wrap64 4=4:=by unfold wrap64;omega
 rcases(show i=0∨i=1∨i=2∨i=3 by omega)with rfl|rfl|rfl|rfl
 all_goals
  (
   go_enter func49,ntmps49;go_upto_region 1 with fail;generalize a:alloc w _=m;obtain⟨b,c⟩:=aA (dX a (replicate 16 (.int .u8 0)) 29) (dS a);clear a;go_wp2_with (refine aZ F _ _ _ F F F b eu aB F (by repeat (first|exact forall_mem_nil _|refine forall_mem_cons.2 ⟨F,?_⟩)) ?_);intro o d e;go_wp2_with fail;exact jS F F d eu F F ⟨F,e.ext c (aQ _)⟩)
section
open Go Go.RowKit Go.Shelf Go.Sort
section
variable {α:Type} [Inhabited α] {enc:α->aP} {k:Nat}
def je(enc:α->aP)(ls:List α):aP:=ls.flatMap enc
variable (hk:∀x,(enc x).length=k)
include hk
omit [Inhabited α]in
def Iy(ls:List α):(je enc ls).length=k*ls.length:=by
 unfold je;induction ls with
 |nil=>rfl
 |cons x l a=>rw[yh,bQ,hk,a,iU,Nat.mul_succ];omega
omit [Inhabited α]in
def WS{j:Nat}(hj:j<k){x:α}:∀(ls:List α) (i:Nat),ls[i]? =some x->(je enc ls)[k*i+j]? =(enc x)[j]?
 |[],_,h=>by simp at h
 |y::ls,0,h=>by
  simp only[P_,wY]at h;subst h;show(enc y++je enc ls)[k*0+j]? =_;rw[zY (by rw[hk];omega),G_,kD]
 |y::ls,i+1,h=>by
  rw[uN]at h;show(enc y++je enc ls)[k*(i+1)+j]? =_;rw[yc (by rw[hk,Nat.mul_succ];omega),hk,show k*(i+1)+j - k=k*i+j by rw[Nat.mul_succ];omega];exact WS hj ls i h
def Z'(d:Array α):flatK enc k d=(je enc d.toList).toArray:=by
 have j:(je enc d.toList).length=d.size*k:=by rw[Iy hk,FD];simp
 refine ext_get! (by rw[size_flatK];simp[j]) λt b=> ?_;rw[size_flatK]at b;rw[get_flatK enc k d t b];have e:0<k:=by
  rcases Nat.eq_zero_or_pos k with h|h
  ·subst h;simp at b
  ·exact h
 have a:t / k<d.size:=Nat.div_lt_of_lt_mul (by rw[FD];exact b);have l:d.toList[t / k]? =some (d[t / k]'a):=by rw[KI,Array.getElem?_eq_getElem a]
 have c:=WS hk (Jk t e) d.toList (t / k) l;rw[Nat.div_add_mod]at c;have i:(enc d[t / k]!)[t%k]! =(enc (d[t / k]'a))[t%k]! :=by rw[Jh d (t / k) a]
 rw[i];have f:t%k<(enc (d[t / k]'a)).length:=by rw[hk];exact Jk t e
 have g:t<(je enc d.toList).length:=J;rw[Jh (enc (d[t / k]'a)) (t%k) f,Jh (je enc d.toList).toArray t (by simpa using g)];rw[mG f,mG g]at c;simpa using(zZ c).symm
def ahV{w:World}{g:Nat}{d:Array α}{rest:aP}{T:TypeId}(b:au w g (je enc d.toList++rest) T):HoldsK enc k w g 0 d:=by
 unfold HoldsK;rw[Z' hk];intro j c;have a:j<(je enc d.toList).length:=by simpa using c
 refine⟨?_,b.frozen _⟩;rw[kD];refine b.cell' ?_;rw[zY a,mG a,Jh _ _ (by simpa using a)];simp
def amg{w:World}{g:Nat}{ls:List α}{rest:aP}{T:TypeId}(b:au w g (je enc ls++rest) T)(d:Array α)(n:Nat)(os:Array Obj)(hs:d.size=ls.length):
 au (sortWorldK enc k w g 0 n d os) g (je enc d.toList++rest) T/\w.grownBy (sortWorldK enc k w g 0 n d os) (some g):=by
 have c:=b.lt;have f:(je enc d.toList).length=(je enc ls).length:=by rw[Iy hk,Iy hk];simp[hs]
 constructor
 ·unfold au at b⊢;unfold sortWorldK putRowK putRow mapBlock grow;show(Array.modify w.heap g _++os)[g]? =_;rw[P6 (by simpa using c),MZ,aN F,b,Z' hk];simp only[jr,onCells,wY,Obj.cells.injEq,and_true];unfold putCells;apply Array.ext_getElem?;intro i;simp only[Array.getElem?_mapIdx,Qb,kD,w_,true_and,Nat.sub_zero,id_eq,zh];by_cases a:i<(je enc ls).length
  ·rw[zY a,mG a,zY J,mG (by omega:i<(je enc d.toList).length)];simp only[jr];rw[aN J,Jh _ _ (by simpa using(by omega:i<(je enc d.toList).length))];simp
  ·rw[yc J,yc J,f];cases rest[i - (je enc ls).length]? with
   |none=>rfl
   |some v=>
    simp only[jr];rw[aJ J]
 ·refine⟨F,F,F,?_,λi a j=> ?_⟩
  ·unfold sortWorldK putRowK putRow mapBlock grow;show w.heap.size<=(Array.modify w.heap g _++os).size;simp
  ·unfold sortWorldK putRowK putRow mapBlock grow;show(Array.modify w.heap g _++os)[i]? =_;have e:¬g=i:=λh=>j (by rw[h]);rw[P6 (by simpa using a),MZ,aJ e];try rfl
omit hk in
def amh{b:α->α->Int}{d a:Array α}{n:Nat}(r:d.size=n)(s:PermIn 0 n d a)(hs:SortedIn (ltOf b) 0 n a):
 a.size=n/\a.toList.Perm d.toList/\a.toList.Pairwise (λx y=>¬b y x<0):=by
 obtain⟨t,_,c⟩:=s;have e:a.size=n:=J;have f:(a.extract 0 n).toList=a.toList:=by rw[<-e];simp
 have g:(d.extract 0 n).toList=d.toList:=by rw[<-r];simp
 rw[f,g]at c;refine⟨e,c,?_⟩;refine pairwise_iff_getElem.2 λi j l p o=> ?_;have m:i<a.size:=by simpa using l
 have q:j<a.size:=by simpa using p
 have h:=hs i j (w_ _) o J;rw[Jh a i m,Jh a j q]at h;have k:decide (b a[j] a[i]<0)=false:=h;simpa using k
end
def Xt{P:Program}{j:Ren}{b:Type}[Inhabited b]{a:b->aP}{k:Nat}(r:SlLaysF0.n6 P j)(z:∀w,(isAgg (j.t 24)).run P w= .ok true w)(aa:∀w,(Go.sizeOf (j.t 24)).run P w= .ok k w)(h:∀x,(a x).length=k)(G:∀x,∀v∈a x,v.oneCell'=true)
 (c:b->b->Int)(I:SWO (ltOf c))(f:Nat)(Q:∀(x y:b) (w:World),Calls P f #[.agg (a x).toArray,.agg (a y).toArray] w λe w'=>e= .returned (.int .i64 (c x y))/\mg w w')(E:∀s w,(callFunc f s).run P w= .ok (.enter f s) w)
 {w:World}{B n:Nat}{e:TypeId}{v:Value}{ls:List b}(q:w.ownsRow B e k v n (je a ls))(i:ls.length=n)(S:n<4611686018427387904):
 Calls P (j.f 6) #[v,.func (.func f) #[] #[]] w λx w'=>x= .returned (.tuple #[])/\∃es,es.Perm ls/\es.Pairwise (λx y=>¬c y x<0)/\w'.ownsRow B e k v n (je a es)/\w.grownBy w' v.ownBlock:=by
 rcases q.2 with⟨rfl,rfl⟩|⟨g,cap,l,rfl,K,R,u,L,M,N⟩
 ·refine(AnyF.slices_SortFunc_none r none 0 (.func (.func f) #[] #[]) w).mono ?_;rintro x w' ⟨rfl,rfl⟩;have:ls=[]:=qm.1 i;subst this;exact⟨F,[],List.Perm.refl _,List.Pairwise.nil,q,Ib w' _⟩
 ·have o:au w g (je a ls++l.toList.drop (n*k)) e:=by
   unfold au;rw[R,<-N,AX]
  have H:HoldsK a k w g 0 ls.toArray:=ahV h (rest:=l.toList.drop (n*k)) (T:=e) (by simpa using o);have t:=AnyQ.slices_SortFunc r k z aa a h G c I f #[] g 0 cap ls.toArray w E (λm os D _ x y=>Q x y (sortWorldK a k w g 0 m D os)) H o.lt (by simpa[i]using S);have hs:ls.toArray.size=n:=by simpa using i
  rw[hs]at t;refine t.mono ?_;rintro x w' ⟨rfl,d,W,os,V,U,rfl⟩;obtain⟨k1,k2,k3⟩:=amh hs V U;obtain⟨A,C⟩:=amg h o d W os (by rw[k1,i]);refine⟨F,d.toList,by simpa using k2,k3,?_,C⟩;have p:(je a d.toList).length=n*k:=by rw[Iy h,FD];simp[k1]
  refine⟨p,.inr ⟨g,cap,(je a d.toList++l.toList.drop (n*k)).toArray,F,K,A,u,L,?_,?_⟩⟩
  ·have:=q.1;rw[zh,bQ,p,iI,pz,M];have:n*k<=cap*k:=Ho _ u;omega
  ·rw[<-p];simp
def UC{P:Program}{f:FuncId}{B:Func}(h:(((P.funcs[f]?).map (λx=>x.name)).getD "" == "runtime.NumGoroutine")=false)(a:P.funcs[f]? =some {B with name:=((P.funcs[f]?).map (λx=>x.name)).getD ""}):Bears P f B:=⟨_,h,a⟩
end
def amb:Go.Shelf.Ren:=⟨fun|6=>196 |15=>176 |14=>256 |28=>223 |29=>224 |20=>309 |21=>310 |22=>311 |23=>312 |24=>313 |25=>314 |26=>315 |27=>316 |46=>340 |47=>286 |48=>287 |49=>341 |50=>342 |57=>349 |n=>n,fun|22=>225 |24=>228 |25=>284 |3=>3 |39=>141 |0=>0 |53=>239 |55=>246 |4=>4 |46=>314 |45=>313 |50=>82 |5=>5 |9=>9 |66=>360 |70=>364 |76=>389 |77=>390 |n=>n,fun|n=>n⟩
def ama:Go.Proofs.SlLaysF0.n6 prog amb:=by repeat' first|kernel_rfl|(intro _;kernel_rfl)|exact UC aC aC|constructor
structure qD where
 id:ah
 r:j_
def qD.v(m:qD):aP:=m.id.map Y++[m.r.v]
def qD.zero:qD:=⟨jo,.nil⟩
def Ot:(prog.info? 228).map (λi=>(i.zero,i.size,i.bytes))=some (some (.agg qD.zero.v.toArray),17,40):=aC
def ag8:(prog.underlying 228).bind (λd=>match d with| .struct a=>a.toList.mapM (λf=>(prog.info? f.type).map λi=>(f.offset,i.size))|_=>none)=some [(0,16),(16,1)]:=aC
structure uP where
 ask:ah
 who:ah
 x:gN
def uP.v(r:uP):aP:=r.ask.map Y++(r.who.map Y++[r.x.r.v,.int .i64 r.x.t])
def uP.zero:uP:=⟨wL,jo,.zero⟩
def Ou:(prog.info? 232).map (λi=>(i.zero,i.size,i.bytes))=some (some (.agg uP.zero.v.toArray),50,80):=aC
def aha:(prog.underlying 232).bind (λd=>match d with| .struct a=>a.toList.mapM (λf=>(prog.info? f.type).map λi=>(f.offset,i.size))|_=>none)=some [(0,32),(32,16),(48,2)]:=aC
def afN(x:ah)(sa:aO)(sn sc:Nat)(l:bq)(a:x.length=16):prog.built 228 [(0,agg (x.map Y).toArray),(1,slice sa sn sc)]=some (qD.v ⟨x,⟨sa,sn,sc,l⟩⟩).toArray:=by
 obtain⟨h,d,e,g,f⟩:=gJ Ot;have b:=ag8;rw[underlying228]at b;simp only[AV]at b;unfold Program.built;rw[d,underlying228];simp only[e,b];have c:(agg qD.zero.v.toArray).cells=((([]:aP))++(zb 16)++([slice none 0 0])).toArray:=F;rw[c,lF (([]:aP)) (zb 16) ([slice none 0 0]) F (by simp[zb,a]) (by simp[cells,a]) (by simp[zb])];have g1:(([]:aP))++(agg (x.map Y).toArray).cells.toList++([slice none 0 0])=((x.map Y))++[slice none 0 0]++(([]:aP)):=by simp[cells,zb]
 rw[g1,lF ((x.map Y)) [slice none 0 0] (([]:aP)) F (by simp[zb,a]) (by simp[cells,a]) (by simp[zb])];rw[Instr.fill];simp[cells,zb,qD.v,j_.v]
def agO{o:Oper}{a:Act}{b c:Operand}{x:ah}{sa:aO}{sn sc:Nat}{l:bq}(i:o.op= .build 228 #[(0,b),(1,c)])(d:a.eval b=agg (x.map Y).toArray)(e:a.eval c=slice sa sn sc)(j:x.length=16)(w:World):(execOp a.eval o).run prog w= .ok (.value (.agg (qD.v ⟨x,⟨sa,sn,sc,l⟩⟩).toArray)) w:=by
 have h:=B_ (P:=prog) w 228 #[(0,agg (x.map Y).toArray),(1,slice sa sn sc)] _ (afN x sa sn sc l j);have g:(#[(0,b),(1,c)].map λ(r:Nat×Operand)=>(r.1,a.eval r.2))= #[(0,agg (x.map Y).toArray),(1,slice sa sn sc)]:=by simp[d,e]
 unfold execOp;simp only[i,iC];have f:(Instr.build 228 (#[(0,b),(1,c)].map λ(r:Nat×Operand)=>(r.1,a.eval r.2))).run prog w= .ok (.agg (qD.v ⟨x,⟨sa,sn,sc,l⟩⟩).toArray) w:=by rw[g];exact h
 rw[f];rfl
def afP(x y:ah)(sa:aO)(sn sc:Nat)(l:bq)(t:Int)(a:x.length=32)(b:y.length=16):prog.built 232 [(0,agg (x.map Y).toArray),(1,agg (y.map Y).toArray),(2,agg #[slice sa sn sc,int .i64 t])]=some (uP.v ⟨x,y,⟨⟨sa,sn,sc,l⟩,t⟩⟩).toArray:=by
 obtain⟨j,f,g,i,h⟩:=gJ Ou;have c:=aha;rw[underlying232]at c;simp only[AV]at c;unfold Program.built;rw[f,underlying232];simp only[g,c];have d:(agg uP.zero.v.toArray).cells=((([]:aP))++(zb 32)++((zb 16)++[slice none 0 0,int .i64 0])).toArray:=F;rw[d,lF (([]:aP)) (zb 32) ((zb 16)++[slice none 0 0,int .i64 0]) F (by simp[zb,a,b]) (by simp[cells,a,b]) (by simp[zb])];have g1:(([]:aP))++(agg (x.map Y).toArray).cells.toList++((zb 16)++[slice none 0 0,int .i64 0])=((x.map Y))++(zb 16)++([slice none 0 0,int .i64 0]):=by simp[cells,zb]
 rw[g1,lF ((x.map Y)) (zb 16) ([slice none 0 0,int .i64 0]) F (by simp[zb,a,b]) (by simp[cells,a,b]) (by simp[zb])];have e:((x.map Y))++(agg (y.map Y).toArray).cells.toList++([slice none 0 0,int .i64 0])=((x.map Y)++(y.map Y))++[slice none 0 0,int .i64 0]++(([]:aP)):=by simp[cells,zb]
 rw[e,lF ((x.map Y)++(y.map Y)) [slice none 0 0,int .i64 0] (([]:aP)) F (by simp[zb,a,b]) (by simp[cells,a,b]) (by simp[zb])];rw[Instr.fill];simp[cells,zb,uP.v,j_.v]
def agQ{o:Oper}{a:Act}{b c d:Operand}{x y:ah}{sa:aO}{sn sc:Nat}{l:bq}{t:Int}(k:o.op= .build 232 #[(0,b),(1,c),(2,d)])(e:a.eval b=agg (x.map Y).toArray)(f:a.eval c=agg (y.map Y).toArray)(g:a.eval d=agg #[slice sa sn sc,int .i64 t])(m:x.length=32)(n:y.length=16)(w:World):(execOp a.eval o).run prog w= .ok (.value (.agg (uP.v ⟨x,y,⟨⟨sa,sn,sc,l⟩,t⟩⟩).toArray)) w:=by
 have h:=B_ (P:=prog) w 232 #[(0,agg (x.map Y).toArray),(1,agg (y.map Y).toArray),(2,agg #[slice sa sn sc,int .i64 t])] _ (afP x y sa sn sc l t m n);have j:(#[(0,b),(1,c),(2,d)].map λ(r:Nat×Operand)=>(r.1,a.eval r.2))= #[(0,agg (x.map Y).toArray),(1,agg (y.map Y).toArray),(2,agg #[slice sa sn sc,int .i64 t])]:=by simp[e,f,g]
 unfold execOp;simp only[k,iC];have i:(Instr.build 232 (#[(0,b),(1,c),(2,d)].map λ(r:Nat×Operand)=>(r.1,a.eval r.2))).run prog w= .ok (.agg (uP.v ⟨x,y,⟨⟨sa,sn,sc,l⟩,t⟩⟩).toArray) w:=by rw[j];exact h
 rw[i];rfl
def al8:Go.Shelf.Ren:=⟨fun|6=>139 |15=>176 |14=>194 |28=>223 |29=>224 |20=>247 |21=>248 |22=>249 |23=>250 |24=>251 |25=>252 |26=>253 |27=>254 |46=>302 |47=>286 |48=>287 |49=>303 |50=>304 |57=>335 |n=>n,fun|22=>166 |24=>159 |25=>224 |3=>3 |39=>141 |0=>0 |53=>239 |55=>246 |4=>4 |46=>314 |45=>313 |50=>82 |5=>5 |9=>9 |66=>360 |70=>364 |76=>389 |77=>390 |n=>n,fun|n=>n⟩
def al7:Go.Proofs.SlLaysF0.n6 prog al8:=by repeat' first|kernel_rfl|(intro _;kernel_rfl)|exact UC aC aC|constructor
end Go.Proofs.YtjlhhnkhcbpnjaaGreatDoor
