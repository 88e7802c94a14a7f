/- Laws; no condition. -/
import Derived.Test.YtjlhhnkhcbpnjaaGreatDoorJN2
import Derived.Test.YtjlhhnkhcbpnjaaGreatDoorJN3
import Derived.Lib.ItoaNum
import Derived.IntWalk
import Derived.Lib.SlBytesConst
import Derived.Great.BuildSlice
import Derived.ProofKit
import Derived.OpenShut
import Derived.ChangeSlices
import Derived.WideShapes
import Derived.SizedLaws
import Derived.Deep.Matrix
import Derived.Maps.Keyed
namespace Go.Proofs.YtjlhhnkhcbpnjaaGreatDoor
open Go Go.RowKit List Tryz
open Go.Value(int slice agg cells bool pointer tuple)
open Go.World(alloc)
open Go.Region(ready)
set_option linter.all false
set_option maxHeartbeats 40000000
set_option maxRecDepth 100000
def afB{n:Nat}(h:2<=n)(d:n<=4611686018427387904):∃j,Lib.bitLen (n - 1)=j+1/\j<=61/\2^j=aU n:=by
 have c:=Lib.bitLenAux_bounds 64 (n - 1) J J;have f:=Lib.bitLen_le (n - 1) 62 J J;unfold Lib.bitLen at*;obtain⟨e,a,b⟩:=c;generalize Lib.bitLenAux 64 (n - 1)=m at*;obtain⟨j,rfl⟩:∃j,m=j+1:=⟨m - 1,J⟩;rw[Nat.add_sub_cancel]at a;rw[Qn]at b;exact⟨j,F,J,adk J J⟩
def Kg(n:Nat)(w:World)(h:2<=n)(i:n<=4611686018427387904):
 qR 157 #[.int .i64 (n:Int)] w (.int .i64 (aU n:Nat)):=by
 obtain⟨j,d,l,hs⟩:=afB h i;have b:=O hs;have a:=λw=>aiR ((n - 1:Nat):Int) w J J;rw[su,d]at a;have g:=O a;have c:((n:Int) - 1)=((n - 1:Nat):Int):=J;have f:=O c;have m:=Nat.pow_le_pow_right (n:=2) J l;clear hs a d c;go_enter func157,ntmps157;go_wp2_with fail;rw[f.out];refine(g w).mono ?_;rintro e w' ⟨rfl,rfl⟩;have q:((j+1:Nat):Int) - 1=(j:Int):=J;go_wp2;go_ret;refine⟨ace (aaE ?_),F⟩;have k:((2:Int)^j)=((aU n:Nat):Int):=by rw[<-b.out];push_cast;rfl
 have o:aU n<=2305843009213693952:=by rw[<-b.out];exact dJ m bS
 have p:(aU n:Int)<=2305843009213693952:=J;rw[k,wrap64];omega
def Oa(n:Nat)(w:World)(h:2<=n)(l:n<=2305843009213693952):
 qR 66 #[.int .i64 (n:Int)] w (.int .i64 (aU n:Nat)):=by
 go_enter func66,ntmps66;go_wp2
 go_loop [3] (λk=>∃j:Nat,2^j<n/\k= .int .i64 ((2^j:Nat):Int)) (λk=>n - (intOf k).toNat)
 ·exact⟨0,J,F⟩
 ·obtain⟨j,f,rfl⟩:=hrel;have m:0<2^j:=Nat.pow_pos J;have d:2^(j+1)=2^j*2:=Qn _ _;have c:¬2*2^j<n->2^j=aU n:=λh=>adk f J;obtain⟨a,e⟩:=aA d c;clear d c;generalize b:2^j=p at*;have i:=O b;clear b;by_cases g:2*p<n
  ·go_wp2
   go_round
   ·exact⟨j+1,by rw[a.out];omega,by rw[a.out];go_num⟩
   ·exact fV
  ·go_wp2;go_ret;refine⟨?_,F⟩;rw[e.out g];rfl
def amE(i n:Nat)(w:World)(t:i<n)(B:n<=65536):
 qR 168 #[.int .i64 (i:Int),.int .i64 (n:Int)] w (.int .i64 ((kS i n).length:Nat)):=by
 obtain⟨j,o⟩:=aF ((kS i n).length);have u:=Pm i n;rw[o]at u⊢;have s:=O o;clear o;go_enter func168,ntmps168;go_wp2
 go_loop [0,1,5] (λa b c=>∃f d m:Nat,f<d/\d<=n/\m+(kS f d).length=j/\a= .int .i64 (f:Int)/\b= .int .i64 (d:Int)/\c= .int .i64 (m:Int)) (λ_ b _=>(intOf b).toNat)
 ·exact⟨i,n,0,t,aQ _,by rw[s.out];omega,F,F,F⟩
 ·obtain⟨f,d,m,z,A,q,rfl,rfl,rfl⟩:=hrel;have g:=O q;have C:m<=j:=J;clear q;by_cases D:1<d
  ·have y:=oF (n:=d) J;obtain⟨r,v,x⟩:=aW (λw=>Kg d w J J) (λh=>Mf (i:=f) (n:=d) J h) (λh=>Mg (i:=f) (n:=d) J h);generalize aU d=k at*;obtain⟨k1,k2,k3⟩:=y;by_cases p:f<k
   ·go_wp2_with (go_at_call 157;refine(r _).mono ?_;rintro e w' ⟨rfl,rfl⟩)
    go_round
    ·refine⟨f,k,m+1,p,J,?_,F,F,by go_num⟩;have:=g.out;rw[v.out p,bQ]at this;simp only[iU,sD]at this;omega
    ·exact fV
   ·go_wp2_with (go_at_call 157;refine(r _).mono ?_;rintro e w' ⟨rfl,rfl⟩)
    go_round
    ·refine⟨f - k,d - k,m+1,J,J,?_,by first|go_num|(congr 1;omega),by first|go_num|(congr 1;omega),by go_num⟩;have:=g.out;rw[x.out p,bQ]at this;simp only[iU,sD]at this;omega
    ·exact fV
  ·obtain rfl:d=1:=J;have l:=g.out;rw[SV _ _ J]at l;obtain rfl:m=j:=by simpa using l
   clear l;go_wp2;go_ret;exact⟨F,F⟩
def Ma(x y:ah)(w:World)(hx:x.length=32)(z:y.length=32):
 eO 102 #[.agg (x.map Y).toArray,.agg (y.map Y).toArray] w (.agg ((dN x y).map Y).toArray):=by
 obtain⟨al,am⟩:=aA hx z;have o:Hid (((dN x y).map Y).length=32):=O (by rw[aI,lU]);have ax:=dw (dN x y);have M:(x++y).length=64:=by rw[bQ,hx,z]
 have v:=λw c a h=>CW 2 (x++y) 64 c a w J J M J h;rw[show eY 2 (x++y)=dN x y from F]at v;have ag:=O v;clear hx z M v;generalize (dN x y).map Y=a2 at*;go_enter func102,ntmps102;go_wp2_with fail;generalize i:alloc (alloc (alloc w _) _) _=j;have V:=wM i (x.map Y) 31;have W:=vB i (y.map Y) 31;have ab:=vC i (replicate 32 (.int .u8 0)) 31;have t:=vE i;have aw:w.heap.size<=j.heap.size:=t.size;clear i;obtain⟨E,G,ap,ac⟩:=bT V W ab t;clear V W ab t;obtain⟨C,d,aK,bR⟩:=fK (show bM w j [w.heap.size,w.heap.size+1] [(w.heap.size+2,32,31)] j from bM.Gn ac (dR.two E.lt G.lt) ap aB);refine fF λX=> ?_;refine ay 0 ?_;refine ay 2 ?_;generalize j.drew=g at*;have a1:j.heap.size<=g.heap.size:=((d g).1 X).kept.1;refine aT 1 ?_;intro f b;go_wp2_with fail;refine(NA x (some ⟨w.heap.size,0,none⟩) 32 32 g al J (aM.iM (((d g).1 X).blk E aB))).mono ?_;rintro e A ⟨a3,rfl,Q, -,s⟩;have k:=aK _ _ X s;go_wp2_with fail;refine b _ _ k ?_;clear X b f;obtain⟨D,an,ad⟩:=aW Q (((d A).1 k).blk G aB) k;clear k;have K:g.heap.size<=A.heap.size:=s.size;clear Q s;refine aL ?_;refine aT 3 ?_;intro f b;go_wp2_with (first|(at_builtin;refine GH F _ _ F g.heap.size (ys:=y) F F D am (by intro h;cases h) (aM.iM an) J K ?_));intro aE m R H;have S:m.ownsRow g.heap.size 5 1 aE 64 ((x++y).map Y):=by rw[jv];exact R
 have N:=yR D;have u:C m:=(d m).2 (((d A).1 ad).grown H (by intro q ar;have:=N _ ar;omega) aw);go_wp2_with fail;refine b _ _ u ?_;clear b f R H N K;obtain⟨a,c,rfl, -, -, -,L⟩:=wm S;have af:=O L;clear S L;refine aL ?_;refine aT 4 ?_;intro f b;go_wp2_with fail;refine(ag m c a af).mono ?_;rintro e U ⟨rfl,aq⟩;have l:=aK _ _ u aq;go_wp2_with fail;refine b _ _ l ?_;clear b f;obtain⟨a4,P,aa⟩:=((d U).1 l).qo (r:=w.heap.size+2) (n:=32) (T:=31) aB;obtain⟨ao,ai,ae⟩:=aW aa P l;clear aa P l u;refine aL ?_;refine aT 5 ?_;intro f b;go_wp2_with (refine aZ F _ _ _ F F F ao bf ai o ax ?_);intro B p az;go_wp2_with fail;have a0:=O p;have I:C B:=(d B).2 (((d U).1 ae).store az p (by simp[o.out]) J (by simp<;>omega));refine b _ _ I ?_;clear b f;refine dP ?_;go_wp2;refine jS F F p bf o F ⟨F,((d B).1 I).base⟩
def qO:(prog.info? 31).map (·.size)=some 32:=aC
def adO{a:Prop}(e:a:=by
 intro Q' hQ;go_wp2_with (refine aZ F _ _ _ F F F ZI bf fI BQ o2 ?_);intro wJ bJ uJ;have hCJ:C wJ:=(Z wJ).2 (((Z wI).1 Ye).store uJ bJ (by simp[BQ.out]) J (by simp<;>omega));go_wp2_with fail;refine hQ _ _ hCJ ?_;clear hQ Q';have EJ:=O ((Z wJ).1 hCJ).base;refine dP ?_;go_wp2;refine jS F F bJ bf BQ F ⟨F,EJ⟩):a:=e
def XM{b:Prop}(e:b:=by
 cases a with
 |none=>
  rcases hcl with h|⟨_,_,h,_⟩
  ·have:=Pb cu;rw[h]at this;simp at this
  ·cases h
 |some A=>exact⟨A,F,hcl.rowAt cu EK⟩):b:=e
def aiJ:∀(n i:Nat) (x:ah) (ls:List (ah)) (m c:Nat) (a:aO) (w:World),i<n->n<=65536->x.length=32->iH ls->ls.length=m->m=(kS i n).length->m<=c->aM w a (dH ls)->
 eO 169 #[.agg (x.map Y).toArray,.int .i64 (i:Int),.int .i64 (n:Int),.slice a m c] w (.agg ((pW dN x (kS i n) ls).map Y).toArray):=by
 intro n;induction n using Nat.strongRecOn with
 |ind n bm=>
 intro i x ls m c a w q cb hx cu N p b2 hcl;have a6:=O bm;have G:Hid ((x.map Y).length=32):=O (by rw[aI,hx]);have ac:=O hx;have b6:=dw x;clear bm;by_cases b3:n=1
 ·subst b3;have d:pW dN x (kS i 1) ls=x:=by rw[SV _ _ J,aiH]
  rw[d];clear d p N hcl cu b2 hx;generalize x.map Y=ci at*;go_enter func169,ntmps169;go_wp2_with (first|(refine dA F _ _ F F ((au.bK F F).alloc _) bf G ?_)|(refine aZ F _ _ _ F F F (au.bK (vs:=replicate 32 (.int .u8 0)) aB F) bf aB G b6 ?_));intro ch bx b8;go_wp2;refine jS F F bx bf G F ⟨F,b8.ext (((aj.refl w).alloc _).alloc _) (by simp<;>omega)⟩
 ·have bj:=oF (n:=n) J;have af:=O (λw=>Kg n w J J);obtain⟨ad,ax⟩:=aF (pW dN x (kS i n) ls);have b1:0<(kS i n).length:=by
   by_cases o:i<aU n
   ·rw[Mf J o];simp
   ·rw[Mg J o];simp
  obtain⟨rest,f,rfl⟩:∃rest f,ls=rest++[f]:=by
   have be:ls≠[]:=by intro h;rw[h]at N;simp at N;omega
   exact⟨ls.dropLast,ls.getLast be,(P9 be).symm⟩
  obtain⟨r,rfl⟩:∃r,m=r+1:=⟨m - 1,J⟩;have al:rest.length=r:=by simpa using N
  have EK:(rest++[f])[r]? =some f:=by rw[<-al];simp
  have bh:iH rest:=λl b0=>cu l (by simp[b0]);have a0:f.length=32:=cu f aB;obtain⟨A,bz,M⟩:∃A,a=some A/\d9 w (A.add (r*32)) (f.map Y):=by
   exact XM
  subst bz;have bd:aM w (some A) (dH rest):=by
   have:=hcl.Mc cu r;rwa[<-al,oo F]at this
  rw[ax];obtain⟨ab,aa,a9⟩:=aW ax al bh;have W:Hid ((f.map Y).length=32):=O (by rw[aI,a0]);have a7:=O a0;have b7:=dw f;obtain⟨bu,a5,a8⟩:=aW M bd p;have bi:r<=c:=J;have cd:r<65536:=by have:=Pm i n;omega
  clear ax al bh a0 M bd p N cu hcl EK b1 hx;obtain⟨k,aE⟩:=aF (aU n);have t:=O aE;rw[aE]at bj af;clear aE;obtain⟨k1,k2,k3⟩:=bj;go_enter func169,ntmps169;go_wp2_with (go_at_call 157;refine(af _).mono ?_;rintro e w' ⟨rfl,rfl⟩);generalize am:alloc (alloc w _) _=E;have bp:=qA am (x.map Y) 31;have a4:=qQ am (replicate 32 (.int .u8 0)) 31;have aw:=wN am;have bl:w.heap.size<=E.heap.size:=aw.size;clear am;obtain⟨a',bw⟩:=aA bp a4;have cf:w.heap.size+1<E.heap.size:=a4.lt;have bt:=O aw;clear bp a4 aw;obtain⟨C,Z,aK,bR⟩:=fK (show bM w E [w.heap.size] [(w.heap.size+1,32,31)] E from bM.Gn bt (dR.one a'.lt) bw aB);have M:∀b,C b->d9 b (A.add (r*32)) (f.map Y):=λb q=>bu.ext ((Z b).1 q).base;have b5:IntKind.i64.wrap (r:Int)=(r:Int):=fJ _ J;refine fF λX=> ?_;refine ay 0 ?_;refine ay 1 ?_;refine ay 2 ?_;refine ay 3 ?_;refine aV 4 F (aY F (λb _=>gD (i:=r) F F F underlying59 qO J b)) ?_;refine aV 5 F (aY F (λb h=>cB F F (M b h) bf W)) ?_;refine ay 6 ?_;refine ay 7 ?_;refine ay 8 ?_;refine ay 9 ?_;refine aV 10 F (aY F (λb _=>yG (k:=r) F F F underlying59 qO J b)) ?_;clear b5;generalize E.drew=S at*;have b4:E.heap.size<=S.heap.size:=((Z S).1 X).kept.1;refine aT 11 ?_;intro Q' hQ;go_wp2_with fail;refine hQ _ _ (aK _ _ X ((aj.refl _).alloc _)) ?_;clear hQ Q';generalize a1:S.alloc _=a2;have bb:au a2 S.heap.size (replicate 32 (.int .u8 0)) 31:=by rw[<-a1];exact au.bK F F
  have bc:C a2:=by rw[<-a1];exact aK _ _ X ((aj.refl _).alloc _)
  clear a1 X;obtain⟨bs,bv⟩:=aA bb bc;clear bb bc;generalize S.heap.size=L at*;refine aL ?_;refine aT 12 ?_;intro Q' hQ;go_wp2_with (refine aZ F _ _ _ F F F bs bf aB W b7 ?_);intro j ar bo;have D:C j:=(Z j).2 (((Z a2).1 bv).upd bo b4 bl);go_wp2_with fail;refine hQ _ _ D ?_;clear hQ Q' bo;refine aL ?_;refine aT 13 ?_;intro Q' hQ;go_wp2_with fail;refine hQ _ _ D ?_;clear hQ Q';refine dP ?_;have ae:=O (((Z j).1 D).blk a' aB);have an:=O ((Z j).1 D).base;obtain⟨cg,bk,br⟩:=((Z j).1 D).qo (r:=w.heap.size+1) (n:=32) (T:=31) aB;obtain⟨ba,a_,V⟩:=aW br bk ar;have cc:L<j.heap.size:=ar.lt;have ce:w.heap.size<=j.heap.size:=an.size;clear D br bk ar Z aK bR M bl;by_cases o:i<k
  ·have g:=a6.out k k2 i x rest r c (some A);have p:=a8.out;have d:=ab.out;rw[<-t.out]at o g;rw[Mf J o,bQ]at p;simp only[iU,sD]at p;rw[Mf J o,VI _ _ _ _ _ _ (by rw[aa.out];omega),aJ bS]at d;have g:=λw' az=>g w' o (by rw[t.out];omega) ac a9 aa J bi az;have z:(pW dN x (kS i (aU n)) rest).length=32:=JQ _ lU _ _ _ ac;rw[t.out]at g o z d;generalize pW dN x (kS i k) rest=y at*;obtain⟨ao,aq⟩:=aA g z;have v:=λw'=>LX y f w' aq a7;rw[d]at v;have ap:=O v;have BQ:Hid ((ad.map Y).length=32):=O (by rw[aI,<-d,lU]);have o2:=dw ad;clear g z v p d ab af;go_wp2;obtain⟨C,Z,aK,bR⟩:=fK (show bM w j [w.heap.size,L] [(w.heap.size+1,32,31)] j from bM.Gn an (dR.two ae.lt V.lt) ba a_);have P:∀b,C b->au b w.heap.size (x.map Y) 31:=λb q=>((Z b).1 q).blk ae aB;have Q:∀b,C b->au b L (f.map Y) 31:=λb q=>((Z b).1 q).blk V aB;refine fF λX=> ?_;refine aV 0 F (gP F _ _ F F P bf G) ?_;refine ay 1 ?_;refine ay 2 ?_;refine ay 3 ?_;refine aV 5 F (gP F _ _ F F Q bf W) ?_;generalize j.drew=B at*;have H:aj w B:=((Z B).1 X).base;refine aT 4 ?_;intro Q' hQ;go_wp2_with fail;refine(ao B (a5.ext H)).mono ?_;rintro e a3 ⟨rfl,I⟩;have u:=aK _ _ X I;go_wp2_with fail;refine hQ _ _ u ?_;clear hQ Q' X I H;refine aL ?_;refine aT 6 ?_;intro Q' hQ;go_wp2_with fail;refine(ap a3).mono ?_;rintro e wI ⟨rfl,K⟩;have s:=aK _ _ u K;go_wp2_with fail;refine hQ _ _ s ?_;clear hQ Q' u K P Q;obtain⟨b9,R,U⟩:=((Z wI).1 s).qo (r:=w.heap.size+1) (n:=32) (T:=31) aB;obtain⟨ZI,fI,Ye⟩:=aW U R s;clear U R s;refine aL ?_;refine aT 7 ?_;exact adO
  ·have g:=a6.out (n - k) J (i - k) x rest r c (some A);have p:=a8.out;have d:=ab.out;rw[<-t.out]at o g;rw[Mg J o,bQ]at p;simp only[iU,sD]at p;rw[Mg J o,VI _ _ _ _ _ _ (by rw[aa.out];omega),aN F]at d;have g:=λw' az=>g w' (by rw[t.out];omega) (by rw[t.out];omega) ac a9 aa J bi az;have z:(pW dN x (kS (i - aU n) (n - aU n)) rest).length=32:=JQ _ lU _ _ _ ac;rw[t.out]at g o z d;generalize pW dN x (kS (i - k) (n - k)) rest=y at*;obtain⟨ao,aq⟩:=aA g z;have v:=λw'=>LX f y w' a7 aq;rw[d]at v;have ap:=O v;have BQ:Hid ((ad.map Y).length=32):=O (by rw[aI,<-d,lU]);have o2:=dw ad;clear g z v p d ab af;have ag:((i:Int) - (k:Int))=((i - k:Nat):Int):=J;have ai:((n:Int) - (k:Int))=((n - k:Nat):Int):=J;obtain⟨b',ca⟩:=aA ag ai;clear ag ai;go_wp2;have ag:IntKind.i64.wrap ((i:Int) - (k:Int))=((i - k:Nat):Int):=by rw[fJ _ J];omega
   have ai:IntKind.i64.wrap ((n:Int) - (k:Int))=((n - k:Nat):Int):=by rw[fJ _ J];omega
   obtain⟨C,Z,aK,bR⟩:=fK (show bM w j [w.heap.size,L] [(w.heap.size+1,32,31)] j from bM.Gn an (dR.two ae.lt V.lt) ba a_);have P:∀b,C b->au b w.heap.size (x.map Y) 31:=λb q=>((Z b).1 q).blk ae aB;have Q:∀b,C b->au b L (f.map Y) 31:=λb q=>((Z b).1 q).blk V aB;refine fF λX=> ?_;refine aV 0 F (gP F _ _ F F Q bf W) ?_;refine aV 1 F (gP F _ _ F F P bf G) ?_;refine ay 2 ?_;refine ay 3 ?_;refine ay 4 ?_;refine ay 5 ?_;refine ay 6 ?_;refine ay 7 ?_;refine ay 8 ?_;clear ag ai;generalize j.drew=B at*;have H:aj w B:=((Z B).1 X).base;refine aT 9 ?_;intro Q' hQ;go_wp2_with fail;refine(ao B (a5.ext H)).mono ?_;rintro e a3 ⟨rfl,I⟩;have u:=aK _ _ X I;go_wp2_with fail;refine hQ _ _ u ?_;clear hQ Q' X I H;refine aL ?_;refine aT 10 ?_;intro Q' hQ;go_wp2_with fail;refine(ap a3).mono ?_;rintro e wI ⟨rfl,K⟩;have s:=aK _ _ u K;go_wp2_with fail;refine hQ _ _ s ?_;clear hQ Q' u K P Q;obtain⟨b9,R,U⟩:=((Z wI).1 s).qo (r:=w.heap.size+1) (n:=32) (T:=31) aB;obtain⟨ZI,fI,Ye⟩:=aW U R s;clear U R s;refine aL ?_;refine aT 11 ?_;exact adO
def aif:(prog.info? 4).map (λi=>(i.zero,i.size,i.bytes))=some (some (.bool false),1,1):=aC
def adI{a:Prop}(e:a:=by
 intro v3 w3 wh g3 _;have qy:=yR O2;obtain⟨E3,O3⟩:=aA (E2.grown g3 (by intro q hq;exact qy _ hq)) wh;clear wh g3 qy O2 E2 N2 jG;go_wp2;go_ret;exact⟨_,F,O3,E3⟩):a:=e
def alZ:∀(n i:Nat) (w:World),i<n->n<=65536->
 Calls prog 116 #[.int .i64 (i:Int),.int .i64 (n:Int)] w λe w'=>∃v,e= .returned v/\w'.ownsRow w.heap.size 4 1 v (kS i n).length ((kS i n).map bool)/\aj w w':=by
 intro n;induction n using Nat.strongRecOn with
 |ind n G=>
 intro i w N P;have s:=O G;clear G;obtain⟨E,z,D,C,u⟩:=gJ aif;by_cases L:n=1
 ·subst L;have hs:kS i 1=[]:=SV _ _ J;rw[hs];clear hs;go_enter func116,ntmps116;go_wp2;go_ret;exact⟨_,F,⟨F,.inl ⟨F,F⟩⟩,aj.refl w⟩
 ·have B:=oF (n:=n) J;have o:=O (λw=>Oa n w J J);have K:=Pm i n;obtain⟨d,f⟩:=aA (λh=>Mf (i:=i) (n:=n) J h) (λh=>Mg (i:=i) (n:=n) J h);obtain⟨M,t⟩:=aF (kS i n);rw[t]at d f K⊢;clear t;obtain⟨k,A⟩:=aF (aU n);rw[A]at B o d f;clear A;obtain⟨k1,k2,k3⟩:=B;by_cases p:i<k
  ·have q:=O (λw=>s k k2 i w p J);have m:=d.out p;generalize kS i k=l at*;subst m;rw[bQ,jv]at*;simp only[iU,sD,oM,FH]at*;clear d f;go_enter func116,ntmps116;go_wp2_with (first|(go_at_call 66;refine(o _).mono ?_;rintro e w' ⟨rfl,rfl⟩));refine(q w).mono ?_;rintro e a ⟨r,rfl,g,c⟩;have j:au (a.alloc (.cells #[.bool false] 4)) a.heap.size [.bool false] 4:=au.bK F F;have b:aj a (a.alloc (.cells #[.bool false] 4)):=(aj.refl a).alloc _;obtain⟨O2,E2,N2⟩:=aW (iy g b) (c.ext b) (DF j);have jG:w.heap.size<=(a.alloc (.cells #[.bool false] 4)).heap.size:=E2.size;clear g c j b;go_wp2_with (first|(at_builtin;refine Jc _ F _ _ 189 F w.heap.size 4 E (.bool false) 1 1 underlying189 z D C u F bS r l.length _ F O2 ⟨a.heap.size,0,none⟩ 1 1 [.bool false] F F N2 (by simp[Value.oneCell']) (by unfold maxLen;omega) J jG ?_));exact adI
  ·have q:=O (λw=>s (n - k) J (i - k) w J J);have m:=f.out p;have x:((i:Int) - (k:Int))=((i - k:Nat):Int):=J;have y:((n:Int) - (k:Int))=((n - k:Nat):Int):=J;obtain⟨H,I⟩:=aA x y;clear x y;generalize kS (i - k) (n - k)=l at*;subst m;rw[bQ,jv]at*;simp only[iU,sD,oM,FH]at*;clear d f;go_enter func116,ntmps116;go_wp2_with (first|(go_at_call 66;refine(o _).mono ?_;rintro e w' ⟨rfl,rfl⟩));rw[H.out,I.out];refine(q w).mono ?_;rintro e a ⟨r,rfl,g,c⟩;have j:au (a.alloc (.cells #[.bool true] 4)) a.heap.size [.bool true] 4:=au.bK F F;have b:aj a (a.alloc (.cells #[.bool true] 4)):=(aj.refl a).alloc _;obtain⟨O2,E2,N2⟩:=aW (iy g b) (c.ext b) (DF j);have jG:w.heap.size<=(a.alloc (.cells #[.bool true] 4)).heap.size:=E2.size;clear g c j b;go_wp2_with (first|(at_builtin;refine Jc _ F _ _ 189 F w.heap.size 4 E (.bool false) 1 1 underlying189 z D C u F bS r l.length _ F O2 ⟨a.heap.size,0,none⟩ 1 1 [.bool true] F F N2 (by simp[Value.oneCell']) (by unfold maxLen;omega) J jG ?_));exact adI
def fT:ah:=replicate 32 0
def TK:fT.map Y=replicate 32 (.int .u8 0):=by simp[fT,Y]
theorem TJ:fT.length=32:=by simp[fT]
def zD(x:ah)(I a:Int)(ls:List (ah)):ah×Int:=
 if a<1∨65536<a then(fT,4)else if I<0∨a<=I then(fT,7)else if ls.length=(kS I.toNat a.toNat).length then(pW dN x (kS I.toNat a.toNat) ls,0)else(fT,12)
def IG(p:ah×Int):Value:= .tuple #[.agg (p.1.map Y).toArray,.int .i64 p.2]
def IJ{a:Prop}(e:a:=by
 go_wp2_with (refine aZ F _ _ _ F F F ZA bf aB (xs:=replicate 32 (.int .u8 0)) aB (Gp 32) ?_);intro w4 b4 u4;go_wp2;refine lI F F b4 bf aB F ⟨by rw[<-hv];unfold IG;rw[TK];rfl,u4.ext EA J⟩):a:=e
def akU(x:ah)(I f:Int)(ls:List (ah))(m c:Nat)(a:aO)(w:World)(hx:x.length=32)(ad:iH ls)(af:ls.length=m)(a8:m<=c)(ae:aM w a (dH ls)):
 eO 115 #[.agg (x.map Y).toArray,.agg #[.int .i64 I,.int .i64 f,.slice a m c]] w (IG (zD x I f ls)):=by
 have ao:Hid ((x.map Y).length=32):=O (by rw[aI,hx]);have aa:=O hx;obtain⟨bc,S⟩:=aF (zD x I f ls);rw[S];obtain⟨o,am,V,an⟩:=bT S ad af ae;clear S hx ad af ae;go_enter func115,ntmps115;go_upto_region 1 with(fail);generalize u:alloc (alloc (alloc w _) _) _=l;have ai:=wM u (x.map Y) 31;have v:=vB u [.int .i64 I,.int .i64 f,.slice a m c] 61;have U:=vC u (replicate 32 (.int .u8 0)) 31;have Q:=vE u;have bi:w.heap.size<=l.heap.size:=Q.size;have bj:w.heap.size+2<l.heap.size:=U.lt;clear u;have ar:l.cell? ⟨w.heap.size+1,0,none⟩=some (.int .i64 I):=v.cell' F;have aw:l.cell? ⟨w.heap.size+1,1,none⟩=some (.int .i64 f):=v.cell' F;have ax:l.cell? ⟨w.heap.size+1,2,none⟩=some (.slice a m c):=v.cell' F;obtain⟨ab,B,ZA,EA⟩:=bT ai v U Q;clear ai U Q v;have hv:=o.out;unfold zD at hv;clear o;by_cases D:f<1
 ·rw[aN (.inl D)]at hv;have ac:=bV D;exact IJ
 by_cases M:65536<f
 ·rw[aN (.inr M)]at hv;have ac:=bg D;have az:=bV M;exact IJ
 rw[aJ J]at hv;have ac:=bg D;have az:=bg M;by_cases N:I<0
 ·rw[aN (.inl N)]at hv;have aE:=bV N;exact IJ
 have aE:=bg N;by_cases P:f<=I
 ·rw[aN (.inr P)]at hv;have a0:=bV P;exact IJ
 have a0:=bg P;rw[aJ J]at hv;obtain⟨i,rfl⟩:=uO (show 0<=I by omega);obtain⟨n,rfl⟩:=uO (show 0<=f by omega);rw[su,su,V.out]at hv;obtain⟨a9,a6,a_⟩:=aW (λw=>amE i n w J J) (λh w' a5=>aiJ n i x ls m c a w' J J aa am V h a8 a5) (JQ dN lU x (kS i n) ls aa);have bb:=Pm i n;generalize pW dN x (kS i n) ls=y at*;generalize (kS i n).length=p at*;have W:=O hv;clear hv;have bd:=bU (n<=i);have be:=bU (65536<n);have bh:=bU (n<1);go_wp2;obtain⟨C,g,aK,bR⟩:=fK (show bM w l [w.heap.size,w.heap.size+1] [(w.heap.size+2,32,31)] l from bM.Gn EA (dR.two ab.lt B.lt) ZA aB);have E:∀b,C b->b.cell? ⟨w.heap.size+1,0,none⟩=some (.int .i64 (i:Int)):=λb s=>(((g b).1 s).blk B aB).cell' F;have G:∀b,C b->b.cell? ⟨w.heap.size+1,1,none⟩=some (.int .i64 (n:Int)):=λb s=>(((g b).1 s).blk B aB).cell' F;have H:∀b,C b->b.cell? ⟨w.heap.size+1,2,none⟩=some (.slice a m c):=λb s=>(((g b).1 s).blk B aB).cell' F;refine fF λX=> ?_;clear ar aw ax;refine ay 0 ?_;refine dW 1 (H) ?_;refine ay 2 ?_;refine ay 3 ?_;refine dW 4 (E) ?_;refine ay 5 ?_;refine dW 6 (G) ?_;generalize l.drew=d at*;refine aT 7 ?_;intro q j;go_wp2_with fail;refine(a9 d).mono ?_;rintro e w' ⟨rfl,rfl⟩;go_wp2_with fail;refine j _ _ X ?_;clear j q;by_cases k:m=p
 ·have hv:=W.out;rw[aN k]at hv;have a7:=O (a6 k);have g1:((m:Int) != (p:Int))=false:=by simp[k]
  have a4:(m != p)=false:=by simp[k]
  have o:=O hv;clear hv k;refine aL ?_;refine ay 8 ?_;refine aT 9 ?_;intro q j;go_wp2_with fail;refine j _ _ X ?_;clear j q;refine dP ?_;have ap:=O (((g d).1 X).blk ab aB);have A:=O ((g d).1 X).base;obtain⟨ba,t,z⟩:=((g d).1 X).qo (r:=w.heap.size+2) (n:=32) (T:=31) aB;obtain⟨L,K⟩:=aA z t;have a1:=E d X;have a2:=G d X;have a3:=H d X;clear z t E G H aK bR;go_wp2_with (first|(refine dA F 31 _ F F ap bf ao ?_));refine(a7 d (an.ext A)).mono ?_;rintro e bk ⟨rfl,R⟩;obtain⟨aq,al⟩:=aA (L.ext R) (A.ext R);have ag:Hid ((y.map Y).length=32):=O (by rw[aI,a_.out]);have a':=dw y;clear R X a1 a2 a3;go_wp2_with (first|(refine aZ F _ _ _ F F F aq bf K ag a' ?_));intro w4 b4 u4;go_wp2;refine lI F F b4 bf ag F ⟨by rw[<-o.out];rfl,u4.ext al J⟩
 ·have hv:=W.out;rw[aJ k]at hv;have g1:((m:Int) != (p:Int))=true:=by simp;omega
  have a4:(m != p)=true:=by simp[k]
  have o:=O hv;clear hv k;refine aL ?_;refine ay 8 ?_;refine aT 9 ?_;intro q j;go_wp2_with fail;refine j _ _ X ?_;clear j q;refine dP ?_;have A:=O ((g d).1 X).base;obtain⟨ba,t,z⟩:=((g d).1 X).qo (r:=w.heap.size+2) (n:=32) (T:=31) aB;obtain⟨L,K⟩:=aA z t;clear z t E G H aK bR X;go_wp2_with (refine aZ F _ _ _ F F F L bf K (xs:=replicate 32 (.int .u8 0)) aB (Gp 32) ?_);intro w4 b4 u4;go_wp2;refine lI F F b4 bf aB F ⟨by rw[<-o.out];unfold IG;rw[TK];rfl,u4.ext A J⟩
def ad2{a:Prop}(e:a:=by
 clear dZ e2 dD aK bR Z Lu;go_wp2_with (refine aZ F _ _ _ F F F B5 bf nO TU o3 ?_);intro w6 b6 u6;go_wp2;go_roundw
 ·exact⟨k+1,J,by go_num,JE (F5 HG E5) u6,by rw[MN.out];exact b6⟩
 ·simp[intOf];omega):a:=e
def ak5(x:ah)(I l:Int)(ls:List (ah))(m c:Nat)(a:aO)(w:World)(hx:x.length=32)(a8:iH ls)(bc:ls.length=m)(cf:m<=c)(a':aM w a (dH ls)):
 eO 76 #[.agg (x.map Y).toArray,.agg #[.int .i64 I,.int .i64 l,.slice a m c]] w (IG (zD x I l ls)):=by
 have b0:Hid ((x.map Y).length=32):=O (by rw[aI,hx]);have a1:=O hx;obtain⟨b1,al⟩:=aF (zD x I l ls);rw[al];obtain⟨z,ac,s,aw⟩:=bT al a8 bc a';clear al hx a8 bc a';go_enter func76,ntmps76;go_upto_region 1 with(fail);generalize N:alloc (alloc (alloc w _) _) _=G;have bi:=wM N (x.map Y) 31;have P:=vB N [.int .i64 I,.int .i64 l,.slice a m c] 61;have ar:=vC N (replicate 32 (.int .u8 0)) 31;have ag:=vE N;have ch:w.heap.size<=G.heap.size:=ag.size;have ci:w.heap.size+2<G.heap.size:=ar.lt;clear N;have a4:G.cell? ⟨w.heap.size+1,0,none⟩=some (.int .i64 I):=P.cell' F;have a5:G.cell? ⟨w.heap.size+1,1,none⟩=some (.int .i64 l):=P.cell' F;have a6:G.cell? ⟨w.heap.size+1,2,none⟩=some (.slice a m c):=P.cell' F;obtain⟨bo,bm,ZA,EA⟩:=bT bi P ar ag;clear bi ar ag P;have hv:=z.out;unfold zD at hv;clear z;by_cases V:l<1
 ·rw[aN (.inl V)]at hv;have a7:=bV V;exact IJ
 by_cases ad:65536<l
 ·rw[aN (.inr ad)]at hv;have a7:=bg V;have bs:=bV ad;exact IJ
 rw[aJ J]at hv;have a7:=bg V;have bs:=bg ad;by_cases ae:I<0
 ·rw[aN (.inl ae)]at hv;have bt:=bV ae;exact IJ
 have bt:=bg ae;by_cases af:l<=I
 ·rw[aN (.inr af)]at hv;have bu:=bV af;exact IJ
 have bu:=bg af;rw[aJ J]at hv;obtain⟨i,rfl⟩:=uO (show 0<=I by omega);obtain⟨n,rfl⟩:=uO (show 0<=l by omega);rw[su,su,s.out]at hv;obtain⟨be,bx⟩:=aA (λw=>alZ n i w J J) (λ(h:m=(kS i n).length)=>(h:m=(kS i n).length));have bl:=Pm i n;generalize kS i n=f at*;obtain⟨K,ai⟩:=aF f.length;rw[ai]at hv be bl bx;have S:=O ai;clear ai;have a0:=O hv;clear hv;have b5:=bU (n<=i);have b6:=bU (65536<n);have b7:=bU (n<1);go_wp2_with fail;refine(be G).mono ?_;rintro e aa ⟨ck,rfl,bh,B⟩;obtain⟨b2,b3,rfl,cg,cd,cb,a_⟩:=ajO (g:=w.heap.size) J bh J;obtain⟨bk,ab,bp,T,a3⟩:=fC a_ (EA.ext B) (bo.ext B) (bm.ext B) (ZA.ext B);have a4:aa.cell? ⟨w.heap.size+1,0,none⟩=some (.int .i64 (i:Int)):=T.cell' F;have a5:aa.cell? ⟨w.heap.size+1,1,none⟩=some (.int .i64 (n:Int)):=T.cell' F;have a6:aa.cell? ⟨w.heap.size+1,2,none⟩=some (.slice a m c):=T.cell' F;have ca:=B.size;clear bh B a_;by_cases M:m=K
 ·have hv:=a0.out;rw[aN M]at hv;subst M;have g1:((m:Int) != (m:Int))=false:=aB;have bv:(m != m)=false:=aB;have z:=O hv;clear hv;go_wp2;go_loopw [45] (λt wr=>∃k:Nat,k<=m/\t= .int .i64 (k:Int)/\aa.grownBy wr (some w.heap.size)/\au wr w.heap.size ((pW dN x (f.take k) (ls.take k)).map Y) 31) (λt _=>m - (intOf t).toNat)
  ·exact⟨0,J,F,Af _ _,by simpa[pW]using bp.out⟩
  ·obtain⟨k,ce,rfl,bb,D⟩:=hrel;obtain⟨HG,H⟩:=aA bb D;clear bb D;by_cases p:k<m
   ·obtain⟨L,am⟩:∃L,f[k]? =some L:=⟨f[k]'(by rw[S.out];exact p),aB⟩;obtain⟨d,W⟩:∃d,ls[k]? =some d:=⟨ls[k]'(by rw[s.out];exact p),aB⟩;obtain⟨b',cj,rfl,cc⟩:=(bk.grown HG).at (i:=k) (u:= .bool L) (by rw[iT,am];rfl);have r:=aiI dN x f ls k (by rw[S.out];exact p) (by rw[s.out];exact p);have a9:f[k]'(by rw[S.out];exact p)=L:=by have:=(iK.1 am).2;exact this
    have bd:ls[k]'(by rw[s.out];exact p)=d:=by have:=(iK.1 W).2;exact this
    rw[a9,bd]at r;have E:=JQ dN lU x (f.take k) (ls.take k) a1;generalize pW dN x (f.take k) (ls.take k)=y at*;have an:=ac.at W;have R:aj w wr:=ab.grown HG (by intro q ao;cases ao;exact aQ _);obtain⟨A,rfl,dD⟩:∃A,a=some A/\d9 wr (A.add (k*32)) (d.map Y):=by
     cases a with
     |none=>
      rcases aw.out with h|⟨_,_,h,_⟩
      ·have:=Pb ac;rw[h,s.out]at this;simp at this;omega
      ·cases h
     |some A=>exact⟨A,F,(aw.rowAt ac W).ext R⟩
    obtain⟨ax,U⟩:=aA dD (T.grown HG aB);have nO:Hid ((y.map Y).length=32):=O (by rw[aI,E]);have az:Hid ((d.map Y).length=32):=O (by rw[aI,an]);obtain⟨a2,aE⟩:=aA E an;clear E an a9 bd W am dD R a4 a5 a6;cases L with
    |true=>
     rw[aN F]at r;have MN:=O r;clear r;go_wp2;obtain⟨C,Z,aK,bR⟩:=fK (show bM wr wr [w.heap.size,w.heap.size+1] [] wr from bM.iP (aj.refl _) (dR.two H.lt U.lt));have dZ:∀b,C b->au b w.heap.size (y.map Y) 31:=λb j=>((Z b).1 j).blk H aB;have e2:∀b,C b->b.cell? ⟨w.heap.size+1,2,none⟩=some (.slice (some A) m c):=λb j=>(((Z b).1 j).blk U aB).cell' F;have dD:∀b,C b->d9 b (A.add (k*32)) (d.map Y):=λb j=>ax.ext ((Z b).1 j).base;refine aeF (C:=C) 7 [] (World.heap wr |>.size) aC aC aC (aK _ _ bR (aj.refl _).drew) (λw o h=>aK _ _ h ((aj.refl w).alloc o)) (λw h=>((Z w).1 h).kept.1) aB ?_;simp only[pE,pG,mH,jP];refine Az F F _ (λ_ _=>⟨F,F⟩) ?_;refine dY ?_;refine Az F F ?dv132 (MF (v:= ?dv132) ?dy132) ?dr132
     case dy132=>(intro aq ap;have bw:=(e2) aq ap;go_simp;try with_reducible rfl)
     case dr132=>
     refine dY ?_;refine Az F F _ (λ_ _=>⟨F,F⟩) ?_;refine dY ?_;refine Az F F _ (MF (λb _=>gD (i:=k) F F F underlying59 qO p b)) ?_;refine dY ?_;refine Az F F _ (MF (λb h=>cB F F (dD b h) bf az)) ?_;refine dY ?_;refine Az F F _ (aeU _ _ F F dZ bf nO) ?_;refine dY ?_;refine Az F F _ (aeT F call102 (by simp[Act.eval]) (λb _=>Ma d y b aE a2) aK) ?_;refine dY ?_;refine aeE ?_;intro gs Q Lu _ _;simp only[Ir,Act.put,o_,nk,pF];have B5:=O (dZ Q Lu);have E5:=O ((Z Q).1 Lu).base;have TU:Hid (((dN d y).map Y).length=32):=O (by rw[aI,lU]);have o3:=dw (dN d y);exact ad2
    |false=>
     rw[aJ bS]at r;have MN:=O r;clear r;go_wp2;obtain⟨C,Z,aK,bR⟩:=fK (show bM wr wr [w.heap.size,w.heap.size+1] [] wr from bM.iP (aj.refl _) (dR.two H.lt U.lt));have dZ:∀b,C b->au b w.heap.size (y.map Y) 31:=λb j=>((Z b).1 j).blk H aB;have e2:∀b,C b->b.cell? ⟨w.heap.size+1,2,none⟩=some (.slice (some A) m c):=λb j=>(((Z b).1 j).blk U aB).cell' F;have dD:∀b,C b->d9 b (A.add (k*32)) (d.map Y):=λb j=>ax.ext ((Z b).1 j).base;refine aeF (C:=C) 7 [] (World.heap wr |>.size) aC aC aC (aK _ _ bR (aj.refl _).drew) (λw o h=>aK _ _ h ((aj.refl w).alloc o)) (λw h=>((Z w).1 h).kept.1) aB ?_;simp only[pE,pG,mH,jP];refine Az F F _ (aeU _ _ F F dZ bf nO) ?_;refine dY ?_;refine Az F F _ (λ_ _=>⟨F,F⟩) ?_;refine dY ?_;refine Az F F ?dv133 (MF (v:= ?dv133) ?dy133) ?dr133
     case dy133=>(intro aq ap;have bw:=(e2) aq ap;go_simp;try with_reducible rfl)
     case dr133=>
     refine dY ?_;refine Az F F _ (λ_ _=>⟨F,F⟩) ?_;refine dY ?_;refine Az F F _ (MF (λb _=>gD (i:=k) F F F underlying59 qO p b)) ?_;refine dY ?_;refine Az F F _ (MF (λb h=>cB F F (dD b h) bf az)) ?_;refine dY ?_;refine Az F F _ (aeT F call102 (by simp[Act.eval]) (λb _=>Ma y d b a2 aE) aK) ?_;refine dY ?_;refine aeE ?_;intro gs Q Lu _ _;simp only[Ir,Act.put,o_,nk,pF];have B5:=O (dZ Q Lu);have E5:=O ((Z Q).1 Lu).base;have TU:Hid (((dN y d).map Y).length=32):=O (by rw[aI,lU]);have o3:=dw (dN y d);exact ad2
   ·obtain rfl:k=m:=J;have ba:pW dN x (f.take k) (ls.take k)=pW dN x f ls:=by rw[gY (by rw[S.out];omega),gY (by rw[s.out];omega)]
    have D:=H.out;rw[ba]at D;have E:=JQ dN lU x f ls a1;generalize pW dN x f ls=y at*;obtain⟨bj,R,br⟩:=aW D (ab.grown HG (by intro q ao;cases ao;exact aQ _)) (a3.grown HG aB);have nO:Hid ((y.map Y).length=32):=O (by rw[aI,E]);have bz:=dw y;clear D ba E;go_wp2_with (first|(refine dA F 31 _ F F bj bf nO ?_)|(refine aZ F _ _ _ F F F br bf aB nO bz ?_));intro w4 b4 u4;go_wp2;refine lI F F b4 bf nO F ⟨by rw[<-z.out];rfl,u4.ext R J⟩
 ·have hv:=a0.out;rw[aJ M]at hv;have g1:((m:Int) != (K:Int))=true:=by simp;omega
  have bv:(m != K)=true:=by simp[M]
  have b8:((K:Int) != (m:Int))=true:=by simp;omega
  have b9:(K != m)=true:=by simp;omega
  have z:=O hv;clear hv M;go_wp2_with (refine aZ F _ _ _ F F F a3 bf aB (xs:=replicate 32 (.int .u8 0)) aB (Gp 32) ?_);intro w4 b4 u4;go_wp2;refine lI F F b4 bf aB F ⟨by rw[<-z.out];unfold IG;rw[TK];rfl,u4.ext ab J⟩
def afd:jc prog 61 3:=⟨⟨_,underlying61,F⟩,aC⟩
def akT(x:ah)(I a:Int)(ls:List (ah))(b:x.length=32):(zD x I a ls).1.length=32:=by grind [zD,TJ,JQ,lU]
def OZ(b x:ah)(I a:Int)(ls:List (ah)):Int:=if(zD x I a ls).2=0 then(if(zD x I a ls).1==b then 0 else 12)else(zD x I a ls).2
def adJ{a:Prop}(e:a:=by
 rw[hyr]at hv uY;obtain⟨HN,mE⟩:=aA uY hv;clear hv uY hyr;go_wp2_with (first|(refine qP F 31 _ F F BC bf nO ?_)|(refine qP F 31 _ F F RC bf HR ?_)|(refine Fh F .neq _ _ _ _ F F F N9 HN ?_));go_ret;exact⟨by rw[<-mE.out];rfl,EC⟩):a:=e
def akj(b x:ah)(I d:Int)(ls:List (ah))(m c:Nat)(a:aO)(w:World)(o:b.length=32)(i:x.length=32)(z:iH ls)(B:ls.length=m)(V:m<=c)(A:aM w a (dH ls)):
 eO 75 #[.agg (b.map Y).toArray,.agg (x.map Y).toArray,.agg #[.int .i64 I,.int .i64 d,.slice a m c]] w (.int .i64 (OZ b x I d ls)):=by
 have P:Hid ((x.map Y).length=32):=O (by rw[aI,i]);have HR:Hid ((b.map Y).length=32):=O (by rw[aI,o]);have N:=O o;obtain⟨ac,f⟩:=aF (OZ b x I d ls);rw[f];unfold OZ at f;have j:=akT x I d ls i;have r:=O (λw' h=>akU x I d ls m c a w' i z B V h);generalize zD x I d ls=p at*;obtain⟨y,q⟩:=p;unfold IG at r;simp only at r j f;have nO:Hid ((y.map Y).length=32):=O (by rw[aI,j]);obtain⟨Q,t,M⟩:=aW j f A;have C:=dw y;clear f i z B A o j;go_enter func75,ntmps75;go_upto_region 1 with(fail);generalize g:alloc (alloc (alloc w _) _) _=aa;have E:=wM g (b.map Y) 31;have K:=vB g (x.map Y) 31;have D:=vC g [.int .i64 I,.int .i64 d,.slice a m c] 61;have v:=vE g;clear g;obtain⟨U,R,S,s⟩:=bT K D E v;clear K E v D;go_wp2_with (first|(refine dA F 31 _ F F U bf P ?_)|(refine dA F 61 _ F F R afd F ?_));refine(r aa (M.ext s)).mono ?_;rintro e H ⟨rfl,k⟩;obtain⟨T,L⟩:=aA (S.ext k) (s.ext k);clear k;go_wp2_with (first|(refine aZ F _ _ _ F F F (au.bK F F) bf aB nO C ?_));intro ab u G;have l:aj H ab:=G.ext ((aj.refl H).alloc _) (aQ _);obtain⟨RC,EC,BC,W⟩:=bT (T.ext l) (L.ext l) u (λw=>xI underlying31 y b Q N w);clear l G u C;by_cases n:q=0
 ·subst n;have hv:=t.out;rw[aN F]at hv;have uY:=W.out;cases hyr:(y==b)with
  |true=>
   exact adJ
  |false=>
   exact adJ
 ·have hv:=t.out;rw[aJ n]at hv;subst hv;have ad:(q==0)=false:=by simp[n]
  go_wp2;go_ret;exact⟨F,EC⟩
def mV(C T:Int):Int:=if C<0∨65536<C∨T<0∨1099511627776<T then 4 else 0
def iX(C T:Int)(a r2:ah):aP:= .int .i64 C:: .int .i64 T::(a.map Y++r2.map Y)
def nT(C T:Int)(a r2:ah):ah:=[75,87,72,49]++fQ (UInt64.ofNat C.toNat)++fQ (UInt64.ofNat T.toNat)++a++r2
def Rn(C T:Int)(a r2:ah)(w:World)(e:Ending)(w':World):Prop:=
 ∃v,e= .returned (.tuple #[v,.int .i64 (mV C T)])/\(if mV C T=0 then w'.ownsRow w.heap.size 5 1 v 84 ((nT C T a r2).map Y)else v= .slice none 0 0)/\aj w w'
def Ih(C T:Int){a r2:ah}(b:a.length=32)(c:r2.length=32):(iX C T a r2).length=66:=by simp[iX,b,c]
def Vs(C T:Int){a r2:ah}(b:a.length=32):((iX C T a r2).drop 2).take 32=a.map Y:=by
 simp[iX,<-b]
def Rp(C T:Int){a r2:ah}(b:a.length=32)(c:r2.length=32):((iX C T a r2).drop 34).take 32=r2.map Y:=by simp_all [iX,Y,mH,q_,gY]
def iW:jc prog 46 66:=⟨⟨_,underlying46,F⟩,aC⟩
def bM.N8{c W w w':World}{a:List Nat}{row:Option Nat}(h:bM c W a [] w)(k:w.grownBy w' row)(f:∀g,row=some g->g∉a)(d:∀g,row=some g->c.heap.size<=g):bM c W a [] w':=
 ⟨h.base.grown k d,⟨dJ h.kept.1 k.size,h.kept.2.1,λg b=>(k.block g (vL (h.kept.2.1 g b) h.kept.1) (λe=>f g e.symm b)).trans (h.kept.2.2 g b)⟩,λx i=>by cases i⟩
def afU(ys:aP)(T:TypeId)(w:World)(z:Nat×Nat):aM (w.alloc (.cells ys.toArray T z)) (some ⟨w.heap.size,0,none⟩) ys:=by
 refine .inr ⟨w.heap.size,0,F,λi u b=> ?_⟩;have a:(w.alloc (.cells ys.toArray T z)).heap[w.heap.size]? =some (.cells ys.toArray T z):=by
  show(w.heap.push _)[w.heap.size]? =_;simp
 rw[kD];simp only[World.cell?,a];simpa using b
def abT(C T:Int)(l r2:ah)(w:World)(f:l.length=32)(A:r2.length=32):
 Calls prog 111 #[.agg (iX C T l r2).toArray] w (Rn C T l r2 w):=by
 obtain⟨E,p⟩:=aF (mV C T);have r:=O p;unfold mV at p;have Q:(iX C T l r2)[0]? =some (.int .i64 C):=F;have R:(iX C T l r2)[1]? =some (.int .i64 T):=F;obtain⟨bu,a8,a9,a6,a7⟩:=fC (Ih C T f A) (Vs C T (r2:=r2) f) (Rp C T f A) f A;clear f A;generalize iX C T l r2=o at*;go_enter func111,ntmps111;go_upto_region 1 with(fail);generalize S:alloc w _=s;have D:=dX S o 46;have bi:s.cell? ⟨w.heap.size,0,none⟩=some (.int .i64 C):=D.cell' Q;have bj:s.cell? ⟨w.heap.size,1,none⟩=some (.int .i64 T):=D.cell' R;obtain⟨t,H,a_,a'⟩:=bT D (dS S) Q R;clear S D Q R;by_cases M:C<0∨65536<C
 ·rw[aN J]at p;have u:(decide (C<0)||decide (65536<C))=true:=by simpa using M
  subst p;go_wp2_with (first|(go_at_call 155;refine(CP _ _ _ _).mono ?_;rintro e w' ⟨rfl,rfl⟩;rw[u]))
  go_ret2
  exact⟨_,by rw[r.out];rfl,by rw[r.out];rfl,H⟩
 ·have u:(decide (C<0)||decide (65536<C))=false:=by simp at M⊢;omega
  by_cases N:T<0∨1099511627776<T
  ·rw[aN J]at p;have y:(decide (T<0)||decide (1099511627776<T))=true:=by simpa using N
   subst p;go_wp2_with (first|(go_at_call 155;refine(CP _ _ _ _).mono ?_;rintro e w' ⟨rfl,rfl⟩;first|rw[u]|rw[y]))
   go_ret2
   exact⟨_,by rw[r.out];rfl,by rw[r.out];rfl,H⟩
  ·have y:(decide (T<0)||decide (1099511627776<T))=false:=by simp at N⊢;omega
   rw[aJ J]at p;subst p;obtain⟨i,rfl⟩:=uO (show 0<=C by omega);obtain⟨z,rfl⟩:=uO (show 0<=T by omega);have ap:DC (i:Int)=i:=by unfold DC;rw[aJ J];rfl
   have aq:DC (z:Int)=z:=by unfold DC;rw[aJ J];rfl
   obtain⟨aw,ax⟩:=aA (λg w' h=>abZ [75,87,72,49] (some ⟨g,0,none⟩) 4 4 (i:Int) w' F J h (λh=>by cases h)) (λbd bh w' h bk=>abZ ([75,87,72,49]++fQ (UInt64.ofNat i)) bd 12 bh (z:Int) w' F J h bk);rw[ap]at aw;rw[aq]at ax;clear ap aq;go_wp2_with (first|(go_at_call 155;refine(CP _ _ _ _).mono ?_;rintro e w' ⟨rfl,rfl⟩;first|rw[u]|rw[y]));obtain⟨C,b,aK,bR⟩:=fK (show bM w s [w.heap.size] [] s from bM.iP H (dR.one t.lt));have ac:∀a,C a->a.cell? ⟨w.heap.size,0,none⟩=some (.int .i64 (i:Int)):=λa f=>(((b a).1 f).blk t aB).cell' a_;have ad:∀a,C a->a.cell? ⟨w.heap.size,1,none⟩=some (.int .i64 (z:Int)):=λa f=>(((b a).1 f).blk t aB).cell' a';clear bi bj M N u y;refine fF λX=> ?_;refine ay 2 ?_;refine dW 3 (ac) ?_;refine ay 5 ?_;refine dW 6 (ad) ?_;generalize s.drew=m at*;have bw:s.heap.size<=m.heap.size:=((b m).1 X).kept.1;have bo:=λ(w:World) (C:Array Value) (n c:Nat)=>Lib.run_convert_bytes_const (P:=prog) w 32 5 C n c underlying32 underlying5;refine aT 0 ?_;intro j d;go_wp2_with fail;refine d _ _ (aK _ _ X ((aj.refl m).alloc _)) ?_;clear d j;refine aL ?_;refine aT 1 ?_;intro j d;go_wp2_with fail;refine d _ _ (aK _ _ X ((aj.refl m).alloc _)) ?_;clear d j bo;have a3:=O (show aM (m.alloc (.cells #[int .u8 75,int .u8 87,int .u8 72,int .u8 49] 5 (4,5))) (some ⟨m.heap.size,0,none⟩) (List.map Y [75,87,72,49])from afU ([75,87,72,49].map Y) 5 m (4,5));have am:=aK _ _ X ((aj.refl m).alloc (.cells #[int .u8 75,int .u8 87,int .u8 72,int .u8 49] 5 (4,5)))
   clear X;generalize m.alloc (.cells #[int .u8 75,int .u8 87,int .u8 72,int .u8 49] 5 (4,5))=bs at*;generalize m.heap.size=v at*;refine aL ?_;have X:=am;clear am;refine aT 4 ?_;intro j d;go_wp2_with fail;refine(aw v bs a3).mono ?_;rintro e V ⟨bx,rfl,az,ag⟩;obtain⟨be,k1,rfl, -, -,ar,ao⟩:=wm az;have hF:=aK _ _ X ag;go_wp2_with fail;refine d _ _ hF ?_;clear d j X ag az;obtain⟨a2,ba⟩:=aA ao ar;clear ao ar;refine aL ?_;refine aT 7 ?_;intro j d;go_wp2_with fail;refine(ax be k1 V a2 ba).mono ?_;rintro e q ⟨bz,rfl,aE,ai⟩;have I:=aK _ _ hF ai;have U:=xL aE (show w.heap.size+1<=V.heap.size from by have:=t.lt;have:=((b V).1 hF).kept.1;omega);obtain⟨bv,k2,rfl, -, -,bm,bl⟩:=wm U;go_wp2_with fail;refine d _ _ I ?_;clear d j hF ai aE bm bl;have bb:=O U;clear U;refine aL ?_;have X:=I;clear I;refine ay 8 ?_;have x:=O (((b q).1 X).blk t aB);have a4:=O ((b q).1 X).base;clear X b aK bR ac ad;refine dP ?_;go_wp2;obtain⟨C,b,aK,bR⟩:=fK (show bM w q [w.heap.size] [] q from bM.iP a4 (dR.one x.lt));have ae:∀a,C a->aM a (some ⟨w.heap.size,2,none⟩) (l.map Y):=λa f=>by
    have:=aM.DI (((b a).1 f).blk x aB) 2 32;rwa[a8.out]at this
   have af:∀a,C a->aM a (some ⟨w.heap.size,34,none⟩) (r2.map Y):=λa f=>by
    have:=aM.DI (((b a).1 f).blk x aB) 34 32;rwa[a9.out]at this
   refine fF λX=> ?_;refine ay 0 ?_;refine ay 1 ?_;refine ay 2 ?_;refine ay 4 ?_;refine ay 5 ?_;have aa:=O (iy bb (aj.refl q).drew);have L:w.heap.size+1<=q.drew.heap.size:=by have:=x.lt;have:=((b _).1 X).kept.1;omega
   generalize q.drew=bt at*;refine aT 3 ?_;intro j d;go_wp2_with (at_builtin;refine GH F _ _ F (w.heap.size+1) (ys:=l) F F aa a6 (λh=>by cases h) (ae bt X) J L ?_);intro bp G a0 v;have ab:=O (show G.ownsRow (w.heap.size+1) 5 1 bp 52 (([75,87,72,49]++fQ (UInt64.ofNat i)++fQ (UInt64.ofNat z)++l).map Y)from by simpa using a0);clear a0;have o:=λk h=>yR aa k h;have B:C G:=(b _).2 (((b _).1 X).N8 v (λk h=>by have:=o k h;simp;omega) (λk h=>by have:=o k h;omega));have an:w.heap.size+1<=G.heap.size:=dJ L v.size;go_wp2_with fail;refine d _ _ B ?_;clear d j X v o L;refine aL ?_;refine aT 6 ?_;intro j d;go_wp2_with (at_builtin;refine GH F _ _ F (w.heap.size+1) (ys:=r2) F F ab a7 (λh=>by cases h) (af G B) J an ?_);intro br W a1 al;have bc:=O (show W.ownsRow (w.heap.size+1) 5 1 br 84 (([75,87,72,49]++fQ (UInt64.ofNat i)++fQ (UInt64.ofNat z)++l++r2).map Y)from by simpa using a1);clear a1;have o:=λk h=>yR ab k h;have K:C W:=(b _).2 (((b _).1 B).N8 al (λk h=>by have:=o k h;simp;omega) (λk h=>by have:=o k h;omega));go_wp2_with fail;refine d _ _ K ?_;clear d j B al o an;refine aL ?_;have X:=K;clear K;refine ay 7 ?_;refine ay 8 ?_;have a5:=O ((b W).1 X).base;clear X b aK bR ae af;refine dP ?_;go_wp2
   go_ret2
   refine⟨_,by rw[r.out];rfl,?_,a5⟩;rw[aN r.out];exact xL bc (Hf _)
section
def jJ(w w':World):Prop:=w.heap.size<=w'.heap.size/\∀(k:Nat) c e z,w.heap[k]? =some (.cells c e z)->∃a,w'.heap[k]? =some (.cells c e a)
def jJ.refl(w:World):jJ w w:=⟨aQ _,λk c e z h=>⟨z,h⟩⟩
def jJ.trans{a b c:World}(h:jJ a b)(k:jJ b c):jJ a c:=by grind [jJ]
def jJ.Im{w w':World}(h:aj w w'):jJ w w':=⟨h.size,λk c e z a=>⟨z,(h.block k (o9.1 a).1).trans a⟩⟩
def jJ.cell{w w':World}(h:jJ w w'){a:Addr}{v:Value}(hs:a.spot=none)(b:w.cell? a=some v):w'.cell? a=some v:=by grind [jJ,World.cell?]
def aM.rel{w w':World}{a:aO}{xs:aP}(h:aM w a xs)(k:jJ w w'):aM w' a xs:=by
 rcases h with h|⟨b,off,ha,h⟩
 ·exact .inl h
 ·exact .inr ⟨b,off,ha,λi u c=>k.cell F (h i u c)⟩
section
variable {P:Program} {ops:Array Oper} {Q:Exit->Act->World->Prop} {S:World->Prop}
def ahM{i1 i2 j1 j2:Nat}{ad ae af ag:Oper}{a6 r2 a7 a8:List Oper}{f:Nat}{g:Array Bool}{a:Act}{w:World}{β γ1 γ2:Type}(v:β->Value)(q:γ1->Value)(E:γ2->Value)
 (o:β->World->Prop)(r:γ1->World->Prop)(z:γ2->World->Prop)(mk:Value->Value->Value->Value->Act)
 (ao:ready .any ops g=[i1,j1])(ap:ready .any ops (g.setIfInBounds i1 true)=[i2,j1])(az:ready .any ops (g.setIfInBounds j1 true)=[i1,j2])
 (aq:ready .any ops ((g.setIfInBounds i1 true).setIfInBounds i2 true)=[j1])(aw:ready .any ops ((g.setIfInBounds i1 true).setIfInBounds j1 true)=[i2,j2])(aE:ready .any ops ((g.setIfInBounds j1 true).setIfInBounds j2 true)=[i1])
 (ar:ready .any ops (((g.setIfInBounds i1 true).setIfInBounds i2 true).setIfInBounds j1 true)=[j2])(ax:ready .any ops (((g.setIfInBounds i1 true).setIfInBounds j1 true).setIfInBounds j2 true)=[i2])
 (a2:(i1==j1)=false)(a3:(i1==j2)=false)(a4:(i2==j1)=false)(a5:(i2==j2)=false)
 (L:ops.toList.drop i1=ad::a6)(M:ops.toList.drop i2=ae::r2)(N:ops.toList.drop j1=af::a7)(R:ops.toList.drop j2=ag::a8)
 (x:∀b w w',o b w->jJ w w'->o b w')(y:∀b w w',r b w->jJ w w'->r b w')(aa:∀b w w',z b w->jJ w w'->z b w')
 (G:∀C D w,S w->∀j:Exit->Act->World->Prop,(∀b w',S w'->jJ w w'->o b w'->j .normal (mk (v b) undef C D) w')->wpList P ops j [ad] (mk undef undef C D) w)
 (H:∀b C D w,S w->o b w->∀j:Exit->Act->World->Prop,(∀w',S w'->jJ w w'->j .normal (mk (v b) (v b) C D) w')->wpList P ops j [ae] (mk (v b) undef C D) w)
 (I:∀A B w,S w->∀j:Exit->Act->World->Prop,(∀b w',S w'->jJ w w'->r b w'->j .normal (mk A B (q b) undef) w')->wpList P ops j [af] (mk A B undef undef) w)
 (K:∀A B W w,S w->∀j:Exit->Act->World->Prop,(∀b w',S w'->jJ w w'->z b w'->j .normal (mk A B (q W) (E b)) w')->wpList P ops j [ag] (mk A B (q W) undef) w)
 (ha:a=mk undef undef undef undef)(l:S w)
 (h:∀b c m w',S w'->o b w'->r c w'->z m w'->wpAnyH P .any ops Q S f ((((g.setIfInBounds i1 true).setIfInBounds i2 true).setIfInBounds j1 true).setIfInBounds j2 true) (mk (v b) (v b) (q c) (E m)) w'):
 wpAnyH P .any ops Q S (f+4) g a w:=by
 have ab:i1≠j1:=by simpa using a2
 have a0:i1≠j2:=by simpa using a3
 have ac:i2≠j1:=by simpa using a4
 have a1:i2≠j2:=by simpa using a5
 have T:∀b c w,S w->o b w->r c w->wpAnyH P .any ops Q S (f+1) (((g.setIfInBounds i1 true).setIfInBounds i2 true).setIfInBounds j1 true) (mk (v b) (v b) (q c) undef) w:=by
  intro b c w l i n;refine Od ar R λj s=> ?_;refine K _ _ c w l j λm w' d e p=> ?_;exact s _ _ d (h b c m w' d (x _ _ _ i e) (y _ _ _ n e) p)
 have V:∀b c m w,S w->o b w->r c w->z m w->wpAnyH P .any ops Q S (f+1) (((g.setIfInBounds i1 true).setIfInBounds j1 true).setIfInBounds j2 true) (mk (v b) undef (q c) (E m)) w:=by
  intro b c m w l i n p;refine Od ax M λj s=> ?_;refine H b _ _ w l i j λw' d e=> ?_;refine s _ _ d ?_;rw[AQ (xs:=(g.setIfInBounds i1 true).setIfInBounds j1 true) _ _ (Ne.symm a1),AQ (xs:=g.setIfInBounds i1 true) _ _ (Ne.symm ac)];exact h b c m w' d (x _ _ _ i e) (y _ _ _ n e) (aa _ _ _ p e)
 have al:∀b w,S w->o b w->wpAnyH P .any ops Q S (f+2) ((g.setIfInBounds i1 true).setIfInBounds i2 true) (mk (v b) (v b) undef undef) w:=by
  intro b w l i;refine Od aq N λj s=> ?_;refine I _ _ w l j λc w' d e n=> ?_;exact s _ _ d (T b c w' d (x _ _ _ i e) n)
 have U:∀b c w,S w->o b w->r c w->wpAnyH P .any ops Q S (f+2) ((g.setIfInBounds i1 true).setIfInBounds j1 true) (mk (v b) undef (q c) undef) w:=by
  intro b c w l i n;refine BU aw aB λk t=> ?_;have u:k=i2∨k=j2:=by simpa using t
  rcases u with rfl|rfl
  ·refine p9 (kJ M) (H b _ _ w l i _ λw' d e=> ?_);refine⟨d,?_⟩;rw[AQ (xs:=g.setIfInBounds i1 true) _ _ (Ne.symm ac)];exact T b c w' d (x _ _ _ i e) (y _ _ _ n e)
  ·refine p9 (kJ R) (K _ _ c w l _ λm w' d e p=> ?_);exact⟨d,V b c m w' d (x _ _ _ i e) (y _ _ _ n e) p⟩
 have an:∀c m w,S w->r c w->z m w->wpAnyH P .any ops Q S (f+2) ((g.setIfInBounds j1 true).setIfInBounds j2 true) (mk undef undef (q c) (E m)) w:=by
  intro c m w l n p;refine Od aE L λj s=> ?_;refine G _ _ w l j λb w' d e i=> ?_;refine s _ _ d ?_;rw[AQ (xs:=g.setIfInBounds j1 true) _ _ (Ne.symm a0),AQ (xs:=g) _ _ (Ne.symm ab)];exact V b c m w' d i (y _ _ _ n e) (aa _ _ _ p e)
 have ai:∀b w,S w->o b w->wpAnyH P .any ops Q S (f+3) (g.setIfInBounds i1 true) (mk (v b) undef undef undef) w:=by
  intro b w l i;refine BU ap aB λk t=> ?_;have u:k=i2∨k=j1:=by simpa using t
  rcases u with rfl|rfl
  ·refine p9 (kJ M) (H b _ _ w l i _ λw' d e=> ?_);exact⟨d,al b w' d (x _ _ _ i e)⟩
  ·refine p9 (kJ N) (I _ _ w l _ λc w' d e n=> ?_);exact⟨d,U b c w' d (x _ _ _ i e) n⟩
 have am:∀c w,S w->r c w->wpAnyH P .any ops Q S (f+3) (g.setIfInBounds j1 true) (mk undef undef (q c) undef) w:=by
  intro c w l n;refine BU az aB λk t=> ?_;have u:k=i1∨k=j2:=by simpa using t
  rcases u with rfl|rfl
  ·refine p9 (kJ L) (G _ _ w l _ λb w' d e i=> ?_);refine⟨d,?_⟩;rw[AQ (xs:=g) _ _ (Ne.symm ab)];exact U b c w' d i (y _ _ _ n e)
  ·refine p9 (kJ R) (K _ _ c w l _ λm w' d e p=> ?_);exact⟨d,an c m w' d (y _ _ _ n e) p⟩
 subst ha;refine BU ao aB λk t=> ?_;have u:k=i1∨k=j1:=by simpa using t
 rcases u with rfl|rfl
 ·refine p9 (kJ L) (G _ _ w l _ λb w' d e i=> ?_);exact⟨d,ai b w' d i⟩
 ·refine p9 (kJ N) (I _ _ w l _ λc w' d e n=> ?_);exact⟨d,am c w' d n⟩
end
end
def acQ(t e:TypeId)(g n c:Nat)(cs:Array Value)(a:TypeId)(z:Nat×Nat)(w:World){P:Program}(h:P.underlying t=some (.slice e))(d:P.underlying e=some (.int .u8))(b:w.heap[g]? =some (.cells cs a z)):
 (convert t t (.slice (some ⟨g,0,none⟩) n c)).run P w= .ok (.slice (some ⟨g,0,none⟩) n c) (w.freeze ⟨g,cs.size,none⟩ 1):=by
 have f:w.shape? g=some (a,cs.size):=by
  unfold World.shape?;rw[b]
 simp[convert,jB h,jB d,markStringish,f]
def Vg(w:World)(a:Addr):jJ w (w.freeze a 1):=by
 unfold World.freeze;rw[aJ bS];refine⟨aB,λk c e z b=> ?_⟩;simp only[MZ];split
 ·rw[b];simp
 ·exact⟨z,b⟩
def aac(w:World)(a:Addr):w.grownBy (w.freeze a 1) (some a.block):=by
 unfold World.freeze;rw[aJ bS];refine⟨F,F,F,aB,λk _ b=> ?_⟩;simp only[MZ];rw[aJ (λe=>b (by rw[e]))]
def WX(C T:Int)(m r2:ah)(w:World)(l:m.length=32)(K:r2.length=32):
 Calls prog 69 #[.agg (iX C T m r2).toArray] w (Rn C T m r2 w):=by
 obtain⟨E,f⟩:=aF (mV C T);have n:=O f;unfold mV at f;have ag:(iX C T m r2)[0]? =some (.int .i64 C):=F;have ai:(iX C T m r2)[1]? =some (.int .i64 T):=F;obtain⟨bw,a8,a9,aq,ar⟩:=fC (Ih C T l K) (Vs C T (r2:=r2) l) (Rp C T l K) l K;clear l K;generalize iX C T m r2=a2 at*;go_enter func69,ntmps69;go_upto_region 1 with(fail);generalize al:alloc w _=I;have M:=dX al a2 46;have bi:I.cell? ⟨w.heap.size,0,none⟩=some (.int .i64 C):=M.cell' ag;have c1:I.cell? ⟨w.heap.size,1,none⟩=some (.int .i64 T):=M.cell' ai;obtain⟨G,D,a_,a'⟩:=bT M (dS al) ag ai;clear al M ag ai;by_cases S:C<0
 ·rw[aN J]at f;have aw:=bV S;subst f;go_wp2
  go_ret2
  exact⟨_,by rw[n.out];rfl,by rw[n.out];rfl,D⟩
 have aw:=bg S;by_cases U:65536<C
 ·rw[aN J]at f;have ax:=bV U;subst f;go_wp2
  go_ret2
  exact⟨_,by rw[n.out];rfl,by rw[n.out];rfl,D⟩
 have ax:=bg U;by_cases V:T<0
 ·rw[aN J]at f;have az:=bV V;subst f;go_wp2
  go_ret2
  exact⟨_,by rw[n.out];rfl,by rw[n.out];rfl,D⟩
 have az:=bg V;by_cases W:1099511627776<T
 ·rw[aN J]at f;have aE:=bV W;subst f;go_wp2
  go_ret2
  exact⟨_,by rw[n.out];rfl,by rw[n.out];rfl,D⟩
 have aE:=bg W;rw[aJ J]at f;subst f;obtain⟨i,rfl⟩:=uO (show 0<=C by omega);obtain⟨z,rfl⟩:=uO (show 0<=T by omega);obtain⟨bo,bp⟩:=aA (λw'=>J4 i w' J) (λw'=>J4 z w' J);have bj:=bU (i<0);have bk:=bU (65536<i);have bl:=bU (z<0);have bm:=bU (1099511627776<z);go_wp2;obtain⟨C,p,aK,bR⟩:=fK (show bM w I [w.heap.size] [] I from bM.iP D (dR.one G.lt));have y:∀a,C a->a.cell? ⟨w.heap.size,0,none⟩=some (.int .i64 (i:Int)):=λa l=>(((p a).1 l).blk G aB).cell' a_;have A:∀a,C a->a.cell? ⟨w.heap.size,1,none⟩=some (.int .i64 (z:Int)):=λa l=>(((p a).1 l).blk G aB).cell' a';clear bi c1 aw ax az aE S U V W bj bk bl bm;refine fF λX=> ?_;refine ay 2 ?_;refine dW 3 (y) ?_;refine ay 5 ?_;refine dW 6 (A) ?_;refine ay 8 ?_;refine ay 9 ?_;refine ay 10 ?_;refine ay 11 ?_;generalize I.drew=bz at*;have a1:∀a,C a->w.heap.size+1<=a.heap.size:=λa l=>by have:=G.lt;have:=((p a).1 l).kept.1;omega
 refine ahM (i1:=0) (i2:=1) (j1:=4) (j2:=7) (β:=Nat) (γ1:=Nat) (γ2:=Nat) (λb=> .slice (some ⟨b,0,none⟩) 4 4) (λb=> .slice (some ⟨b,0,none⟩) 8 8) (λb=> .slice (some ⟨b,0,none⟩) 8 8)
  (λb a=>w.heap.size+1<=b/\∃a6,a.heap[b]? =some (.cells #[int .u8 75,int .u8 87,int .u8 72,int .u8 49] 5 a6)) (λb a=>aM a (some ⟨b,0,none⟩) ((fQ (UInt64.ofNat i)).map Y)) (λb a=>aM a (some ⟨b,0,none⟩) ((fQ (UInt64.ofNat z)).map Y))
  (λam an ao ap=>{tmps:= #[agg a2.toArray,pointer (some {block:=w.heap.size,off:=0}),slice none 0 0,int IntKind.i64 0,pointer (some {block:=w.heap.size,off:=0}),int IntKind.i64 ↑i,bool false,bool false,pointer (some {block:=w.heap.size,off:=0}),int IntKind.i64 ↑i,bool false,bool false,bool false,pointer (some {block:=w.heap.size,off:=1}),int IntKind.i64 ↑z,bool false,bool false,bool false,pointer (some {block:=w.heap.size,off:=1}),int IntKind.i64 ↑z,bool false,bool false,am,an,pointer (some {block:=w.heap.size,off:=0}),int IntKind.i64 ↑i,ao,pointer (some {block:=w.heap.size,off:=1}),int IntKind.i64 ↑z,ap,pointer (some {block:=w.heap.size,off:=2}),slice (some {block:=w.heap.size,off:=2}) 32 32,pointer (some {block:=w.heap.size,off:=34}),slice (some {block:=w.heap.size,off:=34}) 32 32,undef,undef],defers:=[]})
  aC aC aC aC aC aC aC aC F F F F F F F F
  (λb a N h k=>⟨h.1,by obtain⟨b0,bs⟩:=h.2;exact k.2 _ _ _ _ bs⟩) (λb a N h k=>h.rel k) (λb a N h k=>h.rel k)
  ?c1 ?c2 ?c3 ?c4 F X ?rest
 case c1=>
  intro ao ap a r s d;have L:=a1 a r;clear X y A;go_wp2_with fail;exact d a.heap.size _ (aK _ _ r ((aj.refl a).alloc _)) (jJ.Im ((aj.refl a).alloc _)) ⟨L,(0,0),au.FU a ([75,87,72,49].map Y) 5⟩
 case c2=>
  rintro b ao ap a r ⟨L,a6,H⟩ s d;have bx:=acQ (P:=prog) 32 5 b 4 4 _ _ _ a underlying32 underlying5 H;clear H X y A;go_wp2_with fail;exact d _ ((p _).2 (((p _).1 r).N8 (aac a _) (λg h=>by cases h;simp;omega) (λg h=>by cases h;show _<=b;omega))) (Vg a _)
 case c3=>
  intro am an a r s d;clear X y A;go_wp2_with fail;refine(bo a).mono ?_;rintro e N ⟨rfl,c,t⟩;have ac:=aK _ _ r t;have Q:=O (aM.iM c);have af:=jJ.Im t;clear c t;go_wp2_with fail;exact d _ _ ac af Q
 case c4=>
  intro am an q a r s d;clear X y A;go_wp2_with fail;refine(bp a).mono ?_;rintro e N ⟨rfl,c,t⟩;have ac:=aK _ _ r t;have Q:=O (aM.iM c);have af:=jJ.Im t;clear c t;go_wp2_with fail;exact d _ _ ac af Q
 ·clear X;rintro b q c o hF ⟨L,zb,H⟩ k1 k2;have a4:aM o (some ⟨b,0,none⟩) ([75,87,72,49].map Y):=by
   refine .inr ⟨b,0,F,λj u br=> ?_⟩;rw[kD];simp only[World.cell?,H];exact(Qb (xs:=[75,87,72,49].map Y)).trans br
  have R:=O (((p o).1 hF).blk G aB);have k3:aM o (some ⟨w.heap.size,2,none⟩) (m.map Y):=by
   have:=aM.DI R 2 32;rwa[a8.out]at this
  have k4:aM o (some ⟨w.heap.size,34,none⟩) (r2.map Y):=by
   have:=aM.DI R 34 32;rwa[a9.out]at this
  obtain⟨ba,bb,bc,bd,be⟩:=fC a4 k1 k2 k3 k4;clear a4 k1 k2 k3 k4 H L y A a1;refine aL ?_;refine aT 12 ?_;intro s d;go_wp2_with fail;have aa:=aK _ _ hF ((aj.refl o).alloc (.cells #[.slice (some ⟨b,0,none⟩) 4 4,.slice (some ⟨q,0,none⟩) 8 8,.slice (some ⟨c,0,none⟩) 8 8,.slice (some ⟨w.heap.size,2,none⟩) 32 32,.slice (some ⟨w.heap.size,34,none⟩) 32 32] 32));obtain⟨B,x⟩:=aA (show au (o.alloc (.cells #[.slice (some ⟨b,0,none⟩) 4 4,.slice (some ⟨q,0,none⟩) 8 8,.slice (some ⟨c,0,none⟩) 8 8,.slice (some ⟨w.heap.size,2,none⟩) 32 32,.slice (some ⟨w.heap.size,34,none⟩) 32 32] 32)) o.heap.size [.slice (some ⟨b,0,none⟩) 4 4,.slice (some ⟨q,0,none⟩) 8 8,.slice (some ⟨c,0,none⟩) 8 8,.slice (some ⟨w.heap.size,2,none⟩) 32 32,.slice (some ⟨w.heap.size,34,none⟩) 32 32] 32 from au.bK F F) ((aj.refl o).alloc (.cells #[.slice (some ⟨b,0,none⟩) 4 4,.slice (some ⟨q,0,none⟩) 8 8,.slice (some ⟨c,0,none⟩) 8 8,.slice (some ⟨w.heap.size,2,none⟩) 32 32,.slice (some ⟨w.heap.size,34,none⟩) 32 32] 32));refine d _ _ aa ?_;clear d s;generalize o.alloc (.cells #[.slice (some ⟨b,0,none⟩) 4 4,.slice (some ⟨q,0,none⟩) 8 8,.slice (some ⟨c,0,none⟩) 8 8,.slice (some ⟨w.heap.size,2,none⟩) 32 32,.slice (some ⟨w.heap.size,34,none⟩) 32 32] 32)=bt at*;refine aL ?_;refine aT 13 ?_;intro s d;go_wp2_with fail;have ad:jw [(some ⟨b,0,none⟩,4,[75,87,72,49]),(some ⟨q,0,none⟩,8,fQ (UInt64.ofNat i)),(some ⟨c,0,none⟩,8,fQ (UInt64.ofNat z)),(some ⟨w.heap.size,2,none⟩,32,m),(some ⟨w.heap.size,34,none⟩,32,r2)]=nT (i:Int) (z:Int) m r2:=by simp[jw,nT]
  have ae:(nT (i:Int) (z:Int) m r2).length=84:=by simp[nT,JU,aq.out,ar.out]
  refine(NC [(some ⟨b,0,none⟩,4,[75,87,72,49]),(some ⟨q,0,none⟩,8,fQ (UInt64.ofNat i)),(some ⟨c,0,none⟩,8,fQ (UInt64.ofNat z)),(some ⟨w.heap.size,2,none⟩,32,m),(some ⟨w.heap.size,34,none⟩,32,r2)] o.heap.size 5 5 bt F J J ?hg ?hc ?hn ?hl).mono ?_
  case hg=>
   intro j a3 bO
   match j,bO with
   |0,bO=>cases bO;exact B.cell' F
   |1,bO=>cases bO;exact B.cell' F
   |2,bO=>cases bO;exact B.cell' F
   |3,bO=>cases bO;unfold tV;simp only;rw[aq.out];exact B.cell' F
   |4,bO=>cases bO;unfold tV;simp only;rw[ar.out];exact B.cell' F
  case hc=>
   intro a3 bO;simp only[gM,lN,lQ]at bO;rcases bO with rfl|rfl|rfl|rfl|rfl
   ·exact ba.ext x
   ·exact bb.ext x
   ·exact bc.ext x
   ·exact bd.ext x
   ·exact be.ext x
  case hn=>
   intro a3 bO;simp only[gM,lN,lQ]at bO;rcases bO with rfl|rfl|rfl|rfl|rfl<;>(intro h;cases h)
  case hl=>rw[ad,ae];omega
  rw[ad,ae];rintro e bu ⟨v,rfl,a5,a0⟩;have ab:=aK _ _ aa a0;have bh:=O a5;clear a5 ad ae;go_wp2_with fail;refine d _ _ ab ?_;clear d s hF aa a0;refine aL ?_;have X:=ab;clear ab;refine ay 14 ?_;refine ay 15 ?_;have a7:=O ((p bu).1 X).base;have bv:=x.size;clear X p aK bR;refine dP ?_;go_wp2
  go_ret2
  refine⟨_,by rw[n.out];rfl,?_,a7⟩;rw[aN n.out];exact xL bh (by have:=R.lt;omega)
def Iz(k:ah)(C T:Int)(a r2:ah):ah:=vw k (eY 6 (nT C T a r2))
def Xb(k:ah)(C T:Int)(a r2:ah):Value:=if mV C T=0 then .tuple #[.agg ((Iz k C T a r2).map Y).toArray,.int .i64 0]else .tuple #[zeros 64,.int .i64 4]
def Vr(C T:Int):mV C T=0∨mV C T=4:=by unfold mV;split<;>simp
def aam{C T:Int}{a r2:ah}(b:a.length=32)(c:r2.length=32):(nT C T a r2).length=84:=by simp[nT,JU,b,c]
def alK(k:ah)(C T:Int)(b r2:ah)(w:World)(y:k.length=32)(d:b.length=32)(q:r2.length=32):
 eO 110 #[.agg (k.map Y).toArray,.agg (iX C T b r2).toArray] w (Xb k C T b r2):=by
 obtain⟨U,aq,aw,aa,a8⟩:=fC (λw'=>abT C T b r2 w' d q) (show(k.map Y).length=32 by rw[aI,y]) (Ih C T d q) (λ(a:aO) (c:Nat) w' z a5 p h=>Tf 6 (nT C T b r2) 84 c a w' (aam d q) z a5 p h) (λ(g:Nat) w' h=>alL k (eY 6 (nT C T b r2)) 32 32 (some ⟨g,0,none⟩) w' y (nJ _ _) J J (λh=>by cases h) h);have ab:DX 6 (nT C T b r2) 84= .tuple #[.agg ((eY 6 (nT C T b r2)).map Y).toArray,.int .i64 0]:=by
  unfold DX;simp
 rw[ab]at aa;have ar:=O (show((eY 6 (nT C T b r2)).map Y).length=32 by rw[aI,nJ]);have a':=dw (eY 6 (nT C T b r2));unfold Rn at U;have V:Xb k C T b r2=if mV C T=0 then .tuple #[.agg ((vw k (eY 6 (nT C T b r2))).map Y).toArray,.int .i64 0]else .tuple #[zeros 64,.int .i64 4]:=F
 rw[V];have G:Hid (((vw k (eY 6 (nT C T b r2))).map Y).length=64):=O (by rw[aI,J_]);have a_:=dw (vw k (eY 6 (nT C T b r2)));have a4:=Vr C T;clear ab V y d q;obtain⟨be,x⟩:=aF ((if mV C T=0 then tuple #[.agg ((vw k (eY 6 (nT C T b r2))).map Y).toArray,.int .i64 0]else .tuple #[zeros 64,.int .i64 4]));rw[x];have H:=O x;clear x;generalize eY 6 (nT C T b r2)=sm at*;generalize mV C T=E at*;generalize nT C T b r2=bi at*;generalize iX C T b r2=a9 at*;generalize a7:k.map Y=ac at*;clear a7;go_enter func110,ntmps110;go_upto_region 1 with(fail);generalize l:alloc (alloc (alloc w _) _) _=bb;obtain⟨ax,a0,a1,al⟩:=bT (wM l ac 69) (vB l a9 46) (vC l (replicate 64 (.int .u8 0)) 78) (vE l);clear l;go_wp2_with (refine dA F 46 (.tmp 3) F F a0 iW aw ?_);refine(U bb).mono ?_;rintro e bc ⟨v,rfl,j,m⟩;obtain⟨az,L,D⟩:=aW (ax.ext m) (a1.ext m) (al.ext m);clear m;rcases a4 with rfl|rfl
 ·rw[aN F]at j;obtain⟨a,c,rfl,z,a6,p,S⟩:=wm j;have ai:=O S;clear j S;go_wp2_with fail;refine(aa a c bc z a6 p ai).mono ?_;rintro e s ⟨rfl,n⟩;obtain⟨aE,M,am⟩:=aW (az.ext n) (L.ext n) (D.ext n);clear n p;go_wp2_with (first|(refine aZ F _ (.tmp 8) _ F F F (au.bK (vs:=replicate 32 (.int .u8 0)) F F) bf aB ar a' ?_));intro t P ad;have o:aj s t:=ad.ext ((aj.refl s).alloc _) (aQ _);obtain⟨I,N,an,K⟩:=bT (aE.ext o) (M.ext o) (am.ext o) P;have bh:w.heap.size+2<s.heap.size:=M.lt;clear o P ad;generalize s.heap.size=gs at*;go_wp2_with fail;obtain⟨C,f,aK,bR⟩:=fK (show bM w t [w.heap.size,w.heap.size+2,gs] [] t from bM.iP an (dR.three I.lt N.lt K.lt));have A:∀r,C r->au r w.heap.size ac 69:=λr d=>((f r).1 d).blk I aB;refine nK (W:=[5]) λX=> ?_;refine l8 0 F (gP F _ _ F F A Uq aq) ?_;refine dL 1 ?_;generalize t.drew=af at*;refine i_ 2 ?_;intro u i;go_wp2_with fail;refine(a8 gs af (aM.iM (((f af).1 X).blk K aB))).mono ?_;rintro e B ⟨rfl,R⟩;replace X:=aK _ _ X R;go_wp2_with fail;refine i _ _ X ?_;clear i u R;refine aL ?_;obtain⟨bd,a2⟩:=aA (A B X) (((f B).1 X).blk N aB);have ao:=O ((f B).1 X).base;clear X f aK bR A;refine dL 3 ?_;refine dL 4 ?_;refine lK 5 ?_;intro u i;go_wp2_with (refine aZ F _ _ _ F F F a2 pK aB G a_ ?_);intro bk Q ae;go_wp2_with fail;refine i _ _ trivial ?_;clear i u;obtain⟨ag,ap⟩:=aA Q (ae.ext ao J);clear Q ae;refine aL ?_;refine dL 6 ?_;refine n_ ?_;go_wp2;exact lI F F ag pK G F ⟨by rw[<-H.out];rfl,ap⟩
 ·rw[aJ bS]at j;subst j;go_wp2_with (refine aZ F _ _ _ F F F L pK aB (xs:=replicate 64 (.int .u8 0)) aB (Gp 64) ?_);intro bj a3 ba;go_wp2;exact lI F F a3 pK aB F ⟨by rw[<-H.out];rfl,ba.ext D J⟩
def Bf(k:ah)(C T:Int)(a r2 s:ah):Int:=if mV C T=0 then(if Iz k C T a r2=s then 0 else 13)else 4
def afW(k:ah)(C T:Int)(a r2 s:ah)(w:World)(x:k.length=32)(t:a.length=32)(u:r2.length=32)(hs:s.length=64):
 eO 72 #[.agg (k.map Y).toArray,.agg (iX C T a r2).toArray,.agg (s.map Y).toArray] w (.int .i64 (Bf k C T a r2 s)):=by
 obtain⟨z,L,P,N⟩:=bT (λw'=>alK k C T a r2 w' x t u) (show(k.map Y).length=32 by rw[aI,x]) (Ih C T t u) (show(s.map Y).length=64 by rw[aI,hs]);have ag:=dw s;unfold Xb at z;unfold Bf;obtain⟨q,j⟩:=aF (Iz k C T a r2);have y:q.length=64:=by rw[<-j];exact J_ _ _
 rw[j]at z;rw[j];have g:=O (show(q.map Y).length=64 by rw[aI,y]);have ac:=dw q;have V:=Vr C T;obtain⟨M,n⟩:=aA hs y;clear j x t u hs y;generalize mV C T=E at*;generalize iX C T a r2=aa at*;generalize W:k.map Y=ab at*;clear W;obtain⟨ae,v⟩:=aF ((if E=0 then(if q=s then(0:Int)else 13)else 4));rw[v];go_enter func72,ntmps72;go_upto_region 1 with(fail);generalize c:alloc (alloc (alloc w _) _) _=ad;obtain⟨Q,R,S,I,o⟩:=fC (wM c ab 69) (vB c aa 46) (vC c (s.map Y) 78) (vE c) v;clear c v;go_wp2_with (first|(refine dA F 46 (.tmp 4) F F R iW P ?_)|(refine dA F 69 (.tmp 3) F F Q Uq L ?_));refine(z ad).mono ?_;rintro e l ⟨rfl,p⟩;obtain⟨U,A⟩:=aA (S.ext p) (I.ext p);clear p;rcases V with rfl|rfl
 ·have b:(if(0:Int)=0 then tuple #[.agg (q.map Y).toArray,.int .i64 0]else .tuple #[zeros 64,.int .i64 4])= .tuple #[.agg (q.map Y).toArray,.int .i64 0]:=aN F;rw[b];clear b;go_wp2_with (first|(refine aZ F _ (.tmp 7) _ F F F (au.bK (vs:=replicate 64 (.int .u8 0)) F F) pK aB g ac ?_));intro H h d;have r:aj l H:=d.ext ((aj.refl l).alloc _) (aQ _);obtain⟨D,f,B⟩:=aW (U.ext r) (A.ext r) h;clear r d h;generalize l.heap.size=af at*;by_cases i:q=s
  ·subst i;have m:=O (λw=>show(binOp .neq 78 (.agg (q.map Y).toArray) (.agg (q.map Y).toArray)).run prog w= .ok (.bool false) w by rw[xI underlying78 _ _ n.out n.out w];simp);go_wp2_with (first|(refine qP F 78 (.tmp 7) F F B pK g ?_)|(refine qP F 78 (.tmp 5) F F D pK g ?_)|(refine Fh F .neq _ _ _ _ F F F aaj m ?_));go_ret;exact⟨by rw[<-o.out];first|rfl|(simp;done),f⟩
  ·have G:(!(q==s))=true:=by simpa using i
   obtain⟨m,K⟩:=aA (λw=>show(binOp .neq 78 (.agg (q.map Y).toArray) (.agg (s.map Y).toArray)).run prog w= .ok (.bool true) w by rw[xI underlying78 _ _ n.out M.out w,G]) i;clear i G;go_wp2_with (first|(refine qP F 78 (.tmp 7) F F B pK g ?_)|(refine qP F 78 (.tmp 5) F F D pK N ?_)|(refine Fh F .neq _ _ _ _ F F F aaj m ?_));go_ret;exact⟨by rw[<-o.out];simp[K.out],f⟩
 ·have b:(if(4:Int)=0 then tuple #[.agg (q.map Y).toArray,.int .i64 0]else .tuple #[zeros 64,.int .i64 4])= .tuple #[.agg (replicate 64 (.int .u8 0)).toArray,.int .i64 4]:=aJ bS;rw[b];clear b;go_wp2_with (first|(refine aZ F _ (.tmp 7) _ F F F (au.bK (vs:=replicate 64 (.int .u8 0)) F F) pK aB aB (Gp 64) ?_));intro H h d;have f:=O (A.ext (d.ext ((aj.refl l).alloc _) (aQ _)));clear h d;go_wp2;go_ret;exact⟨by rw[<-o.out];first|rfl|(simp;done),f⟩
def acA(k:ah)(C T:Int)(b r2:ah)(w:World)(t:k.length=32)(d:b.length=32)(o:r2.length=32)(I:mV C T=0):
 eO 31 #[.agg (k.map Y).toArray,.agg (iX C T b r2).toArray] w (.agg ((Iz k C T b r2).map Y).toArray):=by
 obtain⟨u,af,ai,a1,a0,ag⟩:=jW (λw'=>WX C T b r2 w' d o) (show(k.map Y).length=32 by rw[aI,t]) (Ih C T d o) (λ(a:aO) (c:Nat) w' h=>CW 6 (nT C T b r2) 84 c a w' J J (aam d o) J h) (λ(g:Nat) w' h=>ak6 k (eY 6 (nT C T b r2)) 32 32 (some ⟨g,0,none⟩) w' t (nJ _ _) J (λh=>by cases h) h) (show((eY 6 (nT C T b r2)).map Y).length=32 by rw[aI,nJ]);have a4:=dw (eY 6 (nT C T b r2));unfold Rn at u;rw[I]at u;unfold Iz;have y:Hid (((vw k (eY 6 (nT C T b r2))).map Y).length=64):=O (by rw[aI,J_]);have a3:=dw (vw k (eY 6 (nT C T b r2)));clear t d o I;generalize eY 6 (nT C T b r2)=sm at*;generalize nT C T b r2=a8 at*;generalize iX C T b r2=a2 at*;generalize az:k.map Y=M at*;clear az;go_enter func31,ntmps31;go_upto_region 1 with(fail);generalize j:alloc (alloc (alloc w _) _) _=a5;obtain⟨al,ao,ap,V⟩:=bT (wM j M 69) (vB j a2 46) (vC j (replicate 64 (.int .u8 0)) 78) (vE j);clear j;go_wp2_with (refine dA F 46 (.tmp 3) F F ao iW ai ?_);refine(u a5).mono ?_;rintro e a6 ⟨v,rfl,x,l⟩;obtain⟨am,aq,aa⟩:=aW (al.ext l) (ap.ext l) (V.ext l);clear l;rw[aN trivial]at x;obtain⟨a,c,rfl,aE,ax,aw,K⟩:=wm x;have U:=O K;clear x K aw aE ax;go_wp2_with fail;refine(a1 a c a6 U).mono ?_;rintro e q ⟨rfl,m⟩;obtain⟨an,B,ab⟩:=aW (am.ext m) (aq.ext m) (aa.ext m);clear m;go_wp2_with (first|(refine aZ F _ (.tmp 7) _ F F F (au.bK (vs:=replicate 32 (.int .u8 0)) F F) bf aB ag a4 ?_));intro r E N;have n:aj q r:=N.ext ((aj.refl q).alloc _) (aQ _);obtain⟨z,D,ac,A⟩:=bT (an.ext n) (B.ext n) (ab.ext n) E
 have a7:w.heap.size+2<q.heap.size:=B.lt;clear n E N;generalize q.heap.size=gs at*;go_wp2_with fail;obtain⟨C,f,aK,bR⟩:=fK (show bM w r [w.heap.size,w.heap.size+2,gs] [] r from bM.iP ac (dR.three z.lt D.lt A.lt));have L:∀p,C p->au p w.heap.size M 69:=λp d=>((f p).1 d).blk z aB;refine nK (W:=[3]) λX=> ?_;refine l8 0 F (gP F _ _ F F L Uq af) ?_;refine dL 1 ?_;generalize r.drew=Q at*;refine i_ 2 ?_;intro s i;go_wp2_with fail;refine(a0 gs Q (aM.iM (((f Q).1 X).blk A aB))).mono ?_;rintro e R ⟨rfl,H⟩;replace X:=aK _ _ X H;go_wp2_with fail;refine i _ _ X ?_;clear i s H;refine aL ?_;have ar:=O (((f R).1 X).blk D aB);have ad:=O ((f R).1 X).base;clear X f aK bR L;refine lK 3 ?_;intro s i;go_wp2_with (refine aZ F _ _ _ F F F ar pK aB y a3 ?_);intro a9 G P;go_wp2_with fail;refine i _ _ trivial ?_;clear i s;obtain⟨S,ae⟩:=aA G (P.ext ad J);clear G P;refine aL ?_;refine n_ ?_;go_wp2;exact jS F F S pK y F ⟨F,ae⟩
def Si{P:Program}{d:Func}{c:Ending->World->Prop}{a:Act}{w:World}{p u:Tmp}{ty:TypeId}{g h:Nat}{vs b:aP}{T l:TypeId}
 (z:d.results= #[.cell p ty,.cell u ty])(i:a.tmps.getD p undef= .pointer (some ⟨g,0,none⟩))(k:a.tmps.getD u undef= .pointer (some ⟨h,0,none⟩))(r:au w g vs T)(s:au w h b l)
 {n:Nat}(j:jc P ty n)(y:vs.length=n)(x:b.length=n)
 (t:a.defers=[])(q:c (.returned (.tuple #[.agg vs.toArray,.agg b.toArray])) w):bodyPost P d c .ret a w:=by
 have e:=Fa (P:=P) (off:=0) r j J;have m:(vs.drop 0).take n=vs:=by simp[<-y]
 rw[m]at e;have f:=Fa (P:=P) (off:=0) s j J;have o:(b.drop 0).take n=b:=by simp[<-x]
 rw[o]at f;refine Jg (v:= .tuple #[.agg vs.toArray,.agg b.toArray]) ?_ t q;simp only[Ca]at i k;simp[results,z,i,k,asAddr,e,f]
def O5{P:Program}{d:Func}{c:Ending->World->Prop}{a:Act}{w:World}{p u q:Tmp}{ty:TypeId}{g h:Nat}{vs b:aP}{T l:TypeId}
 (A:d.results= #[.cell p ty,.cell u ty,.tmp q])(i:a.tmps.getD p undef= .pointer (some ⟨g,0,none⟩))(k:a.tmps.getD u undef= .pointer (some ⟨h,0,none⟩))(s:au w g vs T)(t:au w h b l)
 {n:Nat}(j:jc P ty n)(z:vs.length=n)(y:b.length=n)
 (x:a.defers=[])(r:c (.returned (.tuple #[.agg vs.toArray,.agg b.toArray,a.tmps.getD q undef])) w):bodyPost P d c .ret a w:=by
 have e:=Fa (P:=P) (off:=0) s j J;have m:(vs.drop 0).take n=vs:=by simp[<-z]
 rw[m]at e;have f:=Fa (P:=P) (off:=0) t j J;have o:(b.drop 0).take n=b:=by simp[<-y]
 rw[o]at f;refine Jg (v:= .tuple #[.agg vs.toArray,.agg b.toArray,a.tmps.getD q undef]) ?_ x r;simp only[Ca]at i k;simp[results,A,i,k,asAddr,e,f]
def ahC(m n:Nat)(w:World)(i:1<=m)(u:m<=n)(K:n<=65536):
 qR 165 #[.int .i64 (m:Int),.int .i64 (n:Int)] w (.int .i64 (kF m n true:Nat)):=by
 obtain⟨l,r⟩:=aF (kF m n true);have B:=Vj m n true u i;rw[r]at B⊢;have z:=O r;clear r;go_enter func165,ntmps165;go_wp2
 go_loop [0,1,5,6] (λa b c d=>∃(g f q:Nat) (j:Bool),1<=g/\g<=f/\f<=n/\q+kF g f j=l/\a= .int .i64 (g:Int)/\b= .int .i64 (f:Int)/\c= .int .i64 (q:Int)/\d= .bool j) (λ_ b _ _=>(intOf b).toNat)
 ·exact⟨m,n,0,true,i,u,aQ _,by rw[z.out];omega,F,F,F,F⟩
 ·obtain⟨g,f,q,j,p,H,I,t,rfl,rfl,rfl,rfl⟩:=hrel;have o:=O t;have L:q<=l:=J;clear t;by_cases x:g<f
  ·have G:=oF (n:=f) J;obtain⟨v,C,E⟩:=aW (λw=>Kg f w J J) (λh=>H9 (m:=g) (n:=f) (whole:=j) p x h) (λh=>H_ (m:=g) (n:=f) (whole:=j) p x h);generalize aU f=k at*;obtain⟨k1,k2,k3⟩:=G;by_cases s:g<=k
   ·go_wp2_with (go_at_call 157;refine(v _).mono ?_;rintro e w' ⟨rfl,rfl⟩)
    go_round
    ·refine⟨g,k,q+1,j,p,s,J,?_,F,F,by go_num,F⟩;have:=o.out;rw[C.out s]at this;omega
    ·exact fV
   ·go_wp2_with (go_at_call 157;refine(v _).mono ?_;rintro e w' ⟨rfl,rfl⟩)
    go_round
    ·refine⟨g - k,f - k,q+1,false,J,J,J,?_,by first|go_num|(congr 1;omega),by first|go_num|(congr 1;omega),by go_num,F⟩;have:=o.out;rw[E.out s]at this;omega
    ·exact fV
  ·obtain rfl:g=f:=J;have i:=o.out;rw[NZ]at i;cases j with
   |true=>
    obtain rfl:q=l:=by simpa using i
    clear i;go_wp2;go_ret;exact⟨F,F⟩
   |false=>
    have D:q+1=l:=by simpa using i
    have y:((q:Int)+1)=(l:Int):=J;have A:=O y;clear i D y;go_wp2;go_ret;exact⟨ace (aaE A),F⟩
def R7(p:ah×ah):Value:= .tuple #[.agg (p.1.map Y).toArray,.agg (p.2.map Y).toArray]
def QW(x:ah)(i:x.length=32):∀(n m:Nat) (e:Bool) (ls:List (ah)),1<=m->m<=n->iH ls->ls.length=kF m n e->(mU dN x m n e ls).1.length=32/\(mU dN x m n e ls).2.length=32:=by
 intro n;induction n using Nat.strongRecOn with
 |ind n o=>
 intro m e ls c p f a;rcases Fz m n with d|d
 ·have hs:=oF (n:=n) J;have g:ls≠[]:=by
   intro h;rw[h]at a;by_cases b:m<=aU n
   ·rw[H9 c d b]at a;simp at a
   ·rw[H_ c d b]at a;simp at a
  obtain⟨rest,j,rfl⟩:∃rest j,ls=rest++[j]:=⟨ls.dropLast,ls.getLast g,(P9 g).symm⟩;have k:iH rest:=λl a=>f l (by simp[a]);rw[bQ]at a;simp only[iU,sD]at a;by_cases b:m<=aU n
  ·rw[H9 c d b]at a;rw[Ve _ _ _ _ _ c d b];exact⟨(o (aU n) J m e rest c b k J).1,lU _ _⟩
  ·rw[H_ c d b]at a;rw[Vf _ _ _ _ _ c d b];exact⟨lU _ _,lU _ _⟩
 ·obtain rfl:m=n:=J;rw[QV];rw[NZ]at a;cases e with
  |true=>exact⟨i,i⟩
  |false=>
   obtain⟨y,rfl⟩:=Na.1 (by simpa using a);have:=f y aB;exact⟨this,this⟩
def ahs:∀(n m:Nat) (x:ah) (V:Bool) (ls:List (ah)) (ax c:Nat) (a:aO) (w:World),1<=m->m<=n->n<=65536->x.length=32->iH ls->ls.length=ax->ax=kF m n V->ax<=c->aM w a (dH ls)->
 eO 166 #[.agg (x.map Y).toArray,.int .i64 (m:Int),.int .i64 (n:Int),.bool V,.slice a ax c] w (R7 (mU dN x m n V ls)):=by
 intro n;induction n using Nat.strongRecOn with
 |ind n cU=>
 intro m x V ls ax c a w af t dg hx cu R aE di hcl;have cz:=O cU;have Q:Hid ((x.map Y).length=32):=O (by rw[aI,hx]);have b5:=O hx;have b9:=dw x;clear cU;obtain⟨c6,cm⟩:=aF (mU dN x m n V ls);have bz:=QW x hx n m V ls af t cu (by rw[R];exact aE);rw[cm]at bz⊢;have a4:=O cm;clear cm hx;by_cases c':m=n
 ·subst c';have E:=a4.out;rw[QV]at E;cases V with
  |true=>
   rw[aN F]at E;subst E;clear a4 bz aE hcl cu R;go_enter func166,ntmps166;go_upto_region 1 with(fail);generalize G:alloc (alloc (alloc w _) _) _=L;have b2:=wM G (x.map Y) 31;have a0:=vB G (replicate 32 (.int .u8 0)) 31;have aq:=vC G (replicate 32 (.int .u8 0)) 31;have am:=vE G;clear G;obtain⟨bo,bp,br,bj⟩:=bT b2 a0 aq am;clear b2 a0 aq am;go_wp2;obtain⟨C,d,aK,bR⟩:=fK (show bM w L [w.heap.size] [(w.heap.size+1,32,31),(w.heap.size+2,32,31)] L from bM.IK bj (dR.one bo.lt) bp aB br aB);have a_:∀b,C b->au b w.heap.size (x.map Y) 31:=λb t=>((d b).1 t).blk bo aB;refine fF λX=> ?_;refine aV 0 F (gP F _ _ F F a_ bf Q) ?_;refine aV 1 F (gP F _ _ F F a_ bf Q) ?_;generalize L.drew=H at*;obtain⟨ca,I,W⟩:=((d H).1 X).qo (r:=w.heap.size+1) (n:=32) (T:=31) aB;obtain⟨a6,ad,a2⟩:=aW W I X;clear W I X;refine aL ?_;refine aT 2 ?_;intro j f;go_wp2_with (refine aZ F _ _ _ F F F a6 bf ad Q b9 ?_);intro p v U;have q:C p:=(d p).2 (((d H).1 a2).store U v (by simp[Q.out]) J (by simp<;>omega));go_wp2_with fail;refine f _ _ q ?_;clear f j U;obtain⟨cb,K,aa⟩:=((d p).1 q).qo (r:=w.heap.size+2) (n:=32) (T:=31) aB;obtain⟨a7,ae,al,a1⟩:=bT aa K q v;clear aa K q v;refine aL ?_;refine aT 3 ?_;intro j f;go_wp2_with (refine aZ F _ _ _ F F F a7 bf ae Q b9 ?_);intro g u B;have o:C g:=(d g).2 (((d p).1 al).store B u (by simp[Q.out]) J (by simp<;>omega));go_wp2_with fail;refine f _ _ o ?_;clear f j;obtain⟨ab,ac⟩:=aA (a1.upd B J) u;have M:=O ((d g).1 o).base;clear B u o;refine dP ?_;go_wp2;refine Si F F F ab ac bf Q Q F ⟨F,M⟩
  |false=>
   rw[aJ bS]at E;have cI:ls.length=1:=by rw[R,aE,NZ];rfl
   obtain⟨y,rfl⟩:=Na.1 cI;obtain rfl:ax=1:=by rw[<-R];rfl
   have da:(y,y)=c6:=E;subst da;have cT:=cu y aB;obtain⟨A,rfl,S⟩:∃A,a=some A/\d9 w (A.add (0*32)) (y.map Y):=by
    cases a with
    |none=>
     rcases hcl with h|⟨_,_,h,_⟩
     ·have:=Pb cu;rw[h]at this;simp at this
     ·cases h
    |some A=>exact⟨A,F,hcl.rowAt cu F⟩
   have ce:=O S;have aw:Hid ((y.map Y).length=32):=O (by rw[aI,cT]);have cV:=dw y;clear a4 bz aE hcl cu R E cI S cT;go_enter func166,ntmps166;go_upto_region 1 with(fail);generalize G:alloc (alloc (alloc w _) _) _=L;have a0:=vB G (replicate 32 (.int .u8 0)) 31;have aq:=vC G (replicate 32 (.int .u8 0)) 31;have am:=vE G;clear G;obtain⟨bp,br,bj⟩:=aW a0 aq am;clear a0 aq am;go_wp2;obtain⟨C,d,aK,bR⟩:=fK (show bM w L [] [(w.heap.size+1,32,31),(w.heap.size+2,32,31)] L from bM.IK bj (dR.none _) bp aB br aB);have S:∀b,C b->d9 b (A.add (0*32)) (y.map Y):=λb t=>ce.ext ((d b).1 t).base;refine fF λX=> ?_;refine ay 0 ?_;refine aV 1 F (aY F (λb _=>gD (i:=0) F F F underlying59 qO J b)) ?_;refine aV 2 F (aY F (λb h=>cB F F (S b h) bf aw)) ?_;refine ay 3 ?_;refine aV 4 F (aY F (λb _=>gD (i:=0) F F F underlying59 qO J b)) ?_;refine aV 5 F (aY F (λb h=>cB F F (S b h) bf aw)) ?_;generalize L.drew=H at*;obtain⟨ca,I,W⟩:=((d H).1 X).qo (r:=w.heap.size+1) (n:=32) (T:=31) aB;obtain⟨a6,ad,a2⟩:=aW W I X;clear W I X;refine aL ?_;refine aT 6 ?_;intro j f;go_wp2_with (refine aZ F _ _ _ F F F a6 bf ad aw cV ?_);intro p v U;have q:C p:=(d p).2 (((d H).1 a2).store U v (by simp[aw.out]) J (by simp<;>omega));go_wp2_with fail;refine f _ _ q ?_;clear f j U;obtain⟨cb,K,aa⟩:=((d p).1 q).qo (r:=w.heap.size+2) (n:=32) (T:=31) aB;obtain⟨a7,ae,al,a1⟩:=bT aa K q v;clear aa K q v;refine aL ?_;refine aT 7 ?_;intro j f;go_wp2_with (refine aZ F _ _ _ F F F a7 bf ae aw cV ?_);intro g u B
   have o:C g:=(d g).2 (((d p).1 al).store B u (by simp[aw.out]) J (by simp<;>omega));go_wp2_with fail;refine f _ _ o ?_;clear f j;obtain⟨ab,ac⟩:=aA (a1.upd B J) u;have M:=O ((d g).1 o).base;clear B u o;refine dP ?_;go_wp2;refine Si F F F ab ac bf aw aw F ⟨F,M⟩
 ·have bd:m<n:=J;have cR:=oF (n:=n) J;have b7:=O (λw=>Kg n w J J);have dj:=Vj m n V t af;have cr:ls≠[]:=by
   intro h;rw[h]at R;by_cases cJ:m<=aU n
   ·rw[H9 af bd cJ]at aE;simp at R;omega
   ·rw[H_ af bd cJ]at aE;simp at R;omega
  obtain⟨rest,s,rfl⟩:∃rest s,ls=rest++[s]:=⟨ls.dropLast,ls.getLast cr,(P9 cr).symm⟩;obtain⟨r,rfl⟩:∃r,ax=r+1:=⟨ax - 1,by rw[bQ]at R;simp at R;omega⟩;have b8:rest.length=r:=by simpa using R
  have EK:(rest++[s])[r]? =some s:=by rw[<-b8];simp
  have cP:iH rest:=λl c_=>cu l (by simp[c_]);have cq:s.length=32:=cu s aB;obtain⟨A,c8,S⟩:∃A,a=some A/\d9 w (A.add (r*32)) (s.map Y):=by
   exact XM
  subst c8;have cF:aM w (some A) (dH rest):=by
   have:=hcl.Mc cu r;rwa[<-b8,oo F]at this
  obtain⟨b3,b4⟩:=aA b8 cP;have bk:Hid ((s.map Y).length=32):=O (by rw[aI,cq]);have cf:=O cq;have dd:=dw s;obtain⟨ce,cy,cA,df⟩:=bT S cF aE bz;have cQ:r<=c:=J;have dl:r<65536:=J;clear b8 cP cq S cF aE cu hcl EK R cr bz;obtain⟨k,cp⟩:=aF (aU n);have a3:=O cp;rw[cp]at cR b7;clear cp;obtain⟨k1,k2,k3⟩:=cR;go_enter func166,ntmps166;go_upto_region 1 with(fail);generalize G:alloc (alloc (alloc w _) _) _=L;have b2:=wM G (x.map Y) 31;have a0:=vB G (replicate 32 (.int .u8 0)) 31;have aq:=vC G (replicate 32 (.int .u8 0)) 31;have am:=vE G;have cS:w.heap.size<=L.heap.size:=am.size;have dp:w.heap.size+2<L.heap.size:=aq.lt;clear G;obtain⟨bo,bp,br,bj⟩:=bT b2 a0 aq am;clear b2 a0 aq am;go_wp2_with (go_at_call 157;refine(b7 _).mono ?_;rintro e w' ⟨rfl,rfl⟩);obtain⟨C,d,aK,bR⟩:=fK (show bM w L [w.heap.size] [(w.heap.size+1,32,31),(w.heap.size+2,32,31)] L from bM.IK bj (dR.one bo.lt) bp aB br aB);have S:∀b,C b->d9 b (A.add (r*32)) (s.map Y):=λb t=>ce.ext ((d b).1 t).base;have dc:IntKind.i64.wrap (r:Int)=(r:Int):=fJ _ J;refine fF λX=> ?_;refine ay 0 ?_;refine ay 1 ?_;refine ay 2 ?_;refine ay 3 ?_;refine aV 4 F (aY F (λb _=>gD (i:=r) F F F underlying59 qO J b)) ?_;refine aV 5 F (aY F (λb h=>cB F F (S b h) bf bk)) ?_;refine ay 6 ?_;refine ay 7 ?_;refine ay 8 ?_;refine ay 9 ?_;refine aV 10 F (aY F (λb _=>yG (k:=r) F F F underlying59 qO J b)) ?_;clear dc;generalize L.drew=H at*;have db:L.heap.size<=H.heap.size:=((d H).1 X).kept.1;refine aT 11 ?_;intro j f;go_wp2_with fail
  refine f _ _ (aK _ _ X ((aj.refl _).alloc _)) ?_;clear f j;generalize cv:H.alloc _=p;have v:au p H.heap.size (replicate 32 (.int .u8 0)) 31:=by rw[<-cv];exact au.bK F F
  have q:C p:=by rw[<-cv];exact aK _ _ X ((aj.refl _).alloc _)
  clear cv X;obtain⟨ab,al⟩:=aA v q;clear v q;generalize H.heap.size=bx at*;refine aL ?_;refine aT 12 ?_;intro j f;go_wp2_with (refine aZ F _ _ _ F F F ab bf aB bk dd ?_);intro g u B;have o:C g:=(d g).2 (((d p).1 al).upd B db cS);go_wp2_with fail;refine f _ _ o ?_;clear f j B ab;refine aL ?_;refine aT 13 ?_;intro j f;go_wp2_with fail;refine f _ _ o ?_;clear f j;refine dP ?_;have b6:=O (((d g).1 o).blk bo aB);have M:=O ((d g).1 o).base;obtain⟨ca,I,cX⟩:=((d g).1 o).qo (r:=w.heap.size+1) (n:=32) (T:=31) aB;obtain⟨cD,ad⟩:=aA cX I;obtain⟨cb,K,c0⟩:=((d g).1 o).qo (r:=w.heap.size+2) (n:=32) (T:=31) aB;obtain⟨cE,ae,ac⟩:=aW c0 K u;have dk:bx<g.heap.size:=u.lt;have dm:w.heap.size<=g.heap.size:=M.size;clear o c0 K cX I u d aK bR S cS;by_cases ag:m<=k
  ·have D:=cz.out k k2 m x V rest r c (some A);have b0:=cA.out;have E:=a4.out;rw[<-a3.out]at ag D;rw[H9 af bd ag]at b0;rw[Ve _ _ _ _ _ af bd ag]at E;have D:=λw' cn=>D w' af ag (by rw[a3.out];omega) b5 b4 b3 J cQ cn;have ba:=QW x b5 (aU n) m V rest af ag b4 (by rw[b3.out];omega);rw[a3.out]at D ag ba E;generalize mU dN x m k V rest=y at*;obtain⟨ai,P⟩:=y;unfold R7 at D;simp only at D ba E;obtain⟨be,a'⟩:=ba;have cg:=O D;have cL:=λw'=>LX P s w' a' cf;have ar:Hid ((ai.map Y).length=32):=O (by rw[aI,be]);have cC:=O (lU P s);generalize dN P s=z at*;have a5:Hid ((z.map Y).length=32):=O (by rw[aI,cC.out]);have bl:Hid ((P.map Y).length=32):=O (by rw[aI,a']);have ci:=O cL;have b':=dw ai;have cw:=dw P;have cx:=dw z;subst E;clear D cL b0 a4 b7 be a' cC;go_wp2_with (refine dA F _ (.tmp 5) F F b6 bf Q ?_);refine(cg g (cy.ext M)).mono ?_;rintro e ao ⟨rfl,a8⟩;go_wp2_with (refine aZ F _ (.tmp 15) _ F F F (au.alloc (au.bK (vs:=replicate 32 (.int .u8 0)) F F) _) bf aB ar b' ?_);intro b1 bt bb;have bs:au b1 (ao.heap.size+1) (replicate 32 (.int .u8 0)) 31:=au.upd (au.bK aB F) bb J;have bw:aj g b1:=a8.ext (bb.ext (((aj.refl ao).alloc _).alloc _) (aQ _));go_wp2_with (refine aZ F _ (.tmp 16) _ F F F bs bf aB bl cw ?_);intro ap bv bc;have bu:=bt.upd bc J;have c9:g.heap.size<=ao.heap.size:=a8.size;have N:aj g ap:=bc.ext bw J;obtain⟨c7,cj,ck,bm,cd,bh,bi⟩:=zT (b6.ext N) (cD.ext N) (cE.ext N) (ac.ext N) (M.ext N) bu bv;clear N bw bt bv bc bb bu bs a8 Q b9;generalize co:ao.heap.size=an at*;clear co
   go_wp2;obtain⟨C,d,aK,bR⟩:=fK (show bM w ap [bx,an,an+1] [(w.heap.size+1,32,31),(w.heap.size+2,32,31)] ap from bM.IK cd (dR.three bm.lt bh.lt bi.lt) cj ad ck ae);have a_:∀b,C b->au b bx (s.map Y) 31:=λb t=>((d b).1 t).blk bm aB;have cs:∀b,C b->au b an (ai.map Y) 31:=λb t=>((d b).1 t).blk bh aB;have ct:∀b,C b->au b (an+1) (P.map Y) 31:=λb t=>((d b).1 t).blk bi aB;refine fF λX=> ?_;refine aV 0 F (gP F _ _ F F cs bf ar) ?_;refine aV 1 F (gP F _ _ F F ct bf bl) ?_;refine aV 2 F (gP F _ _ F F a_ bf bk) ?_;generalize ap.drew=H at*;refine aT 3 ?_;intro j f;go_wp2_with fail;refine(ci H).mono ?_;rintro e cc ⟨rfl,az⟩;have a9:=aK _ _ X az;go_wp2_with fail;refine f _ _ a9 ?_;clear f j X az;have X:=a9;clear a9;refine aL ?_;obtain⟨ca,I,W⟩:=((d cc).1 X).qo (r:=w.heap.size+1) (n:=32) (T:=31) aB;obtain⟨a6,ad,a2⟩:=aW W I X;clear W I X;refine aL ?_;refine aT 4 ?_;intro j f;go_wp2_with (refine aZ F _ _ _ F F F a6 bf ad ar b' ?_);intro p v U;have q:C p:=(d p).2 (((d cc).1 a2).store U v (by simp[ar.out]) J (by simp<;>omega));go_wp2_with fail;refine f _ _ q ?_;clear f j U;obtain⟨cb,K,aa⟩:=((d p).1 q).qo (r:=w.heap.size+2) (n:=32) (T:=31) aB;obtain⟨a7,ae,al,a1⟩:=bT aa K q v;clear aa K q v;refine aL ?_;refine aT 5 ?_;intro j f;go_wp2_with (refine aZ F _ _ _ F F F a7 bf ae a5 cx ?_);intro g u B;have o:C g:=(d g).2 (((d p).1 al).store B u (by simp[a5.out]) J (by simp<;>omega));go_wp2_with fail;refine f _ _ o ?_;clear f j;obtain⟨ab,ac⟩:=aA (a1.upd B J) u;have M:=O ((d g).1 o).base;clear B u o;refine dP ?_
   go_wp2;refine Si F F F ab ac bf ar a5 F ⟨F,M⟩
  ·have D:=cz.out (n - k) J (m - k) x false rest r c (some A);have b0:=cA.out;have E:=a4.out;rw[<-a3.out]at ag D;rw[H_ af bd ag]at b0;rw[Vf _ _ _ _ _ af bd ag]at E;have D:=λw' cn=>D w' J (by rw[a3.out];omega) J b5 b4 b3 J cQ cn;have ba:=QW x b5 (n - aU n) (m - aU n) false rest J (by rw[a3.out]at*;omega) b4 (by rw[b3.out];omega);rw[a3.out]at D ag ba E;generalize mU dN x (m - k) (n - k) false rest=y at*;obtain⟨ai,P⟩:=y;unfold R7 at D;simp only at D ba E;obtain⟨be,a'⟩:=ba;have cg:=O D;have cM:=λw'=>LX s ai w' cf be;have cN:=λw'=>LX s P w' cf a';obtain⟨c3,c4⟩:=aA (lU s ai) (lU s P);have ar:Hid ((ai.map Y).length=32):=O (by rw[aI,be]);generalize dN s ai=cY at*;generalize dN s P=z at*;have ch:Hid ((cY.map Y).length=32):=O (by rw[aI,c3.out]);have a5:Hid ((z.map Y).length=32):=O (by rw[aI,c4.out]);have c5:=O cM;have de:=dw cY;have bl:Hid ((P.map Y).length=32):=O (by rw[aI,a']);have ci:=O cN;have b':=dw ai;have cw:=dw P;have cx:=dw z;subst E;clear D cM cN b0 a4 b7 be a';have cG:((m:Int) - (k:Int))=((m - k:Nat):Int):=J;have cH:((n:Int) - (k:Int))=((n - k:Nat):Int):=J;obtain⟨c1,c2⟩:=aA cG cH;clear cG cH;go_wp2_with (refine dA F _ (.tmp 5) F F b6 bf Q ?_);rw[c1.out,c2.out];refine(cg g (cy.ext M)).mono ?_;rintro e ao ⟨rfl,a8⟩;go_wp2_with (refine aZ F _ (.tmp 17) _ F F F (au.alloc (au.bK (vs:=replicate 32 (.int .u8 0)) F F) _) bf aB ar b' ?_);intro b1 bt bb;have bs:au b1 (ao.heap.size+1) (replicate 32 (.int .u8 0)) 31:=au.upd (au.bK aB F) bb J;have bw:aj g b1:=a8.ext (bb.ext (((aj.refl ao).alloc _).alloc _) (aQ _))
   go_wp2_with (refine aZ F _ (.tmp 18) _ F F F bs bf aB bl cw ?_);intro ap bv bc;have bu:=bt.upd bc J;have c9:g.heap.size<=ao.heap.size:=a8.size;have N:aj g ap:=bc.ext bw J;obtain⟨c7,cj,ck,bm,cd,bh,bi⟩:=zT (b6.ext N) (cD.ext N) (cE.ext N) (ac.ext N) (M.ext N) bu bv;clear N bw bt bv bc bb bu bs a8 Q b9;generalize co:ao.heap.size=an at*;clear co;go_wp2;obtain⟨C,d,aK,bR⟩:=fK (show bM w ap [bx,an,an+1] [(w.heap.size+1,32,31),(w.heap.size+2,32,31)] ap from bM.IK cd (dR.three bm.lt bh.lt bi.lt) cj ad ck ae);have a_:∀b,C b->au b bx (s.map Y) 31:=λb t=>((d b).1 t).blk bm aB;have cs:∀b,C b->au b an (ai.map Y) 31:=λb t=>((d b).1 t).blk bh aB;have ct:∀b,C b->au b (an+1) (P.map Y) 31:=λb t=>((d b).1 t).blk bi aB;refine fF λX=> ?_;refine aV 0 F (gP F _ _ F F a_ bf bk) ?_;refine aV 1 F (gP F _ _ F F cs bf ar) ?_;refine aV 3 F (gP F _ _ F F a_ bf bk) ?_;refine aV 4 F (gP F _ _ F F ct bf bl) ?_;generalize ap.drew=H at*;refine aT 2 ?_;intro j f;go_wp2_with fail;refine(c5 H).mono ?_;rintro e cc ⟨rfl,az⟩;have a9:=aK _ _ X az;go_wp2_with fail;refine f _ _ a9 ?_;clear f j X az;have X:=a9;clear a9;refine aL ?_;refine aT 5 ?_;intro j f;go_wp2_with fail;refine(ci cc).mono ?_;rintro e cW ⟨rfl,az⟩;have cl:=aK _ _ X az;go_wp2_with fail;refine f _ _ cl ?_;clear f j X az;have X:=cl;clear cl;refine aL ?_;obtain⟨ca,I,W⟩:=((d cW).1 X).qo (r:=w.heap.size+1) (n:=32) (T:=31) aB;obtain⟨a6,ad,a2⟩:=aW W I X;clear W I X;refine aL ?_;refine aT 6 ?_;intro j f;go_wp2_with (refine aZ F _ _ _ F F F a6 bf ad ch de ?_)
   intro p v U;have q:C p:=(d p).2 (((d cW).1 a2).store U v (by simp[ch.out]) J (by simp<;>omega));go_wp2_with fail;refine f _ _ q ?_;clear f j U;obtain⟨cb,K,aa⟩:=((d p).1 q).qo (r:=w.heap.size+2) (n:=32) (T:=31) aB;obtain⟨a7,ae,al,a1⟩:=bT aa K q v;clear aa K q v;refine aL ?_;refine aT 7 ?_;intro j f;go_wp2_with (refine aZ F _ _ _ F F F a7 bf ae a5 cx ?_);intro g u B;have o:C g:=(d g).2 (((d p).1 al).store B u (by simp[a5.out]) J (by simp<;>omega));go_wp2_with fail;refine f _ _ o ?_;clear f j;obtain⟨ab,ac⟩:=aA (a1.upd B J) u;have M:=O ((d g).1 o).base;clear B u o;refine dP ?_;go_wp2;refine Si F F F ab ac bf ch a5 F ⟨F,M⟩
def bM.restore{a W w w':World}{b:List Nat}{g:Nat}{vs:aP}{T:TypeId}(h:bM a W b [] w)(u:dF w g w')(c:au W g vs T)(d:au w' g vs T)(i:a.heap.size<=g):bM a W b [] w':=by
 refine⟨u.ext h.base i,⟨by rw[u.size];exact h.kept.1,h.kept.2.1,λk f=> ?_⟩,aB⟩;by_cases e:k=g
 ·subst e;unfold au at c d;rw[c,d]
 ·exact(u.block k e).trans (h.kept.2.2 k f)
def ahy(x:ah)(m n:Nat)(a:Bool)(ls:List (ah))(w:World)(e:Ending)(w':World):Prop:=
 ∃y z:ah,e= .returned (.tuple #[.agg (y.map Y).toArray,.agg (z.map Y).toArray,.bool (decide (ls.length=kF m n a))])/\y.length=32/\z.length=32/\(ls.length=kF m n a->(y,z)=mU dN x m n a ls)/\aj w w'
def adD{a:Prop}(e:a:=by
 go_enter func167,ntmps167;go_upto_region 1 with(fail);generalize aG:alloc (alloc (alloc w _) _) _=wA;have xA:=wM aG (x.map Y) 31;have yA:=vB aG (replicate 32 (.int .u8 0)) 31;have zA:=vC aG (replicate 32 (.int .u8 0)) 31;have eA:=vE aG;have nG:w.heap.size<=wA.heap.size:=eA.size;have JL:w.heap.size+2<wA.heap.size:=zA.lt;clear aG;obtain⟨XA,YA,ZA,EA⟩:=bT xA yA zA eA;clear xA yA zA eA;go_wp2;obtain⟨C,Z,aK,bR⟩:=fK (show bM w wA [w.heap.size+1,w.heap.size+2] [] wA from bM.iP EA (dR.two YA.lt ZA.lt));have dZ:∀w1,C w1->au w1 (w.heap.size+1) (replicate 32 (.int .u8 0)) 31:=λw1 h1=>((Z w1).1 h1).blk YA aB;have jy:∀w1,C w1->au w1 (w.heap.size+2) (replicate 32 (.int .u8 0)) 31:=λw1 h1=>((Z w1).1 h1).blk ZA aB;refine fF λX=> ?_;refine aV 0 F (gP F _ _ F F dZ bf aB) ?_;refine aV 1 F (gP F _ _ F F jy bf aB) ?_;generalize wA.drew=wD at*;obtain⟨YD,Fq⟩:=aA (dZ wD X) X;clear X;refine aT 2 ?_;intro Q' hQ;go_wp2_with (refine aZ F _ _ _ F F F YD bf aB aB (Gp 32) ?_);intro wE bE uE;have jR:C wE:=(Z wE).2 (((Z wD).1 Fq).restore uE YA bE J);go_wp2_with fail;refine hQ _ _ jR ?_;clear hQ Q' uE bE;obtain⟨ZE,vG⟩:=aA (jy wE jR) jR;clear jR;refine aL ?_;refine aT 3 ?_;intro Q' hQ;go_wp2_with (refine aZ F _ _ _ F F F ZE bf aB aB (Gp 32) ?_);intro wF bF uF;have jF:C wF:=(Z wF).2 (((Z wE).1 vG).restore uF ZA bF J);go_wp2_with fail;refine hQ _ _ jF ?_;clear hQ Q' uF bF;refine aL ?_;refine aT 4 ?_;intro Q' hQ;go_wp2_with fail;refine hQ _ _ jF ?_;clear hQ Q';obtain⟨BE,BF⟩:=aA (dZ wF jF) (jy wF jF)
 have EF:=O ((Z wF).1 jF).base;clear dZ jy;refine dP ?_;go_wp2;refine O5 F F F BE BF bf aB aB F ?_;rw[<-TK];exact⟨fT,fT,by rw[D9.out];rfl,TJ,TJ,λh=>absurd h Di,EF⟩):a:=e
def akJ:∀(n m:Nat) (x:ah) (d:Bool) (ls:List (ah)) (g c:Nat) (a:aO) (w:World),1<=m->m<=n->n<=65536->x.length=32->iH ls->ls.length=g->g<=c->c<=9223372036854775807->aM w a (dH ls)->
 Calls prog 167 #[.int .i64 (m:Int),.int .i64 (n:Int),.bool d,.agg (x.map Y).toArray,.slice a g c] w (ahy x m n d ls w):=by
 intro n;induction n using Nat.strongRecOn with
 |ind n cW=>
 intro m x d ls g c a w P h1 df hx cu s dg cI hcl;have cx:=O cW;have p:Hid ((x.map Y).length=32):=O (by rw[aI,hx]);have ba:=O hx;have bd:=dw x;clear cW hx;by_cases c6:m=n
 ·subst c6;have M:=NZ (n:=m) d;cases d with
  |true=>
   rw[aN F]at M;have a2:(x,x)=mU dN x m m true ls:=by rw[QV];rfl
   have b2:=O a2;obtain⟨D,q⟩:=aF (decide (g=0));have ch:((g:Int)==0)=D:=by rw[<-q,Cc];simp
   have ci:(g==0)=D:=by rw[<-q,Cc];simp
   have v:decide (ls.length=kF m m true)=D:=by rw[M,s];exact q
   have D9:=O v;clear hcl cu s a2 q M v;go_enter func167,ntmps167;go_upto_region 1 with(fail);generalize aG:alloc (alloc (alloc w _) _) _=wA;have xA:=wM aG (x.map Y) 31;have yA:=vB aG (replicate 32 (.int .u8 0)) 31;have zA:=vC aG (replicate 32 (.int .u8 0)) 31;have eA:=vE aG;have nG:w.heap.size<=wA.heap.size:=eA.size;have JL:w.heap.size+2<wA.heap.size:=zA.lt;clear aG;obtain⟨XA,YA,ZA,EA⟩:=bT xA yA zA eA;clear xA yA zA eA;go_wp2;obtain⟨C,Z,aK,bR⟩:=fK (show bM w wA [w.heap.size] [(w.heap.size+1,32,31),(w.heap.size+2,32,31)] wA from bM.IK EA (dR.one XA.lt) YA aB ZA aB);have dZ:∀w1,C w1->au w1 w.heap.size (x.map Y) 31:=λw1 h1=>((Z w1).1 h1).blk XA aB;refine fF λX=> ?_;refine aV 0 F (gP F _ _ F F dZ bf p) ?_;refine aV 1 F (gP F _ _ F F dZ bf p) ?_;refine ay 2 ?_;refine ay 3 ?_;refine ay 4 ?_;generalize wA.drew=wD at*;obtain⟨c',a8,az⟩:=((Z wD).1 X).qo (r:=w.heap.size+1) (n:=32) (T:=31) aB;obtain⟨bl,b6,bw⟩:=aW az a8 X;clear az a8 X;refine aL ?_;refine aT 5 ?_;intro Q' hQ;go_wp2_with (refine aZ F _ _ _ F F F bl bf b6 p bd ?_);intro wE aw cs;have j:C wE:=(Z wE).2 (((Z wD).1 bw).store cs aw (by simp[p.out]) J (by simp<;>omega));go_wp2_with fail;refine hQ _ _ j ?_;clear hQ Q';obtain⟨da,a9,aE⟩:=((Z wE).1 j).qo (r:=w.heap.size+2) (n:=32) (T:=31) aB;obtain⟨bm,b7,bx⟩:=aW aE a9 j;clear aE a9 j;refine aL ?_;refine aT 6 ?_;intro Q' hQ;go_wp2_with (refine aZ F _ _ _ F F F bm bf b7 p bd ?_);intro wF ax a_;have U:C wF:=(Z wF).2 (((Z wE).1 bx).store a_ ax (by simp[p.out]) J (by simp<;>omega))
   go_wp2_with fail;refine hQ _ _ U ?_;clear hQ Q';have cg:=aw.upd a_ J;refine aL ?_;refine aT 7 ?_;intro Q' hQ;go_wp2_with fail;refine hQ _ _ U ?_;clear hQ Q';obtain⟨BE,BF⟩:=aA cg ax;have EF:=O ((Z wF).1 U).base;refine dP ?_;go_wp2;refine O5 F F F BE BF bf p p F ?_;exact⟨x,x,by rw[D9.out];rfl,ba,ba,λ_=>b2,EF⟩
  |false=>
   rw[aJ bS]at M;by_cases bc:g=1
   ·subst bc;obtain⟨y,rfl⟩:=Na.1 s;have a2:(y,y)=mU dN x m m false [y]:=by rw[QV];rfl
    have b2:=O a2;have v:decide (([y]:List (ah)).length=kF m m false)=true:=by rw[M];simp
    have D9:=O v;have cp:=cu y aB;obtain⟨A,rfl,u⟩:∃A,a=some A/\d9 w (A.add (0*32)) (y.map Y):=by
     cases a with
     |none=>
      rcases hcl with h|⟨_,_,h,_⟩
      ·have:=Pb cu;rw[h]at this;simp at this
      ·cases h
     |some A=>exact⟨A,F,hcl.rowAt cu F⟩
    have bv:=O u;have K:Hid ((y.map Y).length=32):=O (by rw[aI,cp]);have cE:=O cp;have cX:=dw y;clear hcl cu s u cp a2 v M;go_enter func167,ntmps167;go_upto_region 1 with(fail);generalize aG:alloc (alloc (alloc w _) _) _=wA;have xA:=wM aG (x.map Y) 31;have yA:=vB aG (replicate 32 (.int .u8 0)) 31;have zA:=vC aG (replicate 32 (.int .u8 0)) 31;have eA:=vE aG;have nG:w.heap.size<=wA.heap.size:=eA.size;have JL:w.heap.size+2<wA.heap.size:=zA.lt;clear aG;obtain⟨XA,YA,ZA,EA⟩:=bT xA yA zA eA;clear xA yA zA eA;go_wp2;obtain⟨C,Z,aK,bR⟩:=fK (show bM w wA [] [(w.heap.size+1,32,31),(w.heap.size+2,32,31)] wA from bM.IK EA (dR.none _) YA aB ZA aB);have u:∀w1,C w1->d9 w1 (A.add (0*32)) (y.map Y):=λw1 h1=>bv.ext ((Z w1).1 h1).base;refine fF λX=> ?_;refine ay 0 ?_;refine aV 1 F (aY F (λw1 _=>gD (i:=0) F F F underlying59 qO J w1)) ?_;refine aV 2 F (aY F (λw1 h=>cB F F (u w1 h) bf K)) ?_;refine ay 3 ?_;refine aV 4 F (aY F (λw1 _=>gD (i:=0) F F F underlying59 qO J w1)) ?_;refine aV 5 F (aY F (λw1 h=>cB F F (u w1 h) bf K)) ?_;generalize wA.drew=wD at*;obtain⟨c',a8,az⟩:=((Z wD).1 X).qo (r:=w.heap.size+1) (n:=32) (T:=31) aB;obtain⟨bl,b6,bw⟩:=aW az a8 X;clear az a8 X;refine aL ?_;refine aT 6 ?_;intro Q' hQ;go_wp2_with (refine aZ F _ _ _ F F F bl bf b6 K cX ?_);intro wE aw cs;have j:C wE:=(Z wE).2 (((Z wD).1 bw).store cs aw (by simp[K.out]) J (by simp<;>omega));go_wp2_with fail;refine hQ _ _ j ?_;clear hQ Q';obtain⟨da,a9,aE⟩:=((Z wE).1 j).qo (r:=w.heap.size+2) (n:=32) (T:=31) aB
    obtain⟨bm,b7,bx⟩:=aW aE a9 j;clear aE a9 j;refine aL ?_;refine aT 7 ?_;intro Q' hQ;go_wp2_with (refine aZ F _ _ _ F F F bm bf b7 K cX ?_);intro wF ax a_;have U:C wF:=(Z wF).2 (((Z wE).1 bx).store a_ ax (by simp[K.out]) J (by simp<;>omega));go_wp2_with fail;refine hQ _ _ U ?_;clear hQ Q';have cg:=aw.upd a_ J;refine aL ?_;refine aT 8 ?_;intro Q' hQ;go_wp2_with fail;refine hQ _ _ U ?_;clear hQ Q';obtain⟨BE,BF⟩:=aA cg ax;have EF:=O ((Z wF).1 U).base;refine dP ?_;go_wp2;refine O5 F F F BE BF bf K K F ?_;exact⟨y,y,by rw[D9.out];rfl,cE,cE,λ_=>b2,EF⟩
   ·have B:¬ls.length=kF m m false:=by rw[M,s];exact bc
    have v:=bg B;obtain⟨D9,Di⟩:=aA v B;have ch:((g:Int) != 1)=true:=by simp;omega
    have ci:(g != 1)=true:=by simp[bc]
    clear hcl cu s B v M bc;exact adD
 ·have ae:m<n:=J;have cN:1<=kF m n d:=by
   by_cases cQ:m<=aU n
   ·rw[H9 P ae cQ];omega
   ·rw[H_ P ae cQ];omega
  by_cases cP:g=0
  ·subst cP;have B:¬ls.length=kF m n d:=by rw[s];omega
   have v:=bg B;obtain⟨D9,Di⟩:=aA v B;clear hcl cu s B v cN;exact adD
  ·obtain⟨rest,b,rfl⟩:∃rest b,ls=rest++[b]:=by
    have B:ls≠[]:=by intro h;rw[h]at s;simp at s;omega
    exact⟨ls.dropLast,ls.getLast B,(P9 B).symm⟩
   obtain⟨r,rfl⟩:∃r,g=r+1:=⟨g - 1,J⟩;have hr:rest.length=r:=by simpa using s
   have EK:(rest++[b])[r]? =some b:=by rw[<-hr];simp
   have cR:iH rest:=λl a6=>cu l (by simp[a6]);have cn:b.length=32:=cu b aB;obtain⟨A,c5,u⟩:∃A,a=some A/\d9 w (A.add (r*32)) (b.map Y):=by
    exact XM
   subst c5;have cJ:aM w (some A) (dH rest):=by
    have:=hcl.Mc cu r;rwa[<-hr,oo F]at this
   have cT:=oF (n:=n) J;obtain⟨a1,cy,cz⟩:=aW (λw=>Oa n w J J) hr cR;have ai:Hid ((b.map Y).length=32):=O (by rw[aI,cn]);have b4:=O cn;have c9:=dw b;obtain⟨bv,cw⟩:=aA u cJ;have cS:r<=c:=J;clear hr cR cn u cJ cu hcl EK s cN cP;obtain⟨k,cm⟩:=aF (aU n);have I:=O cm;rw[cm]at cT a1;clear cm;obtain⟨k1,k2,k3⟩:=cT;have ch:((r:Int)+1==0)=false:=by simp;omega
   have ci:(r+1==0)=false:=aB;go_enter func167,ntmps167;go_upto_region 1 with(fail);generalize aG:alloc (alloc (alloc w _) _) _=wA;have xA:=wM aG (x.map Y) 31;have yA:=vB aG (replicate 32 (.int .u8 0)) 31;have zA:=vC aG (replicate 32 (.int .u8 0)) 31;have eA:=vE aG;have nG:w.heap.size<=wA.heap.size:=eA.size;have JL:w.heap.size+2<wA.heap.size:=zA.lt;clear aG;obtain⟨XA,YA,ZA,EA⟩:=bT xA yA zA eA;clear xA yA zA eA;go_wp2;obtain⟨C,Z,aK,bR⟩:=fK (show bM w wA [w.heap.size] [(w.heap.size+1,32,31),(w.heap.size+2,32,31)] wA from bM.IK EA (dR.one XA.lt) YA aB ZA aB);have u:∀w1,C w1->d9 w1 (A.add (r*32)) (b.map Y):=λw1 h1=>bv.ext ((Z w1).1 h1).base;have c8:IntKind.i64.wrap (r:Int)=(r:Int):=fJ _ J;refine fF λX=> ?_;refine ay 0 ?_;refine ay 1 ?_;refine ay 2 ?_;refine ay 3 ?_;refine aV 4 F (aY F (λw1 _=>gD (i:=r) F F F underlying59 qO J w1)) ?_;refine aV 5 F (aY F (λw1 h=>cB F F (u w1 h) bf ai)) ?_;refine ay 6 ?_;refine ay 7 ?_;refine ay 8 ?_;refine ay 9 ?_;refine aV 10 F (aY F (λw1 _=>yG (k:=r) F F F underlying59 qO J w1)) ?_;clear c8;generalize wA.drew=wD at*;have c7:wA.heap.size<=wD.heap.size:=((Z wD).1 X).kept.1;refine aT 11 ?_;intro Q' hQ;go_wp2_with fail;refine hQ _ _ (aK _ _ X ((aj.refl _).alloc _)) ?_;clear hQ Q';generalize j:wD.alloc _=wE;have bE:au wE wD.heap.size (replicate 32 (.int .u8 0)) 31:=by rw[<-j];exact au.bK F F
   have jR:C wE:=by rw[<-j];exact aK _ _ X ((aj.refl _).alloc _)
   clear j X;obtain⟨BE,vG⟩:=aA bE jR;clear bE jR;generalize wD.heap.size=a0 at*;refine aL ?_;refine aT 12 ?_;intro Q' hQ;go_wp2_with (refine aZ F _ _ _ F F F BE bf aB ai c9 ?_);intro wF bF uF;have jF:C wF:=(Z wF).2 (((Z wE).1 vG).upd uF c7 nG);go_wp2_with fail;refine hQ _ _ jF ?_;clear hQ Q' uF;refine aL ?_;refine aT 13 ?_;intro Q' hQ;go_wp2_with fail;refine hQ _ _ jF ?_;clear hQ Q';refine dP ?_;have bb:=O (((Z wF).1 jF).blk XA aB);have EF:=O ((Z wF).1 jF).base;obtain⟨dk,cU,cY⟩:=((Z wF).1 jF).qo (r:=w.heap.size+1) (n:=32) (T:=31) aB;obtain⟨cG,cC⟩:=aA cY cU;obtain⟨dl,cV,c0⟩:=((Z wF).1 jF).qo (r:=w.heap.size+2) (n:=32) (T:=31) aB;obtain⟨cH,cD,BF⟩:=aW c0 cV bF;have di:a0<wF.heap.size:=bF.lt;have dj:w.heap.size<=wF.heap.size:=EF.size;clear jF c0 cV cY cU bF Z aK bR u nG ch ci;by_cases a5:m<=k
   ·have a7:=λw' cl=>cx k k2 m x d rest r c (some A) w' P a5 J ba cz cy cS cI cl;have R:decide ((rest++[b]).length=kF m n d)=decide (rest.length=kF m k d):=by
     rw[H9 P ae (by rw[I.out];exact a5),I.out,bQ,Cc];simp
    have a4:∀y z,(rest.length=kF m k d->(y,z)=mU dN x m k d rest)->(rest++[b]).length=kF m n d->(y,dN z b)=mU dN x m n d (rest++[b]):=by
     intro y z h a6;have cj:=h (by have:=bV a6;rw[R]at this;exact of_decide_eq_true this);rw[Ve _ _ _ _ _ P ae (by rw[I.out];exact a5),I.out,<-cj]
    obtain⟨b0,b3,b5⟩:=aW R a4 a7;clear R a4 a7;go_wp2_with (first|(go_at_call 66;refine(a1 _).mono ?_;rintro e w' ⟨rfl,rfl⟩)|(refine dA F _ (.tmp 8) F F bb bf p ?_));refine(b5 wF (cw.ext EF)).mono ?_;intro e db co;obtain⟨o,f,rfl,V,aa,a3,t⟩:=co;obtain⟨D,q⟩:=aF (decide (rest.length=kF m k d));rw[q];obtain⟨bz,b1⟩:=aA q (b3 o f a3);have E:Hid ((o.map Y).length=32):=O (by rw[aI,V]);have N:Hid ((f.map Y).length=32):=O (by rw[aI,aa]);have be:=dw o;have cq:=dw f;obtain⟨b',al⟩:=aA (λw'=>Ma f b w' aa b4) (lU f b);generalize dN f b=z at*;have c3:=O V;have am:Hid ((z.map Y).length=32):=O (by rw[aI,al.out]);have cr:=dw z;obtain⟨ca,cc,b8,bo⟩:=bT (cG.ext t) (cH.ext t) (BF.ext t) (EF.ext t);clear t a3 V aa q a1;go_wp2_with (refine aZ F _ (.tmp 10) _ F F F ca bf cC E be ?_);intro dc ao G;obtain⟨cd,b9,bp,bh⟩:=bT (cc.upd G J) (b8.upd G J) (G.ext bo J) ao;clear ao G;go_wp2_with (refine aZ F _ (.tmp 11) _ F F F cd bf cD N cq ?_);intro ad ap H;obtain⟨an,br,af,ag⟩:=bT (b9.upd H J) (H.ext bp J) (bh.upd H J) ap;clear ap H bb p bd;go_wp2;obtain⟨C,Z,aK,bR⟩:=fK (show bM w ad [a0,w.heap.size+1,w.heap.size+2] [] ad from bM.iP br (dR.three an.lt af.lt ag.lt));have dZ:∀w1,C w1->au w1 a0 (b.map Y) 31:=λw1 h1=>((Z w1).1 h1).blk an aB;have jy:∀w1,C w1->au w1 (w.heap.size+1) (o.map Y) 31:=λw1 h1=>((Z w1).1 h1).blk af aB;have S:∀w1,C w1->au w1 (w.heap.size+2) (f.map Y) 31:=λw1 h1=>((Z w1).1 h1).blk ag aB;refine nK (W:=[5,6,7]) λX=> ?_;refine l8 0 F (gP F _ _ F F jy bf E) ?_;refine l8 1 F (gP F _ _ F F S bf N) ?_
    refine l8 2 F (gP F _ _ F F dZ bf ai) ?_;refine dL 4 ?_;generalize ad.drew=wD at*;refine i_ 3 ?_;intro Q' hQ;go_wp2_with fail;refine(b' wD).mono ?_;rintro e a' ⟨rfl,L⟩;have Q:=aK _ _ X L;go_wp2_with fail;refine hQ _ _ Q ?_;clear hQ Q' X L;have X:=Q;clear Q;refine aL ?_;obtain⟨cb,ce⟩:=aA (jy a' X) (S a' X);have bs:=O ((Z a').1 X).base;clear X dZ jy S;refine lK 5 ?_;intro Q' hQ;go_wp2_with (refine aZ F _ _ _ F F F cb bf E E be ?_);intro dd aq ab;obtain⟨cf,bt,bi⟩:=aW (ce.upd ab J) (ab.ext bs J) aq;clear aq ab;go_wp2_with fail;refine hQ _ _ trivial ?_;clear hQ Q';refine aL ?_;refine lK 6 ?_;intro Q' hQ;go_wp2_with (refine aZ F _ _ _ F F F cf bf N am cr ?_);intro de ar ac;obtain⟨bu,bk,bj⟩:=aW (ac.ext bt J) (bi.upd ac J) ar;clear ar ac;go_wp2_with fail;refine hQ _ _ trivial ?_;clear hQ Q';refine aL ?_;refine lK 7 ?_;intro Q' hQ;go_wp2_with fail;refine hQ _ _ trivial ?_;clear hQ Q';refine n_ ?_;go_wp2;refine O5 F F F bk bj bf E am F ?_;exact⟨o,z,by rw[b0.out,bz.out];rfl,c3,al,b1,bu⟩
   ·have a7:=λw' cl=>cx (n - k) J (m - k) x false rest r c (some A) w' J J J ba cz cy cS cI cl;have R:decide ((rest++[b]).length=kF m n d)=decide (rest.length=kF (m - k) (n - k) false):=by
     rw[H_ P ae (by rw[I.out];exact a5),I.out,bQ,Cc];simp
    have a4:∀y z,(rest.length=kF (m - k) (n - k) false->(y,z)=mU dN x (m - k) (n - k) false rest)->(rest++[b]).length=kF m n d->(dN b y,dN b z)=mU dN x m n d (rest++[b]):=by
     intro y z h a6;have cj:=h (by have:=bV a6;rw[R]at this;exact of_decide_eq_true this);rw[Vf _ _ _ _ _ P ae (by rw[I.out];exact a5),I.out,<-cj]
    obtain⟨b0,b3,b5⟩:=aW R a4 a7;clear R a4 a7;have cL:((m:Int) - (k:Int))=((m - k:Nat):Int):=J;have cM:((n:Int) - (k:Int))=((n - k:Nat):Int):=J;obtain⟨c1,c2⟩:=aA cL cM;clear cL cM;go_wp2_with (first|(go_at_call 66;refine(a1 _).mono ?_;rintro e w' ⟨rfl,rfl⟩)|(refine dA F _ (.tmp 8) F F bb bf p ?_));rw[c1.out,c2.out];refine(b5 wF (cw.ext EF)).mono ?_;intro e db co;obtain⟨o,f,rfl,V,aa,a3,t⟩:=co;obtain⟨D,q⟩:=aF (decide (rest.length=kF (m - k) (n - k) false));rw[q];obtain⟨bz,b1⟩:=aA q (b3 o f a3);have E:Hid ((o.map Y).length=32):=O (by rw[aI,V]);have N:Hid ((f.map Y).length=32):=O (by rw[aI,aa]);have be:=dw o;have cq:=dw f;obtain⟨c4,b',cA,al⟩:=bT (λw'=>Ma b o w' b4 V) (λw'=>Ma b f w' b4 aa) (lU b o) (lU b f);generalize dN b o=cv at*;generalize dN b f=z at*;have cF:Hid ((cv.map Y).length=32):=O (by rw[aI,cA.out]);have c_:=dw cv;have am:Hid ((z.map Y).length=32):=O (by rw[aI,al.out]);have cr:=dw z;obtain⟨ca,cc,b8,bo⟩:=bT (cG.ext t) (cH.ext t) (BF.ext t) (EF.ext t);clear t a3 V aa q a1;go_wp2_with (refine aZ F _ (.tmp 10) _ F F F ca bf cC E be ?_);intro dc ao G;obtain⟨cd,b9,bp,bh⟩:=bT (cc.upd G J) (b8.upd G J) (G.ext bo J) ao;clear ao G;go_wp2_with (refine aZ F _ (.tmp 11) _ F F F cd bf cD N cq ?_);intro ad ap H;obtain⟨an,br,af,ag⟩:=bT (b9.upd H J) (H.ext bp J) (bh.upd H J) ap;clear ap H bb p bd;go_wp2;obtain⟨C,Z,aK,bR⟩:=fK (show bM w ad [a0,w.heap.size+1,w.heap.size+2] [] ad from bM.iP br (dR.three an.lt af.lt ag.lt));have dZ:∀w1,C w1->au w1 a0 (b.map Y) 31:=λw1 h1=>((Z w1).1 h1).blk an aB
    have jy:∀w1,C w1->au w1 (w.heap.size+1) (o.map Y) 31:=λw1 h1=>((Z w1).1 h1).blk af aB;have S:∀w1,C w1->au w1 (w.heap.size+2) (f.map Y) 31:=λw1 h1=>((Z w1).1 h1).blk ag aB;refine nK (W:=[7,8,9]) λX=> ?_;refine l8 0 F (gP F _ _ F F dZ bf ai) ?_;refine l8 1 F (gP F _ _ F F jy bf E) ?_;refine l8 3 F (gP F _ _ F F dZ bf ai) ?_;refine l8 4 F (gP F _ _ F F S bf N) ?_;refine dL 6 ?_;generalize ad.drew=wD at*;refine i_ 2 ?_;intro Q' hQ;go_wp2_with fail;refine(c4 wD).mono ?_;rintro e a' ⟨rfl,L⟩;have Q:=aK _ _ X L;go_wp2_with fail;refine hQ _ _ Q ?_;clear hQ Q' X L;have X:=Q;clear Q;refine aL ?_;refine i_ 5 ?_;intro Q' hQ;go_wp2_with fail;refine(b' a').mono ?_;rintro e ct ⟨rfl,L⟩;have ck:=aK _ _ X L;go_wp2_with fail;refine hQ _ _ ck ?_;clear hQ Q' X L;have X:=ck;clear ck;refine aL ?_;obtain⟨cb,ce⟩:=aA (jy ct X) (S ct X);have bs:=O ((Z ct).1 X).base;clear X dZ jy S;refine lK 7 ?_;intro Q' hQ;go_wp2_with (refine aZ F _ _ _ F F F cb bf E cF c_ ?_);intro dd aq ab;obtain⟨cf,bt,bi⟩:=aW (ce.upd ab J) (ab.ext bs J) aq;clear aq ab;go_wp2_with fail;refine hQ _ _ trivial ?_;clear hQ Q';refine aL ?_;refine lK 8 ?_;intro Q' hQ;go_wp2_with (refine aZ F _ _ _ F F F cf bf N am cr ?_);intro de ar ac;obtain⟨bu,bk,bj⟩:=aW (ac.ext bt J) (bi.upd ac J) ar;clear ar ac;go_wp2_with fail;refine hQ _ _ trivial ?_;clear hQ Q';refine aL ?_;refine lK 9 ?_;intro Q' hQ;go_wp2_with fail;refine hQ _ _ trivial ?_;clear hQ Q';refine n_ ?_;go_wp2;refine O5 F F F bk bj bf cF am F ?_;exact⟨cv,z,by rw[b0.out,bz.out];rfl,cA,al,b1,bu⟩
def Ia(x y:ah)(I a:Int)(ls:List (ah)):Int:=
 if a<1∨65536<a∨I<1∨a<I then 4 else if ls.length=kF I.toNat a.toNat true then
  (if(mU dN x I.toNat a.toNat true ls).1==x&&(mU dN x I.toNat a.toNat true ls).2==y then 0 else 12)else 12
def Ml{a:Prop}(e:a:=by
 go_wp2_with (first|(refine dA F 31 (.tmp 7) F F B7 bf rX ?_)|(refine dA F 31 (.tmp 3) F F XC bf HX ?_)|(refine qP F 31 (.tmp 7) F F B7 bf rX ?_)|(refine qP F 31 (.tmp 3) F F XC bf HX ?_)|(refine qP F 31 (.tmp 8) F F B8 bf Dj ?_)|(refine qP F 31 (.tmp 4) F F YC bf HY ?_)|(refine Fh F .neq _ _ _ _ F F F N9 N1 ?_)|(refine Fh F .neq _ _ _ _ F F F N9 N2 ?_));go_ret;exact⟨F,EC⟩):a:=e
def ahB(x y:ah)(I j:Int)(ls:List (ah))(m c:Nat)(a:aO)(w:World)(hx:x.length=32)(ac:y.length=32)(ax:iH ls)(a1:ls.length=m)(br:m<=c)(b3:c<=9223372036854775807)(aE:aM w a (dH ls)):
 eO 113 #[.agg (x.map Y).toArray,.agg (y.map Y).toArray,.agg #[.int .i64 I,.int .i64 j,.slice a m c]] w (.int .i64 (Ia x y I j ls)):=by
 have HX:Hid ((x.map Y).length=32):=O (by rw[aI,hx]);have HY:Hid ((y.map Y).length=32):=O (by rw[aI,ac]);obtain⟨M,a9⟩:=aA hx ac;obtain⟨N,H⟩:=aF (Ia x y I j ls);rw[H];unfold Ia at H;obtain⟨ai,ag,L,a5⟩:=bT H ax a1 aE;clear H hx ac ax a1 aE;go_enter func113,ntmps113;go_upto_region 1 with(fail);generalize B:alloc (alloc (alloc w _) _) _=t;have a3:=wM B (x.map Y) 31;have a4:=vB B (y.map Y) 31;have D:=vC B [.int .i64 I,.int .i64 j,.slice a m c] 61;have ar:=vE B;clear B;have ba:t.cell? ⟨w.heap.size+2,0,none⟩=some (.int .i64 I):=D.cell' F;have bb:t.cell? ⟨w.heap.size+2,1,none⟩=some (.int .i64 j):=D.cell' F;have bc:t.cell? ⟨w.heap.size+2,2,none⟩=some (.slice a m c):=D.cell' F;obtain⟨al,an,E,u⟩:=bT a3 a4 D ar;clear a3 a4 ar D;have b:=ai.out;clear ai;by_cases P:j<1
 ·rw[aN (.inl P)]at b;subst b;have bd:=bV P;go_wp2;go_ret;exact⟨F,u⟩
 have bd:=bg P;by_cases Q:65536<j
 ·rw[aN (.inr (.inl Q))]at b;subst b;have be:=bV Q;go_wp2;go_ret;exact⟨F,u⟩
 have be:=bg Q;by_cases R:I<1
 ·rw[aN (.inr (.inr (.inl R)))]at b;subst b;have bh:=bV R;go_wp2;go_ret;exact⟨F,u⟩
 have bh:=bg R;by_cases S:j<I
 ·rw[aN (.inr (.inr (.inr S)))]at b;subst b;have bi:=bV S;go_wp2;go_ret;exact⟨F,u⟩
 have bi:=bg S;rw[aJ J]at b;obtain⟨i,rfl⟩:=uO (show 0<=I by omega);obtain⟨n,rfl⟩:=uO (show 0<=j by omega);rw[su,su,L.out]at b;have bx:=bU (n<i);have bz:=bU (65536<n);have b0:=bU (n<1);have b1:=bU (i<1);have bs:=O (λw=>ahC i n w J J J);have b2:=Vj i n true J J;obtain⟨z,a0⟩:=aA (λh w' bo=>ahs n i x true ls m c a w' J J J M ag L h br bo) (λh=>QW x M n i true ls J J ag h);generalize mU dN x i n true ls=bv at*;generalize kF i n true=v at*;obtain⟨p,q⟩:=bv;unfold R7 at z;simp only at z a0 b;go_wp2;obtain⟨C,r,aK,bR⟩:=fK (show bM w t [w.heap.size,w.heap.size+1,w.heap.size+2] [] t from bM.iP u (dR.three al.lt an.lt E.lt));have T:∀f,C f->f.cell? ⟨w.heap.size+2,0,none⟩=some (.int .i64 (i:Int)):=λf d=>(((r f).1 d).blk E aB).cell' F;have U:∀f,C f->f.cell? ⟨w.heap.size+2,1,none⟩=some (.int .i64 (n:Int)):=λf d=>(((r f).1 d).blk E aB).cell' F;have V:∀f,C f->f.cell? ⟨w.heap.size+2,2,none⟩=some (.slice a m c):=λf d=>(((r f).1 d).blk E aB).cell' F;refine fF λX=> ?_;clear ba bb bc;refine ay 0 ?_;refine dW 1 (V) ?_;refine ay 2 ?_;refine ay 3 ?_;refine dW 4 (T) ?_;refine ay 5 ?_;refine dW 6 (U) ?_;generalize t.drew=g at*;refine aT 7 ?_;intro a_ az;go_wp2_with fail;refine(bs g).mono ?_;rintro e w' ⟨rfl,rfl⟩;go_wp2_with fail;refine az _ _ X ?_;clear az a_;obtain⟨am,a'⟩:=aA (((r g).1 X).blk al aB) (((r g).1 X).blk an aB);have K:=O ((r g).1 X).base;have bj:=T g X;have bk:=U g X;have bl:=V g X;clear T U V;by_cases k:m=v
 ·rw[aN k]at b;have g1:((m:Int) != (v:Int))=false:=by simp[k]
  have bm:(m != v)=false:=by simp[k]
  have z:=O (z k);obtain⟨aa,ab⟩:=a0.out (by rw[L.out];exact k);obtain⟨a6,a7⟩:=aA aa ab;have rX:Hid ((p.map Y).length=32):=O (by rw[aI,aa]);have Dj:Hid ((q.map Y).length=32):=O (by rw[aI,ab]);have bt:=dw p;have bu:=dw q;have a8:=O b;clear aa ab k b;refine aL ?_;refine ay 8 ?_;refine dP ?_;clear aK bR r X;go_wp2_with (refine dA F _ (.tmp 3) F F am bf HX ?_);refine(z g (a5.ext K)).mono ?_;rintro e af ⟨rfl,W⟩;clear bj bk bl;go_wp2_with (refine aZ F _ (.tmp 7) _ F F F (au.alloc (au.bK (vs:=replicate 32 (.int .u8 0)) F F) _) bf aB rX bt ?_);intro a2 ap ad;have ao:au a2 (af.heap.size+1) (replicate 32 (.int .u8 0)) 31:=au.upd (au.bK aB F) ad J;have aw:aj g a2:=W.ext (ad.ext (((aj.refl af).alloc _).alloc _) (aQ _));go_wp2_with (refine aZ F _ (.tmp 8) _ F F F ao bf aB Dj bu ?_);intro bw aq ae;have bp:(g).heap.size<=af.heap.size:=W.size;have G:aj g bw:=ae.ext aw J;obtain⟨XC,YC,EC,B7,B8⟩:=fC (am.ext G) (a'.ext G) (K.ext G) (ap.upd ae J) aq;clear G aw ap aq ae ad ao W bp;have b:=a8.out;have l:=xI underlying31 p x a6 M;have o:=xI underlying31 q y a7 a9;cases d:(p==x)with
  |false=>
   rw[d]at l b;obtain⟨N1,N2⟩:=aA l o;have A:(12:Int)=N:=b;subst A;clear l o d b;exact Ml
  |true=>
   cases s:(q==y)with
   |false=>
    rw[d]at l;rw[s]at o;rw[d,s]at b;obtain⟨N1,N2⟩:=aA l o;have A:(12:Int)=N:=b;subst A;clear l o d s b;exact Ml
   |true=>
    rw[d]at l;rw[s]at o;rw[d,s]at b;obtain⟨N1,N2⟩:=aA l o;have A:(0:Int)=N:=b;subst A;clear l o d s b;exact Ml
 ·rw[aJ k]at b;subst b;have g1:((m:Int) != (v:Int))=true:=by simp;omega
  have bm:(m != v)=true:=by simp[k]
  clear k;refine aL ?_;refine ay 8 ?_;refine dP ?_;go_wp2;go_ret;exact⟨F,K⟩
def akK(x y:ah)(I f:Int)(ls:List (ah))(m c:Nat)(a:aO)(w:World)(ae:x.length=32)(af:y.length=32)(an:iH ls)(ap:ls.length=m)(be:m<=c)(bc:c<=9223372036854775807)(ao:aM w a (dH ls)):
 eO 114 #[.agg (x.map Y).toArray,.agg (y.map Y).toArray,.agg #[.int .i64 I,.int .i64 f,.slice a m c]] w (.int .i64 (Ia x y I f ls)):=by
 have HX:Hid ((x.map Y).length=32):=O (by rw[aI,ae]);have HY:Hid ((y.map Y).length=32):=O (by rw[aI,af]);obtain⟨al,a3⟩:=aA ae af;obtain⟨S,R⟩:=aF (Ia x y I f ls);rw[R];unfold Ia at R;obtain⟨ai,az,z,aE⟩:=bT R an ap ao;clear R ae af an ap ao;go_enter func114,ntmps114;go_upto_region 1 with(fail);generalize K:alloc (alloc (alloc w _) _) _=d;have aw:=wM K (x.map Y) 31;have ax:=vB K (y.map Y) 31;have L:=vC K [.int .i64 I,.int .i64 f,.slice a m c] 61;have am:=vE K;clear K;have a6:d.cell? ⟨w.heap.size+2,0,none⟩=some (.int .i64 I):=L.cell' F;have a7:d.cell? ⟨w.heap.size+2,1,none⟩=some (.int .i64 f):=L.cell' F;have a8:d.cell? ⟨w.heap.size+2,2,none⟩=some (.slice a m c):=L.cell' F;obtain⟨a4,a5,bi,v⟩:=bT aw ax L am;clear aw ax am L;have b:=ai.out;clear ai;by_cases U:f<1
 ·rw[aN (.inl U)]at b;subst b;have a9:=bV U;go_wp2;go_ret;exact⟨F,v⟩
 have a9:=bg U;by_cases V:65536<f
 ·rw[aN (.inr (.inl V))]at b;subst b;have a_:=bV V;go_wp2;go_ret;exact⟨F,v⟩
 have a_:=bg V;by_cases W:I<1
 ·rw[aN (.inr (.inr (.inl W)))]at b;subst b;have a':=bV W;go_wp2;go_ret;exact⟨F,v⟩
 have a':=bg W;by_cases aa:f<I
 ·rw[aN (.inr (.inr (.inr aa)))]at b;subst b;have ba:=bV aa;go_wp2;go_ret;exact⟨F,v⟩
 have ba:=bg aa;rw[aJ J]at b;obtain⟨i,rfl⟩:=uO (show 0<=I by omega);obtain⟨n,rfl⟩:=uO (show 0<=f by omega);rw[su,su,z.out]at b;have bj:=bU (n<i);have bk:=bU (65536<n);have bl:=bU (n<1);have bm:=bU (i<1);have bd:=O (λw' bb=>akJ n i x true ls m c a w' J J J al az z be bc bb);have Q:=a4;have T:=a5;have N:=v;go_wp2_with (refine dA F _ (.tmp 3) F F Q bf HX ?_);refine(bd d (aE.ext N)).mono ?_;intro e u bh;obtain⟨p,q,rfl,ac,ad,G,s⟩:=bh;obtain⟨a0,a1⟩:=aA ac ad;have rX:Hid ((p.map Y).length=32):=O (by rw[aI,ac]);have Dj:Hid ((q.map Y).length=32):=O (by rw[aI,ad]);have aq:=dw p;have ar:=dw q;have P:=O b;clear ac ad b a6 a7 a8;by_cases l:m=kF i n true
 ·have E:decide (ls.length=kF i n true)=true:=bV (by rw[z.out];exact l);rw[E];have G:=G (by rw[z.out];exact l);have b:=P.out;rw[aN l,<-G]at b;simp only at b;have a2:=O b;clear E l G b P;go_wp2_with (refine aZ F _ (.tmp 7) _ F F F (au.alloc (au.bK (vs:=replicate 32 (.int .u8 0)) F F) _) bf aB rX aq ?_);intro M B o;have A:au M (u.heap.size+1) (replicate 32 (.int .u8 0)) 31:=au.upd (au.bK aB F) o J;have D:aj d M:=s.ext (o.ext (((aj.refl u).alloc _).alloc _) (aQ _));go_wp2_with (refine aZ F _ (.tmp 8) _ F F F A bf aB Dj ar ?_);intro ag C r;have ab:(d).heap.size<=u.heap.size:=s.size;have g:aj d ag:=r.ext D J;obtain⟨XC,YC,EC,B7,B8⟩:=fC (Q.ext g) (T.ext g) (N.ext g) (B.upd r J) C;clear g D B C r o A s ab;clear Q T N;have b:=a2.out;have h:=xI underlying31 p x a0 al;have k:=xI underlying31 q y a1 a3;cases j:(p==x)with
  |false=>
   rw[j]at h b;obtain⟨N1,N2⟩:=aA h k;have H:(12:Int)=S:=b;subst H;clear h k j b;exact Ml
  |true=>
   cases t:(q==y)with
   |false=>
    rw[j]at h;rw[t]at k;rw[j,t]at b;obtain⟨N1,N2⟩:=aA h k;have H:(12:Int)=S:=b;subst H;clear h k j t b;exact Ml
   |true=>
    rw[j]at h;rw[t]at k;rw[j,t]at b;obtain⟨N1,N2⟩:=aA h k;have H:(0:Int)=S:=b;subst H;clear h k j t b;exact Ml
 ·have E:decide (ls.length=kF i n true)=false:=bg (by rw[z.out];exact l);rw[E];have b:=P.out;rw[aJ l]at b;subst b;clear E l G P;go_wp2_with (refine aZ F _ (.tmp 7) _ F F F (au.alloc (au.bK (vs:=replicate 32 (.int .u8 0)) F F) _) bf aB rX aq ?_);intro M B o;have A:au M (u.heap.size+1) (replicate 32 (.int .u8 0)) 31:=au.upd (au.bK aB F) o J;have D:aj d M:=s.ext (o.ext (((aj.refl u).alloc _).alloc _) (aQ _));go_wp2_with (refine aZ F _ (.tmp 8) _ F F F A bf aB Dj ar ?_);intro ag C r;have ab:(d).heap.size<=u.heap.size:=s.size;have g:aj d ag:=r.ext D J;obtain⟨XC,YC,EC,B7,B8⟩:=fC (Q.ext g) (T.ext g) (N.ext g) (B.upd r J) C;clear g D B C r o A s ab;go_wp2;go_ret;exact⟨F,EC⟩
section
section
variable (nd:ah->ah->ah)
def lV(ls:List (ah)):ah:=
 if h:ls.length<2 then ls.headD fT else nd (lV (ls.take (aU ls.length))) (lV (ls.drop (aU ls.length)))
termination_by ls.length
decreasing_by
 ·have:=oF (n:=ls.length) J;rw[fP];omega
 ·have:=oF (n:=ls.length) J;rw[iI];omega
def akV(x:ah):lV nd [x]=x:=by rw[lV];simp
def acs{ls:List (ah)}(h:2<=ls.length):lV nd ls=nd (lV nd (ls.take (aU ls.length))) (lV nd (ls.drop (aU ls.length))):=by
 rw[lV,FI J]
def Ar(d:∀a b,(nd a b).length=32){ls:List (ah)}(h:iH ls):(lV nd ls).length=32:=by
 rcases Fz ls.length 2 with c|c
 ·rw[lV,zW c];cases ls with
  |nil=>exact TJ
  |cons x r=>exact h x aB
 ·rw[acs nd c];exact d _ _
end
end
section
section
variable (nd:ah->ah->ah)
def xM(ls:List (ah))(i:Nat):List (ah):=
 if h:ls.length<2 then[]else
  if i<aU ls.length then xM (ls.take (aU ls.length)) i++[lV nd (ls.drop (aU ls.length))]
  else xM (ls.drop (aU ls.length)) (i - aU ls.length)++[lV nd (ls.take (aU ls.length))]
termination_by ls.length
decreasing_by
 ·have:=oF (n:=ls.length) J;rw[fP];omega
 ·have:=oF (n:=ls.length) J;rw[iI];omega
def aj5(x:ah)(i:Nat):xM nd [x] i=[]:=by rw[xM];simp
def Ww{ls:List (ah)}(h:2<=ls.length)(i:Nat):xM nd ls i=if i<aU ls.length then xM nd (ls.take (aU ls.length)) i++[lV nd (ls.drop (aU ls.length))]else xM nd (ls.drop (aU ls.length)) (i - aU ls.length)++[lV nd (ls.take (aU ls.length))]:=by
 rw[xM,FI J]
def xB(ls:List (ah))(m:Nat)(whole:Bool):List (ah):=
 if m=ls.length∨ls.length<2 then(if whole then[]else[lV nd ls])else
  if m<=aU ls.length then xB (ls.take (aU ls.length)) m whole++[lV nd (ls.drop (aU ls.length))]
  else xB (ls.drop (aU ls.length)) (m - aU ls.length) false++[lV nd (ls.take (aU ls.length))]
termination_by ls.length
decreasing_by
 ·have:=oF (n:=ls.length) J;rw[fP];omega
 ·have:=oF (n:=ls.length) J;rw[iI];omega
def ahA(ls:List (ah))(whole:Bool):xB nd ls ls.length whole=if whole then[]else[lV nd ls]:=by
 rw[xB,aN (.inl F)]
def Vk{ls:List (ah)}(h:2<=ls.length){m:Nat}(a:m≠ls.length)(whole:Bool):xB nd ls m whole=if m<=aU ls.length then xB nd (ls.take (aU ls.length)) m whole++[lV nd (ls.drop (aU ls.length))]else xB nd (ls.drop (aU ls.length)) (m - aU ls.length) false++[lV nd (ls.take (aU ls.length))]:=by
 rw[xB,aJ J]
def abK:∀(n:Nat) (ls:List (ah)) (i:Nat),ls.length=n->(xM nd ls i).length<=n:=by
 intro n;induction n using Nat.strongRecOn with
 |ind n a=>
 intro ls i b;by_cases h:ls.length<2
 ·rw[xM,zW h];simp
 ·have:=oF (n:=ls.length) J;rw[Ww nd J];split
  ·have:=a (ls.take (aU ls.length)).length (by rw[fP];omega) _ i F;rw[fP]at this;simp only[bQ,iU,sD];omega
  ·have:=a (ls.drop (aU ls.length)).length (by rw[iI];omega) _ (i - aU ls.length) F;rw[iI]at this;simp only[bQ,iU,sD];omega
def aag:∀(n:Nat) (ls:List (ah)) (m:Nat) (b:Bool),ls.length=n->(xB nd ls m b).length<=n+1:=by
 intro n;induction n using Nat.strongRecOn with
 |ind n a=>
 intro ls m b c;by_cases h:m=ls.length∨ls.length<2
 ·rw[xB,aN h];split<;>simp
 ·have:=oF (n:=ls.length) J;rw[Vk nd J J];split
  ·have:=a (ls.take (aU ls.length)).length (by rw[fP];omega) _ m b F;rw[fP]at this;simp only[bQ,iU,sD];omega
  ·have:=a (ls.drop (aU ls.length)).length (by rw[iI];omega) _ (m - aU ls.length) false F;rw[iI]at this;simp only[bQ,iU,sD];omega
end
end
section
set_option maxRecDepth 100000
def ZY{b:Prop}(e:b:=by
 intro n;induction n using Nat.strongRecOn with
 |ind n ih=>
 intro ls c a w hl h1 h2 cu hnc pV hcl;have tq:=O ih;clear ih;by_cases hn:n=1
 ·subst hn;obtain⟨y,rfl⟩:=Na.1 hl;obtain⟨A,rfl,dD⟩:∃A,a=some A/\d9 w (A.add (0*32)) (y.map Y):=by
   cases a with
   |none=>
    rcases hcl with h|⟨_,_,h,_⟩
    ·have:=Pb cu;rw[h]at this;simp at this
    ·cases h
   |some A=>exact⟨A,F,hcl.rowAt cu F⟩
  have hy:=cu y aB;rw[akV];have gW:=O dD;have HY:Hid ((y.map Y).length=32):=O (by rw[aI,hy]);have oy:=dw y;clear hcl cu hl dD hy;generalize y.map Y=yv at*;first|go_enter func101,ntmps101|go_enter func60,ntmps60
  go_upto_region 1 with(fail);generalize aG:alloc w _=wA;have zA:=dX aG (replicate 32 (.int .u8 0)) 31;have eA:=dS aG;clear aG;obtain⟨ZA,EA,CA⟩:=aW zA eA (gW.ext eA);clear zA eA;go_wp2_with (first|(refine bZ F (gD (i:=0) F F F underlying59 qO J wA) ?_)|(refine bZ F (cB F F CA bf HY) ?_)|(refine aZ F _ _ _ F F F ZA bf aB HY oy ?_));intro w4 b4 u4;go_wp2;refine jS F F b4 bf HY F ⟨F,u4.ext EA (aQ _)⟩
 ·have iE:=oF (n:=n) J;obtain⟨hc,hd⟩:=aA (λw=>Kg n w J J) (λw=>Oa n w J J);have hr:=acs dN (ls:=ls) J;rw[hl]at hr;have ko:(ls.take (aU n)).length=aU n:=by rw[fP];omega
  have iO:(ls.drop (aU n)).length=n - aU n:=by rw[iI];omega
  obtain⟨Ag,Cv⟩:=aA (λw' iD=>tq (aU n) J (ls.take (aU n)) c a w' ko J J (cu.take _) J pV iD) (λw' iD=>tq (n - aU n) J (ls.drop (aU n)) (c - aU n) (p8 a c (aU n) 32) w' iO J J (cu.drop _) J J iD);have nV:=Ar dN lU (cu.take (aU n));have sN:=Ar dN lU (cu.drop (aU n));have rF:=hcl.Mc cu (aU n);have nU:=hcl.WU cu c (aU n) J;rw[hr];generalize lV dN (ls.take (aU n))=p at*;generalize lV dN (ls.drop (aU n))=q at*;generalize ls.take (aU n)=l1 at*;generalize ls.drop (aU n)=l2 at*;generalize aU n=k at*;obtain⟨k1,k2,k3⟩:=iE;obtain⟨wR,Dh,ND,NE⟩:=bT rF nU (λw'=>LX p q w' nV sN) (λw'=>Ma p q w' nV sN);have HV:Hid (((dN p q).map Y).length=32):=O (by rw[aI,lU]);have ov:=dw (dN p q);have d1:((n:Int)==1)=false:=by simp;omega
  have d2:(n==1)=false:=by simp[hn]
  clear hcl cu hl hr ko iO rF nU nV sN;first|go_enter func101,ntmps101|go_enter func60,ntmps60
  go_upto_region 1 with(fail);generalize aG:alloc w _=wA;have zA:=dX aG (replicate 32 (.int .u8 0)) 31;have eA:=dS aG;clear aG;obtain⟨ZA,EA⟩:=aA zA eA;clear zA eA;go_wp2_with (first|(go_at_call 157;refine(hc _).mono ?_;rintro e w' ⟨rfl,rfl⟩)|(go_at_call 66;refine(hd _).mono ?_;rintro e w' ⟨rfl,rfl⟩));obtain⟨C,Z,aK,bR⟩:=fK (show bM w wA [] [(w.heap.size,32,31)] wA from bM.Gn EA (dR.none _) ZA aB);refine fF λX=> ?_;refine ay 0 ?_;refine ay 1 ?_;refine aV 2 F (aY F (λw1 _=>yG (k:=k) F F F underlying59 qO J w1)) ?_;refine ay 4 ?_;refine ay 5 ?_;refine aV 6 F (aY F (λw1 _=>Lp (k:=k) F F F underlying59 qO J w1)) ?_;generalize wA.drew=wD at*;refine aT 3 ?_;intro Q' hQ;go_wp2_with fail;refine(Ag wD (wR.ext ((Z wD).1 X).base)).mono ?_;rintro e wE ⟨rfl,eE⟩;have hE:=aK _ _ X eE;go_wp2_with fail;refine hQ _ _ hE ?_;clear hQ Q' X eE;refine aL ?_;refine aT 7 ?_;intro Q' hQ;go_wp2_with fail;refine(Cv wE (Dh.ext ((Z wE).1 hE).base)).mono ?_;rintro e wF ⟨rfl,eF⟩;have hF:=aK _ _ hE eF;go_wp2_with fail;refine hQ _ _ hF ?_;clear hQ Q' hE eF;refine aL ?_;refine aT 8 ?_;intro Q' hQ;go_wp2_with fail;first|refine(ND wF).mono ?_|refine(NE wF).mono ?_
  rintro e wG ⟨rfl,eG⟩;have hG:=aK _ _ hF eG;go_wp2_with fail;refine hQ _ _ hG ?_;clear hQ Q' hF eG;obtain⟨vz,lG,zG⟩:=((Z wG).1 hG).qo (r:=w.heap.size) (n:=32) (T:=31) aB;obtain⟨ZG,iB,HG⟩:=aW zG lG hG;clear zG lG hG;refine aL ?_;refine aT 9 ?_;intro Q' hQ;go_wp2_with (refine aZ F _ _ _ F F F ZG bf iB HV ov ?_);intro wH bH uH;have hH:C wH:=(Z wH).2 (((Z wG).1 HG).store uH bH (by simp[HV.out]) (aQ _) aB);go_wp2_with fail;refine hQ _ _ hH ?_;clear hQ Q';have EH:=O ((Z wH).1 hH).base;refine dP ?_;go_wp2;refine jS F F bH bf HV F ⟨F,EH⟩):b:=e
def O_:∀(n:Nat) (ls:List (ah)) (c:Nat) (a:aO) (w:World),ls.length=n->1<=n->n<=65536->iH ls->n<=c->c<=9223372036854775807->aM w a (dH ls)->
 Calls prog 101 #[.slice a n c] w λe w'=>e= .returned (.agg ((lV dN ls).map Y).toArray)/\aj w w':=ZY
end
section
set_option maxRecDepth 100000
def Md:∀(n:Nat) (ls:List (ah)) (c:Nat) (a:aO) (w:World),ls.length=n->1<=n->n<=65536->iH ls->n<=c->c<=9223372036854775807->aM w a (dH ls)->
 Calls prog 60 #[.slice a n c] w λe w'=>e= .returned (.agg ((lV dN ls).map Y).toArray)/\aj w w':=ZY
end
def ach(t:ah)(a:aO)(n c:Nat)(w:World)(j:t.length=n)(u:n<=1048576)(i:aM w a (t.map Y)):
 eO 67 #[.slice a n c] w (.agg ((eY 1 t).map Y).toArray):=by
 have hs:=O (λw' h=>CW 1 t n c a w' J J j J h);have g:Hid (((eY 1 t).map Y).length=32):=O (by rw[aI,nJ]);have q:=dw (eY 1 t);have m:=O i;clear j i;generalize (eY 1 t).map Y=v at*;go_enter func67,ntmps67;go_upto_region 1 with(fail);generalize f:alloc w _=s;have k:=dX f (replicate 32 (.int .u8 0)) 31;have d:=dS f;clear f;go_wp2_with fail;refine(hs s (m.ext d)).mono ?_;rintro e x ⟨rfl,b⟩;obtain⟨o,l⟩:=aA (k.ext b) (d.ext b);clear k d b;go_wp2_with (refine aZ F _ _ _ F F F o bf aB g q ?_);intro y p r;go_wp2;refine jS F F p bf g F ⟨F,r.ext l (aQ _)⟩
def aiL(t:ah)(a:aO)(n c:Nat)(w:World)(l:t.length=n)(z:n<=1048576)(u:n<=c)(s:c<=9223372036854775807)(i:a=none->c=0)(j:aM w a (t.map Y)):
 eO 63 #[.slice a n c] w (.tuple #[.agg ((eY 1 t).map Y).toArray,.int .i64 0]):=by
 have hs:=O (λw' h=>Tf 1 t n c a w' l u s i h);have k:DX 1 t n= .tuple #[.agg ((eY 1 t).map Y).toArray,.int .i64 0]:=by rw[DX,aJ J,aN J]
 rw[k]at hs;have g:Hid (((eY 1 t).map Y).length=32):=O (by rw[aI,nJ]);have v:=dw (eY 1 t);have p:=O j;clear l j k i;generalize (eY 1 t).map Y=A at*;go_enter func63,ntmps63;go_upto_region 1 with(fail);generalize f:alloc w _=y;have m:=dX f (replicate 32 (.int .u8 0)) 31;have d:=dS f;clear f;go_wp2_with fail;refine(hs y (p.ext d)).mono ?_;rintro e B ⟨rfl,b⟩;obtain⟨q,o⟩:=aA (m.ext b) (d.ext b);clear m d b;go_wp2_with (refine aZ F _ _ _ F F F q bf aB g v ?_);intro C r x;go_wp2;refine lI F F r bf g F ⟨F,x.ext o (aQ _)⟩
def aaD:(prog.info? 31).map (λi=>(i.zero,i.size,i.bytes))=some (some (.agg (replicate 32 (.int .u8 0)).toArray),32,32):=aC
def aeZ:(agg (replicate 32 (.int .u8 0)).toArray).cells.size=32:=by simp[cells]
def ahe(y:ah)(d:y.length=32)(a:Array Value)(b:a.size=32):Instr.fill (λi=>some (i*32,32)) a [(0,.agg (y.map Y).toArray)]=some (y.map Y).toArray:=by
 have h:=Great.fill_whole (s:=32) J [.agg (y.map Y).toArray] a (by intro v c;rw[nu.1 c];simp[cells,d]) (by simp[b]);simpa[cells]using h
def agH{P:Program}{o:Oper}{a:Act}{t e:TypeId}{x:Operand}{y:ah}(i:o.op= .buildSlice t 1 #[(0,x)])(k:a.eval x= .agg (y.map Y).toArray)(l:y.length=32)(j:P.underlying t=some (.slice e))
 {b:TypeInfo}{z:Value}(g:P.info? e=some b)(m:b.zero=some z)(c:b.size=32)(n:z.cells.size=32)(w:World):
 (execOp a.eval o).run P w= .ok (.value (.slice (some ⟨w.heap.size,0,none⟩) 1 1)) (w.alloc (.cells (y.map Y).toArray e)):=by
 have h:=run_buildSlice (P:=P) w t e 1 #[(0,.agg (y.map Y).toArray)] (y.map Y).toArray b z j g m (by rw[c];omega) (by rw[c];omega) (by rw[c];exact ahe y l _ aB);have f:(#[(0,x)].map λ(p:Nat×Operand)=>(p.1,a.eval p.2))= #[(0,.agg (y.map Y).toArray)]:=by simp[k]
 unfold execOp;simp only[i,iC];have d:(Instr.buildSlice t 1 (#[(0,x)].map λ(p:Nat×Operand)=>(p.1,a.eval p.2))).run P w= .ok (.slice (some ⟨w.heap.size,0,none⟩) 1 1) (w.alloc (.cells (y.map Y).toArray e)):=by rw[f];exact h
 rw[d];rfl
def aeO{P:Program}{ops:Array Oper}{rest:List Oper}{o:Oper}{a:Act}{w w':World}{b:Exit->Act->World->Prop}{v:Value}(d:o.guard=none)(e:(execOp a.eval o).run P w= .ok (.value v) w')(h:wpList P ops b rest (a.put o.dst v) w'):wpList P ops b (o::rest) a w:=
 q8 d λf c=>by
  unfold Oper.wp;rw[e,Cb];exact c _ _ h
def Mx{ops:Array Oper}{rest:List Oper}{o:Oper}{a:Act}{w:World}{b:Exit->Act->World->Prop}(c:o.guard=none){x:Operand}{y:ah}(e:o.op= .buildSlice 59 1 #[(0,x)])(g:a.eval x= .agg (y.map Y).toArray)(i:y.length=32)
 (h:wpList prog ops b rest (a.put o.dst (.slice (some ⟨w.heap.size,0,none⟩) 1 1)) (w.alloc (.cells (y.map Y).toArray 31))):wpList prog ops b (o::rest) a w:=by
 obtain⟨l,d,j,f,k⟩:=gJ aaD;exact aeO c (agH e g i underlying59 d j f aeZ w) h
def afl(w:World)(B:Nat)(t e ty:TypeId){a:TypeInfo}{h:Value}{z:Nat}(p:prog.underlying t=some (.slice e))(k:prog.info? e=some a)(x:a.zero=some h)(o:a.size=z)(r:a.bytes=z)(M:h.cells.size=z)(A:0<z)
 {v:Value}{n m c:Nat}{xs news:aP}{y:Addr}(d:w.ownsRow B e z v n xs)(s:news.length=m*z)(i:∀j u,news[j]? =some u->w.cell? (y.add j)=some u)(C:∀u∈news,u.oneCell'=true)
 (q:(n+m)*z<=140737488355328)(I:B<=w.heap.size):
 ∃b w',(Builtin.append_ #[t,t] ty #[v,.slice (some y) m c]).run prog w= .ok b w'/\w'.ownsRow B e z b (n+m) (xs++news)/\w.grownBy w' v.ownBlock/\
  (b.ownBlock=v.ownBlock∨b.ownBlock=some w.heap.size):=by
 have W:n+m<=140737488355328:=dJ (Nat.le_mul_of_pos_right _ A) q;have U:m*z<=140737488355328:=dJ (Ho z (Nat.le_add_left m n)) q;have D:news.length=m*a.size:=by rw[o];exact s
 obtain⟨b,w',l,E,G,H⟩:=run_append_own (P:=prog) w B t ty e a h z z p k x o r M A v n xs d y m c news s i C (by unfold maxLen;omega) q I;refine⟨b,w',l,E,G,?_⟩;rcases d.2 with⟨rfl,rfl⟩|⟨g,cap,N,rfl,Q,T,V,R,S,aa⟩
 ·by_cases K:m=0
  ·left
   rw[H.2 ⟨F,K⟩]
  ·right
   have f:=run_append_nil (P:=prog) w t ty e a h p k x y m c news D i J J (by rw[r];omega);exact Wo f l F
 ·by_cases L:n+m<=cap
  ·left
   obtain⟨ab,f,_⟩:=run_append_fits (P:=prog) w B t ty e a z p k o g n cap xs d y m c news s i C L;exact Wo f l F
  ·right
   have f:=run_append_grow (P:=prog) w t ty e a h p k x ⟨g,0,none⟩ n cap xs (by rw[o];exact d.1) (d.cells (g:=g) F) y m c news D i J J (KN J (by rw[r];omega));exact Wo f l F
def PL{ops:Array Oper}{rest:List Oper}{o:Oper}{a:Act}{w:World}{e:Exit->Act->World->Prop}(r:o.guard=none)(s x:Operand)
 (z:o.op= .call {callee:= .builtin .append,args:= #[s,x],argTypes:= #[59,59]})(d:Nat){v:Value}{n c g:Nat}{ls:List (ah)}{y:ah}{T:TypeId}
 (hs:a.eval s=v)(D:a.eval x= .slice (some ⟨g,0,none⟩) 1 c)(A:w.ownsRow d 31 32 v n (dH ls))(E:y.length=32)(l:au w g (y.map Y) T)
 (u:(n+1)*32<=140737488355328)(q:d<=w.heap.size)
 (h:∀b w',w'.ownsRow d 31 32 b (n+1) (dH (ls++[y]))->w.grownBy w' v.ownBlock->(b.ownBlock=v.ownBlock∨b.ownBlock=some w.heap.size)->wpList prog ops e rest (a.put o.dst b) w'):wpList prog ops e (o::rest) a w:=by
 obtain⟨I,t,G,C,p⟩:=gJ aaD;obtain⟨b,w',B,f,i,j⟩:=afl w d 59 31 o.type (m:=1) (c:=c) underlying59 t G C p aeZ bS A (by rw[aI,E]) (DF l) (dw _) u q;exact q8 r λH k=>Lib.wp_append_run w s x _ _ z v _ hs D b w' B (k _ _ (h b w' (by rw[acw,WW];exact f) i j))
def Wv{w w':World}{B:Nat}{e:TypeId}{z n:Nat}{v:Value}{xs:aP}(h:w.ownsRow B e z v n xs)(i:∀q,v.ownBlock=some q->w'.heap[q]? =w.heap[q]?):w'.ownsRow B e z v n xs:=by
 obtain⟨j,h⟩:=h;refine⟨j,?_⟩;rcases h with h|⟨g,cap,b,a,d,f,c⟩
 ·exact .inl h
 ·refine .inr ⟨g,cap,b,a,d,?_,c⟩;rw[i g (by rw[a];rfl)];exact f
section
open Go Go.RowKit Go.Maps Go.MapKept Go.WideShapes
def KY(w:World)(g:Nat)(b:aP):Prop:=∃es a,w.heap[g]? =some (.map es a)/\es.toList.map MapEntry.key=b/\∀x∈es.toList,x.val= .bool true
def KY.lt{w:World}{g:Nat}{a:aP}(h:KY w g a):g<w.heap.size:=by grind [KY]
def KY.ext{w w':World}{g:Nat}{b:aP}(h:KY w g b)(e:aj w w'):KY w' g b:=by
 obtain⟨es,c,a,d,f⟩:=h;exact⟨es,c,(e.block g (o9.1 a).1).trans a,d,f⟩
section
variable {P:Program} {t k e:TypeId} {w:World} {g:Nat} {ks:aP} {key:Value} {kl:Lit}
def SF(t:TypeId)(w:World):(Instr.makeMap t none).run P w= .ok (.map (some w.heap.size)) (w.alloc (.map #[] 0)):=by
 simp[Instr.makeMap,newObj,Sem.run]
end
end
end Go.Proofs.YtjlhhnkhcbpnjaaGreatDoor
