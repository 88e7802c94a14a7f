/- Laws; no condition. -/
import Derived.Test.YtjlhhnkhcbpnjaaGreatDoorJN17
import Derived.Test.YtjlhhnkhcbpnjaaGreatDoorJN19
namespace Go.Proofs.YtjlhhnkhcbpnjaaGreatDoor
open Go Go.RowKit List Tryz
open Go.World(alloc drew)
set_option linter.all false
set_option maxHeartbeats 40000000
set_option maxRecDepth 100000
def yw(l:List l9):aP:=l.flatMap l9.v
def YE{l:List l9}{k:Nat}{a:l9}(b:l[k]? =some a):((yw l).drop (k*6)).take 6=a.v:=by
 induction l generalizing k with
 |nil=>simp at b
 |cons x l d=>
  have c:(yw (x::l))=x.v++yw l:=by unfold yw;rw[yh]
  cases k with
  |zero=>
   have e:x=a:=by simpa using b
   subst e;rw[c,Hg,jP];exact oo (l₁:=x.v) F
  |succ k=>
   rw[c,Nat.succ_mul,Np,<-tK,show(x.v++yw l).drop 6=yw l from q_ (l₁:=x.v) F];exact d (by simpa using b)
def YF(l:List l9):(yw l).length=6*l.length:=by
 induction l with
 |nil=>rfl
 |cons x l b=>
  have a:(yw (x::l))=x.v++yw l:=by unfold yw;rw[yh]
  rw[a,bQ,b,iU];show 6+_=_;omega
def YG{w:World}{a:aO}{l:List l9}(h:aM w a (yw l)){k:Nat}{x:l9}(d:l[k]? =some x):∃A,a=some A/\d9 w (A.add (k*6)) x.v:=by
 have g:=(iK.1 d).1;obtain⟨b,o,rfl,e⟩:=h.jg (by rw[YF];omega);refine⟨_,F,λj u c=> ?_⟩;rw[eX,eX,k_];refine e _ _ ?_;rw[<-YE d]at c;have f:j<6:=by
  have:=(iK.1 c).1;rw[fP]at this;omega
 rw[uM f,qY]at c;exact c
def Xo:(prog.info? 103).map (·.size)=some 6:=aC
def ahn{w:World}{g:Nat}(h:aM w (some ⟨g,0,none⟩) (Cg.map dx)):(Z9 g).Ok w:=
 ⟨(show(0:Nat)<=140737488355328 from w_ _),EP 0,F,F,aQ _,(show(2:Nat)<=140737488355328 by omega),h,(show∀s∈Cg,s.size<=140737488355328 by decide),(show(0:Nat)<=140737488355328 from w_ _),F,aQ _,(show(0:Nat)<=140737488355328 from w_ _),λ_ a=>(by cases a),.inl F⟩
def U8{w w':World}{g:Nat}{e:aR}{vs:aP}(h:e.Ok w)(u:dF w g w')(c:au w g vs 34)(b:lM g e.ba e.bn):e.Ok w':=
 h.row (r:=some g) (λq a=>by injection a with a;exact a▸b) (zJ u)
noncomputable def RZ(n:Nat):Array Oper:=Sd f8 n
def Yw(w:World)(x:Ending)(w':World):Prop:=
 ∃(v u:Value) (es:List aR) (S:fB),x= .returned (.tuple #[v,u])/\Ce w' w.heap.size v es/\vD es S/\es.length<=41/\aj w w'
def Xz{a:Prop}(e:a:=by
 refine QT 5 F (λ_=>aY F (λw1 _=>agG (x:=tX 0) (sa:=some ⟨ga,0,none⟩) (sn:=2) (sc:=2) (l:=Cg) F F F (EP 0) w1)) ?_;refine rT 6 (β:=aR×Int) (λx=> .tuple #[.agg x.1.v.toArray,.int .i64 x.2]) (λx w=>x.1.Ok w/\(∀A,x.1.ba=some A->v1.heap.size<=A.block)/\vM w x.1.ba) F F F F (λ_ _=>rfl) aC aC aC F (λ_ _=>mF) ?akb ?amC ?akD
 case akb=>exact λ_ _ _ h e=>⟨h.1.ext e,h.2.1,h.2.2.ext e⟩
 case amC=>
  intro x w1 hD Q' hQ;have hC:C w1:=hD.1.1.1;have hg:v1.heap.size<=ga/\au w1 ga (Cg.map dx) 9:=by first|exact hD.2 |exact hD.1.2 |exact hD.1.1.2
  have e1:=((Z w1).1 hC).base;have zq:aM w1 (some ⟨ga,0,none⟩) (Cg.map dx):=aM.iM hg.2;clear X;go_wp2_with fail;refine(V5 p S 1000 2 (tX 0) jo (Z9 ga) w1 (HI.st.ext e1) (ahn zq) (EP 0) F).mono ?_;rintro e0 w2 ⟨r,E,rfl,fq,nC,Ai, -,e2⟩;go_wp2_with fail;exact hQ (r,E) _ e2 ⟨fq,λA hA=>dJ e1.size (nC A hA),Ai⟩
 case akD=>
 rintro⟨r,E⟩;try dsimp only
 refine aL ?_;refine yI 7 ?_;refine yI 8 ?_;refine yI 9 ?_;refine GR F F F (λ_ _=>rfl) aC (λ_ _=>mF) ?_;rintro g9 w3 ⟨zn,fq,nC,Ai⟩ lb hb;have hC:C w3:=zn.1.1.1;obtain⟨HB,eP,Fv,tu,uo,xX,MR⟩:=zT hb fq nC (aR.len fq) ((Z w3).1 hC) lb (show lM g9 r.ba r.bn from .inr (Ai.ne hb bS));clear hb fq nC zn hC lb Ai;refine aT 11 ?_;intro Q' hQ;go_wp2_with (refine aZ F _ _ _ F F F HB eZ iA (xs:=aR.v r) tu (nQ r) ?_);intro w4 b4 u4;have pU:=bM.upd uo u4 xX (aQ _);have MO:=O (U8 eP u4 HB MR);have uV:C w4:=(Z w4).2 pU;refine hQ _ _ uV ?_;have B4:=O b4;have E4:=O pU.base;clear hQ Q' u4 b4 pU X Z aK bR eP;refine aL ?_;refine aT 12 ?_;intro Q' hQ;go_wp2_with fail;refine hQ _ _ uV ?_;clear hQ Q';refine aL ?_;refine dP ?_;go_wp2;go_meet;exact⟨g9,r,F,xX,B4,MO,Fv,E4⟩):a:=e
def adw(l:List l9)(a:aO)(n c:Nat)(w:World)(c9:l.length=n)(e':n<=c)(c5:aM w a (yw l))(c7:uK w):
 Calls prog 8 #[.slice a n c,.bool false] w (Yw w):=by
 obtain⟨cM,cQ,cb⟩:=aW c5 c9 c7;obtain⟨e4,ct⟩:=aF (Yw w);rw[ct];have d8:=O ct;clear c5 c9 c7 ct;go_enter func8,ntmps8;go_upto_region 1 with fail;generalize cy:alloc w _=eK;have bj:=dX cy [.bool false] 4;have e0:=dS cy;obtain⟨b6,cE⟩:=aA bj e0;clear cy bj e0;obtain⟨bu,bz⟩:=aF w.heap.size;have eW:=O bz;rw[bz]at b6
 conv=>rw[bz]
 clear bz;go_wp2_with fail;refine(ajk eK).mono ?_;rintro aa w1 ⟨p,S,rfl,de,dd,e1,c0,dc⟩;obtain⟨cd,d',cR,d7,b7,cD,cT⟩:=zT de dd c0 dc (cE.ext e1) (b6.ext e1) (cE.size);clear de dd e1 c0 dc b6;go_upto_region 4 with fail;generalize b0:alloc (alloc w1 _) _=v1;have bs:=qA b0 [.pointer (some ⟨p,0,none⟩)] 25;have bo:=qQ b0 [.slice none 0 0] 24;have e2:=wN b0;have ew:w.heap.size<=w1.heap.size:=b7.size;have HI:=O (show Ei w v1 bu w1.heap.size (w1.heap.size+1) p S (.slice none 0 0) []from
  {
   st:=cd.ext e2,bj:=cD.ext e2,bs:=bs,bo:=bo,own:=⟨F,.inl ⟨F,F⟩⟩,
   off:=λg hg=>by
    rcases hg with hg|hg
    ·cases hg
    ·exact cd.OM J
   ok:=λ_ h=>by cases h
   eo:=λ_ h=>by cases h
   ep:=λ_ h=>by cases h
   ch:=by rw[d'.out];exact vD.nil
   ex:=b7.ext e2,hi:=λg hg=>dJ cT (cR g hg),go0:=by omega})
 clear b0 bs bo e2 ew cd cR d7 b7 cD cT;obtain⟨gs,cw⟩:=aF w1.heap.size;rw[cw]at HI
 conv=>rw[cw]
 obtain⟨a6,az⟩:=aF (gs+1);rw[az]at HI
 conv=>rw[az]
 clear cw az;go_cut [9] (λeM j=>∃g9 r,eM= .pointer (some ⟨g9,0,none⟩)/\v1.heap.size<=g9/\au j g9 (aR.v r) 34/\r.Ok j/\(∀A,r.ba=some A->v1.heap.size<=A.block)/\aj v1 j)
 ·as_aux_lemma=>
  obtain⟨C,Z,aK,bR⟩:=fK (show bM v1 v1 [] [] v1 from bM.iP (aj.refl _) (dR.none _));have ae:∀w1,C w1->w1.cell? ⟨gs,0,none⟩=some (.pointer (some ⟨p,0,none⟩)):=λw1 s=>(HI.bs.ext ((Z w1).1 s).base).cell' F;refine fF (ops:=(RZ 4)) λX=> ?_;refine dW 0 (ae) ?_;refine ay 2 ?_;generalize drew v1=dp at X⊢;refine GU (B:=World.heap v1 |>.size) (A:=10) (d:=9) (T:=34) (vs:=gB.v) (D:=C) undef F aK (λ_ h=>h) (λ_ h=>((Z _).1 h).kept.1) X ?_;try dsimp only
  refine dY ?_;refine Ya 1 4 (βi:=Unit) (βj:=Nat) (λ_=> .agg ((tX 0).map Y).toArray) (λg=> .slice (some ⟨g,0,none⟩) 2 2) (λ_ _=>True) (λg w=>v1.heap.size<=g/\au w g (Cg.map dx) 9) F F F F F (λ_ _=>rfl) aC aC aC aC F F (λ_ _=>mF) (λ_ _ _ _ _=>trivial) (λ_ _ _ h e=>⟨h.1,h.2.ext e⟩) ?sa1 ?sb1 ?ra1 ?rb1
  case sa1=>
   intro x w1 hD Q' hQ;clear X;go_wp2_with fail;refine(BD 0 w1).mono ?_;rintro e0 w2 ⟨rfl,e2⟩;rw[Nu];go_wp2_with fail;exact hQ () _ e2 trivial
  case sb1=>
   intro x w1 hD Q' hQ;have V:=((Z w1).1 (hD)).kept.1;clear X;go_wp2_with fail;exact hQ w1.heap.size _ ((aj.refl _).alloc _) ⟨V,au.bK (vs:=Cg.map dx) F F⟩
  case ra1=>
   intro _;try dsimp only
   refine aL ?_;refine Ya 3 4 (βi:=Unit) (βj:=Nat) (λ_=> .agg ((tX 0).map Y).toArray) (λg=> .slice (some ⟨g,0,none⟩) 2 2) (λ_ _=>True) (λg w=>v1.heap.size<=g/\au w g (Cg.map dx) 9) F F F F F (λ_ _=>rfl) aC aC aC aC F F (λ_ _=>mF) (λ_ _ _ _ _=>trivial) (λ_ _ _ h e=>⟨h.1,h.2.ext e⟩) ?sa2 ?sb2 ?WE ?rb2
   case sa2=>
    intro x w1 hD Q' hQ;clear X;go_wp2_with fail;refine(BD 0 w1).mono ?_;rintro e0 w2 ⟨rfl,e2⟩;rw[Nu];go_wp2_with fail;exact hQ () _ e2 trivial
   case sb2=>
    intro x w1 hD Q' hQ;have V:=((Z w1).1 (hD.1)).kept.1;clear X;go_wp2_with fail;exact hQ w1.heap.size _ ((aj.refl _).alloc _) ⟨V,au.bK (vs:=Cg.map dx) F F⟩
   case WE=>
    intro _;try dsimp only
    refine aL ?_;refine rT 4 (β:=Nat) (λg=> .slice (some ⟨g,0,none⟩) 2 2) (λg w=>v1.heap.size<=g/\au w g (Cg.map dx) 9) F F F F (λ_ _=>rfl) aC aC aC F (λ_ _=>mF) ?phi4 ?step4 ?rest4
    case phi4=>exact λ_ _ _ h e=>⟨h.1,h.2.ext e⟩
    case step4=>
     intro x w1 hD Q' hQ;have V:=((Z w1).1 (hD.1.1)).kept.1;clear X;go_wp2_with fail;exact hQ w1.heap.size _ ((aj.refl _).alloc _) ⟨V,au.bK (vs:=Cg.map dx) F F⟩
    case rest4=>
    intro ga;try dsimp only
    refine aL ?_;exact Xz
   case rb2=>
    intro ga;try dsimp only
    refine aL ?_;refine rT 3 (β:=Unit) (λ_=> .agg ((tX 0).map Y).toArray) (λ_ _=>True) F F F F (λ_ _=>rfl) aC aC aC F (λ_ _=>mF) ?J2 ?Kh ?J3
    case J2=>exact λ_ _ _ _ _=>trivial
    case Kh=>
     intro x w1 hD Q' hQ;clear X;go_wp2_with fail;refine(BD 0 w1).mono ?_;rintro e0 w2 ⟨rfl,e2⟩;rw[Nu];go_wp2_with fail;exact hQ () _ e2 trivial
    case J3=>
    intro _;try dsimp only
    refine aL ?_;exact Xz
  case rb1=>
   intro ga;try dsimp only
   refine aL ?_;refine rT 1 (β:=Unit) (λ_=> .agg ((tX 0).map Y).toArray) (λ_ _=>True) F F F F (λ_ _=>rfl) aC aC aC F (λ_ _=>mF) ?Wx ?step1 ?WK
   case Wx=>exact λ_ _ _ _ _=>trivial
   case step1=>
    intro x w1 hD Q' hQ;clear X;go_wp2_with fail;refine(BD 0 w1).mono ?_;rintro e0 w2 ⟨rfl,e2⟩;rw[Nu];go_wp2_with fail;exact hQ () _ e2 trivial
   case WK=>
   intro _;try dsimp only
   refine aL ?_;refine rT 3 (β:=Unit) (λ_=> .agg ((tX 0).map Y).toArray) (λ_ _=>True) F F F F (λ_ _=>rfl) aC aC aC F (λ_ _=>mF) ?J2 ?Kh ?J3
   case J2=>exact λ_ _ _ _ _=>trivial
   case Kh=>
    intro x w1 hD Q' hQ;clear X;go_wp2_with fail;refine(BD 0 w1).mono ?_;rintro e0 w2 ⟨rfl,e2⟩;rw[Nu];go_wp2_with fail;exact hQ () _ e2 trivial
   case J3=>
   intro _;try dsimp only
   refine aL ?_;exact Xz
 obtain⟨g9,r,rfl,et,cf,fq,nC,e2⟩:=hcut;obtain⟨w2,u⟩:=aF wc;rw[u]at cf fq e2⊢;obtain⟨dv,tu⟩:=aA cf (aR.len fq);have az:a6<v1.heap.size:=HI.bo.lt;have cx:p<v1.heap.size:=HI.st.blk.lt;have b9:=O (adv bu gs a6 p S (.slice none 0 0) [] r w w2 (HI.ext e2) fq (λg hg=> .inr λA hA=>by
  rcases hg with hg|hg
  ·cases hg
  ·have:=nC A hA;omega) (λA hA=>by have:=nC A hA;omega) cb aB)
 have db:min (n:Int) 40=((min n 40:Nat):Int):=J;have da:min n 40<=c:=J;obtain⟨m,c'⟩:=aF (min n 40);have e_:m<=40/\m<=n:=J;rw[c']at db da;have e9:min (n:Int) 40=(m:Int):=db;clear u wc cf fq nC e2 az cx et c';go_wp2_with (refine dA F 34 _ F F dv eZ tu ?_);refine b9.mono ?_;rintro aa w3 ⟨ea,eN,rfl,al, -, -⟩;have d4:=O al;clear al HI;go_wp2_with (refine bZ F (yG (k:=m) F F F underlying22 Xo da _) ?_);go_loopw [45] (λi wr=>∃(k:Nat) (S:bD) (v:Value) (es:List aR),k<=m/\i= .int .i64 (k:Int)/\Ei w wr bu gs a6 p S v es/\es.length<=k+1) (λi _=>m - (intOf i).toNat)
 ·exact⟨0,ea,eN,_,J,F,d4,by split<;>simp⟩
 ·obtain⟨k,S,v,es,e7,rfl,al,c8⟩:=hrel;obtain⟨HI,a_⟩:=aA al c8;clear al c8;by_cases c_:k<m
  ·obtain⟨G,c1⟩:∃x,l[k]? =some x:=⟨l[k]'(by rw[cQ.out];omega),aB⟩;obtain⟨A,rfl,c4⟩:=YG (cM.ext HI.ex) c1;obtain⟨cL,cS,xX⟩:=aW c4 (HI.ch.szP (by have:=a_.out;omega)) (cb.ext HI.ex);clear c1 c4;go_upto_region 10 with(first|(refine bZ F (gD (i:=k) F F F underlying22 Xo c_ _) ?_)|(refine bZ F (cB F F cL K3 (by rfl)) ?_)|(refine aZ F _ (.tmp 12) _ F F F (au.bK (vs:=(⟨0,0,0,0,0,0⟩:l9).v) F F) K3 (by rfl) (xs:=l9.v G) (by rfl) (Yz G) ?_));intro w4 a3 di;obtain⟨f,E4,dE⟩:=aW a3 (show aj wr w4 from di.ext ((aj.refl _).alloc _) (aQ _)) (show wr.heap.size<=wr.heap.size from aQ _);clear a3 di cL;generalize c6:wr.heap.size=ag at f⊢;rw[c6]at dE;have eV:=O (show wr.heap.size<=ag by omega);clear c6;have ck:=(HI.ext E4).bs.cell' (i:=0) F;go_wp2_with (refine dA F 103 _ F F f K3 (by rfl) ?_);refine(Y2 p S G w4 (HI.ext E4).st (xX.ext E4) cS).mono ?_;rintro aa b1 ⟨b,rfl,ai,co⟩;obtain⟨an,bk,f,cF⟩:=bT ai (aD.len ai) (f.ext co) (E4.ext co);clear ai co ck E4;go_upto_region 11 with(refine aZ F _ (.tmp 13) _ F F F (au.bK (vs:=gQ.v) F F) jQ og (xs:=b.v) bk (yV b) ?_);intro a2 a4 dj;have bd:aj b1 a2:=dj.ext ((aj.refl _).alloc _) (aQ _);have am:=O a4;have cJ:=an.out;obtain⟨cV,an,bl,cN,f,cP,z⟩:=zT bd (an.ext bd) cJ (show ag<b1.heap.size from f.lt) (f.ext bd) (cF.size) (cF.ext bd);clear a4 dj bd cJ;generalize en:b1.heap.size=cq at am cN cP⊢;have cU:=O (show b1.heap.size<=cq by omega);clear en;have aw:=f.cell' (i:=1) F;go_upto_region 11 with fail;go_cut [62] (λv j=>∃br:Bool,v= .bool br/\(br=true->k+1<m)/\a2=j)
   ·by_cases bv:G.act=8
    ·by_cases cs:k+1<m
     ·have cm:=cO ((k:Int)+1<(m:Int));have cn:=bV cs;have eh:IntKind.i64.wrap ((k:Int)+1)=(k:Int)+1:=fJ _ J;rw[bv]at aw;go_wp2;go_meet;exact⟨_,F,λ_=>cs,F⟩
     ·have cm:=bU ((k:Int)+1<(m:Int));have cn:=bg cs;have eh:IntKind.i64.wrap ((k:Int)+1)=(k:Int)+1:=fJ _ J;rw[bv]at aw;go_wp2;go_meet;exact⟨_,F,λh=>by simp at h,F⟩
    ·have cm:=bg bv;have cn:=qd bv;go_wp2;go_meet;exact⟨_,F,λh=>by simp at h,F⟩
   obtain⟨br,rfl,c3,rfl⟩:=hcut;have d0:=O c3;clear c3 aw;go_upto_if 62 with fail;go_cut [] (λj=>∃b:aD,au j cq b.v 101/\b.Ok j/\au j ag (l9.v G) 103/\aj wr j)
   ·cases br with
    |false=>
     go_wp2;go_meet;exact⟨b,am,an,f,z⟩
    |true=>
     have e8:=d0.out F;obtain⟨K,c2⟩:∃x,l[k+1]? =some x:=⟨l[k+1]'(by rw[cQ.out];omega),aB⟩;obtain⟨eS,bw,cv⟩:=YG (cM.ext (HI.ex.ext z)) c2;injection bw with bw;rw[<-bw]at cv;have d1:=O cv;clear c2 cv bw;go_upto_region 13 with(first|(refine bZ F (gD (i:=k+1) F F F underlying22 Xo J _) ?_)|(refine bZ F (cB F F d1 K3 (by rfl)) ?_)|(refine aZ F _ (.tmp 14) _ F F F (au.bK (vs:=(⟨0,0,0,0,0,0⟩:l9).v) F F) K3 (by rfl) (xs:=l9.v K) (by rfl) (Yz K) ?_));intro dm cW dk;obtain⟨t,o,e3⟩:=aW cW (show aj a2 dm from dk.ext ((aj.refl _).alloc _) (aQ _)) (show cq<a2.heap.size from am.lt);clear cW dk;generalize er:a2.heap.size=bt at t⊢;clear er;have cg:=t.cell' (i:=3) F;go_wp2_with fail;refine(VG K.key dm).mono ?_;rintro aa ab ⟨rfl,P⟩;have ao:=O (VH (oO K.key));generalize LP (oO K.key)=a1 at*;obtain⟨ap,t,ar⟩:=aW (show(a1.map Y).length=16 by rw[aI];exact ao) (t.ext P) (o.ext P);have a':=O (show bt<ab.heap.size from t.lt);clear P cg o;go_upto_region 14 with(refine aZ F _ (.tmp 15) _ F F F (au.bK (vs:=jo.map Y) F F) eu (by rfl) ap (dw a1) ?_);intro ac L bh;have Q:aj ab ac:=bh.ext ((aj.refl _).alloc _) (aQ _);obtain⟨I,t,bc,bb⟩:=bT L (t.ext Q) (ar.ext Q) (show(a2).heap.size<=ab.heap.size from ar.size);clear L bh Q ar;generalize ab.heap.size=ek at*;have aw:=t.cell' (i:=1) F;go_upto_region 14 with fail;go_wp2_with (refine bZ F (by exact pR F F (au.cell' (i:=1) (t.alloc _) F) L6) ?_);generalize a0:alloc ac _=bi;have be:aM bi (some ⟨ac.heap.size,0,none⟩) (([4,5,6,7,9,10]:List Int).map qH):=by rw[<-a0];exact aM.iM (au.bK F F)
     have U:=dS a0;obtain⟨I,t,aq⟩:=aW (I.ext U) (t.ext U) (bc.ext U);clear a0 U bc aw;generalize ac.heap.size=cr at*;refine(NG K.act [4,5,6,7,9,10] (some ⟨cr,0,none⟩) 6 6 bi F J be).mono ?_;rintro aa eQ ⟨cl,rfl, -,rfl⟩;clear be;go_upto_if 75 with fail;go_cut [] (λj=>∃R:ah,R.length=16/\au j ek (R.map Y) 29/\au j bt (l9.v K) 103/\aj (a2) j)
     ·cases cl with
      |true=>
       go_wp2;go_meet;exact⟨a1,ao,I,t,aq⟩
      |false=>
       go_wp2_with (refine aZ F _ _ _ F F F I eu ap (xs:=jo.map Y) (by rfl) (dw jo) ?_);intro eR a5 W;go_wp2;go_meet;exact⟨jo,F,a5,t.upd W (by have:=a'.out;omega),W.ext aq bb⟩
     obtain⟨R,aE,L,ba,hx⟩:=hcut;obtain⟨y,u⟩:=aF wc;rw[u]at L ba hx⊢;obtain⟨b',ca,I,t,o⟩:=fC aE (show(R.map Y).length=16 by rw[aI];exact aE) L ba hx;clear u wc aE L ba hx aq ao ap a' bb;go_upto_region 16 with fail;go_cut [16,17] (λcA cz j=>∃M r E,cA= .pointer (some ⟨M,0,none⟩)/\cz= .int .i64 E/\au j M (aR.v r) 34/\r.Ok j/\(∀A,r.ba=some A->y.heap.size<=A.block)/\(E=0->iJ r=0)/\aj y j)
     ·as_aux_lemma=>
      obtain⟨C,Z,aK,bR⟩:=fK (show bM y y [] [] y from bM.iP (aj.refl _) (dR.none _));have ae:∀w1,C w1->w1.cell? ⟨gs,0,none⟩=some (.pointer (some ⟨p,0,none⟩)):=λw1 s=>((HI.ext (z.ext o)).bs.ext ((Z w1).1 s).base).cell' F;have ci:∀w1,C w1->w1.cell? ⟨bt,1,none⟩=some (.int .i64 K.act):=λw1 s=>(t.ext ((Z w1).1 s).base).cell' F;have cj:∀w1,C w1->w1.cell? ⟨bt,2,none⟩=some (.int .i64 K.dz):=λw1 s=>(t.ext ((Z w1).1 s).base).cell' F;refine fF (ops:=(RZ 16)) λX=> ?_;refine dW 0 (ae) ?_;refine dW 1 (ae) ?_;refine ay 3 ?_;refine dW 4 (ci) ?_;refine ay 5 ?_;refine dW 6 (cj) ?_;refine aV 8 F (gP F 29 _ F F (λw1 h=>I.ext ((Z w1).1 h).base) eu ca) ?_;refine dW 9 (ae) ?_;refine aV 10 F (gP F 103 _ F F (λw1 h=>t.ext ((Z w1).1 h).base) K3 (by rfl)) ?_;generalize drew y=dp at X⊢;refine GU (B:=World.heap y |>.size) (A:=16) (d:=16) (T:=34) (vs:=gB.v) (D:=C) _ F aK (λ_ h=>h) (λ_ h=>((Z _).1 h).kept.1) X ?_;try dsimp only
      refine dY ?_;refine rT 2 (β:=Unit) (λ_=> .int .i64 S.tm) (λ_ _=>True) F F F F (λ_ _=>rfl) aC aC aC F (λ_ _=>mF) ?phi2 ?step2 ?rest2
      case phi2=>exact λ_ _ _ _ _=>trivial
      case step2=>
       intro x w1 hD Q' hQ;have e1:=((Z w1).1 hD).base;clear X;go_wp2_with fail;refine(adB p S w1 ((HI.ext (z.ext o)).st.ext e1)).mono ?_;rintro e0 w2 ⟨rfl,e2⟩;go_wp2_with fail;exact hQ () _ e2 trivial
      case rest2=>
      intro _;refine aL ?_;refine rT 7 (β:=Unit) (λ_=> .agg ((tX (oO K.dz)).map Y).toArray) (λ_ _=>True) F F F F (λ_ _=>rfl) aC aC aC F (λ_ _=>mF) ?phi7 ?step7 ?rest7
      case phi7=>exact λ_ _ _ _ _=>trivial
      case step7=>
       intro x w1 hD Q' hQ;clear X;go_wp2_with fail;refine(BD K.dz w1).mono ?_;rintro e0 w2 ⟨rfl,e2⟩;go_wp2_with fail;exact hQ () _ e2 trivial
      case rest7=>
      intro _;refine aL ?_;refine rT 11 (β:=aD) (λb=> .agg b.v.toArray) (λb w=>b.Ok w) F F F F (λ_ _=>rfl) aC aC aC F (λ_ _=>mF) ?phi11 ?step11 ?rest11
      case phi11=>exact λ_ _ _ h e=>h.ext e
      case step11=>
       rintro x w1 ⟨⟨hC,_⟩,_⟩ Q' hQ;have e1:=((Z w1).1 hC).base;clear X;go_wp2_with fail;refine(Y2 p S K w1 ((HI.ext (z.ext o)).st.ext e1) (xX.ext ((z.ext o).ext e1)) cS).mono ?_;rintro e0 w2 ⟨ce,rfl,bx,e2⟩;go_wp2_with fail;exact hQ ce _ e2 bx
      case rest11=>
      intro ce;refine aL ?_;refine rT 12 (β:=aR×Int) (λx=> .tuple #[.agg x.1.v.toArray,.int .i64 x.2]) (λx w=>x.1.Ok w/\(∀A,x.1.ba=some A->y.heap.size<=A.block)/\vM w x.1.ba/\(x.2=0->iJ x.1=0)) F F F F (λ_ _=>rfl) aC aC aC F (λ_ _=>mF) ?phi12 ?step12 ?rest12
      case phi12=>exact λ_ _ _ h e=>⟨h.1.ext e,h.2.1,h.2.2.1.ext e,h.2.2.2⟩
      case step12=>
       rintro x w1 ⟨⟨⟨hC,_⟩,_⟩,bx⟩ Q' hQ;have e1:=((Z w1).1 hC).base;clear X;go_wp2_with fail;refine(V5 p S _ _ (tX (oO K.dz)) R ce w1 ((HI.ext (z.ext o)).st.ext e1) bx (EP _) b').mono ?_;rintro e0 w2 ⟨r,E,rfl,fq,nC,Ai,H,e2⟩;go_wp2_with fail;exact hQ (r,E) _ e2 ⟨fq,λA hA=>dJ e1.size (nC A hA),Ai,H⟩
      case rest12=>
      rintro⟨r,E⟩;try dsimp only
      refine aL ?_;refine yI 13 ?_;refine yI 14 ?_;refine yI 15 ?_;refine GR F F F (λ_ _=>rfl) aC (λ_ _=>mF) ?_;rintro M w3 ⟨zn,fq,nC,Ai,H⟩ lb hb;have hC:C w3:=by obtain⟨⟨⟨hC,_⟩,_⟩,bx⟩:=zn;exact hC
      obtain⟨HB,eP,Fv,a8,tu,uo,cc,MR⟩:=mQ hb fq nC H (aR.len fq) ((Z w3).1 hC) lb (show lM M r.ba r.bn from .inr (Ai.ne hb bS));clear hb fq nC H zn hC lb Ai;refine aT 17 ?_;intro Q' hQ;go_wp2_with (refine aZ F _ _ _ F F F HB eZ iA (xs:=aR.v r) tu (nQ r) ?_);intro w4 b4 u4;have pU:=bM.upd uo u4 cc (aQ _);have MO:=O (U8 eP u4 HB MR);have uV:C w4:=(Z w4).2 pU;refine hQ _ _ uV ?_;have B4:=O b4;have b8:=O pU.base;clear hQ Q' u4 b4 pU HB X Z aK bR eP;refine aL ?_;refine aT 18 ?_;intro Q' hQ;go_wp2_with fail;refine hQ _ _ uV ?_;clear hQ Q';refine aL ?_;refine dP ?_;go_wp2;go_meet;exact⟨M,r,E,F,F,B4,MO,Fv,a8,b8⟩
     obtain⟨M,r,E,rfl,rfl,ad,fq, -,H,af⟩:=hcut;obtain⟨b2,u⟩:=aF wc;rw[u]at ad fq af⊢;obtain⟨b5,eP,a8,tu,N⟩:=fC ad fq H (aR.len fq) (o.ext af);clear u wc ad fq H af o I t;by_cases ax:E=0
     ·subst ax;have V:=a8.out F;have ck:=(HI.ext (z.ext N)).bs.cell' (i:=0) F;obtain⟨ey,ez,eA,eC,eE,eI,eJ⟩:=Er eP V;obtain⟨dT,cI,cH⟩:=aW (λw1 (e1:aj b2 w1)=>ab7 (S.uR r (S.lab r)) w1 (bD.Nv ((HI.ext (z.ext N)).st.ext e1) (eP.ext e1) (bD.RF (HI.ext (z.ext N)).st (UE r))) ⟨r.act.toNat,by show r.act=_;omega,J⟩) (show(S.uR r (S.lab r)).v.length=68 from iq.len (bD.Nv (HI.ext (z.ext N)).st eP (bD.RF (HI.ext (z.ext N)).st (UE r)))) (afo p S r b2 (HI.ext (z.ext N)).st eP V);clear V ey ez eA eC eE eI eJ;go_wp2_with (refine dA F 34 _ F F b5 eZ tu ?_);refine cH.mono ?_;rintro aa dq ⟨rfl, -,P⟩;obtain⟨ec,bm⟩:=aA (N.ext P) (nJ 5 (Bb (S.uR r (S.lab r))));clear ck cH;generalize eY 5 (Bb (S.uR r (S.lab r)))=sm at*;generalize S.uR r (S.lab r)=cC at*;have dy:=O P;clear P;go_wp2_with (refine aZ F _ (.tmp 18) _ F F F (au.bK (vs:=IW.v) F F) Ht (by rfl) (xs:=iq.v cC) cI (Qy cC) ?_);intro dr cX dl;have Q:aj dq dr:=dl.ext ((aj.refl _).alloc _) (aQ _);obtain⟨du,ed,dC⟩:=aW cX (ec.ext Q) (dy.ext Q);clear cX dl Q;generalize dq.heap.size=e5 at*;go_wp2_with (refine dA F 108 _ F F du Ht cI ?_);refine(dT dr dC).mono ?_;rintro aa fa ⟨rfl,cY⟩;have bp:=O (ed.ext cY);have dt:=O (am.ext bp);clear cY;go_wp2_with (refine rQ F _ _ _ F F F dt (by rw[aI,bm.out];exact bf) (by rw[aI,bm.out,bk.out];decide) (dw sm) ?_);intro fb a5 W;rw[aD.R_ b _ bl.hm bl.hcm bm.out]at a5;obtain⟨d6,d3,ds⟩:=aW (bl.ext (W.ext (cV.ext bp) cU)) (W.ext (z.ext bp) cP) ((f.ext bp).upd W (by have:=cN.out;omega));go_wp2;go_meet;exact⟨{b with commit:=sm},a5,{d6 with hcm:=bm.out},ds,d3⟩
     ·have ei:=bg ax;have ej:=qd ax;go_wp2;go_meet;exact⟨b,am.ext N,an.ext N,f.ext N,z.ext N⟩
   obtain⟨b,a4,ai,a3,cp⟩:=hcut;obtain⟨b3,u⟩:=aF wc;rw[u]at a4 ai a3 cp⊢;obtain⟨am,an,bk,f,a7,o⟩:=jW a4 ai (aD.len ai) a3 cp (aj.refl b3);clear u wc a4 ai a3 cp z bl cV cU;have cg:=f.cell' (i:=3) F;go_wp2_with fail;refine(VG G.key b3).mono ?_;rintro aa ab ⟨rfl,P⟩;have ao:=O (VH (oO G.key));generalize LP (oO G.key)=a1 at*;obtain⟨ap,f,ar⟩:=aW (show(a1.map Y).length=16 by rw[aI];exact ao) (f.ext P) (o.ext P);have a':=O (show ag<ab.heap.size from f.lt);clear P cg o;go_upto_region 22 with(refine aZ F _ (.tmp 20) _ F F F (au.bK (vs:=jo.map Y) F F) eu (by rfl) ap (dw a1) ?_);intro ac L bh;have Q:aj ab ac:=bh.ext ((aj.refl _).alloc _) (aQ _);obtain⟨I,f,bc,bb⟩:=bT L (f.ext Q) (ar.ext Q) (show(b3).heap.size<=ab.heap.size from ar.size);clear L bh Q ar;generalize ab.heap.size=el at*;have aw:=f.cell' (i:=1) F;go_upto_region 22 with fail;go_wp2_with (refine bZ F (by exact pR F F (au.cell' (i:=1) (f.alloc _) F) L6) ?_);generalize a0:alloc ac _=bi;have be:aM bi (some ⟨ac.heap.size,0,none⟩) (([4,5,6,7,9,10]:List Int).map qH):=by rw[<-a0];exact aM.iM (au.bK F F)
   have U:=dS a0;obtain⟨I,f,aq⟩:=aW (I.ext U) (f.ext U) (bc.ext U);clear a0 U bc aw;generalize ac.heap.size=cr at*;refine(NG G.act [4,5,6,7,9,10] (some ⟨cr,0,none⟩) 6 6 bi F J be).mono ?_;rintro aa eQ ⟨cl,rfl, -,rfl⟩;clear be;go_upto_if 113 with fail;go_cut [] (λj=>∃R:ah,R.length=16/\au j el (R.map Y) 29/\au j ag (l9.v G) 103/\aj (b3) j)
   ·cases cl with
    |true=>
     go_wp2;go_meet;exact⟨a1,ao,I,f,aq⟩
    |false=>
     go_wp2_with (refine aZ F _ _ _ F F F I eu ap (xs:=jo.map Y) (by rfl) (dw jo) ?_);intro eR a5 W;go_wp2;go_meet;exact⟨jo,F,a5,f.upd W (by have:=a'.out;omega),W.ext aq bb⟩
   obtain⟨R,aE,L,ba,hx⟩:=hcut;obtain⟨y,u⟩:=aF wc;rw[u]at L ba hx⊢;obtain⟨b',ca,I,f,o⟩:=fC aE (show(R.map Y).length=16 by rw[aI];exact aE) L ba hx;clear u wc aE L ba hx aq ao ap a' bb;go_upto_region 24 with fail;go_cut [21,22] (λcA cz j=>∃M r E,cA= .pointer (some ⟨M,0,none⟩)/\cz= .int .i64 E/\au j M (aR.v r) 34/\r.Ok j/\(∀A,r.ba=some A->y.heap.size<=A.block)/\(E=0->iJ r=0)/\aj y j)
   ·as_aux_lemma=>
    obtain⟨C,Z,aK,bR⟩:=fK (show bM y y [] [] y from bM.iP (aj.refl _) (dR.none _));have ae:∀w1,C w1->w1.cell? ⟨gs,0,none⟩=some (.pointer (some ⟨p,0,none⟩)):=λw1 s=>((HI.ext (a7.ext o)).bs.ext ((Z w1).1 s).base).cell' F;have ci:∀w1,C w1->w1.cell? ⟨ag,0,none⟩=some (.int .i64 G.wait):=λw1 s=>(f.ext ((Z w1).1 s).base).cell' F;have eg:∀w1,C w1->w1.cell? ⟨ag,1,none⟩=some (.int .i64 G.act):=λw1 s=>(f.ext ((Z w1).1 s).base).cell' F;have ee:∀w1,C w1->w1.cell? ⟨ag,2,none⟩=some (.int .i64 G.dz):=λw1 s=>(f.ext ((Z w1).1 s).base).cell' F;refine fF (ops:=(RZ 24)) λX=> ?_;refine dW 0 (ae) ?_;refine dW 1 (ae) ?_;refine ay 3 ?_;refine dW 4 (ci) ?_;refine ay 5 ?_;refine ay 6 ?_;refine ay 8 ?_;refine dW 9 (eg) ?_;refine ay 10 ?_;refine dW 11 (ee) ?_;refine aV 13 F (gP F 29 _ F F (λw1 h=>I.ext ((Z w1).1 h).base) eu ca) ?_;refine aV 14 F (gP F 101 _ F F (λw1 h=>(am.ext o).ext ((Z w1).1 h).base) jQ bk) ?_;generalize drew y=dp at X⊢;refine GU (B:=World.heap y |>.size) (A:=19) (d:=21) (T:=34) (vs:=gB.v) (D:=C) _ F aK (λ_ h=>h) (λ_ h=>((Z _).1 h).kept.1) X ?_;try dsimp only
    refine dY ?_;refine rT 2 (β:=Unit) (λ_=> .int .i64 S.tm) (λ_ _=>True) F F F F (λ_ _=>rfl) aC aC aC F (λ_ _=>mF) ?phi2 ?step2 ?rest2
    case phi2=>exact λ_ _ _ _ _=>trivial
    case step2=>
     intro x w1 hD Q' hQ;have e1:=((Z w1).1 hD).base;clear X;go_wp2_with fail;refine(adB p S w1 ((HI.ext (a7.ext o)).st.ext e1)).mono ?_;rintro e0 w2 ⟨rfl,e2⟩;go_wp2_with fail;exact hQ () _ e2 trivial
    case rest2=>
    intro _;refine aL ?_;refine yI 7 ?_;refine rT 12 (β:=Unit) (λ_=> .agg ((tX (oO G.dz)).map Y).toArray) (λ_ _=>True) F F F F (λ_ _=>rfl) aC aC aC F (λ_ _=>mF) ?phi12 ?step12 ?rest12
    case phi12=>exact λ_ _ _ _ _=>trivial
    case step12=>
     intro x w1 hD Q' hQ;clear X;go_wp2_with fail;refine(BD G.dz w1).mono ?_;rintro e0 w2 ⟨rfl,e2⟩;go_wp2_with fail;exact hQ () _ e2 trivial
    case rest12=>
    intro _;refine aL ?_;refine rT 15 (β:=aR×Int) (λx=> .tuple #[.agg x.1.v.toArray,.int .i64 x.2]) (λx w=>x.1.Ok w/\(∀A,x.1.ba=some A->y.heap.size<=A.block)/\vM w x.1.ba/\(x.2=0->iJ x.1=0)) F F F F (λ_ _=>rfl) aC aC aC F (λ_ _=>mF) ?phi15 ?step15 ?rest15
    case phi15=>exact λ_ _ _ h e=>⟨h.1.ext e,h.2.1,h.2.2.1.ext e,h.2.2.2⟩
    case step15=>
     rintro x w1 ⟨⟨hC,_⟩,_⟩ Q' hQ;have e1:=((Z w1).1 hC).base;clear X;go_wp2_with fail;refine(V5 p S _ _ (tX (oO G.dz)) R b w1 ((HI.ext (a7.ext o)).st.ext e1) (an.ext (o.ext e1)) (EP _) b').mono ?_;rintro e0 w2 ⟨r,E,rfl,fq,nC,Ai,H,e2⟩;go_wp2_with fail;exact hQ (r,E) _ e2 ⟨fq,λA hA=>dJ e1.size (nC A hA),Ai,H⟩
    case rest15=>
    rintro⟨r,E⟩;try dsimp only
    refine aL ?_;refine yI 16 ?_;refine yI 17 ?_;refine yI 18 ?_;refine GR F F F (λ_ _=>rfl) aC (λ_ _=>mF) ?_;rintro M w3 ⟨zn,fq,nC,Ai,H⟩ lb hb;have hC:C w3:=by obtain⟨⟨hC,_⟩,_⟩:=zn;exact hC
    obtain⟨HB,eP,Fv,a8,tu,uo,cc,MR⟩:=mQ hb fq nC H (aR.len fq) ((Z w3).1 hC) lb (show lM M r.ba r.bn from .inr (Ai.ne hb bS));clear hb fq nC H zn hC lb Ai;refine aT 20 ?_;intro Q' hQ;go_wp2_with (refine aZ F _ _ _ F F F HB eZ iA (xs:=aR.v r) tu (nQ r) ?_);intro w4 b4 u4;have pU:=bM.upd uo u4 cc (aQ _);have MO:=O (U8 eP u4 HB MR);have uV:C w4:=(Z w4).2 pU;refine hQ _ _ uV ?_;have B4:=O b4;have b8:=O pU.base;clear hQ Q' u4 b4 pU HB X Z aK bR eP;refine aL ?_;refine aT 21 ?_;intro Q' hQ;go_wp2_with fail;refine hQ _ _ uV ?_;clear hQ Q';refine aL ?_;refine dP ?_;go_wp2;go_meet;exact⟨M,r,E,F,F,B4,MO,Fv,a8,b8⟩
   obtain⟨M,r,E,rfl,rfl,ad,fq,nC,H,af⟩:=hcut;obtain⟨b2,u⟩:=aF wc;rw[u]at ad fq af⊢;obtain⟨b5,tu,cG⟩:=aW ad (aR.len fq) ((a7.ext o).ext af);have df:wr.heap.size<=y.heap.size:=(a7.ext o).size;by_cases ax:E=0
   ·have az:a6<wr.heap.size:=HI.bo.lt;have cx:p<wr.heap.size:=HI.st.blk.lt;have dg:∀q,v.ownBlock=some q->q<wr.heap.size:=λq ev=>(HI.own.lt q ev).2;have b9:=O (adv bu gs a6 p S v es r w b2 (HI.ext cG) fq (λg hg=> .inr λA hA=>by
     have s:=nC A hA;rcases hg with hg|hg
     ·have e6:=dg g hg;omega
     ·omega) (λA hA=>by have:=nC A hA;omega) cb (by have:=a_.out;omega))
    subst ax;clear u wc ad fq nC H af az cx dg df;go_wp2_with (refine dA F 34 _ F F b5 eZ tu ?_);refine b9.mono ?_;rintro aa fc ⟨eb,eL,rfl,al, -, -⟩;have d5:=O al;clear al;go_wp2;go_roundw
    ·refine⟨k+1,eb,eL,_,J,by go_num,d5,?_⟩;have:=a_.out;split
     ·rw[bQ,Jb];omega
     ·omega
    ·exact fV
   ·have ei:=bg ax;have ej:=qd ax;have d2:=O (HI.ext cG);clear u wc ad fq nC H af df;go_wp2;go_roundw
    ·exact⟨k+1,S,v,es,J,by go_num,d2,by have:=a_.out;omega⟩
    ·exact fV
  ·have cm:=bU ((k:Int)<(m:Int));have cn:=bg c_;go_upto_region 28 with fail;obtain⟨C,Z,aK⟩:=nR wr;have bR:C wr:=(Z _).2 (aj.refl _);have ef:∀w1,C w1->w1.cell? ⟨a6,0,none⟩=some v:=λw1 s=>(HI.bo.ext ((Z w1).1 s)).cell' F;have cj:∀w1,C w1->w1.cell? ⟨gs,0,none⟩=some (.pointer (some ⟨p,0,none⟩)):=λw1 s=>(HI.bs.ext ((Z w1).1 s)).cell' F;refine fF (ops:=(RZ 28)) λX=> ?_;refine dW 0 (ef) ?_;refine dW 1 (cj) ?_;refine ay 2 ?_;refine ay 3 ?_;refine dP ?_;have a9:=O (HI.ext ((Z _).1 X));go_wp2
   (try go_ret)
   rw[<-d8.out];exact⟨_,_,es,S.p,F,⟨a9.own,a9.ok,λe em g hg=>a9.eo e em g (.inl hg)⟩,a9.ch,by have:=a_.out;omega,a9.ex⟩
end Go.Proofs.YtjlhhnkhcbpnjaaGreatDoor
