/- Laws that the row leans on; no condition. -/
import Derived.Test.YtjlhhnkhcbpnjaaGreatDoorJM24
import Derived.Test.YtjlhhnkhcbpnjaaGreatDoorJM26
namespace Go.Proofs.YtjlhhnkhcbpnjaaGreatDoor
open Go Go.RowKit List Tryz
set_option linter.unusedVariables false
set_option linter.unusedSimpArgs false
set_option maxHeartbeats 40000000
set_option maxRecDepth 100000
def qQ(l:List jD):aO:=l.flatMap jD.v
theorem UQ{l:List jD}{k:Nat}{a:jD}(hk:l[k]? =some a):((qQ l).drop (k*6)).take 6=a.v:=by
 induction l generalizing k with
 |nil=>simp at hk
 |cons x l u=>
  have j:(qQ (x::l))=x.v++qQ l:=by unfold qQ;rw[flatMap_cons]
  cases k with
  |zero=>
   have e:x=a:=by simpa using hk
   subst e;rw[j,Nat.zero_mul,drop_zero];exact take_left' (l₁:=x.v) F
  |succ k=>
   rw[j,Nat.succ_mul,Nat.add_comm,<-drop_drop,show(x.v++qQ l).drop 6=qQ l from drop_left' (l₁:=x.v) F];exact u (by simpa using hk)
theorem UR(l:List jD):(qQ l).length=6*l.length:=by
 induction l with
 |nil=>rfl
 |cons x l u=>
  have j:(qQ (x::l))=x.v++qQ l:=by unfold qQ;rw[flatMap_cons]
  rw[j,length_append,u,length_cons];show 6+_=_;omega
theorem UU{w:World}{a:aN}{l:List jD}(h:aK w a (qQ l)){k:Nat}{x:jD}(hk:l[k]? =some x):∃A,a=some A/\dP w (A.add (k*6)) x.v:=by
 have y9:=(List.getElem?_eq_some_iff.1 hk).1;obtain⟨b,o,rfl,hc⟩:=h.gQ (by rw[UR];omega);refine⟨_,F,fun j u E=> ?_⟩;rw[dn,dn,Nat.add_assoc];refine hc _ _ ?_;rw[<-UQ hk]at E;have I:j<6:=by
  have:=(List.getElem?_eq_some_iff.1 E).1;rw[length_take]at this;omega
 rw[List.getElem?_take_of_lt I,List.getElem?_drop]at E;exact E
theorem Nv:(prog.info? 103).map (·.size)=some 6:=au
theorem Nw{w:World}{g:Nat}(h:aK w (some ⟨g,0,none⟩) (qP.map bM)):(nO g).Ok w:=
 ⟨(show(0:Nat)<=140737488355328 from Nat.zero_le _),qN 0,F,F,Nat.le_refl _,(show(2:Nat)<=140737488355328 by omega),h,(show∀s∈qP,s.size<=140737488355328 by decide),(show(0:Nat)<=140737488355328 from Nat.zero_le _),F,Nat.le_refl _,(show(0:Nat)<=140737488355328 from Nat.zero_le _),fun _ j=>(by cases j),.inl F⟩
theorem AB{w w':World}{g:Nat}{e:aG}{vs:aO}(h:e.Ok w)(u:aU w g w')(hb:ah w g vs 34)(E:iC g e.ba e.bn):e.Ok w':=
 h.row (r:=some g) (fun q j=>by injection j with j;exact j▸E) (qC u)
noncomputable def I8(n:Nat):Array Oper:=xZ f8 n
def UW(w:World)(x:Ending)(w':World):Prop:=
 ∃(v u:Value) (es:List aG) (S:dw),x= .returned (.tuple #[v,u])/\mW w' w.heap.size v es/\o_ es S/\es≠[]/\es.length<=41/\X w w'
theorem ad2(l:List jD)(a:aN)(n c:Nat)(w:World)(eR:l.length=n)(gc:n<=c)(eL:aK w a (qQ l))(eN:mJ w):
 Calls prog 8 #[.slice a n c,.bool false] w (UW w):=by
 obtain⟨uE,em,dl⟩:=aW eL eR eN;obtain⟨f8,d3⟩:=aC (UW w);rw[d3];have fl:=O d3;clear eL eR eN d3;go_enter func8,ntmps8;go_upto_region 1 with fail;generalize iX:World.alloc w _=d6;have bj:ah d6 w.heap.size [.bool false] 4:=by rw[<-iX];exact ah.aI F F
 have a0:X w d6:=by rw[<-iX];exact(X.refl w).alloc _
 obtain⟨dd,de⟩:=aB bj a0;clear iX bj a0;obtain⟨gj,c8⟩:=aC w.heap.size;have f6:=O c8;rw[c8]at dd
 conv=>rw[c8]
 clear c8;go_wp2_with fail;refine(aal d6).mono ?_;rintro b7 j ⟨p,S,rfl,e3,uW,ad,eI,e1⟩;obtain⟨nA,bx,en,fk,df,d',et⟩:=su e3 uW eI e1 (de.ext ad) (dd.ext ad) (de.size);clear e3 uW ad eI e1 dd de;go_upto_region 4 with fail;generalize c9:World.alloc (World.alloc j _) _=an;have bs:ah an j.heap.size [.pointer (some ⟨p,0,none⟩)] 25:=by rw[<-c9];exact(ah.aI F F).alloc _
 have bo:ah an (j.heap.size+1) [.slice none 0 0] 24:=by rw[<-c9];exact ah.aI (gU _ _).symm rfl
 have e2:X j an:=by rw[<-c9];exact((X.refl j).alloc _).alloc _
 have fS:w.heap.size<=j.heap.size:=df.size;have R:=O (show Ga w an gj j.heap.size (j.heap.size+1) p S (.slice none 0 0) []from
  {
   st:=nA.ext e2,bj:=d'.ext e2,bs:=bs,bo:=bo,own:=⟨F,.inl ⟨F,F⟩⟩,
   off:=fun g af=>by
    rcases af with af|af
    ·cases af
    ·exact nA.H_ J
   ok:=fun _ h=>by cases h
   eo:=fun _ h=>by cases h
   ep:=fun _ h=>by cases h
   ch:=by rw[bx.out];exact o_.nil
   ex:=df.ext e2,hi:=fun g af=>Nat.le_trans et (en g af),go0:=by omega})
 clear c9 bs bo e2 fS nA en fk df d' et;obtain⟨gs,d5⟩:=aC j.heap.size;rw[d5]at R
 conv=>rw[d5]
 obtain⟨go,cp⟩:=aC (gs+1);rw[cp]at R
 conv=>rw[cp]
 clear d5 cp;go_cut [9] (fun f0 wx=>∃bi r,f0= .pointer (some ⟨bi,0,none⟩)/\an.heap.size<=bi/\ah wx bi (aG.v r) 34/\r.Ok wx/\(∀A,r.ba=some A->an.heap.size<=A.block)/\S.p.ref r=0/\X an wx)
 case first=>
  as_aux_lemma=>
  obtain⟨C,iB,aJ,bP⟩:=iw (show bT an an [] [] an from bT.jA (X.refl _) (dV.none _));have b':∀j,C j->j.cell? ⟨gs,0,none⟩=some (.pointer (some ⟨p,0,none⟩)):=fun j ag=>(R.bs.ext ((iB j).1 ag).base).cell' F;refine fJ (ops:=(I8 4)) fun Z=> ?_;refine dA 0 (b') ?_;refine aA 2 ?_;generalize World.drew an=e_ at Z⊢;refine zo (B:=World.heap an |>.size) (A:=10) (d:=9) (T:=34) (vs:=dS.v) (D:=C) undef F aJ (fun _ h=>h) (fun _ h=>((iB _).1 h).kept.1) Z ?_;try dsimp only
  refine cO ?_;refine UO 1 4 (βi:=Unit) (βj:=Nat) (fun _=> .agg ((kQ 0).map Y).toArray) (fun g=> .slice (some ⟨g,0,none⟩) 2 2) (fun _ _=>True) (fun g w=>an.heap.size<=g/\ah w g (qP.map bM) 9) F F F F F (fun _ _=>rfl) au au au au F F (fun _ _=>jw) (fun _ _ _ _ _=>trivial) (fun _ _ _ h e=>⟨h.1,h.2.ext e⟩) ?sa1 ?sb1 ?ra1 ?rb1
  case sa1=>
   intro x j a4 aa u;clear Z;go_wp2_with fail;refine(tC 0 j).mono ?_;rintro a0 w2 ⟨rfl,e2⟩;rw[E_];go_wp2_with fail;exact u () _ e2 trivial
  case sb1=>
   intro x j a4 aa u;have b5:=((iB j).1 (a4)).kept.1;clear Z;go_wp2_with fail;exact u j.heap.size _ ((X.refl _).alloc _) ⟨b5,ah.aI (vs:=qP.map bM) F F⟩
  case ra1=>
   intro _;try dsimp only
   refine aH ?_;refine UO 3 4 (βi:=Unit) (βj:=Nat) (fun _=> .agg ((kQ 0).map Y).toArray) (fun g=> .slice (some ⟨g,0,none⟩) 2 2) (fun _ _=>True) (fun g w=>an.heap.size<=g/\ah w g (qP.map bM) 9) F F F F F (fun _ _=>rfl) au au au au F F (fun _ _=>jw) (fun _ _ _ _ _=>trivial) (fun _ _ _ h e=>⟨h.1,h.2.ext e⟩) ?sa2 ?sb2 ?ra2 ?rb2
   case sa2=>
    intro x j a4 aa u;clear Z;go_wp2_with fail;refine(tC 0 j).mono ?_;rintro a0 w2 ⟨rfl,e2⟩;rw[E_];go_wp2_with fail;exact u () _ e2 trivial
   case sb2=>
    intro x j a4 aa u;have b5:=((iB j).1 (a4.1)).kept.1;clear Z;go_wp2_with fail;exact u j.heap.size _ ((X.refl _).alloc _) ⟨b5,ah.aI (vs:=qP.map bM) F F⟩
   case ra2=>
    intro _;try dsimp only
    refine aH ?_;refine lZ 4 (β:=Nat) (fun g=> .slice (some ⟨g,0,none⟩) 2 2) (fun g w=>an.heap.size<=g/\ah w g (qP.map bM) 9) F F F F (fun _ _=>rfl) au au au F (fun _ _=>jw) ?phi4 ?step4 ?rest4
    case phi4=>exact fun _ _ _ h e=>⟨h.1,h.2.ext e⟩
    case step4=>
     intro x j a4 aa u;have b5:=((iB j).1 (a4.1.1)).kept.1;clear Z;go_wp2_with fail;exact u j.heap.size _ ((X.refl _).alloc _) ⟨b5,ah.aI (vs:=qP.map bM) F F⟩
    case rest4=>
    intro am;try dsimp only
    refine aH ?_;refine AY 5 F (fun _=>bf F (fun j _=>Nu (x:=kQ 0) (sa:=some ⟨am,0,none⟩) (sn:=2) (sc:=2) (l:=qP) F F F (qN 0) j)) ?_;refine lZ 6 (β:=aG) (fun r=> .tuple #[.agg r.v.toArray,.int .i64 0]) (fun r w=>r.Ok w/\(∀A,r.ba=some A->an.heap.size<=A.block)/\nN w r.ba/\S.p.ref r=0) F F F F (fun _ _=>rfl) au au au F (fun _ _=>jw) ?phi6 ?step6 ?rest6
    case phi6=>exact fun _ _ _ h e=>⟨h.1.ext e,h.2.1,h.2.2.1.ext e,h.2.2.2⟩
    case step6=>
     rintro x j ⟨⟨⟨ab,_⟩,_⟩,af⟩ aa u;have ad:=((iB j).1 ab).base;have cW:aK j (some ⟨am,0,none⟩) (qP.map bM):=aK.tO af.2;clear Z;go_wp2_with fail;refine(Fa p S 1000 2 (kQ 0) fO (nO am) j (R.st.ext ad) (Nw cW) (qN 0) F).mono ?_;rintro a0 w2 ⟨r,E,rfl,I,ac,ai, -,cY,e2⟩;have cd:(S.cnt:Int)=0:=by have:=congrArg dw.cnt bx;show((S.p.cnt:Nat):Int)=0;rw[this];rfl
     have c0:S.last=kN:=congrArg dw.last bx;obtain⟨ag,cG,cR,cS,cT,cU,cV,bz⟩:=cY (IZ am) (fun e ct cv cw cx=>(I4 (g:=am) (ct.trans cd) cv cw cx).1);subst ag;go_wp2_with fail;refine u r _ e2 ⟨I,fun A a1=>Nat.le_trans ad.size (ac A a1),ai,?_⟩;rw[bx.out];exact Np (g:=am) (cG.trans cd) cR cS cT cU (cV.trans c0) bz
    case rest6=>
    intro r;try dsimp only
    refine aH ?_;refine nR 7 ?_;refine nR 8 ?_;refine nR 9 ?_;refine wY F F F (fun _ _=>rfl) au (fun _ _=>jw) ?_;rintro bi a7 ⟨ba,I,ac,ai,bp⟩ bd hb;have ab:C a7:=by obtain⟨⟨⟨ab,_⟩,_⟩,af⟩:=ba;exact ab
    obtain⟨ao,ap,b1,cC,a5,a9,bt,b3⟩:=jg hb I ac bp (aG.len I) ((iB a7).1 ab) bd (show iC bi r.ba r.bn from .inr (ai.ne hb aX));clear hb I ac bp ba ab bd ai;refine aZ 11 ?_;intro aa u;go_wp2_with (refine bg F _ _ _ F F F ao cZ dZ (xs:=aG.v r) a5 (i_ r) ?_);intro a2 a_ ar;have aq:=bT.upd a9 ar bt l5;have b2:=O (AB ap ar ao b3);have bc:C a2:=(iB a2).2 aq;refine u _ _ bc ?_;have b0:=O a_;have br:=O aq.base;clear u aa ar a_ aq a9 ao Z iB aJ bP ap;refine aH ?_;refine aZ 12 ?_;intro aa u;go_wp2_with fail;refine u _ _ bc ?_;clear u aa;refine aH ?_;refine dH ?_;go_wp2_with fail;go_meet;exact⟨bi,r,F,bt,b0,b2,b1,cC,br⟩
   case rb2=>
    intro am;try dsimp only
    refine aH ?_;refine lZ 3 (β:=Unit) (fun _=> .agg ((kQ 0).map Y).toArray) (fun _ _=>True) F F F F (fun _ _=>rfl) au au au F (fun _ _=>jw) ?phi3 ?step3 ?rest3
    case phi3=>exact fun _ _ _ _ _=>trivial
    case step3=>
     intro x j a4 aa u;clear Z;go_wp2_with fail;refine(tC 0 j).mono ?_;rintro a0 w2 ⟨rfl,e2⟩;rw[E_];go_wp2_with fail;exact u () _ e2 trivial
    case rest3=>
    intro _;try dsimp only
    refine aH ?_;refine AY 5 F (fun _=>bf F (fun j _=>Nu (x:=kQ 0) (sa:=some ⟨am,0,none⟩) (sn:=2) (sc:=2) (l:=qP) F F F (qN 0) j)) ?_;refine lZ 6 (β:=aG) (fun r=> .tuple #[.agg r.v.toArray,.int .i64 0]) (fun r w=>r.Ok w/\(∀A,r.ba=some A->an.heap.size<=A.block)/\nN w r.ba/\S.p.ref r=0) F F F F (fun _ _=>rfl) au au au F (fun _ _=>jw) ?phi6 ?step6 ?rest6
    case phi6=>exact fun _ _ _ h e=>⟨h.1.ext e,h.2.1,h.2.2.1.ext e,h.2.2.2⟩
    case step6=>
     rintro x j ⟨⟨⟨ab,_⟩,af⟩,_⟩ aa u;have ad:=((iB j).1 ab).base;have cW:aK j (some ⟨am,0,none⟩) (qP.map bM):=aK.tO af.2;clear Z;go_wp2_with fail;refine(Fa p S 1000 2 (kQ 0) fO (nO am) j (R.st.ext ad) (Nw cW) (qN 0) F).mono ?_;rintro a0 w2 ⟨r,E,rfl,I,ac,ai, -,cY,e2⟩;have cd:(S.cnt:Int)=0:=by have:=congrArg dw.cnt bx;show((S.p.cnt:Nat):Int)=0;rw[this];rfl
     have c0:S.last=kN:=congrArg dw.last bx;obtain⟨ag,cG,cR,cS,cT,cU,cV,bz⟩:=cY (IZ am) (fun e ct cv cw cx=>(I4 (g:=am) (ct.trans cd) cv cw cx).1);subst ag;go_wp2_with fail;refine u r _ e2 ⟨I,fun A a1=>Nat.le_trans ad.size (ac A a1),ai,?_⟩;rw[bx.out];exact Np (g:=am) (cG.trans cd) cR cS cT cU (cV.trans c0) bz
    case rest6=>
    intro r;try dsimp only
    refine aH ?_;refine nR 7 ?_;refine nR 8 ?_;refine nR 9 ?_;refine wY F F F (fun _ _=>rfl) au (fun _ _=>jw) ?_;rintro bi a7 ⟨ba,I,ac,ai,bp⟩ bd hb;have ab:C a7:=by obtain⟨⟨⟨ab,_⟩,af⟩,_⟩:=ba;exact ab
    obtain⟨ao,ap,b1,cC,a5,a9,bt,b3⟩:=jg hb I ac bp (aG.len I) ((iB a7).1 ab) bd (show iC bi r.ba r.bn from .inr (ai.ne hb aX));clear hb I ac bp ba ab bd ai;refine aZ 11 ?_;intro aa u;go_wp2_with (refine bg F _ _ _ F F F ao cZ dZ (xs:=aG.v r) a5 (i_ r) ?_);intro a2 a_ ar;have aq:=bT.upd a9 ar bt l5;have b2:=O (AB ap ar ao b3);have bc:C a2:=(iB a2).2 aq;refine u _ _ bc ?_;have b0:=O a_;have br:=O aq.base;clear u aa ar a_ aq a9 ao Z iB aJ bP ap;refine aH ?_;refine aZ 12 ?_;intro aa u;go_wp2_with fail;refine u _ _ bc ?_;clear u aa;refine aH ?_;refine dH ?_;go_wp2_with fail;go_meet;exact⟨bi,r,F,bt,b0,b2,b1,cC,br⟩
  case rb1=>
   intro am;try dsimp only
   refine aH ?_;refine lZ 1 (β:=Unit) (fun _=> .agg ((kQ 0).map Y).toArray) (fun _ _=>True) F F F F (fun _ _=>rfl) au au au F (fun _ _=>jw) ?phi1 ?step1 ?rest1
   case phi1=>exact fun _ _ _ _ _=>trivial
   case step1=>
    intro x j a4 aa u;clear Z;go_wp2_with fail;refine(tC 0 j).mono ?_;rintro a0 w2 ⟨rfl,e2⟩;rw[E_];go_wp2_with fail;exact u () _ e2 trivial
   case rest1=>
   intro _;try dsimp only
   refine aH ?_;refine lZ 3 (β:=Unit) (fun _=> .agg ((kQ 0).map Y).toArray) (fun _ _=>True) F F F F (fun _ _=>rfl) au au au F (fun _ _=>jw) ?phi3 ?step3 ?rest3
   case phi3=>exact fun _ _ _ _ _=>trivial
   case step3=>
    intro x j a4 aa u;clear Z;go_wp2_with fail;refine(tC 0 j).mono ?_;rintro a0 w2 ⟨rfl,e2⟩;rw[E_];go_wp2_with fail;exact u () _ e2 trivial
   case rest3=>
   intro _;try dsimp only
   refine aH ?_;refine AY 5 F (fun _=>bf F (fun j _=>Nu (x:=kQ 0) (sa:=some ⟨am,0,none⟩) (sn:=2) (sc:=2) (l:=qP) F F F (qN 0) j)) ?_;refine lZ 6 (β:=aG) (fun r=> .tuple #[.agg r.v.toArray,.int .i64 0]) (fun r w=>r.Ok w/\(∀A,r.ba=some A->an.heap.size<=A.block)/\nN w r.ba/\S.p.ref r=0) F F F F (fun _ _=>rfl) au au au F (fun _ _=>jw) ?phi6 ?step6 ?rest6
   case phi6=>exact fun _ _ _ h e=>⟨h.1.ext e,h.2.1,h.2.2.1.ext e,h.2.2.2⟩
   case step6=>
    rintro x j ⟨⟨⟨ab,af⟩,_⟩,_⟩ aa u;have ad:=((iB j).1 ab).base;have cW:aK j (some ⟨am,0,none⟩) (qP.map bM):=aK.tO af.2;clear Z;go_wp2_with fail;refine(Fa p S 1000 2 (kQ 0) fO (nO am) j (R.st.ext ad) (Nw cW) (qN 0) F).mono ?_;rintro a0 w2 ⟨r,E,rfl,I,ac,ai, -,cY,e2⟩;have cd:(S.cnt:Int)=0:=by have:=congrArg dw.cnt bx;show((S.p.cnt:Nat):Int)=0;rw[this];rfl
    have c0:S.last=kN:=congrArg dw.last bx;obtain⟨ag,cG,cR,cS,cT,cU,cV,bz⟩:=cY (IZ am) (fun e ct cv cw cx=>(I4 (g:=am) (ct.trans cd) cv cw cx).1);subst ag;go_wp2_with fail;refine u r _ e2 ⟨I,fun A a1=>Nat.le_trans ad.size (ac A a1),ai,?_⟩;rw[bx.out];exact Np (g:=am) (cG.trans cd) cR cS cT cU (cV.trans c0) bz
   case rest6=>
   intro r;try dsimp only
   refine aH ?_;refine nR 7 ?_;refine nR 8 ?_;refine nR 9 ?_;refine wY F F F (fun _ _=>rfl) au (fun _ _=>jw) ?_;rintro bi a7 ⟨ba,I,ac,ai,bp⟩ bd hb;have ab:C a7:=by obtain⟨⟨⟨ab,af⟩,_⟩,_⟩:=ba;exact ab
   obtain⟨ao,ap,b1,cC,a5,a9,bt,b3⟩:=jg hb I ac bp (aG.len I) ((iB a7).1 ab) bd (show iC bi r.ba r.bn from .inr (ai.ne hb aX));clear hb I ac bp ba ab bd ai;refine aZ 11 ?_;intro aa u;go_wp2_with (refine bg F _ _ _ F F F ao cZ dZ (xs:=aG.v r) a5 (i_ r) ?_);intro a2 a_ ar;have aq:=bT.upd a9 ar bt l5;have b2:=O (AB ap ar ao b3);have bc:C a2:=(iB a2).2 aq;refine u _ _ bc ?_;have b0:=O a_;have br:=O aq.base;clear u aa ar a_ aq a9 ao Z iB aJ bP ap;refine aH ?_;refine aZ 12 ?_;intro aa u;go_wp2_with fail;refine u _ _ bc ?_;clear u aa;refine aH ?_;refine dH ?_;go_wp2_with fail;go_meet;exact⟨bi,r,F,bt,b0,b2,b1,cC,br⟩
 case rest=>
 obtain⟨bi,r,rfl,fN,dr,I,ac,bp,e2⟩:=hcut;obtain⟨w2,az⟩:=aC wc;rw[az]at dr I e2⊢;obtain⟨fe,a5,cC⟩:=aW dr (aG.len I) bp;have cp:go<an.heap.size:=R.bo.lt;have za:p<an.heap.size:=R.st.blk.lt;have cA:=O (UN gj gs go p S (.slice none 0 0) [] r w w2 (R.ext e2) I (fun g af=> .inr fun A a1=>by
  rcases af with af|af
  ·cases af
  ·have:=ac A a1;omega) (fun A a1=>by have:=ac A a1;omega) dl aF)
 rw[if_pos bp]at cA;have eW:min (n:Int) 40=((min n 40:Nat):Int):=J;have eV:min n 40<=c:=J;obtain⟨m,eS⟩:=aC (min n 40);have ga:m<=40/\m<=n:=J;rw[eS]at eW eV;have f':min (n:Int) 40=(m:Int):=eW;clear az wc dr I ac bp e2 cp za fN eS;go_wp2_with (refine bV F 34 _ F F fe cZ a5 ?_);refine cA.mono ?_;rintro b7 a7 ⟨fm,f1,rfl,ce, -, -⟩;have el:=O ce;clear ce cA R;go_wp2_with (refine bF F (zB (k:=m) F F F underlying22 Nv eV _) ?_);go_loopw [45] (fun i wr=>∃(k:Nat) (S:aV) (v:Value) (es:List aG),k<=m/\i= .int .i64 (k:Int)/\Ga w wr gj gs go p S v es/\es≠[]/\es.length<=k+1) (fun i _=>m - (intOf i).toNat)
 case atStart=>exact⟨0,fm,f1,[]++[r],J,F,el,aF,aF⟩
 case round=>
  obtain⟨k,S,v,es,hk,rfl,ce,e0,eQ⟩:=hrel;obtain⟨R,dp,cL⟩:=aW ce e0 eQ;clear ce e0 eQ el;by_cases j3:k<m
  ·obtain⟨ax,eJ⟩:∃x,l[k]? =some x:=⟨l[k]'(by rw[em.out];omega),aF⟩;obtain⟨A,rfl,nu⟩:=UU (uE.ext R.ex) eJ;obtain⟨rz,er,bt⟩:=aW nu (R.ch.gM (by have:=cL.out;omega)) (dl.ext R.ex);clear eJ nu;go_upto_region 10 with(first|(refine bF F (fP (i:=k) F F F underlying22 Nv j3 _) ?_)|(refine bF F (bQ F F rz C_ (by rfl)) ?_)|(refine bg F _ (.tmp 12) _ F F F (ah.aI (vs:=(⟨0,0,0,0,0,0⟩:jD).v) F F) C_ (by rfl) (xs:=jD.v ax) (by rfl) (Uf ax) ?_));intro a2 cD e5;obtain⟨ae,br,ed⟩:=aW cD (show X wr a2 from e5.ext ((X.refl _).alloc _) l5) (show wr.heap.size<=wr.heap.size from Nat.le_refl _);clear cD e5 rz;generalize eM:wr.heap.size=cb at ae⊢;rw[eM]at ed;have f5:=O (show wr.heap.size<=cb by omega);clear eM ed;have dv:=(R.ext br).bs.cell' (i:=0) F;go_wp2_with (refine bV F 103 _ F F ae C_ (by rfl) ?_);refine(UM p S ax a2 (R.ext br).st (bt.ext br) er).mono ?_;rintro b7 c_ ⟨b,rfl,cc,dT⟩;obtain⟨cg,c2,ae,di⟩:=bU cc (ay.len cc) (ae.ext dT) (br.ext dT);clear cc dT dv br;go_upto_region 11 with(refine bg F _ (.tmp 13) _ F F F (ah.aI (vs:=dI.v) F F) eP fM (xs:=b.v) c2 (lD b) ?_);intro cy cE e6;have cQ:X c_ cy:=e6.ext ((X.refl _).alloc _) l5;have cf:=O cE;have eh:=cg.out;obtain⟨ez,cg,c3,ej,ae,ek,a3⟩:=su cQ (cg.ext cQ) eh (show cb<c_.heap.size from ae.lt) (ae.ext cQ) (di.size) (di.ext cQ);clear cE e6 cQ di eh;generalize fz:c_.heap.size=d1 at cf ej ek⊢;have ev:=O (show c_.heap.size<=d1 by omega);clear fz;have cn:=ae.cell' (i:=1) F;go_upto_region 11 with fail;go_cut [62] (fun v wx=>∃bb:Bool,v= .bool bb/\(bb=true->k+1<m)/\cy=wx)
   case first=>
    by_cases bz:ax.act=8
    ·by_cases d2:k+1<m
     ·have dC:decide ((k:Int)+1<(m:Int))=true:=aQ J;have dE:decide (k+1<m)=true:=aQ d2;have fs:IntKind.i64.wrap ((k:Int)+1)=(k:Int)+1:=IntWalk.i64_in _ J;rw[bz]at cn;go_wp2_with fail;go_meet;exact⟨_,F,fun _=>d2,F⟩
     ·have dC:decide ((k:Int)+1<(m:Int))=false:=aP J;have dE:decide (k+1<m)=false:=aP d2;have fs:IntKind.i64.wrap ((k:Int)+1)=(k:Int)+1:=IntWalk.i64_in _ J;rw[bz]at cn;go_wp2_with fail;go_meet;exact⟨_,F,fun h=>by simp at h,F⟩
    ·have dC:decide (ax.act=8)=false:=aP bz;have dE:(ax.act==8)=false:=by simp;exact bz
     go_wp2_with fail;go_meet;exact⟨_,F,fun h=>by simp at h,F⟩
   case rest=>
   obtain⟨bb,rfl,u7,rfl⟩:=hcut;have ff:=O u7;clear u7 cn;go_upto_if 62 with fail;go_cut [] (fun wx=>∃b:ay,ah wx d1 b.v 101/\b.Ok wx/\ah wx cb (jD.v ax) 103/\X wr wx)
   case first=>
    cases bb with
    |false=>
     go_wp2_with fail;go_meet;exact⟨b,cf,cg,ae,a3⟩
    |true=>
     have Co:=ff.out F;obtain⟨be,eK⟩:∃x,l[k+1]? =some x:=⟨l[k+1]'(by rw[em.out];omega),aF⟩;obtain⟨f4,c7,d4⟩:=UU (uE.ext (R.ex.ext a3)) eK;injection c7 with c7;rw[<-c7]at d4;have ei:=O d4;clear eK d4 c7;go_upto_region 13 with(first|(refine bF F (fP (i:=k+1) F F F underlying22 Nv J _) ?_)|(refine bF F (bQ F F ei C_ (by rfl)) ?_)|(refine bg F _ (.tmp 14) _ F F F (ah.aI (vs:=(⟨0,0,0,0,0,0⟩:jD).v) F F) C_ (by rfl) (xs:=jD.v be) (by rfl) (Uf be) ?_));intro e9 eA e7;obtain⟨aw,al,f7⟩:=aW eA (show X cy e9 from e7.ext ((X.refl _).alloc _) l5) (show d1<cy.heap.size from cf.lt);clear eA e7 ei;generalize fL:cy.heap.size=c6 at aw⊢;clear fL;have ds:=aw.cell' (i:=3) F;go_wp2_with fail;refine(MG be.key e9).mono ?_;rintro b7 b8 ⟨rfl,bu⟩;have ci:=O (MF (kP be.key));generalize CY (kP be.key)=cs at*;obtain⟨cj,aw,cl⟩:=aW (show(cs.map Y).length=16 by rw[length_map];exact ci) (aw.ext bu) (al.ext bu);have cM:=O (show c6<b8.heap.size from aw.lt);clear bu ds al;go_upto_region 14 with(refine bg F _ (.tmp 15) _ F F F (ah.aI (vs:=fO.map Y) F F) dh (by rfl) cj (b_ cs) ?_);intro bl bh c1;have bv:X b8 bl:=c1.ext ((X.refl _).alloc _) l5;obtain⟨a8,aw,cP,cN⟩:=bU bh (aw.ext bv) (cl.ext bv) (show(cy).heap.size<=b8.heap.size from cl.size);clear bh c1 bv cl;generalize b8.heap.size=fw at*;have cn:=aw.cell' (i:=1) F;go_upto_region 14 with fail;go_wp2_with (refine bF F (by exact kT F F (ah.cell' (i:=1) (aw.alloc _) F) BR) ?_);generalize cr:World.alloc bl _=cz;have cX:aK cz (some ⟨bl.heap.size,0,none⟩) (([4,5,6,7,9,10]:List Int).map lN):=by rw[<-cr];exact aK.tO (ah.aI F F)
     have b4:X bl cz:=by rw[<-cr];exact(X.refl bl).alloc _
     obtain⟨a8,aw,ck⟩:=aW (a8.ext b4) (aw.ext b4) (cP.ext b4);clear cr b4 cP cn;generalize bl.heap.size=gi at*;refine(Es be.act [4,5,6,7,9,10] (some ⟨gi,0,none⟩) 6 6 cz F J cX).mono ?_;rintro b7 f2 ⟨dy,rfl, -,rfl⟩;clear cX;go_upto_if 75 with fail;go_cut [] (fun wx=>∃bw:aj,bw.length=16/\ah wx fw (bw.map Y) 29/\ah wx c6 (jD.v be) 103/\X (cy) wx)
     case first=>
      cases dy with
      |true=>
       go_wp2_with fail;go_meet;exact⟨cs,ci,a8,aw,ck⟩
      |false=>
       go_wp2_with (refine bg F _ _ _ F F F a8 dh cj (xs:=fO.map Y) (by rfl) (b_ fO) ?_);intro f3 cF b6;go_wp2_with fail;go_meet;exact⟨fO,F,cF,aw.upd b6 (by have:=cM.out;omega),b6.ext ck cN⟩
     case rest=>
     obtain⟨bw,cq,bh,cm,hx⟩:=hcut;obtain⟨aE,az⟩:=aC wc;rw[az]at bh cm hx⊢;obtain⟨dj,dk,a8,aw,al⟩:=dM cq (show(bw.map Y).length=16 by rw[length_map];exact cq) bh cm hx;clear az wc cq bh cm hx ck ci cj cM cN;go_upto_region 16 with fail;go_cut [16,17] (fun d7 ve wx=>∃bk r E,d7= .pointer (some ⟨bk,0,none⟩)/\ve= .int .i64 E/\ah wx bk (aG.v r) 34/\r.Ok wx/\(∀A,r.ba=some A->aE.heap.size<=A.block)/\(E=0->dN r=0)/\X aE wx)
     case first=>
      as_aux_lemma=>
      obtain⟨C,iB,aJ,bP⟩:=iw (show bT aE aE [] [] aE from bT.jA (X.refl _) (dV.none _));have b':∀j,C j->j.cell? ⟨gs,0,none⟩=some (.pointer (some ⟨p,0,none⟩)):=fun j ag=>((R.ext (a3.ext al)).bs.ext ((iB j).1 ag).base).cell' F;have dt:∀j,C j->j.cell? ⟨c6,1,none⟩=some (.int .i64 be.act):=fun j ag=>(aw.ext ((iB j).1 ag).base).cell' F;have du:∀j,C j->j.cell? ⟨c6,2,none⟩=some (.int .i64 be.bI):=fun j ag=>(aw.ext ((iB j).1 ag).base).cell' F;refine fJ (ops:=(I8 16)) fun Z=> ?_;refine dA 0 (b') ?_;refine dA 1 (b') ?_;refine aA 3 ?_;refine dA 4 (dt) ?_;refine aA 5 ?_;refine dA 6 (du) ?_;refine bD 8 F (oC F 29 _ F F (fun j h=>a8.ext ((iB j).1 h).base) dh dk) ?_;refine dA 9 (b') ?_;refine bD 10 F (oC F 103 _ F F (fun j h=>aw.ext ((iB j).1 h).base) C_ (by rfl)) ?_;generalize World.drew aE=e_ at Z⊢;refine zo (B:=World.heap aE |>.size) (A:=16) (d:=16) (T:=34) (vs:=dS.v) (D:=C) _ F aJ (fun _ h=>h) (fun _ h=>((iB _).1 h).kept.1) Z ?_;try dsimp only
      refine cO ?_;refine lZ 2 (β:=Unit) (fun _=> .int .i64 S.tm) (fun _ _=>True) F F F F (fun _ _=>rfl) au au au F (fun _ _=>jw) ?phi2 ?step2 ?rest2
      case phi2=>exact fun _ _ _ _ _=>trivial
      case step2=>
       intro x j a4 aa u;have ad:=((iB j).1 a4).base;clear Z;go_wp2_with fail;refine(SE p S j ((R.ext (a3.ext al)).st.ext ad)).mono ?_;rintro a0 w2 ⟨rfl,e2⟩;go_wp2_with fail;exact u () _ e2 trivial
      case rest2=>
      intro _;refine aH ?_;refine lZ 7 (β:=Unit) (fun _=> .agg ((kQ (kP be.bI)).map Y).toArray) (fun _ _=>True) F F F F (fun _ _=>rfl) au au au F (fun _ _=>jw) ?phi7 ?step7 ?rest7
      case phi7=>exact fun _ _ _ _ _=>trivial
      case step7=>
       intro x j a4 aa u;clear Z;go_wp2_with fail;refine(tC be.bI j).mono ?_;rintro a0 w2 ⟨rfl,e2⟩;go_wp2_with fail;exact u () _ e2 trivial
      case rest7=>
      intro _;refine aH ?_;refine lZ 11 (β:=ay) (fun b=> .agg b.v.toArray) (fun b w=>b.Ok w) F F F F (fun _ _=>rfl) au au au F (fun _ _=>jw) ?phi11 ?step11 ?rest11
      case phi11=>exact fun _ _ _ h e=>h.ext e
      case step11=>
       rintro x j ⟨⟨ab,_⟩,_⟩ aa u;have ad:=((iB j).1 ab).base;clear Z;go_wp2_with fail;refine(UM p S be j ((R.ext (a3.ext al)).st.ext ad) (bt.ext ((a3.ext al).ext ad)) er).mono ?_;rintro a0 w2 ⟨dq,rfl,u6,e2⟩;go_wp2_with fail;exact u dq _ e2 u6
      case rest11=>
      intro dq;refine aH ?_;refine lZ 12 (β:=aG×Int) (fun x=> .tuple #[.agg x.1.v.toArray,.int .i64 x.2]) (fun x w=>x.1.Ok w/\(∀A,x.1.ba=some A->aE.heap.size<=A.block)/\nN w x.1.ba/\(x.2=0->dN x.1=0)) F F F F (fun _ _=>rfl) au au au F (fun _ _=>jw) ?phi12 ?step12 ?rest12
      case phi12=>exact fun _ _ _ h e=>⟨h.1.ext e,h.2.1,h.2.2.1.ext e,h.2.2.2⟩
      case step12=>
       rintro x j ⟨⟨⟨ab,_⟩,_⟩,u6⟩ aa u;have ad:=((iB j).1 ab).base;clear Z;go_wp2_with fail;refine(Fa p S _ _ (kQ (kP be.bI)) bw dq j ((R.ext (a3.ext al)).st.ext ad) u6 (qN _) dj).mono ?_;rintro a0 w2 ⟨r,E,rfl,I,ac,ai,a6, -,e2⟩;go_wp2_with fail;exact u (r,E) _ e2 ⟨I,fun A a1=>Nat.le_trans ad.size (ac A a1),ai,a6⟩
      case rest12=>
      rintro⟨r,E⟩;try dsimp only
      refine aH ?_;refine nR 13 ?_;refine nR 14 ?_;refine nR 15 ?_;refine wY F F F (fun _ _=>rfl) au (fun _ _=>jw) ?_;rintro bk a7 ⟨ba,I,ac,ai,a6⟩ bd hb;have ab:C a7:=by obtain⟨⟨⟨ab,_⟩,_⟩,u6⟩:=ba;exact ab
      obtain⟨ao,ap,b1,cI,a5,a9,dm,b3⟩:=jg hb I ac a6 (aG.len I) ((iB a7).1 ab) bd (show iC bk r.ba r.bn from .inr (ai.ne hb aX));clear hb I ac a6 ba ab bd ai;refine aZ 17 ?_;intro aa u;go_wp2_with (refine bg F _ _ _ F F F ao cZ dZ (xs:=aG.v r) a5 (i_ r) ?_);intro a2 a_ ar;have aq:=bT.upd a9 ar dm l5;have b2:=O (AB ap ar ao b3);have bc:C a2:=(iB a2).2 aq;refine u _ _ bc ?_;have b0:=O a_;have dg:=O aq.base;clear u aa ar a_ aq a9 ao Z iB aJ bP ap;refine aH ?_;refine aZ 18 ?_;intro aa u;go_wp2_with fail;refine u _ _ bc ?_;clear u aa;refine aH ?_;refine dH ?_;go_wp2_with fail;go_meet;exact⟨bk,r,E,F,F,b0,b2,b1,cI,dg⟩
     case rest=>
     obtain⟨bk,r,E,rfl,rfl,b9,I, -,a6,ca⟩:=hcut;obtain⟨da,az⟩:=aC wc;rw[az]at b9 I ca⊢;obtain⟨dc,ap,cI,a5,bm⟩:=dM b9 I a6 (aG.len I) (al.ext ca);clear az wc b9 I a6 ca al a8 aw;by_cases co:E=0
     ·subst co;have b5:=cI.out F;have dv:=(R.ext (a3.ext bm)).bs.cell' (i:=0) F;obtain⟨ct,cv,cw,cx,fW,fX,fY⟩:=qy ap b5;obtain⟨eg,ef,ee⟩:=aW (fun j (ad:X da j)=>SH (S.oq r (S.lab r)) j (aV.EP ((R.ext (a3.ext bm)).st.ext ad) (ap.ext ad) (aV.IC (R.ext (a3.ext bm)).st (Nq r))) ⟨r.act.toNat,by show r.act=_;omega,J⟩) (show(S.oq r (S.lab r)).v.length=68 from eu.len (aV.EP (R.ext (a3.ext bm)).st ap (aV.IC (R.ext (a3.ext bm)).st (Nq r)))) (adB p S r da (R.ext (a3.ext bm)).st ap b5);clear b5 ct cv cw cx fW fX fY;go_wp2_with (refine bV F 34 _ F F dc cZ a5 ?_);refine ee.mono ?_;rintro b7 e' ⟨rfl, -,bu⟩;obtain⟨ew,c4⟩:=aB (bm.ext bu) (j_ 5 (sW (S.oq r (S.lab r))));clear dv ee;generalize dY 5 (sW (S.oq r (S.lab r)))=sm at*;generalize S.oq r (S.lab r)=d8 at*;have ea:=O bu;clear bu bm;go_wp2_with (refine bg F _ (.tmp 18) _ F F F (ah.aI (vs:=yR.v) F F) vI (by rfl) (xs:=eu.v d8) ef (ER d8) ?_);intro fa eC e8;have bv:X e' fa:=e8.ext ((X.refl _).alloc _) l5;obtain⟨fd,ey,eb⟩:=aW eC (ew.ext bv) (ea.ext bv);clear eC e8 bv ew ea;generalize e'.heap.size=f9 at*;go_wp2_with (refine bV F 108 _ F F fd vI ef ?_);refine(eg fa eb).mono ?_;rintro b7 gd ⟨rfl,eE⟩;have c5:=O (ey.ext eE);have fc:=O (cf.ext c5);clear eE ey eb eg;go_wp2_with (refine kR F _ _ _ F F F fc (by rw[length_map,c4.out];exact bY) (by rw[length_map,c4.out,c2.out];decide) (b_ sm) ?_);intro z2 cF b6;rw[ay.Gn b _ c3.hm c3.hcm c4.out]at cF;obtain⟨fj,fh,fb⟩:=aW (c3.ext (b6.ext (ez.ext c5) ev)) (b6.ext (a3.ext c5) ek) ((ae.ext c5).upd b6 (by have:=ej.out;omega))
      go_wp2_with fail;go_meet;exact⟨{b with commit:=sm},cF,{fj with hcm:=c4.out},fb,fh⟩
     ·have ft:decide (E=0)=false:=aP co;have fv:(E==0)=false:=by simp;exact co
      go_wp2_with fail;go_meet;exact⟨b,cf.ext bm,cg.ext bm,ae.ext bm,a3.ext bm⟩
   case rest=>
   obtain⟨b,cE,cc,cD,d0⟩:=hcut;obtain⟨db,az⟩:=aC wc;rw[az]at cE cc cD d0⊢;obtain⟨cf,cg,c2,ae,cH,al⟩:=iq cE cc (ay.len cc) cD d0 (X.refl db);clear az wc cE cc cD d0 a3 c3 ez ev;have ds:=ae.cell' (i:=3) F;go_wp2_with fail;refine(MG ax.key db).mono ?_;rintro b7 b8 ⟨rfl,bu⟩;have ci:=O (MF (kP ax.key));generalize CY (kP ax.key)=cs at*;obtain⟨cj,ae,cl⟩:=aW (show(cs.map Y).length=16 by rw[length_map];exact ci) (ae.ext bu) (al.ext bu);have cM:=O (show cb<b8.heap.size from ae.lt);clear bu ds al;go_upto_region 22 with(refine bg F _ (.tmp 20) _ F F F (ah.aI (vs:=fO.map Y) F F) dh (by rfl) cj (b_ cs) ?_);intro bl bh c1;have bv:X b8 bl:=c1.ext ((X.refl _).alloc _) l5;obtain⟨a8,ae,cP,cN⟩:=bU bh (ae.ext bv) (cl.ext bv) (show(db).heap.size<=b8.heap.size from cl.size);clear bh c1 bv cl;generalize b8.heap.size=fx at*;have cn:=ae.cell' (i:=1) F;go_upto_region 22 with fail;go_wp2_with (refine bF F (by exact kT F F (ah.cell' (i:=1) (ae.alloc _) F) BR) ?_);generalize cr:World.alloc bl _=cz;have cX:aK cz (some ⟨bl.heap.size,0,none⟩) (([4,5,6,7,9,10]:List Int).map lN):=by rw[<-cr];exact aK.tO (ah.aI F F)
   have b4:X bl cz:=by rw[<-cr];exact(X.refl bl).alloc _
   obtain⟨a8,ae,ck⟩:=aW (a8.ext b4) (ae.ext b4) (cP.ext b4);clear cr b4 cP cn;generalize bl.heap.size=gi at*;refine(Es ax.act [4,5,6,7,9,10] (some ⟨gi,0,none⟩) 6 6 cz F J cX).mono ?_;rintro b7 f2 ⟨dy,rfl, -,rfl⟩;clear cX;go_upto_if 113 with fail;go_cut [] (fun wx=>∃bw:aj,bw.length=16/\ah wx fx (bw.map Y) 29/\ah wx cb (jD.v ax) 103/\X (db) wx)
   case first=>
    cases dy with
    |true=>
     go_wp2_with fail;go_meet;exact⟨cs,ci,a8,ae,ck⟩
    |false=>
     go_wp2_with (refine bg F _ _ _ F F F a8 dh cj (xs:=fO.map Y) (by rfl) (b_ fO) ?_);intro f3 cF b6;go_wp2_with fail;go_meet;exact⟨fO,F,cF,ae.upd b6 (by have:=cM.out;omega),b6.ext ck cN⟩
   case rest=>
   obtain⟨bw,cq,bh,cm,hx⟩:=hcut;obtain⟨aE,az⟩:=aC wc;rw[az]at bh cm hx⊢;obtain⟨dj,dk,a8,ae,al⟩:=dM cq (show(bw.map Y).length=16 by rw[length_map];exact cq) bh cm hx;clear az wc cq bh cm hx ck ci cj cM cN;go_upto_region 24 with fail;go_cut [21,22] (fun d7 ve wx=>∃bk r E,d7= .pointer (some ⟨bk,0,none⟩)/\ve= .int .i64 E/\ah wx bk (aG.v r) 34/\r.Ok wx/\(∀A,r.ba=some A->aE.heap.size<=A.block)/\(E=0->dN r=0)/\X aE wx)
   case first=>
    as_aux_lemma=>
    obtain⟨C,iB,aJ,bP⟩:=iw (show bT aE aE [] [] aE from bT.jA (X.refl _) (dV.none _));have b':∀j,C j->j.cell? ⟨gs,0,none⟩=some (.pointer (some ⟨p,0,none⟩)):=fun j ag=>((R.ext (cH.ext al)).bs.ext ((iB j).1 ag).base).cell' F;have dt:∀j,C j->j.cell? ⟨cb,0,none⟩=some (.int .i64 ax.wait):=fun j ag=>(ae.ext ((iB j).1 ag).base).cell' F;have fr:∀j,C j->j.cell? ⟨cb,1,none⟩=some (.int .i64 ax.act):=fun j ag=>(ae.ext ((iB j).1 ag).base).cell' F;have fo:∀j,C j->j.cell? ⟨cb,2,none⟩=some (.int .i64 ax.bI):=fun j ag=>(ae.ext ((iB j).1 ag).base).cell' F;refine fJ (ops:=(I8 24)) fun Z=> ?_;refine dA 0 (b') ?_;refine dA 1 (b') ?_;refine aA 3 ?_;refine dA 4 (dt) ?_;refine aA 5 ?_;refine aA 6 ?_;refine aA 8 ?_;refine dA 9 (fr) ?_;refine aA 10 ?_;refine dA 11 (fo) ?_;refine bD 13 F (oC F 29 _ F F (fun j h=>a8.ext ((iB j).1 h).base) dh dk) ?_;refine bD 14 F (oC F 101 _ F F (fun j h=>(cf.ext al).ext ((iB j).1 h).base) eP c2) ?_;generalize World.drew aE=e_ at Z⊢;refine zo (B:=World.heap aE |>.size) (A:=19) (d:=21) (T:=34) (vs:=dS.v) (D:=C) _ F aJ (fun _ h=>h) (fun _ h=>((iB _).1 h).kept.1) Z ?_;try dsimp only
    refine cO ?_;refine lZ 2 (β:=Unit) (fun _=> .int .i64 S.tm) (fun _ _=>True) F F F F (fun _ _=>rfl) au au au F (fun _ _=>jw) ?phi2 ?step2 ?rest2
    case phi2=>exact fun _ _ _ _ _=>trivial
    case step2=>
     intro x j a4 aa u;have ad:=((iB j).1 a4).base;clear Z;go_wp2_with fail;refine(SE p S j ((R.ext (cH.ext al)).st.ext ad)).mono ?_;rintro a0 w2 ⟨rfl,e2⟩;go_wp2_with fail;exact u () _ e2 trivial
    case rest2=>
    intro _;refine aH ?_;refine nR 7 ?_;refine lZ 12 (β:=Unit) (fun _=> .agg ((kQ (kP ax.bI)).map Y).toArray) (fun _ _=>True) F F F F (fun _ _=>rfl) au au au F (fun _ _=>jw) ?phi12 ?step12 ?rest12
    case phi12=>exact fun _ _ _ _ _=>trivial
    case step12=>
     intro x j a4 aa u;clear Z;go_wp2_with fail;refine(tC ax.bI j).mono ?_;rintro a0 w2 ⟨rfl,e2⟩;go_wp2_with fail;exact u () _ e2 trivial
    case rest12=>
    intro _;refine aH ?_;refine lZ 15 (β:=aG×Int) (fun x=> .tuple #[.agg x.1.v.toArray,.int .i64 x.2]) (fun x w=>x.1.Ok w/\(∀A,x.1.ba=some A->aE.heap.size<=A.block)/\nN w x.1.ba/\(x.2=0->dN x.1=0)) F F F F (fun _ _=>rfl) au au au F (fun _ _=>jw) ?phi15 ?step15 ?rest15
    case phi15=>exact fun _ _ _ h e=>⟨h.1.ext e,h.2.1,h.2.2.1.ext e,h.2.2.2⟩
    case step15=>
     rintro x j ⟨⟨ab,_⟩,_⟩ aa u;have ad:=((iB j).1 ab).base;clear Z;go_wp2_with fail;refine(Fa p S _ _ (kQ (kP ax.bI)) bw b j ((R.ext (cH.ext al)).st.ext ad) (cg.ext (al.ext ad)) (qN _) dj).mono ?_;rintro a0 w2 ⟨r,E,rfl,I,ac,ai,a6, -,e2⟩;go_wp2_with fail;exact u (r,E) _ e2 ⟨I,fun A a1=>Nat.le_trans ad.size (ac A a1),ai,a6⟩
    case rest15=>
    rintro⟨r,E⟩;try dsimp only
    refine aH ?_;refine nR 16 ?_;refine nR 17 ?_;refine nR 18 ?_;refine wY F F F (fun _ _=>rfl) au (fun _ _=>jw) ?_;rintro bk a7 ⟨ba,I,ac,ai,a6⟩ bd hb;have ab:C a7:=by obtain⟨⟨ab,_⟩,_⟩:=ba;exact ab
    obtain⟨ao,ap,b1,cI,a5,a9,dm,b3⟩:=jg hb I ac a6 (aG.len I) ((iB a7).1 ab) bd (show iC bk r.ba r.bn from .inr (ai.ne hb aX));clear hb I ac a6 ba ab bd ai;refine aZ 20 ?_;intro aa u;go_wp2_with (refine bg F _ _ _ F F F ao cZ dZ (xs:=aG.v r) a5 (i_ r) ?_);intro a2 a_ ar;have aq:=bT.upd a9 ar dm l5;have b2:=O (AB ap ar ao b3);have bc:C a2:=(iB a2).2 aq;refine u _ _ bc ?_;have b0:=O a_;have dg:=O aq.base;clear u aa ar a_ aq a9 ao Z iB aJ bP ap;refine aH ?_;refine aZ 21 ?_;intro aa u;go_wp2_with fail;refine u _ _ bc ?_;clear u aa;refine aH ?_;refine dH ?_;go_wp2_with fail;go_meet;exact⟨bk,r,E,F,F,b0,b2,b1,cI,dg⟩
   case rest=>
   obtain⟨bk,r,E,rfl,rfl,b9,I,ac,a6,ca⟩:=hcut;obtain⟨da,az⟩:=aC wc;rw[az]at b9 I ca⊢;obtain⟨dc,a5,ec⟩:=aW b9 (aG.len I) ((cH.ext al).ext ca);have mU:wr.heap.size<=aE.heap.size:=(cH.ext al).size;by_cases co:E=0
   ·have cp:go<wr.heap.size:=R.bo.lt;have za:p<wr.heap.size:=R.st.blk.lt;have e4:∀q,v.ownBlock=some q->q<wr.heap.size:=fun q fR=>(R.own.lt q fR).2;have cA:=O (UN gj gs go p S v es r w da (R.ext ec) I (fun g af=> .inr fun A a1=>by
     have ag:=ac A a1;rcases af with af|af
     ·have cG:=e4 g af;omega
     ·omega) (fun A a1=>by have:=ac A a1;omega) dl (by have:=cL.out;omega))
    subst co;clear az wc b9 I ac a6 ca cp za e4 mU;go_wp2_with (refine bV F 34 _ F F dc cZ a5 ?_);refine cA.mono ?_;rintro b7 ge ⟨fn,v2,rfl,ce, -, -⟩;have fi:=O ce;clear ce cA;go_wp2_with fail;go_roundw
    case rel=>
     refine⟨k+1,fn,v2,_,J,by go_num,fi,?_,?_⟩
     ·split
      ·simp
      ·exact dp
     ·have:=cL.out;split
      ·rw[length_append,length_singleton];omega
      ·omega
    case measure=>simp[intOf];omega
   ·have ft:decide (E=0)=false:=aP co;have fv:(E==0)=false:=by simp;exact co
    have fg:=O (R.ext ec);clear az wc b9 I ac a6 ca mU;go_wp2_with fail;go_roundw
    case rel=>exact⟨k+1,S,v,es,J,by go_num,fg,dp,by have:=cL.out;omega⟩
    case measure=>simp[intOf];omega
  ·have dC:decide ((k:Int)<(m:Int))=false:=aP J;have dE:decide (k<m)=false:=aP j3;go_upto_region 28 with fail;obtain⟨C,iB,aJ⟩:=jJ wr;have bP:C wr:=(iB _).2 (X.refl _);have fp:∀j,C j->j.cell? ⟨go,0,none⟩=some v:=fun j ag=>(R.bo.ext ((iB j).1 ag)).cell' F;have du:∀j,C j->j.cell? ⟨gs,0,none⟩=some (.pointer (some ⟨p,0,none⟩)):=fun j ag=>(R.bs.ext ((iB j).1 ag)).cell' F;refine fJ (ops:=(I8 28)) fun Z=> ?_;refine dA 0 (fp) ?_;refine dA 1 (du) ?_;refine aA 2 ?_;refine aA 3 ?_;refine dH ?_;have cJ:=O (R.ext ((iB _).1 Z));go_wp2_with fail
   (try go_ret)
   rw[<-fl.out];exact⟨_,_,es,S.p,F,⟨cJ.own,cJ.ok,fun e fy g af=>cJ.eo e fy g (.inl af)⟩,cJ.ch,dp,by have:=cL.out;omega,cJ.ex⟩
end Go.Proofs.YtjlhhnkhcbpnjaaGreatDoor
