/- Laws that the row leans on; no condition. -/
import Derived.Test.YtjlhhnkhcbpnjaaGreatDoorJ32
import Derived.Test.YtjlhhnkhcbpnjaaGreatDoorJ34
namespace Go.Proofs.YtjlhhnkhcbpnjaaGreatDoor
open Go Go.RowKit List Tryz
set_option linter.unusedVariables false
set_option linter.unusedSectionVars false
set_option linter.unusedSimpArgs false
set_option maxHeartbeats 40000000
set_option maxRecDepth 100000
def qQ(l:List jD):aO:=l.flatMap jD.v
theorem UQ{l:List jD}{k:Nat}{a:jD}(hk:l[k]? =some a):((qQ l).drop (k*6)).take 6=a.v:=by
 induction l generalizing k with
 |nil=>simp at hk
 |cons x l u=>
  have j:(qQ (x::l))=x.v++qQ l:=by unfold qQ;rw[flatMap_cons]
  cases k with
  |zero=>
   have e:x=a:=by simpa using hk
   subst e;rw[j,Nat.zero_mul,drop_zero];exact take_left' (l₁:=x.v) F
  |succ k=>
   rw[j,Nat.succ_mul,Nat.add_comm,<-drop_drop,show(x.v++qQ l).drop 6=qQ l from drop_left' (l₁:=x.v) F];exact u (by simpa using hk)
theorem UR(l:List jD):(qQ l).length=6*l.length:=by
 induction l with
 |nil=>rfl
 |cons x l u=>
  have j:(qQ (x::l))=x.v++qQ l:=by unfold qQ;rw[flatMap_cons]
  rw[j,length_append,u,length_cons];show 6+_=_;omega
theorem UU{w:World}{a:aN}{l:List jD}(h:aK w a (qQ l)){k:Nat}{x:jD}(hk:l[k]? =some x):∃A,a=some A/\dP w (A.add (k*6)) x.v:=by
 have R:=(List.getElem?_eq_some_iff.1 hk).1;obtain⟨b,o,rfl,hc⟩:=h.gQ (by rw[UR];omega);refine⟨_,F,fun j u E=> ?_⟩;rw[dn,dn,Nat.add_assoc];refine hc _ _ ?_;rw[<-UQ hk]at E;have I:j<6:=by
  have:=(List.getElem?_eq_some_iff.1 E).1;rw[length_take]at this;omega
 rw[List.getElem?_take_of_lt I,List.getElem?_drop]at E;exact E
theorem Nv:(prog.info? 103).map (·.size)=some 6:=au
theorem Nw{w:World}{g:Nat}(h:aK w (some ⟨g,0,none⟩) (qP.map bM)):(nO g).Ok w:=
 ⟨(show(0:Nat)<=140737488355328 from Nat.zero_le _),qN 0,F,F,Nat.le_refl _,(show(2:Nat)<=140737488355328 by omega),h,(show∀s∈qP,s.size<=140737488355328 by decide),(show(0:Nat)<=140737488355328 from Nat.zero_le _),F,Nat.le_refl _,(show(0:Nat)<=140737488355328 from Nat.zero_le _),fun _ j=>(by cases j),.inl F⟩
theorem AB{w w':World}{g:Nat}{e:aG}{vs:aO}(h:e.Ok w)(u:aU w g w')(hb:ah w g vs 34)(E:iC g e.ba e.bn):e.Ok w':=
 h.row (r:=some g) (fun q j=>by injection j with j;exact j▸E) (qC u)
noncomputable def I8(n:Nat):Array Oper:=xZ f8 n
def UW(w:World)(x:Ending)(w':World):Prop:=
 ∃(v u:Value) (es:List aG) (S:dw),x= .returned (.tuple #[v,u])/\mW w' w.heap.size v es/\o_ es S/\es≠[]/\es.length<=41/\X w w'
theorem ad2(l:List jD)(a:aN)(n c:Nat)(w:World)(e6:l.length=n)(gw:n<=c)(e1:aK w a (qQ l))(e4:mJ w):
 Calls prog 8 #[.slice a n c,.bool false] w (UW w):=by
 obtain⟨et,ez,dp⟩:=aW e1 e6 e4;obtain⟨gn,d6⟩:=aC (UW w);rw[d6];have fz:=O d6;clear e1 e6 e4 d6;go_enter func8,ntmps8;go_upto_region 1 with fail;generalize ea:World.alloc w _=eb;have bj:ah eb w.heap.size [.bool false] 4:=by rw[<-ea];exact ah.aI F F
 have a1:X w eb:=by rw[<-ea];exact(X.refl w).alloc _
 obtain⟨df,dg⟩:=aB bj a1;clear ea bj a1;obtain⟨gj,c_⟩:=aC w.heap.size;have gl:=O c_;rw[c_]at df
 conv=>rw[c_]
 clear c_;go_wp2_with fail;refine(aal eb).mono ?_;rintro b8 j ⟨p,S,rfl,fc,fb,ae,eR,fa⟩;obtain⟨ds,bz,eA,fy,di,ee,eE⟩:=su fc fb eR fa (dg.ext ae) (df.ext ae) (dg.size);clear fc fb ae eR fa df dg;go_upto_region 4 with fail;generalize da:World.alloc (World.alloc j _) _=ao;have bs:ah ao j.heap.size [.pointer (some ⟨p,0,none⟩)] 25:=by rw[<-da];exact(ah.aI F F).alloc _
 have bo:ah ao (j.heap.size+1) [.slice none 0 0] 24:=by rw[<-da];exact ah.aI (gU _ _).symm rfl
 have e2:X j ao:=by rw[<-da];exact((X.refl j).alloc _).alloc _
 have f8:w.heap.size<=j.heap.size:=di.size;have aa:=O (show wU w ao gj j.heap.size (j.heap.size+1) p S (.slice none 0 0) []from
  {
   st:=ds.ext e2,bj:=ee.ext e2,bs:=bs,bo:=bo,own:=⟨F,.inl ⟨F,F⟩⟩,
   off:=fun g ag=>by
    rcases ag with ag|ag
    ·cases ag
    ·exact ds.H_ J
   ok:=fun _ h=>by cases h
   eo:=fun _ h=>by cases h
   ep:=fun _ h=>by cases h
   ch:=by rw[bz.out];exact o_.nil
   ex:=di.ext e2,hi:=fun g ag=>Nat.le_trans eE (eA g ag),go0:=by omega})
 clear da bs bo e2 f8 ds eA fy di ee eE;obtain⟨gs,d8⟩:=aC j.heap.size;rw[d8]at aa
 conv=>rw[d8]
 obtain⟨go,cq⟩:=aC (gs+1);rw[cq]at aa
 conv=>rw[cq]
 clear d8 cq;go_cut [9] (fun gc wx=>∃bk r,gc= .pointer (some ⟨bk,0,none⟩)/\ao.heap.size<=bk/\ah wx bk (aG.v r) 34/\r.Ok wx/\(∀A,r.ba=some A->ao.heap.size<=A.block)/\S.p.ref r=0/\X ao wx)
 case first=>
  as_aux_lemma=>
  obtain⟨C,I,aJ,bP⟩:=iw (show bT ao ao [] [] ao from bT.jA (X.refl _) (dV.none _));have ca:∀j,C j->j.cell? ⟨gs,0,none⟩=some (.pointer (some ⟨p,0,none⟩)):=fun j ai=>(aa.bs.ext ((I j).1 ai).base).cell' F;refine fJ (ops:=(I8 4)) fun Z=> ?_;refine dA 0 (ca) ?_;refine aA 2 ?_;generalize World.drew ao=fk at Z⊢;refine zo (B:=World.heap ao |>.size) (A:=10) (d:=9) (T:=34) (vs:=dS.v) (D:=C) undef F aJ (fun _ h=>h) (fun _ h=>((I _).1 h).kept.1) Z ?_;try dsimp only
  refine cO ?_;refine UO 1 4 (βi:=Unit) (βj:=Nat) (fun _=> .agg ((kQ 0).map Y).toArray) (fun g=> .slice (some ⟨g,0,none⟩) 2 2) (fun _ _=>True) (fun g w=>ao.heap.size<=g/\ah w g (qP.map bM) 9) F F F F F (fun _ _=>rfl) au au au au F F (fun _ _=>jw) (fun _ _ _ _ _=>trivial) (fun _ _ _ h e=>⟨h.1,h.2.ext e⟩) ?sa1 ?sb1 ?ra1 ?rb1
  case sa1=>
   intro x j a5 ab u;clear Z;go_wp2_with fail;refine(tC 0 j).mono ?_;rintro a1 w2 ⟨rfl,e2⟩;rw[E_];go_wp2_with fail;exact u () _ e2 trivial
  case sb1=>
   intro x j a5 ab u;have b6:=((I j).1 (a5)).kept.1;clear Z;go_wp2_with fail;exact u j.heap.size _ ((X.refl _).alloc _) ⟨b6,ah.aI (vs:=qP.map bM) F F⟩
  case ra1=>
   intro _;try dsimp only
   refine aH ?_;refine UO 3 4 (βi:=Unit) (βj:=Nat) (fun _=> .agg ((kQ 0).map Y).toArray) (fun g=> .slice (some ⟨g,0,none⟩) 2 2) (fun _ _=>True) (fun g w=>ao.heap.size<=g/\ah w g (qP.map bM) 9) F F F F F (fun _ _=>rfl) au au au au F F (fun _ _=>jw) (fun _ _ _ _ _=>trivial) (fun _ _ _ h e=>⟨h.1,h.2.ext e⟩) ?sa2 ?sb2 ?ra2 ?rb2
   case sa2=>
    intro x j a5 ab u;clear Z;go_wp2_with fail;refine(tC 0 j).mono ?_;rintro a1 w2 ⟨rfl,e2⟩;rw[E_];go_wp2_with fail;exact u () _ e2 trivial
   case sb2=>
    intro x j a5 ab u;have b6:=((I j).1 (a5.1)).kept.1;clear Z;go_wp2_with fail;exact u j.heap.size _ ((X.refl _).alloc _) ⟨b6,ah.aI (vs:=qP.map bM) F F⟩
   case ra2=>
    intro _;try dsimp only
    refine aH ?_;refine lZ 4 (β:=Nat) (fun g=> .slice (some ⟨g,0,none⟩) 2 2) (fun g w=>ao.heap.size<=g/\ah w g (qP.map bM) 9) F F F F (fun _ _=>rfl) au au au F (fun _ _=>jw) ?phi4 ?step4 ?rest4
    case phi4=>exact fun _ _ _ h e=>⟨h.1,h.2.ext e⟩
    case step4=>
     intro x j a5 ab u;have b6:=((I j).1 (a5.1.1)).kept.1;clear Z;go_wp2_with fail;exact u j.heap.size _ ((X.refl _).alloc _) ⟨b6,ah.aI (vs:=qP.map bM) F F⟩
    case rest4=>
    intro an;try dsimp only
    refine aH ?_;refine AY 5 F (fun _=>bf F (fun j _=>Nu (x:=kQ 0) (sa:=some ⟨an,0,none⟩) (sn:=2) (sc:=2) (l:=qP) F F F (qN 0) j)) ?_;refine lZ 6 (β:=aG) (fun r=> .tuple #[.agg r.v.toArray,.int .i64 0]) (fun r w=>r.Ok w/\(∀A,r.ba=some A->ao.heap.size<=A.block)/\nN w r.ba/\S.p.ref r=0) F F F F (fun _ _=>rfl) au au au F (fun _ _=>jw) ?phi6 ?step6 ?rest6
    case phi6=>exact fun _ _ _ h e=>⟨h.1.ext e,h.2.1,h.2.2.1.ext e,h.2.2.2⟩
    case step6=>
     rintro x j ⟨⟨⟨ac,_⟩,_⟩,ag⟩ ab u;have ae:=((I j).1 ac).base;have cX:aK j (some ⟨an,0,none⟩) (qP.map bM):=aK.eG ag.2;clear Z;go_wp2_with fail;refine(Fa p S 1000 2 (kQ 0) fO (nO an) j (aa.st.ext ae) (Nw cX) (qN 0) F).mono ?_;rintro a1 w2 ⟨r,E,rfl,R,ad,al, -,c0,e2⟩;have ce:(S.cnt:Int)=0:=by have:=congrArg dw.cnt bz;show((S.p.cnt:Nat):Int)=0;rw[this];rfl
     have c1:S.last=kN:=congrArg dw.last bz;obtain⟨ai,cH,cS,cT,cU,cV,cW,b0⟩:=c0 (IZ an) (fun e cv cw cx cy=>(I4 (g:=an) (cv.trans ce) cw cx cy).1);subst ai;go_wp2_with fail;refine u r _ e2 ⟨R,fun A a2=>Nat.le_trans ae.size (ad A a2),al,?_⟩;rw[bz.out];exact Np (g:=an) (cH.trans ce) cS cT cU cV (cW.trans c1) b0
    case rest6=>
    intro r;try dsimp only
    refine aH ?_;refine nR 7 ?_;refine nR 8 ?_;refine nR 9 ?_;refine wY F F F (fun _ _=>rfl) au (fun _ _=>jw) ?_;rintro bk a8 ⟨bc,R,ad,al,br⟩ be hb;have ac:C a8:=by obtain⟨⟨⟨ac,_⟩,_⟩,ag⟩:=bc;exact ac
    obtain⟨ap,aq,b2,cD,a6,a_,bu,b4⟩:=jg hb R ad br (aG.len R) ((I a8).1 ac) be (show iC bk r.ba r.bn from .inr (al.ne hb aX));clear hb R ad br bc ac be al;refine aZ 11 ?_;intro ab u;go_wp2_with (refine bg F _ _ _ F F F ap cZ dZ (xs:=aG.v r) a6 (i_ r) ?_);intro a3 ba aw;have ar:=bT.upd a_ aw bu bG;have b3:=O (AB aq aw ap b4);have bd:C a3:=(I a3).2 ar;refine u _ _ bd ?_;have b1:=O ba;have bt:=O ar.base;clear u ab aw ba ar a_ ap Z I aJ bP aq;refine aH ?_;refine aZ 12 ?_;intro ab u;go_wp2_with fail;refine u _ _ bd ?_;clear u ab;refine aH ?_;refine dH ?_;go_wp2_with fail;go_meet;exact⟨bk,r,F,bu,b1,b3,b2,cD,bt⟩
   case rb2=>
    intro an;try dsimp only
    refine aH ?_;refine lZ 3 (β:=Unit) (fun _=> .agg ((kQ 0).map Y).toArray) (fun _ _=>True) F F F F (fun _ _=>rfl) au au au F (fun _ _=>jw) ?phi3 ?step3 ?rest3
    case phi3=>exact fun _ _ _ _ _=>trivial
    case step3=>
     intro x j a5 ab u;clear Z;go_wp2_with fail;refine(tC 0 j).mono ?_;rintro a1 w2 ⟨rfl,e2⟩;rw[E_];go_wp2_with fail;exact u () _ e2 trivial
    case rest3=>
    intro _;try dsimp only
    refine aH ?_;refine AY 5 F (fun _=>bf F (fun j _=>Nu (x:=kQ 0) (sa:=some ⟨an,0,none⟩) (sn:=2) (sc:=2) (l:=qP) F F F (qN 0) j)) ?_;refine lZ 6 (β:=aG) (fun r=> .tuple #[.agg r.v.toArray,.int .i64 0]) (fun r w=>r.Ok w/\(∀A,r.ba=some A->ao.heap.size<=A.block)/\nN w r.ba/\S.p.ref r=0) F F F F (fun _ _=>rfl) au au au F (fun _ _=>jw) ?phi6 ?step6 ?rest6
    case phi6=>exact fun _ _ _ h e=>⟨h.1.ext e,h.2.1,h.2.2.1.ext e,h.2.2.2⟩
    case step6=>
     rintro x j ⟨⟨⟨ac,_⟩,ag⟩,_⟩ ab u;have ae:=((I j).1 ac).base;have cX:aK j (some ⟨an,0,none⟩) (qP.map bM):=aK.eG ag.2;clear Z;go_wp2_with fail;refine(Fa p S 1000 2 (kQ 0) fO (nO an) j (aa.st.ext ae) (Nw cX) (qN 0) F).mono ?_;rintro a1 w2 ⟨r,E,rfl,R,ad,al, -,c0,e2⟩;have ce:(S.cnt:Int)=0:=by have:=congrArg dw.cnt bz;show((S.p.cnt:Nat):Int)=0;rw[this];rfl
     have c1:S.last=kN:=congrArg dw.last bz;obtain⟨ai,cH,cS,cT,cU,cV,cW,b0⟩:=c0 (IZ an) (fun e cv cw cx cy=>(I4 (g:=an) (cv.trans ce) cw cx cy).1);subst ai;go_wp2_with fail;refine u r _ e2 ⟨R,fun A a2=>Nat.le_trans ae.size (ad A a2),al,?_⟩;rw[bz.out];exact Np (g:=an) (cH.trans ce) cS cT cU cV (cW.trans c1) b0
    case rest6=>
    intro r;try dsimp only
    refine aH ?_;refine nR 7 ?_;refine nR 8 ?_;refine nR 9 ?_;refine wY F F F (fun _ _=>rfl) au (fun _ _=>jw) ?_;rintro bk a8 ⟨bc,R,ad,al,br⟩ be hb;have ac:C a8:=by obtain⟨⟨⟨ac,_⟩,ag⟩,_⟩:=bc;exact ac
    obtain⟨ap,aq,b2,cD,a6,a_,bu,b4⟩:=jg hb R ad br (aG.len R) ((I a8).1 ac) be (show iC bk r.ba r.bn from .inr (al.ne hb aX));clear hb R ad br bc ac be al;refine aZ 11 ?_;intro ab u;go_wp2_with (refine bg F _ _ _ F F F ap cZ dZ (xs:=aG.v r) a6 (i_ r) ?_);intro a3 ba aw;have ar:=bT.upd a_ aw bu bG;have b3:=O (AB aq aw ap b4);have bd:C a3:=(I a3).2 ar;refine u _ _ bd ?_;have b1:=O ba;have bt:=O ar.base;clear u ab aw ba ar a_ ap Z I aJ bP aq;refine aH ?_;refine aZ 12 ?_;intro ab u;go_wp2_with fail;refine u _ _ bd ?_;clear u ab;refine aH ?_;refine dH ?_;go_wp2_with fail;go_meet;exact⟨bk,r,F,bu,b1,b3,b2,cD,bt⟩
  case rb1=>
   intro an;try dsimp only
   refine aH ?_;refine lZ 1 (β:=Unit) (fun _=> .agg ((kQ 0).map Y).toArray) (fun _ _=>True) F F F F (fun _ _=>rfl) au au au F (fun _ _=>jw) ?phi1 ?step1 ?rest1
   case phi1=>exact fun _ _ _ _ _=>trivial
   case step1=>
    intro x j a5 ab u;clear Z;go_wp2_with fail;refine(tC 0 j).mono ?_;rintro a1 w2 ⟨rfl,e2⟩;rw[E_];go_wp2_with fail;exact u () _ e2 trivial
   case rest1=>
   intro _;try dsimp only
   refine aH ?_;refine lZ 3 (β:=Unit) (fun _=> .agg ((kQ 0).map Y).toArray) (fun _ _=>True) F F F F (fun _ _=>rfl) au au au F (fun _ _=>jw) ?phi3 ?step3 ?rest3
   case phi3=>exact fun _ _ _ _ _=>trivial
   case step3=>
    intro x j a5 ab u;clear Z;go_wp2_with fail;refine(tC 0 j).mono ?_;rintro a1 w2 ⟨rfl,e2⟩;rw[E_];go_wp2_with fail;exact u () _ e2 trivial
   case rest3=>
   intro _;try dsimp only
   refine aH ?_;refine AY 5 F (fun _=>bf F (fun j _=>Nu (x:=kQ 0) (sa:=some ⟨an,0,none⟩) (sn:=2) (sc:=2) (l:=qP) F F F (qN 0) j)) ?_;refine lZ 6 (β:=aG) (fun r=> .tuple #[.agg r.v.toArray,.int .i64 0]) (fun r w=>r.Ok w/\(∀A,r.ba=some A->ao.heap.size<=A.block)/\nN w r.ba/\S.p.ref r=0) F F F F (fun _ _=>rfl) au au au F (fun _ _=>jw) ?phi6 ?step6 ?rest6
   case phi6=>exact fun _ _ _ h e=>⟨h.1.ext e,h.2.1,h.2.2.1.ext e,h.2.2.2⟩
   case step6=>
    rintro x j ⟨⟨⟨ac,ag⟩,_⟩,_⟩ ab u;have ae:=((I j).1 ac).base;have cX:aK j (some ⟨an,0,none⟩) (qP.map bM):=aK.eG ag.2;clear Z;go_wp2_with fail;refine(Fa p S 1000 2 (kQ 0) fO (nO an) j (aa.st.ext ae) (Nw cX) (qN 0) F).mono ?_;rintro a1 w2 ⟨r,E,rfl,R,ad,al, -,c0,e2⟩;have ce:(S.cnt:Int)=0:=by have:=congrArg dw.cnt bz;show((S.p.cnt:Nat):Int)=0;rw[this];rfl
    have c1:S.last=kN:=congrArg dw.last bz;obtain⟨ai,cH,cS,cT,cU,cV,cW,b0⟩:=c0 (IZ an) (fun e cv cw cx cy=>(I4 (g:=an) (cv.trans ce) cw cx cy).1);subst ai;go_wp2_with fail;refine u r _ e2 ⟨R,fun A a2=>Nat.le_trans ae.size (ad A a2),al,?_⟩;rw[bz.out];exact Np (g:=an) (cH.trans ce) cS cT cU cV (cW.trans c1) b0
   case rest6=>
   intro r;try dsimp only
   refine aH ?_;refine nR 7 ?_;refine nR 8 ?_;refine nR 9 ?_;refine wY F F F (fun _ _=>rfl) au (fun _ _=>jw) ?_;rintro bk a8 ⟨bc,R,ad,al,br⟩ be hb;have ac:C a8:=by obtain⟨⟨⟨ac,ag⟩,_⟩,_⟩:=bc;exact ac
   obtain⟨ap,aq,b2,cD,a6,a_,bu,b4⟩:=jg hb R ad br (aG.len R) ((I a8).1 ac) be (show iC bk r.ba r.bn from .inr (al.ne hb aX));clear hb R ad br bc ac be al;refine aZ 11 ?_;intro ab u;go_wp2_with (refine bg F _ _ _ F F F ap cZ dZ (xs:=aG.v r) a6 (i_ r) ?_);intro a3 ba aw;have ar:=bT.upd a_ aw bu bG;have b3:=O (AB aq aw ap b4);have bd:C a3:=(I a3).2 ar;refine u _ _ bd ?_;have b1:=O ba;have bt:=O ar.base;clear u ab aw ba ar a_ ap Z I aJ bP aq;refine aH ?_;refine aZ 12 ?_;intro ab u;go_wp2_with fail;refine u _ _ bd ?_;clear u ab;refine aH ?_;refine dH ?_;go_wp2_with fail;go_meet;exact⟨bk,r,F,bu,b1,b3,b2,cD,bt⟩
 case rest=>
 obtain⟨bk,r,rfl,f6,du,R,ad,br,e2⟩:=hcut;obtain⟨w2,aE⟩:=aC wc;rw[aE]at du R e2⊢;obtain⟨fr,a6,cD⟩:=aW du (aG.len R) br;have cq:go<ao.heap.size:=aa.bo.lt;have d':p<ao.heap.size:=aa.st.blk.lt;have cC:=O (UN gj gs go p S (.slice none 0 0) [] r w w2 (aa.ext e2) R (fun g ag=> .inr fun A a2=>by
  rcases ag with ag|ag
  ·cases ag
  ·have:=ad A a2;omega) (fun A a2=>by have:=ad A a2;omega) dp aF)
 rw[if_pos br]at cC;have e_:min (n:Int) 40=((min n 40:Nat):Int):=J;have e9:min n 40<=c:=J;obtain⟨m,e8⟩:=aC (min n 40);have gv:m<=40/\m<=n:=J;rw[e8]at e_ e9;have gt:min (n:Int) 40=(m:Int):=e_;clear aE wc du R ad br e2 cq d' f6 e8;go_wp2_with (refine bV F 34 _ F F fr cZ a6 ?_);refine cC.mono ?_;rintro b8 a8 ⟨fL,gd,rfl,cf, -, -⟩;have ey:=O cf;clear cf cC aa;go_wp2_with (refine bF F (zB (k:=m) F F F underlying22 Nv e9 _) ?_);go_loopw [45] (fun i wr=>∃(k:Nat) (S:aV) (v:Value) (es:List aG),k<=m/\i= .int .i64 (k:Int)/\wU w wr gj gs go p S v es/\es≠[]/\es.length<=k+1) (fun i _=>m - (intOf i).toNat)
 case atStart=>exact⟨0,fL,gd,[]++[r],J,F,ey,aF,aF⟩
 case round=>
  obtain⟨k,S,v,es,hk,rfl,cf,e',e5⟩:=hrel;obtain⟨aa,dr,cM⟩:=aW cf e' e5;clear cf e' e5 ey;by_cases e7:k<m
  ·obtain⟨az,eS⟩:∃x,l[k]? =some x:=⟨l[k]'(by rw[ez.out];omega),aF⟩;obtain⟨A,rfl,e0⟩:=UU (et.ext aa.ex) eS;obtain⟨en,eC,bu⟩:=aW e0 (aa.ch.gM (by have:=cM.out;omega)) (dp.ext aa.ex);clear eS e0;go_upto_region 10 with(first|(refine bF F (fP (i:=k) F F F underlying22 Nv e7 _) ?_)|(refine bF F (bQ F F en C_ (by rfl)) ?_)|(refine bg F _ (.tmp 12) _ F F F (ah.aI (vs:=(⟨0,0,0,0,0,0⟩:jD).v) F F) C_ (by rfl) (xs:=jD.v az) (by rfl) (Uf az) ?_));intro a3 cE ff;obtain⟨af,bt,ei⟩:=aW cE (show X wr a3 from ff.ext ((X.refl _).alloc _) bG) (show wr.heap.size<=wr.heap.size from Nat.le_refl _);clear cE ff en;generalize e3:wr.heap.size=cc at af⊢;rw[e3]at ei;have gh:=O (show wr.heap.size<=cc by omega);clear e3 ei;have dE:=(aa.ext bt).bs.cell' (i:=0) F;go_wp2_with (refine bV F 103 _ F F af C_ (by rfl) ?_);refine(UM p S az a3 (aa.ext bt).st (bu.ext bt) eC).mono ?_;rintro b8 db ⟨b,rfl,cd,d2⟩;obtain⟨ci,c3,af,dk⟩:=bU cd (ay.len cd) (af.ext d2) (bt.ext d2);clear cd d2 dE bt;go_upto_region 11 with(refine bg F _ (.tmp 13) _ F F F (ah.aI (vs:=dI.v) F F) eP fM (xs:=b.v) c3 (lD b) ?_);intro cz cF fg;have cR:X db cz:=fg.ext ((X.refl _).alloc _) bG;have cg:=O cF;have em:=ci.out;obtain⟨eL,ci,c4,ev,af,ew,a4⟩:=su cR (ci.ext cR) em (show cc<db.heap.size from af.lt) (af.ext cR) (dk.size) (dk.ext cR);clear cF fg cR dk em;generalize f4:db.heap.size=d4 at cg ev ew⊢;have eI:=O (show db.heap.size<=d4 by omega);clear f4;have co:=af.cell' (i:=1) F;go_upto_region 11 with fail;go_cut [62] (fun v wx=>∃bb:Bool,v= .bool bb/\(bb=true->k+1<m)/\cz=wx)
   case first=>
    by_cases b0:az.act=8
    ·by_cases d5:k+1<m
     ·have d0:decide ((k:Int)+1<(m:Int))=true:=aQ J;have d1:decide (k+1<m)=true:=aQ d5;have fX:IntKind.i64.wrap ((k:Int)+1)=(k:Int)+1:=IntWalk.i64_in _ J;rw[b0]at co;go_wp2_with fail;go_meet;exact⟨_,F,fun _=>d5,F⟩
     ·have d0:decide ((k:Int)+1<(m:Int))=false:=aP J;have d1:decide (k+1<m)=false:=aP d5;have fX:IntKind.i64.wrap ((k:Int)+1)=(k:Int)+1:=IntWalk.i64_in _ J;rw[b0]at co;go_wp2_with fail;go_meet;exact⟨_,F,fun h=>by simp at h,F⟩
    ·have d0:decide (az.act=8)=false:=aP b0;have d1:(az.act==8)=false:=by simp;exact b0
     go_wp2_with fail;go_meet;exact⟨_,F,fun h=>by simp at h,F⟩
   case rest=>
   obtain⟨bb,rfl,eW,rfl⟩:=hcut;have fs:=O eW;clear eW co;go_upto_if 62 with fail;go_cut [] (fun wx=>∃b:ay,ah wx d4 b.v 101/\b.Ok wx/\ah wx cc (jD.v az) 103/\X wr wx)
   case first=>
    cases bb with
    |false=>
     go_wp2_with fail;go_meet;exact⟨b,cg,ci,af,a4⟩
    |true=>
     have gr:=fs.out F;obtain⟨bh,eV⟩:∃x,l[k+1]? =some x:=⟨l[k+1]'(by rw[ez.out];omega),aF⟩;obtain⟨gg,c8,d7⟩:=UU (et.ext (aa.ex.ext a4)) eV;injection c8 with c8;rw[<-c8]at d7;have er:=O d7;clear eV d7 c8;go_upto_region 13 with(first|(refine bF F (fP (i:=k+1) F F F underlying22 Nv J _) ?_)|(refine bF F (bQ F F er C_ (by rfl)) ?_)|(refine bg F _ (.tmp 14) _ F F F (ah.aI (vs:=(⟨0,0,0,0,0,0⟩:jD).v) F F) C_ (by rfl) (xs:=jD.v bh) (by rfl) (Uf bh) ?_));intro fj eM fh;obtain⟨ax,am,gm⟩:=aW eM (show X cz fj from fh.ext ((X.refl _).alloc _) bG) (show d4<cz.heap.size from cg.lt);clear eM fh er;generalize f5:cz.heap.size=c7 at ax⊢;clear f5;have dv:=ax.cell' (i:=3) F;go_wp2_with fail;refine(MG bh.key fj).mono ?_;rintro b8 b9 ⟨rfl,bv⟩;have cj:=O (MF (kP bh.key));generalize CY (kP bh.key)=ct at*;obtain⟨ck,ax,cm⟩:=aW (show(ct.map Y).length=16 by rw[length_map];exact cj) (ax.ext bv) (am.ext bv);have cN:=O (show c7<b9.heap.size from ax.lt);clear bv dv am;go_upto_region 14 with(refine bg F _ (.tmp 15) _ F F F (ah.aI (vs:=fO.map Y) F F) dh (by rfl) ck (b_ ct) ?_);intro bm bi c2;have bw:X b9 bm:=c2.ext ((X.refl _).alloc _) bG;obtain⟨a9,ax,cQ,cP⟩:=bU bi (ax.ext bw) (cm.ext bw) (show(cz).heap.size<=b9.heap.size from cm.size);clear bi c2 bw cm;generalize b9.heap.size=f1 at*;have co:=ax.cell' (i:=1) F;go_upto_region 14 with fail;go_wp2_with (refine bF F (by exact kT F F (ah.cell' (i:=1) (ax.alloc _) F) BR) ?_);generalize cs:World.alloc bm _=cA;have cY:aK cA (some ⟨bm.heap.size,0,none⟩) (([4,5,6,7,9,10]:List Int).map lN):=by rw[<-cs];exact aK.eG (ah.aI F F)
     have b5:X bm cA:=by rw[<-cs];exact(X.refl bm).alloc _
     obtain⟨a9,ax,cl⟩:=aW (a9.ext b5) (ax.ext b5) (cQ.ext b5);clear cs b5 cQ co;generalize bm.heap.size=gi at*;refine(Es bh.act [4,5,6,7,9,10] (some ⟨gi,0,none⟩) 6 6 cA F J cY).mono ?_;rintro b8 ge ⟨dT,rfl, -,rfl⟩;clear cY;go_upto_if 75 with fail;go_cut [] (fun wx=>∃bx:aj,bx.length=16/\ah wx f1 (bx.map Y) 29/\ah wx c7 (jD.v bh) 103/\X (cz) wx)
     case first=>
      cases dT with
      |true=>
       go_wp2_with fail;go_meet;exact⟨ct,cj,a9,ax,cl⟩
      |false=>
       go_wp2_with (refine bg F _ _ _ F F F a9 dh ck (xs:=fO.map Y) (by rfl) (b_ fO) ?_);intro gf cG b7;go_wp2_with fail;go_meet;exact⟨fO,F,cG,ax.upd b7 (by have:=cN.out;omega),b7.ext cl cP⟩
     case rest=>
     obtain⟨bx,cr,bi,cn,hx⟩:=hcut;obtain⟨a0,aE⟩:=aC wc;rw[aE]at bi cn hx⊢;obtain⟨dl,dm,a9,ax,am⟩:=dM cr (show(bx.map Y).length=16 by rw[length_map];exact cr) bi cn hx;clear aE wc cr bi cn hx cl cj ck cN cP;go_upto_region 16 with fail;go_cut [16,17] (fun ec ve wx=>∃bl r E,ec= .pointer (some ⟨bl,0,none⟩)/\ve= .int .i64 E/\ah wx bl (aG.v r) 34/\r.Ok wx/\(∀A,r.ba=some A->a0.heap.size<=A.block)/\(E=0->dN r=0)/\X a0 wx)
     case first=>
      as_aux_lemma=>
      obtain⟨C,I,aJ,bP⟩:=iw (show bT a0 a0 [] [] a0 from bT.jA (X.refl _) (dV.none _));have ca:∀j,C j->j.cell? ⟨gs,0,none⟩=some (.pointer (some ⟨p,0,none⟩)):=fun j ai=>((aa.ext (a4.ext am)).bs.ext ((I j).1 ai).base).cell' F;have dy:∀j,C j->j.cell? ⟨c7,1,none⟩=some (.int .i64 bh.act):=fun j ai=>(ax.ext ((I j).1 ai).base).cell' F;have dC:∀j,C j->j.cell? ⟨c7,2,none⟩=some (.int .i64 bh.bI):=fun j ai=>(ax.ext ((I j).1 ai).base).cell' F;refine fJ (ops:=(I8 16)) fun Z=> ?_;refine dA 0 (ca) ?_;refine dA 1 (ca) ?_;refine aA 3 ?_;refine dA 4 (dy) ?_;refine aA 5 ?_;refine dA 6 (dC) ?_;refine bD 8 F (oC F 29 _ F F (fun j h=>a9.ext ((I j).1 h).base) dh dm) ?_;refine dA 9 (ca) ?_;refine bD 10 F (oC F 103 _ F F (fun j h=>ax.ext ((I j).1 h).base) C_ (by rfl)) ?_;generalize World.drew a0=fk at Z⊢;refine zo (B:=World.heap a0 |>.size) (A:=16) (d:=16) (T:=34) (vs:=dS.v) (D:=C) _ F aJ (fun _ h=>h) (fun _ h=>((I _).1 h).kept.1) Z ?_;try dsimp only
      refine cO ?_;refine lZ 2 (β:=Unit) (fun _=> .int .i64 S.tm) (fun _ _=>True) F F F F (fun _ _=>rfl) au au au F (fun _ _=>jw) ?phi2 ?step2 ?rest2
      case phi2=>exact fun _ _ _ _ _=>trivial
      case step2=>
       intro x j a5 ab u;have ae:=((I j).1 a5).base;clear Z;go_wp2_with fail;refine(SE p S j ((aa.ext (a4.ext am)).st.ext ae)).mono ?_;rintro a1 w2 ⟨rfl,e2⟩;go_wp2_with fail;exact u () _ e2 trivial
      case rest2=>
      intro _;refine aH ?_;refine lZ 7 (β:=Unit) (fun _=> .agg ((kQ (kP bh.bI)).map Y).toArray) (fun _ _=>True) F F F F (fun _ _=>rfl) au au au F (fun _ _=>jw) ?phi7 ?step7 ?rest7
      case phi7=>exact fun _ _ _ _ _=>trivial
      case step7=>
       intro x j a5 ab u;clear Z;go_wp2_with fail;refine(tC bh.bI j).mono ?_;rintro a1 w2 ⟨rfl,e2⟩;go_wp2_with fail;exact u () _ e2 trivial
      case rest7=>
      intro _;refine aH ?_;refine lZ 11 (β:=ay) (fun b=> .agg b.v.toArray) (fun b w=>b.Ok w) F F F F (fun _ _=>rfl) au au au F (fun _ _=>jw) ?phi11 ?step11 ?rest11
      case phi11=>exact fun _ _ _ h e=>h.ext e
      case step11=>
       rintro x j ⟨⟨ac,_⟩,_⟩ ab u;have ae:=((I j).1 ac).base;clear Z;go_wp2_with fail;refine(UM p S bh j ((aa.ext (a4.ext am)).st.ext ae) (bu.ext ((a4.ext am).ext ae)) eC).mono ?_;rintro a1 w2 ⟨dt,rfl,c9,e2⟩;go_wp2_with fail;exact u dt _ e2 c9
      case rest11=>
      intro dt;refine aH ?_;refine lZ 12 (β:=aG×Int) (fun x=> .tuple #[.agg x.1.v.toArray,.int .i64 x.2]) (fun x w=>x.1.Ok w/\(∀A,x.1.ba=some A->a0.heap.size<=A.block)/\nN w x.1.ba/\(x.2=0->dN x.1=0)) F F F F (fun _ _=>rfl) au au au F (fun _ _=>jw) ?phi12 ?step12 ?rest12
      case phi12=>exact fun _ _ _ h e=>⟨h.1.ext e,h.2.1,h.2.2.1.ext e,h.2.2.2⟩
      case step12=>
       rintro x j ⟨⟨⟨ac,_⟩,_⟩,c9⟩ ab u;have ae:=((I j).1 ac).base;clear Z;go_wp2_with fail;refine(Fa p S _ _ (kQ (kP bh.bI)) bx dt j ((aa.ext (a4.ext am)).st.ext ae) c9 (qN _) dl).mono ?_;rintro a1 w2 ⟨r,E,rfl,R,ad,al,a7, -,e2⟩;go_wp2_with fail;exact u (r,E) _ e2 ⟨R,fun A a2=>Nat.le_trans ae.size (ad A a2),al,a7⟩
      case rest12=>
      rintro⟨r,E⟩;try dsimp only
      refine aH ?_;refine nR 13 ?_;refine nR 14 ?_;refine nR 15 ?_;refine wY F F F (fun _ _=>rfl) au (fun _ _=>jw) ?_;rintro bl a8 ⟨bc,R,ad,al,a7⟩ be hb;have ac:C a8:=by obtain⟨⟨⟨ac,_⟩,_⟩,c9⟩:=bc;exact ac
      obtain⟨ap,aq,b2,cJ,a6,a_,dq,b4⟩:=jg hb R ad a7 (aG.len R) ((I a8).1 ac) be (show iC bl r.ba r.bn from .inr (al.ne hb aX));clear hb R ad a7 bc ac be al;refine aZ 17 ?_;intro ab u;go_wp2_with (refine bg F _ _ _ F F F ap cZ dZ (xs:=aG.v r) a6 (i_ r) ?_);intro a3 ba aw;have ar:=bT.upd a_ aw dq bG;have b3:=O (AB aq aw ap b4);have bd:C a3:=(I a3).2 ar;refine u _ _ bd ?_;have b1:=O ba;have dj:=O ar.base;clear u ab aw ba ar a_ ap Z I aJ bP aq;refine aH ?_;refine aZ 18 ?_;intro ab u;go_wp2_with fail;refine u _ _ bd ?_;clear u ab;refine aH ?_;refine dH ?_;go_wp2_with fail;go_meet;exact⟨bl,r,E,F,F,b1,b3,b2,cJ,dj⟩
     case rest=>
     obtain⟨bl,r,E,rfl,rfl,b',R, -,a7,cb⟩:=hcut;obtain⟨dc,aE⟩:=aC wc;rw[aE]at b' R cb⊢;obtain⟨de,aq,cJ,a6,bp⟩:=dM b' R a7 (aG.len R) (am.ext cb);clear aE wc b' R a7 cb am a9 ax;by_cases cp:E=0
     ·subst cp;have b6:=cJ.out F;have dE:=(aa.ext (a4.ext bp)).bs.cell' (i:=0) F;obtain⟨cv,cw,cx,cy,f9,f',ga⟩:=qy aq b6;obtain⟨el,ek,ej⟩:=aW (fun j (ae:X dc j)=>SH (S.oq r (S.lab r)) j (aV.EP ((aa.ext (a4.ext bp)).st.ext ae) (aq.ext ae) (aV.IC (aa.ext (a4.ext bp)).st (Nq r))) ⟨r.act.toNat,by show r.act=_;omega,J⟩) (show(S.oq r (S.lab r)).v.length=68 from eu.len (aV.EP (aa.ext (a4.ext bp)).st aq (aV.IC (aa.ext (a4.ext bp)).st (Nq r)))) (adB p S r dc (aa.ext (a4.ext bp)).st aq b6);clear b6 cv cw cx cy f9 f' ga;go_wp2_with (refine bV F 34 _ F F de cZ a6 ?_);refine ej.mono ?_;rintro b8 fl ⟨rfl, -,bv⟩;obtain⟨eJ,c5⟩:=aB (bp.ext bv) (j_ 5 (sW (S.oq r (S.lab r))));clear dE ej;generalize dY 5 (sW (S.oq r (S.lab r)))=sm at*;generalize S.oq r (S.lab r)=ed at*;have ef:=O bv;clear bv bp;go_wp2_with (refine bg F _ (.tmp 18) _ F F F (ah.aI (vs:=yR.v) F F) vI (by rfl) (xs:=eu.v ed) ek (ER ed) ?_);intro fm eN fi;have bw:X fl fm:=fi.ext ((X.refl _).alloc _) bG;obtain⟨fp,eK,eg⟩:=aW eN (eJ.ext bw) (ef.ext bw);clear eN fi bw eJ ef;generalize fl.heap.size=gp at*;go_wp2_with (refine bV F 108 _ F F fp vI ek ?_);refine(el fm eg).mono ?_;rintro b8 gx ⟨rfl,eQ⟩;have c6:=O (eK.ext eQ);have fo:=O (cg.ext c6);clear eQ eK eg el;go_wp2_with (refine kR F _ _ _ F F F fo (by rw[length_map,c5.out];exact bY) (by rw[length_map,c5.out,c3.out];decide) (b_ sm) ?_);intro z2 cG b7;rw[ay.Gn b _ c4.hm c4.hcm c5.out]at cG;obtain⟨fx,fv,fn⟩:=aW (c4.ext (b7.ext (eL.ext c6) eI)) (b7.ext (a4.ext c6) ew) ((af.ext c6).upd b7 (by have:=ev.out;omega))
      go_wp2_with fail;go_meet;exact⟨{b with commit:=sm},cG,{fx with hcm:=c5.out},fn,fv⟩
     ·have fY:decide (E=0)=false:=aP cp;have f0:(E==0)=false:=by simp;exact cp
      go_wp2_with fail;go_meet;exact⟨b,cg.ext bp,ci.ext bp,af.ext bp,a4.ext bp⟩
   case rest=>
   obtain⟨b,cF,cd,cE,d3⟩:=hcut;obtain⟨dd,aE⟩:=aC wc;rw[aE]at cF cd cE d3⊢;obtain⟨cg,ci,c3,af,cI,am⟩:=iq cF cd (ay.len cd) cE d3 (X.refl dd);clear aE wc cF cd cE d3 a4 c4 eL eI;have dv:=af.cell' (i:=3) F;go_wp2_with fail;refine(MG az.key dd).mono ?_;rintro b8 b9 ⟨rfl,bv⟩;have cj:=O (MF (kP az.key));generalize CY (kP az.key)=ct at*;obtain⟨ck,af,cm⟩:=aW (show(ct.map Y).length=16 by rw[length_map];exact cj) (af.ext bv) (am.ext bv);have cN:=O (show cc<b9.heap.size from af.lt);clear bv dv am;go_upto_region 22 with(refine bg F _ (.tmp 20) _ F F F (ah.aI (vs:=fO.map Y) F F) dh (by rfl) ck (b_ ct) ?_);intro bm bi c2;have bw:X b9 bm:=c2.ext ((X.refl _).alloc _) bG;obtain⟨a9,af,cQ,cP⟩:=bU bi (af.ext bw) (cm.ext bw) (show(dd).heap.size<=b9.heap.size from cm.size);clear bi c2 bw cm;generalize b9.heap.size=f2 at*;have co:=af.cell' (i:=1) F;go_upto_region 22 with fail;go_wp2_with (refine bF F (by exact kT F F (ah.cell' (i:=1) (af.alloc _) F) BR) ?_);generalize cs:World.alloc bm _=cA;have cY:aK cA (some ⟨bm.heap.size,0,none⟩) (([4,5,6,7,9,10]:List Int).map lN):=by rw[<-cs];exact aK.eG (ah.aI F F)
   have b5:X bm cA:=by rw[<-cs];exact(X.refl bm).alloc _
   obtain⟨a9,af,cl⟩:=aW (a9.ext b5) (af.ext b5) (cQ.ext b5);clear cs b5 cQ co;generalize bm.heap.size=gi at*;refine(Es az.act [4,5,6,7,9,10] (some ⟨gi,0,none⟩) 6 6 cA F J cY).mono ?_;rintro b8 ge ⟨dT,rfl, -,rfl⟩;clear cY;go_upto_if 113 with fail;go_cut [] (fun wx=>∃bx:aj,bx.length=16/\ah wx f2 (bx.map Y) 29/\ah wx cc (jD.v az) 103/\X (dd) wx)
   case first=>
    cases dT with
    |true=>
     go_wp2_with fail;go_meet;exact⟨ct,cj,a9,af,cl⟩
    |false=>
     go_wp2_with (refine bg F _ _ _ F F F a9 dh ck (xs:=fO.map Y) (by rfl) (b_ fO) ?_);intro gf cG b7;go_wp2_with fail;go_meet;exact⟨fO,F,cG,af.upd b7 (by have:=cN.out;omega),b7.ext cl cP⟩
   case rest=>
   obtain⟨bx,cr,bi,cn,hx⟩:=hcut;obtain⟨a0,aE⟩:=aC wc;rw[aE]at bi cn hx⊢;obtain⟨dl,dm,a9,af,am⟩:=dM cr (show(bx.map Y).length=16 by rw[length_map];exact cr) bi cn hx;clear aE wc cr bi cn hx cl cj ck cN cP;go_upto_region 24 with fail;go_cut [21,22] (fun ec ve wx=>∃bl r E,ec= .pointer (some ⟨bl,0,none⟩)/\ve= .int .i64 E/\ah wx bl (aG.v r) 34/\r.Ok wx/\(∀A,r.ba=some A->a0.heap.size<=A.block)/\(E=0->dN r=0)/\X a0 wx)
   case first=>
    as_aux_lemma=>
    obtain⟨C,I,aJ,bP⟩:=iw (show bT a0 a0 [] [] a0 from bT.jA (X.refl _) (dV.none _));have ca:∀j,C j->j.cell? ⟨gs,0,none⟩=some (.pointer (some ⟨p,0,none⟩)):=fun j ai=>((aa.ext (cI.ext am)).bs.ext ((I j).1 ai).base).cell' F;have dy:∀j,C j->j.cell? ⟨cc,0,none⟩=some (.int .i64 az.wait):=fun j ai=>(af.ext ((I j).1 ai).base).cell' F;have fW:∀j,C j->j.cell? ⟨cc,1,none⟩=some (.int .i64 az.act):=fun j ai=>(af.ext ((I j).1 ai).base).cell' F;have fR:∀j,C j->j.cell? ⟨cc,2,none⟩=some (.int .i64 az.bI):=fun j ai=>(af.ext ((I j).1 ai).base).cell' F;refine fJ (ops:=(I8 24)) fun Z=> ?_;refine dA 0 (ca) ?_;refine dA 1 (ca) ?_;refine aA 3 ?_;refine dA 4 (dy) ?_;refine aA 5 ?_;refine aA 6 ?_;refine aA 8 ?_;refine dA 9 (fW) ?_;refine aA 10 ?_;refine dA 11 (fR) ?_;refine bD 13 F (oC F 29 _ F F (fun j h=>a9.ext ((I j).1 h).base) dh dm) ?_;refine bD 14 F (oC F 101 _ F F (fun j h=>(cg.ext am).ext ((I j).1 h).base) eP c3) ?_;generalize World.drew a0=fk at Z⊢;refine zo (B:=World.heap a0 |>.size) (A:=19) (d:=21) (T:=34) (vs:=dS.v) (D:=C) _ F aJ (fun _ h=>h) (fun _ h=>((I _).1 h).kept.1) Z ?_;try dsimp only
    refine cO ?_;refine lZ 2 (β:=Unit) (fun _=> .int .i64 S.tm) (fun _ _=>True) F F F F (fun _ _=>rfl) au au au F (fun _ _=>jw) ?phi2 ?step2 ?rest2
    case phi2=>exact fun _ _ _ _ _=>trivial
    case step2=>
     intro x j a5 ab u;have ae:=((I j).1 a5).base;clear Z;go_wp2_with fail;refine(SE p S j ((aa.ext (cI.ext am)).st.ext ae)).mono ?_;rintro a1 w2 ⟨rfl,e2⟩;go_wp2_with fail;exact u () _ e2 trivial
    case rest2=>
    intro _;refine aH ?_;refine nR 7 ?_;refine lZ 12 (β:=Unit) (fun _=> .agg ((kQ (kP az.bI)).map Y).toArray) (fun _ _=>True) F F F F (fun _ _=>rfl) au au au F (fun _ _=>jw) ?phi12 ?step12 ?rest12
    case phi12=>exact fun _ _ _ _ _=>trivial
    case step12=>
     intro x j a5 ab u;clear Z;go_wp2_with fail;refine(tC az.bI j).mono ?_;rintro a1 w2 ⟨rfl,e2⟩;go_wp2_with fail;exact u () _ e2 trivial
    case rest12=>
    intro _;refine aH ?_;refine lZ 15 (β:=aG×Int) (fun x=> .tuple #[.agg x.1.v.toArray,.int .i64 x.2]) (fun x w=>x.1.Ok w/\(∀A,x.1.ba=some A->a0.heap.size<=A.block)/\nN w x.1.ba/\(x.2=0->dN x.1=0)) F F F F (fun _ _=>rfl) au au au F (fun _ _=>jw) ?phi15 ?step15 ?rest15
    case phi15=>exact fun _ _ _ h e=>⟨h.1.ext e,h.2.1,h.2.2.1.ext e,h.2.2.2⟩
    case step15=>
     rintro x j ⟨⟨ac,_⟩,_⟩ ab u;have ae:=((I j).1 ac).base;clear Z;go_wp2_with fail;refine(Fa p S _ _ (kQ (kP az.bI)) bx b j ((aa.ext (cI.ext am)).st.ext ae) (ci.ext (am.ext ae)) (qN _) dl).mono ?_;rintro a1 w2 ⟨r,E,rfl,R,ad,al,a7, -,e2⟩;go_wp2_with fail;exact u (r,E) _ e2 ⟨R,fun A a2=>Nat.le_trans ae.size (ad A a2),al,a7⟩
    case rest15=>
    rintro⟨r,E⟩;try dsimp only
    refine aH ?_;refine nR 16 ?_;refine nR 17 ?_;refine nR 18 ?_;refine wY F F F (fun _ _=>rfl) au (fun _ _=>jw) ?_;rintro bl a8 ⟨bc,R,ad,al,a7⟩ be hb;have ac:C a8:=by obtain⟨⟨ac,_⟩,_⟩:=bc;exact ac
    obtain⟨ap,aq,b2,cJ,a6,a_,dq,b4⟩:=jg hb R ad a7 (aG.len R) ((I a8).1 ac) be (show iC bl r.ba r.bn from .inr (al.ne hb aX));clear hb R ad a7 bc ac be al;refine aZ 20 ?_;intro ab u;go_wp2_with (refine bg F _ _ _ F F F ap cZ dZ (xs:=aG.v r) a6 (i_ r) ?_);intro a3 ba aw;have ar:=bT.upd a_ aw dq bG;have b3:=O (AB aq aw ap b4);have bd:C a3:=(I a3).2 ar;refine u _ _ bd ?_;have b1:=O ba;have dj:=O ar.base;clear u ab aw ba ar a_ ap Z I aJ bP aq;refine aH ?_;refine aZ 21 ?_;intro ab u;go_wp2_with fail;refine u _ _ bd ?_;clear u ab;refine aH ?_;refine dH ?_;go_wp2_with fail;go_meet;exact⟨bl,r,E,F,F,b1,b3,b2,cJ,dj⟩
   case rest=>
   obtain⟨bl,r,E,rfl,rfl,b',R,ad,a7,cb⟩:=hcut;obtain⟨dc,aE⟩:=aC wc;rw[aE]at b' R cb⊢;obtain⟨de,a6,eh⟩:=aW b' (aG.len R) ((cI.ext am).ext cb);have fd:wr.heap.size<=a0.heap.size:=(cI.ext am).size;by_cases cp:E=0
   ·have cq:go<wr.heap.size:=aa.bo.lt;have d':p<wr.heap.size:=aa.st.blk.lt;have fe:∀q,v.ownBlock=some q->q<wr.heap.size:=fun q f7=>(aa.own.lt q f7).2;have cC:=O (UN gj gs go p S v es r w dc (aa.ext eh) R (fun g ag=> .inr fun A a2=>by
     have ai:=ad A a2;rcases ag with ag|ag
     ·have cH:=fe g ag;omega
     ·omega) (fun A a2=>by have:=ad A a2;omega) dp (by have:=cM.out;omega))
    subst cp;clear aE wc b' R ad a7 cb cq d' fe fd;go_wp2_with (refine bV F 34 _ F F de cZ a6 ?_);refine cC.mono ?_;rintro b8 gz ⟨fN,v2,rfl,cf, -, -⟩;have fw:=O cf;clear cf cC;go_wp2_with fail;go_roundw
    case rel=>
     refine⟨k+1,fN,v2,_,J,by go_num,fw,?_,?_⟩
     ·split
      ·simp
      ·exact dr
     ·have:=cM.out;split
      ·rw[length_append,length_singleton];omega
      ·omega
    case measure=>simp[intOf];omega
   ·have fY:decide (E=0)=false:=aP cp;have f0:(E==0)=false:=by simp;exact cp
    have ft:=O (aa.ext eh);clear aE wc b' R ad a7 cb fd;go_wp2_with fail;go_roundw
    case rel=>exact⟨k+1,S,v,es,J,by go_num,ft,dr,by have:=cM.out;omega⟩
    case measure=>simp[intOf];omega
  ·have d0:decide ((k:Int)<(m:Int))=false:=aP J;have d1:decide (k<m)=false:=aP e7;go_upto_region 28 with fail;obtain⟨C,I,aJ⟩:=jJ wr;have bP:C wr:=(I _).2 (X.refl _);have fS:∀j,C j->j.cell? ⟨go,0,none⟩=some v:=fun j ai=>(aa.bo.ext ((I j).1 ai)).cell' F;have dC:∀j,C j->j.cell? ⟨gs,0,none⟩=some (.pointer (some ⟨p,0,none⟩)):=fun j ai=>(aa.bs.ext ((I j).1 ai)).cell' F;refine fJ (ops:=(I8 28)) fun Z=> ?_;refine dA 0 (fS) ?_;refine dA 1 (dC) ?_;refine aA 2 ?_;refine aA 3 ?_;refine dH ?_;have cL:=O (aa.ext ((I _).1 Z));go_wp2_with fail
   (try go_ret)
   rw[<-fz.out];exact⟨_,_,es,S.p,F,⟨cL.own,cL.ok,fun e f3 g ag=>cL.eo e f3 g (.inl ag)⟩,cL.ch,dr,by have:=cM.out;omega,cL.ex⟩
end Go.Proofs.YtjlhhnkhcbpnjaaGreatDoor
