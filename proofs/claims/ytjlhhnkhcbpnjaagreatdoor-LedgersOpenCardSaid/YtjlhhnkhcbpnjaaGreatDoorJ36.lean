/- Laws that the row leans on; no condition. -/
import Derived.Test.YtjlhhnkhcbpnjaaGreatDoorJ33
import Derived.Test.YtjlhhnkhcbpnjaaGreatDoorJ35
namespace Go.Proofs.YtjlhhnkhcbpnjaaGreatDoor
open Go Go.RowKit List Tryz
set_option linter.unusedVariables false
set_option linter.unusedSectionVars false
set_option linter.unusedSimpArgs false
set_option maxHeartbeats 40000000
set_option maxRecDepth 100000
def qQ(l:List jD):aO:=l.flatMap jD.v
theorem UQ{l:List jD}{k:Nat}{a:jD}(hk:l[k]? =some a):((qQ l).drop (k*6)).take 6=a.v:=by
 induction l generalizing k with
 |nil=>simp at hk
 |cons x l u=>
  have j:(qQ (x::l))=x.v++qQ l:=by unfold qQ;rw[flatMap_cons]
  cases k with
  |zero=>
   have e:x=a:=by simpa using hk
   subst e;rw[j,Nat.zero_mul,drop_zero];exact take_left' (l₁:=x.v) F
  |succ k=>
   rw[j,Nat.succ_mul,Nat.add_comm,<-drop_drop,show(x.v++qQ l).drop 6=qQ l from drop_left' (l₁:=x.v) F];exact u (by simpa using hk)
theorem UR(l:List jD):(qQ l).length=6*l.length:=by
 induction l with
 |nil=>rfl
 |cons x l u=>
  have j:(qQ (x::l))=x.v++qQ l:=by unfold qQ;rw[flatMap_cons]
  rw[j,length_append,u,length_cons];show 6+_=_;omega
theorem UU{w:World}{a:aN}{l:List jD}(h:aK w a (qQ l)){k:Nat}{x:jD}(hk:l[k]? =some x):∃A,a=some A/\dP w (A.add (k*6)) x.v:=by
 have R:=(List.getElem?_eq_some_iff.1 hk).1;obtain⟨b,o,rfl,hc⟩:=h.gQ (by rw[UR];omega);refine⟨_,F,fun j u E=> ?_⟩;rw[dn,dn,Nat.add_assoc];refine hc _ _ ?_;rw[<-UQ hk]at E;have I:j<6:=by
  have:=(List.getElem?_eq_some_iff.1 E).1;rw[length_take]at this;omega
 rw[List.getElem?_take_of_lt I,List.getElem?_drop]at E;exact E
theorem Nv:(prog.info? 103).map (·.size)=some 6:=au
theorem Nw{w:World}{g:Nat}(h:aK w (some ⟨g,0,none⟩) (qP.map bM)):(nO g).Ok w:=
 ⟨(show(0:Nat)<=140737488355328 from Nat.zero_le _),qN 0,F,F,Nat.le_refl _,(show(2:Nat)<=140737488355328 by omega),h,(show∀s∈qP,s.size<=140737488355328 by decide),(show(0:Nat)<=140737488355328 from Nat.zero_le _),F,Nat.le_refl _,(show(0:Nat)<=140737488355328 from Nat.zero_le _),fun _ j=>(by cases j),.inl F⟩
theorem AB{w w':World}{g:Nat}{e:aG}{vs:aO}(h:e.Ok w)(u:aU w g w')(hb:ah w g vs 34)(E:iC g e.ba e.bn):e.Ok w':=
 h.row (r:=some g) (fun q j=>by injection j with j;exact j▸E) (qC u)
noncomputable def I8(n:Nat):Array Oper:=xZ f8 n
def UW(w:World)(x:Ending)(w':World):Prop:=
 ∃(v u:Value) (es:List aG) (S:dw),x= .returned (.tuple #[v,u])/\mW w' w.heap.size v es/\o_ es S/\es≠[]/\es.length<=41/\X w w'
theorem ad2(l:List jD)(a:aN)(n c:Nat)(w:World)(ez:l.length=n)(fT:n<=c)(et:aK w a (qQ l))(ew:mJ w):
 Calls prog 8 #[.slice a n c,.bool false] w (UW w):=by
 obtain⟨d6,d',c6⟩:=aW et ez ew;obtain⟨fI,dp⟩:=aC (UW w);rw[dp];have e_:=O dp;clear et ez ew dp;go_enter func8,ntmps8;go_upto_region 1 with fail;generalize dt:World.alloc w _=du;have bj:ah du w.heap.size [.bool false] 4:=by rw[<-dt];exact ah.aI F F
 have aE:X w du:=by rw[<-dt];exact(X.refl w).alloc _
 obtain⟨cY,c0⟩:=aB bj aE;clear dt bj aE;obtain⟨gj,cS⟩:=aC w.heap.size;have fy:=O cS;rw[cS]at cY
 conv=>rw[cS]
 clear cS;go_wp2_with fail;refine(aal du).mono ?_;rintro bE j ⟨p,S,rfl,eK,eJ,ae,ek,eI⟩;obtain⟨c9,br,ea,e9,c1,dy,ec⟩:=su eK eJ ek eI (c0.ext ae) (cY.ext ae) (c0.size);clear eK eJ ae ek eI cY c0;go_upto_region 4 with fail;generalize cT:World.alloc (World.alloc j _) _=ao;have bs:ah ao j.heap.size [.pointer (some ⟨p,0,none⟩)] 25:=by rw[<-cT];exact(ah.aI F F).alloc _
 have bo:ah ao (j.heap.size+1) [.slice none 0 0] 24:=by rw[<-cT];exact ah.aI (gU _ _).symm rfl
 have e2:X j ao:=by rw[<-cT];exact((X.refl j).alloc _).alloc _
 have fo:w.heap.size<=j.heap.size:=c1.size;have aa:=O (show wU w ao gj j.heap.size (j.heap.size+1) p S (.slice none 0 0) []from
  {
   st:=c9.ext e2,bj:=dy.ext e2,bs:=bs,bo:=bo,own:=⟨F,.inl ⟨F,F⟩⟩,
   off:=fun g ag=>by
    rcases ag with ag|ag
    ·cases ag
    ·exact c9.H_ J
   ok:=fun _ h=>by cases h
   eo:=fun _ h=>by cases h
   ep:=fun _ h=>by cases h
   ch:=by rw[br.out];exact o_.nil
   ex:=c1.ext e2,hi:=fun g ag=>Nat.le_trans ec (ea g ag),go0:=by omega})
 clear cT bs bo e2 fo c9 ea e9 c1 dy ec;obtain⟨gs,dr⟩:=aC j.heap.size;rw[dr]at aa
 conv=>rw[dr]
 obtain⟨go,ca⟩:=aC (gs+1);rw[ca]at aa
 conv=>rw[ca]
 clear dr ca;go_cut [9] (fun fs wx=>∃bc r,fs= .pointer (some ⟨bc,0,none⟩)/\ao.heap.size<=bc/\ah wx bc (aG.v r) 34/\r.Ok wx/\(∀A,r.ba=some A->ao.heap.size<=A.block)/\S.p.ref r=0/\X ao wx)
 case first=>
  as_aux_lemma=>
  obtain⟨C,I,aJ,bP⟩:=iw (show bT ao ao [] [] ao from bT.jA (X.refl _) (dV.none _));have bO:∀j,C j->j.cell? ⟨gs,0,none⟩=some (.pointer (some ⟨p,0,none⟩)):=fun j ai=>(aa.bs.ext ((I j).1 ai).base).cell' F;refine fJ (ops:=(I8 4)) fun Z=> ?_;refine dA 0 (bO) ?_;refine aA 2 ?_;generalize World.drew ao=eT at Z⊢;refine zo (B:=World.heap ao |>.size) (A:=10) (d:=9) (T:=34) (vs:=dS.v) (D:=C) undef F aJ (fun _ h=>h) (fun _ h=>((I _).1 h).kept.1) Z ?_;try dsimp only
  refine cO ?_;refine UO 1 4 (βi:=Unit) (βj:=Nat) (fun _=> .agg ((kQ 0).map Y).toArray) (fun g=> .slice (some ⟨g,0,none⟩) 2 2) (fun _ _=>True) (fun g w=>ao.heap.size<=g/\ah w g (qP.map bM) 9) F F F F F (fun _ _=>rfl) au au au au F F (fun _ _=>jw) (fun _ _ _ _ _=>trivial) (fun _ _ _ h e=>⟨h.1,h.2.ext e⟩) ?sa1 ?sb1 ?ra1 ?rb1
  case sa1=>
   intro x j a0 ab u;clear Z;go_wp2_with fail;refine(tC 0 j).mono ?_;rintro aE w2 ⟨rfl,e2⟩;rw[E_];go_wp2_with fail;exact u () _ e2 trivial
  case sb1=>
   intro x j a0 ab u;have bA:=((I j).1 (a0)).kept.1;clear Z;go_wp2_with fail;exact u j.heap.size _ ((X.refl _).alloc _) ⟨bA,ah.aI (vs:=qP.map bM) F F⟩
  case ra1=>
   intro _;try dsimp only
   refine aH ?_;refine UO 3 4 (βi:=Unit) (βj:=Nat) (fun _=> .agg ((kQ 0).map Y).toArray) (fun g=> .slice (some ⟨g,0,none⟩) 2 2) (fun _ _=>True) (fun g w=>ao.heap.size<=g/\ah w g (qP.map bM) 9) F F F F F (fun _ _=>rfl) au au au au F F (fun _ _=>jw) (fun _ _ _ _ _=>trivial) (fun _ _ _ h e=>⟨h.1,h.2.ext e⟩) ?sa2 ?sb2 ?ra2 ?rb2
   case sa2=>
    intro x j a0 ab u;clear Z;go_wp2_with fail;refine(tC 0 j).mono ?_;rintro aE w2 ⟨rfl,e2⟩;rw[E_];go_wp2_with fail;exact u () _ e2 trivial
   case sb2=>
    intro x j a0 ab u;have bA:=((I j).1 (a0.1)).kept.1;clear Z;go_wp2_with fail;exact u j.heap.size _ ((X.refl _).alloc _) ⟨bA,ah.aI (vs:=qP.map bM) F F⟩
   case ra2=>
    intro _;try dsimp only
    refine aH ?_;refine lZ 4 (β:=Nat) (fun g=> .slice (some ⟨g,0,none⟩) 2 2) (fun g w=>ao.heap.size<=g/\ah w g (qP.map bM) 9) F F F F (fun _ _=>rfl) au au au F (fun _ _=>jw) ?phi4 ?step4 ?rest4
    case phi4=>exact fun _ _ _ h e=>⟨h.1,h.2.ext e⟩
    case step4=>
     intro x j a0 ab u;have bA:=((I j).1 (a0.1.1)).kept.1;clear Z;go_wp2_with fail;exact u j.heap.size _ ((X.refl _).alloc _) ⟨bA,ah.aI (vs:=qP.map bM) F F⟩
    case rest4=>
    intro an;try dsimp only
    refine aH ?_;refine AY 5 F (fun _=>bf F (fun j _=>Nu (x:=kQ 0) (sa:=some ⟨an,0,none⟩) (sn:=2) (sc:=2) (l:=qP) F F F (qN 0) j)) ?_;refine lZ 6 (β:=aG) (fun r=> .tuple #[.agg r.v.toArray,.int .i64 0]) (fun r w=>r.Ok w/\(∀A,r.ba=some A->ao.heap.size<=A.block)/\nN w r.ba/\S.p.ref r=0) F F F F (fun _ _=>rfl) au au au F (fun _ _=>jw) ?phi6 ?step6 ?rest6
    case phi6=>exact fun _ _ _ h e=>⟨h.1.ext e,h.2.1,h.2.2.1.ext e,h.2.2.2⟩
    case step6=>
     rintro x j ⟨⟨⟨ac,_⟩,_⟩,ag⟩ ab u;have ae:=((I j).1 ac).base;have cF:aK j (some ⟨an,0,none⟩) (qP.map bM):=aK.eG ag.2;clear Z;go_wp2_with fail;refine(Fa p S 1000 2 (kQ 0) fO (nO an) j (aa.st.ext ae) (Nw cF) (qN 0) F).mono ?_;rintro aE w2 ⟨r,E,rfl,R,ad,al, -,cH,e2⟩;have b0:(S.cnt:Int)=0:=by have:=congrArg dw.cnt br;show((S.p.cnt:Nat):Int)=0;rw[this];rfl
     have cI:S.last=kN:=congrArg dw.last br;obtain⟨ai,cq,cA,cB,cC,cD,cE,bt⟩:=cH (IZ an) (fun e ce cf cg ci=>(I4 (g:=an) (ce.trans b0) cf cg ci).1);subst ai;go_wp2_with fail;refine u r _ e2 ⟨R,fun A aL=>Nat.le_trans ae.size (ad A aL),al,?_⟩;rw[br.out];exact Np (g:=an) (cq.trans b0) cA cB cC cD (cE.trans cI) bt
    case rest6=>
    intro r;try dsimp only
    refine aH ?_;refine nR 7 ?_;refine nR 8 ?_;refine nR 9 ?_;refine wY F F F (fun _ _=>rfl) au (fun _ _=>jw) ?_;rintro bc a3 ⟨a7,R,ad,al,bi⟩ a9 hb;have ac:C a3:=by obtain⟨⟨⟨ac,_⟩,_⟩,ag⟩:=a7;exact ac
    obtain⟨ap,aq,bv,cm,a1,a5,bl,bx⟩:=jg hb R ad bi (aG.len R) ((I a3).1 ac) a9 (show iC bc r.ba r.bn from .inr (al.ne hb aX));clear hb R ad bi a7 ac a9 al;refine aZ 11 ?_;intro ab u;go_wp2_with (refine bg F _ _ _ F F F ap cZ dZ (xs:=aG.v r) a1 (i_ r) ?_);intro aM a6 av;have ar:=bT.upd a5 av bl bG;have bw:=O (AB aq av ap bx);have a8:C aM:=(I aM).2 ar;refine u _ _ a8 ?_;have bu:=O a6;have bk:=O ar.base;clear u ab av a6 ar a5 ap Z I aJ bP aq;refine aH ?_;refine aZ 12 ?_;intro ab u;go_wp2_with fail;refine u _ _ a8 ?_;clear u ab;refine aH ?_;refine dH ?_;go_wp2_with fail;go_meet;exact⟨bc,r,F,bl,bu,bw,bv,cm,bk⟩
   case rb2=>
    intro an;try dsimp only
    refine aH ?_;refine lZ 3 (β:=Unit) (fun _=> .agg ((kQ 0).map Y).toArray) (fun _ _=>True) F F F F (fun _ _=>rfl) au au au F (fun _ _=>jw) ?phi3 ?step3 ?rest3
    case phi3=>exact fun _ _ _ _ _=>trivial
    case step3=>
     intro x j a0 ab u;clear Z;go_wp2_with fail;refine(tC 0 j).mono ?_;rintro aE w2 ⟨rfl,e2⟩;rw[E_];go_wp2_with fail;exact u () _ e2 trivial
    case rest3=>
    intro _;try dsimp only
    refine aH ?_;refine AY 5 F (fun _=>bf F (fun j _=>Nu (x:=kQ 0) (sa:=some ⟨an,0,none⟩) (sn:=2) (sc:=2) (l:=qP) F F F (qN 0) j)) ?_;refine lZ 6 (β:=aG) (fun r=> .tuple #[.agg r.v.toArray,.int .i64 0]) (fun r w=>r.Ok w/\(∀A,r.ba=some A->ao.heap.size<=A.block)/\nN w r.ba/\S.p.ref r=0) F F F F (fun _ _=>rfl) au au au F (fun _ _=>jw) ?phi6 ?step6 ?rest6
    case phi6=>exact fun _ _ _ h e=>⟨h.1.ext e,h.2.1,h.2.2.1.ext e,h.2.2.2⟩
    case step6=>
     rintro x j ⟨⟨⟨ac,_⟩,ag⟩,_⟩ ab u;have ae:=((I j).1 ac).base;have cF:aK j (some ⟨an,0,none⟩) (qP.map bM):=aK.eG ag.2;clear Z;go_wp2_with fail;refine(Fa p S 1000 2 (kQ 0) fO (nO an) j (aa.st.ext ae) (Nw cF) (qN 0) F).mono ?_;rintro aE w2 ⟨r,E,rfl,R,ad,al, -,cH,e2⟩;have b0:(S.cnt:Int)=0:=by have:=congrArg dw.cnt br;show((S.p.cnt:Nat):Int)=0;rw[this];rfl
     have cI:S.last=kN:=congrArg dw.last br;obtain⟨ai,cq,cA,cB,cC,cD,cE,bt⟩:=cH (IZ an) (fun e ce cf cg ci=>(I4 (g:=an) (ce.trans b0) cf cg ci).1);subst ai;go_wp2_with fail;refine u r _ e2 ⟨R,fun A aL=>Nat.le_trans ae.size (ad A aL),al,?_⟩;rw[br.out];exact Np (g:=an) (cq.trans b0) cA cB cC cD (cE.trans cI) bt
    case rest6=>
    intro r;try dsimp only
    refine aH ?_;refine nR 7 ?_;refine nR 8 ?_;refine nR 9 ?_;refine wY F F F (fun _ _=>rfl) au (fun _ _=>jw) ?_;rintro bc a3 ⟨a7,R,ad,al,bi⟩ a9 hb;have ac:C a3:=by obtain⟨⟨⟨ac,_⟩,ag⟩,_⟩:=a7;exact ac
    obtain⟨ap,aq,bv,cm,a1,a5,bl,bx⟩:=jg hb R ad bi (aG.len R) ((I a3).1 ac) a9 (show iC bc r.ba r.bn from .inr (al.ne hb aX));clear hb R ad bi a7 ac a9 al;refine aZ 11 ?_;intro ab u;go_wp2_with (refine bg F _ _ _ F F F ap cZ dZ (xs:=aG.v r) a1 (i_ r) ?_);intro aM a6 av;have ar:=bT.upd a5 av bl bG;have bw:=O (AB aq av ap bx);have a8:C aM:=(I aM).2 ar;refine u _ _ a8 ?_;have bu:=O a6;have bk:=O ar.base;clear u ab av a6 ar a5 ap Z I aJ bP aq;refine aH ?_;refine aZ 12 ?_;intro ab u;go_wp2_with fail;refine u _ _ a8 ?_;clear u ab;refine aH ?_;refine dH ?_;go_wp2_with fail;go_meet;exact⟨bc,r,F,bl,bu,bw,bv,cm,bk⟩
  case rb1=>
   intro an;try dsimp only
   refine aH ?_;refine lZ 1 (β:=Unit) (fun _=> .agg ((kQ 0).map Y).toArray) (fun _ _=>True) F F F F (fun _ _=>rfl) au au au F (fun _ _=>jw) ?phi1 ?step1 ?rest1
   case phi1=>exact fun _ _ _ _ _=>trivial
   case step1=>
    intro x j a0 ab u;clear Z;go_wp2_with fail;refine(tC 0 j).mono ?_;rintro aE w2 ⟨rfl,e2⟩;rw[E_];go_wp2_with fail;exact u () _ e2 trivial
   case rest1=>
   intro _;try dsimp only
   refine aH ?_;refine lZ 3 (β:=Unit) (fun _=> .agg ((kQ 0).map Y).toArray) (fun _ _=>True) F F F F (fun _ _=>rfl) au au au F (fun _ _=>jw) ?phi3 ?step3 ?rest3
   case phi3=>exact fun _ _ _ _ _=>trivial
   case step3=>
    intro x j a0 ab u;clear Z;go_wp2_with fail;refine(tC 0 j).mono ?_;rintro aE w2 ⟨rfl,e2⟩;rw[E_];go_wp2_with fail;exact u () _ e2 trivial
   case rest3=>
   intro _;try dsimp only
   refine aH ?_;refine AY 5 F (fun _=>bf F (fun j _=>Nu (x:=kQ 0) (sa:=some ⟨an,0,none⟩) (sn:=2) (sc:=2) (l:=qP) F F F (qN 0) j)) ?_;refine lZ 6 (β:=aG) (fun r=> .tuple #[.agg r.v.toArray,.int .i64 0]) (fun r w=>r.Ok w/\(∀A,r.ba=some A->ao.heap.size<=A.block)/\nN w r.ba/\S.p.ref r=0) F F F F (fun _ _=>rfl) au au au F (fun _ _=>jw) ?phi6 ?step6 ?rest6
   case phi6=>exact fun _ _ _ h e=>⟨h.1.ext e,h.2.1,h.2.2.1.ext e,h.2.2.2⟩
   case step6=>
    rintro x j ⟨⟨⟨ac,ag⟩,_⟩,_⟩ ab u;have ae:=((I j).1 ac).base;have cF:aK j (some ⟨an,0,none⟩) (qP.map bM):=aK.eG ag.2;clear Z;go_wp2_with fail;refine(Fa p S 1000 2 (kQ 0) fO (nO an) j (aa.st.ext ae) (Nw cF) (qN 0) F).mono ?_;rintro aE w2 ⟨r,E,rfl,R,ad,al, -,cH,e2⟩;have b0:(S.cnt:Int)=0:=by have:=congrArg dw.cnt br;show((S.p.cnt:Nat):Int)=0;rw[this];rfl
    have cI:S.last=kN:=congrArg dw.last br;obtain⟨ai,cq,cA,cB,cC,cD,cE,bt⟩:=cH (IZ an) (fun e ce cf cg ci=>(I4 (g:=an) (ce.trans b0) cf cg ci).1);subst ai;go_wp2_with fail;refine u r _ e2 ⟨R,fun A aL=>Nat.le_trans ae.size (ad A aL),al,?_⟩;rw[br.out];exact Np (g:=an) (cq.trans b0) cA cB cC cD (cE.trans cI) bt
   case rest6=>
   intro r;try dsimp only
   refine aH ?_;refine nR 7 ?_;refine nR 8 ?_;refine nR 9 ?_;refine wY F F F (fun _ _=>rfl) au (fun _ _=>jw) ?_;rintro bc a3 ⟨a7,R,ad,al,bi⟩ a9 hb;have ac:C a3:=by obtain⟨⟨⟨ac,ag⟩,_⟩,_⟩:=a7;exact ac
   obtain⟨ap,aq,bv,cm,a1,a5,bl,bx⟩:=jg hb R ad bi (aG.len R) ((I a3).1 ac) a9 (show iC bc r.ba r.bn from .inr (al.ne hb aX));clear hb R ad bi a7 ac a9 al;refine aZ 11 ?_;intro ab u;go_wp2_with (refine bg F _ _ _ F F F ap cZ dZ (xs:=aG.v r) a1 (i_ r) ?_);intro aM a6 av;have ar:=bT.upd a5 av bl bG;have bw:=O (AB aq av ap bx);have a8:C aM:=(I aM).2 ar;refine u _ _ a8 ?_;have bu:=O a6;have bk:=O ar.base;clear u ab av a6 ar a5 ap Z I aJ bP aq;refine aH ?_;refine aZ 12 ?_;intro ab u;go_wp2_with fail;refine u _ _ a8 ?_;clear u ab;refine aH ?_;refine dH ?_;go_wp2_with fail;go_meet;exact⟨bc,r,F,bl,bu,bw,bv,cm,bk⟩
 case rest=>
 obtain⟨bc,r,rfl,fm,da,R,ad,bi,e2⟩:=hcut;obtain⟨w2,az⟩:=aC wc;rw[az]at da R e2⊢;obtain⟨e3,a1,cm⟩:=aW da (aG.len R) bi;have ca:go<ao.heap.size:=aa.bo.lt;have ds:p<ao.heap.size:=aa.st.blk.lt;have cl:=O (UN gj gs go p S (.slice none 0 0) [] r w w2 (aa.ext e2) R (fun g ag=> .inr fun A aL=>by
  rcases ag with ag|ag
  ·cases ag
  ·have:=ad A aL;omega) (fun A aL=>by have:=ad A aL;omega) c6 aF)
 rw[if_pos bi]at cl;have eD:min (n:Int) 40=((min n 40:Nat):Int):=J;have eC:min n 40<=c:=J;obtain⟨m,eB⟩:=aC (min n 40);have fS:m<=40/\m<=n:=J;rw[eB]at eD eC;have fR:min (n:Int) 40=(m:Int):=eD;clear az wc da R ad bi e2 ca ds fm eB;go_wp2_with (refine bV F 34 _ F F e3 cZ a1 ?_);refine cl.mono ?_;rintro bE a3 ⟨e',ft,rfl,b1, -, -⟩;have d9:=O b1;clear b1 cl aa;go_wp2_with (refine bF F (zB (k:=m) F F F underlying22 Nv eC _) ?_);go_loopw [45] (fun i wr=>∃(k:Nat) (S:aV) (v:Value) (es:List aG),k<=m/\i= .int .i64 (k:Int)/\wU w wr gj gs go p S v es/\es≠[]/\es.length<=k+1) (fun i _=>m - (intOf i).toNat)
 case atStart=>exact⟨0,e',ft,[]++[r],J,F,d9,aF,aF⟩
 case round=>
  obtain⟨k,S,v,es,hk,rfl,b1,eE,ey⟩:=hrel;obtain⟨aa,c8,cv⟩:=aW b1 eE ey;clear b1 eE ey d9;by_cases eA:k<m
  ·obtain⟨ax,el⟩:∃x,l[k]? =some x:=⟨l[k]'(by rw[d'.out];omega),aF⟩;obtain⟨A,rfl,er⟩:=UU (d6.ext aa.ex) el;obtain⟨d4,eb,bl⟩:=aW er (aa.ch.szP (by have:=cv.out;omega)) (c6.ext aa.ex);clear el er;go_upto_region 10 with(first|(refine bF F (fP (i:=k) F F F underlying22 Nv eA _) ?_)|(refine bF F (bQ F F d4 C_ (by rfl)) ?_)|(refine bg F _ (.tmp 12) _ F F F (ah.aI (vs:=(⟨0,0,0,0,0,0⟩:jD).v) F F) C_ (by rfl) (xs:=jD.v ax) (by rfl) (Uf ax) ?_));intro aM cn eN;obtain⟨af,bk,dT⟩:=aW cn (show X wr aM from eN.ext ((X.refl _).alloc _) bG) (show wr.heap.size<=wr.heap.size from Nat.le_refl _);clear cn eN d4;generalize ev:wr.heap.size=bS at af⊢;rw[ev]at dT;have fx:=O (show wr.heap.size<=bS by omega);clear ev dT;have de:=(aa.ext bk).bs.cell' (i:=0) F;go_wp2_with (refine bV F 103 _ F F af C_ (by rfl) ?_);refine(UM p S ax aM (aa.ext bk).st (bl.ext bk) eb).mono ?_;rintro bE cU ⟨b,rfl,bX,dj⟩;obtain⟨b3,cK,af,c3⟩:=bU bX (ay.len bX) (af.ext dj) (bk.ext dj);clear bX dj de bk;go_upto_region 11 with(refine bg F _ (.tmp 13) _ F F F (ah.aI (vs:=dI.v) F F) eP fM (xs:=b.v) cK (lD b) ?_);intro cj co eO;have cz:X cU cj:=eO.ext ((X.refl _).alloc _) bG;have b2:=O co;have d3:=b3.out;obtain⟨eg,b3,cL,d7,af,d8,aR⟩:=su cz (b3.ext cz) d3 (show bS<cU.heap.size from af.lt) (af.ext cz) (c3.size) (c3.ext cz);clear co eO cz c3 d3;generalize fk:cU.heap.size=dl at b2 d7 d8⊢;have ed:=O (show cU.heap.size<=dl by omega);clear fk;have b9:=af.cell' (i:=1) F;go_upto_region 11 with fail;go_cut [62] (fun v wx=>∃bb:Bool,v= .bool bb/\(bb=true->k+1<m)/\cj=wx)
   case first=>
    by_cases bt:ax.act=8
    ·by_cases dm:k+1<m
     ·have dg:decide ((k:Int)+1<(m:Int))=true:=aQ J;have di:decide (k+1<m)=true:=aQ dm;have fe:IntKind.i64.wrap ((k:Int)+1)=(k:Int)+1:=IntWalk.i64_in _ J;rw[bt]at b9;go_wp2_with fail;go_meet;exact⟨_,F,fun _=>dm,F⟩
     ·have dg:decide ((k:Int)+1<(m:Int))=false:=aP J;have di:decide (k+1<m)=false:=aP dm;have fe:IntKind.i64.wrap ((k:Int)+1)=(k:Int)+1:=IntWalk.i64_in _ J;rw[bt]at b9;go_wp2_with fail;go_meet;exact⟨_,F,fun h=>by simp at h,F⟩
    ·have dg:decide (ax.act=8)=false:=aP bt;have di:(ax.act==8)=false:=by simp;exact bt
     go_wp2_with fail;go_meet;exact⟨_,F,fun h=>by simp at h,F⟩
   case rest=>
   obtain⟨bb,rfl,en,rfl⟩:=hcut;have e4:=O en;clear en b9;go_upto_if 62 with fail;go_cut [] (fun wx=>∃b:ay,ah wx dl b.v 101/\b.Ok wx/\ah wx bS (jD.v ax) 103/\X wr wx)
   case first=>
    cases bb with
    |false=>
     go_wp2_with fail;go_meet;exact⟨b,b2,b3,af,aR⟩
    |true=>
     have fN:=e4.out F;obtain⟨a_,em⟩:∃x,l[k+1]? =some x:=⟨l[k+1]'(by rw[d'.out];omega),aF⟩;obtain⟨fw,cQ,dq⟩:=UU (d6.ext (aa.ex.ext aR)) em;injection cQ with cQ;rw[<-cQ]at dq;have d5:=O dq;clear em dq cQ;go_upto_region 13 with(first|(refine bF F (fP (i:=k+1) F F F underlying22 Nv J _) ?_)|(refine bF F (bQ F F d5 C_ (by rfl)) ?_)|(refine bg F _ (.tmp 14) _ F F F (ah.aI (vs:=(⟨0,0,0,0,0,0⟩:jD).v) F F) C_ (by rfl) (xs:=jD.v a_) (by rfl) (Uf a_) ?_));intro eS eh eQ;obtain⟨aw,am,fz⟩:=aW eh (show X cj eS from eQ.ext ((X.refl _).alloc _) bG) (show dl<cj.heap.size from b2.lt);clear eh eQ d5;generalize fl:cj.heap.size=cP at aw⊢;clear fl;have db:=aw.cell' (i:=3) F;go_wp2_with fail;refine(MG a_.key eS).mono ?_;rintro bE bL ⟨rfl,bm⟩;have b4:=O (MF (kP a_.key));generalize CY (kP a_.key)=cd at*;obtain⟨b5,aw,b7⟩:=aW (show(cd.map Y).length=16 by rw[length_map];exact b4) (aw.ext bm) (am.ext bm);have cw:=O (show cP<bL.heap.size from aw.lt);clear bm db am;go_upto_region 14 with(refine bg F _ (.tmp 15) _ F F F (ah.aI (vs:=fO.map Y) F F) dh (by rfl) b5 (b_ cd) ?_);intro be ba cJ;have bp:X bL be:=cJ.ext ((X.refl _).alloc _) bG;obtain⟨a4,aw,cy,cx⟩:=bU ba (aw.ext bp) (b7.ext bp) (show(cj).heap.size<=bL.heap.size from b7.size);clear ba cJ bp b7;generalize bL.heap.size=fh at*;have b9:=aw.cell' (i:=1) F;go_upto_region 14 with fail;go_wp2_with (refine bF F (by exact kT F F (ah.cell' (i:=1) (aw.alloc _) F) BR) ?_);generalize cc:World.alloc be _=ck;have cG:aK ck (some ⟨be.heap.size,0,none⟩) (([4,5,6,7,9,10]:List Int).map lN):=by rw[<-cc];exact aK.eG (ah.aI F F)
     have bz:X be ck:=by rw[<-cc];exact(X.refl be).alloc _
     obtain⟨a4,aw,b6⟩:=aW (a4.ext bz) (aw.ext bz) (cy.ext bz);clear cc bz cy b9;generalize be.heap.size=gi at*;refine(Es a_.act [4,5,6,7,9,10] (some ⟨gi,0,none⟩) 6 6 ck F J cG).mono ?_;rintro bE fu ⟨df,rfl, -,rfl⟩;clear cG;go_upto_if 75 with fail;go_cut [] (fun wx=>∃bq:aj,bq.length=16/\ah wx fh (bq.map Y) 29/\ah wx cP (jD.v a_) 103/\X (cj) wx)
     case first=>
      cases df with
      |true=>
       go_wp2_with fail;go_meet;exact⟨cd,b4,a4,aw,b6⟩
      |false=>
       go_wp2_with (refine bg F _ _ _ F F F a4 dh b5 (xs:=fO.map Y) (by rfl) (b_ fO) ?_);intro fv cp bB;go_wp2_with fail;go_meet;exact⟨fO,F,cp,aw.upd bB (by have:=cw.out;omega),bB.ext b6 cx⟩
     case rest=>
     obtain⟨bq,cb,ba,b8,hx⟩:=hcut;obtain⟨aD,az⟩:=aC wc;rw[az]at ba b8 hx⊢;obtain⟨c4,c5,a4,aw,am⟩:=dM cb (show(bq.map Y).length=16 by rw[length_map];exact cb) ba b8 hx;clear az wc cb ba b8 hx b6 b4 b5 cw cx;go_upto_region 16 with fail;go_cut [16,17] (fun dv ve wx=>∃bd r E,dv= .pointer (some ⟨bd,0,none⟩)/\ve= .int .i64 E/\ah wx bd (aG.v r) 34/\r.Ok wx/\(∀A,r.ba=some A->aD.heap.size<=A.block)/\(E=0->dN r=0)/\X aD wx)
     case first=>
      as_aux_lemma=>
      obtain⟨C,I,aJ,bP⟩:=iw (show bT aD aD [] [] aD from bT.jA (X.refl _) (dV.none _));have bO:∀j,C j->j.cell? ⟨gs,0,none⟩=some (.pointer (some ⟨p,0,none⟩)):=fun j ai=>((aa.ext (aR.ext am)).bs.ext ((I j).1 ai).base).cell' F;have dc:∀j,C j->j.cell? ⟨cP,1,none⟩=some (.int .i64 a_.act):=fun j ai=>(aw.ext ((I j).1 ai).base).cell' F;have dd:∀j,C j->j.cell? ⟨cP,2,none⟩=some (.int .i64 a_.bI):=fun j ai=>(aw.ext ((I j).1 ai).base).cell' F;refine fJ (ops:=(I8 16)) fun Z=> ?_;refine dA 0 (bO) ?_;refine dA 1 (bO) ?_;refine aA 3 ?_;refine dA 4 (dc) ?_;refine aA 5 ?_;refine dA 6 (dd) ?_;refine bD 8 F (oC F 29 _ F F (fun j h=>a4.ext ((I j).1 h).base) dh c5) ?_;refine dA 9 (bO) ?_;refine bD 10 F (oC F 103 _ F F (fun j h=>aw.ext ((I j).1 h).base) C_ (by rfl)) ?_;generalize World.drew aD=eT at Z⊢;refine zo (B:=World.heap aD |>.size) (A:=16) (d:=16) (T:=34) (vs:=dS.v) (D:=C) _ F aJ (fun _ h=>h) (fun _ h=>((I _).1 h).kept.1) Z ?_;try dsimp only
      refine cO ?_;refine lZ 2 (β:=Unit) (fun _=> .int .i64 S.tm) (fun _ _=>True) F F F F (fun _ _=>rfl) au au au F (fun _ _=>jw) ?phi2 ?step2 ?rest2
      case phi2=>exact fun _ _ _ _ _=>trivial
      case step2=>
       intro x j a0 ab u;have ae:=((I j).1 a0).base;clear Z;go_wp2_with fail;refine(SE p S j ((aa.ext (aR.ext am)).st.ext ae)).mono ?_;rintro aE w2 ⟨rfl,e2⟩;go_wp2_with fail;exact u () _ e2 trivial
      case rest2=>
      intro _;refine aH ?_;refine lZ 7 (β:=Unit) (fun _=> .agg ((kQ (kP a_.bI)).map Y).toArray) (fun _ _=>True) F F F F (fun _ _=>rfl) au au au F (fun _ _=>jw) ?phi7 ?step7 ?rest7
      case phi7=>exact fun _ _ _ _ _=>trivial
      case step7=>
       intro x j a0 ab u;clear Z;go_wp2_with fail;refine(tC a_.bI j).mono ?_;rintro aE w2 ⟨rfl,e2⟩;go_wp2_with fail;exact u () _ e2 trivial
      case rest7=>
      intro _;refine aH ?_;refine lZ 11 (β:=ay) (fun b=> .agg b.v.toArray) (fun b w=>b.Ok w) F F F F (fun _ _=>rfl) au au au F (fun _ _=>jw) ?phi11 ?step11 ?rest11
      case phi11=>exact fun _ _ _ h e=>h.ext e
      case step11=>
       rintro x j ⟨⟨ac,_⟩,_⟩ ab u;have ae:=((I j).1 ac).base;clear Z;go_wp2_with fail;refine(UM p S a_ j ((aa.ext (aR.ext am)).st.ext ae) (bl.ext ((aR.ext am).ext ae)) eb).mono ?_;rintro aE w2 ⟨c_,rfl,cR,e2⟩;go_wp2_with fail;exact u c_ _ e2 cR
      case rest11=>
      intro c_;refine aH ?_;refine lZ 12 (β:=aG×Int) (fun x=> .tuple #[.agg x.1.v.toArray,.int .i64 x.2]) (fun x w=>x.1.Ok w/\(∀A,x.1.ba=some A->aD.heap.size<=A.block)/\nN w x.1.ba/\(x.2=0->dN x.1=0)) F F F F (fun _ _=>rfl) au au au F (fun _ _=>jw) ?phi12 ?step12 ?rest12
      case phi12=>exact fun _ _ _ h e=>⟨h.1.ext e,h.2.1,h.2.2.1.ext e,h.2.2.2⟩
      case step12=>
       rintro x j ⟨⟨⟨ac,_⟩,_⟩,cR⟩ ab u;have ae:=((I j).1 ac).base;clear Z;go_wp2_with fail;refine(Fa p S _ _ (kQ (kP a_.bI)) bq c_ j ((aa.ext (aR.ext am)).st.ext ae) cR (qN _) c4).mono ?_;rintro aE w2 ⟨r,E,rfl,R,ad,al,a2, -,e2⟩;go_wp2_with fail;exact u (r,E) _ e2 ⟨R,fun A aL=>Nat.le_trans ae.size (ad A aL),al,a2⟩
      case rest12=>
      rintro⟨r,E⟩;try dsimp only
      refine aH ?_;refine nR 13 ?_;refine nR 14 ?_;refine nR 15 ?_;refine wY F F F (fun _ _=>rfl) au (fun _ _=>jw) ?_;rintro bd a3 ⟨a7,R,ad,al,a2⟩ a9 hb;have ac:C a3:=by obtain⟨⟨⟨ac,_⟩,_⟩,cR⟩:=a7;exact ac
      obtain⟨ap,aq,bv,cs,a1,a5,c7,bx⟩:=jg hb R ad a2 (aG.len R) ((I a3).1 ac) a9 (show iC bd r.ba r.bn from .inr (al.ne hb aX));clear hb R ad a2 a7 ac a9 al;refine aZ 17 ?_;intro ab u;go_wp2_with (refine bg F _ _ _ F F F ap cZ dZ (xs:=aG.v r) a1 (i_ r) ?_);intro aM a6 av;have ar:=bT.upd a5 av c7 bG;have bw:=O (AB aq av ap bx);have a8:C aM:=(I aM).2 ar;refine u _ _ a8 ?_;have bu:=O a6;have c2:=O ar.base;clear u ab av a6 ar a5 ap Z I aJ bP aq;refine aH ?_;refine aZ 18 ?_;intro ab u;go_wp2_with fail;refine u _ _ a8 ?_;clear u ab;refine aH ?_;refine dH ?_;go_wp2_with fail;go_meet;exact⟨bd,r,E,F,F,bu,bw,bv,cs,c2⟩
     case rest=>
     obtain⟨bd,r,E,rfl,rfl,bN,R, -,a2,bR⟩:=hcut;obtain⟨cV,az⟩:=aC wc;rw[az]at bN R bR⊢;obtain⟨cX,aq,cs,a1,bh⟩:=dM bN R a2 (aG.len R) (am.ext bR);clear az wc bN R a2 bR am a4 aw;by_cases b':E=0
     ·subst b';have bA:=cs.out F;have de:=(aa.ext (aR.ext bh)).bs.cell' (i:=0) F;obtain⟨ce,cf,cg,ci,fp,fq,fr⟩:=qy aq bA;obtain⟨d2,d1,d0⟩:=aW (fun j (ae:X cV j)=>SH (S.oq r (S.lab r)) j (aV.EP ((aa.ext (aR.ext bh)).st.ext ae) (aq.ext ae) (aV.IC (aa.ext (aR.ext bh)).st (Nq r))) ⟨r.act.toNat,by show r.act=_;omega,J⟩) (show(S.oq r (S.lab r)).v.length=68 from eu.len (aV.EP (aa.ext (aR.ext bh)).st aq (aV.IC (aa.ext (aR.ext bh)).st (Nq r)))) (adB p S r cV (aa.ext (aR.ext bh)).st aq bA);clear bA ce cf cg ci fp fq fr;go_wp2_with (refine bV F 34 _ F F cX cZ a1 ?_);refine d0.mono ?_;rintro bE eV ⟨rfl, -,bm⟩;obtain⟨ee,cM⟩:=aB (bh.ext bm) (j_ 5 (sW (S.oq r (S.lab r))));clear de d0;generalize dY 5 (sW (S.oq r (S.lab r)))=sm at*;generalize S.oq r (S.lab r)=dx at*;have dz:=O bm;clear bm bh;go_wp2_with (refine bg F _ (.tmp 18) _ F F F (ah.aI (vs:=yR.v) F F) vI (by rfl) (xs:=eu.v dx) d1 (ER dx) ?_);intro eW ei eR;have bp:X eV eW:=eR.ext ((X.refl _).alloc _) bG;obtain⟨e1,ef,dC⟩:=aW ei (ee.ext bp) (dz.ext bp);clear ei eR bp ee dz;generalize eV.heap.size=fL at*;go_wp2_with (refine bV F 108 _ F F e1 vI d1 ?_);refine(d2 eW dC).mono ?_;rintro bE fW ⟨rfl,ej⟩;have cN:=O (ef.ext ej);have e0:=O (b2.ext cN);clear ej ef dC d2;go_wp2_with (refine kR F _ _ _ F F F e0 (by rw[length_map,cM.out];exact bY) (by rw[length_map,cM.out,cK.out];decide) (b_ sm) ?_);intro z2 cp bB;rw[ay.Gn b _ cL.hm cL.hcm cM.out]at cp;obtain⟨e8,e6,eZ⟩:=aW (cL.ext (bB.ext (eg.ext cN) ed)) (bB.ext (aR.ext cN) d8) ((af.ext cN).upd bB (by have:=d7.out;omega))
      go_wp2_with fail;go_meet;exact⟨{b with commit:=sm},cp,{e8 with hcm:=cM.out},eZ,e6⟩
     ·have ff:decide (E=0)=false:=aP b';have fg:(E==0)=false:=by simp;exact b'
      go_wp2_with fail;go_meet;exact⟨b,b2.ext bh,b3.ext bh,af.ext bh,aR.ext bh⟩
   case rest=>
   obtain⟨b,co,bX,cn,dk⟩:=hcut;obtain⟨cW,az⟩:=aC wc;rw[az]at co bX cn dk⊢;obtain⟨b2,b3,cK,af,cr,am⟩:=iq co bX (ay.len bX) cn dk (X.refl cW);clear az wc co bX cn dk aR cL eg ed;have db:=af.cell' (i:=3) F;go_wp2_with fail;refine(MG ax.key cW).mono ?_;rintro bE bL ⟨rfl,bm⟩;have b4:=O (MF (kP ax.key));generalize CY (kP ax.key)=cd at*;obtain⟨b5,af,b7⟩:=aW (show(cd.map Y).length=16 by rw[length_map];exact b4) (af.ext bm) (am.ext bm);have cw:=O (show bS<bL.heap.size from af.lt);clear bm db am;go_upto_region 22 with(refine bg F _ (.tmp 20) _ F F F (ah.aI (vs:=fO.map Y) F F) dh (by rfl) b5 (b_ cd) ?_);intro be ba cJ;have bp:X bL be:=cJ.ext ((X.refl _).alloc _) bG;obtain⟨a4,af,cy,cx⟩:=bU ba (af.ext bp) (b7.ext bp) (show(cW).heap.size<=bL.heap.size from b7.size);clear ba cJ bp b7;generalize bL.heap.size=fi at*;have b9:=af.cell' (i:=1) F;go_upto_region 22 with fail;go_wp2_with (refine bF F (by exact kT F F (ah.cell' (i:=1) (af.alloc _) F) BR) ?_);generalize cc:World.alloc be _=ck;have cG:aK ck (some ⟨be.heap.size,0,none⟩) (([4,5,6,7,9,10]:List Int).map lN):=by rw[<-cc];exact aK.eG (ah.aI F F)
   have bz:X be ck:=by rw[<-cc];exact(X.refl be).alloc _
   obtain⟨a4,af,b6⟩:=aW (a4.ext bz) (af.ext bz) (cy.ext bz);clear cc bz cy b9;generalize be.heap.size=gi at*;refine(Es ax.act [4,5,6,7,9,10] (some ⟨gi,0,none⟩) 6 6 ck F J cG).mono ?_;rintro bE fu ⟨df,rfl, -,rfl⟩;clear cG;go_upto_if 113 with fail;go_cut [] (fun wx=>∃bq:aj,bq.length=16/\ah wx fi (bq.map Y) 29/\ah wx bS (jD.v ax) 103/\X (cW) wx)
   case first=>
    cases df with
    |true=>
     go_wp2_with fail;go_meet;exact⟨cd,b4,a4,af,b6⟩
    |false=>
     go_wp2_with (refine bg F _ _ _ F F F a4 dh b5 (xs:=fO.map Y) (by rfl) (b_ fO) ?_);intro fv cp bB;go_wp2_with fail;go_meet;exact⟨fO,F,cp,af.upd bB (by have:=cw.out;omega),bB.ext b6 cx⟩
   case rest=>
   obtain⟨bq,cb,ba,b8,hx⟩:=hcut;obtain⟨aD,az⟩:=aC wc;rw[az]at ba b8 hx⊢;obtain⟨c4,c5,a4,af,am⟩:=dM cb (show(bq.map Y).length=16 by rw[length_map];exact cb) ba b8 hx;clear az wc cb ba b8 hx b6 b4 b5 cw cx;go_upto_region 24 with fail;go_cut [21,22] (fun dv ve wx=>∃bd r E,dv= .pointer (some ⟨bd,0,none⟩)/\ve= .int .i64 E/\ah wx bd (aG.v r) 34/\r.Ok wx/\(∀A,r.ba=some A->aD.heap.size<=A.block)/\(E=0->dN r=0)/\X aD wx)
   case first=>
    as_aux_lemma=>
    obtain⟨C,I,aJ,bP⟩:=iw (show bT aD aD [] [] aD from bT.jA (X.refl _) (dV.none _));have bO:∀j,C j->j.cell? ⟨gs,0,none⟩=some (.pointer (some ⟨p,0,none⟩)):=fun j ai=>((aa.ext (cr.ext am)).bs.ext ((I j).1 ai).base).cell' F;have dc:∀j,C j->j.cell? ⟨bS,0,none⟩=some (.int .i64 ax.wait):=fun j ai=>(af.ext ((I j).1 ai).base).cell' F;have fd:∀j,C j->j.cell? ⟨bS,1,none⟩=some (.int .i64 ax.act):=fun j ai=>(af.ext ((I j).1 ai).base).cell' F;have fb:∀j,C j->j.cell? ⟨bS,2,none⟩=some (.int .i64 ax.bI):=fun j ai=>(af.ext ((I j).1 ai).base).cell' F;refine fJ (ops:=(I8 24)) fun Z=> ?_;refine dA 0 (bO) ?_;refine dA 1 (bO) ?_;refine aA 3 ?_;refine dA 4 (dc) ?_;refine aA 5 ?_;refine aA 6 ?_;refine aA 8 ?_;refine dA 9 (fd) ?_;refine aA 10 ?_;refine dA 11 (fb) ?_;refine bD 13 F (oC F 29 _ F F (fun j h=>a4.ext ((I j).1 h).base) dh c5) ?_;refine bD 14 F (oC F 101 _ F F (fun j h=>(b2.ext am).ext ((I j).1 h).base) eP cK) ?_;generalize World.drew aD=eT at Z⊢;refine zo (B:=World.heap aD |>.size) (A:=19) (d:=21) (T:=34) (vs:=dS.v) (D:=C) _ F aJ (fun _ h=>h) (fun _ h=>((I _).1 h).kept.1) Z ?_;try dsimp only
    refine cO ?_;refine lZ 2 (β:=Unit) (fun _=> .int .i64 S.tm) (fun _ _=>True) F F F F (fun _ _=>rfl) au au au F (fun _ _=>jw) ?phi2 ?step2 ?rest2
    case phi2=>exact fun _ _ _ _ _=>trivial
    case step2=>
     intro x j a0 ab u;have ae:=((I j).1 a0).base;clear Z;go_wp2_with fail;refine(SE p S j ((aa.ext (cr.ext am)).st.ext ae)).mono ?_;rintro aE w2 ⟨rfl,e2⟩;go_wp2_with fail;exact u () _ e2 trivial
    case rest2=>
    intro _;refine aH ?_;refine nR 7 ?_;refine lZ 12 (β:=Unit) (fun _=> .agg ((kQ (kP ax.bI)).map Y).toArray) (fun _ _=>True) F F F F (fun _ _=>rfl) au au au F (fun _ _=>jw) ?phi12 ?step12 ?rest12
    case phi12=>exact fun _ _ _ _ _=>trivial
    case step12=>
     intro x j a0 ab u;clear Z;go_wp2_with fail;refine(tC ax.bI j).mono ?_;rintro aE w2 ⟨rfl,e2⟩;go_wp2_with fail;exact u () _ e2 trivial
    case rest12=>
    intro _;refine aH ?_;refine lZ 15 (β:=aG×Int) (fun x=> .tuple #[.agg x.1.v.toArray,.int .i64 x.2]) (fun x w=>x.1.Ok w/\(∀A,x.1.ba=some A->aD.heap.size<=A.block)/\nN w x.1.ba/\(x.2=0->dN x.1=0)) F F F F (fun _ _=>rfl) au au au F (fun _ _=>jw) ?phi15 ?step15 ?rest15
    case phi15=>exact fun _ _ _ h e=>⟨h.1.ext e,h.2.1,h.2.2.1.ext e,h.2.2.2⟩
    case step15=>
     rintro x j ⟨⟨ac,_⟩,_⟩ ab u;have ae:=((I j).1 ac).base;clear Z;go_wp2_with fail;refine(Fa p S _ _ (kQ (kP ax.bI)) bq b j ((aa.ext (cr.ext am)).st.ext ae) (b3.ext (am.ext ae)) (qN _) c4).mono ?_;rintro aE w2 ⟨r,E,rfl,R,ad,al,a2, -,e2⟩;go_wp2_with fail;exact u (r,E) _ e2 ⟨R,fun A aL=>Nat.le_trans ae.size (ad A aL),al,a2⟩
    case rest15=>
    rintro⟨r,E⟩;try dsimp only
    refine aH ?_;refine nR 16 ?_;refine nR 17 ?_;refine nR 18 ?_;refine wY F F F (fun _ _=>rfl) au (fun _ _=>jw) ?_;rintro bd a3 ⟨a7,R,ad,al,a2⟩ a9 hb;have ac:C a3:=by obtain⟨⟨ac,_⟩,_⟩:=a7;exact ac
    obtain⟨ap,aq,bv,cs,a1,a5,c7,bx⟩:=jg hb R ad a2 (aG.len R) ((I a3).1 ac) a9 (show iC bd r.ba r.bn from .inr (al.ne hb aX));clear hb R ad a2 a7 ac a9 al;refine aZ 20 ?_;intro ab u;go_wp2_with (refine bg F _ _ _ F F F ap cZ dZ (xs:=aG.v r) a1 (i_ r) ?_);intro aM a6 av;have ar:=bT.upd a5 av c7 bG;have bw:=O (AB aq av ap bx);have a8:C aM:=(I aM).2 ar;refine u _ _ a8 ?_;have bu:=O a6;have c2:=O ar.base;clear u ab av a6 ar a5 ap Z I aJ bP aq;refine aH ?_;refine aZ 21 ?_;intro ab u;go_wp2_with fail;refine u _ _ a8 ?_;clear u ab;refine aH ?_;refine dH ?_;go_wp2_with fail;go_meet;exact⟨bd,r,E,F,F,bu,bw,bv,cs,c2⟩
   case rest=>
   obtain⟨bd,r,E,rfl,rfl,bN,R,ad,a2,bR⟩:=hcut;obtain⟨cV,az⟩:=aC wc;rw[az]at bN R bR⊢;obtain⟨cX,a1,dE⟩:=aW bN (aG.len R) ((cr.ext am).ext bR);have eL:wr.heap.size<=aD.heap.size:=(cr.ext am).size;by_cases b':E=0
   ·have ca:go<wr.heap.size:=aa.bo.lt;have ds:p<wr.heap.size:=aa.st.blk.lt;have eM:∀q,v.ownBlock=some q->q<wr.heap.size:=fun q fn=>(aa.own.lt q fn).2;have cl:=O (UN gj gs go p S v es r w cV (aa.ext dE) R (fun g ag=> .inr fun A aL=>by
     have ai:=ad A aL;rcases ag with ag|ag
     ·have cq:=eM g ag;omega
     ·omega) (fun A aL=>by have:=ad A aL;omega) c6 (by have:=cv.out;omega))
    subst b';clear az wc bN R ad a2 bR ca ds eM eL;go_wp2_with (refine bV F 34 _ F F cX cZ a1 ?_);refine cl.mono ?_;rintro bE fX ⟨fa,v2,rfl,b1, -, -⟩;have e7:=O b1;clear b1 cl;go_wp2_with fail;go_roundw
    case rel=>
     refine⟨k+1,fa,v2,_,J,by go_num,e7,?_,?_⟩
     ·split
      ·simp
      ·exact c8
     ·have:=cv.out;split
      ·rw[length_append,length_singleton];omega
      ·omega
    case measure=>simp[intOf];omega
   ·have ff:decide (E=0)=false:=aP b';have fg:(E==0)=false:=by simp;exact b'
    have e5:=O (aa.ext dE);clear az wc bN R ad a2 bR eL;go_wp2_with fail;go_roundw
    case rel=>exact⟨k+1,S,v,es,J,by go_num,e5,c8,by have:=cv.out;omega⟩
    case measure=>simp[intOf];omega
  ·have dg:decide ((k:Int)<(m:Int))=false:=aP J;have di:decide (k<m)=false:=aP eA;go_upto_region 28 with fail;obtain⟨C,I,aJ⟩:=jJ wr;have bP:C wr:=(I _).2 (X.refl _);have fc:∀j,C j->j.cell? ⟨go,0,none⟩=some v:=fun j ai=>(aa.bo.ext ((I j).1 ai)).cell' F;have dd:∀j,C j->j.cell? ⟨gs,0,none⟩=some (.pointer (some ⟨p,0,none⟩)):=fun j ai=>(aa.bs.ext ((I j).1 ai)).cell' F;refine fJ (ops:=(I8 28)) fun Z=> ?_;refine dA 0 (fc) ?_;refine dA 1 (dd) ?_;refine aA 2 ?_;refine aA 3 ?_;refine dH ?_;have ct:=O (aa.ext ((I _).1 Z));go_wp2_with fail
   (try go_ret)
   rw[<-e_.out];exact⟨_,_,es,S.p,F,⟨ct.own,ct.ok,fun e fj g ag=>ct.eo e fj g (.inl ag)⟩,ct.ch,c8,by have:=cv.out;omega,ct.ex⟩
end Go.Proofs.YtjlhhnkhcbpnjaaGreatDoor
