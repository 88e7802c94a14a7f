/- Laws that the row leans on; no condition. -/
import Derived.Test.YtjlhhnkhcbpnjaaGreatDoorJM20
namespace Go.Proofs.YtjlhhnkhcbpnjaaGreatDoor
open Go Go.RowKit List Tryz
set_option linter.unusedVariables false
set_option linter.unusedSimpArgs false
set_option maxHeartbeats 40000000
set_option maxRecDepth 100000
theorem kI{α:Type}{l pre j post:List α}{i n:Nat}(h:l=pre++(j++post))(E:pre.length=i)(u:j.length=n):(l.drop i).take n=j:=by grind
theorem q9{l pre post:aj}{u:UInt64}{i:Nat}(h:l=pre++(dG u++post))(j:pre.length=i):fE l i=u.toNat:=by
 rw[h,xV pre (dG u) post i j F,Wy pre u i j]
theorem Cg{l pre post:aj}{x:UInt32}{i:Nat}(h:l=pre++(gq x++post))(j:pre.length=i):iW l i=x:=by
 rw[h,OU pre (gq x++post) _ _ _ _ post i j F,OQ]
theorem zh{l pre post:aj}{x:UInt8}{i:Nat}(h:l=pre++(x::post))(j:pre.length=i):l[i]?.getD 0=x:=by grind
theorem Av{e:aG}{w:World}(aa:e.Ok w)(ad:dN e=0)(B C:aj)(q:Nat)(j:B.length=q):
 fQ (B++(iZ e++C)) (q:Int)=(e.p,((q+121+e.bn:Nat):Int),0):=by
 obtain⟨bj,r2,bk,bl,bm,bo,bp⟩:=qy aa ad;obtain⟨E,ae⟩:=aC (UInt64.ofNat e.num.toNat);obtain⟨I,af⟩:=aC (UInt64.ofNat e.time.toNat);obtain⟨x,ao⟩:=aC (UInt8.ofNat e.act.toNat);obtain⟨u,an⟩:=aC (UInt32.ofNat e.bn);obtain⟨S,ag⟩:=aC (ig e);have ap:S.length=32:=by rw[<-ag];exact nZ e
 have aq:ny e=[75,87,69,49]++dG E++dG I++[x]++e.bI++e.key++e.prev++gq u++e.body:=by unfold ny;rw[ae,af,ao,an]
 have ai:=GL aa;have ba:dY 3 (ny e)=S:=by rw[<-ag];unfold ig;rw[if_pos ad]
 obtain⟨l,al⟩:=aC (B++(iZ e++C));have ac:l=B++(ny e++(S++C)):=by rw[<-al];unfold iZ;rw[ag];simp
 have e2:=ac;rw[aq]at e2;have R:(dG E).length=8:=F;have ab:(dG I).length=8:=F;have bh:(gq u).length=4:=F;have ha:=aa.ha;have hk:=aa.hk;have am:=aa.hp;have hb:=aa.hb;have bc:E.toNat=e.num.toNat:=by rw[<-ae,UInt64.toNat_ofNat'];omega
 have n2:I.toNat=e.time.toNat:=by rw[<-af,UInt64.toNat_ofNat'];omega
 have bd:x.toNat=e.act.toNat:=by rw[<-ao,UInt8.toNat_ofNat'];omega
 have be:u.toNat=e.bn:=by rw[<-an,UInt32.toNat_ofNat'];omega
 have bi:l.length=q+121+e.bn+C.length:=by rw[ac];simp only[length_append,ai,ap,j];omega
 rw[al];clear ae af ao an al;have aw:(l.drop q).take 4=[75,87,69,49]:=kI (pre:=B) (post:=dG E++dG I++[x]++e.bI++e.key++e.prev++gq u++e.body++(S++C)) (by rw[e2];simp only[append_assoc]) j F;have ax:fE l (q+4)=e.num.toNat:=by
  rw[<-bc];exact q9 (pre:=B++[75,87,69,49]) (post:=dG I++[x]++e.bI++e.key++e.prev++gq u++e.body++(S++C)) (by rw[e2];simp only[append_assoc]) (by simp[j])
 have aE:fE l (q+12)=e.time.toNat:=by
  rw[<-n2];exact q9 (pre:=B++[75,87,69,49]++dG E) (post:=[x]++e.bI++e.key++e.prev++gq u++e.body++(S++C)) (by rw[e2];simp only[append_assoc]) (by simp[j,R])
 have a0:l[q+20]?.getD 0=x:=zh (pre:=B++[75,87,69,49]++dG E++dG I) (post:=e.bI++e.key++e.prev++gq u++e.body++(S++C)) (by rw[e2];simp only[append_assoc,singleton_append,cons_append,nil_append]) (by simp[j,R,ab]);have a1:(l.drop (q+21)).take 16=e.bI:=kI (pre:=B++[75,87,69,49]++dG E++dG I++[x]) (post:=e.key++e.prev++gq u++e.body++(S++C)) (by rw[e2];simp only[append_assoc]) (by simp[j,R,ab]) ha;have a2:(l.drop (q+37)).take 16=e.key:=kI (pre:=B++[75,87,69,49]++dG E++dG I++[x]++e.bI) (post:=e.prev++gq u++e.body++(S++C)) (by rw[e2];simp only[append_assoc]) (by simp[j,R,ab,ha]) hk;have a3:(l.drop (q+53)).take 32=e.prev:=kI (pre:=B++[75,87,69,49]++dG E++dG I++[x]++e.bI++e.key) (post:=gq u++e.body++(S++C)) (by rw[e2];simp only[append_assoc]) (by simp[j,R,ab,ha,hk]) am;have a4:iW l (q+85)=u:=Cg (pre:=B++[75,87,69,49]++dG E++dG I++[x]++e.bI++e.key++e.prev) (post:=e.body++(S++C)) (by rw[e2];simp only[append_assoc]) (by simp[j,R,ab,ha,hk,am]);have a5:(l.drop (q+89)).take e.bn=e.body:=kI (pre:=B++[75,87,69,49]++dG E++dG I++[x]++e.bI++e.key++e.prev++gq u) (post:=S++C) (by rw[e2];simp only[append_assoc]) (by simp[j,R,ab,bh,ha,hk,am]) hb;have a6:(l.drop q).take (89+e.bn)=ny e:=kI (pre:=B) (post:=S++C) ac j ai;have az:(l.drop (q+89+e.bn)).take 32=S:=kI (pre:=B++ny e) (post:=C) (by rw[ac];simp only[append_assoc]) (by rw[length_append,j,ai];omega) ap;clear ac e2 aq;have ar:nH l q=e.bn:=by unfold nH;rw[a4,be]
 have a9:qI l (q:Int)=0:=by
  unfold qI;rw[Int.toNat_natCast,if_neg J,if_neg J,aw,if_neg aF,ar,if_neg J]
 have a7:wQ l q e.bn=e.p:=by
  unfold wQ;rw[ax,aE,a0,a1,a2,a3,a5,bd,DW J,DW J];unfold aG.p;rw[show((e.num.toNat:Nat):Int)=e.num by omega,show((e.time.toNat:Nat):Int)=e.time by omega,show((e.act.toNat:Nat):Int)=e.act by omega]
 have a_:Cm l q e.bn=true:=by unfold Cm;rw[a6,az,ba];exact beq_self_eq_true _
 have a8:jX e.p=0:=by rw[<-xH];exact ad
 unfold fQ;rw[Int.toNat_natCast,ar,a9,if_neg aF,if_neg J,a_,if_neg aF,a7,a8,if_pos F]
structure dW.Fit(x:dW):Prop where
 ha:x.bI.length=16
 hk:x.key.length=16
 hp:x.prev.length=32
 hb:x.body.length<=32768
 ok:jX x=0
theorem mH{x:dW}(j:x.Fit)(w:World)(B C:aj)(q:Nat)(ab:B.length=q):fQ (B++(iZ x.r++C)) (q:Int)=(x,((q+121+x.body.length:Nat):Int),0):=by
 obtain⟨e,E⟩:=jE (⟨x.num,x.time,x.act,x.bI,x.key,x.prev,some ⟨w.heap.size,0,none⟩,x.body.length,x.body.length,x.body⟩:aG);have I:e.p=x:=by rw[E];rfl
 have ac:e.body.length=e.bn:=by rw[E]
 have ad:e.Ok (World.alloc w (.cells (x.body.map Y).toArray 5)):=by
  rw[E];refine⟨j.ha,j.hk,j.hp,F,Nat.le_refl _,?_,fun h=>(by cases h),.inr ⟨_,0,F,fun i u ae=> ?_⟩⟩
  ·have:=j.hb;show x.body.length<=_;omega
  ·have hb:ah (World.alloc w (.cells (x.body.map Y).toArray 5)) w.heap.size (x.body.map Y) 5:=ah.aI F F;rw[Nat.zero_add];exact hb.cell' ae
 have aa:dN e=0:=by rw[xH,I];exact j.ok
 have R:=Av ad aa B C q ab;rw[I,<-J2 e ac,I]at R;rw[R,E]
theorem pE{x:dW}(j:x.Fit):(iZ x.r).length=121+x.body.length:=by
 unfold iZ ny;simp only[length_append,nZ,Bc,gq,length_cons,length_nil];show 4+8+8+(0+1)+x.bI.length+x.key.length+x.prev.length+4+x.body.length+32=_;rw[j.ha,j.hk,j.hp];omega
theorem sj(a b:List dW):lK (a++b)=lK a++lK b:=by unfold lK;rw[flatMap_append]
theorem l6(x:dW)(a:List dW):lK (x::a)=iZ x.r++lK a:=by unfold lK;rw[flatMap_cons]
theorem Ch{es:List dW}{k:Nat}{x:dW}(h:es[k]? =some x):lK es=lK (es.take k)++(iZ x.r++lK (es.drop (k+1))):=by
 obtain⟨hk,rfl⟩:=List.getElem?_eq_some_iff.1 h;rw[<-l6,<-drop_eq_getElem_cons hk,<-sj,take_append_drop]
theorem z8{es:List dW}{k:Nat}{x:dW}(h:es[k]? =some x)(j:x.Fit)(w:World):fQ (lK es) ((lK (es.take k)).length:Int)=(x,(((lK (es.take k)).length+121+x.body.length:Nat):Int),0):=by
 have hs:=Ch h;generalize lK es=L at hs⊢;generalize lK (es.take k)=B at hs⊢;rw[hs];exact mH j w B _ B.length F
theorem uL(es:List dW):∀(b k:Nat),k<es.length->(Az es b)[k]? =some ((b+(lK (es.take (k+1))).length:Nat):Int):=by
 induction es with
 |nil=>intro b k h;simp at h
 |cons x es u=>
  intro b k h;rw[Az];cases k with
  |zero=>
   rw[take_succ_cons,take_zero,l6,length_append,List.getElem?_cons_zero];rfl
  |succ k=>
   have j:=u (b+(iZ x.r).length) k (by simpa using h);rw[List.getElem?_cons_succ,j,take_succ_cons,l6,length_append,Nat.add_assoc]
theorem Bu:(prog.info? 3).map (·.size)=some 1:=au
theorem Bw(B g:Nat)(es:List dW)(k:Nat)(hk:k<es.length)(w:World)(h:nM w B g es):
 nW 64 #[.pointer (some ⟨g,0,none⟩),.int .i64 (k:Int)] w (.int .i64 ((lK (es.take k)).length:Int)):=by
 have hn:=h.n;obtain⟨vo,ve,vl,E,ac,I,ad⟩:=h.ex;obtain⟨aa,ai,rfl, -, -,R⟩:=iJ I;have am:=E.cell' (i:=1) (v:= .slice aa es.length ai) F;by_cases ab:k=0
 ·subst ab;clear h E ac I ad R;go_enter func64,ntmps64;go_wp2_with fail;go_ret;exact⟨by rw[take_zero];rfl,X.refl _⟩
 ·obtain⟨j,rfl⟩:∃j,k=j+1:=⟨k - 1,J⟩;obtain⟨A,rfl,nu⟩:∃A,aa=some A/\w.cell? (A.add (j*1))=some (.int .i64 ((lK (es.take (j+1))).length:Int)):=by
   obtain⟨b,off,rfl,hc⟩:=R.gQ (by rw[length_map,oF];omega);refine⟨_,F,?_⟩;rw[dn,Nat.mul_one];refine hc j _ ?_;rw[List.getElem?_map,uL es 0 j J,Nat.zero_add];rfl
  obtain⟨M,af⟩:=aC ((lK (es.take (j+1))).length);rw[af]at nu⊢;have rz:=O nu;have al:j<es.length:=J;have u:IntKind.i64.wrap (((j+1:Nat):Int) - 1)=(j:Int):=by rw[show((j+1:Nat):Int) - 1=(j:Int) by omega];exact IntWalk.i64_in _ J
  obtain⟨K,ae⟩:=aC (((j+1:Nat):Int):Int);rw[ae]at u⊢;have an:(K==0)=false:=by simp;omega
  have ag:=O u;clear h E ac I ad R nu ae u af ab;go_enter func64,ntmps64;go_upto_region 3 with fail;have u:=ag.out;go_wp2_with (first|(refine bF F (fP (i:=j) F F F underlying106 Bu al _) ?_)|(refine bF F (kT F F rz BR) ?_));go_ret;exact⟨F,X.refl _⟩
theorem qD{P:Program}{ops:Array Oper}{Q:Exit->Act->World->Prop}{S:World->Prop}{i j:Nat}{aa ab:Oper}{ai al:List Oper}{f:Nat}{E:Array Bool}{a:Act}{w:World}(ag:Region.ready .any ops E=[i,j])(ae:ops.toList.drop i=aa::ai)(af:ops.toList.drop j=ab::al)
 (ac:∀u:Exit->Act->World->Prop,(∀a w,S w->wpAnyH P .any ops Q S f (E.setIfInBounds i true) a w->u .normal a w)->wpList P ops u [aa] a w)
 (ad:∀u:Exit->Act->World->Prop,(∀a w,S w->wpAnyH P .any ops Q S f (E.setIfInBounds j true) a w->u .normal a w)->wpList P ops u [ab] a w):
 wpAnyH P .any ops Q S (f+1) E a w:=
 wpAnyH_all ag aF fun k hk=>by
  rcases mem_cons.1 hk with h|hk
  ·subst h;exact mZ (jy ae) (ac _ fun a w I R=>⟨I,R⟩)
  ·obtain rfl:k=j:=by simpa using hk
   exact mZ (jy af) (ad _ fun a w I R=>⟨I,R⟩)
theorem mq{w w':World}{g:Nat}{e:aG}{vs:aO}(h:e.Ok w)(u:aU w g w')(E:iC g e.ba e.bn):e.Ok w':=
 h.row (r:=some g) (fun q j=>by injection j with j;exact j▸E) (qC u)
theorem H_{w:World}{g:Nat}{e:aG}(h:e.Ok w)(ac:w.heap.size<=g):iC g e.ba e.bn:=by
 by_cases u:e.bn=0
 ·exact .inl u
 ·refine .inr fun A j E=> ?_;obtain⟨b,off,hb,hc⟩:=h.hcl.gQ (by rw[length_map,h.hb];exact Nat.pos_of_ne_zero u);obtain⟨x,R⟩:∃x,e.body[0]? =some x:=⟨e.body[0]'(by rw[h.hb];omega),aF⟩;have I:=block_lt_of_cell (hc 0 (Y x) (by rw[List.getElem?_map,R];rfl));rw[hb]at j;injection j with j;rw[<-j]at E;have ab:b=g:=E;have aa:b<w.heap.size:=I;omega
noncomputable def zP(n:Nat):Array Oper:=xZ f22 n
theorem mR(B g:Nat)(es:List dW)(k:Nat)(x:dW)(w:World)(h:nM w B g es)(hk:es[k]? =some x)(hx:x.Fit):
 Calls prog 22 #[.pointer (some ⟨g,0,none⟩),.int .i64 (k:Int)] w fun z w'=>∃r:aG,z= .returned (.tuple #[.agg r.v.toArray,.int .i64 0])/\r.Ok w'/\r.p=x/\X w w':=by
 have b2:=(List.getElem?_eq_some_iff.1 hk).1;have hn:=h.n;have hs:=h.sz;obtain⟨vo,ve,vl,bo,bt,bx,cm⟩:=h.ex;obtain⟨b',ca,rfl,b3, -,b5⟩:=iJ bt;obtain⟨ck,cl,rfl, -, -, -⟩:=iJ bx;have b4:=TU bt;obtain⟨bl,bh,nA,bm⟩:=bU bo (z8 hk hx w) (fun aw (I:X w aw)=>Bw B g es k b2 aw (h.ext I)) (fun(q:Nat) aw (I:X w aw)=>abz (lK es) b' (lK es).length ca (q:Int) aw F b3 J b4 (b5.ext I));clear h bo bt bx cm b5;obtain⟨L,b0⟩:=aC (lK es);obtain⟨q,b8⟩:=aC ((lK (es.take k)).length);rw[b0]at bl bh bm;rw[b8]at bh nA;obtain⟨N,b1⟩:=aC es.length;rw[b1]at bl b2;have cp:decide ((k:Int)<0)=false:=aP J;have cq:decide ((N:Int)<=(k:Int))=false:=aP J;have cr:decide (N<=k)=false:=aP J;clear b0 b8 b1 hk b3 b4 hs hn;go_enter func22,ntmps22;go_upto_region 1 with fail;generalize iX:World.alloc w _=ai;have bp:ah ai w.heap.size dS.v 34:=by rw[<-iX];exact ah.aI F F
 have br:X w ai:=by rw[<-iX];exact(X.refl w).alloc _
 obtain⟨bk,EA,bu⟩:=aW bp br (bl.ext br);have b9:w.heap.size<ai.heap.size:=bp.lt;have a7:=O b9;clear iX bp br bl b9;obtain⟨G,bz⟩:=aC w.heap.size;have cg:=O (show w.heap.size<=G by omega);rw[bz]at bk a7⊢;clear bz;have cj:=bu.cell' (i:=1) (v:= .slice ck N cl) F;go_upto_region 3 with fail;clear cj;go_cut [6,8] (fun cn co wx=>∃(aE:Nat) (r:aG),cn= .pointer (some ⟨aE,0,none⟩)/\co= .int .i64 0/\ah wx aE r.v 34/\ah wx G dS.v 34/\r.Ok wx/\r.p=x/\iC G r.ba r.bn/\X ai wx)
 case first=>
  obtain⟨C,iB,aJ,bP⟩:=iw (show bT ai ai [] [] ai from bT.jA (X.refl _) (dV.none _));have ci:∀aw,C aw->aw.cell? ⟨g,0,none⟩=some (.slice b' L.length ca):=fun aw bo=>(bu.ext ((iB aw).1 bo).base).cell' F;refine fJ (ops:=(zP 3)) fun Z=> ?_;refine aA 0 ?_;refine aA 1 ?_;refine aA 2 ?_;refine dA 3 (ci) ?_;refine aA 4 ?_;refine aA 5 ?_;generalize World.drew ai=ax at Z⊢;refine qD (i:=6) (j:=12) au F F ?s6 ?s12
  case s6=>
   intro E u;have I:=((iB ax).1 Z).base;go_wp2_with fail;refine(nA ax (EA.ext I)).mono ?_;rintro aa ac ⟨rfl,e2⟩;go_wp2_with fail;refine u _ _ (aJ _ _ Z e2) ?_;clear u E;replace Z:=aJ _ _ Z e2;clear I e2;refine aH ?_;refine qD (i:=7) (j:=12) au F F ?t7 ?t12
   case t7=>
    intro E u;have I:=((iB ac).1 Z).base;go_wp2_with fail;refine(bm q ac (EA.ext I)).mono ?_;rintro aa ab ⟨r,rfl,ad,ap,e2⟩;rw[bh.out]at ap⊢;go_wp2_with fail;refine u _ _ (aJ _ _ Z e2) ?_;clear u E;replace Z:=aJ _ _ Z e2;have R:=O ad.1;obtain⟨a_,bd⟩:=aB ap (show ai.heap.size<=ac.heap.size from I.size);have a6:=O ad.2;clear I e2 ad ap;refine aH ?_;refine aA 8 ?_;refine aA 9 ?_;refine aA 10 ?_;refine aA 11 ?_;refine aZ 12 ?_;intro E u;go_wp2_with fail;refine u _ _ (aJ _ _ Z ((X.refl ab).alloc _)) ?_;clear u E;generalize aq:World.alloc ab _=ar;have af:ah ar ab.heap.size dS.v 34:=by rw[<-aq];exact ah.aI F F
    have am:X ab ar:=by rw[<-aq];exact(X.refl ab).alloc _
    have a4:C ar:=aJ _ _ Z am;obtain⟨a1,bj,bv⟩:=aW (show ai.heap.size<=ab.heap.size from((iB ab).1 Z).base.size) (H_ R l5) (R.ext am);clear R;have R:=O bv.out;clear bv;have ae:=O af;have al:=O af.lt;clear Z aq af am;have Z:=a4;clear a4;generalize ab.heap.size=aE at*;refine aH ?_;obtain⟨bi,az,ba⟩:=aW (show iC G r.ba r.bn from TM a6 (fun aa=>by rw[length_map,R.hb]at aa;exact aa) (Nat.lt_of_lt_of_le a7 bd)) (aG.len R) (bk.ext ((iB ar).1 Z).base);refine aZ 13 ?_;intro E u;go_wp2_with (refine bg F _ _ _ F F F ae cZ dZ (xs:=aG.v r) az (i_ r) ?_);intro a5 a3 ag;have an:=bT.upd ((iB ar).1 Z) ag a1 l5;obtain⟨be,bc⟩:=aB (mq (vs:=dS.v) R ag bj) (ba.upd ag (by have:=a7.out;have:=a1.out;omega));have ao:C a5:=(iB a5).2 an;refine u _ _ ao ?_;have a8:=O a3;have a9:=O an.base;clear u E ag a3 an Z;have Z:=ao;clear ao;refine aH ?_;refine aZ 14 ?_;intro E u;go_wp2_with (fail);refine u _ _ Z ?_;clear u E;refine aH ?_;refine aZ 15 ?_;intro E u;go_wp2_with (fail);refine u _ _ Z ?_;clear u E;refine aH ?_;refine dH ?_;go_wp2_with fail;go_meet;exact⟨aE,r,F,F,a8,bc,be,a_,bi,a9⟩
   case t12=>
    intro E u;go_wp2_with fail;refine u _ _ (aJ _ _ Z ((X.refl ac).alloc _)) ?_;clear u E;generalize aq:World.alloc ac _=ab;have af:ah ab ac.heap.size dS.v 34:=by rw[<-aq];exact ah.aI F F
    have am:X ac ab:=by rw[<-aq];exact(X.refl ac).alloc _
    have a4:C ab:=aJ _ _ Z am;obtain⟨a1,ae⟩:=aB (show ai.heap.size<=ac.heap.size from((iB ac).1 Z).base.size) af;have al:=O af.lt;clear Z aq af am;have Z:=a4;clear a4;generalize ac.heap.size=aE at*;refine aH ?_;refine aZ 7 ?_;intro E u;have I:=((iB ab).1 Z).base;go_wp2_with fail;refine(bm q ab (EA.ext I)).mono ?_;rintro aa ar ⟨r,rfl,ad,ap,e2⟩;rw[bh.out]at ap⊢;go_wp2_with fail;refine u _ _ (aJ _ _ Z e2) ?_;clear u E;replace Z:=aJ _ _ Z e2;have R:=O ad.1;obtain⟨a_,bd⟩:=aB ap (show ai.heap.size<=ab.heap.size from I.size);have a6:=O ad.2;have a0:=O (ae.ext e2);have a2:=O al.out;clear ae al;have ae:=O a0.out;have al:=O a2.out;clear a0 a2;clear I e2 ad ap;refine aH ?_;refine aA 8 ?_;refine aA 9 ?_;refine aA 10 ?_;refine aA 11 ?_;obtain⟨bj,bi,az,ba⟩:=bU (TM (n:=r.bn) a6 (fun aa=>by rw[length_map,R.hb]at aa;exact aa) al) (show iC G r.ba r.bn from TM a6 (fun aa=>by rw[length_map,R.hb]at aa;exact aa) (Nat.lt_of_lt_of_le a7 bd)) (aG.len R) (bk.ext ((iB ar).1 Z).base);refine aZ 13 ?_;intro E u;go_wp2_with (refine bg F _ _ _ F F F ae cZ dZ (xs:=aG.v r) az (i_ r) ?_);intro a5 a3 ag;have an:=bT.upd ((iB ar).1 Z) ag a1 l5;obtain⟨be,bc⟩:=aB (mq (vs:=dS.v) R ag bj) (ba.upd ag (by have:=a7.out;have:=a1.out;omega));have ao:C a5:=(iB a5).2 an;refine u _ _ ao ?_;have a8:=O a3;have a9:=O an.base;clear u E ag a3 an Z;have Z:=ao;clear ao;refine aH ?_;refine aZ 14 ?_;intro E u;go_wp2_with (fail);refine u _ _ Z ?_;clear u E;refine aH ?_;refine aZ 15 ?_;intro E u;go_wp2_with (fail);refine u _ _ Z ?_;clear u E;refine aH ?_
    refine dH ?_;go_wp2_with fail;go_meet;exact⟨aE,r,F,F,a8,bc,be,a_,bi,a9⟩
  case s12=>
   intro E u;go_wp2_with fail;refine u _ _ (aJ _ _ Z ((X.refl ax).alloc _)) ?_;clear u E;generalize aq:World.alloc ax _=ac;have af:ah ac ax.heap.size dS.v 34:=by rw[<-aq];exact ah.aI F F
   have am:X ax ac:=by rw[<-aq];exact(X.refl ax).alloc _
   have a4:C ac:=aJ _ _ Z am;obtain⟨a1,ae⟩:=aB (show ai.heap.size<=ax.heap.size from((iB ax).1 Z).base.size) af;have al:=O af.lt;clear Z aq af am;have Z:=a4;clear a4;generalize ax.heap.size=aE at*;refine aH ?_;refine aZ 6 ?_;intro E u;have I:=((iB ac).1 Z).base;go_wp2_with fail;refine(nA ac (EA.ext I)).mono ?_;rintro aa ab ⟨rfl,e2⟩;go_wp2_with fail;refine u _ _ (aJ _ _ Z e2) ?_;clear u E;replace Z:=aJ _ _ Z e2;obtain⟨a0,a2⟩:=aB (ae.ext e2) (Nat.lt_of_lt_of_le al e2.size);clear ae al;have ae:=O a0.out;have al:=O a2.out;clear a0 a2;clear I e2;refine aH ?_;refine aZ 7 ?_;intro E u;have I:=((iB ab).1 Z).base;go_wp2_with fail;refine(bm q ab (EA.ext I)).mono ?_;rintro aa ar ⟨r,rfl,ad,ap,e2⟩;rw[bh.out]at ap⊢;go_wp2_with fail;refine u _ _ (aJ _ _ Z e2) ?_;clear u E;replace Z:=aJ _ _ Z e2;have R:=O ad.1;obtain⟨a_,bd⟩:=aB ap (show ai.heap.size<=ab.heap.size from I.size);have a6:=O ad.2;have a0:=O (ae.ext e2);have a2:=O al.out;clear ae al;have ae:=O a0.out;have al:=O a2.out;clear a0 a2;clear I e2 ad ap;refine aH ?_;refine aA 8 ?_;refine aA 9 ?_;refine aA 10 ?_;refine aA 11 ?_;obtain⟨bj,bi,az,ba⟩:=bU (TM (n:=r.bn) a6 (fun aa=>by rw[length_map,R.hb]at aa;exact aa) al) (show iC G r.ba r.bn from TM a6 (fun aa=>by rw[length_map,R.hb]at aa;exact aa) (Nat.lt_of_lt_of_le a7 bd)) (aG.len R) (bk.ext ((iB ar).1 Z).base);refine aZ 13 ?_;intro E u;go_wp2_with (refine bg F _ _ _ F F F ae cZ dZ (xs:=aG.v r) az (i_ r) ?_);intro a5 a3 ag;have an:=bT.upd ((iB ar).1 Z) ag a1 l5;obtain⟨be,bc⟩:=aB (mq (vs:=dS.v) R ag bj) (ba.upd ag (by have:=a7.out;have:=a1.out;omega))
   have ao:C a5:=(iB a5).2 an;refine u _ _ ao ?_;have a8:=O a3;have a9:=O an.base;clear u E ag a3 an Z;have Z:=ao;clear ao;refine aH ?_;refine aZ 14 ?_;intro E u;go_wp2_with (fail);refine u _ _ Z ?_;clear u E;refine aH ?_;refine aZ 15 ?_;intro E u;go_wp2_with (fail);refine u _ _ Z ?_;clear u E;refine aH ?_;refine dH ?_;go_wp2_with fail;go_meet;exact⟨aE,r,F,F,a8,bc,be,a_,bi,a9⟩
 case rest=>
 obtain⟨aE,r,rfl,rfl,af,bw,ad,b7,b6,am⟩:=hcut;obtain⟨cc,BG,R,az,cf,ce,cd⟩:=su af bw ad (aG.len ad) b7 b6 (EA.ext am);clear af bw ad b7 b6 am;go_wp2_with (first|(refine bV F 34 _ F F cc cZ az ?_)|(refine bg F _ _ _ F F F BG cZ dZ (xs:=aG.v r) az (i_ r) ?_));intro cs ch cb;go_wp2_with fail;exact iy F F ch cZ az F ⟨r,F,mq (vs:=dS.v) R cb ce,cf,cb.ext cd cg⟩
def kg(x y:dW):Bool:=(x.num==y.num)&&((x.time==y.time)&&((x.act==y.act)&&((x.bI==y.bI)&&((x.key==y.key)&&((x.prev==y.prev)&&(x.body==y.body))))))
theorem nL(x y:dW):kg x y=true↔x=y:=by
 obtain⟨j,u,E,I,R,aa,ab⟩:=x;obtain⟨ac,ad,ae,af,ag,ai,al⟩:=y;unfold kg;simp only[Bool.and_eq_true,beq_iff_eq,dW.mk.injEq]
theorem rT(x y:aG)(w:World)(hx:x.Ok w)(bi:y.Ok w):
 nW 19 #[.agg x.v.toArray,.agg y.v.toArray] w (.bool (kg x.p y.p)):=by
 obtain⟨ab,HY⟩:=aB hx bi;clear hx bi;obtain⟨a2,a3,a4⟩:=aW (O4 underlying29 x.bI y.bI ab.ha HY.ha) (O4 underlying29 x.key y.key ab.hk HY.hk) (O4 underlying31 x.prev y.prev ab.hp HY.hp);have bh:kg x.p y.p=((x.num==y.num)&&((x.time==y.time)&&((x.act==y.act)&&((x.bI==y.bI)&&((x.key==y.key)&&((x.prev==y.prev)&&(x.body==y.body))))))):=F;have a1:=O (fun bj (a5:X w bj)=>Wp x.body y.body x.ba y.ba x.bn y.bn x.bc y.bc bj ab.hb.symm HY.hb.symm (ab.hcl.ext a5) (HY.hcl.ext a5));rw[bh];clear bh;obtain⟨j,b3⟩:=aC ((x.num==y.num));obtain⟨ag,EB⟩:=aC ((x.time==y.time));obtain⟨ai,Cy⟩:=aC ((x.act==y.act));obtain⟨al,ax⟩:=aC ((x.bI==y.bI));obtain⟨am,az⟩:=aC ((x.key==y.key));obtain⟨an,aE⟩:=aC ((x.prev==y.prev));obtain⟨ao,a0⟩:=aC ((x.body==y.body));rw[ax]at a2;rw[az]at a3;rw[aE]at a4;rw[a0]at a1;rw[b3,EB,Cy,ax,az,aE,a0];clear ax az aE a0;go_enter func19,ntmps19;go_upto_region 1 with(fail);generalize iX:World.alloc (World.alloc w _) _=ac;have xA:ah ac w.heap.size x.v 34:=by rw[<-iX];exact(ah.aI F F).alloc _
 have yA:ah ac (w.heap.size+1) y.v 34:=by rw[<-iX];exact ah.aI (uO _ _).symm rfl
 have af:X w ac:=by rw[<-iX];exact((X.refl w).alloc _).alloc _
 obtain⟨EA,bu,bv,ad,ae⟩:=dM af (ab.ext af) (HY.ext af) xA yA;clear iX xA yA af;have b4:=ad.cell' (aG.aL x);have b5:=ad.cell' (aG.rH x);have b6:=ad.cell' (aG.at2 x);have b7:=ad.cell' (aG.zV ab);have b8:=ae.cell' (aG.aL y);have b9:=ae.cell' (aG.rH y);have b':=ae.cell' (aG.at2 y);have ca:=ae.cell' (aG.zV HY);have ar:∀(e:aG) (g:Nat),e.Ok w->ah ac g e.v 34->dP ac ⟨g,3,none⟩ (e.bI.map Y)/\dP ac ⟨g,19,none⟩ (e.key.map Y)/\dP ac ⟨g,35,none⟩ (e.prev.map Y):=by
  intro e g aw hb;have a6:=aK.vP hb 3 16;have a7:=aK.vP hb 19 16;have a8:=aK.vP hb 35 32;rw[aG.Eh aw]at a6;rw[aG.F4 aw]at a7;rw[aG.BH aw]at a8;exact⟨dP.of a6,dP.of a7,dP.of a8⟩
 obtain⟨ap,aq,bw,bx,bz,b0,b1,b2⟩:=jg (ar x _ ab ad) (ar y _ HY ae) (show(x.bI.map Y).length=16 by rw[length_map,ab.ha]) (show(x.key.map Y).length=16 by rw[length_map,ab.hk]) (show(x.prev.map Y).length=32 by rw[length_map,ab.hp]) (show(y.bI.map Y).length=16 by rw[length_map,HY.ha]) (show(y.key.map Y).length=16 by rw[length_map,HY.hk]) (show(y.prev.map Y).length=32 by rw[length_map,HY.hp]);clear ar ab HY bu bv;refine wp_region_list ?_;refine ku (v:= .pointer (some ⟨w.heap.size,0,none⟩)) ?_;refine ku (v:= .int .i64 x.num) ?_;refine ku (v:= .pointer (some ⟨w.heap.size+1,0,none⟩)) ?_;refine ku (v:= .int .i64 y.num) ?_;refine ku (v:= .bool j) ?_;refine ku (v:= .bool j) ?_;refine dD j (v:=bif j then .pointer (some ⟨w.heap.size,1,none⟩)else undef) ?_;refine dD j (v:=bif j then .int .i64 x.time else undef) ?_;refine dD j (v:=bif j then .pointer (some ⟨w.heap.size+1,1,none⟩)else undef) ?_;refine dD j (v:=bif j then .int .i64 y.time else undef) ?_;refine dD j (v:=bif j then .bool ag else undef) ?_;refine iL j ag (v:= .bool (j&&ag)) ?_;generalize a9:(j&&ag)=u;have bl:=O a9;clear a9;refine ku (v:= .bool u) ?_;refine dD u (v:=bif u then .pointer (some ⟨w.heap.size,2,none⟩)else undef) ?_;refine dD u (v:=bif u then .int .i64 x.act else undef) ?_;refine dD u (v:=bif u then .pointer (some ⟨w.heap.size+1,2,none⟩)else undef) ?_;refine dD u (v:=bif u then .int .i64 y.act else undef) ?_;refine dD u (v:=bif u then .bool ai else undef) ?_;refine iL u ai (v:= .bool (u&&ai)) ?_;generalize a_:(u&&ai)=E;have bm:=O a_
 clear a_;refine ku (v:= .bool E) ?_;refine dD E (v:=bif E then .pointer (some ⟨w.heap.size,3,none⟩)else undef) ?_;refine oU (v:=bif E then .agg (x.bI.map Y).toArray else undef) ?hy106 ?hz106
 case hy106=>((cases E)<;>(first|exact .inl ⟨F,by first|(simp only[cond_true];exact bQ F F ap.1 dh bw)⟩|exact .inr ⟨F,F⟩))
 case hz106=>
 refine lY ?_;refine dD E (v:=bif E then .pointer (some ⟨w.heap.size+1,3,none⟩)else undef) ?_;refine oU (v:=bif E then .agg (y.bI.map Y).toArray else undef) ?hy111 ?hz111
 case hy111=>((cases E)<;>(first|exact .inl ⟨F,by first|(simp only[cond_true];exact bQ F F aq.1 dh b0)⟩|exact .inr ⟨F,F⟩))
 case hz111=>
 refine lY ?_;refine oU (v:=bif E then .bool al else undef) ?hy115 ?hz115
 case hy115=>((cases E)<;>(first|exact .inl ⟨F,by first|(simp only[cond_true];exact jm F F F oD a2 _)⟩|exact .inr ⟨F,F⟩))
 case hz115=>
 refine lY ?_;refine iL E al (v:= .bool (E&&al)) ?_;generalize ba:(E&&al)=I;have bo:=O ba;clear ba;refine ku (v:= .bool I) ?_;refine dD I (v:=bif I then .pointer (some ⟨w.heap.size,19,none⟩)else undef) ?_;refine oU (v:=bif I then .agg (x.key.map Y).toArray else undef) ?hy125 ?hz125
 case hy125=>((cases I)<;>(first|exact .inl ⟨F,by first|(simp only[cond_true];exact bQ F F ap.2.1 dh bx)⟩|exact .inr ⟨F,F⟩))
 case hz125=>
 refine lY ?_;refine dD I (v:=bif I then .pointer (some ⟨w.heap.size+1,19,none⟩)else undef) ?_;refine oU (v:=bif I then .agg (y.key.map Y).toArray else undef) ?hy130 ?hz130
 case hy130=>((cases I)<;>(first|exact .inl ⟨F,by first|(simp only[cond_true];exact bQ F F aq.2.1 dh b1)⟩|exact .inr ⟨F,F⟩))
 case hz130=>
 refine lY ?_;refine oU (v:=bif I then .bool am else undef) ?hy134 ?hz134
 case hy134=>((cases I)<;>(first|exact .inl ⟨F,by first|(simp only[cond_true];exact jm F F F oD a3 _)⟩|exact .inr ⟨F,F⟩))
 case hz134=>
 refine lY ?_;refine iL I am (v:= .bool (I&&am)) ?_;generalize bc:(I&&am)=R;have bp:=O bc;clear bc;refine ku (v:= .bool R) ?_;refine dD R (v:=bif R then .pointer (some ⟨w.heap.size,35,none⟩)else undef) ?_;refine oU (v:=bif R then .agg (x.prev.map Y).toArray else undef) ?hy144 ?hz144
 case hy144=>((cases R)<;>(first|exact .inl ⟨F,by first|(simp only[cond_true];exact bQ F F ap.2.2 qA bz)⟩|exact .inr ⟨F,F⟩))
 case hz144=>
 refine lY ?_;refine dD R (v:=bif R then .pointer (some ⟨w.heap.size+1,35,none⟩)else undef) ?_;refine oU (v:=bif R then .agg (y.prev.map Y).toArray else undef) ?hy149 ?hz149
 case hy149=>((cases R)<;>(first|exact .inl ⟨F,by first|(simp only[cond_true];exact bQ F F aq.2.2 qA b2)⟩|exact .inr ⟨F,F⟩))
 case hz149=>
 refine lY ?_;refine oU (v:=bif R then .bool an else undef) ?hy153 ?hz153
 case hy153=>((cases R)<;>(first|exact .inl ⟨F,by first|(simp only[cond_true];exact jm F F F EI a4 _)⟩|exact .inr ⟨F,F⟩))
 case hz153=>
 refine lY ?_;refine iL R an (v:= .bool (R&&an)) ?_;generalize bd:(R&&an)=aa;have br:=O bd;clear bd;refine ku (v:= .bool aa) ?_;refine dD aa (v:=bif aa then .pointer (some ⟨w.heap.size,67,none⟩)else undef) ?_;refine dD aa (v:=bif aa then .slice x.ba x.bn x.bc else undef) ?_;refine dD aa (v:=bif aa then .pointer (some ⟨w.heap.size+1,67,none⟩)else undef) ?_;refine dD aa (v:=bif aa then .slice y.ba y.bn y.bc else undef) ?_;refine zN (v:=bif aa then .bool ao else undef) F call13 ?hy166 ?hz166
 case hy166=>((cases aa)<;>(first|exact .inl ⟨F,_,by simp[Act.eval],a1 ac EA⟩|exact .inr ⟨F,F⟩))
 case hz166=>
 refine lY ?_;refine iL aa ao (v:= .bool (aa&&ao)) ?_;generalize be:(aa&&ao)=bk;have bt:=O be;clear be;refine ku (v:= .bool bk) ?_;refine wpList_nil ?_;go_wp2_with fail;go_ret;refine⟨?_,EA⟩;rw[<-bt.out,<-br.out,<-bp.out,<-bo.out,<-bm.out,<-bl.out];simp only[Bool.and_assoc];rfl
def l8:List dW->Nat->aj->Prop
 |[],_,_=>True
 |e::es,k,j=>e.Fit/\e.num=(k:Int)/\e.prev=j/\l8 es (k+1) (ig e.r)
theorem zm(w:World):∀(es pre:List dW) (l:aj) (f:Nat),l8 es pre.length (lq pre)->l=lK pre++lK es->es.length<f->wR l f (lK pre).length pre=(pre++es,0):=by
 intro es;induction es with
 |nil=>
  intro pre l f _ j hf;obtain⟨f,rfl⟩:∃g,f=g+1:=⟨f - 1,J⟩;unfold wR;rw[if_pos (by rw[j];simp[lK]),append_nil]
 |cons e es af=>
  intro pre l f hF j hf;obtain⟨I,ab,ad,ae⟩:=hF;obtain⟨f,rfl⟩:∃g,f=g+1:=⟨f - 1,J⟩;have R:=pE I;have sP:l=lK pre++(iZ e.r++lK es):=by rw[j,l6]
  have ac:fQ l ((lK pre).length:Int)=(e,(((lK pre).length+121+e.body.length:Nat):Int),0):=by
   rw[sP];generalize lK pre=B;exact mH I w B _ B.length F
  unfold wR;rw[ac];rw[if_neg (by rw[sP,length_append,length_append,R];omega),if_neg aF,if_neg (by simp[ab]),if_neg (by simp[ad])];have u:lK (pre++[e])=lK pre++iZ e.r:=by rw[sj,l6];simp[lK]
  have E:=af (pre++[e]) l f (by rw[length_append,SC];exact ae) (by rw[sP,u,append_assoc]) (by simpa using hf);rw[u,length_append,R]at E;have aa:(((lK pre).length+121+e.body.length:Nat):Int).toNat=(lK pre).length+(121+e.body.length):=J;rw[aa,E,append_assoc];rfl
theorem zw(w:World){es:List dW}(h:l8 es 0 kN):nI (lK es)=(es,0):=by
 have ab:∀es:List dW,(∀e∈es,e.Fit)->es.length<=(lK es).length:=by
  intro es;induction es with
  |nil=>intro _;simp[lK]
  |cons e es u=>
   intro h;have I:=u fun x ac=>h x (by simp[ac]);rw[l6,length_append,pE (h e aF),length_cons];omega
 have aa:∀(es:List dW) k E,l8 es k E->∀e∈es,e.Fit:=by
  intro es;induction es with
  |nil=>intro _ _ _ e j;simp at j
  |cons x es u=>
   intro k E h e j;rcases mem_cons.1 j with rfl|j
   ·exact h.1
   ·exact u _ _ h.2.2.2 e j
 have I:=ab es (aa es _ _ h);have R:=zm w es [] (lK es) ((lK es).length+1) h (by simp[lK]) J;exact R
theorem nk{e:aG}{w:World}(h:e.Ok w)(j:dN e=0):e.p.Fit:=by
 obtain⟨-, -, -, -, -, -,u⟩:=qy h j;exact⟨h.ha,h.hk,h.hp,by show e.body.length<=32768;rw[h.hb];exact u,j⟩
theorem vB{es:List aG}(R:∀e∈es,e.p.Fit/\e.body.length=e.bn)(ac:∀(k:Nat) e,es[k]? =some e->e.num=(k:Int)/\e.prev=IW (es.take k)):
 ∀(u pre:List aG),es=pre++u->l8 (u.map aG.p) pre.length (lq (pre.map aG.p)):=by
 intro u;induction u with
 |nil=>intro pre _;exact trivial
 |cons e u ag=>
  intro pre j;have hk:es[pre.length]? =some e:=by rw[j];simp
  have ae:es.take pre.length=pre:=by rw[j];simp
  obtain⟨aa,I⟩:=ac _ e hk;rw[ae]at I;have hb:∀x∈pre,x.body.length=x.bn:=fun x af=>(R x (by rw[j];simp[af])).2;have ad:=(R e (by rw[j];simp));refine⟨ad.1,aa,?_,?_⟩
  ·rw[acS hb];exact I
  ·have E:=ag (pre++[e]) (by rw[j];simp);rw[map_append,length_append]at E;have ab:lq (pre.map aG.p++[e].map aG.p)=ig e.p.r:=SC _ _;rw[ab]at E;exact E
theorem oo{es:List aG}{S:dw}(h:o_ es S)(w:World)(u:∀e∈es,e.Ok w):nI (kG es)=(es.map aG.p,0):=by
 have R:=h.valid;have I:=vB (es:=es) (fun e j=>⟨nk (u e j) (R e j),(u e j).hb⟩) (fun k e hk=>⟨(h.at hk).2.1,(h.at hk).2.2⟩) es [] F;have E:=zw w I;rw[acQ fun e j=>(u e j).hb]at E;exact E
section
open Go Go.RowKit
section
variable (nd:aj->aj->aj)
def gX(ls:List (aj))(i:Nat):List (aj):=
 if h:ls.length<2 then[]else
  if i<fB ls.length then gX (ls.take (fB ls.length)) i++[mX nd (ls.drop (fB ls.length))]
  else gX (ls.drop (fB ls.length)) (i - fB ls.length)++[mX nd (ls.take (fB ls.length))]
termination_by ls.length
decreasing_by
 ·have:=FX (n:=ls.length) J;rw[length_take];omega
 ·have:=FX (n:=ls.length) J;rw[length_drop];omega
theorem rR(x:aj)(i:Nat):gX nd [x] i=[]:=by rw[gX];simp
theorem mI{ls:List (aj)}(h:2<=ls.length)(i:Nat):gX nd ls i=if i<fB ls.length then gX nd (ls.take (fB ls.length)) i++[mX nd (ls.drop (fB ls.length))]else gX nd (ls.drop (fB ls.length)) (i - fB ls.length)++[mX nd (ls.take (fB ls.length))]:=by
 rw[gX,dif_neg J]
def iA(ls:List (aj))(m:Nat)(j:Bool):List (aj):=
 if m=ls.length∨ls.length<2 then(if j then[]else[mX nd ls])else
  if m<=fB ls.length then iA (ls.take (fB ls.length)) m j++[mX nd (ls.drop (fB ls.length))]
  else iA (ls.drop (fB ls.length)) (m - fB ls.length) false++[mX nd (ls.take (fB ls.length))]
termination_by ls.length
decreasing_by
 ·have:=FX (n:=ls.length) J;rw[length_take];omega
 ·have:=FX (n:=ls.length) J;rw[length_drop];omega
theorem qb(ls:List (aj))(j:Bool):iA nd ls ls.length j=if j then[]else[mX nd ls]:=by
 rw[iA,if_pos (.inl F)]
theorem mE{ls:List (aj)}(h:2<=ls.length){m:Nat}(u:m≠ls.length)(j:Bool):iA nd ls m j=if m<=fB ls.length then iA nd (ls.take (fB ls.length)) m j++[mX nd (ls.drop (fB ls.length))]else iA nd (ls.drop (fB ls.length)) (m - fB ls.length) false++[mX nd (ls.take (fB ls.length))]:=by
 rw[iA,if_neg J]
theorem mo:∀(n:Nat) (ls:List (aj)) (i:Nat),ls.length=n->(gX nd ls i).length<=n:=by
 intro n;induction n using Nat.strongRecOn with
 |ind n j=>
 intro ls i u;by_cases h:ls.length<2
 ·rw[gX,dif_pos h];simp
 ·have:=FX (n:=ls.length) J;rw[mI nd J];split
  ·have:=j (ls.take (fB ls.length)).length (by rw[length_take];omega) _ i F;rw[length_take]at this;simp only[length_append,length_cons,length_nil];omega
  ·have:=j (ls.drop (fB ls.length)).length (by rw[length_drop];omega) _ (i - fB ls.length) F;rw[length_drop]at this;simp only[length_append,length_cons,length_nil];omega
theorem mh:∀(n:Nat) (ls:List (aj)) (m:Nat) (b:Bool),ls.length=n->(iA nd ls m b).length<=n+1:=by
 intro n;induction n using Nat.strongRecOn with
 |ind n j=>
 intro ls m b u;by_cases h:m=ls.length∨ls.length<2
 ·rw[iA,if_pos h];split<;>simp
 ·have:=FX (n:=ls.length) J;rw[mE nd J J];split
  ·have:=j (ls.take (fB ls.length)).length (by rw[length_take];omega) _ m b F;rw[length_take]at this;simp only[length_append,length_cons,length_nil];omega
  ·have:=j (ls.drop (fB ls.length)).length (by rw[length_drop];omega) _ (m - fB ls.length) false F;rw[length_drop]at this;simp only[length_append,length_cons,length_nil];omega
end
end
theorem vQ(es:List aG):∃C T x y,vJ es=iY C T x y/\x.length=32/\y.length=32:=by
 unfold vJ;split
 ·exact⟨_,_,_,_,F,by unfold iK;simp,by unfold iK;simp⟩
 ·exact⟨_,_,_,_,F,nZ _,yX iO tY (MC es)⟩
theorem vR(es:List aG)(w:World):(binOp .neq 46 (.agg (vJ es).toArray) (.agg (vJ es).toArray)).run prog w= .ok (.bool false) w:=by
 obtain⟨C,T,x,y,j,u,E⟩:=vQ es;rw[j];exact qz C T x y u E w
theorem q8(B g:Nat)(es:List dW)(e:aG)(w:World)(h:nM w B g es)(az:e.Ok w)(bh:dN e=0)(bd:qO es e.p≠0):
 nW 21 #[.pointer (some ⟨g,0,none⟩),.agg e.v.toArray] w (.int .i64 (qO es e.p)):=by
 obtain⟨a5,bi,a6,HZ,bl⟩:=dM az (aG.len az) h bh bd;clear h az bh bd;go_enter func21,ntmps21;go_upto_region 1 with fail;generalize iX:World.alloc w _=a0;have ba:ah a0 w.heap.size e.v 34:=by rw[<-iX];exact ah.aI F F
 have ad:X w a0:=by rw[<-iX];exact(X.refl w).alloc _
 obtain⟨B0,a1,a8,ar⟩:=bU ba ad (a6.ext ad) (a5.ext ad);clear iX ba ad;generalize w.heap.size=g3 at*;clear a6 a5;go_wp2_with (refine bV F 34 _ F F B0 cZ bi ?_);refine(Yw e a0 ar).mono ?_;rintro b3 ai ⟨R,⟨z,v,rfl,ow⟩|⟨z,rfl⟩⟩
 ·have al:=O (B0.ext R);obtain⟨a2,a9,a_⟩:=aW (a1.ext R) (a8.ext R) (ar.ext R);obtain⟨b0,b1,rfl, -, -, -, -⟩:=nT ow;clear z R ow B0 a1 a8 ar;go_upto_region 4 with fail;obtain⟨vo,ve,vl,hb,bv,I,bu⟩:=a9.ex;obtain⟨bo,bp,rfl, -, -, -⟩:=iJ I;have ab:=O hb;obtain⟨N,u⟩:=aC es.length;have aq:=O u;obtain⟨aa,ag⟩:=aC (lq es);obtain⟨a7,ap⟩:=aB ag (show aa.length=32 by rw[<-ag];exact Lh es);have bj:=O (show(aa.map Y).length=32 by rw[length_map];exact ap);obtain⟨b2,be⟩:=aC (wV es);rw[ag,be,u]at ab;clear hb bv I bu u ag be a9;obtain⟨C,iB,aJ⟩:=jJ ai;have bP:C ai:=(iB _).2 (X.refl _);have aw:∀j,C j->j.cell? ⟨g3,0,none⟩=some (.int .i64 e.num):=fun j ax=>(al.ext ((iB j).1 ax)).cell' F;have bc:∀j,C j->j.cell? ⟨g,1,none⟩=some (.slice bo N bp):=fun j ax=>(ab.ext ((iB j).1 ax)).cell' F;obtain⟨ae,I⟩:=aC e.num;have ao:=O I;rw[I]at aw;obtain⟨bn,af⟩:=aC ((ae != (N:Int)):Bool);clear I;refine fJ (ops:=(MV 4)) fun Z=> ?_;refine aA 0 ?_;refine dA 1 (aw) ?_;refine aA 2 ?_;refine aA 3 ?_;refine aA 4 ?_;refine dA 5 (bc) ?_;refine aA 6 ?_;refine aA 7 ?_;refine dH ?_;have E:=O (X.refl ai |>.drew);generalize World.drew ai=v2 at Z⊢E;obtain⟨B2,a4,ac,am⟩:=bU (al.ext E) (ab.ext E) (a_.ext E) (a2.ext E);clear Z aJ iB bP aw bc C al ab a_ a2 E;by_cases u:ae=(N:Int)
  ·subst u;have br:bn=false:=by rw[<-af];simp
   subst br;have bm:=O (show(e.prev.map Y).length=32 by rw[length_map];exact ac.hp);have aE:e.prev≠aa:=fun bw=>bl (by
    unfold qO;rw[if_neg (by simpa[xH]using HZ.out),if_neg (by show¬e.num≠_;rw[ao.out,aq.out];simp),if_neg];show¬e.prev≠lq es;rw[bw,a7.out];simp)
   have an:=O (show qO es e.p=13 by
    unfold qO;rw[if_neg (by simpa[xH]using HZ.out),if_neg (by show¬e.num≠_;rw[ao.out,aq.out];simp),if_pos];show e.prev≠lq es;rw[a7.out];exact aE)
   have bk:=O (fun j=>(vY underlying31 e.prev aa ac.hp ap j).trans (by rw[show(!(e.prev==aa))=true by simpa using aE]));clear aE af;go_upto_region 6 with fail;obtain⟨C,iB,aJ⟩:=jJ v2;have bP:C v2:=(iB _).2 (X.refl _);refine fJ (ops:=(MV 6)) fun Z=> ?_;refine aA 0 ?_;refine bD 1 F (bf F (fun j h=>bQ F F (dF (B2.ext ((iB j).1 h)) (aG.BH ac)) bY bm)) ?_;refine aA 2 ?_;refine aA 3 ?_;refine aA 4 ?_;refine bD 5 F (bf F (fun j h=>bQ F F (dF (a4.ext ((iB j).1 h)) (Ul ap)) bY bj)) ?_;refine bD 6 F (bf F (fun j _=>jm F F F EI (fun w=>bk w) j)) ?_;refine dH ?_;have a3:=O (am.ext ((iB _).1 Z));generalize World.drew v2=v3 at Z⊢a3;clear Z aJ iB bP C B2 a4 ac am;go_wp2_with fail
   (try go_ret)
   exact⟨by rw[an.out];rfl,a3⟩
  ·have bt:bn=true:=by rw[<-af];simp;exact u
   subst bt;have an:=O (show qO es e.p=9 by
    unfold qO;rw[if_neg (by simpa[xH]using HZ.out),if_pos];show e.num≠_;rw[ao.out,aq.out];exact u)
   have bz:(ae != (N:Int))=true:=af;have bx:decide (ae=(N:Int))=false:=aP u;go_wp2_with fail
   (try go_ret)
   exact⟨by rw[an.out];rfl,am⟩
 ·exact absurd HZ.out z
def aG.j4(e:aG)(m:Int):aG:={e with num:=m}
def aG.ko(e:aG)(p:aj):aG:={e with prev:=p}
theorem aG.set0(e:aG)(m:Int):e.v.set 0 (.int .i64 m)=(e.j4 m).v:=F
theorem aG.Bt{e:aG}(ha:e.bI.length=16)(hk:e.key.length=16)(j:e.prev.length=32)(y:UInt8):e.v.set 35 (Y y)=(e.ko (e.prev.set 0 y)).v:=by simp_all [aG.v,aG.ko]
theorem aG.nQ{e:aG}(ha:e.bI.length=16)(hk:e.key.length=16){x:UInt8}(j:e.prev[0]? =some x):e.v[35]? =some (Y x):=by grind [aG.v]
theorem aG.BS{w:World}{e:aG}(h:e.Ok w)(m:Int):(e.j4 m).Ok w:=⟨h.ha,h.hk,h.hp,h.hb,h.hbc,h.bE,h.hn0,h.hcl⟩
theorem aG.Ca{w:World}{e:aG}(h:e.Ok w){p:aj}(j:p.length=32):(e.ko p).Ok w:=⟨h.ha,h.hk,j,h.hb,h.hbc,h.bE,h.hn0,h.hcl⟩
theorem uP{e:aG}(h:dN e=0){m:Int}(j:0<=m)(u:m<=65535):dN (e.j4 m)=0:=by grind [dN,dR,aG.j4]
theorem Ck(x:UInt8):vO x 1≠x:=by
 intro h;have j:=congrArg (fun y=>x ^^^ y) h;unfold vO at j;simp only[<-UInt8.xor_assoc,UInt8.xor_self,UInt8.zero_xor]at j;exact absurd j aX
theorem sw{es:List aG}{S:dw}(h:o_ es S){w:World}(R:∀e∈es,e.Ok w){k:Nat}{e:aG}(hk:es[k]? =some e):qO ((es.take k).map aG.p) e.p=0/\y5 ((es.take k).map aG.p) e.p=(es.take (k+1)).map aG.p:=by
 obtain⟨j,u,E⟩:=h.at hk;have ab:=(List.getElem?_eq_some_iff.1 hk).1;have ha:qO ((es.take k).map aG.p) e.p=0:=by
  unfold qO;rw[if_neg (by rw[<-xH];simpa using j),if_neg (by show¬e.num≠_;rw[u,length_map,length_take,Nat.min_eq_left J];simp),if_neg];show¬e.prev≠_;rw[E,acS fun x aa=>(R x (mem_of_mem_take aa)).hb];exact fun I=>I F
 refine⟨ha,?_⟩;unfold y5;rw[if_pos ha,take_add_one,hk,map_append];rfl
theorem sI{es:List aG}{S:dw}(h:o_ es S){k:Nat}{e:aG}(hk:es[k]? =some e)(hn:k<65535):dN (e.j4 (e.num+1))=0/\qO ((es.take k).map aG.p) (e.j4 (e.num+1)).p=9:=by
 obtain⟨u,E,I⟩:=h.at hk;have R:=(List.getElem?_eq_some_iff.1 hk).1;have j:=uP (m:=e.num+1) u J J;refine⟨j,?_⟩;unfold qO;rw[if_neg (by rw[<-xH];simpa using j),if_pos];show e.num+1≠_;rw[E,length_map,length_take,Nat.min_eq_left J];omega
theorem sM{es:List aG}{S:dw}(h:o_ es S){w:World}(ac:∀e∈es,e.Ok w){k:Nat}{e:aG}(hk:es[k]? =some e){x:UInt8}(j:e.prev[0]? =some x):dN (e.ko (e.prev.set 0 (vO x 1)))=0/\qO ((es.take k).map aG.p) (e.ko (e.prev.set 0 (vO x 1))).p=13:=by
 obtain⟨u,I,R⟩:=h.at hk;have ad:=(List.getElem?_eq_some_iff.1 hk).1;refine⟨u,?_⟩;unfold qO;have aa:dN (e.ko (e.prev.set 0 (vO x 1)))=0:=u;rw[if_neg (by rw[<-xH,aa];simp),if_neg (by show¬e.num≠_;rw[I,length_map,length_take,Nat.min_eq_left J];simp),if_pos];show e.prev.set 0 _≠_;rw[acS fun x j=>(ac x (mem_of_mem_take j)).hb,show MS (es.take k)=e.prev from R.symm];intro ab;have E:(e.prev.set 0 (vO x 1))[0]? =e.prev[0]? :=by rw[ab]
 rw[j,List.getElem?_set_self (by obtain⟨h, -⟩:=List.getElem?_eq_some_iff.1 j;exact h)]at E;exact Ck x (Option.some.inj E)
theorem Al{nd:aj->aj->aj}(u:∀a b,(nd a b).length=32):∀(n:Nat) (ls:List (aj)) (i:Nat),ls.length=n->jB ls->jB (gX nd ls i):=by
 intro n;induction n using Nat.strongRecOn with
 |ind n E=>
 intro ls i I nE;by_cases h:ls.length<2
 ·rw[gX,dif_pos h];intro x j;simp at j
 ·have:=FX (n:=ls.length) J;rw[mI nd J];split
  ·intro x j;rcases mem_append.1 j with j|j
   ·exact E (ls.take (fB ls.length)).length (by rw[length_take];omega) _ i F (nE.take _) x j
   ·rw[mem_singleton.1 j];exact yX nd u (nE.drop _)
  ·intro x j;rcases mem_append.1 j with j|j
   ·exact E (ls.drop (fB ls.length)).length (by rw[length_drop];omega) _ (i - fB ls.length) F (nE.drop _) x j
   ·rw[mem_singleton.1 j];exact yX nd u (nE.take _)
theorem vE{nd:aj->aj->aj}(u:∀a b,(nd a b).length=32):∀(n:Nat) (ls:List (aj)) (m:Nat) (b:Bool),ls.length=n->jB ls->jB (iA nd ls m b):=by
 intro n;induction n using Nat.strongRecOn with
 |ind n E=>
 intro ls m b R nE;by_cases h:m=ls.length∨ls.length<2
 ·rw[iA,if_pos h];intro x j;cases b with
  |true=>simp at j
  |false=>
   have I:x=mX nd ls:=by simpa using j
   rw[I];exact yX nd u nE
 ·have:=FX (n:=ls.length) J;rw[mE nd J J];split
  ·intro x j;rcases mem_append.1 j with j|j
   ·exact E (ls.take (fB ls.length)).length (by rw[length_take];omega) _ m b F (nE.take _) x j
   ·rw[mem_singleton.1 j];exact yX nd u (nE.drop _)
  ·intro x j;rcases mem_append.1 j with j|j
   ·exact E (ls.drop (fB ls.length)).length (by rw[length_drop];omega) _ (m - fB ls.length) false F (nE.drop _) x j
   ·rw[mem_singleton.1 j];exact yX nd u (nE.take _)
theorem uR(B g:Nat)(es:List dW)(i:Int)(w:World)(h:nM w B g es)(af:i<0∨(es.length:Int)<=i):
 nW 22 #[.pointer (some ⟨g,0,none⟩),.int .i64 i] w (.tuple #[.agg dS.v.toArray,.int .i64 7]):=by
 obtain⟨vo,ve,vl,hb,ad,ac,ae⟩:=h.ex;obtain⟨aa,ab,rfl, -, -, -⟩:=iJ ac;have u:=O (hb.cell' (i:=1) (v:= .slice aa es.length ab) F);obtain⟨bb,u7⟩:=aC (decide (i<0));have vD:bb=false->decide ((es.length:Int)<=i)=true:=fun h=>by
  rw[h]at u7;have:=of_decide_eq_false u7;exact aQ J
 clear h hb ad ac ae af;go_enter func22,ntmps22;go_upto_region 1 with fail;generalize iX:World.alloc w _=R;have zA:ah R w.heap.size dS.v 34:=by rw[<-iX];exact ah.aI F F
 have E:X w R:=by rw[<-iX];exact(X.refl w).alloc _
 clear iX;obtain⟨ZA,EA⟩:=aB zA E;have u:R.cell? ⟨g,1,none⟩=some (.slice aa es.length ab):=by rw[E.cell (block_lt_of_cell u)];exact u
 clear zA E;cases bb with
 |true=>
  clear vD;go_wp2_with (refine bg F _ _ _ F F F ZA cZ dZ (xs:=dS.v) dZ (i_ dS) ?_);intro ag j I;go_wp2;refine iy F F j cZ dZ F ⟨F,I.ext EA l5⟩
 |false=>
  have vD:=vD F;go_wp2_with (refine bg F _ _ _ F F F ZA cZ dZ (xs:=dS.v) dZ (i_ dS) ?_);intro ag j I;go_wp2;refine iy F F j cZ dZ F ⟨F,I.ext EA l5⟩
theorem Lv{G:Prop}(e:G:=by
 intro n;induction n using Nat.strongRecOn with
 |ind n ih=>
 intro ls i c a w hl hi h2 nE hnc Db hcl;have Er:=O ih;clear ih;by_cases hn:n=1
 ·subst hn;obtain⟨y,rfl⟩:=length_eq_one_iff.1 hl;rw[rR];clear Er hcl nE hl;first|go_enter func105,ntmps105|go_enter func25,ntmps25
  go_wp2_with fail
  (try go_ret)
  exact⟨_,F,World.ownsRow_nil _ _ _ _,X.refl _⟩
 ·have uW:=FX (n:=n) J;obtain⟨hc,hd⟩:=aB (fun w=>gL n w J J) (fun w=>Xd n w J J);have hr:=mI iO (ls:=ls) J i;rw[hl]at hr;have yD:(ls.take (fB n)).length=fB n:=by rw[length_take];omega
  have sP:(ls.drop (fB n)).length=n - fB n:=by rw[length_drop];omega
  have Co:=hcl.Oj nE (fB n);have y9:=hcl.Ol nE c (fB n) J;have d1:((n:Int)==1)=false:=by simp;omega
  have d2:(n==1)=false:=by simp[hn]
  by_cases Fw:i<fB n
  ·rw[if_pos Fw]at hr;rw[hr];obtain⟨Cv,Da,u6,Cz⟩:=bU (fun w' tF=>Er (fB n) J (ls.take (fB n)) i c a w' yD Fw J (nE.take _) J Db tF) (fun w' tF=>abP (n - fB n) (ls.drop (fB n)) (c - fB n) (qX a c (fB n) 32) w' sP J J (nE.drop _) J J tF) (fun w' tF=>abQ (n - fB n) (ls.drop (fB n)) (c - fB n) (qX a c (fB n) 32) w' sP J J (nE.drop _) J J tF) (yX iO tY (nE.drop (fB n)));have za:=mo iO (fB n) (ls.take (fB n)) i yD;have d3:decide ((i:Int)<(fB n:Int))=true:=aQ J;have d4:decide (i<fB n)=true:=aQ Fw;generalize gX iO (ls.take (fB n)) i=p at*;generalize mX iO (ls.drop (fB n))=q at*;generalize ls.take (fB n)=l1 at*;generalize ls.drop (fB n)=l2 at*;generalize fB n=k at*;obtain⟨k1,k2,k3⟩:=uW;obtain⟨CK,FJ⟩:=aB Co y9;clear Er hcl nE hl hr yD sP Co y9;first|go_enter func105,ntmps105|go_enter func25,ntmps25
   go_upto_region 5 with(first|(go_at_call 157;refine(hc _).mono ?_;rintro e w' ⟨rfl,rfl⟩)|(go_at_call 66;refine(hd _).mono ?_;rintro e w' ⟨rfl,rfl⟩));obtain⟨C,iB,aJ,bP⟩:=iw (show bT w w [] [] w from bT.jA (X.refl _) (dV.none _));refine fJ fun Z=> ?_;refine aA 0 ?_;refine aA 1 ?_;refine bD 2 F (bf F (fun w1 _=>zB (k:=k) F F F underlying59 Bf J w1)) ?_;refine aA 3 ?_;refine aA 5 ?_;refine aA 6 ?_;refine bD 7 F (bf F (fun w1 _=>Jr (k:=k) F F F underlying59 Bf J w1)) ?_;generalize World.drew w=wD at Z⊢;refine aZ 4 ?_;intro Q' hQ;go_wp2_with fail;refine(Cv wD (CK.ext ((iB wD).1 Z).base)).mono ?_;rintro e wE ⟨v,rfl,ow,eE⟩;have OW:=O (mg ow ((iB wD).1 Z).base.size);have hE:=aJ _ _ Z eE;go_wp2_with fail;refine hQ _ _ hE ?_;clear hQ Q' Z eE Cv ow;refine aH ?_;refine aZ 8 ?_;intro Q' hQ;go_wp2_with fail;first|refine(Da wE (FJ.ext ((iB wE).1 hE).base)).mono ?_|refine(u6 wE (FJ.ext ((iB wE).1 hE).base)).mono ?_
   rintro e wF ⟨rfl,eF⟩;have hF:=aJ _ _ hE eF;have OF:=O (dQ OW eF);go_wp2_with fail;refine hQ _ _ hF ?_;clear hQ Q' hE eF Da u6 OW;refine aH ?_;refine aZ 9 ?_;intro Q' hQ;go_wp2_with (refine TR F F F Cz ?_);generalize zR:World.alloc wF _=wG;have bG:ah wG wF.heap.size (q.map Y) 31:=by rw[<-zR];exact ah.aI F F
   have eG:X wF wG:=by rw[<-zR];exact(X.refl wF).alloc _
   obtain⟨BG,OG⟩:=aB bG (dQ OF eG);have hG:=aJ _ _ hF eG;clear zR bG eG OF hF;go_wp2_with fail;refine hQ _ _ hG ?_;clear hQ Q';refine aH ?_;have CF:=O ((iB wG).1 hG).base;have mU:=CF.size;refine aZ 10 ?_;intro Q' hQ;go_wp2_with (refine TS F _ _ F w.heap.size F F OG Cz BG J mU ?_);intro v' wH El C8 _;have Z:C wH:=(iB wH).2 (((iB wG).1 hG).grown C8 (fun g hg=>(OG.lt g hg).1) l5);have OH:=O El;go_wp2_with fail;refine hQ _ _ Z ?_;clear hQ Q' hG El C8 OG BG CF;refine aH ?_;refine aZ 11 ?_;intro Q' hQ;go_wp2_with (fail);refine hQ _ _ Z ?_;clear hQ Q';refine aH ?_;refine dH ?_;have EH:=O ((iB wH).1 Z).base;clear Z aJ iB bP;go_wp2_with fail
   (try go_ret)
   exact⟨_,F,by rw[length_append];exact OH,EH⟩
  ·rw[if_neg Fw]at hr;rw[hr];obtain⟨Cv,Da,u6,Cz⟩:=bU (fun w' tF=>Er (n - fB n) J (ls.drop (fB n)) (i - fB n) (c - fB n) (qX a c (fB n) 32) w' sP J J (nE.drop _) J J tF) (fun w' tF=>abP (fB n) (ls.take (fB n)) c a w' yD J J (nE.take _) J Db tF) (fun w' tF=>abQ (fB n) (ls.take (fB n)) c a w' yD J J (nE.take _) J Db tF) (yX iO tY (nE.take (fB n)));have za:=mo iO (n - fB n) (ls.drop (fB n)) (i - fB n) sP;have d3:decide ((i:Int)<(fB n:Int))=false:=aP J;have d4:decide (i<fB n)=false:=aP Fw;have Fy:IntKind.i64.wrap ((i:Int) - (fB n:Int))=((i - fB n:Nat):Int):=by rw[IntWalk.i64_in _ J];omega
   generalize gX iO (ls.drop (fB n)) (i - fB n)=p at*;generalize mX iO (ls.take (fB n))=q at*;generalize i - fB n=j at*;generalize ls.take (fB n)=l1 at*;generalize ls.drop (fB n)=l2 at*;generalize fB n=k at*;obtain⟨k1,k2,k3⟩:=uW;obtain⟨CK,FJ⟩:=aB Co y9;clear Er hcl nE hl hr yD sP Co y9;first|go_enter func105,ntmps105|go_enter func25,ntmps25
   go_upto_region 6 with(first|(go_at_call 157;refine(hc _).mono ?_;rintro e w' ⟨rfl,rfl⟩)|(go_at_call 66;refine(hd _).mono ?_;rintro e w' ⟨rfl,rfl⟩));obtain⟨C,iB,aJ,bP⟩:=iw (show bT w w [] [] w from bT.jA (X.refl _) (dV.none _));refine fJ fun Z=> ?_;refine aA 0 ?_;refine aA 1 ?_;refine bD 2 F (bf F (fun w1 _=>Jr (k:=k) F F F underlying59 Bf J w1)) ?_;refine aA 3 ?_;refine aA 4 ?_;refine aA 5 ?_;refine aA 7 ?_;refine aA 8 ?_;refine bD 9 F (bf F (fun w1 _=>zB (k:=k) F F F underlying59 Bf J w1)) ?_;generalize World.drew w=wD at Z⊢;refine aZ 6 ?_;intro Q' hQ;go_wp2_with fail;refine(Cv wD (FJ.ext ((iB wD).1 Z).base)).mono ?_;rintro e wE ⟨v,rfl,ow,eE⟩;have OW:=O (mg ow ((iB wD).1 Z).base.size);have hE:=aJ _ _ Z eE;go_wp2_with fail;refine hQ _ _ hE ?_;clear hQ Q' Z eE Cv ow;refine aH ?_;refine aZ 10 ?_;intro Q' hQ;go_wp2_with fail;first|refine(Da wE (CK.ext ((iB wE).1 hE).base)).mono ?_|refine(u6 wE (CK.ext ((iB wE).1 hE).base)).mono ?_
   rintro e wF ⟨rfl,eF⟩;have hF:=aJ _ _ hE eF;have OF:=O (dQ OW eF);go_wp2_with fail;refine hQ _ _ hF ?_;clear hQ Q' hE eF Da u6 OW;refine aH ?_;refine aZ 11 ?_;intro Q' hQ;go_wp2_with (refine TR F F F Cz ?_);generalize zR:World.alloc wF _=wG;have bG:ah wG wF.heap.size (q.map Y) 31:=by rw[<-zR];exact ah.aI F F
   have eG:X wF wG:=by rw[<-zR];exact(X.refl wF).alloc _
   obtain⟨BG,OG⟩:=aB bG (dQ OF eG);have hG:=aJ _ _ hF eG;clear zR bG eG OF hF;go_wp2_with fail;refine hQ _ _ hG ?_;clear hQ Q';refine aH ?_;have CF:=O ((iB wG).1 hG).base;have mU:=CF.size;refine aZ 12 ?_;intro Q' hQ;go_wp2_with (refine TS F _ _ F w.heap.size F F OG Cz BG J mU ?_);intro v' wH El C8 _;have Z:C wH:=(iB wH).2 (((iB wG).1 hG).grown C8 (fun g hg=>(OG.lt g hg).1) l5);have OH:=O El;go_wp2_with fail;refine hQ _ _ Z ?_;clear hQ Q' hG El C8 OG BG CF;refine aH ?_;refine aZ 13 ?_;intro Q' hQ;go_wp2_with (fail);refine hQ _ _ Z ?_;clear hQ Q';refine aH ?_;refine dH ?_;have EH:=O ((iB wH).1 Z).base;clear Z aJ iB bP;go_wp2_with fail
   (try go_ret)
   exact⟨_,F,by rw[length_append];exact OH,EH⟩):G:=e
theorem Ao:∀(n:Nat) (ls:List (aj)) (i c:Nat) (a:aN) (w:World),ls.length=n->i<n->n<=65536->jB ls->n<=c->c<=9223372036854775807->aK w a (dB ls)->
 Calls prog 105 #[.slice a n c,.int .i64 (i:Int)] w fun e w'=>∃v,e= .returned v/\w'.ownsRow w.heap.size 31 32 v (gX iO ls i).length (dB (gX iO ls i))/\X w w':=Lv
theorem Bp:∀(n:Nat) (ls:List (aj)) (i c:Nat) (a:aN) (w:World),ls.length=n->i<n->n<=65536->jB ls->n<=c->c<=9223372036854775807->aK w a (dB ls)->
 Calls prog 25 #[.slice a n c,.int .i64 (i:Int)] w fun e w'=>∃v,e= .returned v/\w'.ownsRow w.heap.size 31 32 v (gX iO ls i).length (dB (gX iO ls i))/\X w w':=Lv
theorem Lg{G:Prop}(e:G:=by
 intro n;induction n using Nat.strongRecOn with
 |ind n ih=>
 intro ls m b c a w hl Dm Gr h2 nE hnc Db hcl;have Er:=O ih;clear ih;by_cases hn:m=n
 ·subst hn;have hw:=qb iO ls b;rw[hl]at hw;rw[hw];have d1:((m:Int)==(m:Int))=true:=beq_self_eq_true _;obtain⟨CX,I9,Cz,uE⟩:=bU (fun w' tF=>abP m ls c a w' hl J h2 nE hnc Db tF) (fun w' tF=>abQ m ls c a w' hl J h2 nE hnc Db tF) (yX iO tY nE) hcl;generalize mX iO ls=q at*;clear Er hcl nE hl hw;cases b with
  |true=>
   clear CX I9;first|go_enter func106,ntmps106|go_enter func28,ntmps28
   go_wp2_with fail
   (try go_ret)
   exact⟨_,F,World.ownsRow_nil _ _ _ _,X.refl _⟩
  |false=>
   first|go_enter func106,ntmps106|go_enter func28,ntmps28
   go_wp2_with fail;first|refine(CX w uE).mono ?_|refine(I9 w uE).mono ?_
   rintro e w1 ⟨rfl,e1⟩;go_wp2_with (refine TR F F F Cz ?_);generalize zR:World.alloc w1 _=wG;have bG:ah wG w1.heap.size (q.map Y++[]) 31:=by rw[<-zR,append_nil];exact ah.aI F F
   have eG:X w wG:=by rw[<-zR];exact e1.alloc _
   have Li:=Z5 (n:=1) (cap:=1) (z:=32) bG (by rw[append_nil,length_map,Cz.out]) (by rw[length_map,Cz.out]) e1.size J (by unfold maxLen;omega);have OV:=O (show wG.ownsRow w.heap.size 31 32 (.slice (some ⟨w1.heap.size,0,none⟩) 1 1) 1 (dB [q]) by rw[Oi];exact Li);clear zR bG Li e1;go_wp2_with fail
   (try go_ret)
   exact⟨_,F,OV,eG⟩
 ·have uW:=FX (n:=n) J;obtain⟨hc,hd⟩:=aB (fun w=>gL n w J J) (fun w=>Xd n w J J);have hr:=mE iO (ls:=ls) J (m:=m) J b;rw[hl]at hr;have yD:(ls.take (fB n)).length=fB n:=by rw[length_take];omega
  have sP:(ls.drop (fB n)).length=n - fB n:=by rw[length_drop];omega
  have Co:=hcl.Oj nE (fB n);have y9:=hcl.Ol nE c (fB n) J;have d1:((m:Int)==(n:Int))=false:=by simp;omega
  have d2:(m==n)=false:=by simp[hn]
  by_cases Fw:m<=fB n
  ·rw[if_pos Fw]at hr;rw[hr];obtain⟨Cv,Da,u6,Cz⟩:=bU (fun w' tF=>Er (fB n) J (ls.take (fB n)) m b c a w' yD Dm Fw J (nE.take _) J Db tF) (fun w' tF=>abP (n - fB n) (ls.drop (fB n)) (c - fB n) (qX a c (fB n) 32) w' sP J J (nE.drop _) J J tF) (fun w' tF=>abQ (n - fB n) (ls.drop (fB n)) (c - fB n) (qX a c (fB n) 32) w' sP J J (nE.drop _) J J tF) (yX iO tY (nE.drop (fB n)));have za:=mh iO (fB n) (ls.take (fB n)) m b yD;have d3:decide ((m:Int)<=(fB n:Int))=true:=aQ J;have d4:decide (m<=fB n)=true:=aQ Fw;generalize iA iO (ls.take (fB n)) m b=p at*;generalize mX iO (ls.drop (fB n))=q at*;generalize ls.take (fB n)=l1 at*;generalize ls.drop (fB n)=l2 at*;generalize fB n=k at*;obtain⟨k1,k2,k3⟩:=uW;obtain⟨CK,FJ⟩:=aB Co y9;clear Er hcl nE hl hr yD sP Co y9;first|go_enter func106,ntmps106|go_enter func28,ntmps28
   go_upto_region 7 with(first|(go_at_call 157;refine(hc _).mono ?_;rintro e w' ⟨rfl,rfl⟩)|(go_at_call 66;refine(hd _).mono ?_;rintro e w' ⟨rfl,rfl⟩));obtain⟨C,iB,aJ,bP⟩:=iw (show bT w w [] [] w from bT.jA (X.refl _) (dV.none _));refine fJ fun Z=> ?_;refine aA 0 ?_;refine aA 1 ?_;refine bD 2 F (bf F (fun w1 _=>zB (k:=k) F F F underlying59 Bf J w1)) ?_;refine aA 3 ?_;refine aA 4 ?_;refine aA 6 ?_;refine aA 7 ?_;refine bD 8 F (bf F (fun w1 _=>Jr (k:=k) F F F underlying59 Bf J w1)) ?_;generalize World.drew w=wD at Z⊢;refine aZ 5 ?_;intro Q' hQ;go_wp2_with fail;refine(Cv wD (CK.ext ((iB wD).1 Z).base)).mono ?_;rintro e wE ⟨v,rfl,ow,eE⟩;have OW:=O (mg ow ((iB wD).1 Z).base.size);have hE:=aJ _ _ Z eE;go_wp2_with fail;refine hQ _ _ hE ?_;clear hQ Q' Z eE Cv ow;refine aH ?_;refine aZ 9 ?_;intro Q' hQ;go_wp2_with fail;first|refine(Da wE (FJ.ext ((iB wE).1 hE).base)).mono ?_|refine(u6 wE (FJ.ext ((iB wE).1 hE).base)).mono ?_
   rintro e wF ⟨rfl,eF⟩;have hF:=aJ _ _ hE eF;have OF:=O (dQ OW eF);go_wp2_with fail;refine hQ _ _ hF ?_;clear hQ Q' hE eF Da u6 OW;refine aH ?_;refine aZ 10 ?_;intro Q' hQ;go_wp2_with (refine TR F F F Cz ?_);generalize zR:World.alloc wF _=wG;have bG:ah wG wF.heap.size (q.map Y) 31:=by rw[<-zR];exact ah.aI F F
   have eG:X wF wG:=by rw[<-zR];exact(X.refl wF).alloc _
   obtain⟨BG,OG⟩:=aB bG (dQ OF eG);have hG:=aJ _ _ hF eG;clear zR bG eG OF hF;go_wp2_with fail;refine hQ _ _ hG ?_;clear hQ Q';refine aH ?_;have CF:=O ((iB wG).1 hG).base;have mU:=CF.size;refine aZ 11 ?_;intro Q' hQ;go_wp2_with (refine TS F _ _ F w.heap.size F F OG Cz BG J mU ?_);intro v' wH El C8 _;have Z:C wH:=(iB wH).2 (((iB wG).1 hG).grown C8 (fun g hg=>(OG.lt g hg).1) l5);have OH:=O El;go_wp2_with fail;refine hQ _ _ Z ?_;clear hQ Q' hG El C8 OG BG CF;refine aH ?_;refine aZ 12 ?_;intro Q' hQ;go_wp2_with (fail);refine hQ _ _ Z ?_;clear hQ Q';refine aH ?_;refine dH ?_;have EH:=O ((iB wH).1 Z).base;clear Z aJ iB bP;go_wp2_with fail
   (try go_ret)
   exact⟨_,F,by rw[length_append];exact OH,EH⟩
  ·rw[if_neg Fw]at hr;rw[hr];obtain⟨Cv,Da,u6,Cz⟩:=bU (fun w' tF=>Er (n - fB n) J (ls.drop (fB n)) (m - fB n) false (c - fB n) (qX a c (fB n) 32) w' sP J J J (nE.drop _) J J tF) (fun w' tF=>abP (fB n) (ls.take (fB n)) c a w' yD J J (nE.take _) J Db tF) (fun w' tF=>abQ (fB n) (ls.take (fB n)) c a w' yD J J (nE.take _) J Db tF) (yX iO tY (nE.take (fB n)));have za:=mh iO (n - fB n) (ls.drop (fB n)) (m - fB n) false sP;have d3:decide ((m:Int)<=(fB n:Int))=false:=aP J;have d4:decide (m<=fB n)=false:=aP Fw;have Fy:IntKind.i64.wrap ((m:Int) - (fB n:Int))=((m - fB n:Nat):Int):=by rw[IntWalk.i64_in _ J];omega
   generalize iA iO (ls.drop (fB n)) (m - fB n) false=p at*;generalize mX iO (ls.take (fB n))=q at*;generalize m - fB n=j at*;generalize ls.take (fB n)=l1 at*;generalize ls.drop (fB n)=l2 at*;generalize fB n=k at*;obtain⟨k1,k2,k3⟩:=uW;obtain⟨CK,FJ⟩:=aB Co y9;clear Er hcl nE hl hr yD sP Co y9;first|go_enter func106,ntmps106|go_enter func28,ntmps28
   go_upto_region 8 with(first|(go_at_call 157;refine(hc _).mono ?_;rintro e w' ⟨rfl,rfl⟩)|(go_at_call 66;refine(hd _).mono ?_;rintro e w' ⟨rfl,rfl⟩));obtain⟨C,iB,aJ,bP⟩:=iw (show bT w w [] [] w from bT.jA (X.refl _) (dV.none _));refine fJ fun Z=> ?_;refine aA 0 ?_;refine aA 1 ?_;refine bD 2 F (bf F (fun w1 _=>Jr (k:=k) F F F underlying59 Bf J w1)) ?_;refine aA 3 ?_;refine aA 4 ?_;refine aA 5 ?_;refine aA 7 ?_;refine aA 8 ?_;refine bD 9 F (bf F (fun w1 _=>zB (k:=k) F F F underlying59 Bf J w1)) ?_;generalize World.drew w=wD at Z⊢;refine aZ 6 ?_;intro Q' hQ;go_wp2_with fail;refine(Cv wD (FJ.ext ((iB wD).1 Z).base)).mono ?_;rintro e wE ⟨v,rfl,ow,eE⟩;have OW:=O (mg ow ((iB wD).1 Z).base.size);have hE:=aJ _ _ Z eE;go_wp2_with fail;refine hQ _ _ hE ?_;clear hQ Q' Z eE Cv ow;refine aH ?_;refine aZ 10 ?_;intro Q' hQ;go_wp2_with fail;first|refine(Da wE (CK.ext ((iB wE).1 hE).base)).mono ?_|refine(u6 wE (CK.ext ((iB wE).1 hE).base)).mono ?_
   rintro e wF ⟨rfl,eF⟩;have hF:=aJ _ _ hE eF;have OF:=O (dQ OW eF);go_wp2_with fail;refine hQ _ _ hF ?_;clear hQ Q' hE eF Da u6 OW;refine aH ?_;refine aZ 11 ?_;intro Q' hQ;go_wp2_with (refine TR F F F Cz ?_);generalize zR:World.alloc wF _=wG;have bG:ah wG wF.heap.size (q.map Y) 31:=by rw[<-zR];exact ah.aI F F
   have eG:X wF wG:=by rw[<-zR];exact(X.refl wF).alloc _
   obtain⟨BG,OG⟩:=aB bG (dQ OF eG);have hG:=aJ _ _ hF eG;clear zR bG eG OF hF;go_wp2_with fail;refine hQ _ _ hG ?_;clear hQ Q';refine aH ?_;have CF:=O ((iB wG).1 hG).base;have mU:=CF.size;refine aZ 12 ?_;intro Q' hQ;go_wp2_with (refine TS F _ _ F w.heap.size F F OG Cz BG J mU ?_);intro v' wH El C8 _;have Z:C wH:=(iB wH).2 (((iB wG).1 hG).grown C8 (fun g hg=>(OG.lt g hg).1) l5);have OH:=O El;go_wp2_with fail;refine hQ _ _ Z ?_;clear hQ Q' hG El C8 OG BG CF;refine aH ?_;refine aZ 13 ?_;intro Q' hQ;go_wp2_with (fail);refine hQ _ _ Z ?_;clear hQ Q';refine aH ?_;refine dH ?_;have EH:=O ((iB wH).1 Z).base;clear Z aJ iB bP;go_wp2_with fail
   (try go_ret)
   exact⟨_,F,by rw[length_append];exact OH,EH⟩):G:=e
theorem vL:∀(n:Nat) (ls:List (aj)) (m:Nat) (b:Bool) (c:Nat) (a:aN) (w:World),ls.length=n->1<=m->m<=n->n<=65536->jB ls->n<=c->c<=9223372036854775807->aK w a (dB ls)->
 Calls prog 106 #[.slice a n c,.int .i64 (m:Int),.bool b] w fun e w'=>∃v,e= .returned v/\w'.ownsRow w.heap.size 31 32 v (iA iO ls m b).length (dB (iA iO ls m b))/\X w w':=Lg
theorem Bn:∀(n:Nat) (ls:List (aj)) (m:Nat) (b:Bool) (c:Nat) (a:aN) (w:World),ls.length=n->1<=m->m<=n->n<=65536->jB ls->n<=c->c<=9223372036854775807->aK w a (dB ls)->
 Calls prog 28 #[.slice a n c,.int .i64 (m:Int),.bool b] w fun e w'=>∃v,e= .returned v/\w'.ownsRow w.heap.size 31 32 v (iA iO ls m b).length (dB (iA iO ls m b))/\X w w':=Lg
def gT(i n:Int)(v:Value):aO:=[.int .i64 i,.int .i64 n,v]
theorem iN:iH prog 61 3:=⟨⟨_,underlying61,F⟩,au⟩
theorem jN(i n:Int)(a:aN)(m c:Nat):∀v∈gT i n (.slice a m c),v.oneCell'=true:=by
 intro v j;simp only[gT,mem_cons,not_mem_nil,or_false]at j;rcases j with rfl|rfl|rfl<;>rfl
theorem K8{G:Prop}(e:G:=by
 have hf:=O (fun w=>ab4 a n c w hn);rw[if_neg J]at hf;first|((obtain⟨bb,u7⟩:∃b,decide (i<0)=b:=⟨_,F⟩;have vD:bb=false->decide ((n:Int)<=i)=true:=(fun h=>(by(rw[h]at u7;have:=of_decide_eq_false u7;exact aQ J)))))|((obtain⟨bb,u7⟩:∃b,decide (i<1)=b:=⟨_,F⟩;have vD:bb=false->decide ((n:Int)<i)=true:=(fun h=>(by(rw[h]at u7;have:=of_decide_eq_false u7;exact aQ J)))))
 first|go_enter func65,ntmps65|go_enter func68,ntmps68
 go_upto_region 1 with fail;generalize iX:World.alloc w _=wA;have zA:ah wA w.heap.size (gT 0 0 (.slice none 0 0)) 61:=by rw[<-iX];exact ah.aI F F
 have eA:X w wA:=by rw[<-iX];exact(X.refl w).alloc _
 clear iX;obtain⟨ZA,EA⟩:=aB zA eA;clear zA eA hi;cases bb with
 |true=>
  go_wp2_with (first|(go_at_call 100;refine(hf _).mono ?_;rintro e w' ⟨rfl,rfl⟩)|(refine bg F _ _ _ F F F ZA iN (by simp[gT]) (xs:=gT 0 0 (.slice none 0 0)) F (jN 0 0 none 0 0) ?_));intro w4 b4 u4;go_wp2;refine iy F F b4 iN F F ⟨F,u4.ext EA l5⟩
 |false=>
  have vD:=vD F;go_wp2_with (first|(go_at_call 100;refine(hf _).mono ?_;rintro e w' ⟨rfl,rfl⟩)|(refine bg F _ _ _ F F F ZA iN (by simp[gT]) (xs:=gT 0 0 (.slice none 0 0)) F (jN 0 0 none 0 0) ?_));intro w4 b4 u4;go_wp2;refine iy F F b4 iN F F ⟨F,u4.ext EA l5⟩):G:=e
theorem AJ(a:aN)(n c:Nat)(i:Int)(w:World)(j:1<=n)(hn:n<=65536)(hi:i<0∨(n:Int)<=i):
 Calls prog 65 #[.slice a n c,.int .i64 i] w fun x w'=>x= .returned (.tuple #[.agg (gT 0 0 (.slice none 0 0)).toArray,.int .i64 7])/\X w w':=K8
theorem K9{G:Prop}(e:G:=by
 have hf:=O (fun w=>ab4 a n c w hn);rw[if_neg J]at hf;first|((have HP:=O (fun w' tF=>Ao n ls i c a w' hl hi hn nE hnc Db tF);have d1:decide ((i:Int)<0)=false:=aP J;have d2:decide ((n:Int)<=(i:Int))=false:=aP J;have d3:decide (n<=i)=false:=aP J;generalize (gX iO ls i)=p at*))|((have HP:=O (fun w' tF=>vL n ls i true c a w' hl hi.1 hi.2 hn nE hnc Db tF);have d1:decide ((i:Int)<1)=false:=aP J;have d2:decide ((n:Int)<(i:Int))=false:=aP J;have d3:decide (n<i)=false:=aP J;generalize (iA iO ls i true)=p at*))
 have HC:=O hcl;clear hl nE hcl;first|go_enter func65,ntmps65|go_enter func68,ntmps68
 go_upto_region 1 with fail;generalize iX:World.alloc w _=wA;have zA:ah wA w.heap.size (gT 0 0 (.slice none 0 0)) 61:=by rw[<-iX];exact ah.aI F F
 have eA:X w wA:=by rw[<-iX];exact(X.refl w).alloc _
 clear iX;obtain⟨ZA,EA⟩:=aB zA eA;clear zA eA;go_wp2_with (go_at_call 100;refine(hf _).mono ?_;rintro e w' ⟨rfl,rfl⟩);refine(HP wA (HC.ext EA)).mono ?_;rintro e w1 ⟨v,rfl,ow,e1⟩;obtain⟨ra,rc,rfl, -, -, -⟩:=iJ ow;obtain⟨Z1,OW,E1⟩:=aW (ZA.ext e1) (mg ow EA.size) (EA.ext e1);clear ow e1 ZA EA;go_wp2_with (refine bg F _ _ _ F F F Z1 iN (by simp[gT]) (xs:=gT i n (.slice ra p.length rc)) F (jN i n ra p.length rc) ?_);intro w4 b4 u4;have FL:=O (n_ OW u4 Z1 aX);go_wp2;refine iy F F b4 iN F F ⟨_,F,FL,u4.ext E1 l5⟩):G:=e
theorem A9(ls:List (aj))(a:aN)(n c i:Nat)(w:World)(hl:ls.length=n)(hn:n<=65536)(hi:i<n)(nE:jB ls)(hnc:n<=c)(Db:c<=9223372036854775807)(hcl:aK w a (dB ls)):
 Calls prog 65 #[.slice a n c,.int .i64 (i:Int)] w fun x w'=>∃v,x= .returned (.tuple #[.agg (gT i n v).toArray,.int .i64 0])/\w'.ownsRow w.heap.size 31 32 v (gX iO ls i).length (dB (gX iO ls i))/\X w w':=K9
theorem Ay(a:aN)(n c:Nat)(i:Int)(w:World)(j:1<=n)(hn:n<=65536)(hi:i<1∨(n:Int)<i):
 Calls prog 68 #[.slice a n c,.int .i64 i] w fun x w'=>x= .returned (.tuple #[.agg (gT 0 0 (.slice none 0 0)).toArray,.int .i64 4])/\X w w':=K8
theorem AF(ls:List (aj))(a:aN)(n c i:Nat)(w:World)(hl:ls.length=n)(hn:n<=65536)(hi:1<=i/\i<=n)(nE:jB ls)(hnc:n<=c)(Db:c<=9223372036854775807)(hcl:aK w a (dB ls)):
 Calls prog 68 #[.slice a n c,.int .i64 (i:Int)] w fun x w'=>∃v,x= .returned (.tuple #[.agg (gT i n v).toArray,.int .i64 0])/\w'.ownsRow w.heap.size 31 32 v (iA iO ls i true).length (dB (iA iO ls i true))/\X w w':=K9
theorem Lb{G:Prop}(e:G:=by
 have hn:=h.n;obtain⟨vo,ve,vl,hb,h2,h3,h4⟩:=h.ex;obtain⟨la,lc,rfl,Ka, -,Dk⟩:=iJ h4;first|have HC:=O (fun w'=>AJ la es.length lc i w' h1 hn hi)|have HC:=O (fun w'=>Ay la es.length lc i w' h1 hn hi)
 have Ev:=O (hb.cell' (Um (Lh es)));have j3:=hb.lt;clear h hb h2 h3 h4 Dk hi;first|go_enter func23,ntmps23|go_enter func27,ntmps27
 go_upto_region 1 with fail;generalize iX:World.alloc w _=wA;have zA:ah wA w.heap.size (gT 0 0 (.slice none 0 0)) 61:=by rw[<-iX];exact ah.aI F F
 have eA:X w wA:=by rw[<-iX];exact(X.refl w).alloc _
 clear iX;obtain⟨ZA,EA⟩:=aB zA eA;have Ev:wA.cell? ⟨g,35,none⟩=some (.slice la es.length lc):=by rw[eA.cell (block_lt_of_cell Ev)];exact Ev
 clear zA eA;go_wp2_with fail;refine(HC wA).mono ?_;rintro e w1 ⟨rfl,e1⟩;obtain⟨Z1,E1⟩:=aB (ZA.ext e1) (EA.ext e1);clear e1 ZA EA Ev;go_wp2_with (refine bg F _ _ _ F F F Z1 iN (by simp[gT]) (xs:=gT 0 0 (.slice none 0 0)) F (jN 0 0 none 0 0) ?_);intro w4 b4 u4;go_wp2;refine iy F F b4 iN F F ⟨F,u4.ext E1 l5⟩):G:=e
theorem wT(B g:Nat)(es:List dW)(i:Int)(w:World)(h:nM w B g es)(h1:1<=es.length)(hi:i<0∨(es.length:Int)<=i):
 Calls prog 23 #[.pointer (some ⟨g,0,none⟩),.int .i64 i] w fun x w'=>x= .returned (.tuple #[.agg (gT 0 0 (.slice none 0 0)).toArray,.int .i64 7])/\X w w':=Lb
theorem Lf{G:Prop}(e:G:=by
 have hn:=h.n;obtain⟨vo,ve,vl,hb,h2,h3,h4⟩:=h.ex;obtain⟨la,lc,rfl,Ka, -,Dk⟩:=iJ h4;have FR:=TU h4;first|((have HC:=O (fun w' tF=>A9 (rZ es) la es.length lc i w' (by unfold rZ;rw[length_map]) hn hi (Uk es) Ka FR tF);generalize (gX iO (rZ es) i)=p at*))|((have HC:=O (fun w' tF=>AF (rZ es) la es.length lc i w' (by unfold rZ;rw[length_map]) hn hi (Uk es) Ka FR tF);generalize (iA iO (rZ es) i true)=p at*))
 obtain⟨Ev,uE⟩:=aB (hb.cell' (Um (Lh es))) Dk;clear h hb h2 h3 h4 Dk hi FR;first|go_enter func23,ntmps23|go_enter func27,ntmps27
 go_upto_region 1 with fail;generalize iX:World.alloc w _=wA;have zA:ah wA w.heap.size (gT 0 0 (.slice none 0 0)) 61:=by rw[<-iX];exact ah.aI F F
 have eA:X w wA:=by rw[<-iX];exact(X.refl w).alloc _
 clear iX;obtain⟨ZA,EA⟩:=aB zA eA;have Ev:wA.cell? ⟨g,35,none⟩=some (.slice la es.length lc):=by rw[eA.cell (block_lt_of_cell Ev)];exact Ev
 clear zA eA;go_wp2_with fail;refine(HC wA (uE.ext EA)).mono ?_;rintro e w1 ⟨v,rfl,ow,e1⟩;obtain⟨ra,rc,rfl, -, -, -⟩:=iJ ow;obtain⟨Z1,OW,E1⟩:=aW (ZA.ext e1) (mg ow EA.size) (EA.ext e1);clear ow e1 ZA EA Ev;go_wp2_with (refine bg F _ _ _ F F F Z1 iN (by simp[gT]) (xs:=gT i es.length (.slice ra p.length rc)) F (jN i es.length ra p.length rc) ?_);intro w4 b4 u4;have FL:=O (n_ OW u4 Z1 aX);go_wp2;refine iy F F b4 iN F F ⟨_,F,FL,u4.ext E1 l5⟩):G:=e
theorem w9(B g:Nat)(es:List dW)(i:Nat)(w:World)(h:nM w B g es)(hi:i<es.length):
 Calls prog 23 #[.pointer (some ⟨g,0,none⟩),.int .i64 (i:Int)] w fun x w'=>∃v,x= .returned (.tuple #[.agg (gT i es.length v).toArray,.int .i64 0])/\w'.ownsRow w.heap.size 31 32 v (gX iO (rZ es) i).length (dB (gX iO (rZ es) i))/\X w w':=Lf
theorem Mg(B g:Nat)(es:List dW)(i:Int)(w:World)(h:nM w B g es)(h1:1<=es.length)(hi:i<1∨(es.length:Int)<i):
 Calls prog 27 #[.pointer (some ⟨g,0,none⟩),.int .i64 i] w fun x w'=>x= .returned (.tuple #[.agg (gT 0 0 (.slice none 0 0)).toArray,.int .i64 4])/\X w w':=Lb
theorem wN(B g:Nat)(es:List dW)(i:Nat)(w:World)(h:nM w B g es)(hi:1<=i/\i<=es.length):
 Calls prog 27 #[.pointer (some ⟨g,0,none⟩),.int .i64 (i:Int)] w fun x w'=>∃v,x= .returned (.tuple #[.agg (gT i es.length v).toArray,.int .i64 0])/\w'.ownsRow w.heap.size 31 32 v (iA iO (rZ es) i true).length (dB (iA iO (rZ es) i true))/\X w w':=Lf
theorem xS{α:Type}[BEq α][LawfulBEq α]{xs ys:List α}{k:Nat}{x y:α}(j:xs[k]? =some x)(u:ys[k]? =some y)(h:xs.take k=ys.take k):(x=y->xs.take (k+1)=ys.take (k+1))/\(x≠y->(xs==ys)=false):=by
 refine⟨fun e=> ?_,fun e=> ?_⟩
 ·rw[take_add_one,take_add_one,j,u,h,e]
 ·rw[beq_eq_false_iff_ne];intro E;rw[E,u]at j;exact e (Option.some.inj j).symm
theorem p8(xs ys:List (aj))(a b:aN)(n m c d:Nat)(w:World)(hn:xs.length=n)(ax:ys.length=m)(Cw:n<=4611686018427387904)(u:jB xs)(aw:jB ys)(hx:aK w a (dB xs))(aE:aK w b (dB ys)):
 nW 24 #[.slice a n c,.slice b m d] w (.bool (xs==ys)):=by
 obtain⟨R,I,ad,ae,ao,HY⟩:=iq hn ax u aw hx aE;clear hn ax u aw hx aE;by_cases tL:n=m
 ·subst tL;have g1:((n:Int) != (n:Int))=false:=aF;have a1:(n != n)=false:=aF;go_enter func24,ntmps24;go_wp2;go_loopw [13] (fun i wr=>∃k:Nat,k<=n/\i= .int .i64 (k:Int)/\xs.take k=ys.take k/\X w wr) (fun i _=>n - (intOf i).toNat)
  case atStart=>exact⟨0,J,F,aF,X.refl _⟩
  case round=>
   obtain⟨k,hk,rfl,ou,ar⟩:=hrel;obtain⟨ab,an⟩:=aB ar ou;clear ar ou;by_cases j3:k<n
   ·obtain⟨x,pQ⟩:∃x,xs[k]? =some x:=⟨xs[k]'(by rw[R.out];exact j3),aF⟩;obtain⟨y,Ab⟩:∃y,ys[k]? =some y:=⟨ys[k]'(by rw[I.out];exact j3),aF⟩;have az:=xS pQ Ab an;have ai:=ad.at pQ;have al:=ae.at Ab;obtain⟨A,rfl,nu⟩:∃A,a=some A/\dP w (A.add (k*32)) (x.map Y):=by
     cases a with
     |none=>
      rcases ao.out with h|⟨_,_,h,_⟩
      ·have:=Og ad;rw[h,R.out]at this;simp at this;omega
      ·cases h
     |some A=>exact⟨A,F,ao.rowAt ad pQ⟩
    obtain⟨B,rfl,Bb⟩:∃B,b=some B/\dP w (B.add (k*32)) (y.map Y):=by
     cases b with
     |none=>
      rcases HY.out with h|⟨_,_,h,_⟩
      ·have:=Og ae;rw[h,I.out]at this;simp at this;omega
      ·cases h
     |some B=>exact⟨B,F,HY.rowAt ae Ab⟩
    obtain⟨rz,am⟩:=aB nu Bb;have ap:Hid ((x.map Y).length=32):=O (by rw[length_map,ai]);have aq:Hid ((y.map Y).length=32):=O (by rw[length_map,al]);have E:=vY underlying31 x y ai al;have nA:=O az;clear nu Bb ai al pQ Ab az;cases ze:(x==y)with
    |true=>
     rw[ze]at E;obtain⟨af,a0⟩:=aB E (nA.1 (eq_of_beq ze));clear E ze nA;go_wp2;obtain⟨C,iB,aJ,bP⟩:=iw (show bT w wr [] [] wr from bT.jA ab (dV.none _));have nu:∀j,C j->dP j (A.add (k*32)) (x.map Y):=fun j u=>rz.ext ((iB j).1 u).base;have Bb:∀j,C j->dP j (B.add (k*32)) (y.map Y):=fun j u=>am.ext ((iB j).1 u).base;refine fJ fun Z=> ?_;refine aA 0 ?_;refine aA 1 ?_;refine bD 2 F (bf F (fun j _=>fP (i:=k) F F F underlying59 Bf j3 j)) ?_;refine bD 3 F (bf F (fun j h=>bQ F F (nu j h) bY ap)) ?_;refine aA 4 ?_;refine aA 5 ?_;refine bD 6 F (bf F (fun j _=>fP (i:=k) F F F underlying59 Bf j3 j)) ?_;refine bD 7 F (bf F (fun j h=>bQ F F (Bb j h) bY aq)) ?_;refine bD 8 F (bf F (fun j _=>p9 F F F O5 af j)) ?_;refine dH ?_;have ac:=O ((iB _).1 Z).base;clear Z nu Bb aJ bP iB;go_wp2;go_roundw
     case rel=>exact⟨k+1,J,by go_num,a0,ac⟩
     case measure=>simp[intOf];omega
    |false=>
     rw[ze]at E;have af:=O E;have xL:=nA.2 (fun e=>by rw[e]at ze;simp at ze);have ag:=O xL;clear E ze nA xL;go_wp2;obtain⟨C,iB,aJ,bP⟩:=iw (show bT w wr [] [] wr from bT.jA ab (dV.none _));have nu:∀j,C j->dP j (A.add (k*32)) (x.map Y):=fun j u=>rz.ext ((iB j).1 u).base;have Bb:∀j,C j->dP j (B.add (k*32)) (y.map Y):=fun j u=>am.ext ((iB j).1 u).base;refine fJ fun Z=> ?_;refine aA 0 ?_;refine aA 1 ?_;refine bD 2 F (bf F (fun j _=>fP (i:=k) F F F underlying59 Bf j3 j)) ?_;refine bD 3 F (bf F (fun j h=>bQ F F (nu j h) bY ap)) ?_;refine aA 4 ?_;refine aA 5 ?_;refine bD 6 F (bf F (fun j _=>fP (i:=k) F F F underlying59 Bf j3 j)) ?_;refine bD 7 F (bf F (fun j h=>bQ F F (Bb j h) bY aq)) ?_;refine bD 8 F (bf F (fun j _=>p9 F F F O5 af j)) ?_;refine dH ?_;have ac:=O ((iB _).1 Z).base;clear Z nu Bb aJ bP iB;go_wp2;go_ret;exact⟨by rw[ag.out];rfl,ac⟩
   ·obtain rfl:k=n:=J;have aa:xs=ys:=by
     have:=an.out;rwa[take_of_length_le (by rw[R.out];exact Nat.le_refl _),take_of_length_le (by rw[I.out];exact Nat.le_refl _)]at this
    have hb:(xs==ys)=true:=by rw[aa];simp
    have ag:=O hb;clear aa hb;go_wp2;go_ret;exact⟨by rw[ag.out];rfl,ab⟩
 ·have g1:((n:Int) != (m:Int))=true:=by simp;omega
  have a1:(n != m)=true:=by simp[tL]
  have hb:(xs==ys)=false:=by
   rw[beq_eq_false_iff_ne];intro aa;exact tL (by rw[<-R.out,<-I.out,aa])
  rw[hb];clear hb tL;go_enter func24,ntmps24;go_wp2;go_ret;exact⟨F,X.refl _⟩
end Go.Proofs.YtjlhhnkhcbpnjaaGreatDoor
