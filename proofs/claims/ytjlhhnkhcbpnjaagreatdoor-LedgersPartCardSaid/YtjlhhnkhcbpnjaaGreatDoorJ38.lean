/- Laws that the row leans on; no condition. -/
import Derived.Test.YtjlhhnkhcbpnjaaGreatDoorJ35
import Derived.Test.YtjlhhnkhcbpnjaaGreatDoorJ36
namespace Go.Proofs.YtjlhhnkhcbpnjaaGreatDoor
open Go Go.RowKit List Tryz
set_option linter.unusedVariables false
set_option linter.unusedSectionVars false
set_option linter.unusedSimpArgs false
set_option maxHeartbeats 40000000
set_option maxRecDepth 100000
theorem kI{α:Type}{l pre j post:List α}{i n:Nat}(h:l=pre++(j++post))(E:pre.length=i)(u:j.length=n):(l.drop i).take n=j:=by
 rw[h,drop_left' E,take_left' u]
theorem q9{l pre post:aj}{u:UInt64}{i:Nat}(h:l=pre++(dG u++post))(j:pre.length=i):fE l i=u.toNat:=by
 rw[h,xV pre (dG u) post i j F,Wy pre u i j]
theorem Cg{l pre post:aj}{x:UInt32}{i:Nat}(h:l=pre++(gq x++post))(j:pre.length=i):iW l i=x:=by
 rw[h,OU pre (gq x++post) _ _ _ _ post i j F,OQ]
theorem zh{l pre post:aj}{x:UInt8}{i:Nat}(h:l=pre++(x::post))(j:pre.length=i):l[i]?.getD 0=x:=by
 rw[h,List.getElem?_append_right J,j,Nat.sub_self];rfl
theorem Av{e:aG}{w:World}(aa:e.Ok w)(ad:dN e=0)(B C:aj)(q:Nat)(j:B.length=q):
 fQ (B++(iZ e++C)) (q:Int)=(e.p,((q+121+e.bn:Nat):Int),0):=by
 obtain⟨bj,bk,bl,bm,bo,bp,br⟩:=qy aa ad;obtain⟨E,ae⟩:=aC (UInt64.ofNat e.num.toNat);obtain⟨I,af⟩:=aC (UInt64.ofNat e.time.toNat);obtain⟨x,ao⟩:=aC (UInt8.ofNat e.act.toNat);obtain⟨u,an⟩:=aC (UInt32.ofNat e.bn);obtain⟨S,ag⟩:=aC (ig e);have ap:S.length=32:=by rw[<-ag];exact nZ e
 have aq:ny e=[75,87,69,49]++dG E++dG I++[x]++e.bI++e.key++e.prev++gq u++e.body:=by unfold ny;rw[ae,af,ao,an]
 have ai:=GL aa;have ba:dY 3 (ny e)=S:=by rw[<-ag];unfold ig;rw[if_pos ad]
 obtain⟨l,al⟩:=aC (B++(iZ e++C));have ac:l=B++(ny e++(S++C)):=by rw[<-al];unfold iZ;rw[ag];simp
 have e2:=ac;rw[aq]at e2;have R:(dG E).length=8:=F;have ab:(dG I).length=8:=F;have bh:(gq u).length=4:=F;have ha:=aa.ha;have hk:=aa.hk;have am:=aa.hp;have hb:=aa.hb;have bc:E.toNat=e.num.toNat:=by rw[<-ae,UInt64.toNat_ofNat'];omega
 have n2:I.toNat=e.time.toNat:=by rw[<-af,UInt64.toNat_ofNat'];omega
 have bd:x.toNat=e.act.toNat:=by rw[<-ao,UInt8.toNat_ofNat'];omega
 have be:u.toNat=e.bn:=by rw[<-an,UInt32.toNat_ofNat'];omega
 have bi:l.length=q+121+e.bn+C.length:=by rw[ac];simp only[length_append,ai,ap,j];omega
 rw[al];clear ae af ao an al;have aw:(l.drop q).take 4=[75,87,69,49]:=kI (pre:=B) (post:=dG E++dG I++[x]++e.bI++e.key++e.prev++gq u++e.body++(S++C)) (by rw[e2];simp only[append_assoc]) j F;have ax:fE l (q+4)=e.num.toNat:=by
  rw[<-bc];exact q9 (pre:=B++[75,87,69,49]) (post:=dG I++[x]++e.bI++e.key++e.prev++gq u++e.body++(S++C)) (by rw[e2];simp only[append_assoc]) (by simp[j])
 have aE:fE l (q+12)=e.time.toNat:=by
  rw[<-n2];exact q9 (pre:=B++[75,87,69,49]++dG E) (post:=[x]++e.bI++e.key++e.prev++gq u++e.body++(S++C)) (by rw[e2];simp only[append_assoc]) (by simp[j,R])
 have a0:l[q+20]?.getD 0=x:=zh (pre:=B++[75,87,69,49]++dG E++dG I) (post:=e.bI++e.key++e.prev++gq u++e.body++(S++C)) (by rw[e2];simp only[append_assoc,singleton_append,cons_append,nil_append]) (by simp[j,R,ab]);have a1:(l.drop (q+21)).take 16=e.bI:=kI (pre:=B++[75,87,69,49]++dG E++dG I++[x]) (post:=e.key++e.prev++gq u++e.body++(S++C)) (by rw[e2];simp only[append_assoc]) (by simp[j,R,ab]) ha;have a2:(l.drop (q+37)).take 16=e.key:=kI (pre:=B++[75,87,69,49]++dG E++dG I++[x]++e.bI) (post:=e.prev++gq u++e.body++(S++C)) (by rw[e2];simp only[append_assoc]) (by simp[j,R,ab,ha]) hk;have a3:(l.drop (q+53)).take 32=e.prev:=kI (pre:=B++[75,87,69,49]++dG E++dG I++[x]++e.bI++e.key) (post:=gq u++e.body++(S++C)) (by rw[e2];simp only[append_assoc]) (by simp[j,R,ab,ha,hk]) am;have a4:iW l (q+85)=u:=Cg (pre:=B++[75,87,69,49]++dG E++dG I++[x]++e.bI++e.key++e.prev) (post:=e.body++(S++C)) (by rw[e2];simp only[append_assoc]) (by simp[j,R,ab,ha,hk,am]);have a5:(l.drop (q+89)).take e.bn=e.body:=kI (pre:=B++[75,87,69,49]++dG E++dG I++[x]++e.bI++e.key++e.prev++gq u) (post:=S++C) (by rw[e2];simp only[append_assoc]) (by simp[j,R,ab,bh,ha,hk,am]) hb;have a6:(l.drop q).take (89+e.bn)=ny e:=kI (pre:=B) (post:=S++C) ac j ai;have az:(l.drop (q+89+e.bn)).take 32=S:=kI (pre:=B++ny e) (post:=C) (by rw[ac];simp only[append_assoc]) (by rw[length_append,j,ai];omega) ap;clear ac e2 aq;have ar:nH l q=e.bn:=by unfold nH;rw[a4,be]
 have a9:qI l (q:Int)=0:=by
  unfold qI;rw[Int.toNat_natCast,if_neg J,if_neg J,aw,if_neg aF,ar,if_neg J]
 have a7:wQ l q e.bn=e.p:=by
  unfold wQ;rw[ax,aE,a0,a1,a2,a3,a5,bd,DW J,DW J];unfold aG.p;rw[show((e.num.toNat:Nat):Int)=e.num by omega,show((e.time.toNat:Nat):Int)=e.time by omega,show((e.act.toNat:Nat):Int)=e.act by omega]
 have a_:Cm l q e.bn=true:=by unfold Cm;rw[a6,az,ba];exact beq_self_eq_true _
 have a8:jX e.p=0:=by rw[<-xH];exact ad
 unfold fQ;rw[Int.toNat_natCast,ar,a9,if_neg aF,if_neg J,a_,if_neg aF,a7,a8,if_pos F]
structure dW.Fit(x:dW):Prop where
 ha:x.bI.length=16
 hk:x.key.length=16
 hp:x.prev.length=32
 hb:x.body.length<=32768
 ok:jX x=0
theorem zR{l:aj}{p:Nat}(h:(fQ l p).2.2=0):(fQ l p).1.Fit:=by
 obtain⟨q, -,I,ac,R⟩:=Lj h;unfold fQ at h I R⊢;by_cases u:qI l p≠0
 ·rw[if_pos u]at h;exact absurd h u
 rw[if_neg u]at h I R⊢;obtain⟨j,ad,k1, -,k3⟩:=aaj (Decidable.not_not.1 u);obtain rfl:j=p:=J;rw[show((j:Int)).toNat=j from F]at*;by_cases aa:l.length<j+121+nH l j
 ·rw[if_pos aa]at h;cases h
 rw[if_neg aa]at h I R⊢;by_cases ab:Cm l j (nH l j)=false
 ·rw[if_pos ab]at h;cases h
 rw[if_neg ab]at h I R⊢;by_cases E:jX (wQ l j (nH l j))=0
 ·rw[if_pos E];refine⟨?_,?_,?_,?_,E⟩
  ·show((l.drop (j+21)).take 16).length=16;rw[length_take,length_drop];omega
  ·show((l.drop (j+37)).take 16).length=16;rw[length_take,length_drop];omega
  ·show((l.drop (j+53)).take 32).length=32;rw[length_take,length_drop];omega
  ·show((l.drop (j+89)).take (nH l j)).length<=32768;rw[length_take,length_drop];omega
 ·rw[if_neg E]at h;exact absurd h E
theorem rA{l:aj}:∀(f p:Nat) (es:List dW),(∀e∈es,e.Fit)->∀e∈(wR l f p es).1,e.Fit
 |0,_,_,h=>h
 |f+1,p,es,h=>by
  unfold wR;split
  ·exact h
  split
  ·exact h
  split
  ·exact h
  split
  ·exact h
  ·rename_i _ h1 _ _;refine rA f _ _ fun e he=> ?_;rcases mem_append.1 he with he|he
   ·exact h e he
   ·rw[mem_singleton.1 he];exact zR (Decidable.not_not.1 h1)
theorem nA(l:aj):∀e∈(nI l).1,e.Fit:=rA _ _ _ aF
theorem mH{x:dW}(j:x.Fit)(w:World)(B C:aj)(q:Nat)(ab:B.length=q):fQ (B++(iZ x.r++C)) (q:Int)=(x,((q+121+x.body.length:Nat):Int),0):=by
 obtain⟨e,E⟩:=jE (⟨x.num,x.time,x.act,x.bI,x.key,x.prev,some ⟨w.heap.size,0,none⟩,x.body.length,x.body.length,x.body⟩:aG);have I:e.p=x:=by rw[E];rfl
 have ac:e.body.length=e.bn:=by rw[E]
 have ad:e.Ok (World.alloc w (.cells (x.body.map Y).toArray 5)):=by
  rw[E];refine⟨j.ha,j.hk,j.hp,F,Nat.le_refl _,?_,fun h=>(by cases h),.inr ⟨_,0,F,fun i u ae=> ?_⟩⟩
  ·have:=j.hb;show x.body.length<=_;omega
  ·have hb:ah (World.alloc w (.cells (x.body.map Y).toArray 5)) w.heap.size (x.body.map Y) 5:=ah.aI F F;rw[Nat.zero_add];exact hb.cell' ae
 have aa:dN e=0:=by rw[xH,I];exact j.ok
 have R:=Av ad aa B C q ab;rw[I,<-CB e ac,I]at R;rw[R,E]
theorem pE{x:dW}(j:x.Fit):(iZ x.r).length=121+x.body.length:=by
 unfold iZ ny;simp only[length_append,nZ,Bc,gq,length_cons,length_nil];show 4+8+8+(0+1)+x.bI.length+x.key.length+x.prev.length+4+x.body.length+32=_;rw[j.ha,j.hk,j.hp];omega
theorem Bb{x y:dW}(E:x.Fit)(I:y.Fit)(w:World)(h:iZ x.r=iZ y.r):x=y:=by
 have j:=mH E w [] [] 0 F;have u:=mH I w [] [] 0 F;rw[h,u]at j;exact(congrArg Prod.fst j).symm
theorem sj(a b:List dW):lK (a++b)=lK a++lK b:=by unfold lK;rw[flatMap_append]
theorem l6(x:dW)(a:List dW):lK (x::a)=iZ x.r++lK a:=by unfold lK;rw[flatMap_cons]
theorem Ch{es:List dW}{k:Nat}{x:dW}(h:es[k]? =some x):lK es=lK (es.take k)++(iZ x.r++lK (es.drop (k+1))):=by
 obtain⟨hk,rfl⟩:=List.getElem?_eq_some_iff.1 h;rw[<-l6,<-drop_eq_getElem_cons hk,<-sj,take_append_drop]
theorem z8{es:List dW}{k:Nat}{x:dW}(h:es[k]? =some x)(j:x.Fit)(w:World):fQ (lK es) ((lK (es.take k)).length:Int)=(x,(((lK (es.take k)).length+121+x.body.length:Nat):Int),0):=by
 have hs:=Ch h;generalize lK es=L at hs⊢;generalize lK (es.take k)=B at hs⊢;rw[hs];exact mH j w B _ B.length F
theorem uL(es:List dW):∀(b k:Nat),k<es.length->(Az es b)[k]? =some ((b+(lK (es.take (k+1))).length:Nat):Int):=by
 induction es with
 |nil=>intro b k h;simp at h
 |cons x es u=>
  intro b k h;rw[Az];cases k with
  |zero=>
   rw[take_succ_cons,take_zero,l6,length_append,List.getElem?_cons_zero];rfl
  |succ k=>
   have j:=u (b+(iZ x.r).length) k (by simpa using h);rw[List.getElem?_cons_succ,j,take_succ_cons,l6,length_append,Nat.add_assoc]
theorem Bu:(prog.info? 3).map (·.size)=some 1:=au
theorem Bw(B g:Nat)(es:List dW)(k:Nat)(hk:k<es.length)(w:World)(h:nM w B g es):
 Calls prog 64 #[.pointer (some ⟨g,0,none⟩),.int .i64 (k:Int)] w fun x w'=>x= .returned (.int .i64 ((lK (es.take k)).length:Int))/\X w w':=by
 have hn:=h.n;obtain⟨vo,ve,vl,E,ad,I,ae⟩:=h.ex;obtain⟨ab,am,rfl, -, -,aa⟩:=iJ I;have ao:=E.cell' (i:=1) (v:= .slice ab es.length am) F;by_cases ac:k=0
 ·subst ac;clear h E ad I ae aa;go_enter func64,ntmps64;go_wp2_with fail;go_ret;exact⟨by rw[take_zero];rfl,X.refl _⟩
 ·obtain⟨j,rfl⟩:∃j,k=j+1:=⟨k - 1,J⟩;obtain⟨A,rfl,R⟩:∃A,ab=some A/\w.cell? (A.add (j*1))=some (.int .i64 ((lK (es.take (j+1))).length:Int)):=by
   obtain⟨b,off,rfl,hc⟩:=aa.gQ (by rw[length_map,oF];omega);refine⟨_,F,?_⟩;rw[dn,Nat.mul_one];refine hc j _ ?_;rw[List.getElem?_map,uL es 0 j J,Nat.zero_add];rfl
  obtain⟨M,ag⟩:=aC ((lK (es.take (j+1))).length);rw[ag]at R⊢;have ai:=O R;have an:j<es.length:=J;have u:IntKind.i64.wrap (((j+1:Nat):Int) - 1)=(j:Int):=by rw[show((j+1:Nat):Int) - 1=(j:Int) by omega];exact IntWalk.i64_in _ J
  obtain⟨K,af⟩:=aC (((j+1:Nat):Int):Int);rw[af]at u⊢;have ap:(K==0)=false:=by simp;omega
  have al:=O u;clear h E ad I ae aa R af u ag ac;go_enter func64,ntmps64;go_upto_region 3 with fail;have u:=al.out;go_wp2_with (first|(refine bF F (fP (i:=j) F F F underlying106 Bu an _) ?_)|(refine bF F (kT F F ai BR) ?_));go_ret;exact⟨F,X.refl _⟩
theorem qD{P:Program}{ops:Array Oper}{Q:Exit->Act->World->Prop}{S:World->Prop}{i j:Nat}{aa ab:Oper}{ai al:List Oper}{f:Nat}{E:Array Bool}{a:Act}{w:World}(ag:Region.ready .any ops E=[i,j])(ae:ops.toList.drop i=aa::ai)(af:ops.toList.drop j=ab::al)
 (ac:∀u:Exit->Act->World->Prop,(∀a w,S w->wpAnyH P .any ops Q S f (E.setIfInBounds i true) a w->u .normal a w)->wpList P ops u [aa] a w)
 (ad:∀u:Exit->Act->World->Prop,(∀a w,S w->wpAnyH P .any ops Q S f (E.setIfInBounds j true) a w->u .normal a w)->wpList P ops u [ab] a w):
 wpAnyH P .any ops Q S (f+1) E a w:=
 wpAnyH_all ag aF fun k hk=>by
  rcases mem_cons.1 hk with h|hk
  ·subst h;exact mZ (jy ae) (ac _ fun a w I R=>⟨I,R⟩)
  ·obtain rfl:k=j:=by simpa using hk
   exact mZ (jy af) (ad _ fun a w I R=>⟨I,R⟩)
theorem mq{w w':World}{g:Nat}{e:aG}{vs:aO}(h:e.Ok w)(u:aU w g w')(E:iC g e.ba e.bn):e.Ok w':=
 h.row (r:=some g) (fun q j=>by injection j with j;exact j▸E) (qC u)
theorem H_{w:World}{g:Nat}{e:aG}(h:e.Ok w)(ac:w.heap.size<=g):iC g e.ba e.bn:=by
 by_cases u:e.bn=0
 ·exact .inl u
 ·refine .inr fun A j E=> ?_;obtain⟨b,off,hb,hc⟩:=h.hcl.gQ (by rw[length_map,h.hb];exact Nat.pos_of_ne_zero u);obtain⟨x,R⟩:∃x,e.body[0]? =some x:=⟨e.body[0]'(by rw[h.hb];omega),aF⟩;have I:=block_lt_of_cell (hc 0 (Y x) (by rw[List.getElem?_map,R];rfl));rw[hb]at j;injection j with j;rw[<-j]at E;have ab:b=g:=E;have aa:b<w.heap.size:=I;omega
noncomputable def zP(n:Nat):Array Oper:=xZ f22 n
theorem mR(B g:Nat)(es:List dW)(k:Nat)(x:dW)(w:World)(h:nM w B g es)(hk:es[k]? =some x)(hx:x.Fit):
 Calls prog 22 #[.pointer (some ⟨g,0,none⟩),.int .i64 (k:Int)] w fun z w'=>∃r:aG,z= .returned (.tuple #[.agg r.v.toArray,.int .i64 0])/\r.Ok w'/\r.p=x/\X w w':=by
 have b6:=(List.getElem?_eq_some_iff.1 hk).1;have hn:=h.n;have hs:=h.sz;obtain⟨vo,ve,vl,br,bw,b2,cr⟩:=h.ex;obtain⟨cd,ce,rfl,b7, -,b9⟩:=iJ bw;obtain⟨cp,cq,rfl, -, -, -⟩:=iJ b2;have b8:=TU bw;obtain⟨bo,bj,bt,bp⟩:=bU br (z8 hk hx w) (fun ax (I:X w ax)=>Bw B g es k b6 ax (h.ext I)) (fun(q:Nat) ax (I:X w ax)=>abz (lK es) cd (lK es).length ce (q:Int) ax F b7 J b8 (b9.ext I));clear h br bw b2 cr b9;obtain⟨L,b4⟩:=aC (lK es);obtain⟨q,cb⟩:=aC ((lK (es.take k)).length);rw[b4]at bo bj bp;rw[cb]at bj bt;obtain⟨N,b5⟩:=aC es.length;rw[b5]at bo b6;have cv:decide ((k:Int)<0)=false:=aP J;have cw:decide ((N:Int)<=(k:Int))=false:=aP J;have cx:decide (N<=k)=false:=aP J;clear b4 cb b5 hk b7 b8 hs hn;go_enter func22,ntmps22;go_upto_region 1 with fail;generalize bx:World.alloc w _=al;have bu:ah al w.heap.size dS.v 34:=by rw[<-bx];exact ah.aI F F
 have bv:X w al:=by rw[<-bx];exact(X.refl w).alloc _
 obtain⟨bm,a9,bz⟩:=aW bu bv (bo.ext bv);have cc:w.heap.size<al.heap.size:=bu.lt;have a8:=O cc;clear bx bu bv bo cc;obtain⟨G,b3⟩:=aC w.heap.size;have cl:=O (show w.heap.size<=G by omega);rw[b3]at bm a8⊢;clear b3;have co:=bz.cell' (i:=1) (v:= .slice cp N cq) F;go_upto_region 3 with fail;clear co;go_cut [6,8] (fun cs ct wx=>∃(a0:Nat) (r:aG),cs= .pointer (some ⟨a0,0,none⟩)/\ct= .int .i64 0/\ah wx a0 r.v 34/\ah wx G dS.v 34/\r.Ok wx/\r.p=x/\iC G r.ba r.bn/\X al wx)
 case first=>
  obtain⟨C,ac,aJ,bP⟩:=iw (show bT al al [] [] al from bT.jA (X.refl _) (dV.none _));have cn:∀ax,C ax->ax.cell? ⟨g,0,none⟩=some (.slice cd L.length ce):=fun ax br=>(bz.ext ((ac ax).1 br).base).cell' F;refine fJ (ops:=(zP 3)) fun Z=> ?_;refine aA 0 ?_;refine aA 1 ?_;refine aA 2 ?_;refine dA 3 (cn) ?_;refine aA 4 ?_;refine aA 5 ?_;generalize World.drew al=az at Z⊢;refine qD (i:=6) (j:=12) au F F ?s6 ?s12
  case s6=>
   intro E u;have I:=((ac az).1 Z).base;go_wp2_with fail;refine(bt az (a9.ext I)).mono ?_;rintro aa ad ⟨rfl,e2⟩;go_wp2_with fail;refine u _ _ (aJ _ _ Z e2) ?_;clear u E;replace Z:=aJ _ _ Z e2;clear I e2;refine aH ?_;refine qD (i:=7) (j:=12) au F F ?t7 ?t12
   case t7=>
    intro E u;have I:=((ac ad).1 Z).base;go_wp2_with fail;refine(bp q ad (a9.ext I)).mono ?_;rintro aa ab ⟨r,rfl,ae,aq,e2⟩;rw[bj.out]at aq⊢;go_wp2_with fail;refine u _ _ (aJ _ _ Z e2) ?_;clear u E;replace Z:=aJ _ _ Z e2;have R:=O ae.1;obtain⟨bc,bh⟩:=aB aq (show al.heap.size<=ad.heap.size from I.size);have a7:=O ae.2;clear I e2 ae aq;refine aH ?_;refine aA 8 ?_;refine aA 9 ?_;refine aA 10 ?_;refine aA 11 ?_;refine aZ 12 ?_;intro E u;go_wp2_with fail;refine u _ _ (aJ _ _ Z ((X.refl ab).alloc _)) ?_;clear u E;generalize ar:World.alloc ab _=aw;have ag:ah aw ab.heap.size dS.v 34:=by rw[<-ar];exact ah.aI F F
    have an:X ab aw:=by rw[<-ar];exact(X.refl ab).alloc _
    have a5:C aw:=aJ _ _ Z an;obtain⟨a2,bl,b0⟩:=aW (show al.heap.size<=ab.heap.size from((ac ab).1 Z).base.size) (H_ R bG) (R.ext an);clear R;have R:=O b0.out;clear b0;have af:=O ag;have am:=O ag.lt;clear Z ar ag an;have Z:=a5;clear a5;generalize ab.heap.size=a0 at*;refine aH ?_;obtain⟨bk,aE,bd⟩:=aW (show iC G r.ba r.bn from TM a7 (fun aa=>by rw[length_map,R.hb]at aa;exact aa) (Nat.lt_of_lt_of_le a8 bh)) (aG.len R) (bm.ext ((ac aw).1 Z).base);refine aZ 13 ?_;intro E u;go_wp2_with (refine bg F _ _ _ F F F af cZ dZ (xs:=aG.v r) aE (i_ r) ?_);intro a6 a4 ai;have ao:=bT.upd ((ac aw).1 Z) ai a2 bG;obtain⟨bi,be⟩:=aB (mq (vs:=dS.v) R ai bl) (bd.upd ai (by have:=a8.out;have:=a2.out;omega));have ap:C a6:=(ac a6).2 ao;refine u _ _ ap ?_;have a_:=O a4;have ba:=O ao.base;clear u E ai a4 ao Z;have Z:=ap;clear ap;refine aH ?_;refine aZ 14 ?_;intro E u;go_wp2_with (fail);refine u _ _ Z ?_;clear u E;refine aH ?_;refine aZ 15 ?_;intro E u;go_wp2_with (fail);refine u _ _ Z ?_;clear u E;refine aH ?_;refine dH ?_;go_wp2_with fail;go_meet;exact⟨a0,r,F,F,a_,be,bi,bc,bk,ba⟩
   case t12=>
    intro E u;go_wp2_with fail;refine u _ _ (aJ _ _ Z ((X.refl ad).alloc _)) ?_;clear u E;generalize ar:World.alloc ad _=ab;have ag:ah ab ad.heap.size dS.v 34:=by rw[<-ar];exact ah.aI F F
    have an:X ad ab:=by rw[<-ar];exact(X.refl ad).alloc _
    have a5:C ab:=aJ _ _ Z an;obtain⟨a2,af⟩:=aB (show al.heap.size<=ad.heap.size from((ac ad).1 Z).base.size) ag;have am:=O ag.lt;clear Z ar ag an;have Z:=a5;clear a5;generalize ad.heap.size=a0 at*;refine aH ?_;refine aZ 7 ?_;intro E u;have I:=((ac ab).1 Z).base;go_wp2_with fail;refine(bp q ab (a9.ext I)).mono ?_;rintro aa aw ⟨r,rfl,ae,aq,e2⟩;rw[bj.out]at aq⊢;go_wp2_with fail;refine u _ _ (aJ _ _ Z e2) ?_;clear u E;replace Z:=aJ _ _ Z e2;have R:=O ae.1;obtain⟨bc,bh⟩:=aB aq (show al.heap.size<=ab.heap.size from I.size);have a7:=O ae.2;have a1:=O (af.ext e2);have a3:=O am.out;clear af am;have af:=O a1.out;have am:=O a3.out;clear a1 a3;clear I e2 ae aq;refine aH ?_;refine aA 8 ?_;refine aA 9 ?_;refine aA 10 ?_;refine aA 11 ?_;obtain⟨bl,bk,aE,bd⟩:=bU (TM (n:=r.bn) a7 (fun aa=>by rw[length_map,R.hb]at aa;exact aa) am) (show iC G r.ba r.bn from TM a7 (fun aa=>by rw[length_map,R.hb]at aa;exact aa) (Nat.lt_of_lt_of_le a8 bh)) (aG.len R) (bm.ext ((ac aw).1 Z).base);refine aZ 13 ?_;intro E u;go_wp2_with (refine bg F _ _ _ F F F af cZ dZ (xs:=aG.v r) aE (i_ r) ?_);intro a6 a4 ai;have ao:=bT.upd ((ac aw).1 Z) ai a2 bG;obtain⟨bi,be⟩:=aB (mq (vs:=dS.v) R ai bl) (bd.upd ai (by have:=a8.out;have:=a2.out;omega));have ap:C a6:=(ac a6).2 ao;refine u _ _ ap ?_;have a_:=O a4;have ba:=O ao.base;clear u E ai a4 ao Z;have Z:=ap;clear ap;refine aH ?_;refine aZ 14 ?_;intro E u;go_wp2_with (fail);refine u _ _ Z ?_;clear u E;refine aH ?_;refine aZ 15 ?_;intro E u;go_wp2_with (fail);refine u _ _ Z ?_;clear u E;refine aH ?_
    refine dH ?_;go_wp2_with fail;go_meet;exact⟨a0,r,F,F,a_,be,bi,bc,bk,ba⟩
  case s12=>
   intro E u;go_wp2_with fail;refine u _ _ (aJ _ _ Z ((X.refl az).alloc _)) ?_;clear u E;generalize ar:World.alloc az _=ad;have ag:ah ad az.heap.size dS.v 34:=by rw[<-ar];exact ah.aI F F
   have an:X az ad:=by rw[<-ar];exact(X.refl az).alloc _
   have a5:C ad:=aJ _ _ Z an;obtain⟨a2,af⟩:=aB (show al.heap.size<=az.heap.size from((ac az).1 Z).base.size) ag;have am:=O ag.lt;clear Z ar ag an;have Z:=a5;clear a5;generalize az.heap.size=a0 at*;refine aH ?_;refine aZ 6 ?_;intro E u;have I:=((ac ad).1 Z).base;go_wp2_with fail;refine(bt ad (a9.ext I)).mono ?_;rintro aa ab ⟨rfl,e2⟩;go_wp2_with fail;refine u _ _ (aJ _ _ Z e2) ?_;clear u E;replace Z:=aJ _ _ Z e2;obtain⟨a1,a3⟩:=aB (af.ext e2) (Nat.lt_of_lt_of_le am e2.size);clear af am;have af:=O a1.out;have am:=O a3.out;clear a1 a3;clear I e2;refine aH ?_;refine aZ 7 ?_;intro E u;have I:=((ac ab).1 Z).base;go_wp2_with fail;refine(bp q ab (a9.ext I)).mono ?_;rintro aa aw ⟨r,rfl,ae,aq,e2⟩;rw[bj.out]at aq⊢;go_wp2_with fail;refine u _ _ (aJ _ _ Z e2) ?_;clear u E;replace Z:=aJ _ _ Z e2;have R:=O ae.1;obtain⟨bc,bh⟩:=aB aq (show al.heap.size<=ab.heap.size from I.size);have a7:=O ae.2;have a1:=O (af.ext e2);have a3:=O am.out;clear af am;have af:=O a1.out;have am:=O a3.out;clear a1 a3;clear I e2 ae aq;refine aH ?_;refine aA 8 ?_;refine aA 9 ?_;refine aA 10 ?_;refine aA 11 ?_;obtain⟨bl,bk,aE,bd⟩:=bU (TM (n:=r.bn) a7 (fun aa=>by rw[length_map,R.hb]at aa;exact aa) am) (show iC G r.ba r.bn from TM a7 (fun aa=>by rw[length_map,R.hb]at aa;exact aa) (Nat.lt_of_lt_of_le a8 bh)) (aG.len R) (bm.ext ((ac aw).1 Z).base);refine aZ 13 ?_;intro E u;go_wp2_with (refine bg F _ _ _ F F F af cZ dZ (xs:=aG.v r) aE (i_ r) ?_);intro a6 a4 ai;have ao:=bT.upd ((ac aw).1 Z) ai a2 bG;obtain⟨bi,be⟩:=aB (mq (vs:=dS.v) R ai bl) (bd.upd ai (by have:=a8.out;have:=a2.out;omega))
   have ap:C a6:=(ac a6).2 ao;refine u _ _ ap ?_;have a_:=O a4;have ba:=O ao.base;clear u E ai a4 ao Z;have Z:=ap;clear ap;refine aH ?_;refine aZ 14 ?_;intro E u;go_wp2_with (fail);refine u _ _ Z ?_;clear u E;refine aH ?_;refine aZ 15 ?_;intro E u;go_wp2_with (fail);refine u _ _ Z ?_;clear u E;refine aH ?_;refine dH ?_;go_wp2_with fail;go_meet;exact⟨a0,r,F,F,a_,be,bi,bc,bk,ba⟩
 case rest=>
 obtain⟨a0,r,rfl,rfl,ag,b1,ae,ca,b',an⟩:=hcut;obtain⟨cg,ch,R,aE,ck,cj,ci⟩:=su ag b1 ae (aG.len ae) ca b' (a9.ext an);clear ag b1 ae ca b' an;go_wp2_with (first|(refine bV F 34 _ F F cg cZ aE ?_)|(refine bg F _ _ _ F F F ch cZ dZ (xs:=aG.v r) aE (i_ r) ?_));intro cy cm cf;go_wp2_with fail;exact iy F F cm cZ aE F ⟨r,F,mq (vs:=dS.v) R cf cj,ck,cf.ext ci cl⟩
noncomputable def iB:List dW->List dW->Nat->Int
 |[],[],_=> -1
 |[],_::_,k=>(k:Int)
 |_::_,[],k=>(k:Int)
 |x::a,y::b,k=>if iZ x.r=iZ y.r then iB a b (k+1)else(k:Int)
theorem ou{a b:List dW}{x y:dW}{k:Nat}(E:a[k]? =some x)(I:b[k]? =some y):
 iB (a.drop k) (b.drop k) k=if iZ x.r=iZ y.r then iB (a.drop (k+1)) (b.drop (k+1)) (k+1)else(k:Int):=by
 obtain⟨j,rfl⟩:=List.getElem?_eq_some_iff.1 E;obtain⟨u,rfl⟩:=List.getElem?_eq_some_iff.1 I;rw[drop_eq_getElem_cons j,drop_eq_getElem_cons u,iB]
theorem tL{a b:List dW}{k:Nat}(hk:k=min a.length b.length):iB (a.drop k) (b.drop k) k=if a.length=b.length then -1 else(k:Int):=by
 by_cases h:a.length=b.length
 ·rw[if_pos h,drop_eq_nil_of_le J,drop_eq_nil_of_le J,iB]
 ·rw[if_neg h];by_cases j:a.length<b.length
  ·have hb:k<b.length:=J;rw[drop_eq_nil_of_le J,drop_eq_getElem_cons hb,iB]
  ·have ha:k<a.length:=J;rw[drop_eq_getElem_cons ha,show b.drop k=[]from drop_eq_nil_of_le J,iB]
noncomputable def j3(j u:aj):Int×Int:=
 if(nI j).2≠0 then(0,(nI j).2)else if(nI u).2≠0 then(0,(nI u).2)else(iB (nI j).1 (nI u).1 0,0)
theorem rz(M N:Nat):∀j t w,(Builtin.min_ j t #[.int .i64 (M:Int),.int .i64 (N:Int)]).run prog w= .ok (.int .i64 ((min M N:Nat):Int)) w:=fun j t w=>by
 rw[run_min_int2]
 congr 2
 by_cases h:(N:Int)<(M:Int)
 ·rw[if_pos h];omega
 ·rw[if_neg h];omega
theorem sP(E I:aj)(b' ca:aN)(a7 bp n2 br:Nat)(w:World)(c_:E.length=a7)(da:I.length=n2)(di:a7<=bp)(dj:n2<=br)(df:a7<=1000000000)(dg:n2<=1000000000)(c4:bp<=9223372036854775807)(c5:br<=9223372036854775807)(c6:aK w b' (E.map Y))(c7:aK w ca (I.map Y)):
 Calls prog 18 #[.slice b' a7 bp,.slice ca n2 br] w fun x w'=>x= .returned (.tuple #[.int .i64 (j3 E I).1,.int .i64 (j3 E I).2])/\X w w':=by
 obtain⟨be,bh⟩:=aB (fun u (af:X w u)=>ac7 E b' a7 bp u c_ di df c4 (c6.ext af)) (fun u (af:X w u)=>ac7 I ca n2 br u da dj dg c5 (c7.ext af));have bw:=nA E;have bx:=nA I;obtain⟨ea,cf⟩:=jE (fun x w'=>x= .returned (.tuple #[.int .i64 (j3 E I).1,.int .i64 (j3 E I).2])/\X w w':Ending->World->Prop);rw[<-cf];have dq:∀(k e:Int) w',j3 E I=(k,e)->X w w'->ea (.returned (.tuple #[.int .i64 k,.int .i64 e])) w':=fun k e w' el em=>by rw[cf];exact⟨by rw[el],em⟩
 have ab:=O dq;clear cf dq c6 c7 c_ da di dj c4 c5 df dg;have az:j3 E I=if(nI E).2≠0 then(0,(nI E).2)else if(nI I).2≠0 then(0,(nI I).2)else(iB (nI E).1 (nI I).1 0,0):=F
 generalize j3 E I=eb at az ab;generalize nI E=ec at be bw az;generalize nI I=ed at bh bx az;obtain⟨A,aE⟩:=ec;obtain⟨R,a0⟩:=ed;simp only at bw bx az be bh;obtain⟨d2,d3,ap⟩:=aW bw bx az;clear bw bx az;go_enter func18,ntmps18;go_wp2_with fail;refine(be w (X.refl w)).mono ?_;rintro aa u ⟨g1,rfl,db, -,af⟩;obtain⟨cJ,bo⟩:=aB db af;clear db af be;by_cases a4:aE=0
 case neg=>
  have ee:(aE != 0)=true:=by simp;exact a4
  have ef:decide (aE=0)=false:=aP a4;have ek:(aE==0)=false:=by simp;exact a4
  have ac:=O (ab 0 aE u (by rw[ap.out,if_pos a4]) bo);clear ab ap;go_wp2_with fail
  (try go_ret2)
  exact ac
 case pos=>
 subst a4;go_wp2_with fail;refine(bh u bo).mono ?_;rintro aa w2 ⟨bv,rfl,dc, -,e2⟩;obtain⟨bj,bi,b9⟩:=aW dc (cJ.ext e2) (bo.ext e2);clear dc e2 bh cJ bo;by_cases a5:a0=0
 case neg=>
  have ee:(a0 != 0)=true:=by simp;exact a5
  have ef:decide (a0=0)=false:=aP a5;have ek:(a0==0)=false:=by simp;exact a5
  have ac:=O (ab 0 a0 w2 (by rw[ap.out,if_neg aF,if_pos a5]) b9);clear ab ap;go_wp2_with fail
  (try go_ret2)
  exact ac
 case pos=>
 subst a5;have dy:eb=(iB A R 0,0):=by rw[ap.out,if_neg aF,if_neg aF]
 have ar:=O dy;clear dy ap;have en:=bi.n;have eo:=bj.n;obtain⟨am,cd⟩:=aC A.length;obtain⟨an,ce⟩:=aC R.length;have de:=rz am an;obtain⟨M,cc⟩:=aC (min am an);rw[cc]at de;obtain⟨a9,a_⟩:=aB (fun u B (h:nM u B g1 A)=>acU B g1 A u h) (fun u B (h:nM u B bv R)=>acU B bv R u h);rw[cd]at a9 en;rw[ce]at a_ eo;have ey:M<=65536:=J;obtain⟨b2,b3,b1⟩:=aW cd ce cc;clear cd ce cc;go_wp2_with fail;refine(a9 w2 _ bi).mono ?_;rintro aa ex ⟨rfl,cb⟩;go_wp2_with fail;refine(a_ ex _ (bj.ext cb)).mono ?_;rintro aa eE ⟨rfl,c1⟩;have bt:=cb.ext c1;obtain⟨cL,cM,cX⟩:=aW (bi.ext bt) (bj.ext bt) (b9.ext bt);clear cb c1 bt bi bj b9;go_wp2_with fail;go_loopw [43] (fun i wr=>∃j:Nat,j<=M/\i= .int .i64 (j:Int)/\iB A R 0=iB (A.drop j) (R.drop j) j/\nM wr w.heap.size g1 A/\nM wr u.heap.size bv R/\X w wr) (fun i _=>M - (intOf i).toNat)
 case atStart=>exact⟨0,J,F,F,cL,cM,cX⟩
 case round=>
  obtain⟨j,ez,rfl,c8,ha,hb,c2⟩:=hrel;obtain⟨ba,aw,a2,a8⟩:=bU c8 ha hb c2;clear c8 ha hb c2 cL cM cX;by_cases dd:j<M
  ·have eg:decide ((j:Int)<(M:Int))=true:=aQ J;have eh:decide (j<M)=true:=aQ dd;obtain⟨x,cj⟩:∃x,A[j]? =some x:=⟨A[j]'(by have:=b2.out;have:=b1.out;omega),aF⟩;obtain⟨y,ck⟩:∃y,R[j]? =some y:=⟨R[j]'(by have:=b3.out;have:=b1.out;omega),aF⟩;obtain⟨cH,cI,cv,cw⟩:=bU cj ck (d2 x (mem_of_getElem? cj)) (d3 y (mem_of_getElem? ck));clear cj ck;go_wp2_with fail;refine(mR _ g1 A j x wr aw cH cv).mono ?_;rintro aa bz ⟨r,rfl,ao,dk,ag⟩;obtain⟨cz,cC,cx,bk,bl,a1⟩:=iq ao dk (aG.len ao) (aw.ext ag) (a2.ext ag) (a8.ext ag);clear ao dk ag aw a2 a8;go_upto_region 11 with(refine bg F _ (.tmp 12) _ F F F (ah.aI (vs:=dS.v) F F) cZ (aG.len (EJ w)) cx (i_ r) ?_);intro v2 cY dT;have ai:X bz v2:=dT.ext ((X.refl _).alloc _) bG;obtain⟨B2,cV,cN,b4,cr⟩:=dM cY (cz.ext ai) (bk.ext ai) (bl.ext ai) (a1.ext ai);clear cY dT ai bk bl a1 cz;generalize bz.heap.size=G1 at*;go_wp2_with fail;refine(mR _ bv R j y v2 b4 cI cw).mono ?_;rintro aa v3 ⟨s,rfl,ao,al,ad⟩;obtain⟨cA,cD,cy,cl,cW,cP,cS,cs⟩:=jg ao al (aG.len ao) (B2.ext ad) (cV.ext ad) (cN.ext ad) (b4.ext ad) (cr.ext ad);clear ao al ad cN b4 cr cV B2;go_upto_region 12 with(refine bg F _ (.tmp 14) _ F F F (ah.aI (vs:=dS.v) F F) cZ (aG.len (EJ w)) cy (i_ s) ?_);intro b0 c0 d0;have ae:X v3 b0:=d0.ext ((X.refl _).alloc _) bG;obtain⟨cm,cn,bm,b7,cQ,cT,ct⟩:=su c0 (cl.ext ae) (cW.ext ae) (cA.ext ae) (cP.ext ae) (cS.ext ae) (cs.ext ae);clear c0 d0 ae cP cS cs cW cA cl;generalize v3.heap.size=G2 at*;have dl:dN r=0:=by rw[xH,cC.out];exact cv.ok
   have ds:dN s=0:=by rw[xH,cD.out];exact cw.ok
   have dm:iZ r=iZ x.r:=by rw[<-CB r bm.hb,cC.out]
   have dt:iZ s=iZ y.r:=by rw[<-CB s b7.hb,cD.out]
   have ci:=ou cH cI;rw[<-dm,<-dt]at ci;have aq:=O (ba.trans ci);clear dm dt ci ba;obtain⟨d5,d7⟩:=aB dl ds;clear dl ds;go_upto_region 13 with(refine bV F 34 _ F F cn cZ cx ?_);refine(Yw r b0 bm).mono ?_;rintro aa ew ⟨ax,ch⟩;rcases ch with⟨-,eC,rfl,dC⟩|⟨a6, -⟩
   case inr=>exact absurd d5.out a6
   case inl=>
   obtain⟨et,ev,rfl,ep, -,dp⟩:=iJ dC;obtain⟨cE,co,b8,cR,cU,cp,dr⟩:=su dp (cm.ext ax) (b7.ext ax) (cQ.ext ax) (cT.ext ax) (ct.ext ax) (GR bm);clear dC dp ax cm cn b7 cQ cT ct bm;go_upto_region 13 with fail;go_upto_region 14 with(refine bV F 34 _ F F co cZ cy ?_);refine(Yw s ew b8).mono ?_;rintro aa d1 ⟨a3,ch⟩;rcases ch with⟨-,vs,rfl,dE⟩|⟨a6, -⟩
   case inr=>exact absurd d7.out a6
   case inl=>
   obtain⟨sa,sc,rfl,er, -,du⟩:=iJ dE;obtain⟨cG,cF,d8,d',cq,dv⟩:=iq du (cE.ext a3) (cR.ext a3) (cU.ext a3) (cp.ext a3) (GR b8);clear dE du a3 cR cU cp b8 cE co;have bd:=O (Wp (iZ r) (iZ s) et sa (121+r.bn) (121+s.bn) ev sc d1 dr.symm dv.symm cF cG);generalize iZ r=b5 at bd aq;generalize iZ s=b6 at bd aq;obtain⟨q,al⟩:=aC ((b5==b6));rw[al]at bd;clear dr dv cF cG ep er;go_wp2_with fail;refine(bd).mono ?_;rintro aa eA ⟨rfl,rfl⟩;cases q with
   |false=>
    have a6:¬b5=b6:=by simpa using al
    have ac:=O (ab (j:Int) 0 d1 (by rw[ar.out,aq.out,if_neg a6]) cq);clear ab aq ar al;go_wp2_with fail
    (try go_ret2)
    exact ac
   |true=>
    have c9:b5=b6:=by simpa using al
    have d4:=O (show iB A R 0=iB (A.drop (j+1)) (R.drop (j+1)) (j+1) by rw[aq.out,if_pos c9]);clear aq al c9;go_wp2_with fail;go_roundw
    case rel=>exact⟨j+1,J,by go_num,d4,d8,d',cq⟩
    case measure=>simp[intOf];omega
  ·have eg:decide ((j:Int)<(M:Int))=false:=aP J;have eh:decide (j<M)=false:=aP dd;obtain rfl:j=M:=J;have cg:=ba.trans (tL (a:=A) (b:=R) (k:=j) (by rw[b2.out,b3.out];exact b1.symm));rw[b2.out,b3.out]at cg;have bc:=O cg;clear cg ba;go_wp2_with fail;refine(a9 wr _ aw).mono ?_;rintro aa bz ⟨rfl,ag⟩;go_wp2_with fail;refine(a_ bz _ (a2.ext ag)).mono ?_;rintro aa v2 ⟨rfl,ai⟩;have bu:=ag.ext ai;obtain⟨bk,bl,a1⟩:=aW (aw.ext bu) (a2.ext bu) (a8.ext bu);clear ag ai bu aw a2 a8;by_cases c3:am=an
   ·have ei:decide ((am:Int)=(an:Int))=true:=aQ J;have ej:((am:Int)==(an:Int))=true:=by simp;omega
    have ac:=O (ab (-1) 0 v2 (by rw[ar.out,bc.out,if_pos c3]) a1);clear ab ar bc de;go_wp2_with fail
    (try go_ret2)
    exact ac
   ·have ei:decide ((am:Int)=(an:Int))=false:=aP J;have ej:((am:Int)==(an:Int))=false:=by simp;omega
    have ac:=O (fun u (af:X v2 u)=>ab (j:Int) 0 u (by rw[ar.out,bc.out,if_neg c3]) (a1.ext af));clear ab ar bc;go_wp2_with fail;refine(a9 v2 _ bk).mono ?_;rintro aa v3 ⟨rfl,ad⟩;go_wp2_with fail;refine(a_ v3 _ (bl.ext ad)).mono ?_;rintro aa b0 ⟨rfl,ae⟩;have d6:=O (ac b0 (ad.ext ae));clear ac ad ae;go_wp2_with fail
    (try go_ret2)
    exact d6
def kg(x y:dW):Bool:=(x.num==y.num)&&((x.time==y.time)&&((x.act==y.act)&&((x.bI==y.bI)&&((x.key==y.key)&&((x.prev==y.prev)&&(x.body==y.body))))))
theorem nL(x y:dW):kg x y=true↔x=y:=by
 obtain⟨j,u,E,I,R,aa,ab⟩:=x;obtain⟨ac,ad,ae,af,ag,ai,al⟩:=y;unfold kg;simp only[Bool.and_eq_true,beq_iff_eq,dW.mk.injEq]
theorem rT(x y:aG)(w:World)(hx:x.Ok w)(bl:y.Ok w):
 Calls prog 19 #[.agg x.v.toArray,.agg y.v.toArray] w fun e w'=>e= .returned (.bool (kg x.p y.p))/\X w w':=by
 obtain⟨ab,ac⟩:=aB hx bl;clear hx bl;obtain⟨a5,a6,a7⟩:=aW (O4 underlying29 x.bI y.bI ab.ha ac.ha) (O4 underlying29 x.key y.key ab.hk ac.hk) (O4 underlying31 x.prev y.prev ab.hp ac.hp);have bk:kg x.p y.p=((x.num==y.num)&&((x.time==y.time)&&((x.act==y.act)&&((x.bI==y.bI)&&((x.key==y.key)&&((x.prev==y.prev)&&(x.body==y.body))))))):=F;have a4:=O (fun bm (a8:X w bm)=>Wp x.body y.body x.ba y.ba x.bn y.bn x.bc y.bc bm ab.hb.symm ac.hb.symm (ab.hcl.ext a8) (ac.hcl.ext a8));rw[bk];clear bk;obtain⟨j,b8⟩:=aC ((x.num==y.num));obtain⟨al,b9⟩:=aC ((x.time==y.time));obtain⟨am,b'⟩:=aC ((x.act==y.act));obtain⟨an,aE⟩:=aC ((x.bI==y.bI));obtain⟨ao,a0⟩:=aC ((x.key==y.key));obtain⟨ap,a1⟩:=aC ((x.prev==y.prev));obtain⟨aq,a2⟩:=aC ((x.body==y.body));rw[aE]at a5;rw[a0]at a6;rw[a1]at a7;rw[a2]at a4;rw[b8,b9,b',aE,a0,a1,a2];clear aE a0 a1 a2;go_enter func19,ntmps19;go_upto_region 1 with(fail);generalize ai:World.alloc (World.alloc w _) _=ad;have bo:ah ad w.heap.size x.v 34:=by rw[<-ai];exact(ah.aI F F).alloc _
 have bp:ah ad (w.heap.size+1) y.v 34:=by rw[<-ai];exact ah.aI (uO _ _).symm rfl
 have ag:X w ad:=by rw[<-ai];exact((X.refl w).alloc _).alloc _
 obtain⟨a3,b0,b1,ae,af⟩:=dM ag (ab.ext ag) (ac.ext ag) bo bp;clear ai bo bp ag;have ca:=ae.cell' (aG.aL x);have cb:=ae.cell' (aG.rH x);have cc:=ae.cell' (aG.at2 x);have cd:=ae.cell' (aG.zV ab);have ce:=af.cell' (aG.aL y);have cf:=af.cell' (aG.rH y);have cg:=af.cell' (aG.at2 y);have ch:=af.cell' (aG.zV ac);have ax:∀(e:aG) (g:Nat),e.Ok w->ah ad g e.v 34->dP ad ⟨g,3,none⟩ (e.bI.map Y)/\dP ad ⟨g,19,none⟩ (e.key.map Y)/\dP ad ⟨g,35,none⟩ (e.prev.map Y):=by
  intro e g az hb;have a9:=aK.vP hb 3 16;have a_:=aK.vP hb 19 16;have ba:=aK.vP hb 35 32;rw[aG.Eh az]at a9;rw[aG.wB az]at a_;rw[aG.BH az]at ba;exact⟨dP.of a9,dP.of a_,dP.of ba⟩
 obtain⟨ar,aw,b2,b3,b4,b5,b6,b7⟩:=jg (ax x _ ab ae) (ax y _ ac af) (show(x.bI.map Y).length=16 by rw[length_map,ab.ha]) (show(x.key.map Y).length=16 by rw[length_map,ab.hk]) (show(x.prev.map Y).length=32 by rw[length_map,ab.hp]) (show(y.bI.map Y).length=16 by rw[length_map,ac.ha]) (show(y.key.map Y).length=16 by rw[length_map,ac.hk]) (show(y.prev.map Y).length=32 by rw[length_map,ac.hp]);clear ax ab ac b0 b1;refine wp_region_list ?_;refine ku (v:= .pointer (some ⟨w.heap.size,0,none⟩)) ?_;refine ku (v:= .int .i64 x.num) ?_;refine ku (v:= .pointer (some ⟨w.heap.size+1,0,none⟩)) ?_;refine ku (v:= .int .i64 y.num) ?_;refine ku (v:= .bool j) ?_;refine ku (v:= .bool j) ?_;refine dD j (v:=bif j then .pointer (some ⟨w.heap.size,1,none⟩)else undef) ?_;refine dD j (v:=bif j then .int .i64 x.time else undef) ?_;refine dD j (v:=bif j then .pointer (some ⟨w.heap.size+1,1,none⟩)else undef) ?_;refine dD j (v:=bif j then .int .i64 y.time else undef) ?_;refine dD j (v:=bif j then .bool al else undef) ?_;refine iL j al (v:= .bool (j&&al)) ?_;generalize bc:(j&&al)=u;have bt:=O bc;clear bc;refine ku (v:= .bool u) ?_;refine dD u (v:=bif u then .pointer (some ⟨w.heap.size,2,none⟩)else undef) ?_;refine dD u (v:=bif u then .int .i64 x.act else undef) ?_;refine dD u (v:=bif u then .pointer (some ⟨w.heap.size+1,2,none⟩)else undef) ?_;refine dD u (v:=bif u then .int .i64 y.act else undef) ?_;refine dD u (v:=bif u then .bool am else undef) ?_;refine iL u am (v:= .bool (u&&am)) ?_;generalize bd:(u&&am)=E;have bu:=O bd
 clear bd;refine ku (v:= .bool E) ?_;refine dD E (v:=bif E then .pointer (some ⟨w.heap.size,3,none⟩)else undef) ?_;refine oU (v:=bif E then .agg (x.bI.map Y).toArray else undef) ?hy106 ?hz106
 case hy106=>((cases E)<;>(first|exact .inl ⟨F,by first|(simp only[cond_true];exact bQ F F ar.1 dh b2)⟩|exact .inr ⟨F,F⟩))
 case hz106=>
 refine lY ?_;refine dD E (v:=bif E then .pointer (some ⟨w.heap.size+1,3,none⟩)else undef) ?_;refine oU (v:=bif E then .agg (y.bI.map Y).toArray else undef) ?hy111 ?hz111
 case hy111=>((cases E)<;>(first|exact .inl ⟨F,by first|(simp only[cond_true];exact bQ F F aw.1 dh b5)⟩|exact .inr ⟨F,F⟩))
 case hz111=>
 refine lY ?_;refine oU (v:=bif E then .bool an else undef) ?hy115 ?hz115
 case hy115=>((cases E)<;>(first|exact .inl ⟨F,by first|(simp only[cond_true];exact jm F F F oD a5 _)⟩|exact .inr ⟨F,F⟩))
 case hz115=>
 refine lY ?_;refine iL E an (v:= .bool (E&&an)) ?_;generalize be:(E&&an)=I;have bv:=O be;clear be;refine ku (v:= .bool I) ?_;refine dD I (v:=bif I then .pointer (some ⟨w.heap.size,19,none⟩)else undef) ?_;refine oU (v:=bif I then .agg (x.key.map Y).toArray else undef) ?hy125 ?hz125
 case hy125=>((cases I)<;>(first|exact .inl ⟨F,by first|(simp only[cond_true];exact bQ F F ar.2.1 dh b3)⟩|exact .inr ⟨F,F⟩))
 case hz125=>
 refine lY ?_;refine dD I (v:=bif I then .pointer (some ⟨w.heap.size+1,19,none⟩)else undef) ?_;refine oU (v:=bif I then .agg (y.key.map Y).toArray else undef) ?hy130 ?hz130
 case hy130=>((cases I)<;>(first|exact .inl ⟨F,by first|(simp only[cond_true];exact bQ F F aw.2.1 dh b6)⟩|exact .inr ⟨F,F⟩))
 case hz130=>
 refine lY ?_;refine oU (v:=bif I then .bool ao else undef) ?hy134 ?hz134
 case hy134=>((cases I)<;>(first|exact .inl ⟨F,by first|(simp only[cond_true];exact jm F F F oD a6 _)⟩|exact .inr ⟨F,F⟩))
 case hz134=>
 refine lY ?_;refine iL I ao (v:= .bool (I&&ao)) ?_;generalize bh:(I&&ao)=R;have bw:=O bh;clear bh;refine ku (v:= .bool R) ?_;refine dD R (v:=bif R then .pointer (some ⟨w.heap.size,35,none⟩)else undef) ?_;refine oU (v:=bif R then .agg (x.prev.map Y).toArray else undef) ?hy144 ?hz144
 case hy144=>((cases R)<;>(first|exact .inl ⟨F,by first|(simp only[cond_true];exact bQ F F ar.2.2 qA b4)⟩|exact .inr ⟨F,F⟩))
 case hz144=>
 refine lY ?_;refine dD R (v:=bif R then .pointer (some ⟨w.heap.size+1,35,none⟩)else undef) ?_;refine oU (v:=bif R then .agg (y.prev.map Y).toArray else undef) ?hy149 ?hz149
 case hy149=>((cases R)<;>(first|exact .inl ⟨F,by first|(simp only[cond_true];exact bQ F F aw.2.2 qA b7)⟩|exact .inr ⟨F,F⟩))
 case hz149=>
 refine lY ?_;refine oU (v:=bif R then .bool ap else undef) ?hy153 ?hz153
 case hy153=>((cases R)<;>(first|exact .inl ⟨F,by first|(simp only[cond_true];exact jm F F F EI a7 _)⟩|exact .inr ⟨F,F⟩))
 case hz153=>
 refine lY ?_;refine iL R ap (v:= .bool (R&&ap)) ?_;generalize bi:(R&&ap)=aa;have bx:=O bi;clear bi;refine ku (v:= .bool aa) ?_;refine dD aa (v:=bif aa then .pointer (some ⟨w.heap.size,67,none⟩)else undef) ?_;refine dD aa (v:=bif aa then .slice x.ba x.bn x.bc else undef) ?_;refine dD aa (v:=bif aa then .pointer (some ⟨w.heap.size+1,67,none⟩)else undef) ?_;refine dD aa (v:=bif aa then .slice y.ba y.bn y.bc else undef) ?_;refine zN (v:=bif aa then .bool aq else undef) F call13 ?hy166 ?hz166
 case hy166=>((cases aa)<;>(first|exact .inl ⟨F,_,by simp[Act.eval],a4 ad a3⟩|exact .inr ⟨F,F⟩))
 case hz166=>
 refine lY ?_;refine iL aa aq (v:= .bool (aa&&aq)) ?_;generalize bj:(aa&&aq)=br;have bz:=O bj;clear bj;refine ku (v:= .bool br) ?_;refine wpList_nil ?_;go_wp2_with fail;go_ret;refine⟨?_,a3⟩;rw[<-bz.out,<-bx.out,<-bw.out,<-bv.out,<-bu.out,<-bt.out];simp only[Bool.and_assoc];rfl
theorem Br{x y:dW}(I:x.Fit)(R:y.Fit)(w:World):kg x y=decide (iZ x.r=iZ y.r):=by
 by_cases h:x=y
 ·subst h;rw[(nL x x).2 F];simp
 ·have j:¬iZ x.r=iZ y.r:=fun u=>h (Bb I R w u);rw[aP j];cases E:kg x y with
  |false=>rfl
  |true=>exact absurd ((nL x y).1 E) h
def l8:List dW->Nat->aj->Prop
 |[],_,_=>True
 |e::es,k,j=>e.Fit/\e.num=(k:Int)/\e.prev=j/\l8 es (k+1) (ig e.r)
theorem zm(w:World):∀(es pre:List dW) (l:aj) (f:Nat),l8 es pre.length (lq pre)->l=lK pre++lK es->es.length<f->wR l f (lK pre).length pre=(pre++es,0):=by
 intro es;induction es with
 |nil=>
  intro pre l f _ j hf;obtain⟨f,rfl⟩:∃g,f=g+1:=⟨f - 1,J⟩;unfold wR;rw[if_pos (by rw[j];simp[lK]),append_nil]
 |cons e es ag=>
  intro pre l f hF j hf;obtain⟨R,ac,ae,af⟩:=hF;obtain⟨f,rfl⟩:∃g,f=g+1:=⟨f - 1,J⟩;have aa:=pE R;have u:l=lK pre++(iZ e.r++lK es):=by rw[j,l6]
  have ad:fQ l ((lK pre).length:Int)=(e,(((lK pre).length+121+e.body.length:Nat):Int),0):=by
   rw[u];generalize lK pre=B;exact mH R w B _ B.length F
  unfold wR;rw[ad];rw[if_neg (by rw[u,length_append,length_append,aa];omega),if_neg aF,if_neg (by simp[ac]),if_neg (by simp[ae])];have E:lK (pre++[e])=lK pre++iZ e.r:=by rw[sj,l6];simp[lK]
  have I:=ag (pre++[e]) l f (by rw[length_append,SC];exact af) (by rw[u,E,append_assoc]) (by simpa using hf);rw[E,length_append,aa]at I;have ab:(((lK pre).length+121+e.body.length:Nat):Int).toNat=(lK pre).length+(121+e.body.length):=J;rw[ab,I,append_assoc];rfl
theorem zw(w:World){es:List dW}(h:l8 es 0 kN):nI (lK es)=(es,0):=by
 have ab:∀es:List dW,(∀e∈es,e.Fit)->es.length<=(lK es).length:=by
  intro es;induction es with
  |nil=>intro _;simp[lK]
  |cons e es u=>
   intro h;have I:=u fun x ac=>h x (by simp[ac]);rw[l6,length_append,pE (h e aF),length_cons];omega
 have aa:∀(es:List dW) k E,l8 es k E->∀e∈es,e.Fit:=by
  intro es;induction es with
  |nil=>intro _ _ _ e j;simp at j
  |cons x es u=>
   intro k E h e j;rcases mem_cons.1 j with rfl|j
   ·exact h.1
   ·exact u _ _ h.2.2.2 e j
 have I:=ab es (aa es _ _ h);have R:=zm w es [] (lK es) ((lK es).length+1) h (by simp[lK]) J;exact R
theorem nk{e:aG}{w:World}(h:e.Ok w)(j:dN e=0):e.p.Fit:=by
 obtain⟨-, -, -, -, -, -,u⟩:=qy h j;exact⟨h.ha,h.hk,h.hp,by show e.body.length<=32768;rw[h.hb];exact u,j⟩
theorem vB{es:List aG}(R:∀e∈es,e.p.Fit/\e.body.length=e.bn)(ac:∀(k:Nat) e,es[k]? =some e->e.num=(k:Int)/\e.prev=IW (es.take k)):
 ∀(u pre:List aG),es=pre++u->l8 (u.map aG.p) pre.length (lq (pre.map aG.p)):=by
 intro u;induction u with
 |nil=>intro pre _;exact trivial
 |cons e u ag=>
  intro pre j;have hk:es[pre.length]? =some e:=by rw[j];simp
  have ae:es.take pre.length=pre:=by rw[j];simp
  obtain⟨aa,I⟩:=ac _ e hk;rw[ae]at I;have hb:∀x∈pre,x.body.length=x.bn:=fun x af=>(R x (by rw[j];simp[af])).2;have ad:=(R e (by rw[j];simp));refine⟨ad.1,aa,?_,?_⟩
  ·rw[acS hb];exact I
  ·have E:=ag (pre++[e]) (by rw[j];simp);rw[map_append,length_append]at E;have ab:lq (pre.map aG.p++[e].map aG.p)=ig e.p.r:=SC _ _;rw[ab]at E;exact E
theorem oo{es:List aG}{S:dw}(h:o_ es S)(w:World)(u:∀e∈es,e.Ok w):nI (kG es)=(es.map aG.p,0):=by
 have R:=h.valid;have I:=vB (es:=es) (fun e j=>⟨nk (u e j) (R e j),(u e j).hb⟩) (fun k e hk=>⟨(h.at hk).2.1,(h.at hk).2.2⟩) es [] F;have E:=zw w I;rw[acQ fun e j=>(u e j).hb]at E;exact E
theorem uE{xs ys:List aG}{w:World}(ha:∀e∈xs,e.p.Fit)(hb:∀e∈ys,e.p.Fit){k:Nat}{x y:aG}(j:xs[k]? =some x)(u:ys[k]? =some y):
 iB ((xs.map aG.p).drop k) ((ys.map aG.p).drop k) k=if kg x.p y.p then iB ((xs.map aG.p).drop (k+1)) ((ys.map aG.p).drop (k+1)) (k+1)else(k:Int):=by
 rw[ou (x:=x.p) (y:=y.p) (by rw[List.getElem?_map,j];rfl) (by rw[List.getElem?_map,u];rfl),Br (ha x (mem_of_getElem? j)) (hb y (mem_of_getElem? u)) w];by_cases h:iZ x.p.r=iZ y.p.r
 ·rw[if_pos h,if_pos (by simpa using h)]
 ·rw[if_neg h,if_neg (by simpa using h)]
theorem vD(n:Nat)(w:World)(hn:n<=1000):
 Calls prog 61 #[.slice none 0 0,.int .i64 n] w fun e w'=>∃v,e= .returned v/\w'.ownsRow w.heap.size 34 68 v 0 []/\X w w':=by
 by_cases I:n=0
 ·subst I;go_enter func61,ntmps61;go_wp2;go_ret;exact⟨_,F,World.ownsRow_nil _ _ _ _,X.refl _⟩
 ·have u:¬((n:Int)<0):=J;have ag:IntKind.i64.wrap (n:Int)=(n:Int):=IntWalk.i64_in _ J;have ai:decide ((0:Int)<(n:Int))=true:=aQ J;obtain⟨af,aa,ae,hs,hb⟩:=info_parts BJ;obtain⟨G,j⟩:=jE (grownCap w n 0 34);have al:n<=G:=by rw[j];exact grownCap_ge w _ _ _
  have E:G<=maxLen:=by rw[j];exact grownCap_le_maxLen w n 0 34 (by unfold maxLen;omega)
  have ac:∀ty,(Builtin.append_ #[24,3] ty #[.slice none 0 0,.int .i64 (n:Int)]).run prog w=
   .ok (.slice (some ⟨w.heap.size,0,none⟩) n G) (w.drew.alloc (.cells (#[]++Builtin.zeroCells (Value.agg dS.v.toArray).cells n++Builtin.zeroCells (Value.agg dS.v.toArray).cells (G - n)) 34)):=fun ty=>by
   have h:=Lib.run_append_grow_zeros w 24 3 ty 34 af (.agg dS.v.toArray) .i64 .i64 underlying24 underlying3 aa ae none 0 0 [] (by rw[hs];exact run_firstCells_none w.drew 68 0 0 0) n J J J J (by rw[hb];omega)
    (by exact growslice_fits J (by rw[hb];omega))
   rw[Nat.zero_add,<-j]at h;exact h
  have ad:(#[]++Builtin.zeroCells (Value.agg dS.v.toArray).cells n++Builtin.zeroCells (Value.agg dS.v.toArray).cells (G - n)).size=G*68:=by
   have u:(Value.agg dS.v.toArray).cells.size=68:=F;simp[Builtin.zeroCells,u];omega
  have ab:∀cs:Array Value,cs.size=G*68->(w.drew.alloc (.cells cs 34)).ownsRow w.heap.size 34 68 (.slice (some ⟨w.heap.size,0,none⟩) 0 G) 0 []:=fun cs hc=>World.ownsRow_made w.drew cs G bG E hc;generalize R:(#[]++Builtin.zeroCells (Value.agg dS.v.toArray).cells n++Builtin.zeroCells (Value.agg dS.v.toArray).cells (G - n))=cs at*;clear j R;unfold maxLen at E;go_enter func61,ntmps61;go_wp2_with (at_builtin;refine Lib.wpList_append_run _ F _ _ _ _ F _ _ F F _ _ (ac _) ?_);all_goals (go_ret;exact⟨_,F,ab cs ad,(X.refl w).drew.alloc _⟩)
abbrev l5:=aN×Nat×List aG
def iX(j:List l5):List aG:=(j.map (·.2.2)).flatten
def nu(j:l5):Value:= .slice j.1 j.2.2.length j.2.1
theorem om{j:List l5}{k:Nat}{u:l5}(h:j[k]? =some u):iX (j.take (k+1))=iX (j.take k)++u.2.2:=by
 unfold iX;rw[take_add_one,h];simp
theorem nW(j:List l5)(k:Nat):(iX (j.take k)).length<=(iX j).length:=by
 have u:iX j=iX (j.take k)++iX (j.drop k):=by
  unfold iX;rw[<-flatten_append,<-map_append,take_append_drop]
 rw[u,length_append];omega
theorem tF(j:List l5)(g E ar:Nat)(w:World)(a2:j.length=E)(br:E<=140737488355328)(bo:E<=ar)(az:∀(i:Nat) u,j[i]? =some u->w.cell? ⟨g,i,none⟩=some (nu u))
 (hc:∀u∈j,aK w u.1 (iM u.2.2))(ax:∀u∈j,BK u.2.2)(a0:(iX j).length<=1000):
 Calls prog 17 #[.slice (some ⟨g,0,none⟩) E ar] w fun e w'=>∃v,e= .returned v/\w'.ownsRow w.heap.size 34 68 v (iX j).length (iM (iX j))/\X w w':=by
 obtain⟨af,ao,a9,ap,a8⟩:=dM a2 az hc a0 ax;obtain⟨bv,bp,bu,hs,bm⟩:=info_parts BJ;clear az hc a0 a2 ax;go_enter func17,ntmps17;go_wp2;go_loopw [3,11] (fun s i wr=>∃k:Nat,k<=E/\s= .int .i64 ((iX (j.take k)).length:Nat)/\i= .int .i64 k/\wr=w)
  (fun _ i _=>E - (intOf i).toNat)
 case atStart=>exact⟨0,J,by simp[iX],F,F⟩
 case round=>
  obtain⟨k,hk,rfl,rfl,bt⟩:=hrel;subst wr;by_cases am:k<E
  ·obtain⟨u,R⟩:∃u,j[k]? =some u:=⟨j[k]'(by rw[af.out];exact am),aF⟩;have I:=ao.out k u R;unfold nu at I;have ad:=om R;have ac:=nW j (k+1);rw[ad]at ac;have bi:=ap.out;rw[length_append]at ac;obtain⟨m,aa⟩:=aC ((iX (j.take k)).length);obtain⟨q,ab⟩:=aC u.2.2.length;have a3:(iX (j.take (k+1))).length=m+q:=by rw[ad,length_append,aa,ab]
   rw[aa,ab]at ac;rw[ab]at I;rw[aa];have bk:IntKind.i64.wrap ((m:Int)+(q:Int))=(m:Int)+(q:Int):=IntWalk.i64_in _ J;have bl:decide ((m:Int)+(q:Int)<0)=false:=aP J;have bc:=O a3;clear a3 ad ac bi aa ab R;go_wp2;go_roundw
   case rel=>exact⟨k+1,J,by rw[bc.out];go_num,by go_num,aF⟩
   case measure=>simp[intOf];omega
  ·have bj:k=E:=J;subst k;have a4:j.take E=j:=take_of_length_le (by rw[af.out];omega);rw[a4];have aE:=ap.out;obtain⟨N,ai⟩:=aC ((iX j).length);have ag:=O ai;rw[ai]at aE⊢;clear a4 ai;go_wp2_with fail;refine(vD N _ aE).mono ?_;rintro e bw ⟨v,rfl,own,bd⟩;go_wp2;go_loopw [6,27] (fun v i wr=>∃k:Nat,k<=E/\i= .int .i64 k/\wr.ownsRow w.heap.size 34 68 v (iX (j.take k)).length (iM (iX (j.take k)))/\X w wr)
    (fun _ i _=>E - (intOf i).toNat)
   case atStart=>exact⟨0,J,F,by simpa[iX,iM]using own,bd⟩
   case round=>
    obtain⟨k,hk,rfl,ae,e2⟩:=hrel;by_cases am:k<E
    ·obtain⟨u,R⟩:∃u,j[k]? =some u:=⟨j[k]'(by rw[af.out];exact am),aF⟩;have I:=ao.out k u R;have hb:=block_lt_of_cell I;rw[<-e2.cell (p:=⟨g,k,none⟩) hb]at I;have ad:=om R;have ac:=nW j (k+1);rw[ad,ag.out,length_append]at ac;have al:=(a9 u (mem_of_getElem? R)).ext e2;have a7:=O (a8 u (mem_of_getElem? R));unfold nu at I;obtain⟨x,c,a5⟩:=u;obtain⟨q,ab⟩:=aC a5.length;obtain⟨m,aa⟩:=aC ((iX (j.take k)).length);simp only at I ad ac al;rw[ab]at I;rw[aa,ab]at ac;rw[aa]at ae;obtain⟨an,aq,ba⟩:=aW ad ab aa;clear ad ab aa R hb;go_wp2_with (refine adH (n:=m) (m:=q) (c:=c) (news:=iM a5) GX F _ _ F w.heap.size F F ae ?qc1 al (u7 _) ?qc4 ?qc5 e2.size ?_)
     case qc1=>rw[BL a7.out,aq.out,Nat.mul_comm]
     case qc4=>omega
     case qc5=>omega
     intro v2 w2 a6 aw _;have be:X w w2:=e2.grown aw (fun bh h=>(ae.lt bh h).1);rw[<-GV]at a6;have a1:(iX (j.take (k+1))).length=m+q:=by rw[an.out,length_append,ba.out,aq.out]
     have a_:=O a1;clear ae aw e2 I al a1;go_wp2;go_roundw
     case rel=>exact⟨k+1,J,by go_num,by rw[a_.out,an.out];exact a6,be⟩
     case measure=>simp[intOf];omega
    ·have bj:k=E:=J;subst k;rw[take_of_length_le (by rw[af.out];omega),ag.out]at ae;go_wp2;go_ret;exact⟨_,F,by rw[ag.out];exact ae,e2⟩
theorem mK:(prog.info? 34).map (·.size)=some 68:=au
theorem ze(x y z:Nat):∀u t w,(Builtin.min_ u t #[.int .i64 (x:Int),.int .i64 (y:Int),.int .i64 (z:Int)]).run prog w= .ok (.int .i64 ((min (min x y) z:Nat):Int)) w:=fun u t w=>by
 simp[Builtin.min_,Builtin.min2];by_cases j:y<x
 ·rw[if_pos j];split<;>omega
 ·rw[if_neg j];split<;>omega
theorem y9(n:Int):∀j t w,(Builtin.max_ j t #[.int .i64 n,.int .i64 0]).run prog w= .ok (.int .i64 ((n.toNat:Nat):Int)) w:=fun j t w=>by
 rw[run_max_int2]
 congr 2
 by_cases h:(0:Int)>n
 ·rw[if_pos h];omega
 ·rw[if_neg h];omega
theorem za(M N:Nat):∀j t w,(Builtin.max_ j t #[.int .i64 (M:Int),.int .i64 (N:Int)]).run prog w= .ok (.int .i64 ((max M N:Nat):Int)) w:=fun j t w=>by
 rw[run_max_int2]
 congr 2
 by_cases h:(N:Int)>(M:Int)
 ·rw[if_pos h];omega
 ·rw[if_neg h];omega
theorem mU:∀{es:List aG} (k:Nat),BK es->(iM es).drop (k*68)=iM (es.drop k)
 |es,0,_=>by rw[Nat.zero_mul,drop_zero,drop_zero]
 |[],k+1,_=>by simp[iM]
 |e::es,k+1,h=>by
  have he:e.v.length=68:=h e aF;rw[show iM (e::es)=e.v++iM es from F,drop_succ_cons,drop_append,he];rw[drop_eq_nil_of_le (by rw[he];omega),nil_append,show(k+1)*68 - 68=k*68 by omega];exact mU k fun x j=>h x (mem_cons_of_mem _ j)
theorem pQ:∀{es:List aG} (k:Nat),BK es->(iM es).take (k*68)=iM (es.take k)
 |es,0,_=>by rw[Nat.zero_mul,take_zero,take_zero];rfl
 |[],k+1,_=>by simp[iM]
 |e::es,k+1,h=>by
  have he:e.v.length=68:=h e aF;rw[show iM (e::es)=e.v++iM es from F,take_succ_cons,take_append,he];rw[take_of_length_le (by rw[he];omega),show(k+1)*68 - 68=k*68 by omega,pQ k fun x j=>h x (mem_cons_of_mem _ j)];rfl
theorem aK.u6{w:World}{a:aN}{es:List aG}(h:aK w a (iM es))(j:BK es)(k:Nat):aK w a (iM (es.take k)):=by
 rw[<-pQ k j];exact h.take _
theorem aK.uW{w:World}{a:aN}{es:List aG}(h:aK w a (iM es))(j:BK es)(c p:Nat)(hc:es.length<=c):aK w (qX a c p 68) (iM (es.drop p)):=by
 unfold qX;rw[<-mU p j];split
 ·rename_i I
  left
  rw[mU p j,drop_of_length_le J];rfl
 ·rcases h with h|⟨b,off,rfl,h⟩
  ·left;rw[h];simp
  ·refine .inr ⟨b,off+p*68,by rw[Option.map_some,dn],fun i u E=> ?_⟩;rw[List.getElem?_drop]at E;have:=h _ _ E;rw[show off+p*68+i=off+(p*68+i) by omega];exact this
noncomputable def nE(n:Nat):Array Oper:=xZ f4 n
theorem Ab{u j:aj}{A:List dW}(h:nI u=(A,0)):j3 u j=if(nI j).2≠0 then(0,(nI j).2)else(iB A (nI j).1 0,0):=by
 unfold j3;rw[h];rfl
theorem tO{a b:List dW}{k:Nat}(ha:a.length<=k)(hb:k<b.length):iB (a.drop k) (b.drop k) k=(k:Int):=by
 rw[drop_eq_nil_of_le ha,drop_eq_getElem_cons hb,iB]
theorem tT{a b:List dW}{k:Nat}(ha:k<a.length)(hb:b.length<=k):iB (a.drop k) (b.drop k) k=(k:Int):=by
 rw[drop_eq_getElem_cons ha,drop_eq_nil_of_le hb,iB]
theorem tQ{a b:List dW}{k:Nat}(ha:a.length<=k)(hb:b.length<=k):iB (a.drop k) (b.drop k) k= -1:=by
 rw[drop_eq_nil_of_le ha,drop_eq_nil_of_le hb,iB]
theorem xL(cS cT:List jD)(cj ck:aN)(b2 cm n2 cn:Nat)(cU dl:Int)(w:World)(ei:cS.length=b2)(ep:b2<=cm)(d5:aK w cj (qQ cS))(ej:cT.length=n2)(er:n2<=cn)(d6:aK w ck (qQ cT))(cC:mJ w):
 Calls prog 4 #[.slice cj b2 cm,.slice ck n2 cn,.int .i64 cU,.int .i64 dl] w fun x w'=>x= .returned (.bool true)/\X w w':=by
 obtain⟨db,dc⟩:=aB (fun u (I:X w u)=>ad2 cS cj b2 cm u ei ep (d5.ext I) (cC.ext I)) (fun u (I:X w u)=>ad2 cT ck n2 cn u ej er (d6.ext I) (cC.ext I));clear d5 d6 cC ei ej ep er;go_enter func4,ntmps4;go_wp2_with fail;refine(Wj w).mono ?_;rintro x u ⟨rfl,I⟩;have b4:=O I;clear I;go_wp2_with fail;refine(db u b4).mono ?_;rintro x w2 ⟨ga,f9,xs,fX,rfl,ex,d3, -,fo,e2⟩;obtain⟨a2,az,rfl,ee⟩:=ex.abM;obtain⟨di,a4,b5⟩:=aW ee d3 (b4.ext e2);clear ex ee d3 e2 db b4;go_wp2_with fail;refine(dc w2 b5).mono ?_;rintro x a3 ⟨v2,f',ys,fY,rfl,ey,d4, -,fp,cq⟩;obtain⟨fx,a7,rfl,ef⟩:=ey.abM;obtain⟨aw,c2,cW,af⟩:=bU ef d4 (b5.ext cq) (di.ext cq);clear ey ef d4 cq dc b5 di;obtain⟨R,cE⟩:=aC xs.length;obtain⟨bh,cF⟩:=aC ys.length;rw[cE]at af fo⊢;rw[cF]at aw fp⊢;obtain⟨a5,b8⟩:=aB cE cF;obtain⟨K,dC⟩:=aC cU.toNat;have bz:=y9 cU;rw[dC]at bz;obtain⟨ac,dE⟩:=aC (min K R);obtain⟨aa,dT⟩:=aC (min (min K R) bh);have ek:=rz K R;have el:=ze K R bh;rw[dE]at ek;rw[dT]at el;have fr:min (K:Int) (R:Int)=(ac:Int):=J;have fi:ac<=R:=J;have dy:aa<=bh:=J;have bw:=af.nc;have bx:=aw.nc;have dv:ac<=az:=J;obtain⟨bi,ev⟩:=aC (qX fx a7 aa 68);have cc:=O ev;obtain⟨cs,be⟩:=aC (xs.take ac++ys.drop aa);have fm:cs.length<=82:=by rw[<-be,length_append,length_take,length_drop];omega
 have c3:=O be;have b7:=O (show∀e∈cs,dN e=0 from fun e E=>by
  rw[<-be]at E;rcases mem_append.1 E with E|E
  ·exact a4.valid e (mem_of_mem_take E)
  ·exact c2.valid e (mem_of_mem_drop E))
 have bj:=O (show∀e∈cs,e.Ok a3 from fun e E=>by
  rw[<-be]at E;rcases mem_append.1 E with E|E
  ·exact af.ok e (mem_of_mem_take E)
  ·exact aw.ok e (mem_of_mem_drop E))
 have e1:=O (show BK cs from fun e E=>aG.len (bj e E));clear be ev dE dT dC cE cF;go_upto_region 5 with fail;go_cut [11] (fun v wx=>∃aq ao,v= .slice aq cs.length ao/\sK wx aq cs.length ao cs/\X a3 wx)
 case first=>
  obtain⟨C,ab,aJ,bP⟩:=iw (show bT a3 a3 [] [] a3 from bT.jA (X.refl _) (dV.none _));refine fJ (ops:=(nE 5)) fun Z=> ?_;refine aA 0 ?_;refine aA 1 ?_;refine aA 2 ?_;refine aA 3 ?_;refine aA 4 ?_;refine aA 5 ?_;refine bD 6 F (bf F (fun u _=>zB (k:=ac) F F F underlying24 mK dv u)) ?_;refine aA 7 ?_;refine aA 8 ?_;refine aA 9 ?_;refine aA 10 ?_;refine aA 11 ?_;refine aA 12 ?_;refine aA 13 ?_;refine aA 14 ?_;refine bD 15 F (bf F (fun u _=>Mc (k:=aa) cc F F F underlying24 mK dy u)) ?_;generalize World.drew a3=ae at Z⊢;refine aZ 16 ?_;intro ax ag;go_wp2_with fail;refine ag _ _ (aJ _ _ Z ((X.refl ae).alloc _)) ?_;clear ag ax;generalize cP:World.alloc ae _=al;have dk:ah al ae.heap.size [.slice a2 ac az,.slice bi (bh - aa) (a7 - aa)] 24:=by rw[<-cP];exact ah.aI F F
  replace Z:C al:=by rw[<-cP];exact aJ _ _ Z ((X.refl ae).alloc _)
  have c1:=O dk;clear cP dk;generalize ae.heap.size=fh at*;have I:=((ab al).1 Z).base;have eA:(xs.take ac).length=ac:=by rw[length_take,a5.out];omega
  have eC:(ys.drop aa).length=bh - aa:=by rw[length_drop,b8.out]
  have eJ:aK al a2 (iM (xs.take ac)):=(af.cell.u6 af.QJ ac).ext I;have eK:aK al bi (iM (ys.drop aa)):=by
   have h:=aw.cell.uW aw.QJ a7 aa (by rw[b8.out];omega);rw[cc.out]at h;exact h.ext I
  have cx:iX [(a2,az,xs.take ac),(bi,a7 - aa,ys.drop aa)]=cs:=by
   rw[<-c3.out];unfold iX;simp
  have cy:=tF [(a2,az,xs.take ac),(bi,a7 - aa,ys.drop aa)] fh 2 2 al F J J (by
   intro i eM hit
   match i,hit with
   |0,hit=>
    obtain rfl:=Option.some.inj hit;show al.cell? _=some (.slice a2 (xs.take ac).length az);rw[eA];exact c1.cell' F
   |1,hit=>
    obtain rfl:=Option.some.inj hit;show al.cell? _=some (.slice bi (ys.drop aa).length (a7 - aa));rw[eC];exact c1.cell' F
   |i+2,hit=>simp at hit) (by
   intro eM hit;simp only[mem_cons,not_mem_nil,or_false]at hit;rcases hit with rfl|rfl
   ·exact eJ
   ·exact eK) (by
   intro eM hit;simp only[mem_cons,not_mem_nil,or_false]at hit;rcases hit with rfl|rfl
   ·exact fun e E=>af.QJ e (mem_of_mem_take E)
   ·exact fun e E=>aw.QJ e (mem_of_mem_drop E)) (by rw[cx];omega)
  rw[cx]at cy;obtain⟨e5,c8⟩:=aB cy I;clear cy eJ eK eA eC cx I;refine aH ?_;refine aZ 17 ?_;intro ax ag;go_wp2_with fail;refine e5.mono ?_;rintro fg fW ⟨v,rfl,own,e2⟩;obtain⟨aq,ao,rfl,a8,eo,ew⟩:=iJ own;obtain⟨a_,e6⟩:=aB (show sK fW aq cs.length ao cs from⟨F,a8,eo,fun e E=>(bj e E).ext (c8.ext e2),ew⟩) (c8.ext e2);replace Z:=aJ _ _ Z e2;go_wp2_with fail;refine ag _ _ Z ?_;clear ag ax own e2 ew a8 eo;refine aH ?_;refine aZ 18 ?_;intro ax ag;go_wp2_with (fail);refine ag _ _ Z ?_;clear ag ax;refine aH ?_;refine dH ?_;go_wp2_with fail;go_meet;exact⟨aq,ao,F,a_,e6⟩
 case rest=>
 obtain⟨aq,ao,rfl,cz,bp⟩:=hcut;obtain⟨fL,eE⟩:=aC wc;rw[eE]at cz bp⊢;have cQ:=Nk af.ok a4.valid;have eI:=Nk bj b7;obtain⟨b',b6,ce,cX⟩:=bU (oo a4 a3 af.ok) cz (af.ext bp) (cW.ext bp);have de:=O a4.valid;have e8:=O (show∀e∈xs,e.p.Fit from fun e E=>nk (af.ok e E) (a4.valid e E));clear eE wc cz bp aw af a4 c2 cW cc bj e1 c3 ek el fr fi dy dv bw bx bz b8;rw[a5.out]at cQ;obtain⟨bo,bd⟩:=aC (kG xs);obtain⟨dj,bv⟩:=aC (kG cs);obtain⟨fa,ba⟩:=aC bo.length;obtain⟨ci,bc⟩:=aC dj.length;obtain⟨eQ,cG⟩:=aC cs.length;rw[bd,ba]at cQ;rw[bv,bc,cG]at eI;rw[bd]at b';rw[cG]at b6 fm⊢;obtain⟨cM,cN⟩:=aB (fun(u:World) (h:sK u a2 R az xs)=>QK a2 R az xs u h de J (by rw[bd,ba];omega)) (fun(u:World) (h:sK u aq eQ ao cs)=>QK aq eQ ao cs u h b7 J (by rw[bv,bc];omega));rw[bd,ba]at cM;rw[bv,bc]at cN;obtain⟨c9,c_⟩:=aB ba bc;clear bd bv ba bc cG;go_wp2_with fail;refine(cM fL ce).mono ?_;rintro x fN ⟨gc,rfl,eR,br⟩;obtain⟨fc,fd,rfl,et,d', -,d7⟩:=nT eR;obtain⟨c5,df,c4,cY⟩:=bU d7 (ce.ext br) (b6.ext br) (cX.ext br);clear eR d7 br ce b6 cX cM;go_wp2_with fail;refine(cN fN c4).mono ?_;rintro x b3 ⟨gd,rfl,eS,bt⟩;obtain⟨cl,co,rfl,fw,ea, -,d8⟩:=nT eS;obtain⟨c6,dg,c0⟩:=aW (c5.ext bt) (df.ext bt) (cY.ext bt);obtain⟨f7,eN,ft,bz,fs⟩:=adr dl ci;obtain⟨T,fj⟩:=aC (ci - eN);have fk:IntKind.i64.wrap ((ci:Int) - (eN:Int))=(T:Int):=by rw[IntWalk.i64_in _ J];omega
 unfold maxLen at d' ea;have bu:T<=co:=J;obtain⟨z,cR⟩:=aC (dj.take T);have eL:z.length=T:=by rw[<-cR,length_take,c_.out];omega
 have eb:aK b3 cl (z.map Y):=by
  have h:=d8.take T;rw[<-map_take,cR]at h;exact h
 obtain⟨cg,ch⟩:=aB eb eL;have cw:T<=1000000000:=J;obtain⟨cb,da⟩:=aB (fun(u:World) (I:X b3 u)=>sP bo z fc cl fa fd T co u c9 ch et bu J cw J J (c6.ext I) (cg.ext I)) (fun(u:World) (I:X b3 u)=>abO z cl T co u ch bu cw J (cg.ext I));have cI:j3 bo z=_:=Ab b';obtain⟨fb,d2⟩:=aC (j3 bo z);rw[d2]at cb cI;obtain⟨a1,a0⟩:=fb;have a6:=O cI;clear cI d2;clear eS d8 bt c5 df c4 cY cN eb eL cR c_ c9 ch c6 cg fj b';go_wp2_with (refine bF F (zB (k:=T) F F F underlying32 gu bu _) ?_);refine(cb b3 (X.refl _)).mono ?_;rintro x fR ⟨rfl,cr⟩;go_wp2_with fail;refine(da fR cr).mono ?_;rintro x fS ⟨ge,rs,rfl,cJ,em, -,dt⟩;obtain⟨f8,f0,rfl,ez⟩:=cJ.abM;have fl:=TU cJ.own;have cA:=nA z;have a_:=O ez;have ct:=cr.ext dt;obtain⟨e',a9⟩:=aB (dg.ext ct) (c0.ext ct);rw[<-em]at cA a6;have e7:=O (show∀e∈rs,e.p.Fit from fun e E=>cA e.p (mem_map_of_mem E));obtain⟨G,ap⟩:=aC ((nI z).2);rw[ap]at a6⊢;clear ap em cA cr dt ct ez cJ cb da dg c0 bz fs fk de b7 et fw d' ea cQ eI bu cw ft;by_cases ap:G=0
 case neg=>
  obtain⟨rfl,rfl⟩:a1=0/\a0=G:=by
   have h:=a6.out;rw[if_pos ap]at h;exact⟨congrArg Prod.fst h,congrArg Prod.snd h⟩
  have f1:(a0 != 0)=true:=by simp;exact ap
  have f2:(a0==0)=false:=by simp;exact ap
  have dm:(a0==a0)=true:=beq_self_eq_true _;have dp:decide (a0=0)=false:=aP ap;clear a6;go_wp2_with fail
  (try go_ret)
  exact⟨F,a9⟩
 case pos=>
 subst ap;obtain⟨D,cv⟩:=aC (iB (xs.map aG.p) (rs.map aG.p) 0);obtain⟨rfl,rfl⟩:a1=D/\a0=0:=by
  have h:=a6.out;rw[if_neg aF,cv]at h;exact⟨congrArg Prod.fst h,congrArg Prod.snd h⟩
 clear a6;have a8:=O a_.nc;obtain⟨ai,cH⟩:=aC rs.length;rw[cH]at a_ a8⊢;have f6:ai<=9223372036854775807:=by have:=a8.out;omega
 obtain⟨bm,c7⟩:=aB cH cv;obtain⟨ad,d0⟩:=aC (max R ai);have en:=za R ai;rw[d0]at en;have fv:max (R:Int) (ai:Int)=(ad:Int):=J;have f4:ad<=9223372036854775807:=J;have f3:R<=ad:=J;have f5:ai<=ad:=J;have d1:∀j,j<ad->j<R∨j<ai:=fun j fn=>by omega
 have bl:=O d1;clear cH cv d0 a8 fl d1;go_wp2_with fail;clear en fv;go_loopw [18,89] (fun fz i wr=>∃j:Nat,j<=ad/\fz= .int .i64 (-1)/\i= .int .i64 (j:Int)/\a1=iB ((xs.map aG.p).drop j) ((rs.map aG.p).drop j) j/\X fS wr) (fun _ i _=>ad - (intOf i).toNat)
 case atStart=>exact⟨0,J,F,F,c7.symm,X.refl _⟩
 case round=>
  obtain⟨j,fn,rfl,rfl,ec,du⟩:=hrel;obtain⟨an,am⟩:=aB ec du;clear ec du c7;by_cases cD:j<ad
  case neg=>
   have dm:decide ((j:Int)<(ad:Int))=false:=aP J;have dp:decide (j<ad)=false:=aP cD;have aE:a1= -1:=by rw[an.out];exact tQ (by rw[length_map,a5.out];omega) (by rw[length_map,bm.out];omega)
   subst aE;have ar:=O (a9.ext am);clear an;go_wp2_with fail
   (try go_ret)
   exact⟨F,ar⟩
  case pos=>
  have dm:decide ((j:Int)<(ad:Int))=true:=aQ J;have dp:decide (j<ad)=true:=aQ cD;by_cases eg:j<R
  case neg=>
   have aE:a1=(j:Int):=by rw[an.out];exact tO (by rw[length_map,a5.out];omega) (by rw[length_map,bm.out];have:=bl.out j cD;omega)
   subst aE;have dq:decide ((R:Int)<=(j:Int))=true:=aQ J;have dr:decide (R<=j)=true:=aQ J;have ds:((j:Int)==(j:Int))=true:=beq_self_eq_true _;clear an bl;go_upto_region 16 with fail;obtain⟨C,ab,aJ,bP⟩:=iw (show bT wr wr [] [] wr from bT.jA (X.refl _) (dV.none _));refine fJ (ops:=(nE 16)) fun Z=> ?_;refine aA 0 ?_;refine aA 1 ?_;refine aA 2 ?_;refine aA 3 ?_;refine aA 4 ?_;refine sF 5 ?_;refine sF 6 ?_;refine sF 7 ?_;refine sF 8 ?_;refine aA 9 ?_;refine aA 10 ?_;refine sF 11 ?_;refine sF 12 ?_;refine sF 13 ?_;refine sF 14 ?_;refine sF 15 ?_;refine sF 16 ?_;refine sF 17 ?_;refine sF 18 ?_;refine sF 19 ?_;refine sF 20 ?_;refine aA 21 ?_;generalize World.drew wr=ae at Z⊢;refine dH ?_;have ar:=O ((a9.ext am).ext ((ab ae).1 Z).base);clear Z aJ ab bP;go_wp2_with fail
   (try go_ret)
   exact⟨F,ar⟩
  case pos=>
  by_cases eh:j<ai
  case neg=>
   have aE:a1=(j:Int):=by rw[an.out];exact tT (by rw[length_map,a5.out];omega) (by rw[length_map,bm.out];omega)
   subst aE;have dq:decide ((R:Int)<=(j:Int))=false:=aP J;have dr:decide (R<=j)=false:=aP J;have fe:decide ((ai:Int)<=(j:Int))=true:=aQ J;have ff:decide (ai<=j)=true:=aQ J;have ds:((j:Int)==(j:Int))=true:=beq_self_eq_true _;clear an bl;go_upto_region 16 with fail;obtain⟨C,ab,aJ,bP⟩:=iw (show bT wr wr [] [] wr from bT.jA (X.refl _) (dV.none _));refine fJ (ops:=(nE 16)) fun Z=> ?_;refine aA 0 ?_;refine aA 1 ?_;refine aA 2 ?_;refine aA 3 ?_;refine aA 4 ?_;refine aA 5 ?_;refine aA 6 ?_;refine aA 7 ?_;refine aA 8 ?_;refine aA 9 ?_;refine aA 10 ?_;refine sF 11 ?_;refine sF 12 ?_;refine sF 13 ?_;refine sF 14 ?_;refine sF 15 ?_;refine sF 16 ?_;refine sF 17 ?_;refine sF 18 ?_;refine sF 19 ?_;refine sF 20 ?_;refine aA 21 ?_;generalize World.drew wr=ae at Z⊢;refine dH ?_;have ar:=O ((a9.ext am).ext ((ab ae).1 Z).base);clear Z aJ ab bP;go_wp2_with fail
   (try go_ret)
   exact⟨F,ar⟩
  case pos=>
  have dq:decide ((R:Int)<=(j:Int))=false:=aP J;have dr:decide (R<=j)=false:=aP J;have fe:decide ((ai:Int)<=(j:Int))=false:=aP J;have ff:decide (ai<=j)=false:=aP J;obtain⟨p,b0⟩:∃p,xs[j]? =some p:=⟨xs[j]'(by rw[a5.out];exact eg),aF⟩;obtain⟨q,b1⟩:∃q,rs[j]? =some q:=⟨rs[j]'(by rw[bm.out];exact eh),aF⟩;obtain⟨cf,cd⟩:=aB (e'.ext am) (a_.ext am);have ed:=uE (w:=w) e8 e7 b0 b1;obtain⟨bk,b9,ca⟩:=aW (an.trans ed) (cf.ok p (mem_of_getElem? b0)) (cd.ok q (mem_of_getElem? b1));obtain⟨e9,e_⟩:=aB (aG.len b9) (aG.len ca);obtain⟨A,rfl,bw⟩:=cf.at b0;obtain⟨B,rfl,bx⟩:=cd.at b1;obtain⟨e3,e4,cV⟩:=aW bw bx (a9.ext am);obtain⟨eV,cL⟩:=aC (kg p.p q.p);rw[cL]at bk;have dd:=O (fun u (I:X wr u)=>rT p q u (b9.ext I) (ca.ext I));rw[cL]at dd;clear bw bx b0 b1 ed an cf cd cL bl b9 ca;go_upto_region 16 with fail;go_cut [113] (fun fy wx=>fy= .bool (!eV)/\X wr wx)
  case first=>
   obtain⟨C,ab,aJ,bP⟩:=iw (show bT wr wr [] [] wr from bT.jA (X.refl _) (dV.none _));refine fJ fun Z=> ?_;refine aA 0 ?_;refine aA 1 ?_;refine aA 2 ?_;refine aA 3 ?_;refine aA 4 ?_;refine aA 5 ?_;refine aA 6 ?_;refine aA 7 ?_;refine aA 8 ?_;refine aA 9 ?_;refine aA 10 ?_;refine aA 11 ?_;refine aA 12 ?_;refine bD 13 F (bf F (fun u _=>fP (i:=j) F F F underlying24 mK eg u)) ?_;refine bD 14 F (bf F (fun u h=>bQ F F (e3.ext ((ab u).1 h).base) cZ e9)) ?_;refine aA 15 ?_;refine aA 16 ?_;refine bD 17 F (bf F (fun u _=>fP (i:=j) F F F underlying24 mK eh u)) ?_;refine bD 18 F (bf F (fun u h=>bQ F F (e4.ext ((ab u).1 h).base) cZ e_)) ?_;generalize World.drew wr=ae at Z⊢;refine aZ 19 ?_;intro ax ag;go_wp2_with fail;refine(dd ae ((ab ae).1 Z).base).mono ?_;rintro fg al ⟨rfl,I⟩;go_wp2_with fail;refine ag _ _ (aJ _ _ Z I) ?_;clear ag ax;replace Z:=aJ _ _ Z I;clear I;refine aH ?_;refine aA 20 ?_;refine aA 21 ?_;refine dH ?_;have ar:=O ((ab al).1 Z).base;clear Z aJ ab bP;go_wp2_with fail;go_meet;exact⟨F,ar⟩
  case rest=>
  obtain⟨rfl,cp⟩:=hcut;obtain⟨eW,e0⟩:=aB (cV.ext cp) (am.ext cp);clear cp cV am;cases eV with
  |false=>
   have aE:a1=(j:Int):=bk.out;subst aE;have ds:((j:Int)==(j:Int))=true:=beq_self_eq_true _;clear bk;go_wp2_with fail
   (try go_ret)
   exact⟨F,eW⟩
  |true=>
   go_wp2_with fail;go_roundw
   case rel=>exact⟨j+1,J,F,by go_num,bk,e0⟩
   case measure=>simp[intOf];omega
end Go.Proofs.YtjlhhnkhcbpnjaaGreatDoor
