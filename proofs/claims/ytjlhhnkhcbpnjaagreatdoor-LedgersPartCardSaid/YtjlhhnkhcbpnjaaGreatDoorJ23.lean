/- Laws that the row leans on; no condition. -/
import Derived.Test.YtjlhhnkhcbpnjaaGreatDoorJ22
namespace Go.Proofs.YtjlhhnkhcbpnjaaGreatDoor
open Go Go.RowKit List Tryz
set_option linter.unusedVariables false
set_option linter.unusedSectionVars false
set_option linter.unusedSimpArgs false
set_option maxHeartbeats 40000000
set_option maxRecDepth 100000
theorem aaX(B:Nat)(eJ:aN)(bv bl:Nat)(ws:aT)(w:World)(cY:gK w B eJ bv bl ws)(fj:ws≠[])(fe:mJ w)(hx:B<=w.heap.size):
 Calls prog 134 #[.slice eJ bv bl] w fun e w'=>∃r:aS,e= .returned (.tuple #[.agg r.v.toArray,.bool (aR ws)])/\(aR ws=true->r.bare=Aj ws/\r.Ok w'/\r.Hi B)/\X w w':=by
 obtain⟨cN,et,E⟩:=aW fe cY Ag;obtain⟨x,hC,c2⟩:∃x r,ws=x::r:=by
  cases ws with
  |nil=>exact absurd F fj
  |cons x r=>exact⟨x,r,F⟩
 have de:=O c2;obtain⟨A,cR,cd⟩:=cY.at (k:=0) (x:=x) (by rw[c2];rfl);rw[Hz]at cd;have c9:=O cd;have hn:0<bv:=by have:=cY.hl;rw[c2]at this;simp at this;omega
 subst cR;obtain⟨gd,dy⟩:=jE (fun e w'=>∃r:aS,e= .returned (.tuple #[.agg r.v.toArray,.bool (aR ws)])/\(aR ws=true->r.bare=Aj ws/\r.Ok w'/\r.Hi B)/\X w w':Ending->World->Prop);rw[<-dy];have en:=O dy;have eR:aR ws=false->∀(r:aS) (w':World),X w w'->gd (.returned (.tuple #[.agg r.v.toArray,.bool false])) w':=fun h r w' e=>by
  rw[en.out];exact⟨r,by rw[h],(fun ae=>by rw[h]at ae;cases ae),e⟩
 have a7:=O eR;clear dy eR fe cY fj c2 cd;go_enter func134,ntmps134;go_upto_region 1 with(fail);generalize cC:World.alloc (World.alloc w _) _=cr;have eQ:ah cr w.heap.size [.slice (some A) bv bl] 98:=by rw[<-cC];exact(ah.aI F F).alloc _
 have f1:ah cr (w.heap.size+1) (xQ false).v 192:=by rw[<-cC];exact ah.aI (xR _ _).symm rfl
 have e0:X w cr:=by rw[<-cC];exact((X.refl w).alloc _).alloc _
 have fp:cr.heap.size=w.heap.size+2:=by rw[<-cC,xR,xR]
 obtain⟨ep,cJ,cm,cL⟩:=bU fp eQ f1 e0;clear cC fp eQ f1 e0;have k1:=cJ.cell' (i:=0) F;have g9:cr.cell? A=some (.string x):=by
  rw[cL.cell (block_lt_of_cell c9)];exact c9
 have ed:=ZO x;have ee:=ZN x;have d4:bL ws=(decide (x=vF)||decide (x=Ai)):=by rw[de.out];rfl
 have d0:je vF ws=decide (x=vF):=by rw[de.out];rfl
 obtain⟨d,dT⟩:=aC (decide (x=vF));obtain⟨cw,dC⟩:=aC (decide (x=Ai));rw[dT,dC]at d4;rw[dT]at d0 ee;rw[dC]at ed;obtain⟨c_,f4⟩:=aB d4 d0;clear d4 d0 dT dC;go_cut [27] (fun v wx=>v= .bool (!(d||cw))/\wx=cr)
 case first=>
  cases cw<;>cases d
  all_goals (
   go_wp2_with fail;go_meet;exact⟨F,F⟩)
 case rest=>
 obtain⟨rfl,rfl⟩:=hcut;by_cases cV:(d||cw)=false
 ·rw[cV];have fk:aR ws=false:=by
   rw[<-Ny,LQ,c_.out,cV];rfl
  have al:=O fk;clear ed ee fk;go_wp2_with (first|(refine bV F 192 _ F F cm E F ?_)|(refine bg F _ _ _ F F F cm E F (xs:=(xQ false).v) F (nD _) ?_));intro af ad ab;go_wp2_with fail;exact iy F F ad E F F (a7 al (xQ false) af (ab.ext cL J))
 have d3:(d||cw)=true:=by revert cV;cases (d||cw)<;>simp
 rw[d3];have f7:=O (c_.trans d3);clear ed cV d3 c_;have g':=cm.cell' (i:=0) F;have gv:=cm.frozen 0;have dq:=cJ.frozen 0;go_upto_region 4 with fail;obtain⟨cb,ar⟩:=aC (World.setCell wc ⟨w.heap.size+1,0,none⟩ (.bool d));rw[ar];have eM:ah cb w.heap.size [.slice (some A) bv bl] 98:=by rw[<-ar];exact cJ.qm _ _ aF
 have f0:ah cb (w.heap.size+1) (xQ d).v 192:=by rw[<-ar];exact cm.set 0 (.bool d)
 have a6:X w cb:=by rw[<-ar];exact cL.set _ aF
 have a0:cb.heap.size=w.heap.size+2:=by rw[<-ar,<-ep.out];exact(aU.setCell (w:=wc) (g:=w.heap.size+1) (i:=0) (.bool d)).size
 obtain⟨cI,eE,ei,a3,da⟩:=dM eM f0 a6 a0 (show 1<=bv from hn);clear ar eM f0 a6 a0 g' gv dq k1 g9 ee cJ cm cL ep hn;have k1:=cI.cell' (i:=0) F;have dq:=cI.frozen 0;go_upto_region 5 with(refine bF F (HY (p:=some A) (n:=bv) (c:=bl) (k:=1) F F F underlying98 rP da _) ?_);obtain⟨w2,co⟩:=aC (World.setCell cb ⟨w.heap.size,0,none⟩ (.slice (dL (some A) bl 1) (bv - 1) (bl - 1)));rw[co];have eN:ah w2 w.heap.size [.slice (dL (some A) bl 1) (bv - 1) (bl - 1)] 98:=by rw[<-co];exact cI.set 0 _
 have z2:ah w2 (w.heap.size+1) (xQ d).v 192:=by rw[<-co];exact eE.qm _ _ aF
 have e2:X w w2:=by rw[<-co];exact ei.set _ aF
 have fo:w2.heap.size=w.heap.size+2:=by rw[<-co,<-a3.out];exact(aU.setCell (w:=cb) (g:=w.heap.size) (i:=0) _).size
 have fz:gK w B (dL (some A) bl 1) (bv - 1) (bl - 1) (mQ 0 ws):=by
  have:=et.drop da;rw[de.out]at this⊢;exact this
 generalize dL (some A) bl 1=cv at*;generalize bv - 1=fR at*;generalize bl - 1=eS at*;obtain⟨B2,eI,ej,eo,ev⟩:=dM eN z2 e2 fo fz;clear co eN z2 e2 fo fz k1 dq cI eE ei a3 da;go_upto_region 8 with fail;generalize fx:World.alloc (World.alloc (World.alloc (World.alloc w2 _) _) _) _=hm;have dg:tu w B w.heap.size (w.heap.size+1) w2.heap.size (w2.heap.size+1) (w2.heap.size+1+1) (w2.heap.size+1+1+1) d ws 0 (fun _=>aaP) cv fR eS hm:=by
  rw[<-fx];refine⟨(((ej.alloc _).alloc _).alloc _).alloc _,(((B2.alloc _).alloc _).alloc _).alloc _,ev,(((eI.alloc _).alloc _).alloc _).alloc _,(((ah.aI F F).alloc _).alloc _).alloc _,((ah.aI (xR _ _).symm rfl).alloc _).alloc _,(ah.aI (by rw[xR,xR]) F).alloc _,ah.aI (by rw[xR,xR,xR]) F,fun j ce=> ?_⟩;rw[if_neg J];exact gK.nil _ _
 obtain⟨G8,dv⟩:=aC (w2.heap.size+1+1+1);obtain⟨G7,cy⟩:=aC (w2.heap.size+1+1);obtain⟨G6,du⟩:=aC (w2.heap.size+1);obtain⟨G5,dt⟩:=aC w2.heap.size;obtain⟨G2,ds⟩:=aC (w.heap.size+1);obtain⟨G1,cS⟩:=aC w.heap.size;have gE:w.heap.size<=G1/\G1<G2/\G2<G5/\G5<G6/\G6<G7/\G7<G8/\B<=G2:=by
  have:=eo.out;omega
 obtain⟨b2,cE,bw,bx,bz,cF,fS⟩:=gE;obtain⟨f6,hB⟩:=aB fS cS;rw[dv,cy,du,dt,ds,cS]at dg;rw[dv,cy,du,dt,ds,cS];clear dv cy du dt ds cS fx B2 eI ej eo ev et c9 fS;go_wp2_with fail;go_loopw [41] (fun i wr=>∃(k:Nat) (q:Nat->Sl) (a:aN) (n c:Nat),k<=5/\i= .int .i64 (k:Int)/\tu w B G1 G2 G5 G6 G7 G8 d ws k q a n c wr/\(∀j,j<k->sZ j ws=true)) (fun i _=>5 - (intOf i).toNat)
 case atStart=>exact⟨0,_,cv,fR,eS,J,F,dg,fun j ce=>by omega⟩
 case round=>
  obtain⟨k,q,a,n,c,hk,rfl,e3,fc⟩:=hrel;obtain⟨ag,cg⟩:=aB e3 fc;clear e3 fc dg;rcases(show k=0∨k=1∨k=2∨k=3∨k=4∨k=5 by omega)with rfl|rfl|rfl|rfl|rfl|rfl
  ·have b5:=ag.b8.cell' (i:=0) (v:= .pointer (some ⟨G2,1,none⟩)) F;go_upto_region 10 with fail;go_wp2_with fail;generalize be:World.alloc wr _=bh;have I:=O (ag.ext (show X wr bh by rw[<-be];exact(X.refl wr).alloc _));clear be b5 ag;refine(ES G1 B _ a n c (mQ 0 ws) (oL 0) w bh I.b1 I.wd I.e b2).mono ?_;rintro e cc ⟨ao,aq,ap,a',n',c',rfl,a0,ar,bc,az⟩;obtain⟨a3,ba,a8,a_⟩:=bU a0 ar bc az;obtain⟨f,hf⟩:=aC ((!je (oL 0) (mQ 0 ws)|| !(oZ (oL 0) (mQ 0 ws)).isEmpty));rw[hf];have a9:=O (show sZ 0 ws=f from hf);have ax:=I.b2.grown az (fun e=>by injection e with e;omega);have b6:=ax.cell' (i:=1) F;have b8:=ax.frozen 1;clear a0 ar bc az hf ax;go_upto_region 11 with fail;obtain⟨c6,aE⟩:=aC (World.setCell cc ⟨G2,1,none⟩ (.slice ao aq ap));rw[aE];have am:=O (I.step (s:=⟨ao,aq,ap⟩) J b2 cE bw bx bz cF a8 a_ a3 ba aE.symm);clear aE b6 b8 I a3 ba a8 a_;cases f with
   |false=>
    obtain⟨al,R⟩:=aB (ET J a9) (aS.len (nJ d (qK q 0 ⟨ao,aq,ap⟩) [] []));go_wp2_with (first|(refine bV F 192 _ F F am.b2 E R ?_)|(refine bg F _ _ _ F F F am.b2 E R R (nD _) ?_));intro af ad ab;go_wp2_with fail;exact iy F F ad E R F (a7 al (nJ d (qK q 0 ⟨ao,aq,ap⟩) [] []) af (ab.ext am.e J))
   |true=>
    go_wp2_with fail;go_roundw
    case rel=>exact⟨0+1,_,a',n',c',J,by go_num,am,fun j ce=>by
     by_cases b9:j=0
     ·rw[b9];exact a9
     ·exact cg j J⟩
    case measure=>simp[intOf]
  ·have b5:=ag.b8.cell' (i:=1) (v:= .pointer (some ⟨G5,0,none⟩)) F;go_upto_region 10 with fail;go_wp2_with fail;generalize be:World.alloc wr _=bh;have I:=O (ag.ext (show X wr bh by rw[<-be];exact(X.refl wr).alloc _));clear be b5 ag;refine(ES G1 B _ a n c (mQ 1 ws) (oL 1) w bh I.b1 I.wd I.e b2).mono ?_;rintro e cc ⟨ao,aq,ap,a',n',c',rfl,a0,ar,bc,az⟩;obtain⟨a3,ba,a8,a_⟩:=bU a0 ar bc az;obtain⟨f,hf⟩:=aC ((!je (oL 1) (mQ 1 ws)|| !(oZ (oL 1) (mQ 1 ws)).isEmpty));rw[hf];have a9:=O (show sZ 1 ws=f from hf);have ax:=I.b5.grown az (fun e=>by injection e with e;omega);have b6:=ax.cell' (i:=0) F;have b8:=ax.frozen 0;clear a0 ar bc az hf ax;go_upto_region 11 with fail;obtain⟨c6,aE⟩:=aC (World.setCell cc ⟨G5,0,none⟩ (.slice ao aq ap));rw[aE];have am:=O (I.step (s:=⟨ao,aq,ap⟩) J b2 cE bw bx bz cF a8 a_ a3 ba aE.symm);clear aE b6 b8 I a3 ba a8 a_;cases f with
   |false=>
    obtain⟨al,R⟩:=aB (ET J a9) (aS.len (nJ d (qK q 1 ⟨ao,aq,ap⟩) [] []));go_wp2_with (first|(refine bV F 192 _ F F am.b2 E R ?_)|(refine bg F _ _ _ F F F am.b2 E R R (nD _) ?_));intro af ad ab;go_wp2_with fail;exact iy F F ad E R F (a7 al (nJ d (qK q 1 ⟨ao,aq,ap⟩) [] []) af (ab.ext am.e J))
   |true=>
    go_wp2_with fail;go_roundw
    case rel=>exact⟨1+1,_,a',n',c',J,by go_num,am,fun j ce=>by
     by_cases b9:j=1
     ·rw[b9];exact a9
     ·exact cg j J⟩
    case measure=>simp[intOf]
  ·have b5:=ag.b8.cell' (i:=2) (v:= .pointer (some ⟨G2,3,none⟩)) F;go_upto_region 10 with fail;go_wp2_with fail;generalize be:World.alloc wr _=bh;have I:=O (ag.ext (show X wr bh by rw[<-be];exact(X.refl wr).alloc _));clear be b5 ag;refine(ES G1 B _ a n c (mQ 2 ws) (oL 2) w bh I.b1 I.wd I.e b2).mono ?_;rintro e cc ⟨ao,aq,ap,a',n',c',rfl,a0,ar,bc,az⟩;obtain⟨a3,ba,a8,a_⟩:=bU a0 ar bc az;obtain⟨f,hf⟩:=aC ((!je (oL 2) (mQ 2 ws)|| !(oZ (oL 2) (mQ 2 ws)).isEmpty));rw[hf];have a9:=O (show sZ 2 ws=f from hf);have ax:=I.b2.grown az (fun e=>by injection e with e;omega);have b6:=ax.cell' (i:=3) F;have b8:=ax.frozen 3;clear a0 ar bc az hf ax;go_upto_region 11 with fail;obtain⟨c6,aE⟩:=aC (World.setCell cc ⟨G2,3,none⟩ (.slice ao aq ap));rw[aE];have am:=O (I.step (s:=⟨ao,aq,ap⟩) J b2 cE bw bx bz cF a8 a_ a3 ba aE.symm);clear aE b6 b8 I a3 ba a8 a_;cases f with
   |false=>
    obtain⟨al,R⟩:=aB (ET J a9) (aS.len (nJ d (qK q 2 ⟨ao,aq,ap⟩) [] []));go_wp2_with (first|(refine bV F 192 _ F F am.b2 E R ?_)|(refine bg F _ _ _ F F F am.b2 E R R (nD _) ?_));intro af ad ab;go_wp2_with fail;exact iy F F ad E R F (a7 al (nJ d (qK q 2 ⟨ao,aq,ap⟩) [] []) af (ab.ext am.e J))
   |true=>
    go_wp2_with fail;go_roundw
    case rel=>exact⟨2+1,_,a',n',c',J,by go_num,am,fun j ce=>by
     by_cases b9:j=2
     ·rw[b9];exact a9
     ·exact cg j J⟩
    case measure=>simp[intOf]
  ·have b5:=ag.b8.cell' (i:=3) (v:= .pointer (some ⟨G6,0,none⟩)) F;go_upto_region 10 with fail;go_wp2_with fail;generalize be:World.alloc wr _=bh;have I:=O (ag.ext (show X wr bh by rw[<-be];exact(X.refl wr).alloc _));clear be b5 ag;refine(ES G1 B _ a n c (mQ 3 ws) (oL 3) w bh I.b1 I.wd I.e b2).mono ?_;rintro e cc ⟨ao,aq,ap,a',n',c',rfl,a0,ar,bc,az⟩;obtain⟨a3,ba,a8,a_⟩:=bU a0 ar bc az;obtain⟨f,hf⟩:=aC ((!je (oL 3) (mQ 3 ws)|| !(oZ (oL 3) (mQ 3 ws)).isEmpty));rw[hf];have a9:=O (show sZ 3 ws=f from hf);have ax:=I.b6.grown az (fun e=>by injection e with e;omega);have b6:=ax.cell' (i:=0) F;have b8:=ax.frozen 0;clear a0 ar bc az hf ax;go_upto_region 11 with fail;obtain⟨c6,aE⟩:=aC (World.setCell cc ⟨G6,0,none⟩ (.slice ao aq ap));rw[aE];have am:=O (I.step (s:=⟨ao,aq,ap⟩) J b2 cE bw bx bz cF a8 a_ a3 ba aE.symm);clear aE b6 b8 I a3 ba a8 a_;cases f with
   |false=>
    obtain⟨al,R⟩:=aB (ET J a9) (aS.len (nJ d (qK q 3 ⟨ao,aq,ap⟩) [] []));go_wp2_with (first|(refine bV F 192 _ F F am.b2 E R ?_)|(refine bg F _ _ _ F F F am.b2 E R R (nD _) ?_));intro af ad ab;go_wp2_with fail;exact iy F F ad E R F (a7 al (nJ d (qK q 3 ⟨ao,aq,ap⟩) [] []) af (ab.ext am.e J))
   |true=>
    go_wp2_with fail;go_roundw
    case rel=>exact⟨3+1,_,a',n',c',J,by go_num,am,fun j ce=>by
     by_cases b9:j=3
     ·rw[b9];exact a9
     ·exact cg j J⟩
    case measure=>simp[intOf]
  ·have b5:=ag.b8.cell' (i:=4) (v:= .pointer (some ⟨G7,0,none⟩)) F;go_upto_region 10 with fail;go_wp2_with fail;generalize be:World.alloc wr _=bh;have I:=O (ag.ext (show X wr bh by rw[<-be];exact(X.refl wr).alloc _));clear be b5 ag;refine(ES G1 B _ a n c (mQ 4 ws) (oL 4) w bh I.b1 I.wd I.e b2).mono ?_;rintro e cc ⟨ao,aq,ap,a',n',c',rfl,a0,ar,bc,az⟩;obtain⟨a3,ba,a8,a_⟩:=bU a0 ar bc az;obtain⟨f,hf⟩:=aC ((!je (oL 4) (mQ 4 ws)|| !(oZ (oL 4) (mQ 4 ws)).isEmpty));rw[hf];have a9:=O (show sZ 4 ws=f from hf);have ax:=I.b7.grown az (fun e=>by injection e with e;omega);have b6:=ax.cell' (i:=0) F;have b8:=ax.frozen 0;clear a0 ar bc az hf ax;go_upto_region 11 with fail;obtain⟨c6,aE⟩:=aC (World.setCell cc ⟨G7,0,none⟩ (.slice ao aq ap));rw[aE];have am:=O (I.step (s:=⟨ao,aq,ap⟩) J b2 cE bw bx bz cF a8 a_ a3 ba aE.symm);clear aE b6 b8 I a3 ba a8 a_;cases f with
   |false=>
    obtain⟨al,R⟩:=aB (ET J a9) (aS.len (nJ d (qK q 4 ⟨ao,aq,ap⟩) [] []));go_wp2_with (first|(refine bV F 192 _ F F am.b2 E R ?_)|(refine bg F _ _ _ F F F am.b2 E R R (nD _) ?_));intro af ad ab;go_wp2_with fail;exact iy F F ad E R F (a7 al (nJ d (qK q 4 ⟨ao,aq,ap⟩) [] []) af (ab.ext am.e J))
   |true=>
    go_wp2_with fail;go_roundw
    case rel=>exact⟨4+1,_,a',n',c',J,by go_num,am,fun j ce=>by
     by_cases b9:j=4
     ·rw[b9];exact a9
     ·exact cg j J⟩
    case measure=>simp[intOf]
  ·have bk:=O (tu.j ag);have fL:gK w B a n c (yP ws):=ag.wd;have fb:(yP ws).isEmpty=decide (n=0):=by
    have:=fL.hl;cases b':yP ws with
    |nil=>rw[b']at this;simp at this;simp[<-this]
    |cons y z=>rw[b']at this;simp at this;simp;omega
   have bd:=aaV f7 cg;rw[fb]at bd;have k1:=ag.b1.cell' (i:=0) F;have R:=O (aS.len (nJ d q (oJ ws) (oK ws)));obtain⟨cH,fy⟩:=aC wr;rw[fy]at bk k1⊢;have eA:Hid (gK w B (q 0).a (q 0).n (q 0).c (oJ ws)):=O (ag.ql 0 J);have eC:Hid (gK w B (q 2).a (q 2).n (q 2).c (oK ws)):=O (ag.ql 2 J);have cl:=O bk.w1;have b0:=O bk.w3;have bp:=O bk.w4;have cy:G7<cH.heap.size:=bk.b7.lt;clear fL fb ag cg fy wr hk;by_cases bo:n≠0
   ·have al:=O (show aR ws=false by rw[bd,aP bo];simp);have g1:decide ((0:Int)<(n:Int))=true:=aQ J;have dr:decide (0<n)=true:=aQ J;clear bd;go_wp2_with (first|(refine bV F 192 _ F F bk.b2 E R ?_)|(refine bg F _ _ _ F F F bk.b2 E R R (nD _) ?_));intro af ad ab;go_wp2_with fail;exact iy F F ad E R F (a7 al (nJ d q (oJ ws) (oK ws)) af (ab.ext bk.e J))
   have bo:n=0:=J;rw[aQ bo,Bool.true_and]at bd;subst bo;have b3:=O bd;clear bd;go_upto_region 16 with fail;clear k1;have k5:=bk.b5.cell' (i:=0) (v:= .slice (q 1).a (q 1).n (q 1).c) F;have fg:G2<cH.heap.size:=bk.b2.lt;have ek:=O (show w.heap.size<=cH.heap.size from bk.e.size);obtain⟨cs,gA⟩:=aC cH.heap.size;rw[gA]at fg ek cy;have ex:rU w G2 G5 G6 G7 q {nJ d q (oJ ws) (oK ws)with aa:=none,an:=0,ac:=0,acts:=[]} cH:=bk.gN;go_wp2_with fail;clear k5 bk;go_loopw [67] (fun i eh=>∃(j:Nat) (b4:aN) (b7:Nat) (zs:List Int),j<=(q 1).n/\i= .int .i64 (j:Int)/\rU w G2 G5 G6 G7 q {nJ d q (oJ ws) (oK ws)with aa:=b4,an:=j,ac:=b7,acts:=zs} eh/\eh.ownsRow cs 3 1 (.slice b4 j b7) j (zs.map lN)/\zs=((kX ws).take j).map mG/\(∀x∈(kX ws).take j,mG x≠0)/\cs<=eh.heap.size) (fun i _=>(q 1).n - (intOf i).toNat)
   case atStart=>exact⟨0,none,0,[],J,F,ex,⟨F,.inl ⟨F,F⟩⟩,F,(fun _ h=>by simp at h),J⟩
   case round=>
    obtain⟨j,b4,b7,zs,ce,rfl,e4,fl,fN,fm,gC⟩:=hrel;obtain⟨ag,cP,dc,df⟩:=bU e4 fl fm fN;have hA:=cl.hm;clear e4 fl fm ex fN;by_cases ff:j<(q 1).n
    ·have gm:decide ((j:Int)<((q 1).n:Int))=true:=aQ J;have gn:decide (j<(q 1).n)=true:=aQ ff;obtain⟨y,cp⟩:∃y,(kX ws)[j]? =some y:=⟨(kX ws)[j]'(by rw[cl.hl];exact ff),aF⟩;obtain⟨hp,gz,hz⟩:=(cl.ext ag.e).at cp;have f':=O cp;have cA:(kX ws).take (j+1)=(kX ws).take j++[y]:=by rw[take_add_one,cp];rfl
     obtain⟨er,fd⟩:=aB cA (fun cb cv (h:aK cb cv (((⟨#[]⟩:ByteArray)::pR).map bM))=>ZP y (⟨#[]⟩::pR) cv 13 13 cb F J h);have cn:=Zu y;clear cp cA;rw[gz];go_wp2_with fail;refine(Ry wr).mono ?_;rintro e cj ⟨rfl,e',a6⟩;obtain⟨el,I,db⟩:=aW e' (ag.ext a6) (uF cP a6);have a0:=a6.size;clear e' a6 cP;go_wp2_with fail;refine(fd cj _ el).mono ?_;rintro e v2 ⟨rfl,rfl⟩;clear fd el ag;by_cases cf:mG y=0
     ·have c4:=cn.1;rw[aQ cf]at c4;have al:=O (show aR ws=false by
       rw[b3.out];have:wJ (kX ws)=false:=by
        unfold wJ;rw[all_eq_false];exact⟨y,mem_of_getElem? f',by simp[cf]⟩
       rw[this];rfl)
      have R:=O (aS.len {nJ d q (oJ ws) (oK ws)with aa:=b4,an:=j,ac:=b7,acts:=zs});clear cn cf;generalize rO y (⟨#[]⟩::pR)=hq at*;go_wp2_with (first|(refine bV F 192 _ F F I.b2 E R ?_)|(refine bg F _ _ _ F F F I.b2 E R R (nD _) ?_));intro af ad ab;go_wp2_with fail;exact iy F F ad E R F (a7 al _ af (ab.ext I.e J))
     ·have c4:=cn.1;rw[aP cf,cn.2 cf]at c4;rw[cn.2 cf];have ga:=O cf;clear cn cf;obtain⟨z,ec⟩:=aC (mG y);rw[ec]at c4⊢;have gc:=O ec;have ge:=I.b2.cell' (i:=2) (v:= .slice b4 j b7) F;have f9:=O Rz;clear ec;go_upto_region 22 with fail;go_wp2_with (refine qB (n:=j) (m:=1) (c:=1) (news:=[.int .i64 z]) f9 F _ _ F cs F F (uF db ((X.refl _).alloc _)) F bG (fun h=>by cases h) (aK.eG (ah.aI F F)) (fun u fv=>by simp at fv;rw[fv];rfl) J J (by rw[rQ];omega) ?_);intro v' v3 d6 d2 g7;obtain⟨dk,dp,rfl,_,_,_⟩:=iJ d6;have cQ:=O ((I.ext ((X.refl _).alloc _)).yQ bw bx bz d2 (fun g d1=>by
       have:=(db.lt g d1).1;have:=ek.out;omega))
      have f8:=O d6;have cz:=d2.size;rw[rQ]at cz;have hr:=cQ.b2.cell' (i:=2) (v:= .slice b4 j b7) F;have hv:=cQ.b2.frozen 2;clear d6 d2 g7 ge I db;go_wp2_with fail;go_roundw
      case rel=>
       refine⟨j+1,dk,dp,zs++[z],J,by go_num,cQ.rule J bw bx bz (cQ.b2.set 2 (.slice dk (j+1) dp)) (aU.setCell _),?_,?_,?_,?_⟩
       ·have ae:v3.ownsRow cs 3 1 (.slice dk (j+1) dp) (j+1) ((zs++[z]).map lN):=by
         rw[map_append];exact f8
        exact um ae (qC (aU.setCell _)) (fun g d1 e=>by
         injection e with e;have:=(ae.lt g d1).1;omega)
       ·rw[er.out,map_append,<-df.out,<-gc.out];rfl
       ·intro ho ch;rw[er.out,mem_append]at ch;rcases ch with ch|ch
        ·exact dc ho ch
        ·simp at ch;rw[ch];exact ga
       ·rw[(aU.setCell (w:=v3) (g:=G2) (i:=2) _).size];omega
      case measure=>simp[intOf];omega
    ·have g2:j=(q 1).n:=J;have gm:decide ((j:Int)<((q 1).n:Int))=false:=aP J;have gn:decide (j<(q 1).n)=false:=aP J;have cA:(kX ws).take j=kX ws:=take_of_length_le (by rw[cl.hl];omega);have d7:=dc.out;have cD:=df.out;rw[cA]at d7 cD;have d5:zs.length=j:=by rw[cD,length_map,cl.hl];omega
     have ft:fH w wr B G2 {nJ d q (oJ ws) (oK ws)with aa:=b4,an:=j,ac:=b7,acts:=zs} (xX d ws):=by
      have ai:=((fH.zero w wr B G2 d).roles eA).labels eC;have ae:=ai.acts (a:=b4) (n:=j) (c:=b7) (zs:=zs) (B0:=cs) (by rw[d5];exact cP) fg (by rw[d5];omega) (by rw[cD];exact aaW _);exact ae.to (by rw[cD,length_map];rfl)
     have e7:wJ (kX ws)=true:=by
      unfold wJ;rw[all_eq_true];intro y cp;simp[d7 y cp]
     have bd:=b3.out;rw[e7,Bool.true_and]at bd;obtain⟨b3,aw⟩:=aB bd (ag.j cl b0 bp ft);obtain⟨c3,fn⟩:=aC ({nJ d q (oJ ws) (oK ws)with aa:=b4,an:=j,ac:=b7,acts:=zs}:aS);rw[fn]at aw;obtain⟨hl,fw⟩:=aC wr;rw[fw]at aw⊢;obtain⟨hi,cz⟩:=aC (q 3);obtain⟨eK,a1,dl⟩:=hi;obtain⟨hj,d8⟩:=aC (q 4);obtain⟨eL,b1,dm⟩:=hj;have c0:=b0.out;have c1:=bp.out;rw[cz]at c0;rw[d8]at c1;dsimp only at c0 c1;obtain⟨b0,bp,ey,ez⟩:=bU c0 c1 (show(q 3).v= .slice eK a1 dl by rw[cz];rfl) (show(q 4).v= .slice eL b1 dm by rw[d8];rfl);clear ft e7 d7 cD d5 bd cA g2 fn fw wr cz d8 c0 c1 dc df cP ag gC ce eA eC;have k6:=aw.b6.cell' (i:=0) (v:= .slice eK a1 dl) (by rw[<-ey.out];rfl);go_upto_if 86 with fail;go_cut [] (fun wx=>∃r,qc w B G2 G5 G6 G7 ws q r (tq d ws) wx/\((iG ws).isEmpty||sU (iG ws))=true)
     case first=>
      by_cases bo:a1=0
      ·have bu:iG ws=[]:=length_eq_zero_iff.1 (b0.hl.trans bo);have ct:=O bu;subst bo;clear bu;go_wp2_with fail;go_meet;exact⟨c3,by rw[aaR ct.out];exact aw,by rw[ct.out];rfl⟩
      have g1:decide ((0:Int)<(a1:Int))=true:=aQ J;have dr:decide (0<a1)=true:=aQ J;have g3:0<a1:=J;obtain⟨a2,eg,a4⟩:∃x t,iG ws=x::t:=by
       cases b':iG ws with
       |nil=>exact absurd (b0.hl.symm.trans (by rw[b'];rfl)) bo
       |cons y z=>exact⟨y,z,F⟩
      obtain⟨f2,rfl,cd⟩:=(b0.ext aw.e).at (k:=0) (x:=a2) (by rw[a4];rfl);rw[Hz]at cd;have eb:=b0.hs a2 (by rw[a4];simp);have ew:=O a4;have fs:a2.data.toList.length<=1000000:=by rw[Array.length_toList];exact eb
      have hcut:=O (Rq a2.data.toList [45] hl J (cN.ext aw.e).lw.ml);rw[KU]at hcut;have gS:=RD a2.data.toList [45];have cR:Lib.cut a2.data.toList [45]=pV a2:=F;rw[cR]at hcut gS;have e8:∀b,a1=1->sU (iG ws)=b->Ea a2=b:=by
       intro b ai ae;have:eg=[]:=by
        have:=b0.hl;rw[a4,ai]at this;simpa using this
       rw[a4,this]at ae;exact ae
      have e9:a1≠1->sU (iG ws)=false:=by
       intro ai;have:=b0.hl;rw[a4]at this⊢;cases eg with
       |nil=>exact absurd this.symm ai
       |cons y z=>rfl
      have e_:a1=1->iG ws=[a2]:=by
       intro ai;have:=b0.hl;rw[a4,ai]at this;rw[a4];simp at this;rw[this]
      obtain⟨cM,c7,c8,dd,ck⟩:=dM e8 e9 e_ (show Ea a2=((pV a2).2.2&&jv (pV a2).1&&jv (pV a2).2.1)from F) (fun(h:iG ws=[a2]) (ai:jv (pV a2).1=true) (ae:jv (pV a2).2.1=true)=>aaT (d:=d) h ai ae);clear cR a4 e8 e9 e_;generalize pV a2=gl at*;obtain⟨bm,bt,cx⟩:=gl;dsimp only at*;go_wp2_with fail;refine hcut.mono ?_;rintro e cj ⟨rfl,a6⟩;have di:=O (aw.ext a6);clear a6 hcut k6 cd;have cq:=O (LM bm cj J (cN.ext di.e).lw);clear aw;go_wp2_with fail;refine cq.mono ?_;rintro e v2 ⟨rfl,e2⟩;have br:=O (di.ext e2);have gf:=br.b2.cell' (i:=4) F;have gp:=br.b2.frozen 4;clear e2 cq di;go_upto_region 28 with fail;obtain⟨v3,ca⟩:=aC (World.setCell v2 ⟨G2,4,none⟩ (.int .i64 (gV bm)));rw[ca];have bi:=O (br.rule (r':={c3 with fr:=gV bm}) (x':={xX d ws with fr:=gV bm}) (wy:=v3) J bw bx bz (by rw[<-ca];exact br.b2.set 4 (.int .i64 (gV bm))) (by rw[<-ca];exact aU.setCell _) (fun s=>s.fr _));clear ca gf gp br;have fX:=O (LM bt v3 J (cN.ext bi.e).lw);go_wp2_with fail;refine fX.mono ?_;rintro e c5 ⟨rfl,eW⟩;have bj:=O (bi.ext eW);have gg:=bj.b2.cell' (i:=5) F;have gr:=bj.b2.frozen 5;clear eW fX bi;go_upto_region 29 with fail;obtain⟨fY,cX⟩:=aC (World.setCell c5 ⟨G2,5,none⟩ (.int .i64 (gV bt)));rw[cX];have a5:=O (bj.rule (r':={c3 with fr:=gV bm,tt:=gV bt}) (x':={xX d ws with fr:=gV bm,tt:=gV bt}) (wy:=fY) J bw bx bz (by rw[<-cX];exact bj.b2.set 5 (.int .i64 (gV bt))) (by rw[<-cX];exact aU.setCell _) (fun s=>s.tt _));clear cX gg gr bj;have k6:=a5.b6.cell' (i:=0) (v:= .slice (some f2) a1 dl) (by rw[<-ey.out];rfl);by_cases cT:a1=1/\(cx&&jv bm&&jv bt)=true
      ·obtain⟨ai,ae⟩:=cT;have dE:cx=true/\jv bm=true/\jv bt=true:=by
        simp only[Bool.and_eq_true]at ae;exact⟨ae.1.1,ae.1.2,ae.2⟩
       have f5:Hid (((iG ws).isEmpty||sU (iG ws))=true):=O (by
        have:=cM.out _ ai F;rw[dd.out]at this;rw[<-this,ae,Bool.or_true])
       have dj:Hid (qc w B G2 G5 G6 G7 ws q {c3 with fr:=gV bm,tt:=gV bt} (tq d ws) fY):=O {a5 with st:=a5.st.to (ck (c8 ai) dE.2.1 dE.2.2)};obtain⟨a6,e2,eV⟩:=dE;rw[a6,e2,eV];subst ai;clear c8 cM c7 ck ae a6 e2 eV a5;go_wp2_with fail;go_meet;exact⟨_,dj,f5⟩
      ·have al:=O (show aR ws=false by
        have hb:((iG ws).isEmpty||sU (iG ws))=false:=by
         rw[ew.out];show(false||sU (a2::eg))=false;rw[<-ew.out,Bool.false_or];by_cases ai:a1=1
         ·cases b':sU (iG ws)with
          |false=>rfl
          |true=>
           have:=cM.out _ ai b';rw[dd.out]at this;exact absurd ⟨ai,this⟩ cT
         ·exact c7 ai
        rw[b3.out,hb];rfl)
       have gO:(a1≠1)∨(a1=1/\(cx&&jv bm&&jv bt)=false):=by
        by_cases ai:a1=1
        ·exact .inr ⟨ai,by cases b':(cx&&jv bm&&jv bt)with
          |false=>rfl
          |true=>exact absurd ⟨ai,b'⟩ cT⟩
        ·exact .inl ai
       clear cT c8 cM c7 ck dd;rcases gO with ai|⟨ai,ae⟩
       ·have hd:((a1:Int) != 1)=true:=by simp;omega
        have he:decide ((a1:Int)=1)=false:=aP J;have hg:decide (a1=1)=false:=aP ai;go_wp2_with (first|(refine bV F 192 _ F F a5.b2 E (aS.len _) ?_)|(refine bg F _ _ _ F F F a5.b2 E (aS.len _) (aS.len _) (nD _) ?_));intro af ad ab;go_wp2_with fail;exact iy F F ad E (aS.len _) F (a7 al _ af (ab.ext a5.e J))
       ·subst ai;generalize jv bm=hh at*;generalize jv bt=ef at*;cases cx
        ·clear ae;go_wp2_with (first|(refine bV F 192 _ F F a5.b2 E (aS.len _) ?_)|(refine bg F _ _ _ F F F a5.b2 E (aS.len _) (aS.len _) (nD _) ?_));intro af ad ab;go_wp2_with fail;exact iy F F ad E (aS.len _) F (a7 al _ af (ab.ext a5.e J))
        ·cases hh
         ·clear ae;go_wp2_with (first|(refine bV F 192 _ F F a5.b2 E (aS.len _) ?_)|(refine bg F _ _ _ F F F a5.b2 E (aS.len _) (aS.len _) (nD _) ?_));intro af ad ab;go_wp2_with fail;exact iy F F ad E (aS.len _) F (a7 al _ af (ab.ext a5.e J))
         ·cases ef
          ·clear ae;go_wp2_with (first|(refine bV F 192 _ F F a5.b2 E (aS.len _) ?_)|(refine bg F _ _ _ F F F a5.b2 E (aS.len _) (aS.len _) (nD _) ?_));intro af ad ab;go_wp2_with fail;exact iy F F ad E (aS.len _) F (a7 al _ af (ab.ext a5.e J))
          ·cases ae
     case rest=>
     obtain⟨cG,e5,bu⟩:=hcut;have bd:=b3.out;rw[bu,Bool.true_and]at bd;have b3:=O bd;clear aw k6 bd bu;obtain⟨cj,d'⟩:=aC wc;have aw:Hid (qc w B G2 G5 G6 G7 ws q cG (tq d ws) cj):=O (by rw[<-d'];exact e5);rw[d'];clear d' e5 wc;have k7:=aw.b7.cell' (i:=0) (v:= .slice eL b1 dm) (by rw[<-ez.out];rfl);go_upto_if 125 with fail;go_cut [] (fun wx=>∃r,qc w B G2 G5 G6 G7 ws q r (CQ d ws) wx/\((jk ws).isEmpty||xO (jk ws))=true)
     case first=>
      by_cases bo:b1=0
      ·have bu:jk ws=[]:=length_eq_zero_iff.1 (bp.hl.trans bo);have ct:=O bu;subst bo;clear bu;go_wp2_with fail;go_meet;exact⟨cG,by rw[aaS ct.out];exact aw,by rw[ct.out];rfl⟩
      have g1:decide ((0:Int)<(b1:Int))=true:=aQ J;have dr:decide (0<b1)=true:=aQ J;by_cases ae:b1≠2
      ·have fh:((jk ws).isEmpty||xO (jk ws))=false:=by
        have:=bp.hl
        match b':jk ws,this with
        |[],h=>exact absurd h.symm bo
        |[y],_=>rfl
        |[y,z],h=>exact absurd h.symm ae
        |y::z::l::t,_=>rfl
       have al:=O (show aR ws=false by rw[b3.out,fh]);have hd:((b1:Int) != 2)=true:=by simp;omega
       have he:decide ((b1:Int)=2)=false:=aP J;have hg:decide (b1=2)=false:=aP ae;clear fh;go_wp2_with (first|(refine bV F 192 _ F F aw.b2 E (aS.len _) ?_)|(refine bg F _ _ _ F F F aw.b2 E (aS.len _) (aS.len _) (nD _) ?_));intro af ad ab;go_wp2_with fail;exact iy F F ad E (aS.len _) F (a7 al _ af (ab.ext aw.e J))
      have ae:b1=2:=J;subst ae;obtain⟨x,y,a4⟩:=ZQ (jk ws) bp.hl;obtain⟨gb,go,rfl,fa⟩:=(bp.ext aw.e).cell.gQ (by rw[length_map,bp.hl];omega);have cd:cj.cell? ⟨gb,go,none⟩=some (.string x):=fa 0 _ (by rw[a4];rfl);have f3:Hid (∀W:World,X w W->W.cell? ⟨gb,go+1,none⟩=some (.string y)):=O (fun W h=>by
       obtain⟨gw,gx,cU,gR⟩:=(bp.ext h).cell.gQ (by rw[length_map,bp.hl];omega);have a6:gw=gb:=by simp at cU;exact cU.1.symm
       have e2:gx=go:=by simp at cU;exact cU.2.symm
       subst a6;subst e2;exact gR 1 _ (by rw[a4];rfl))
      have eb:=bp.hs x (by rw[a4];simp);have g8:y.size<=140737488355328:=Nat.le_trans (bp.hs y (by rw[a4];simp)) J;have fs:x.data.toList.length<=1000000:=by rw[Array.length_toList];exact eb
      have fi:((jk ws).isEmpty||xO (jk ws))=jv x.data.toList:=by rw[a4];rfl
      obtain⟨ck,em,cq⟩:=aW (fun(ai:jv x.data.toList=true)=>aaU (d:=d) a4 ai) fi (LM x.data.toList cj fs (cN.ext aw.e).lw);rw[KU]at cq;clear fa fi a4 bo g1 dr;generalize gV x.data.toList=ci at*;generalize jv x.data.toList=ef at*;go_wp2_with fail;refine cq.mono ?_;rintro e v2 ⟨rfl,e2⟩;have br:=O (aw.ext e2);have gh:=br.b2.cell' (i:=6) F;have gt:=br.b2.frozen 6;clear e2 cq aw k7 cd;go_upto_region 35 with fail;obtain⟨v3,ca⟩:=aC (World.setCell v2 ⟨G2,6,none⟩ (.int .i64 ci));rw[ca];have bi:=O (br.rule (r':={cG with nd:=ci}) (x':={tq d ws with nd:=ci}) (wy:=v3) J bw bx bz (by rw[<-ca];exact br.b2.set 6 (.int .i64 ci)) (by rw[<-ca];exact aU.setCell _) (fun s=>s.nd _));clear ca gh gt br;cases ef with
      |false=>
       have al:=O (show aR ws=false by rw[b3.out,em.out]);go_wp2_with (first|(refine bV F 192 _ F F bi.b2 E (aS.len _) ?_)|(refine bg F _ _ _ F F F bi.b2 E (aS.len _) (aS.len _) (nD _) ?_));intro af ad ab;go_wp2_with fail;exact iy F F ad E (aS.len _) F (a7 al _ af (ab.ext bi.e J))
      |true=>
       have k7:=bi.b7.cell' (i:=0) (v:= .slice (some ⟨gb,go,none⟩) 2 dm) (by rw[<-ez.out];rfl);have hy:=f3.out v3 bi.e;have hu:=bi.b2.cell' (i:=7) F;have hw:=bi.b2.frozen 7;go_wp2_with fail;obtain⟨c5,cW⟩:=aC (World.setCell v3 ⟨G2,7,none⟩ (.string y));try rw[cW]
       have bj:=O (bi.rule (r':={cG with nd:=ci,ow:=y}) (x':={tq d ws with nd:=ci,ow:=y}) (wy:=c5) J bw bx bz (by rw[<-cW];exact bi.b2.set 7 (.string y)) (by rw[<-cW];exact aU.setCell _) (fun s=>s.ow _ g8));have dj:Hid (qc w B G2 G5 G6 G7 ws q {cG with nd:=ci,ow:=y} (CQ d ws) c5):=O {bj with st:=bj.st.to (by first|exact ck F|exact ck trivial)};clear cW;go_meet;exact⟨_,dj,em⟩
     case rest=>
     obtain⟨fW,e6,bu⟩:=hcut;have al:=O (show aR ws=true by rw[b3.out,bu]);obtain⟨v2,ea⟩:=aC wc;have bj:Hid (qc w B G2 G5 G6 G7 ws q fW (CQ d ws) v2):=O (by rw[<-ea];exact e6);rw[ea];clear aw k7 ea e6 bu wc;go_wp2_with (first|(refine bV F 192 _ F F bj.b2 E (aS.len _) ?_)|(refine bg F _ _ _ F F F bj.b2 E (aS.len _) (aS.len _) (nD _) ?_));intro af ad ab;go_wp2_with fail;refine iy F F ad E (aS.len _) F ?_;rw[en.out];have st:=bj.st.upd ab bG;have e1:X w af:=ab.ext bj.e J;refine⟨fW,by rw[al.out];rfl,fun _=>⟨?_,st.ok e1,st.hi f6⟩,e1⟩;rw[st.q,<-aaQ,f4.out]
end Go.Proofs.YtjlhhnkhcbpnjaaGreatDoor
