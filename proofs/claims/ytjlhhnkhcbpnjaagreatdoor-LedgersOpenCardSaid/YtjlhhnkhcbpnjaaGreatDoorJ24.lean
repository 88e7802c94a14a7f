/- Laws that the row leans on; no condition. -/
import Derived.Test.YtjlhhnkhcbpnjaaGreatDoorJ23
namespace Go.Proofs.YtjlhhnkhcbpnjaaGreatDoor
open Go Go.RowKit List Tryz
set_option linter.unusedVariables false
set_option linter.unusedSimpArgs false
set_option maxHeartbeats 40000000
set_option maxRecDepth 100000
theorem aaX(B:Nat)(eg:aN)(bo be:Nat)(ws:aT)(w:World)(cG:gK w B eg bo be ws)(eR:ws≠[])(eL:mJ w)(gv:B<=w.heap.size):
 Calls prog 134 #[.slice eg bo be] w fun e w'=>∃r:aS,e= .returned (.tuple #[.agg r.v.toArray,.bool (ou ws)])/\(ou ws=true->r.bare=Aj ws/\r.Ok w'/\r.Hi B)/\X w w':=by
 obtain⟨cw,d7,E⟩:=aW eL cG Ag;obtain⟨x,gC,cJ⟩:∃x r,ws=x::r:=by
  cases ws with
  |nil=>exact absurd F eR
  |cons x r=>exact⟨x,r,F⟩
 have cW:=O cJ;obtain⟨A,cz,bX⟩:=cG.at (k:=0) (x:=x) (by rw[cJ];rfl);rw[Hz]at bX;have cQ:=O bX;have hn:0<bo:=by have:=cG.hl;rw[cJ]at this;simp at this;omega
 subst cz;obtain⟨fs,db⟩:=jE (fun e w'=>∃r:aS,e= .returned (.tuple #[.agg r.v.toArray,.bool (ou ws)])/\(ou ws=true->r.bare=Aj ws/\r.Ok w'/\r.Hi B)/\X w w':Ending->World->Prop);rw[<-db];have d3:=O db;have em:ou ws=false->∀(r:aS) (w':World),X w w'->fs (.returned (.tuple #[.agg r.v.toArray,.bool false])) w':=fun h r w' e=>by
  rw[d3.out];exact⟨r,by rw[h],(fun ae=>by rw[h]at ae;cases ae),e⟩
 have a2:=O em;clear db em eL cG eR cJ bX;go_enter func134,ntmps134;go_upto_region 1 with(fail);generalize cl:World.alloc (World.alloc w _) _=cc;have el:ah cc w.heap.size [.slice (some A) bo be] 98:=by rw[<-cl];exact(ah.aI F F).alloc _
 have ff:ah cc (w.heap.size+1) (xQ false).v 192:=by rw[<-cl];exact ah.aI (xR _ _).symm rfl
 have er:X w cc:=by rw[<-cl];exact((X.refl w).alloc _).alloc _
 have e0:cc.heap.size=w.heap.size+2:=by rw[<-cl,xR,xR]
 obtain⟨d5,cs,b8,ct⟩:=bU e0 el ff er;clear cl e0 el ff er;have k1:=cs.cell' (i:=0) F;have f7:cc.cell? A=some (.string x):=by
  rw[ct.cell (block_lt_of_cell cQ)];exact cQ
 have dv:=ZO x;have dx:=ZN x;have dk:Dk ws=(decide (x=vF)||decide (x=Ai)):=by rw[cW.out];rfl
 have df:je vF ws=decide (x=vF):=by rw[cW.out];rfl
 obtain⟨d,de⟩:=aC (decide (x=vF));obtain⟨cg,dc⟩:=aC (decide (x=Ai));rw[de,dc]at dk;rw[de]at df dx;rw[dc]at dv;obtain⟨cR,fi⟩:=aB dk df;clear dk df de dc;go_cut [27] (fun v wx=>v= .bool (!(d||cg))/\wx=cc)
 case first=>
  cases cg<;>cases d
  all_goals (
   go_wp2_with fail;go_meet;exact⟨F,F⟩)
 case rest=>
 obtain⟨rfl,rfl⟩:=hcut;by_cases cD:(d||cg)=false
 ·rw[cD];have eS:ou ws=false:=by
   rw[<-Ny,LQ,cR.out,cD];rfl
  have al:=O eS;clear dv dx eS;go_wp2_with (first|(refine bV F 192 _ F F b8 E F ?_)|(refine bg F _ _ _ F F F b8 E F (xs:=(xQ false).v) F (nD _) ?_));intro af ad ab;go_wp2_with fail;exact iy F F ad E F F (a2 al (xQ false) af (ab.ext ct J))
 have dj:(d||cg)=true:=by revert cD;cases (d||cg)<;>simp
 rw[dj];have fl:=O (cR.trans dj);clear dv cD dj cR;have f8:=b8.cell' (i:=0) F;have fR:=b8.frozen 0;have c6:=cs.frozen 0;go_upto_region 4 with fail;obtain⟨bR,ar⟩:=aC (World.setCell wc ⟨w.heap.size+1,0,none⟩ (.bool d));rw[ar];have ej:ah bR w.heap.size [.slice (some A) bo be] 98:=by rw[<-ar];exact cs.qm _ _ aF
 have fe:ah bR (w.heap.size+1) (xQ d).v 192:=by rw[<-ar];exact b8.set 0 (.bool d)
 have a1:X w bR:=by rw[<-ar];exact ct.set _ aF
 have aD:bR.heap.size=w.heap.size+2:=by rw[<-ar,<-d5.out];exact(aU.setCell (w:=wc) (g:=w.heap.size+1) (i:=0) (.bool d)).size
 obtain⟨cr,ee,dE,aM,cS⟩:=dM ej fe a1 aD (show 1<=bo from hn);clear ar ej fe a1 aD f8 fR c6 k1 f7 dx cs b8 ct d5 hn;have k1:=cr.cell' (i:=0) F;have c6:=cr.frozen 0;go_upto_region 5 with(refine bF F (HY (p:=some A) (n:=bo) (c:=be) (k:=1) F F F underlying98 rP cS _) ?_);obtain⟨w2,b'⟩:=aC (World.setCell bR ⟨w.heap.size,0,none⟩ (.slice (dL (some A) be 1) (bo - 1) (be - 1)));rw[b'];have ek:ah w2 w.heap.size [.slice (dL (some A) be 1) (bo - 1) (be - 1)] 98:=by rw[<-b'];exact cr.set 0 _
 have z2:ah w2 (w.heap.size+1) (xQ d).v 192:=by rw[<-b'];exact ee.qm _ _ aF
 have e2:X w w2:=by rw[<-b'];exact dE.set _ aF
 have eZ:w2.heap.size=w.heap.size+2:=by rw[<-b',<-aM.out];exact(aU.setCell (w:=bR) (g:=w.heap.size) (i:=0) _).size
 have e8:gK w B (dL (some A) be 1) (bo - 1) (be - 1) (mQ 0 ws):=by
  have:=d7.drop cS;rw[cW.out]at this⊢;exact this
 generalize dL (some A) be 1=cf at*;generalize bo - 1=e' at*;generalize be - 1=en at*;obtain⟨B2,ef,dT,d4,d8⟩:=dM ek z2 e2 eZ e8;clear b' ek z2 e2 eZ e8 k1 c6 cr ee dE aM cS;go_upto_region 8 with fail;generalize e6:World.alloc (World.alloc (World.alloc (World.alloc w2 _) _) _) _=gg;have cY:tu w B w.heap.size (w.heap.size+1) w2.heap.size (w2.heap.size+1) (w2.heap.size+1+1) (w2.heap.size+1+1+1) d ws 0 (fun _=>aaP) cf e' en gg:=by
  rw[<-e6];refine⟨(((dT.alloc _).alloc _).alloc _).alloc _,(((B2.alloc _).alloc _).alloc _).alloc _,d8,(((ef.alloc _).alloc _).alloc _).alloc _,(((ah.aI F F).alloc _).alloc _).alloc _,((ah.aI (xR _ _).symm rfl).alloc _).alloc _,(ah.aI (by rw[xR,xR]) F).alloc _,ah.aI (by rw[xR,xR,xR]) F,fun j b0=> ?_⟩;rw[if_neg J];exact gK.nil _ _
 obtain⟨G8,da⟩:=aC (w2.heap.size+1+1+1);obtain⟨G7,ci⟩:=aC (w2.heap.size+1+1);obtain⟨G6,c_⟩:=aC (w2.heap.size+1);obtain⟨G5,c9⟩:=aC w2.heap.size;obtain⟨G2,c8⟩:=aC (w.heap.size+1);obtain⟨G1,cA⟩:=aC w.heap.size;have f0:w.heap.size<=G1/\G1<G2/\G2<G5/\G5<G6/\G6<G7/\G7<G8/\B<=G2:=by
  have:=d4.out;omega
 obtain⟨bv,cn,bp,bq,br,co,fa⟩:=f0;obtain⟨fk,gA⟩:=aB fa cA;rw[da,ci,c_,c9,c8,cA]at cY;rw[da,ci,c_,c9,c8,cA];clear da ci c_ c9 c8 cA e6 B2 ef dT d4 d8 d7 cQ fa;go_wp2_with fail;go_loopw [41] (fun i wr=>∃(k:Nat) (q:Nat->Sl) (a:aN) (n c:Nat),k<=5/\i= .int .i64 (k:Int)/\tu w B G1 G2 G5 G6 G7 G8 d ws k q a n c wr/\(∀j,j<k->sZ j ws=true)) (fun i _=>5 - (intOf i).toNat)
 case atStart=>exact⟨0,_,cf,e',en,J,F,cY,fun j b0=>by omega⟩
 case round=>
  obtain⟨k,q,a,n,c,hk,rfl,ev,eJ⟩:=hrel;obtain⟨ag,b2⟩:=aB ev eJ;clear ev eJ cY;rcases(show k=0∨k=1∨k=2∨k=3∨k=4∨k=5 by omega)with rfl|rfl|rfl|rfl|rfl|rfl
  ·have bz:=ag.b8.cell' (i:=0) (v:= .pointer (some ⟨G2,1,none⟩)) F;go_upto_region 10 with fail;go_wp2_with fail;generalize a9:World.alloc wr _=a_;have I:=O (ag.ext (show X wr a_ by rw[<-a9];exact(X.refl wr).alloc _));clear a9 bz ag;refine(ES G1 B _ a n c (mQ 0 ws) (oL 0) w a_ I.b1 I.wd I.e bv).mono ?_;rintro e bS ⟨ao,aq,ap,a',n',c',rfl,aD,ar,a7,ax⟩;obtain⟨aM,a6,a3,a5⟩:=bU aD ar a7 ax;obtain⟨f,hf⟩:=aC ((!je (oL 0) (mQ 0 ws)|| !(oZ (oL 0) (mQ 0 ws)).isEmpty));rw[hf];have a4:=O (show sZ 0 ws=f from hf);have aw:=I.b2.grown ax (fun e=>by injection e with e;omega);have bA:=aw.cell' (i:=1) F;have bE:=aw.frozen 1;clear aD ar a7 ax hf aw;go_upto_region 11 with fail;obtain⟨cM,az⟩:=aC (World.setCell bS ⟨G2,1,none⟩ (.slice ao aq ap));rw[az];have am:=O (I.step (s:=⟨ao,aq,ap⟩) J bv cn bp bq br co a3 a5 aM a6 az.symm);clear az bA bE I aM a6 a3 a5;cases f with
   |false=>
    obtain⟨al,R⟩:=aB (ET J a4) (aS.len (nJ d (qK q 0 ⟨ao,aq,ap⟩) [] []));go_wp2_with (first|(refine bV F 192 _ F F am.b2 E R ?_)|(refine bg F _ _ _ F F F am.b2 E R R (nD _) ?_));intro af ad ab;go_wp2_with fail;exact iy F F ad E R F (a2 al (nJ d (qK q 0 ⟨ao,aq,ap⟩) [] []) af (ab.ext am.e J))
   |true=>
    go_wp2_with fail;go_roundw
    case rel=>exact⟨0+1,_,a',n',c',J,by go_num,am,fun j b0=>by
     by_cases bL:j=0
     ·rw[bL];exact a4
     ·exact b2 j J⟩
    case measure=>simp[intOf]
  ·have bz:=ag.b8.cell' (i:=1) (v:= .pointer (some ⟨G5,0,none⟩)) F;go_upto_region 10 with fail;go_wp2_with fail;generalize a9:World.alloc wr _=a_;have I:=O (ag.ext (show X wr a_ by rw[<-a9];exact(X.refl wr).alloc _));clear a9 bz ag;refine(ES G1 B _ a n c (mQ 1 ws) (oL 1) w a_ I.b1 I.wd I.e bv).mono ?_;rintro e bS ⟨ao,aq,ap,a',n',c',rfl,aD,ar,a7,ax⟩;obtain⟨aM,a6,a3,a5⟩:=bU aD ar a7 ax;obtain⟨f,hf⟩:=aC ((!je (oL 1) (mQ 1 ws)|| !(oZ (oL 1) (mQ 1 ws)).isEmpty));rw[hf];have a4:=O (show sZ 1 ws=f from hf);have aw:=I.b5.grown ax (fun e=>by injection e with e;omega);have bA:=aw.cell' (i:=0) F;have bE:=aw.frozen 0;clear aD ar a7 ax hf aw;go_upto_region 11 with fail;obtain⟨cM,az⟩:=aC (World.setCell bS ⟨G5,0,none⟩ (.slice ao aq ap));rw[az];have am:=O (I.step (s:=⟨ao,aq,ap⟩) J bv cn bp bq br co a3 a5 aM a6 az.symm);clear az bA bE I aM a6 a3 a5;cases f with
   |false=>
    obtain⟨al,R⟩:=aB (ET J a4) (aS.len (nJ d (qK q 1 ⟨ao,aq,ap⟩) [] []));go_wp2_with (first|(refine bV F 192 _ F F am.b2 E R ?_)|(refine bg F _ _ _ F F F am.b2 E R R (nD _) ?_));intro af ad ab;go_wp2_with fail;exact iy F F ad E R F (a2 al (nJ d (qK q 1 ⟨ao,aq,ap⟩) [] []) af (ab.ext am.e J))
   |true=>
    go_wp2_with fail;go_roundw
    case rel=>exact⟨1+1,_,a',n',c',J,by go_num,am,fun j b0=>by
     by_cases bL:j=1
     ·rw[bL];exact a4
     ·exact b2 j J⟩
    case measure=>simp[intOf]
  ·have bz:=ag.b8.cell' (i:=2) (v:= .pointer (some ⟨G2,3,none⟩)) F;go_upto_region 10 with fail;go_wp2_with fail;generalize a9:World.alloc wr _=a_;have I:=O (ag.ext (show X wr a_ by rw[<-a9];exact(X.refl wr).alloc _));clear a9 bz ag;refine(ES G1 B _ a n c (mQ 2 ws) (oL 2) w a_ I.b1 I.wd I.e bv).mono ?_;rintro e bS ⟨ao,aq,ap,a',n',c',rfl,aD,ar,a7,ax⟩;obtain⟨aM,a6,a3,a5⟩:=bU aD ar a7 ax;obtain⟨f,hf⟩:=aC ((!je (oL 2) (mQ 2 ws)|| !(oZ (oL 2) (mQ 2 ws)).isEmpty));rw[hf];have a4:=O (show sZ 2 ws=f from hf);have aw:=I.b2.grown ax (fun e=>by injection e with e;omega);have bA:=aw.cell' (i:=3) F;have bE:=aw.frozen 3;clear aD ar a7 ax hf aw;go_upto_region 11 with fail;obtain⟨cM,az⟩:=aC (World.setCell bS ⟨G2,3,none⟩ (.slice ao aq ap));rw[az];have am:=O (I.step (s:=⟨ao,aq,ap⟩) J bv cn bp bq br co a3 a5 aM a6 az.symm);clear az bA bE I aM a6 a3 a5;cases f with
   |false=>
    obtain⟨al,R⟩:=aB (ET J a4) (aS.len (nJ d (qK q 2 ⟨ao,aq,ap⟩) [] []));go_wp2_with (first|(refine bV F 192 _ F F am.b2 E R ?_)|(refine bg F _ _ _ F F F am.b2 E R R (nD _) ?_));intro af ad ab;go_wp2_with fail;exact iy F F ad E R F (a2 al (nJ d (qK q 2 ⟨ao,aq,ap⟩) [] []) af (ab.ext am.e J))
   |true=>
    go_wp2_with fail;go_roundw
    case rel=>exact⟨2+1,_,a',n',c',J,by go_num,am,fun j b0=>by
     by_cases bL:j=2
     ·rw[bL];exact a4
     ·exact b2 j J⟩
    case measure=>simp[intOf]
  ·have bz:=ag.b8.cell' (i:=3) (v:= .pointer (some ⟨G6,0,none⟩)) F;go_upto_region 10 with fail;go_wp2_with fail;generalize a9:World.alloc wr _=a_;have I:=O (ag.ext (show X wr a_ by rw[<-a9];exact(X.refl wr).alloc _));clear a9 bz ag;refine(ES G1 B _ a n c (mQ 3 ws) (oL 3) w a_ I.b1 I.wd I.e bv).mono ?_;rintro e bS ⟨ao,aq,ap,a',n',c',rfl,aD,ar,a7,ax⟩;obtain⟨aM,a6,a3,a5⟩:=bU aD ar a7 ax;obtain⟨f,hf⟩:=aC ((!je (oL 3) (mQ 3 ws)|| !(oZ (oL 3) (mQ 3 ws)).isEmpty));rw[hf];have a4:=O (show sZ 3 ws=f from hf);have aw:=I.b6.grown ax (fun e=>by injection e with e;omega);have bA:=aw.cell' (i:=0) F;have bE:=aw.frozen 0;clear aD ar a7 ax hf aw;go_upto_region 11 with fail;obtain⟨cM,az⟩:=aC (World.setCell bS ⟨G6,0,none⟩ (.slice ao aq ap));rw[az];have am:=O (I.step (s:=⟨ao,aq,ap⟩) J bv cn bp bq br co a3 a5 aM a6 az.symm);clear az bA bE I aM a6 a3 a5;cases f with
   |false=>
    obtain⟨al,R⟩:=aB (ET J a4) (aS.len (nJ d (qK q 3 ⟨ao,aq,ap⟩) [] []));go_wp2_with (first|(refine bV F 192 _ F F am.b2 E R ?_)|(refine bg F _ _ _ F F F am.b2 E R R (nD _) ?_));intro af ad ab;go_wp2_with fail;exact iy F F ad E R F (a2 al (nJ d (qK q 3 ⟨ao,aq,ap⟩) [] []) af (ab.ext am.e J))
   |true=>
    go_wp2_with fail;go_roundw
    case rel=>exact⟨3+1,_,a',n',c',J,by go_num,am,fun j b0=>by
     by_cases bL:j=3
     ·rw[bL];exact a4
     ·exact b2 j J⟩
    case measure=>simp[intOf]
  ·have bz:=ag.b8.cell' (i:=4) (v:= .pointer (some ⟨G7,0,none⟩)) F;go_upto_region 10 with fail;go_wp2_with fail;generalize a9:World.alloc wr _=a_;have I:=O (ag.ext (show X wr a_ by rw[<-a9];exact(X.refl wr).alloc _));clear a9 bz ag;refine(ES G1 B _ a n c (mQ 4 ws) (oL 4) w a_ I.b1 I.wd I.e bv).mono ?_;rintro e bS ⟨ao,aq,ap,a',n',c',rfl,aD,ar,a7,ax⟩;obtain⟨aM,a6,a3,a5⟩:=bU aD ar a7 ax;obtain⟨f,hf⟩:=aC ((!je (oL 4) (mQ 4 ws)|| !(oZ (oL 4) (mQ 4 ws)).isEmpty));rw[hf];have a4:=O (show sZ 4 ws=f from hf);have aw:=I.b7.grown ax (fun e=>by injection e with e;omega);have bA:=aw.cell' (i:=0) F;have bE:=aw.frozen 0;clear aD ar a7 ax hf aw;go_upto_region 11 with fail;obtain⟨cM,az⟩:=aC (World.setCell bS ⟨G7,0,none⟩ (.slice ao aq ap));rw[az];have am:=O (I.step (s:=⟨ao,aq,ap⟩) J bv cn bp bq br co a3 a5 aM a6 az.symm);clear az bA bE I aM a6 a3 a5;cases f with
   |false=>
    obtain⟨al,R⟩:=aB (ET J a4) (aS.len (nJ d (qK q 4 ⟨ao,aq,ap⟩) [] []));go_wp2_with (first|(refine bV F 192 _ F F am.b2 E R ?_)|(refine bg F _ _ _ F F F am.b2 E R R (nD _) ?_));intro af ad ab;go_wp2_with fail;exact iy F F ad E R F (a2 al (nJ d (qK q 4 ⟨ao,aq,ap⟩) [] []) af (ab.ext am.e J))
   |true=>
    go_wp2_with fail;go_roundw
    case rel=>exact⟨4+1,_,a',n',c',J,by go_num,am,fun j b0=>by
     by_cases bL:j=4
     ·rw[bL];exact a4
     ·exact b2 j J⟩
    case measure=>simp[intOf]
  ·have bd:=O (tu.j ag);have e9:gK w B a n c (yP ws):=ag.wd;have eI:(yP ws).isEmpty=decide (n=0):=by
    have:=e9.hl;cases bN:yP ws with
    |nil=>rw[bN]at this;simp at this;simp[<-this]
    |cons y z=>rw[bN]at this;simp at this;simp;omega
   have a8:=aaV fl b2;rw[eI]at a8;have k1:=ag.b1.cell' (i:=0) F;have R:=O (aS.len (nJ d q (oJ ws) (oK ws)));obtain⟨cq,e7⟩:=aC wr;rw[e7]at bd k1⊢;have ec:Hid (gK w B (q 0).a (q 0).n (q 0).c (oJ ws)):=O (ag.ql 0 J);have ed:Hid (gK w B (q 2).a (q 2).n (q 2).c (oK ws)):=O (ag.ql 2 J);have b7:=O bd.w1;have bt:=O bd.w3;have bj:=O bd.w4;have ci:G7<cq.heap.size:=bd.b7.lt;clear e9 eI ag b2 e7 wr hk;by_cases bi:n≠0
   ·have al:=O (show ou ws=false by rw[a8,aP bi];simp);have g1:decide ((0:Int)<(n:Int))=true:=aQ J;have c7:decide (0<n)=true:=aQ J;clear a8;go_wp2_with (first|(refine bV F 192 _ F F bd.b2 E R ?_)|(refine bg F _ _ _ F F F bd.b2 E R R (nD _) ?_));intro af ad ab;go_wp2_with fail;exact iy F F ad E R F (a2 al (nJ d q (oJ ws) (oK ws)) af (ab.ext bd.e J))
   have bi:n=0:=J;rw[aQ bi,Bool.true_and]at a8;subst bi;have bw:=O a8;clear a8;go_upto_region 16 with fail;clear k1;have k5:=bd.b5.cell' (i:=0) (v:= .slice (q 1).a (q 1).n (q 1).c) F;have eN:G2<cq.heap.size:=bd.b2.lt;have d0:=O (show w.heap.size<=cq.heap.size from bd.e.size);obtain⟨cd,fX⟩:=aC cq.heap.size;rw[fX]at eN d0 ci;have d':rU w G2 G5 G6 G7 q {nJ d q (oJ ws) (oK ws)with aa:=none,an:=0,ac:=0,acts:=[]} cq:=bd.toK;go_wp2_with fail;clear k5 bd;go_loopw [67] (fun i dC=>∃(j:Nat) (bx:aN) (bB:Nat) (zs:List Int),j<=(q 1).n/\i= .int .i64 (j:Int)/\rU w G2 G5 G6 G7 q {nJ d q (oJ ws) (oK ws)with aa:=bx,an:=j,ac:=bB,acts:=zs} dC/\dC.ownsRow cd 3 1 (.slice bx j bB) j (zs.map lN)/\zs=((kX ws).take j).map mG/\(∀x∈(kX ws).take j,mG x≠0)/\cd<=dC.heap.size) (fun i _=>(q 1).n - (intOf i).toNat)
   case atStart=>exact⟨0,none,0,[],J,F,d',⟨F,.inl ⟨F,F⟩⟩,F,(fun _ h=>by simp at h),J⟩
   case round=>
    obtain⟨j,bx,bB,zs,b0,rfl,ew,eT,e_,eV,fY⟩:=hrel;obtain⟨ag,cx,cU,cX⟩:=bU ew eT eV e_;have gz:=b7.hm;clear ew eT eV d' e_;by_cases eM:j<(q 1).n
    ·have fy:decide ((j:Int)<((q 1).n:Int))=true:=aQ J;have fz:decide (j<(q 1).n)=true:=aQ eM;obtain⟨y,ca⟩:∃y,(kX ws)[j]? =some y:=⟨(kX ws)[j]'(by rw[b7.hl];exact eM),aF⟩;obtain⟨gl,fW,gx⟩:=(b7.ext ag.e).at ca;have fo:=O ca;have ck:(kX ws).take (j+1)=(kX ws).take j++[y]:=by rw[take_add_one,ca];rfl
     obtain⟨d6,eK⟩:=aB ck (fun bR cf (h:aK bR cf (((⟨#[]⟩:ByteArray)::pR).map bM))=>ZP y (⟨#[]⟩::pR) cf 13 13 bR F J h);have b9:=Zu y;clear ca ck;rw[fW];go_wp2_with fail;refine(Ry wr).mono ?_;rintro e b5 ⟨rfl,eD,a1⟩;obtain⟨d1,I,cT⟩:=aW eD (ag.ext a1) (uF cx a1);have aD:=a1.size;clear eD a1 cx;go_wp2_with fail;refine(eK b5 _ d1).mono ?_;rintro e v2 ⟨rfl,rfl⟩;clear eK d1 ag;by_cases b1:mG y=0
     ·have cK:=b9.1;rw[aQ b1]at cK;have al:=O (show ou ws=false by
       rw[bw.out];have:wJ (kX ws)=false:=by
        unfold wJ;rw[all_eq_false];exact⟨y,mem_of_getElem? fo,by simp[b1]⟩
       rw[this];rfl)
      have R:=O (aS.len {nJ d q (oJ ws) (oK ws)with aa:=bx,an:=j,ac:=bB,acts:=zs});clear b9 b1;generalize rO y (⟨#[]⟩::pR)=gm at*;go_wp2_with (first|(refine bV F 192 _ F F I.b2 E R ?_)|(refine bg F _ _ _ F F F I.b2 E R R (nD _) ?_));intro af ad ab;go_wp2_with fail;exact iy F F ad E R F (a2 al _ af (ab.ext I.e J))
     ·have cK:=b9.1;rw[aP b1,b9.2 b1]at cK;rw[b9.2 b1];have fp:=O b1;clear b9 b1;obtain⟨z,du⟩:=aC (mG y);rw[du]at cK⊢;have fq:=O du;have ft:=I.b2.cell' (i:=2) (v:= .slice bx j bB) F;have fn:=O Rz;clear du;go_upto_region 22 with fail;go_wp2_with (refine qB (n:=j) (m:=1) (c:=1) (news:=[.int .i64 z]) fn F _ _ F cd F F (uF cT ((X.refl _).alloc _)) F bG (fun h=>by cases h) (aK.eG (ah.aI F F)) (fun u e4=>by simp at e4;rw[e4];rfl) J J (by rw[rQ];omega) ?_);intro v' v3 dm di f5;obtain⟨c2,c5,rfl,_,_,_⟩:=iJ dm;have cy:=O ((I.ext ((X.refl _).alloc _)).yQ bp bq br di (fun g dg=>by
       have:=(cT.lt g dg).1;have:=d0.out;omega))
      have fm:=O dm;have cj:=di.size;rw[rQ]at cj;have gn:=cy.b2.cell' (i:=2) (v:= .slice bx j bB) F;have gr:=cy.b2.frozen 2;clear dm di f5 ft I cT;go_wp2_with fail;go_roundw
      case rel=>
       refine⟨j+1,c2,c5,zs++[z],J,by go_num,cy.rule J bp bq br (cy.b2.set 2 (.slice c2 (j+1) c5)) (aU.setCell _),?_,?_,?_,?_⟩
       ·have ae:v3.ownsRow cd 3 1 (.slice c2 (j+1) c5) (j+1) ((zs++[z]).map lN):=by
         rw[map_append];exact fm
        exact um ae (qC (aU.setCell _)) (fun g dg e=>by
         injection e with e;have:=(ae.lt g dg).1;omega)
       ·rw[d6.out,map_append,<-cX.out,<-fq.out];rfl
       ·intro gh b3;rw[d6.out,mem_append]at b3;rcases b3 with b3|b3
        ·exact cU gh b3
        ·simp at b3;rw[b3];exact fp
       ·rw[(aU.setCell (w:=v3) (g:=G2) (i:=2) _).size];omega
      case measure=>simp[intOf];omega
    ·have f4:j=(q 1).n:=J;have fy:decide ((j:Int)<((q 1).n:Int))=false:=aP J;have fz:decide (j<(q 1).n)=false:=aP J;have ck:(kX ws).take j=kX ws:=take_of_length_le (by rw[b7.hl];omega);have dp:=cU.out;have cm:=cX.out;rw[ck]at dp cm;have dl:zs.length=j:=by rw[cm,length_map,b7.hl];omega
     have e3:fH w wr B G2 {nJ d q (oJ ws) (oK ws)with aa:=bx,an:=j,ac:=bB,acts:=zs} (xX d ws):=by
      have ai:=((fH.zero w wr B G2 d).roles ec).labels ed;have ae:=ai.acts (a:=bx) (n:=j) (c:=bB) (zs:=zs) (B0:=cd) (by rw[dl];exact cx) eN (by rw[dl];omega) (by rw[cm];exact aaW _);exact ae.to (by rw[cm,length_map];rfl)
     have ez:wJ (kX ws)=true:=by
      unfold wJ;rw[all_eq_true];intro y ca;simp[dp y ca]
     have a8:=bw.out;rw[ez,Bool.true_and]at a8;obtain⟨bw,av⟩:=aB a8 (ag.j b7 bt bj e3);obtain⟨r2,eW⟩:=aC ({nJ d q (oJ ws) (oK ws)with aa:=bx,an:=j,ac:=bB,acts:=zs}:aS);rw[eW]at av;obtain⟨gf,e5⟩:=aC wr;rw[e5]at av⊢;obtain⟨gd,cj⟩:=aC (q 3);obtain⟨eh,aE,c3⟩:=gd;obtain⟨ge,dq⟩:=aC (q 4);obtain⟨ei,bu,c4⟩:=ge;have cH:=bt.out;have cI:=bj.out;rw[cj]at cH;rw[dq]at cI;dsimp only at cH cI;obtain⟨bt,bj,ea,eb⟩:=bU cH cI (show(q 3).v= .slice eh aE c3 by rw[cj];rfl) (show(q 4).v= .slice ei bu c4 by rw[dq];rfl);clear e3 ez dp cm dl a8 ck f4 eW e5 wr cj dq cH cI cU cX cx ag fY b0 ec ed;have k6:=av.b6.cell' (i:=0) (v:= .slice eh aE c3) (by rw[<-ea.out];rfl);go_upto_if 86 with fail;go_cut [] (fun wx=>∃r,qc w B G2 G5 G6 G7 ws q r (tq d ws) wx/\((iG ws).isEmpty||sU (iG ws))=true)
     case first=>
      by_cases bi:aE=0
      ·have bm:iG ws=[]:=length_eq_zero_iff.1 (bt.hl.trans bi);have ce:=O bm;subst bi;clear bm;go_wp2_with fail;go_meet;exact⟨r2,by rw[aaR ce.out];exact av,by rw[ce.out];rfl⟩
      have g1:decide ((0:Int)<(aE:Int))=true:=aQ J;have c7:decide (0<aE)=true:=aQ J;have g3:0<aE:=J;obtain⟨aL,dz,aR⟩:∃x t,iG ws=x::t:=by
       cases bN:iG ws with
       |nil=>exact absurd (bt.hl.symm.trans (by rw[bN];rfl)) bi
       |cons y z=>exact⟨y,z,F⟩
      obtain⟨fg,rfl,bX⟩:=(bt.ext av.e).at (k:=0) (x:=aL) (by rw[aR];rfl);rw[Hz]at bX;have dt:=bt.hs aL (by rw[aR];simp);have d9:=O aR;have e1:aL.data.toList.length<=1000000:=by rw[Array.length_toList];exact dt
      have hcut:=O (Rq aL.data.toList [45] gf J (cw.ext av.e).lw.ml);rw[KU]at hcut;have f3:=RD aL.data.toList [45];have cz:Lib.cut aL.data.toList [45]=pV aL:=F;rw[cz]at hcut f3;have eA:∀b,aE=1->sU (iG ws)=b->Ea aL=b:=by
       intro b ai ae;have:dz=[]:=by
        have:=bt.hl;rw[aR,ai]at this;simpa using this
       rw[aR,this]at ae;exact ae
      have eB:aE≠1->sU (iG ws)=false:=by
       intro ai;have:=bt.hl;rw[aR]at this⊢;cases dz with
       |nil=>exact absurd this.symm ai
       |cons y z=>rfl
      have eC:aE=1->iG ws=[aL]:=by
       intro ai;have:=bt.hl;rw[aR,ai]at this;rw[aR];simp at this;rw[this]
      obtain⟨cv,cN,cP,cV,b6⟩:=dM eA eB eC (show Ea aL=((pV aL).2.2&&jv (pV aL).1&&jv (pV aL).2.1)from F) (fun(h:iG ws=[aL]) (ai:jv (pV aL).1=true) (ae:jv (pV aL).2.1=true)=>aaT (d:=d) h ai ae);clear cz aR eA eB eC;generalize pV aL=fx at*;obtain⟨bh,bl,ch⟩:=fx;dsimp only at*;go_wp2_with fail;refine hcut.mono ?_;rintro e b5 ⟨rfl,a1⟩;have c0:=O (av.ext a1);clear a1 hcut k6 bX;have cb:=O (LM bh b5 J (cw.ext c0.e).lw);clear av;go_wp2_with fail;refine cb.mono ?_;rintro e v2 ⟨rfl,e2⟩;have bk:=O (c0.ext e2);have fu:=bk.b2.cell' (i:=4) F;have fI:=bk.b2.frozen 4;clear e2 cb c0;go_upto_region 28 with fail;obtain⟨v3,bO⟩:=aC (World.setCell v2 ⟨G2,4,none⟩ (.int .i64 (gV bh)));rw[bO];have ba:=O (bk.rule (r':={r2 with fr:=gV bh}) (x':={xX d ws with fr:=gV bh}) (wy:=v3) J bp bq br (by rw[<-bO];exact bk.b2.set 4 (.int .i64 (gV bh))) (by rw[<-bO];exact aU.setCell _) (fun s=>s.fr _));clear bO fu fI bk;have fc:=O (LM bl v3 J (cw.ext ba.e).lw);go_wp2_with fail;refine fc.mono ?_;rintro e cL ⟨rfl,ep⟩;have bc:=O (ba.ext ep);have fv:=bc.b2.cell' (i:=5) F;have fL:=bc.b2.frozen 5;clear ep fc ba;go_upto_region 29 with fail;obtain⟨fd,cF⟩:=aC (World.setCell cL ⟨G2,5,none⟩ (.int .i64 (gV bl)));rw[cF];have a0:=O (bc.rule (r':={r2 with fr:=gV bh,tt:=gV bl}) (x':={xX d ws with fr:=gV bh,tt:=gV bl}) (wy:=fd) J bp bq br (by rw[<-cF];exact bc.b2.set 5 (.int .i64 (gV bl))) (by rw[<-cF];exact aU.setCell _) (fun s=>s.tt _));clear cF fv fL bc;have k6:=a0.b6.cell' (i:=0) (v:= .slice (some fg) aE c3) (by rw[<-ea.out];rfl);by_cases cB:aE=1/\(ch&&jv bh&&jv bl)=true
      ·obtain⟨ai,ae⟩:=cB;have dd:ch=true/\jv bh=true/\jv bl=true:=by
        simp only[Bool.and_eq_true]at ae;exact⟨ae.1.1,ae.1.2,ae.2⟩
       have fj:Hid (((iG ws).isEmpty||sU (iG ws))=true):=O (by
        have:=cv.out _ ai F;rw[cV.out]at this;rw[<-this,ae,Bool.or_true])
       have c1:Hid (qc w B G2 G5 G6 G7 ws q {r2 with fr:=gV bh,tt:=gV bl} (tq d ws) fd):=O {a0 with st:=a0.st.to (b6 (cP ai) dd.2.1 dd.2.2)};obtain⟨a1,e2,eo⟩:=dd;rw[a1,e2,eo];subst ai;clear cP cv cN b6 ae a1 e2 eo a0;go_wp2_with fail;go_meet;exact⟨_,c1,fj⟩
      ·have al:=O (show ou ws=false by
        have hb:((iG ws).isEmpty||sU (iG ws))=false:=by
         rw[d9.out];show(false||sU (aL::dz))=false;rw[<-d9.out,Bool.false_or];by_cases ai:aE=1
         ·cases bN:sU (iG ws)with
          |false=>rfl
          |true=>
           have:=cv.out _ ai bN;rw[cV.out]at this;exact absurd ⟨ai,this⟩ cB
         ·exact cN ai
        rw[bw.out,hb];rfl)
       have f1:(aE≠1)∨(aE=1/\(ch&&jv bh&&jv bl)=false):=by
        by_cases ai:aE=1
        ·exact .inr ⟨ai,by cases bN:(ch&&jv bh&&jv bl)with
          |false=>rfl
          |true=>exact absurd ⟨ai,bN⟩ cB⟩
        ·exact .inl ai
       clear cB cP cv cN b6 cV;rcases f1 with ai|⟨ai,ae⟩
       ·have f9:((aE:Int) != 1)=true:=by simp;omega
        have f':decide ((aE:Int)=1)=false:=aP J;have ga:decide (aE=1)=false:=aP ai;go_wp2_with (first|(refine bV F 192 _ F F a0.b2 E (aS.len _) ?_)|(refine bg F _ _ _ F F F a0.b2 E (aS.len _) (aS.len _) (nD _) ?_));intro af ad ab;go_wp2_with fail;exact iy F F ad E (aS.len _) F (a2 al _ af (ab.ext a0.e J))
       ·subst ai;generalize jv bh=gc at*;generalize jv bl=dy at*;cases ch
        ·clear ae;go_wp2_with (first|(refine bV F 192 _ F F a0.b2 E (aS.len _) ?_)|(refine bg F _ _ _ F F F a0.b2 E (aS.len _) (aS.len _) (nD _) ?_));intro af ad ab;go_wp2_with fail;exact iy F F ad E (aS.len _) F (a2 al _ af (ab.ext a0.e J))
        ·cases gc
         ·clear ae;go_wp2_with (first|(refine bV F 192 _ F F a0.b2 E (aS.len _) ?_)|(refine bg F _ _ _ F F F a0.b2 E (aS.len _) (aS.len _) (nD _) ?_));intro af ad ab;go_wp2_with fail;exact iy F F ad E (aS.len _) F (a2 al _ af (ab.ext a0.e J))
         ·cases dy
          ·clear ae;go_wp2_with (first|(refine bV F 192 _ F F a0.b2 E (aS.len _) ?_)|(refine bg F _ _ _ F F F a0.b2 E (aS.len _) (aS.len _) (nD _) ?_));intro af ad ab;go_wp2_with fail;exact iy F F ad E (aS.len _) F (a2 al _ af (ab.ext a0.e J))
          ·cases ae
     case rest=>
     obtain⟨cp,ex,bm⟩:=hcut;have a8:=bw.out;rw[bm,Bool.true_and]at a8;have bw:=O a8;clear av k6 a8 bm;obtain⟨b5,dr⟩:=aC wc;have av:Hid (qc w B G2 G5 G6 G7 ws q cp (tq d ws) b5):=O (by rw[<-dr];exact ex);rw[dr];clear dr ex wc;have k7:=av.b7.cell' (i:=0) (v:= .slice ei bu c4) (by rw[<-eb.out];rfl);go_upto_if 125 with fail;go_cut [] (fun wx=>∃r,qc w B G2 G5 G6 G7 ws q r (CQ d ws) wx/\((jk ws).isEmpty||xO (jk ws))=true)
     case first=>
      by_cases bi:bu=0
      ·have bm:jk ws=[]:=length_eq_zero_iff.1 (bj.hl.trans bi);have ce:=O bm;subst bi;clear bm;go_wp2_with fail;go_meet;exact⟨cp,by rw[aaS ce.out];exact av,by rw[ce.out];rfl⟩
      have g1:decide ((0:Int)<(bu:Int))=true:=aQ J;have c7:decide (0<bu)=true:=aQ J;by_cases ae:bu≠2
      ·have eO:((jk ws).isEmpty||xO (jk ws))=false:=by
        have:=bj.hl
        match bN:jk ws,this with
        |[],h=>exact absurd h.symm bi
        |[y],_=>rfl
        |[y,z],h=>exact absurd h.symm ae
        |y::z::l::t,_=>rfl
       have al:=O (show ou ws=false by rw[bw.out,eO]);have f9:((bu:Int) != 2)=true:=by simp;omega
       have f':decide ((bu:Int)=2)=false:=aP J;have ga:decide (bu=2)=false:=aP ae;clear eO;go_wp2_with (first|(refine bV F 192 _ F F av.b2 E (aS.len _) ?_)|(refine bg F _ _ _ F F F av.b2 E (aS.len _) (aS.len _) (nD _) ?_));intro af ad ab;go_wp2_with fail;exact iy F F ad E (aS.len _) F (a2 al _ af (ab.ext av.e J))
      have ae:bu=2:=J;subst ae;obtain⟨x,y,aR⟩:=ZQ (jk ws) bj.hl;obtain⟨gb,go,rfl,eE⟩:=(bj.ext av.e).cell.gQ (by rw[length_map,bj.hl];omega);have bX:b5.cell? ⟨gb,go,none⟩=some (.string x):=eE 0 _ (by rw[aR];rfl);have fh:Hid (∀W:World,X w W->W.cell? ⟨gb,go+1,none⟩=some (.string y)):=O (fun W h=>by
       obtain⟨fS,fT,cC,f2⟩:=(bj.ext h).cell.gQ (by rw[length_map,bj.hl];omega);have a1:fS=gb:=by simp at cC;exact cC.1.symm
       have e2:fT=go:=by simp at cC;exact cC.2.symm
       subst a1;subst e2;exact f2 1 _ (by rw[aR];rfl))
      have dt:=bj.hs x (by rw[aR];simp);have f6:y.size<=140737488355328:=Nat.le_trans (bj.hs y (by rw[aR];simp)) J;have e1:x.data.toList.length<=1000000:=by rw[Array.length_toList];exact dt
      have eQ:((jk ws).isEmpty||xO (jk ws))=jv x.data.toList:=by rw[aR];rfl
      obtain⟨b6,d2,cb⟩:=aW (fun(ai:jv x.data.toList=true)=>aaU (d:=d) aR ai) eQ (LM x.data.toList b5 e1 (cw.ext av.e).lw);rw[KU]at cb;clear eE eQ aR bi g1 c7;generalize gV x.data.toList=b4 at*;generalize jv x.data.toList=dy at*;go_wp2_with fail;refine cb.mono ?_;rintro e v2 ⟨rfl,e2⟩;have bk:=O (av.ext e2);have fw:=bk.b2.cell' (i:=6) F;have fN:=bk.b2.frozen 6;clear e2 cb av k7 bX;go_upto_region 35 with fail;obtain⟨v3,bO⟩:=aC (World.setCell v2 ⟨G2,6,none⟩ (.int .i64 b4));rw[bO];have ba:=O (bk.rule (r':={cp with nd:=b4}) (x':={tq d ws with nd:=b4}) (wy:=v3) J bp bq br (by rw[<-bO];exact bk.b2.set 6 (.int .i64 b4)) (by rw[<-bO];exact aU.setCell _) (fun s=>s.nd _));clear bO fw fN bk;cases dy with
      |false=>
       have al:=O (show ou ws=false by rw[bw.out,d2.out]);go_wp2_with (first|(refine bV F 192 _ F F ba.b2 E (aS.len _) ?_)|(refine bg F _ _ _ F F F ba.b2 E (aS.len _) (aS.len _) (nD _) ?_));intro af ad ab;go_wp2_with fail;exact iy F F ad E (aS.len _) F (a2 al _ af (ab.ext ba.e J))
      |true=>
       have k7:=ba.b7.cell' (i:=0) (v:= .slice (some ⟨gb,go,none⟩) 2 c4) (by rw[<-eb.out];rfl);have gw:=fh.out v3 ba.e;have gp:=ba.b2.cell' (i:=7) F;have gt:=ba.b2.frozen 7;go_wp2_with fail;obtain⟨cL,cE⟩:=aC (World.setCell v3 ⟨G2,7,none⟩ (.string y));try rw[cE]
       have bc:=O (ba.rule (r':={cp with nd:=b4,ow:=y}) (x':={tq d ws with nd:=b4,ow:=y}) (wy:=cL) J bp bq br (by rw[<-cE];exact ba.b2.set 7 (.string y)) (by rw[<-cE];exact aU.setCell _) (fun s=>s.ow _ f6));have c1:Hid (qc w B G2 G5 G6 G7 ws q {cp with nd:=b4,ow:=y} (CQ d ws) cL):=O {bc with st:=bc.st.to (by first|exact b6 F|exact b6 trivial)};clear cE;go_meet;exact⟨_,c1,d2⟩
     case rest=>
     obtain⟨fb,ey,bm⟩:=hcut;have al:=O (show ou ws=true by rw[bw.out,bm]);obtain⟨v2,ds⟩:=aC wc;have bc:Hid (qc w B G2 G5 G6 G7 ws q fb (CQ d ws) v2):=O (by rw[<-ds];exact ey);rw[ds];clear av k7 ds ey bm wc;go_wp2_with (first|(refine bV F 192 _ F F bc.b2 E (aS.len _) ?_)|(refine bg F _ _ _ F F F bc.b2 E (aS.len _) (aS.len _) (nD _) ?_));intro af ad ab;go_wp2_with fail;refine iy F F ad E (aS.len _) F ?_;rw[d3.out];have st:=bc.st.upd ab bG;have et:X w af:=ab.ext bc.e J;refine⟨fb,by rw[al.out];rfl,fun _=>⟨?_,st.ok et,st.hi fk⟩,et⟩;rw[st.q,<-aaQ,fi.out]
end Go.Proofs.YtjlhhnkhcbpnjaaGreatDoor
