/- Laws; no condition. -/
import Derived.Test.YtjlhhnkhcbpnjaaGreatDoorJN10
namespace Go.Proofs.YtjlhhnkhcbpnjaaGreatDoor
open Go Go.RowKit List Tryz
open Go.World(alloc setCell)
set_option linter.all false
set_option maxHeartbeats 40000000
set_option maxRecDepth 100000
def Tn{a:Prop}(e:a:=by
 go_wp2_with (first|(refine dA F 192 _ F F J5.b2 jk (aX.len _) ?_)|(refine aZ F _ _ _ F F F J5.b2 jk (aX.len _) (aX.len _) (xO _) ?_));intro u1 b9 u9;go_wp2_with fail;exact lI F F b9 jk (aX.len _) F (Db eP _ u1 (u9.ext J5.e J))):a:=e
def ajS(B:Nat)(en:aO)(a8 az:Nat)(ws:bq)(w:World)(cL:jE w B en a8 az ws)(e2:ws≠[])(eR:uK w)(g5:B<=w.heap.size):
 Calls prog 134 #[.slice en a8 az] w λe w'=>∃r:aX,e= .returned (.tuple #[.agg r.v.toArray,.bool (vg ws)])/\(vg ws=true->r.bare=J6 ws/\r.Ok w'/\r.Hi B)/\aj w w':=by
 obtain⟨cw,ec,jk⟩:=aW eR cL Jq;obtain⟨x,g',cP⟩:∃x r,ws=x::r:=by
  cases ws with
  |nil=>exact absurd F e2
  |cons x r=>exact⟨x,r,F⟩
 have cY:=O cP;obtain⟨A,cD,bx⟩:=cL.at (k:=0) (x:=x) (by rw[cP];rfl);rw[Qw]at bx;have cT:=O bx;have eW:0<a8:=by have:=cL.hl;rw[cP]at this;simp at this;omega
 subst cD;obtain⟨fS,db⟩:=mP (λe w'=>∃r:aX,e= .returned (.tuple #[.agg r.v.toArray,.bool (vg ws)])/\(vg ws=true->r.bare=J6 ws/\r.Ok w'/\r.Hi B)/\aj w w':Ending->World->Prop);rw[<-db];have d7:=O db;have es:vg ws=false->∀(r:aX) (w':World),aj w w'->fS (.returned (.tuple #[.agg r.v.toArray,.bool false])) w':=λh r w' e=>by
  rw[d7.out];exact⟨r,by rw[h],(λD=>by rw[h]at D;cases D),e⟩
 have Db:=O es;clear db es eR cL e2 cP bx;go_enter func134,ntmps134;go_upto_region 1 with(fail);generalize ck:alloc (alloc w _) _=dT;have e8:dT.heap.size=w.heap.size+2:=by rw[<-ck,IC,IC]
 obtain⟨ea,ct,b7,cv⟩:=bT e8 (qA ck [.slice (some A) a8 az] 98) (qQ ck (GJ false).v 192) (wN ck);clear ck e8;have k1:=ct.cell' (i:=0) F;have gn:dT.cell? A=some (.string x):=by
  rw[cv.cell (kN cT)];exact cT
 have dv:=aiW x;have dy:=aiX x;have dk:LA ws=(decide (x=DY)||decide (x=Ko)):=by rw[cY.out];rfl
 have df:lJ DY ws=decide (x=DY):=by rw[cY.out];rfl
 obtain⟨d,de⟩:=aF (decide (x=DY));obtain⟨cf,dc⟩:=aF (decide (x=Ko));rw[de,dc]at dk;rw[de]at df dy;rw[dc]at dv;obtain⟨cU,ft⟩:=aA dk df;clear dk df de dc;go_cut [27] (λv cr=>v= .bool (!(d||cf))/\cr=dT)
 ·cases cf<;>cases d
  all_goals (
   go_wp2;go_meet;exact⟨F,F⟩)
 obtain⟨rfl,rfl⟩:=hcut;by_cases cH:(d||cf)=false
 ·rw[cH];have e3:vg ws=false:=by
   rw[<-Wn,Wm,cU.out,cH];rfl
  have eP:=O e3;clear dv dy e3;go_wp2_with (first|(refine dA F 192 _ F F b7 jk F ?_)|(refine aZ F _ _ _ F F F b7 jk F (xs:=(GJ false).v) F (xO _) ?_));intro u1 b9 u9;go_wp2_with fail;exact lI F F b9 jk F F (Db eP (GJ false) u1 (u9.ext cv J))
 have dj:(d||cf)=true:=by revert cH;cases (d||cf)<;>simp
 rw[dj];have fx:=O (cU.trans dj);clear dv cH dj cU;have go:=b7.cell' (i:=0) F;have f7:=b7.frozen 0;have c7:=ct.frozen 0;go_upto_region 4 with fail;obtain⟨bu,N⟩:=aF (setCell wc ⟨w.heap.size+1,0,none⟩ (.bool d));rw[N];have er:au bu w.heap.size [.slice (some A) a8 az] 98:=by rw[<-N];exact ct.Au _ _ aB
 have fk:au bu (w.heap.size+1) (GJ d).v 192:=by rw[<-N];exact b7.set 0 (.bool d)
 have af:aj w bu:=by rw[<-N];exact cv.set _ aB
 have U:bu.heap.size=w.heap.size+2:=by rw[<-N,<-ea.out];exact(dF.setCell (w:=wc) (g:=w.heap.size+1) (i:=0) (.bool d)).size
 obtain⟨cs,el,d2,ab,cV⟩:=fC er fk af U (show 1<=a8 from eW);clear N er fk af U go f7 c7 k1 gn dy ct b7 cv ea eW;have k1:=cs.cell' (i:=0) F;have c7:=cs.frozen 0;go_upto_region 5 with(refine bZ F (QO (p:=some A) (n:=a8) (c:=az) (k:=1) F F F underlying98 Av cV _) ?_);obtain⟨a2,b'⟩:=aF (setCell bu ⟨w.heap.size,0,none⟩ (.slice (fu (some A) az 1) (a8 - 1) (az - 1)));rw[b'];have b2:au a2 w.heap.size [.slice (fu (some A) az 1) (a8 - 1) (az - 1)] 98:=by rw[<-b'];exact cs.set 0 _
 have fl:au a2 (w.heap.size+1) (GJ d).v 192:=by rw[<-b'];exact el.Au _ _ aB
 have a0:aj w a2:=by rw[<-b'];exact d2.set _ aB
 have e7:a2.heap.size=w.heap.size+2:=by rw[<-b',<-ab.out];exact(dF.setCell (w:=bu) (g:=w.heap.size) (i:=0) _).size
 have fd:jE w B (fu (some A) az 1) (a8 - 1) (az - 1) (sU 0 ws):=by
  have:=ec.drop cV;rw[cY.out]at this⊢;exact this
 generalize fu (some A) az 1=ce at*;generalize a8 - 1=fg at*;generalize az - 1=et at*;obtain⟨d1,em,d3,d',ed⟩:=fC b2 fl a0 e7 fd;clear b' b2 fl a0 e7 fd k1 c7 cs el d2 ab cV;go_upto_region 8 with fail;generalize fb:alloc (alloc (alloc (alloc a2 _) _) _) _=gC;have c1:AZ w B w.heap.size (w.heap.size+1) a2.heap.size (a2.heap.size+1) (a2.heap.size+1+1) (a2.heap.size+1+1+1) d ws 0 (λ_=>ajo) ce fg et gC:=by
  rw[<-fb];refine⟨(((d3.alloc _).alloc _).alloc _).alloc _,(((d1.alloc _).alloc _).alloc _).alloc _,ed,(((em.alloc _).alloc _).alloc _).alloc _,(((au.bK F F).alloc _).alloc _).alloc _,((au.bK (IC _ _).symm rfl).alloc _).alloc _,(au.bK (by rw[IC,IC]) F).alloc _,au.bK (by rw[IC,IC,IC]) F,λj bz=> ?_⟩;rw[aJ J];exact jE.nil _ _
 obtain⟨G8,da⟩:=aF (a2.heap.size+1+1+1);obtain⟨G7,ch⟩:=aF (a2.heap.size+1+1);obtain⟨G6,c'⟩:=aF (a2.heap.size+1);obtain⟨G5,c_⟩:=aF a2.heap.size;obtain⟨H,c9⟩:=aF (w.heap.size+1);obtain⟨bw,cE⟩:=aF w.heap.size;have gc:w.heap.size<=bw/\bw<H/\H<G5/\G5<G6/\G6<G7/\G7<G8/\B<=H:=by
  have:=d'.out;omega
 obtain⟨bb,cm,a9,a_,a',cn,fh⟩:=gc;obtain⟨fw,g9⟩:=aA fh cE;rw[da,ch,c',c_,c9,cE]at c1;rw[da,ch,c',c_,c9,cE];clear da ch c' c_ c9 cE fb d1 em d3 d' ed ec cT fh;go_wp2_with fail;go_loopw [41] (λi wr=>∃(k:Nat) (q:Nat->Sl) (a:aO) (n c:Nat),k<=5/\i= .int .i64 (k:Int)/\AZ w B bw H G5 G6 G7 G8 d ws k q a n c wr/\(∀j,j<k->Bh j ws=true)) (λi _=>5 - (intOf i).toNat)
 ·exact⟨0,_,ce,fg,et,J,F,c1,λj bz=>by omega⟩
 ·obtain⟨k,q,a,n,c,gj,rfl,ey,eQ⟩:=hrel;obtain⟨G,b1⟩:=aA ey eQ;clear ey eQ c1;rcases(show k=0∨k=1∨k=2∨k=3∨k=4∨k=5 by omega)with rfl|rfl|rfl|rfl|rfl|rfl
  ·have bi:=G.b8.cell' (i:=0) (v:= .pointer (some ⟨H,1,none⟩)) F;go_upto_region 10 with fail;go_wp2_with fail;generalize aq:alloc wr _=ar;have o:=O (G.ext (show aj wr ar by rw[<-aq];exact(aj.refl wr).alloc _));clear aq bi G;refine(O7 bw B _ a n c (sU 0 ws) (vY 0) w ar o.b1 o.wd o.e bb).mono ?_;rintro e bv ⟨K,M,L,bd,br,bh,rfl,U,N,ao,S⟩;obtain⟨ab,am,ag,al⟩:=bT U N ao S;obtain⟨f,R⟩:=aF ((!lJ (vY 0) (sU 0 ws)|| !(xP (vY 0) (sU 0 ws)).isEmpty));rw[R];have ai:=O (show Bh 0 ws=f from R);have Q:=o.b2.grown S (λe=>by injection e with e;omega);have bj:=Q.cell' (i:=1) F;have bl:=Q.frozen 1;clear U N ao S R Q;go_upto_region 11 with fail;obtain⟨cS,T⟩:=aF (setCell bv ⟨H,1,none⟩ (.slice K M L));rw[T];have I:=O (o.step (s:=⟨K,M,L⟩) J bb cm a9 a_ a' cn ag al ab am T.symm);clear T bj bl o ab am ag al;cases f with
   |false=>
    obtain⟨eP,C⟩:=aA (OO J ai) (aX.len (t_ d (zI q 0 ⟨K,M,L⟩) [] []));go_wp2_with (first|(refine dA F 192 _ F F I.b2 jk C ?_)|(refine aZ F _ _ _ F F F I.b2 jk C C (xO _) ?_));intro u1 b9 u9;go_wp2_with fail;exact lI F F b9 jk C F (Db eP (t_ d (zI q 0 ⟨K,M,L⟩) [] []) u1 (u9.ext I.e J))
   |true=>
    go_wp2;go_roundw
    ·exact⟨0+1,_,bd,br,bh,J,by go_num,I,λj bz=>by
     by_cases bm:j=0
     ·rw[bm];exact ai
     ·exact b1 j J⟩
    ·simp[intOf]
  ·have bi:=G.b8.cell' (i:=1) (v:= .pointer (some ⟨G5,0,none⟩)) F;go_upto_region 10 with fail;go_wp2_with fail;generalize aq:alloc wr _=ar;have o:=O (G.ext (show aj wr ar by rw[<-aq];exact(aj.refl wr).alloc _));clear aq bi G;refine(O7 bw B _ a n c (sU 1 ws) (vY 1) w ar o.b1 o.wd o.e bb).mono ?_;rintro e bv ⟨K,M,L,bd,br,bh,rfl,U,N,ao,S⟩;obtain⟨ab,am,ag,al⟩:=bT U N ao S;obtain⟨f,R⟩:=aF ((!lJ (vY 1) (sU 1 ws)|| !(xP (vY 1) (sU 1 ws)).isEmpty));rw[R];have ai:=O (show Bh 1 ws=f from R);have Q:=o.b5.grown S (λe=>by injection e with e;omega);have bj:=Q.cell' (i:=0) F;have bl:=Q.frozen 0;clear U N ao S R Q;go_upto_region 11 with fail;obtain⟨cS,T⟩:=aF (setCell bv ⟨G5,0,none⟩ (.slice K M L));rw[T];have I:=O (o.step (s:=⟨K,M,L⟩) J bb cm a9 a_ a' cn ag al ab am T.symm);clear T bj bl o ab am ag al;cases f with
   |false=>
    obtain⟨eP,C⟩:=aA (OO J ai) (aX.len (t_ d (zI q 1 ⟨K,M,L⟩) [] []));go_wp2_with (first|(refine dA F 192 _ F F I.b2 jk C ?_)|(refine aZ F _ _ _ F F F I.b2 jk C C (xO _) ?_));intro u1 b9 u9;go_wp2_with fail;exact lI F F b9 jk C F (Db eP (t_ d (zI q 1 ⟨K,M,L⟩) [] []) u1 (u9.ext I.e J))
   |true=>
    go_wp2;go_roundw
    ·exact⟨1+1,_,bd,br,bh,J,by go_num,I,λj bz=>by
     by_cases bm:j=1
     ·rw[bm];exact ai
     ·exact b1 j J⟩
    ·simp[intOf]
  ·have bi:=G.b8.cell' (i:=2) (v:= .pointer (some ⟨H,3,none⟩)) F;go_upto_region 10 with fail;go_wp2_with fail;generalize aq:alloc wr _=ar;have o:=O (G.ext (show aj wr ar by rw[<-aq];exact(aj.refl wr).alloc _));clear aq bi G;refine(O7 bw B _ a n c (sU 2 ws) (vY 2) w ar o.b1 o.wd o.e bb).mono ?_;rintro e bv ⟨K,M,L,bd,br,bh,rfl,U,N,ao,S⟩;obtain⟨ab,am,ag,al⟩:=bT U N ao S;obtain⟨f,R⟩:=aF ((!lJ (vY 2) (sU 2 ws)|| !(xP (vY 2) (sU 2 ws)).isEmpty));rw[R];have ai:=O (show Bh 2 ws=f from R);have Q:=o.b2.grown S (λe=>by injection e with e;omega);have bj:=Q.cell' (i:=3) F;have bl:=Q.frozen 3;clear U N ao S R Q;go_upto_region 11 with fail;obtain⟨cS,T⟩:=aF (setCell bv ⟨H,3,none⟩ (.slice K M L));rw[T];have I:=O (o.step (s:=⟨K,M,L⟩) J bb cm a9 a_ a' cn ag al ab am T.symm);clear T bj bl o ab am ag al;cases f with
   |false=>
    obtain⟨eP,C⟩:=aA (OO J ai) (aX.len (t_ d (zI q 2 ⟨K,M,L⟩) [] []));go_wp2_with (first|(refine dA F 192 _ F F I.b2 jk C ?_)|(refine aZ F _ _ _ F F F I.b2 jk C C (xO _) ?_));intro u1 b9 u9;go_wp2_with fail;exact lI F F b9 jk C F (Db eP (t_ d (zI q 2 ⟨K,M,L⟩) [] []) u1 (u9.ext I.e J))
   |true=>
    go_wp2;go_roundw
    ·exact⟨2+1,_,bd,br,bh,J,by go_num,I,λj bz=>by
     by_cases bm:j=2
     ·rw[bm];exact ai
     ·exact b1 j J⟩
    ·simp[intOf]
  ·have bi:=G.b8.cell' (i:=3) (v:= .pointer (some ⟨G6,0,none⟩)) F;go_upto_region 10 with fail;go_wp2_with fail;generalize aq:alloc wr _=ar;have o:=O (G.ext (show aj wr ar by rw[<-aq];exact(aj.refl wr).alloc _));clear aq bi G;refine(O7 bw B _ a n c (sU 3 ws) (vY 3) w ar o.b1 o.wd o.e bb).mono ?_;rintro e bv ⟨K,M,L,bd,br,bh,rfl,U,N,ao,S⟩;obtain⟨ab,am,ag,al⟩:=bT U N ao S;obtain⟨f,R⟩:=aF ((!lJ (vY 3) (sU 3 ws)|| !(xP (vY 3) (sU 3 ws)).isEmpty));rw[R];have ai:=O (show Bh 3 ws=f from R);have Q:=o.b6.grown S (λe=>by injection e with e;omega);have bj:=Q.cell' (i:=0) F;have bl:=Q.frozen 0;clear U N ao S R Q;go_upto_region 11 with fail;obtain⟨cS,T⟩:=aF (setCell bv ⟨G6,0,none⟩ (.slice K M L));rw[T];have I:=O (o.step (s:=⟨K,M,L⟩) J bb cm a9 a_ a' cn ag al ab am T.symm);clear T bj bl o ab am ag al;cases f with
   |false=>
    obtain⟨eP,C⟩:=aA (OO J ai) (aX.len (t_ d (zI q 3 ⟨K,M,L⟩) [] []));go_wp2_with (first|(refine dA F 192 _ F F I.b2 jk C ?_)|(refine aZ F _ _ _ F F F I.b2 jk C C (xO _) ?_));intro u1 b9 u9;go_wp2_with fail;exact lI F F b9 jk C F (Db eP (t_ d (zI q 3 ⟨K,M,L⟩) [] []) u1 (u9.ext I.e J))
   |true=>
    go_wp2;go_roundw
    ·exact⟨3+1,_,bd,br,bh,J,by go_num,I,λj bz=>by
     by_cases bm:j=3
     ·rw[bm];exact ai
     ·exact b1 j J⟩
    ·simp[intOf]
  ·have bi:=G.b8.cell' (i:=4) (v:= .pointer (some ⟨G7,0,none⟩)) F;go_upto_region 10 with fail;go_wp2_with fail;generalize aq:alloc wr _=ar;have o:=O (G.ext (show aj wr ar by rw[<-aq];exact(aj.refl wr).alloc _));clear aq bi G;refine(O7 bw B _ a n c (sU 4 ws) (vY 4) w ar o.b1 o.wd o.e bb).mono ?_;rintro e bv ⟨K,M,L,bd,br,bh,rfl,U,N,ao,S⟩;obtain⟨ab,am,ag,al⟩:=bT U N ao S;obtain⟨f,R⟩:=aF ((!lJ (vY 4) (sU 4 ws)|| !(xP (vY 4) (sU 4 ws)).isEmpty));rw[R];have ai:=O (show Bh 4 ws=f from R);have Q:=o.b7.grown S (λe=>by injection e with e;omega);have bj:=Q.cell' (i:=0) F;have bl:=Q.frozen 0;clear U N ao S R Q;go_upto_region 11 with fail;obtain⟨cS,T⟩:=aF (setCell bv ⟨G7,0,none⟩ (.slice K M L));rw[T];have I:=O (o.step (s:=⟨K,M,L⟩) J bb cm a9 a_ a' cn ag al ab am T.symm);clear T bj bl o ab am ag al;cases f with
   |false=>
    obtain⟨eP,C⟩:=aA (OO J ai) (aX.len (t_ d (zI q 4 ⟨K,M,L⟩) [] []));go_wp2_with (first|(refine dA F 192 _ F F I.b2 jk C ?_)|(refine aZ F _ _ _ F F F I.b2 jk C C (xO _) ?_));intro u1 b9 u9;go_wp2_with fail;exact lI F F b9 jk C F (Db eP (t_ d (zI q 4 ⟨K,M,L⟩) [] []) u1 (u9.ext I.e J))
   |true=>
    go_wp2;go_roundw
    ·exact⟨4+1,_,bd,br,bh,J,by go_num,I,λj bz=>by
     by_cases bm:j=4
     ·rw[bm];exact ai
     ·exact b1 j J⟩
    ·simp[intOf]
  ·have ax:=O (AZ.j G);have fe:jE w B a n c (IQ ws):=G.wd;have eN:(IQ ws).isEmpty=decide (n=0):=by
    have:=fe.hl;cases bo:IQ ws with
    |nil=>rw[bo]at this;simp at this;simp[<-this]
    |cons y z=>rw[bo]at this;simp at this;simp;omega
   have ap:=ajB fx b1;rw[eN]at ap;have k1:=G.b1.cell' (i:=0) F;have C:=O (aX.len (t_ d q (wu ws) (vX ws)));obtain⟨cq,fc⟩:=aF wr;rw[fc]at ax k1⊢;have ej:Hid (jE w B (q 0).a (q 0).n (q 0).c (wu ws)):=O (G.ql 0 J);have ek:Hid (jE w B (q 2).a (q 2).n (q 2).c (vX ws)):=O (G.ql 2 J);have b6:=O ax.w1;have ba:=O ax.w3;have a4:=O ax.w4;have ch:G7<cq.heap.size:=ax.b7.lt;clear fe eN G b1 fc wr gj;by_cases a1:n≠0
   ·have eP:=O (show vg ws=false by rw[ap,bg a1];simp);have g1:=cO ((0:Int)<(n:Int));have c8:=cO (0<n);clear ap;go_wp2_with (first|(refine dA F 192 _ F F ax.b2 jk C ?_)|(refine aZ F _ _ _ F F F ax.b2 jk C C (xO _) ?_));intro u1 b9 u9;go_wp2_with fail;exact lI F F b9 jk C F (Db eP (t_ d q (wu ws) (vX ws)) u1 (u9.ext ax.e J))
   have a1:n=0:=J;rw[bV a1,Nl]at ap;subst a1;have bc:=O ap;clear ap;go_upto_region 16 with fail;clear k1;have k5:=ax.b5.cell' (i:=0) (v:= .slice (q 1).a (q 1).n (q 1).c) F;have eV:H<cq.heap.size:=ax.b2.lt;have d5:=O (show w.heap.size<=cq.heap.size from ax.e.size);obtain⟨cc,ga⟩:=aF cq.heap.size;rw[ga]at eV d5 ch;have ef:Ab w H G5 G6 G7 q {t_ d q (wu ws) (vX ws)with aa:=none,an:=0,ac:=0,acts:=[]} cq:=ax.toK;go_wp2_with fail;clear k5 ax;go_loopw [67] (λi d0=>∃(j:Nat) (be:aO) (bk:Nat) (zs:List Int),j<=(q 1).n/\i= .int .i64 (j:Int)/\Ab w H G5 G6 G7 q {t_ d q (wu ws) (vX ws)with aa:=be,an:=j,ac:=bk,acts:=zs} d0/\d0.ownsRow cc 3 1 (.slice be j bk) j (zs.map qH)/\zs=((pJ ws).take j).map sF/\(∀x∈(pJ ws).take j,sF x≠0)/\cc<=d0.heap.size) (λi _=>(q 1).n - (intOf i).toNat)
   ·exact⟨0,none,0,[],J,F,ef,⟨F,.inl ⟨F,F⟩⟩,F,(λ_ h=>by simp at h),J⟩
   ·obtain⟨j,be,bk,zs,bz,rfl,ez,e4,ff,e5,gb⟩:=hrel;obtain⟨G,cx,cX,c0⟩:=bT ez e4 e5 ff;have g8:=b6.hm;clear ez e4 e5 ef ff;by_cases eS:j<(q 1).n
    ·have f2:=cO ((j:Int)<((q 1).n:Int));have f3:=bV eS;obtain⟨y,ca⟩:∃y,(pJ ws)[j]? =some y:=⟨(pJ ws)[j]'(by rw[b6.hl];exact eS),aB⟩;obtain⟨gO,f',g7⟩:=(b6.ext G.e).at ca;have fL:=O ca;have cj:(pJ ws).take (j+1)=(pJ ws).take j++[y]:=by rw[ny,ca];rfl
     obtain⟨eb,gh⟩:=aA cj (λbu ce (h:aM bu ce (((⟨#[]⟩:ByteArray)::yu).map dx))=>ah0 y (⟨#[]⟩::yu) ce 13 13 bu F J h);have b8:=akz y;clear ca cj;rw[f'];go_wp2_with fail;refine(YB wr).mono ?_;rintro e b5 ⟨rfl,eL,af⟩;obtain⟨fp,o,cW⟩:=aW eL (G.ext af) (CS cx af);have U:=af.size;clear eL af cx;go_wp2_with fail;refine(gh b5 _ fp).mono ?_;rintro e cb ⟨rfl,rfl⟩;by_cases b0:sF y=0
     ·have cQ:=b8.1;rw[bV b0]at cQ;have eP:=O (show vg ws=false by
       rw[bc.out];have:Ej (pJ ws)=false:=by
        unfold Ej;rw[all_eq_false];exact⟨y,f_ fL,by simp[b0]⟩
       rw[this];rfl)
      have C:=O (aX.len {t_ d q (wu ws) (vX ws)with aa:=be,an:=j,ac:=bk,acts:=zs});clear b8 b0;generalize Aj y (⟨#[]⟩::yu)=gR at*;go_wp2_with (first|(refine dA F 192 _ F F o.b2 jk C ?_)|(refine aZ F _ _ _ F F F o.b2 jk C C (xO _) ?_));intro u1 b9 u9;go_wp2_with fail;exact lI F F b9 jk C F (Db eP _ u1 (u9.ext o.e J))
     ·have cQ:=b8.1;rw[bg b0,b8.2 b0]at cQ;rw[b8.2 b0];have fN:=O b0;clear b8 b0;obtain⟨z,du⟩:=aF (sF y);rw[du]at cQ⊢;have fR:=O du;have fW:=o.b2.cell' (i:=2) (v:= .slice be j bk) F;have fz:=O agn;clear du;go_upto_region 22 with fail;go_wp2_with (refine yY (n:=j) (m:=1) (c:=1) (news:=[.int .i64 z]) fz F _ _ F cc F F (CS cW ((aj.refl _).alloc _)) F (aQ _) (λh=>by cases h) (aM.iM (au.bK F F)) (λu e'=>by simp at e';rw[e'];rfl) J J (by rw[DU];omega) ?_);intro hb bt dm di gl;obtain⟨c3,c6,rfl,_,_,_⟩:=j3 dm;have cz:=O ((o.ext ((aj.refl _).alloc _)).JD a9 a_ a' di (λg dg=>by
       have:=(cW.lt g dg).1;have:=d5.out;omega))
      have fy:=O dm;have ci:=di.size;rw[DU]at ci;have gS:=cz.b2.cell' (i:=2) (v:= .slice be j bk) F;have g2:=cz.b2.frozen 2;clear dm di gl fW o cW;go_wp2;go_roundw
      ·refine⟨j+1,c3,c6,zs++[z],J,by go_num,cz.rule J a9 a_ a' (cz.b2.set 2 (.slice c3 (j+1) c6)) (dF.setCell _),?_,?_,?_,?_⟩
       ·have D:bt.ownsRow cc 3 1 (.slice c3 (j+1) c6) (j+1) ((zs++[z]).map qH):=by
         rw[jv];exact fy
        exact CQ D (zJ (dF.setCell _)) (λg dg e=>by
         injection e with e;have:=(D.lt g dg).1;omega)
       ·rw[eb.out,jv,<-c0.out,<-fR.out];rfl
       ·intro gE b3;rw[eb.out,kU]at b3;rcases b3 with b3|b3
        ·exact cX gE b3
        ·simp at b3;rw[b3];exact fN
       ·rw[(dF.setCell (w:=bt) (g:=H) (i:=2) _).size];omega
      ·exact fV
    ·have gi:j=(q 1).n:=J;have f2:=bU ((j:Int)<((q 1).n:Int));have f3:=bU (j<(q 1).n);have cj:(pJ ws).take j=pJ ws:=gY (by rw[b6.hl];omega);have dp:=cX.out;have cl:=c0.out;rw[cj]at dp cl;have dl:zs.length=j:=by rw[cl,aI,b6.hl];omega
     have e_:jC w wr B H {t_ d q (wu ws) (vX ws)with aa:=be,an:=j,ac:=bk,acts:=zs} (GK d ws):=by
      have E:=((jC.zero w wr B H d).roles ej).labels ek;have D:=E.acts (a:=be) (n:=j) (c:=bk) (zs:=zs) (B0:=cc) (by rw[dl];exact cx) eV (by rw[dl];omega) (by rw[cl];exact afa _);exact D.to (by rw[cl,aI];rfl)
     have eE:Ej (pJ ws)=true:=by
      unfold Ej;rw[z_];intro y ca;simp[dp y ca]
     have ap:=bc.out;rw[eE,Nl]at ap;obtain⟨bc,P⟩:=aA ap (G.j b6 ba a4 e_);obtain⟨r2,e6⟩:=aF ({t_ d q (wu ws) (vX ws)with aa:=be,an:=j,ac:=bk,acts:=zs}:aX);rw[e6]at P;obtain⟨gA,fa⟩:=aF wr;rw[fa]at P⊢;obtain⟨gx,ci⟩:=aF (q 3);obtain⟨eo,ae,c4⟩:=gx;obtain⟨gz,dq⟩:=aF (q 4);obtain⟨ep,bs,c5⟩:=gz;have cM:=ba.out;have cN:=a4.out;rw[ci]at cM;rw[dq]at cN;dsimp only at cM cN;obtain⟨ba,a4,eh,ei⟩:=bT cM cN (show(q 3).v= .slice eo ae c4 by rw[ci];rfl) (show(q 4).v= .slice ep bs c5 by rw[dq];rfl);clear e_ eE dp cl dl ap cj gi e6 fa wr ci dq cM cN cX c0 cx G gb bz ej ek;have k6:=P.b6.cell' (i:=0) (v:= .slice eo ae c4) (by rw[<-eh.out];rfl);go_upto_if 86 with fail;go_cut [] (λcr=>∃r,yt w B H G5 G6 G7 ws q r (BL d ws) cr/\((kg ws).isEmpty||Bc (kg ws))=true)
     ·by_cases a1:ae=0
      ·have a7:kg ws=[]:=qm.1 (ba.hl.trans a1);have cd:=O a7;subst a1;clear a7;go_wp2;go_meet;exact⟨r2,by rw[aoh cd.out];exact P,by rw[cd.out];rfl⟩
      have g1:=cO ((0:Int)<(ae:Int));have c8:=cO (0<ae);have g4:0<ae:=J;obtain⟨V,dE,ad⟩:∃x t,kg ws=x::t:=by
       cases bo:kg ws with
       |nil=>exact absurd (ba.hl.symm.trans (by rw[bo];rfl)) a1
       |cons y z=>exact⟨y,z,F⟩
      obtain⟨fm,rfl,bx⟩:=(ba.ext P.e).at (k:=0) (x:=V) (by rw[ad];rfl);rw[Qw]at bx;have dt:=ba.hs V (by rw[ad];simp);have ee:=O ad;have e9:V.data.toList.length<=1000000:=by rw[pz];exact dt
      have hcut:=O (Ze V.data.toList [45] gA J (cw.ext P.e).lw.ml);rw[XD]at hcut;have gg:=Zf V.data.toList [45];have cD:Lib.cut V.data.toList [45]=yE V:=F;rw[cD]at hcut gg;have eI:∀b,ae=1->Bc (kg ws)=b->Ol V=b:=by
       intro b E D;have:dE=[]:=by
        have:=ba.hl;rw[ad,E]at this;simpa using this
       rw[ad,this]at D;exact D
      have eJ:ae≠1->Bc (kg ws)=false:=by
       intro E;have:=ba.hl;rw[ad]at this⊢;cases dE with
       |nil=>exact absurd this.symm E
       |cons y z=>rfl
      have eK:ae=1->kg ws=[V]:=by
       intro E;have:=ba.hl;rw[ad,E]at this;rw[ad];simp at this;rw[this]
      obtain⟨d4,fn,fo,d8,cy⟩:=fC eI eJ eK (show Ol V=((yE V).2.2&&l5 (yE V).1&&l5 (yE V).2.1)from F) (λ(h:kg ws=[V]) (E:l5 (yE V).1=true) (D:l5 (yE V).2.1=true)=>aoi (d:=d) h E D);clear cD ad eI eJ eK;generalize yE V=f1 at*;obtain⟨aE,a6,cg⟩:=f1;dsimp only at*;go_wp2_with fail;refine hcut.mono ?_;rintro e b5 ⟨rfl,af⟩;have eg:=O (P.ext af);clear af hcut k6 bx;have cp:=O (Xr aE b5 J (cw.ext eg.e).lw);go_wp2_with fail;refine cp.mono ?_;rintro e cb ⟨rfl,a0⟩;have a5:=O (eg.ext a0);have fX:=a5.b2.cell' (i:=4) F;have f4:=a5.b2.frozen 4;clear a0;go_upto_region 28 with fail;obtain⟨bt,bp⟩:=aF (setCell cb ⟨H,4,none⟩ (.int .i64 (jL aE)));rw[bp];have a3:=O (a5.rule (r':={r2 with fr:=jL aE}) (x':={GK d ws with fr:=jL aE}) (wy:=bt) J a9 a_ a' (by rw[<-bp];exact a5.b2.set 4 (.int .i64 (jL aE))) (by rw[<-bp];exact dF.setCell _) (λs=>s.fr _));clear bp fX f4 a5;have gw:=O (Xr a6 bt J (cw.ext a3.e).lw);go_wp2_with fail;refine gw.mono ?_;rintro e cR ⟨rfl,ew⟩;have aw:=O (a3.ext ew);have fY:=aw.b2.cell' (i:=5) F;have f5:=aw.b2.frozen 5;clear ew;go_upto_region 29 with fail;obtain⟨fj,cJ⟩:=aF (setCell cR ⟨H,5,none⟩ (.int .i64 (jL a6)));rw[cJ];have J5:=O (aw.rule (r':={r2 with fr:=jL aE,tt:=jL a6}) (x':={GK d ws with fr:=jL aE,tt:=jL a6}) (wy:=fj) J a9 a_ a' (by rw[<-cJ];exact aw.b2.set 5 (.int .i64 (jL a6))) (by rw[<-cJ];exact dF.setCell _) (λs=>s.tt _));clear cJ fY f5 aw;have k6:=J5.b6.cell' (i:=0) (v:= .slice (some fm) ae c4) (by rw[<-eh.out];rfl);by_cases cF:ae=1/\(cg&&l5 aE&&l5 a6)=true
      ·obtain⟨E,D⟩:=cF;have dd:cg=true/\l5 aE=true/\l5 a6=true:=by
        simp only[qZ]at D;exact⟨D.1.1,D.1.2,D.2⟩
       have fv:Hid (((kg ws).isEmpty||Bc (kg ws))=true):=O (by
        have:=d4.out _ E F;rw[d8.out]at this;rw[<-this,D,Bool.or_true])
       have c2:Hid (yt w B H G5 G6 G7 ws q {r2 with fr:=jL aE,tt:=jL a6} (BL d ws) fj):=O {J5 with st:=J5.st.to (cy (fo E) dd.2.1 dd.2.2)};obtain⟨af,a0,ev⟩:=dd;rw[af,a0,ev];subst E;clear D af a0 ev;go_wp2;go_meet;exact⟨_,c2,fv⟩
      ·have eP:=O (show vg ws=false by
        have gd:((kg ws).isEmpty||Bc (kg ws))=false:=by
         rw[ee.out];show(false||Bc (V::dE))=false;rw[<-ee.out,Bool.false_or];by_cases E:ae=1
         ·cases bo:Bc (kg ws)with
          |false=>rfl
          |true=>
           have:=d4.out _ E bo;rw[d8.out]at this;exact absurd ⟨E,this⟩ cF
         ·exact fn E
        rw[bc.out,gd];rfl)
       have ge:(ae≠1)∨(ae=1/\(cg&&l5 aE&&l5 a6)=false):=by
        by_cases E:ae=1
        ·exact .inr ⟨E,by cases bo:(cg&&l5 aE&&l5 a6)with
          |false=>rfl
          |true=>exact absurd ⟨E,bo⟩ cF⟩
        ·exact .inl E
       clear cF;rcases ge with E|⟨E,D⟩
       ·have gp:((ae:Int) != 1)=true:=by simp;omega
        have gr:=bU ((ae:Int)=1);have gt:=bg E;exact Tn
       ·subst E;generalize l5 aE=gv at*;generalize l5 a6=dC at*;cases cg
        ·clear D;exact Tn
        ·cases gv
         ·clear D;exact Tn
         ·cases dC
          ·clear D;exact Tn
          ·cases D
     obtain⟨co,eA,a7⟩:=hcut;have ap:=bc.out;rw[a7,Nl]at ap;have bc:=O ap;clear P k6 ap a7;obtain⟨b5,dr⟩:=aF wc;have P:Hid (yt w B H G5 G6 G7 ws q co (BL d ws) b5):=O (by rw[<-dr];exact eA);rw[dr];clear dr eA wc;have k7:=P.b7.cell' (i:=0) (v:= .slice ep bs c5) (by rw[<-ei.out];rfl);go_upto_if 125 with fail;go_cut [] (λcr=>∃r,yt w B H G5 G6 G7 ws q r (MC d ws) cr/\((lT ws).isEmpty||Gj (lT ws))=true)
     ·by_cases a1:bs=0
      ·have a7:lT ws=[]:=qm.1 (a4.hl.trans a1);have cd:=O a7;subst a1;clear a7;go_wp2;go_meet;exact⟨co,by rw[aok cd.out];exact P,by rw[cd.out];rfl⟩
      have g1:=cO ((0:Int)<(bs:Int));have c8:=cO (0<bs);by_cases D:bs≠2
      ·have e0:((lT ws).isEmpty||Gj (lT ws))=false:=by
        have:=a4.hl
        match bo:lT ws,this with
        |[],h=>exact absurd h.symm a1
        |[y],_=>rfl
        |[y,z],h=>exact absurd h.symm D
        |y::z::l::t,_=>rfl
       have eP:=O (show vg ws=false by rw[bc.out,e0]);have gp:((bs:Int) != 2)=true:=by simp;omega
       have gr:=bU ((bs:Int)=2);have gt:=bg D;clear e0;go_wp2_with (first|(refine dA F 192 _ F F P.b2 jk (aX.len _) ?_)|(refine aZ F _ _ _ F F F P.b2 jk (aX.len _) (aX.len _) (xO _) ?_));intro u1 b9 u9;go_wp2_with fail;exact lI F F b9 jk (aX.len _) F (Db eP _ u1 (u9.ext P.e J))
      have D:bs=2:=J;subst D;obtain⟨x,y,ad⟩:=anu (lT ws) a4.hl;obtain⟨cA,cC,rfl,eM⟩:=(a4.ext P.e).cell.jg (by rw[aI,a4.hl];omega);have bx:b5.cell? ⟨cA,cC,none⟩=some (.string x):=eM 0 _ (by rw[ad];rfl);have fs:Hid (∀W:World,aj w W->W.cell? ⟨cA,cC+1,none⟩=some (.string y)):=O (λW h=>by
       obtain⟨f8,f9,cG,gf⟩:=(a4.ext h).cell.jg (by rw[aI,a4.hl];omega);have af:f8=cA:=by simp at cG;exact cG.1.symm
       have a0:f9=cC:=by simp at cG;exact cG.2.symm
       subst af;subst a0;exact gf 1 _ (by rw[ad];rfl))
      have dt:=a4.hs x (by rw[ad];simp);have gm:y.size<=140737488355328:=dJ (a4.hs y (by rw[ad];simp)) J;have e9:x.data.toList.length<=1000000:=by rw[pz];exact dt
      have e1:((lT ws).isEmpty||Gj (lT ws))=l5 x.data.toList:=by rw[ad];rfl
      obtain⟨cy,d6,cp⟩:=aW (λ(E:l5 x.data.toList=true)=>aol (d:=d) ad E) e1 (Xr x.data.toList b5 e9 (cw.ext P.e).lw);rw[XD]at cp;clear eM e1 ad a1 g1 c8;generalize jL x.data.toList=b4 at*;generalize l5 x.data.toList=dC at*;go_wp2_with fail;refine cp.mono ?_;rintro e cb ⟨rfl,a0⟩;have a5:=O (P.ext a0);have f0:=a5.b2.cell' (i:=6) F;have f6:=a5.b2.frozen 6;clear a0 cp P k7 bx;go_upto_region 35 with fail;obtain⟨bt,bp⟩:=aF (setCell cb ⟨H,6,none⟩ (.int .i64 b4));rw[bp];have a3:=O (a5.rule (r':={co with nd:=b4}) (x':={BL d ws with nd:=b4}) (wy:=bt) J a9 a_ a' (by rw[<-bp];exact a5.b2.set 6 (.int .i64 b4)) (by rw[<-bp];exact dF.setCell _) (λs=>s.nd _));clear bp f0 f6 a5;cases dC with
      |false=>
       have eP:=O (show vg ws=false by rw[bc.out,d6.out]);go_wp2_with (first|(refine dA F 192 _ F F a3.b2 jk (aX.len _) ?_)|(refine aZ F _ _ _ F F F a3.b2 jk (aX.len _) (aX.len _) (xO _) ?_));intro u1 b9 u9;go_wp2_with fail;exact lI F F b9 jk (aX.len _) F (Db eP _ u1 (u9.ext a3.e J))
      |true=>
       have k7:=a3.b7.cell' (i:=0) (v:= .slice (some ⟨cA,cC,none⟩) 2 c5) (by rw[<-ei.out];rfl);have g6:=fs.out bt a3.e;have g0:=a3.b2.cell' (i:=7) F;have g3:=a3.b2.frozen 7;go_wp2_with fail;obtain⟨cR,cI⟩:=aF (setCell bt ⟨H,7,none⟩ (.string y));try rw[cI]
       have aw:=O (a3.rule (r':={co with nd:=b4,ow:=y}) (x':={BL d ws with nd:=b4,ow:=y}) (wy:=cR) J a9 a_ a' (by rw[<-cI];exact a3.b2.set 7 (.string y)) (by rw[<-cI];exact dF.setCell _) (λs=>s.ow _ gm));have c2:Hid (yt w B H G5 G6 G7 ws q {co with nd:=b4,ow:=y} (MC d ws) cR):=O {aw with st:=aw.st.to (by first|exact cy F|exact cy trivial)};clear cI;go_meet;exact⟨_,c2,d6⟩
     obtain⟨fi,eC,a7⟩:=hcut;have eP:=O (show vg ws=true by rw[bc.out,a7]);obtain⟨cb,ds⟩:=aF wc;have aw:Hid (yt w B H G5 G6 G7 ws q fi (MC d ws) cb):=O (by rw[<-ds];exact eC);rw[ds];clear P k7 ds eC a7 wc;go_wp2_with (first|(refine dA F 192 _ F F aw.b2 jk (aX.len _) ?_)|(refine aZ F _ _ _ F F F aw.b2 jk (aX.len _) (aX.len _) (xO _) ?_));intro u1 b9 u9;go_wp2_with fail;refine lI F F b9 jk (aX.len _) F ?_;rw[d7.out];have st:=aw.st.upd u9 (aQ _);have ex:aj w u1:=u9.ext aw.e J;refine⟨fi,by rw[eP.out];rfl,λ_=>⟨?_,st.ok ex,st.hi fw⟩,ex⟩;rw[st.q,<-aoj,ft.out]
end Go.Proofs.YtjlhhnkhcbpnjaaGreatDoor
