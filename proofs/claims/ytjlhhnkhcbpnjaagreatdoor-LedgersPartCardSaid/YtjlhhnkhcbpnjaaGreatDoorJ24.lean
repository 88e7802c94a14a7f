/- Laws that the row leans on; no condition. -/
import Derived.Test.YtjlhhnkhcbpnjaaGreatDoorJ21
import Derived.Test.YtjlhhnkhcbpnjaaGreatDoorJ23
namespace Go.Proofs.YtjlhhnkhcbpnjaaGreatDoor
open Go Go.RowKit List Tryz
set_option linter.unusedVariables false
set_option linter.unusedSectionVars false
set_option linter.unusedSimpArgs false
set_option maxHeartbeats 40000000
set_option maxRecDepth 100000
def CS(B:Nat)(j:aN)(E u:Nat)(rs:List aS):Prop:=(∀g,(Value.slice j E u).ownBlock=some g->B<=g)/\∀r∈rs,r.Hi B
theorem LU(B:Nat):CS B none 0 0 []:=⟨fun g h=>(by cases h),fun _ h=>(by cases h)⟩
theorem LV{B B':Nat}{a:aN}{n:Nat}(h:xP B a n)(hb:B'<=B):xP B' a n:=by
 rcases h with h|⟨A,ha,h⟩
 ·exact .inl h
 ·exact .inr ⟨A,ha,J⟩
theorem SY{B B':Nat}{r:aS}(h:r.Hi B)(hb:B'<=B):r.Hi B':=⟨LV h.r1 hb,LV h.r2 hb,LV h.r3 hb⟩
theorem S9(s:aj)(w:World)(cw:mJ w)(dT:s.length<=9223372036854775807):
 Calls prog 85 #[.string (aY s)] w fun e w'=>∃al an am rs,e= .returned (.tuple #[.agg #[.slice al an am],.int .i64 (wM s),.int .i64 (jH s)])/\lG w' al an am rs/\rs.map aS.bare=mM s/\X w w'/\CS w.heap.size al an am rs:=by
 obtain⟨bm,I,ce⟩:=aW cw Cj Ag;have d0:=o7 s;have cR:=O (show jH s=jH s from F);clear cw;obtain⟨dj,b7⟩:=jE (fun e w'=>∃al an am rs,e= .returned (.tuple #[.agg #[.slice al an am],.int .i64 (wM s),.int .i64 (jH s)])/\lG w' al an am rs/\rs.map aS.bare=mM s/\X w w'/\CS w.heap.size al an am rs:Ending->World->Prop);rw[<-b7];have a1:=O b7;clear b7 cR;go_enter func85,ntmps85;go_upto_region 1 with fail;generalize be:World.alloc w _=aq;have co:ah aq w.heap.size [.slice none 0 0] 152:=by rw[<-be];exact ah.aI F F
 have cp:X w aq:=by rw[<-be];exact(X.refl w).alloc _
 have cD:aq.heap.size=w.heap.size+1:=by rw[<-be,rQ]
 obtain⟨bj,bk,bu⟩:=aW co cp cD;clear be co cp cD;by_cases ba:65536<s.length
 ·have a8:decide ((65536:Int)<(s.length:Int))=true:=aQ J;have b0:decide (65536<s.length)=true:=aQ J;have bl:=O (RI ba);clear ba;go_wp2_with (refine bg F _ _ _ F F F bj I F (xs:=[.slice none 0 0]) F (fun v j=>by simp at j;rw[j];rfl) ?_);intro aa a6 dg;go_wp2_with fail;refine F8 F F a6 I F F ?_;rw[a1.out];refine⟨none,0,0,[],?_,Lc _,?_,dg.ext bk bG,LU _⟩
  ·rw[bl.1,bl.2.1];rfl
  ·rw[bl.2.2];rfl
 have a8:decide ((65536:Int)<(s.length:Int))=false:=aP J;have b0:decide (65536<s.length)=false:=aP J;have c3:s.length<=65536:=J;have cf:=O ba;clear ba;go_upto_region 3 with fail;go_upto_region 4 with fail;obtain⟨aa,aE⟩:=aC (World.alloc aq (.cells #[.slice none 0 0] 152));rw[aE];have a6:ah aa aq.heap.size [.slice none 0 0] 152:=by rw[<-aE];exact ah.aI F F
 have u:X aq aa:=by rw[<-aE];exact(X.refl aq).alloc _
 obtain⟨bi,B2,ae⟩:=aW a6 (bj.ext u) (bk.ext u);have cC:aa.heap.size=w.heap.size+2:=by rw[<-aE,rQ,bu.out]
 have ck:=O cC;rw[bu.out]at bi⊢;clear a6 aE u bj bk cC a8 b0;go_wp2_with fail;refine(ZK s 10 aa J (bm.ext ae).lw.ml).mono ?_;rintro e w2 ⟨rfl,bz,e2⟩;obtain⟨N,b6⟩:=aC ((kH 10 s).length);have ds:N<=65537:=by have:=RF 10 s;omega
 have c2:aa.heap.size<w2.heap.size:=bz.lt;obtain⟨G2,b3⟩:=aC w.heap.size;obtain⟨G5,b4⟩:=aC (w.heap.size+1);obtain⟨g0,b8⟩:=aC aa.heap.size;have bx:sV w G2 G5 g0 w2.heap.size s 0 none 0 [] w2:=by
  rw[<-b3,<-b4,<-b8];exact⟨ae.ext e2,B2.ext e2,bi.ext e2,bz,⟨F,.inl ⟨F,F⟩⟩,F,(fun _ h=>by cases h),(fun _ h=>by cases h),(fun _ h=>by cases h),(fun _ h=>by simp at h),Nat.le_refl _⟩
 have cq:w.heap.size<=G2/\G2≠G5/\w.heap.size<=G5/\g0≠G5/\G5<w2.heap.size/\G2<w2.heap.size/\g0<w2.heap.size/\w.heap.size<=w2.heap.size:=by
  have:=ck.out;omega
 obtain⟨ab,ch⟩:=aB cq b6;rw[b6,b4,b3,b8];obtain⟨a0,b2⟩:=aC w2.heap.size;rw[b2]at bx ab;have cL:=O b2;clear bz e2 b6 b4 b3 b8 B2 bi ae ck bu c2 cq b2;go_wp2_with fail;go_loopw [19] (fun i wr=>∃(k:Nat) (a:aN) (c:Nat) (rs:List aS),k<=N/\i= .int .i64 (k:Int)/\sV w G2 G5 g0 a0 s k a c rs wr/\a0<=wr.heap.size) (fun i _=>N - (intOf i).toNat)
 case atStart=>exact⟨0,none,0,[],J,F,bx,by rw[cL.out];exact Nat.le_refl _⟩
 case round=>
  obtain⟨k,a,c,rs,hk,rfl,b5,dr⟩:=hrel;have R:=O b5;have cP:Hid (∀g,(Value.slice a rs.length c).ownBlock=some g->g<wr.heap.size):=O (fun g ad=>(b5.own.lt g ad).2);clear b5 bx;by_cases cy:k<N
  ·have a8:decide ((k:Int)<(N:Int))=true:=aQ J;have b0:decide (k<N)=true:=aQ cy;obtain⟨l,bd⟩:∃l,(kH 10 s)[k]? =some l:=⟨(kH 10 s)[k]'(by rw[ch.out];exact cy),aF⟩;have dt:l.length<=65536:=Nat.le_trans (RG 10 s l (mem_of_getElem? bd)) c3;have cW:=R.ln.cell' (i:=k) (v:= .string (aY l)) (by rw[List.getElem?_map,List.getElem?_map,bd];rfl);have bo:=O (ZW bd);have c1:=(RD l [35]).1;clear bd;go_wp2_with fail;refine(Rq l [35] wr J (bm.ext R.e).lw.ml).mono ?_;rintro e ap ⟨rfl,u⟩;have ae:=O u;clear u cW;go_wp2_with fail;refine(aaL (Lib.cut l [35]).1 ap J).mono ?_;rintro e cc ⟨g1,rfl,bN,a9⟩;have dv:=a9.size;have a5:=O (R.ext (ae.ext a9));have c5:=ae.size;have dy:=(ae.ext a9).size;have cb:gK cc ap.heap.size (some ⟨g1,0,none⟩) (vC (Lib.cut l [35]).1).length (vC (Lib.cut l [35]).1).length (bB l):=bN;clear bN a9 ae R c1;have c7:ap.heap.size<=cc.heap.size:=J;generalize (vC (Lib.cut l [35]).1).length=m at*;have bh:=cb.hl;have bv:=O cb;clear cb;by_cases ar:m=0
   ·have cU:=O (length_eq_zero_iff.1 (bh.trans ar));subst ar;clear bh bv;go_wp2_with fail;go_roundw
    case rel=>exact⟨k+1,a,c,rs,J,by go_num,a5.skip bo cU,J⟩
    case measure=>simp[intOf];omega
   have cX:((m:Int)==0)=false:=by simp;exact ar
   have cY:decide ((m:Int)=0)=false:=aP J;have c0:decide (m=0)=false:=aP ar;have bw:Hid (bB l≠[]):=O (fun e=>ar (by rw[<-bh,e];rfl));clear bh;go_wp2_with fail;refine(aaX ap.heap.size (some ⟨g1,0,none⟩) m m (bB l) cc bv bw (bm.ext a5.e) c7).mono ?_;rintro e cd ⟨r,rfl,ai,b1⟩;have cm:=O (a5.ext b1);have dC:=b1.size;have a3:=O ai;obtain⟨b,hb⟩:=aC (aR (bB l));have cg:=O hb;rw[hb]at a3⊢;clear hb ai b1 a5 bv ar cX cY c0;obtain⟨a4,cj⟩:=aB (aS.len r) (nD r);go_wp2_with (refine bg F _ _ _ F F F (ah.aI (vs:=BX) F F) ce F (xs:=r.v) a4 cj ?_);intro di cn cE;have a_:X cd di:=cE.ext ((X.refl cd).alloc _) bG;obtain⟨ac,cI,cJ⟩:=aW (cm.ext a_) cn a_;have dE:=a_.size;clear cn cE a_ cm;cases b with
   |false=>
    have cs:uD (lU s)=some k:=Zw bo ac.good (by
     unfold Ak;rw[cg.out,Bool.or_false];cases c4:bB l with
     |nil=>exact absurd c4 bw
     |cons y z=>rfl)
    have bp:=O (RJ cf cs);clear cs;go_wp2_with (refine bg F _ _ _ F F F ac.b2 I F (xs:=[.slice none 0 0]) F (fun v j=>by simp at j;rw[j];rfl) ?_);intro cF ax ao;go_wp2_with fail;refine F8 F F ax I F F ?_;rw[a1.out];refine⟨none,0,0,[],?_,Lc _,?_,ao.ext ac.e ab.1,LU _⟩
    ·rw[bp.1,bp.2.1];rfl
    ·rw[bp.2.2];rfl
   |true=>
    have cA:r.bare=Aj (bB l)/\r.Ok cd/\r.Hi ap.heap.size:=by first|exact a3 F|exact a3 trivial
    have bt:=O cA;have cV:=ac.b5.cell' (i:=0) F;have cl:=O ZR;have du:=ac.cnt;clear cA a3;go_wp2_with (first|(refine bV F 192 _ F F cI ce a4 ?_)|(refine Cc cl aX F F F a4 ?_)|(refine qB (n:=rs.length) (m:=1) (c:=1) (xs:=uw rs) (news:=r.v) cl F _ _ F a0 F F (uF ac.own ((X.refl _).alloc _)) a4 bG (fun h=>by cases h) (aK.eG (ah.aI F F)) cj J J (by rw[rQ];omega) ?_));intro d1 cG b' bc cz;obtain⟨a',c',rfl,_,_,_⟩:=iJ b';obtain⟨cQ,cM,cN⟩:=aW b' bc cz;have cv:∀g,(Value.slice a rs.length c).ownBlock=some g->a0<=g:=fun g ad=>(ac.own.lt g ad).1;have a7:ah cG G5 [.slice a rs.length c] 152:=(ac.b5.alloc _).grown bc (fun e=>by
     have dp:=cv G5 e.symm;have dq:=ab.out;omega)
    have c6:=bc.size;rw[rQ]at c6;have cH:=O a7;have dk:=a7.cell' (i:=0) F;have dm:=a7.frozen 0;clear b' bc cz cv a7 cV;go_wp2_with fail;go_roundw
    case rel=>
     refine⟨k+1,a',c',rs++[r],J,by go_num,?_,by rw[(aU.setCell (w:=cG) (g:=G5) (i:=0) _).size];omega⟩;obtain⟨c9,c_,da,db,dc,dd,de,df⟩:=ab.out;exact(ac.ext ((X.refl _).alloc _)).push bo bw cg c9 c_ da db dc dd de df (g1:=ap.heap.size) bt.1 ((bt.2.1.ext cJ).ext ((X.refl _).alloc _)) bt.2.2 J (fun g ad=>Nat.lt_of_lt_of_le (cP g ad) c5) cQ cM (by rw[rQ];exact cN) (aU.setCell _) (cH.set 0 _)
    case measure=>simp[intOf];omega
  ·obtain rfl:k=N:=J;have a8:decide ((k:Int)<(k:Int))=false:=aP J;have cr:(lU s).take k=lU s:=take_of_length_le (by rw[ZX,ch.out];exact Nat.le_refl _);have az:=R.ru;have b9:=R.good;rw[cr]at az b9;have ca:=RN cf (Zv b9);have cx:(wK (lU s)).length=rs.length:=by rw[<-az,length_map]
   rw[cx,KW az]at ca;obtain⟨cT,aw,br⟩:=aW az ca (R.pol J);clear cr az b9 ca cx;have ct:=O (fun aa (h:lG aa a rs.length c rs)=>QV a rs.length c rs aa h);go_wp2_with (refine bV F 152 _ F F R.b5 I F ?_);refine(ct wr br).mono ?_;rintro e ap ⟨rfl,u⟩;obtain⟨af,ci⟩:=aB (R.ext u) (br.ext u);clear u ct R br;by_cases ag:jG rs rs.length=0
   ·have a2:=O (show jH s=0 from aw.1.trans ag);have c8:(jG rs rs.length != 0)=false:=by simp[ag]
    have n2:decide (jG rs rs.length=0)=true:=aQ ag;generalize jG rs rs.length=E at*;subst ag;go_wp2_with (first|(refine bV F 152 _ F F af.b5 I F ?_)|(refine bg F _ _ _ F F F af.b2 I F (xs:=[.slice a rs.length c]) F (fun v j=>by simp at j;rw[j];rfl) ?_));intro cF ax ao;go_wp2_with fail;refine F8 F F ax I F F ?_;rw[a1.out];refine⟨a,rs.length,c,rs,?_,?_,?_,ao.ext af.e ab.1,fun g ad=>Nat.le_trans (by have:=ab.out;omega) (af.own.lt g ad).1,fun r ai=>SY (af.hi r ai) (by have:=ab.out;omega)⟩
    ·rw[a2.out,aw.2];rfl
    ·have p:=af.out;have q:=ab.out;refine⟨F,ci.hnc,ci.hm,?_,fun r ai=>(p.ok r ai).yQ ((p.hi r ai).off (q:=some G2) (fun g e=>by injection e with e;omega)) (qC ao)⟩;obtain⟨_,_,j,_,_,hc⟩:=iJ (um p.own (qC ao) (fun g ad e=>by
      injection e with e;have:=(p.own.lt g ad).1;omega))
     injection j with u e2 dl;rw[u];exact hc
    ·unfold mM;rw[if_pos a2.out];exact cT
   ·have a2:=O (show jH s≠0 from fun e=>ag (aw.1.symm.trans e));have c8:(jG rs rs.length != 0)=true:=by simp[ag]
    have n2:decide (jG rs rs.length=0)=false:=aP ag;have cS:=O aw.1;generalize jG rs rs.length=E at*;clear ag;go_wp2_with (refine bg F _ _ _ F F F af.b2 I F (xs:=[.slice none 0 0]) F (fun v j=>by simp at j;rw[j];rfl) ?_);intro cF ax ao;go_wp2_with fail;refine F8 F F ax I F F ?_;rw[a1.out];refine⟨none,0,0,[],?_,Lc _,?_,ao.ext af.e ab.1,LU _⟩
    ·rw[cS.out,aw.2];rfl
    ·unfold mM;rw[if_neg a2.out];rfl
theorem S_(s:aj)(w:World)(ac:mJ w)(ad:s.length<=9223372036854775807):
 Calls prog 85 #[.string (aY s)] w fun e w'=>∃j E u rs,e= .returned (.tuple #[.agg #[.slice j E u],.int .i64 (wM s),.int .i64 (jH s)])/\lG w' j E u rs/\rs.map aS.bare=mM s/\X w w':=
 (S9 s w ac ad).mono fun e w' ⟨j,E,u,rs,I,R,aa,ab,_⟩=>⟨j,E,u,rs,I,R,aa,ab⟩
theorem Tc(I:aN)(j R:Nat)(rs:List aS)(w:World)(bt:lG w I j R rs)(br:mJ w):
 Calls prog 123 #[.agg #[.slice I j R]] w fun e w'=>e= .returned (.tuple #[.string (aY (lI rs j)),.int .i64 (lH rs j)])/\X w w':=by
 obtain⟨af,bd,ae⟩:=aW bt br Cj;obtain⟨cf,a0⟩:=jE (fun e w'=>e= .returned (.tuple #[.string (aY (lI rs j)),.int .i64 (lH rs j)])/\X w w':Ending->World->Prop);rw[<-a0];obtain⟨al,bo⟩:=aB a0 (fun aa (h:lG aa I j R rs)=>QV I j R rs aa h);clear a0 bt br;go_enter func123,ntmps123;go_upto_region 1 with fail;generalize a2:World.alloc w _=a4;have bj:ah a4 w.heap.size [.slice I j R] 152:=by rw[<-a2];exact ah.aI F F
 have bl:X w a4:=by rw[<-a2];exact(X.refl w).alloc _
 obtain⟨an,ap⟩:=aB bj bl;clear a2 bj bl;go_wp2_with (refine bV F 152 _ F F an ae F ?_);refine(bo a4 (af.ext ap)).mono ?_;rintro e cd ⟨rfl,ax⟩;obtain⟨ao,ad⟩:=aB (an.ext ax) (ap.ext ax);clear ax an ap bo;by_cases ab:jG rs j≠0
 ·have u:=O (Sv ab);have cb:(jG rs j != 0)=true:=by simp;exact ab
  have n2:decide (jG rs j=0)=false:=aP ab;generalize jG rs j=E at*;clear ab;go_wp2_with fail
  (try go_ret2)
  rw[al.out];exact⟨by rw[u.1,u.2];rfl,ad⟩
 have ag:jG rs j=0:=Classical.not_not.1 ab;have ai:=aai ag;obtain⟨bc,aw⟩:=aB (fun h=>aah (rs:=rs) ag h) (fun h=>Sz (rs:=rs) ag h);rw[ag];have b':=Sr (W:=w) (fun r b9=>af.ok r b9) ai.2;have bz:rs.length<=100:=by rw[af.hl];exact ai.1
 have ca:(iR rs).length<=400100:=by
  have:rs.length*4001<=100*4001:=Nat.mul_le_mul_right _ bz;omega
 obtain⟨b0,bu⟩:=aB (fun aa (h:lG aa I j R rs) b8=>aaJ I j R rs aa h ai.2 ai.1 b8) (fun aa h=>S_ (iR rs) aa h J);clear ab ag ai b' bz ca;go_wp2_with (refine bV F 152 _ F F ao ae F ?_);refine(b0 cd (af.ext ad) (bd.ext ad)).mono ?_;rintro e ce ⟨rfl,az⟩;obtain⟨a6,aq⟩:=aB (ao.ext az) (ad.ext az);clear az ao ad b0;generalize iR rs=S at*;go_wp2_with fail;refine(bu ce (bd.ext aq)).mono ?_;rintro e a5 ⟨b2,b4,b3,a3,rfl,bw,bx,aE⟩;obtain⟨be,bi,a7,a_⟩:=bU bw (show jY rs (mM S)=jY rs a3 by rw[<-bx,Si]) (a6.ext aE) (aq.ext aE);clear bw bx aE a6 aq bu;go_wp2_with (refine bg F _ _ _ F F F (ah.aI (vs:=[.slice none 0 0]) F F) ae F (xs:=[.slice b2 b4 b3]) F (fun v b1=>by simp at b1;rw[b1];rfl) ?_);intro b6 bk b5;have am:X a5 b6:=b5.ext ((X.refl a5).alloc _) bG;obtain⟨a8,a9,ar,b7⟩:=bU bk (a7.ext am) (a_.ext am) (be.ext am);clear bk b5 am a7 a_ be;generalize a5.heap.size=G6 at*;by_cases ac:jH S≠0
 ·have u:=O (aw (fun h=>ac h.1));have cb:(jH S != 0)=true:=by simp;exact ac
  have n2:decide (jH S=0)=false:=aP ac;generalize jH S=E at*;clear ac;go_wp2_with fail
  (try go_ret2)
  rw[al.out];exact⟨by rw[u.1,u.2];rfl,ar⟩
 have bv:jH S=0:=Classical.not_not.1 ac;rw[bv]at bc aw⊢;have cg:=a9.cell' (i:=0) F;have ch:=a8.cell' (i:=0) F;have bp:=O (aaf I j R rs b2 b4 b3 a3 b6 (af.ext ar) b7);clear ac bv;go_wp2_with (first|(refine O6 F 152 (.tmp 1) F F a9 ae F ?_)|(refine O6 F 152 (.tmp 6) F F a8 ae F ?_));refine bp.mono ?_;rintro e ci ⟨rfl,bm⟩;have ba:=O (ar.ext bm);clear bm bp;obtain⟨cc,a1⟩:=aC (jY rs a3);have bh:=O a1;rw[a1];clear a1;cases cc with
 |false=>
  have u:=O (aw (fun h=>by have:=h.2;rw[bi.out,bh.out]at this;cases this));go_wp2_with fail
  (try go_ret2)
  rw[al.out];exact⟨by rw[u.1,u.2];rfl,ba⟩
 |true=>
  have u:=O (bc ⟨by first|rfl|trivial,by rw[bi.out,bh.out]⟩);go_wp2_with fail
  (try go_ret2)
  rw[al.out];exact⟨by rw[u.1,u.2];rfl,ba⟩
end Go.Proofs.YtjlhhnkhcbpnjaaGreatDoor
