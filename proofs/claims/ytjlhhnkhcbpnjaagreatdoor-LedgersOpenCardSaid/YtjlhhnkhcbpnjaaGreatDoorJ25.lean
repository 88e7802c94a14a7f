/- Laws that the row leans on; no condition. -/
import Derived.Test.YtjlhhnkhcbpnjaaGreatDoorJ22
import Derived.Test.YtjlhhnkhcbpnjaaGreatDoorJ24
namespace Go.Proofs.YtjlhhnkhcbpnjaaGreatDoor
open Go Go.RowKit List Tryz
set_option linter.unusedVariables false
set_option linter.unusedSimpArgs false
set_option maxHeartbeats 40000000
set_option maxRecDepth 100000
def CS(B:Nat)(j:aN)(E u:Nat)(rs:List aS):Prop:=(∀g,(Value.slice j E u).ownBlock=some g->B<=g)/\∀r∈rs,r.Hi B
theorem LU(B:Nat):CS B none 0 0 []:=⟨fun g h=>(by cases h),fun _ h=>(by cases h)⟩
theorem LV{B B':Nat}{a:aN}{n:Nat}(h:xP B a n)(hb:B'<=B):xP B' a n:=by
 rcases h with h|⟨A,ha,h⟩
 ·exact .inl h
 ·exact .inr ⟨A,ha,J⟩
theorem SY{B B':Nat}{r:aS}(h:r.Hi B)(hb:B'<=B):r.Hi B':=⟨LV h.r1 hb,LV h.r2 hb,LV h.r3 hb⟩
theorem S9(s:aj)(w:World)(cg:mJ w)(df:s.length<=9223372036854775807):
 Calls prog 85 #[.string (aY s)] w fun e w'=>∃al an am rs,e= .returned (.tuple #[.agg #[.slice al an am],.int .i64 (wM s),.int .i64 (jH s)])/\lG w' al an am rs/\rs.map aS.bare=mM s/\X w w'/\CS w.heap.size al an am rs:=by
 obtain⟨bh,I,b0⟩:=aW cg Cj Ag;have dg:=o7 s;have cz:=O (show jH s=jH s from F);clear cg;obtain⟨c2,bB⟩:=jE (fun e w'=>∃al an am rs,e= .returned (.tuple #[.agg #[.slice al an am],.int .i64 (wM s),.int .i64 (jH s)])/\lG w' al an am rs/\rs.map aS.bare=mM s/\X w w'/\CS w.heap.size al an am rs:Ending->World->Prop);rw[<-bB];have aE:=O bB;clear bB cz;go_enter func85,ntmps85;go_upto_region 1 with fail;generalize a9:World.alloc w _=aq;have b':ah aq w.heap.size [.slice none 0 0] 152:=by rw[<-a9];exact ah.aI F F
 have ca:X w aq:=by rw[<-a9];exact(X.refl w).alloc _
 have cm:aq.heap.size=w.heap.size+1:=by rw[<-a9,rQ]
 obtain⟨bc,bd,bm⟩:=aW b' ca cm;clear a9 b' ca cm;by_cases a6:65536<s.length
 ·have a3:decide ((65536:Int)<(s.length:Int))=true:=aQ J;have bt:decide (65536<s.length)=true:=aQ J;have be:=O (RI a6);clear a6;go_wp2_with (refine bg F _ _ _ F F F bc I F (xs:=[.slice none 0 0]) F (fun v j=>by simp at j;rw[j];rfl) ?_);intro aa a1 c0;go_wp2_with fail;refine F8 F F a1 I F F ?_;rw[aE.out];refine⟨none,0,0,[],?_,Lc _,?_,c0.ext bd bG,LU _⟩
  ·rw[be.1,be.2.1];rfl
  ·rw[be.2.2];rfl
 have a3:decide ((65536:Int)<(s.length:Int))=false:=aP J;have bt:decide (65536<s.length)=false:=aP J;have cK:s.length<=65536:=J;have b1:=O a6;clear a6;go_upto_region 3 with fail;go_upto_region 4 with fail;obtain⟨aa,az⟩:=aC (World.alloc aq (.cells #[.slice none 0 0] 152));rw[az];have a1:ah aa aq.heap.size [.slice none 0 0] 152:=by rw[<-az];exact ah.aI F F
 have u:X aq aa:=by rw[<-az];exact(X.refl aq).alloc _
 obtain⟨ba,B2,ae⟩:=aW a1 (bc.ext u) (bd.ext u);have cl:aa.heap.size=w.heap.size+2:=by rw[<-az,rQ,bm.out]
 have b6:=O cl;rw[bm.out]at ba⊢;clear a1 az u bc bd cl a3 bt;go_wp2_with fail;refine(ZK s 10 aa J (bh.ext ae).lw.ml).mono ?_;rintro e w2 ⟨rfl,br,e2⟩;obtain⟨N,bA⟩:=aC ((kH 10 s).length);have c9:N<=65537:=by have:=RF 10 s;omega
 have cJ:aa.heap.size<w2.heap.size:=br.lt;obtain⟨G2,bw⟩:=aC w.heap.size;obtain⟨G5,bx⟩:=aC (w.heap.size+1);obtain⟨g0,bE⟩:=aC aa.heap.size;have bq:sV w G2 G5 g0 w2.heap.size s 0 none 0 [] w2:=by
  rw[<-bw,<-bx,<-bE];exact⟨ae.ext e2,B2.ext e2,ba.ext e2,br,⟨F,.inl ⟨F,F⟩⟩,F,(fun _ h=>by cases h),(fun _ h=>by cases h),(fun _ h=>by cases h),(fun _ h=>by simp at h),Nat.le_refl _⟩
 have cb:w.heap.size<=G2/\G2≠G5/\w.heap.size<=G5/\g0≠G5/\G5<w2.heap.size/\G2<w2.heap.size/\g0<w2.heap.size/\w.heap.size<=w2.heap.size:=by
  have:=b6.out;omega
 obtain⟨ab,b3⟩:=aB cb bA;rw[bA,bx,bw,bE];obtain⟨aD,bv⟩:=aC w2.heap.size;rw[bv]at bq ab;have ct:=O bv;clear br e2 bA bx bw bE B2 ba ae b6 bm cJ cb bv;go_wp2_with fail;go_loopw [19] (fun i wr=>∃(k:Nat) (a:aN) (c:Nat) (rs:List aS),k<=N/\i= .int .i64 (k:Int)/\sV w G2 G5 g0 aD s k a c rs wr/\aD<=wr.heap.size) (fun i _=>N - (intOf i).toNat)
 case atStart=>exact⟨0,none,0,[],J,F,bq,by rw[ct.out];exact Nat.le_refl _⟩
 case round=>
  obtain⟨k,a,c,rs,hk,rfl,bz,c8⟩:=hrel;have R:=O bz;have cx:Hid (∀g,(Value.slice a rs.length c).ownBlock=some g->g<wr.heap.size):=O (fun g ad=>(bz.own.lt g ad).2);clear bz bq;by_cases ci:k<N
  ·have a3:decide ((k:Int)<(N:Int))=true:=aQ J;have bt:decide (k<N)=true:=aQ ci;obtain⟨l,a8⟩:∃l,(kH 10 s)[k]? =some l:=⟨(kH 10 s)[k]'(by rw[b3.out];exact ci),aF⟩;have c_:l.length<=65536:=Nat.le_trans (RG 10 s l (mem_of_getElem? a8)) cK;have cE:=R.ln.cell' (i:=k) (v:= .string (aY l)) (by rw[List.getElem?_map,List.getElem?_map,a8];rfl);have bi:=O (ZW a8);have cI:=(RD l [35]).1;clear a8;go_wp2_with fail;refine(Rq l [35] wr J (bh.ext R.e).lw.ml).mono ?_;rintro e ap ⟨rfl,u⟩;have ae:=O u;clear u cE;go_wp2_with fail;refine(aaL (Lib.cut l [35]).1 ap J).mono ?_;rintro e bS ⟨g1,rfl,hw0,a4⟩;have db:=a4.size;have a0:=O (R.ext (ae.ext a4));have cM:=ae.size;have dc:=(ae.ext a4).size;have bR:gK bS ap.heap.size (some ⟨g1,0,none⟩) (vC (Lib.cut l [35]).1).length (vC (Lib.cut l [35]).1).length (zh l):=hw0;clear hw0 a4 ae R cI;have cP:ap.heap.size<=bS.heap.size:=J;generalize (vC (Lib.cut l [35]).1).length=m at*;have a_:=bR.hl;have bo:=O bR;clear bR;by_cases ar:m=0
   ·have cC:=O (length_eq_zero_iff.1 (a_.trans ar));subst ar;clear a_ bo;go_wp2_with fail;go_roundw
    case rel=>exact⟨k+1,a,c,rs,J,by go_num,a0.skip bi cC,J⟩
    case measure=>simp[intOf];omega
   have cF:((m:Int)==0)=false:=by simp;exact ar
   have cG:decide ((m:Int)=0)=false:=aP J;have cH:decide (m=0)=false:=aP ar;have bp:Hid (zh l≠[]):=O (fun e=>ar (by rw[<-a_,e];rfl));clear a_;go_wp2_with fail;refine(aaX ap.heap.size (some ⟨g1,0,none⟩) m m (zh l) bS bo bp (bh.ext a0.e) cP).mono ?_;rintro e bX ⟨r,rfl,ai,bu⟩;have b8:=O (a0.ext bu);have dd:=bu.size;have aM:=O ai;obtain⟨b,hb⟩:=aC (ou (zh l));have b2:=O hb;rw[hb]at aM⊢;clear hb ai bu a0 bo ar cF cG cH;obtain⟨aR,b5⟩:=aB (aS.len r) (nD r);go_wp2_with (refine bg F _ _ _ F F F (ah.aI (vs:=BX) F F) b0 F (xs:=r.v) aR b5 ?_);intro c1 b9 cn;have a5:X bX c1:=cn.ext ((X.refl bX).alloc _) bG;obtain⟨ac,cr,cs⟩:=aW (b8.ext a5) b9 a5;have de:=a5.size;clear b9 cn a5 b8;cases b with
   |false=>
    have cd:uD (lU s)=some k:=Zw bi ac.good (by
     unfold Ak;rw[b2.out,Bool.or_false];cases cL:zh l with
     |nil=>exact absurd cL bp
     |cons y z=>rfl)
    have bj:=O (RJ b1 cd);clear cd;go_wp2_with (refine bg F _ _ _ F F F ac.b2 I F (xs:=[.slice none 0 0]) F (fun v j=>by simp at j;rw[j];rfl) ?_);intro co aw ao;go_wp2_with fail;refine F8 F F aw I F F ?_;rw[aE.out];refine⟨none,0,0,[],?_,Lc _,?_,ao.ext ac.e ab.1,LU _⟩
    ·rw[bj.1,bj.2.1];rfl
    ·rw[bj.2.2];rfl
   |true=>
    have ck:r.bare=Aj (zh l)/\r.Ok bX/\r.Hi ap.heap.size:=by first|exact aM F|exact aM trivial
    have bl:=O ck;have cD:=ac.b5.cell' (i:=0) F;have b7:=O ZR;have da:=ac.cnt;clear ck aM;go_wp2_with (first|(refine bV F 192 _ F F cr b0 aR ?_)|(refine Cc b7 aX F F F aR ?_)|(refine qB (n:=rs.length) (m:=1) (c:=1) (xs:=uw rs) (news:=r.v) b7 F _ _ F aD F F (uF ac.own ((X.refl _).alloc _)) aR bG (fun h=>by cases h) (aK.eG (ah.aI F F)) b5 J J (by rw[rQ];omega) ?_));intro di cp bN a7 cj;obtain⟨a',c',rfl,_,_,_⟩:=iJ bN;obtain⟨cy,cv,cw⟩:=aW bN a7 cj;have cf:∀g,(Value.slice a rs.length c).ownBlock=some g->aD<=g:=fun g ad=>(ac.own.lt g ad).1;have a2:ah cp G5 [.slice a rs.length c] 152:=(ac.b5.alloc _).grown a7 (fun e=>by
     have c6:=cf G5 e.symm;have c7:=ab.out;omega)
    have cN:=a7.size;rw[rQ]at cN;have cq:=O a2;have c3:=a2.cell' (i:=0) F;have c5:=a2.frozen 0;clear bN a7 cj cf a2 cD;go_wp2_with fail;go_roundw
    case rel=>
     refine⟨k+1,a',c',rs++[r],J,by go_num,?_,by rw[(aU.setCell (w:=cp) (g:=G5) (i:=0) _).size];omega⟩;obtain⟨cR,cS,cT,cU,cV,cW,cX,cY⟩:=ab.out;exact(ac.ext ((X.refl _).alloc _)).push bi bp b2 cR cS cT cU cV cW cX cY (g1:=ap.heap.size) bl.1 ((bl.2.1.ext cs).ext ((X.refl _).alloc _)) bl.2.2 J (fun g ad=>Nat.lt_of_lt_of_le (cx g ad) cM) cy cv (by rw[rQ];exact cw) (aU.setCell _) (cq.set 0 _)
    case measure=>simp[intOf];omega
  ·obtain rfl:k=N:=J;have a3:decide ((k:Int)<(k:Int))=false:=aP J;have cc:(lU s).take k=lU s:=take_of_length_le (by rw[ZX,b3.out];exact Nat.le_refl _);have ax:=R.ru;have bL:=R.good;rw[cc]at ax bL;have bO:=RN b1 (Zv bL);have ch:(wK (lU s)).length=rs.length:=by rw[<-ax,length_map]
   rw[ch,KW ax]at bO;obtain⟨cB,av,bk⟩:=aW ax bO (R.pol J);clear cc ax bL bO ch;have ce:=O (fun aa (h:lG aa a rs.length c rs)=>QV a rs.length c rs aa h);go_wp2_with (refine bV F 152 _ F F R.b5 I F ?_);refine(ce wr bk).mono ?_;rintro e ap ⟨rfl,u⟩;obtain⟨af,b4⟩:=aB (R.ext u) (bk.ext u);clear u ce R bk;by_cases ag:jG rs rs.length=0
   ·have aL:=O (show jH s=0 from av.1.trans ag);have cQ:(jG rs rs.length != 0)=false:=by simp[ag]
    have n2:decide (jG rs rs.length=0)=true:=aQ ag;generalize jG rs rs.length=E at*;subst ag;go_wp2_with (first|(refine bV F 152 _ F F af.b5 I F ?_)|(refine bg F _ _ _ F F F af.b2 I F (xs:=[.slice a rs.length c]) F (fun v j=>by simp at j;rw[j];rfl) ?_));intro co aw ao;go_wp2_with fail;refine F8 F F aw I F F ?_;rw[aE.out];refine⟨a,rs.length,c,rs,?_,?_,?_,ao.ext af.e ab.1,fun g ad=>Nat.le_trans (by have:=ab.out;omega) (af.own.lt g ad).1,fun r ai=>SY (af.hi r ai) (by have:=ab.out;omega)⟩
    ·rw[aL.out,av.2];rfl
    ·have p:=af.out;have q:=ab.out;refine⟨F,b4.hnc,b4.hm,?_,fun r ai=>(p.ok r ai).yQ ((p.hi r ai).off (q:=some G2) (fun g e=>by injection e with e;omega)) (qC ao)⟩;obtain⟨_,_,j,_,_,hc⟩:=iJ (um p.own (qC ao) (fun g ad e=>by
      injection e with e;have:=(p.own.lt g ad).1;omega))
     injection j with u e2 c4;rw[u];exact hc
    ·unfold mM;rw[if_pos aL.out];exact cB
   ·have aL:=O (show jH s≠0 from fun e=>ag (av.1.symm.trans e));have cQ:(jG rs rs.length != 0)=true:=by simp[ag]
    have n2:decide (jG rs rs.length=0)=false:=aP ag;have cA:=O av.1;generalize jG rs rs.length=E at*;clear ag;go_wp2_with (refine bg F _ _ _ F F F af.b2 I F (xs:=[.slice none 0 0]) F (fun v j=>by simp at j;rw[j];rfl) ?_);intro co aw ao;go_wp2_with fail;refine F8 F F aw I F F ?_;rw[aE.out];refine⟨none,0,0,[],?_,Lc _,?_,ao.ext af.e ab.1,LU _⟩
    ·rw[cA.out,av.2];rfl
    ·unfold mM;rw[if_neg aL.out];rfl
theorem S_(s:aj)(w:World)(ac:mJ w)(ad:s.length<=9223372036854775807):
 Calls prog 85 #[.string (aY s)] w fun e w'=>∃j E u rs,e= .returned (.tuple #[.agg #[.slice j E u],.int .i64 (wM s),.int .i64 (jH s)])/\lG w' j E u rs/\rs.map aS.bare=mM s/\X w w':=
 (S9 s w ac ad).mono fun e w' ⟨j,E,u,rs,I,R,aa,ab,_⟩=>⟨j,E,u,rs,I,R,aa,ab⟩
theorem Tc(I:aN)(j R:Nat)(rs:List aS)(w:World)(bl:lG w I j R rs)(bk:mJ w):
 Calls prog 123 #[.agg #[.slice I j R]] w fun e w'=>e= .returned (.tuple #[.string (aY (lI rs j)),.int .i64 (lH rs j)])/\X w w':=by
 obtain⟨af,a8,ae⟩:=aW bl bk Cj;obtain⟨b1,aD⟩:=jE (fun e w'=>e= .returned (.tuple #[.string (aY (lI rs j)),.int .i64 (lH rs j)])/\X w w':Ending->World->Prop);rw[<-aD];obtain⟨al,bi⟩:=aB aD (fun aa (h:lG aa I j R rs)=>QV I j R rs aa h);clear aD bl bk;go_enter func123,ntmps123;go_upto_region 1 with fail;generalize aL:World.alloc w _=aR;have bc:ah aR w.heap.size [.slice I j R] 152:=by rw[<-aL];exact ah.aI F F
 have be:X w aR:=by rw[<-aL];exact(X.refl w).alloc _
 obtain⟨an,ap⟩:=aB bc be;clear aL bc be;go_wp2_with (refine bV F 152 _ F F an ae F ?_);refine(bi aR (af.ext ap)).mono ?_;rintro e bX ⟨rfl,aw⟩;obtain⟨ao,ad⟩:=aB (an.ext aw) (ap.ext aw);clear aw an ap bi;by_cases ab:jG rs j≠0
 ·have u:=O (Sv ab);have bR:(jG rs j != 0)=true:=by simp;exact ab
  have n2:decide (jG rs j=0)=false:=aP ab;generalize jG rs j=E at*;clear ab;go_wp2_with fail
  (try go_ret2)
  rw[al.out];exact⟨by rw[u.1,u.2];rfl,ad⟩
 have ag:jG rs j=0:=Classical.not_not.1 ab;have ai:=aai ag;obtain⟨a7,av⟩:=aB (fun h=>aah (rs:=rs) ag h) (fun h=>Sz (rs:=rs) ag h);rw[ag];have bN:=Sr (W:=w) (fun r bL=>af.ok r bL) ai.2;have br:rs.length<=100:=by rw[af.hl];exact ai.1
 have bO:(iR rs).length<=400100:=by
  have:rs.length*4001<=100*4001:=Nat.mul_le_mul_right _ br;omega
 obtain⟨bt,bm⟩:=aB (fun aa (h:lG aa I j R rs) bE=>aaJ I j R rs aa h ai.2 ai.1 bE) (fun aa h=>S_ (iR rs) aa h J);clear ab ag ai bN br bO;go_wp2_with (refine bV F 152 _ F F ao ae F ?_);refine(bt bX (af.ext ad) (a8.ext ad)).mono ?_;rintro e b0 ⟨rfl,ax⟩;obtain⟨a1,aq⟩:=aB (ao.ext ax) (ad.ext ax);clear ax ao ad bt;generalize iR rs=S at*;go_wp2_with fail;refine(bm b0 (a8.ext aq)).mono ?_;rintro e a0 ⟨bv,bx,bw,aM,rfl,bp,bq,az⟩;obtain⟨a9,ba,a2,a5⟩:=bU bp (show jY rs (mM S)=jY rs aM by rw[<-bq,Si]) (a1.ext az) (aq.ext az);clear bp bq az a1 aq bm;go_wp2_with (refine bg F _ _ _ F F F (ah.aI (vs:=[.slice none 0 0]) F F) ae F (xs:=[.slice bv bx bw]) F (fun v bu=>by simp at bu;rw[bu];rfl) ?_);intro bA bd bz;have am:X a0 bA:=bz.ext ((X.refl a0).alloc _) bG;obtain⟨a3,a4,ar,bB⟩:=bU bd (a2.ext am) (a5.ext am) (a9.ext am);clear bd bz am a2 a5 a9;generalize a0.heap.size=G6 at*;by_cases ac:jH S≠0
 ·have u:=O (av (fun h=>ac h.1));have bR:(jH S != 0)=true:=by simp;exact ac
  have n2:decide (jH S=0)=false:=aP ac;generalize jH S=E at*;clear ac;go_wp2_with fail
  (try go_ret2)
  rw[al.out];exact⟨by rw[u.1,u.2];rfl,ar⟩
 have bo:jH S=0:=Classical.not_not.1 ac;rw[bo]at a7 av⊢;have b2:=a4.cell' (i:=0) F;have b3:=a3.cell' (i:=0) F;have bj:=O (aaf I j R rs bv bx bw aM bA (af.ext ar) bB);clear ac bo;go_wp2_with (first|(refine O6 F 152 (.tmp 1) F F a4 ae F ?_)|(refine O6 F 152 (.tmp 6) F F a3 ae F ?_));refine bj.mono ?_;rintro e b4 ⟨rfl,bh⟩;have a6:=O (ar.ext bh);clear bh bj;obtain⟨bS,aE⟩:=aC (jY rs aM);have a_:=O aE;rw[aE];clear aE;cases bS with
 |false=>
  have u:=O (av (fun h=>by have:=h.2;rw[ba.out,a_.out]at this;cases this));go_wp2_with fail
  (try go_ret2)
  rw[al.out];exact⟨by rw[u.1,u.2];rfl,a6⟩
 |true=>
  have u:=O (a7 ⟨by first|rfl|trivial,by rw[ba.out,a_.out]⟩);go_wp2_with fail
  (try go_ret2)
  rw[al.out];exact⟨by rw[u.1,u.2];rfl,a6⟩
end Go.Proofs.YtjlhhnkhcbpnjaaGreatDoor
