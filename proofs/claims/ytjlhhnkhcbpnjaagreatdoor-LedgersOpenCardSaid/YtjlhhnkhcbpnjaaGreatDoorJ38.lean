/- Laws that the row leans on; no condition. -/
import Derived.Test.YtjlhhnkhcbpnjaaGreatDoorJ36
import Derived.Test.YtjlhhnkhcbpnjaaGreatDoorJ37
namespace Go.Proofs.YtjlhhnkhcbpnjaaGreatDoor
open Go Go.RowKit List Tryz
set_option linter.unusedVariables false
set_option linter.unusedSectionVars false
set_option linter.unusedSimpArgs false
set_option maxHeartbeats 40000000
set_option maxRecDepth 100000
theorem ad9{P:Program}{ops:Array Oper}{Q:Exit->Act->World->Prop}{S:World->Prop}{i j:Nat}{E I:Oper}{ar av:List Oper}{f:Nat}{ab:Array Bool}{a:Act}{w:World}(R aa:Value)
 (ao:Region.ready .any ops ab=[i,j])(ap:Region.ready .any ops (ab.setIfInBounds i true)=[j])(aq:Region.ready .any ops (ab.setIfInBounds j true)=[i])
 (ae:ops.toList.drop i=E::ar)(af:ops.toList.drop j=I::av)(ac:S w)(an:i≠j)
 (ag:∀u:Exit->Act->World->Prop,u .normal (a.put E.dst R) w->wpList P ops u [E] a w)(ai:∀u:Exit->Act->World->Prop,u .normal ((a.put E.dst R).put I.dst aa) w->wpList P ops u [I] (a.put E.dst R) w)
 (al:∀u:Exit->Act->World->Prop,u .normal (a.put I.dst aa) w->wpList P ops u [I] a w)(am:∀u:Exit->Act->World->Prop,u .normal ((a.put I.dst aa).put E.dst R) w->wpList P ops u [E] (a.put I.dst aa) w)
 (hc:(a.put I.dst aa).put E.dst R=(a.put E.dst R).put I.dst aa)
 (h:wpAnyH P .any ops Q S f ((ab.setIfInBounds i true).setIfInBounds j true) ((a.put E.dst R).put I.dst aa) w):wpAnyH P .any ops Q S (f+1+1) ab a w:=by
 refine wpAnyH_all ao aF fun k hk=> ?_;rcases mem_cons.1 hk with rfl|hk
 ·exact mZ (jy ae) (ag _ ⟨ac,Jf ap af fun u ad=>ai u (ad _ _ ac h)⟩)
 ·obtain rfl:=mem_singleton.1 hk;refine mZ (jy af) (al _ ⟨ac,Jf aq ae fun u ad=>am u (ad _ _ ac ?_)⟩);rw[Array.setIfInBounds_comm _ _ (Ne.symm an),hc];exact h
theorem aea(es:List aG):∃C T x y,vJ es=iY C T x y/\x.length=32/\y.length=32:=by
 unfold vJ;split
 ·exact⟨_,_,_,_,F,by unfold iK;simp,by unfold iK;simp⟩
 ·exact⟨_,_,_,_,F,nZ _,yX iO tY (MC es)⟩
theorem aeb(es:List aG)(w:World):(binOp .eql 46 (.agg (vJ es).toArray) (.agg (vJ es).toArray)).run prog w= .ok (.bool true) w:=by
 obtain⟨C,T,x,y,j,u,E⟩:=aea es;rw[j];exact ad8 C T x y u E w
noncomputable def aec(n:Nat):Array Oper:=xZ f3 n
theorem I9:(prog.info? 34).map (·.size)=some 68:=au
theorem aed(l:List jD)(a:aN)(n c:Nat)(at_ cR ae:Int)(a7:UInt8)(w:World)(ej:l.length=n)(el:n<=c)(aD:aK w a (qQ l))(c7:mJ w):
 Calls prog 3 #[.slice a n c,.int .i64 at_,.int .i64 cR,.int .i64 ae,.int .u8 (a7.toNat:Int)] w fun x w'=>x= .returned (.bool true)/\X w w':=by
 obtain⟨dz,dE⟩:=aB aD c7;clear aD c7;go_enter func3,ntmps3;go_wp2_with fail;refine(Wj w).mono ?_;rintro x ac ⟨rfl,cS⟩;have aM:=O cS;clear cS;go_wp2_with fail;refine(ad2 l a n c ac ej el (dz.ext aM) (dE.ext aM)).mono ?_;rintro x w2 ⟨v,u,es,S,rfl,aa,c3,da,ei,e2⟩;have bv:=O c3.valid;have b8:BK es:=fun e E=>aG.len (aa.ok e E);have al:=O b8;obtain⟨e4,cq,rfl,bj,em,dc⟩:=iJ aa.own;have c_:es.length≠0:=fun h=>da (length_eq_zero_iff.1 h);obtain⟨g,off,aE, -⟩:=dc.gQ (by rw[BL b8];omega);have cc:off=0:=by
  rcases aa.own.2 with⟨h, -⟩|⟨d8,d3,cu,h, -⟩
  ·exact absurd (Value.slice.inj h).2.1 c_
  ·have h2:=(Value.slice.inj h).1;rw[aE]at h2;injection h2 with h2;injection h2
 subst aE cc;obtain⟨rest,ax,az, -,aw, -,eO⟩:=UA aa.own;obtain⟨a1,dy,bu⟩:=aW ax az aw;have a5:=O aa.ok;obtain⟨bw,bo,dC⟩:=aW (fun e E=>aa.eo e E g F) (aM.ext e2) e2;have cN:=O aM.size;clear aa c3 b8 ax az aw dc em e2 da;obtain⟨K,cY⟩:=aC ((BitVec.ofInt 64 ae &&& BitVec.ofInt 64 ((31:Nat):Int)).toNat:Nat);obtain⟨M,c0⟩:=aC ((BitVec.ofInt 64 ae &&& BitVec.ofInt 64 ((32:Nat):Int)).toNat:Nat);have ce:=rY ae 31 J;have cf:=rY ae 32 J;have eh:=rX ae 31 J;rw[cY]at ce eh;rw[c0]at cf;have eM:bits BinOp.and IntKind.i64 ae 31=(K:Int):=ce;have eN:bits BinOp.and IntKind.i64 ae 32=(M:Int):=cf;clear ce cf cY c0;obtain⟨N,bd⟩:=aC es.length;have ab:=O bd;rw[bd]at bj c_ ei
 conv=>rw[bd]
 clear bd;have eJ:IntKind.i64.wrap ((K:Int)+1)=(K:Int)+1:=IntWalk.i64_in _ J;go_upto_region 5 with fail;go_cut [38] (fun v wx=>∃bb:Bool,v= .bool bb/\(bb=true->K+1<N)/\w2=wx)
 case first=>
  by_cases h1:K+1<N
  ·have d4:decide ((K:Int)+1<(N:Int))=true:=aQ J;have d5:decide (K+1<N)=true:=aQ h1;go_wp2_with fail;go_meet;exact⟨_,F,fun _=>h1,F⟩
  ·have d4:decide ((K:Int)+1<(N:Int))=false:=aP J;have d5:decide (K+1<N)=false:=aP h1;go_wp2_with fail;go_meet;exact⟨_,F,fun h=>by simp at h,F⟩
 case rest=>
 obtain⟨bb,rfl,c2,rfl⟩:=hcut;have cE:=O c2;clear c2;go_upto_if 38 with fail;go_cut [] (fun wx=>∃ap:List aG,ap.length=N/\(∀e∈ap,dN e=0)/\sK wx (some ⟨g,0,none⟩) N cq ap/\X w wx)
 case first=>
  cases bb with
  |false=>
   go_wp2_with fail;go_meet;exact⟨es,ab,bv,⟨ab,bj,fun h=>(by cases h),a5,(by have h:=(aK.eG a1).take (iM es).length;rw[take_left' F]at h;exact h)⟩,bo⟩
  |true=>
   have c6:=cE.out F;obtain⟨af,cn⟩:∃x,es[K]? =some x:=⟨es[K]'(by rw[ab.out];omega),aF⟩;obtain⟨R,co⟩:∃x,es[K+1]? =some x:=⟨es[K+1]'(by rw[ab.out];omega),aF⟩;obtain⟨aL,aq,bB,bE⟩:=bU (show af.v.length=68 from al af (mem_of_getElem? cn)) (show R.v.length=68 from al R (mem_of_getElem? co)) cn co;have ai:sK w2 (some ⟨g,0,none⟩) N cq es:=⟨ab,bj,fun h=>(by cases h),a5,(by have h:=(aK.eG a1).take (iM es).length;rw[take_left' F]at h;exact h)⟩;obtain⟨am,d1⟩:=aB ai (show(iM es++rest).length≥N*68 by rw[length_append,BL al.out,ab.out];omega);clear cn co ai;obtain⟨C,a_⟩:=jE (fun _=>True:World->Prop);have aJ:∀w w',C w->X w w'->C w':=fun _ _ _ _=>by rw[a_];trivial
   have bP:C w2:=by rw[a_];trivial
   have ba:∀w,C w:=fun _=>by rw[a_];trivial
   clear a_;go_upto_region 6 with fail;refine fJ (ops:=(aec 6)) fun Z=> ?_;refine aA 0 ?_;refine aA 1 ?_;refine aA 2 ?_;refine aA 3 ?_;refine aA 4 ?_;refine aA 5 ?_;refine aA 6 ?_;refine aA 7 ?_;refine bD 8 F (bf F (fun ac _=>fP (i:=K+1) F F F underlying24 I9 c6 ac)) ?_;refine aA 10 ?_;refine aA 11 ?_;refine bD 12 F (bf F (fun ac _=>fP (i:=K) F F F underlying24 I9 J ac)) ?_;obtain⟨eB,a9,ca⟩:=am.at bE.out;obtain⟨eA,a8,b'⟩:=am.at bB.out;injection a9 with a9;injection a8 with a8;rw[<-a9]at ca;rw[<-a8]at b';clear a8 a9;have ao:X w2 w2.drew:=(X.refl _).drew;obtain⟨a3,a2,a0,bx,bp⟩:=dM (ca.ext ao) (b'.ext ao) (a1.ext ao) (fun e E=>(a5 e E).ext ao) (bo.ext ao);clear b' ca;generalize World.drew w2=e6 at Z ao a3 a2 a0 bx bp⊢;generalize Addr.add ⟨g,0,none⟩ ((K+1)*68)=eD at*;generalize Addr.add ⟨g,0,none⟩ (K*68)=eC at*;refine ad9 (i:=9) (j:=13) (.agg R.v.toArray) (.agg af.v.toArray) au au au F F Z aX ?_ ?_ ?_ ?_ F ?_
   ·(intro ag I;(try dsimp only at I⊢);(try simp only[Act.put,setIfInBounds_toArray,set_cons_succ,set_cons_zero]at I⊢);go_wp2_with (refine bF F (bQ F F a3 cZ aq) ?_);exact I)
   ·(intro ag I;(try dsimp only at I⊢);(try simp only[Act.put,setIfInBounds_toArray,set_cons_succ,set_cons_zero]at I⊢);go_wp2_with (refine bF F (bQ F F a2 cZ aL) ?_);exact I)
   ·(intro ag I;(try dsimp only at I⊢);(try simp only[Act.put,setIfInBounds_toArray,set_cons_succ,set_cons_zero]at I⊢);go_wp2_with (refine bF F (bQ F F a2 cZ aL) ?_);exact I)
   ·(intro ag I;(try dsimp only at I⊢);(try simp only[Act.put,setIfInBounds_toArray,set_cons_succ,set_cons_zero]at I⊢);go_wp2_with (refine bF F (bQ F F a3 cZ aq) ?_);exact I)
   try dsimp only
   refine aH ?_;refine bD 14 F (bf F (fun ac _=>fP (i:=K) F F F underlying24 I9 J ac)) ?_;have ec:Addr.add ⟨g,0,none⟩ (K*68)=⟨g,K*68,none⟩:=by rw[dn,Nat.zero_add]
   rw[ec];refine aZ 15 ?_;intro ag I;go_wp2_with (refine kR F _ _ _ F F F a0 (by rw[aq.out];exact cZ) (by have h:=d1.out;have h2:=aq.out;omega) (i_ R) ?_);intro ct bR cr;rw[UD al.out bB.out aq.out]at bR;obtain⟨cK,cw,bm⟩:=aW (fun e E=>AB (bx e E) cr a0 (bw e E)) (cr.ext bp (by have h1:=cN.out;have h2:=bu.out;omega)) bR;refine I _ _ (ba _) ?_;clear I ag cr bR a2 a3 a0 bx bp Z;have Z:=ba ct;refine aH ?_;refine bD 16 F (bf F (fun ac _=>fP (i:=K+1) F F F underlying24 I9 c6 ac)) ?_;have ed:Addr.add ⟨g,0,none⟩ ((K+1)*68)=⟨g,(K+1)*68,none⟩:=by rw[dn,Nat.zero_add]
   rw[ed];have cD:=O (show BK (es.set K R)from fun e E=>by
    rcases mem_or_eq_of_mem_set E with h|h
    ·exact al e h
    ·rw[h];exact aq)
   have d2:=O (show(es.set K R)[K+1]? =some R by rw[List.getElem?_set_ne J];exact bE);refine aZ 17 ?_;intro ag I;go_wp2_with (refine kR F _ _ _ F F F bm (by rw[aL.out];exact cZ) (by have h:=cD.out;have h2:=aL.out;rw[length_append,BL h,length_set,ab.out];omega) (i_ af) ?_);intro cv bS cs;rw[UD cD.out d2.out aL.out]at bS;obtain⟨dT,dt,B2⟩:=aW (fun e E=>AB (cK e E) cs bm (bw e E)) (cs.ext cw (by have h1:=cN.out;have h2:=bu.out;omega)) bS;refine I _ _ (ba _) ?_;clear I ag cs bS bm cK cw Z;have Z:=ba cv;refine aH ?_;refine dH ?_;have cJ:=O (show∀e∈(es.set K R).set (K+1) af,e∈es from fun e E=>by
    rcases mem_or_eq_of_mem_set E with h|h
    ·rcases mem_or_eq_of_mem_set h with h|h
     ·exact h
     ·rw[h];exact mem_of_getElem? bE
    ·rw[h];exact mem_of_getElem? bB)
   go_wp2_with fail;go_meet;have c8:((es.set K R).set (K+1) af).length=N:=by rw[length_set,length_set];exact ab
   exact⟨(es.set K R).set (K+1) af,c8,fun e E=>bv e (cJ e E),⟨c8,bj,fun h=>(by cases h),fun e E=>dT e (cJ e E),(by have h:=(aK.eG B2).take (iM ((es.set K R).set (K+1) af)).length;rw[take_left' F]at h;exact h)⟩,dt⟩
 case rest=>
 obtain⟨ap,c5,cb,bh,b0⟩:=hcut;obtain⟨ev,df⟩:=aC wc;rw[df]at bh b0⊢;have dg:=Nk bh.ok cb;rw[c5]at dg;obtain⟨cG,cH,bq⟩:=aW bh cb b0;clear df wc c5 cb bh b0 a1 dy bu a5 bw bo dC al bv ab cE;obtain⟨bN,be⟩:=aC (kG ap);obtain⟨L,bc⟩:=aC bN.length;rw[be,bc]at dg;have cm:=QK (some ⟨g,0,none⟩) N cq ap ev cG cH J (by rw[be,bc];omega);rw[be,bc]at cm;have an:=O bc;go_wp2_with fail;refine cm.mono ?_;rintro x dr ⟨v,rfl,bi,cT⟩;obtain⟨eE,bX,rfl,eZ,eg,ek,c4⟩:=nT bi;obtain⟨g3,off,aE, -⟩:=c4.gQ (by rw[length_map,an.out];omega);have cc:off=0:=by
  rcases bi.2 with⟨h, -⟩|⟨d8,d3,cu,h, -⟩
  ·have:=(Value.slice.inj h).2.1;omega
  ·have h2:=(Value.slice.inj h).1;rw[aE]at h2;injection h2 with h2;injection h2
 subst aE cc;obtain⟨et,ax,az, -,aw, -, -⟩:=UA bi;rw[Nat.mul_one]at az;obtain⟨A,k,d9,ea,d',hk⟩:=adu at_ L J J;obtain⟨e0,dl,eW,eT,eV⟩:=adr cR L;obtain⟨ar,dj⟩:∃ar,bN[k]? =some ar:=⟨_,List.getElem?_eq_getElem (by rw[an.out];exact hk)⟩;have eS:w.heap.size<=g3:=Nat.le_trans bq.size aw;obtain⟨aR,cx⟩:=aB ax (bq.ext cT);have ef:=aR.cell' (i:=k) (v:= .int .u8 (ar.toNat:Int)) (by rw[List.getElem?_append_left (by rw[length_map,an.out];exact hk),List.getElem?_map,dj];rfl);have vN:=aR.frozen k;have d6:decide ((k:Int)<0)=false:=aP J;have eI:((L:Int)==0)=false:=by simp;omega
 have eK:¬((L:Int)=0):=J;have en:=Jb ar a7;clear cm bi cT c4 ek ax az dj aw cG bq;go_upto_region 9 with(fail);generalize cl:World.setCell dr _ _=bl;obtain⟨bO,b7⟩:=aC (bN.set k (vO ar a7));have cX:ah bl g3 (bO.map Y++et) 5:=by
  have h:=aR.set k (Y (vO ar a7));rw[set_append_left _ _ (by rw[length_map,an.out];exact hk),<-map_set,b7]at h;rw[<-cl];exact h
 have dq:aU dr g3 bl:=by rw[<-cl];exact aU.setCell _
 obtain⟨bL,cC,cz⟩:=aW (show bO.length=L by rw[<-b7,length_set,an.out]) cX (dq.ext cx J);clear cl b7 cX dq ef vN d9 ea d' en aR cx d6 an be;unfold maxLen at eg;obtain⟨T,ee⟩:=aC (L - dl);have eL:IntKind.i64.wrap ((L:Int) - (dl:Int))=(T:Int):=by rw[IntWalk.i64_in _ J];omega
 have b5:T<=bX:=J;obtain⟨z,cp⟩:=aC (bO.take T);have dk:z.length=T:=by rw[<-cp,length_take,bL.out];omega
 have aD:aK bl (some ⟨g3,0,none⟩) (z.map Y):=by
  have h:=(aK.eG cC).take T;rw[take_append_of_le_length (by rw[length_map,bL.out];omega),<-map_take,cp]at h;exact h
 obtain⟨av,cP⟩:=aB aD dk;have c1:T<=1000000000:=J;clear ee cp dk aD cC bL;go_wp2_with (refine bF F (zB (k:=T) F F F underlying32 gu b5 _) ?_);refine(ac7 z (some ⟨g3,0,none⟩) T bX bl cP b5 c1 J av).mono ?_;rintro x ew ⟨b4,rfl,c9,eR,b1⟩;obtain⟨ad,av,cy⟩:=aW c9 (av.ext b1) (cz.ext b1);clear c9 b1 cz;go_wp2_with fail;refine(abO z (some ⟨g3,0,none⟩) T bX ew cP b5 c1 J av).mono ?_;rintro x ex ⟨v,rs,rfl,aa,cg, -,b2⟩;obtain⟨dm,dp,rfl,ai⟩:=aa.abM;have cd:=ads z;have ad:=O (ad.ext b2);rw[<-cg]at ad cd;have cj:(nI z).1.length=rs.length:=by rw[<-cg,length_map]
 have d0:=O cj;have b9:∀e∈rs,e.body.length=e.bn:=fun e E=>(ai.ok e E).hb;have bz:=O (show∀e∈rs,dN e=0 from fun e E=>by
  have h:=cd e.p (mem_map_of_mem E);rw[xH];exact h)
 obtain⟨bA,cI⟩:=aB (acQ b9) (adt b9);have dd:rs.length<=65536:=by have h:=ad.n;rw[length_map]at h;exact h
 have di:=(Nk ai.ok bz).1;obtain⟨am,du⟩:=aB ai (cy.ext b2);rw[cj];generalize (nI z).2=cQ at*;obtain⟨bk,ci⟩:=aC (rs.map aG.p);rw[ci]at ad bA cI;have cL:=O (show bk.length=rs.length by rw[<-ci,length_map]);obtain⟨a6,eb⟩:=aC rs.length;rw[eb]at am dd di cL⊢;obtain⟨W,b6⟩:=aC (kG rs);rw[b6]at bA di;have dv:=O du.out;clear aa cg ai cd cj b9 ci b2 cy av d0 cH;have e1:(cQ==cQ)=true:=beq_self_eq_true _;have e3:((a6:Int)==(a6:Int))=true:=beq_self_eq_true _;go_wp2_with fail;refine(acU _ b4 bk ex ad).mono ?_;rintro x ct ⟨rfl,cU⟩;rw[cL.out];have br:=O cU;clear cU;go_wp2_with fail;refine(acV _ b4 bk ct (ad.ext br)).mono ?_;rintro x cv ⟨vo,rfl,ch,cV⟩;rw[bA.out]at ch;obtain⟨eo,ep,rfl, -, -,db⟩:=iJ ch;obtain⟨a4,bt⟩:=aB db (br.ext cV);clear ch db cV br;have ck:=QK dm a6 dp rs cv (am.ext bt) bz J (by rw[b6];omega);rw[b6]at ck;go_wp2_with fail;refine ck.mono ?_;rintro x ds ⟨e5,rfl,hv,b3⟩;obtain⟨ey,wc,rfl, -, -,de⟩:=iJ hv;obtain⟨cM,a4,cA⟩:=aW de (a4.ext b3) (bt.ext b3);clear ck hv de b3 bt;have er:(W==W)=true:=beq_self_eq_true _;go_wp2_with fail;refine(Wp W W eo ey W.length W.length ep wc ds F F a4 cM).mono ?_;rintro x e7 ⟨rfl,rfl⟩;rw[er];clear a4 cM;go_wp2_with fail;refine(acX _ b4 bk ds (ad.ext cA)).mono ?_;rintro x ez ⟨rfl,cW⟩;rw[cI.out];have cB:=O (cA.ext cW);clear cW;go_wp2_with fail;refine(ab3 dm a6 dp rs ez (am.ext cB) bz dd).mono ?_;rintro x e8 ⟨rfl,d7⟩;obtain⟨dx,cF⟩:=aB (cB.ext d7) (aeb rs);generalize vJ rs=eQ at*;go_wp2_with (first|(refine jU F (jm F F F UY (fun w=>cF w) _) ?_)|(refine bF F (jm F F F UY (fun w=>cF w) _) ?_))
 (try go_ret)
 exact⟨F,dv.ext dx⟩
end Go.Proofs.YtjlhhnkhcbpnjaaGreatDoor
