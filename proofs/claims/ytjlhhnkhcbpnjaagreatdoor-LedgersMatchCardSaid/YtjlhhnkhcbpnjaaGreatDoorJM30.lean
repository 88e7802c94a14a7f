/- Laws that the row leans on; no condition. -/
import Derived.Test.YtjlhhnkhcbpnjaaGreatDoorJM27
namespace Go.Proofs.YtjlhhnkhcbpnjaaGreatDoor
open Go Go.RowKit List Tryz
set_option linter.unusedVariables false
set_option linter.unusedSimpArgs false
set_option maxHeartbeats 40000000
set_option maxRecDepth 100000
theorem r9:(prog.info? 34).map (·.size)=some 68:=au
noncomputable def qd:aO:=iY 0 0 iK iK
theorem wh:E9 []=qd:=F
theorem wm(w:World):(binOp .neq 46 (.agg qd.toArray) (.agg zeroCells46)).run prog w= .ok (.bool false) w:=by
 rw[Cn];exact qz 0 0 iK iK (by unfold iK;simp) (by unfold iK;simp) w
theorem xD(l:List jD)(a:aN)(n c:Nat)(I a5:Int)(w:World)(hg:l.length=n)(hh:n<=c)(fn:aK w a (qQ l))(ft:mJ w):
 nW 5 #[.slice a n c,.int .i64 I,.int .i64 a5] w (.bool true):=by
 obtain⟨uE,eM⟩:=aB fn ft;clear fn ft;go_enter func5,ntmps5;go_wp2_with fail;refine(Wj w).mono ?_;rintro x E ⟨rfl,R⟩;have cq:=O R;clear R;go_wp2_with fail;refine(ad2 l a n c E hg hh (uE.ext cq) (eM.ext cq)).mono ?_;rintro x w2 ⟨v,u,es,S,rfl,f0,dC,fz,fw,e2⟩;obtain⟨cl,cm,rfl,dE⟩:=f0.abM;obtain⟨ag,bl⟩:=aB dE dC;have HV:=O dC.valid;have cV:=O (cq.ext e2);have fx:es.length≠0:=fun h=>fz (length_eq_zero_iff.1 h);have g':=dE.nc;obtain⟨N,cQ⟩:=aC es.length;have a1:=O cQ;rw[cQ]at ag fx fw g'
 conv=>rw[cQ]
 clear f0 dC dE e2 fz cQ cq uE eM;go_wp2_with fail;refine(acT w2).mono ?_;rintro x hH ⟨g,rfl,fr,cg,a2⟩;obtain⟨db,er⟩:=aB cg a2;clear cg a2;have eK:=O fr;clear fr;go_wp2_with fail;refine(acX _ g [] hH db).mono ?_;rintro x hI ⟨rfl,ax⟩;rw[wh];obtain⟨dc,et⟩:=aB (db.ext ax) (er.ext ax);clear ax db er;have eL:=O wm;go_wp2_with (refine bF F (jm F F F UY (fun w=>eL w) _) ?_);refine(acV _ g [] hI dc).mono ?_;rintro x h5 ⟨vo,rfl,ar,dv⟩;obtain⟨hW,hX,rfl, -, -, -⟩:=iJ ar;obtain⟨eR,ev⟩:=aB (dc.ext dv) (et.ext dv);clear ar dv dc et eL;have bN:(lK []).length=0:=F;go_wp2_with fail;clear bN;go_loopw [41] (fun i wr=>∃k:Nat,k<=N/\i= .int .i64 (k:Int)/\nM wr w2.heap.size g ((es.take k).map aG.p)/\X w2 wr) (fun i _=>N - (intOf i).toNat)
 case atStart=>exact⟨0,J,F,eR,ev⟩
 case round=>
 obtain⟨k,hk,rfl,cg,e_⟩:=hrel;obtain⟨bm,a9⟩:=aB cg e_;clear cg e_ eR ev;by_cases j3:k<N
 case pos=>
  have ca:decide ((k:Int)<(N:Int))=true:=aQ J;obtain⟨r,a4⟩:∃r,es[k]? =some r:=⟨es[k]'(by rw[a1.out];exact j3),aF⟩;obtain⟨c3,bk⟩:=aB (sw bl ag.ok a4) (sI bl a4 J);obtain⟨be,ec⟩:∃x,r.prev[0]? =some x:=⟨r.prev[0]'(by rw[(ag.ok r (mem_of_getElem? a4)).hp];decide),aF⟩;have b0:=O (sM bl ag.ok a4 ec);have fL:r.num=(k:Int):=(bl.at a4).2.1;have gn:=O fL;obtain⟨A,rfl,nu⟩:=(ag.ext a9).at a4;obtain⟨rz,df⟩:=aB nu ((ag.ext a9).ok r (mem_of_getElem? a4));obtain⟨ai,gx⟩:=aB (aG.len df) ec;clear nu a4 ec fL;go_upto_region 10 with(first|(refine bF F (fP (i:=k) F F F underlying24 r9 j3 _) ?_)|(refine bF F (bQ F F rz cZ ai) ?_)|(refine bg F _ (.tmp 11) _ F F F (ah.aI (vs:=dS.v) F F) cZ dZ ai (i_ r) ?_));intro wB e7 f7;have cN:X wr wB:=f7.ext ((X.refl wr).alloc _) l5;obtain⟨bi,cW,b4,am⟩:=bU e7 (a9.ext cN) (bm.ext cN) (df.ext cN);clear e7 f7 cN rz df a9 bm;generalize wr.heap.size=fk at*;obtain⟨gz,g9⟩:=aC (((k:Int)==I));go_upto_if 48 with fail;go_cut [] (fun wx=>nM wx w2.heap.size g ((es.take k).map aG.p)/\ah wx fk r.v 34/\r.Ok wx/\X w2 wx)
  case first=>
   as_aux_lemma=>
    cases gz with
    |false=>
     go_wp2_with fail;go_meet;exact⟨b4,bi,am,cW⟩
    |true=>
     go_upto_region 12 with(first|(refine bV F 34 (.tmp 11) F F bi cZ ai ?_)|(refine bg F _ (.tmp 12) _ F F F (ah.aI (vs:=dS.v) F F) cZ dZ ai (i_ r) ?_));intro wD e8 f8;have e':X wB wD:=f8.ext ((X.refl wB).alloc _) l5;have ey:=O e';have hd:fk<wB.heap.size:=bi.lt;have bx:=O e8;clear e8 f8 e';obtain⟨cc,dT⟩:=aC wB.heap.size;have c_:=O dT;rw[dT]at bx hd⊢;clear dT;have gA:=bx.cell' (i:=0) (aG.aL r);have vN:=bx.frozen 0;have hi:IntKind.i64.wrap (r.num+1)=r.num+1:=by have:=gn.out;rw[IntWalk.i64_in _ J]
     go_upto_region 13 with fail;generalize d':World.setCell wD _ _=wE;have e9:ah wE cc (r.j4 (r.num+1)).v 34:=by
      rw[<-d',<-aG.set0];exact bx.set 0 _
     have f9:aU wD cc wE:=by rw[<-d'];exact aU.setCell _
     have bc:X wB wE:=f9.ext ey (by rw[c_.out];exact Nat.le_refl _);obtain⟨cp,cX,b5,cH⟩:=bU e9 bc (b4.ext bc) (aG.BS (am.ext bc) (r.num+1));have cM:=O (aG.len cH);clear d' e9 f9 bc gA vN hi bx ey;obtain⟨r2,fX⟩:=aC (r.j4 (r.num+1));rw[fX]at cp cH cM bk;clear fX;go_wp2_with (refine bV F 34 (.tmp 12) F F cp cZ cM ?_);refine(q8 _ g _ r2 wE b5 cH bk.1 (by rw[bk.2];decide)).mono ?_;rintro x wF ⟨rfl,eF⟩;rw[bk.2];obtain⟨en,em,ez⟩:=aW (cp.ext eF) (bi.ext (cX.ext eF)) (cX.ext eF);clear eF cp cX b5 cH;go_upto_region 16 with(first|(refine bV F 34 (.tmp 11) F F em cZ ai ?_)|(refine bg F _ (.tmp 12) _ F F F en cZ cM ai (i_ r) ?_));intro wG bG f';have eG:X wB wG:=f'.ext ez (by rw[c_.out];exact Nat.le_refl _);obtain⟨BG,eA⟩:=aB bG eG;clear bG f' eG en em ez bk cM;have Ev:wG.cell? ⟨cc,35,none⟩=some (.int .u8 (be.toNat:Int)):=BG.cell' (i:=35) (aG.nQ am.ha am.hk gx);have vN:=BG.frozen 35;have ho:bits BinOp.xor IntKind.u8 (be.toNat:Int) 1=((vO be 1).toNat:Int):=Jb be 1;go_upto_region 17 with fail;generalize ea:World.setCell wG _ _=wH;have bH:ah wH cc (r.ko (r.prev.set 0 (vO be 1))).v 34:=by
      rw[<-ea,<-aG.Bt am.ha am.hk am.hp];exact BG.set 35 _
     have uH:aU wG cc wH:=by rw[<-ea];exact aU.setCell _
     have cP:X wB wH:=uH.ext eA (by rw[c_.out];exact Nat.le_refl _);obtain⟨cU,EH,eS,cI⟩:=bU bH cP (b4.ext cP) (aG.Ca (am.ext cP) (p:=r.prev.set 0 (vO be 1)) (by rw[length_set];exact am.hp));have e1:=O (aG.len cI);clear ea bH uH cP Ev vN ho BG eA;obtain⟨hA,fY⟩:=aC (r.ko (r.prev.set 0 (vO be 1)));rw[fY]at cU cI e1 b0;clear fY;go_wp2_with (refine bV F 34 (.tmp 12) F F cU cZ e1 ?_);refine(q8 _ g _ hA wH eS cI b0.1 (by rw[b0.2];decide)).mono ?_;rintro x h6 ⟨rfl,fa⟩;rw[b0.2];have cv:=O (EH.ext fa);clear fa EH cU eS cI;go_wp2_with fail;go_meet;exact⟨b4.ext cv,bi.ext cv,am.ext cv,cW.ext cv⟩
  case rest=>
  obtain⟨fv,e6,f5,ba⟩:=hcut;obtain⟨eQ,el,e4,ew⟩:=bU fv e6 f5 ba;clear fv e6 f5 ba b4 bi am cW bk b0 g9;go_wp2_with (refine bV F 34 (.tmp 11) F F el cZ ai ?_);refine(ac5 _ g _ r w2 _ eQ e4 ew l5 eK).mono ?_;rintro x ga ⟨rfl,d1,a3⟩;rw[c3.1];rw[c3.2]at d1;obtain⟨cF,ct⟩:=aB d1 a3;clear d1 a3 eQ el e4 ew c3;go_wp2_with fail;go_roundw
  case rel=>exact⟨k+1,J,by go_num,cF,ct⟩
  case measure=>simp[intOf];omega
 case neg=>
 obtain rfl:k=N:=J;have om:es.take k=es:=take_of_length_le (by rw[a1.out];exact Nat.le_refl _);rw[om]at bm;have ca:decide ((k:Int)<(k:Int))=false:=aP J;have g1:decide (k<k)=false:=aP J;clear om j3 hk;have eb:=Nk ag.ok HV;rw[a1.out]at eb;have cJ:=O (oo bl w2 ag.ok);obtain⟨af,cT⟩:=aC (es.map aG.p);have cR:∀e∈es,e.body.length=e.bn:=fun e cS=>(ag.ok e cS).hb;obtain⟨b8,dd,b3,eJ,eW⟩:=dM (acQ cR) (acR cR) (adt cR) (show∀e∈es,e.p.Fit from fun e cS=>nk (ag.ok e cS) (HV e cS)) (show∀(j:Nat) (e:aG),es[j]? =some e->af[j]? =some e.p from fun j e h=>by rw[<-cT,List.getElem?_map,h];rfl);rw[cT]at bm b8 dd b3 cJ;have an:=O (show af.length=k by rw[<-cT,length_map];exact a1);obtain⟨ap,cf⟩:=aC (kG es);obtain⟨L,ce⟩:=aC ap.length;rw[cf,ce]at eb;rw[cf]at b8 cJ;have d8:=O (fun(E:World) (h:sK E cl k cm es)=>QK cl k cm es E h HV J (by rw[cf,ce];omega));rw[cf,ce]at d8;have bp:=O ce;clear cf ce cT cR bl;go_wp2_with fail;clear ca g1;have c8:=O (ag.ext a9);refine(d8 wr c8).mono ?_;rintro x hJ ⟨h3,rfl,f6,ba⟩;obtain⟨dq,du,rfl,fy,fp, -,fo⟩:=nT f6;obtain⟨c5,eI,cF,ct⟩:=bU fo (c8.ext ba) (bm.ext ba) (a9.ext ba);unfold maxLen at fp;clear f6 fo ba c8 bm a9 d8;go_wp2_with fail;refine(ac7 ap dq L du hJ bp fy J J c5).mono ?_;rintro x ga ⟨fj,rfl,d3,he,a3⟩;rw[cJ.out]at d3⊢;obtain⟨de,bo,c4,c9,ex⟩:=dM d3 (cF.ext a3) (c5.ext a3) (eI.ext a3) (ct.ext a3);clear d3 he a3 cF c5 eI ct cJ;rw[an.out];have hy:((k:Int)==(k:Int))=true:=beq_self_eq_true _;have eg:(ap==ap)=true:=beq_self_eq_true _;go_wp2_with fail;refine(acU _ g af ga bo).mono ?_
 rintro x hK ⟨rfl,fc⟩;rw[an.out];have cY:=O fc;clear fc;go_wp2_with fail;refine(acV _ g af hK (bo.ext cY)).mono ?_;rintro x gd ⟨vo,rfl,ar,fd⟩;rw[b8.out]at ar;obtain⟨hr,hv,rfl, -, -,ch⟩:=iJ ar;obtain⟨b6,cw⟩:=aB ch (cY.ext fd);clear ar ch fd cY;go_wp2_with fail;refine(Wp ap ap hr dq ap.length L hv du gd F bp.symm b6 (c4.ext cw)).mono ?_;rintro x h7 ⟨rfl,rfl⟩;rw[eg];clear b6;go_wp2_with fail;refine(acV _ fj af gd (de.ext cw)).mono ?_;rintro x ge ⟨h4,rfl,ar,fe⟩;rw[b8.out]at ar;obtain⟨hu,hw,rfl, -, -,ch⟩:=iJ ar;obtain⟨b6,cx⟩:=aB ch (cw.ext fe);clear ar ch fe cw;go_wp2_with fail;refine(Wp ap ap hu dq ap.length L hw du ge F bp.symm b6 (c4.ext cx)).mono ?_;rintro x h8 ⟨rfl,rfl⟩;rw[eg];clear b6;go_wp2_with fail;refine(acX _ g af ge (bo.ext cx)).mono ?_;rintro x hL ⟨rfl,ff⟩;rw[b3.out];have c0:=O (cx.ext ff);clear ff cx;go_wp2_with fail;refine(ab3 cl k cm es hL (c9.ext c0) HV J).mono ?_;rintro x hM ⟨rfl,fg⟩;have c1:=O (c0.ext fg);clear fg c0;have b1:=O (vR es);generalize vJ es=hU at*;go_wp2_with (first|(refine jU F (jm F F F UY (fun w=>b1 w) _) ?_)|(refine bF F (jm F F F UY (fun w=>b1 w) _) ?_));refine(acX _ fj af hM (de.ext c1)).mono ?_;rintro x hN ⟨rfl,fh⟩;rw[b3.out];have c2:=O (c1.ext fh);clear fh c1;go_wp2_with fail;refine(acX _ g af hN (bo.ext c2)).mono ?_;rintro x ei ⟨rfl,fi⟩;rw[b3.out];have cy:=O (c2.ext fi);obtain⟨cC,eC,eo⟩:=aW (bo.ext cy) (c9.ext cy) (ex.ext cy);clear fi c2 de bo c4 c9 ex cy;go_upto_region 26 with(first|(refine jU F (jm F F F UY (fun w=>b1 w) _) ?_)|(refine bF F (jm F F F UY (fun w=>b1 w) _) ?_))
 clear b1 b3 hy eg;obtain⟨e0,dj,cG,b5⟩:=bU (fun i=>Al (nd:=iO) tY k (qM es) i (by unfold qM;rw[length_map];exact a1) (MC es)) (fun i b=>vE (nd:=iO) tY k (qM es) i b (by unfold qM;rw[length_map];exact a1) (MC es)) (show(qM es).length=k by unfold qM;rw[length_map];exact a1) (fun E (h:sK E cl k cm es)=>ab1 cl k cm es E h HV J);have hV:1<=k/\k<=41:=⟨J,J⟩;clear fx fw eb b8 fy fp bp HV eK;go_cut [17,18] (fun hC hD wx=>∃(dy:Nat) (r:aG) (e:Int),hC= .pointer (some ⟨dy,0,none⟩)/\hD= .int .i64 e/\ah wx dy r.v 34/\r.Ok wx/\((¬(0<=I/\I<(k:Int))/\e=7)∨((0<=I/\I<(k:Int))/\e=0/\∃x,es[I.toNat]? =some x/\r.p=x.p))/\X ei wx)
 case first=>
  as_aux_lemma=>
   by_cases aq:0<=I/\I<(k:Int)
   case neg=>
    go_wp2_with fail;refine(uR _ g af I ei cC (by rw[an.out];omega)).mono ?_;rintro x al ⟨rfl,R⟩;go_wp2_with (refine bg F _ (.tmp 17) _ F F F (ah.aI (vs:=dS.v) F F) cZ dZ (xs:=dS.v) dZ (i_ dS) ?_);intro z2 ae ac;have e2:X al z2:=ac.ext ((X.refl _).alloc _) l5;go_wp2_with fail;go_meet;exact⟨_,dS,7,F,F,ae,EJ _,.inl ⟨aq,F⟩,R.ext e2⟩
   case pos=>
    obtain⟨K,cd⟩:∃K:Nat,I=(K:Int):=⟨I.toNat,J⟩;subst cd;obtain⟨x,hx⟩:∃x,es[K]? =some x:=⟨es[K]'(by rw[a1.out];omega),aF⟩;have dm:=O hx;clear hx;go_wp2_with fail;refine(mR _ g af K x.p ei cC (eW K x dm) (eJ x (mem_of_getElem? dm))).mono ?_;rintro z al ⟨r,rfl,d7,cj,R⟩;obtain⟨gv,dl,ai⟩:=aW d7 cj (aG.len d7);clear d7 cj;go_wp2_with (refine bg F _ (.tmp 17) _ F F F (ah.aI (vs:=dS.v) F F) cZ dZ ai (i_ r) ?_);intro z2 ae ac;have e2:X al z2:=ac.ext ((X.refl _).alloc _) l5;go_wp2_with fail;go_meet;exact⟨_,r,0,F,F,ae,gv.ext e2,.inr ⟨aq,F,x,by rw[Int.toNat_natCast];exact dm,dl⟩,R.ext e2⟩
 case rest=>
 obtain⟨dy,r,bc,rfl,rfl,dr,ef,bt,cb⟩:=hcut;obtain⟨eh,f2⟩:=aC wc;rw[f2]at dr ef cb⊢;obtain⟨co,b9,cz,cD,eE,cr⟩:=iq dr ef bt (cC.ext cb) (eC.ext cb) (eo.ext cb);clear f2 wc dr ef bt cb cC eC eo;go_upto_region 27 with fail;go_cut [19,20] (fun hE hG wx=>∃(az:Nat) (i m e:Int) (aw:aN) (a7 a6:Nat),hE= .pointer (some ⟨az,0,none⟩)/\hG= .int .i64 e/\w2.heap.size<=az/\ah wx az (gT i m (.slice aw a7 a6)) 61/\((¬(0<=I/\I<(k:Int))/\e=7)∨((0<=I/\I<(k:Int))/\e=0/\i=I/\m=(k:Int)/\a7=(gX iO (qM es) I.toNat).length/\aK wx aw (dB (gX iO (qM es) I.toNat))))/\X eh wx)
 case first=>
  as_aux_lemma=>
   by_cases aq:0<=I/\I<(k:Int)
   case neg=>
    go_wp2_with fail;refine(wT _ g af I eh cD (by rw[an.out];omega) (by rw[an.out];omega)).mono ?_;rintro x al ⟨rfl,R⟩;go_wp2_with (refine bg F _ (.tmp 19) _ F F F (ah.aI (vs:=gT 0 0 (.slice none 0 0)) F F) iN F (xs:=gT 0 0 (.slice none 0 0)) F (jN 0 0 none 0 0) ?_);intro z2 ae ac;have e2:X al z2:=ac.ext ((X.refl _).alloc _) l5;go_wp2_with fail;go_meet;exact⟨_,0,0,7,none,0,0,F,F,Nat.le_trans cr.size R.size,ae,.inl ⟨aq,F⟩,R.ext e2⟩
   case pos=>
    obtain⟨K,cd⟩:∃K:Nat,I=(K:Int):=⟨I.toNat,J⟩;subst cd;go_wp2_with fail;refine(w9 _ g af K eh cD (by rw[an.out];omega)).mono ?_;rintro x al ⟨v,rfl,ow,R⟩;rw[dd.out]at ow;rw[an.out];obtain⟨aw,a6,rfl, -, -,fR⟩:=iJ ow;have di:=O fR;clear ow fR;obtain⟨a7,fS⟩:=aC ((gX iO (qM es) K).length);rw[fS];go_wp2_with (refine bg F _ (.tmp 19) _ F F F (ah.aI (vs:=gT 0 0 (.slice none 0 0)) F F) iN F (xs:=gT K k (.slice aw a7 a6)) F (jN K k aw a7 a6) ?_);intro z2 ae ac;have e2:X al z2:=ac.ext ((X.refl _).alloc _) l5;go_wp2_with fail;go_meet;exact⟨_,(K:Int),(k:Int),0,aw,a7,a6,F,F,Nat.le_trans cr.size R.size,ae,.inr ⟨aq,F,F,F,by rw[Int.toNat_natCast];exact fS.symm,by rw[Int.toNat_natCast];exact di.ext e2⟩,R.ext e2⟩
 case rest=>
 obtain⟨az,hp,hq,fb,aw,a7,a6,rfl,rfl,d0,ds,bt,a_⟩:=hcut;obtain⟨a8,f3⟩:=aC wc;rw[f3]at ds bt a_⊢;obtain⟨ao,cA,co,b9,eN,b2,ep⟩:=su ds bt (co.ext a_) (b9.ext a_) (cD.ext a_) (eE.ext a_) (cr.ext a_);clear f3 wc ds bt a_ cD eE cr;obtain⟨b',aE⟩:=jE (decide (¬(0<=I/\I<(k:Int))):Bool);go_upto_region 28 with fail;go_cut [144] (fun hB wx=>hB= .bool b'/\a8=wx)
 case first=>
  as_aux_lemma=>
   by_cases h1:I<0
   ·have ca:decide (I<0)=true:=aQ h1;have hb:b'=true:=by rw[aE];exact aQ J
    clear aE;subst hb;go_wp2_with fail;go_meet;exact⟨F,F⟩
   ·have ca:decide (I<0)=false:=aP h1;have hb:decide ((k:Int)<=I)=b':=by
     rw[aE];by_cases h2:(k:Int)<=I
     ·rw[aQ h2];exact(aQ J).symm
     ·rw[aP h2];exact(aP J).symm
    clear aE;go_wp2_with fail;go_meet;exact⟨F,F⟩
 case rest=>
 obtain⟨rfl,rfl⟩:=hcut;go_upto_if 144 with fail;go_cut [] (fun wx=>X a8 wx)
 case first=>
  as_aux_lemma=>
   cases b' with
   |true=>
    have fN:¬(0<=I/\I<(k:Int)):=of_decide_eq_true aE.symm;obtain rfl:bc=7:=by
     rcases cz.out with⟨-,h⟩|⟨h, -⟩
     ·exact h
     ·exact absurd h fN
    obtain rfl:fb=7:=by
     rcases cA.out with⟨-,h⟩|⟨h, -⟩
     ·exact h
     ·exact absurd h fN
    clear aE;go_wp2_with fail;go_meet;exact X.refl _
   |false=>
    have aq:0<=I/\I<(k:Int):=Decidable.of_not_not (of_decide_eq_false aE.symm);clear aE;obtain⟨K,cd⟩:∃K:Nat,I=(K:Int):=⟨I.toNat,J⟩;subst cd;obtain⟨rfl,x,hx,cj⟩:bc=0/\∃x,es[((K:Int)).toNat]? =some x/\r.p=x.p:=by
     rcases cz.out with⟨h, -⟩|⟨-,h,h2⟩
     ·exact absurd aq h
     ·exact⟨h,h2⟩
    obtain⟨rfl,rfl,rfl,rfl,d4⟩:fb=0/\hp=(K:Int)/\hq=(k:Int)/\a7=(gX iO (qM es) ((K:Int)).toNat).length/\aK a8 aw (dB (gX iO (qM es) ((K:Int)).toNat)):=by
     rcases cA.out with⟨h, -⟩|⟨-,h⟩
     ·exact absurd aq h
     ·exact h
    rw[Int.toNat_natCast]at hx d4 ao;have fl:K<k:=J;obtain⟨A,rfl,nu⟩:=b2.at hx;obtain⟨rz,eV⟩:=aB nu (b2.ok x (mem_of_getElem? hx));obtain⟨bp,ai⟩:=aB (aG.len eV) (aG.len b9);have f1:kg r.p x.p=true:=(nL r.p x.p).2 cj;obtain⟨di,b7,dl⟩:=aW d4 (e0 K) (fun dt dp E vD h1 h2=>Bp k (qM es) K dt dp E cG fl J (MC es) vD h1 h2);have za:(gX iO (qM es) K).length<=k:=mo iO k _ K cG;have d6:(gX iO (qM es) K==gX iO (qM es) K)=true:=beq_self_eq_true _;clear aq nu hx cj d4 cz cA dj;generalize gX iO (qM es) K=a0 at*;have e3:=O (fun E (R:X a8 E)=>rT r x E (b9.ext R) (eV.ext R));rw[f1]at e3;have hz:((K:Int)==(K:Int))=true:=beq_self_eq_true _;have hY:((k:Int)==(k:Int))=true:=beq_self_eq_true _;have cL:=O za;clear f1 za;go_upto_region 31 with fail;obtain⟨C,iB,aJ,bP⟩:=iw (show bT a8 a8 [] [] a8 from bT.jA (X.refl _) (dV.none _));have gE:∀E,C E->E.cell? ⟨az,0,none⟩=some (.int .i64 (K:Int)):=fun E h1=>(ao.ext ((iB E).1 h1).base).cell' F;have gO:∀E,C E->E.cell? ⟨az,1,none⟩=some (.int .i64 (k:Int)):=fun E h1=>(ao.ext ((iB E).1 h1).base).cell' F;have gR:∀E,C E->E.cell? ⟨az,2,none⟩=some (.slice aw a0.length a6):=fun E h1=>(ao.ext ((iB E).1 h1).base).cell' F;refine fJ fun Z=> ?_;refine aA 0 ?_;refine aA 1 ?_;refine aA 2 ?_;refine aA 3 ?_;refine aA 4 ?_;refine aA 5 ?_;refine aA 6 ?_;refine aA 8 ?_;refine aA 9 ?_;refine bD 10 F (bf F (fun E _=>fP (i:=K) F F F underlying24 r9 fl E)) ?_;refine bD 11 F (bf F (fun E h=>bQ F F (rz.ext ((iB E).1 h).base) cZ bp)) ?_;refine bD 7 F (bf F (fun E h=>bQ F F (dF (off:=0) (n:=68) (xs:=r.v) (co.ext ((iB E).1 h).base) (by rw[drop_zero,take_of_length_le (by rw[ai.out];exact Nat.le_refl _)])) cZ ai)) ?_
    generalize World.drew a8=gf at Z⊢;refine aZ 12 ?_;intro ad ab;go_wp2_with fail;refine(e3 gf ((iB gf).1 Z).base).mono ?_;rintro br al ⟨rfl,R⟩;have aa:=aJ _ _ Z R;go_wp2_with fail;refine ab _ _ aa ?_;clear ab ad Z R;have Z:=aa;clear aa;refine aH ?_;refine aA 13 ?_;refine aA 14 ?_;refine aA 15 ?_;refine aA 16 ?_;refine dA 17 (gE) ?_;refine aA 18 ?_;refine aA 19 ?_;refine aA 20 ?_;refine aA 21 ?_;refine aA 22 ?_;refine dA 23 (gO) ?_;refine aA 24 ?_;refine aA 25 ?_;refine aA 26 ?_;refine aA 27 ?_;refine aA 28 ?_;refine aA 29 ?_;refine dA 30 (gR) ?_;refine aA 31 ?_;refine aA 33 ?_;refine aZ 32 ?_;intro ad ab;go_wp2_with fail;refine(b5 al (b2.ext ((iB al).1 Z).base)).mono ?_;rintro br z2 ⟨v2,rfl,bd,e2⟩;obtain⟨ed,ee,rfl,d2, -,Dk⟩:=iJ bd;have FR:=TU bd;have da:=O Dk;have aa:=aJ _ _ Z e2;go_wp2_with fail;refine ab _ _ aa ?_;clear ab ad Z e2 bd Dk;have Z:=aa;clear aa;refine aH ?_;refine aZ 34 ?_;intro ad ab;go_wp2_with fail;refine(dl ee ed z2 d2 FR da).mono ?_;rintro br cn ⟨v3,rfl,bu,a2⟩;obtain⟨bv,bw,rfl, -, -,ci⟩:=iJ bu;have gt:=O ci;have aa:=aJ _ _ Z a2;go_wp2_with fail;refine ab _ _ aa ?_;clear ab ad Z a2 bu ci;have Z:=aa;clear aa;refine aH ?_;refine aZ 35 ?_;intro ad ab;go_wp2_with fail;refine(p8 a0 a0 aw bv a0.length a0.length a6 bw cn F F (by have:=cL.out;omega) b7 b7 (di.ext ((iB cn).1 Z).base) gt).mono ?_;rintro br ej ⟨rfl,ax⟩;rw[d6];have aa:=aJ _ _ Z ax;go_wp2_with fail;refine ab _ _ aa ?_;clear ab ad Z ax;have Z:=aa;clear aa;refine aH ?_;refine aA 36 ?_;refine aA 37 ?_;refine dH ?_
    have c6:=O ((iB ej).1 Z).base;clear Z aJ iB bP;go_wp2_with fail;go_meet;exact c6
 case rest=>
 obtain⟨gc,f4⟩:=aC wc;rw[f4]at hcut⊢;obtain⟨ao,cE,c7,cs⟩:=bU (ao.ext hcut) (eN.ext hcut) (b2.ext hcut) (ep.ext hcut);clear f4 wc hcut eN b2 ep co b9 cz cA aE b' e0 eJ eW;by_cases aq:1<=a5/\a5<=(k:Int)
 case neg=>
  go_wp2_with fail;refine(Mg _ g af a5 gc cE (by rw[an.out];omega) (by rw[an.out];omega)).mono ?_;rintro x al ⟨rfl,R⟩;obtain⟨bh,bz⟩:=aB (ao.ext R) (cs.ext R);clear R ao cs cE c7;obtain⟨bb,u7⟩:=aC (decide (a5<1));have vD:bb=false->decide ((k:Int)<a5)=true:=fun h=>by
   rw[h]at u7;have:=of_decide_eq_false u7;exact aQ J
  cases bb with
  |true=>
   clear vD;go_wp2_with (refine bg F _ (.tmp 19) _ F F F bh iN F (xs:=gT 0 0 (.slice none 0 0)) F (jN 0 0 none 0 0) ?_);intro z2 ae ac;have bj:=O (ac.ext bz d0);clear ae ac;go_wp2_with fail
   (try go_ret)
   exact⟨F,cV.ext bj⟩
  |false=>
   have vD:=vD F;go_wp2_with (refine bg F _ (.tmp 19) _ F F F bh iN F (xs:=gT 0 0 (.slice none 0 0)) F (jN 0 0 none 0 0) ?_);intro z2 ae ac;have bj:=O (ac.ext bz d0);clear ae ac;go_wp2_with fail
   (try go_ret)
   exact⟨F,cV.ext bj⟩
 case pos=>
  obtain⟨M,g8⟩:∃M:Nat,a5=(M:Int):=⟨a5.toNat,J⟩;subst g8;have fm:1<=M/\M<=k:=⟨J,J⟩;go_wp2_with fail;refine(wN _ g af M gc cE (by rw[an.out];omega)).mono ?_;rintro x al ⟨v,rfl,ow,R⟩;rw[dd.out]at ow;rw[an.out];obtain⟨bv,bw,rfl, -, -,ci⟩:=iJ ow;obtain⟨gp,bh,bz,gh,dg,b7⟩:=iq ci (ao.ext R) (cs.ext R) (c7.ext R) ow (dj M true);have za:(iA iO (qM es) M true).length<=k+1:=mh iO k _ M true cG;have gw:=O (fun dt dp E vD h1 h2=>Bn k (qM es) M true dt dp E cG fm.1 fm.2 J (MC es) vD h1 h2);have d6:(iA iO (qM es) M true==iA iO (qM es) M true)=true:=beq_self_eq_true _;clear R ow ci ao cs cE c7 dj;generalize iA iO (qM es) M true=a0 at*;have cL:=O za;clear za;obtain⟨ck,d5⟩:=aC a0.length;have dk:=O d5;rw[d5]at dg cL⊢;clear d5;have ca:decide ((M:Int)<1)=false:=aP J;have hP:decide ((k:Int)<(M:Int))=false:=aP J;have hQ:decide (k<M)=false:=aP J;have hR:decide (M<1)=false:=aP J;have hS:decide (M=0)=false:=aP J;have hT:¬M=0:=J;have hz:((M:Int)==(M:Int))=true:=beq_self_eq_true _;go_upto_region 36 with(refine bg F _ (.tmp 19) _ F F F bh iN F (xs:=gT M k (.slice bv ck bw)) F (jN M k bv ck bw) ?_);intro z2 ae ac;obtain⟨bj,ek,e5⟩:=aW (ac.ext bz d0) ae (n_ dg ac bh aX);have gl:=O (ag.ext bj);obtain⟨hZ,h0,Cy, -, -,fW⟩:=iJ e5;injection Cy with hj hm hl;subst hj;subst hl;clear hm;have gr:=O fW;clear ae ac bz bh gh dg gp e5 fW;go_upto_region 36 with fail;obtain⟨C,iB,aJ,bP⟩:=iw (show bT z2 z2 [] [] z2 from bT.jA (X.refl _) (dV.none _));have gS:∀E,C E->E.cell? ⟨az,0,none⟩=some (.int .i64 (M:Int)):=fun E h1=>(ek.ext ((iB E).1 h1).base).cell' F
  have gC:∀E,C E->E.cell? ⟨az,2,none⟩=some (.slice bv ck bw):=fun E h1=>(ek.ext ((iB E).1 h1).base).cell' F;refine fJ fun Z=> ?_;refine aA 0 ?_;refine aA 1 ?_;refine aA 2 ?_;refine aA 3 ?_;refine dA 4 (gS) ?_;refine aA 5 ?_;refine aA 6 ?_;refine aA 7 ?_;refine aA 8 ?_;refine aA 9 ?_;refine dA 10 (gC) ?_;refine aA 11 ?_;refine aA 13 ?_;generalize World.drew z2=cn at Z⊢;refine aZ 12 ?_;intro ad ab;go_wp2_with fail;refine(b5 cn (gl.ext ((iB cn).1 Z).base)).mono ?_;rintro br ej ⟨v2,rfl,bd,e2⟩;obtain⟨ed,ee,rfl,d2, -,Dk⟩:=iJ bd;have FR:=TU bd;have da:=O Dk;have aa:=aJ _ _ Z e2;go_wp2_with fail;refine ab _ _ aa ?_;clear ab ad Z e2 bd Dk;have Z:=aa;clear aa;refine aH ?_;refine aZ 14 ?_;intro ad ab;go_wp2_with fail;refine(gw ee ed ej d2 FR da).mono ?_;rintro br gg ⟨v3,rfl,bu,a2⟩;rw[dk.out]at bu;obtain⟨g2,g7,rfl, -, -,fs⟩:=iJ bu;have gm:=O fs;have aa:=aJ _ _ Z a2;go_wp2_with fail;refine ab _ _ aa ?_;clear ab ad Z a2 bu fs;have Z:=aa;clear aa;refine aH ?_;refine aZ 15 ?_;intro ad ab;go_wp2_with fail;refine(p8 a0 a0 bv g2 ck ck bw g7 gg dk dk (by have:=cL.out;omega) b7 b7 (gr.ext ((iB gg).1 Z).base) gm).mono ?_;rintro br hO ⟨rfl,ax⟩;rw[d6];have aa:=aJ _ _ Z ax;go_wp2_with fail;refine ab _ _ aa ?_;clear ab ad Z ax;have Z:=aa;clear aa;refine aH ?_;refine aA 16 ?_;refine aZ 17 ?_;intro ad ab;go_wp2_with (fail);refine ab _ _ Z ?_;clear ab ad;refine aH ?_;refine dH ?_;have c6:=O (bj.ext ((iB hO).1 Z).base);clear Z aJ iB bP;go_wp2_with fail
  (try go_ret)
  exact⟨F,cV.ext c6⟩
end Go.Proofs.YtjlhhnkhcbpnjaaGreatDoor
