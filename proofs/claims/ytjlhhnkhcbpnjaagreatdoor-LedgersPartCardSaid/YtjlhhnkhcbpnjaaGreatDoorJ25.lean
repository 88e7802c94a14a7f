/- Laws that the row leans on; no condition. -/
import Derived.Test.YtjlhhnkhcbpnjaaGreatDoorJ24
namespace Go.Proofs.YtjlhhnkhcbpnjaaGreatDoor
open Go Go.RowKit List Tryz
set_option linter.unusedVariables false
set_option linter.unusedSectionVars false
set_option linter.unusedSimpArgs false
set_option maxHeartbeats 40000000
set_option maxRecDepth 100000
theorem Td{a:Int}:EF a=true↔a∈([1,2,3,8,11,12]:List Int):=by
 unfold EF;simp[or_assoc]
theorem Tf{x y:aj}(j:x.length=16)(u:y.length=16)(w:World):(binOp .neq 29 (.agg (x.map Y).toArray) (.agg (y.map Y).toArray)).run prog w= .ok (.bool (decide (x≠y))) w:=by
 rw[vY underlying29 x y j u w]
 congr 1
 by_cases h:x=y<;>simp[h]
theorem aaY{x:aj}(h:x.length=16)(w:World):(binOp .neq 29 (.agg (x.map Y).toArray) (.agg (List.replicate 16 (.int .u8 0)).toArray)).run prog w= .ok (.bool (decide (x≠fO))) w:=by
 have j:(List.replicate 16 (Value.int .u8 0))=fO.map Y:=by simp[fO,Y]
 rw[j];exact Tf h (by simp[fO]) w
theorem yT(k:bC):∀v∈k.v,v.oneCell'=true:=by
 intro v j;unfold bC.v at j;simp only[mem_append,mem_cons,mem_map]at j;rcases j with⟨a,_,rfl⟩|rfl|rfl|⟨a,_,rfl⟩|rfl|rfl|⟨a,_,rfl⟩<;>rfl
theorem LW(s:ByteArray):aY s.data.toList=s:=by
 apply ByteArray.ext;simp[aY]
theorem LX:∀xs ys:List aS,jY (xs.map aS.bare) ys=jY xs ys
 |[],[]=>rfl
 |[],_::_=>rfl
 |_::_,[]=>rfl
 |x::xs,y::ys=>by
  show(vG x.bare y&&jY (xs.map aS.bare) ys)=(vG x y&&jY xs ys);rw[LX xs ys];rfl
theorem Ti{rs j:List aS}(h:rs.map aS.bare=j)(n:Nat):lH j n=lH rs n:=by
 unfold lH;rw[KW h,<-h,Ic,LX]
theorem aaZ{rs j:List aS}(h:rs.map aS.bare=j)(n:Nat):lI j n=lI rs n:=by
 unfold lI;rw[Ti h,<-h,Ic]
theorem aa0(p:Nat)(S:aV)(e:aG)(w:World)(h:dJ w p S)(af:e.Ok w)(eJ:mJ w):
 Calls prog 83 #[.pointer (some ⟨p,0,none⟩),.agg e.v.toArray] w fun x w'=>x= .returned (.int .i64 (S.p.ref e))/\X w w':=by
 obtain⟨co,b2,ej,e6,b4,cn,az,el⟩:=jg (aG.len af) af eJ h (And.intro h.hl h.hf) (show(e.bI.map Y).length=16 by rw[length_map,af.ha]) (show(e.key.map Y).length=16 by rw[length_map,af.hk]) (show(e.prev.map Y).length=32 by rw[length_map,af.hp]);obtain⟨ek,cl,aw,eh,en,ft,fm,c0⟩:=jg (show(S.last.map Y).length=32 by rw[length_map,h.hl]) (aG.Eh af) (aG.wB af) (aG.BH af) (aV.last_at h.hl) (aG.zV af) (fun I (dk:X w I)=>(h.ext dk).EL (id:=e.bI) af.ha true) (fun I (dk:X w I)=>(h.ext dk).Lr (id:=e.key) af.hk true);obtain⟨dd,ei,b5,eE,b3⟩:=dM (fun I=>LG af.hp h.hl I) (fun I=>SL af.hk I) (fun I=>aaY af.hk I) (fun I (ab:e.Ok I)=>Ei e I ab) (h.Il e.key);obtain⟨V,cv⟩:=aC (S.p.ref e);rw[cv];unfold dw.ref at cv;rw[show S.p.cnt=S.cnt from F,show S.p.last=S.last from F,show S.p.tm=S.tm from F,show S.p.ks=S.ks from F,show bW S.p.ms e.bI=(bW S.ms e.bI).map iF.l from EK iF.l S.ms e.bI,Option.isNone_map]at cv;obtain⟨cU,db⟩:=aB cv (fun b':dN e=0=>qy af b');have da:=O (fun b':dN e=0=>show(kE kF e.act e.body).2=0 by
  obtain⟨fS,fW,fX,fY,f0,f1,f2⟩:=qy af b';unfold dN at b';rw[if_neg (by unfold dR;simp;omega)]at b';exact b')
 clear h af eJ cv;go_enter func83,ntmps83;go_upto_region 1 with fail;generalize ds:World.alloc w _=dy;have ez:ah dy w.heap.size e.v 34:=by rw[<-ds];exact ah.aI F F
 have dl:X w dy:=by rw[<-ds];exact(X.refl w).alloc _
 obtain⟨c3,c9,er⟩:=aW ez dl (e6.ext dl);clear ds ez dl;generalize w.heap.size=G3 at*;go_wp2_with (refine bV F 34 _ F F c3 cZ co ?_);refine(eE dy (b2.ext c9)).mono ?_;rintro a9 fp ⟨rfl,u⟩;obtain⟨cE,cL,et⟩:=aW (c3.ext u) (c9.ext u) (er.ext u);clear u c3 c9 er;clear eE;by_cases bu:dN e≠0
 ·skip
  have j:=cU.out;rw[if_pos bu]at j;have ac:=O j;have eV:(dN e != 0)=true:=by simp;exact bu
  have n2:decide (dN e=0)=false:=aP bu;generalize dN e=E at*;clear bu j cU db da;go_wp2_with fail;go_ret;exact⟨by rw[<-ac.out];first|rfl|simp,cL⟩
 have cY:dN e=0:=Classical.not_not.1 bu;have j:=cU.out;rw[if_neg bu]at j;obtain⟨eo,fN,e7⟩:=aW j (db cY) (da cY);rw[cY];clear bu cY j cU db da;have dq:=O (fun I (ab:X w I)=>GH e.act e.body e.ba e.bn e.bc I b2.hb b2.hbc b2.bE (b2.hcl.ext ab));rw[e7.out]at dq;have al:=cE.cell' (aG.at2 e);have fv:=cE.cell' ft;go_wp2_with fail;refine(dq fp cL).mono ?_;rintro a9 v2 ⟨r,rfl,dm,eN,dp,eQ,u⟩;obtain⟨ax,e4⟩:=aB dm (show r.p=mO e from eQ);have eb:=O dp.cells;have cp:=O (ay.len (dm.ok eN dp));clear dm eN dp eQ dq al fv;obtain⟨d6,ef,ey⟩:=aW (cE.ext u) (cL.ext u) (et.ext u);clear u cE cL et;go_wp2_with (refine bg F _ _ _ F F F (ah.aI (vs:=dI.v) F F) eP fM (xs:=r.v) cp (lD r) ?_);intro v3 ae a1;have u:X v2 v3:=a1.ext ((X.refl v2).alloc _) bG;have d2:=O ae;clear ae a1;obtain⟨c4,c_,di,ec⟩:=bU (d6.ext u) (ef.ext u) (ey.ext u) (eb.ext u);clear u d6 ef ey eb;generalize v2.heap.size=G6 at*;generalize eR:(bW S.ms e.bI).isSome=eS at*;have e5:=O (show(bW S.ms e.bI).isNone= !eS by rw[<-eR];cases bW S.ms e.bI<;>rfl);clear eR;have j:=eo.out;rw[e5.out,<-e4.out]at j;have df:=O j;clear j eo;go_upto_region 5 with fail;obtain⟨C,aa,aJ⟩:=jJ v3;have eA:∀I,C I->I.cell? ⟨p,51,none⟩=some (.map (some S.gm)):=fun I ab=>((di.ext ((aa I).1 ab)).blk).cell' (aV.mD b4.1 b4.2);refine wp_region_held_drew (S:=C) au ((aa _).2 (X.refl v3).drew) (fun Z=> ?_);refine aA 0 ?_;refine aA 1 ?_;refine aA 2 ?_;refine dA 3 (eA) ?_;refine aA 4 ?_;refine bD 5 F (bf F (fun I h=>bQ F F (dF (c4.ext ((aa I).1 h)) cl) dh cn)) ?_;refine bD 6 F (bf F (fun I h=>vH F F F (fm I (c_.ext ((aa I).1 h))))) ?_
 simp only[if_true];generalize (S.jO e.bI).v=f3 at*;refine aA 7 ?_;refine aA 8 ?_;refine aA 9 ?_;refine aA 10 ?_;refine aA 11 ?_;refine dH ?_;have u:=(aa _).1 Z;generalize a_:World.drew v3=dC at u⊢;clear a_ Z aJ aa eA;obtain⟨c5,eg,dj,ed,d3⟩:=dM (c4.ext u) (c_.ext u) (di.ext u) (ec.ext u) (d2.ext u);clear u c4 c_ di ec d2;go_upto_region 6 with fail;obtain⟨C,aa,aJ⟩:=jJ dC;have k1:∀I,C I->I.cell? ⟨G3,0,none⟩=some (.int .i64 e.num):=fun I ab=>(c5.ext ((aa I).1 ab)).cell' (aG.aL e);have k2:∀I,C I->I.cell? ⟨p,0,none⟩=some (.int .i64 (S.cnt:Int)):=fun I ab=>((dj.ext ((aa I).1 ab)).blk).cell' (aV.aL S);refine wp_region_held_drew (S:=C) au ((aa _).2 (X.refl dC).drew) (fun Z=> ?_);refine aA 0 ?_;refine dA 1 (k1) ?_;refine aA 2 ?_;refine aA 3 ?_;refine aA 4 ?_;refine dA 5 (k2) ?_;refine aA 6 ?_;refine aA 7 ?_;refine dH ?_;have u:=(aa _).1 Z;generalize a_:World.drew dC=cf at u⊢;clear a_ Z aJ aa k1 k2;obtain⟨b1,ck,b8,cH,cD⟩:=dM (c5.ext u) (eg.ext u) (dj.ext u) (ed.ext u) (d3.ext u);clear u c5 eg dj ed d3;by_cases bj:e.num=(S.cnt:Int)
 case neg=>
  have e8:(e.num != (S.cnt:Int))=true:=by simp;exact bj
  have e_:decide (e.num=(S.cnt:Int))=false:=aP bj;have j:=df.out;rw[if_pos (show e.num≠(S.cnt:Int)from bj)]at j;have ac:=O j;clear j bj;go_wp2_with fail;go_ret;exact⟨by rw[<-ac.out];first|rfl|simp,ck⟩
 have e8:(e.num != (S.cnt:Int))=false:=by simp;exact bj
 have e_:decide (e.num=(S.cnt:Int))=true:=aQ bj;have j:=df.out;rw[if_neg (fun h=>h bj)]at j;have cV:=O j;clear j bj df;by_cases cb:e.prev=S.last
 case neg=>
  have R:=dd.out;rw[show decide (e.prev≠S.last)=true from aQ cb]at R;replace R:=O R;have j:=cV.out;rw[if_pos (show e.prev≠S.last from cb)]at j;have ac:=O j;clear j cb cV;go_upto_region 8 with fail;obtain⟨C,aa,aJ⟩:=jJ cf;refine wp_region_held_drew (S:=C) au ((aa _).2 (X.refl cf).drew) (fun Z=> ?_);refine aA 0 ?_;refine bD 1 F (bf F (fun I h=>bQ F F (dF (b1.ext ((aa I).1 h)) eh) bY el)) ?_;refine aA 2 ?_;refine aA 3 ?_;refine aA 4 ?_;refine bD 5 F (bf F (fun I h=>bQ F F (dF ((b8.ext ((aa I).1 h)).blk) en) bY ek)) ?_;refine bD 6 F (bf F (fun I _=>jm F F F CO R I)) ?_;refine aA 7 ?_;refine dH ?_;have u:=(aa _).1 Z;generalize a_:World.drew cf=c1 at u⊢;clear a_ Z aJ aa;obtain⟨cG,cP,cX,c7,c2⟩:=dM (b1.ext u) (ck.ext u) (b8.ext u) (cH.ext u) (cD.ext u);clear u b1 ck b8 cH cD;go_wp2_with fail;go_ret;exact⟨by rw[<-ac.out];first|rfl|simp,cP⟩
 have R:=dd.out;rw[show decide (e.prev≠S.last)=false from aP (fun h=>h cb)]at R;replace R:=O R;have j:=cV.out;rw[if_neg (fun h=>h cb)]at j;have dg:=O j;clear j cb cV;go_upto_region 8 with fail;obtain⟨C,aa,aJ⟩:=jJ cf;refine wp_region_held_drew (S:=C) au ((aa _).2 (X.refl cf).drew) (fun Z=> ?_);refine aA 0 ?_;refine bD 1 F (bf F (fun I h=>bQ F F (dF (b1.ext ((aa I).1 h)) eh) bY el)) ?_;refine aA 2 ?_;refine aA 3 ?_;refine aA 4 ?_;refine bD 5 F (bf F (fun I h=>bQ F F (dF ((b8.ext ((aa I).1 h)).blk) en) bY ek)) ?_;refine bD 6 F (bf F (fun I _=>jm F F F CO R I)) ?_;refine aA 7 ?_;refine dH ?_;have u:=(aa _).1 Z;generalize a_:World.drew cf=c1 at u⊢;clear a_ Z aJ aa;obtain⟨cG,cP,cX,c7,c2⟩:=dM (b1.ext u) (ck.ext u) (b8.ext u) (cH.ext u) (cD.ext u);clear u b1 ck b8 cH cD;clear R dd;go_upto_region 10 with fail;obtain⟨C,aa,aJ⟩:=jJ c1;have k1:∀I,C I->I.cell? ⟨G3,1,none⟩=some (.int .i64 e.time):=fun I ab=>(cG.ext ((aa I).1 ab)).cell' (aG.rH e);have k2:∀I,C I->I.cell? ⟨p,1,none⟩=some (.int .i64 S.tm):=fun I ab=>((cX.ext ((aa I).1 ab)).blk).cell' (aV.rH S);refine wp_region_held_drew (S:=C) au ((aa _).2 (X.refl c1).drew) (fun Z=> ?_);refine aA 0 ?_;refine dA 1 (k1) ?_;refine aA 2 ?_;refine aA 3 ?_;refine aA 4 ?_;refine dA 5 (k2) ?_;refine aA 6 ?_;refine aA 7 ?_;refine dH ?_;have u:=(aa _).1 Z;generalize a_:World.drew c1=e0 at u⊢;clear a_ Z aJ aa k1 k2;obtain⟨an,bc,aE,cI,ba⟩:=dM (cG.ext u) (cP.ext u) (cX.ext u) (c7.ext u) (c2.ext u);clear u cG cP cX c7 c2;by_cases bx:e.time<S.tm
 ·skip
  have e':decide (e.time<S.tm)=true:=aQ bx;have fa:decide (S.tm<=e.time)=false:=aP J;have fb:¬S.tm<=e.time:=J;have fR:e.time<S.tm:=bx;have j:=dg.out;rw[if_pos bx]at j;have ac:=O j;clear j bx;go_wp2_with fail;go_ret;exact⟨by rw[<-ac.out];first|rfl|simp,bc⟩
 have e':decide (e.time<S.tm)=false:=aP bx;have fa:decide (S.tm<=e.time)=true:=aQ J;have fb:S.tm<=e.time:=J;have j:=dg.out;rw[if_neg bx]at j;have b7:=O j;clear j bx dg;by_cases ag:S.cnt=0
 ·skip
  have fc:((S.cnt:Int)==0)=true:=by simp;exact ag
  have fd:decide ((S.cnt:Int)=0)=true:=by simp;exact ag
  have fe:decide ((S.cnt:Int)>0)=false:=by simp;omega
  have ff:decide ((0:Int)<(S.cnt:Int))=false:=by simp;omega
  have fg:decide (S.cnt=0)=true:=by simp;exact ag
  have fh:decide (0<S.cnt)=false:=by simp;omega
  have e9:(S.cnt==0)=true:=by simp;exact ag
  by_cases a3:e.act=2
  case neg=>
   have fi:(e.act != 2)=true:=by simp;exact a3
   have fj:decide (e.act=2)=false:=aP a3;have j:=b7.out;rw[if_pos ⟨ag,a3⟩]at j;have ac:=O j;clear j ag a3 b7;have ar:=aE.blk.cell' (aV.aL S);have al:=an.cell' (aG.at2 e);go_wp2_with fail;go_ret;exact⟨by rw[<-ac.out];first|rfl|simp,bc⟩
  have fi:(e.act != 2)=false:=by simp;exact a3
  have fj:decide (e.act=2)=true:=aQ a3;have j:=b7.out;rw[if_neg (fun h=>h.2 a3)]at j;have a5:=O j;clear j b7;obtain⟨cS,cQ⟩:=aB (show(r.member.map Y).length=16 by rw[length_map,ax.hm]) (ay.Ls ax.hm);have b6:=fun I=>Tf ax.hm b2.ha I;by_cases cc:r.member=e.bI
  case neg=>
   rw[show decide (r.member≠e.bI)=true from aQ cc]at b6;have R:=O b6;have j:=a5.out;rw[if_pos (.inl ⟨ag,cc⟩)]at j;have ac:=O j;clear j ag a3 cc a5 b6;have ar:=aE.blk.cell' (aV.aL S);have al:=an.cell' (aG.at2 e);go_wp2_with (first|(refine bF F (bQ F F (dF ba cQ) dh cS) ?_)|(refine bF F (bQ F F (dF an cl) dh cn) ?_)|(refine bF F (jm F F F oD R _) ?_)|(refine jU F (bQ F F (dF ba cQ) dh cS) ?_)|(refine jU F (bQ F F (dF an cl) dh cn) ?_)|(refine jU F (jm F F F oD R _) ?_));go_ret;exact⟨by rw[<-ac.out];rfl,bc⟩
  rw[show decide (r.member≠e.bI)=false from aP (fun h=>h cc)]at b6;have R:=O b6;have j:=a5.out;rw[if_neg (by rintro(⟨_,h⟩|⟨h,_⟩);exact h cc;omega)]at j;obtain⟨cq,br⟩:=aB j a3;clear j ag a3 cc a5 b6;have ar:=aE.blk.cell' (aV.aL S);have al:=an.cell' (aG.at2 e);go_upto_region 14 with fail;go_upto_region 17 with(first|(refine bF F (bQ F F (dF ba cQ) dh cS) ?_)|(refine bF F (bQ F F (dF an cl) dh cn) ?_)|(refine bF F (jm F F F oD R _) ?_)|(refine jU F (bQ F F (dF ba cQ) dh cS) ?_)|(refine jU F (bQ F F (dF an cl) dh cn) ?_)|(refine jU F (jm F F F oD R _) ?_));have cw:=O (fun a I ab=>Es e.act [1,2,3,8,11,12] a 6 6 I F J ab);have ar:=aE.blk.cell' (aV.aL S);have al:=an.cell' (aG.at2 e);go_upto_region 17 with fail;go_wp2_with (first|(refine bF F (kT F F (gW al ((X.refl _).alloc _)) BR) ?_));refine(cw _ _ (aK.eG (vs:=([1,2,3,8,11,12]:List Int).map lN) (ah.aI F F))).mono ?_;rintro a9 a2 ⟨ca,rfl,aq,cA⟩;have u:X e0 a2:=by rw[<-cA];exact(X.refl _).alloc _
  have cm:=O (show EF e.act=ca from Bool.eq_iff_iff.2 (Td.trans aq.symm));clear cA cw ar al aq;obtain⟨bl,bm,bt,cj,cg⟩:=dM (an.ext u) (bc.ext u) (aE.ext u) (cI.ext u) (ba.ext u);clear u an bc aE cI ba;obtain⟨k,hk⟩:=aC (S.uI e.key);generalize cz:(bW S.ks e.key).isSome=bw at*;have dc:=O (show bW S.ks e.key=if bw=true then some k else none by
   rw[<-cz,<-hk];unfold aV.uI;cases bW S.ks e.key<;>rfl)
  rw[hk]at b3;obtain⟨de,cR⟩:=aB (fun I ab=>(c0 I ab).trans (by rw[hk];rfl:_=Result.ok (Value.tuple #[.agg k.v.toArray,.bool bw]) I)) (bC.len b3);clear hk cz c0;go_upto_region 18 with fail;obtain⟨C,aa,aJ,bP⟩:=iw (show bT a2 a2 [] [] a2 from bT.jA (X.refl _) (dV.none _));have cr:∀I,C I->I.cell? ⟨p,52,none⟩=some (.map (some S.gk)):=fun I ab=>((bt.ext ((aa I).1 ab).base).blk).cell' (aV.nV b4.1 b4.2);refine fJ fun Z=> ?_;refine aA 0 ?_;refine aA 1 ?_;refine aA 2 ?_;refine dA 3 (cr) ?_;refine aA 4 ?_;refine bD 5 F (bf F (fun I h=>bQ F F (dF (bl.ext ((aa I).1 h).base) aw) dh az)) ?_;refine bD 6 F (bf F (fun I h=>vH F F F (de I (bm.ext ((aa I).1 h).base)))) ?_;refine aA 7 ?_;refine aA 8 ?_;refine aA 9 ?_;generalize World.drew a2=am at Z⊢;refine aZ 10 ?_;intro bp a0;go_wp2_with fail;refine a0 _ _ (aJ _ _ Z ((X.refl am).alloc _)) ?_;clear a0 bp;generalize bv:World.alloc am _=b0;have ae:ah b0 am.heap.size (bC.zero.v) 159:=by rw[<-bv];exact ah.aI F F
  have ct:C b0:=by rw[<-bv];exact aJ _ _ Z ((X.refl am).alloc _)
  have cs:=((aa am).1 Z).kept.1;have ci:=O ae;clear Z bv ae;have Z:=ct;clear ct;generalize am.heap.size=e1 at*;refine aH ?_;refine aZ 11 ?_;intro bp a0;go_wp2_with (refine bg F _ _ _ F F F ci pX (bC.len bC.vk) cR (yT _) ?_);intro a4 ae a1;replace Z:C a4:=(aa a4).2 (((aa b0).1 Z).upd a1 cs (by first|exact Nat.le_refl _|omega));go_wp2_with fail;refine a0 _ _ Z ?_;have ch:=O ae;clear a0 bp ae a1 ci;refine aH ?_;refine aA 12 ?_;refine dH ?_;have u:=((aa a4).1 Z).base;clear Z aJ aa cr bP cs;obtain⟨ao,ap,bh,cJ,bk⟩:=dM (bl.ext u) (bm.ext u) (bt.ext u) (cj.ext u) (cg.ext u);clear u bl bm bt cj cg;have ar:=bh.blk.cell' (aV.aL S);have al:=ao.cell' (aG.at2 e);have j:=cq.out;rw[dc.out,cm.out]at j;have a6:=O j;clear j cq;have aq:=cm.out;rw[br.out]at aq;obtain rfl:ca=true:=aq.symm;have j:=a6.out;rw[if_neg (fun h=>by have:=br.out;omega),if_neg (by have:=br.out;omega),if_pos F]at j;have ai:=O j;clear j a6 aq;have g1:(e.act==1)=false:=by simp;have:=br.out;omega
  have eC:decide (e.act=1)=false:=by simp;have:=br.out;omega
  have g3:(e.act==4)=false:=by simp;have:=br.out;omega
  have g4:decide (e.act=4)=false:=by simp;have:=br.out;omega
  by_cases ad:e.key=fO
  case neg=>
   have R:=b5.out;rw[show decide (e.key≠fO)=true from aQ ad]at R;replace R:=O R;have j:=ai.out;rw[if_pos (show e.key≠fO from ad)]at j;have ac:=O j;clear j ad ai;go_wp2_with (first|(refine bF F (bQ F F (dF ao aw) dh az) ?_)|(refine bF F (jm F F F oD R _) ?_));go_ret;exact⟨by rw[<-ac.out]<;>rfl,ap⟩
  have R:=b5.out;rw[show decide (e.key≠fO)=false from aP (fun h=>h ad)]at R;replace R:=O R;have j:=ai.out;rw[if_neg (fun h=>h ad)]at j;have be:=O j;clear j ad ai;have cy:=O (fun I (ab:X a4 I)=>Lu p S e r I (bh.ext ab) ax.hm ax.hcm);go_wp2_with (first|(refine bF F (bQ F F (dF ao aw) dh az) ?_)|(refine bF F (jm F F F oD R _) ?_)|(refine bV F 34 (.tmp 3) F F ao cZ co ?_)|(refine bV F 101 (.tmp 6) F F bk eP cp ?_));refine(cy _ (X.refl _)).mono ?_;rintro a9 dE ⟨rfl,u⟩;have bo:=O (ap.ext u);clear u;go_wp2_with fail;go_ret;exact⟨by rw[<-be.out]<;>rfl,bo⟩
 have fc:((S.cnt:Int)==0)=false:=by simp;exact ag
 have fd:decide ((S.cnt:Int)=0)=false:=by simp;exact ag
 have fe:decide ((S.cnt:Int)>0)=true:=by simp;omega
 have ff:decide ((0:Int)<(S.cnt:Int))=true:=by simp;omega
 have fg:decide (S.cnt=0)=false:=by simp;exact ag
 have fh:decide (0<S.cnt)=true:=by simp;omega
 have e9:(S.cnt==0)=false:=by simp;exact ag
 have j:=b7.out;rw[if_neg (fun h=>ag h.1)]at j;have a5:=O j;clear j b7;cases eS with
 |false=>
  have j:=a5.out;rw[if_pos (.inr ⟨J,F⟩)]at j;have ac:=O j;clear j ag a5;have ar:=aE.blk.cell' (aV.aL S);have al:=an.cell' (aG.at2 e);go_wp2_with fail;go_ret;exact⟨by rw[<-ac.out];first|rfl|simp,bc⟩
 |true=>
  have j:=a5.out;rw[if_neg (by rintro(⟨h,_⟩|⟨_,h⟩);exact ag h;cases h)]at j;have cq:=O j;clear j ag a5;have ar:=aE.blk.cell' (aV.aL S);have al:=an.cell' (aG.at2 e);have cw:=O (fun a I ab=>Es e.act [1,2,3,8,11,12] a 6 6 I F J ab);have ar:=aE.blk.cell' (aV.aL S);have al:=an.cell' (aG.at2 e);go_upto_region 17 with fail;go_wp2_with (first|(refine bF F (kT F F (gW al ((X.refl _).alloc _)) BR) ?_));refine(cw _ _ (aK.eG (vs:=([1,2,3,8,11,12]:List Int).map lN) (ah.aI F F))).mono ?_;rintro a9 a2 ⟨ca,rfl,aq,cA⟩;have u:X e0 a2:=by rw[<-cA];exact(X.refl _).alloc _
  have cm:=O (show EF e.act=ca from Bool.eq_iff_iff.2 (Td.trans aq.symm));clear cA cw ar al aq;obtain⟨bl,bm,bt,cj,cg⟩:=dM (an.ext u) (bc.ext u) (aE.ext u) (cI.ext u) (ba.ext u);clear u an bc aE cI ba;obtain⟨k,hk⟩:=aC (S.uI e.key);generalize cz:(bW S.ks e.key).isSome=bw at*;have dc:=O (show bW S.ks e.key=if bw=true then some k else none by
   rw[<-cz,<-hk];unfold aV.uI;cases bW S.ks e.key<;>rfl)
  rw[hk]at b3;obtain⟨de,cR⟩:=aB (fun I ab=>(c0 I ab).trans (by rw[hk];rfl:_=Result.ok (Value.tuple #[.agg k.v.toArray,.bool bw]) I)) (bC.len b3);clear hk cz c0;go_upto_region 18 with fail;obtain⟨C,aa,aJ,bP⟩:=iw (show bT a2 a2 [] [] a2 from bT.jA (X.refl _) (dV.none _));have cr:∀I,C I->I.cell? ⟨p,52,none⟩=some (.map (some S.gk)):=fun I ab=>((bt.ext ((aa I).1 ab).base).blk).cell' (aV.nV b4.1 b4.2);refine fJ fun Z=> ?_;refine aA 0 ?_;refine aA 1 ?_;refine aA 2 ?_;refine dA 3 (cr) ?_;refine aA 4 ?_;refine bD 5 F (bf F (fun I h=>bQ F F (dF (bl.ext ((aa I).1 h).base) aw) dh az)) ?_;refine bD 6 F (bf F (fun I h=>vH F F F (de I (bm.ext ((aa I).1 h).base)))) ?_;refine aA 7 ?_;refine aA 8 ?_;refine aA 9 ?_;generalize World.drew a2=am at Z⊢;refine aZ 10 ?_;intro bp a0;go_wp2_with fail;refine a0 _ _ (aJ _ _ Z ((X.refl am).alloc _)) ?_;clear a0 bp;generalize bv:World.alloc am _=b0;have ae:ah b0 am.heap.size (bC.zero.v) 159:=by rw[<-bv];exact ah.aI F F
  have ct:C b0:=by rw[<-bv];exact aJ _ _ Z ((X.refl am).alloc _)
  have cs:=((aa am).1 Z).kept.1;have ci:=O ae;clear Z bv ae;have Z:=ct;clear ct;generalize am.heap.size=e1 at*;refine aH ?_;refine aZ 11 ?_;intro bp a0;go_wp2_with (refine bg F _ _ _ F F F ci pX (bC.len bC.vk) cR (yT _) ?_);intro a4 ae a1;replace Z:C a4:=(aa a4).2 (((aa b0).1 Z).upd a1 cs (by first|exact Nat.le_refl _|omega));go_wp2_with fail;refine a0 _ _ Z ?_;have ch:=O ae;clear a0 bp ae a1 ci;refine aH ?_;refine aA 12 ?_;refine dH ?_;have u:=((aa a4).1 Z).base;clear Z aJ aa cr bP cs;obtain⟨ao,ap,bh,cJ,bk⟩:=dM (bl.ext u) (bm.ext u) (bt.ext u) (cj.ext u) (cg.ext u);clear u bl bm bt cj cg;have ar:=bh.blk.cell' (aV.aL S);have al:=ao.cell' (aG.at2 e);have j:=cq.out;rw[dc.out,cm.out]at j;have a6:=O j;clear j cq;by_cases a8:e.act=1
  ·skip
   have g1:(e.act==1)=true:=by simp;exact a8
   have eC:decide (e.act=1)=true:=aQ a8;have aq:=cm.out;rw[a8]at aq;obtain rfl:ca=true:=aq.symm;clear aq;have cC:=O a8;clear a8;have am:=bk.cell' (ay.aL r);have dr:=O (fun I (ab:mJ I)=>S_ r.text.data.toList I ab (by rw[Array.length_toList];exact Nat.le_trans ax.ts J));rw[LW]at dr;go_wp2_with fail;refine(dr _ (ej.ext ap)).mono ?_;rintro a9 eW ⟨du,bz,dv,cd,rfl,eL,eM,u⟩;obtain⟨em,e3⟩:=aB eL eM;clear eL eM dr ar al am;obtain⟨d4,ee,ev,d',dT,d7⟩:=iq (ao.ext u) (ap.ext u) (bh.ext u) (cJ.ext u) (bk.ext u) (ch.ext u);clear u ao ap bh cJ bk ch;go_wp2_with (refine bg F _ _ _ F F F (ah.aI (vs:=[.slice none 0 0]) F F) Cj F (xs:=[.slice du bz dv]) F (fun v j=>by simp at j;rw[j];rfl) ?_);intro fr ae a1;have u:X eW fr:=a1.ext ((X.refl _).alloc _) bG;have c6:=O ae;clear ae a1;obtain⟨d5,cM,ew,ea,d0,d8,cT⟩:=su (d4.ext u) (ee.ext u) (ev.ext u) (d'.ext u) (dT.ext u) (d7.ext u) (em.ext u);clear u d4 ee ev d' dT d7 em;generalize eW.heap.size=fz at*;by_cases cx:jH r.text.data.toList=0
   case neg=>
    have eV:(jH r.text.data.toList != 0)=true:=by simp;exact cx
    have n2:decide (jH r.text.data.toList=0)=false:=aP cx;have j:=a6.out;rw[if_pos ⟨cC,by unfold Ih;rw[show r.p.text=r.text from F,n2];rfl⟩]at j;have ac:=O j;clear j a6;generalize jH r.text.data.toList=E at*;go_wp2_with fail;go_ret;exact⟨by rw[<-ac.out];first|rfl|simp,cM⟩
   have eI:Ih r.p.text.data.toList=(decide (lH cd bz=0)&&decide (lI cd bz=r.text.data.toList)):=by
    unfold Ih;rw[show r.p.text=r.text from F,<-e3.out,length_map,cT.hl,Ti F,aaZ F,aQ cx,Bool.true_and]
   have j:=a6.out;rw[eI]at j;have ai:=O j;clear j a6 eI;rw[cx];clear cx;have eK:=O (fun I (ab:lG I du bz dv cd) fk=>Tc du bz dv cd I ab fk);go_wp2_with (refine bV F 152 _ F F c6 Cj F ?_);refine(eK _ cT (ej.ext cM)).mono ?_;rintro a9 fs ⟨rfl,u⟩;obtain⟨cF,cN,ex,fy,d1,fw,fL,fx⟩:=jg (d5.ext u) (cM.ext u) (ew.ext u) (ea.ext u) (d0.ext u) (d8.ext u) (cT.ext u) (c6.ext u);clear u d5 cM ew ea d0 d8 cT c6;clear eK;generalize lH cd bz=c8 at*;generalize lI cd bz=b9 at*;have am:=d1.cell' (ay.aL r);have ar:=ex.blk.cell' (aV.aL S);have al:=cF.cell' (aG.at2 e);by_cases e2:c8=0
   case neg=>
    have eV:(c8 != 0)=true:=by simp;exact e2
    have n2:decide (c8=0)=false:=aP e2;have j:=ai.out;rw[if_pos ⟨cC,by rw[n2];rfl⟩]at j;have ac:=O j;clear j ai e2;go_wp2_with fail;go_ret;exact⟨by rw[<-ac.out];first|rfl|simp,cN⟩
   subst e2;by_cases ce:b9=r.text.data.toList
   case neg=>
    have dt:((aY b9).toList==r.text.toList)=false:=by
     rw[Bool.eq_false_iff];intro h;exact ce (by rw[<-(FQ _ _).1 h];exact(pW b9).symm)
    have fn:((aY b9).toList != r.text.toList)=true:=by unfold bne;rw[dt];rfl
    have j:=ai.out;rw[if_pos ⟨cC,by rw[aP ce];simp⟩]at j;have ac:=O j;clear j ai ce;go_wp2_with fail;go_ret;exact⟨by rw[<-ac.out];first|rfl|simp,cN⟩
   have dt:((aY b9).toList==r.text.toList)=true:=(FQ _ _).2 (by rw[ce,LW]);have fn:((aY b9).toList != r.text.toList)=false:=by unfold bne;rw[dt];rfl
   have j:=ai.out;rw[if_neg (fun h=>by have:=h.2;rw[aQ ce]at this;simp at this),if_neg (by have:=cC.out;omega),if_pos trivial]at j;have a7:=O j;clear j ai ce;by_cases ad:e.key=fO
   case neg=>
    have R:=b5.out;rw[show decide (e.key≠fO)=true from aQ ad]at R;replace R:=O R;have j:=a7.out;rw[if_pos (show e.key≠fO from ad)]at j;have ac:=O j;clear j ad a7;go_wp2_with (first|(refine bF F (bQ F F (dF cF aw) dh az) ?_)|(refine bF F (jm F F F oD R _) ?_));go_ret;exact⟨by rw[<-ac.out]<;>rfl,cN⟩
   have R:=b5.out;rw[show decide (e.key≠fO)=false from aP (fun h=>h ad)]at R;replace R:=O R;have j:=a7.out;rw[if_neg (fun h=>h ad)]at j;have be:=O j;clear j ad a7;have cy:=O (fun I (ab:X fs I)=>Lu p S e r I (ex.ext ab) ax.hm ax.hcm);go_wp2_with (first|(refine bF F (bQ F F (dF cF aw) dh az) ?_)|(refine bF F (jm F F F oD R _) ?_)|(refine bV F 34 (.tmp 3) F F cF cZ co ?_)|(refine bV F 101 (.tmp 6) F F d1 eP cp ?_));refine(cy _ (X.refl _)).mono ?_;rintro a9 dE ⟨rfl,u⟩;have bo:=O (cN.ext u);clear u;go_wp2_with fail;go_ret;exact⟨by rw[<-be.out]<;>rfl,bo⟩
  have g1:(e.act==1)=false:=by simp;exact a8
  have eC:decide (e.act=1)=false:=aP a8;have j:=a6.out;rw[if_neg (fun h=>a8 h.1)]at j;have ai:=O j;clear j a6 a8;by_cases bi:e.act=4
  ·skip
   have g3:(e.act==4)=true:=by simp;exact bi
   have g4:decide (e.act=4)=true:=aQ bi;have j:=ai.out;rw[if_pos bi]at j;have a7:=O j;clear j ai bi;by_cases ad:e.key=fO
   ·skip
    have R:=ei.out;rw[show decide (e.key=fO)=true from aQ ad]at R;replace R:=O R;have j:=a7.out;rw[if_pos ad]at j;have ac:=O j;clear j ad a7;go_wp2_with (first|(refine bF F (bQ F F (dF ao aw) dh az) ?_)|(refine bF F (jm F F F oD R _) ?_));go_ret;exact⟨by rw[<-ac.out]<;>rfl,ap⟩
   have R:=ei.out;rw[show decide (e.key=fO)=false from aP ad]at R;replace R:=O R;have j:=a7.out;rw[if_neg ad]at j;have be:=O j;clear j ad a7;cases bw with
   |true=>
    go_wp2_with (first|(refine bF F (bQ F F (dF ao aw) dh az) ?_)|(refine bF F (jm F F F oD R _) ?_));go_ret;exact⟨by rw[<-be.out];rfl,ap⟩
   |false=>
    go_wp2_with (first|(refine bF F (bQ F F (dF ao aw) dh az) ?_)|(refine bF F (jm F F F oD R _) ?_));go_ret;exact⟨by rw[<-be.out];rfl,ap⟩
  have g3:(e.act==4)=false:=by simp;exact bi
  have g4:decide (e.act=4)=false:=aP bi;have j:=ai.out;rw[if_neg bi]at j;have cW:=O j;clear j ai bi;cases ca with
  |true=>
   have j:=cW.out;rw[if_pos F]at j;have bd:=O j;clear j cW;by_cases ad:e.key=fO
   case neg=>
    have R:=b5.out;rw[show decide (e.key≠fO)=true from aQ ad]at R;replace R:=O R;have j:=bd.out;rw[if_pos (show e.key≠fO from ad)]at j;have ac:=O j;clear j ad bd;go_wp2_with (first|(refine bF F (bQ F F (dF ao aw) dh az) ?_)|(refine bF F (jm F F F oD R _) ?_));go_ret;exact⟨by rw[<-ac.out]<;>rfl,ap⟩
   have R:=b5.out;rw[show decide (e.key≠fO)=false from aP (fun h=>h ad)]at R;replace R:=O R;have j:=bd.out;rw[if_neg (fun h=>h ad)]at j;have be:=O j;clear j ad bd;have cy:=O (fun I (ab:X a4 I)=>Lu p S e r I (bh.ext ab) ax.hm ax.hcm);go_wp2_with (first|(refine bF F (bQ F F (dF ao aw) dh az) ?_)|(refine bF F (jm F F F oD R _) ?_)|(refine bV F 34 (.tmp 3) F F ao cZ co ?_)|(refine bV F 101 (.tmp 6) F F bk eP cp ?_));refine(cy _ (X.refl _)).mono ?_;rintro a9 dE ⟨rfl,u⟩;have bo:=O (ap.ext u);clear u;go_wp2_with fail;go_ret;exact⟨by rw[<-be.out]<;>rfl,bo⟩
  |false=>
   have j:=cW.out;rw[if_neg aX]at j;have bd:=O j;clear j cW;cases bw with
   |false=>
    go_wp2_with fail;go_ret;exact⟨by rw[<-bd.out];first|rfl|simp,ap⟩
   |true=>
    have ep:=O (show(if k.rev=true then(15:Int)else S.p.EH e r.p k)=V from bd);clear bd;have f4:=ch.cell' (bC.CG b3);have fl:=O (fun I (ab:X a4 I)=>aaD p S e r k I (bh.ext ab) ax (cJ.ext ab) b3);generalize k.rev=fo at*;cases fo with
    |true=>
     go_wp2_with fail;go_ret;exact⟨by rw[<-ep.out];first|rfl|simp,ap⟩
    |false=>
     go_wp2_with (first|(refine bV F 34 (.tmp 3) F F ao cZ co ?_)|(refine bV F 101 (.tmp 6) F F bk eP cp ?_)|(refine bV F 159 (.tmp 11) F F ch pX cR ?_));refine(fl _ (X.refl _)).mono ?_;rintro a9 dE ⟨rfl,u⟩;have bo:=O (ap.ext u);clear u;go_wp2_with fail;go_ret;exact⟨by rw[<-ep.out];rfl,bo⟩
end Go.Proofs.YtjlhhnkhcbpnjaaGreatDoor
