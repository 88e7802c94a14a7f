/- Laws that the row leans on; no condition. -/
import Derived.Test.YtjlhhnkhcbpnjaaGreatDoorJ25
namespace Go.Proofs.YtjlhhnkhcbpnjaaGreatDoor
open Go Go.RowKit List Tryz
set_option linter.unusedVariables false
set_option linter.unusedSimpArgs false
set_option maxHeartbeats 40000000
set_option maxRecDepth 100000
theorem Td{a:Int}:EF a=true↔a∈([1,2,3,8,11,12]:List Int):=by
 unfold EF;simp[or_assoc]
theorem Tf{x y:aj}(j:x.length=16)(u:y.length=16)(w:World):(binOp .neq 29 (.agg (x.map Y).toArray) (.agg (y.map Y).toArray)).run prog w= .ok (.bool (decide (x≠y))) w:=by
 rw[vY underlying29 x y j u w]
 congr 1
 by_cases h:x=y<;>simp[h]
theorem aaY{x:aj}(h:x.length=16)(w:World):(binOp .neq 29 (.agg (x.map Y).toArray) (.agg (List.replicate 16 (.int .u8 0)).toArray)).run prog w= .ok (.bool (decide (x≠fO))) w:=by
 have j:(List.replicate 16 (Value.int .u8 0))=fO.map Y:=by simp[fO,Y]
 rw[j];exact Tf h (by simp[fO]) w
theorem yT(k:bC):∀v∈k.v,v.oneCell'=true:=by
 intro v j;unfold bC.v at j;simp only[mem_append,mem_cons,mem_map]at j;rcases j with⟨a,_,rfl⟩|rfl|rfl|⟨a,_,rfl⟩|rfl|rfl|⟨a,_,rfl⟩<;>rfl
theorem LW(s:ByteArray):aY s.data.toList=s:=by
 apply ByteArray.ext;simp[aY]
theorem LX:∀xs ys:List aS,jY (xs.map aS.bare) ys=jY xs ys
 |[],[]=>rfl
 |[],_::_=>rfl
 |_::_,[]=>rfl
 |x::xs,y::ys=>by
  show(vG x.bare y&&jY (xs.map aS.bare) ys)=(vG x y&&jY xs ys);rw[LX xs ys];rfl
theorem Ti{rs j:List aS}(h:rs.map aS.bare=j)(n:Nat):lH j n=lH rs n:=by
 unfold lH;rw[KW h,<-h,Ic,LX]
theorem aaZ{rs j:List aS}(h:rs.map aS.bare=j)(n:Nat):lI j n=lI rs n:=by
 unfold lI;rw[Ti h,<-h,Ic]
theorem aa0(p:Nat)(S:aV)(e:aG)(w:World)(h:dJ w p S)(af:e.Ok w)(eh:mJ w):
 Calls prog 83 #[.pointer (some ⟨p,0,none⟩),.agg e.v.toArray] w fun x w'=>x= .returned (.int .i64 (S.p.ref e))/\X w w':=by
 obtain⟨b',bv,d0,ez,bx,b9,ax,d2⟩:=jg (aG.len af) af eh h (And.intro h.hl h.hf) (show(e.bI.map Y).length=16 by rw[length_map,af.ha]) (show(e.key.map Y).length=16 by rw[length_map,af.hk]) (show(e.prev.map Y).length=32 by rw[length_map,af.hp]);obtain⟨d1,b7,av,dE,d4,e5,eW,cH⟩:=jg (show(S.last.map Y).length=32 by rw[length_map,h.hl]) (aG.Eh af) (aG.wB af) (aG.BH af) (aV.last_at h.hl) (aG.zV af) (fun I (c3:X w I)=>(h.ext c3).EL (id:=e.bI) af.ha true) (fun I (c3:X w I)=>(h.ext c3).Lr (id:=e.key) af.hk true);obtain⟨cW,dT,bz,ef,bw⟩:=dM (fun I=>LG af.hp h.hl I) (fun I=>SL af.hk I) (fun I=>aaY af.hk I) (fun I (ab:e.Ok I)=>Ei e I ab) (h.Il e.key);obtain⟨V,cf⟩:=aC (S.p.ref e);rw[cf];unfold dw.ref at cf;rw[show S.p.cnt=S.cnt from F,show S.p.last=S.last from F,show S.p.tm=S.tm from F,show S.p.ks=S.ks from F,show bW S.p.ms e.bI=(bW S.ms e.bI).map iF.l from EK iF.l S.ms e.bI,Option.isNone_map]at cf;obtain⟨cC,cU⟩:=aB cf (fun bN:dN e=0=>qy af bN);have cT:=O (fun bN:dN e=0=>show(kE kF e.act e.body).2=0 by
  obtain⟨fc,r2,fd,fe,ff,fg,fh⟩:=qy af bN;unfold dN at bN;rw[if_neg (by unfold dR;simp;omega)]at bN;exact bN)
 clear h af eh cf;go_enter func83,ntmps83;go_upto_region 1 with fail;generalize c9:World.alloc w _=dc;have ec:ah dc w.heap.size e.v 34:=by rw[<-c9];exact ah.aI F F
 have c4:X w dc:=by rw[<-c9];exact(X.refl w).alloc _
 obtain⟨cK,cR,d7⟩:=aW ec c4 (ez.ext c4);clear c9 ec c4;generalize w.heap.size=G3 at*;go_wp2_with (refine bV F 34 _ F F cK cZ b' ?_);refine(ef dc (bv.ext cR)).mono ?_;rintro a4 e1 ⟨rfl,u⟩;obtain⟨cn,ct,d8⟩:=aW (cK.ext u) (cR.ext u) (d7.ext u);clear u cK cR d7;clear ef;by_cases bm:dN e≠0
 ·skip
  have j:=cC.out;rw[if_pos bm]at j;have ac:=O j;have ep:(dN e != 0)=true:=by simp;exact bm
  have n2:decide (dN e=0)=false:=aP bm;generalize dN e=E at*;clear bm j cC cU cT;go_wp2_with fail;go_ret;exact⟨by rw[<-ac.out];first|rfl|simp,ct⟩
 have cG:dN e=0:=Classical.not_not.1 bm;have j:=cC.out;rw[if_neg bm]at j;obtain⟨d5,fa,eA⟩:=aW j (cU cG) (cT cG);rw[cG];clear bm cG j cC cU cT;have c7:=O (fun I (ab:X w I)=>GH e.act e.body e.ba e.bn e.bc I bv.hb bv.hbc bv.hbm (bv.hcl.ext ab));rw[eA.out]at c7;have al:=cn.cell' (aG.at2 e);have e6:=cn.cell' e5;go_wp2_with fail;refine(c7 e1 ct).mono ?_;rintro a4 v2 ⟨r,rfl,c5,el,c6,em,u⟩;obtain⟨aw,ex⟩:=aB c5 (show r.p=mO e from em);have du:=O c6.cells;have ca:=O (ay.len (c5.ok el c6));clear c5 el c6 em c7 al e6;obtain⟨dp,dz,eb⟩:=aW (cn.ext u) (ct.ext u) (d8.ext u);clear u cn ct d8;go_wp2_with (refine bg F _ _ _ F F F (ah.aI (vs:=dI.v) F F) eP fM (xs:=r.v) ca (lD r) ?_);intro v3 ae aE;have u:X v2 v3:=aE.ext ((X.refl v2).alloc _) bG;have dj:=O ae;clear ae aE;obtain⟨cL,cS,c1,dv⟩:=bU (dp.ext u) (dz.ext u) (eb.ext u) (du.ext u);clear u dp dz eb du;generalize v2.heap.size=G6 at*;generalize en:(bW S.ms e.bI).isSome=eo at*;have ey:=O (show(bW S.ms e.bI).isNone= !eo by rw[<-en];cases bW S.ms e.bI<;>rfl);clear en;have j:=d5.out;rw[ey.out,<-ex.out]at j;have cY:=O j;clear j d5;go_upto_region 5 with fail;obtain⟨C,aa,aJ⟩:=jJ v3;have ed:∀I,C I->I.cell? ⟨p,51,none⟩=some (.map (some S.gm)):=fun I ab=>((c1.ext ((aa I).1 ab)).blk).cell' (aV.mD bx.1 bx.2);refine wp_region_held_drew (S:=C) au ((aa _).2 (X.refl v3).drew) (fun Z=> ?_);refine aA 0 ?_;refine aA 1 ?_;refine aA 2 ?_;refine dA 3 (ed) ?_;refine aA 4 ?_;refine bD 5 F (bf F (fun I h=>bQ F F (dF (cL.ext ((aa I).1 h)) b7) dh b9)) ?_;refine bD 6 F (bf F (fun I h=>vH F F F (eW I (cS.ext ((aa I).1 h))))) ?_
 simp only[if_true];generalize (S.jO e.bI).v=fi at*;refine aA 7 ?_;refine aA 8 ?_;refine aA 9 ?_;refine aA 10 ?_;refine aA 11 ?_;refine dH ?_;have u:=(aa _).1 Z;generalize a5:World.drew v3=dd at u⊢;clear a5 Z aJ aa ed;obtain⟨cM,dC,c2,dx,dk⟩:=dM (cL.ext u) (cS.ext u) (c1.ext u) (dv.ext u) (dj.ext u);clear u cL cS c1 dv dj;go_upto_region 6 with fail;obtain⟨C,aa,aJ⟩:=jJ dd;have k1:∀I,C I->I.cell? ⟨G3,0,none⟩=some (.int .i64 e.num):=fun I ab=>(cM.ext ((aa I).1 ab)).cell' (aG.at0 e);have k2:∀I,C I->I.cell? ⟨p,0,none⟩=some (.int .i64 (S.cnt:Int)):=fun I ab=>((c2.ext ((aa I).1 ab)).blk).cell' (aV.at0 S);refine wp_region_held_drew (S:=C) au ((aa _).2 (X.refl dd).drew) (fun Z=> ?_);refine aA 0 ?_;refine dA 1 (k1) ?_;refine aA 2 ?_;refine aA 3 ?_;refine aA 4 ?_;refine dA 5 (k2) ?_;refine aA 6 ?_;refine aA 7 ?_;refine dH ?_;have u:=(aa _).1 Z;generalize a5:World.drew dd=b1 at u⊢;clear a5 Z aJ aa k1 k2;obtain⟨bu,b6,bE,cq,cm⟩:=dM (cM.ext u) (dC.ext u) (c2.ext u) (dx.ext u) (dk.ext u);clear u cM dC c2 dx dk;by_cases bc:e.num=(S.cnt:Int)
 case neg=>
  have eB:(e.num != (S.cnt:Int))=true:=by simp;exact bc
  have eD:decide (e.num=(S.cnt:Int))=false:=aP bc;have j:=cY.out;rw[if_pos (show e.num≠(S.cnt:Int)from bc)]at j;have ac:=O j;clear j bc;go_wp2_with fail;go_ret;exact⟨by rw[<-ac.out];first|rfl|simp,b6⟩
 have eB:(e.num != (S.cnt:Int))=false:=by simp;exact bc
 have eD:decide (e.num=(S.cnt:Int))=true:=aQ bc;have j:=cY.out;rw[if_neg (fun h=>h bc)]at j;have cD:=O j;clear j bc cY;by_cases bR:e.prev=S.last
 case neg=>
  have R:=cW.out;rw[show decide (e.prev≠S.last)=true from aQ bR]at R;replace R:=O R;have j:=cD.out;rw[if_pos (show e.prev≠S.last from bR)]at j;have ac:=O j;clear j bR cD;go_upto_region 8 with fail;obtain⟨C,aa,aJ⟩:=jJ b1;refine wp_region_held_drew (S:=C) au ((aa _).2 (X.refl b1).drew) (fun Z=> ?_);refine aA 0 ?_;refine bD 1 F (bf F (fun I h=>bQ F F (dF (bu.ext ((aa I).1 h)) dE) bY d2)) ?_;refine aA 2 ?_;refine aA 3 ?_;refine aA 4 ?_;refine bD 5 F (bf F (fun I h=>bQ F F (dF ((bE.ext ((aa I).1 h)).blk) d4) bY d1)) ?_;refine bD 6 F (bf F (fun I _=>jm F F F CO R I)) ?_;refine aA 7 ?_;refine dH ?_;have u:=(aa _).1 Z;generalize a5:World.drew b1=cI at u⊢;clear a5 Z aJ aa;obtain⟨cp,cx,cF,cP,cJ⟩:=dM (bu.ext u) (b6.ext u) (bE.ext u) (cq.ext u) (cm.ext u);clear u bu b6 bE cq cm;go_wp2_with fail;go_ret;exact⟨by rw[<-ac.out];first|rfl|simp,cx⟩
 have R:=cW.out;rw[show decide (e.prev≠S.last)=false from aP (fun h=>h bR)]at R;replace R:=O R;have j:=cD.out;rw[if_neg (fun h=>h bR)]at j;have c0:=O j;clear j bR cD;go_upto_region 8 with fail;obtain⟨C,aa,aJ⟩:=jJ b1;refine wp_region_held_drew (S:=C) au ((aa _).2 (X.refl b1).drew) (fun Z=> ?_);refine aA 0 ?_;refine bD 1 F (bf F (fun I h=>bQ F F (dF (bu.ext ((aa I).1 h)) dE) bY d2)) ?_;refine aA 2 ?_;refine aA 3 ?_;refine aA 4 ?_;refine bD 5 F (bf F (fun I h=>bQ F F (dF ((bE.ext ((aa I).1 h)).blk) d4) bY d1)) ?_;refine bD 6 F (bf F (fun I _=>jm F F F CO R I)) ?_;refine aA 7 ?_;refine dH ?_;have u:=(aa _).1 Z;generalize a5:World.drew b1=cI at u⊢;clear a5 Z aJ aa;obtain⟨cp,cx,cF,cP,cJ⟩:=dM (bu.ext u) (b6.ext u) (bE.ext u) (cq.ext u) (cm.ext u);clear u bu b6 bE cq cm;clear R cW;go_upto_region 10 with fail;obtain⟨C,aa,aJ⟩:=jJ cI;have k1:∀I,C I->I.cell? ⟨G3,1,none⟩=some (.int .i64 e.time):=fun I ab=>(cp.ext ((aa I).1 ab)).cell' (aG.rH e);have k2:∀I,C I->I.cell? ⟨p,1,none⟩=some (.int .i64 S.tm):=fun I ab=>((cF.ext ((aa I).1 ab)).blk).cell' (aV.rH S);refine wp_region_held_drew (S:=C) au ((aa _).2 (X.refl cI).drew) (fun Z=> ?_);refine aA 0 ?_;refine dA 1 (k1) ?_;refine aA 2 ?_;refine aA 3 ?_;refine aA 4 ?_;refine dA 5 (k2) ?_;refine aA 6 ?_;refine aA 7 ?_;refine dH ?_;have u:=(aa _).1 Z;generalize a5:World.drew cI=et at u⊢;clear a5 Z aJ aa k1 k2;obtain⟨an,a7,az,cr,a6⟩:=dM (cp.ext u) (cx.ext u) (cF.ext u) (cP.ext u) (cJ.ext u);clear u cp cx cF cP cJ;by_cases bq:e.time<S.tm
 ·skip
  have eE:decide (e.time<S.tm)=true:=aQ bq;have eI:decide (S.tm<=e.time)=false:=aP J;have eJ:¬S.tm<=e.time:=J;have fb:e.time<S.tm:=bq;have j:=c0.out;rw[if_pos bq]at j;have ac:=O j;clear j bq;go_wp2_with fail;go_ret;exact⟨by rw[<-ac.out];first|rfl|simp,a7⟩
 have eE:decide (e.time<S.tm)=false:=aP bq;have eI:decide (S.tm<=e.time)=true:=aQ J;have eJ:S.tm<=e.time:=J;have j:=c0.out;rw[if_neg bq]at j;have bB:=O j;clear j bq c0;by_cases ag:S.cnt=0
 ·skip
  have eK:((S.cnt:Int)==0)=true:=by simp;exact ag
  have eL:decide ((S.cnt:Int)=0)=true:=by simp;exact ag
  have eM:decide ((S.cnt:Int)>0)=false:=by simp;omega
  have eN:decide ((0:Int)<(S.cnt:Int))=false:=by simp;omega
  have eO:decide (S.cnt=0)=true:=by simp;exact ag
  have eQ:decide (0<S.cnt)=false:=by simp;omega
  have eC:(S.cnt==0)=true:=by simp;exact ag
  by_cases aM:e.act=2
  case neg=>
   have eR:(e.act != 2)=true:=by simp;exact aM
   have eS:decide (e.act=2)=false:=aP aM;have j:=bB.out;rw[if_pos ⟨ag,aM⟩]at j;have ac:=O j;clear j ag aM bB;have ar:=az.blk.cell' (aV.at0 S);have al:=an.cell' (aG.at2 e);go_wp2_with fail;go_ret;exact⟨by rw[<-ac.out];first|rfl|simp,a7⟩
  have eR:(e.act != 2)=false:=by simp;exact aM
  have eS:decide (e.act=2)=true:=aQ aM;have j:=bB.out;rw[if_neg (fun h=>h.2 aM)]at j;have a0:=O j;clear j bB;obtain⟨cA,cy⟩:=aB (show(r.member.map Y).length=16 by rw[length_map,aw.hm]) (ay.Ls aw.hm);have bA:=fun I=>Tf aw.hm bv.ha I;by_cases bS:r.member=e.bI
  case neg=>
   rw[show decide (r.member≠e.bI)=true from aQ bS]at bA;have R:=O bA;have j:=a0.out;rw[if_pos (.inl ⟨ag,bS⟩)]at j;have ac:=O j;clear j ag aM bS a0 bA;have ar:=az.blk.cell' (aV.at0 S);have al:=an.cell' (aG.at2 e);go_wp2_with (first|(refine bF F (bQ F F (dF a6 cy) dh cA) ?_)|(refine bF F (bQ F F (dF an b7) dh b9) ?_)|(refine bF F (jm F F F oD R _) ?_)|(refine jU F (bQ F F (dF a6 cy) dh cA) ?_)|(refine jU F (bQ F F (dF an b7) dh b9) ?_)|(refine jU F (jm F F F oD R _) ?_));go_ret;exact⟨by rw[<-ac.out];rfl,a7⟩
  rw[show decide (r.member≠e.bI)=false from aP (fun h=>h bS)]at bA;have R:=O bA;have j:=a0.out;rw[if_neg (by rintro(⟨_,h⟩|⟨h,_⟩);exact h bS;omega)]at j;obtain⟨cb,bk⟩:=aB j aM;clear j ag aM bS a0 bA;have ar:=az.blk.cell' (aV.at0 S);have al:=an.cell' (aG.at2 e);go_upto_region 14 with fail;go_upto_region 17 with(first|(refine bF F (bQ F F (dF a6 cy) dh cA) ?_)|(refine bF F (bQ F F (dF an b7) dh b9) ?_)|(refine bF F (jm F F F oD R _) ?_)|(refine jU F (bQ F F (dF a6 cy) dh cA) ?_)|(refine jU F (bQ F F (dF an b7) dh b9) ?_)|(refine jU F (jm F F F oD R _) ?_));have cg:=O (fun a I ab=>Es e.act [1,2,3,8,11,12] a 6 6 I F J ab);have ar:=az.blk.cell' (aV.at0 S);have al:=an.cell' (aG.at2 e);go_upto_region 17 with fail;go_wp2_with (first|(refine bF F (kT F F (gW al ((X.refl _).alloc _)) BR) ?_));refine(cg _ _ (aK.eG (vs:=([1,2,3,8,11,12]:List Int).map lN) (ah.aI F F))).mono ?_;rintro a4 aL ⟨bO,rfl,aq,ck⟩;have u:X et aL:=by rw[<-ck];exact(X.refl _).alloc _
  have b8:=O (show EF e.act=bO from Bool.eq_iff_iff.2 (Td.trans aq.symm));clear ck cg ar al aq;obtain⟨be,bh,bl,b5,b2⟩:=dM (an.ext u) (a7.ext u) (az.ext u) (cr.ext u) (a6.ext u);clear u an a7 az cr a6;obtain⟨k,hk⟩:=aC (S.uI e.key);generalize cj:(bW S.ks e.key).isSome=bp at*;have cV:=O (show bW S.ks e.key=if bp=true then some k else none by
   rw[<-cj,<-hk];unfold aV.uI;cases bW S.ks e.key<;>rfl)
  rw[hk]at bw;obtain⟨cX,cz⟩:=aB (fun I ab=>(cH I ab).trans (by rw[hk];rfl:_=Result.ok (Value.tuple #[.agg k.v.toArray,.bool bp]) I)) (bC.len bw);clear hk cj cH;go_upto_region 18 with fail;obtain⟨C,aa,aJ,bP⟩:=iw (show bT aL aL [] [] aL from bT.jA (X.refl _) (dV.none _));have cc:∀I,C I->I.cell? ⟨p,52,none⟩=some (.map (some S.gk)):=fun I ab=>((bl.ext ((aa I).1 ab).base).blk).cell' (aV.nV bx.1 bx.2);refine fJ fun Z=> ?_;refine aA 0 ?_;refine aA 1 ?_;refine aA 2 ?_;refine dA 3 (cc) ?_;refine aA 4 ?_;refine bD 5 F (bf F (fun I h=>bQ F F (dF (be.ext ((aa I).1 h).base) av) dh ax)) ?_;refine bD 6 F (bf F (fun I h=>vH F F F (cX I (bh.ext ((aa I).1 h).base)))) ?_;refine aA 7 ?_;refine aA 8 ?_;refine aA 9 ?_;generalize World.drew aL=am at Z⊢;refine aZ 10 ?_;intro bj aD;go_wp2_with fail;refine aD _ _ (aJ _ _ Z ((X.refl am).alloc _)) ?_;clear aD bj;generalize bo:World.alloc am _=bt;have ae:ah bt am.heap.size (bC.zero.v) 159:=by rw[<-bo];exact ah.aI F F
  have ce:C bt:=by rw[<-bo];exact aJ _ _ Z ((X.refl am).alloc _)
  have cd:=((aa am).1 Z).kept.1;have b4:=O ae;clear Z bo ae;have Z:=ce;clear ce;generalize am.heap.size=ev at*;refine aH ?_;refine aZ 11 ?_;intro bj aD;go_wp2_with (refine bg F _ _ _ F F F b4 pX (bC.len bC.vk) cz (yT _) ?_);intro aR ae aE;replace Z:C aR:=(aa aR).2 (((aa bt).1 Z).upd aE cd (by first|exact Nat.le_refl _|omega));go_wp2_with fail;refine aD _ _ Z ?_;have b3:=O ae;clear aD bj ae aE b4;refine aH ?_;refine aA 12 ?_;refine dH ?_;have u:=((aa aR).1 Z).base;clear Z aJ aa cc bP cd;obtain⟨ao,ap,a_,cs,bd⟩:=dM (be.ext u) (bh.ext u) (bl.ext u) (b5.ext u) (b2.ext u);clear u be bh bl b5 b2;have ar:=a_.blk.cell' (aV.at0 S);have al:=ao.cell' (aG.at2 e);have j:=cb.out;rw[cV.out,b8.out]at j;have a1:=O j;clear j cb;have aq:=b8.out;rw[bk.out]at aq;obtain rfl:bO=true:=aq.symm;have j:=a1.out;rw[if_neg (fun h=>by have:=bk.out;omega),if_neg (by have:=bk.out;omega),if_pos F]at j;have ai:=O j;clear j a1 aq;have g1:(e.act==1)=false:=by simp;have:=bk.out;omega
  have ee:decide (e.act=1)=false:=by simp;have:=bk.out;omega
  have g3:(e.act==4)=false:=by simp;have:=bk.out;omega
  have g4:decide (e.act=4)=false:=by simp;have:=bk.out;omega
  by_cases ad:e.key=fO
  case neg=>
   have R:=bz.out;rw[show decide (e.key≠fO)=true from aQ ad]at R;replace R:=O R;have j:=ai.out;rw[if_pos (show e.key≠fO from ad)]at j;have ac:=O j;clear j ad ai;go_wp2_with (first|(refine bF F (bQ F F (dF ao av) dh ax) ?_)|(refine bF F (jm F F F oD R _) ?_));go_ret;exact⟨by rw[<-ac.out]<;>rfl,ap⟩
  have R:=bz.out;rw[show decide (e.key≠fO)=false from aP (fun h=>h ad)]at R;replace R:=O R;have j:=ai.out;rw[if_neg (fun h=>h ad)]at j;have a9:=O j;clear j ad ai;have ci:=O (fun I (ab:X aR I)=>Lu p S e r I (a_.ext ab) aw.hm aw.hcm);go_wp2_with (first|(refine bF F (bQ F F (dF ao av) dh ax) ?_)|(refine bF F (jm F F F oD R _) ?_)|(refine bV F 34 (.tmp 3) F F ao cZ b' ?_)|(refine bV F 101 (.tmp 6) F F bd eP ca ?_));refine(ci _ (X.refl _)).mono ?_;rintro a4 de ⟨rfl,u⟩;have bi:=O (ap.ext u);clear u;go_wp2_with fail;go_ret;exact⟨by rw[<-a9.out]<;>rfl,bi⟩
 have eK:((S.cnt:Int)==0)=false:=by simp;exact ag
 have eL:decide ((S.cnt:Int)=0)=false:=by simp;exact ag
 have eM:decide ((S.cnt:Int)>0)=true:=by simp;omega
 have eN:decide ((0:Int)<(S.cnt:Int))=true:=by simp;omega
 have eO:decide (S.cnt=0)=false:=by simp;exact ag
 have eQ:decide (0<S.cnt)=true:=by simp;omega
 have eC:(S.cnt==0)=false:=by simp;exact ag
 have j:=bB.out;rw[if_neg (fun h=>ag h.1)]at j;have a0:=O j;clear j bB;cases eo with
 |false=>
  have j:=a0.out;rw[if_pos (.inr ⟨J,F⟩)]at j;have ac:=O j;clear j ag a0;have ar:=az.blk.cell' (aV.at0 S);have al:=an.cell' (aG.at2 e);go_wp2_with fail;go_ret;exact⟨by rw[<-ac.out];first|rfl|simp,a7⟩
 |true=>
  have j:=a0.out;rw[if_neg (by rintro(⟨h,_⟩|⟨_,h⟩);exact ag h;cases h)]at j;have cb:=O j;clear j ag a0;have ar:=az.blk.cell' (aV.at0 S);have al:=an.cell' (aG.at2 e);have cg:=O (fun a I ab=>Es e.act [1,2,3,8,11,12] a 6 6 I F J ab);have ar:=az.blk.cell' (aV.at0 S);have al:=an.cell' (aG.at2 e);go_upto_region 17 with fail;go_wp2_with (first|(refine bF F (kT F F (gW al ((X.refl _).alloc _)) BR) ?_));refine(cg _ _ (aK.eG (vs:=([1,2,3,8,11,12]:List Int).map lN) (ah.aI F F))).mono ?_;rintro a4 aL ⟨bO,rfl,aq,ck⟩;have u:X et aL:=by rw[<-ck];exact(X.refl _).alloc _
  have b8:=O (show EF e.act=bO from Bool.eq_iff_iff.2 (Td.trans aq.symm));clear ck cg ar al aq;obtain⟨be,bh,bl,b5,b2⟩:=dM (an.ext u) (a7.ext u) (az.ext u) (cr.ext u) (a6.ext u);clear u an a7 az cr a6;obtain⟨k,hk⟩:=aC (S.uI e.key);generalize cj:(bW S.ks e.key).isSome=bp at*;have cV:=O (show bW S.ks e.key=if bp=true then some k else none by
   rw[<-cj,<-hk];unfold aV.uI;cases bW S.ks e.key<;>rfl)
  rw[hk]at bw;obtain⟨cX,cz⟩:=aB (fun I ab=>(cH I ab).trans (by rw[hk];rfl:_=Result.ok (Value.tuple #[.agg k.v.toArray,.bool bp]) I)) (bC.len bw);clear hk cj cH;go_upto_region 18 with fail;obtain⟨C,aa,aJ,bP⟩:=iw (show bT aL aL [] [] aL from bT.jA (X.refl _) (dV.none _));have cc:∀I,C I->I.cell? ⟨p,52,none⟩=some (.map (some S.gk)):=fun I ab=>((bl.ext ((aa I).1 ab).base).blk).cell' (aV.nV bx.1 bx.2);refine fJ fun Z=> ?_;refine aA 0 ?_;refine aA 1 ?_;refine aA 2 ?_;refine dA 3 (cc) ?_;refine aA 4 ?_;refine bD 5 F (bf F (fun I h=>bQ F F (dF (be.ext ((aa I).1 h).base) av) dh ax)) ?_;refine bD 6 F (bf F (fun I h=>vH F F F (cX I (bh.ext ((aa I).1 h).base)))) ?_;refine aA 7 ?_;refine aA 8 ?_;refine aA 9 ?_;generalize World.drew aL=am at Z⊢;refine aZ 10 ?_;intro bj aD;go_wp2_with fail;refine aD _ _ (aJ _ _ Z ((X.refl am).alloc _)) ?_;clear aD bj;generalize bo:World.alloc am _=bt;have ae:ah bt am.heap.size (bC.zero.v) 159:=by rw[<-bo];exact ah.aI F F
  have ce:C bt:=by rw[<-bo];exact aJ _ _ Z ((X.refl am).alloc _)
  have cd:=((aa am).1 Z).kept.1;have b4:=O ae;clear Z bo ae;have Z:=ce;clear ce;generalize am.heap.size=ev at*;refine aH ?_;refine aZ 11 ?_;intro bj aD;go_wp2_with (refine bg F _ _ _ F F F b4 pX (bC.len bC.vk) cz (yT _) ?_);intro aR ae aE;replace Z:C aR:=(aa aR).2 (((aa bt).1 Z).upd aE cd (by first|exact Nat.le_refl _|omega));go_wp2_with fail;refine aD _ _ Z ?_;have b3:=O ae;clear aD bj ae aE b4;refine aH ?_;refine aA 12 ?_;refine dH ?_;have u:=((aa aR).1 Z).base;clear Z aJ aa cc bP cd;obtain⟨ao,ap,a_,cs,bd⟩:=dM (be.ext u) (bh.ext u) (bl.ext u) (b5.ext u) (b2.ext u);clear u be bh bl b5 b2;have ar:=a_.blk.cell' (aV.at0 S);have al:=ao.cell' (aG.at2 e);have j:=cb.out;rw[cV.out,b8.out]at j;have a1:=O j;clear j cb;by_cases a3:e.act=1
  ·skip
   have g1:(e.act==1)=true:=by simp;exact a3
   have ee:decide (e.act=1)=true:=aQ a3;have aq:=b8.out;rw[a3]at aq;obtain rfl:bO=true:=aq.symm;clear aq;have cl:=O a3;clear a3;have am:=bd.cell' (ay.at0 r);have c8:=O (fun I (ab:mJ I)=>S_ r.text.data.toList I ab (by rw[Array.length_toList];exact Nat.le_trans aw.ts J));rw[LW]at c8;go_wp2_with fail;refine(c8 _ (d0.ext ap)).mono ?_;rintro a4 er ⟨da,br,db,bX,rfl,ej,ek,u⟩;obtain⟨d3,ew⟩:=aB ej ek;clear ej ek c8 ar al am;obtain⟨dl,dy,d9,ds,df,dq⟩:=iq (ao.ext u) (ap.ext u) (a_.ext u) (cs.ext u) (bd.ext u) (b3.ext u);clear u ao ap a_ cs bd b3;go_wp2_with (refine bg F _ _ _ F F F (ah.aI (vs:=[.slice none 0 0]) F F) Cj F (xs:=[.slice da br db]) F (fun v j=>by simp at j;rw[j];rfl) ?_);intro e3 ae aE;have u:X er e3:=aE.ext ((X.refl _).alloc _) bG;have cN:=O ae;clear ae aE;obtain⟨dm,cv,d',dt,dg,dr,cB⟩:=su (dl.ext u) (dy.ext u) (d9.ext u) (ds.ext u) (df.ext u) (dq.ext u) (d3.ext u);clear u dl dy d9 ds df dq d3;generalize er.heap.size=e_ at*;by_cases ch:jH r.text.data.toList=0
   case neg=>
    have ep:(jH r.text.data.toList != 0)=true:=by simp;exact ch
    have n2:decide (jH r.text.data.toList=0)=false:=aP ch;have j:=a1.out;rw[if_pos ⟨cl,by unfold Ih;rw[show r.p.text=r.text from F,n2];rfl⟩]at j;have ac:=O j;clear j a1;generalize jH r.text.data.toList=E at*;go_wp2_with fail;go_ret;exact⟨by rw[<-ac.out];first|rfl|simp,cv⟩
   have eg:Ih r.p.text.data.toList=(decide (lH bX br=0)&&decide (lI bX br=r.text.data.toList)):=by
    unfold Ih;rw[show r.p.text=r.text from F,<-ew.out,length_map,cB.hl,Ti F,aaZ F,aQ ch,Bool.true_and]
   have j:=a1.out;rw[eg]at j;have ai:=O j;clear j a1 eg;rw[ch];clear ch;have ei:=O (fun I (ab:lG I da br db bX) eT=>Tc da br db bX I ab eT);go_wp2_with (refine bV F 152 _ F F cN Cj F ?_);refine(ei _ cB (d0.ext cv)).mono ?_;rintro a4 e4 ⟨rfl,u⟩;obtain⟨co,cw,ea,e9,di,e7,e',e8⟩:=jg (dm.ext u) (cv.ext u) (d'.ext u) (dt.ext u) (dg.ext u) (dr.ext u) (cB.ext u) (cN.ext u);clear u dm cv d' dt dg dr cB cN;clear ei;generalize lH bX br=cQ at*;generalize lI bX br=bL at*;have am:=di.cell' (ay.at0 r);have ar:=ea.blk.cell' (aV.at0 S);have al:=co.cell' (aG.at2 e);by_cases e2:cQ=0
   case neg=>
    have ep:(cQ != 0)=true:=by simp;exact e2
    have n2:decide (cQ=0)=false:=aP e2;have j:=ai.out;rw[if_pos ⟨cl,by rw[n2];rfl⟩]at j;have ac:=O j;clear j ai e2;go_wp2_with fail;go_ret;exact⟨by rw[<-ac.out];first|rfl|simp,cw⟩
   subst e2;by_cases b0:bL=r.text.data.toList
   case neg=>
    have c_:((aY bL).toList==r.text.toList)=false:=by
     rw[Bool.eq_false_iff];intro h;exact b0 (by rw[<-(FQ _ _).1 h];exact(pW bL).symm)
    have eZ:((aY bL).toList != r.text.toList)=true:=by unfold bne;rw[c_];rfl
    have j:=ai.out;rw[if_pos ⟨cl,by rw[aP b0];simp⟩]at j;have ac:=O j;clear j ai b0;go_wp2_with fail;go_ret;exact⟨by rw[<-ac.out];first|rfl|simp,cw⟩
   have c_:((aY bL).toList==r.text.toList)=true:=(FQ _ _).2 (by rw[b0,LW]);have eZ:((aY bL).toList != r.text.toList)=false:=by unfold bne;rw[c_];rfl
   have j:=ai.out;rw[if_neg (fun h=>by have:=h.2;rw[aQ b0]at this;simp at this),if_neg (by have:=cl.out;omega),if_pos trivial]at j;have a2:=O j;clear j ai b0;by_cases ad:e.key=fO
   case neg=>
    have R:=bz.out;rw[show decide (e.key≠fO)=true from aQ ad]at R;replace R:=O R;have j:=a2.out;rw[if_pos (show e.key≠fO from ad)]at j;have ac:=O j;clear j ad a2;go_wp2_with (first|(refine bF F (bQ F F (dF co av) dh ax) ?_)|(refine bF F (jm F F F oD R _) ?_));go_ret;exact⟨by rw[<-ac.out]<;>rfl,cw⟩
   have R:=bz.out;rw[show decide (e.key≠fO)=false from aP (fun h=>h ad)]at R;replace R:=O R;have j:=a2.out;rw[if_neg (fun h=>h ad)]at j;have a9:=O j;clear j ad a2;have ci:=O (fun I (ab:X e4 I)=>Lu p S e r I (ea.ext ab) aw.hm aw.hcm);go_wp2_with (first|(refine bF F (bQ F F (dF co av) dh ax) ?_)|(refine bF F (jm F F F oD R _) ?_)|(refine bV F 34 (.tmp 3) F F co cZ b' ?_)|(refine bV F 101 (.tmp 6) F F di eP ca ?_));refine(ci _ (X.refl _)).mono ?_;rintro a4 de ⟨rfl,u⟩;have bi:=O (cw.ext u);clear u;go_wp2_with fail;go_ret;exact⟨by rw[<-a9.out]<;>rfl,bi⟩
  have g1:(e.act==1)=false:=by simp;exact a3
  have ee:decide (e.act=1)=false:=aP a3;have j:=a1.out;rw[if_neg (fun h=>a3 h.1)]at j;have ai:=O j;clear j a1 a3;by_cases ba:e.act=4
  ·skip
   have g3:(e.act==4)=true:=by simp;exact ba
   have g4:decide (e.act=4)=true:=aQ ba;have j:=ai.out;rw[if_pos ba]at j;have a2:=O j;clear j ai ba;by_cases ad:e.key=fO
   ·skip
    have R:=dT.out;rw[show decide (e.key=fO)=true from aQ ad]at R;replace R:=O R;have j:=a2.out;rw[if_pos ad]at j;have ac:=O j;clear j ad a2;go_wp2_with (first|(refine bF F (bQ F F (dF ao av) dh ax) ?_)|(refine bF F (jm F F F oD R _) ?_));go_ret;exact⟨by rw[<-ac.out]<;>rfl,ap⟩
   have R:=dT.out;rw[show decide (e.key=fO)=false from aP ad]at R;replace R:=O R;have j:=a2.out;rw[if_neg ad]at j;have a9:=O j;clear j ad a2;cases bp with
   |true=>
    go_wp2_with (first|(refine bF F (bQ F F (dF ao av) dh ax) ?_)|(refine bF F (jm F F F oD R _) ?_));go_ret;exact⟨by rw[<-a9.out];rfl,ap⟩
   |false=>
    go_wp2_with (first|(refine bF F (bQ F F (dF ao av) dh ax) ?_)|(refine bF F (jm F F F oD R _) ?_));go_ret;exact⟨by rw[<-a9.out];rfl,ap⟩
  have g3:(e.act==4)=false:=by simp;exact ba
  have g4:decide (e.act=4)=false:=aP ba;have j:=ai.out;rw[if_neg ba]at j;have cE:=O j;clear j ai ba;cases bO with
  |true=>
   have j:=cE.out;rw[if_pos F]at j;have a8:=O j;clear j cE;by_cases ad:e.key=fO
   case neg=>
    have R:=bz.out;rw[show decide (e.key≠fO)=true from aQ ad]at R;replace R:=O R;have j:=a8.out;rw[if_pos (show e.key≠fO from ad)]at j;have ac:=O j;clear j ad a8;go_wp2_with (first|(refine bF F (bQ F F (dF ao av) dh ax) ?_)|(refine bF F (jm F F F oD R _) ?_));go_ret;exact⟨by rw[<-ac.out]<;>rfl,ap⟩
   have R:=bz.out;rw[show decide (e.key≠fO)=false from aP (fun h=>h ad)]at R;replace R:=O R;have j:=a8.out;rw[if_neg (fun h=>h ad)]at j;have a9:=O j;clear j ad a8;have ci:=O (fun I (ab:X aR I)=>Lu p S e r I (a_.ext ab) aw.hm aw.hcm);go_wp2_with (first|(refine bF F (bQ F F (dF ao av) dh ax) ?_)|(refine bF F (jm F F F oD R _) ?_)|(refine bV F 34 (.tmp 3) F F ao cZ b' ?_)|(refine bV F 101 (.tmp 6) F F bd eP ca ?_));refine(ci _ (X.refl _)).mono ?_;rintro a4 de ⟨rfl,u⟩;have bi:=O (ap.ext u);clear u;go_wp2_with fail;go_ret;exact⟨by rw[<-a9.out]<;>rfl,bi⟩
  |false=>
   have j:=cE.out;rw[if_neg aX]at j;have a8:=O j;clear j cE;cases bp with
   |false=>
    go_wp2_with fail;go_ret;exact⟨by rw[<-a8.out];first|rfl|simp,ap⟩
   |true=>
    have d6:=O (show(if k.rev=true then(15:Int)else S.p.EH e r.p k)=V from a8);clear a8;have fj:=b3.cell' (bC.CG bw);have eV:=O (fun I (ab:X aR I)=>aaD p S e r k I (a_.ext ab) aw (cs.ext ab) bw);generalize k.rev=e0 at*;cases e0 with
    |true=>
     go_wp2_with fail;go_ret;exact⟨by rw[<-d6.out];first|rfl|simp,ap⟩
    |false=>
     go_wp2_with (first|(refine bV F 34 (.tmp 3) F F ao cZ b' ?_)|(refine bV F 101 (.tmp 6) F F bd eP ca ?_)|(refine bV F 159 (.tmp 11) F F b3 pX cz ?_));refine(eV _ (X.refl _)).mono ?_;rintro a4 de ⟨rfl,u⟩;have bi:=O (ap.ext u);clear u;go_wp2_with fail;go_ret;exact⟨by rw[<-d6.out];rfl,bi⟩
end Go.Proofs.YtjlhhnkhcbpnjaaGreatDoor
