/- Laws that the row leans on; no condition. -/
import Derived.Test.YtjlhhnkhcbpnjaaGreatDoorJM16
namespace Go.Proofs.YtjlhhnkhcbpnjaaGreatDoor
open Go Go.RowKit List Tryz
set_option linter.unusedVariables false
set_option linter.unusedSimpArgs false
set_option maxHeartbeats 40000000
set_option maxRecDepth 100000
theorem Td{a:Int}:EF a=true↔a∈([1,2,3,8,11,12]:List Int):=by
 unfold EF;simp[or_assoc]
theorem Tf{x y:aj}(j:x.length=16)(u:y.length=16)(w:World):(binOp .neq 29 (.agg (x.map Y).toArray) (.agg (y.map Y).toArray)).run prog w= .ok (.bool (decide (x≠y))) w:=by
 rw[vY underlying29 x y j u w]
 congr 1
 by_cases h:x=y<;>simp[h]
theorem aaY{x:aj}(h:x.length=16)(w:World):(binOp .neq 29 (.agg (x.map Y).toArray) (.agg (List.replicate 16 (.int .u8 0)).toArray)).run prog w= .ok (.bool (decide (x≠fO))) w:=by
 have j:(List.replicate 16 (Value.int .u8 0))=fO.map Y:=by simp[fO,Y]
 rw[j];exact Tf h (by simp[fO]) w
theorem yT(k:bC):∀v∈k.v,v.oneCell'=true:=by
 intro v j;unfold bC.v at j;simp only[mem_append,mem_cons,mem_map]at j;rcases j with⟨a,_,rfl⟩|rfl|rfl|⟨a,_,rfl⟩|rfl|rfl|⟨a,_,rfl⟩<;>rfl
theorem LW(s:ByteArray):aY s.data.toList=s:=by
 apply ByteArray.ext;simp[aY]
theorem LX:∀xs ys:List aS,jY (xs.map aS.bare) ys=jY xs ys
 |[],[]=>rfl
 |[],_::_=>rfl
 |_::_,[]=>rfl
 |x::xs,y::ys=>by
  show(vG x.bare y&&jY (xs.map aS.bare) ys)=(vG x y&&jY xs ys);rw[LX xs ys];rfl
theorem Ti{rs j:List aS}(h:rs.map aS.bare=j)(n:Nat):lH j n=lH rs n:=by grind [lH,KW,Ic,LX]
theorem aaZ{rs j:List aS}(h:rs.map aS.bare=j)(n:Nat):lI j n=lI rs n:=by grind [lI,Ti,Ic]
theorem aa0(p:Nat)(S:aV)(e:aG)(w:World)(h:dJ w p S)(ae:e.Ok w)(eC:mJ w):
 nW 83 #[.pointer (some ⟨p,0,none⟩),.agg e.v.toArray] w (.int .i64 (S.p.ref e)):=by
 obtain⟨cn,b1,eg,nA,b3,cm,ax,ei⟩:=jg (aG.len ae) ae eC h (And.intro h.hl h.hf) (show(e.bI.map Y).length=16 by rw[length_map,ae.ha]) (show(e.key.map Y).length=16 by rw[length_map,ae.hk]) (show(e.prev.map Y).length=32 by rw[length_map,ae.hp]);obtain⟨eh,ck,ar,ee,ek,fo,fi,cX⟩:=jg (show(S.last.map Y).length=32 by rw[length_map,h.hl]) (aG.Eh ae) (aG.F4 ae) (aG.BH ae) (aV.last_at h.hl) (aG.zV ae) (fun I (di:X w I)=>(h.ext di).EL (id:=e.bI) ae.ha true) (fun I (di:X w I)=>(h.ext di).Lr (id:=e.key) ae.hk true);obtain⟨db,ef,b4,ez,b2⟩:=dM (fun I=>LG ae.hp h.hl I) (fun I=>SL ae.hk I) (fun I=>aaY ae.hk I) (fun I (aa:e.Ok I)=>Ei e I aa) (h.Il e.key);obtain⟨V,ct⟩:=aC (S.p.ref e);rw[ct];unfold dw.ref at ct;rw[show S.p.cnt=S.cnt from F,show S.p.last=S.last from F,show S.p.tm=S.tm from F,show S.p.ks=S.ks from F,show bW S.p.ms e.bI=(bW S.ms e.bI).map iF.l from EK iF.l S.ms e.bI,Option.isNone_map]at ct;obtain⟨HV,c_⟩:=aB ct (fun b9:dN e=0=>qy ae b9);have c9:=O (fun b9:dN e=0=>show(kE kF e.act e.body).2=0 by
  obtain⟨fz,r2,fL,fN,fR,fS,fW⟩:=qy ae b9;unfold dN at b9;rw[if_neg (by unfold dR;simp;omega)]at b9;exact b9)
 clear h ae eC ct;go_enter func83,ntmps83;go_upto_region 1 with fail;generalize iX:World.alloc w _=dt;have ew:ah dt w.heap.size e.v 34:=by rw[<-iX];exact ah.aI F F
 have dj:X w dt:=by rw[<-iX];exact(X.refl w).alloc _
 obtain⟨c1,c7,en⟩:=aW ew dj (nA.ext dj);clear iX ew dj;generalize w.heap.size=G3 at*;go_wp2_with (refine bV F 34 _ F F c1 cZ cn ?_);refine(ez dt (b1.ext c7)).mono ?_;rintro a8 fl ⟨rfl,u⟩;obtain⟨cD,cJ,eo⟩:=aW (c1.ext u) (c7.ext u) (en.ext u);clear u c1 c7 en;clear ez;by_cases bt:dN e≠0
 ·skip
  have j:=HV.out;rw[if_pos bt]at j;have ab:=O j;have eQ:(dN e != 0)=true:=by simp;exact bt
  have n2:decide (dN e=0)=false:=aP bt;generalize dN e=E at*;clear bt j HV c_ c9;go_wp2_with fail;go_ret;exact⟨by rw[<-ab.out];first|rfl|simp,cJ⟩
 have cW:dN e=0:=Classical.not_not.1 bt;have j:=HV.out;rw[if_neg bt]at j;obtain⟨el,fx,e3⟩:=aW j (c_ cW) (c9 cW);rw[cW];clear bt cW j HV c_ c9;have dm:=O (fun I (aa:X w I)=>GH e.act e.body e.ba e.bn e.bc I b1.hb b1.hbc b1.bE (b1.hcl.ext aa));rw[e3.out]at dm;have ai:=cD.cell' (aG.at2 e);have fp:=cD.cell' fo;go_wp2_with fail;refine(dm fl cJ).mono ?_;rintro a8 v2 ⟨r,rfl,dk,eK,dl,eL,u⟩;obtain⟨aw,e0⟩:=aB dk (show r.p=mO e from eL);have d8:=O dl.cells;have co:=O (ay.len (dk.ok eK dl));clear dk eK dl eL dm ai fp;obtain⟨d3,ec,ev⟩:=aW (cD.ext u) (cJ.ext u) (eo.ext u);clear u cD cJ eo;go_wp2_with (refine bg F _ _ _ F F F (ah.aI (vs:=dI.v) F F) eP fM (xs:=r.v) co (lD r) ?_);intro v3 ad a0;have u:X v2 v3:=a0.ext ((X.refl v2).alloc _) l5;have dT:=O ad;clear ad a0;obtain⟨c2,c8,df,d'⟩:=bU (d3.ext u) (ec.ext u) (ev.ext u) (d8.ext u);clear u d3 ec ev d8;generalize v2.heap.size=G6 at*;generalize eM:(bW S.ms e.bI).isSome=eN at*;have e1:=O (show(bW S.ms e.bI).isNone= !eN by rw[<-eM];cases bW S.ms e.bI<;>rfl);clear eM;have j:=el.out;rw[e1.out,<-e0.out]at j;have dd:=O j;clear j el;go_upto_region 5 with fail;obtain⟨C,iB,aJ⟩:=jJ v3;have ex:∀I,C I->I.cell? ⟨p,51,none⟩=some (.map (some S.gm)):=fun I aa=>((df.ext ((iB I).1 aa)).blk).cell' (aV.mD b3.1 b3.2);refine wp_region_held_drew (S:=C) au ((iB _).2 (X.refl v3).drew) (fun Z=> ?_);refine aA 0 ?_;refine aA 1 ?_;refine aA 2 ?_;refine dA 3 (ex) ?_;refine aA 4 ?_;refine bD 5 F (bf F (fun I h=>bQ F F (dF (c2.ext ((iB I).1 h)) ck) dh cm)) ?_;refine bD 6 F (bf F (fun I h=>vH F F F (fi I (c8.ext ((iB I).1 h))))) ?_
 simp only[if_true];generalize (S.jO e.bI).v=fX at*;refine aA 7 ?_;refine aA 8 ?_;refine aA 9 ?_;refine aA 10 ?_;refine aA 11 ?_;refine dH ?_;have u:=(iB _).1 Z;generalize a9:World.drew v3=du at u⊢;clear a9 Z aJ iB ex;obtain⟨c3,ed,dg,ea,d0⟩:=dM (c2.ext u) (c8.ext u) (df.ext u) (d'.ext u) (dT.ext u);clear u c2 c8 df d' dT;go_upto_region 6 with fail;obtain⟨C,iB,aJ⟩:=jJ du;have k1:∀I,C I->I.cell? ⟨G3,0,none⟩=some (.int .i64 e.num):=fun I aa=>(c3.ext ((iB I).1 aa)).cell' (aG.aL e);have k2:∀I,C I->I.cell? ⟨p,0,none⟩=some (.int .i64 (S.cnt:Int)):=fun I aa=>((dg.ext ((iB I).1 aa)).blk).cell' (aV.aL S);refine wp_region_held_drew (S:=C) au ((iB _).2 (X.refl du).drew) (fun Z=> ?_);refine aA 0 ?_;refine dA 1 (k1) ?_;refine aA 2 ?_;refine aA 3 ?_;refine aA 4 ?_;refine dA 5 (k2) ?_;refine aA 6 ?_;refine aA 7 ?_;refine dH ?_;have u:=(iB _).1 Z;generalize a9:World.drew du=ce at u⊢;clear a9 Z aJ iB k1 k2;obtain⟨b0,cj,b7,cG,cC⟩:=dM (c3.ext u) (ed.ext u) (dg.ext u) (ea.ext u) (d0.ext u);clear u c3 ed dg ea d0;by_cases bi:e.num=(S.cnt:Int)
 case neg=>
  have e4:(e.num != (S.cnt:Int))=true:=by simp;exact bi
  have e6:decide (e.num=(S.cnt:Int))=false:=aP bi;have j:=dd.out;rw[if_pos (show e.num≠(S.cnt:Int)from bi)]at j;have ab:=O j;clear j bi;go_wp2_with fail;go_ret;exact⟨by rw[<-ab.out];first|rfl|simp,cj⟩
 have e4:(e.num != (S.cnt:Int))=false:=by simp;exact bi
 have e6:decide (e.num=(S.cnt:Int))=true:=aQ bi;have j:=dd.out;rw[if_neg (fun h=>h bi)]at j;have cT:=O j;clear j bi dd;by_cases ca:e.prev=S.last
 case neg=>
  have R:=db.out;rw[show decide (e.prev≠S.last)=true from aQ ca]at R;replace R:=O R;have j:=cT.out;rw[if_pos (show e.prev≠S.last from ca)]at j;have ab:=O j;clear j ca cT;go_upto_region 8 with fail;obtain⟨C,iB,aJ⟩:=jJ ce;refine wp_region_held_drew (S:=C) au ((iB _).2 (X.refl ce).drew) (fun Z=> ?_);refine aA 0 ?_;refine bD 1 F (bf F (fun I h=>bQ F F (dF (b0.ext ((iB I).1 h)) ee) bY ei)) ?_;refine aA 2 ?_;refine aA 3 ?_;refine aA 4 ?_;refine bD 5 F (bf F (fun I h=>bQ F F (dF ((b7.ext ((iB I).1 h)).blk) ek) bY eh)) ?_;refine bD 6 F (bf F (fun I _=>jm F F F CO R I)) ?_;refine aA 7 ?_;refine dH ?_;have u:=(iB _).1 Z;generalize a9:World.drew ce=cY at u⊢;clear a9 Z aJ iB;obtain⟨cF,cN,cV,c5,c0⟩:=dM (b0.ext u) (cj.ext u) (b7.ext u) (cG.ext u) (cC.ext u);clear u b0 cj b7 cG cC;go_wp2_with fail;go_ret;exact⟨by rw[<-ab.out];first|rfl|simp,cN⟩
 have R:=db.out;rw[show decide (e.prev≠S.last)=false from aP (fun h=>h ca)]at R;replace R:=O R;have j:=cT.out;rw[if_neg (fun h=>h ca)]at j;have de:=O j;clear j ca cT;go_upto_region 8 with fail;obtain⟨C,iB,aJ⟩:=jJ ce;refine wp_region_held_drew (S:=C) au ((iB _).2 (X.refl ce).drew) (fun Z=> ?_);refine aA 0 ?_;refine bD 1 F (bf F (fun I h=>bQ F F (dF (b0.ext ((iB I).1 h)) ee) bY ei)) ?_;refine aA 2 ?_;refine aA 3 ?_;refine aA 4 ?_;refine bD 5 F (bf F (fun I h=>bQ F F (dF ((b7.ext ((iB I).1 h)).blk) ek) bY eh)) ?_;refine bD 6 F (bf F (fun I _=>jm F F F CO R I)) ?_;refine aA 7 ?_;refine dH ?_;have u:=(iB _).1 Z;generalize a9:World.drew ce=cY at u⊢;clear a9 Z aJ iB;obtain⟨cF,cN,cV,c5,c0⟩:=dM (b0.ext u) (cj.ext u) (b7.ext u) (cG.ext u) (cC.ext u);clear u b0 cj b7 cG cC;clear R db;go_upto_region 10 with fail;obtain⟨C,iB,aJ⟩:=jJ cY;have k1:∀I,C I->I.cell? ⟨G3,1,none⟩=some (.int .i64 e.time):=fun I aa=>(cF.ext ((iB I).1 aa)).cell' (aG.rH e);have k2:∀I,C I->I.cell? ⟨p,1,none⟩=some (.int .i64 S.tm):=fun I aa=>((cV.ext ((iB I).1 aa)).blk).cell' (aV.rH S);refine wp_region_held_drew (S:=C) au ((iB _).2 (X.refl cY).drew) (fun Z=> ?_);refine aA 0 ?_;refine dA 1 (k1) ?_;refine aA 2 ?_;refine aA 3 ?_;refine aA 4 ?_;refine dA 5 (k2) ?_;refine aA 6 ?_;refine aA 7 ?_;refine dH ?_;have u:=(iB _).1 Z;generalize a9:World.drew cY=eS at u⊢;clear a9 Z aJ iB k1 k2;obtain⟨am,ba,az,cH,a_⟩:=dM (cF.ext u) (cN.ext u) (cV.ext u) (c5.ext u) (c0.ext u);clear u cF cN cV c5 c0;by_cases bw:e.time<S.tm
 ·skip
  have e7:decide (e.time<S.tm)=true:=aQ bw;have e8:decide (S.tm<=e.time)=false:=aP J;have e9:¬S.tm<=e.time:=J;have fy:e.time<S.tm:=bw;have j:=de.out;rw[if_pos bw]at j;have ab:=O j;clear j bw;go_wp2_with fail;go_ret;exact⟨by rw[<-ab.out];first|rfl|simp,ba⟩
 have e7:decide (e.time<S.tm)=false:=aP bw;have e8:decide (S.tm<=e.time)=true:=aQ J;have e9:S.tm<=e.time:=J;have j:=de.out;rw[if_neg bw]at j;have b6:=O j;clear j bw de;by_cases af:S.cnt=0
 ·skip
  have e_:((S.cnt:Int)==0)=true:=by simp;exact af
  have e':decide ((S.cnt:Int)=0)=true:=by simp;exact af
  have fa:decide ((S.cnt:Int)>0)=false:=by simp;omega
  have fb:decide ((0:Int)<(S.cnt:Int))=false:=by simp;omega
  have fc:decide (S.cnt=0)=true:=by simp;exact af
  have fd:decide (0<S.cnt)=false:=by simp;omega
  have e5:(S.cnt==0)=true:=by simp;exact af
  by_cases a2:e.act=2
  case neg=>
   have fe:(e.act != 2)=true:=by simp;exact a2
   have ff:decide (e.act=2)=false:=aP a2;have j:=b6.out;rw[if_pos ⟨af,a2⟩]at j;have ab:=O j;clear j af a2 b6;have aq:=az.blk.cell' (aV.aL S);have ai:=am.cell' (aG.at2 e);go_wp2_with fail;go_ret;exact⟨by rw[<-ab.out];first|rfl|simp,ba⟩
  have fe:(e.act != 2)=false:=by simp;exact a2
  have ff:decide (e.act=2)=true:=aQ a2;have j:=b6.out;rw[if_neg (fun h=>h.2 a2)]at j;have a4:=O j;clear j b6;obtain⟨cR,cP⟩:=aB (show(r.member.map Y).length=16 by rw[length_map,aw.hm]) (ay.Ls aw.hm);have b5:=fun I=>Tf aw.hm b1.ha I;by_cases cb:r.member=e.bI
  case neg=>
   rw[show decide (r.member≠e.bI)=true from aQ cb]at b5;have R:=O b5;have j:=a4.out;rw[if_pos (.inl ⟨af,cb⟩)]at j;have ab:=O j;clear j af a2 cb a4 b5;have aq:=az.blk.cell' (aV.aL S);have ai:=am.cell' (aG.at2 e);go_wp2_with (first|(refine bF F (bQ F F (dF a_ cP) dh cR) ?_)|(refine bF F (bQ F F (dF am ck) dh cm) ?_)|(refine bF F (jm F F F oD R _) ?_)|(refine jU F (bQ F F (dF a_ cP) dh cR) ?_)|(refine jU F (bQ F F (dF am ck) dh cm) ?_)|(refine jU F (jm F F F oD R _) ?_));go_ret;exact⟨by rw[<-ab.out];rfl,ba⟩
  rw[show decide (r.member≠e.bI)=false from aP (fun h=>h cb)]at b5;have R:=O b5;have j:=a4.out;rw[if_neg (by rintro(⟨_,h⟩|⟨h,_⟩);exact h cb;omega)]at j;obtain⟨cp,bp⟩:=aB j a2;clear j af a2 cb a4 b5;have aq:=az.blk.cell' (aV.aL S);have ai:=am.cell' (aG.at2 e);go_upto_region 14 with fail;go_upto_region 17 with(first|(refine bF F (bQ F F (dF a_ cP) dh cR) ?_)|(refine bF F (bQ F F (dF am ck) dh cm) ?_)|(refine bF F (jm F F F oD R _) ?_)|(refine jU F (bQ F F (dF a_ cP) dh cR) ?_)|(refine jU F (bQ F F (dF am ck) dh cm) ?_)|(refine jU F (jm F F F oD R _) ?_));have cv:=O (fun a I aa=>Es e.act [1,2,3,8,11,12] a 6 6 I F J aa);have aq:=az.blk.cell' (aV.aL S);have ai:=am.cell' (aG.at2 e);go_upto_region 17 with fail;go_wp2_with (first|(refine bF F (kT F F (gW ai ((X.refl _).alloc _)) BR) ?_));refine(cv _ _ (aK.tO (vs:=([1,2,3,8,11,12]:List Int).map lN) (ah.aI F F))).mono ?_;rintro a8 a1 ⟨b',rfl,ap,cz⟩;have u:X eS a1:=by rw[<-cz];exact(X.refl _).alloc _
  have cl:=O (show EF e.act=b' from Bool.eq_iff_iff.2 (Td.trans ap.symm));clear cz cv aq ai ap;obtain⟨bk,bl,br,ci,cf⟩:=dM (am.ext u) (ba.ext u) (az.ext u) (cH.ext u) (a_.ext u);clear u am ba az cH a_;obtain⟨k,hk⟩:=aC (S.uI e.key);generalize cy:(bW S.ks e.key).isSome=bv at*;have da:=O (show bW S.ks e.key=if bv=true then some k else none by
   rw[<-cy,<-hk];unfold aV.uI;cases bW S.ks e.key<;>rfl)
  rw[hk]at b2;obtain⟨dc,cQ⟩:=aB (fun I aa=>(cX I aa).trans (by rw[hk];rfl:_=Result.ok (Value.tuple #[.agg k.v.toArray,.bool bv]) I)) (bC.len b2);clear hk cy cX;go_upto_region 18 with fail;obtain⟨C,iB,aJ,bP⟩:=iw (show bT a1 a1 [] [] a1 from bT.jA (X.refl _) (dV.none _));have cq:∀I,C I->I.cell? ⟨p,52,none⟩=some (.map (some S.gk)):=fun I aa=>((br.ext ((iB I).1 aa).base).blk).cell' (aV.nV b3.1 b3.2);refine fJ fun Z=> ?_;refine aA 0 ?_;refine aA 1 ?_;refine aA 2 ?_;refine dA 3 (cq) ?_;refine aA 4 ?_;refine bD 5 F (bf F (fun I h=>bQ F F (dF (bk.ext ((iB I).1 h).base) ar) dh ax)) ?_;refine bD 6 F (bf F (fun I h=>vH F F F (dc I (bl.ext ((iB I).1 h).base)))) ?_;refine aA 7 ?_;refine aA 8 ?_;refine aA 9 ?_;generalize World.drew a1=al at Z⊢;refine aZ 10 ?_;intro bo aE;go_wp2_with fail;refine aE _ _ (aJ _ _ Z ((X.refl al).alloc _)) ?_;clear aE bo;generalize bu:World.alloc al _=bz;have ad:ah bz al.heap.size (bC.zero.v) 159:=by rw[<-bu];exact ah.aI F F
  have cs:C bz:=by rw[<-bu];exact aJ _ _ Z ((X.refl al).alloc _)
  have cr:=((iB al).1 Z).kept.1;have ch:=O ad;clear Z bu ad;have Z:=cs;clear cs;generalize al.heap.size=eV at*;refine aH ?_;refine aZ 11 ?_;intro bo aE;go_wp2_with (refine bg F _ _ _ F F F ch pX (bC.len bC.vk) cQ (yT _) ?_);intro a3 ad a0;replace Z:C a3:=(iB a3).2 (((iB bz).1 Z).upd a0 cr (by first|exact Nat.le_refl _|omega));go_wp2_with fail;refine aE _ _ Z ?_;have cg:=O ad;clear aE bo ad a0 ch;refine aH ?_;refine aA 12 ?_;refine dH ?_;have u:=((iB a3).1 Z).base;clear Z aJ iB cq bP cr;obtain⟨an,ao,be,cI,bj⟩:=dM (bk.ext u) (bl.ext u) (br.ext u) (ci.ext u) (cf.ext u);clear u bk bl br ci cf;have aq:=be.blk.cell' (aV.aL S);have ai:=an.cell' (aG.at2 e);have j:=cp.out;rw[da.out,cl.out]at j;have a5:=O j;clear j cp;have ap:=cl.out;rw[bp.out]at ap;obtain rfl:b'=true:=ap.symm;have j:=a5.out;rw[if_neg (fun h=>by have:=bp.out;omega),if_neg (by have:=bp.out;omega),if_pos F]at j;have ag:=O j;clear j a5 ap;have g1:(e.act==1)=false:=by simp;have:=bp.out;omega
  have ey:decide (e.act=1)=false:=by simp;have:=bp.out;omega
  have g3:(e.act==4)=false:=by simp;have:=bp.out;omega
  have g4:decide (e.act=4)=false:=by simp;have:=bp.out;omega
  by_cases ac:e.key=fO
  case neg=>
   have R:=b4.out;rw[show decide (e.key≠fO)=true from aQ ac]at R;replace R:=O R;have j:=ag.out;rw[if_pos (show e.key≠fO from ac)]at j;have ab:=O j;clear j ac ag;go_wp2_with (first|(refine bF F (bQ F F (dF an ar) dh ax) ?_)|(refine bF F (jm F F F oD R _) ?_));go_ret;exact⟨by rw[<-ab.out]<;>rfl,ao⟩
  have R:=b4.out;rw[show decide (e.key≠fO)=false from aP (fun h=>h ac)]at R;replace R:=O R;have j:=ag.out;rw[if_neg (fun h=>h ac)]at j;have bd:=O j;clear j ac ag;have cx:=O (fun I (aa:X a3 I)=>Lu p S e r I (be.ext aa) aw.hm aw.hcm);go_wp2_with (first|(refine bF F (bQ F F (dF an ar) dh ax) ?_)|(refine bF F (jm F F F oD R _) ?_)|(refine bV F 34 (.tmp 3) F F an cZ cn ?_)|(refine bV F 101 (.tmp 6) F F bj eP co ?_));refine(cx _ (X.refl _)).mono ?_;rintro a8 dv ⟨rfl,u⟩;have bm:=O (ao.ext u);clear u;go_wp2_with fail;go_ret;exact⟨by rw[<-bd.out]<;>rfl,bm⟩
 have e_:((S.cnt:Int)==0)=false:=by simp;exact af
 have e':decide ((S.cnt:Int)=0)=false:=by simp;exact af
 have fa:decide ((S.cnt:Int)>0)=true:=by simp;omega
 have fb:decide ((0:Int)<(S.cnt:Int))=true:=by simp;omega
 have fc:decide (S.cnt=0)=false:=by simp;exact af
 have fd:decide (0<S.cnt)=true:=by simp;omega
 have e5:(S.cnt==0)=false:=by simp;exact af
 have j:=b6.out;rw[if_neg (fun h=>af h.1)]at j;have a4:=O j;clear j b6;cases eN with
 |false=>
  have j:=a4.out;rw[if_pos (.inr ⟨J,F⟩)]at j;have ab:=O j;clear j af a4;have aq:=az.blk.cell' (aV.aL S);have ai:=am.cell' (aG.at2 e);go_wp2_with fail;go_ret;exact⟨by rw[<-ab.out];first|rfl|simp,ba⟩
 |true=>
  have j:=a4.out;rw[if_neg (by rintro(⟨h,_⟩|⟨_,h⟩);exact af h;cases h)]at j;have cp:=O j;clear j af a4;have aq:=az.blk.cell' (aV.aL S);have ai:=am.cell' (aG.at2 e);have cv:=O (fun a I aa=>Es e.act [1,2,3,8,11,12] a 6 6 I F J aa);have aq:=az.blk.cell' (aV.aL S);have ai:=am.cell' (aG.at2 e);go_upto_region 17 with fail;go_wp2_with (first|(refine bF F (kT F F (gW ai ((X.refl _).alloc _)) BR) ?_));refine(cv _ _ (aK.tO (vs:=([1,2,3,8,11,12]:List Int).map lN) (ah.aI F F))).mono ?_;rintro a8 a1 ⟨b',rfl,ap,cz⟩;have u:X eS a1:=by rw[<-cz];exact(X.refl _).alloc _
  have cl:=O (show EF e.act=b' from Bool.eq_iff_iff.2 (Td.trans ap.symm));clear cz cv aq ai ap;obtain⟨bk,bl,br,ci,cf⟩:=dM (am.ext u) (ba.ext u) (az.ext u) (cH.ext u) (a_.ext u);clear u am ba az cH a_;obtain⟨k,hk⟩:=aC (S.uI e.key);generalize cy:(bW S.ks e.key).isSome=bv at*;have da:=O (show bW S.ks e.key=if bv=true then some k else none by
   rw[<-cy,<-hk];unfold aV.uI;cases bW S.ks e.key<;>rfl)
  rw[hk]at b2;obtain⟨dc,cQ⟩:=aB (fun I aa=>(cX I aa).trans (by rw[hk];rfl:_=Result.ok (Value.tuple #[.agg k.v.toArray,.bool bv]) I)) (bC.len b2);clear hk cy cX;go_upto_region 18 with fail;obtain⟨C,iB,aJ,bP⟩:=iw (show bT a1 a1 [] [] a1 from bT.jA (X.refl _) (dV.none _));have cq:∀I,C I->I.cell? ⟨p,52,none⟩=some (.map (some S.gk)):=fun I aa=>((br.ext ((iB I).1 aa).base).blk).cell' (aV.nV b3.1 b3.2);refine fJ fun Z=> ?_;refine aA 0 ?_;refine aA 1 ?_;refine aA 2 ?_;refine dA 3 (cq) ?_;refine aA 4 ?_;refine bD 5 F (bf F (fun I h=>bQ F F (dF (bk.ext ((iB I).1 h).base) ar) dh ax)) ?_;refine bD 6 F (bf F (fun I h=>vH F F F (dc I (bl.ext ((iB I).1 h).base)))) ?_;refine aA 7 ?_;refine aA 8 ?_;refine aA 9 ?_;generalize World.drew a1=al at Z⊢;refine aZ 10 ?_;intro bo aE;go_wp2_with fail;refine aE _ _ (aJ _ _ Z ((X.refl al).alloc _)) ?_;clear aE bo;generalize bu:World.alloc al _=bz;have ad:ah bz al.heap.size (bC.zero.v) 159:=by rw[<-bu];exact ah.aI F F
  have cs:C bz:=by rw[<-bu];exact aJ _ _ Z ((X.refl al).alloc _)
  have cr:=((iB al).1 Z).kept.1;have ch:=O ad;clear Z bu ad;have Z:=cs;clear cs;generalize al.heap.size=eV at*;refine aH ?_;refine aZ 11 ?_;intro bo aE;go_wp2_with (refine bg F _ _ _ F F F ch pX (bC.len bC.vk) cQ (yT _) ?_);intro a3 ad a0;replace Z:C a3:=(iB a3).2 (((iB bz).1 Z).upd a0 cr (by first|exact Nat.le_refl _|omega));go_wp2_with fail;refine aE _ _ Z ?_;have cg:=O ad;clear aE bo ad a0 ch;refine aH ?_;refine aA 12 ?_;refine dH ?_;have u:=((iB a3).1 Z).base;clear Z aJ iB cq bP cr;obtain⟨an,ao,be,cI,bj⟩:=dM (bk.ext u) (bl.ext u) (br.ext u) (ci.ext u) (cf.ext u);clear u bk bl br ci cf;have aq:=be.blk.cell' (aV.aL S);have ai:=an.cell' (aG.at2 e);have j:=cp.out;rw[da.out,cl.out]at j;have a5:=O j;clear j cp;by_cases a7:e.act=1
  ·skip
   have g1:(e.act==1)=true:=by simp;exact a7
   have ey:decide (e.act=1)=true:=aQ a7;have ap:=cl.out;rw[a7]at ap;obtain rfl:b'=true:=ap.symm;clear ap;have cA:=O a7;clear a7;have al:=bj.cell' (ay.aL r);have dp:=O (fun I (aa:mJ I)=>S_ r.text.data.toList I aa (by rw[Array.length_toList];exact Nat.le_trans aw.ts J));rw[LW]at dp;go_wp2_with fail;refine(dp _ (eg.ext ao)).mono ?_;rintro a8 eR ⟨dr,bx,ds,cc,rfl,eI,eJ,u⟩;obtain⟨ej,eW⟩:=aB eI eJ;clear eI eJ dp aq ai al;obtain⟨d1,eb,ep,d6,dy,d4⟩:=iq (an.ext u) (ao.ext u) (be.ext u) (cI.ext u) (bj.ext u) (cg.ext u);clear u an ao be cI bj cg;go_wp2_with (refine bg F _ _ _ F F F (ah.aI (vs:=[.slice none 0 0]) F F) Cj F (xs:=[.slice dr bx ds]) F (fun v j=>by simp at j;rw[j];rfl) ?_);intro fm ad a0;have u:X eR fm:=a0.ext ((X.refl _).alloc _) l5;have c4:=O ad;clear ad a0;obtain⟨d2,cL,er,d7,dC,d5,cS⟩:=su (d1.ext u) (eb.ext u) (ep.ext u) (d6.ext u) (dy.ext u) (d4.ext u) (ej.ext u);clear u d1 eb ep d6 dy d4 ej;generalize eR.heap.size=fv at*;by_cases cw:jH r.text.data.toList=0
   case neg=>
    have eQ:(jH r.text.data.toList != 0)=true:=by simp;exact cw
    have n2:decide (jH r.text.data.toList=0)=false:=aP cw;have j:=a5.out;rw[if_pos ⟨cA,by unfold Ih;rw[show r.p.text=r.text from F,n2];rfl⟩]at j;have ab:=O j;clear j a5;generalize jH r.text.data.toList=E at*;go_wp2_with fail;go_ret;exact⟨by rw[<-ab.out];first|rfl|simp,cL⟩
   have eA:Ih r.p.text.data.toList=(decide (lH cc bx=0)&&decide (lI cc bx=r.text.data.toList)):=by
    unfold Ih;rw[show r.p.text=r.text from F,<-eW.out,length_map,cS.hl,Ti F,aaZ F,aQ cw,Bool.true_and]
   have j:=a5.out;rw[eA]at j;have ag:=O j;clear j a5 eA;rw[cw];clear cw;have eE:=O (fun I (aa:lG I dr bx ds cc) fg=>Tc dr bx ds cc I aa fg);go_wp2_with (refine bV F 152 _ F F c4 Cj F ?_);refine(eE _ cS (eg.ext cL)).mono ?_;rintro a8 fn ⟨rfl,u⟩;obtain⟨cE,cM,et,ft,dE,fr,fw,fs⟩:=jg (d2.ext u) (cL.ext u) (er.ext u) (d7.ext u) (dC.ext u) (d5.ext u) (cS.ext u) (c4.ext u);clear u d2 cL er d7 dC d5 cS c4;clear eE;generalize lH cc bx=c6 at*;generalize lI cc bx=b8 at*;have al:=dE.cell' (ay.aL r);have aq:=et.blk.cell' (aV.aL S);have ai:=cE.cell' (aG.at2 e);by_cases e2:c6=0
   case neg=>
    have eQ:(c6 != 0)=true:=by simp;exact e2
    have n2:decide (c6=0)=false:=aP e2;have j:=ag.out;rw[if_pos ⟨cA,by rw[n2];rfl⟩]at j;have ab:=O j;clear j ag e2;go_wp2_with fail;go_ret;exact⟨by rw[<-ab.out];first|rfl|simp,cM⟩
   subst e2;by_cases cd:b8=r.text.data.toList
   case neg=>
    have dq:((aY b8).toList==r.text.toList)=false:=by
     rw[Bool.eq_false_iff];intro h;exact cd (by rw[<-(FQ _ _).1 h];exact(pW b8).symm)
    have fj:((aY b8).toList != r.text.toList)=true:=by unfold bne;rw[dq];rfl
    have j:=ag.out;rw[if_pos ⟨cA,by rw[aP cd];simp⟩]at j;have ab:=O j;clear j ag cd;go_wp2_with fail;go_ret;exact⟨by rw[<-ab.out];first|rfl|simp,cM⟩
   have dq:((aY b8).toList==r.text.toList)=true:=(FQ _ _).2 (by rw[cd,LW]);have fj:((aY b8).toList != r.text.toList)=false:=by unfold bne;rw[dq];rfl
   have j:=ag.out;rw[if_neg (fun h=>by have:=h.2;rw[aQ cd]at this;simp at this),if_neg (by have:=cA.out;omega),if_pos trivial]at j;have a6:=O j;clear j ag cd;by_cases ac:e.key=fO
   case neg=>
    have R:=b4.out;rw[show decide (e.key≠fO)=true from aQ ac]at R;replace R:=O R;have j:=a6.out;rw[if_pos (show e.key≠fO from ac)]at j;have ab:=O j;clear j ac a6;go_wp2_with (first|(refine bF F (bQ F F (dF cE ar) dh ax) ?_)|(refine bF F (jm F F F oD R _) ?_));go_ret;exact⟨by rw[<-ab.out]<;>rfl,cM⟩
   have R:=b4.out;rw[show decide (e.key≠fO)=false from aP (fun h=>h ac)]at R;replace R:=O R;have j:=a6.out;rw[if_neg (fun h=>h ac)]at j;have bd:=O j;clear j ac a6;have cx:=O (fun I (aa:X fn I)=>Lu p S e r I (et.ext aa) aw.hm aw.hcm);go_wp2_with (first|(refine bF F (bQ F F (dF cE ar) dh ax) ?_)|(refine bF F (jm F F F oD R _) ?_)|(refine bV F 34 (.tmp 3) F F cE cZ cn ?_)|(refine bV F 101 (.tmp 6) F F dE eP co ?_));refine(cx _ (X.refl _)).mono ?_;rintro a8 dv ⟨rfl,u⟩;have bm:=O (cM.ext u);clear u;go_wp2_with fail;go_ret;exact⟨by rw[<-bd.out]<;>rfl,bm⟩
  have g1:(e.act==1)=false:=by simp;exact a7
  have ey:decide (e.act=1)=false:=aP a7;have j:=a5.out;rw[if_neg (fun h=>a7 h.1)]at j;have ag:=O j;clear j a5 a7;by_cases bh:e.act=4
  ·skip
   have g3:(e.act==4)=true:=by simp;exact bh
   have g4:decide (e.act=4)=true:=aQ bh;have j:=ag.out;rw[if_pos bh]at j;have a6:=O j;clear j ag bh;by_cases ac:e.key=fO
   ·skip
    have R:=ef.out;rw[show decide (e.key=fO)=true from aQ ac]at R;replace R:=O R;have j:=a6.out;rw[if_pos ac]at j;have ab:=O j;clear j ac a6;go_wp2_with (first|(refine bF F (bQ F F (dF an ar) dh ax) ?_)|(refine bF F (jm F F F oD R _) ?_));go_ret;exact⟨by rw[<-ab.out]<;>rfl,ao⟩
   have R:=ef.out;rw[show decide (e.key=fO)=false from aP ac]at R;replace R:=O R;have j:=a6.out;rw[if_neg ac]at j;have bd:=O j;clear j ac a6;cases bv with
   |true=>
    go_wp2_with (first|(refine bF F (bQ F F (dF an ar) dh ax) ?_)|(refine bF F (jm F F F oD R _) ?_));go_ret;exact⟨by rw[<-bd.out];rfl,ao⟩
   |false=>
    go_wp2_with (first|(refine bF F (bQ F F (dF an ar) dh ax) ?_)|(refine bF F (jm F F F oD R _) ?_));go_ret;exact⟨by rw[<-bd.out];rfl,ao⟩
  have g3:(e.act==4)=false:=by simp;exact bh
  have g4:decide (e.act=4)=false:=aP bh;have j:=ag.out;rw[if_neg bh]at j;have cU:=O j;clear j ag bh;cases b' with
  |true=>
   have j:=cU.out;rw[if_pos F]at j;have bc:=O j;clear j cU;by_cases ac:e.key=fO
   case neg=>
    have R:=b4.out;rw[show decide (e.key≠fO)=true from aQ ac]at R;replace R:=O R;have j:=bc.out;rw[if_pos (show e.key≠fO from ac)]at j;have ab:=O j;clear j ac bc;go_wp2_with (first|(refine bF F (bQ F F (dF an ar) dh ax) ?_)|(refine bF F (jm F F F oD R _) ?_));go_ret;exact⟨by rw[<-ab.out]<;>rfl,ao⟩
   have R:=b4.out;rw[show decide (e.key≠fO)=false from aP (fun h=>h ac)]at R;replace R:=O R;have j:=bc.out;rw[if_neg (fun h=>h ac)]at j;have bd:=O j;clear j ac bc;have cx:=O (fun I (aa:X a3 I)=>Lu p S e r I (be.ext aa) aw.hm aw.hcm);go_wp2_with (first|(refine bF F (bQ F F (dF an ar) dh ax) ?_)|(refine bF F (jm F F F oD R _) ?_)|(refine bV F 34 (.tmp 3) F F an cZ cn ?_)|(refine bV F 101 (.tmp 6) F F bj eP co ?_));refine(cx _ (X.refl _)).mono ?_;rintro a8 dv ⟨rfl,u⟩;have bm:=O (ao.ext u);clear u;go_wp2_with fail;go_ret;exact⟨by rw[<-bd.out]<;>rfl,bm⟩
  |false=>
   have j:=cU.out;rw[if_neg aX]at j;have bc:=O j;clear j cU;cases bv with
   |false=>
    go_wp2_with fail;go_ret;exact⟨by rw[<-bc.out];first|rfl|simp,ao⟩
   |true=>
    have em:=O (show(if k.rev=true then(15:Int)else S.p.Ki e r.p k)=V from bc);clear bc;have fY:=cg.cell' (bC.CG b2);have fh:=O (fun I (aa:X a3 I)=>aaD p S e r k I (be.ext aa) aw (cI.ext aa) b2);generalize k.rev=fk at*;cases fk with
    |true=>
     go_wp2_with fail;go_ret;exact⟨by rw[<-em.out];first|rfl|simp,ao⟩
    |false=>
     go_wp2_with (first|(refine bV F 34 (.tmp 3) F F an cZ cn ?_)|(refine bV F 101 (.tmp 6) F F bj eP co ?_)|(refine bV F 159 (.tmp 11) F F cg pX cQ ?_));refine(fh _ (X.refl _)).mono ?_;rintro a8 dv ⟨rfl,u⟩;have bm:=O (ao.ext u);clear u;go_wp2_with fail;go_ret;exact⟨by rw[<-em.out];rfl,bm⟩
end Go.Proofs.YtjlhhnkhcbpnjaaGreatDoor
