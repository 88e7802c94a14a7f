/- Laws that the row leans on; no condition. -/
import Derived.Test.YtjlhhnkhcbpnjaaGreatDoorJ26
namespace Go.Proofs.YtjlhhnkhcbpnjaaGreatDoor
open Go Go.RowKit List Tryz
set_option linter.unusedVariables false
set_option linter.unusedSectionVars false
set_option linter.unusedSimpArgs false
set_option maxHeartbeats 40000000
set_option maxRecDepth 100000
def dw.found(S:dw)(e:aG):dw:={S with ji:=if S.cnt=0 then e.bI else S.ji}
theorem dw.adV(S:dw)(e:aG):S.next e={(S.found e).act e (mO e)with av:=(if e.act≠8 then iQ ((S.found e).act e (mO e)).av (lV e)else((S.found e).act e (mO e)).av).map fun y=>(y.1,Aq e.time y.2),cnt:=S.cnt+1,tm:=e.time,last:=ig e}:=F
theorem Nj{S:dw}{e:aG}(h:S.ref e=0):dN e=0/\e.num=(S.cnt:Int)/\e.prev=S.last/\S.tm<=e.time:=by
 unfold dw.ref at h;by_cases j:dN e≠0
 ·rw[if_pos j]at h;exact absurd h j
 rw[if_neg j]at h;by_cases u:e.num≠(S.cnt:Int)
 ·rw[if_pos u]at h;cases h
 rw[if_neg u]at h;by_cases E:e.prev≠S.last
 ·rw[if_pos E]at h;cases h
 rw[if_neg E]at h;by_cases I:e.time<S.tm
 ·rw[if_pos I]at h;cases h
 exact⟨Classical.not_not.1 j,Classical.not_not.1 u,Classical.not_not.1 E,J⟩
theorem adW(m:aj)(A:List (aj×(Nat×List (aj×dX)))):(mV (fun l=>iQ l m) [] A).map (fun x=>(x.1,kM x.2.2))=(A.map fun x=>(x.1,kM x.2.2)).map fun y=>(y.1,iQ y.2 m):=by
 unfold mV;rw[map_map,map_map];refine map_congr_left fun x j=> ?_;show((if x.1∈[]then x else(x.1,(x.2.1,iQ x.2.2 m))).1,kM (if x.1∈[]then x else(x.1,(x.2.1,iQ x.2.2 m))).2.2)=(x.1,iQ (kM x.2.2) m);rw[if_neg aF];exact congrArg (fun q=>(x.1,q)) (Lp (fun v:dX=>(v.r.l,v.t)) x.2.2 m).symm
theorem adX(p:Nat)(S:aV)(e:aG)(w0 w:World)(h:dJ w p S)(dT:e.Ok w)(h0:CU p e)(fr:mJ w0)(cD:X w0 w)(dy:∀g,S.M p g->w0.heap.size<=g):
 Calls prog 45 #[.pointer (some ⟨p,0,none⟩),.agg e.v.toArray] w fun x w'=>x= .returned (.int .i64 (S.p.ref e))/\∃T,dJ w' p T/\T.p=S.p.apply e/\gB (S.M p) w w'/\(∀g,T.M p g->S.M p g∨w.heap.size<=g)/\∀g,g<w.heap.size->S.Off g->T.Off g:=by
 obtain⟨ax,iz,io,dq,il,iv⟩:=iq dT h0 fr h cD dy;have i0:=O h.blk.lt;obtain⟨eW,h2,k3⟩:=aW (aG.len dT) (fun j (R:X w j)=>aa0 p S e j (h.ext R) (dT.ext R) (fr.ext (cD.ext R))) (aG.zV dT);obtain⟨js,fk⟩:=jE (fun x w'=>x= .returned (.int .i64 (S.p.ref e))/\∃T,dJ w' p T/\T.p=S.p.apply e/\gB (S.M p) w w'/\(∀g,T.M p g->S.M p g∨w.heap.size<=g)/\∀g,g<w.heap.size->S.Off g->T.Off g:Ending->World->Prop);rw[<-fk];have e4:=O fk;clear h dT h0 fr cD dy fk;go_enter func45,ntmps45;go_upto_region 1 with fail;generalize fN:World.alloc w _=f4;have hA:ah f4 w.heap.size e.v 34:=by rw[<-fN];exact ah.aI F F
 have hD:X w f4:=by rw[<-fN];exact(X.refl w).alloc _
 obtain⟨ea,ey⟩:=aB hA hD;clear fN hA hD;obtain⟨G3,hH⟩:=aC w.heap.size;have hR:w.heap.size<=G3:=J;rw[hH]at ea⊢;clear hH;go_wp2_with (refine bV F 34 _ F F ea cZ eW ?_);refine(h2 f4 ey).mono ?_;rintro ds kA ⟨rfl,ac⟩;obtain⟨eb,cS⟩:=aB (ea.ext ac) (ey.ext ac);clear ac ea ey h2;by_cases c0:S.p.ref e≠0
 ·have k8:(S.p.ref e != 0)=true:=by simp;exact c0
  have n2:decide (S.p.ref e=0)=false:=aP c0;have ix:=O c0;generalize h5:S.p.ref e=E at*;have i5:=O h5;clear c0 h5;go_wp2_with fail
  (try go_ret)
  rw[e4.out];exact⟨by rfl,S,dq.ext cS,by unfold dw.apply;rw[i5.out,if_neg ix.out],gB.wC cS,fun g b0=> .inl b0,fun _ _ h=>h⟩
 have dv:S.p.ref e=0:=Classical.not_not.1 c0;obtain⟨a8,z2,ih,ii⟩:=Nj dv;have jb:=O (And.intro z2 (And.intro ih ii));have i2:=O (show js=fun x w'=>x= .returned (.int .i64 0)/\∃T,dJ w' p T/\T.p=S.p.next e/\gB (S.M p) w w'/\(∀g,T.M p g->S.M p g∨w.heap.size<=g)/\∀g,g<w.heap.size->S.Off g->T.Off g by
  rw[e4.out,dv];unfold dw.apply;rw[if_pos dv])
 have c2:=qy ax a8;obtain⟨cW,gr⟩:=aB c2 a8;have hl:=O (show(kE kF e.act e.body).2=0 by
  have cD:=a8;unfold dN at cD;rw[if_neg (by unfold dR;simp;omega)]at cD;exact cD)
 rw[dv];clear c0 dv a8 z2 ih ii c2 e4;have fx:=O (fun j (R:X w j)=>GH e.act e.body e.ba e.bn e.bc j ax.hb ax.hbc ax.bE (ax.hcl.ext R));rw[hl.out]at fx;have bv:=eb.cell' (aG.at2 e);have k5:=eb.cell' k3;go_wp2_with fail;refine(fx kA cS).mono ?_;rintro ds v2 ⟨r,rfl,fp,fz,hU,h4,ac⟩;obtain⟨am,e6,iu,hq,ge,ez⟩:=iq fp (show r.p=mO e from h4) (ay.len (fp.ok fz hU)) (fz.mono (B':=w.heap.size) cS.size) (eb.ext ac) (cS.ext ac);clear fp fz hU h4 fx ac eb cS bv k5;go_wp2_with (refine bg F _ _ _ F F F (ah.aI (vs:=dI.v) F F) eP fM (xs:=r.v) iu (lD r) ?_);intro v3 ae ai;have ac:X v2 v3:=ai.ext ((X.refl _).alloc _) bG;obtain⟨ga,cQ,eA,hu⟩:=bU ae (ge.ext ac) (ez.ext ac) (hq.ext' ac);have hS:w.heap.size<=v2.heap.size:=ez.size;clear ae ai ac ge ez hq;generalize v2.heap.size=G6 at*;have hW:(mO e).label.size<=140737488355328:=by rw[<-e6.out];exact am.ls
 have hO:=O (fun j (R:X w j)=>SS p S e j (dq.ext R) (ax.ext R) gr);have fo:=O (fun j (R:X w j)=>SH (S.oq e (S.lab e)) j (aV.EP (dq.ext R) (ax.ext R) (aV.IC dq hW)) (by
  obtain⟨_,_,_,_,k9,k',_⟩:=cW.out;exact⟨e.act.toNat,by show e.act=_;omega,J⟩))
 rw[abb]at fo;obtain⟨gO,i7⟩:=aB (show((lV e).map Y).length=32 by rw[length_map];exact j_ _ _) (b_ (lV e));clear hW;go_wp2_with (refine bV F 34 _ F F cQ cZ eW ?_);refine(hO v3 eA).mono ?_;rintro ds kO ⟨rfl,ac⟩;obtain⟨gc,gf,eC,hv⟩:=bU (ga.ext ac) (cQ.ext ac) (eA.ext ac) (hu.ext' ac);clear ac ga cQ eA hu hO;go_wp2_with fail;refine(fo kO eC).mono ?_;rintro ds ex ⟨rfl,ac⟩;obtain⟨gd,gg,c_,hw⟩:=bU (gc.ext ac) (gf.ext ac) (eC.ext ac) (hv.ext' ac);clear ac gc gf eC hv fo;go_wp2_with (refine bg F _ _ _ F F F (ah.aI (vs:=List.replicate 32 (.int .u8 0)) F F) bY aF gO i7 ?_);intro ie ae ai;have ac:X ex ie:=ai.ext ((X.refl _).alloc _) bG;have hT:w.heap.size<=ex.heap.size:=c_.size;have bo:Hid (lu w p S e r (lV e) G3 G6 ex.heap.size S ie):=O ⟨dq.ext (c_.ext ac),gB.wC (c_.ext ac),fun g b0=> .inl b0,gg.ext ac,gd.ext ac,ae,hw.ext' ac,ax.ext (c_.ext ac),iz,hR,hS,hT,i0,fun _ _ h=>h⟩;clear ae ai ac gd gg c_ hw hR hS hT;generalize ex.heap.size=G8 at*;have ir:=O (fun wx (h:gB (S.M p) w wx)=>io.ext (h.Ep il (fun x hx ka=>by have:=iv.out x ka;omega)));have k4:=bo.st.blk.cell' (aV.aL S);obtain⟨di,cV,eI,cU⟩:=bU (show(e.bI.map Y).length=16 by rw[length_map,ax.ha]) (show(e.key.map Y).length=16 by rw[length_map,ax.hk]) (aG.Eh ax) (aG.wB ax);go_upto_if 41 with fail;go_cut [] (fun wx=>∃T,lu w p S e r (lV e) G3 G6 G8 T wx/\T.p=S.p.found e)
 case first=>
  by_cases hc:S.cnt=0
  ·have jx:((S.cnt:Int)==0)=true:=by simp;exact hc
   have jz:decide ((S.cnt:Int)=0)=true:=by simp;exact hc
   have j0:(S.cnt==0)=true:=by simp;exact hc
   have j1:decide (S.cnt=0)=true:=by simp;exact hc
   have eK:=O hc;clear hc;go_wp2_with (first|(refine bF F (bQ F F (dF bo.be eI) dh di) ?_)|(refine kR F _ _ _ F F F bo.st.blk (by rw[di.out];exact dh) (by rw[di.out,aV.len bo.st.hl bo.st.hf];decide) (b_ e.bI) ?_));intro ba fc f3;rw[aV.aa7 bo.st.hl bo.st.hf ax.ha]at fc;have a5:=bo.st;have a4:Hid (lu w p S e r (lV e) G3 G6 G8 {S with ji:=e.bI} ba):=O (bo.turn f3.fF (.inl F) (a5.LJ f3.fF fc a5.hl ax.ha a5.c1 a5.t0 a5.t1 F F F F F F a5.po) (fun k hk=> .inl hk) (fun _ _ h=>⟨h.ms,h.av,h.po⟩));clear fc f3 a5;go_wp2_with fail;go_meet;exact⟨_,a4,by unfold dw.found;rw[if_pos (show S.p.cnt=0 from eK)]<;>rfl⟩
  ·have jx:((S.cnt:Int)==0)=false:=by simp;exact hc
   have jz:decide ((S.cnt:Int)=0)=false:=by simp;exact hc
   have j0:(S.cnt==0)=false:=by simp;exact hc
   have j1:decide (S.cnt=0)=false:=by simp;exact hc
   have eK:=O hc;clear hc;go_wp2_with fail;go_meet;exact⟨_,bo,by unfold dw.found;rw[if_neg (show¬S.p.cnt=0 from eK)]<;>rfl⟩
 case rest=>
 obtain⟨T,b',hK⟩:=hcut;obtain⟨ba,be⟩:=aC wc;rw[be]at b'⊢;obtain⟨a4,gR⟩:=aB b' hK;clear be wc b' hK bo k4;have a9:=O (abe am e6 hl);obtain⟨k,hk⟩:=aC (T.uI e.key);obtain⟨eS,ab⟩:=aB (show(bW T.p.ks e.key).getD bC.zero=k from hk) (show k.Ok by rw[<-hk];exact a4.st.Il e.key);have e0:=O (bC.len ab);have gA:=O (fun j (bp:X ba j)=>(show(Instr.lookup 143 (.map (some T.gk)) (eX e.key) false).run prog j= .ok (.agg k.v.toArray) j by
  have:=(a4.st.ext bp).Lr (id:=e.key) ax.hk false;rw[hk]at this;exact this))
 have a1:=O (And.intro a4.st.hl a4.st.hf);clear hk;go_upto_region 8 with fail;obtain⟨C,u,aJ,bP⟩:=iw (show bT ba ba [] [] ba from bT.jA (X.refl _) (dV.none _));have bz:∀j,C j->j.cell? ⟨p,52,none⟩=some (.map (some T.gk)):=fun j R=>((a4.st.ext ((u j).1 R).base).blk).cell' (aV.nV a1.1 a1.2);refine fJ fun Z=> ?_;refine aA 0 ?_;refine aA 1 ?_;refine aA 2 ?_;refine dA 3 (bz) ?_;refine aA 4 ?_;refine bD 5 F (bf F (fun j h=>bQ F F (dF (a4.be.ext ((u j).1 h).base) cU) dh cV)) ?_;refine bD 6 F (bf F (fun j h=>vH F F F (gA j ((u j).1 h).base))) ?_;generalize World.drew ba=ap at Z⊢;refine aZ 7 ?_;intro af aa;go_wp2_with fail;refine aa _ _ (aJ _ _ Z ((X.refl ap).alloc _)) ?_;clear aa af;generalize cI:World.alloc ap _=aE;have ae:ah aE ap.heap.size (bC.zero.v) 159:=by rw[<-cI];exact ah.aI F F
 have dE:C aE:=by rw[<-cI];exact aJ _ _ Z ((X.refl ap).alloc _)
 have fj:=((u ap).1 Z).kept.1;have gh:=O ae;clear Z cI ae;have Z:=dE;clear dE;generalize ap.heap.size=bj at*;refine aH ?_;refine aZ 8 ?_;intro af aa;go_wp2_with (refine bg F _ _ _ F F F gh pX (bC.len bC.vk) e0 (yT _) ?_);intro ag ae ai;replace Z:C ag:=(u ag).2 (((u aE).1 Z).upd ai fj (by first|exact Nat.le_refl _|omega));go_wp2_with fail;refine aa _ _ Z ?_;have ce:=O ae;clear aa af ae ai gh;refine aH ?_;refine dH ?_;have cn:=O ((u ag).1 Z).base;obtain⟨ad,bw⟩:=aB (a4.ext cn) fj;clear Z aJ u bz bP fj gA;have bv:=ad.be.cell' (aG.at2 e);obtain⟨e1,eJ,bx,cT,gw⟩:=dM (show(r.member.map Y).length=16 by rw[length_map,am.hm]) (ay.Ls am.hm) (show(r.commit.map Y).length=32 by rw[length_map,am.hcm]) (ay.CJ am.hm am.hcm) (b_ r.commit);go_upto_block 0 with fail;go_cut [] (fun wx=>∃a_,lu w p S e r (lV e) G3 G6 G8 a_ wx/\a_.p=T.p.act e r.p)
 case first=>
  by_cases cs:e.act=1
  ·as_aux_lemma=>
   have kf:(e.act==1)=true:=by simp;exact cs
   have kh:decide (e.act=1)=true:=aQ cs;have jp:=O cs;clear cs;have ap:=ad.bb.cell' (ay.aL r);have fy:=O (fun j (R:mJ j)=>S9 r.text.data.toList j R (by rw[Array.length_toList];exact Nat.le_trans am.ts J));rw[LW]at fy;go_wp2_with fail;refine(fy _ (ir _ ad.mu)).mono ?_;rintro ds al ⟨ep,et,er,fX,rfl,ca,h1,ac,hY⟩;obtain⟨cX,i1,gv,I⟩:=bU ca h1 hY (ad.ext ac);clear ca h1 fy ac hY ap bv;go_wp2_with (refine bg F _ _ _ F F F (ah.aI (vs:=[.slice none 0 0]) F F) Cj F (xs:=[.slice ep et er]) F (fun v h7=>by simp at h7;rw[h7];rfl) ?_);intro ia ae ai;have ac:X al ia:=ai.ext ((X.refl _).alloc _) bG;have gx:Hid (oG.Hi ia w.heap.size ⟨al.heap.size,ep,et,er,fX⟩):=O (abf ae I.mu.size (cX.ext ac) (abg gv ad.mu.size));obtain⟨iS,c6⟩:=aB (gx.mono (B':=p+1) I.pl) (I.ext ac);clear ae ai ac cX gv I;generalize al.heap.size=eE at*;have hC:=c6.st.blk.cell' (aV.CG a1.1 a1.2);have hE:=c6.st.blk.frozen 50;go_wp2_with fail;go_meet;have hb:=c6.st.blk.set 50 (.pointer (some ⟨eE,0,none⟩));rw[aV.L6 a1.1 a1.2 ⟨eE,ep,et,er,fX⟩]at hb;have a5:=c6.st;refine⟨{T with pol:=some ⟨eE,ep,et,er,fX⟩},c6.turn (aU.setCell _).fF (.inl F) (a5.LJ (aU.setCell _).fF hb a5.hl a5.hf a5.c1 a5.t0 a5.t1 F F F F F F (fun P cE=>by injection cE with cE;rw[<-cE];exact iS)) (fun k hk=> .inl hk) (fun g b0 h=>⟨h.ms,h.av,fun P cE=>by injection cE with cE;rw[<-cE];exact gx.off b0⟩),?_⟩;unfold dw.act;rw[if_pos jp.out];show _=dw.mk _ _ _ _ (some (mM r.text.data.toList)) _ _ _;rw[<-i1.out];rfl
  have kf:(e.act==1)=false:=by simp;exact cs
  have kh:decide (e.act=1)=false:=aP cs;by_cases ct:e.act=2
  ·as_aux_lemma=>
   have ki:(e.act==2)=true:=by simp;exact ct
   have kj:decide (e.act=2)=true:=aQ ct;have ho:=O ct;clear ct;go_upto_region 14 with fail;obtain⟨C,u,aJ,bP⟩:=iw (show bT ag ag [] [] ag from bT.jA (X.refl _) (dV.none _));have b8:∀j,C j->j.cell? ⟨p,51,none⟩=some (.map (some T.gm)):=fun j R=>((ad.st.ext ((u j).1 R).base).blk).cell' (aV.mD a1.1 a1.2);have jt:∀j,C j->j.cell? ⟨G6,17,none⟩=some (.slice r.ra r.rn r.rc):=fun j R=>(ad.bb.ext ((u j).1 R).base).cell' (ay.XA am);refine jQ (W:=[8]) fun Z=> ?_;refine bK 0 ?_;refine bK 1 ?_;refine bK 2 ?_;refine eY 3 (b8) ?_;refine bK 4 ?_;refine k_ 5 F (bf F (fun j h=>bQ F F (dF (ad.bb.ext ((u j).1 h).base) eJ) dh e1)) ?_;refine bK 6 ?_;refine eY 7 (jt) ?_;generalize World.drew ag=ap at Z⊢;have I:=O (ad.ext ((u ap).1 Z).base);obtain⟨aE,ao,an,aw⟩:=zY vg underlying142 I.st.mem I.st.em (show og r.member from am.hm) (v:=(⟨r.ra,r.rn,r.rc,r.roles⟩:iF));unfold eX iF.v at ao;have aq:=O an.fF;have a3:=O aw;clear an aw Z;refine iU 8 ?_;intro af aa;go_wp2_with fail;refine aa _ _ trivial ?_;clear aa af ao;refine aH ?_;refine jR ?_;go_wp2_with fail;go_meet;have cq:Hid (iF.Hi aE (p+1) ⟨r.ra,r.rn,r.rc,r.roles⟩):=O ⟨am.rl,am.qZ,a9.rn,a9.rs,(I.rh.fF aq (.inr I.st.Ar)).mono I.pl⟩;refine⟨{T with ms:=dU T.ms r.member ⟨r.ra,r.rn,r.rc,r.roles⟩},I.turn aq (.inr (.inl F)) (I.st.SN aq a3 (I.st.em.set _ am.hm) (fun x hx=> ?_)) (fun k hk=> .inl hk) (fun g b0 h=>⟨fun x hx=> ?_,h.av,h.po⟩),?_⟩
   ·rcases(uo I.st.em.nodup).1 hx with rfl|⟨hx,_⟩
    ·exact cq
    ·exact(I.st.mr x hx).fF aq (.inr I.st.Ar)
   ·rcases(uo I.st.em.nodup).1 hx with rfl|⟨hx,_⟩
    ·exact I.rh.off (z:=1) (by rw[length_map,am.rl,Nat.one_mul]) J b0
    ·exact h.ms x hx
   ·unfold dw.act;rw[if_neg (by have:=ho.out;omega),if_pos ho.out];exact congrArg (fun m=>({T.p with ms:=m}:dw)) (Lm iF.l T.ms r.member ⟨r.ra,r.rn,r.rc,r.roles⟩).symm
  have ki:(e.act==2)=false:=by simp;exact ct
  have kj:decide (e.act=2)=false:=aP ct;by_cases cv:e.act=3
  ·as_aux_lemma=>
   have kk:(e.act==3)=true:=by simp;exact cv
   have km:decide (e.act=3)=true:=aQ cv;have e_:=O cv;clear cv;go_upto_region 16 with fail;obtain⟨C,u,aJ,bP⟩:=iw (show bT ag ag [] [] ag from bT.jA (X.refl _) (dV.none _));have b8:∀j,C j->j.cell? ⟨p,51,none⟩=some (.map (some T.gm)):=fun j R=>((ad.st.ext ((u j).1 R).base).blk).cell' (aV.mD a1.1 a1.2);refine jQ (W:=[6]) fun Z=> ?_;refine bK 0 ?_;refine bK 1 ?_;refine bK 2 ?_;refine eY 3 (b8) ?_;refine bK 4 ?_;refine k_ 5 F (bf F (fun j h=>bQ F F (dF (ad.bb.ext ((u j).1 h).base) eJ) dh e1)) ?_;generalize World.drew ag=ap at Z⊢;have ar:=O (ad.ext ((u ap).1 Z).base);obtain⟨aE,ao,an,aw⟩:=KD vg underlying142 (ty:=0) ar.st.mem ar.st.em (show og r.member from am.hm);unfold eX at ao;have aq:=O an.fF;have a3:=O aw;clear an aw Z;refine iU 6 ?_;intro af aa;go_wp2_with fail;refine aa _ _ trivial ?_;clear aa af ao;refine aH ?_;refine jR ?_;have bm:=BP T.ms r.member;have cb:Hid (lu w p S e r (lV e) G3 G6 G8 {T with ms:=iQ T.ms r.member} aE):=O (ar.turn aq (.inr (.inl F)) (ar.st.SN aq a3 (ar.st.em.del _) (fun x hx=>(ar.st.mr x (bm.mem hx)).fF aq (.inr ar.st.Ar))) (fun k hk=> .inl hk) (fun _ _ h=>⟨fun x hx=>h.ms x (bm.mem hx),h.av,h.po⟩));clear aq a3 bm ar bv;have f7:=cb.st.blk.cell' (aV.oQ cb.st.hl cb.st.hf);have dc:=O cb.st.ea.nodup;go_wp2_with (at_range;refine zZ F 144 31 162 underlying144 _ F F cb.st.app ?_);intro kB hr cj d6;obtain⟨bc,cP,df⟩:=aW hr (cb.ext cj) (show w.heap.size<=aE.heap.size from cb.mu.size);clear hr cj d6 f7 cb;obtain⟨cJ,d4⟩:=aC aE.heap.size;rw[d4]at bc df⊢;clear d4;go_wp2_with fail
   go_loopw [14] (fun _ wr=>∃lf,gJ eX oH wr T.ga cJ (mV (fun l=>iQ l r.member) lf T.av) lf/\lf.Nodup/\lu w p S e r (lV e) G3 G6 G8 {T with ms:=iQ T.ms r.member,av:=mV (fun l=>iQ l r.member) lf T.av} wr) (fun _ wr=>wr.rangeLeft T.ga cJ)
   case atStart=>
    refine⟨T.av.map Prod.fst,?_,dc,?_⟩
    ·rw[Iw];exact bc
    ·rw[Iw];exact cP
   case round=>
    obtain⟨lf,cH,d1,dt⟩:=hrel;obtain⟨b6,dm,b3⟩:=aW cH d1 dt;have fw:=cH.qL;clear cH d1 dt bc cP;go_wp2_with (at_next;refine z_ F (fun x y h=>xJ h) _ F F b6 ?_ ?_)
    ·intro fs;subst fs;go_wp2_with fail;go_meet;refine⟨_,b3,?_⟩;unfold dw.act;rw[if_neg (by have:=e_.out;omega),if_neg (by have:=e_.out;omega),if_pos e_.out];exact congr (congrArg (fun m a=>({T.p with ms:=m,av:=a}:dw)) (Lp iF.l T.ms r.member).symm) (adW r.member T.av)
    ·intro x g l cM lf2 bl bt d0 d3 bh c1;have dl:=O (Au dm bt);obtain⟨e7,bi,dp⟩:=aW (Tm (f:=fun l=>iQ l r.member) dc bt dl.1 bl) (b3.beside bh.fF (CW b6) df (b3.st.Tq b6)) d3;obtain⟨a6,eV,eQ,b4⟩:=bU (bi.st.inn _ bl) d0 (bi.st.CP) bl;rw[show oH (g,l)= .map (some g)from F]at c1⊢;clear bl bt d3 bh b3 b6 d0;obtain⟨ew,ao,an,aw⟩:=KD vg underlying162 (ty:=0) a6.1 a6.2.1 (show og r.member from am.hm);unfold eX at ao;have b7:=O an.fF;have a3:=O aw;clear an aw;have bm:=BP l r.member;obtain⟨i,cG,d5⟩:=e7.out;have b':=bi.st.LH cG b7 a3 (a6.2.1.del _) (fun y a0=>a6.2.2 y (bm.mem a0));have du:=bi.turn b7 (.inr (.inr (.inr (.inr ⟨_,b4,F⟩)))) b' (by
      rintro k (h|h|h|h|⟨y,a0,h⟩)
      ·exact .inl (.inl h)
      ·exact .inl (.inr (.inl h))
      ·exact .inl (.inr (.inr (.inl h)))
      ·exact .inl (.inr (.inr (.inr (.inl h))))
      ·rcases mem_or_eq_of_mem_set a0 with a0|rfl
       ·exact .inl (.inr (.inr (.inr (.inr ⟨y,a0,h⟩))))
       ·exact .inl (.inr (.inr (.inr (.inr ⟨_,b4,h⟩)))))
      (fun _ _ h=>⟨h.ms,LY h.av (fun y a0=>h.av _ b4 y (bm.mem a0)),h.po⟩)
     have d2:gJ eX oH ew T.ga cJ (mV (fun l=>iQ l r.member) lf2 T.av) lf2:=(dp.mut b7 (fun h=>(eQ.2.2.2.1 _ b4).2.2 h.symm) (CV dp a6.1)).same ((Iy lf2 T.av).trans (Iy lf T.av).symm);obtain⟨cq,eL⟩:=aB d2 (show lu w p S e r (lV e) G3 G6 G8 {T with ms:=iQ T.ms r.member,av:=mV (fun l=>iQ l r.member) lf2 T.av} ew by rw[d5];exact du);clear cG d5 b' du d2 bm;go_wp2_with (first|(refine bF F (bQ F F (dF bi.bb eJ) dh e1) ?_));go_roundw
     case rel=>exact⟨lf2,cq,dl.2,eL⟩
     case measure=>rw[cq.qL,fw,eV.out];omega
  have kk:(e.act==3)=false:=by simp;exact cv
  have km:decide (e.act=3)=false:=aP cv;by_cases cw:e.act=4
  ·as_aux_lemma=>
   have kn:(e.act==4)=true:=by simp;exact cw
   have kp:decide (e.act=4)=true:=aQ cw;have eh:=O cw;clear cw;go_upto_region 22 with fail;obtain⟨C,u,aJ,bP⟩:=iw (show bT ag ag [] [] ag from bT.jA (X.refl _) (dV.none _));have bz:∀j,C j->j.cell? ⟨p,52,none⟩=some (.map (some T.gk)):=fun j R=>((ad.st.ext ((u j).1 R).base).blk).cell' (aV.nV a1.1 a1.2);have ju:∀j,C j->j.cell? ⟨G6,18,none⟩=some (.string r.label):=fun j R=>(ad.bb.ext ((u j).1 R).base).cell' (ay.Gt am);refine jQ (W:=[13]) fun Z=> ?_;refine bK 0 ?_;refine bK 1 ?_;refine bK 2 ?_;refine eY 3 (bz) ?_;refine bK 4 ?_;refine k_ 5 F (bf F (fun j h=>bQ F F (dF (ad.be.ext ((u j).1 h).base) cU) dh cV)) ?_;refine bK 6 ?_;refine k_ 7 F (bf F (fun j h=>bQ F F (dF (ad.be.ext ((u j).1 h).base) cU) dh cV)) ?_;refine bK 8 ?_;refine eY 9 (ju) ?_;refine bK 10 ?_;refine k_ 11 F (bf F (fun j h=>bQ F F (dF (ad.bb.ext ((u j).1 h).base) cT) bY bx)) ?_;refine k_ 12 F (bf F (fun j _=>aaz F F F F F ax.hk am.hcm j)) ?_;generalize World.drew ag=ap at Z⊢;have I:=O (ad.ext ((u ap).1 Z).base);obtain⟨aE,ao,an,aw⟩:=zY vg underlying143 I.st.key I.st.ek (show og e.key from ax.hk) (v:=(⟨e.key,r.label,0,r.commit,false, -1,kN⟩:bC));unfold eX bC.va at ao;have aq:=O an.fF;have a3:=O aw;clear an aw Z;refine iU 13 ?_;intro af aa;go_wp2_with fail;refine aa _ _ trivial ?_;clear aa af ao;refine aH ?_;refine jR ?_;go_wp2_with fail;go_meet;refine⟨{T with ks:=dU T.ks e.key ⟨e.key,r.label,0,r.commit,false, -1,kN⟩},I.turn aq (.inr (.inr (.inl F))) (I.st.Iq aq a3 (I.st.ek.set _ ax.hk) (fun x hx=> ?_)) (fun k hk=> .inl hk) (fun _ _ h=>⟨h.ms,h.av,h.po⟩),?_⟩
   ·rcases(uo I.st.ek.nodup).1 hx with rfl|⟨hx,_⟩
    ·exact⟨ax.hk,a9.l,(by show(0:Int)<=0;omega),(by show(0:Int)<=4294967295;omega),am.hcm,(by show(-1:Int)<= -1;omega),(by show(-1:Int)<=4294967295;omega),F⟩
    ·exact I.st.kr x hx
   ·unfold dw.act;rw[if_neg (by have:=eh.out;omega),if_neg (by have:=eh.out;omega),if_neg (by have:=eh.out;omega),if_pos eh.out];rfl
  have kn:(e.act==4)=false:=by simp;exact cw
  have kp:decide (e.act=4)=false:=aP cw;by_cases cx:e.act=5
  ·as_aux_lemma=>
   have kq:(e.act==5)=true:=by simp;exact cx
   have kt:decide (e.act=5)=true:=aQ cx;have dr:=O cx;clear cx;go_upto_region 24 with fail;have de:=O (show¬bj=G6 from fun h=>by have:=bw.out;have:=a4.bb.lt;omega);obtain⟨C,u,aJ,bP⟩:=iw (show bT ba ag [G6] [(bj,84,159)] ag from bT.yw cn (dV.one ad.bb.lt) ce e0);have b8:∀j,C j->j.cell? ⟨G6,51,none⟩=some (.int .i64 r.epoch):=fun j R=>(a4.bb.ext ((u j).1 R).base).cell' (ay.Bv (b:=r) am.hm am.hcm);refine fJ fun Z=> ?_;refine aA 0 ?_;refine dA 1 (b8) ?_;refine aA 2 ?_;refine bD 3 F (bf F (fun j h=>bQ F F (dF (a4.bb.ext ((u j).1 h).base) cT) bY bx)) ?_;refine aA 4 ?_;have cA:X ag (World.drew ag):=(X.refl ag).drew;generalize World.drew ag=cN at Z cA⊢;have co:=O cA;clear cA;obtain⟨da,b2⟩:=aB Z (ce.ext co);have fe:=b2.cell' (bC.pI ab);have fg:=b2.frozen 17;have it:=O (bC.len ab);clear Z;refine aZ 5 ?_;intro af aa;go_wp2_with fail;generalize bu:World.setCell cN _ _=a8 at aa⊢;have cL:aU cN bj a8:=by rw[<-bu];exact aU.setCell _
   have cF:ah a8 bj ({k with epoch:=r.epoch}:bC).v 159:=by rw[<-bu,<-bC.DZ ab.out];exact b2.set 17 _
   have c8:=O cF;have dg:Hid (bC.Ok {k with epoch:=r.epoch}):=O ⟨ab.hk,ab.ls,a9.e.1,a9.e.2,ab.hc,ab.s0,ab.s1,ab.hs⟩;have dj:=O (bC.len dg);clear bu fe fg;have b9:C a8:=(u a8).2 (((u cN).1 da).store cL cF (by simp[dj.out]) bw (by simp;exact de));refine aa _ _ b9 ?_;clear aa af cF;have Z:=b9;refine aH ?_;refine aA 6 ?_;refine aZ 7 ?_;intro af aa;go_wp2_with (refine kR F _ _ _ F F F c8 (by rw[bx.out];exact bY) (by rw[bx.out,dj.out];decide) gw ?_);intro al ae bh;rw[bC.aa8 dg.out am.hcm]at ae;have dC:C al:=(u al).2 (((u a8).1 b9).store bh ae (by simp[bC.len (k:={k with epoch:=r.epoch,commit:=r.commit}) ⟨ab.hk,ab.ls,a9.e.1,a9.e.2,am.hcm,ab.s0,ab.s1,ab.hs⟩]) bw (by simp;exact de));refine aa _ _ dC ?_;clear aa af;refine aH ?_;refine dH ?_;have ai:mP bj ag al:=((gB.wC co).same cL.fF).same bh.fF;clear cL bh b2 c8 co da b9 dC;go_upto_region 25 with fail;have ci:X ba al:=(gB.wC cn |>.same ai).Ep (X.refl ba) (fun x hx b0=>by have:=bw.out;omega);obtain⟨ad,c7⟩:=aB (a4.ext ci) ae;have cf:Hid (bC.Ok {k with epoch:=r.epoch,commit:=r.commit}):=O ⟨ab.hk,ab.ls,a9.e.1,a9.e.2,am.hcm,ab.s0,ab.s1,ab.hs⟩;have dk:=O (bC.len cf);clear ae ai ci bv;obtain⟨C,u,aJ,bP⟩:=iw (show bT al al [] [] al from bT.jA (X.refl _) (dV.none _));have bz:∀j,C j->j.cell? ⟨p,52,none⟩=some (.map (some T.gk)):=fun j R=>((ad.st.ext ((u j).1 R).base).blk).cell' (aV.nV a1.1 a1.2);refine jQ (W:=[7]) fun Z=> ?_;refine bK 0 ?_;refine bK 1 ?_;refine bK 2 ?_;refine eY 3 (bz) ?_;refine bK 4 ?_;refine k_ 5 F (bf F (fun j h=>bQ F F (dF (ad.be.ext ((u j).1 h).base) cU) dh cV)) ?_
   refine k_ 6 F (oC F 159 _ F F (fun j h=>c7.ext ((u j).1 h).base) pX dk) ?_;generalize World.drew al=ap at Z⊢;have I:=O (ad.ext ((u ap).1 Z).base);obtain⟨aE,ao,an,aw⟩:=zY vg underlying143 I.st.key I.st.ek (show og e.key from ax.hk) (v:=({k with epoch:=r.epoch,commit:=r.commit}:bC));unfold eX bC.va at ao;have aq:=O an.fF;have a3:=O aw;clear an aw Z;refine iU 7 ?_;intro af aa;go_wp2_with fail;refine aa _ _ trivial ?_;clear aa af ao;refine aH ?_;refine jR ?_;go_wp2_with fail;go_meet;refine⟨{T with ks:=dU T.ks e.key {k with epoch:=r.epoch,commit:=r.commit}},I.turn aq (.inr (.inr (.inl F))) (I.st.Iq aq a3 (I.st.ek.set _ ax.hk) (fun x hx=> ?_)) (fun k hk=> .inl hk) (fun _ _ h=>⟨h.ms,h.av,h.po⟩),?_⟩
   ·rcases(uo I.st.ek.nodup).1 hx with rfl|⟨hx,_⟩
    ·exact cf
    ·exact I.st.kr x hx
   ·unfold dw.act;rw[if_neg (by have:=dr.out;omega),if_neg (by have:=dr.out;omega),if_neg (by have:=dr.out;omega),if_neg (by have:=dr.out;omega),if_pos dr.out];rw[eS.out];rfl
  have kq:(e.act==5)=false:=by simp;exact cx
  have kt:decide (e.act=5)=false:=aP cx;by_cases cy:e.act=7
  ·as_aux_lemma=>
   have kw:(e.act==7)=true:=by simp;exact cy
   have kx:decide (e.act=7)=true:=aQ cy;have cY:=O cy;clear cy;have hC:=ce.cell' (bC.CG ab);have hE:=ce.frozen 50;go_upto_region 28 with fail;generalize bu:World.setCell ag _ _=al;have ai:aU ag bj al:=by rw[<-bu];exact aU.setCell _
   have ae:ah al bj ({k with rev:=true}:bC).v 159:=by rw[<-bu,<-bC.L6 ab.out];exact ce.set 50 _
   clear bu hC hE;have ai:=ai.fF;have ci:X ba al:=(gB.wC cn |>.same ai).Ep (X.refl ba) (fun x hx b0=>by have:=bw.out;omega);obtain⟨ad,c7⟩:=aB (a4.ext ci) ae;have cf:Hid (bC.Ok {k with rev:=true}):=O ⟨ab.hk,ab.ls,ab.e0,ab.e1,ab.hc,ab.s0,ab.s1,ab.hs⟩;have dk:=O (bC.len cf);clear ae ai ci bv;obtain⟨C,u,aJ,bP⟩:=iw (show bT al al [] [] al from bT.jA (X.refl _) (dV.none _));have bz:∀j,C j->j.cell? ⟨p,52,none⟩=some (.map (some T.gk)):=fun j R=>((ad.st.ext ((u j).1 R).base).blk).cell' (aV.nV a1.1 a1.2);refine jQ (W:=[7]) fun Z=> ?_;refine bK 0 ?_;refine bK 1 ?_;refine bK 2 ?_;refine eY 3 (bz) ?_;refine bK 4 ?_;refine k_ 5 F (bf F (fun j h=>bQ F F (dF (ad.be.ext ((u j).1 h).base) cU) dh cV)) ?_;refine k_ 6 F (oC F 159 _ F F (fun j h=>c7.ext ((u j).1 h).base) pX dk) ?_;generalize World.drew al=ap at Z⊢;have I:=O (ad.ext ((u ap).1 Z).base);obtain⟨aE,ao,an,aw⟩:=zY vg underlying143 I.st.key I.st.ek (show og e.key from ax.hk) (v:=({k with rev:=true}:bC));unfold eX bC.va at ao;have aq:=O an.fF;have a3:=O aw;clear an aw Z;refine iU 7 ?_;intro af aa;go_wp2_with fail;refine aa _ _ trivial ?_;clear aa af ao;refine aH ?_;refine jR ?_;go_wp2_with fail;go_meet;refine⟨{T with ks:=dU T.ks e.key {k with rev:=true}},I.turn aq (.inr (.inr (.inl F))) (I.st.Iq aq a3 (I.st.ek.set _ ax.hk) (fun x hx=> ?_)) (fun k hk=> .inl hk) (fun _ _ h=>⟨h.ms,h.av,h.po⟩),?_⟩
   ·rcases(uo I.st.ek.nodup).1 hx with rfl|⟨hx,_⟩
    ·exact cf
    ·exact I.st.kr x hx
   ·unfold dw.act;rw[if_neg (by have:=cY.out;omega),if_neg (by have:=cY.out;omega),if_neg (by have:=cY.out;omega),if_neg (by have:=cY.out;omega),if_neg (by have:=cY.out;omega),if_pos cY.out];rw[eS.out];rfl
  have kw:(e.act==7)=false:=by simp;exact cy
  have kx:decide (e.act=7)=false:=aP cy;by_cases cz:e.act=9
  ·as_aux_lemma=>
   have ky:(e.act==9)=true:=by simp;exact cz
   have kz:decide (e.act=9)=true:=aQ cz;have cr:=O cz;clear cz;go_upto_region 30 with fail;have de:=O (show¬bj=G6 from fun h=>by have:=bw.out;have:=a4.bb.lt;omega);obtain⟨C,u,aJ,bP⟩:=iw (show bT ba ag [G6] [(bj,84,159)] ag from bT.yw cn (dV.one ad.bb.lt) ce e0);have b8:∀j,C j->j.cell? ⟨G6,51,none⟩=some (.int .i64 r.epoch):=fun j R=>(a4.bb.ext ((u j).1 R).base).cell' (ay.Bv (b:=r) am.hm am.hcm);refine fJ fun Z=> ?_;refine aA 0 ?_;refine dA 1 (b8) ?_;refine aA 2 ?_;refine bD 3 F (bf F (fun j h=>bQ F F (dF (a4.bb.ext ((u j).1 h).base) cT) bY bx)) ?_;refine aA 4 ?_;have cA:X ag (World.drew ag):=(X.refl ag).drew;generalize World.drew ag=cN at Z cA⊢;have co:=O cA;clear cA;obtain⟨da,b2⟩:=aB Z (ce.ext co);have fe:=b2.cell' (bC.mD ab);have fg:=b2.frozen 51;have it:=O (bC.len ab);clear Z;refine aZ 5 ?_;intro af aa;go_wp2_with fail;generalize bu:World.setCell cN _ _=a8 at aa⊢;have cL:aU cN bj a8:=by rw[<-bu];exact aU.setCell _
   have cF:ah a8 bj ({k with esc:=r.epoch}:bC).v 159:=by rw[<-bu,<-bC.D6 ab.out];exact b2.set 51 _
   have c8:=O cF;have dg:Hid (bC.Ok {k with esc:=r.epoch}):=O ⟨ab.hk,ab.ls,ab.e0,ab.e1,ab.hc,by have:=a9.e.1;show -1<=r.epoch;omega,a9.e.2,ab.hs⟩;have dj:=O (bC.len dg);clear bu fe fg;have b9:C a8:=(u a8).2 (((u cN).1 da).store cL cF (by simp[dj.out]) bw (by simp;exact de));refine aa _ _ b9 ?_;clear aa af cF;have Z:=b9;refine aH ?_;refine aA 6 ?_;refine aZ 7 ?_;intro af aa;go_wp2_with (refine kR F _ _ _ F F F c8 (by rw[bx.out];exact bY) (by rw[bx.out,dj.out];decide) gw ?_);intro al ae bh;rw[bC.aa9 dg.out am.hcm]at ae;have dC:C al:=(u al).2 (((u a8).1 b9).store bh ae (by simp[bC.len (k:={k with esc:=r.epoch,shared:=r.commit}) ⟨ab.hk,ab.ls,ab.e0,ab.e1,ab.hc,by have:=a9.e.1;show -1<=r.epoch;omega,a9.e.2,am.hcm⟩]) bw (by simp;exact de));refine aa _ _ dC ?_;clear aa af;refine aH ?_;refine dH ?_;have ai:mP bj ag al:=((gB.wC co).same cL.fF).same bh.fF;clear cL bh b2 c8 co da b9 dC;go_upto_region 31 with fail;have ci:X ba al:=(gB.wC cn |>.same ai).Ep (X.refl ba) (fun x hx b0=>by have:=bw.out;omega);obtain⟨ad,c7⟩:=aB (a4.ext ci) ae;have cf:Hid (bC.Ok {k with esc:=r.epoch,shared:=r.commit}):=O ⟨ab.hk,ab.ls,ab.e0,ab.e1,ab.hc,by have:=a9.e.1;show -1<=r.epoch;omega,a9.e.2,am.hcm⟩;have dk:=O (bC.len cf);clear ae ai ci bv;obtain⟨C,u,aJ,bP⟩:=iw (show bT al al [] [] al from bT.jA (X.refl _) (dV.none _));have bz:∀j,C j->j.cell? ⟨p,52,none⟩=some (.map (some T.gk)):=fun j R=>((ad.st.ext ((u j).1 R).base).blk).cell' (aV.nV a1.1 a1.2);refine jQ (W:=[7]) fun Z=> ?_;refine bK 0 ?_;refine bK 1 ?_;refine bK 2 ?_
   refine eY 3 (bz) ?_;refine bK 4 ?_;refine k_ 5 F (bf F (fun j h=>bQ F F (dF (ad.be.ext ((u j).1 h).base) cU) dh cV)) ?_;refine k_ 6 F (oC F 159 _ F F (fun j h=>c7.ext ((u j).1 h).base) pX dk) ?_;generalize World.drew al=ap at Z⊢;have I:=O (ad.ext ((u ap).1 Z).base);obtain⟨aE,ao,an,aw⟩:=zY vg underlying143 I.st.key I.st.ek (show og e.key from ax.hk) (v:=({k with esc:=r.epoch,shared:=r.commit}:bC));unfold eX bC.va at ao;have aq:=O an.fF;have a3:=O aw;clear an aw Z;refine iU 7 ?_;intro af aa;go_wp2_with fail;refine aa _ _ trivial ?_;clear aa af ao;refine aH ?_;refine jR ?_;go_wp2_with fail;go_meet;refine⟨{T with ks:=dU T.ks e.key {k with esc:=r.epoch,shared:=r.commit}},I.turn aq (.inr (.inr (.inl F))) (I.st.Iq aq a3 (I.st.ek.set _ ax.hk) (fun x hx=> ?_)) (fun k hk=> .inl hk) (fun _ _ h=>⟨h.ms,h.av,h.po⟩),?_⟩
   ·rcases(uo I.st.ek.nodup).1 hx with rfl|⟨hx,_⟩
    ·exact cf
    ·exact I.st.kr x hx
   ·unfold dw.act;rw[if_neg (by have:=cr.out;omega),if_neg (by have:=cr.out;omega),if_neg (by have:=cr.out;omega),if_neg (by have:=cr.out;omega),if_neg (by have:=cr.out;omega),if_neg (by have:=cr.out;omega),if_pos cr.out];rw[eS.out];rfl
  have ky:(e.act==9)=false:=by simp;exact cz
  have kz:decide (e.act=9)=false:=aP cz;by_cases a7:e.act=8
  ·as_aux_lemma=>
   have fR:(e.act==8)=true:=by simp;exact a7
   have fS:decide (e.act=8)=true:=aQ a7;have bk:=O a7;clear a7;have db:=O ad.st.ea;have bc:=O (fun j (bp:X ag j)=>(G9 G_ underlying144 (Tz j) (ad.st.ext bp).app ad.st.ea (show wE r.commit from am.hcm) false));have la:∀(w:World) (r:Option Nat),(binOp .eql 162 (.map r) (.map none)).run prog w= .ok (.bool r.isNone) w:=fun w r=>run_eql_map_nil w _ _ _ r underlying162;obtain⟨fW,ck⟩:=aC (bW T.av r.commit);rw[ck]at bc;obtain⟨fY,c3⟩:=aC (fW.map (fun y=>y.1):Option Nat);have gz:=O (fun j (bp:X ag j)=>(show(Instr.lookup 144 (.map (some T.ga)) (eX r.commit) false).run prog j= .ok (.map fY) j by
    have R:=bc.out j bp;rw[<-c3];cases fW<;>exact R))
   have ef:=O (And.intro ck c3);clear ck c3 bc;go_upto_region 33 with fail;obtain⟨C,u,aJ,bP⟩:=iw (show bT ag ag [] [] ag from bT.jA (X.refl _) (dV.none _));have ch:∀j,C j->j.cell? ⟨p,53,none⟩=some (.map (some T.ga)):=fun j R=>((ad.st.ext ((u j).1 R).base).blk).cell' (aV.oQ a1.1 a1.2);refine fJ fun Z=> ?_;refine aA 0 ?_;refine aA 1 ?_;refine aA 2 ?_;refine dA 3 (ch) ?_;refine aA 4 ?_;refine bD 5 F (bf F (fun j h=>bQ F F (dF (ad.bb.ext ((u j).1 h).base) cT) bY bx)) ?_;refine bD 6 F (bf F (fun j h=>vH F F F (gz j ((u j).1 h).base))) ?_;refine aA 7 ?_;refine dH ?_;generalize World.drew ag=ap at Z⊢;have I:=O (ad.ext ((u ap).1 Z).base);clear Z aJ u ch bP gz;go_upto_if 162 with fail;go_cut [] (fun wx=>∃(b1:uJ) (g:Nat) (l:List (aj×dX)),lu w p S e r (lV e) G3 G6 G8 {T with av:=b1} wx/\bW b1 r.commit=some (g,l)/\kM l=(bW T.p.av r.commit).getD []/\∀y,dU (rV b1) r.commit y=dU T.p.av r.commit y)
   case first=>
    obtain⟨ck,c3⟩:=ef.out;cases fW with
    |some j8=>
     obtain⟨g,l⟩:=j8;have dd:=O ck;obtain rfl:some g=fY:=c3;clear ck ef;go_wp2_with fail;go_meet;exact⟨T.av,g,l,I,dd,by show _=(bW (rV T.av) r.commit).getD [];rw[Tv,dd.out];rfl,fun _=>rfl⟩
    |none=>
     have dd:=O ck;obtain rfl:none=fY:=c3;clear ck ef;go_upto_region 34 with fail;have kb:=fun w=>He (P:=prog) 162 w;obtain⟨C,u,aJ,bP⟩:=iw (show bT ap ap [] [] ap from bT.jA (X.refl _) (dV.none _));have ch:∀j,C j->j.cell? ⟨p,53,none⟩=some (.map (some T.ga)):=fun j R=>((I.st.ext ((u j).1 R).base).blk).cell' (aV.oQ a1.1 a1.2);refine jQ (W:=[7]) fun Z=> ?_;refine bK 0 ?_;refine bK 1 ?_;refine bK 2 ?_;refine eY 3 (ch) ?_;refine bK 4 ?_;refine k_ 5 F (bf F (fun j h=>bQ F F (dF (I.bb.ext ((u j).1 h).base) cT) bY bx)) ?_;generalize World.drew ap=aE at Z⊢;refine fC 6 ?_;intro af aa;go_wp2_with fail;refine aa _ _ (aJ _ _ Z ((X.refl aE).alloc _)) ?_;clear aa af kb;generalize cI:World.alloc aE _=f8;have hQ:f_ eX dX.v f8 aE.heap.size []:=by rw[<-cI];exact f_.new aE
     have dE:C f8:=by rw[<-cI];exact aJ _ _ Z ((X.refl aE).alloc _)
     obtain⟨cp,ar⟩:=aB (I.ext ((u aE).1 Z).base) (I.ext ((u f8).1 dE).base);have im:=O cp.mu.size;obtain⟨dm,ed⟩:=aB (abo cp.st.nd cp.st.mem.lt cp.st.key.lt cp.st.app.lt (fun x hx=>(cp.st.inn x hx).1.lt) dd) hQ;clear hQ dE Z cI cp;generalize aE.heap.size=cC at*;obtain⟨le,ao,an,aw⟩:=zY G_ underlying144 ar.st.app ar.st.ea (show wE r.commit from am.hcm) (v:=((cC,[]):Nat×List (aj×dX)));rw[show oH (cC,([]:List (aj×dX)))= .map (some cC)from F]at ao;unfold eX at ao;have aq:=O an.fF;have a3:=O aw;clear an aw;refine aH ?_;refine iU 7 ?_;intro af aa;go_wp2_with fail;refine aa _ _ trivial ?_;clear aa af ao;refine aH ?_;refine jR ?_;go_wp2_with fail;go_meet;have ft:∀x∈dU T.av r.commit (cC,([]:List (aj×dX))),x=(r.commit,(cC,[]))∨x∈T.av:=fun x hx=>by
      rcases(uo db.nodup).1 hx with R|R
      ·exact .inl R
      ·exact .inr R.1
     refine⟨dU T.av r.commit (cC,[]),cC,[],ar.Tn aq (.inr (.inr (.inr (.inl F)))) (ar.st.SQ aq a3 (db.set _ am.hcm) (fun x hx=> ?_) dm) (TA fun x hx=> ?_) (fun _ _ h=>⟨h.ms,fun x hx=> ?_,h.po⟩),?_,?_,?_⟩
     ·rcases ft x hx with rfl|R
      ·exact⟨ed,jc.nil,aF⟩
      ·exact ar.st.inn x R
     ·rcases ft x hx with rfl|R
      ·exact .inr im
      ·exact .inl ⟨x,R,F⟩
     ·rcases ft x hx with rfl|R
      ·simp
      ·exact h.av x R
     ·rw[YL db.out _ am.hcm,if_pos F]
     ·show _=(bW (rV T.av) r.commit).getD [];rw[Tv,dd.out];rfl
     ·intro y;rw[Tt];exact abk (abm db) am.hcm _ _
   case rest=>
   obtain⟨b1,g,l,fi,hP,h8,h6⟩:=hcut;obtain⟨al,be⟩:=aC wc;rw[be]at fi⊢;obtain⟨ar,eN,ja,i6⟩:=bU fi hP h8 h6;clear be wc fi hP h8 h6 ad I ef db bv;obtain⟨q,ca⟩:=aC (aV.jO {T with av:=b1} e.bI);have i4:=O (fun j (bp:X al j)=>(show(Instr.lookup 142 (.map (some T.gm)) (eX e.bI) false).run prog j= .ok (.slice q.a q.n q.c) j by
    have:=(ar.st.ext bp).EL (id:=e.bI) ax.ha false;rw[ca]at this;exact this))
   have bc:=O (fun j (bp:X al j)=>(show(Instr.lookup 144 (.map (some T.ga)) (eX r.commit) false).run prog j= .ok (.map (some g)) j by
    have:=G9 G_ underlying144 (Tz j) (ar.st.ext bp).app ar.st.ea (show wE r.commit from am.hcm) false;rw[eN.out]at this;exact this))
   have cX:=O ca;clear ca;go_upto_region 35 with fail;obtain⟨C,u,aJ,bP⟩:=iw (show bT al al [] [] al from bT.jA (X.refl _) (dV.none _));have ch:∀j,C j->j.cell? ⟨p,53,none⟩=some (.map (some T.ga)):=fun j R=>((ar.st.ext ((u j).1 R).base).blk).cell' (aV.oQ ar.st.hl ar.st.hf);have b8:∀j,C j->j.cell? ⟨p,51,none⟩=some (.map (some T.gm)):=fun j R=>((ar.st.ext ((u j).1 R).base).blk).cell' (aV.mD ar.st.hl ar.st.hf);have ej:∀j,C j->j.cell? ⟨G3,1,none⟩=some (.int .i64 e.time):=fun j R=>(ar.be.ext ((u j).1 R).base).cell' (aG.rH e);refine jQ (W:=[19]) fun Z=> ?_;refine bK 0 ?_;refine bK 1 ?_;refine bK 2 ?_;refine eY 3 (ch) ?_;refine bK 4 ?_;refine k_ 5 F (bf F (fun j h=>bQ F F (dF (ar.bb.ext ((u j).1 h).base) cT) bY bx)) ?_;refine k_ 6 F (bf F (fun j h=>vH F F F (bc j ((u j).1 h).base))) ?_;refine bK 7 ?_;refine k_ 8 F (bf F (fun j h=>bQ F F (dF (ar.be.ext ((u j).1 h).base) eI) dh di)) ?_;refine bK 9 ?_;refine bK 10 ?_;refine bK 11 ?_;refine eY 12 (b8) ?_;refine bK 13 ?_;refine k_ 14 F (bf F (fun j h=>bQ F F (dF (ar.be.ext ((u j).1 h).base) eI) dh di)) ?_;refine k_ 15 F (bf F (fun j h=>vH F F F (i4 j ((u j).1 h).base))) ?_;refine bK 16 ?_;refine eY 17 (ej) ?_;refine FW 18 F (bf F (fun j _=>abq F F F j)) ?_;generalize World.drew al=ap at Z⊢;obtain⟨I,b5⟩:=aB (ar.ext ((u ap).1 Z).base) (BO eN);obtain⟨aE,ao,an,aw⟩:=zY vg underlying162 (I.st.inn _ b5).1 (I.st.inn _ b5).2.1 (show og e.bI from ax.ha) (v:=(⟨q,e.time⟩:dX));rw[show dX.v ⟨q,e.time⟩= .agg #[.slice q.a q.n q.c,.int .i64 e.time]from F]at ao;unfold eX at ao
   have aq:=O an.fF;have a3:=O aw;clear an aw Z;refine iU 19 ?_;intro af aa;go_wp2_with fail;refine aa _ _ trivial ?_;clear aa af ao;refine aH ?_;refine jR ?_;go_wp2_with fail;go_meet;obtain⟨i,cG,kc⟩:=abn I.st.ea eN;refine⟨{T with av:=b1.set i (r.commit,(g,dU l e.bI ⟨q,e.time⟩))},I.turn aq (.inr (.inr (.inr (.inr ⟨_,b5,F⟩)))) (I.st.LH cG aq a3 ((I.st.inn _ b5).2.1.set _ ax.ha) (fun y a0=> ?_)) ?_ (fun _ _ h=>⟨h.ms,LY h.av (fun y a0=> ?_),h.po⟩),?_⟩
   ·rcases(uo (I.st.inn _ b5).2.1.nodup).1 a0 with rfl|⟨a0,_⟩
    ·exact⟨by rw[<-cX.out];exact I.st.SK e.bI,cW.2.2.1,cW.2.2.2.1⟩
    ·exact(I.st.inn _ b5).2.2 y a0
   ·refine fun k hk=>(TA (T:={T with av:=b1}) (n:=ap.heap.size) (fun x hx=> ?_) k hk);rcases mem_or_eq_of_mem_set hx with hx|rfl
    ·exact .inl ⟨x,hx,F⟩
    ·exact .inl ⟨_,b5,F⟩
   ·rcases(uo (I.st.inn _ b5).2.1.nodup).1 a0 with rfl|⟨a0,_⟩
    ·rw[<-cX.out];exact h.jO e.bI
    ·exact h.av _ b5 y a0
   ·unfold dw.act;rw[if_neg (by have:=bk.out;omega),if_neg (by have:=bk.out;omega),if_neg (by have:=bk.out;omega),if_neg (by have:=bk.out;omega),if_neg (by have:=bk.out;omega),if_neg (by have:=bk.out;omega),if_neg (by have:=bk.out;omega),if_pos bk.out];have kd:q.l=(bW T.p.ms e.bI).getD []:=by
     rw[<-cX.out];show(aV.jO {T with av:=b1} e.bI).l=(bW (T.ms.map fun x=>(x.1,x.2.l)) e.bI).getD [];rw[EK];unfold aV.jO;cases bW T.ms e.bI<;>rfl
    show({T.p with av:=rV (b1.set i (r.commit,(g,dU l e.bI ⟨q,e.time⟩)))}:dw)={T.p with av:=dU T.p.av r.commit (dU ((bW T.p.av r.commit).getD []) e.bI ((bW T.p.ms e.bI).getD [],e.time))};rw[kc,i6.out,ja.out,kd]
  have fR:(e.act==8)=false:=by simp;exact a7
  have fS:decide (e.act=8)=false:=aP a7;go_wp2_with fail;go_meet;refine⟨T,ad,?_⟩;unfold dw.act;rw[if_neg cs,if_neg ct,if_neg cv,if_neg cw,if_neg cx,if_neg cy,if_neg cz,if_neg a7]
 case rest=>
 clear a4 ad cn bw ce bv;obtain⟨a_,fl,hL⟩:=hcut;obtain⟨ev,be⟩:=aC wc;rw[be]at fl⊢;obtain⟨cc,gS⟩:=aB fl hL;clear be wc fl hL;have bv:=cc.be.cell' (aG.at2 e);have ed:=O (And.intro cc.st.hl cc.st.hf);go_upto_if 191 with fail;go_cut [] (fun wx=>∃a2,lu w p S e r (lV e) G3 G6 G8 a2 wx/\a2.p={a_.p with av:=if e.act≠8 then iQ a_.p.av (lV e)else a_.p.av})
 case first=>
  as_aux_lemma=>
  by_cases a7:e.act=8
  ·have fR:(e.act != 8)=false:=by simp;exact a7
   have fS:decide (e.act=8)=true:=aQ a7;have bk:=O a7;clear a7;go_wp2_with fail;go_meet;exact⟨a_,cc,by rw[if_neg (fun h=>h bk)]⟩
  ·have fR:(e.act != 8)=true:=by simp;exact a7
   have fS:decide (e.act=8)=false:=aP a7;have bk:=O a7;clear a7;go_upto_region 37 with fail;obtain⟨C,u,aJ,bP⟩:=iw (show bT ev ev [] [] ev from bT.jA (X.refl _) (dV.none _));have ch:∀j,C j->j.cell? ⟨p,53,none⟩=some (.map (some a_.ga)):=fun j R=>((cc.st.ext ((u j).1 R).base).blk).cell' (aV.oQ ed.1 ed.2);refine jQ (W:=[5]) fun Z=> ?_;refine bK 0 ?_;refine bK 1 ?_;refine bK 2 ?_;refine eY 3 (ch) ?_;refine k_ 4 F (oC F 31 _ F F (fun j h=>cc.ba.ext ((u j).1 h).base) bY gO) ?_;generalize World.drew ev=ap at Z⊢;have cl:=O (cc.ext ((u ap).1 Z).base);obtain⟨aE,ao,an,aw⟩:=KD G_ underlying144 (ty:=0) cl.st.app cl.st.ea (show wE (lV e)from j_ _ _);unfold eX at ao;have aq:=O an.fF;have a3:=O aw;clear an aw Z;refine iU 5 ?_;intro af aa;go_wp2_with fail;refine aa _ _ trivial ?_;clear aa af ao;refine aH ?_;refine jR ?_;go_wp2_with fail;go_meet;have bm:=BP a_.av (lV e);refine⟨{a_ with av:=iQ a_.av (lV e)},cl.turn aq (.inr (.inr (.inr (.inl F)))) (cl.st.SQ aq a3 (cl.st.ea.del _) (fun x hx=>cl.st.inn x (bm.mem hx)) ?_) ?_ (fun _ _ h=>⟨h.ms,fun x hx=>h.av x (bm.mem hx),h.po⟩),?_⟩
   ·exact cl.st.nd.sublist (((bm.map _).cons_cons _ |>.cons_cons _).cons_cons _)
   ·rintro k (h|h|h|h|⟨x,hx,h⟩)
    ·exact .inl (.inl h)
    ·exact .inl (.inr (.inl h))
    ·exact .inl (.inr (.inr (.inl h)))
    ·exact .inl (.inr (.inr (.inr (.inl h))))
    ·exact .inl (.inr (.inr (.inr (.inr ⟨x,bm.mem hx,h⟩))))
   ·rw[if_pos bk.out];exact congrArg (fun m=>({a_.p with av:=m}:dw)) (Lp (fun y:Nat×List (aj×dX)=>kM y.2) a_.av (lV e)).symm
 case rest=>
 obtain⟨a2,fm,hM⟩:=hcut;obtain⟨ib,be⟩:=aC wc;rw[be]at fm⊢;obtain⟨cd,g1⟩:=aB fm hM;clear be wc fm hM cc bv;have f7:=cd.st.blk.cell' (aV.oQ cd.st.hl cd.st.hf);have dc:=O cd.st.ea.nodup;go_wp2_with (at_range;refine zZ F 144 31 162 underlying144 _ F F cd.st.app ?_);intro kB hr cj d6;obtain⟨bc,cP,df⟩:=aW hr (cd.ext cj) (show w.heap.size<=ib.heap.size from cd.mu.size);clear hr cj d6 f7 cd;obtain⟨cJ,d4⟩:=aC ib.heap.size;rw[d4]at bc df⊢;clear d4;have i9:=O (show 0<=e.time/\e.time<=1099511627776 from⟨cW.2.2.1,cW.2.2.2.1⟩);go_upto_block 3 with fail;go_cut [] (fun wx=>∃az,lu w p S e r (lV e) G3 G6 G8 az wx/\az.p={a2.p with av:=a2.p.av.map fun y=>(y.1,Aq e.time y.2)})
 case first=>
  as_aux_lemma=>
  go_wp2_with fail;go_loopw [16] (fun _ wr=>∃lf,gJ eX oH wr a2.ga cJ (mV (wS e.time) lf a2.av) lf/\lf.Nodup/\lu w p S e r (lV e) G3 G6 G8 {a2 with av:=mV (wS e.time) lf a2.av} wr) (fun _ wr=>wr.rangeLeft a2.ga cJ)
  case atStart=>
   refine⟨a2.av.map Prod.fst,?_,dc,?_⟩
   ·rw[Iw];exact bc
   ·rw[Iw];exact cP
  case round=>
   obtain⟨lf,cH,d1,dt⟩:=hrel;obtain⟨b6,dm,b3⟩:=aW cH d1 dt;have fw:=cH.qL;clear cH d1 dt bc cP;go_wp2_with (at_next;refine z_ F (fun x y h=>xJ h) _ F F b6 ?_ ?_)
   ·intro fs;subst fs;go_wp2_with fail;go_meet;refine⟨_,b3,?_⟩;exact congrArg (fun m=>({a2.p with av:=m}:dw)) (abj e.time a2.av)
   ·intro x g l cM lf2 bl bt d0 d3 bh c1;have dl:=O (Au dm bt);obtain⟨e7,bi,dp⟩:=aW (Tm (f:=wS e.time) dc bt dl.1 bl) (b3.beside bh.fF (CW b6) df (b3.st.Tq b6)) d3;obtain⟨a6,eV,eQ,b4⟩:=bU (bi.st.inn _ bl) d0 (bi.st.CP) bl;rw[show oH (g,l)= .map (some g)from F]at c1⊢;clear bl bt d3 bh b3 b6 d0;go_wp2_with (at_range;refine zZ F 162 29 164 underlying162 _ F F a6.1 ?_);intro ew hr cj d6;obtain⟨e5,g',k6⟩:=aW hr (show mP g cM ew from gB.wC cj) (show g<cM.heap.size from a6.1.lt);clear hr cj d6 c1;obtain⟨f0,c4⟩:=aC cM.heap.size;have i3:=O (show cM.heap.size<=f0 by omega);rw[c4]at e5⊢;clear c4;have eM:=O a6.2.1.nodup;go_wp2_with fail;go_loopw [17,18] (fun _ _ wr=>∃eo,gJ eX dX.v wr g f0 (xY (IE e.time) eo l) eo/\eo.Nodup/\mP g cM wr) (fun _ _ wr=>wr.rangeLeft g f0)
    case atStart=>
     refine⟨l.map Prod.fst,?_,eM,g'⟩;rw[aa2];exact e5
    case round=>
     obtain⟨eo,c4,hZ,dy⟩:=hrel;obtain⟨fa,hj,b7⟩:=aW c4 hZ dy;have hX:=c4.qL;clear c4 hZ dy e5 g';go_wp2_with (at_next;refine z_ F (fun x y h=>xJ h) _ F F fa ?_ ?_)
     ·intro j';subst j';obtain⟨i,cG,d5⟩:=e7.out;have fv:=fa.map;rw[aa3]at fv;have b':=bi.st.LH cG b7 fv (a6.2.1.sub filter_sublist) (fun y a0=>a6.2.2 y (mem_filter.1 a0).1);have du:=bi.turn b7 (.inr (.inr (.inr (.inr ⟨_,b4,F⟩)))) b' (by
       rintro k (h|h|h|h|⟨y,a0,h⟩)
       ·exact .inl (.inl h)
       ·exact .inl (.inr (.inl h))
       ·exact .inl (.inr (.inr (.inl h)))
       ·exact .inl (.inr (.inr (.inr (.inl h))))
       ·rcases mem_or_eq_of_mem_set a0 with a0|rfl
        ·exact .inl (.inr (.inr (.inr (.inr ⟨y,a0,h⟩))))
        ·exact .inl (.inr (.inr (.inr (.inr ⟨_,b4,h⟩)))))
       (fun _ _ h=>⟨h.ms,LY h.av (fun y a0=>h.av _ b4 y (mem_filter.1 a0).1),h.po⟩)
      have d2:gJ eX oH wr a2.ga cJ (mV (wS e.time) lf2 a2.av) lf2:=(dp.mut b7 (fun h=>(eQ.2.2.2.1 _ b4).2.2 h.symm) (CV dp a6.1)).same ((Iy lf2 a2.av).trans (Iy lf a2.av).symm);obtain⟨cq,eL⟩:=aB d2 (show lu w p S e r (lV e) G3 G6 G8 {a2 with av:=mV (wS e.time) lf2 a2.av} wr by rw[d5];exact du);clear cG d5 fv b' du d2;go_wp2_with fail;go_roundw
      case rel=>exact⟨lf2,cq,dl.2,eL⟩
      case measure=>rw[cq.qL,fw,eV.out];omega
     ·intro y z f5 h9 bl bt hV h3 h' c1;obtain⟨eg,hp,hm,g9,e9,ee⟩:=iq (Au hj bt) h3 bt hV (show mP g cM f5 from b7.trans h'.fF (fun k hk k7=>by have:=i3.out;omega)) (show(y,z)∈l from(mem_filter.1 bl).1);have g7:=O (show y.length=16 from a6.2.1.good _ ee);have g8:=O (show(y.map Y).length=16 by rw[length_map];exact g7);have jj:=O (a6.2.2 _ ee).2;have cQ:=O (bi.be.mut e9 ((jr.map a6.1).ne bi.be));clear bl bt hV h3 h' fa hj b7;rw[show z.v= .agg #[z.r.v,.int .i64 z.t]from F]at c1⊢;go_wp2_with (first|(refine bg F _ (.tmp 17) _ F F F ((ah.aI (vs:=List.replicate 16 (.int .u8 0)) F F).alloc _) dh aF g8 (b_ y) ?_));intro k0 hy f1;have gn:Hid (ah k0 (f5.heap.size+1) [.slice none 0 0,.int .i64 0] 164):=O ((ah.aI (gU _ _).symm rfl).upd f1 J);obtain⟨gm,f9⟩:=aB (f1.ext (((X.refl f5).alloc _).alloc _) bG) hy;clear hy f1;go_wp2_with (first|(refine bg F _ (.tmp 18) _ F F F gn L_ F (xs:=[z.r.v,.int .i64 z.t]) F (by intro q ca;simp at ca;rcases ca with rfl|rfl<;>rfl) ?_));intro lb hz f2;obtain⟨ec,ij⟩:=aB (f2.ext gm J) (f9.upd f2 J);obtain⟨e',hd⟩:=aB (hp.ext ec) (e9.same (gB.wC ec));have ld:=(cQ.ext ec).cell' (aG.rH e);have aE:=hz.cell' (i:=1) F;have ke:IntKind.i64.wrap (e.time - z.t)=e.time - z.t:=IntWalk.i64_in _ (by have:=i9.out;have:=jj.out;omega);clear hz f2 gn gm f9 hp e9 cQ ec;by_cases en:e.time - z.t<=86400
      ·have j2:decide (e.time - z.t>86400)=false:=aP J;have j7:decide (86400<e.time - z.t)=false:=aP J;have eR:=O (aa4 (keep:=IE e.time) eM ee hm (aQ en));clear en;go_wp2_with fail;go_roundw
       case rel=>exact⟨h9,by rw[eR.out];exact e',eg.2,hd⟩
       case measure=>rw[e'.qL,hX,g9.out];omega
      ·have j2:decide (e.time - z.t>86400)=true:=aQ J;have j7:decide (86400<e.time - z.t)=true:=aQ J;have eR:=O (aa5 (keep:=IE e.time) eM ee hm eg.1 (aP en));obtain⟨lc,ao,an,fL⟩:=YP vg underlying162 (ty:=0) e' (a6.2.1.sub filter_sublist) (show og y from g7) eg.1;unfold eX at ao;rw[eR.out]at fL;obtain⟨gC,jn⟩:=aB fL (hd.same an.fF);clear en an fL;go_wp2_with (first|(refine bV F 29 (.tmp 17) F F ij dh g8 ?_));go_roundw
       case rel=>exact⟨h9,gC,eg.2,jn⟩
       case measure=>rw[gC.qL,hX,g9.out];omega
 case rest=>
 as_aux_lemma=>
 obtain⟨az,fn,hN⟩:=hcut;obtain⟨c5,be⟩:=aC wc;rw[be]at fn⊢;obtain⟨cR,g2⟩:=aB fn hN;clear be wc fn hN cP bc;have gt:=O (fun j (bp:X c5 j)=>GN e j (cR.ok.ext bp) gr);have gp:=O (show az.cnt=S.cnt by
  have R:az.p.cnt=a2.p.cnt:=by rw[g2.out]
  have hG:a2.p.cnt=a_.p.cnt:=by rw[g1.out]
  have fh:a_.p.cnt=(T.p.act e r.p).cnt:=by rw[gS.out]
  have j9:T.p.cnt=S.p.cnt:=by rw[gR.out];rfl
  rw[abr]at fh;exact R.trans (hG.trans (fh.trans j9)))
 have ke:IntKind.i64.wrap ((az.cnt:Int)+1)=(az.cnt:Int)+1:=by
  rw[IntWalk.i64_in _ (by have:=cR.st.c1;omega)]
 obtain⟨cg,hJ⟩:=jE (fun w'=>ah w' G3 e.v 34:World->Prop);obtain⟨ei,hI⟩:=jE (fun w'=>ah w' p az.v 147:World->Prop);have br:∀w',cg w'↔ah w' G3 e.v 34:=fun w'=>by rw[hJ]
 have el:∀w',ei w'↔ah w' p az.v 147:=fun w'=>by rw[hI]
 clear hJ hI;go_upto_region 46 with fail;refine abI (T:=cg) (S:=ei) (W:=[14,17,20]) au ?_;have c9:X c5 (World.drew c5):=(X.refl _).drew;have qU:cg (World.drew c5):=(br _).2 (cR.be.ext c9);have Z:ei (World.drew c5):=(el _).2 (cR.st.blk.ext c9);have hB:∀j,ei j->j.cell? ⟨p,0,none⟩=some (.int .i64 (az.cnt:Int)):=fun j R=>((el j).1 R).cell' (aV.aL az);have ej:∀j,cg j->j.cell? ⟨G3,1,none⟩=some (.int .i64 e.time):=fun j R=>((br j).1 R).cell' (aG.rH e);generalize World.drew c5=k1 at*;refine rW 0 ?_;refine rW 1 ?_;refine rW 2 ?_;refine rW 3 ?_;refine rW 4 ?_;refine rW 5 ?_;refine abL 6 (hB) ?_;refine rW 7 ?_;refine rW 8 ?_;refine abJ 9 (ej) ?_;refine abK 10 F (oC F 34 _ F F (fun j h=>(br j).1 h) cZ eW) ?_;clear hB ej;refine II (i:=11) au F ?_;intro af aa;go_wp2_with fail;refine(gt k1 c9).mono ?_;rintro ds d7 ⟨rfl,ac⟩;have cm:=O (cR.ext (c9.ext ac));have bd:cg d7:=(br _).2 (((br _).1 qU).ext ac);go_wp2_with fail;refine aa _ _ bd (fun _ _=>(el _).2 (((el _).1 Z).ext ac)) ?_;clear aa af qU Z ac c9 gt cR;have qU:=bd;clear bd;refine aH ?_;refine rW 12 ?_;refine rW 13 ?_;obtain⟨e3,gE,ip⟩:=aW (show G3≠p by have:=cm.g3;have:=cm.pl;omega) (show((ig e).map Y).length=32 by rw[length_map,nZ]) (And.intro cm.st.hl cm.st.hf);have d8:=O cm.st.blk;have he:=O (show mP p d7 d7 from gB.refl _ _);refine II (i:=14) au F ?_;intro af aa;have fd:=d8.cell' (i:=0) F;have ff:=d8.frozen 0;go_wp2_with fail;clear fd ff;have ae:=d8.set 0 (.int .i64 ((az.cnt:Int)+1));have ai:aU d7 p _:=aU.setCell (i:=0) (.int .i64 ((az.cnt:Int)+1))
 rw[show az.v.set 0 (.int .i64 ((az.cnt:Int)+1))={az with cnt:=az.cnt+1}.v from F]at ae;generalize World.setCell d7 _ _=f6 at ae ai⊢;have bd:cg f6:=(br _).2 (((br _).1 qU).upd ai e3);refine aa _ _ bd (fun h=>by cases h) ?_;obtain⟨d',hg⟩:=aB ae (he.same ai.fF);clear aa af qU ae ai d8 he;have qU:=bd;clear bd;refine aH ?_;refine rW 15 ?_;refine rW 16 ?_;refine II (i:=17) au F ?_;intro af aa;have fd:=d'.cell' (i:=1) F;have ff:=d'.frozen 1;go_wp2_with fail;clear fd ff;have ae:=d'.set 1 (.int .i64 e.time);have ai:aU f6 p _:=aU.setCell (i:=1) (.int .i64 e.time);rw[aV.set1 {az with cnt:=az.cnt+1} e.time]at ae;generalize World.setCell f6 _ _=ic at ae ai⊢;have bd:cg ic:=(br _).2 (((br _).1 qU).upd ai e3);refine aa _ _ bd (fun h=>by cases h) ?_;obtain⟨f',hh⟩:=aB ae (hg.same ai.fF);clear aa af qU ae ai d' hg;have qU:=bd;clear bd;refine aH ?_;refine rW 18 ?_;refine rW 19 ?_;obtain⟨fb,em⟩:=jE ({az with cnt:=az.cnt+1,tm:=e.time}:aV);have gl:Hid (ah ic p fb.v 147):=O (by rw[em];exact f');obtain⟨e8,i'⟩:=aB (show fb.last.length=32/\fb.ji.length=16 by rw[em];exact ip) em;clear em f';refine II (i:=20) au F ?_;intro af aa;go_wp2_with (first|(refine kR F _ _ _ F F F gl (by rw[gE.out];exact bY) (by rw[gE.out,aV.len e8.1 e8.2];decide) (b_ (ig e)) ?_));intro k2 ae ai;rw[aV.aa6 e8.1 (nZ e),i'.out]at ae;have bd:cg k2:=(br _).2 (((br _).1 qU).upd ai e3);refine aa _ _ bd (fun h=>by cases h) ?_;obtain⟨ik,hi⟩:=aB ae (hh.same ai.fF);clear aa af qU bd ae ai gl hh;refine aH ?_;refine abH au ?_ _;go_wp2_with fail
 (try go_ret)
 rw[i2.out];have a5:=cm.st;have c2:=cW.out;have ek:=cm.turn (T':={az with cnt:=az.cnt+1,tm:=e.time,last:=ig e}) hi (.inl F) (a5.LJ hi ik (nZ e) a5.hf (by have R:=jb.1;have hG:=c2.2.1;have fh:=gp.out;show az.cnt+1<=65536;simp only[aV.p]at R;omega) c2.2.2.1 c2.2.2.2.1 F F F F F F a5.po) (fun k hk=> .inl hk) (fun _ _ h=>⟨h.ms,h.av,h.po⟩);refine⟨F,_,ek.st,?_,ek.mu,ek.new,ek.LZ⟩;show({az.p with cnt:=az.cnt+1,tm:=e.time,last:=ig e}:dw)=S.p.next e;rw[gp.out,g2.out,g1.out,gS.out,gR.out,e6.out,dw.adV];rfl
end Go.Proofs.YtjlhhnkhcbpnjaaGreatDoor
