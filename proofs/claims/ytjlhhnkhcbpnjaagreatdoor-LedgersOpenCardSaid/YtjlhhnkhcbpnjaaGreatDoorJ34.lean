/- Laws that the row leans on; no condition. -/
import Derived.Test.YtjlhhnkhcbpnjaaGreatDoorJ27
namespace Go.Proofs.YtjlhhnkhcbpnjaaGreatDoor
open Go Go.RowKit List Tryz
set_option linter.unusedVariables false
set_option linter.unusedSectionVars false
set_option linter.unusedSimpArgs false
set_option maxHeartbeats 40000000
set_option maxRecDepth 100000
def dw.found(S:dw)(e:aG):dw:={S with ji:=if S.cnt=0 then e.bI else S.ji}
theorem dw.adV(S:dw)(e:aG):S.next e={(S.found e).act e (mO e)with av:=(if e.act≠8 then iQ ((S.found e).act e (mO e)).av (lV e)else((S.found e).act e (mO e)).av).map fun y=>(y.1,Aq e.time y.2),cnt:=S.cnt+1,tm:=e.time,last:=ig e}:=F
theorem Nj{S:dw}{e:aG}(h:S.ref e=0):dN e=0/\e.num=(S.cnt:Int)/\e.prev=S.last/\S.tm<=e.time:=by
 unfold dw.ref at h;by_cases j:dN e≠0
 ·rw[if_pos j]at h;exact absurd h j
 rw[if_neg j]at h;by_cases u:e.num≠(S.cnt:Int)
 ·rw[if_pos u]at h;cases h
 rw[if_neg u]at h;by_cases E:e.prev≠S.last
 ·rw[if_pos E]at h;cases h
 rw[if_neg E]at h;by_cases I:e.time<S.tm
 ·rw[if_pos I]at h;cases h
 exact⟨Classical.not_not.1 j,Classical.not_not.1 u,Classical.not_not.1 E,J⟩
theorem adW(m:aj)(A:List (aj×(Nat×List (aj×dX)))):(mV (fun l=>iQ l m) [] A).map (fun x=>(x.1,kM x.2.2))=(A.map fun x=>(x.1,kM x.2.2)).map fun y=>(y.1,iQ y.2 m):=by
 unfold mV;rw[map_map,map_map];refine map_congr_left fun x j=> ?_;show((if x.1∈[]then x else(x.1,(x.2.1,iQ x.2.2 m))).1,kM (if x.1∈[]then x else(x.1,(x.2.1,iQ x.2.2 m))).2.2)=(x.1,iQ (kM x.2.2) m);rw[if_neg aF];exact congrArg (fun q=>(x.1,q)) (Lp (fun v:dX=>(v.r.l,v.t)) x.2.2 m).symm
theorem adX(p:Nat)(S:aV)(e:aG)(w0 w:World)(h:dJ w p S)(dg:e.Ok w)(hj:CU p e)(e4:mJ w0)(cn:X w0 w)(dd:∀g,S.M p g->w0.heap.size<=g):
 Calls prog 45 #[.pointer (some ⟨p,0,none⟩),.agg e.v.toArray] w fun x w'=>x= .returned (.int .i64 (S.p.ref e))/\∃T,dJ w' p T/\T.p=S.p.apply e/\gB (S.M p) w w'/\(∀g,T.M p g->S.M p g∨w.heap.size<=g)/\∀g,g<w.heap.size->S.Off g->T.Off g:=by
 obtain⟨ax,hS,hL,c8,hJ,hQ⟩:=iq dg hj e4 h cn dd;have hU:=O h.blk.lt;obtain⟨et,hm,jj⟩:=aW (aG.len dg) (fun j (R:X w j)=>aa0 p S e j (h.ext R) (dg.ext R) (e4.ext (cn.ext R))) (aG.zV dg);obtain⟨h9,eV⟩:=jE (fun x w'=>x= .returned (.int .i64 (S.p.ref e))/\∃T,dJ w' p T/\T.p=S.p.apply e/\gB (S.M p) w w'/\(∀g,T.M p g->S.M p g∨w.heap.size<=g)/\∀g,g<w.heap.size->S.Off g->T.Off g:Ending->World->Prop);rw[<-eV];have ey:=O eV;clear h dg hj e4 cn dd eV;go_enter func45,ntmps45;go_upto_region 1 with fail;generalize fb:World.alloc w _=fl;have gA:ah fl w.heap.size e.v 34:=by rw[<-fb];exact ah.aI F F
 have gE:X w fl:=by rw[<-fb];exact(X.refl w).alloc _
 obtain⟨du,ec⟩:=aB gA gE;clear fb gA gE;obtain⟨G3,gL⟩:=aC w.heap.size;have g7:w.heap.size<=G3:=J;rw[gL]at du⊢;clear gL;go_wp2_with (refine bV F 34 _ F F du cZ et ?_);refine(hm fl ec).mono ?_;rintro c_ i6 ⟨rfl,ac⟩;obtain⟨dv,cB⟩:=aB (du.ext ac) (ec.ext ac);clear ac du ec hm;by_cases cI:S.p.ref e≠0
 ·have ju:(S.p.ref e != 0)=true:=by simp;exact cI
  have n2:decide (S.p.ref e=0)=false:=aP cI;have hR:=O cI;generalize hq:S.p.ref e=E at*;have hZ:=O hq;clear cI hq;go_wp2_with fail
  (try go_ret)
  rw[ey.out];exact⟨by rfl,S,c8.ext cB,by unfold dw.apply;rw[hZ.out,if_neg hR.out],gB.wC cB,fun g bu=> .inl bu,fun _ _ h=>h⟩
 have dc:S.p.ref e=0:=Classical.not_not.1 cI;obtain⟨a4,z2,hE,hG⟩:=Nj dc;have h5:=O (And.intro z2 (And.intro hE hG));have hW:=O (show h9=fun x w'=>x= .returned (.int .i64 0)/\∃T,dJ w' p T/\T.p=S.p.next e/\gB (S.M p) w w'/\(∀g,T.M p g->S.M p g∨w.heap.size<=g)/\∀g,g<w.heap.size->S.Off g->T.Off g by
  rw[ey.out,dc];unfold dw.apply;rw[if_pos dc])
 have cK:=qy ax a4;obtain⟨cF,fR⟩:=aB cK a4;have gl:=O (show(kE kF e.act e.body).2=0 by
  have cn:=a4;unfold dN at cn;rw[if_neg (by unfold dR;simp;omega)]at cn;exact cn)
 rw[dc];clear cI dc a4 z2 hE hG cK ey;have e9:=O (fun j (R:X w j)=>GH e.act e.body e.ba e.bn e.bc j ax.hb ax.hbc ax.hbm (ax.hcl.ext R));rw[gl.out]at e9;have bp:=dv.cell' (aG.at2 e);have jp:=dv.cell' jj;go_wp2_with fail;refine(e9 i6 cB).mono ?_;rintro c_ v2 ⟨r,rfl,e3,e',g',hp,ac⟩;obtain⟨am,eA,hP,gr,fv,ed⟩:=iq e3 (show r.p=mO e from hp) (ay.len (e3.ok e' g')) (e'.mono (B':=w.heap.size) cB.size) (dv.ext ac) (cB.ext ac);clear e3 e' g' hp e9 ac dv cB bp jp;go_wp2_with (refine bg F _ _ _ F F F (ah.aI (vs:=dI.v) F F) eP fM (xs:=r.v) hP (lD r) ?_);intro v3 ae ai;have ac:X v2 v3:=ai.ext ((X.refl _).alloc _) bG;obtain⟨fs,cz,ee,gt⟩:=bU ae (fv.ext ac) (ed.ext ac) (gr.ext' ac);have g8:w.heap.size<=v2.heap.size:=ed.size;clear ae ai ac fv ed gr;generalize v2.heap.size=G6 at*;have he:(mO e).label.size<=140737488355328:=by rw[<-eA.out];exact am.ls
 have gT:=O (fun j (R:X w j)=>SS p S e j (c8.ext R) (ax.ext R) fR);have e1:=O (fun j (R:X w j)=>SH (S.oq e (S.lab e)) j (aV.EP (c8.ext R) (ax.ext R) (aV.IC c8 he)) (by
  obtain⟨_,_,_,_,jx,jz,_⟩:=cF.out;exact⟨e.act.toNat,by show e.act=_;omega,J⟩))
 rw[abb]at e1;obtain⟨f3,h1⟩:=aB (show((lV e).map Y).length=32 by rw[length_map];exact j_ _ _) (b_ (lV e));clear he;go_wp2_with (refine bV F 34 _ F F cz cZ et ?_);refine(gT v3 ee).mono ?_;rintro c_ i9 ⟨rfl,ac⟩;obtain⟨ft,fw,ef,gv⟩:=bU (fs.ext ac) (cz.ext ac) (ee.ext ac) (gt.ext' ac);clear ac fs cz ee gt gT;go_wp2_with fail;refine(e1 i9 ef).mono ?_;rintro c_ eb ⟨rfl,ac⟩;obtain⟨fu,fx,cT,gw⟩:=bU (ft.ext ac) (fw.ext ac) (ef.ext ac) (gv.ext' ac);clear ac ft fw ef gv e1;go_wp2_with (refine bg F _ _ _ F F F (ah.aI (vs:=List.replicate 32 (.int .u8 0)) F F) bY aF f3 h1 ?_);intro hD ae ai;have ac:X eb hD:=ai.ext ((X.refl _).alloc _) bG;have g9:w.heap.size<=eb.heap.size:=cT.size;have bj:Hid (lu w p S e r (lV e) G3 G6 eb.heap.size S hD):=O ⟨c8.ext (cT.ext ac),gB.wC (cT.ext ac),fun g bu=> .inl bu,fx.ext ac,fu.ext ac,ae,gw.ext' ac,ax.ext (cT.ext ac),hS,g7,g8,g9,hU,fun _ _ h=>h⟩;clear ae ai ac fu fx cT gw g7 g8 g9;generalize eb.heap.size=G8 at*;have hN:=O (fun wx (h:gB (S.M p) w wx)=>hL.ext (h.Ep hJ (fun x hx io=>by have:=hQ.out x io;omega)));have jn:=bj.st.blk.cell' (aV.at0 S);obtain⟨c2,cE,eh,cD⟩:=bU (show(e.bI.map Y).length=16 by rw[length_map,ax.ha]) (show(e.key.map Y).length=16 by rw[length_map,ax.hk]) (aG.Eh ax) (aG.wB ax);go_upto_if 41 with fail;go_cut [] (fun wx=>∃T,lu w p S e r (lV e) G3 G6 G8 T wx/\T.p=S.p.found e)
 case first=>
  by_cases hc:S.cnt=0
  ·have ib:((S.cnt:Int)==0)=true:=by simp;exact hc
   have ic:decide ((S.cnt:Int)=0)=true:=by simp;exact hc
   have ie:(S.cnt==0)=true:=by simp;exact hc
   have ih:decide (S.cnt=0)=true:=by simp;exact hc
   have ej:=O hc;clear hc;go_wp2_with (first|(refine bF F (bQ F F (dF bj.be eh) dh c2) ?_)|(refine kR F _ _ _ F F F bj.st.blk (by rw[c2.out];exact dh) (by rw[c2.out,aV.len bj.st.hl bj.st.hf];decide) (b_ e.bI) ?_));intro a7 eL fk;rw[aV.aa7 bj.st.hl bj.st.hf ax.ha]at eL;have a1:=bj.st;have a0:Hid (lu w p S e r (lV e) G3 G6 G8 {S with ji:=e.bI} a7):=O (bj.turn fk.fF (.inl F) (a1.LJ fk.fF eL a1.hl ax.ha a1.c1 a1.t0 a1.t1 F F F F F F a1.po) (fun k hk=> .inl hk) (fun _ _ h=>⟨h.ms,h.av,h.po⟩));clear eL fk a1;go_wp2_with fail;go_meet;exact⟨_,a0,by unfold dw.found;rw[if_pos (show S.p.cnt=0 from ej)]<;>rfl⟩
  ·have ib:((S.cnt:Int)==0)=false:=by simp;exact hc
   have ic:decide ((S.cnt:Int)=0)=false:=by simp;exact hc
   have ie:(S.cnt==0)=false:=by simp;exact hc
   have ih:decide (S.cnt=0)=false:=by simp;exact hc
   have ej:=O hc;clear hc;go_wp2_with fail;go_meet;exact⟨_,bj,by unfold dw.found;rw[if_neg (show¬S.p.cnt=0 from ej)]<;>rfl⟩
 case rest=>
 obtain⟨T,bO,gO⟩:=hcut;obtain⟨a7,a_⟩:=aC wc;rw[a_]at bO⊢;obtain⟨a0,f4⟩:=aB bO gO;clear a_ wc bO gO bj jn;have a5:=O (abe am eA gl);obtain⟨k,hk⟩:=aC (T.uI e.key);obtain⟨ep,ab⟩:=aB (show(bW T.p.ks e.key).getD bC.zero=k from hk) (show k.Ok by rw[<-hk];exact a0.st.Il e.key);have ev:=O (bC.len ab);have f0:=O (fun j (bk:X a7 j)=>(show(Instr.lookup 143 (.map (some T.gk)) (eX e.key) false).run prog j= .ok (.agg k.v.toArray) j by
  have:=(a0.st.ext bk).Lr (id:=e.key) ax.hk false;rw[hk]at this;exact this))
 have aL:=O (And.intro a0.st.hl a0.st.hf);clear hk;go_upto_region 8 with fail;obtain⟨C,u,aJ,bP⟩:=iw (show bT a7 a7 [] [] a7 from bT.jA (X.refl _) (dV.none _));have bt:∀j,C j->j.cell? ⟨p,52,none⟩=some (.map (some T.gk)):=fun j R=>((a0.st.ext ((u j).1 R).base).blk).cell' (aV.nV aL.1 aL.2);refine fJ fun Z=> ?_;refine aA 0 ?_;refine aA 1 ?_;refine aA 2 ?_;refine dA 3 (bt) ?_;refine aA 4 ?_;refine bD 5 F (bf F (fun j h=>bQ F F (dF (a0.be.ext ((u j).1 h).base) cD) dh cE)) ?_;refine bD 6 F (bf F (fun j h=>vH F F F (f0 j ((u j).1 h).base))) ?_;generalize World.drew a7=ap at Z⊢;refine aZ 7 ?_;intro af aa;go_wp2_with fail;refine aa _ _ (aJ _ _ Z ((X.refl ap).alloc _)) ?_;clear aa af;generalize cs:World.alloc ap _=aD;have ae:ah aD ap.heap.size (bC.zero.v) 159:=by rw[<-cs];exact ah.aI F F
 have df:C aD:=by rw[<-cs];exact aJ _ _ Z ((X.refl ap).alloc _)
 have eT:=((u ap).1 Z).kept.1;have fy:=O ae;clear Z cs ae;have Z:=df;clear df;generalize ap.heap.size=bd at*;refine aH ?_;refine aZ 8 ?_;intro af aa;go_wp2_with (refine bg F _ _ _ F F F fy pX (bC.len bC.vk) ev (yT _) ?_);intro ag ae ai;replace Z:C ag:=(u ag).2 (((u aD).1 Z).upd ai eT (by first|exact Nat.le_refl _|omega));go_wp2_with fail;refine aa _ _ Z ?_;have b1:=O ae;clear aa af ae ai fy;refine aH ?_;refine dH ?_;have b':=O ((u ag).1 Z).base;obtain⟨ad,bq⟩:=aB (a0.ext b') eT;clear Z aJ u bt bP eT f0;have bp:=ad.be.cell' (aG.at2 e);obtain⟨ew,ei,br,cC,fW⟩:=dM (show(r.member.map Y).length=16 by rw[length_map,am.hm]) (ay.Ls am.hm) (show(r.commit.map Y).length=32 by rw[length_map,am.hcm]) (ay.CJ am.hm am.hcm) (b_ r.commit);go_upto_block 0 with fail;go_cut [] (fun wx=>∃a6,lu w p S e r (lV e) G3 G6 G8 a6 wx/\a6.p=T.p.act e r.p)
 case first=>
  by_cases ce:e.act=1
  ·as_aux_lemma=>
   have iv:(e.act==1)=true:=by simp;exact ce
   have ix:decide (e.act=1)=true:=aQ ce;have h8:=O ce;clear ce;have ap:=ad.bb.cell' (ay.at0 r);have e_:=O (fun j (R:mJ j)=>S9 r.text.data.toList j R (by rw[Array.length_toList];exact Nat.le_trans am.ts J));rw[LW]at e_;go_wp2_with fail;refine(e_ _ (hN _ ad.mu)).mono ?_;rintro c_ al ⟨d7,d9,d8,ff,rfl,bR,hl,ac,hh⟩;obtain⟨cG,hV,fT,I⟩:=bU bR hl hh (ad.ext ac);clear bR hl e_ ac hh ap bp;go_wp2_with (refine bg F _ _ _ F F F (ah.aI (vs:=[.slice none 0 0]) F F) Cj F (xs:=[.slice d7 d9 d8]) F (fun v hv=>by simp at hv;rw[hv];rfl) ?_);intro hA ae ai;have ac:X al hA:=ai.ext ((X.refl _).alloc _) bG;have fX:Hid (oG.Hi hA w.heap.size ⟨al.heap.size,d7,d9,d8,ff⟩):=O (abf ae I.mu.size (cG.ext ac) (abg fT ad.mu.size));obtain⟨hT,cP⟩:=aB (fX.mono (B':=p+1) I.pl) (I.ext ac);clear ae ai ac cG fT I;generalize al.heap.size=eg at*;have gD:=cP.st.blk.cell' (aV.CG aL.1 aL.2);have gF:=cP.st.blk.frozen 50;go_wp2_with fail;go_meet;have hb:=cP.st.blk.set 50 (.pointer (some ⟨eg,0,none⟩));rw[aV.L6 aL.1 aL.2 ⟨eg,d7,d9,d8,ff⟩]at hb;have a1:=cP.st;refine⟨{T with pol:=some ⟨eg,d7,d9,d8,ff⟩},cP.turn (aU.setCell _).fF (.inl F) (a1.LJ (aU.setCell _).fF hb a1.hl a1.hf a1.c1 a1.t0 a1.t1 F F F F F F (fun P co=>by injection co with co;rw[<-co];exact hT)) (fun k hk=> .inl hk) (fun g bu h=>⟨h.ms,h.av,fun P co=>by injection co with co;rw[<-co];exact fX.off bu⟩),?_⟩;unfold dw.act;rw[if_pos h8.out];show _=dw.mk _ _ _ _ (some (mM r.text.data.toList)) _ _ _;rw[<-hV.out];rfl
  have iv:(e.act==1)=false:=by simp;exact ce
  have ix:decide (e.act=1)=false:=aP ce;by_cases cf:e.act=2
  ·as_aux_lemma=>
   have iz:(e.act==2)=true:=by simp;exact cf
   have iA:decide (e.act=2)=true:=aQ cf;have gn:=O cf;clear cf;go_upto_region 14 with fail;obtain⟨C,u,aJ,bP⟩:=iw (show bT ag ag [] [] ag from bT.jA (X.refl _) (dV.none _));have bL:∀j,C j->j.cell? ⟨p,51,none⟩=some (.map (some T.gm)):=fun j R=>((ad.st.ext ((u j).1 R).base).blk).cell' (aV.mD aL.1 aL.2);have h':∀j,C j->j.cell? ⟨G6,17,none⟩=some (.slice r.ra r.rn r.rc):=fun j R=>(ad.bb.ext ((u j).1 R).base).cell' (ay.XA am);refine jQ (W:=[8]) fun Z=> ?_;refine bK 0 ?_;refine bK 1 ?_;refine bK 2 ?_;refine eY 3 (bL) ?_;refine bK 4 ?_;refine k_ 5 F (bf F (fun j h=>bQ F F (dF (ad.bb.ext ((u j).1 h).base) ei) dh ew)) ?_;refine bK 6 ?_;refine eY 7 (h') ?_;generalize World.drew ag=ap at Z⊢;have I:=O (ad.ext ((u ap).1 Z).base);obtain⟨aD,ao,an,aw⟩:=zY vg underlying142 I.st.mem I.st.em (show og r.member from am.hm) (v:=(⟨r.ra,r.rn,r.rc,r.roles⟩:iF));unfold eX iF.v at ao;have aq:=O an.fF;have aR:=O aw;clear an aw Z;refine iU 8 ?_;intro af aa;go_wp2_with fail;refine aa _ _ trivial ?_;clear aa af ao;refine aH ?_;refine jR ?_;go_wp2_with fail;go_meet;have cc:Hid (iF.Hi aD (p+1) ⟨r.ra,r.rn,r.rc,r.roles⟩):=O ⟨am.rl,am.qZ,a5.rn,a5.rs,(I.rh.fF aq (.inr I.st.Ar)).mono I.pl⟩;refine⟨{T with ms:=dU T.ms r.member ⟨r.ra,r.rn,r.rc,r.roles⟩},I.turn aq (.inr (.inl F)) (I.st.SN aq aR (I.st.em.set _ am.hm) (fun x hx=> ?_)) (fun k hk=> .inl hk) (fun g bu h=>⟨fun x hx=> ?_,h.av,h.po⟩),?_⟩
   ·rcases(uo I.st.em.nodup).1 hx with rfl|⟨hx,_⟩
    ·exact cc
    ·exact(I.st.mr x hx).fF aq (.inr I.st.Ar)
   ·rcases(uo I.st.em.nodup).1 hx with rfl|⟨hx,_⟩
    ·exact I.rh.off (z:=1) (by rw[length_map,am.rl,Nat.one_mul]) J bu
    ·exact h.ms x hx
   ·unfold dw.act;rw[if_neg (by have:=gn.out;omega),if_pos gn.out];exact congrArg (fun m=>({T.p with ms:=m}:dw)) (Lm iF.l T.ms r.member ⟨r.ra,r.rn,r.rc,r.roles⟩).symm
  have iz:(e.act==2)=false:=by simp;exact cf
  have iA:decide (e.act=2)=false:=aP cf;by_cases cg:e.act=3
  ·as_aux_lemma=>
   have iB:(e.act==3)=true:=by simp;exact cg
   have iN:decide (e.act=3)=true:=aQ cg;have eE:=O cg;clear cg;go_upto_region 16 with fail;obtain⟨C,u,aJ,bP⟩:=iw (show bT ag ag [] [] ag from bT.jA (X.refl _) (dV.none _));have bL:∀j,C j->j.cell? ⟨p,51,none⟩=some (.map (some T.gm)):=fun j R=>((ad.st.ext ((u j).1 R).base).blk).cell' (aV.mD aL.1 aL.2);refine jQ (W:=[6]) fun Z=> ?_;refine bK 0 ?_;refine bK 1 ?_;refine bK 2 ?_;refine eY 3 (bL) ?_;refine bK 4 ?_;refine k_ 5 F (bf F (fun j h=>bQ F F (dF (ad.bb.ext ((u j).1 h).base) ei) dh ew)) ?_;generalize World.drew ag=ap at Z⊢;have ar:=O (ad.ext ((u ap).1 Z).base);obtain⟨aD,ao,an,aw⟩:=KD vg underlying142 (ty:=0) ar.st.mem ar.st.em (show og r.member from am.hm);unfold eX at ao;have aq:=O an.fF;have aR:=O aw;clear an aw Z;refine iU 6 ?_;intro af aa;go_wp2_with fail;refine aa _ _ trivial ?_;clear aa af ao;refine aH ?_;refine jR ?_;have bi:=BP T.ms r.member;have bS:Hid (lu w p S e r (lV e) G3 G6 G8 {T with ms:=iQ T.ms r.member} aD):=O (ar.turn aq (.inr (.inl F)) (ar.st.SN aq aR (ar.st.em.del _) (fun x hx=>(ar.st.mr x (bi.mem hx)).fF aq (.inr ar.st.Ar))) (fun k hk=> .inl hk) (fun _ _ h=>⟨fun x hx=>h.ms x (bi.mem hx),h.av,h.po⟩));clear aq aR bi ar bp;have fo:=bS.st.blk.cell' (aV.oQ bS.st.hl bS.st.hf);have cW:=O bS.st.ea.nodup;go_wp2_with (at_range;refine zZ F 144 31 162 underlying144 _ F F bS.st.app ?_);intro i7 hr b6 dq;obtain⟨a8,cy,c0⟩:=aW hr (bS.ext b6) (show w.heap.size<=aD.heap.size from bS.mu.size);clear hr b6 dq fo bS;obtain⟨ct,dm⟩:=aC aD.heap.size;rw[dm]at a8 c0⊢;clear dm;go_wp2_with fail
   go_loopw [14] (fun _ wr=>∃lf,gJ eX oH wr T.ga ct (mV (fun l=>iQ l r.member) lf T.av) lf/\lf.Nodup/\lu w p S e r (lV e) G3 G6 G8 {T with ms:=iQ T.ms r.member,av:=mV (fun l=>iQ l r.member) lf T.av} wr) (fun _ wr=>wr.rangeLeft T.ga ct)
   case atStart=>
    refine⟨T.av.map Prod.fst,?_,cW,?_⟩
    ·rw[Iw];exact a8
    ·rw[Iw];exact cy
   case round=>
    obtain⟨lf,cr,dj,da⟩:=hrel;obtain⟨bB,c6,bx⟩:=aW cr dj da;have e8:=cr.qL;clear cr dj da a8 cy;go_wp2_with (at_next;refine z_ F (fun x y h=>xJ h) _ F F bB ?_ ?_)
    ·intro e5;subst e5;go_wp2_with fail;go_meet;refine⟨_,bx,?_⟩;unfold dw.act;rw[if_neg (by have:=eE.out;omega),if_neg (by have:=eE.out;omega),if_pos eE.out];exact congr (congrArg (fun m a=>({T.p with ms:=m,av:=a}:dw)) (Lp iF.l T.ms r.member).symm) (adW r.member T.av)
    ·intro x g l cw lf2 bh bm di dl ba cJ;have c5:=O (Au c6 bm);obtain⟨eB,bc,c7⟩:=aW (Tm (f:=fun l=>iQ l r.member) cW bm c5.1 bh) (bx.beside ba.fF (CW bB) c0 (bx.st.Tq bB)) dl;obtain⟨a2,er,en,bz⟩:=bU (bc.st.inn _ bh) di (bc.st.CP) bh;rw[show oH (g,l)= .map (some g)from F]at cJ⊢;clear bh bm dl ba bx bB di;obtain⟨ea,ao,an,aw⟩:=KD vg underlying162 (ty:=0) a2.1 a2.2.1 (show og r.member from am.hm);unfold eX at ao;have bE:=O an.fF;have aR:=O aw;clear an aw;have bi:=BP l r.member;obtain⟨i,cq,dp⟩:=eB.out;have bO:=bc.st.LH cq bE aR (a2.2.1.del _) (fun y aE=>a2.2.2 y (bi.mem aE));have db:=bc.turn bE (.inr (.inr (.inr (.inr ⟨_,bz,F⟩)))) bO (by
      rintro k (h|h|h|h|⟨y,aE,h⟩)
      ·exact .inl (.inl h)
      ·exact .inl (.inr (.inl h))
      ·exact .inl (.inr (.inr (.inl h)))
      ·exact .inl (.inr (.inr (.inr (.inl h))))
      ·rcases mem_or_eq_of_mem_set aE with aE|rfl
       ·exact .inl (.inr (.inr (.inr (.inr ⟨y,aE,h⟩))))
       ·exact .inl (.inr (.inr (.inr (.inr ⟨_,bz,h⟩)))))
      (fun _ _ h=>⟨h.ms,LY h.av (fun y aE=>h.av _ bz y (bi.mem aE)),h.po⟩)
     have dk:gJ eX oH ea T.ga ct (mV (fun l=>iQ l r.member) lf2 T.av) lf2:=(c7.mut bE (fun h=>(en.2.2.2.1 _ bz).2.2 h.symm) (CV c7 a2.1)).same ((Iy lf2 T.av).trans (Iy lf T.av).symm);obtain⟨cc,ek⟩:=aB dk (show lu w p S e r (lV e) G3 G6 G8 {T with ms:=iQ T.ms r.member,av:=mV (fun l=>iQ l r.member) lf2 T.av} ea by rw[dp];exact db);clear cq dp bO db dk bi;go_wp2_with (first|(refine bF F (bQ F F (dF bc.bb ei) dh ew) ?_));go_roundw
     case rel=>exact⟨lf2,cc,c5.2,ek⟩
     case measure=>rw[cc.qL,e8,er.out];omega
  have iB:(e.act==3)=false:=by simp;exact cg
  have iN:decide (e.act=3)=false:=aP cg;by_cases ch:e.act=4
  ·as_aux_lemma=>
   have iS:(e.act==4)=true:=by simp;exact ch
   have iX:decide (e.act=4)=true:=aQ ch;have dT:=O ch;clear ch;go_upto_region 22 with fail;obtain⟨C,u,aJ,bP⟩:=iw (show bT ag ag [] [] ag from bT.jA (X.refl _) (dV.none _));have bt:∀j,C j->j.cell? ⟨p,52,none⟩=some (.map (some T.gk)):=fun j R=>((ad.st.ext ((u j).1 R).base).blk).cell' (aV.nV aL.1 aL.2);have ia:∀j,C j->j.cell? ⟨G6,18,none⟩=some (.string r.label):=fun j R=>(ad.bb.ext ((u j).1 R).base).cell' (ay.Gt am);refine jQ (W:=[13]) fun Z=> ?_;refine bK 0 ?_;refine bK 1 ?_;refine bK 2 ?_;refine eY 3 (bt) ?_;refine bK 4 ?_;refine k_ 5 F (bf F (fun j h=>bQ F F (dF (ad.be.ext ((u j).1 h).base) cD) dh cE)) ?_;refine bK 6 ?_;refine k_ 7 F (bf F (fun j h=>bQ F F (dF (ad.be.ext ((u j).1 h).base) cD) dh cE)) ?_;refine bK 8 ?_;refine eY 9 (ia) ?_;refine bK 10 ?_;refine k_ 11 F (bf F (fun j h=>bQ F F (dF (ad.bb.ext ((u j).1 h).base) cC) bY br)) ?_;refine k_ 12 F (bf F (fun j _=>aaz F F F F F ax.hk am.hcm j)) ?_;generalize World.drew ag=ap at Z⊢;have I:=O (ad.ext ((u ap).1 Z).base);obtain⟨aD,ao,an,aw⟩:=zY vg underlying143 I.st.key I.st.ek (show og e.key from ax.hk) (v:=(⟨e.key,r.label,0,r.commit,false, -1,kN⟩:bC));unfold eX bC.va at ao;have aq:=O an.fF;have aR:=O aw;clear an aw Z;refine iU 13 ?_;intro af aa;go_wp2_with fail;refine aa _ _ trivial ?_;clear aa af ao;refine aH ?_;refine jR ?_;go_wp2_with fail;go_meet;refine⟨{T with ks:=dU T.ks e.key ⟨e.key,r.label,0,r.commit,false, -1,kN⟩},I.turn aq (.inr (.inr (.inl F))) (I.st.Iq aq aR (I.st.ek.set _ ax.hk) (fun x hx=> ?_)) (fun k hk=> .inl hk) (fun _ _ h=>⟨h.ms,h.av,h.po⟩),?_⟩
   ·rcases(uo I.st.ek.nodup).1 hx with rfl|⟨hx,_⟩
    ·exact⟨ax.hk,a5.l,(by show(0:Int)<=0;omega),(by show(0:Int)<=4294967295;omega),am.hcm,(by show(-1:Int)<= -1;omega),(by show(-1:Int)<=4294967295;omega),F⟩
    ·exact I.st.kr x hx
   ·unfold dw.act;rw[if_neg (by have:=dT.out;omega),if_neg (by have:=dT.out;omega),if_neg (by have:=dT.out;omega),if_pos dT.out];rfl
  have iS:(e.act==4)=false:=by simp;exact ch
  have iX:decide (e.act=4)=false:=aP ch;by_cases ci:e.act=5
  ·as_aux_lemma=>
   have i0:(e.act==5)=true:=by simp;exact ci
   have i1:decide (e.act=5)=true:=aQ ci;have c9:=O ci;clear ci;go_upto_region 24 with fail;have cY:=O (show¬bd=G6 from fun h=>by have:=bq.out;have:=a0.bb.lt;omega);obtain⟨C,u,aJ,bP⟩:=iw (show bT a7 ag [G6] [(bd,84,159)] ag from bT.yw b' (dV.one ad.bb.lt) b1 ev);have bL:∀j,C j->j.cell? ⟨G6,51,none⟩=some (.int .i64 r.epoch):=fun j R=>(a0.bb.ext ((u j).1 R).base).cell' (ay.Bv (b:=r) am.hm am.hcm);refine fJ fun Z=> ?_;refine aA 0 ?_;refine dA 1 (bL) ?_;refine aA 2 ?_;refine bD 3 F (bf F (fun j h=>bQ F F (dF (a0.bb.ext ((u j).1 h).base) cC) bY br)) ?_;refine aA 4 ?_;have cl:X ag (World.drew ag):=(X.refl ag).drew;generalize World.drew ag=cx at Z cl⊢;have ca:=O cl;clear cl;obtain⟨cU,bw⟩:=aB Z (b1.ext ca);have eN:=bw.cell' (bC.pI ab);have eQ:=bw.frozen 17;have hO:=O (bC.len ab);clear Z;refine aZ 5 ?_;intro af aa;go_wp2_with fail;generalize bo:World.setCell cx _ _=a4 at aa⊢;have cv:aU cx bd a4:=by rw[<-bo];exact aU.setCell _
   have cp:ah a4 bd ({k with epoch:=r.epoch}:bC).v 159:=by rw[<-bo,<-bC.DZ ab.out];exact bw.set 17 _
   have cR:=O cp;have c1:Hid (bC.Ok {k with epoch:=r.epoch}):=O ⟨ab.hk,ab.ls,a5.e.1,a5.e.2,ab.hc,ab.s0,ab.s1,ab.hs⟩;have c3:=O (bC.len c1);clear bo eN eQ;have bN:C a4:=(u a4).2 (((u cx).1 cU).store cv cp (by simp[c3.out]) bq (by simp;exact cY));refine aa _ _ bN ?_;clear aa af cp;have Z:=bN;refine aH ?_;refine aA 6 ?_;refine aZ 7 ?_;intro af aa;go_wp2_with (refine kR F _ _ _ F F F cR (by rw[br.out];exact bY) (by rw[br.out,c3.out];decide) fW ?_);intro al ae ba;rw[bC.aa8 c1.out am.hcm]at ae;have de:C al:=(u al).2 (((u a4).1 bN).store ba ae (by simp[bC.len (k:={k with epoch:=r.epoch,commit:=r.commit}) ⟨ab.hk,ab.ls,a5.e.1,a5.e.2,am.hcm,ab.s0,ab.s1,ab.hs⟩]) bq (by simp;exact cY));refine aa _ _ de ?_;clear aa af;refine aH ?_;refine dH ?_;have ai:mP bd ag al:=((gB.wC ca).same cv.fF).same ba.fF;clear cv ba bw cR ca cU bN de;go_upto_region 25 with fail;have b5:X a7 al:=(gB.wC b' |>.same ai).Ep (X.refl a7) (fun x hx bu=>by have:=bq.out;omega);obtain⟨ad,cQ⟩:=aB (a0.ext b5) ae;have b2:Hid (bC.Ok {k with epoch:=r.epoch,commit:=r.commit}):=O ⟨ab.hk,ab.ls,a5.e.1,a5.e.2,am.hcm,ab.s0,ab.s1,ab.hs⟩;have c4:=O (bC.len b2);clear ae ai b5 bp;obtain⟨C,u,aJ,bP⟩:=iw (show bT al al [] [] al from bT.jA (X.refl _) (dV.none _));have bt:∀j,C j->j.cell? ⟨p,52,none⟩=some (.map (some T.gk)):=fun j R=>((ad.st.ext ((u j).1 R).base).blk).cell' (aV.nV aL.1 aL.2);refine jQ (W:=[7]) fun Z=> ?_;refine bK 0 ?_;refine bK 1 ?_;refine bK 2 ?_;refine eY 3 (bt) ?_;refine bK 4 ?_;refine k_ 5 F (bf F (fun j h=>bQ F F (dF (ad.be.ext ((u j).1 h).base) cD) dh cE)) ?_
   refine k_ 6 F (oC F 159 _ F F (fun j h=>cQ.ext ((u j).1 h).base) pX c4) ?_;generalize World.drew al=ap at Z⊢;have I:=O (ad.ext ((u ap).1 Z).base);obtain⟨aD,ao,an,aw⟩:=zY vg underlying143 I.st.key I.st.ek (show og e.key from ax.hk) (v:=({k with epoch:=r.epoch,commit:=r.commit}:bC));unfold eX bC.va at ao;have aq:=O an.fF;have aR:=O aw;clear an aw Z;refine iU 7 ?_;intro af aa;go_wp2_with fail;refine aa _ _ trivial ?_;clear aa af ao;refine aH ?_;refine jR ?_;go_wp2_with fail;go_meet;refine⟨{T with ks:=dU T.ks e.key {k with epoch:=r.epoch,commit:=r.commit}},I.turn aq (.inr (.inr (.inl F))) (I.st.Iq aq aR (I.st.ek.set _ ax.hk) (fun x hx=> ?_)) (fun k hk=> .inl hk) (fun _ _ h=>⟨h.ms,h.av,h.po⟩),?_⟩
   ·rcases(uo I.st.ek.nodup).1 hx with rfl|⟨hx,_⟩
    ·exact b2
    ·exact I.st.kr x hx
   ·unfold dw.act;rw[if_neg (by have:=c9.out;omega),if_neg (by have:=c9.out;omega),if_neg (by have:=c9.out;omega),if_neg (by have:=c9.out;omega),if_pos c9.out];rw[ep.out];rfl
  have i0:(e.act==5)=false:=by simp;exact ci
  have i1:decide (e.act=5)=false:=aP ci;by_cases cj:e.act=7
  ·as_aux_lemma=>
   have i2:(e.act==7)=true:=by simp;exact cj
   have i3:decide (e.act=7)=true:=aQ cj;have cH:=O cj;clear cj;have gD:=b1.cell' (bC.CG ab);have gF:=b1.frozen 50;go_upto_region 28 with fail;generalize bo:World.setCell ag _ _=al;have ai:aU ag bd al:=by rw[<-bo];exact aU.setCell _
   have ae:ah al bd ({k with rev:=true}:bC).v 159:=by rw[<-bo,<-bC.L6 ab.out];exact b1.set 50 _
   clear bo gD gF;have ai:=ai.fF;have b5:X a7 al:=(gB.wC b' |>.same ai).Ep (X.refl a7) (fun x hx bu=>by have:=bq.out;omega);obtain⟨ad,cQ⟩:=aB (a0.ext b5) ae;have b2:Hid (bC.Ok {k with rev:=true}):=O ⟨ab.hk,ab.ls,ab.e0,ab.e1,ab.hc,ab.s0,ab.s1,ab.hs⟩;have c4:=O (bC.len b2);clear ae ai b5 bp;obtain⟨C,u,aJ,bP⟩:=iw (show bT al al [] [] al from bT.jA (X.refl _) (dV.none _));have bt:∀j,C j->j.cell? ⟨p,52,none⟩=some (.map (some T.gk)):=fun j R=>((ad.st.ext ((u j).1 R).base).blk).cell' (aV.nV aL.1 aL.2);refine jQ (W:=[7]) fun Z=> ?_;refine bK 0 ?_;refine bK 1 ?_;refine bK 2 ?_;refine eY 3 (bt) ?_;refine bK 4 ?_;refine k_ 5 F (bf F (fun j h=>bQ F F (dF (ad.be.ext ((u j).1 h).base) cD) dh cE)) ?_;refine k_ 6 F (oC F 159 _ F F (fun j h=>cQ.ext ((u j).1 h).base) pX c4) ?_;generalize World.drew al=ap at Z⊢;have I:=O (ad.ext ((u ap).1 Z).base);obtain⟨aD,ao,an,aw⟩:=zY vg underlying143 I.st.key I.st.ek (show og e.key from ax.hk) (v:=({k with rev:=true}:bC));unfold eX bC.va at ao;have aq:=O an.fF;have aR:=O aw;clear an aw Z;refine iU 7 ?_;intro af aa;go_wp2_with fail;refine aa _ _ trivial ?_;clear aa af ao;refine aH ?_;refine jR ?_;go_wp2_with fail;go_meet;refine⟨{T with ks:=dU T.ks e.key {k with rev:=true}},I.turn aq (.inr (.inr (.inl F))) (I.st.Iq aq aR (I.st.ek.set _ ax.hk) (fun x hx=> ?_)) (fun k hk=> .inl hk) (fun _ _ h=>⟨h.ms,h.av,h.po⟩),?_⟩
   ·rcases(uo I.st.ek.nodup).1 hx with rfl|⟨hx,_⟩
    ·exact b2
    ·exact I.st.kr x hx
   ·unfold dw.act;rw[if_neg (by have:=cH.out;omega),if_neg (by have:=cH.out;omega),if_neg (by have:=cH.out;omega),if_neg (by have:=cH.out;omega),if_neg (by have:=cH.out;omega),if_pos cH.out];rw[ep.out];rfl
  have i2:(e.act==7)=false:=by simp;exact cj
  have i3:decide (e.act=7)=false:=aP cj;by_cases ck:e.act=9
  ·as_aux_lemma=>
   have i4:(e.act==9)=true:=by simp;exact ck
   have i5:decide (e.act=9)=true:=aQ ck;have cd:=O ck;clear ck;go_upto_region 30 with fail;have cY:=O (show¬bd=G6 from fun h=>by have:=bq.out;have:=a0.bb.lt;omega);obtain⟨C,u,aJ,bP⟩:=iw (show bT a7 ag [G6] [(bd,84,159)] ag from bT.yw b' (dV.one ad.bb.lt) b1 ev);have bL:∀j,C j->j.cell? ⟨G6,51,none⟩=some (.int .i64 r.epoch):=fun j R=>(a0.bb.ext ((u j).1 R).base).cell' (ay.Bv (b:=r) am.hm am.hcm);refine fJ fun Z=> ?_;refine aA 0 ?_;refine dA 1 (bL) ?_;refine aA 2 ?_;refine bD 3 F (bf F (fun j h=>bQ F F (dF (a0.bb.ext ((u j).1 h).base) cC) bY br)) ?_;refine aA 4 ?_;have cl:X ag (World.drew ag):=(X.refl ag).drew;generalize World.drew ag=cx at Z cl⊢;have ca:=O cl;clear cl;obtain⟨cU,bw⟩:=aB Z (b1.ext ca);have eN:=bw.cell' (bC.mD ab);have eQ:=bw.frozen 51;have hO:=O (bC.len ab);clear Z;refine aZ 5 ?_;intro af aa;go_wp2_with fail;generalize bo:World.setCell cx _ _=a4 at aa⊢;have cv:aU cx bd a4:=by rw[<-bo];exact aU.setCell _
   have cp:ah a4 bd ({k with esc:=r.epoch}:bC).v 159:=by rw[<-bo,<-bC.D6 ab.out];exact bw.set 51 _
   have cR:=O cp;have c1:Hid (bC.Ok {k with esc:=r.epoch}):=O ⟨ab.hk,ab.ls,ab.e0,ab.e1,ab.hc,by have:=a5.e.1;show -1<=r.epoch;omega,a5.e.2,ab.hs⟩;have c3:=O (bC.len c1);clear bo eN eQ;have bN:C a4:=(u a4).2 (((u cx).1 cU).store cv cp (by simp[c3.out]) bq (by simp;exact cY));refine aa _ _ bN ?_;clear aa af cp;have Z:=bN;refine aH ?_;refine aA 6 ?_;refine aZ 7 ?_;intro af aa;go_wp2_with (refine kR F _ _ _ F F F cR (by rw[br.out];exact bY) (by rw[br.out,c3.out];decide) fW ?_);intro al ae ba;rw[bC.aa9 c1.out am.hcm]at ae;have de:C al:=(u al).2 (((u a4).1 bN).store ba ae (by simp[bC.len (k:={k with esc:=r.epoch,shared:=r.commit}) ⟨ab.hk,ab.ls,ab.e0,ab.e1,ab.hc,by have:=a5.e.1;show -1<=r.epoch;omega,a5.e.2,am.hcm⟩]) bq (by simp;exact cY));refine aa _ _ de ?_;clear aa af;refine aH ?_;refine dH ?_;have ai:mP bd ag al:=((gB.wC ca).same cv.fF).same ba.fF;clear cv ba bw cR ca cU bN de;go_upto_region 31 with fail;have b5:X a7 al:=(gB.wC b' |>.same ai).Ep (X.refl a7) (fun x hx bu=>by have:=bq.out;omega);obtain⟨ad,cQ⟩:=aB (a0.ext b5) ae;have b2:Hid (bC.Ok {k with esc:=r.epoch,shared:=r.commit}):=O ⟨ab.hk,ab.ls,ab.e0,ab.e1,ab.hc,by have:=a5.e.1;show -1<=r.epoch;omega,a5.e.2,am.hcm⟩;have c4:=O (bC.len b2);clear ae ai b5 bp;obtain⟨C,u,aJ,bP⟩:=iw (show bT al al [] [] al from bT.jA (X.refl _) (dV.none _));have bt:∀j,C j->j.cell? ⟨p,52,none⟩=some (.map (some T.gk)):=fun j R=>((ad.st.ext ((u j).1 R).base).blk).cell' (aV.nV aL.1 aL.2);refine jQ (W:=[7]) fun Z=> ?_;refine bK 0 ?_;refine bK 1 ?_;refine bK 2 ?_
   refine eY 3 (bt) ?_;refine bK 4 ?_;refine k_ 5 F (bf F (fun j h=>bQ F F (dF (ad.be.ext ((u j).1 h).base) cD) dh cE)) ?_;refine k_ 6 F (oC F 159 _ F F (fun j h=>cQ.ext ((u j).1 h).base) pX c4) ?_;generalize World.drew al=ap at Z⊢;have I:=O (ad.ext ((u ap).1 Z).base);obtain⟨aD,ao,an,aw⟩:=zY vg underlying143 I.st.key I.st.ek (show og e.key from ax.hk) (v:=({k with esc:=r.epoch,shared:=r.commit}:bC));unfold eX bC.va at ao;have aq:=O an.fF;have aR:=O aw;clear an aw Z;refine iU 7 ?_;intro af aa;go_wp2_with fail;refine aa _ _ trivial ?_;clear aa af ao;refine aH ?_;refine jR ?_;go_wp2_with fail;go_meet;refine⟨{T with ks:=dU T.ks e.key {k with esc:=r.epoch,shared:=r.commit}},I.turn aq (.inr (.inr (.inl F))) (I.st.Iq aq aR (I.st.ek.set _ ax.hk) (fun x hx=> ?_)) (fun k hk=> .inl hk) (fun _ _ h=>⟨h.ms,h.av,h.po⟩),?_⟩
   ·rcases(uo I.st.ek.nodup).1 hx with rfl|⟨hx,_⟩
    ·exact b2
    ·exact I.st.kr x hx
   ·unfold dw.act;rw[if_neg (by have:=cd.out;omega),if_neg (by have:=cd.out;omega),if_neg (by have:=cd.out;omega),if_neg (by have:=cd.out;omega),if_neg (by have:=cd.out;omega),if_neg (by have:=cd.out;omega),if_pos cd.out];rw[ep.out];rfl
  have i4:(e.act==9)=false:=by simp;exact ck
  have i5:decide (e.act=9)=false:=aP ck;by_cases a3:e.act=8
  ·as_aux_lemma=>
   have fc:(e.act==8)=true:=by simp;exact a3
   have fd:decide (e.act=8)=true:=aQ a3;have be:=O a3;clear a3;have cV:=O ad.st.ea;have a8:=O (fun j (bk:X ag j)=>(G9 G_ underlying144 (Tz j) (ad.st.ext bk).app ad.st.ea (show wE r.commit from am.hcm) false));have jN:∀(w:World) (r:Option Nat),(binOp .eql 162 (.map r) (.map none)).run prog w= .ok (.bool r.isNone) w:=fun w r=>run_eql_map_nil w _ _ _ r underlying162;obtain⟨fe,b7⟩:=aC (bW T.av r.commit);rw[b7]at a8;obtain⟨fg,cL⟩:=aC (fe.map (fun y=>y.1):Option Nat);have fY:=O (fun j (bk:X ag j)=>(show(Instr.lookup 144 (.map (some T.ga)) (eX r.commit) false).run prog j= .ok (.map fg) j by
    have R:=a8.out j bk;rw[<-cL];cases fe<;>exact R))
   have dC:=O (And.intro b7 cL);clear b7 cL a8;go_upto_region 33 with fail;obtain⟨C,u,aJ,bP⟩:=iw (show bT ag ag [] [] ag from bT.jA (X.refl _) (dV.none _));have b4:∀j,C j->j.cell? ⟨p,53,none⟩=some (.map (some T.ga)):=fun j R=>((ad.st.ext ((u j).1 R).base).blk).cell' (aV.oQ aL.1 aL.2);refine fJ fun Z=> ?_;refine aA 0 ?_;refine aA 1 ?_;refine aA 2 ?_;refine dA 3 (b4) ?_;refine aA 4 ?_;refine bD 5 F (bf F (fun j h=>bQ F F (dF (ad.bb.ext ((u j).1 h).base) cC) bY br)) ?_;refine bD 6 F (bf F (fun j h=>vH F F F (fY j ((u j).1 h).base))) ?_;refine aA 7 ?_;refine dH ?_;generalize World.drew ag=ap at Z⊢;have I:=O (ad.ext ((u ap).1 Z).base);clear Z aJ u b4 bP fY;go_upto_if 162 with fail;go_cut [] (fun wx=>∃(bv:uJ) (g:Nat) (l:List (aj×dX)),lu w p S e r (lV e) G3 G6 G8 {T with av:=bv} wx/\bW bv r.commit=some (g,l)/\kM l=(bW T.p.av r.commit).getD []/\∀y,dU (rV bv) r.commit y=dU T.p.av r.commit y)
   case first=>
    obtain⟨b7,cL⟩:=dC.out;cases fe with
    |some ik=>
     obtain⟨g,l⟩:=ik;have cX:=O b7;obtain rfl:some g=fg:=cL;clear b7 dC;go_wp2_with fail;go_meet;exact⟨T.av,g,l,I,cX,by show _=(bW (rV T.av) r.commit).getD [];rw[Tv,cX.out];rfl,fun _=>rfl⟩
    |none=>
     have cX:=O b7;obtain rfl:none=fg:=cL;clear b7 dC;go_upto_region 34 with fail;have ip:=fun w=>He (P:=prog) 162 w;obtain⟨C,u,aJ,bP⟩:=iw (show bT ap ap [] [] ap from bT.jA (X.refl _) (dV.none _));have b4:∀j,C j->j.cell? ⟨p,53,none⟩=some (.map (some T.ga)):=fun j R=>((I.st.ext ((u j).1 R).base).blk).cell' (aV.oQ aL.1 aL.2);refine jQ (W:=[7]) fun Z=> ?_;refine bK 0 ?_;refine bK 1 ?_;refine bK 2 ?_;refine eY 3 (b4) ?_;refine bK 4 ?_;refine k_ 5 F (bf F (fun j h=>bQ F F (dF (I.bb.ext ((u j).1 h).base) cC) bY br)) ?_;generalize World.drew ap=aD at Z⊢;refine fC 6 ?_;intro af aa;go_wp2_with fail;refine aa _ _ (aJ _ _ Z ((X.refl aD).alloc _)) ?_;clear aa af ip;generalize cs:World.alloc aD _=fp;have g2:f_ eX dX.v fp aD.heap.size []:=by rw[<-cs];exact f_.new aD
     have df:C fp:=by rw[<-cs];exact aJ _ _ Z ((X.refl aD).alloc _)
     obtain⟨cb,ar⟩:=aB (I.ext ((u aD).1 Z).base) (I.ext ((u fp).1 df).base);have hK:=O cb.mu.size;obtain⟨c6,dy⟩:=aB (abo cb.st.nd cb.st.mem.lt cb.st.key.lt cb.st.app.lt (fun x hx=>(cb.st.inn x hx).1.lt) cX) g2;clear g2 df Z cs cb;generalize aD.heap.size=cm at*;obtain⟨j3,ao,an,aw⟩:=zY G_ underlying144 ar.st.app ar.st.ea (show wE r.commit from am.hcm) (v:=((cm,[]):Nat×List (aj×dX)));rw[show oH (cm,([]:List (aj×dX)))= .map (some cm)from F]at ao;unfold eX at ao;have aq:=O an.fF;have aR:=O aw;clear an aw;refine aH ?_;refine iU 7 ?_;intro af aa;go_wp2_with fail;refine aa _ _ trivial ?_;clear aa af ao;refine aH ?_;refine jR ?_;go_wp2_with fail;go_meet;have e6:∀x∈dU T.av r.commit (cm,([]:List (aj×dX))),x=(r.commit,(cm,[]))∨x∈T.av:=fun x hx=>by
      rcases(uo cV.nodup).1 hx with R|R
      ·exact .inl R
      ·exact .inr R.1
     refine⟨dU T.av r.commit (cm,[]),cm,[],ar.Tn aq (.inr (.inr (.inr (.inl F)))) (ar.st.SQ aq aR (cV.set _ am.hcm) (fun x hx=> ?_) c6) (TA fun x hx=> ?_) (fun _ _ h=>⟨h.ms,fun x hx=> ?_,h.po⟩),?_,?_,?_⟩
     ·rcases e6 x hx with rfl|R
      ·exact⟨dy,jc.nil,aF⟩
      ·exact ar.st.inn x R
     ·rcases e6 x hx with rfl|R
      ·exact .inr hK
      ·exact .inl ⟨x,R,F⟩
     ·rcases e6 x hx with rfl|R
      ·simp
      ·exact h.av x R
     ·rw[YL cV.out _ am.hcm,if_pos F]
     ·show _=(bW (rV T.av) r.commit).getD [];rw[Tv,cX.out];rfl
     ·intro y;rw[Tt];exact abk (abm cV) am.hcm _ _
   case rest=>
   obtain⟨bv,g,l,eS,g1,hw,hu⟩:=hcut;obtain⟨al,a_⟩:=aC wc;rw[a_]at eS⊢;obtain⟨ar,em,h4,h0⟩:=bU eS g1 hw hu;clear a_ wc eS g1 hw hu ad I dC cV bp;obtain⟨q,bR⟩:=aC (aV.jO {T with av:=bv} e.bI);have hY:=O (fun j (bk:X al j)=>(show(Instr.lookup 142 (.map (some T.gm)) (eX e.bI) false).run prog j= .ok (.slice q.a q.n q.c) j by
    have:=(ar.st.ext bk).EL (id:=e.bI) ax.ha false;rw[bR]at this;exact this))
   have a8:=O (fun j (bk:X al j)=>(show(Instr.lookup 144 (.map (some T.ga)) (eX r.commit) false).run prog j= .ok (.map (some g)) j by
    have:=G9 G_ underlying144 (Tz j) (ar.st.ext bk).app ar.st.ea (show wE r.commit from am.hcm) false;rw[em.out]at this;exact this))
   have cG:=O bR;clear bR;go_upto_region 35 with fail;obtain⟨C,u,aJ,bP⟩:=iw (show bT al al [] [] al from bT.jA (X.refl _) (dV.none _));have b4:∀j,C j->j.cell? ⟨p,53,none⟩=some (.map (some T.ga)):=fun j R=>((ar.st.ext ((u j).1 R).base).blk).cell' (aV.oQ ar.st.hl ar.st.hf);have bL:∀j,C j->j.cell? ⟨p,51,none⟩=some (.map (some T.gm)):=fun j R=>((ar.st.ext ((u j).1 R).base).blk).cell' (aV.mD ar.st.hl ar.st.hf);have d1:∀j,C j->j.cell? ⟨G3,1,none⟩=some (.int .i64 e.time):=fun j R=>(ar.be.ext ((u j).1 R).base).cell' (aG.rH e);refine jQ (W:=[19]) fun Z=> ?_;refine bK 0 ?_;refine bK 1 ?_;refine bK 2 ?_;refine eY 3 (b4) ?_;refine bK 4 ?_;refine k_ 5 F (bf F (fun j h=>bQ F F (dF (ar.bb.ext ((u j).1 h).base) cC) bY br)) ?_;refine k_ 6 F (bf F (fun j h=>vH F F F (a8 j ((u j).1 h).base))) ?_;refine bK 7 ?_;refine k_ 8 F (bf F (fun j h=>bQ F F (dF (ar.be.ext ((u j).1 h).base) eh) dh c2)) ?_;refine bK 9 ?_;refine bK 10 ?_;refine bK 11 ?_;refine eY 12 (bL) ?_;refine bK 13 ?_;refine k_ 14 F (bf F (fun j h=>bQ F F (dF (ar.be.ext ((u j).1 h).base) eh) dh c2)) ?_;refine k_ 15 F (bf F (fun j h=>vH F F F (hY j ((u j).1 h).base))) ?_;refine bK 16 ?_;refine eY 17 (d1) ?_;refine FW 18 F (bf F (fun j _=>abq F F F j)) ?_;generalize World.drew al=ap at Z⊢;obtain⟨I,bA⟩:=aB (ar.ext ((u ap).1 Z).base) (BO em);obtain⟨aD,ao,an,aw⟩:=zY vg underlying162 (I.st.inn _ bA).1 (I.st.inn _ bA).2.1 (show og e.bI from ax.ha) (v:=(⟨q,e.time⟩:dX));rw[show dX.v ⟨q,e.time⟩= .agg #[.slice q.a q.n q.c,.int .i64 e.time]from F]at ao;unfold eX at ao
   have aq:=O an.fF;have aR:=O aw;clear an aw Z;refine iU 19 ?_;intro af aa;go_wp2_with fail;refine aa _ _ trivial ?_;clear aa af ao;refine aH ?_;refine jR ?_;go_wp2_with fail;go_meet;obtain⟨i,cq,ir⟩:=abn I.st.ea em;refine⟨{T with av:=bv.set i (r.commit,(g,dU l e.bI ⟨q,e.time⟩))},I.turn aq (.inr (.inr (.inr (.inr ⟨_,bA,F⟩)))) (I.st.LH cq aq aR ((I.st.inn _ bA).2.1.set _ ax.ha) (fun y aE=> ?_)) ?_ (fun _ _ h=>⟨h.ms,LY h.av (fun y aE=> ?_),h.po⟩),?_⟩
   ·rcases(uo (I.st.inn _ bA).2.1.nodup).1 aE with rfl|⟨aE,_⟩
    ·exact⟨by rw[<-cG.out];exact I.st.SK e.bI,cF.2.2.1,cF.2.2.2.1⟩
    ·exact(I.st.inn _ bA).2.2 y aE
   ·refine fun k hk=>(TA (T:={T with av:=bv}) (n:=ap.heap.size) (fun x hx=> ?_) k hk);rcases mem_or_eq_of_mem_set hx with hx|rfl
    ·exact .inl ⟨x,hx,F⟩
    ·exact .inl ⟨_,bA,F⟩
   ·rcases(uo (I.st.inn _ bA).2.1.nodup).1 aE with rfl|⟨aE,_⟩
    ·rw[<-cG.out];exact h.jO e.bI
    ·exact h.av _ bA y aE
   ·unfold dw.act;rw[if_neg (by have:=be.out;omega),if_neg (by have:=be.out;omega),if_neg (by have:=be.out;omega),if_neg (by have:=be.out;omega),if_neg (by have:=be.out;omega),if_neg (by have:=be.out;omega),if_neg (by have:=be.out;omega),if_pos be.out];have it:q.l=(bW T.p.ms e.bI).getD []:=by
     rw[<-cG.out];show(aV.jO {T with av:=bv} e.bI).l=(bW (T.ms.map fun x=>(x.1,x.2.l)) e.bI).getD [];rw[EK];unfold aV.jO;cases bW T.ms e.bI<;>rfl
    show({T.p with av:=rV (bv.set i (r.commit,(g,dU l e.bI ⟨q,e.time⟩)))}:dw)={T.p with av:=dU T.p.av r.commit (dU ((bW T.p.av r.commit).getD []) e.bI ((bW T.p.ms e.bI).getD [],e.time))};rw[ir,h0.out,h4.out,it]
  have fc:(e.act==8)=false:=by simp;exact a3
  have fd:decide (e.act=8)=false:=aP a3;go_wp2_with fail;go_meet;refine⟨T,ad,?_⟩;unfold dw.act;rw[if_neg ce,if_neg cf,if_neg cg,if_neg ch,if_neg ci,if_neg cj,if_neg ck,if_neg a3]
 case rest=>
 clear a0 ad b' bq b1 bp;obtain⟨a6,eW,gP⟩:=hcut;obtain⟨d',a_⟩:=aC wc;rw[a_]at eW⊢;obtain⟨bX,f5⟩:=aB eW gP;clear a_ wc eW gP;have bp:=bX.be.cell' (aG.at2 e);have dy:=O (And.intro bX.st.hl bX.st.hf);go_upto_if 191 with fail;go_cut [] (fun wx=>∃aM,lu w p S e r (lV e) G3 G6 G8 aM wx/\aM.p={a6.p with av:=if e.act≠8 then iQ a6.p.av (lV e)else a6.p.av})
 case first=>
  as_aux_lemma=>
  by_cases a3:e.act=8
  ·have fc:(e.act != 8)=false:=by simp;exact a3
   have fd:decide (e.act=8)=true:=aQ a3;have be:=O a3;clear a3;go_wp2_with fail;go_meet;exact⟨a6,bX,by rw[if_neg (fun h=>h be)]⟩
  ·have fc:(e.act != 8)=true:=by simp;exact a3
   have fd:decide (e.act=8)=false:=aP a3;have be:=O a3;clear a3;go_upto_region 37 with fail;obtain⟨C,u,aJ,bP⟩:=iw (show bT d' d' [] [] d' from bT.jA (X.refl _) (dV.none _));have b4:∀j,C j->j.cell? ⟨p,53,none⟩=some (.map (some a6.ga)):=fun j R=>((bX.st.ext ((u j).1 R).base).blk).cell' (aV.oQ dy.1 dy.2);refine jQ (W:=[5]) fun Z=> ?_;refine bK 0 ?_;refine bK 1 ?_;refine bK 2 ?_;refine eY 3 (b4) ?_;refine k_ 4 F (oC F 31 _ F F (fun j h=>bX.ba.ext ((u j).1 h).base) bY f3) ?_;generalize World.drew d'=ap at Z⊢;have b8:=O (bX.ext ((u ap).1 Z).base);obtain⟨aD,ao,an,aw⟩:=KD G_ underlying144 (ty:=0) b8.st.app b8.st.ea (show wE (lV e)from j_ _ _);unfold eX at ao;have aq:=O an.fF;have aR:=O aw;clear an aw Z;refine iU 5 ?_;intro af aa;go_wp2_with fail;refine aa _ _ trivial ?_;clear aa af ao;refine aH ?_;refine jR ?_;go_wp2_with fail;go_meet;have bi:=BP a6.av (lV e);refine⟨{a6 with av:=iQ a6.av (lV e)},b8.turn aq (.inr (.inr (.inr (.inl F)))) (b8.st.SQ aq aR (b8.st.ea.del _) (fun x hx=>b8.st.inn x (bi.mem hx)) ?_) ?_ (fun _ _ h=>⟨h.ms,fun x hx=>h.av x (bi.mem hx),h.po⟩),?_⟩
   ·exact b8.st.nd.sublist (((bi.map _).cons_cons _ |>.cons_cons _).cons_cons _)
   ·rintro k (h|h|h|h|⟨x,hx,h⟩)
    ·exact .inl (.inl h)
    ·exact .inl (.inr (.inl h))
    ·exact .inl (.inr (.inr (.inl h)))
    ·exact .inl (.inr (.inr (.inr (.inl h))))
    ·exact .inl (.inr (.inr (.inr (.inr ⟨x,bi.mem hx,h⟩))))
   ·rw[if_pos be.out];exact congrArg (fun m=>({a6.p with av:=m}:dw)) (Lp (fun y:Nat×List (aj×dX)=>kM y.2) a6.av (lV e)).symm
 case rest=>
 obtain⟨aM,eZ,gR⟩:=hcut;obtain⟨hB,a_⟩:=aC wc;rw[a_]at eZ⊢;obtain⟨b0,f6⟩:=aB eZ gR;clear a_ wc eZ gR bX bp;have fo:=b0.st.blk.cell' (aV.oQ b0.st.hl b0.st.hf);have cW:=O b0.st.ea.nodup;go_wp2_with (at_range;refine zZ F 144 31 162 underlying144 _ F F b0.st.app ?_);intro i7 hr b6 dq;obtain⟨a8,cy,c0⟩:=aW hr (b0.ext b6) (show w.heap.size<=hB.heap.size from b0.mu.size);clear hr b6 dq fo b0;obtain⟨ct,dm⟩:=aC hB.heap.size;rw[dm]at a8 c0⊢;clear dm;have h2:=O (show 0<=e.time/\e.time<=1099511627776 from⟨cF.2.2.1,cF.2.2.2.1⟩);go_upto_block 3 with fail;go_cut [] (fun wx=>∃az,lu w p S e r (lV e) G3 G6 G8 az wx/\az.p={aM.p with av:=aM.p.av.map fun y=>(y.1,Aq e.time y.2)})
 case first=>
  as_aux_lemma=>
  go_wp2_with fail;go_loopw [16] (fun _ wr=>∃lf,gJ eX oH wr aM.ga ct (mV (wS e.time) lf aM.av) lf/\lf.Nodup/\lu w p S e r (lV e) G3 G6 G8 {aM with av:=mV (wS e.time) lf aM.av} wr) (fun _ wr=>wr.rangeLeft aM.ga ct)
  case atStart=>
   refine⟨aM.av.map Prod.fst,?_,cW,?_⟩
   ·rw[Iw];exact a8
   ·rw[Iw];exact cy
  case round=>
   obtain⟨lf,cr,dj,da⟩:=hrel;obtain⟨bB,c6,bx⟩:=aW cr dj da;have e8:=cr.qL;clear cr dj da a8 cy;go_wp2_with (at_next;refine z_ F (fun x y h=>xJ h) _ F F bB ?_ ?_)
   ·intro e5;subst e5;go_wp2_with fail;go_meet;refine⟨_,bx,?_⟩;exact congrArg (fun m=>({aM.p with av:=m}:dw)) (abj e.time aM.av)
   ·intro x g l cw lf2 bh bm di dl ba cJ;have c5:=O (Au c6 bm);obtain⟨eB,bc,c7⟩:=aW (Tm (f:=wS e.time) cW bm c5.1 bh) (bx.beside ba.fF (CW bB) c0 (bx.st.Tq bB)) dl;obtain⟨a2,er,en,bz⟩:=bU (bc.st.inn _ bh) di (bc.st.CP) bh;rw[show oH (g,l)= .map (some g)from F]at cJ⊢;clear bh bm dl ba bx bB di;go_wp2_with (at_range;refine zZ F 162 29 164 underlying162 _ F F a2.1 ?_);intro ea hr b6 dq;obtain⟨ez,ga,js⟩:=aW hr (show mP g cw ea from gB.wC b6) (show g<cw.heap.size from a2.1.lt);clear hr b6 dq cJ;obtain⟨fh,cM⟩:=aC cw.heap.size;have hX:=O (show cw.heap.size<=fh by omega);rw[cM]at ez⊢;clear cM;have el:=O a2.2.1.nodup;go_wp2_with fail;go_loopw [17,18] (fun _ _ wr=>∃d6,gJ eX dX.v wr g fh (xY (IE e.time) d6 l) d6/\d6.Nodup/\mP g cw wr) (fun _ _ wr=>wr.rangeLeft g fh)
    case atStart=>
     refine⟨l.map Prod.fst,?_,el,ga⟩;rw[aa2];exact ez
    case round=>
     obtain⟨d6,cM,hi,dd⟩:=hrel;obtain⟨eJ,gh,bE⟩:=aW cM hi dd;have hg:=cM.qL;clear cM hi dd ez ga;go_wp2_with (at_next;refine z_ F (fun x y h=>xJ h) _ F F eJ ?_ ?_)
     ·intro im;subst im;obtain⟨i,cq,dp⟩:=eB.out;have e7:=eJ.map;rw[aa3]at e7;have bO:=bc.st.LH cq bE e7 (a2.2.1.sub filter_sublist) (fun y aE=>a2.2.2 y (mem_filter.1 aE).1);have db:=bc.turn bE (.inr (.inr (.inr (.inr ⟨_,bz,F⟩)))) bO (by
       rintro k (h|h|h|h|⟨y,aE,h⟩)
       ·exact .inl (.inl h)
       ·exact .inl (.inr (.inl h))
       ·exact .inl (.inr (.inr (.inl h)))
       ·exact .inl (.inr (.inr (.inr (.inl h))))
       ·rcases mem_or_eq_of_mem_set aE with aE|rfl
        ·exact .inl (.inr (.inr (.inr (.inr ⟨y,aE,h⟩))))
        ·exact .inl (.inr (.inr (.inr (.inr ⟨_,bz,h⟩)))))
       (fun _ _ h=>⟨h.ms,LY h.av (fun y aE=>h.av _ bz y (mem_filter.1 aE).1),h.po⟩)
      have dk:gJ eX oH wr aM.ga ct (mV (wS e.time) lf2 aM.av) lf2:=(c7.mut bE (fun h=>(en.2.2.2.1 _ bz).2.2 h.symm) (CV c7 a2.1)).same ((Iy lf2 aM.av).trans (Iy lf aM.av).symm);obtain⟨cc,ek⟩:=aB dk (show lu w p S e r (lV e) G3 G6 G8 {aM with av:=mV (wS e.time) lf2 aM.av} wr by rw[dp];exact db);clear cq dp e7 bO db dk;go_wp2_with fail;go_roundw
      case rel=>exact⟨lf2,cc,c5.2,ek⟩
      case measure=>rw[cc.qL,e8,er.out];omega
     ·intro y z fm hy bh bm hd ho hz cJ;obtain⟨dE,gp,gm,f',eD,dz⟩:=iq (Au gh bm) ho bm hd (show mP g cw fm from bE.trans hz.fF (fun k hk jt=>by have:=hX.out;omega)) (show(y,z)∈l from(mem_filter.1 bh).1);have f8:=O (show y.length=16 from a2.2.1.good _ dz);have f9:=O (show(y.map Y).length=16 by rw[length_map];exact f8);have h6:=O (a2.2.2 _ dz).2;have cz:=O (bc.be.mut eD ((jr.map a2.1).ne bc.be));clear bh bm hd ho hz eJ gh bE;rw[show z.v= .agg #[z.r.v,.int .i64 z.t]from F]at cJ⊢;go_wp2_with (first|(refine bg F _ (.tmp 17) _ F F F ((ah.aI (vs:=List.replicate 16 (.int .u8 0)) F F).alloc _) dh aF f9 (b_ y) ?_));intro i' gx fi;have fL:Hid (ah i' (fm.heap.size+1) [.slice none 0 0,.int .i64 0] 164):=O ((ah.aI (gU _ _).symm rfl).upd fi J);obtain⟨fI,fq⟩:=aB (fi.ext (((X.refl fm).alloc _).alloc _) bG) gx;clear gx fi;go_wp2_with (first|(refine bg F _ (.tmp 18) _ F F F fL L_ F (xs:=[z.r.v,.int .i64 z.t]) F (by intro q bR;simp at bR;rcases bR with rfl|rfl<;>rfl) ?_));intro j0 gz fj;obtain⟨dx,hH⟩:=aB (fj.ext fI J) (fq.upd fj J);obtain⟨eI,gc⟩:=aB (gp.ext dx) (eD.same (gB.wC dx));have j2:=(cz.ext dx).cell' (aG.rH e);have aD:=gz.cell' (i:=1) F;have iu:IntKind.i64.wrap (e.time - z.t)=e.time - z.t:=IntWalk.i64_in _ (by have:=h2.out;have:=h6.out;omega);clear gz fj fL fI fq gp eD cz dx;by_cases d5:e.time - z.t<=86400
      ·have ii:decide (e.time - z.t>86400)=false:=aP J;have ij:decide (86400<e.time - z.t)=false:=aP J;have eo:=O (aa4 (keep:=IE e.time) el dz gm (aQ d5));clear d5;go_wp2_with fail;go_roundw
       case rel=>exact⟨hy,by rw[eo.out];exact eI,dE.2,gc⟩
       case measure=>rw[eI.qL,hg,f'.out];omega
      ·have ii:decide (e.time - z.t>86400)=true:=aQ J;have ij:decide (86400<e.time - z.t)=true:=aQ J;have eo:=O (aa5 (keep:=IE e.time) el dz gm dE.1 (aP d5));obtain⟨j1,ao,an,fa⟩:=YP vg underlying162 (ty:=0) eI (a2.2.1.sub filter_sublist) (show og y from f8) dE.1;unfold eX at ao;rw[eo.out]at fa;obtain⟨f1,h7⟩:=aB fa (gc.same an.fF);clear d5 an fa;go_wp2_with (first|(refine bV F 29 (.tmp 17) F F hH dh f9 ?_));go_roundw
       case rel=>exact⟨hy,f1,dE.2,h7⟩
       case measure=>rw[f1.qL,hg,f'.out];omega
 case rest=>
 as_aux_lemma=>
 obtain⟨az,e0,gS⟩:=hcut;obtain⟨cN,a_⟩:=aC wc;rw[a_]at e0⊢;obtain⟨cA,f7⟩:=aB e0 gS;clear a_ wc e0 gS cy a8;have fS:=O (fun j (bk:X cN j)=>GN e j (cA.ok.ext bk) fR);have fN:=O (show az.cnt=S.cnt by
  have R:az.p.cnt=aM.p.cnt:=by rw[f7.out]
  have gH:aM.p.cnt=a6.p.cnt:=by rw[f6.out]
  have eR:a6.p.cnt=(T.p.act e r.p).cnt:=by rw[f5.out]
  have il:T.p.cnt=S.p.cnt:=by rw[f4.out];rfl
  rw[abr]at eR;exact R.trans (gH.trans (eR.trans il)))
 have iu:IntKind.i64.wrap ((az.cnt:Int)+1)=(az.cnt:Int)+1:=by
  rw[IntWalk.i64_in _ (by have:=cA.st.c1;omega)]
 obtain⟨b3,gN⟩:=jE (fun w'=>ah w' G3 e.v 34:World->Prop);obtain⟨d0,gM⟩:=jE (fun w'=>ah w' p az.v 147:World->Prop);have bl:∀w',b3 w'↔ah w' G3 e.v 34:=fun w'=>by rw[gN]
 have d3:∀w',d0 w'↔ah w' p az.v 147:=fun w'=>by rw[gM]
 clear gN gM;go_upto_region 46 with fail;refine abI (T:=b3) (S:=d0) (W:=[14,17,20]) au ?_;have cS:X cN (World.drew cN):=(X.refl _).drew;have qU:b3 (World.drew cN):=(bl _).2 (cA.be.ext cS);have Z:d0 (World.drew cN):=(d3 _).2 (cA.st.blk.ext cS);have gC:∀j,d0 j->j.cell? ⟨p,0,none⟩=some (.int .i64 (az.cnt:Int)):=fun j R=>((d3 j).1 R).cell' (aV.at0 az);have d1:∀j,b3 j->j.cell? ⟨G3,1,none⟩=some (.int .i64 e.time):=fun j R=>((bl j).1 R).cell' (aG.rH e);generalize World.drew cN=ja at*;refine rW 0 ?_;refine rW 1 ?_;refine rW 2 ?_;refine rW 3 ?_;refine rW 4 ?_;refine rW 5 ?_;refine abL 6 (gC) ?_;refine rW 7 ?_;refine rW 8 ?_;refine abJ 9 (d1) ?_;refine abK 10 F (oC F 34 _ F F (fun j h=>(bl j).1 h) cZ et) ?_;clear gC d1;refine II (i:=11) au F ?_;intro af aa;go_wp2_with fail;refine(fS ja cS).mono ?_;rintro c_ dr ⟨rfl,ac⟩;have b9:=O (cA.ext (cS.ext ac));have a9:b3 dr:=(bl _).2 (((bl _).1 qU).ext ac);go_wp2_with fail;refine aa _ _ a9 (fun _ _=>(d3 _).2 (((d3 _).1 Z).ext ac)) ?_;clear aa af qU Z ac cS fS cA;have qU:=a9;clear a9;refine aH ?_;refine rW 12 ?_;refine rW 13 ?_;obtain⟨ex,f2,hM⟩:=aW (show G3≠p by have:=b9.g3;have:=b9.pl;omega) (show((ig e).map Y).length=32 by rw[length_map,nZ]) (And.intro b9.st.hl b9.st.hf);have ds:=O b9.st.blk;have gd:=O (show mP p dr dr from gB.refl _ _);refine II (i:=14) au F ?_;intro af aa;have eM:=ds.cell' (i:=0) F;have eO:=ds.frozen 0;go_wp2_with fail;clear eM eO;have ae:=ds.set 0 (.int .i64 ((az.cnt:Int)+1));have ai:aU dr p _:=aU.setCell (i:=0) (.int .i64 ((az.cnt:Int)+1))
 rw[show az.v.set 0 (.int .i64 ((az.cnt:Int)+1))={az with cnt:=az.cnt+1}.v from F]at ae;generalize World.setCell dr _ _=fn at ae ai⊢;have a9:b3 fn:=(bl _).2 (((bl _).1 qU).upd ai ex);refine aa _ _ a9 (fun h=>by cases h) ?_;obtain⟨dt,ge⟩:=aB ae (gd.same ai.fF);clear aa af qU ae ai ds gd;have qU:=a9;clear a9;refine aH ?_;refine rW 15 ?_;refine rW 16 ?_;refine II (i:=17) au F ?_;intro af aa;have eM:=dt.cell' (i:=1) F;have eO:=dt.frozen 1;go_wp2_with fail;clear eM eO;have ae:=dt.set 1 (.int .i64 e.time);have ai:aU fn p _:=aU.setCell (i:=1) (.int .i64 e.time);rw[aV.set1 {az with cnt:=az.cnt+1} e.time]at ae;generalize World.setCell fn _ _=hC at ae ai⊢;have a9:b3 hC:=(bl _).2 (((bl _).1 qU).upd ai ex);refine aa _ _ a9 (fun h=>by cases h) ?_;obtain⟨fr,gf⟩:=aB ae (ge.same ai.fF);clear aa af qU ae ai dt ge;have qU:=a9;clear a9;refine aH ?_;refine rW 18 ?_;refine rW 19 ?_;obtain⟨eK,d4⟩:=jE ({az with cnt:=az.cnt+1,tm:=e.time}:aV);have fz:Hid (ah hC p eK.v 147):=O (by rw[d4];exact fr);obtain⟨eC,h3⟩:=aB (show eK.last.length=32/\eK.ji.length=16 by rw[d4];exact hM) d4;clear d4 fr;refine II (i:=20) au F ?_;intro af aa;go_wp2_with (first|(refine kR F _ _ _ F F F fz (by rw[f2.out];exact bY) (by rw[f2.out,aV.len eC.1 eC.2];decide) (b_ (ig e)) ?_));intro jb ae ai;rw[aV.aa6 eC.1 (nZ e),h3.out]at ae;have a9:b3 jb:=(bl _).2 (((bl _).1 qU).upd ai ex);refine aa _ _ a9 (fun h=>by cases h) ?_;obtain⟨hI,gg⟩:=aB ae (gf.same ai.fF);clear aa af qU a9 ae ai fz gf;refine aH ?_;refine abH au ?_ _;go_wp2_with fail
 (try go_ret)
 rw[hW.out];have a1:=b9.st;have cK:=cF.out;have d2:=b9.turn (T':={az with cnt:=az.cnt+1,tm:=e.time,last:=ig e}) gg (.inl F) (a1.LJ gg hI (nZ e) a1.hf (by have R:=h5.1;have gH:=cK.2.1;have eR:=fN.out;show az.cnt+1<=65536;simp only[aV.p]at R;omega) cK.2.2.1 cK.2.2.2.1 F F F F F F a1.po) (fun k hk=> .inl hk) (fun _ _ h=>⟨h.ms,h.av,h.po⟩);refine⟨F,_,d2.st,?_,d2.mu,d2.new,d2.LZ⟩;show({az.p with cnt:=az.cnt+1,tm:=e.time,last:=ig e}:dw)=S.p.next e;rw[fN.out,f7.out,f6.out,f5.out,f4.out,eA.out,dw.adV];rfl
end Go.Proofs.YtjlhhnkhcbpnjaaGreatDoor
