/- Laws that the row leans on; no condition. -/
import Derived.Test.YtjlhhnkhcbpnjaaGreatDoorJM18
namespace Go.Proofs.YtjlhhnkhcbpnjaaGreatDoor
open Go Go.RowKit List Tryz
set_option linter.unusedVariables false
set_option linter.unusedSimpArgs false
set_option maxHeartbeats 40000000
set_option maxRecDepth 100000
def dw.found(S:dw)(e:aG):dw:={S with ji:=if S.cnt=0 then e.bI else S.ji}
theorem dw.adV(S:dw)(e:aG):S.next e={(S.found e).act e (mO e)with av:=(if e.act≠8 then iQ ((S.found e).act e (mO e)).av (lV e)else((S.found e).act e (mO e)).av).map fun y=>(y.1,Aq e.time y.2),cnt:=S.cnt+1,tm:=e.time,last:=ig e}:=F
theorem Nj{S:dw}{e:aG}(h:S.ref e=0):dN e=0/\e.num=(S.cnt:Int)/\e.prev=S.last/\S.tm<=e.time:=by grind [dw.ref]
theorem adW(m:aj)(A:List (aj×(Nat×List (aj×dX)))):(mV (fun l=>iQ l m) [] A).map (fun x=>(x.1,kM x.2.2))=(A.map fun x=>(x.1,kM x.2.2)).map fun y=>(y.1,iQ y.2 m):=by
 unfold mV;rw[map_map,map_map];refine map_congr_left fun x j=> ?_;show((if x.1∈[]then x else(x.1,(x.2.1,iQ x.2.2 m))).1,kM (if x.1∈[]then x else(x.1,(x.2.1,iQ x.2.2 m))).2.2)=(x.1,iQ (kM x.2.2) m);rw[if_neg aF];exact congrArg (fun q=>(x.1,q)) (Lp (fun v:dX=>(v.r.l,v.t)) x.2.2 m).symm
theorem adX(p:Nat)(S:aV)(e:aG)(w0 w:World)(h:dJ w p S)(du:e.Ok w)(hR:CU p e)(fj:mJ w0)(cA:X w0 w)(dr:∀g,S.M p g->w0.heap.size<=g):
 Calls prog 45 #[.pointer (some ⟨p,0,none⟩),.agg e.v.toArray] w fun x w'=>x= .returned (.int .i64 (S.p.ref e))/\∃T,dJ w' p T/\T.p=S.p.apply e/\gB (S.M p) w w'/\(∀g,T.M p g->S.M p g∨w.heap.size<=g)/\∀g,g<w.heap.size->S.Off g->T.Off g:=by
 obtain⟨aw,il,ib,nA,h',ij⟩:=iq du hR fj h cA dr;have io:=O h.blk.lt;obtain⟨eL,hT,kw⟩:=aW (aG.len du) (fun j (I:X w j)=>aa0 p S e j (h.ext I) (du.ext I) (fj.ext (cA.ext I))) (aG.zV du);obtain⟨i5,fd⟩:=jE (fun x w'=>x= .returned (.int .i64 (S.p.ref e))/\∃T,dJ w' p T/\T.p=S.p.apply e/\gB (S.M p) w w'/\(∀g,T.M p g->S.M p g∨w.heap.size<=g)/\∀g,g<w.heap.size->S.Off g->T.Off g:Ending->World->Prop);rw[<-fd];have eR:=O fd;clear h du hR fj cA dr fd;go_enter func45,ntmps45;go_upto_region 1 with fail;generalize iX:World.alloc w _=fS;have hm:ah fS w.heap.size e.v 34:=by rw[<-iX];exact ah.aI F F
 have hq:X w fS:=by rw[<-iX];exact(X.refl w).alloc _
 obtain⟨d3,eo⟩:=aB hm hq;clear iX hm hq;obtain⟨G3,hw⟩:=aC w.heap.size;have hI:w.heap.size<=G3:=J;rw[hw]at d3⊢;clear hw;go_wp2_with (refine bV F 34 _ F F d3 cZ eL ?_);refine(hT fS eo).mono ?_;rintro dl kk ⟨rfl,ab⟩;obtain⟨d4,cQ⟩:=aB (d3.ext ab) (eo.ext ab);clear ab d3 eo hT;by_cases cX:S.p.ref e≠0
 ·have kB:(S.p.ref e != 0)=true:=by simp;exact cX
  have n2:decide (S.p.ref e=0)=false:=aP cX;have ik:=O cX;generalize hW:S.p.ref e=E at*;have iv:=O hW;clear cX hW;go_wp2_with fail
  (try go_ret)
  rw[eR.out];exact⟨by rfl,S,nA.ext cQ,by unfold dw.apply;rw[iv.out,if_neg ik.out],gB.wC cQ,fun g bx=> .inl bx,fun _ _ h=>h⟩
 have dq:S.p.ref e=0:=Classical.not_not.1 cX;obtain⟨a7,z2,h6,h7⟩:=Nj dq;have HZ:=O (And.intro z2 (And.intro h6 h7));have ir:=O (show i5=fun x w'=>x= .returned (.int .i64 0)/\∃T,dJ w' p T/\T.p=S.p.next e/\gB (S.M p) w w'/\(∀g,T.M p g->S.M p g∨w.heap.size<=g)/\∀g,g<w.heap.size->S.Off g->T.Off g by
  rw[eR.out,dq];unfold dw.apply;rw[if_pos dq])
 have c0:=qy aw a7;obtain⟨cU,ge⟩:=aB c0 a7;have g8:=O (show(kE kF e.act e.body).2=0 by
  have cA:=a7;unfold dN at cA;rw[if_neg (by unfold dR;simp;omega)]at cA;exact cA)
 rw[dq];clear cX dq a7 z2 h6 h7 c0 eR;have fo:=O (fun j (I:X w j)=>GH e.act e.body e.ba e.bn e.bc j aw.hb aw.hbc aw.bE (aw.hcl.ext I));rw[g8.out]at fo;have bt:=d4.cell' (aG.at2 e);have ky:=d4.cell' kw;go_wp2_with fail;refine(fo kk cQ).mono ?_;rintro dl v2 ⟨r,rfl,fi,fr,hL,hV,ab⟩;obtain⟨al,eV,ii,he,f6,ep⟩:=iq fi (show r.p=mO e from hV) (ay.len (fi.ok fr hL)) (fr.mono (B':=w.heap.size) cQ.size) (d4.ext ab) (cQ.ext ab);clear fi fr hL hV fo ab d4 cQ bt ky;go_wp2_with (refine bg F _ _ _ F F F (ah.aI (vs:=dI.v) F F) eP fM (xs:=r.v) ii (lD r) ?_);intro v3 ad ag;have ab:X v2 v3:=ag.ext ((X.refl _).alloc _) l5;obtain⟨f3,cN,er,hg⟩:=bU ad (f6.ext ab) (ep.ext ab) (he.ext' ab);have hJ:w.heap.size<=v2.heap.size:=ep.size;clear ad ag ab f6 ep he;generalize v2.heap.size=G6 at*;have hN:(mO e).label.size<=140737488355328:=by rw[<-eV.out];exact al.ls
 have hE:=O (fun j (I:X w j)=>SS p S e j (nA.ext I) (aw.ext I) ge);have fh:=O (fun j (I:X w j)=>SH (S.oq e (S.lab e)) j (aV.EP (nA.ext I) (aw.ext I) (aV.IC nA hN)) (by
  obtain⟨_,_,_,_,kO,k0,_⟩:=cU.out;exact⟨e.act.toNat,by show e.act=_;omega,J⟩))
 rw[abb]at fh;obtain⟨gr,iz⟩:=aB (show((lV e).map Y).length=32 by rw[length_map];exact j_ _ _) (b_ (lV e));clear hN;go_wp2_with (refine bV F 34 _ F F cN cZ eL ?_);refine(hE v3 er).mono ?_;rintro dl kn ⟨rfl,ab⟩;obtain⟨f4,f7,et,hh⟩:=bU (f3.ext ab) (cN.ext ab) (er.ext ab) (hg.ext' ab);clear ab f3 cN er hg hE;go_wp2_with fail;refine(fh kn et).mono ?_;rintro dl en ⟨rfl,ab⟩;obtain⟨f5,f8,c8,hi⟩:=bU (f4.ext ab) (f7.ext ab) (et.ext ab) (hh.ext' ab);clear ab f4 f7 et hh fh;go_wp2_with (refine bg F _ _ _ F F F (ah.aI (vs:=List.replicate 32 (.int .u8 0)) F F) bY aF gr iz ?_);intro h5 ad ag;have ab:X en h5:=ag.ext ((X.refl _).alloc _) l5;have hK:w.heap.size<=en.heap.size:=c8.size;have bl:Hid (lu w p S e r (lV e) G3 G6 en.heap.size S h5):=O ⟨nA.ext (c8.ext ab),gB.wC (c8.ext ab),fun g bx=> .inl bx,f8.ext ab,f5.ext ab,ad,hi.ext' ab,aw.ext (c8.ext ab),il,hI,hJ,hK,io,fun _ _ h=>h⟩;clear ad ag ab f5 f8 c8 hi hI hJ hK;generalize en.heap.size=G8 at*;have ie:=O (fun wx (h:gB (S.M p) w wx)=>ib.ext (h.Ep h' (fun x hx ju=>by have:=ij.out x ju;omega)));have kx:=bl.st.blk.cell' (aV.aL S);obtain⟨de,cT,ew,cS⟩:=bU (show(e.bI.map Y).length=16 by rw[length_map,aw.ha]) (show(e.key.map Y).length=16 by rw[length_map,aw.hk]) (aG.Eh aw) (aG.F4 aw);go_upto_if 41 with fail;go_cut [] (fun wx=>∃T,lu w p S e r (lV e) G3 G6 G8 T wx/\T.p=S.p.found e)
 case first=>
  by_cases hc:S.cnt=0
  ·have i9:((S.cnt:Int)==0)=true:=by simp;exact hc
   have i':decide ((S.cnt:Int)=0)=true:=by simp;exact hc
   have ja:(S.cnt==0)=true:=by simp;exact hc
   have jb:decide (S.cnt=0)=true:=by simp;exact hc
   have ey:=O hc;clear hc;go_wp2_with (first|(refine bF F (bQ F F (dF bl.be ew) dh de) ?_)|(refine kR F _ _ _ F F F bl.st.blk (by rw[de.out];exact dh) (by rw[de.out,aV.len bl.st.hl bl.st.hf];decide) (b_ e.bI) ?_));intro a_ e7 fR;rw[aV.aa7 bl.st.hl bl.st.hf aw.ha]at e7;have a4:=bl.st;have a3:Hid (lu w p S e r (lV e) G3 G6 G8 {S with ji:=e.bI} a_):=O (bl.turn fR.fF (.inl F) (a4.LJ fR.fF e7 a4.hl aw.ha a4.c1 a4.t0 a4.t1 F F F F F F a4.po) (fun k hk=> .inl hk) (fun _ _ h=>⟨h.ms,h.av,h.po⟩));clear e7 fR a4;go_wp2_with fail;go_meet;exact⟨_,a3,by unfold dw.found;rw[if_pos (show S.p.cnt=0 from ey)]<;>rfl⟩
  ·have i9:((S.cnt:Int)==0)=false:=by simp;exact hc
   have i':decide ((S.cnt:Int)=0)=false:=by simp;exact hc
   have ja:(S.cnt==0)=false:=by simp;exact hc
   have jb:decide (S.cnt=0)=false:=by simp;exact hc
   have ey:=O hc;clear hc;go_wp2_with fail;go_meet;exact⟨_,bl,by unfold dw.found;rw[if_neg (show¬S.p.cnt=0 from ey)]<;>rfl⟩
 case rest=>
 obtain⟨T,b8,hA⟩:=hcut;obtain⟨a_,bd⟩:=aC wc;rw[bd]at b8⊢;obtain⟨a3,gt⟩:=aB b8 hA;clear bd wc b8 hA bl kx;have a8:=O (abe al eV g8);obtain⟨k,hk⟩:=aC (T.uI e.key);obtain⟨eJ,aa⟩:=aB (show(bW T.p.ks e.key).getD bC.zero=k from hk) (show k.Ok by rw[<-hk];exact a3.st.Il e.key);have eM:=O (bC.len aa);have gn:=O (fun j (bm:X a_ j)=>(show(Instr.lookup 143 (.map (some T.gk)) (eX e.key) false).run prog j= .ok (.agg k.v.toArray) j by
  have:=(a3.st.ext bm).Lr (id:=e.key) aw.hk false;rw[hk]at this;exact this))
 have a0:=O (And.intro a3.st.hl a3.st.hf);clear hk;go_upto_region 8 with fail;obtain⟨C,iB,aJ,bP⟩:=iw (show bT a_ a_ [] [] a_ from bT.jA (X.refl _) (dV.none _));have bw:∀j,C j->j.cell? ⟨p,52,none⟩=some (.map (some T.gk)):=fun j I=>((a3.st.ext ((iB j).1 I).base).blk).cell' (aV.nV a0.1 a0.2);refine fJ fun Z=> ?_;refine aA 0 ?_;refine aA 1 ?_;refine aA 2 ?_;refine dA 3 (bw) ?_;refine aA 4 ?_;refine bD 5 F (bf F (fun j h=>bQ F F (dF (a3.be.ext ((iB j).1 h).base) cS) dh cT)) ?_;refine bD 6 F (bf F (fun j h=>vH F F F (gn j ((iB j).1 h).base))) ?_;generalize World.drew a_=ao at Z⊢;refine aZ 7 ?_;intro ae R;go_wp2_with fail;refine R _ _ (aJ _ _ Z ((X.refl ao).alloc _)) ?_;clear R ae;generalize cG:World.alloc ao _=az;have ad:ah az ao.heap.size (bC.zero.v) 159:=by rw[<-cG];exact ah.aI F F
 have dt:C az:=by rw[<-cG];exact aJ _ _ Z ((X.refl ao).alloc _)
 have fc:=((iB ao).1 Z).kept.1;have f9:=O ad;clear Z cG ad;have Z:=dt;clear dt;generalize ao.heap.size=bi at*;refine aH ?_;refine aZ 8 ?_;intro ae R;go_wp2_with (refine bg F _ _ _ F F F f9 pX (bC.len bC.vk) eM (yT _) ?_);intro af ad ag;replace Z:C af:=(iB af).2 (((iB az).1 Z).upd ag fc (by first|exact Nat.le_refl _|omega));go_wp2_with fail;refine R _ _ Z ?_;have cc:=O ad;clear R ae ad ag f9;refine aH ?_;refine dH ?_;have cl:=O ((iB af).1 Z).base;obtain⟨ac,bu⟩:=aB (a3.ext cl) fc;clear Z aJ iB bw bP fc gn;have bt:=ac.be.cell' (aG.at2 e);obtain⟨eN,ex,bv,cR,gh⟩:=dM (show(r.member.map Y).length=16 by rw[length_map,al.hm]) (ay.Ls al.hm) (show(r.commit.map Y).length=32 by rw[length_map,al.hcm]) (ay.CJ al.hm al.hcm) (b_ r.commit);go_upto_block 0 with fail;go_cut [] (fun wx=>∃a9,lu w p S e r (lV e) G3 G6 G8 a9 wx/\a9.p=T.p.act e r.p)
 case first=>
  by_cases cq:e.act=1
  ·as_aux_lemma=>
   have j2:(e.act==1)=true:=by simp;exact cq
   have j7:decide (e.act=1)=true:=aQ cq;have i4:=O cq;clear cq;have ao:=ac.bb.cell' (ay.aL r);have fp:=O (fun j (I:mJ j)=>S9 r.text.data.toList j I (by rw[Array.length_toList];exact Nat.le_trans al.ts J));rw[LW]at fp;go_wp2_with fail;refine(fp _ (ie _ ac.mu)).mono ?_;rintro dl ai ⟨ei,ek,ej,fx,rfl,b9,hS,ab,hP⟩;obtain⟨cV,ip,gg,u⟩:=bU b9 hS hP (ac.ext ab);clear b9 hS fp ab hP ao bt;go_wp2_with (refine bg F _ _ _ F F F (ah.aI (vs:=[.slice none 0 0]) F F) Cj F (xs:=[.slice ei ek ej]) F (fun v hY=>by simp at hY;rw[hY];rfl) ?_);intro h2 ad ag;have ab:X ai h2:=ag.ext ((X.refl _).alloc _) l5;have gl:Hid (oG.Hi h2 w.heap.size ⟨ai.heap.size,ei,ek,ej,fx⟩):=O (abf ad u.mu.size (cV.ext ab) (abg gg ac.mu.size));obtain⟨im,c4⟩:=aB (gl.mono (B':=p+1) u.pl) (u.ext ab);clear ad ag ab cV gg u;generalize ai.heap.size=ev at*;have hp:=c4.st.blk.cell' (aV.CG a0.1 a0.2);have hu:=c4.st.blk.frozen 50;go_wp2_with fail;go_meet;have hb:=c4.st.blk.set 50 (.pointer (some ⟨ev,0,none⟩));rw[aV.L6 a0.1 a0.2 ⟨ev,ei,ek,ej,fx⟩]at hb;have a4:=c4.st;refine⟨{T with pol:=some ⟨ev,ei,ek,ej,fx⟩},c4.turn (aU.setCell _).fF (.inl F) (a4.LJ (aU.setCell _).fF hb a4.hl a4.hf a4.c1 a4.t0 a4.t1 F F F F F F (fun P cC=>by injection cC with cC;rw[<-cC];exact im)) (fun k hk=> .inl hk) (fun g bx h=>⟨h.ms,h.av,fun P cC=>by injection cC with cC;rw[<-cC];exact gl.off bx⟩),?_⟩;unfold dw.act;rw[if_pos i4.out];show _=dw.mk _ _ _ _ (some (mM r.text.data.toList)) _ _ _;rw[<-ip.out];rfl
  have j2:(e.act==1)=false:=by simp;exact cq
  have j7:decide (e.act=1)=false:=aP cq;by_cases cr:e.act=2
  ·as_aux_lemma=>
   have j8:(e.act==2)=true:=by simp;exact cr
   have j9:decide (e.act=2)=true:=aQ cr;have g':=O cr;clear cr;go_upto_region 14 with fail;obtain⟨C,iB,aJ,bP⟩:=iw (show bT af af [] [] af from bT.jA (X.refl _) (dV.none _));have b6:∀j,C j->j.cell? ⟨p,51,none⟩=some (.map (some T.gm)):=fun j I=>((ac.st.ext ((iB j).1 I).base).blk).cell' (aV.mD a0.1 a0.2);have i6:∀j,C j->j.cell? ⟨G6,17,none⟩=some (.slice r.ra r.rn r.rc):=fun j I=>(ac.bb.ext ((iB j).1 I).base).cell' (ay.XA al);refine jQ (W:=[8]) fun Z=> ?_;refine bK 0 ?_;refine bK 1 ?_;refine bK 2 ?_;refine eY 3 (b6) ?_;refine bK 4 ?_;refine k_ 5 F (bf F (fun j h=>bQ F F (dF (ac.bb.ext ((iB j).1 h).base) ex) dh eN)) ?_;refine bK 6 ?_;refine eY 7 (i6) ?_;generalize World.drew af=ao at Z⊢;have u:=O (ac.ext ((iB ao).1 Z).base);obtain⟨az,an,am,ar⟩:=zY vg underlying142 u.st.mem u.st.em (show og r.member from al.hm) (v:=(⟨r.ra,r.rn,r.rc,r.roles⟩:iF));unfold eX iF.v at an;have ap:=O am.fF;have a2:=O ar;clear am ar Z;refine iU 8 ?_;intro ae R;go_wp2_with fail;refine R _ _ trivial ?_;clear R ae an;refine aH ?_;refine jR ?_;go_wp2_with fail;go_meet;have co:Hid (iF.Hi az (p+1) ⟨r.ra,r.rn,r.rc,r.roles⟩):=O ⟨al.rl,al.qZ,a8.rn,a8.rs,(u.rh.fF ap (.inr u.st.Ar)).mono u.pl⟩;refine⟨{T with ms:=dU T.ms r.member ⟨r.ra,r.rn,r.rc,r.roles⟩},u.turn ap (.inr (.inl F)) (u.st.SN ap a2 (u.st.em.set _ al.hm) (fun x hx=> ?_)) (fun k hk=> .inl hk) (fun g bx h=>⟨fun x hx=> ?_,h.av,h.po⟩),?_⟩
   ·rcases(uo u.st.em.nodup).1 hx with rfl|⟨hx,_⟩
    ·exact co
    ·exact(u.st.mr x hx).fF ap (.inr u.st.Ar)
   ·rcases(uo u.st.em.nodup).1 hx with rfl|⟨hx,_⟩
    ·exact u.rh.off (z:=1) (by rw[length_map,al.rl,Nat.one_mul]) J bx
    ·exact h.ms x hx
   ·unfold dw.act;rw[if_neg (by have:=g'.out;omega),if_pos g'.out];exact congrArg (fun m=>({T.p with ms:=m}:dw)) (Lm iF.l T.ms r.member ⟨r.ra,r.rn,r.rc,r.roles⟩).symm
  have j8:(e.act==2)=false:=by simp;exact cr
  have j9:decide (e.act=2)=false:=aP cr;by_cases cs:e.act=3
  ·as_aux_lemma=>
   have j':(e.act==3)=true:=by simp;exact cs
   have ka:decide (e.act=3)=true:=aQ cs;have e3:=O cs;clear cs;go_upto_region 16 with fail;obtain⟨C,iB,aJ,bP⟩:=iw (show bT af af [] [] af from bT.jA (X.refl _) (dV.none _));have b6:∀j,C j->j.cell? ⟨p,51,none⟩=some (.map (some T.gm)):=fun j I=>((ac.st.ext ((iB j).1 I).base).blk).cell' (aV.mD a0.1 a0.2);refine jQ (W:=[6]) fun Z=> ?_;refine bK 0 ?_;refine bK 1 ?_;refine bK 2 ?_;refine eY 3 (b6) ?_;refine bK 4 ?_;refine k_ 5 F (bf F (fun j h=>bQ F F (dF (ac.bb.ext ((iB j).1 h).base) ex) dh eN)) ?_;generalize World.drew af=ao at Z⊢;have aq:=O (ac.ext ((iB ao).1 Z).base);obtain⟨az,an,am,ar⟩:=KD vg underlying142 (ty:=0) aq.st.mem aq.st.em (show og r.member from al.hm);unfold eX at an;have ap:=O am.fF;have a2:=O ar;clear am ar Z;refine iU 6 ?_;intro ae R;go_wp2_with fail;refine R _ _ trivial ?_;clear R ae an;refine aH ?_;refine jR ?_;have bk:=BP T.ms r.member;have b':Hid (lu w p S e r (lV e) G3 G6 G8 {T with ms:=iQ T.ms r.member} az):=O (aq.turn ap (.inr (.inl F)) (aq.st.SN ap a2 (aq.st.em.del _) (fun x hx=>(aq.st.mr x (bk.mem hx)).fF ap (.inr aq.st.Ar))) (fun k hk=> .inl hk) (fun _ _ h=>⟨fun x hx=>h.ms x (bk.mem hx),h.av,h.po⟩));clear ap a2 bk aq bt;have fY:=b'.st.blk.cell' (aV.oQ b'.st.hl b'.st.hf);have da:=O b'.st.ea.nodup;go_wp2_with (at_range;refine zZ F 144 31 162 underlying144 _ F F b'.st.app ?_);intro km hr ch mU;obtain⟨ba,cM,dd⟩:=aW hr (b'.ext ch) (show w.heap.size<=az.heap.size from b'.mu.size);clear hr ch mU fY b';obtain⟨cH,dE⟩:=aC az.heap.size;rw[dE]at ba dd⊢;clear dE;go_wp2_with fail
   go_loopw [14] (fun _ wr=>∃lf,gJ eX oH wr T.ga cH (mV (fun l=>iQ l r.member) lf T.av) lf/\lf.Nodup/\lu w p S e r (lV e) G3 G6 G8 {T with ms:=iQ T.ms r.member,av:=mV (fun l=>iQ l r.member) lf T.av} wr) (fun _ wr=>wr.rangeLeft T.ga cH)
   case atStart=>
    refine⟨T.av.map Prod.fst,?_,da,?_⟩
    ·rw[Iw];exact ba
    ·rw[Iw];exact cM
   case round=>
    obtain⟨lf,cF,dv,dm⟩:=hrel;obtain⟨b4,Ct,b1⟩:=aW cF dv dm;have fn:=cF.qL;clear cF dv dm ba cM;go_wp2_with (at_next;refine z_ F (fun x y h=>xJ h) _ F F b4 ?_ ?_)
    ·intro fk;subst fk;go_wp2_with fail;go_meet;refine⟨_,b1,?_⟩;unfold dw.act;rw[if_neg (by have:=e3.out;omega),if_neg (by have:=e3.out;omega),if_pos e3.out];exact congr (congrArg (fun m a=>({T.p with ms:=m,av:=a}:dw)) (Lp iF.l T.ms r.member).symm) (adW r.member T.av)
    ·intro x g l cJ lf2 tT bp sP dC be cY;have di:=O (Au Ct bp);obtain⟨eW,bh,dj⟩:=aW (Tm (f:=fun l=>iQ l r.member) da bp di.1 tT) (b1.beside be.fF (CW b4) dd (b1.st.Tq b4)) dC;obtain⟨a5,eK,eE,b2⟩:=bU (bh.st.inn _ tT) sP (bh.st.CP) tT;rw[show oH (g,l)= .map (some g)from F]at cY⊢;clear tT bp dC be b1 b4 sP;obtain⟨em,an,am,ar⟩:=KD vg underlying162 (ty:=0) a5.1 a5.2.1 (show og r.member from al.hm);unfold eX at an;have b5:=O am.fF;have a2:=O ar;clear am ar;have bk:=BP l r.member;obtain⟨i,cE,dT⟩:=eW.out;have b8:=bh.st.LH cE b5 a2 (a5.2.1.del _) (fun y aE=>a5.2.2 y (bk.mem aE));have dp:=bh.turn b5 (.inr (.inr (.inr (.inr ⟨_,b2,F⟩)))) b8 (by
      rintro k (h|h|h|h|⟨y,aE,h⟩)
      ·exact .inl (.inl h)
      ·exact .inl (.inr (.inl h))
      ·exact .inl (.inr (.inr (.inl h)))
      ·exact .inl (.inr (.inr (.inr (.inl h))))
      ·rcases mem_or_eq_of_mem_set aE with aE|rfl
       ·exact .inl (.inr (.inr (.inr (.inr ⟨y,aE,h⟩))))
       ·exact .inl (.inr (.inr (.inr (.inr ⟨_,b2,h⟩)))))
      (fun _ _ h=>⟨h.ms,LY h.av (fun y aE=>h.av _ b2 y (bk.mem aE)),h.po⟩)
     have dy:gJ eX oH em T.ga cH (mV (fun l=>iQ l r.member) lf2 T.av) lf2:=(dj.mut b5 (fun h=>(eE.2.2.2.1 _ b2).2.2 h.symm) (CV dj a5.1)).same ((Iy lf2 T.av).trans (Iy lf T.av).symm);obtain⟨co,ez⟩:=aB dy (show lu w p S e r (lV e) G3 G6 G8 {T with ms:=iQ T.ms r.member,av:=mV (fun l=>iQ l r.member) lf2 T.av} em by rw[dT];exact dp);clear cE dT b8 dp dy bk;go_wp2_with (first|(refine bF F (bQ F F (dF bh.bb ex) dh eN) ?_));go_roundw
     case rel=>exact⟨lf2,co,di.2,ez⟩
     case measure=>rw[co.qL,fn,eK.out];omega
  have j':(e.act==3)=false:=by simp;exact cs
  have ka:decide (e.act=3)=false:=aP cs;by_cases ct:e.act=4
  ·as_aux_lemma=>
   have kb:(e.act==4)=true:=by simp;exact ct
   have kc:decide (e.act=4)=true:=aQ ct;have ea:=O ct;clear ct;go_upto_region 22 with fail;obtain⟨C,iB,aJ,bP⟩:=iw (show bT af af [] [] af from bT.jA (X.refl _) (dV.none _));have bw:∀j,C j->j.cell? ⟨p,52,none⟩=some (.map (some T.gk)):=fun j I=>((ac.st.ext ((iB j).1 I).base).blk).cell' (aV.nV a0.1 a0.2);have i7:∀j,C j->j.cell? ⟨G6,18,none⟩=some (.string r.label):=fun j I=>(ac.bb.ext ((iB j).1 I).base).cell' (ay.Gt al);refine jQ (W:=[13]) fun Z=> ?_;refine bK 0 ?_;refine bK 1 ?_;refine bK 2 ?_;refine eY 3 (bw) ?_;refine bK 4 ?_;refine k_ 5 F (bf F (fun j h=>bQ F F (dF (ac.be.ext ((iB j).1 h).base) cS) dh cT)) ?_;refine bK 6 ?_;refine k_ 7 F (bf F (fun j h=>bQ F F (dF (ac.be.ext ((iB j).1 h).base) cS) dh cT)) ?_;refine bK 8 ?_;refine eY 9 (i7) ?_;refine bK 10 ?_;refine k_ 11 F (bf F (fun j h=>bQ F F (dF (ac.bb.ext ((iB j).1 h).base) cR) bY bv)) ?_;refine k_ 12 F (bf F (fun j _=>aaz F F F F F aw.hk al.hcm j)) ?_;generalize World.drew af=ao at Z⊢;have u:=O (ac.ext ((iB ao).1 Z).base);obtain⟨az,an,am,ar⟩:=zY vg underlying143 u.st.key u.st.ek (show og e.key from aw.hk) (v:=(⟨e.key,r.label,0,r.commit,false, -1,kN⟩:bC));unfold eX bC.va at an;have ap:=O am.fF;have a2:=O ar;clear am ar Z;refine iU 13 ?_;intro ae R;go_wp2_with fail;refine R _ _ trivial ?_;clear R ae an;refine aH ?_;refine jR ?_;go_wp2_with fail;go_meet;refine⟨{T with ks:=dU T.ks e.key ⟨e.key,r.label,0,r.commit,false, -1,kN⟩},u.turn ap (.inr (.inr (.inl F))) (u.st.Iq ap a2 (u.st.ek.set _ aw.hk) (fun x hx=> ?_)) (fun k hk=> .inl hk) (fun _ _ h=>⟨h.ms,h.av,h.po⟩),?_⟩
   ·rcases(uo u.st.ek.nodup).1 hx with rfl|⟨hx,_⟩
    ·exact⟨aw.hk,a8.l,(by show(0:Int)<=0;omega),(by show(0:Int)<=4294967295;omega),al.hcm,(by show(-1:Int)<= -1;omega),(by show(-1:Int)<=4294967295;omega),F⟩
    ·exact u.st.kr x hx
   ·unfold dw.act;rw[if_neg (by have:=ea.out;omega),if_neg (by have:=ea.out;omega),if_neg (by have:=ea.out;omega),if_pos ea.out];rfl
  have kb:(e.act==4)=false:=by simp;exact ct
  have kc:decide (e.act=4)=false:=aP ct;by_cases cv:e.act=5
  ·as_aux_lemma=>
   have kd:(e.act==5)=true:=by simp;exact cv
   have ke:decide (e.act=5)=true:=aQ cv;have dk:=O cv;clear cv;go_upto_region 24 with fail;have dc:=O (show¬bi=G6 from fun h=>by have:=bu.out;have:=a3.bb.lt;omega);obtain⟨C,iB,aJ,bP⟩:=iw (show bT a_ af [G6] [(bi,84,159)] af from bT.yw cl (dV.one ac.bb.lt) cc eM);have b6:∀j,C j->j.cell? ⟨G6,51,none⟩=some (.int .i64 r.epoch):=fun j I=>(a3.bb.ext ((iB j).1 I).base).cell' (ay.Bv (b:=r) al.hm al.hcm);refine fJ fun Z=> ?_;refine aA 0 ?_;refine dA 1 (b6) ?_;refine aA 2 ?_;refine bD 3 F (bf F (fun j h=>bQ F F (dF (a3.bb.ext ((iB j).1 h).base) cR) bY bv)) ?_;refine aA 4 ?_;have cy:X af (World.drew af):=(X.refl af).drew;generalize World.drew af=cL at Z cy⊢;have cm:=O cy;clear cy;obtain⟨c9,b0⟩:=aB Z (cc.ext cm);have e9:=b0.cell' (bC.pI aa);have e':=b0.frozen 17;have ih:=O (bC.len aa);clear Z;refine aZ 5 ?_;intro ae R;go_wp2_with fail;generalize br:World.setCell cL _ _=a7 at R⊢;have cI:aU cL bi a7:=by rw[<-br];exact aU.setCell _
   have cD:ah a7 bi ({k with epoch:=r.epoch}:bC).v 159:=by rw[<-br,<-bC.DZ aa.out];exact b0.set 17 _
   have c6:=O cD;have CK:Hid (bC.Ok {k with epoch:=r.epoch}):=O ⟨aa.hk,aa.ls,a8.e.1,a8.e.2,aa.hc,aa.s0,aa.s1,aa.hs⟩;have df:=O (bC.len CK);clear br e9 e';have b7:C a7:=(iB a7).2 (((iB cL).1 c9).store cI cD (by simp[df.out]) bu (by simp;exact dc));refine R _ _ b7 ?_;clear R ae cD;have Z:=b7;refine aH ?_;refine aA 6 ?_;refine aZ 7 ?_;intro ae R;go_wp2_with (refine kR F _ _ _ F F F c6 (by rw[bv.out];exact bY) (by rw[bv.out,df.out];decide) gh ?_);intro ai ad be;rw[bC.aa8 CK.out al.hcm]at ad;have ds:C ai:=(iB ai).2 (((iB a7).1 b7).store be ad (by simp[bC.len (k:={k with epoch:=r.epoch,commit:=r.commit}) ⟨aa.hk,aa.ls,a8.e.1,a8.e.2,al.hcm,aa.s0,aa.s1,aa.hs⟩]) bu (by simp;exact dc));refine R _ _ ds ?_;clear R ae;refine aH ?_;refine dH ?_;have ag:mP bi af ai:=((gB.wC cm).same cI.fF).same be.fF;clear cI be b0 c6 cm c9 b7 ds;go_upto_region 25 with fail;have cg:X a_ ai:=(gB.wC cl |>.same ag).Ep (X.refl a_) (fun x hx bx=>by have:=bu.out;omega);obtain⟨ac,c5⟩:=aB (a3.ext cg) ad;have cd:Hid (bC.Ok {k with epoch:=r.epoch,commit:=r.commit}):=O ⟨aa.hk,aa.ls,a8.e.1,a8.e.2,al.hcm,aa.s0,aa.s1,aa.hs⟩;have dg:=O (bC.len cd);clear ad ag cg bt;obtain⟨C,iB,aJ,bP⟩:=iw (show bT ai ai [] [] ai from bT.jA (X.refl _) (dV.none _));have bw:∀j,C j->j.cell? ⟨p,52,none⟩=some (.map (some T.gk)):=fun j I=>((ac.st.ext ((iB j).1 I).base).blk).cell' (aV.nV a0.1 a0.2);refine jQ (W:=[7]) fun Z=> ?_;refine bK 0 ?_;refine bK 1 ?_;refine bK 2 ?_;refine eY 3 (bw) ?_;refine bK 4 ?_;refine k_ 5 F (bf F (fun j h=>bQ F F (dF (ac.be.ext ((iB j).1 h).base) cS) dh cT)) ?_
   refine k_ 6 F (oC F 159 _ F F (fun j h=>c5.ext ((iB j).1 h).base) pX dg) ?_;generalize World.drew ai=ao at Z⊢;have u:=O (ac.ext ((iB ao).1 Z).base);obtain⟨az,an,am,ar⟩:=zY vg underlying143 u.st.key u.st.ek (show og e.key from aw.hk) (v:=({k with epoch:=r.epoch,commit:=r.commit}:bC));unfold eX bC.va at an;have ap:=O am.fF;have a2:=O ar;clear am ar Z;refine iU 7 ?_;intro ae R;go_wp2_with fail;refine R _ _ trivial ?_;clear R ae an;refine aH ?_;refine jR ?_;go_wp2_with fail;go_meet;refine⟨{T with ks:=dU T.ks e.key {k with epoch:=r.epoch,commit:=r.commit}},u.turn ap (.inr (.inr (.inl F))) (u.st.Iq ap a2 (u.st.ek.set _ aw.hk) (fun x hx=> ?_)) (fun k hk=> .inl hk) (fun _ _ h=>⟨h.ms,h.av,h.po⟩),?_⟩
   ·rcases(uo u.st.ek.nodup).1 hx with rfl|⟨hx,_⟩
    ·exact cd
    ·exact u.st.kr x hx
   ·unfold dw.act;rw[if_neg (by have:=dk.out;omega),if_neg (by have:=dk.out;omega),if_neg (by have:=dk.out;omega),if_neg (by have:=dk.out;omega),if_pos dk.out];rw[eJ.out];rfl
  have kd:(e.act==5)=false:=by simp;exact cv
  have ke:decide (e.act=5)=false:=aP cv;by_cases cw:e.act=7
  ·as_aux_lemma=>
   have kf:(e.act==7)=true:=by simp;exact cw
   have kh:decide (e.act=7)=true:=aQ cw;have cW:=O cw;clear cw;have hp:=cc.cell' (bC.CG aa);have hu:=cc.frozen 50;go_upto_region 28 with fail;generalize br:World.setCell af _ _=ai;have ag:aU af bi ai:=by rw[<-br];exact aU.setCell _
   have ad:ah ai bi ({k with rev:=true}:bC).v 159:=by rw[<-br,<-bC.L6 aa.out];exact cc.set 50 _
   clear br hp hu;have ag:=ag.fF;have cg:X a_ ai:=(gB.wC cl |>.same ag).Ep (X.refl a_) (fun x hx bx=>by have:=bu.out;omega);obtain⟨ac,c5⟩:=aB (a3.ext cg) ad;have cd:Hid (bC.Ok {k with rev:=true}):=O ⟨aa.hk,aa.ls,aa.e0,aa.e1,aa.hc,aa.s0,aa.s1,aa.hs⟩;have dg:=O (bC.len cd);clear ad ag cg bt;obtain⟨C,iB,aJ,bP⟩:=iw (show bT ai ai [] [] ai from bT.jA (X.refl _) (dV.none _));have bw:∀j,C j->j.cell? ⟨p,52,none⟩=some (.map (some T.gk)):=fun j I=>((ac.st.ext ((iB j).1 I).base).blk).cell' (aV.nV a0.1 a0.2);refine jQ (W:=[7]) fun Z=> ?_;refine bK 0 ?_;refine bK 1 ?_;refine bK 2 ?_;refine eY 3 (bw) ?_;refine bK 4 ?_;refine k_ 5 F (bf F (fun j h=>bQ F F (dF (ac.be.ext ((iB j).1 h).base) cS) dh cT)) ?_;refine k_ 6 F (oC F 159 _ F F (fun j h=>c5.ext ((iB j).1 h).base) pX dg) ?_;generalize World.drew ai=ao at Z⊢;have u:=O (ac.ext ((iB ao).1 Z).base);obtain⟨az,an,am,ar⟩:=zY vg underlying143 u.st.key u.st.ek (show og e.key from aw.hk) (v:=({k with rev:=true}:bC));unfold eX bC.va at an;have ap:=O am.fF;have a2:=O ar;clear am ar Z;refine iU 7 ?_;intro ae R;go_wp2_with fail;refine R _ _ trivial ?_;clear R ae an;refine aH ?_;refine jR ?_;go_wp2_with fail;go_meet;refine⟨{T with ks:=dU T.ks e.key {k with rev:=true}},u.turn ap (.inr (.inr (.inl F))) (u.st.Iq ap a2 (u.st.ek.set _ aw.hk) (fun x hx=> ?_)) (fun k hk=> .inl hk) (fun _ _ h=>⟨h.ms,h.av,h.po⟩),?_⟩
   ·rcases(uo u.st.ek.nodup).1 hx with rfl|⟨hx,_⟩
    ·exact cd
    ·exact u.st.kr x hx
   ·unfold dw.act;rw[if_neg (by have:=cW.out;omega),if_neg (by have:=cW.out;omega),if_neg (by have:=cW.out;omega),if_neg (by have:=cW.out;omega),if_neg (by have:=cW.out;omega),if_pos cW.out];rw[eJ.out];rfl
  have kf:(e.act==7)=false:=by simp;exact cw
  have kh:decide (e.act=7)=false:=aP cw;by_cases cx:e.act=9
  ·as_aux_lemma=>
   have ki:(e.act==9)=true:=by simp;exact cx
   have kj:decide (e.act=9)=true:=aQ cx;have cp:=O cx;clear cx;go_upto_region 30 with fail;have dc:=O (show¬bi=G6 from fun h=>by have:=bu.out;have:=a3.bb.lt;omega);obtain⟨C,iB,aJ,bP⟩:=iw (show bT a_ af [G6] [(bi,84,159)] af from bT.yw cl (dV.one ac.bb.lt) cc eM);have b6:∀j,C j->j.cell? ⟨G6,51,none⟩=some (.int .i64 r.epoch):=fun j I=>(a3.bb.ext ((iB j).1 I).base).cell' (ay.Bv (b:=r) al.hm al.hcm);refine fJ fun Z=> ?_;refine aA 0 ?_;refine dA 1 (b6) ?_;refine aA 2 ?_;refine bD 3 F (bf F (fun j h=>bQ F F (dF (a3.bb.ext ((iB j).1 h).base) cR) bY bv)) ?_;refine aA 4 ?_;have cy:X af (World.drew af):=(X.refl af).drew;generalize World.drew af=cL at Z cy⊢;have cm:=O cy;clear cy;obtain⟨c9,b0⟩:=aB Z (cc.ext cm);have e9:=b0.cell' (bC.mD aa);have e':=b0.frozen 51;have ih:=O (bC.len aa);clear Z;refine aZ 5 ?_;intro ae R;go_wp2_with fail;generalize br:World.setCell cL _ _=a7 at R⊢;have cI:aU cL bi a7:=by rw[<-br];exact aU.setCell _
   have cD:ah a7 bi ({k with esc:=r.epoch}:bC).v 159:=by rw[<-br,<-bC.D6 aa.out];exact b0.set 51 _
   have c6:=O cD;have CK:Hid (bC.Ok {k with esc:=r.epoch}):=O ⟨aa.hk,aa.ls,aa.e0,aa.e1,aa.hc,by have:=a8.e.1;show -1<=r.epoch;omega,a8.e.2,aa.hs⟩;have df:=O (bC.len CK);clear br e9 e';have b7:C a7:=(iB a7).2 (((iB cL).1 c9).store cI cD (by simp[df.out]) bu (by simp;exact dc));refine R _ _ b7 ?_;clear R ae cD;have Z:=b7;refine aH ?_;refine aA 6 ?_;refine aZ 7 ?_;intro ae R;go_wp2_with (refine kR F _ _ _ F F F c6 (by rw[bv.out];exact bY) (by rw[bv.out,df.out];decide) gh ?_);intro ai ad be;rw[bC.aa9 CK.out al.hcm]at ad;have ds:C ai:=(iB ai).2 (((iB a7).1 b7).store be ad (by simp[bC.len (k:={k with esc:=r.epoch,shared:=r.commit}) ⟨aa.hk,aa.ls,aa.e0,aa.e1,aa.hc,by have:=a8.e.1;show -1<=r.epoch;omega,a8.e.2,al.hcm⟩]) bu (by simp;exact dc));refine R _ _ ds ?_;clear R ae;refine aH ?_;refine dH ?_;have ag:mP bi af ai:=((gB.wC cm).same cI.fF).same be.fF;clear cI be b0 c6 cm c9 b7 ds;go_upto_region 31 with fail;have cg:X a_ ai:=(gB.wC cl |>.same ag).Ep (X.refl a_) (fun x hx bx=>by have:=bu.out;omega);obtain⟨ac,c5⟩:=aB (a3.ext cg) ad;have cd:Hid (bC.Ok {k with esc:=r.epoch,shared:=r.commit}):=O ⟨aa.hk,aa.ls,aa.e0,aa.e1,aa.hc,by have:=a8.e.1;show -1<=r.epoch;omega,a8.e.2,al.hcm⟩;have dg:=O (bC.len cd);clear ad ag cg bt;obtain⟨C,iB,aJ,bP⟩:=iw (show bT ai ai [] [] ai from bT.jA (X.refl _) (dV.none _));have bw:∀j,C j->j.cell? ⟨p,52,none⟩=some (.map (some T.gk)):=fun j I=>((ac.st.ext ((iB j).1 I).base).blk).cell' (aV.nV a0.1 a0.2);refine jQ (W:=[7]) fun Z=> ?_;refine bK 0 ?_;refine bK 1 ?_;refine bK 2 ?_
   refine eY 3 (bw) ?_;refine bK 4 ?_;refine k_ 5 F (bf F (fun j h=>bQ F F (dF (ac.be.ext ((iB j).1 h).base) cS) dh cT)) ?_;refine k_ 6 F (oC F 159 _ F F (fun j h=>c5.ext ((iB j).1 h).base) pX dg) ?_;generalize World.drew ai=ao at Z⊢;have u:=O (ac.ext ((iB ao).1 Z).base);obtain⟨az,an,am,ar⟩:=zY vg underlying143 u.st.key u.st.ek (show og e.key from aw.hk) (v:=({k with esc:=r.epoch,shared:=r.commit}:bC));unfold eX bC.va at an;have ap:=O am.fF;have a2:=O ar;clear am ar Z;refine iU 7 ?_;intro ae R;go_wp2_with fail;refine R _ _ trivial ?_;clear R ae an;refine aH ?_;refine jR ?_;go_wp2_with fail;go_meet;refine⟨{T with ks:=dU T.ks e.key {k with esc:=r.epoch,shared:=r.commit}},u.turn ap (.inr (.inr (.inl F))) (u.st.Iq ap a2 (u.st.ek.set _ aw.hk) (fun x hx=> ?_)) (fun k hk=> .inl hk) (fun _ _ h=>⟨h.ms,h.av,h.po⟩),?_⟩
   ·rcases(uo u.st.ek.nodup).1 hx with rfl|⟨hx,_⟩
    ·exact cd
    ·exact u.st.kr x hx
   ·unfold dw.act;rw[if_neg (by have:=cp.out;omega),if_neg (by have:=cp.out;omega),if_neg (by have:=cp.out;omega),if_neg (by have:=cp.out;omega),if_neg (by have:=cp.out;omega),if_neg (by have:=cp.out;omega),if_pos cp.out];rw[eJ.out];rfl
  have ki:(e.act==9)=false:=by simp;exact cx
  have kj:decide (e.act=9)=false:=aP cx;by_cases a6:e.act=8
  ·as_aux_lemma=>
   have ft:(e.act==8)=true:=by simp;exact a6
   have fv:decide (e.act=8)=true:=aQ a6;have bj:=O a6;clear a6;have c_:=O ac.st.ea;have ba:=O (fun j (bm:X af j)=>(G9 G_ underlying144 (Tz j) (ac.st.ext bm).app ac.st.ea (show Gb r.commit from al.hcm) false));have k1:∀(w:World) (r:Option Nat),(binOp .eql 162 (.map r) (.map none)).run prog w= .ok (.bool r.isNone) w:=fun w r=>run_eql_map_nil w _ _ _ r underlying162;obtain⟨fw,ci⟩:=aC (bW T.av r.commit);rw[ci]at ba;obtain⟨fy,c1⟩:=aC (fw.map (fun y=>y.1):Option Nat);have gm:=O (fun j (bm:X af j)=>(show(Instr.lookup 144 (.map (some T.ga)) (eX r.commit) false).run prog j= .ok (.map fy) j by
    have I:=ba.out j bm;rw[<-c1];cases fw<;>exact I))
   have d8:=O (And.intro ci c1);clear ci c1 ba;go_upto_region 33 with fail;obtain⟨C,iB,aJ,bP⟩:=iw (show bT af af [] [] af from bT.jA (X.refl _) (dV.none _));have cf:∀j,C j->j.cell? ⟨p,53,none⟩=some (.map (some T.ga)):=fun j I=>((ac.st.ext ((iB j).1 I).base).blk).cell' (aV.oQ a0.1 a0.2);refine fJ fun Z=> ?_;refine aA 0 ?_;refine aA 1 ?_;refine aA 2 ?_;refine dA 3 (cf) ?_;refine aA 4 ?_;refine bD 5 F (bf F (fun j h=>bQ F F (dF (ac.bb.ext ((iB j).1 h).base) cR) bY bv)) ?_;refine bD 6 F (bf F (fun j h=>vH F F F (gm j ((iB j).1 h).base))) ?_;refine aA 7 ?_;refine dH ?_;generalize World.drew af=ao at Z⊢;have u:=O (ac.ext ((iB ao).1 Z).base);clear Z aJ iB cf bP gm;go_upto_if 162 with fail;go_cut [] (fun wx=>∃(bz:uJ) (g:Nat) (l:List (aj×dX)),lu w p S e r (lV e) G3 G6 G8 {T with av:=bz} wx/\bW bz r.commit=some (g,l)/\kM l=(bW T.p.av r.commit).getD []/\∀y,dU (rV bz) r.commit y=dU T.p.av r.commit y)
   case first=>
    obtain⟨ci,c1⟩:=d8.out;cases fw with
    |some jp=>
     obtain⟨g,l⟩:=jp;have db:=O ci;obtain rfl:some g=fy:=c1;clear ci d8;go_wp2_with fail;go_meet;exact⟨T.av,g,l,u,db,by show _=(bW (rV T.av) r.commit).getD [];rw[Tv,db.out];rfl,fun _=>rfl⟩
    |none=>
     have db:=O ci;obtain rfl:none=fy:=c1;clear ci d8;go_upto_region 34 with fail;have jx:=fun w=>He (P:=prog) 162 w;obtain⟨C,iB,aJ,bP⟩:=iw (show bT ao ao [] [] ao from bT.jA (X.refl _) (dV.none _));have cf:∀j,C j->j.cell? ⟨p,53,none⟩=some (.map (some T.ga)):=fun j I=>((u.st.ext ((iB j).1 I).base).blk).cell' (aV.oQ a0.1 a0.2);refine jQ (W:=[7]) fun Z=> ?_;refine bK 0 ?_;refine bK 1 ?_;refine bK 2 ?_;refine eY 3 (cf) ?_;refine bK 4 ?_;refine k_ 5 F (bf F (fun j h=>bQ F F (dF (u.bb.ext ((iB j).1 h).base) cR) bY bv)) ?_;generalize World.drew ao=az at Z⊢;refine fC 6 ?_;intro ae R;go_wp2_with fail;refine R _ _ (aJ _ _ Z ((X.refl az).alloc _)) ?_;clear R ae jx;generalize cG:World.alloc az _=f0;have hH:f_ eX dX.v f0 az.heap.size []:=by rw[<-cG];exact f_.new az
     have dt:C f0:=by rw[<-cG];exact aJ _ _ Z ((X.refl az).alloc _)
     obtain⟨cn,aq⟩:=aB (u.ext ((iB az).1 Z).base) (u.ext ((iB f0).1 dt).base);have ia:=O cn.mu.size;obtain⟨Ct,d6⟩:=aB (abo cn.st.nd cn.st.mem.lt cn.st.key.lt cn.st.app.lt (fun x hx=>(cn.st.inn x hx).1.lt) db) hH;clear hH dt Z cG cn;generalize az.heap.size=cz at*;obtain⟨k5,an,am,ar⟩:=zY G_ underlying144 aq.st.app aq.st.ea (show Gb r.commit from al.hcm) (v:=((cz,[]):Nat×List (aj×dX)));rw[show oH (cz,([]:List (aj×dX)))= .map (some cz)from F]at an;unfold eX at an;have ap:=O am.fF;have a2:=O ar;clear am ar;refine aH ?_;refine iU 7 ?_;intro ae R;go_wp2_with fail;refine R _ _ trivial ?_;clear R ae an;refine aH ?_;refine jR ?_;go_wp2_with fail;go_meet;have fl:∀x∈dU T.av r.commit (cz,([]:List (aj×dX))),x=(r.commit,(cz,[]))∨x∈T.av:=fun x hx=>by
      rcases(uo c_.nodup).1 hx with I|I
      ·exact .inl I
      ·exact .inr I.1
     refine⟨dU T.av r.commit (cz,[]),cz,[],aq.Tn ap (.inr (.inr (.inr (.inl F)))) (aq.st.SQ ap a2 (c_.set _ al.hcm) (fun x hx=> ?_) Ct) (TA fun x hx=> ?_) (fun _ _ h=>⟨h.ms,fun x hx=> ?_,h.po⟩),?_,?_,?_⟩
     ·rcases fl x hx with rfl|I
      ·exact⟨d6,jc.nil,aF⟩
      ·exact aq.st.inn x I
     ·rcases fl x hx with rfl|I
      ·exact .inr ia
      ·exact .inl ⟨x,I,F⟩
     ·rcases fl x hx with rfl|I
      ·simp
      ·exact h.av x I
     ·rw[YL c_.out _ al.hcm,if_pos F]
     ·show _=(bW (rV T.av) r.commit).getD [];rw[Tv,db.out];rfl
     ·intro y;rw[Tt];exact abk (abm c_) al.hcm _ _
   case rest=>
   obtain⟨bz,g,l,fb,hG,hZ,hX⟩:=hcut;obtain⟨ai,bd⟩:=aC wc;rw[bd]at fb⊢;obtain⟨aq,eC,i1,ix⟩:=bU fb hG hZ hX;clear bd wc fb hG hZ hX ac u d8 c_ bt;obtain⟨q,b9⟩:=aC (aV.jO {T with av:=bz} e.bI);have iu:=O (fun j (bm:X ai j)=>(show(Instr.lookup 142 (.map (some T.gm)) (eX e.bI) false).run prog j= .ok (.slice q.a q.n q.c) j by
    have:=(aq.st.ext bm).EL (id:=e.bI) aw.ha false;rw[b9]at this;exact this))
   have ba:=O (fun j (bm:X ai j)=>(show(Instr.lookup 144 (.map (some T.ga)) (eX r.commit) false).run prog j= .ok (.map (some g)) j by
    have:=G9 G_ underlying144 (Tz j) (aq.st.ext bm).app aq.st.ea (show Gb r.commit from al.hcm) false;rw[eC.out]at this;exact this))
   have cV:=O b9;clear b9;go_upto_region 35 with fail;obtain⟨C,iB,aJ,bP⟩:=iw (show bT ai ai [] [] ai from bT.jA (X.refl _) (dV.none _));have cf:∀j,C j->j.cell? ⟨p,53,none⟩=some (.map (some T.ga)):=fun j I=>((aq.st.ext ((iB j).1 I).base).blk).cell' (aV.oQ aq.st.hl aq.st.hf);have b6:∀j,C j->j.cell? ⟨p,51,none⟩=some (.map (some T.gm)):=fun j I=>((aq.st.ext ((iB j).1 I).base).blk).cell' (aV.mD aq.st.hl aq.st.hf);have ec:∀j,C j->j.cell? ⟨G3,1,none⟩=some (.int .i64 e.time):=fun j I=>(aq.be.ext ((iB j).1 I).base).cell' (aG.rH e);refine jQ (W:=[19]) fun Z=> ?_;refine bK 0 ?_;refine bK 1 ?_;refine bK 2 ?_;refine eY 3 (cf) ?_;refine bK 4 ?_;refine k_ 5 F (bf F (fun j h=>bQ F F (dF (aq.bb.ext ((iB j).1 h).base) cR) bY bv)) ?_;refine k_ 6 F (bf F (fun j h=>vH F F F (ba j ((iB j).1 h).base))) ?_;refine bK 7 ?_;refine k_ 8 F (bf F (fun j h=>bQ F F (dF (aq.be.ext ((iB j).1 h).base) ew) dh de)) ?_;refine bK 9 ?_;refine bK 10 ?_;refine bK 11 ?_;refine eY 12 (b6) ?_;refine bK 13 ?_;refine k_ 14 F (bf F (fun j h=>bQ F F (dF (aq.be.ext ((iB j).1 h).base) ew) dh de)) ?_;refine k_ 15 F (bf F (fun j h=>vH F F F (iu j ((iB j).1 h).base))) ?_;refine bK 16 ?_;refine eY 17 (ec) ?_;refine FW 18 F (bf F (fun j _=>abq F F F j)) ?_;generalize World.drew ai=ao at Z⊢;obtain⟨u,b3⟩:=aB (aq.ext ((iB ao).1 Z).base) (BO eC);obtain⟨az,an,am,ar⟩:=zY vg underlying162 (u.st.inn _ b3).1 (u.st.inn _ b3).2.1 (show og e.bI from aw.ha) (v:=(⟨q,e.time⟩:dX));rw[show dX.v ⟨q,e.time⟩= .agg #[.slice q.a q.n q.c,.int .i64 e.time]from F]at an
   unfold eX at an;have ap:=O am.fF;have a2:=O ar;clear am ar Z;refine iU 19 ?_;intro ae R;go_wp2_with fail;refine R _ _ trivial ?_;clear R ae an;refine aH ?_;refine jR ?_;go_wp2_with fail;go_meet;obtain⟨i,cE,jz⟩:=abn u.st.ea eC;refine⟨{T with av:=bz.set i (r.commit,(g,dU l e.bI ⟨q,e.time⟩))},u.turn ap (.inr (.inr (.inr (.inr ⟨_,b3,F⟩)))) (u.st.LH cE ap a2 ((u.st.inn _ b3).2.1.set _ aw.ha) (fun y aE=> ?_)) ?_ (fun _ _ h=>⟨h.ms,LY h.av (fun y aE=> ?_),h.po⟩),?_⟩
   ·rcases(uo (u.st.inn _ b3).2.1.nodup).1 aE with rfl|⟨aE,_⟩
    ·exact⟨by rw[<-cV.out];exact u.st.SK e.bI,cU.2.2.1,cU.2.2.2.1⟩
    ·exact(u.st.inn _ b3).2.2 y aE
   ·refine fun k hk=>(TA (T:={T with av:=bz}) (n:=ao.heap.size) (fun x hx=> ?_) k hk);rcases mem_or_eq_of_mem_set hx with hx|rfl
    ·exact .inl ⟨x,hx,F⟩
    ·exact .inl ⟨_,b3,F⟩
   ·rcases(uo (u.st.inn _ b3).2.1.nodup).1 aE with rfl|⟨aE,_⟩
    ·rw[<-cV.out];exact h.jO e.bI
    ·exact h.av _ b3 y aE
   ·unfold dw.act;rw[if_neg (by have:=bj.out;omega),if_neg (by have:=bj.out;omega),if_neg (by have:=bj.out;omega),if_neg (by have:=bj.out;omega),if_neg (by have:=bj.out;omega),if_neg (by have:=bj.out;omega),if_neg (by have:=bj.out;omega),if_pos bj.out];have j0:q.l=(bW T.p.ms e.bI).getD []:=by
     rw[<-cV.out];show(aV.jO {T with av:=bz} e.bI).l=(bW (T.ms.map fun x=>(x.1,x.2.l)) e.bI).getD [];rw[EK];unfold aV.jO;cases bW T.ms e.bI<;>rfl
    show({T.p with av:=rV (bz.set i (r.commit,(g,dU l e.bI ⟨q,e.time⟩)))}:dw)={T.p with av:=dU T.p.av r.commit (dU ((bW T.p.av r.commit).getD []) e.bI ((bW T.p.ms e.bI).getD [],e.time))};rw[jz,ix.out,i1.out,j0]
  have ft:(e.act==8)=false:=by simp;exact a6
  have fv:decide (e.act=8)=false:=aP a6;go_wp2_with fail;go_meet;refine⟨T,ac,?_⟩;unfold dw.act;rw[if_neg cq,if_neg cr,if_neg cs,if_neg ct,if_neg cv,if_neg cw,if_neg cx,if_neg a6]
 case rest=>
 clear a3 ac cl bu cc bt;obtain⟨a9,fe,hB⟩:=hcut;obtain⟨el,bd⟩:=aC wc;rw[bd]at fe⊢;obtain⟨ca,gv⟩:=aB fe hB;clear bd wc fe hB;have bt:=ca.be.cell' (aG.at2 e);have d6:=O (And.intro ca.st.hl ca.st.hf);go_upto_if 191 with fail;go_cut [] (fun wx=>∃a1,lu w p S e r (lV e) G3 G6 G8 a1 wx/\a1.p={a9.p with av:=if e.act≠8 then iQ a9.p.av (lV e)else a9.p.av})
 case first=>
  as_aux_lemma=>
  by_cases a6:e.act=8
  ·have ft:(e.act != 8)=false:=by simp;exact a6
   have fv:decide (e.act=8)=true:=aQ a6;have bj:=O a6;clear a6;go_wp2_with fail;go_meet;exact⟨a9,ca,by rw[if_neg (fun h=>h bj)]⟩
  ·have ft:(e.act != 8)=true:=by simp;exact a6
   have fv:decide (e.act=8)=false:=aP a6;have bj:=O a6;clear a6;go_upto_region 37 with fail;obtain⟨C,iB,aJ,bP⟩:=iw (show bT el el [] [] el from bT.jA (X.refl _) (dV.none _));have cf:∀j,C j->j.cell? ⟨p,53,none⟩=some (.map (some a9.ga)):=fun j I=>((ca.st.ext ((iB j).1 I).base).blk).cell' (aV.oQ d6.1 d6.2);refine jQ (W:=[5]) fun Z=> ?_;refine bK 0 ?_;refine bK 1 ?_;refine bK 2 ?_;refine eY 3 (cf) ?_;refine k_ 4 F (oC F 31 _ F F (fun j h=>ca.ba.ext ((iB j).1 h).base) bY gr) ?_;generalize World.drew el=ao at Z⊢;have cj:=O (ca.ext ((iB ao).1 Z).base);obtain⟨az,an,am,ar⟩:=KD G_ underlying144 (ty:=0) cj.st.app cj.st.ea (show Gb (lV e)from j_ _ _);unfold eX at an;have ap:=O am.fF;have a2:=O ar;clear am ar Z;refine iU 5 ?_;intro ae R;go_wp2_with fail;refine R _ _ trivial ?_;clear R ae an;refine aH ?_;refine jR ?_;go_wp2_with fail;go_meet;have bk:=BP a9.av (lV e);refine⟨{a9 with av:=iQ a9.av (lV e)},cj.turn ap (.inr (.inr (.inr (.inl F)))) (cj.st.SQ ap a2 (cj.st.ea.del _) (fun x hx=>cj.st.inn x (bk.mem hx)) ?_) ?_ (fun _ _ h=>⟨h.ms,fun x hx=>h.av x (bk.mem hx),h.po⟩),?_⟩
   ·exact cj.st.nd.sublist (((bk.map _).cons_cons _ |>.cons_cons _).cons_cons _)
   ·rintro k (h|h|h|h|⟨x,hx,h⟩)
    ·exact .inl (.inl h)
    ·exact .inl (.inr (.inl h))
    ·exact .inl (.inr (.inr (.inl h)))
    ·exact .inl (.inr (.inr (.inr (.inl h))))
    ·exact .inl (.inr (.inr (.inr (.inr ⟨x,bk.mem hx,h⟩))))
   ·rw[if_pos bj.out];exact congrArg (fun m=>({a9.p with av:=m}:dw)) (Lp (fun y:Nat×List (aj×dX)=>kM y.2) a9.av (lV e)).symm
 case rest=>
 obtain⟨a1,ff,hC⟩:=hcut;obtain⟨h3,bd⟩:=aC wc;rw[bd]at ff⊢;obtain⟨cb,gw⟩:=aB ff hC;clear bd wc ff hC ca bt;have fY:=cb.st.blk.cell' (aV.oQ cb.st.hl cb.st.hf);have da:=O cb.st.ea.nodup;go_wp2_with (at_range;refine zZ F 144 31 162 underlying144 _ F F cb.st.app ?_);intro km hr ch mU;obtain⟨ba,cM,dd⟩:=aW hr (cb.ext ch) (show w.heap.size<=h3.heap.size from cb.mu.size);clear hr ch mU fY cb;obtain⟨cH,dE⟩:=aC h3.heap.size;rw[dE]at ba dd⊢;clear dE;have iS:=O (show 0<=e.time/\e.time<=1099511627776 from⟨cU.2.2.1,cU.2.2.2.1⟩);go_upto_block 3 with fail;go_cut [] (fun wx=>∃ax,lu w p S e r (lV e) G3 G6 G8 ax wx/\ax.p={a1.p with av:=a1.p.av.map fun y=>(y.1,Aq e.time y.2)})
 case first=>
  as_aux_lemma=>
  go_wp2_with fail;go_loopw [16] (fun _ wr=>∃lf,gJ eX oH wr a1.ga cH (mV (wS e.time) lf a1.av) lf/\lf.Nodup/\lu w p S e r (lV e) G3 G6 G8 {a1 with av:=mV (wS e.time) lf a1.av} wr) (fun _ wr=>wr.rangeLeft a1.ga cH)
  case atStart=>
   refine⟨a1.av.map Prod.fst,?_,da,?_⟩
   ·rw[Iw];exact ba
   ·rw[Iw];exact cM
  case round=>
   obtain⟨lf,cF,dv,dm⟩:=hrel;obtain⟨b4,Ct,b1⟩:=aW cF dv dm;have fn:=cF.qL;clear cF dv dm ba cM;go_wp2_with (at_next;refine z_ F (fun x y h=>xJ h) _ F F b4 ?_ ?_)
   ·intro fk;subst fk;go_wp2_with fail;go_meet;refine⟨_,b1,?_⟩;exact congrArg (fun m=>({a1.p with av:=m}:dw)) (abj e.time a1.av)
   ·intro x g l cJ lf2 tT bp sP dC be cY;have di:=O (Au Ct bp);obtain⟨eW,bh,dj⟩:=aW (Tm (f:=wS e.time) da bp di.1 tT) (b1.beside be.fF (CW b4) dd (b1.st.Tq b4)) dC;obtain⟨a5,eK,eE,b2⟩:=bU (bh.st.inn _ tT) sP (bh.st.CP) tT;rw[show oH (g,l)= .map (some g)from F]at cY⊢;clear tT bp dC be b1 b4 sP;go_wp2_with (at_range;refine zZ F 162 29 164 underlying162 _ F F a5.1 ?_);intro em hr ch mU;obtain⟨eS,gE,kz⟩:=aW hr (show mP g cJ em from gB.wC ch) (show g<cJ.heap.size from a5.1.lt);clear hr ch mU cY;obtain⟨fz,c2⟩:=aC cJ.heap.size;have it:=O (show cJ.heap.size<=fz by omega);rw[c2]at eS⊢;clear c2;have eA:=O a5.2.1.nodup;go_wp2_with fail;go_loopw [17,18] (fun _ _ wr=>∃eh,gJ eX dX.v wr g fz (xY (IE e.time) eh l) eh/\eh.Nodup/\mP g cJ wr) (fun _ _ wr=>wr.rangeLeft g fz)
    case atStart=>
     refine⟨l.map Prod.fst,?_,eA,gE⟩;rw[aa2];exact eS
    case round=>
     obtain⟨eh,c2,hQ,dr⟩:=hrel;obtain⟨e5,g7,b5⟩:=aW c2 hQ dr;have hO:=c2.qL;clear c2 hQ dr eS gE;go_wp2_with (at_next;refine z_ F (fun x y h=>xJ h) _ F F e5 ?_ ?_)
     ·intro jt;subst jt;obtain⟨i,cE,dT⟩:=eW.out;have fm:=e5.map;rw[aa3]at fm;have b8:=bh.st.LH cE b5 fm (a5.2.1.sub filter_sublist) (fun y aE=>a5.2.2 y (mem_filter.1 aE).1);have dp:=bh.turn b5 (.inr (.inr (.inr (.inr ⟨_,b2,F⟩)))) b8 (by
       rintro k (h|h|h|h|⟨y,aE,h⟩)
       ·exact .inl (.inl h)
       ·exact .inl (.inr (.inl h))
       ·exact .inl (.inr (.inr (.inl h)))
       ·exact .inl (.inr (.inr (.inr (.inl h))))
       ·rcases mem_or_eq_of_mem_set aE with aE|rfl
        ·exact .inl (.inr (.inr (.inr (.inr ⟨y,aE,h⟩))))
        ·exact .inl (.inr (.inr (.inr (.inr ⟨_,b2,h⟩)))))
       (fun _ _ h=>⟨h.ms,LY h.av (fun y aE=>h.av _ b2 y (mem_filter.1 aE).1),h.po⟩)
      have dy:gJ eX oH wr a1.ga cH (mV (wS e.time) lf2 a1.av) lf2:=(dj.mut b5 (fun h=>(eE.2.2.2.1 _ b2).2.2 h.symm) (CV dj a5.1)).same ((Iy lf2 a1.av).trans (Iy lf a1.av).symm);obtain⟨co,ez⟩:=aB dy (show lu w p S e r (lV e) G3 G6 G8 {a1 with av:=mV (wS e.time) lf2 a1.av} wr by rw[dT];exact dp);clear cE dT fm b8 dp dy;go_wp2_with fail;go_roundw
      case rel=>exact⟨lf2,co,di.2,ez⟩
      case measure=>rw[co.qL,fn,eK.out];omega
     ·intro y z fW h0 tT bp hM hU h1 cY;obtain⟨d',hd,g9,gC,e1,d7⟩:=iq (Au g7 bp) hU bp hM (show mP g cJ fW from b5.trans h1.fF (fun k hk kA=>by have:=it.out;omega)) (show(y,z)∈l from(mem_filter.1 tT).1);have gz:=O (show y.length=16 from a5.2.1.good _ d7);have gA:=O (show(y.map Y).length=16 by rw[length_map];exact gz);have i2:=O (a5.2.2 _ d7).2;have cN:=O (bh.be.mut e1 ((jr.map a5.1).ne bh.be));clear tT bp hM hU h1 e5 g7 b5;rw[show z.v= .agg #[z.r.v,.int .i64 z.t]from F]at cY⊢;go_wp2_with (first|(refine bg F _ (.tmp 17) _ F F F ((ah.aI (vs:=List.replicate 16 (.int .u8 0)) F F).alloc _) dh aF gA (b_ y) ?_));intro kp hj fL;have gc:Hid (ah kp (fW.heap.size+1) [.slice none 0 0,.int .i64 0] 164):=O ((ah.aI (gU _ _).symm rfl).upd fL J);obtain⟨ga,f1⟩:=aB (fL.ext (((X.refl fW).alloc _).alloc _) l5) hj;clear hj fL;go_wp2_with (first|(refine bg F _ (.tmp 18) _ F F F gc L_ F (xs:=[z.r.v,.int .i64 z.t]) F (by intro q b9;simp at b9;rcases b9 with rfl|rfl<;>rfl) ?_));intro k2 hl fN;obtain⟨d5,h8⟩:=aB (fN.ext ga J) (f1.upd fN J);obtain⟨e4,gO⟩:=aB (hd.ext d5) (e1.same (gB.wC d5));have k4:=(cN.ext d5).cell' (aG.rH e);have az:=hl.cell' (i:=1) F;have j1:IntKind.i64.wrap (e.time - z.t)=e.time - z.t:=IntWalk.i64_in _ (by have:=iS.out;have:=i2.out;omega);clear hl fN gc ga f1 hd e1 cN d5;by_cases eg:e.time - z.t<=86400
      ·have jj:decide (e.time - z.t>86400)=false:=aP J;have jn:decide (86400<e.time - z.t)=false:=aP J;have eI:=O (aa4 (keep:=IE e.time) eA d7 g9 (aQ eg));clear eg;go_wp2_with fail;go_roundw
       case rel=>exact⟨h0,by rw[eI.out];exact e4,d'.2,gO⟩
       case measure=>rw[e4.qL,hO,gC.out];omega
      ·have jj:decide (e.time - z.t>86400)=true:=aQ J;have jn:decide (86400<e.time - z.t)=true:=aQ J;have eI:=O (aa5 (keep:=IE e.time) eA d7 g9 d'.1 (aP eg));obtain⟨k3,an,am,fs⟩:=YP vg underlying162 (ty:=0) e4 (a5.2.1.sub filter_sublist) (show og y from gz) d'.1;unfold eX at an;rw[eI.out]at fs;obtain⟨I9,i3⟩:=aB fs (gO.same am.fF);clear eg am fs;go_wp2_with (first|(refine bV F 29 (.tmp 17) F F h8 dh gA ?_));go_roundw
       case rel=>exact⟨h0,I9,d'.2,i3⟩
       case measure=>rw[I9.qL,hO,gC.out];omega
 case rest=>
 as_aux_lemma=>
 obtain⟨ax,fg,hD⟩:=hcut;obtain⟨c3,bd⟩:=aC wc;rw[bd]at fg⊢;obtain⟨cP,gx⟩:=aB fg hD;clear bd wc fg hD cM ba;have gf:=O (fun j (bm:X c3 j)=>GN e j (cP.ok.ext bm) ge);have gd:=O (show ax.cnt=S.cnt by
  have I:ax.p.cnt=a1.p.cnt:=by rw[gx.out]
  have hv:a1.p.cnt=a9.p.cnt:=by rw[gw.out]
  have fa:a9.p.cnt=(T.p.act e r.p).cnt:=by rw[gv.out]
  have js:T.p.cnt=S.p.cnt:=by rw[gt.out];rfl
  rw[abr]at fa;exact I.trans (hv.trans (fa.trans js)))
 have j1:IntKind.i64.wrap ((ax.cnt:Int)+1)=(ax.cnt:Int)+1:=by
  rw[IntWalk.i64_in _ (by have:=cP.st.c1;omega)]
 obtain⟨ce,hz⟩:=jE (fun w'=>ah w' G3 e.v 34:World->Prop);obtain⟨eb,hy⟩:=jE (fun w'=>ah w' p ax.v 147:World->Prop);have bo:∀w',ce w'↔ah w' G3 e.v 34:=fun w'=>by rw[hz]
 have ee:∀w',eb w'↔ah w' p ax.v 147:=fun w'=>by rw[hy]
 clear hz hy;go_upto_region 46 with fail;refine abI (T:=ce) (S:=eb) (W:=[14,17,20]) au ?_;have c7:X c3 (World.drew c3):=(X.refl _).drew;have qU:ce (World.drew c3):=(bo _).2 (cP.be.ext c7);have Z:eb (World.drew c3):=(ee _).2 (cP.st.blk.ext c7);have ho:∀j,eb j->j.cell? ⟨p,0,none⟩=some (.int .i64 (ax.cnt:Int)):=fun j I=>((ee j).1 I).cell' (aV.aL ax);have ec:∀j,ce j->j.cell? ⟨G3,1,none⟩=some (.int .i64 e.time):=fun j I=>((bo j).1 I).cell' (aG.rH e);generalize World.drew c3=kq at*;refine rW 0 ?_;refine rW 1 ?_;refine rW 2 ?_;refine rW 3 ?_;refine rW 4 ?_;refine rW 5 ?_;refine abL 6 (ho) ?_;refine rW 7 ?_;refine rW 8 ?_;refine abJ 9 (ec) ?_;refine abK 10 F (oC F 34 _ F F (fun j h=>(bo j).1 h) cZ eL) ?_;clear ho ec;refine II (i:=11) au F ?_;intro ae R;go_wp2_with fail;refine(gf kq c7).mono ?_;rintro dl d0 ⟨rfl,ab⟩;have ck:=O (cP.ext (c7.ext ab));have bc:ce d0:=(bo _).2 (((bo _).1 qU).ext ab);go_wp2_with fail;refine R _ _ bc (fun _ _=>(ee _).2 (((ee _).1 Z).ext ab)) ?_;clear R ae qU Z ab c7 gf cP;have qU:=bc;clear bc;refine aH ?_;refine rW 12 ?_;refine rW 13 ?_;obtain⟨eQ,gp,ic⟩:=aW (show G3≠p by have:=ck.g3;have:=ck.pl;omega) (show((ig e).map Y).length=32 by rw[length_map,nZ]) (And.intro ck.st.hl ck.st.hf);have d1:=O ck.st.blk;have gR:=O (show mP p d0 d0 from gB.refl _ _);refine II (i:=14) au F ?_;intro ae R;have e8:=d1.cell' (i:=0) F;have e_:=d1.frozen 0;go_wp2_with fail;clear e8 e_;have ad:=d1.set 0 (.int .i64 ((ax.cnt:Int)+1));have ag:aU d0 p _:=aU.setCell (i:=0) (.int .i64 ((ax.cnt:Int)+1))
 rw[show ax.v.set 0 (.int .i64 ((ax.cnt:Int)+1))={ax with cnt:=ax.cnt+1}.v from F]at ad;generalize World.setCell d0 _ _=fX at ad ag⊢;have bc:ce fX:=(bo _).2 (((bo _).1 qU).upd ag eQ);refine R _ _ bc (fun h=>by cases h) ?_;obtain⟨d2,gS⟩:=aB ad (gR.same ag.fF);clear R ae qU ad ag d1 gR;have qU:=bc;clear bc;refine aH ?_;refine rW 15 ?_;refine rW 16 ?_;refine II (i:=17) au F ?_;intro ae R;have e8:=d2.cell' (i:=1) F;have e_:=d2.frozen 1;go_wp2_with fail;clear e8 e_;have ad:=d2.set 1 (.int .i64 e.time);have ag:aU fX p _:=aU.setCell (i:=1) (.int .i64 e.time);rw[aV.set1 {ax with cnt:=ax.cnt+1} e.time]at ad;generalize World.setCell fX _ _=h4 at ad ag⊢;have bc:ce h4:=(bo _).2 (((bo _).1 qU).upd ag eQ);refine R _ _ bc (fun h=>by cases h) ?_;obtain⟨f2,g1⟩:=aB ad (gS.same ag.fF);clear R ae qU ad ag d2 gS;have qU:=bc;clear bc;refine aH ?_;refine rW 18 ?_;refine rW 19 ?_;obtain⟨e6,ef⟩:=jE ({ax with cnt:=ax.cnt+1,tm:=e.time}:aV);have f':Hid (ah h4 p e6.v 147):=O (by rw[ef];exact f2);obtain⟨e0,i0⟩:=aB (show e6.last.length=32/\e6.ji.length=16 by rw[ef];exact ic) ef;clear ef f2;refine II (i:=20) au F ?_;intro ae R;go_wp2_with (first|(refine kR F _ _ _ F F F f' (by rw[gp.out];exact bY) (by rw[gp.out,aV.len e0.1 e0.2];decide) (b_ (ig e)) ?_));intro kt ad ag;rw[aV.aa6 e0.1 (nZ e),i0.out]at ad;have bc:ce kt:=(bo _).2 (((bo _).1 qU).upd ag eQ);refine R _ _ bc (fun h=>by cases h) ?_;obtain⟨h9,g2⟩:=aB ad (g1.same ag.fF);clear R ae qU bc ad ag f' g1;refine aH ?_;refine abH au ?_ _;go_wp2_with fail
 (try go_ret)
 rw[ir.out];have a4:=ck.st;have c0:=cU.out;have ed:=ck.turn (T':={ax with cnt:=ax.cnt+1,tm:=e.time,last:=ig e}) g2 (.inl F) (a4.LJ g2 h9 (nZ e) a4.hf (by have I:=HZ.1;have hv:=c0.2.1;have fa:=gd.out;show ax.cnt+1<=65536;simp only[aV.p]at I;omega) c0.2.2.1 c0.2.2.2.1 F F F F F F a4.po) (fun k hk=> .inl hk) (fun _ _ h=>⟨h.ms,h.av,h.po⟩);refine⟨F,_,ed.st,?_,ed.mu,ed.new,ed.LZ⟩;show({ax.p with cnt:=ax.cnt+1,tm:=e.time,last:=ig e}:dw)=S.p.next e;rw[gd.out,gx.out,gw.out,gv.out,gt.out,eV.out,dw.adV];rfl
end Go.Proofs.YtjlhhnkhcbpnjaaGreatDoor
