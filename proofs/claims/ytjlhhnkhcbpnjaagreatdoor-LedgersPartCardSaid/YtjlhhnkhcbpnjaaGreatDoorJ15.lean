/- Laws that the row leans on; no condition. -/
import Derived.Test.YtjlhhnkhcbpnjaaGreatDoorJ14
namespace Go.Proofs.YtjlhhnkhcbpnjaaGreatDoor
open Go Go.RowKit List Tryz
set_option linter.unusedVariables false
set_option linter.unusedSectionVars false
set_option linter.unusedSimpArgs false
set_option maxHeartbeats 40000000
set_option maxRecDepth 100000
theorem Y9(r:aS)(w:World)(b0:r.Ok w):
 Calls prog 193 #[.agg r.v.toArray] w fun e w'=>e= .returned (.int .i64 (jd r))/\X w w':=by
 obtain⟨cm,cn,co,cp,cr,cs,ct,cC⟩:=jg (fun w' (h:r.Ok w')=>QO rJ 240 #[] r.roles r.ra r.rn r.rc w' (Et func240 au F) h.rl (by have:=h.qZ;have:=h.rm;omega) h.nU (fun y bl w2 _=>Y5 y w2 (h.rs y bl))) (fun w'=>Ec r.ow w' (by have:=b0.os;omega)) (fun w' (h:r.Ok w')=>YW Af 242 #[] r.acts r.aa r.an r.ac w' (Et func242 au F) h.al (by have:=h.Ad;have:=h.am;omega) h.mF (fun y bl w2 _=>(Y6 y w2).mono fun e cU ⟨cG,cH⟩=>⟨cG,cH▸X.refl _⟩)) (fun w' (h:r.Ok w')=>QO yO 243 #[] r.labels r.la r.ln r.lc w' (Et func243 au F) h.ll (by have:=h.Eu;have:=h.lm;omega) h.sN (fun y bl w2 _=>Y8 y w2 (h.ls y bl))) (fun w' (h:r.Ok w')=>QT r.roles r.ra r.rn r.rc w' h.rl (by have:=h.qZ;have:=h.rm;omega) h.qZ h.nU) (fun w' (h:r.Ok w')=>Y1 r.acts r.aa r.an r.ac w' h.al (by have:=h.Ad;have:=h.am;omega) h.Ad h.mF) (fun w' (h:r.Ok w')=>QT r.labels r.la r.ln r.lc w' h.ll (by have:=h.Eu;have:=h.lm;omega) h.Eu h.sN) b0;clear b0;go_enter func193,ntmps193;go_upto_region 1 with(fail);generalize b1:World.alloc w _=b';have ce:ah b' w.heap.size r.v 192:=by rw[<-b1];exact ah.aI F F
 have cg:X w b':=by rw[<-b1];exact(X.refl w).alloc _
 obtain⟨ax,ca⟩:=aB ce cg;clear b1 ce cg;go_cut [13] (fun v wx=>v= .bool (k1 r)/\X b' wx)
 case first=>
  have a2:=ax.cell' (i:=1) F;have a3:=ax.cell' (i:=2) F;have a4:=ax.cell' (i:=3) F;go_wp2;all_goals
   go_meet;refine⟨?_,X.refl _⟩;refine congrArg Value.bool ?_;unfold k1;rw[Bool.eq_iff_iff];simp only[Bool.or_eq_true,decide_eq_true_eq];split at* <;>omega
 case rest=>
  obtain⟨rfl,bz⟩:=hcut;obtain⟨aE,a1⟩:=aB (ax.ext bz) (ca.ext bz);clear bz ax ca;cases af:k1 r with
  |true=>
   go_wp2;go_ret;exact⟨by simp[jd,af],a1⟩
  |false=>
  have bt:=O (cC.ext a1);go_upto_region 3 with(fail);go_cut [27] (fun v wx=>v= .bool (k2 r)/\X wc wx)
  case first=>
   have a2:=aE.cell' (i:=1) F;go_wp2_with fail;refine(cm wc bt).mono ?_;rintro e cv ⟨rfl,ad⟩;generalize az:r.roles.any rJ=bx;have aw:=O az;clear az;have cF:=(aE.ext ad).cell' (i:=7) F;have am:=O ad;clear ad a2;have al:=O (show k2 r=(r.roles.any rJ||(!uq r.ow&&rJ r.ow))from F);rw[aw]at al;have cl:rJ r.ow= !jK r.ow.data.toList:=F;rw[cl]at al;generalize jK r.ow.data.toList=nm at*;have I:=O (show uq r.ow=r.ow.toList.isEmpty from F);generalize uq r.ow=a9 at*;generalize hk:k2 r=R at*;clear hk cl aw;cases bx with
   |true=>
    have j:R=true:=by rw[al];rfl
    subst j;clear al I;go_wp2;go_meet;exact⟨by first|rfl|simp,am⟩
   |false=>
   cases a9 with
   |true=>
    have E:r.ow.toList.isEmpty=true:=I.symm;have e2:r.ow.toList=[]:=isEmpty_iff.1 E;have j:R=false:=by rw[al];rfl
    subst j;clear al I;go_wp2;go_meet;exact⟨by first|rfl|simp,am⟩
   |false=>
    have E:r.ow.toList.isEmpty=false:=I.symm;have e2:r.ow.toList≠[]:=fun h=>by rw[h]at E;cases E
    have j:R= !nm:=by rw[al];simp
    subst j;clear al I;go_wp2_with fail;refine(cn _).mono ?_;rintro e cV ⟨rfl,cf⟩;have cy:=O (am.ext cf);clear cf;go_wp2_with fail;go_meet;exact⟨by first|rfl|simp,cy⟩
  case rest=>
   obtain⟨rfl,a6⟩:=hcut;obtain⟨bm,bp,bu⟩:=aW (aE.ext a6) (a1.ext a6) (bt.ext a6);clear a6 aE a1 bt cm cn;cases ao:k2 r with
   |true=>
    go_wp2;go_ret;exact⟨by simp[jd,af,ao],bp⟩
   |false=>
   have a3:=bm.cell' (i:=2) F;go_wp2_with fail;refine(co wc bu).mono ?_;rintro e cv ⟨rfl,ad⟩;obtain⟨bo,am,bv⟩:=aW (bm.ext ad) (bp.ext ad) (bu.ext ad);clear ad bm bp bu;clear a3 co;cases ag:k3 r with
   |true=>
    have a_:r.acts.any Af=true:=ag;rw[a_];go_wp2;go_ret;exact⟨by simp[jd,af,ao,ag],am⟩
   |false=>
   have a_:r.acts.any Af=false:=ag;rw[a_];have a4:=bo.cell' (i:=3) F;go_wp2_with fail;refine(cp cv bv).mono ?_;rintro e cw ⟨rfl,a7⟩;obtain⟨a0,br,bw⟩:=aW (bo.ext a7) (am.ext a7) (bv.ext a7);clear a7 bo am bv;clear a4 cp;cases ap:k4 r with
   |true=>
    have ba:r.labels.any yO=true:=ap;rw[ba];go_wp2;go_ret;exact⟨by simp[jd,af,ao,ag,ap],br⟩
   |false=>
   have ba:r.labels.any yO=false:=ap;rw[ba];clear a_ ba;go_upto_region 9 with(fail);go_cut [34] (fun v wx=>v= .bool (k5 r)/\X cw wx)
   case first=>
    have a2:=a0.cell' (i:=1) F;go_wp2_with fail;refine(cr cw bw).mono ?_;rintro e cM ⟨bx,rfl,az,ae⟩;obtain⟨aw,ac,cd,an⟩:=bU (KH az) (a0.ext ae) (bw.ext ae) ae;clear az ae a2;have a3:=ac.cell' (i:=2) F;cases bx with
    |true=>
     go_wp2;go_meet;exact⟨by unfold k5;rw[<-aw];rfl,an⟩
    |false=>
     go_wp2_with fail;refine(cs cM cd).mono ?_;rintro e cN ⟨cE,rfl,cj,a8⟩;obtain⟨cc,cx,cD,cb⟩:=bU (KH cj) (ac.ext a8) (cd.ext a8) (an.ext a8);clear cj a8 a3;have a4:=cx.cell' (i:=3) F;cases cE with
     |true=>
      go_wp2;go_meet;exact⟨by unfold k5;rw[<-aw,<-cc];rfl,cb⟩
     |false=>
      go_wp2_with fail;refine(ct cN cD).mono ?_;rintro e cW ⟨cP,rfl,ck,ch⟩;obtain⟨cA,cz⟩:=aB (KH ck) (cb.ext ch);clear ck ch a4;go_wp2_with fail;go_meet;exact⟨by unfold k5;rw[<-aw,<-cc,<-cA];first|rfl|simp,cz⟩
   case rest=>
    obtain⟨rfl,ae⟩:=hcut;obtain⟨ac,an⟩:=aB (a0.ext ae) (br.ext ae);clear ae a0 br bw cr cs ct;cases bc:k5 r with
    |true=>
     go_wp2;go_ret;exact⟨by simp[jd,af,ao,ag,ap,bc],an⟩
    |false=>
    have cR:=ac.cell' (i:=4) F;have cS:=ac.cell' (i:=5) F;have cT:=ac.cell' (i:=6) F;have cF:=ac.cell' (i:=7) F;have cQ:=ac.cell' (i:=0) F;go_upto_region 11 with(fail);go_cut [48] (fun v wx=>v= .bool (k6 r)/\wx=wc)
    case first=>
     have u:=O (show k6 r=((((decide (r.fr<0)||decide (24<r.fr))||(decide (r.tt<0)||decide (24<r.tt)))||(decide (r.fr=r.tt)&&decide (r.fr≠0)))||(decide (r.nd<0)||decide (16<r.nd)))from F);generalize hk:k6 r=R at*;clear hk;by_cases be:r.fr<0
     ·have b4:decide (r.fr<0)=true:=aQ be;rw[b4]at u;clear be;have j:R=true:=by rw[u];simp
      subst j;clear u;go_wp2;go_meet;exact⟨by first|rfl|simp,F⟩
     have b4:decide (r.fr<0)=false:=aP be;rw[b4]at u;clear be;by_cases bh:24<r.fr
     ·have b5:decide (24<r.fr)=true:=aQ bh;rw[b5]at u;clear bh;have j:R=true:=by rw[u];simp
      subst j;clear u;go_wp2;go_meet;exact⟨by first|rfl|simp,F⟩
     have b5:decide (24<r.fr)=false:=aP bh;rw[b5]at u;clear bh;by_cases bi:r.tt<0
     ·have b6:decide (r.tt<0)=true:=aQ bi;rw[b6]at u;clear bi;have j:R=true:=by rw[u];simp
      subst j;clear u;go_wp2;go_meet;exact⟨by first|rfl|simp,F⟩
     have b6:decide (r.tt<0)=false:=aP bi;rw[b6]at u;clear bi;by_cases bj:24<r.tt
     ·have b7:decide (24<r.tt)=true:=aQ bj;rw[b7]at u;clear bj;have j:R=true:=by rw[u];simp
      subst j;clear u;go_wp2;go_meet;exact⟨by first|rfl|simp,F⟩
     have b7:decide (24<r.tt)=false:=aP bj;rw[b7]at u;clear bj;by_cases aq:r.fr=r.tt
     ·have b8:decide (r.fr=r.tt)=true:=aQ aq;have cI:(r.fr==r.tt)=true:=by simp[aq]
      rw[b8]at u;by_cases ai:r.fr=0
      ·have cJ:decide (r.fr=0)=true:=aQ ai;have cL:(r.fr != 0)=false:=by simp[ai]
       have b9:decide (r.fr≠0)=false:=aP (fun h=>h ai);rw[b9]at u;clear aq ai;by_cases ab:r.nd<0
       ·have ar:decide (r.nd<0)=true:=aQ ab;rw[ar]at u;clear ab;have j:R=true:=by rw[u];simp
        subst j;clear u;go_wp2;go_meet;exact⟨by first|rfl|simp,F⟩
       have ar:decide (r.nd<0)=false:=aP ab;rw[ar]at u;clear ab;have j:R=decide (16<r.nd):=by rw[u];simp
       subst j;clear u;go_wp2;go_meet;exact⟨by first|rfl|simp,F⟩
      ·have cJ:decide (r.fr=0)=false:=aP ai;have cL:(r.fr != 0)=true:=by simp[ai]
       have b9:decide (r.fr≠0)=true:=aQ ai;rw[b9]at u;clear aq ai;have j:R=true:=by rw[u];simp
       subst j;clear u;go_wp2;go_meet;exact⟨by first|rfl|simp,F⟩
     ·have b8:decide (r.fr=r.tt)=false:=aP aq;have cI:(r.fr==r.tt)=false:=by simp[aq]
      rw[b8]at u;clear aq;by_cases ab:r.nd<0
      ·have ar:decide (r.nd<0)=true:=aQ ab;rw[ar]at u;clear ab;have j:R=true:=by rw[u];simp
       subst j;clear u;go_wp2;go_meet;exact⟨by first|rfl|simp,F⟩
      have ar:decide (r.nd<0)=false:=aP ab;rw[ar]at u;clear ab;have j:R=decide (16<r.nd):=by rw[u];simp
      subst j;clear u;go_wp2;go_meet;exact⟨by first|rfl|simp,F⟩
    case rest=>
     obtain⟨rfl,rfl⟩:=hcut;cases bd:k6 r with
     |true=>
      go_wp2;go_ret;exact⟨by simp[jd,af,ao,ag,ap,bc,bd],an⟩
     |false=>
     have cq:0<=r.nd:=by
      by_cases h:r.nd<0
      ·exfalso;have:k6 r=true:=by unfold k6;rw[aQ h];simp
       rw[bd]at this;cases this
      ·omega
     go_upto_region 13 with(fail);go_cut [89] (fun v wx=>v= .bool (k7 r)/\wx=wc)
     case first=>
      have aa:=O (show k7 r=((decide (r.nd=0) != uq r.ow)||(r.deny&&decide (0<r.nd)))from F);generalize hk:k7 r=R at*;clear hk;have I:=O (show uq r.ow=r.ow.toList.isEmpty from F);generalize uq r.ow=a9 at*;generalize r.deny=a5 at*;by_cases bk:r.nd=0
      ·have b2:decide (r.nd=0)=true:=aQ bk;have b3:decide (0<r.nd)=false:=aP J;rw[b2,b3]at aa;clear bk cq;cases a9 with
       |true=>
        have E:r.ow.toList.isEmpty=true:=I.symm;have e2:r.ow.toList=[]:=isEmpty_iff.1 E;cases a5;all_goals
         have j:=aa;simp at j;subst j;clear aa I;go_wp2;go_meet;exact⟨by first|rfl|simp,F⟩
       |false=>
        have E:r.ow.toList.isEmpty=false:=I.symm;have e2:r.ow.toList≠[]:=fun h=>by rw[h]at E;cases E
        cases a5;all_goals
         have j:=aa;simp at j;subst j;clear aa I;go_wp2;go_meet;exact⟨by first|rfl|simp,F⟩
      ·have b2:decide (r.nd=0)=false:=aP bk;have b3:decide (0<r.nd)=true:=aQ J;rw[b2,b3]at aa;clear bk cq;cases a9 with
       |true=>
        have E:r.ow.toList.isEmpty=true:=I.symm;have e2:r.ow.toList=[]:=isEmpty_iff.1 E;cases a5;all_goals
         have j:=aa;simp at j;subst j;clear aa I;go_wp2;go_meet;exact⟨by first|rfl|simp,F⟩
       |false=>
        have E:r.ow.toList.isEmpty=false:=I.symm;have e2:r.ow.toList≠[]:=fun h=>by rw[h]at E;cases E
        cases a5;all_goals
         have j:=aa;simp at j;subst j;clear aa I;go_wp2;go_meet;exact⟨by first|rfl|simp,F⟩
     case rest=>
      obtain⟨rfl,rfl⟩:=hcut;cases ci:k7 r with
      |true=>
       go_wp2;go_ret;exact⟨by simp[jd,af,ao,ag,ap,bc,bd,ci],an⟩
      |false=>
       go_wp2;go_ret;exact⟨by simp[jd,af,ao,ag,ap,bc,bd,ci],an⟩
end Go.Proofs.YtjlhhnkhcbpnjaaGreatDoor
