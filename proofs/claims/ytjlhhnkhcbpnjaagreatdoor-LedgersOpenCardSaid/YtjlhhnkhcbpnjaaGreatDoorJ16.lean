/- Laws that the row leans on; no condition. -/
import Derived.Test.YtjlhhnkhcbpnjaaGreatDoorJ15
namespace Go.Proofs.YtjlhhnkhcbpnjaaGreatDoor
open Go Go.RowKit List Tryz
set_option linter.unusedVariables false
set_option linter.unusedSimpArgs false
set_option maxHeartbeats 40000000
set_option maxRecDepth 100000
theorem Y9(r:aS)(w:World)(bt:r.Ok w):
 Calls prog 193 #[.agg r.v.toArray] w fun e w'=>e= .returned (.int .i64 (jd r))/\X w w':=by
 obtain⟨b8,b9,b',ca,cc,cd,ce,cl⟩:=jg (fun w' (h:r.Ok w')=>QO rJ 240 #[] r.roles r.ra r.rn r.rc w' (Et func240 au F) h.rl (by have:=h.qZ;have:=h.rm;omega) h.nU (fun y be w2 _=>Y5 y w2 (h.rs y be))) (fun w'=>Ec r.ow w' (by have:=bt.os;omega)) (fun w' (h:r.Ok w')=>YW Af 242 #[] r.acts r.aa r.an r.ac w' (Et func242 au F) h.al (by have:=h.Ad;have:=h.am;omega) h.mF (fun y be w2 _=>(Y6 y w2).mono fun e cC ⟨cp,cq⟩=>⟨cp,cq▸X.refl _⟩)) (fun w' (h:r.Ok w')=>QO yO 243 #[] r.labels r.la r.ln r.lc w' (Et func243 au F) h.ll (by have:=h.Eu;have:=h.lm;omega) h.sN (fun y be w2 _=>Y8 y w2 (h.ls y be))) (fun w' (h:r.Ok w')=>QT r.roles r.ra r.rn r.rc w' h.rl (by have:=h.qZ;have:=h.rm;omega) h.qZ h.nU) (fun w' (h:r.Ok w')=>Y1 r.acts r.aa r.an r.ac w' h.al (by have:=h.Ad;have:=h.am;omega) h.Ad h.mF) (fun w' (h:r.Ok w')=>QT r.labels r.la r.ln r.lc w' h.ll (by have:=h.Eu;have:=h.lm;omega) h.Eu h.sN) bt;clear bt;go_enter func193,ntmps193;go_upto_region 1 with(fail);generalize bu:World.alloc w _=bN;have b0:ah bN w.heap.size r.v 192:=by rw[<-bu];exact ah.aI F F
 have b2:X w bN:=by rw[<-bu];exact(X.refl w).alloc _
 obtain⟨aw,bO⟩:=aB b0 b2;clear bu b0 b2;go_cut [13] (fun v wx=>v= .bool (k1 r)/\X bN wx)
 case first=>
  have aL:=aw.cell' (i:=1) F;have aM:=aw.cell' (i:=2) F;have aR:=aw.cell' (i:=3) F;go_wp2;all_goals
   go_meet;refine⟨?_,X.refl _⟩;refine congrArg Value.bool ?_;unfold k1;rw[Bool.eq_iff_iff];simp only[Bool.or_eq_true,decide_eq_true_eq];split at* <;>omega
 case rest=>
  obtain⟨rfl,br⟩:=hcut;obtain⟨az,aE⟩:=aB (aw.ext br) (bO.ext br);clear br aw bO;cases af:k1 r with
  |true=>
   go_wp2;go_ret;exact⟨by simp[jd,af],aE⟩
  |false=>
  have bl:=O (cl.ext aE);go_upto_region 3 with(fail);go_cut [27] (fun v wx=>v= .bool (k2 r)/\X wc wx)
  case first=>
   have aL:=az.cell' (i:=1) F;go_wp2_with fail;refine(b8 wc bl).mono ?_;rintro e cf ⟨rfl,ad⟩;generalize ax:r.roles.any rJ=bq;have av:=O ax;clear ax;have co:=(az.ext ad).cell' (i:=7) F;have am:=O ad;clear ad aL;have al:=O (show k2 r=(r.roles.any rJ||(!uq r.ow&&rJ r.ow))from F);rw[av.out]at al;have b7:rJ r.ow= !jK r.ow.data.toList:=F;rw[b7]at al;generalize jK r.ow.data.toList=nm at*;have I:=O (show uq r.ow=r.ow.toList.isEmpty from F);generalize uq r.ow=a4 at*;generalize hk:k2 r=R at*;clear hk b7 av;cases bq with
   |true=>
    have j:R=true:=by rw[al.out];rfl
    subst j;clear al I;go_wp2;go_meet;exact⟨by first|rfl|simp,am⟩
   |false=>
   cases a4 with
   |true=>
    have E:r.ow.toList.isEmpty=true:=I.symm;have e2:r.ow.toList=[]:=isEmpty_iff.1 E;have j:R=false:=by rw[al.out];rfl
    subst j;clear al I;go_wp2;go_meet;exact⟨by first|rfl|simp,am⟩
   |false=>
    have E:r.ow.toList.isEmpty=false:=I.symm;have e2:r.ow.toList≠[]:=fun h=>by rw[h]at E;cases E
    have j:R= !nm:=by rw[al.out];simp
    subst j;clear al I;go_wp2_with fail;refine(b9 _).mono ?_;rintro e cD ⟨rfl,b1⟩;have ci:=O (am.ext b1);clear b1;go_wp2_with fail;go_meet;exact⟨by first|rfl|simp,ci⟩
  case rest=>
   obtain⟨rfl,a1⟩:=hcut;obtain⟨bh,bj,bm⟩:=aW (az.ext a1) (aE.ext a1) (bl.ext a1);clear a1 az aE bl b8 b9;cases ao:k2 r with
   |true=>
    go_wp2;go_ret;exact⟨by simp[jd,af,ao],bj⟩
   |false=>
   have aM:=bh.cell' (i:=2) F;go_wp2_with fail;refine(b' wc bm).mono ?_;rintro e cf ⟨rfl,ad⟩;obtain⟨bi,am,bo⟩:=aW (bh.ext ad) (bj.ext ad) (bm.ext ad);clear ad bh bj bm;clear aM b';cases ag:k3 r with
   |true=>
    have a5:r.acts.any Af=true:=ag;rw[a5];go_wp2;go_ret;exact⟨by simp[jd,af,ao,ag],am⟩
   |false=>
   have a5:r.acts.any Af=false:=ag;rw[a5];have aR:=bi.cell' (i:=3) F;go_wp2_with fail;refine(ca cf bo).mono ?_;rintro e cg ⟨rfl,a2⟩;obtain⟨aD,bk,bp⟩:=aW (bi.ext a2) (am.ext a2) (bo.ext a2);clear a2 bi am bo;clear aR ca;cases ap:k4 r with
   |true=>
    have a6:r.labels.any yO=true:=ap;rw[a6];go_wp2;go_ret;exact⟨by simp[jd,af,ao,ag,ap],bk⟩
   |false=>
   have a6:r.labels.any yO=false:=ap;rw[a6];clear a5 a6;go_upto_region 9 with(fail);go_cut [34] (fun v wx=>v= .bool (k5 r)/\X cg wx)
   case first=>
    have aL:=aD.cell' (i:=1) F;go_wp2_with fail;refine(cc cg bp).mono ?_;rintro e cv ⟨bq,rfl,ax,ae⟩;obtain⟨av,ac,bX,an⟩:=bU (KH ax) (aD.ext ae) (bp.ext ae) ae;clear ax ae aL;have aM:=ac.cell' (i:=2) F;cases bq with
    |true=>
     go_wp2;go_meet;exact⟨by unfold k5;rw[<-av.out];rfl,an⟩
    |false=>
     go_wp2_with fail;refine(cd cv bX).mono ?_;rintro e cw ⟨cn,rfl,b5,a3⟩;obtain⟨bS,ch,cm,bR⟩:=bU (KH b5) (ac.ext a3) (bX.ext a3) (an.ext a3);clear b5 a3 aM;have aR:=ch.cell' (i:=3) F;cases cn with
     |true=>
      go_wp2;go_meet;exact⟨by unfold k5;rw[<-av.out,<-bS.out];rfl,bR⟩
     |false=>
      go_wp2_with fail;refine(ce cw cm).mono ?_;rintro e cE ⟨cx,rfl,b6,b3⟩;obtain⟨ck,cj⟩:=aB (KH b6) (bR.ext b3);clear b6 b3 aR;go_wp2_with fail;go_meet;exact⟨by unfold k5;rw[<-av.out,<-bS.out,<-ck.out];first|rfl|simp,cj⟩
   case rest=>
    obtain⟨rfl,ae⟩:=hcut;obtain⟨ac,an⟩:=aB (aD.ext ae) (bk.ext ae);clear ae aD bk bp cc cd ce;cases a7:k5 r with
    |true=>
     go_wp2;go_ret;exact⟨by simp[jd,af,ao,ag,ap,a7],an⟩
    |false=>
    have cz:=ac.cell' (i:=4) F;have cA:=ac.cell' (i:=5) F;have cB:=ac.cell' (i:=6) F;have co:=ac.cell' (i:=7) F;have cy:=ac.cell' (i:=0) F;go_upto_region 11 with(fail);go_cut [48] (fun v wx=>v= .bool (k6 r)/\wx=wc)
    case first=>
     have u:=O (show k6 r=((((decide (r.fr<0)||decide (24<r.fr))||(decide (r.tt<0)||decide (24<r.tt)))||(decide (r.fr=r.tt)&&decide (r.fr≠0)))||(decide (r.nd<0)||decide (16<r.nd)))from F);generalize hk:k6 r=R at*;clear hk;by_cases a9:r.fr<0
     ·have bx:decide (r.fr<0)=true:=aQ a9;rw[bx]at u;clear a9;have j:R=true:=by rw[u.out];simp
      subst j;clear u;go_wp2;go_meet;exact⟨by first|rfl|simp,F⟩
     have bx:decide (r.fr<0)=false:=aP a9;rw[bx]at u;clear a9;by_cases a_:24<r.fr
     ·have bz:decide (24<r.fr)=true:=aQ a_;rw[bz]at u;clear a_;have j:R=true:=by rw[u.out];simp
      subst j;clear u;go_wp2;go_meet;exact⟨by first|rfl|simp,F⟩
     have bz:decide (24<r.fr)=false:=aP a_;rw[bz]at u;clear a_;by_cases ba:r.tt<0
     ·have bA:decide (r.tt<0)=true:=aQ ba;rw[bA]at u;clear ba;have j:R=true:=by rw[u.out];simp
      subst j;clear u;go_wp2;go_meet;exact⟨by first|rfl|simp,F⟩
     have bA:decide (r.tt<0)=false:=aP ba;rw[bA]at u;clear ba;by_cases bc:24<r.tt
     ·have bB:decide (24<r.tt)=true:=aQ bc;rw[bB]at u;clear bc;have j:R=true:=by rw[u.out];simp
      subst j;clear u;go_wp2;go_meet;exact⟨by first|rfl|simp,F⟩
     have bB:decide (24<r.tt)=false:=aP bc;rw[bB]at u;clear bc;by_cases aq:r.fr=r.tt
     ·have bE:decide (r.fr=r.tt)=true:=aQ aq;have cr:(r.fr==r.tt)=true:=by simp[aq]
      rw[bE]at u;by_cases ai:r.fr=0
      ·have cs:decide (r.fr=0)=true:=aQ ai;have ct:(r.fr != 0)=false:=by simp[ai]
       have bL:decide (r.fr≠0)=false:=aP (fun h=>h ai);rw[bL]at u;clear aq ai;by_cases ab:r.nd<0
       ·have ar:decide (r.nd<0)=true:=aQ ab;rw[ar]at u;clear ab;have j:R=true:=by rw[u.out];simp
        subst j;clear u;go_wp2;go_meet;exact⟨by first|rfl|simp,F⟩
       have ar:decide (r.nd<0)=false:=aP ab;rw[ar]at u;clear ab;have j:R=decide (16<r.nd):=by rw[u.out];simp
       subst j;clear u;go_wp2;go_meet;exact⟨by first|rfl|simp,F⟩
      ·have cs:decide (r.fr=0)=false:=aP ai;have ct:(r.fr != 0)=true:=by simp[ai]
       have bL:decide (r.fr≠0)=true:=aQ ai;rw[bL]at u;clear aq ai;have j:R=true:=by rw[u.out];simp
       subst j;clear u;go_wp2;go_meet;exact⟨by first|rfl|simp,F⟩
     ·have bE:decide (r.fr=r.tt)=false:=aP aq;have cr:(r.fr==r.tt)=false:=by simp[aq]
      rw[bE]at u;clear aq;by_cases ab:r.nd<0
      ·have ar:decide (r.nd<0)=true:=aQ ab;rw[ar]at u;clear ab;have j:R=true:=by rw[u.out];simp
       subst j;clear u;go_wp2;go_meet;exact⟨by first|rfl|simp,F⟩
      have ar:decide (r.nd<0)=false:=aP ab;rw[ar]at u;clear ab;have j:R=decide (16<r.nd):=by rw[u.out];simp
      subst j;clear u;go_wp2;go_meet;exact⟨by first|rfl|simp,F⟩
    case rest=>
     obtain⟨rfl,rfl⟩:=hcut;cases a8:k6 r with
     |true=>
      go_wp2;go_ret;exact⟨by simp[jd,af,ao,ag,ap,a7,a8],an⟩
     |false=>
     have cb:0<=r.nd:=by
      by_cases h:r.nd<0
      ·exfalso;have:k6 r=true:=by unfold k6;rw[aQ h];simp
       rw[a8]at this;cases this
      ·omega
     go_upto_region 13 with(fail);go_cut [89] (fun v wx=>v= .bool (k7 r)/\wx=wc)
     case first=>
      have aa:=O (show k7 r=((decide (r.nd=0) != uq r.ow)||(r.deny&&decide (0<r.nd)))from F);generalize hk:k7 r=R at*;clear hk;have I:=O (show uq r.ow=r.ow.toList.isEmpty from F);generalize uq r.ow=a4 at*;generalize r.deny=a0 at*;by_cases bd:r.nd=0
      ·have bv:decide (r.nd=0)=true:=aQ bd;have bw:decide (0<r.nd)=false:=aP J;rw[bv,bw]at aa;clear bd cb;cases a4 with
       |true=>
        have E:r.ow.toList.isEmpty=true:=I.symm;have e2:r.ow.toList=[]:=isEmpty_iff.1 E;cases a0;all_goals
         have j:=aa.out;simp at j;subst j;clear aa I;go_wp2;go_meet;exact⟨by first|rfl|simp,F⟩
       |false=>
        have E:r.ow.toList.isEmpty=false:=I.symm;have e2:r.ow.toList≠[]:=fun h=>by rw[h]at E;cases E
        cases a0;all_goals
         have j:=aa.out;simp at j;subst j;clear aa I;go_wp2;go_meet;exact⟨by first|rfl|simp,F⟩
      ·have bv:decide (r.nd=0)=false:=aP bd;have bw:decide (0<r.nd)=true:=aQ J;rw[bv,bw]at aa;clear bd cb;cases a4 with
       |true=>
        have E:r.ow.toList.isEmpty=true:=I.symm;have e2:r.ow.toList=[]:=isEmpty_iff.1 E;cases a0;all_goals
         have j:=aa.out;simp at j;subst j;clear aa I;go_wp2;go_meet;exact⟨by first|rfl|simp,F⟩
       |false=>
        have E:r.ow.toList.isEmpty=false:=I.symm;have e2:r.ow.toList≠[]:=fun h=>by rw[h]at E;cases E
        cases a0;all_goals
         have j:=aa.out;simp at j;subst j;clear aa I;go_wp2;go_meet;exact⟨by first|rfl|simp,F⟩
     case rest=>
      obtain⟨rfl,rfl⟩:=hcut;cases b4:k7 r with
      |true=>
       go_wp2;go_ret;exact⟨by simp[jd,af,ao,ag,ap,a7,a8,b4],an⟩
      |false=>
       go_wp2;go_ret;exact⟨by simp[jd,af,ao,ag,ap,a7,a8,b4],an⟩
end Go.Proofs.YtjlhhnkhcbpnjaaGreatDoor
