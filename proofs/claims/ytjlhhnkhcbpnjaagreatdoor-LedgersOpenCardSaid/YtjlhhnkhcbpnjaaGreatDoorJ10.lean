/- Laws that the row leans on; no condition. -/
import Derived.Test.YtjlhhnkhcbpnjaaGreatDoorJ9
namespace Go.Proofs.YtjlhhnkhcbpnjaaGreatDoor
open Go Go.RowKit List Tryz
set_option linter.unusedVariables false
set_option linter.unusedSimpArgs false
set_option maxHeartbeats 40000000
set_option maxRecDepth 100000
theorem zU(k:Nat)(u:ByteArray)(n:Bool)(p:Addr)(w:World)(I:w.cell? p=some (.string u))(hc:∀w,Calls prog 184 #[.string u,.string ⟨#[jZ k]⟩] w fun e w'=>e= .returned (.bool n)/\w=w'):
 Calls prog 183 #[.string ⟨#[jZ k]⟩,.pointer (some p)] w fun e w'=>e= .returned (.bool n)/\w=w':=by
 obtain⟨R,E⟩:=aB I hc;obtain⟨aa,j⟩:=aC ((⟨#[jZ k]⟩:ByteArray):ByteArray);rw[j]at E⊢;clear I hc j;go_enter func183,ntmps183;go_wp2_with (first|(refine jU F (kT F F R oO) ?_));refine(E w).mono ?_;rintro e w' ⟨rfl,rfl⟩;go_wp2_with fail;go_ret;exact⟨F,F⟩
theorem BG(n a b:Int)(w:World):
 Calls prog 185 #[.int .i64 n,.int .i64 a,.int .i64 b] w fun e w'=>e= .returned (.bool (!dR n a b))/\w=w':=by
 by_cases u:a<=n
 ·by_cases E:n<=b
  ·have j:dR n a b=false:=by unfold dR;simp;omega
   have I:decide (a<=n)=true:=aQ u;have R:decide (n<=b)=true:=aQ E;rw[j];clear j u E;go_enter func185,ntmps185;go_wp2;go_ret;exact⟨F,F⟩
  ·have j:dR n a b=true:=by unfold dR;simp;omega
   have I:decide (a<=n)=true:=aQ u;have R:decide (n<=b)=false:=aP E;rw[j];clear j u E;go_enter func185,ntmps185;go_wp2;go_ret;exact⟨F,F⟩
 ·have j:dR n a b=true:=by unfold dR;simp;omega
  have I:decide (a<=n)=false:=aP u;rw[j];clear j u;go_enter func185,ntmps185;go_wp2;go_ret;exact⟨F,F⟩
def Gz(act:Int)(b:ay):Bool:=
 (dK act 6&&dR b.purpose 1 3)||((dK act 7&&dR b.reason 0 255)||((dK act 10&&dR b.version 0 255)||((dK act 8&&dR b.need 1 32)||((dK act 5&&dR b.epoch 0 4294967295)||(dK act 11&&dR b.count 0 65536)))))
theorem X9{act:Int}{b:ay}(h:nX b (lT act)=false):Gz act b=pJ act b:=by
 have z:=Qb h;unfold Gz pJ;have u:(dK act 7&&dR b.reason 0 255)=dR b.reason 0 255:=by
  cases hn:dK act 7 with
  |true=>rfl
  |false=>rw[z.a hn];rfl
 have E:(dK act 10&&dR b.version 0 255)=dR b.version 0 255:=by
  cases hn:dK act 10 with
  |true=>rfl
  |false=>rw[z.v hn];rfl
 have I:(dK act 5&&dR b.epoch 0 4294967295)=dR b.epoch 0 4294967295:=by
  cases hn:dK act 5 with
  |true=>rfl
  |false=>rw[z.e hn];rfl
 have j:(dK act 11&&dR b.count 0 65536)=dR b.count 0 65536:=by
  cases hn:dK act 11 with
  |true=>rfl
  |false=>rw[z.k hn];rfl
 rw[u,E,I,j];simp only[Bool.or_assoc]
theorem Qn(act:Int)(b:ay)(w:World)(ap:b.Ok w):
 Calls prog 129 #[.int .i64 act,.agg b.v.toArray] w fun e w'=>e= .returned (.int .i64 (jS act b))/\X w w':=by
 have bj:=O ap;obtain⟨E,ad⟩:=aC (jS act b);rw[ad];unfold jS at ad;by_cases a8:act<1
 ·have ao:iI act=false:=by unfold iI;rw[aP J];rfl
  rw[ao]at ad;have R:(3:Int)=E:=ad;have I:=O R;have bu:decide (act<1)=true:=aQ a8;clear ad R ao a8 ap;go_enter func129,ntmps129;go_wp2_with fail;go_ret;exact⟨by rw[<-I.out];rfl,(X.refl w).alloc _⟩
 by_cases bB:12<act
 ·have ao:iI act=false:=by unfold iI;rw[aP (show¬act<=12 by omega),Bool.and_false]
  rw[ao]at ad;have R:(3:Int)=E:=ad;have I:=O R;have bu:decide (act<1)=false:=aP a8;have bE:decide (12<act)=true:=aQ bB;clear ad R ao a8 bB ap;go_enter func129,ntmps129;go_wp2_with fail;go_ret;exact⟨by rw[<-I.out];rfl,(X.refl w).alloc _⟩
 have ao:iI act=true:=by unfold iI;rw[aQ (show 1<=act by omega),aQ (show act<=12 by omega)];rfl
 have bu:decide (act<1)=false:=aP a8;have bE:decide (12<act)=false:=aP bB;obtain⟨co,aw⟩:=aB (fun w' h=>X8 act b w' h ao) (fun k w hk=>Qj act k w ao hk);obtain⟨K,rfl⟩:∃K:Nat,act=(K:Int):=⟨act.toNat,J⟩;have cD:=O (fun w=>Gy K w J);obtain⟨u,cw⟩:=aC ((⟨(rF K).toArray⟩:ByteArray):ByteArray);rw[show(K:Int).toNat=K from F,cw]at aw;rw[cw]at cD;have cN:nX b (lT (K:Int))=false->Gz (K:Int) b=pJ (K:Int) b:=X9;rw[ao]at ad;clear cw ao a8 bB ap;go_enter func129,ntmps129;go_upto_region 1 with(fail);generalize cE:World.alloc w _=cl;have dk:ah cl w.heap.size b.v 101:=by rw[<-cE];exact ah.aI F F
 have cH:X w cl:=by rw[<-cE];exact(X.refl w).alloc _
 obtain⟨bX,cx,cL,d3⟩:=bU dk cH (bj.ext cH) (ay.len bj);clear cE dk cH;cases a5:nX b (lT (K:Int))with
 |true=>
  rw[a5]at ad;have R:(2:Int)=E:=ad;have I:=O R;have a1:=co.out cl cL;rw[a5]at a1;have cd:=O a1;clear ad R a1 cN co;go_wp2_with (refine bV F 101 (.tmp 3) F F bX eP d3 ?_);refine cd.mono ?_;rintro e w2 ⟨rfl,e2⟩;have eD:=O (cx.ext e2);clear e2;go_wp2_with fail;go_ret;exact⟨by rw[<-I.out];rfl,eD⟩
 |false=>
 rw[a5]at ad;rw[<-cN a5]at ad;have a1:=co.out cl cL;rw[a5]at a1;obtain⟨cd,I⟩:=aB a1 ad;clear ad a1 cN co a5;go_wp2_with (refine bV F 101 (.tmp 3) F F bX eP d3 ?_);refine cd.mono ?_;rintro e w2 ⟨rfl,e2⟩;obtain⟨c4,d1⟩:=aB (bX.ext e2) (cx.ext e2);clear e2 bX cx cL cd;go_wp2_with fail;refine(cD w2).mono ?_;rintro e bh ⟨rfl,cF⟩;obtain⟨d0,ds⟩:=aB (c4.ext cF) (d1.ext cF);clear cF c4 d1 cD;go_upto_region 9 with(fail);generalize cM:World.alloc bh _=b';have cJ:ah b' bh.heap.size [.string u] 9:=by rw[<-cM];exact ah.aI F F
 have cK:X bh b':=by rw[<-cM];exact(X.refl bh).alloc _
 obtain⟨a0,di⟩:=aC bh.heap.size;rw[di]at cJ⊢;obtain⟨a_,aE,de⟩:=aW (d0.ext cK) (ds.ext cK) cJ;have bd:=O (bj.ext aE);clear cM cJ cK di d0 ds;have bm:=a_.cell' (ay.at0 b);have a2:=a_.cell' (ay.pI bd);have ai:=a_.cell' (ay.xB bd);by_cases bp:32768<b.text.size
 ·have cI:decide (32768<b.text.size)=true:=aQ bp;have cj:decide ((32768:Int)<(b.text.size:Int))=true:=aQ J;have R:(5:Int)=E:=by rw[<-I.out];simp[bp]
  clear I;have I:=O R;clear R bp;go_wp2;go_ret;exact⟨by rw[<-I.out];rfl,aE⟩
 have cI:decide (32768<b.text.size)=false:=aP bp;have ek:decide ((32768:Int)<(b.text.size:Int))=false:=aP J;by_cases bi:16<b.rn
 ·have cj:decide (16<b.rn)=true:=aQ bi;have cg:decide ((16:Int)<(b.rn:Int))=true:=aQ J;have R:(5:Int)=E:=by rw[<-I.out];simp[bi]
  clear I;have I:=O R;clear R bi;go_wp2;go_ret;exact⟨by rw[<-I.out];rfl,aE⟩
 have cj:decide (16<b.rn)=false:=aP bi;have d9:decide ((16:Int)<(b.rn:Int))=false:=aP J;by_cases bt:32<b.hn
 ·have cg:decide (32<b.hn)=true:=aQ bt;have eM:decide ((32:Int)<(b.hn:Int))=true:=aQ J;have R:(5:Int)=E:=by rw[<-I.out];simp[bt]
  clear I;have I:=O R;clear R bt;go_wp2;go_ret;exact⟨by rw[<-I.out];rfl,aE⟩
 have cg:decide (32<b.hn)=false:=aP bt;have ep:decide ((32:Int)<(b.hn:Int))=false:=aP J;have cm:=I.out;rw[cI,cj,cg]at cm;obtain⟨aD,cp⟩:=aC (vV b.roles);rw[cp]at cm;have c9:ng (pz b.roles 0) (b.roles.drop 0)=aD:=cp;obtain⟨ee,dc⟩:=aB cp c9;clear I cp c9;have I:=O cm;clear cm;have cG:=O bd.rl;go_upto_block 0 with(fail);go_cut [] (fun wx=>aD=0/\X b' wx)
 case first=>
  go_wp2_with fail;go_loopw [46] (fun i wr=>∃k:Nat,k<=b.rn/\i= .int .i64 (k:Int)/\ng (pz b.roles k) (b.roles.drop k)=aD/\X b' wr) (fun i _=>b.rn - (intOf i).toNat)
  case atStart=>exact⟨0,J,F,dc,X.refl _⟩
  case round=>
   obtain⟨k,hk,rfl,af,ck⟩:=hrel;obtain⟨ca,b5,em⟩:=aW ck (bd.ext ck) (a_.ext ck);clear ck;by_cases ax:k<b.rn
   ·have d':decide ((k:Int)<(b.rn:Int))=true:=aQ J;have ey:decide (k<b.rn)=true:=aQ ax;have cs:=cG.out;obtain⟨x,a6⟩:∃x,b.roles[k]? =some x:=⟨b.roles[k]'J,List.getElem?_eq_getElem _⟩;rw[Ou a6]at af;obtain⟨A,bl,dp⟩:=zC b5.nU a6;obtain⟨cP,b8,bx⟩:=aW dp bl (fun w'=>Ec x w' (by have:=b5.rs x (mem_of_getElem? a6);omega));clear dp cs;cases a3:jK x.data.toList with
    |false=>
     rw[a3]at bx af;have R:(6:Int)=E:=by
      have eC:aD=6:=by rw[<-af];rfl
      rw[<-I.out,eC];rfl
     have eA:=O R;clear af a6 R bl bm a2 ai;go_wp2_with (first|(refine jU F (fP (p:=A) (i:=k) F (by show Value.slice b.ra b.rn b.rc=_;rw[b8.out]) F underlying98 tV ax _) ?_)|(refine jU F (kT F F cP oO) ?_));refine(bx wr).mono ?_;rintro e df ⟨rfl,aq⟩;have bc:=O (ca.ext aq);clear aq;go_wp2_with fail;go_ret;exact⟨by rw[<-eA.out];rfl,aE.ext bc⟩
    |true=>
     rw[a3]at bx af;simp only[if_true]at af;cases k with
     |zero=>
      have ap:ng (pz b.roles 1) (b.roles.drop 1)=aD:=af;have eB:=O ap;clear ap af a6 bl bm a2 ai;go_wp2_with (first|(refine jU F (fP (p:=A) (i:=0) F (by show Value.slice b.ra b.rn b.rc=_;rw[b8.out]) F underlying98 tV ax _) ?_)|(refine jU F (kT F F cP oO) ?_));refine(bx wr).mono ?_;rintro e df ⟨rfl,aq⟩;have bc:=O (ca.ext aq);clear aq;go_wp2_with fail;go_roundw
      case rel=>exact⟨1,J,by go_num,eB,bc⟩
      case measure=>simp[intOf];omega
     |succ j=>
      have cs:=cG.out;obtain⟨q,bz⟩:∃q,b.roles[j]? =some q:=⟨b.roles[j]'J,List.getElem?_eq_getElem _⟩;obtain⟨eL,ch,oz⟩:=zC b5.nU bz;rw[bl]at ch;injection ch with ch;subst ch;have dv:=O oz;have da:(if qY q x=true then ng (pz b.roles (j+2)) (b.roles.drop (j+2))else 9)=aD:=by
       rw[show pz b.roles (j+1)=some q from bz]at af;exact af
      obtain⟨dg,eN⟩:=aB da (Oo q x);have ct:j<b.rn:=J;have cR:IntKind.i64.wrap (((j+1:Nat):Int) - 1)=(j:Int):=by rw[IntWalk.i64_in _ J];omega
      have cU:decide ((0:Int)<((j+1:Nat):Int))=true:=aQ J;clear oz bz af a6 da cs bm a2 ai bl;go_wp2_with (first|(refine jU F (fP (p:=A) (i:=j+1) F (by show Value.slice b.ra b.rn b.rc=_;rw[b8.out]) F underlying98 tV ax _) ?_)|(refine jU F (kT F F cP oO) ?_));refine(bx wr).mono ?_;rintro e df ⟨rfl,aq⟩;have ec:=O (gW dv aq);have a2:=(em.ext aq).cell' (ay.pI b5);rw[b8.out]at a2;have bc:=O (ca.ext aq);clear aq dv;go_wp2_with (first|(refine jU F (fP (p:=A) (i:=j) F F F underlying98 tV ct _) ?_)|(refine jU F (kT F F ec oO) ?_))
      ·rename_i cz;have cq:qY q x=false:=by unfold qY;simpa using cz
       have b0:aD=9:=by rw[<-dg.out,cq];rfl
       have R:(9:Int)=E:=by rw[<-I.out,b0];rfl
       go_ret;exact⟨by rw[<-R];rfl,aE.ext bc⟩
      ·rename_i cz;have cq:qY q x=true:=by unfold qY;simpa using cz
       have d5:ng (pz b.roles (j+2)) (b.roles.drop (j+2))=aD:=by have:=dg.out;rw[cq]at this;simpa using this
       go_roundw
       case rel=>exact⟨j+2,J,by go_num,d5,bc⟩
       case measure=>simp[intOf];omega
   ·have d':decide ((k:Int)<(b.rn:Int))=false:=aP J;have ey:decide (k<b.rn)=false:=aP ax;rw[Ov (by rw[cG.out];omega)]at af;have eo:=O af;clear af bm a2 ai;go_wp2_with fail;go_meet;exact⟨eo.symm,ca⟩
 case rest=>
 obtain⟨ea,bv⟩:=hcut;subst ea;obtain⟨bA,av,bL,am⟩:=bU (a_.ext bv) (aE.ext bv) (de.ext bv) (bd.ext bv);obtain⟨cb,dx⟩:=aC wc;rw[dx]at bA av bL am⊢;clear dx bv a_ aE de bd dc ee bm a2 ai bu bE cI ek cj d9 cg ep bp bi bt;have dT:=bA.cell' (ay.zH am);have a3:=O (fun w'=>Ec b.label w' (by have:=am.ls;omega));have b6:=bL.cell' (i:=0) (v:= .string u) F;have ac:=I.out;unfold Gz at ac;simp only[bne_self_eq_false,Bool.false_eq_true,if_false]at ac;have g3:=fun w' hc=>zU 3 u (dK (K:Int) 3) ⟨a0,0,none⟩ w' hc (fun w=>aw 3 w J);generalize dK (K:Int) 3=b2 at g3 ac;have g3:=O g3;have g6:=fun w' hc=>zU 6 u (dK (K:Int) 6) ⟨a0,0,none⟩ w' hc (fun w=>aw 6 w J);generalize dK (K:Int) 6=b7 at g6 ac;have g6:=O g6;have a9:=fun w' hc=>zU 7 u (dK (K:Int) 7) ⟨a0,0,none⟩ w' hc (fun w=>aw 7 w J);generalize dK (K:Int) 7=cf at a9 ac;have a9:=O a9;have ba:=fun w' hc=>zU 10 u (dK (K:Int) 10) ⟨a0,0,none⟩ w' hc (fun w=>aw 10 w J);generalize dK (K:Int) 10=bN at ba ac;have ba:=O ba;have a4:=fun w' hc=>zU 8 u (dK (K:Int) 8) ⟨a0,0,none⟩ w' hc (fun w=>aw 8 w J);generalize dK (K:Int) 8=bR at a4 ac;have a4:=O a4;have g5:=fun w' hc=>zU 5 u (dK (K:Int) 5) ⟨a0,0,none⟩ w' hc (fun w=>aw 5 w J);generalize dK (K:Int) 5=cn at g5 ac;have g5:=O g5;have aM:=fun w' hc=>zU 11 u (dK (K:Int) 11) ⟨a0,0,none⟩ w' hc (fun w=>aw 11 w J);generalize dK (K:Int) 11=dt at aM ac;have aM:=O aM;generalize jK b.label.data.toList=cA at a3 ac;have bw:=fun w'=>BG b.purpose 1 3 w';generalize dR b.purpose 1 3=b4 at bw ac;have bw:=O bw;have bq:=fun w'=>BG b.reason 0 255 w'
 generalize dR b.reason 0 255=b3 at bq ac;have bq:=O bq;have bo:=fun w'=>BG b.version 0 255 w';generalize dR b.version 0 255=ce at bo ac;have bo:=O bo;have be:=fun w'=>BG b.need 1 32 w';generalize dR b.need 1 32=cc at be ac;have be:=O be;have bk:=fun w'=>BG b.epoch 0 4294967295 w';generalize dR b.epoch 0 4294967295=bO at bk ac;have bk:=O bk;have a7:=fun w'=>BG b.count 0 65536 w';generalize dR b.count 0 65536=d2 at a7 ac;have a7:=O a7;clear I aw;have I:=O ac;clear ac;go_upto_block 2 with(fail);go_cut [] (fun wx=>(b2&& !cA)=false/\((b7&&b4)||((cf&&b3)||((bN&&ce)||((bR&&cc)||((cn&&bO)||(dt&&d2))))))=false/\X cb wx)
 case first=>
  go_upto_region 19 with(fail);go_cut [67] (fun v wx=>v= .bool (b2&& !cA)/\X cb wx)
  case first=>
   cases b2 with
   |false=>
    go_wp2_with fail;refine(g3 cb b6).mono ?_;rintro e ab ⟨rfl,rfl⟩;go_wp2_with fail;go_meet;exact⟨F,X.refl _⟩
   |true=>
    go_wp2_with fail;refine(g3 cb b6).mono ?_;rintro e ab ⟨rfl,rfl⟩;go_wp2_with fail;refine(a3 _).mono ?_;rintro e ab ⟨rfl,az⟩;have b9:=O az;clear az;go_wp2_with fail;go_meet;exact⟨F,b9⟩
  case rest=>
  obtain⟨rfl,b1⟩:=hcut;obtain⟨aL,an⟩:=aB (bA.ext b1) b1;have cT:=(bL.ext b1).cell' (i:=0) (v:= .string u) F;have ag:=O cT;clear b1 cT dT b6 a3 g3;obtain⟨aa,dz⟩:=aC wc;rw[dz]at aL an ag⊢;clear dz;generalize dr:(b2&& !cA)=ed at I⊢;have cX:=O dr;clear dr;cases ed with
  |true=>
   have R:(6:Int)=E:=by rw[<-I.out];rfl
   clear I;go_wp2_with fail;go_ret;exact⟨by rw[<-R];rfl,av.ext an⟩
  |false=>
  have en:=aL.cell' (ay.nV am);go_upto_region 21 with(fail);go_cut [76] (fun v wx=>v= .bool (b7&&b4)/\wx=aa)
  case first=>
   cases b7 with
   |false=>
    go_wp2_with fail;refine(g6 aa ag).mono ?_;rintro e ab ⟨rfl,rfl⟩;go_wp2_with fail;go_meet;exact⟨F,F⟩
   |true=>
    go_wp2_with fail;refine(g6 aa ag).mono ?_;rintro e ab ⟨rfl,rfl⟩;go_wp2_with fail;refine(bw aa).mono ?_;rintro e ab ⟨rfl,rfl⟩;go_wp2_with fail;go_meet;exact⟨by cases b4<;>rfl,F⟩
  case rest=>
  obtain⟨rfl,ae⟩:=hcut;rw[ae];clear ae en;generalize dq:(b7&&b4)=ex at I⊢;have dy:=O dq;clear dq;cases ex with
  |true=>
   have R:(4:Int)=E:=by rw[<-I.out];rfl
   clear I;go_wp2_with fail;go_ret;exact⟨by rw[<-R];rfl,av.ext an⟩
  |false=>
  have eI:=aL.cell' (ay.oQ am);go_upto_region 22 with(fail);go_cut [76] (fun v wx=>v= .bool (cf&&b3)/\wx=aa)
  case first=>
   cases cf with
   |false=>
    go_wp2_with fail;refine(a9 aa ag).mono ?_;rintro e ab ⟨rfl,rfl⟩;go_wp2_with fail;go_meet;exact⟨F,F⟩
   |true=>
    go_wp2_with fail;refine(a9 aa ag).mono ?_;rintro e ab ⟨rfl,rfl⟩;go_wp2_with fail;refine(bq aa).mono ?_;rintro e ab ⟨rfl,rfl⟩;go_wp2_with fail;go_meet;exact⟨by cases b3<;>rfl,F⟩
  case rest=>
  obtain⟨rfl,ae⟩:=hcut;rw[ae];clear ae eI;generalize dd:(cf&&b3)=eh at I⊢;have dm:=O dd;clear dd;cases eh with
  |true=>
   have R:(4:Int)=E:=by rw[<-I.out];rfl
   clear I;go_wp2_with fail;go_ret;exact⟨by rw[<-R];rfl,av.ext an⟩
  |false=>
  have ej:=aL.cell' (ay.xA am);go_upto_region 23 with(fail);go_cut [76] (fun v wx=>v= .bool (bN&&ce)/\wx=aa)
  case first=>
   cases bN with
   |false=>
    go_wp2_with fail;refine(ba aa ag).mono ?_;rintro e ab ⟨rfl,rfl⟩;go_wp2_with fail;go_meet;exact⟨F,F⟩
   |true=>
    go_wp2_with fail;refine(ba aa ag).mono ?_;rintro e ab ⟨rfl,rfl⟩;go_wp2_with fail;refine(bo aa).mono ?_;rintro e ab ⟨rfl,rfl⟩;go_wp2_with fail;go_meet;exact⟨by cases ce<;>rfl,F⟩
  case rest=>
  obtain⟨rfl,ae⟩:=hcut;rw[ae];clear ae ej;generalize c3:(bN&&ce)=d8 at I⊢;have dC:=O c3;clear c3;cases d8 with
  |true=>
   have R:(4:Int)=E:=by rw[<-I.out];rfl
   clear I;go_wp2_with fail;go_ret;exact⟨by rw[<-R];rfl,av.ext an⟩
  |false=>
  have et:=aL.cell' (ay.xw am);go_upto_region 24 with(fail);go_cut [76] (fun v wx=>v= .bool (bR&&cc)/\wx=aa)
  case first=>
   cases bR with
   |false=>
    go_wp2_with fail;refine(a4 aa ag).mono ?_;rintro e ab ⟨rfl,rfl⟩;go_wp2_with fail;go_meet;exact⟨F,F⟩
   |true=>
    go_wp2_with fail;refine(a4 aa ag).mono ?_;rintro e ab ⟨rfl,rfl⟩;go_wp2_with fail;refine(be aa).mono ?_;rintro e ab ⟨rfl,rfl⟩;go_wp2_with fail;go_meet;exact⟨by cases cc<;>rfl,F⟩
  case rest=>
  obtain⟨rfl,ae⟩:=hcut;rw[ae];clear ae et;generalize db:(bR&&cc)=ez at I⊢;have c6:=O db;clear db;cases ez with
  |true=>
   have R:(4:Int)=E:=by rw[<-I.out];rfl
   clear I;go_wp2_with fail;go_ret;exact⟨by rw[<-R];rfl,av.ext an⟩
  |false=>
  have ew:=aL.cell' (ay.mD am);go_upto_region 25 with(fail);go_cut [76] (fun v wx=>v= .bool (cn&&bO)/\wx=aa)
  case first=>
   cases cn with
   |false=>
    go_wp2_with fail;refine(g5 aa ag).mono ?_;rintro e ab ⟨rfl,rfl⟩;go_wp2_with fail;go_meet;exact⟨F,F⟩
   |true=>
    go_wp2_with fail;refine(g5 aa ag).mono ?_;rintro e ab ⟨rfl,rfl⟩;go_wp2_with fail;refine(bk aa).mono ?_;rintro e ab ⟨rfl,rfl⟩;go_wp2_with fail;go_meet;exact⟨by cases bO<;>rfl,F⟩
  case rest=>
  obtain⟨rfl,ae⟩:=hcut;rw[ae];clear ae ew;generalize du:(cn&&bO)=d4 at I⊢;have cS:=O du;clear du;cases d4 with
  |true=>
   have R:(4:Int)=E:=by rw[<-I.out];rfl
   clear I;go_wp2_with fail;go_ret;exact⟨by rw[<-R];rfl,av.ext an⟩
  |false=>
  have eJ:=aL.cell' (ay.Bh am);cases dt with
  |false=>
   go_wp2_with fail;refine(aM aa ag).mono ?_;rintro e ab ⟨rfl,rfl⟩;go_wp2_with fail;go_meet;exact⟨cX,by rw[dy.out,dm.out,dC.out,c6.out,cS.out];rfl,an⟩
  |true=>
   cases d2 with
   |true=>
    have R:(4:Int)=E:=by rw[<-I.out];rfl
    clear I;go_wp2_with fail;refine(aM aa ag).mono ?_;rintro e ab ⟨rfl,rfl⟩;go_wp2_with fail;refine(a7 aa).mono ?_;rintro e ab ⟨rfl,rfl⟩;go_wp2_with fail;go_ret;exact⟨by rw[<-R];rfl,av.ext an⟩
   |false=>
    go_wp2_with fail;refine(aM aa ag).mono ?_;rintro e ab ⟨rfl,rfl⟩;go_wp2_with fail;refine(a7 aa).mono ?_;rintro e ab ⟨rfl,rfl⟩;go_wp2_with fail;go_meet;exact⟨cX,by rw[dy.out,dm.out,dC.out,c6.out,cS.out];rfl,an⟩
 case rest=>
 obtain⟨dE,z2,bS⟩:=hcut;have c5:(if !tZ b.bH then(9:Int)else 0)=E:=by
  have b0:=I.out;rw[dE,z2]at b0;simpa using b0
 obtain⟨cQ,cr,dj,cv⟩:=bU c5 (bA.ext bS) (av.ext bS) (am.ext bS);obtain⟨ev,c_⟩:=aC wc;rw[c_]at cr dj cv⊢;clear c_ bS dE z2 c5 I bA av bL am dT b6 a3 g3 g6 a9 ba a4 g5 aM bw bq bo be bk a7;have ai:=cr.cell' (ay.xB cv);go_wp2_with fail;go_loopw [134] (fun i wr=>∃k:Nat,k<=b.hn/\i= .int .i64 (k:Int)/\q_ b.bH k/\X ev wr) (fun i _=>b.hn - (intOf i).toNat)
 case atStart=>exact⟨0,J,F,q_.one _ J,X.refl _⟩
 case round=>
  obtain⟨k,hk,rfl,c1,az⟩:=hrel;obtain⟨el,aR,b9,cV,c8⟩:=dM (cr.ext az) (cv.ext az) (dj.ext az) az c1;clear az c1 ai;have ai:=el.cell' (ay.xB aR);by_cases ax:k<b.hn
  ·have bu:decide ((k:Int)<(b.hn:Int))=true:=aQ J;have bE:decide (k<b.hn)=true:=aQ ax;have eE:=aR.hl;have eK:b.hn<=140737488355328:=bj.vZ;cases k with
   |zero=>
    have cU:decide ((0:Int)<((0:Nat):Int))=false:=F;clear ai;go_upto_region 31 with(fail);obtain⟨C,ar,aJ⟩:=jJ wr;refine wp_region_held_drew (S:=C) au ((ar _).2 (X.refl wr).drew) (fun Z=> ?_);refine aA 0 ?_;refine aA 1 ?_;refine aA 2 ?_;refine sF 3 ?_;refine sF 4 ?_;refine sF 5 ?_;refine sF 6 ?_;refine sF 7 ?_;refine sF 8 ?_;refine sF 9 ?_;refine sF 10 ?_;refine sF 11 ?_;refine sF 12 ?_;refine sF 13 ?_;refine sF 14 ?_;refine sF 15 ?_;refine aA 16 ?_;refine dH ?_;have br:=(ar _).1 Z;go_wp2_with fail;go_roundw
    case rel=>exact⟨1,J,by go_num,q_.one _ J,cV.ext br⟩
    case measure=>simp[intOf];omega
   |succ j=>
    obtain⟨x,hx⟩:∃x,b.bH[j]? =some x:=⟨b.bH[j]'J,List.getElem?_eq_getElem _⟩;obtain⟨y,ci⟩:∃y,b.bH[j+1]? =some y:=⟨b.bH[j+1]'J,List.getElem?_eq_getElem _⟩;obtain⟨p,c7,cy⟩:=Gm aR.hcell aR.h16 hx;have cC:=aR.h16 x (mem_of_getElem? hx);have cB:=aR.h16 y (mem_of_getElem? ci);obtain⟨d6,eb,ef,ei,eg,er,dl,cY⟩:=jg (cy j x hx) (cy (j+1) y ci) (show(x.map Y).length=16 by rw[length_map];exact cC) (show(y.map Y).length=16 by rw[length_map];exact cB) cC cB hx ci;rw[c7]at ai;have cW:=O ai;have ct:j<b.hn:=J;have cR:IntKind.i64.wrap (j:Int)=(j:Int):=by have:=bj.vZ;exact IntWalk.i64_in _ J
    have cU:decide ((0:Int)<((j+1:Nat):Int))=true:=aQ J;clear cy cC cB hx ci c7 eE ai;go_upto_region 31 with(fail);obtain⟨C,ar,aJ⟩:=jJ wr;refine wp_region_held_drew (S:=C) au ((ar _).2 (X.refl wr).drew) (fun Z=> ?_);refine aA 0 ?_;refine aA 1 ?_;refine aA 2 ?_;refine aA 3 ?_;refine dA 4 (fun al h=>gW cW ((ar al).1 h)) ?_;refine aA 5 ?_;refine d_ 6 (v:= .int .i64 (j:Int)) F au au au (fun _ _ _ h=>h) (.inl ⟨F,fun wz _=> ?sub8⟩) Z ?rest8
    case sub8=>(go_simp;try exact cR)
    case rest8=>
    refine aH ?_;refine bD 7 F (bf F (fun al _=>fP (i:=j) F F F underlying99 zO ct al)) ?_;refine bD 8 F (bf F (fun al h=>bQ F F (d6.ext ((ar al).1 h)) dh ef)) ?_;refine aA 9 ?_;refine dA 10 (fun al h=>gW cW ((ar al).1 h)) ?_;refine aA 11 ?_;refine bD 12 F (bf F (fun al _=>fP (i:=j+1) F F F underlying99 zO ax al)) ?_;refine bD 13 F (bf F (fun al h=>bQ F F (eb.ext ((ar al).1 h)) dh ei)) ?_;refine aZ 14 ?_;intro d7 c0;go_wp2_with fail;refine(Xh x y _ eg er).mono ?_;rintro e wq ⟨rfl,c2⟩;replace Z:=aJ _ _ Z c2;go_wp2_with fail;refine c0 _ _ Z ?_;clear c0 d7 c2;refine aH ?_;by_cases hc:eH x y<0
    ·have bz:decide (0<=eH x y)=false:=aP J;refine aA 15 ?_;refine aA 16 ?_;refine dH ?_;have br:=(ar _).1 Z;go_wp2_with fail;go_roundw
     case rel=>exact⟨j+2,J,by go_num,c8.step dl cY hc,cV.ext br⟩
     case measure=>simp[intOf];omega
    ·have bz:decide (0<=eH x y)=true:=aQ J;refine aA 15 ?_;refine aA 16 ?_;refine dH ?_;have br:=(ar _).1 Z;have R:(9:Int)=E:=by rw[<-cQ.out,Ph dl.out cY.out hc];rfl
     go_wp2_with fail;go_ret;exact⟨by rw[<-R];rfl,b9.ext br⟩
  ·have bu:decide ((k:Int)<(b.hn:Int))=false:=aP J;have bE:decide (k<b.hn)=false:=aP ax;have ap:tZ b.bH=true:=Gi.2 (by
    have:=aR.hl;rw[this,show b.hn=k by omega];exact c8)
   have R:(0:Int)=E:=by rw[<-cQ.out,ap];rfl
   clear ap ai;go_wp2_with fail;go_ret;exact⟨by rw[<-R];rfl,b9⟩
end Go.Proofs.YtjlhhnkhcbpnjaaGreatDoor
