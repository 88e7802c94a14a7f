/- Laws that the row leans on; no condition. -/
import Derived.Test.YtjlhhnkhcbpnjaaGreatDoorJ8
namespace Go.Proofs.YtjlhhnkhcbpnjaaGreatDoor
open Go Go.RowKit List Tryz
set_option linter.unusedVariables false
set_option linter.unusedSectionVars false
set_option linter.unusedSimpArgs false
set_option maxHeartbeats 40000000
set_option maxRecDepth 100000
theorem zU(k:Nat)(u:ByteArray)(n:Bool)(p:Addr)(w:World)(I:w.cell? p=some (.string u))(hc:∀w,Calls prog 184 #[.string u,.string ⟨#[jZ k]⟩] w fun e w'=>e= .returned (.bool n)/\w=w'):
 Calls prog 183 #[.string ⟨#[jZ k]⟩,.pointer (some p)] w fun e w'=>e= .returned (.bool n)/\w=w':=by
 obtain⟨R,j⟩:=aB I hc;obtain⟨aa,E⟩:=aC ((⟨#[jZ k]⟩:ByteArray):ByteArray);rw[E]at j⊢;clear I hc E;go_enter func183,ntmps183;go_wp2_with (first|(refine jU F (kT F F R oO) ?_));refine(j w).mono ?_;rintro e w' ⟨rfl,rfl⟩;go_wp2_with fail;go_ret;exact⟨F,F⟩
theorem BG(n a b:Int)(w:World):
 Calls prog 185 #[.int .i64 n,.int .i64 a,.int .i64 b] w fun e w'=>e= .returned (.bool (!dR n a b))/\w=w':=by
 by_cases u:a<=n
 ·by_cases E:n<=b
  ·have j:dR n a b=false:=by unfold dR;simp;omega
   have I:decide (a<=n)=true:=aQ u;have R:decide (n<=b)=true:=aQ E;rw[j];clear j u E;go_enter func185,ntmps185;go_wp2;go_ret;exact⟨F,F⟩
  ·have j:dR n a b=true:=by unfold dR;simp;omega
   have I:decide (a<=n)=true:=aQ u;have R:decide (n<=b)=false:=aP E;rw[j];clear j u E;go_enter func185,ntmps185;go_wp2;go_ret;exact⟨F,F⟩
 ·have j:dR n a b=true:=by unfold dR;simp;omega
  have I:decide (a<=n)=false:=aP u;rw[j];clear j u;go_enter func185,ntmps185;go_wp2;go_ret;exact⟨F,F⟩
def Gz(act:Int)(b:ay):Bool:=
 (dK act 6&&dR b.purpose 1 3)||((dK act 7&&dR b.reason 0 255)||((dK act 10&&dR b.version 0 255)||((dK act 8&&dR b.need 1 32)||((dK act 5&&dR b.epoch 0 4294967295)||(dK act 11&&dR b.count 0 65536)))))
theorem X9{act:Int}{b:ay}(h:nX b (lT act)=false):Gz act b=pJ act b:=by
 have z:=Qb h;unfold Gz pJ;have I:(dK act 7&&dR b.reason 0 255)=dR b.reason 0 255:=by
  cases hn:dK act 7 with
  |true=>rfl
  |false=>rw[z.a hn];rfl
 have j:(dK act 10&&dR b.version 0 255)=dR b.version 0 255:=by
  cases hn:dK act 10 with
  |true=>rfl
  |false=>rw[z.v hn];rfl
 have E:(dK act 5&&dR b.epoch 0 4294967295)=dR b.epoch 0 4294967295:=by
  cases hn:dK act 5 with
  |true=>rfl
  |false=>rw[z.e hn];rfl
 have u:(dK act 11&&dR b.count 0 65536)=dR b.count 0 65536:=by
  cases hn:dK act 11 with
  |true=>rfl
  |false=>rw[z.k hn];rfl
 rw[I,j,E,u];simp only[Bool.or_assoc]
theorem Qn(act:Int)(b:ay)(w:World)(aw:b.Ok w):
 Calls prog 129 #[.int .i64 act,.agg b.v.toArray] w fun e w'=>e= .returned (.int .i64 (jS act b))/\X w w':=by
 have bo:=O aw;obtain⟨E,ad⟩:=aC (jS act b);rw[ad];unfold jS at ad;by_cases bh:act<1
 ·have ar:iI act=false:=by unfold iI;rw[aP J];rfl
  rw[ar]at ad;have R:(3:Int)=E:=ad;have I:=O R;have br:decide (act<1)=true:=aQ bh;clear ad R ar bh aw;go_enter func129,ntmps129;go_wp2_with fail;go_ret;exact⟨by rw[<-I.out];rfl,(X.refl w).alloc _⟩
 by_cases ck:12<act
 ·have ar:iI act=false:=by unfold iI;rw[aP (show¬act<=12 by omega),Bool.and_false]
  rw[ar]at ad;have R:(3:Int)=E:=ad;have I:=O R;have br:decide (act<1)=false:=aP bh;have ce:decide (12<act)=true:=aQ ck;clear ad R ar bh ck aw;go_enter func129,ntmps129;go_wp2_with fail;go_ret;exact⟨by rw[<-I.out];rfl,(X.refl w).alloc _⟩
 have ar:iI act=true:=by unfold iI;rw[aQ (show 1<=act by omega),aQ (show act<=12 by omega)];rfl
 have br:decide (act<1)=false:=aP bh;have ce:decide (12<act)=false:=aP ck;obtain⟨co,ax⟩:=aB (fun w' h=>X8 act b w' h ar) (fun k w hk=>Qj act k w ar hk);obtain⟨K,rfl⟩:∃K:Nat,act=(K:Int):=⟨act.toNat,J⟩;have c2:=O (fun w=>Gy K w J);obtain⟨u,c1⟩:=aC ((⟨(rF K).toArray⟩:ByteArray):ByteArray);rw[show(K:Int).toNat=K from F,c1]at ax;rw[c1]at c2;have cY:nX b (lT (K:Int))=false->Gz (K:Int) b=pJ (K:Int) b:=X9;rw[ar]at ad;clear c1 ar bh ck aw;go_enter func129,ntmps129;go_upto_region 1 with(fail);generalize c3:World.alloc w _=cE;have dy:ah cE w.heap.size b.v 101:=by rw[<-c3];exact ah.aI F F
 have cT:X w cE:=by rw[<-c3];exact(X.refl w).alloc _
 obtain⟨b7,cI,cL,dp⟩:=bU dy cT (bo.ext cT) (ay.len bo);clear c3 dy cT;cases bi:nX b (lT (K:Int))with
 |true=>
  rw[bi]at ad;have R:(2:Int)=E:=ad;have I:=O R;have a7:=co.out cE cL;rw[bi]at a7;have cb:=O a7;clear ad R a7 cY co;go_wp2_with (refine bV F 101 (.tmp 3) F F b7 eP dp ?_);refine cb.mono ?_;rintro e w2 ⟨rfl,e2⟩;have eA:=O (cI.ext e2);clear e2;go_wp2_with fail;go_ret;exact⟨by rw[<-I.out];rfl,eA⟩
 |false=>
 rw[bi]at ad;rw[<-cY bi]at ad;have a7:=co.out cE cL;rw[bi]at a7;obtain⟨cb,I⟩:=aB a7 ad;clear ad a7 cY co bi;go_wp2_with (refine bV F 101 (.tmp 3) F F b7 eP dp ?_);refine cb.mono ?_;rintro e w2 ⟨rfl,e2⟩;obtain⟨c8,db⟩:=aB (b7.ext e2) (cI.ext e2);clear e2 b7 cI cL cb;go_wp2_with fail;refine(c2 w2).mono ?_;rintro e b1 ⟨rfl,cS⟩;obtain⟨c9,dc⟩:=aB (c8.ext cS) (db.ext cS);clear cS c8 db c2;go_upto_region 9 with(fail);generalize c4:World.alloc b1 _=cF;have c7:ah cF b1.heap.size [.string u] 9:=by rw[<-c4];exact ah.aI F F
 have cU:X b1 cF:=by rw[<-c4];exact(X.refl b1).alloc _
 obtain⟨a6,d'⟩:=aC b1.heap.size;rw[d']at c7⊢;obtain⟨a9,aE,dv⟩:=aW (c9.ext cU) (dc.ext cU) c7;have ba:=O (bo.ext aE);clear c4 c7 cU d' c9 dc;have bp:=a9.cell' (ay.aL b);have a4:=a9.cell' (ay.pI ba);have ai:=a9.cell' (ay.xB ba);by_cases bx:32768<b.text.size
 ·have cR:decide (32768<b.text.size)=true:=aQ bx;have cf:decide ((32768:Int)<(b.text.size:Int))=true:=aQ J;have R:(5:Int)=E:=by rw[<-I.out];simp[bx]
  clear I;have I:=O R;clear R bx;go_wp2;go_ret;exact⟨by rw[<-I.out];rfl,aE⟩
 have cR:decide (32768<b.text.size)=false:=aP bx;have eS:decide ((32768:Int)<(b.text.size:Int))=false:=aP J;by_cases bz:16<b.rn
 ·have cf:decide (16<b.rn)=true:=aQ bz;have cg:decide ((16:Int)<(b.rn:Int))=true:=aQ J;have R:(5:Int)=E:=by rw[<-I.out];simp[bz]
  clear I;have I:=O R;clear R bz;go_wp2;go_ret;exact⟨by rw[<-I.out];rfl,aE⟩
 have cf:decide (16<b.rn)=false:=aP bz;have eV:decide ((16:Int)<(b.rn:Int))=false:=aP J;by_cases b0:32<b.hn
 ·have cg:decide (32<b.hn)=true:=aQ b0;have fd:decide ((32:Int)<(b.hn:Int))=true:=aQ J;have R:(5:Int)=E:=by rw[<-I.out];simp[b0]
  clear I;have I:=O R;clear R b0;go_wp2;go_ret;exact⟨by rw[<-I.out];rfl,aE⟩
 have cg:decide (32<b.hn)=false:=aP b0;have eW:decide ((32:Int)<(b.hn:Int))=false:=aP J;have cc:=I.out;rw[cR,cf,cg]at cc;obtain⟨a0,cn⟩:=aC (vV b.roles);rw[cn]at cc;have d6:ng (pz b.roles 0) (b.roles.drop 0)=a0:=cn;obtain⟨eK,dr⟩:=aB cn d6;clear I cn d6;have I:=O cc;clear cc;have cM:=O ba.rl;go_upto_block 0 with(fail);go_cut [] (fun wx=>a0=0/\X cF wx)
 case first=>
  go_wp2_with fail;go_loopw [46] (fun i wr=>∃k:Nat,k<=b.rn/\i= .int .i64 (k:Int)/\ng (pz b.roles k) (b.roles.drop k)=a0/\X cF wr) (fun i _=>b.rn - (intOf i).toNat)
  case atStart=>exact⟨0,J,F,dr,X.refl _⟩
  case round=>
   obtain⟨k,hk,rfl,af,ch⟩:=hrel;obtain⟨b8,b',en⟩:=aW ch (ba.ext ch) (a9.ext ch);clear ch;by_cases az:k<b.rn
   ·have e_:decide ((k:Int)<(b.rn:Int))=true:=aQ J;have e':decide (k<b.rn)=true:=aQ az;have cN:=cM.out;obtain⟨x,bj⟩:∃x,b.roles[k]? =some x:=⟨b.roles[k]'J,List.getElem?_eq_getElem _⟩;rw[Ou bj]at af;obtain⟨A,bu,d7⟩:=zC b'.nU bj;obtain⟨cJ,ca,bm⟩:=aW d7 bu (fun w'=>Ec x w' (by have:=b'.rs x (mem_of_getElem? bj);omega));clear d7 cN;cases a8:jK x.data.toList with
    |false=>
     rw[a8]at bm af;have R:(6:Int)=E:=by
      have e1:a0=6:=by rw[<-af];rfl
      rw[<-I.out,e1];rfl
     have eE:=O R;clear af bj R bu bp a4 ai;go_wp2_with (first|(refine jU F (fP (p:=A) (i:=k) F (by show Value.slice b.ra b.rn b.rc=_;rw[ca.out]) F underlying98 tV az _) ?_)|(refine jU F (kT F F cJ oO) ?_));refine(bm wr).mono ?_;rintro e el ⟨rfl,aq⟩;have a_:=O (b8.ext aq);clear aq;go_wp2_with fail;go_ret;exact⟨by rw[<-eE.out];rfl,aE.ext a_⟩
    |true=>
     rw[a8]at bm af;simp only[if_true]at af;cases k with
     |zero=>
      have aw:ng (pz b.roles 1) (b.roles.drop 1)=a0:=af;have eJ:=O aw;clear aw af bj bu bp a4 ai;go_wp2_with (first|(refine jU F (fP (p:=A) (i:=0) F (by show Value.slice b.ra b.rn b.rc=_;rw[ca.out]) F underlying98 tV az _) ?_)|(refine jU F (kT F F cJ oO) ?_));refine(bm wr).mono ?_;rintro e el ⟨rfl,aq⟩;have a_:=O (b8.ext aq);clear aq;go_wp2_with fail;go_roundw
      case rel=>exact⟨1,J,by go_num,eJ,a_⟩
      case measure=>simp[intOf];omega
     |succ j=>
      have cN:=cM.out;obtain⟨q,bv⟩:∃q,b.roles[j]? =some q:=⟨b.roles[j]'J,List.getElem?_eq_getElem _⟩;obtain⟨fb,cm,oz⟩:=zC b'.nU bv;rw[bu]at cm;injection cm with cm;subst cm;have de:=O oz;have eb:(if qY q x=true then ng (pz b.roles (j+2)) (b.roles.drop (j+2))else 9)=a0:=by
       rw[show pz b.roles (j+1)=some q from bv]at af;exact af
      obtain⟨dq,fc⟩:=aB eb (Oo q x);have cV:j<b.rn:=J;have eg:IntKind.i64.wrap (((j+1:Nat):Int) - 1)=(j:Int):=by rw[IntWalk.i64_in _ J];omega
      have ej:decide ((0:Int)<((j+1:Nat):Int))=true:=aQ J;clear oz bv af bj eb cN bp a4 ai bu;go_wp2_with (first|(refine jU F (fP (p:=A) (i:=j+1) F (by show Value.slice b.ra b.rn b.rc=_;rw[ca.out]) F underlying98 tV az _) ?_)|(refine jU F (kT F F cJ oO) ?_));refine(bm wr).mono ?_;rintro e el ⟨rfl,aq⟩;have eC:=O (gW de aq);have a4:=(en.ext aq).cell' (ay.pI b');rw[ca.out]at a4;have a_:=O (b8.ext aq);clear aq de;go_wp2_with (first|(refine jU F (fP (p:=A) (i:=j) F F F underlying98 tV cV _) ?_)|(refine jU F (kT F F eC oO) ?_))
      ·rename_i cW;have cX:qY q x=false:=by unfold qY;simpa using cW
       have cl:a0=9:=by rw[<-dq.out,cX];rfl
       have R:(9:Int)=E:=by rw[<-I.out,cl];rfl
       go_ret;exact⟨by rw[<-R];rfl,aE.ext a_⟩
      ·rename_i cW;have cX:qY q x=true:=by unfold qY;simpa using cW
       have e0:ng (pz b.roles (j+2)) (b.roles.drop (j+2))=a0:=by have:=dq.out;rw[cX]at this;simpa using this
       go_roundw
       case rel=>exact⟨j+2,J,by go_num,e0,a_⟩
       case measure=>simp[intOf];omega
   ·have e_:decide ((k:Int)<(b.rn:Int))=false:=aP J;have e':decide (k<b.rn)=false:=aP az;rw[Ov (by rw[cM.out];omega)]at af;have eI:=O af;clear af bp a4 ai;go_wp2_with fail;go_meet;exact⟨eI.symm,b8⟩
 case rest=>
 obtain⟨e3,bt⟩:=hcut;subst e3;obtain⟨bl,ao,cd,al⟩:=bU (a9.ext bt) (aE.ext bt) (dv.ext bt) (ba.ext bt);obtain⟨cG,ed⟩:=aC wc;rw[ed]at bl ao cd al⊢;clear ed bt a9 aE dv ba dr eK bp a4 ai br ce cR eS cf eV cg eW bx bz b0;have dC:=bl.cell' (ay.zH al);have a8:=O (fun w'=>Ec b.label w' (by have:=al.ls;omega));have cp:=cd.cell' (i:=0) (v:= .string u) F;have ac:=I.out;unfold Gz at ac;simp only[bne_self_eq_false,Bool.false_eq_true,if_false]at ac;have g3:=fun w' hc=>zU 3 u (dK (K:Int) 3) ⟨a6,0,none⟩ w' hc (fun w=>ax 3 w J);generalize dK (K:Int) 3=cs at g3 ac;have g3:=O g3;have g6:=fun w' hc=>zU 6 u (dK (K:Int) 6) ⟨a6,0,none⟩ w' hc (fun w=>ax 6 w J);generalize dK (K:Int) 6=cv at g6 ac;have g6:=O g6;have bd:=fun w' hc=>zU 7 u (dK (K:Int) 7) ⟨a6,0,none⟩ w' hc (fun w=>ax 7 w J);generalize dK (K:Int) 7=cw at bd ac;have bd:=O bd;have bc:=fun w' hc=>zU 10 u (dK (K:Int) 10) ⟨a6,0,none⟩ w' hc (fun w=>ax 10 w J);generalize dK (K:Int) 10=cr at bc ac;have bc:=O bc;have be:=fun w' hc=>zU 8 u (dK (K:Int) 8) ⟨a6,0,none⟩ w' hc (fun w=>ax 8 w J);generalize dK (K:Int) 8=cx at be ac;have be:=O be;have g5:=fun w' hc=>zU 5 u (dK (K:Int) 5) ⟨a6,0,none⟩ w' hc (fun w=>ax 5 w J);generalize dK (K:Int) 5=ct at g5 ac;have g5:=O g5;have a5:=fun w' hc=>zU 11 u (dK (K:Int) 11) ⟨a6,0,none⟩ w' hc (fun w=>ax 11 w J);generalize dK (K:Int) 11=eh at a5 ac;have a5:=O a5;generalize jK b.label.data.toList=cQ at a8 ac;have b4:=fun w'=>BG b.purpose 1 3 w';generalize dR b.purpose 1 3=cA at b4 ac;have b4:=O b4;have b5:=fun w'=>BG b.reason 0 255 w'
 generalize dR b.reason 0 255=cC at b5 ac;have b5:=O b5;have b2:=fun w'=>BG b.version 0 255 w';generalize dR b.version 0 255=cy at b2 ac;have b2:=O b2;have b6:=fun w'=>BG b.need 1 32 w';generalize dR b.need 1 32=cD at b6 ac;have b6:=O b6;have b3:=fun w'=>BG b.epoch 0 4294967295 w';generalize dR b.epoch 0 4294967295=cz at b3 ac;have b3:=O b3;have bk:=fun w'=>BG b.count 0 65536 w';generalize dR b.count 0 65536=ei at bk ac;have bk:=O bk;clear I ax;have I:=O ac;clear ac;go_upto_block 2 with(fail);go_cut [] (fun wx=>(cs&& !cQ)=false/\((cv&&cA)||((cw&&cC)||((cr&&cy)||((cx&&cD)||((ct&&cz)||(eh&&ei))))))=false/\X cG wx)
 case first=>
  go_upto_region 19 with(fail);go_cut [67] (fun v wx=>v= .bool (cs&& !cQ)/\X cG wx)
  case first=>
   cases cs with
   |false=>
    go_wp2_with fail;refine(g3 cG cp).mono ?_;rintro e ab ⟨rfl,rfl⟩;go_wp2_with fail;go_meet;exact⟨F,X.refl _⟩
   |true=>
    go_wp2_with fail;refine(g3 cG cp).mono ?_;rintro e ab ⟨rfl,rfl⟩;go_wp2_with fail;refine(a8 _).mono ?_;rintro e ab ⟨rfl,a1⟩;have b9:=O a1;clear a1;go_wp2_with fail;go_meet;exact⟨F,b9⟩
  case rest=>
  obtain⟨rfl,ci⟩:=hcut;obtain⟨a2,an⟩:=aB (bl.ext ci) ci;have ek:=(cd.ext ci).cell' (i:=0) (v:= .string u) F;have ae:=O ek;clear ci ek dC cp a8 g3;obtain⟨aa,ee⟩:=aC wc;rw[ee]at a2 an ae⊢;clear ee;generalize d0:(cs&& !cQ)=ev at I⊢;have dg:=O d0;clear d0;cases ev with
  |true=>
   have R:(6:Int)=E:=by rw[<-I.out];rfl
   clear I;go_wp2_with fail;go_ret;exact⟨by rw[<-R];rfl,ao.ext an⟩
  |false=>
  have e7:=a2.cell' (ay.nV al);go_upto_region 21 with(fail);go_cut [76] (fun v wx=>v= .bool (cv&&cA)/\wx=aa)
  case first=>
   cases cv with
   |false=>
    go_wp2_with fail;refine(g6 aa ae).mono ?_;rintro e ab ⟨rfl,rfl⟩;go_wp2_with fail;go_meet;exact⟨F,F⟩
   |true=>
    go_wp2_with fail;refine(g6 aa ae).mono ?_;rintro e ab ⟨rfl,rfl⟩;go_wp2_with fail;refine(b4 aa).mono ?_;rintro e ab ⟨rfl,rfl⟩;go_wp2_with fail;go_meet;exact⟨by cases cA<;>rfl,F⟩
  case rest=>
  obtain⟨rfl,ag⟩:=hcut;rw[ag];clear ag e7;generalize d2:(cv&&cA)=ex at I⊢;have dj:=O d2;clear d2;cases ex with
  |true=>
   have R:(4:Int)=E:=by rw[<-I.out];rfl
   clear I;go_wp2_with fail;go_ret;exact⟨by rw[<-R];rfl,ao.ext an⟩
  |false=>
  have e8:=a2.cell' (ay.oQ al);go_upto_region 22 with(fail);go_cut [76] (fun v wx=>v= .bool (cw&&cC)/\wx=aa)
  case first=>
   cases cw with
   |false=>
    go_wp2_with fail;refine(bd aa ae).mono ?_;rintro e ab ⟨rfl,rfl⟩;go_wp2_with fail;go_meet;exact⟨F,F⟩
   |true=>
    go_wp2_with fail;refine(bd aa ae).mono ?_;rintro e ab ⟨rfl,rfl⟩;go_wp2_with fail;refine(b5 aa).mono ?_;rintro e ab ⟨rfl,rfl⟩;go_wp2_with fail;go_meet;exact⟨by cases cC<;>rfl,F⟩
  case rest=>
  obtain⟨rfl,ag⟩:=hcut;rw[ag];clear ag e8;generalize d3:(cw&&cC)=ey at I⊢;have dk:=O d3;clear d3;cases ey with
  |true=>
   have R:(4:Int)=E:=by rw[<-I.out];rfl
   clear I;go_wp2_with fail;go_ret;exact⟨by rw[<-R];rfl,ao.ext an⟩
  |false=>
  have e5:=a2.cell' (ay.xA al);go_upto_region 23 with(fail);go_cut [76] (fun v wx=>v= .bool (cr&&cy)/\wx=aa)
  case first=>
   cases cr with
   |false=>
    go_wp2_with fail;refine(bc aa ae).mono ?_;rintro e ab ⟨rfl,rfl⟩;go_wp2_with fail;go_meet;exact⟨F,F⟩
   |true=>
    go_wp2_with fail;refine(bc aa ae).mono ?_;rintro e ab ⟨rfl,rfl⟩;go_wp2_with fail;refine(b2 aa).mono ?_;rintro e ab ⟨rfl,rfl⟩;go_wp2_with fail;go_meet;exact⟨by cases cy<;>rfl,F⟩
  case rest=>
  obtain⟨rfl,ag⟩:=hcut;rw[ag];clear ag e5;generalize dT:(cr&&cy)=et at I⊢;have df:=O dT;clear dT;cases et with
  |true=>
   have R:(4:Int)=E:=by rw[<-I.out];rfl
   clear I;go_wp2_with fail;go_ret;exact⟨by rw[<-R];rfl,ao.ext an⟩
  |false=>
  have e9:=a2.cell' (ay.xw al);go_upto_region 24 with(fail);go_cut [76] (fun v wx=>v= .bool (cx&&cD)/\wx=aa)
  case first=>
   cases cx with
   |false=>
    go_wp2_with fail;refine(be aa ae).mono ?_;rintro e ab ⟨rfl,rfl⟩;go_wp2_with fail;go_meet;exact⟨F,F⟩
   |true=>
    go_wp2_with fail;refine(be aa ae).mono ?_;rintro e ab ⟨rfl,rfl⟩;go_wp2_with fail;refine(b6 aa).mono ?_;rintro e ab ⟨rfl,rfl⟩;go_wp2_with fail;go_meet;exact⟨by cases cD<;>rfl,F⟩
  case rest=>
  obtain⟨rfl,ag⟩:=hcut;rw[ag];clear ag e9;generalize d4:(cx&&cD)=ez at I⊢;have dl:=O d4;clear d4;cases ez with
  |true=>
   have R:(4:Int)=E:=by rw[<-I.out];rfl
   clear I;go_wp2_with fail;go_ret;exact⟨by rw[<-R];rfl,ao.ext an⟩
  |false=>
  have e6:=a2.cell' (ay.mD al);go_upto_region 25 with(fail);go_cut [76] (fun v wx=>v= .bool (ct&&cz)/\wx=aa)
  case first=>
   cases ct with
   |false=>
    go_wp2_with fail;refine(g5 aa ae).mono ?_;rintro e ab ⟨rfl,rfl⟩;go_wp2_with fail;go_meet;exact⟨F,F⟩
   |true=>
    go_wp2_with fail;refine(g5 aa ae).mono ?_;rintro e ab ⟨rfl,rfl⟩;go_wp2_with fail;refine(b3 aa).mono ?_;rintro e ab ⟨rfl,rfl⟩;go_wp2_with fail;go_meet;exact⟨by cases cz<;>rfl,F⟩
  case rest=>
  obtain⟨rfl,ag⟩:=hcut;rw[ag];clear ag e6;generalize d1:(ct&&cz)=ew at I⊢;have di:=O d1;clear d1;cases ew with
  |true=>
   have R:(4:Int)=E:=by rw[<-I.out];rfl
   clear I;go_wp2_with fail;go_ret;exact⟨by rw[<-R];rfl,ao.ext an⟩
  |false=>
  have ff:=a2.cell' (ay.Bh al);cases eh with
  |false=>
   go_wp2_with fail;refine(a5 aa ae).mono ?_;rintro e ab ⟨rfl,rfl⟩;go_wp2_with fail;go_meet;exact⟨dg,by rw[dj.out,dk.out,df.out,dl.out,di.out];rfl,an⟩
  |true=>
   cases ei with
   |true=>
    have R:(4:Int)=E:=by rw[<-I.out];rfl
    clear I;go_wp2_with fail;refine(a5 aa ae).mono ?_;rintro e ab ⟨rfl,rfl⟩;go_wp2_with fail;refine(bk aa).mono ?_;rintro e ab ⟨rfl,rfl⟩;go_wp2_with fail;go_ret;exact⟨by rw[<-R];rfl,ao.ext an⟩
   |false=>
    go_wp2_with fail;refine(a5 aa ae).mono ?_;rintro e ab ⟨rfl,rfl⟩;go_wp2_with fail;refine(bk aa).mono ?_;rintro e ab ⟨rfl,rfl⟩;go_wp2_with fail;go_meet;exact⟨dg,by rw[dj.out,dk.out,df.out,dl.out,di.out];rfl,an⟩
 case rest=>
 obtain⟨em,z2,cj⟩:=hcut;have d8:(if !tZ b.bH then(9:Int)else 0)=E:=by
  have cl:=I.out;rw[em,z2]at cl;simpa using cl
 obtain⟨dm,cH,dd,cP⟩:=bU d8 (bl.ext cj) (ao.ext cj) (al.ext cj);obtain⟨fa,ef⟩:=aC wc;rw[ef]at cH dd cP⊢;clear ef cj em z2 d8 I bl ao cd al dC cp a8 g3 g6 bd bc be g5 a5 b4 b5 b2 b6 b3 bk;have ai:=cH.cell' (ay.xB cP);go_wp2_with fail;go_loopw [134] (fun i wr=>∃k:Nat,k<=b.hn/\i= .int .i64 (k:Int)/\q_ b.bH k/\X fa wr) (fun i _=>b.hn - (intOf i).toNat)
 case atStart=>exact⟨0,J,F,q_.one _ J,X.refl _⟩
 case round=>
  obtain⟨k,hk,rfl,ec,a1⟩:=hrel;obtain⟨eo,a3,b9,da,ds⟩:=dM (cH.ext a1) (cP.ext a1) (dd.ext a1) a1 ec;clear a1 ec ai;have ai:=eo.cell' (ay.xB a3);by_cases az:k<b.hn
  ·have br:decide ((k:Int)<(b.hn:Int))=true:=aQ J;have ce:decide (k<b.hn)=true:=aQ az;have e4:=a3.hl;have fe:b.hn<=140737488355328:=bo.vZ;cases k with
   |zero=>
    have ej:decide ((0:Int)<((0:Nat):Int))=false:=F;clear ai;go_upto_region 31 with(fail);obtain⟨C,ap,aJ⟩:=jJ wr;refine wp_region_held_drew (S:=C) au ((ap _).2 (X.refl wr).drew) (fun Z=> ?_);refine aA 0 ?_;refine aA 1 ?_;refine aA 2 ?_;refine sF 3 ?_;refine sF 4 ?_;refine sF 5 ?_;refine sF 6 ?_;refine sF 7 ?_;refine sF 8 ?_;refine sF 9 ?_;refine sF 10 ?_;refine sF 11 ?_;refine sF 12 ?_;refine sF 13 ?_;refine sF 14 ?_;refine sF 15 ?_;refine aA 16 ?_;refine dH ?_;have bw:=(ap _).1 Z;go_wp2_with fail;go_roundw
    case rel=>exact⟨1,J,by go_num,q_.one _ J,da.ext bw⟩
    case measure=>simp[intOf];omega
   |succ j=>
    obtain⟨x,hx⟩:∃x,b.bH[j]? =some x:=⟨b.bH[j]'J,List.getElem?_eq_getElem _⟩;obtain⟨y,cq⟩:∃y,b.bH[j+1]? =some y:=⟨b.bH[j+1]'J,List.getElem?_eq_getElem _⟩;obtain⟨p,ea,c0⟩:=Gm a3.hcell a3.h16 hx;have c5:=a3.h16 x (mem_of_getElem? hx);have c6:=a3.h16 y (mem_of_getElem? cq);obtain⟨ep,er,eM,eQ,eL,eN,dt,du⟩:=jg (c0 j x hx) (c0 (j+1) y cq) (show(x.map Y).length=16 by rw[length_map];exact c5) (show(y.map Y).length=16 by rw[length_map];exact c6) c5 c6 hx cq;rw[ea]at ai;have c_:=O ai;have cV:j<b.hn:=J;have eg:IntKind.i64.wrap (j:Int)=(j:Int):=by have:=bo.vZ;exact IntWalk.i64_in _ J
    have ej:decide ((0:Int)<((j+1:Nat):Int))=true:=aQ J;clear c0 c5 c6 hx cq ea e4 ai;go_upto_region 31 with(fail);obtain⟨C,ap,aJ⟩:=jJ wr;refine wp_region_held_drew (S:=C) au ((ap _).2 (X.refl wr).drew) (fun Z=> ?_);refine aA 0 ?_;refine aA 1 ?_;refine aA 2 ?_;refine aA 3 ?_;refine dA 4 (fun am h=>gW c_ ((ap am).1 h)) ?_;refine aA 5 ?_;refine d_ 6 (v:= .int .i64 (j:Int)) F au au au (fun _ _ _ h=>h) (.inl ⟨F,fun wz _=> ?sub8⟩) Z ?rest8
    case sub8=>(go_simp;try exact eg)
    case rest8=>
    refine aH ?_;refine bD 7 F (bf F (fun am _=>fP (i:=j) F F F underlying99 zO cV am)) ?_;refine bD 8 F (bf F (fun am h=>bQ F F (ep.ext ((ap am).1 h)) dh eM)) ?_;refine aA 9 ?_;refine dA 10 (fun am h=>gW c_ ((ap am).1 h)) ?_;refine aA 11 ?_;refine bD 12 F (bf F (fun am _=>fP (i:=j+1) F F F underlying99 zO az am)) ?_;refine bD 13 F (bf F (fun am h=>bQ F F (er.ext ((ap am).1 h)) dh eQ)) ?_;refine aZ 14 ?_;intro eR d5;go_wp2_with fail;refine(Xh x y _ eL eN).mono ?_;rintro e wq ⟨rfl,dE⟩;replace Z:=aJ _ _ Z dE;go_wp2_with fail;refine d5 _ _ Z ?_;clear d5 eR dE;refine aH ?_;by_cases hc:eH x y<0
    ·have bv:decide (0<=eH x y)=false:=aP J;refine aA 15 ?_;refine aA 16 ?_;refine dH ?_;have bw:=(ap _).1 Z;go_wp2_with fail;go_roundw
     case rel=>exact⟨j+2,J,by go_num,ds.step dt du hc,da.ext bw⟩
     case measure=>simp[intOf];omega
    ·have bv:decide (0<=eH x y)=true:=aQ J;refine aA 15 ?_;refine aA 16 ?_;refine dH ?_;have bw:=(ap _).1 Z;have R:(9:Int)=E:=by rw[<-dm.out,Ph dt.out du.out hc];rfl
     go_wp2_with fail;go_ret;exact⟨by rw[<-R];rfl,b9.ext bw⟩
  ·have br:decide ((k:Int)<(b.hn:Int))=false:=aP J;have ce:decide (k<b.hn)=false:=aP az;have aw:tZ b.bH=true:=Gi.2 (by
    have:=a3.hl;rw[this,show b.hn=k by omega];exact ds)
   have R:(0:Int)=E:=by rw[<-dm.out,aw];rfl
   clear aw ai;go_wp2_with fail;go_ret;exact⟨by rw[<-R];rfl,b9⟩
end Go.Proofs.YtjlhhnkhcbpnjaaGreatDoor
