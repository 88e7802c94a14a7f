/- Laws that the row leans on; no condition. -/
import Derived.Test.YtjlhhnkhcbpnjaaGreatDoorJM7
namespace Go.Proofs.YtjlhhnkhcbpnjaaGreatDoor
open Go Go.RowKit List Tryz
set_option linter.unusedVariables false
set_option linter.unusedSimpArgs false
set_option maxHeartbeats 40000000
set_option maxRecDepth 100000
theorem zU(k:Nat)(u:ByteArray)(n:Bool)(p:Addr)(w:World)(I:w.cell? p=some (.string u))(hc:∀w,Calls prog 184 #[.string u,.string ⟨#[jZ k]⟩] w fun e w'=>e= .returned (.bool n)/\w=w'):
 Br 183 #[.string ⟨#[jZ k]⟩,.pointer (some p)] w (.bool n):=by
 obtain⟨R,j⟩:=aB I hc;obtain⟨aa,E⟩:=aC ((⟨#[jZ k]⟩:ByteArray):ByteArray);rw[E]at j⊢;clear I hc E;go_enter func183,ntmps183;go_wp2_with (first|(refine jU F (kT F F R oO) ?_));refine(j w).mono ?_;rintro e w' ⟨rfl,rfl⟩;go_wp2_with fail;go_ret;exact⟨F,F⟩
theorem Kg(n a b:Int)(w:World):
 Br 185 #[.int .i64 n,.int .i64 a,.int .i64 b] w (.bool (!dR n a b)):=by
 by_cases u:a<=n
 ·by_cases E:n<=b
  ·have j:dR n a b=false:=by unfold dR;simp;omega
   have I:decide (a<=n)=true:=aQ u;have R:decide (n<=b)=true:=aQ E;rw[j];clear j u E;go_enter func185,ntmps185;go_wp2;go_ret;exact⟨F,F⟩
  ·have j:dR n a b=true:=by unfold dR;simp;omega
   have I:decide (a<=n)=true:=aQ u;have R:decide (n<=b)=false:=aP E;rw[j];clear j u E;go_enter func185,ntmps185;go_wp2;go_ret;exact⟨F,F⟩
 ·have j:dR n a b=true:=by unfold dR;simp;omega
  have I:decide (a<=n)=false:=aP u;rw[j];clear j u;go_enter func185,ntmps185;go_wp2;go_ret;exact⟨F,F⟩
def Gz(act:Int)(b:ay):Bool:=
 (dK act 6&&dR b.purpose 1 3)||((dK act 7&&dR b.reason 0 255)||((dK act 10&&dR b.version 0 255)||((dK act 8&&dR b.need 1 32)||((dK act 5&&dR b.epoch 0 4294967295)||(dK act 11&&dR b.count 0 65536)))))
theorem X9{act:Int}{b:ay}(h:nX b (lT act)=false):Gz act b=pJ act b:=by
 have z:=Qb h;unfold Gz pJ;have I:(dK act 7&&dR b.reason 0 255)=dR b.reason 0 255:=by
  cases hn:dK act 7 with
  |true=>rfl
  |false=>rw[z.a hn];rfl
 have j:(dK act 10&&dR b.version 0 255)=dR b.version 0 255:=by
  cases hn:dK act 10 with
  |true=>rfl
  |false=>rw[z.v hn];rfl
 have E:(dK act 5&&dR b.epoch 0 4294967295)=dR b.epoch 0 4294967295:=by
  cases hn:dK act 5 with
  |true=>rfl
  |false=>rw[z.e hn];rfl
 have u:(dK act 11&&dR b.count 0 65536)=dR b.count 0 65536:=by
  cases hn:dK act 11 with
  |true=>rfl
  |false=>rw[z.k hn];rfl
 rw[I,j,E,u];simp only[Bool.or_assoc]
theorem Qn(act:Int)(b:ay)(w:World)(ap:b.Ok w):
 nW 129 #[.int .i64 act,.agg b.v.toArray] w (.int .i64 (jS act b)):=by
 have bh:=O ap;obtain⟨E,ac⟩:=aC (jS act b);rw[ac];unfold jS at ac;by_cases a_:act<1
 ·have ao:iI act=false:=by unfold iI;rw[aP J];rfl
  rw[ao]at ac;have R:(3:Int)=E:=ac;have I:=O R;have bj:decide (act<1)=true:=aQ a_;clear ac R ao a_ ap;go_enter func129,ntmps129;go_wp2_with fail;go_ret;exact⟨by rw[<-I.out];rfl,(X.refl w).alloc _⟩
 by_cases cd:12<act
 ·have ao:iI act=false:=by unfold iI;rw[aP (show¬act<=12 by omega),Bool.and_false]
  rw[ao]at ac;have R:(3:Int)=E:=ac;have I:=O R;have bj:decide (act<1)=false:=aP a_;have b8:decide (12<act)=true:=aQ cd;clear ac R ao a_ cd ap;go_enter func129,ntmps129;go_wp2_with fail;go_ret;exact⟨by rw[<-I.out];rfl,(X.refl w).alloc _⟩
 have ao:iI act=true:=by unfold iI;rw[aQ (show 1<=act by omega),aQ (show act<=12 by omega)];rfl
 have bj:decide (act<1)=false:=aP a_;have b8:decide (12<act)=false:=aP cd;obtain⟨ch,aq⟩:=aB (fun w' h=>X8 act b w' h ao) (fun k w hk=>Qj act k w ao hk);obtain⟨K,rfl⟩:∃K:Nat,act=(K:Int):=⟨act.toNat,J⟩;have cQ:=O (fun w=>Gy K w J);obtain⟨u,cP⟩:=aC ((⟨(rF K).toArray⟩:ByteArray):ByteArray);rw[show(K:Int).toNat=K from F,cP]at aq;rw[cP]at cQ;have cM:nX b (lT (K:Int))=false->Gz (K:Int) b=pJ (K:Int) b:=X9;rw[ao]at ac;clear cP ao a_ cd ap;go_enter func129,ntmps129;go_upto_region 1 with(fail);generalize iX:World.alloc w _=cw;have dg:ah cw w.heap.size b.v 101:=by rw[<-iX];exact ah.aI F F
 have cH:X w cw:=by rw[<-iX];exact(X.refl w).alloc _
 obtain⟨b0,EA,cz,da⟩:=bU dg cH (bh.ext cH) (ay.len bh);clear iX dg cH;cases ba:nX b (lT (K:Int))with
 |true=>
  rw[ba]at ac;have R:(2:Int)=E:=ac;have I:=O R;have a3:=ch.out cw cz;rw[ba]at a3;have b5:=O a3;clear ac R a3 cM ch;go_wp2_with (refine bV F 101 (.tmp 3) F F b0 eP da ?_);refine b5.mono ?_;rintro e w2 ⟨rfl,e2⟩;have ei:=O (EA.ext e2);clear e2;go_wp2_with fail;go_ret;exact⟨by rw[<-I.out];rfl,ei⟩
 |false=>
 rw[ba]at ac;rw[<-cM ba]at ac;have a3:=ch.out cw cz;rw[ba]at a3;obtain⟨b5,I⟩:=aB a3 ac;clear ac a3 cM ch ba;go_wp2_with (refine bV F 101 (.tmp 3) F F b0 eP da ?_);refine b5.mono ?_;rintro e w2 ⟨rfl,e2⟩;obtain⟨cV,c0⟩:=aB (b0.ext e2) (EA.ext e2);clear e2 b0 EA cz b5;go_wp2_with fail;refine(cQ w2).mono ?_;rintro e bt ⟨rfl,cG⟩;obtain⟨cW,c1⟩:=aB (cV.ext cG) (c0.ext cG);clear cG cV c0 cQ;go_upto_region 9 with(fail);generalize cR:World.alloc bt _=wD;have cU:ah wD bt.heap.size [.string u] 9:=by rw[<-cR];exact ah.aI F F
 have cI:X bt wD:=by rw[<-cR];exact(X.refl bt).alloc _
 obtain⟨a2,dv⟩:=aC bt.heap.size;rw[dv]at cU⊢;obtain⟨a4,ar,df⟩:=aW (cW.ext cI) (c1.ext cI) cU;have a6:=O (bh.ext ar);clear cR cU cI dv cW c1;have bi:=a4.cell' (ay.aL b);have a0:=a4.cell' (ay.pI a6);have af:=a4.cell' (ay.xB a6);by_cases bo:32768<b.text.size
 ·have cF:decide (32768<b.text.size)=true:=aQ bo;have b9:decide ((32768:Int)<(b.text.size:Int))=true:=aQ J;have R:(5:Int)=E:=by rw[<-I.out];simp[bo]
  clear I;have I:=O R;clear R bo;go_wp2;go_ret;exact⟨by rw[<-I.out];rfl,ar⟩
 have cF:decide (32768<b.text.size)=false:=aP bo;have ew:decide ((32768:Int)<(b.text.size:Int))=false:=aP J;by_cases bp:16<b.rn
 ·have b9:decide (16<b.rn)=true:=aQ bp;have b':decide ((16:Int)<(b.rn:Int))=true:=aQ J;have R:(5:Int)=E:=by rw[<-I.out];simp[bp]
  clear I;have I:=O R;clear R bp;go_wp2;go_ret;exact⟨by rw[<-I.out];rfl,ar⟩
 have b9:decide (16<b.rn)=false:=aP bp;have ex:decide ((16:Int)<(b.rn:Int))=false:=aP J;by_cases br:32<b.hn
 ·have b':decide (32<b.hn)=true:=aQ br;have eV:decide ((32:Int)<(b.hn:Int))=true:=aQ J;have R:(5:Int)=E:=by rw[<-I.out];simp[br]
  clear I;have I:=O R;clear R br;go_wp2;go_ret;exact⟨by rw[<-I.out];rfl,ar⟩
 have b':decide (32<b.hn)=false:=aP br;have ey:decide ((32:Int)<(b.hn:Int))=false:=aP J;have b6:=I.out;rw[cF,b9,b']at b6;obtain⟨aw,cg⟩:=aC (vV b.roles);rw[cg]at b6;have dt:ng (pz b.roles 0) (b.roles.drop 0)=aw:=cg;obtain⟨en,dc⟩:=aB cg dt;clear I cg dt;have I:=O b6;clear b6;have cA:=O a6.rl;go_upto_block 0 with(fail);go_cut [] (fun wx=>aw=0/\X wD wx)
 case first=>
  go_wp2_with fail;go_loopw [46] (fun i wr=>∃k:Nat,k<=b.rn/\i= .int .i64 (k:Int)/\ng (pz b.roles k) (b.roles.drop k)=aw/\X wD wr) (fun i _=>b.rn - (intOf i).toNat)
  case atStart=>exact⟨0,J,F,dc,X.refl _⟩
  case round=>
   obtain⟨k,hk,rfl,ou,ca⟩:=hrel;obtain⟨b1,b3,d8⟩:=aW ca (a6.ext ca) (a4.ext ca);clear ca;by_cases j3:k<b.rn
   ·have eN:decide ((k:Int)<(b.rn:Int))=true:=aQ J;have eQ:decide (k<b.rn)=true:=aQ j3;have cC:=cA.out;obtain⟨x,pQ⟩:∃x,b.roles[k]? =some x:=⟨b.roles[k]'J,List.getElem?_eq_getElem _⟩;rw[Ou pQ]at ou;obtain⟨A,bl,Fu⟩:=zC b3.nU pQ;obtain⟨cy,b4,be⟩:=aW Fu bl (fun w'=>Ec x w' (by have:=b3.rs x (mem_of_getElem? pQ);omega));clear Fu cC;cases tL:jK x.data.toList with
    |false=>
     rw[tL]at be ou;have R:(6:Int)=E:=by
      have eA:aw=6:=by rw[<-ou];rfl
      rw[<-I.out,eA];rfl
     have ek:=O R;clear ou pQ R bl bi a0 af;go_wp2_with (first|(refine jU F (fP (p:=A) (i:=k) F (by show Value.slice b.ra b.rn b.rc=_;rw[b4.out]) F underlying98 tV j3 _) ?_)|(refine jU F (kT F F cy oO) ?_));refine(be wr).mono ?_;rintro e d6 ⟨rfl,an⟩;have a5:=O (b1.ext an);clear an;go_wp2_with fail;go_ret;exact⟨by rw[<-ek.out];rfl,ar.ext a5⟩
    |true=>
     rw[tL]at be ou;simp only[if_true]at ou;cases k with
     |zero=>
      have ap:ng (pz b.roles 1) (b.roles.drop 1)=aw:=ou;have em:=O ap;clear ap ou pQ bl bi a0 af;go_wp2_with (first|(refine jU F (fP (p:=A) (i:=0) F (by show Value.slice b.ra b.rn b.rc=_;rw[b4.out]) F underlying98 tV j3 _) ?_)|(refine jU F (kT F F cy oO) ?_));refine(be wr).mono ?_;rintro e d6 ⟨rfl,an⟩;have a5:=O (b1.ext an);clear an;go_wp2_with fail;go_roundw
      case rel=>exact⟨1,J,by go_num,em,a5⟩
      case measure=>simp[intOf];omega
     |succ j=>
      have cC:=cA.out;obtain⟨q,bm⟩:∃q,b.roles[j]? =some q:=⟨b.roles[j]'J,List.getElem?_eq_getElem _⟩;obtain⟨eR,cf,oz⟩:=zC b3.nU bm;rw[bl]at cf;injection cf with cf;subst cf;have c3:=O oz;have dC:(if qY q x=true then ng (pz b.roles (j+2)) (b.roles.drop (j+2))else 9)=aw:=by
       rw[show pz b.roles (j+1)=some q from bm]at ou;exact ou
      obtain⟨db,eS⟩:=aB dC (Oo q x);have cJ:j<b.rn:=J;have d1:IntKind.i64.wrap (((j+1:Nat):Int) - 1)=(j:Int):=by rw[IntWalk.i64_in _ J];omega
      have d4:decide ((0:Int)<((j+1:Nat):Int))=true:=aQ J;clear oz bm ou pQ dC cC bi a0 af bl;go_wp2_with (first|(refine jU F (fP (p:=A) (i:=j+1) F (by show Value.slice b.ra b.rn b.rc=_;rw[b4.out]) F underlying98 tV j3 _) ?_)|(refine jU F (kT F F cy oO) ?_));refine(be wr).mono ?_;rintro e d6 ⟨rfl,an⟩;have ej:=O (gW c3 an);have a0:=(d8.ext an).cell' (ay.pI b3);rw[b4.out]at a0;have a5:=O (b1.ext an);clear an c3;go_wp2_with (first|(refine jU F (fP (p:=A) (i:=j) F F F underlying98 tV cJ _) ?_)|(refine jU F (kT F F ej oO) ?_))
      ·rename_i cL;have Cy:qY q x=false:=by unfold qY;simpa using cL
       have ce:aw=9:=by rw[<-db.out,Cy];rfl
       have R:(9:Int)=E:=by rw[<-I.out,ce];rfl
       go_ret;exact⟨by rw[<-R];rfl,ar.ext a5⟩
      ·rename_i cL;have Cy:qY q x=true:=by unfold qY;simpa using cL
       have ez:ng (pz b.roles (j+2)) (b.roles.drop (j+2))=aw:=by have:=db.out;rw[Cy]at this;simpa using this
       go_roundw
       case rel=>exact⟨j+2,J,by go_num,ez,a5⟩
       case measure=>simp[intOf];omega
   ·have eN:decide ((k:Int)<(b.rn:Int))=false:=aP J;have eQ:decide (k<b.rn)=false:=aP j3;rw[Ov (by rw[cA.out];omega)]at ou;have el:=O ou;clear ou bi a0 af;go_wp2_with fail;go_meet;exact⟨el.symm,b1⟩
 case rest=>
 obtain⟨eC,bk⟩:=hcut;subst eC;obtain⟨bd,am,b7,ag⟩:=bU (a4.ext bk) (ar.ext bk) (df.ext bk) (a6.ext bk);obtain⟨wE,dT⟩:=aC wc;rw[dT]at bd am b7 ag⊢;clear dT bk a4 ar df a6 dc en bi a0 af bj b8 cF ew b9 ex b' ey bo bp br;have di:=bd.cell' (ay.zH ag);have tL:=O (fun w'=>Ec b.label w' (by have:=ag.ls;omega));have ci:=b7.cell' (i:=0) (v:= .string u) F;have ab:=I.out;unfold Gz at ab;simp only[bne_self_eq_false,Bool.false_eq_true,if_false]at ab;have g3:=fun w' hc=>zU 3 u (dK (K:Int) 3) ⟨a2,0,none⟩ w' hc (fun w=>aq 3 w J);generalize dK (K:Int) 3=cl at g3 ab;have g3:=O g3;have g6:=fun w' hc=>zU 6 u (dK (K:Int) 6) ⟨a2,0,none⟩ w' hc (fun w=>aq 6 w J);generalize dK (K:Int) 6=cn at g6 ab;have g6:=O g6;have a8:=fun w' hc=>zU 7 u (dK (K:Int) 7) ⟨a2,0,none⟩ w' hc (fun w=>aq 7 w J);generalize dK (K:Int) 7=co at a8 ab;have a8:=O a8;have a7:=fun w' hc=>zU 10 u (dK (K:Int) 10) ⟨a2,0,none⟩ w' hc (fun w=>aq 10 w J);generalize dK (K:Int) 10=ck at a7 ab;have a7:=O a7;have a9:=fun w' hc=>zU 8 u (dK (K:Int) 8) ⟨a2,0,none⟩ w' hc (fun w=>aq 8 w J);generalize dK (K:Int) 8=cp at a9 ab;have a9:=O a9;have g5:=fun w' hc=>zU 5 u (dK (K:Int) 5) ⟨a2,0,none⟩ w' hc (fun w=>aq 5 w J);generalize dK (K:Int) 5=cm at g5 ab;have g5:=O g5;have a1:=fun w' hc=>zU 11 u (dK (K:Int) 11) ⟨a2,0,none⟩ w' hc (fun w=>aq 11 w J);generalize dK (K:Int) 11=d2 at a1 ab;have a1:=O a1;generalize jK b.label.data.toList=cE at tL ab;have bw:=fun w'=>Kg b.purpose 1 3 w';generalize dR b.purpose 1 3=cs at bw ab;have bw:=O bw;have bx:=fun w'=>Kg b.reason 0 255 w'
 generalize dR b.reason 0 255=ct at bx ab;have bx:=O bx;have bu:=fun w'=>Kg b.version 0 255 w';generalize dR b.version 0 255=cq at bu ab;have bu:=O bu;have bz:=fun w'=>Kg b.need 1 32 w';generalize dR b.need 1 32=cv at bz ab;have bz:=O bz;have bv:=fun w'=>Kg b.epoch 0 4294967295 w';generalize dR b.epoch 0 4294967295=cr at bv ab;have bv:=O bv;have bc:=fun w'=>Kg b.count 0 65536 w';generalize dR b.count 0 65536=d3 at bc ab;have bc:=O bc;clear I aq;have I:=O ab;clear ab;go_upto_block 2 with(fail);go_cut [] (fun wx=>(cl&& !cE)=false/\((cn&&cs)||((co&&ct)||((ck&&cq)||((cp&&cv)||((cm&&cr)||(d2&&d3))))))=false/\X wE wx)
 case first=>
  go_upto_region 19 with(fail);go_cut [67] (fun v wx=>v= .bool (cl&& !cE)/\X wE wx)
  case first=>
   cases cl with
   |false=>
    go_wp2_with fail;refine(g3 wE ci).mono ?_;rintro e aa ⟨rfl,rfl⟩;go_wp2_with fail;go_meet;exact⟨F,X.refl _⟩
   |true=>
    go_wp2_with fail;refine(g3 wE ci).mono ?_;rintro e aa ⟨rfl,rfl⟩;go_wp2_with fail;refine(tL _).mono ?_;rintro e aa ⟨rfl,ax⟩;have b2:=O ax;clear ax;go_wp2_with fail;go_meet;exact⟨F,b2⟩
  case rest=>
  obtain⟨rfl,cb⟩:=hcut;obtain⟨az,al⟩:=aB (bd.ext cb) cb;have d5:=(b7.ext cb).cell' (i:=0) (v:= .string u) F;have ad:=O d5;clear cb d5 di ci tL g3;obtain⟨wF,d0⟩:=aC wc;rw[d0]at az al ad⊢;clear d0;generalize dl:(cl&& !cE)=ed at I⊢;have c5:=O dl;clear dl;cases ed with
  |true=>
   have R:(6:Int)=E:=by rw[<-I.out];rfl
   clear I;go_wp2_with fail;go_ret;exact⟨by rw[<-R];rfl,am.ext al⟩
  |false=>
  have eK:=az.cell' (ay.nV ag);go_upto_region 21 with(fail);go_cut [76] (fun v wx=>v= .bool (cn&&cs)/\wx=wF)
  case first=>
   cases cn with
   |false=>
    go_wp2_with fail;refine(g6 wF ad).mono ?_;rintro e aa ⟨rfl,rfl⟩;go_wp2_with fail;go_meet;exact⟨F,F⟩
   |true=>
    go_wp2_with fail;refine(g6 wF ad).mono ?_;rintro e aa ⟨rfl,rfl⟩;go_wp2_with fail;refine(bw wF).mono ?_;rintro e aa ⟨rfl,rfl⟩;go_wp2_with fail;go_meet;exact⟨by cases cs<;>rfl,F⟩
  case rest=>
  obtain⟨rfl,ae⟩:=hcut;rw[ae];clear ae eK;generalize dp:(cn&&cs)=ef at I⊢;have c7:=O dp;clear dp;cases ef with
  |true=>
   have R:(4:Int)=E:=by rw[<-I.out];rfl
   clear I;go_wp2_with fail;go_ret;exact⟨by rw[<-R];rfl,am.ext al⟩
  |false=>
  have eL:=az.cell' (ay.oQ ag);go_upto_region 22 with(fail);go_cut [76] (fun v wx=>v= .bool (co&&ct)/\wx=wF)
  case first=>
   cases co with
   |false=>
    go_wp2_with fail;refine(a8 wF ad).mono ?_;rintro e aa ⟨rfl,rfl⟩;go_wp2_with fail;go_meet;exact⟨F,F⟩
   |true=>
    go_wp2_with fail;refine(a8 wF ad).mono ?_;rintro e aa ⟨rfl,rfl⟩;go_wp2_with fail;refine(bx wF).mono ?_;rintro e aa ⟨rfl,rfl⟩;go_wp2_with fail;go_meet;exact⟨by cases ct<;>rfl,F⟩
  case rest=>
  obtain⟨rfl,ae⟩:=hcut;rw[ae];clear ae eL;generalize dq:(co&&ct)=eg at I⊢;have c8:=O dq;clear dq;cases eg with
  |true=>
   have R:(4:Int)=E:=by rw[<-I.out];rfl
   clear I;go_wp2_with fail;go_ret;exact⟨by rw[<-R];rfl,am.ext al⟩
  |false=>
  have eI:=az.cell' (ay.GQ ag);go_upto_region 23 with(fail);go_cut [76] (fun v wx=>v= .bool (ck&&cq)/\wx=wF)
  case first=>
   cases ck with
   |false=>
    go_wp2_with fail;refine(a7 wF ad).mono ?_;rintro e aa ⟨rfl,rfl⟩;go_wp2_with fail;go_meet;exact⟨F,F⟩
   |true=>
    go_wp2_with fail;refine(a7 wF ad).mono ?_;rintro e aa ⟨rfl,rfl⟩;go_wp2_with fail;refine(bu wF).mono ?_;rintro e aa ⟨rfl,rfl⟩;go_wp2_with fail;go_meet;exact⟨by cases cq<;>rfl,F⟩
  case rest=>
  obtain⟨rfl,ae⟩:=hcut;rw[ae];clear ae eI;generalize dk:(ck&&cq)=ec at I⊢;have c4:=O dk;clear dk;cases ec with
  |true=>
   have R:(4:Int)=E:=by rw[<-I.out];rfl
   clear I;go_wp2_with fail;go_ret;exact⟨by rw[<-R];rfl,am.ext al⟩
  |false=>
  have eM:=az.cell' (ay.xw ag);go_upto_region 24 with(fail);go_cut [76] (fun v wx=>v= .bool (cp&&cv)/\wx=wF)
  case first=>
   cases cp with
   |false=>
    go_wp2_with fail;refine(a9 wF ad).mono ?_;rintro e aa ⟨rfl,rfl⟩;go_wp2_with fail;go_meet;exact⟨F,F⟩
   |true=>
    go_wp2_with fail;refine(a9 wF ad).mono ?_;rintro e aa ⟨rfl,rfl⟩;go_wp2_with fail;refine(bz wF).mono ?_;rintro e aa ⟨rfl,rfl⟩;go_wp2_with fail;go_meet;exact⟨by cases cv<;>rfl,F⟩
  case rest=>
  obtain⟨rfl,ae⟩:=hcut;rw[ae];clear ae eM;generalize dr:(cp&&cv)=eh at I⊢;have c9:=O dr;clear dr;cases eh with
  |true=>
   have R:(4:Int)=E:=by rw[<-I.out];rfl
   clear I;go_wp2_with fail;go_ret;exact⟨by rw[<-R];rfl,am.ext al⟩
  |false=>
  have eJ:=az.cell' (ay.mD ag);go_upto_region 25 with(fail);go_cut [76] (fun v wx=>v= .bool (cm&&cr)/\wx=wF)
  case first=>
   cases cm with
   |false=>
    go_wp2_with fail;refine(g5 wF ad).mono ?_;rintro e aa ⟨rfl,rfl⟩;go_wp2_with fail;go_meet;exact⟨F,F⟩
   |true=>
    go_wp2_with fail;refine(g5 wF ad).mono ?_;rintro e aa ⟨rfl,rfl⟩;go_wp2_with fail;refine(bv wF).mono ?_;rintro e aa ⟨rfl,rfl⟩;go_wp2_with fail;go_meet;exact⟨by cases cr<;>rfl,F⟩
  case rest=>
  obtain⟨rfl,ae⟩:=hcut;rw[ae];clear ae eJ;generalize dm:(cm&&cr)=ee at I⊢;have c6:=O dm;clear dm;cases ee with
  |true=>
   have R:(4:Int)=E:=by rw[<-I.out];rfl
   clear I;go_wp2_with fail;go_ret;exact⟨by rw[<-R];rfl,am.ext al⟩
  |false=>
  have eW:=az.cell' (ay.Bh ag);cases d2 with
  |false=>
   go_wp2_with fail;refine(a1 wF ad).mono ?_;rintro e aa ⟨rfl,rfl⟩;go_wp2_with fail;go_meet;exact⟨c5,by rw[c7.out,c8.out,c4.out,c9.out,c6.out];rfl,al⟩
  |true=>
   cases d3 with
   |true=>
    have R:(4:Int)=E:=by rw[<-I.out];rfl
    clear I;go_wp2_with fail;refine(a1 wF ad).mono ?_;rintro e aa ⟨rfl,rfl⟩;go_wp2_with fail;refine(bc wF).mono ?_;rintro e aa ⟨rfl,rfl⟩;go_wp2_with fail;go_ret;exact⟨by rw[<-R];rfl,am.ext al⟩
   |false=>
    go_wp2_with fail;refine(a1 wF ad).mono ?_;rintro e aa ⟨rfl,rfl⟩;go_wp2_with fail;refine(bc wF).mono ?_;rintro e aa ⟨rfl,rfl⟩;go_wp2_with fail;go_meet;exact⟨c5,by rw[c7.out,c8.out,c4.out,c9.out,c6.out];rfl,al⟩
 case rest=>
 obtain⟨d7,z2,cc⟩:=hcut;have du:(if !tZ b.mK then(9:Int)else 0)=E:=by
  have ce:=I.out;rw[d7,z2]at ce;simpa using ce
 obtain⟨c_,cx,c2,cD⟩:=bU du (bd.ext cc) (am.ext cc) (ag.ext cc);obtain⟨wG,zR⟩:=aC wc;rw[zR]at cx c2 cD⊢;clear zR cc d7 z2 du I bd am b7 ag di ci tL g3 g6 a8 a7 a9 g5 a1 bw bx bu bz bv bc;have af:=cx.cell' (ay.xB cD);go_wp2_with fail;go_loopw [134] (fun i wr=>∃k:Nat,k<=b.hn/\i= .int .i64 (k:Int)/\q_ b.mK k/\X wG wr) (fun i _=>b.hn - (intOf i).toNat)
 case atStart=>exact⟨0,J,F,q_.one _ J,X.refl _⟩
 case round=>
  obtain⟨k,hk,rfl,dE,ax⟩:=hrel;obtain⟨d',aE,b2,cY,dd⟩:=dM (cx.ext ax) (cD.ext ax) (c2.ext ax) ax dE;clear ax dE af;have af:=d'.cell' (ay.xB aE);by_cases j3:k<b.hn
  ·have bj:decide ((k:Int)<(b.hn:Int))=true:=aQ J;have b8:decide (k<b.hn)=true:=aQ j3;have eE:=aE.hl;have u7:b.hn<=140737488355328:=bh.vZ;cases k with
   |zero=>
    have d4:decide ((0:Int)<((0:Nat):Int))=false:=F;clear af;go_upto_region 31 with(fail);obtain⟨C,iB,aJ⟩:=jJ wr;refine wp_region_held_drew (S:=C) au ((iB _).2 (X.refl wr).drew) (fun Z=> ?_);refine aA 0 ?_;refine aA 1 ?_;refine aA 2 ?_;refine sF 3 ?_;refine sF 4 ?_;refine sF 5 ?_;refine sF 6 ?_;refine sF 7 ?_;refine sF 8 ?_;refine sF 9 ?_;refine sF 10 ?_;refine sF 11 ?_;refine sF 12 ?_;refine sF 13 ?_;refine sF 14 ?_;refine sF 15 ?_;refine aA 16 ?_;refine dH ?_;have Fx:=(iB _).1 Z;go_wp2_with fail;go_roundw
    case rel=>exact⟨1,J,by go_num,q_.one _ J,cY.ext Fx⟩
    case measure=>simp[intOf];omega
   |succ j=>
    obtain⟨x,hx⟩:∃x,b.mK[j]? =some x:=⟨b.mK[j]'J,List.getElem?_eq_getElem _⟩;obtain⟨y,cj⟩:∃y,b.mK[j+1]? =some y:=⟨b.mK[j+1]'J,List.getElem?_eq_getElem _⟩;obtain⟨p,dy,cN⟩:=Gm aE.hcell aE.h16 hx;have cS:=aE.h16 x (mem_of_getElem? hx);have cT:=aE.h16 y (mem_of_getElem? cj);obtain⟨ea,eb,ep,et,eo,er,de,HY⟩:=jg (cN j x hx) (cN (j+1) y cj) (show(x.map Y).length=16 by rw[length_map];exact cS) (show(y.map Y).length=16 by rw[length_map];exact cT) cS cT hx cj;rw[dy]at af;have cX:=O af;have cJ:j<b.hn:=J;have d1:IntKind.i64.wrap (j:Int)=(j:Int):=by have:=bh.vZ;exact IntWalk.i64_in _ J
    have d4:decide ((0:Int)<((j+1:Nat):Int))=true:=aQ J;clear cN cS cT hx cj dy eE af;go_upto_region 31 with(fail);obtain⟨C,iB,aJ⟩:=jJ wr;refine wp_region_held_drew (S:=C) au ((iB _).2 (X.refl wr).drew) (fun Z=> ?_);refine aA 0 ?_;refine aA 1 ?_;refine aA 2 ?_;refine aA 3 ?_;refine dA 4 (fun ai h=>gW cX ((iB ai).1 h)) ?_;refine aA 5 ?_;refine d_ 6 (v:= .int .i64 (j:Int)) F au au au (fun _ _ _ h=>h) (.inl ⟨F,fun wz _=> ?sub8⟩) Z ?rest8
    case sub8=>(go_simp;try exact d1)
    case rest8=>
    refine aH ?_;refine bD 7 F (bf F (fun ai _=>fP (i:=j) F F F underlying99 zO cJ ai)) ?_;refine bD 8 F (bf F (fun ai h=>bQ F F (ea.ext ((iB ai).1 h)) dh ep)) ?_;refine aA 9 ?_;refine dA 10 (fun ai h=>gW cX ((iB ai).1 h)) ?_;refine aA 11 ?_;refine bD 12 F (bf F (fun ai _=>fP (i:=j+1) F F F underlying99 zO j3 ai)) ?_;refine bD 13 F (bf F (fun ai h=>bQ F F (eb.ext ((iB ai).1 h)) dh et)) ?_;refine aZ 14 ?_;intro ev ds;go_wp2_with fail;refine(Xh x y _ eo er).mono ?_;rintro e wq ⟨rfl,dj⟩;replace Z:=aJ _ _ Z dj;go_wp2_with fail;refine ds _ _ Z ?_;clear ds ev dj;refine aH ?_;by_cases hc:eH x y<0
    ·have bm:decide (0<=eH x y)=false:=aP J;refine aA 15 ?_;refine aA 16 ?_;refine dH ?_;have Fx:=(iB _).1 Z;go_wp2_with fail;go_roundw
     case rel=>exact⟨j+2,J,by go_num,dd.step de HY hc,cY.ext Fx⟩
     case measure=>simp[intOf];omega
    ·have bm:decide (0<=eH x y)=true:=aQ J;refine aA 15 ?_;refine aA 16 ?_;refine dH ?_;have Fx:=(iB _).1 Z;have R:(9:Int)=E:=by rw[<-c_.out,Ph de.out HY.out hc];rfl
     go_wp2_with fail;go_ret;exact⟨by rw[<-R];rfl,b2.ext Fx⟩
  ·have bj:decide ((k:Int)<(b.hn:Int))=false:=aP J;have b8:decide (k<b.hn)=false:=aP j3;have ap:tZ b.mK=true:=Gi.2 (by
    have:=aE.hl;rw[this,show b.hn=k by omega];exact dd)
   have R:(0:Int)=E:=by rw[<-c_.out,ap];rfl
   clear ap af;go_wp2_with fail;go_ret;exact⟨by rw[<-R];rfl,b2⟩
section
open Go Go.RowKit
section
variable {w0:World} {g gi B:Nat} {us:ByteArray} {l0:aj} {sq:List Nat} {w:World} {r:ay} {l:aj} {s:Bool}
structure Ku(w0:World)(g gi B n1:Nat)(us:ByteArray)(r:ay)(l1:aj)(s1:Bool)(k:Nat)(w:World)(a:aN)(c:Nat)(ls:aT)(lk:aj)(sk:Bool):Prop where
 body:ah w (w0.heap.size+1) {r with ra:=a,rn:=k,rc:=c,roles:=ls}.v 101
 res:ah w w0.heap.size dI.v 101
 rd:gI OT w0.heap.size w g lk sk
 took:fA (kW rD k []) l1 s1 ls lk sk
 ext:X w0 w
 len:ls.length=k
 D_:∀s∈ls,s.size<=140737488355328
 own:w.ownsRow B 9 1 (.slice a k c) k (ls.map bM)
 it:w.heap[gi]? =some (.stringIter us n1)
structure Kv(w0:World)(g gi B n1:Nat)(us:ByteArray)(r:ay)(l1:aj)(s1:Bool)(k:Nat)(w:World)(a:aN)(c:Nat)(ls:List (aj))(lk:aj)(sk:Bool):Prop where
 body:ah w (w0.heap.size+1) {r with ha:=a,hn:=k,hc:=c,mK:=ls}.v 101
 res:ah w w0.heap.size dI.v 101
 rd:gI OT w0.heap.size w g lk sk
 took:fA (kW (fK 16) k []) l1 s1 ls lk sk
 ext:X w0 w
 len:ls.length=k
 h16:oP ls
 own:w.ownsRow B 29 16 (.slice a k c) k (dB ls)
 it:w.heap[gi]? =some (.stringIter us n1)
end
theorem X_{act:Int}(h:iI act=true):¬(2∈gy act/\9∈gy act):=by
 rcases wo h with rfl|rfl|rfl|rfl|rfl|rfl|rfl|rfl|rfl|rfl|rfl|rfl<;>decide
theorem Ya{j:bZ}{l u x:aj}{s E:Bool}(h:fA (fK 8) l s x u E):fA (iP kF 11 j) l s {j with count:=kK (jM x)} u E:=(h.map fun x=>({j with count:=kK (jM x)}:bZ)).congr (by show _=((fK 8 l).map fun p=>(kF p.1,p.2)).map _;cases fK 8 l<;>rfl)
theorem Yb{j:bZ}{l u x:aj}{s E:Bool}(h:fA (fK 4) l s x u E):fA (iP kF 5 j) l s {j with epoch:=(jM x:Int)} u E:=by grind [jM,bZ,fA,fK,iP,kF]
theorem Yc{j:bZ}{n:Nat}{l u x:aj}{s E:Bool}(hn:l.length=n)(h:fA (fK n) l s x u E):fA (iP kF 0 j) l s {j with text:=aY x} u E:=by grind [iP,bZ,fA,fK,kF,aY]
theorem Qo{l m j x:aj}{n:Nat}{s t u:Bool}(h:fA kV l s n m t)(k:fA (fK n) m t x j u):fA rD l s (aY x) j u:=by grind [rD,aY,fK,fA,kV]
theorem GH(act:Int)(l:aj)(a:aN)(n c:Nat)(w:World)(hl:l.length=n)(hnc:n<=c)(hn:n<=140737488355328)(e3:aK w a (l.map Y)):
 Calls prog 84 #[.int .i64 act,.slice a n c] w fun e w'=>∃r:ay,e= .returned (.tuple #[.agg r.v.toArray,.int .i64 (kE kF act l).2])/\r.Fit/\bJ w' w.heap.size r.ra (r.roles.map bM)/\bJ w' w.heap.size r.ha (dB r.mK)/\r.p=(kE kF act l).1/\X w w':=by
 obtain⟨er,ep⟩:=aB hl e3;obtain⟨gc,bv⟩:=aC (kE kF act l);rw[bv];unfold kE at bv;clear e3;by_cases b8:act<1∨12<act
 ·have e9:iI act=false:=by
   unfold iI;rcases b8 with h|h
   ·rw[aP J];rfl
   ·rw[aP (show¬act<=12 by omega),Bool.and_false]
  rw[e9,if_pos F]at bv;subst bv;clear hl e9;go_enter func84,ntmps84;go_upto_region 2 with(fail);generalize iX:World.alloc (World.alloc w _) _=bz;have zA:ah bz w.heap.size dI.v 101:=by rw[<-iX];exact(ah.aI F F).alloc _
  have xA:ah bz (w.heap.size+1) dI.v 101:=by rw[<-iX];exact ah.aI (uO _ _).symm rfl
  have cP:X w bz:=by rw[<-iX];exact((X.refl w).alloc _).alloc _
  obtain⟨ZA,cf,EA⟩:=aW zA xA cP;clear iX zA xA cP;by_cases bj:act<1
  ·have eN:decide (act<1)=true:=aQ bj;clear b8 bj;go_wp2_with (first|(refine bV F 101 (.tmp 6) F F cf eP fM ?_)|(refine bg F _ _ _ F F F ZA eP fM (xs:=dI.v) fM (lD dI) ?_));intro ad al an;go_wp2_with fail;exact iy F F al eP fM F ⟨dI,F,rE,.inl F,.inl F,F,an.ext EA l5⟩
  ·have eN:decide (act<1)=false:=aP bj;have fw:decide (12<act)=true:=aQ (b8.resolve_left bj);clear b8 bj;go_wp2_with (first|(refine bV F 101 (.tmp 6) F F cf eP fM ?_)|(refine bg F _ _ _ F F F ZA eP fM (xs:=dI.v) fM (lD dI) ?_));intro ad al an;go_wp2_with fail;exact iy F F al eP fM F ⟨dI,F,rE,.inl F,.inl F,F,an.ext EA l5⟩
 have cV:iI act=true:=by unfold iI;rw[aQ (show 1<=act by omega),aQ (show act<=12 by omega)];rfl
 rw[cV,if_neg aF]at bv;have eN:decide (act<1)=false:=aP J;have fw:decide (12<act)=false:=aP J;have eV:=O (fun r w' h=>Qn act r w' h);obtain⟨K,rfl⟩:∃K:Nat,act=(K:Int):=⟨act.toNat,J⟩;have d6:=O (fun w=>Gy K w J);have da:=Qi cV;rw[show(K:Int).toNat=K from F]at da;have d2:=Qh cV;have ea:=X_ cV;obtain⟨ae,eR⟩:=aC (gy (K:Int));rw[eR]at da d2 ea bv;have ey:=O ea;obtain⟨us,d8⟩:=aC ((⟨(rF K).toArray⟩:ByteArray):ByteArray);rw[d8]at d6;have d7:us.data.toList=ae.map jZ:=by rw[<-d8,<-da]
 have fg:us.size=ae.length:=by
  have ao:=congrArg List.length d7;rw[Array.length_toList,length_map]at ao;exact ao
 obtain⟨fo,ex,Ct⟩:=aW d7 fg d2;clear da d8 d7 fg d2 ea eR b8 cV;go_enter func84,ntmps84;go_upto_region 2 with(fail);generalize iX:World.alloc (World.alloc w _) _=bz;have zA:ah bz w.heap.size dI.v 101:=by rw[<-iX];exact(ah.aI F F).alloc _
 have xA:ah bz (w.heap.size+1) dI.v 101:=by rw[<-iX];exact ah.aI (uO _ _).symm rfl
 have cP:X w bz:=by rw[<-iX];exact((X.refl w).alloc _).alloc _
 obtain⟨ZA,cf,EA⟩:=aW zA xA cP;clear iX zA xA cP;by_cases ct:32768<n
 ·rw[hl,if_pos ct]at bv;subst bv;have fx:decide (32768<n)=true:=aQ ct;have gf:decide ((32768:Int)<(n:Int))=true:=aQ J;clear hl ct;go_wp2_with (first|(refine bV F 101 (.tmp 6) F F cf eP fM ?_)|(refine bg F _ _ _ F F F ZA eP fM (xs:=dI.v) fM (lD dI) ?_));intro ad al an;go_wp2_with fail;exact iy F F al eP fM F ⟨dI,F,rE,.inl F,.inl F,F,an.ext EA l5⟩
 rw[hl,if_neg ct]at bv;have b6:=O bv;have fx:decide (32768<n)=false:=aP ct;have ge:decide ((32768:Int)<(n:Int))=false:=aP J;clear hl bv ct;go_upto_region 7 with(fail);generalize ab:World.alloc bz _=wB;obtain⟨g,c9⟩:=aC bz.heap.size;have fj:ah wB g [.slice a n c,.bool false] OT:=by rw[<-ab,<-c9];exact ah.aI F F
 have am:X bz wB:=by rw[<-ab];exact(X.refl bz).alloc _
 rw[c9];have aq:w.heap.size+1<g:=by rw[<-c9];exact cf.lt
 have fk:gI OT w.heap.size wB g l false:=by
  refine⟨a,n,c,fj,er,hnc,hn,(EA.ext am).size,?_⟩;rcases ep.out with c7|⟨b,off,ha,c7⟩
  ·exact .inl c7
  ·by_cases e4:l.map Y=[]
   ·exact .inl e4
   ·obtain⟨u,f3⟩:∃u,(l.map Y)[0]? =some u:=⟨_,List.getElem?_eq_getElem (length_pos_iff.2 e4)⟩;have hb:b<w.heap.size:=block_lt_of_cell (c7 0 u f3);exact .inr ⟨b,off,ha,hb,J,fun j v f4=>wu (c7 j v f4) ((EA.ext am).block b hb)⟩
 obtain⟨eA,eI,eC,em⟩:=bU fk (ZA.ext am) (cf.ext am) (EA.ext am);clear ab fj fk am ZA cf EA c9 er ep;go_wp2_with fail;refine(d6 wB).mono ?_;rintro e ad ⟨rfl,cN⟩;obtain⟨eJ,eE,en,dm⟩:=bU (eI.ext cN) (eC.ext cN) (em.ext cN) (eA.ext cN);have fX:g<ad.heap.size:=dm.lt;clear cN eI eC em eA d6;go_wp2_with fail;obtain⟨gi,e7⟩:=aC ad.heap.size;have dT:=World.iter_heap ad us 0;have cQ:X ad (ad.iter us 0):=(X.refl ad).alloc _;rw[e7]at dT fX⊢;have az:w.heap.size+1<gi:=J;have bc:gi≠g:=J;have b0:w.heap.size+1<gi+1:=J;have b1:g<gi+1:=J;have fW:gi<gi+1:=J;have ez:AQ w g gi (gi+1) us l [] (ad.iter us 0) dI l false:=
  ⟨eE.ext cQ,eJ.ext cQ,dm.ext cQ,⟨fun h=>⟨h,F⟩,fun h=> .inl h⟩,en.ext cQ,rE,.inl F,.inl F,fun _=>⟨F,F,F,F⟩,fun _=>⟨F,F,F,F⟩,dT⟩
 clear dT cQ eJ eE en dm e7
 go_loopg [] ae.length (fun fL wx=>∃(k:Nat) (r:ay) (aE:aj) (ar:Bool),k<=ae.length/\AQ w g gi (gi+1) us l (ae.take k) wx r aE ar/\ae.length<=k+fL)
 case atStart=>exact⟨0,dI,l,false,J,by simpa using ez,J⟩
 case round=>
  obtain⟨k,r,aE,ar,hk,bk,gm⟩:=hrel;clear ez;have c_:(ae.take k).length=k:=by rw[length_take];omega
  by_cases d4:k<ae.length
  ·obtain⟨ba,rfl⟩:∃ba,gk=ba+1:=⟨gk - 1,J⟩;obtain⟨i,b2⟩:∃i,ae[k]? =some i:=⟨_,List.getElem?_eq_getElem d4⟩;have ff:ae.take (k+1)=ae.take k++[i]:=by rw[take_add_one,b2];rfl
   have gn:i<12:=Ct.2 i (mem_of_getElem? b2);have e_:i∉ae.take k:=by
    intro hm;have ao:=Ct.1;have fR:ae=ae.take k++ae.drop k:=(take_append_drop k ae).symm;rw[fR]at ao;refine(nodup_append.1 ao).2.2 i hm i ?_ F;exact mem_of_getElem? (i:=0) (by rw[List.getElem?_drop];exact b2)
   have et:=O (mem_of_getElem? b2);have cr:k<us.size:=by rw[ex.out];exact d4
   have cc:=bk.it;rw[c_]at cc;have d3:∀ty,(Instr.next (.pointer (some ⟨gi,0,none⟩)) true ty).run prog wr=_:=fun ty=>Lib.run_next_any_at wr gi us k ty cc cr;have d5:us[k]'cr=jZ i:=by
    have ao:us.data.toList[k]? =some (jZ i):=by rw[fo.out,List.getElem?_map,b2];rfl
    rw[Array.getElem?_toList]at ao;exact(Array.getElem?_eq_some_iff.1 ao).2
   have eS:(us[k]'cr).toNat<128:=by
    rw[d5];rcases(by omega:i=0∨i=1∨i=2∨i=3∨i=4∨i=5∨i=6∨i=7∨i=8∨i=9∨i=10∨i=11)with rfl|rfl|rfl|rfl|rfl|rfl|rfl|rfl|rfl|rfl|rfl|rfl<;>decide
   have dC:=decode_ascii us k cr eS;rw[d5]at dC;rw[dC]at d3;have R:BF w g gi (gi+1) us l (ae.take k) (wr.iterAt gi us (k+1)) r aE ar:=
    bk.next aq az bc fW (fun j fY=>Lib.iterAt_other wr gi j us (k+1) fY) (Lib.iterAt_size ..) ⟨F,F,F⟩ (by rw[c_];exact Lib.iterAt_heap wr gi us k (k+1) cc)
   obtain⟨ew,ev⟩:=aB ff e_;clear bk cc dC d5 eS ff e_ b2;simp only at d3;generalize wr.iterAt gi us (k+1)=bo at*;obtain⟨gw,f5⟩:=aC bo;have fc:∀wz r2 be bh,AQ w g gi (gi+1) us l (ae.take k++[i]) wz r2 be bh->∃(k:Nat) (r:ay) (aE:aj) (ar:Bool),k<=ae.length/\AQ w g gi (gi+1) us l (ae.take k) wz r aE ar/\ae.length<=k+ba:=
    fun wz r2 be bh h=>⟨k+1,r2,be,bh,J,by rw[ew.out];exact h,J⟩
   have bp:=O fc;clear fc f5 ew;rcases(by omega:i=0∨i=1∨i=2∨i=3∨i=4∨i=5∨i=6∨i=7∨i=8∨i=9∨i=10∨i=11)with rfl|rfl|rfl|rfl|rfl|rfl|rfl|rfl|rfl|rfl|rfl|rfl
   ·skip
    obtain⟨dq,b',dt,hb,fa,gt,gl,gh,fS⟩:=R.rd;have ed:=hb.cell' (i:=0) (v:= .slice dq b' dt) F;have cE:=O fa;clear hb fa fS;go_wp2_with fail;refine(xG aE ar w.heap.size g b' bo J R.rd).mono ?_;rintro e w2 ⟨co,cp,x,be,bh,rfl,c8,hx,bd,a0,ai,sP,ag⟩;obtain⟨aw,br,a1⟩:=aW hx bd ai;have fh:x.length<=140737488355328:=by rw[hx];omega
    have fp:=O fh;clear hx bd ai fh ed;have ac:=O (R.aM aq ag);have a7:=ac.cell' (ay.aL r);have a4:=ac.frozen 0;go_wp2_with (refine bF F (DY F F aw br.cells) ?_);generalize ab:World.setCell w2 _ _=ad;have al:ah ad (w.heap.size+1) {r with text:=aY x}.v 101:=by rw[<-ab];exact ac.set 0 (.string (aY x))
    have an:aU w2 (w.heap.size+1) ad:=by rw[<-ab];exact aU.setCell _
    clear ab a7 a4;have a5:ay.Fit {r with text:=aY x}:={R.fit with ts:=by show x.toArray.size<=_;rw[size_toArray];exact fp};have ap:=bp.out _ _ _ _ (R.store (i:=0) aq az bc b0 b1 ag a0 an al (oW (i:=0) R.took (Yc cE a1)) a5 F F F F F F F F)
    go_roundg ba
    case measure=>omega
    case rel=>exact ap
   ·skip
    go_wp2_with fail;refine(xG aE ar w.heap.size g 16 bo J R.rd).mono ?_;rintro e w2 ⟨co,cp,x,be,bh,rfl,c8,hx,bd,a0,ai,sP,ag⟩;obtain⟨aw,br,a1⟩:=aW hx bd ai;clear hx bd ai;obtain⟨b,off,rfl,bj⟩:=br.cells.gQ (by rw[length_map,aw.out];omega);obtain⟨rz,b7,ac,ca⟩:=bU (dP.of br.cells) (show(x.map Y).length=16 by rw[length_map];exact aw) (R.aM aq ag) (show r.v.length=58 by unfold ay.v ay.t;simp[R.fit.hm,R.fit.hcm]);clear bj;go_wp2_with (first|(refine bF F (rC F F underlying29 l5 _) ?_)|(refine bF F (bQ F F rz dh b7) ?_)|(refine kR F _ _ _ F F F ac (by rw[b7.out];exact dh) (by rw[b7.out,ca.out];decide) (b_ x) ?_));intro ad al an;rw[ay.JX _ _ R.fit.hm aw.out]at al;have a5:ay.Fit {r with member:=x}:={R.fit with hm:=aw.out};have ap:=bp.out _ _ _ _ (R.store (i:=1) aq az bc b0 b1 ag a0 an al (oW (i:=1) R.took ((a1.map fun x=>({r.p with member:=x}:bZ)).congr F)) a5 F F F F F F F F);go_wp2_with fail
    go_roundg ba
    case measure=>omega
    case rel=>exact ap
   ·skip
    have cR:=R.nr ev;have dv:=R.nh (fun h=>ey ⟨et,mem_of_mem_take h⟩);go_wp2_with fail;refine(yH aE ar w.heap.size g bo R.rd).mono ?_;rintro e ej ⟨a9,rfl,d1,bw,bx,cW,cY,yD,az⟩;have dl:=O cY;have b4:=O R.fit;have cT:=R.aM aq az;have cI:Ku w g gi (gi+1) ((ae.take k).length+1) us r bw bx 0 ej none 0 [] bw bx:=⟨by rw[cR.eq];exact cT,R.res.grown az (by simp;omega),cW,⟨fun h=>⟨h,F⟩,fun h=> .inl h⟩,R.ext.Ef az J,F,(fun _ h=>by cases h),⟨F,.inl ⟨F,F⟩⟩,by rw[az.block gi (Array.getElem?_eq_some_iff.1 R.it).1 (by simpa using bc)];exact R.it⟩;clear cW cY cT;go_wp2_with fail;go_loopw [54] (fun i wr=>∃(k1:Nat) (a:aN) (c:Nat) (ls:aT) (aE:aj) (ar:Bool),k1<=a9/\i= .int .i64 (k1:Int)/\Ku w g gi (gi+1) ((ae.take k).length+1) us r bw bx k1 wr a c ls aE ar) (fun i _=>a9 - (intOf i).toNat)
    case atStart=>exact⟨0,none,0,[],bw,bx,J,F,cI⟩
    case round=>
     obtain⟨k1,a2,a3,ls,c0,c2,Co,rfl,aa⟩:=hrel;clear cI;by_cases j3:k1<a9
     ·have ef:decide ((k1:Int)<(a9:Int))=true:=aQ J;have eg:decide (k1<a9)=true:=aQ j3;obtain⟨C,iB,aJ,bP⟩:=kZ (I:=fun w'=>ah w' (w.heap.size+1) ({r with ra:=a2,rn:=k1,rc:=a3,roles:=ls}:ay).v 101) (fun _ _ b8 bj=>(b8.ext bj)) (w:=wr) (aa.body);have eW:({r with ra:=a2,rn:=k1,rc:=a3,roles:=ls}:ay).v[17]? =some (.slice a2 k1 a3):=by
       unfold ay.v;exact lC (n:=16) (i:=0) (by rw[length_map];exact b4.hm)
      have ek:=O eW;clear eW;go_upto_region 18 with(fail);refine jQ (W:=[10]) fun Z=> ?_;refine bK 0 ?_;refine eY 1 (fun ei h=>((iB ei).1 h).cell' ek) ?_;refine bK 2 ?_;refine bK 3 ?_;refine fC 4 ?_;intro ax af;go_wp2_with fail;refine(yH c0 c2 w.heap.size g wr.drew (aa.rd.ext (X.refl wr).drew)).mono ?_;rintro e db ⟨f8,rfl,f0,f7,f9,fb,fe,gp,e6⟩;have dE:wr.grownBy db (some g):=l9 (yC (sG wr _) (X.refl wr).drew) e6;have eQ:ah db (w.heap.size+1) ({r with ra:=a2,rn:=k1,rc:=a3,roles:=ls}:ay).v 101:=aa.body.grown dE (by simp;omega);replace Z:=(iB db).2 eQ;have fn:=O fe;go_wp2_with fail;refine af _ _ Z ?_;clear af ax eQ e6 fe;refine aH ?_;refine fC 5 ?_;intro ax af;go_wp2_with fail;refine(xG f7 f9 w.heap.size g f8 db J fb).mono ?_;rintro e a_ ⟨eL,eM,x,cs,cw,rfl,e0,hx,b9,ck,cd,e8,cb⟩;have a8:wr.grownBy a_ (some g):=l9 dE cb;have ch:ah a_ (w.heap.size+1) ({r with ra:=a2,rn:=k1,rc:=a3,roles:=ls}:ay).v 101:=aa.body.grown a8 (by simp;omega);replace Z:=(iB a_).2 ch;obtain⟨aw,de,cH⟩:=aW hx b9 cd;have f6:(aY x).size<256:=by show x.toArray.size<256;rw[size_toArray,hx];exact f0
      have OT:=O (yG aa.own fun i b2 d'=>a8.block i d' (by simp;omega));have f2:=a8.size;go_wp2_with fail;refine af _ _ Z ?_;clear af ax fb dE cb hx b9 cd;refine aH ?_;refine fC 6 ?_;intro ax af;go_wp2_with (refine bF F (DY F F aw de.cells) ?_);refine af _ _ Z ?_;clear af ax;obtain⟨xs,eb⟩:=aC (aY x);have fr:=O eb;rw[eb]at f6⊢;clear eb;refine aH ?_;refine fC 7 ?_;intro ax af;go_wp2_with fail;refine af _ _ (aJ _ _ Z ((X.refl a_).alloc _)) ?_;clear af ax;generalize ab:World.alloc a_ _=wB;have c1:ah wB a_.heap.size [.string xs] 9:=by rw[<-ab];exact ah.aI F F
      have am:X a_ wB:=by rw[<-ab];exact(X.refl a_).alloc _
      have cS:=aJ _ _ Z am;clear Z;have Z:=cS;obtain⟨cJ,ce,cL,ac,cy,cz⟩:=iq c1 (dQ OT am) (ck.ext am) (ch.ext am) ((aa.res.grown a8 (by simp;omega)).ext am) ((aa.ext.Ef a8 J).ext am);have cU:=(Array.getElem?_eq_some_iff.1 aa.it).1;have cx:Hid (wB.heap[gi]? =some (.stringIter us ((ae.take k).length+1))):=O (by rw[am.block gi J,a8.block gi cU (by simpa using bc)];exact aa.it);have du:gi+1<=wB.heap.size:=by have:=am.size;omega
      have df:=O aa.took;have dg:=O aa.len;have di:=O aa.D_;clear cS ab c1 am OT ch ck a8 aa cU;refine aH ?_;refine fC 8 ?_;intro ax af;go_wp2_with (at_builtin;refine PG F _ _ F (gi+1) F F ce cJ J du ?_);intro f' bi cm g6;obtain⟨bt,bu,rfl⟩:=Gu cm;have bl:∀q,(Value.slice a2 k1 a3).ownBlock=some q->gi+1<=q:=pG ce;have cg:ah bi (w.heap.size+1) ({r with ra:=a2,rn:=k1,rc:=a3,roles:=ls}:ay).v 101:=ac.grown g6 (fun e=>by have:=bl _ e.symm;omega);replace Z:=(iB bi).2 cg;obtain⟨cG,cA,cC⟩:=aW (cy.grown g6 (fun e=>by have:=bl _ e.symm;omega)) (cL.Gl g6 (fun q cj=>by have:=bl _ cj;exact⟨J,J⟩)) (cz.grown g6 (fun q cj=>by have:=bl _ cj;omega));have cD:Hid (bi.heap[gi]? =some (.stringIter us ((ae.take k).length+1))):=O (by rw[g6.block gi J (fun e=>by have:=bl _ e.symm;omega)];exact cx);obtain⟨cF,b3⟩:=aB cm cg;clear cm g6 bl ac cy cL cz cx ce cJ cg;go_wp2_with fail;refine af _ _ Z ?_;clear af ax;refine aH ?_;refine bK 9 ?_;refine iU 10 ?_;intro ax af;have a7:=b3.cell' ek;have a4:=b3.frozen 17;go_wp2_with fail;generalize cl:World.setCell bi _ _=cn;have cM:ah cn (w.heap.size+1) ({r with ra:=bt,rn:=k1+1,rc:=bu,roles:=ls++[xs]}:ay).v 101:=by
       rw[<-cl];have ao:=b3.set 17 (.slice bt (k1+1) bu);rw[ay.DZ {r with ra:=a2,rn:=k1,rc:=a3,roles:=ls} bt (k1+1) bu (ls++[xs]) b4.hm]at ao;exact ao
      have bm:aU bi (w.heap.size+1) cn:=by rw[<-cl];exact aU.setCell _
      clear cl a7 a4;refine af _ _ trivial ?_;refine aH ?_;refine jR ?_;have cX:Ku w g gi (gi+1) ((ae.take k).length+1) us r bw bx (k1+1) cn bt bu (ls++[xs]) cs cw:=
       ⟨cM,cG.upd bm J,cA.upd bm J J,Gp df (by rw[<-fr.out];exact Qo fn cH),bm.ext cC J,by rw[length_append,dg.out];rfl,
       fun s hs=>by
        rcases mem_append.1 hs with h|h
        ·exact di s h
        ·rw[mem_singleton.1 h];omega,
       by rw[map_append];exact yG cF fun i b2 _=>bm.block i J,by rw[bm.block gi J];exact cD⟩
      have dk:=O cX;clear cX bm cM cG cA cC cD cF b3;go_wp2_with fail;go_roundw
      case rel=>exact⟨k1+1,bt,bu,ls++[xs],cs,cw,J,by go_num,dk⟩
      case measure=>simp[intOf];omega
     ·have ef:decide ((k1:Int)<(a9:Int))=false:=aP J;have eg:decide (k1<a9)=false:=aP j3;have d0:k1=a9:=J;subst d0;have ap:=bp.out wr {r with ra:=a2,rn:=k1,rc:=a3,roles:=ls} c0 c2
       ⟨aa.body,aa.res,aa.rd,Gq (i:=2) (b:=true) (fun dp ys=>{dp with roles:=ys}) cR.D9 (fun _ _=>rfl) R.took dl aa.took,aa.ext,
        {b4 with rl:=aa.len,qZ:=(bJ.xC aX aa.own).2.2,rm:=Nat.le_of_lt d1,rs:=aa.D_},(bJ.xC aX aa.own).1,(.inl (by rw[dv.l];rfl)),fun h=>absurd aF h,fun h=>by
         have ao:=R.nh (fun hm=>h (by simp[hm]));exact⟨ao.a,ao.n,ao.c,ao.l⟩,by rw[aa.it,length_append];rfl⟩
      clear aa j3 Co;go_wp2_with fail
      go_roundg ba
      case measure=>omega
      case rel=>exact ap
   ·skip
    go_wp2_with fail;refine(yH aE ar w.heap.size g bo R.rd).mono ?_;rintro e w2 ⟨x,rfl,hx,be,bh,a0,ai,sP,ag⟩;have a1:=O ai;clear ai;go_wp2_with fail;refine(xG be bh w.heap.size g x w2 J a0).mono ?_;rintro e fl ⟨eL,eM,y,cs,cw,rfl,e0,ec,b9,ck,cd,e8,cb⟩;obtain⟨HY,de,cH⟩:=aW ec b9 cd;have a8:=l9 ag cb;have fi:y.length<=140737488355328:=by rw[ec];omega
    have fs:=O fi;clear ec b9 cd ag cb a0 fi;have ac:=O (R.aM aq a8);have a7:=ac.cell' (ay.Gt R.fit);have a4:=ac.frozen 18;go_wp2_with (refine bF F (DY F F HY de.cells) ?_);generalize ab:World.setCell fl _ _=ad;have al:ah ad (w.heap.size+1) {r with label:=aY y}.v 101:=by rw[<-ab,<-ay.D5 r _ R.fit.hm];exact ac.set 18 (.string (aY y))
    have an:aU fl (w.heap.size+1) ad:=by rw[<-ab];exact aU.setCell _
    clear ab a7 a4;have a5:ay.Fit {r with label:=aY y}:={R.fit with ls:=by show y.toArray.size<=_;rw[size_toArray];exact fs};have ap:=bp.out _ _ _ _ (R.store (i:=3) aq az bc b0 b1 a8 ck an al (oW (i:=3) R.took (((Qo a1 cH).map fun x=>({r.p with label:=x}:bZ)).congr F)) a5 F F F F F F F F)
    go_roundg ba
    case measure=>omega
    case rel=>exact ap
   ·skip
    go_wp2_with fail;refine(xG aE ar w.heap.size g 32 bo J R.rd).mono ?_;rintro e w2 ⟨co,cp,x,be,bh,rfl,c8,hx,bd,a0,ai,sP,ag⟩;obtain⟨aw,br,a1⟩:=aW hx bd ai;clear hx bd ai;obtain⟨b,off,rfl,bj⟩:=br.cells.gQ (by rw[length_map,aw.out];omega);obtain⟨rz,b7,ac,ca⟩:=bU (dP.of br.cells) (show(x.map Y).length=32 by rw[length_map];exact aw) (R.aM aq ag) (show r.v.length=58 by unfold ay.v ay.t;simp[R.fit.hm,R.fit.hcm]);clear bj;go_wp2_with (first|(refine bF F (rC F F underlying31 l5 _) ?_)|(refine bF F (bQ F F rz bY b7) ?_)|(refine kR F _ _ _ F F F ac (by rw[b7.out];exact bY) (by rw[b7.out,ca.out];decide) (b_ x) ?_));intro ad al an;rw[ay.Gn _ _ R.fit.hm R.fit.hcm aw.out]at al;have a5:ay.Fit {r with commit:=x}:={R.fit with hcm:=aw.out};have ap:=bp.out _ _ _ _ (R.store (i:=4) aq az bc b0 b1 ag a0 an al (oW (i:=4) R.took ((a1.map fun x=>({r.p with commit:=x}:bZ)).congr F)) a5 F F F F F F F F);go_wp2_with fail
    go_roundg ba
    case measure=>omega
    case rel=>exact ap
   ·skip
    go_wp2_with fail;refine(xG aE ar w.heap.size g 4 bo J R.rd).mono ?_;rintro e w2 ⟨co,cp,x,be,bh,rfl,c8,hx,bd,a0,ai,sP,ag⟩;obtain⟨aw,br,a1⟩:=aW hx bd ai;clear hx bd ai;have tL:=DV x co 4 cp w2 aw J br.cells;obtain⟨N,ci⟩:=aC (kK (jM x));rw[ci]at tL;obtain⟨cE,dj⟩:=aB ci tL;clear ci tL;go_wp2_with fail;refine dj.mono ?_;rintro e w2 ⟨rfl,rfl⟩;have ac:=O (R.aM aq ag);have a7:=ac.cell' (ay.Bv R.fit.hm R.fit.hcm);have a4:=ac.frozen 51;go_wp2_with fail;generalize ab:World.setCell w2 _ _=ad;have al:ah ad (w.heap.size+1) {r with epoch:=N}.v 101:=by rw[<-ab,<-ay.D6 r _ R.fit.hm R.fit.hcm];exact ac.set 51 (.int .i64 N)
    have an:aU w2 (w.heap.size+1) ad:=by rw[<-ab];exact aU.setCell _
    clear ab a7 a4;have a5:ay.Fit {r with epoch:=N}:={R.fit with};have ap:=bp.out _ _ _ _ (R.store (i:=5) aq az bc b0 b1 ag a0 an al (oW (i:=5) R.took (by rw[<-cE.out,DW (by rw[Gs aw.out];have:=(iW x 0).toNat_lt;omega)];exact Yb a1)) a5 F F F F F F F F)
    go_roundg ba
    case measure=>omega
    case rel=>exact ap
   ·skip
    go_wp2_with fail;refine(yH aE ar w.heap.size g bo R.rd).mono ?_;rintro e w2 ⟨x,rfl,hx,be,bh,a0,ai,sP,ag⟩;have a1:=O ai;clear ai;have ac:=O (R.aM aq ag);have a7:=ac.cell' (ay.J8 R.fit.hm R.fit.hcm);have a4:=ac.frozen 52;go_wp2_with fail;generalize ab:World.setCell w2 _ _=ad;have al:ah ad (w.heap.size+1) {r with purpose:=(x:Int)}.v 101:=by rw[<-ab,<-ay.JY r _ R.fit.hm R.fit.hcm];exact ac.set 52 (.int .i64 (x:Int))
    have an:aU w2 (w.heap.size+1) ad:=by rw[<-ab];exact aU.setCell _
    clear ab a7 a4;have a5:ay.Fit {r with purpose:=(x:Int)}:={R.fit with};have ap:=bp.out _ _ _ _ (R.store (i:=6) aq az bc b0 b1 ag a0 an al (oW (i:=6) R.took ((a1.map fun(x:Nat)=>({r.p with purpose:=(x:Int)}:bZ)).congr F)) a5 F F F F F F F F)
    go_roundg ba
    case measure=>omega
    case rel=>exact ap
   ·skip
    go_wp2_with fail;refine(yH aE ar w.heap.size g bo R.rd).mono ?_;rintro e w2 ⟨x,rfl,hx,be,bh,a0,ai,sP,ag⟩;have a1:=O ai;clear ai;have ac:=O (R.aM aq ag);have a7:=ac.cell' (ay.PL R.fit.hm R.fit.hcm);have a4:=ac.frozen 53;go_wp2_with fail;generalize ab:World.setCell w2 _ _=ad;have al:ah ad (w.heap.size+1) {r with reason:=(x:Int)}.v 101:=by rw[<-ab,<-ay.JZ r _ R.fit.hm R.fit.hcm];exact ac.set 53 (.int .i64 (x:Int))
    have an:aU w2 (w.heap.size+1) ad:=by rw[<-ab];exact aU.setCell _
    clear ab a7 a4;have a5:ay.Fit {r with reason:=(x:Int)}:={R.fit with};have ap:=bp.out _ _ _ _ (R.store (i:=7) aq az bc b0 b1 ag a0 an al (oW (i:=7) R.took ((a1.map fun(x:Nat)=>({r.p with reason:=(x:Int)}:bZ)).congr F)) a5 F F F F F F F F)
    go_roundg ba
    case measure=>omega
    case rel=>exact ap
   ·skip
    go_wp2_with fail;refine(yH aE ar w.heap.size g bo R.rd).mono ?_;rintro e w2 ⟨x,rfl,hx,be,bh,a0,ai,sP,ag⟩;have a1:=O ai;clear ai;have ac:=O (R.aM aq ag);have a7:=ac.cell' (ay.J9 R.fit.hm R.fit.hcm);have a4:=ac.frozen 54;go_wp2_with fail;generalize ab:World.setCell w2 _ _=ad;have al:ah ad (w.heap.size+1) {r with need:=(x:Int)}.v 101:=by rw[<-ab,<-ay.J3 r _ R.fit.hm R.fit.hcm];exact ac.set 54 (.int .i64 (x:Int))
    have an:aU w2 (w.heap.size+1) ad:=by rw[<-ab];exact aU.setCell _
    clear ab a7 a4;have a5:ay.Fit {r with need:=(x:Int)}:={R.fit with};have ap:=bp.out _ _ _ _ (R.store (i:=8) aq az bc b0 b1 ag a0 an al (oW (i:=8) R.took ((a1.map fun(x:Nat)=>({r.p with need:=(x:Int)}:bZ)).congr F)) a5 F F F F F F F F)
    go_roundg ba
    case measure=>omega
    case rel=>exact ap
   ·skip
    have cR:=R.nh ev;have dv:=R.nr (fun h=>ey ⟨mem_of_mem_take h,et⟩);go_wp2_with fail;refine(yH aE ar w.heap.size g bo R.rd).mono ?_;rintro e ej ⟨a9,rfl,d1,bw,bx,cW,cY,yD,az⟩;have dl:=O cY;have b4:=O R.fit;have cT:=R.aM aq az;have cI:Kv w g gi (gi+1) ((ae.take k).length+1) us r bw bx 0 ej none 0 [] bw bx:=⟨by rw[cR.eq];exact cT,R.res.grown az (by simp;omega),cW,⟨fun h=>⟨h,F⟩,fun h=> .inl h⟩,R.ext.Ef az J,F,(fun _ h=>by cases h),⟨F,.inl ⟨F,F⟩⟩,by rw[az.block gi (Array.getElem?_eq_some_iff.1 R.it).1 (by simpa using bc)];exact R.it⟩;clear cW cY cT;go_wp2_with fail;go_loopw [112] (fun i wr=>∃(k1:Nat) (a:aN) (c:Nat) (ls:List (aj)) (aE:aj) (ar:Bool),k1<=a9/\i= .int .i64 (k1:Int)/\Kv w g gi (gi+1) ((ae.take k).length+1) us r bw bx k1 wr a c ls aE ar) (fun i _=>a9 - (intOf i).toNat)
    case atStart=>exact⟨0,none,0,[],bw,bx,J,F,cI⟩
    case round=>
     obtain⟨k1,a2,a3,ls,c0,c2,Co,rfl,aa⟩:=hrel;clear cI;by_cases j3:k1<a9
     ·have ef:decide ((k1:Int)<(a9:Int))=true:=aQ J;have eg:decide (k1<a9)=true:=aQ j3;obtain⟨C,iB,aJ,bP⟩:=kZ (I:=fun w'=>ah w' (w.heap.size+1) ({r with ha:=a2,hn:=k1,hc:=a3,mK:=ls}:ay).v 101) (fun _ _ b8 bj=>(b8.ext bj)) (w:=wr) (aa.body);have e1:({r with ha:=a2,hn:=k1,hc:=a3,mK:=ls}:ay).v[57]? =some (.slice a2 k1 a3):=ay.Ko (b:=({r with ha:=a2,hn:=k1,hc:=a3,mK:=ls}:ay)) b4.hm b4.hcm;have el:=O e1;clear e1;go_upto_region 37 with(fail);refine jQ (W:=[9]) fun Z=> ?_;refine bK 0 ?_;refine eY 1 (fun ei h=>((iB ei).1 h).cell' el) ?_;refine bK 2 ?_;refine fC 3 ?_;intro ax af;go_wp2_with fail;refine(xG c0 c2 w.heap.size g 16 wr.drew J (aa.rd.ext (X.refl wr).drew)).mono ?_;rintro e a_ ⟨eL,eM,x,cs,cw,rfl,e0,hx,b9,ck,cd,e8,cb⟩;have a8:wr.grownBy a_ (some g):=l9 (yC (sG wr _) (X.refl wr).drew) cb;have ch:ah a_ (w.heap.size+1) ({r with ha:=a2,hn:=k1,hc:=a3,mK:=ls}:ay).v 101:=aa.body.grown a8 (by simp;omega);replace Z:=(iB a_).2 ch;obtain⟨gd,gv,rfl,fN⟩:=b9.cells.gQ (by rw[length_map,hx];omega);obtain⟨rz,aw,b7,cH,OT⟩:=dM (dP.of b9.cells) hx (show(x.map Y).length=16 by rw[length_map];exact hx) cd (yG aa.own fun i b2 d'=>a8.block i d' (by simp;omega));have f2:=a8.size;go_wp2_with fail;refine af _ _ Z ?_;clear af ax cb hx b9 cd fN;refine aH ?_;refine fC 4 ?_;intro ax af;go_wp2_with (refine bF F (rC F F underlying29 l5 _) ?_);refine af _ _ Z ?_;clear af ax;refine aH ?_;refine fC 5 ?_;intro ax af;go_wp2_with (refine bF F (bQ F F rz dh b7) ?_);refine af _ _ Z ?_;clear af ax;refine aH ?_;refine fC 6 ?_
      intro ax af;go_wp2_with (refine PK F F F aw ?_);refine af _ _ (aJ _ _ Z ((X.refl a_).alloc _)) ?_;clear af ax;generalize ab:World.alloc a_ _=wB;have c1:ah wB a_.heap.size (x.map Y) 29:=by rw[<-ab];exact ah.aI F F
      have am:X a_ wB:=by rw[<-ab];exact(X.refl a_).alloc _
      have cS:=aJ _ _ Z am;clear Z;have Z:=cS;obtain⟨cJ,ce,cL,ac,cy,cz⟩:=iq c1 (dQ OT am) (ck.ext am) (ch.ext am) ((aa.res.grown a8 (by simp;omega)).ext am) ((aa.ext.Ef a8 J).ext am);have cU:=(Array.getElem?_eq_some_iff.1 aa.it).1;have cx:Hid (wB.heap[gi]? =some (.stringIter us ((ae.take k).length+1))):=O (by rw[am.block gi J,a8.block gi cU (by simpa using bc)];exact aa.it);have du:gi+1<=wB.heap.size:=by have:=am.size;omega
      have df:=O aa.took;have dg:=O aa.len;have di:=O aa.h16;clear cS ab c1 am OT ch ck a8 aa cU;refine aH ?_;refine fC 7 ?_;intro ax af;go_wp2_with (at_builtin;refine PI F _ _ F (gi+1) F F ce aw cJ J du ?_);intro f' bi cm g6;obtain⟨bt,bu,rfl⟩:=Gu cm;have bl:∀q,(Value.slice a2 k1 a3).ownBlock=some q->gi+1<=q:=pG ce;have cg:ah bi (w.heap.size+1) ({r with ha:=a2,hn:=k1,hc:=a3,mK:=ls}:ay).v 101:=ac.grown g6 (fun e=>by have:=bl _ e.symm;omega);replace Z:=(iB bi).2 cg;obtain⟨cG,cA,cC⟩:=aW (cy.grown g6 (fun e=>by have:=bl _ e.symm;omega)) (cL.Gl g6 (fun q cj=>by have:=bl _ cj;exact⟨J,J⟩)) (cz.grown g6 (fun q cj=>by have:=bl _ cj;omega));have cD:Hid (bi.heap[gi]? =some (.stringIter us ((ae.take k).length+1))):=O (by rw[g6.block gi J (fun e=>by have:=bl _ e.symm;omega)];exact cx);obtain⟨cF,b3⟩:=aB cm cg;clear cm g6 bl ac cy cL cz cx ce cJ cg;go_wp2_with fail;refine af _ _ Z ?_;clear af ax;refine aH ?_;refine bK 8 ?_;refine iU 9 ?_;intro ax af;have a7:=b3.cell' el;have a4:=b3.frozen 57;go_wp2_with fail;generalize cl:World.setCell bi _ _=cn;have cM:ah cn (w.heap.size+1) ({r with ha:=bt,hn:=k1+1,hc:=bu,mK:=ls++[x]}:ay).v 101:=by
       rw[<-cl];have ao:=b3.set 57 (.slice bt (k1+1) bu);rw[ay.J6 {r with ha:=a2,hn:=k1,hc:=a3,mK:=ls} bt (k1+1) bu (ls++[x]) b4.hm b4.hcm]at ao;exact ao
      have bm:aU bi (w.heap.size+1) cn:=by rw[<-cl];exact aU.setCell _
      clear cl a7 a4;refine af _ _ trivial ?_;refine aH ?_;refine jR ?_;have cX:Kv w g gi (gi+1) ((ae.take k).length+1) us r bw bx (k1+1) cn bt bu (ls++[x]) cs cw:=
       ⟨cM,cG.upd bm J,cA.upd bm J J,Gp df cH,bm.ext cC J,by rw[length_append,dg.out];rfl,
       fun s hs=>by
        rcases mem_append.1 hs with h|h
        ·exact di s h
        ·rw[mem_singleton.1 h];exact aw,
       yG cF fun i b2 _=>bm.block i J,by rw[bm.block gi J];exact cD⟩
      have dk:=O cX;clear cX bm cM cG cA cC cD cF b3;go_wp2_with fail;go_roundw
      case rel=>exact⟨k1+1,bt,bu,ls++[x],cs,cw,J,by go_num,dk⟩
      case measure=>simp[intOf];omega
     ·have ef:decide ((k1:Int)<(a9:Int))=false:=aP J;have eg:decide (k1<a9)=false:=aP j3;have d0:k1=a9:=J;subst d0;have ap:=bp.out wr {r with ha:=a2,hn:=k1,hc:=a3,mK:=ls} c0 c2
       ⟨aa.body,aa.res,aa.rd,Gq (i:=9) (b:=true) (fun dp ys=>{dp with mK:=ys}) cR.D9 (fun _ _=>rfl) R.took dl aa.took,aa.ext,
        {b4 with hl:=aa.len,hnc:=(bJ.xC aX aa.own).2.2,vZ:=Nat.le_of_lt d1,h16:=aa.h16},(.inl (by rw[dv.l];rfl)),(bJ.xC aX aa.own).1,fun h=>by
         have ao:=R.nr (fun hm=>h (by simp[hm]));exact⟨ao.a,ao.n,ao.c,ao.l⟩,fun h=>absurd aF h,by rw[aa.it,length_append];rfl⟩
      clear aa j3 Co;go_wp2_with fail
      go_roundg ba
      case measure=>omega
      case rel=>exact ap
   ·skip
    go_wp2_with fail;refine(yH aE ar w.heap.size g bo R.rd).mono ?_;rintro e w2 ⟨x,rfl,hx,be,bh,a0,ai,sP,ag⟩;have a1:=O ai;clear ai;have ac:=O (R.aM aq ag);have a7:=ac.cell' (ay.PN R.fit.hm R.fit.hcm);have a4:=ac.frozen 55;go_wp2_with fail;generalize ab:World.setCell w2 _ _=ad;have al:ah ad (w.heap.size+1) {r with version:=(x:Int)}.v 101:=by rw[<-ab,<-ay.J4 r _ R.fit.hm R.fit.hcm];exact ac.set 55 (.int .i64 (x:Int))
    have an:aU w2 (w.heap.size+1) ad:=by rw[<-ab];exact aU.setCell _
    clear ab a7 a4;have a5:ay.Fit {r with version:=(x:Int)}:={R.fit with};have ap:=bp.out _ _ _ _ (R.store (i:=10) aq az bc b0 b1 ag a0 an al (oW (i:=10) R.took ((a1.map fun(x:Nat)=>({r.p with version:=(x:Int)}:bZ)).congr F)) a5 F F F F F F F F)
    go_roundg ba
    case measure=>omega
    case rel=>exact ap
   ·skip
    go_wp2_with fail;refine(xG aE ar w.heap.size g 8 bo J R.rd).mono ?_;rintro e w2 ⟨co,cp,x,be,bh,rfl,c8,hx,bd,a0,ai,sP,ag⟩;obtain⟨aw,br,a1⟩:=aW hx bd ai;clear hx bd ai;have tL:=DV x co 8 cp w2 aw J br.cells;obtain⟨N,ci⟩:=aC (kK (jM x));rw[ci]at tL;obtain⟨cE,dj⟩:=aB ci tL;clear ci tL;go_wp2_with fail;refine dj.mono ?_;rintro e w2 ⟨rfl,rfl⟩;have ac:=O (R.aM aq ag);have a7:=ac.cell' (ay.J_ R.fit.hm R.fit.hcm);have a4:=ac.frozen 56;go_wp2_with fail;generalize ab:World.setCell w2 _ _=ad;have al:ah ad (w.heap.size+1) {r with count:=N}.v 101:=by rw[<-ab,<-ay.J5 r _ R.fit.hm R.fit.hcm];exact ac.set 56 (.int .i64 N)
    have an:aU w2 (w.heap.size+1) ad:=by rw[<-ab];exact aU.setCell _
    clear ab a7 a4;have a5:ay.Fit {r with count:=N}:={R.fit with};have ap:=bp.out _ _ _ _ (R.store (i:=11) aq az bc b0 b1 ag a0 an al (oW (i:=11) R.took (by rw[<-cE.out];exact Ya a1)) a5 F F F F F F F F)
    go_roundg ba
    case measure=>omega
    case rel=>exact ap
  ·have cr:¬k<us.size:=by rw[ex.out];exact d4
   have cc:=bk.it;rw[c_]at cc;have d3:∀ty,(Instr.next (.pointer (some ⟨gi,0,none⟩)) true ty).run prog wr=_:=fun ty=>Lib.run_next_end_at wr gi us k ty cc cr;have e5:ae.take k=ae:=take_of_length_le J;rw[e5]at bk;have b5:=O bk;obtain⟨dq,b',dt,u6,f1, -,gr, -, -⟩:=bk.rd;have ed:=u6.cell' (i:=0) (v:= .slice dq b' dt) F;have k1:=u6.cell' (i:=1) (v:= .bool ar) F;have c5:=O bk.took;have c6:=O bk.res;have c4:=O bk.ext;have ca:=O (show r.v.length=58 by unfold ay.v ay.t;simp[bk.fit.hm,bk.fit.hcm]);clear cc e5 bk c_ u6;cases ar with
   |true=>
    have e':jC kF ae kD l=none:=(c5.2 F).resolve_left aF;have a6:=b6.out;rw[e']at a6;simp only at a6;subst a6;clear b6 c5 e';go_wp2_with (refine bg F _ _ _ F F F c6 eP fM (xs:=dI.v) fM (lD dI) ?_);intro bi dr eh;go_wp2_with fail;exact iy F F dr eP fM F ⟨dI,F,rE,.inl F,.inl F,F,eh.ext c4 l5⟩
   |false=>
   have fd:=(c5.1 F).2;have a6:=b6.out;rw[fd]at a6;simp only at a6;rw[f1]at a6;clear b6 c5 fd;by_cases cv:0<b'
   ·rw[if_pos cv]at a6;subst a6;have fy:decide (0<b')=true:=aQ cv;have fz:decide ((0:Int)<(b':Int))=true:=aQ J;clear cv;go_wp2_with (refine bg F _ _ _ F F F c6 eP fM (xs:=dI.v) fM (lD dI) ?_);intro bi dr eh;go_wp2_with fail;exact iy F F dr eP fM F ⟨dI,F,rE,.inl F,.inl F,F,eh.ext c4 l5⟩
   rw[if_neg cv]at a6;have fy:decide (0<b')=false:=aP cv;have fz:decide ((0:Int)<(b':Int))=false:=aP J;have dy:=eV.out r;rw[Gv b5.fit.rl b5.fit.hl]at dy;have dd:=O dy;generalize uh (K:Int) r.p=E at a6 dd;have b6:=O a6;have dc:=O b5.body;clear dy a6 cv eV;go_wp2_with (refine bV F 101 (.tmp 6) F F dc eP ca ?_);refine(dd wr (b5.fit.ok b5.jF b5.hhi)).mono ?_;rintro e bi ⟨rfl,cq⟩;obtain⟨eK,eo,fm,ft,fv⟩:=dM (c6.ext cq) (c4.ext cq) (dc.ext cq) (b5.jF.ext cq) (b5.hhi.ext cq);clear cq c6 c4 dc dd ed k1;by_cases ee:E=0
   ·subst ee;have a6:=b6.out;rw[if_pos F]at a6;subst a6;clear b6;go_wp2_with (first|(refine bV F 101 (.tmp 6) F F fm eP ca ?_)|(refine bg F _ _ _ F F F eK eP fM (xs:=r.v) ca (lD r) ?_));intro ga ds c3;go_wp2_with fail;exact iy F F ds eP ca F ⟨r,F,b5.fit,(ft.upd c3 J).lower J,(fv.upd c3 J).lower J,F,c3.ext eo l5⟩
   ·have a6:=b6.out;rw[if_neg ee]at a6;subst a6;have gg:(E != 0)=true:=by simpa using ee
    clear b6;go_wp2_with (refine bg F _ _ _ F F F eK eP fM (xs:=dI.v) fM (lD dI) ?_);intro ga ds c3;go_wp2_with fail;exact iy F F ds eP fM F ⟨dI,F,rE,.inl F,.inl F,F,c3.ext eo l5⟩
end
end Go.Proofs.YtjlhhnkhcbpnjaaGreatDoor
