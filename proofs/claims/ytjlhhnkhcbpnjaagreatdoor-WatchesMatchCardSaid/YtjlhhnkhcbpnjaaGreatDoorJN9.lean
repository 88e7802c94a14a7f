/- Laws; no condition. -/
import Derived.Test.YtjlhhnkhcbpnjaaGreatDoorJN8
import Derived.Great.FillDense
import Derived.Maps.RangeRun
import Derived.Maps.RangeWalk
import Derived.WideKeyArr
namespace Go.Proofs.YtjlhhnkhcbpnjaaGreatDoor
open Go Go.RowKit List Tryz
open Go.Value(int slice agg cells pointer)
open Go.World(alloc setCell)
open Go.Region(ready)
set_option linter.all false
set_option maxHeartbeats 40000000
set_option maxRecDepth 100000
def JH(k:Nat)(u:ByteArray)(n:Bool)(p:Addr)(w:World)(d:w.cell? p=some (.string u))(b:∀w,Calls prog 184 #[.string u,.string ⟨#[nX k]⟩] w λe w'=>e= .returned (.bool n)/\w=w'):
 qR 183 #[.string ⟨#[nX k]⟩,.pointer (some p)] w (.bool n):=by
 obtain⟨f,a⟩:=aA d b;obtain⟨g,c⟩:=aF ((⟨#[nX k]⟩:ByteArray):ByteArray);rw[c]at a⊢;clear d b c;go_enter func183,ntmps183;go_wp2_with (first|(refine oH F (pR F F f xJ) ?_));refine(a w).mono ?_;rintro e w' ⟨rfl,rfl⟩;go_wp2;go_ret;exact⟨F,F⟩
def LJ(n a b:Int)(w:World):
 qR 185 #[.int .i64 n,.int .i64 a,.int .i64 b] w (.bool (!fZ n a b)):=by
 by_cases d:a<=n
 ·by_cases e:n<=b
  ·have c:fZ n a b=false:=by unfold fZ;simp;omega
   have f:=bV d;have g:=bV e;rw[c];clear c d e;go_enter func185,ntmps185;go_wp2;go_ret;exact⟨F,F⟩
  ·have c:fZ n a b=true:=by unfold fZ;simp;omega
   have f:=bV d;have g:=bg e;rw[c];clear c d e;go_enter func185,ntmps185;go_wp2;go_ret;exact⟨F,F⟩
 ·have c:fZ n a b=true:=by unfold fZ;simp;omega
  have f:=bg d;rw[c];clear c d;go_enter func185,ntmps185;go_wp2;go_ret;exact⟨F,F⟩
def Sb(act:Int)(b:aD):Bool:=
 (fO act 6&&fZ b.purpose 1 3)||((fO act 7&&fZ b.reason 0 255)||((fO act 10&&fZ b.version 0 255)||((fO act 8&&fZ b.need 1 32)||((fO act 5&&fZ b.epoch 0 4294967295)||(fO act 11&&fZ b.count 0 65536)))))
def akt{act:Int}{b:aD}(h:vP b (sP act)=false):Sb act b=DK act b:=by
 have z:=aeY h;unfold Sb DK;have f:(fO act 7&&fZ b.reason 0 255)=fZ b.reason 0 255:=by
  cases a:fO act 7 with
  |true=>rfl
  |false=>rw[z.a a];rfl
 have c:(fO act 10&&fZ b.version 0 255)=fZ b.version 0 255:=by
  cases a:fO act 10 with
  |true=>rfl
  |false=>rw[z.v a];rfl
 have e:(fO act 5&&fZ b.epoch 0 4294967295)=fZ b.epoch 0 4294967295:=by
  cases a:fO act 5 with
  |true=>rfl
  |false=>rw[z.e a];rfl
 have d:(fO act 11&&fZ b.count 0 65536)=fZ b.count 0 65536:=by
  cases a:fO act 11 with
  |true=>rfl
  |false=>rw[z.k a];rfl
 rw[f,c,e,d];simp only[Bool.or_assoc]
def Y1(act:Int)(b:aD)(w:World)(M:b.Ok w):
 eO 129 #[.int .i64 act,.agg b.v.toArray] w (.int .i64 (qG act b)):=by
 have a1:=O M;obtain⟨E,m⟩:=aF (qG act b);rw[m];unfold qG at m;by_cases ar:act<1
 ·have L:kR act=false:=by unfold kR;rw[bg J];rfl
  rw[L]at m;have c:(3:Int)=E:=m;have a:=O c;have a3:=bV ar;clear m c L ar M;go_enter func129,ntmps129;go_wp2;go_ret;exact⟨by rw[<-a.out];rfl,(aj.refl w).alloc _⟩
 by_cases bu:12<act
 ·have L:kR act=false:=by unfold kR;rw[bg (show¬act<=12 by omega),Bool.and_false]
  rw[L]at m;have c:(3:Int)=E:=m;have a:=O c;have a3:=bg ar;have bm:=bV bu;clear m c L ar bu M;go_enter func129,ntmps129;go_wp2;go_ret;exact⟨by rw[<-a.out];rfl,(aj.refl w).alloc _⟩
 have L:kR act=true:=by unfold kR;rw[bV (show 1<=act by omega),bV (show act<=12 by omega)];rfl
 have a3:=bg ar;have bm:=bg bu;obtain⟨bz,T⟩:=aA (λw' h=>afE act b w' h L) (λk w cq=>aak act k w L cq);obtain⟨f,rfl⟩:∃f:Nat,act=(f:Int):=⟨act.toNat,J⟩;have de:=O (λw=>Tx f w J);obtain⟨u,cw⟩:=aF ((⟨(Aw f).toArray⟩:ByteArray):ByteArray);rw[show(f:Int).toNat=f from F,cw]at T;rw[cw]at de;have ct:vP b (sP (f:Int))=false->Sb (f:Int) b=DK (f:Int) b:=akt;rw[L]at m;clear cw L ar bu M;go_enter func129,ntmps129;go_upto_region 1 with(fail);generalize cx:alloc w _=dt;have cn:=dS cx;obtain⟨cd,cF,cT,cQ⟩:=bT (dX cx b.v 101) cn (a1.ext cn) (aD.len a1);clear cx cn;cases aw:vP b (sP (f:Int))with
 |true=>
  rw[aw]at m;have c:(2:Int)=E:=m;have a:=O c;have ad:=bz.out dt cT;rw[aw]at ad;have cf:=O ad;clear m c ad ct bz;go_wp2_with (refine dA F 101 (.tmp 3) F F cd jQ cQ ?_);refine cf.mono ?_;rintro e dq ⟨rfl,al⟩;have d':=O (cF.ext al);clear al;go_wp2;go_ret;exact⟨by rw[<-a.out];rfl,d'⟩
 |false=>
 rw[aw]at m;rw[<-ct aw]at m;have ad:=bz.out dt cT;rw[aw]at ad;obtain⟨cf,a⟩:=aA ad m;clear m ad ct bz aw;go_wp2_with (refine dA F 101 (.tmp 3) F F cd jQ cQ ?_);refine cf.mono ?_;rintro e dq ⟨rfl,al⟩;obtain⟨dT,ea⟩:=aA (cd.ext al) (cF.ext al);clear al;go_wp2_with fail;refine(de dq).mono ?_;rintro e dr ⟨rfl,cm⟩;obtain⟨d0,eb⟩:=aA (dT.ext cm) (ea.ext cm);clear cm;go_upto_region 9 with(fail);generalize cy:alloc dr _=du;have cC:=dX cy [.string u] 9;have co:=dS cy;obtain⟨ac,da⟩:=aF dr.heap.size;rw[da]at cC⊢;obtain⟨af,P,cX⟩:=aW (d0.ext co) (eb.ext co) cC;have ai:=O (a1.ext P);clear cy cC co da;have a2:=af.cell' (aD.kV b);have W:=af.cell' (aD.yC ai);have z:=af.cell' (aD.FV ai);by_cases a8:32768<b.text.size
 ·have cl:=bV a8;have bo:=cO ((32768:Int)<(b.text.size:Int));have c:(5:Int)=E:=by rw[<-a.out];simp[a8]
  clear a;have a:=O c;clear c a8;go_wp2;go_ret;exact⟨by rw[<-a.out];rfl,P⟩
 have cl:=bg a8;have en:=bU ((32768:Int)<(b.text.size:Int));by_cases a9:16<b.rn
 ·have bo:=bV a9;have bp:=cO ((16:Int)<(b.rn:Int));have c:(5:Int)=E:=by rw[<-a.out];simp[a9]
  clear a;have a:=O c;clear c a9;go_wp2;go_ret;exact⟨by rw[<-a.out];rfl,P⟩
 have bo:=bg a9;have eo:=bU ((16:Int)<(b.rn:Int));by_cases a_:32<b.hn
 ·have bp:=bV a_;have eL:=cO ((32:Int)<(b.hn:Int));have c:(5:Int)=E:=by rw[<-a.out];simp[a_]
  clear a;have a:=O c;clear c a_;go_wp2;go_ret;exact⟨by rw[<-a.out];rfl,P⟩
 have bp:=bg a_;have ep:=bU ((32:Int)<(b.hn:Int));have bk:=a.out;rw[cl,bo,bp]at bk;obtain⟨Q,bx⟩:=aF (Gv b.roles);rw[bx]at bk;have c9:wo (yT b.roles 0) (b.roles.drop 0)=Q:=bx;obtain⟨eh,cS⟩:=aA bx c9;clear a bx c9;have a:=O bk;clear bk;have ch:=O ai.rl;go_upto_block 0 with(fail);go_cut [] (λo=>Q=0/\aj du o)
 ·go_wp2_with fail;go_loopw [46] (λi wr=>∃k:Nat,k<=b.rn/\i= .int .i64 (k:Int)/\wo (yT b.roles k) (b.roles.drop k)=Q/\aj du wr) (λi _=>b.rn - (intOf i).toNat)
  ·exact⟨0,J,F,cS,aj.refl _⟩
  ·obtain⟨k,cq,rfl,s,br⟩:=hrel;obtain⟨be,bi,dC⟩:=aW br (ai.ext br) (af.ext br);clear br;by_cases N:k<b.rn
   ·have eC:=cO ((k:Int)<(b.rn:Int));have eE:=bV N;have ci:=ch.out;obtain⟨x,ax⟩:∃x,b.roles[k]? =some x:=⟨b.roles[k]'J,mG _⟩;rw[aco ax]at s;obtain⟨A,a5,c_⟩:=Ki bi.vk ax;obtain⟨cg,bj,a0⟩:=aW c_ a5 (λw'=>O6 x w' (by have:=bi.rs x (f_ ax);omega));clear c_ ci;cases ae:nH x.data.toList with
    |false=>
     rw[ae]at a0 s;have c:(6:Int)=E:=by
      have es:Q=6:=by rw[<-s];rfl
      rw[<-a.out,es];rfl
     have ee:=O c;clear s ax c a5 a2 W z;go_wp2_with (first|(refine oH F (gD (p:=A) (i:=k) F (by show slice b.ra b.rn b.rc=_;rw[bj.out]) F underlying98 CZ N _) ?_)|(refine oH F (pR F F cg xJ) ?_));refine(a0 wr).mono ?_;rintro e ds ⟨rfl,K⟩;have ag:=O (be.ext K);clear K;go_wp2;go_ret;exact⟨by rw[<-ee.out];rfl,P.ext ag⟩
    |true=>
     rw[ae]at a0 s;simp only[wX]at s;cases k with
     |zero=>
      have M:wo (yT b.roles 1) (b.roles.drop 1)=Q:=s;have eg:=O M;clear M s ax a5 a2 W z;go_wp2_with (first|(refine oH F (gD (p:=A) (i:=0) F (by show slice b.ra b.rn b.rc=_;rw[bj.out]) F underlying98 CZ N _) ?_)|(refine oH F (pR F F cg xJ) ?_));refine(a0 wr).mono ?_;rintro e ds ⟨rfl,K⟩;have ag:=O (be.ext K);clear K;go_wp2;go_roundw
      ·exact⟨1,J,by go_num,eg,ag⟩
      ·exact fV
     |succ j=>
      have ci:=ch.out;obtain⟨q,a6⟩:∃q,b.roles[j]? =some q:=⟨b.roles[j]'J,mG _⟩;obtain⟨eJ,bw,sM⟩:=Ki bi.vk a6;rw[a5]at bw;injection bw with bw;subst bw;have ed:=O sM;have dc:(if BA q x=true then wo (yT b.roles (j+2)) (b.roles.drop (j+2))else 9)=Q:=by
       rw[show yT b.roles (j+1)=some q from a6]at s;exact s
      obtain⟨cR,eK⟩:=aA dc (aaQ q x);have cp:j<b.rn:=J;have dj:IntKind.i64.wrap (((j+1:Nat):Int) - 1)=(j:Int):=by rw[fJ _ J];omega
      have dm:=cO ((0:Int)<((j+1:Nat):Int));clear sM a6 s ax dc ci a2 W z a5;go_wp2_with (first|(refine oH F (gD (p:=A) (i:=j+1) F (by show slice b.ra b.rn b.rc=_;rw[bj.out]) F underlying98 CZ N _) ?_)|(refine oH F (pR F F cg xJ) ?_));refine(a0 wr).mono ?_;rintro e ds ⟨rfl,K⟩;have ec:=O (oP ed K);have W:=(dC.ext K).cell' (aD.yC bi);rw[bj.out]at W;have ag:=O (be.ext K);clear K;go_wp2_with (first|(refine oH F (gD (p:=A) (i:=j) F F F underlying98 CZ cp _) ?_)|(refine oH F (pR F F ec xJ) ?_))
      ·rename_i cr;have cs:BA q x=false:=by unfold BA;simpa using cr
       have bv:Q=9:=by rw[<-cR.out,cs];rfl
       have c:(9:Int)=E:=by rw[<-a.out,bv];rfl
       go_ret;exact⟨by rw[<-c];rfl,P.ext ag⟩
      ·rename_i cr;have cs:BA q x=true:=by unfold BA;simpa using cr
       have er:wo (yT b.roles (j+2)) (b.roles.drop (j+2))=Q:=by have:=cR.out;rw[cs]at this;simpa using this
       go_roundw
       ·exact⟨j+2,J,by go_num,er,ag⟩
       ·exact fV
   ·have eC:=bU ((k:Int)<(b.rn:Int));have eE:=bg N;rw[acn (by rw[ch.out];omega)]at s;have ef:=O s;clear s a2 W z;go_wp2;go_meet;exact⟨ef.symm,be⟩
 obtain⟨et,a4⟩:=hcut;subst et;obtain⟨aE,H,bl,B⟩:=bT (af.ext a4) (P.ext a4) (cX.ext a4) (ai.ext a4);obtain⟨cc,df⟩:=aF wc;rw[df]at aE H bl B⊢;clear df a4 af P cX ai cS eh a2 W z a3 bm cl en bo eo bp ep a8 a9 a_;have cY:=aE.cell' (aD.K5 B);have ae:=O (λw'=>O6 b.label w' (by have:=B.ls;omega));have b0:=bl.cell' (i:=0) (v:= .string u) F;have l:=a.out;unfold Sb at l;simp only[bne_self_eq_false,Qi,Ed]at l;have ab:=λw' n=>JH 3 u (fO (f:Int) 3) ⟨ac,0,none⟩ w' n (λw=>T 3 w J);generalize fO (f:Int) 3=b3 at ab l;have ab:=O ab;have ao:=λw' n=>JH 6 u (fO (f:Int) 6) ⟨ac,0,none⟩ w' n (λw=>T 6 w J);generalize fO (f:Int) 6=b5 at ao l;have ao:=O ao;have ap:=λw' n=>JH 7 u (fO (f:Int) 7) ⟨ac,0,none⟩ w' n (λw=>T 7 w J);generalize fO (f:Int) 7=b6 at ap l;have ap:=O ap;have am:=λw' n=>JH 10 u (fO (f:Int) 10) ⟨ac,0,none⟩ w' n (λw=>T 10 w J);generalize fO (f:Int) 10=b2 at am l;have am:=O am;have aq:=λw' n=>JH 8 u (fO (f:Int) 8) ⟨ac,0,none⟩ w' n (λw=>T 8 w J);generalize fO (f:Int) 8=b7 at aq l;have aq:=O aq;have an:=λw' n=>JH 5 u (fO (f:Int) 5) ⟨ac,0,none⟩ w' n (λw=>T 5 w J);generalize fO (f:Int) 5=b4 at an l;have an:=O an;have aa:=λw' n=>JH 11 u (fO (f:Int) 11) ⟨ac,0,none⟩ w' n (λw=>T 11 w J);generalize fO (f:Int) 11=dk at aa l;have aa:=O aa;generalize nH b.label.data.toList=ck at ae l;have bb:=λw'=>LJ b.purpose 1 3 w';generalize fZ b.purpose 1 3=b' at bb l;have bb:=O bb;have bc:=λw'=>LJ b.reason 0 255 w';generalize fZ b.reason 0 255=ca at bc l;have bc:=O bc
 have a':=λw'=>LJ b.version 0 255 w';generalize fZ b.version 0 255=b8 at a' l;have a':=O a';have bd:=λw'=>LJ b.need 1 32 w';generalize fZ b.need 1 32=cb at bd l;have bd:=O bd;have ba:=λw'=>LJ b.epoch 0 4294967295 w';generalize fZ b.epoch 0 4294967295=b9 at ba l;have ba:=O ba;have az:=λw'=>LJ b.count 0 65536 w';generalize fZ b.count 0 65536=dl at az l;have az:=O az;clear a;have a:=O l;clear l;go_upto_block 2 with(fail);go_cut [] (λo=>(b3&& !ck)=false/\((b5&&b')||((b6&&ca)||((b2&&b8)||((b7&&cb)||((b4&&b9)||(dk&&dl))))))=false/\aj cc o)
 ·go_upto_region 19 with(fail);go_cut [67] (λv o=>v= .bool (b3&& !ck)/\aj cc o)
  ·cases b3 with
   |false=>
    go_wp2_with fail;refine(ab cc b0).mono ?_;rintro e g ⟨rfl,rfl⟩;go_wp2;go_meet;exact⟨F,aj.refl _⟩
   |true=>
    go_wp2_with fail;refine(ab cc b0).mono ?_;rintro e g ⟨rfl,rfl⟩;go_wp2_with fail;refine(ae _).mono ?_;rintro e g ⟨rfl,R⟩;have bh:=O R;clear R;go_wp2;go_meet;exact⟨F,bh⟩
  obtain⟨rfl,bs⟩:=hcut;obtain⟨U,G⟩:=aA (aE.ext bs) bs;have dp:=(bl.ext bs).cell' (i:=0) (v:= .string u) F;have r:=O dp;clear bs dp cY b0 ae ab;obtain⟨d,dg⟩:=aF wc;rw[dg]at U G r⊢;clear dg;generalize c3:(b3&& !ck)=d4 at a⊢;have cI:=O c3;clear c3;cases d4 with
  |true=>
   have c:(6:Int)=E:=by rw[<-a.out];rfl
   clear a;go_wp2;go_ret;exact⟨by rw[<-c];rfl,H.ext G⟩
  |false=>
  have ey:=U.cell' (aD.yD B);go_upto_region 21 with(fail);go_cut [76] (λv o=>v= .bool (b5&&b')/\o=d)
  ·cases b5 with
   |false=>
    go_wp2_with fail;refine(ao d r).mono ?_;rintro e g ⟨rfl,rfl⟩;go_wp2;go_meet;exact⟨F,F⟩
   |true=>
    go_wp2_with fail;refine(ao d r).mono ?_;rintro e g ⟨rfl,rfl⟩;go_wp2_with fail;refine(bb d).mono ?_;rintro e g ⟨rfl,rfl⟩;go_wp2;go_meet;exact⟨by cases b'<;>rfl,F⟩
  obtain⟨rfl,t⟩:=hcut;rw[t];clear t ey;generalize c5:(b5&&b')=d6 at a⊢;have cL:=O c5;clear c5;cases d6 with
  |true=>
   have c:(4:Int)=E:=by rw[<-a.out];rfl
   clear a;go_wp2;go_ret;exact⟨by rw[<-c];rfl,H.ext G⟩
  |false=>
  have ez:=U.cell' (aD.Ad B);go_upto_region 22 with(fail);go_cut [76] (λv o=>v= .bool (b6&&ca)/\o=d)
  ·cases b6 with
   |false=>
    go_wp2_with fail;refine(ap d r).mono ?_;rintro e g ⟨rfl,rfl⟩;go_wp2;go_meet;exact⟨F,F⟩
   |true=>
    go_wp2_with fail;refine(ap d r).mono ?_;rintro e g ⟨rfl,rfl⟩;go_wp2_with fail;refine(bc d).mono ?_;rintro e g ⟨rfl,rfl⟩;go_wp2;go_meet;exact⟨by cases ca<;>rfl,F⟩
  obtain⟨rfl,t⟩:=hcut;rw[t];clear t ez;generalize c6:(b6&&ca)=d7 at a⊢;have cM:=O c6;clear c6;cases d7 with
  |true=>
   have c:(4:Int)=E:=by rw[<-a.out];rfl
   clear a;go_wp2;go_ret;exact⟨by rw[<-c];rfl,H.ext G⟩
  |false=>
  have ew:=U.cell' (aD.K9 B);go_upto_region 23 with(fail);go_cut [76] (λv o=>v= .bool (b2&&b8)/\o=d)
  ·cases b2 with
   |false=>
    go_wp2_with fail;refine(am d r).mono ?_;rintro e g ⟨rfl,rfl⟩;go_wp2;go_meet;exact⟨F,F⟩
   |true=>
    go_wp2_with fail;refine(am d r).mono ?_;rintro e g ⟨rfl,rfl⟩;go_wp2_with fail;refine(a' d).mono ?_;rintro e g ⟨rfl,rfl⟩;go_wp2;go_meet;exact⟨by cases b8<;>rfl,F⟩
  obtain⟨rfl,t⟩:=hcut;rw[t];clear t ew;generalize c2:(b2&&b8)=d3 at a⊢;have cH:=O c2;clear c2;cases d3 with
  |true=>
   have c:(4:Int)=E:=by rw[<-a.out];rfl
   clear a;go_wp2;go_ret;exact⟨by rw[<-c];rfl,H.ext G⟩
  |false=>
  have eA:=U.cell' (aD.K8 B);go_upto_region 24 with(fail);go_cut [76] (λv o=>v= .bool (b7&&cb)/\o=d)
  ·cases b7 with
   |false=>
    go_wp2_with fail;refine(aq d r).mono ?_;rintro e g ⟨rfl,rfl⟩;go_wp2;go_meet;exact⟨F,F⟩
   |true=>
    go_wp2_with fail;refine(aq d r).mono ?_;rintro e g ⟨rfl,rfl⟩;go_wp2_with fail;refine(bd d).mono ?_;rintro e g ⟨rfl,rfl⟩;go_wp2;go_meet;exact⟨by cases cb<;>rfl,F⟩
  obtain⟨rfl,t⟩:=hcut;rw[t];clear t eA;generalize c7:(b7&&cb)=d8 at a⊢;have cN:=O c7;clear c7;cases d8 with
  |true=>
   have c:(4:Int)=E:=by rw[<-a.out];rfl
   clear a;go_wp2;go_ret;exact⟨by rw[<-c];rfl,H.ext G⟩
  |false=>
  have ex:=U.cell' (aD.sG B);go_upto_region 25 with(fail);go_cut [76] (λv o=>v= .bool (b4&&b9)/\o=d)
  ·cases b4 with
   |false=>
    go_wp2_with fail;refine(an d r).mono ?_;rintro e g ⟨rfl,rfl⟩;go_wp2;go_meet;exact⟨F,F⟩
   |true=>
    go_wp2_with fail;refine(an d r).mono ?_;rintro e g ⟨rfl,rfl⟩;go_wp2_with fail;refine(ba d).mono ?_;rintro e g ⟨rfl,rfl⟩;go_wp2;go_meet;exact⟨by cases b9<;>rfl,F⟩
  obtain⟨rfl,t⟩:=hcut;rw[t];clear t ex;generalize c4:(b4&&b9)=d5 at a⊢;have cJ:=O c4;clear c4;cases d5 with
  |true=>
   have c:(4:Int)=E:=by rw[<-a.out];rfl
   clear a;go_wp2;go_ret;exact⟨by rw[<-c];rfl,H.ext G⟩
  |false=>
  have eN:=U.cell' (aD.K_ B);cases dk with
  |false=>
   go_wp2_with fail;refine(aa d r).mono ?_;rintro e g ⟨rfl,rfl⟩;go_wp2;go_meet;exact⟨cI,by rw[cL.out,cM.out,cH.out,cN.out,cJ.out];rfl,G⟩
  |true=>
   cases dl with
   |true=>
    have c:(4:Int)=E:=by rw[<-a.out];rfl
    clear a;go_wp2_with fail;refine(aa d r).mono ?_;rintro e g ⟨rfl,rfl⟩;go_wp2_with fail;refine(az d).mono ?_;rintro e g ⟨rfl,rfl⟩;go_wp2;go_ret;exact⟨by rw[<-c];rfl,H.ext G⟩
   |false=>
    go_wp2_with fail;refine(aa d r).mono ?_;rintro e g ⟨rfl,rfl⟩;go_wp2_with fail;refine(az d).mono ?_;rintro e g ⟨rfl,rfl⟩;go_wp2;go_meet;exact⟨cI,by rw[cL.out,cM.out,cH.out,cN.out,cJ.out];rfl,G⟩
 obtain⟨dv,dy,bt⟩:=hcut;have c':(if !EX b.dG then(9:Int)else 0)=E:=by
  have bv:=a.out;rw[dv,dy]at bv;simpa using bv
 obtain⟨cP,ce,cG,cj⟩:=bT c' (aE.ext bt) (H.ext bt) (B.ext bt);obtain⟨eI,di⟩:=aF wc;rw[di]at ce cG cj⊢;clear di bt dv dy c' a aE H bl B cY b0 ae ab ao ap am aq an aa bb bc a' bd ba az;have z:=ce.cell' (aD.FV cj);go_wp2_with fail;go_loopw [134] (λi wr=>∃k:Nat,k<=b.hn/\i= .int .i64 (k:Int)/\A8 b.dG k/\aj eI wr) (λi _=>b.hn - (intOf i).toNat)
 ·exact⟨0,J,F,A8.one _ J,aj.refl _⟩
 ·obtain⟨k,cq,rfl,dd,R⟩:=hrel;obtain⟨dE,V,bh,cE,cU⟩:=fC (ce.ext R) (cj.ext R) (cG.ext R) R dd;clear R dd z;have z:=dE.cell' (aD.FV V);by_cases N:k<b.hn
  ·have a3:=cO ((k:Int)<(b.hn:Int));have bm:=bV N;have ev:=V.hl;have eM:b.hn<=140737488355328:=a1.Ey;cases k with
   |zero=>
    have dm:decide ((0:Int)<((0:Nat):Int))=false:=F;clear z;go_upto_region 31 with(fail);obtain⟨C,I,c1⟩:=nR wr;refine qX (S:=C) aC ((I _).2 (aj.refl wr).drew) (λX=> ?_);refine ay 0 ?_;refine ay 1 ?_;refine ay 2 ?_;refine Bu 3 ?_;refine Bu 4 ?_;refine Bu 5 ?_;refine Bu 6 ?_;refine Bu 7 ?_;refine Bu 8 ?_;refine Bu 9 ?_;refine Bu 10 ?_;refine Bu 11 ?_;refine Bu 12 ?_;refine Bu 13 ?_;refine Bu 14 ?_;refine Bu 15 ?_;refine ay 16 ?_;refine dP ?_;have a7:=(I _).1 X;go_wp2;go_roundw
    ·exact⟨1,J,by go_num,A8.one _ J,cE.ext a7⟩
    ·exact fV
   |succ j=>
    obtain⟨x,hx⟩:∃x,b.dG[j]? =some x:=⟨b.dG[j]'J,mG _⟩;obtain⟨y,b1⟩:∃y,b.dG[j+1]? =some y:=⟨b.dG[j+1]'J,mG _⟩;obtain⟨p,db,cv⟩:=Sq V.hcell V.h16 hx;have cz:=V.h16 x (f_ hx);have cA:=V.h16 y (f_ b1);obtain⟨d1,d2,ej,el,ei,ek,cV,cW⟩:=mQ (cv j x hx) (cv (j+1) y b1) (show(x.map Y).length=16 by rw[aI];exact cz) (show(y.map Y).length=16 by rw[aI];exact cA) cz cA hx b1;rw[db]at z;have cD:=O z;have cp:j<b.hn:=J;have dj:IntKind.i64.wrap (j:Int)=(j:Int):=by have:=a1.Ey;exact fJ _ J
    have dm:=cO ((0:Int)<((j+1:Nat):Int));clear cv cz cA hx b1 db ev z;go_upto_region 31 with(fail);obtain⟨C,I,c1⟩:=nR wr;refine qX (S:=C) aC ((I _).2 (aj.refl wr).drew) (λX=> ?_);refine ay 0 ?_;refine ay 1 ?_;refine ay 2 ?_;refine ay 3 ?_;refine dW 4 (λD h=>oP cD ((I D).1 h)) ?_;refine ay 5 ?_;refine gV 6 (v:= .int .i64 (j:Int)) F aC aC aC (λ_ _ _ h=>h) (.inl ⟨F,λeQ _=> ?sub8⟩) X ?rest8
    case sub8=>(go_simp;try exact dj)
    case rest8=>
    refine aL ?_;refine aV 7 F (aY F (λD _=>gD (i:=j) F F F underlying99 Ke cp D)) ?_;refine aV 8 F (aY F (λD h=>cB F F (d1.ext ((I D).1 h)) eu ej)) ?_;refine ay 9 ?_;refine dW 10 (λD h=>oP cD ((I D).1 h)) ?_;refine ay 11 ?_;refine aV 12 F (aY F (λD _=>gD (i:=j+1) F F F underlying99 Ke N D)) ?_;refine aV 13 F (aY F (λD h=>cB F F (d2.ext ((I D).1 h)) eu el)) ?_;refine aT 14 ?_;intro em c8;go_wp2_with fail;refine(akN x y _ ei ek).mono ?_;rintro e wq ⟨rfl,c0⟩;replace X:=c1 _ _ X c0;go_wp2_with fail;refine c8 _ _ X ?_;clear c8 em c0;refine aL ?_;by_cases n:gZ x y<0
    ·have a6:=bU (0<=gZ x y);refine ay 15 ?_;refine ay 16 ?_;refine dP ?_;have a7:=(I _).1 X;go_wp2;go_roundw
     ·exact⟨j+2,J,by go_num,cU.step cV cW n,cE.ext a7⟩
     ·exact fV
    ·have a6:=cO (0<=gZ x y);refine ay 15 ?_;refine ay 16 ?_;refine dP ?_;have a7:=(I _).1 X;have c:(9:Int)=E:=by rw[<-cP.out,acg cV.out cW.out n];rfl
     go_wp2;go_ret;exact⟨by rw[<-c];rfl,bh.ext a7⟩
  ·have a3:=bU ((k:Int)<(b.hn:Int));have bm:=bg N;have M:EX b.dG=true:=WL.2 (by
    have:=V.hl;rw[this,show b.hn=k by omega];exact cU)
   have c:(0:Int)=E:=by rw[<-cP.out,M];rfl
   clear M z;go_wp2;go_ret;exact⟨by rw[<-c];rfl,bh⟩
section
section
variable {w0:World} {g gi B:Nat} {us:ByteArray} {l0:ah} {sq:List Nat} {w:World} {r:aD} {l:ah} {s:Bool}
structure Ui(w0:World)(g gi B n1:Nat)(us:ByteArray)(r:aD)(l1:ah)(s1:Bool)(k:Nat)(w:World)(a:aO)(c:Nat)(ls:bq)(lk:ah)(sk:Bool):Prop where
 body:au w (w0.heap.size+1) {r with ra:=a,rn:=k,rc:=c,roles:=ls}.v 101
 res:au w w0.heap.size gQ.v 101
 rd:jD OT w0.heap.size w g lk sk
 took:gK (xH GA k []) l1 s1 ls lk sk
 ext:aj w0 w
 len:ls.length=k
 Pn:∀s∈ls,s.size<=140737488355328
 own:w.ownsRow B 9 1 (.slice a k c) k (ls.map dx)
 it:w.heap[gi]? =some (.stringIter us n1)
structure Uh(w0:World)(g gi B n1:Nat)(us:ByteArray)(r:aD)(l1:ah)(s1:Bool)(k:Nat)(w:World)(a:aO)(c:Nat)(ls:List (ah))(lk:ah)(sk:Bool):Prop where
 body:au w (w0.heap.size+1) {r with ha:=a,hn:=k,hc:=c,dG:=ls}.v 101
 res:au w w0.heap.size gQ.v 101
 rd:jD OT w0.heap.size w g lk sk
 took:gK (xH (jA 16) k []) l1 s1 ls lk sk
 ext:aj w0 w
 len:ls.length=k
 h16:yZ ls
 own:w.ownsRow B 29 16 (.slice a k c) k (dH ls)
 it:w.heap[gi]? =some (.stringIter us n1)
end
def alN{act:Int}(h:kR act=true):¬(2∈l7 act/\9∈l7 act):=by
 rcases FQ h with rfl|rfl|rfl|rfl|rfl|rfl|rfl|rfl|rfl|rfl|rfl|rfl<;>decide
def akv{X:fA}{l a x:ah}{s b:Bool}(h:gK (jA 8) l s x a b):gK (oq oD 11 X) l s {X with count:=oZ (nI x)} a b:=(h.map λx=>({X with count:=oZ (nI x)}:fA)).congr (by show _=((jA 8 l).map λp=>(oD p.1,p.2)).map _;cases jA 8 l<;>rfl)
def akB{X:fA}{l a x:ah}{s b:Bool}(h:gK (jA 4) l s x a b):gK (oq oD 5 X) l s {X with epoch:=(nI x:Int)} a b:=by grind [nI,fA,gK,jA,oq,oD]
def ak7{X:fA}{n:Nat}{l a x:ah}{s b:Bool}(c:l.length=n)(h:gK (jA n) l s x a b):gK (oq oD 0 X) l s {X with text:=bN x} a b:=by grind [oq,fA,gK,jA,oD,bN]
def acF{l m a x:ah}{n:Nat}{s t b:Bool}(h:gK qz l s n m t)(k:gK (jA n) m t x a b):gK GA l s (bN x) a b:=by grind [GA,bN,jA,gK,qz]
def XI{a:Prop}(e:a:=by
 go_wp2_with (first|(refine dA F 101 (.tmp 6) F F XA jQ og ?_)|(refine aZ F _ _ _ F F F ZA jQ og (xs:=gQ.v) og (yV gQ) ?_));intro w3 b3 u3;go_wp2_with fail;exact lI F F b3 jQ og F ⟨gQ,F,IX,.inl F,.inl F,F,u3.ext EA (aQ _)⟩):a:=e
def ad8{a:Prop}(e:a:=by
 rw[LH];rcases(by omega:i=0∨i=1∨i=2∨i=3∨i=4∨i=5∨i=6∨i=7∨i=8∨i=9∨i=10∨i=11)with rfl|rfl|rfl|rfl|rfl|rfl|rfl|rfl|rfl|rfl|rfl|rfl<;>decide):a:=e
def Sw(act:Int)(l:ah)(a:aO)(n c:Nat)(w:World)(hl:l.length=n)(hnc:n<=c)(hn:n<=140737488355328)(el:aM w a (l.map Y)):
 Calls prog 84 #[.int .i64 act,.slice a n c] w λe w'=>∃r:aD,e= .returned (.tuple #[.agg r.v.toArray,.int .i64 (qM oD act l).2])/\r.Fit/\dh w' w.heap.size r.ra (r.roles.map dx)/\dh w' w.heap.size r.ha (dH r.dG)/\r.p=(qM oD act l).1/\aj w w':=by
 obtain⟨d2,d1⟩:=aA hl el;obtain⟨fL,a3⟩:=aF (qM oD act l);rw[a3];unfold qM at a3;clear el;by_cases bb:act<1∨12<act
 ·have es:kR act=false:=by
   unfold kR;rcases bb with h|h
   ·rw[bg J];rfl
   ·rw[bg (show¬act<=12 by omega),Bool.and_false]
  rw[es,aN F]at a3;subst a3;clear hl es;go_enter func84,ntmps84;go_upto_region 2 with(fail);generalize be:alloc (alloc w _) _=dC;have cG:=qA be gQ.v 101;have cF:=qQ be gQ.v 101;have co:=wN be;obtain⟨ZA,XA,EA⟩:=aW cG cF co;clear be cG cF co;by_cases ap:act<1
  ·have ed:=bV ap;clear bb ap;exact XI
  ·have ed:=bg ap;have e':decide (12<act)=true:=bV (bb.resolve_left ap);clear bb ap;exact XI
 have cw:kR act=true:=by unfold kR;rw[bV (show 1<=act by omega),bV (show act<=12 by omega)];rfl
 rw[cw,aJ aB]at a3;have ed:=bU (act<1);have e':=bU (12<act);have eh:=O (λr w' h=>Y1 act r w' h);obtain⟨bk,rfl⟩:∃bk:Nat,act=(bk:Int):=⟨act.toNat,J⟩;have eE:=O (λw=>Tx bk w J);have cM:=aev cw;rw[show(bk:Int).toNat=bk from F]at cM;have df:=ac2 cw;have dm:=alN cw;obtain⟨t,ef⟩:=aF (l7 (bk:Int));rw[ef]at cM df dm a3;have d7:=O dm;obtain⟨A,dk⟩:=aF ((⟨(Aw bk).toArray⟩:ByteArray):ByteArray);rw[dk]at eE;have dj:A.data.toList=t.map nX:=by rw[<-dk,<-cM]
 have eI:A.size=t.length:=by
  have H:=lq List.length dj;rw[pz,aI]at H;exact H
 obtain⟨eW,d6,d4⟩:=aW dj eI df;clear cM dk dj eI df dm ef bb cw;go_enter func84,ntmps84;go_upto_region 2 with(fail);generalize be:alloc (alloc w _) _=dC;have cG:=qA be gQ.v 101;have cF:=qQ be gQ.v 101;have co:=wN be;obtain⟨ZA,XA,EA⟩:=aW cG cF co;clear be cG cF co;by_cases ca:32768<n
 ·rw[hl,aN ca]at a3;subst a3;have fa:=bV ca;have fS:=cO ((32768:Int)<(n:Int));clear hl ca;exact XI
 rw[hl,aJ ca]at a3;have uq:=O a3;have fa:=bg ca;have fR:=bU ((32768:Int)<(n:Int));clear hl a3 ca;go_upto_region 7 with(fail);generalize o:alloc dC _=bh;obtain⟨g,cJ⟩:=aF dC.heap.size;have eL:au bh g [.slice a n c,.bool false] OT:=by rw[<-o,<-cJ];exact au.bK F F
 have G:=dS o;rw[cJ];have L:w.heap.size+1<g:=by rw[<-cJ];exact XA.lt
 have eM:jD OT w.heap.size bh g l false:=by
  refine⟨a,n,c,eL,d2,hnc,hn,(EA.ext G).size,?_⟩;rcases d1.out with cH|⟨b,off,ha,cH⟩
  ·exact .inl cH
  ·by_cases em:l.map Y=[]
   ·exact .inl em
   ·obtain⟨u,fo⟩:∃u,(l.map Y)[0]? =some u:=⟨_,mG (length_pos_iff.2 em)⟩;have cs:b<w.heap.size:=kN (cH 0 u fo);exact .inr ⟨b,off,ha,cs,J,λj v fp=>FX (cH j v fp) ((EA.ext G).block b cs)⟩
 obtain⟨e5,e9,e7,eQ⟩:=bT eM (ZA.ext G) (XA.ext G) (EA.ext G);clear o eL eM G ZA XA EA cJ d2 d1;go_wp2_with fail;refine(eE bh).mono ?_;rintro e w3 ⟨rfl,cn⟩;obtain⟨e_,e8,eR,d'⟩:=bT (e9.ext cn) (e7.ext cn) (eQ.ext cn) (e5.ext cn);have fi:g<w3.heap.size:=d'.lt;clear cn;go_wp2_with fail;obtain⟨f,ep⟩:=aF w3.heap.size;have db:=Qo w3 A 0;have cp:aj w3 (w3.iter A 0):=(aj.refl w3).alloc _;rw[ep]at db fi⊢;have Q:w.heap.size+1<f:=J;have ai:f≠g:=J;have a7:w.heap.size+1<f+1:=J;have a8:g<f+1:=J;have fh:f<f+1:=J;have d8:Jo w g f (f+1) A l [] (w3.iter A 0) gQ l false:=
  ⟨e8.ext cp,e_.ext cp,d'.ext cp,⟨λh=>⟨h,F⟩,λh=> .inl h⟩,eR.ext cp,IX,.inl F,.inl F,λ_=>⟨F,F,F,F⟩,λ_=>⟨F,F,F,F⟩,db⟩
 clear db cp ep
 go_loopg [] t.length (λfd fz=>∃(k:Nat) (r:aD) (R:ah) (M:Bool),k<=t.length/\Jo w g f (f+1) A l (t.take k) fz r R M/\t.length<=k+fd)
 ·exact⟨0,gQ,l,false,J,by simpa using d8,J⟩
 ·obtain⟨k,r,R,M,f2,aq,f0⟩:=hrel;clear d8;have cL:(t.take k).length=k:=by rw[fP];omega
  by_cases di:k<t.length
  ·obtain⟨ag,rfl⟩:∃ag,gk=ag+1:=⟨gk - 1,J⟩;obtain⟨i,a9⟩:∃i,t[k]? =some i:=⟨_,mG di⟩;have eC:t.take (k+1)=t.take k++[i]:=by rw[ny,a9];rfl
   have f1:i<12:=d4.2 i (f_ a9);have et:i∉t.take k:=by
    intro hm;have H:=d4.1;have ff:t=t.take k++t.drop k:=(AX k t).symm;rw[ff]at H;refine(KR.1 H).2.2 i hm i ?_ F;exact f_ (i:=0) (by rw[qY];exact a9)
   have d3:=O (f_ a9);have b9:k<A.size:=by rw[d6.out];exact di
   have bm:=aq.it;rw[cL]at bm;have dg:∀ty,(Instr.next (.pointer (some ⟨f,0,none⟩)) true ty).run prog wr=_:=λty=>Qg wr f A k ty bm b9;have LH:A[k]'b9=nX i:=by
    have H:A.data.toList[k]? =some (nX i):=by rw[eW.out,iT,a9];rfl
    rw[KI]at H;exact(o9.1 H).2
   have eg:(A[k]'b9).toNat<128:=by
    exact ad8
   have c':=decode_ascii A k b9 eg;rw[LH]at c';rw[c']at dg;have d:KW w g f (f+1) A l (t.take k) (wr.iterAt f A (k+1)) r R M:=
    aq.next L Q ai fh (λj fj=>Lib.iterAt_other wr f j A (k+1) fj) (Lib.iterAt_size ..) ⟨F,F,F⟩ (by rw[cL];exact Qq wr f A k (k+1) bm)
   obtain⟨eV,d5⟩:=aA eC et;clear aq bm c' LH eg eC et a9;simp only at dg;generalize wr.iterAt f A (k+1)=az at*;obtain⟨f7,fr⟩:=aF az;have ey:∀dE r2 am an,Jo w g f (f+1) A l (t.take k++[i]) dE r2 am an->∃(k:Nat) (r:aD) (R:ah) (M:Bool),k<=t.length/\Jo w g f (f+1) A l (t.take k) dE r R M/\t.length<=k+ag:=
    λdE r2 am an h=>⟨k+1,r2,am,an,J,by rw[eV.out];exact h,J⟩
   have aE:=O ey;clear ey fr;rcases(by omega:i=0∨i=1∨i=2∨i=3∨i=4∨i=5∨i=6∨i=7∨i=8∨i=9∨i=10∨i=11)with rfl|rfl|rfl|rfl|rfl|rfl|rfl|rfl|rfl|rfl|rfl|rfl
   ·skip
    obtain⟨c5,b2,c6,cs,ew,f5,fY,fX,fg⟩:=d.rd;have dr:=cs.cell' (i:=0) (v:= .slice c5 b2 c6) F;have ch:=O ew;clear cs ew fg;go_wp2_with fail;refine(Gw R M w.heap.size g b2 az J d.rd).mono ?_;rintro e S ⟨b5,b6,x,am,an,rfl,cI,hx,al,T,D,bd,B⟩;obtain⟨N,a0,U⟩:=aW hx al D;have eJ:x.length<=140737488355328:=by rw[hx];omega
    have e0:=O eJ;clear hx al D eJ dr;have p:=O (d.rA L B);have ae:=p.cell' (aD.kV r);have ab:=p.frozen 0;go_wp2_with (refine bZ F (NU F F N a0.cells) ?_);generalize o:setCell S _ _=w3;have b3:au w3 (w.heap.size+1) {r with text:=bN x}.v 101:=by rw[<-o];exact p.set 0 (.string (bN x))
    have u3:=kE o;clear o ae ab;have ac:aD.Fit {r with text:=bN x}:={d.fit with ts:=by show x.toArray.size<=_;rw[zh];exact e0};have K:=aE.out _ _ _ _ (d.store (i:=0) L Q ai a7 a8 B T u3 b3 (xR (i:=0) d.took (ak7 ch U)) ac F F F F F F F F)
    go_roundg ag
    case measure=>omega
    case rel=>exact K
   ·skip
    go_wp2_with fail;refine(Gw R M w.heap.size g 16 az J d.rd).mono ?_;rintro e S ⟨b5,b6,x,am,an,rfl,cI,hx,al,T,D,bd,B⟩;obtain⟨N,a0,U⟩:=aW hx al D;clear hx al D;obtain⟨b,off,rfl,ap⟩:=a0.cells.jg (by rw[aI,N.out];omega);obtain⟨cg,ba,p,bj⟩:=bT (d9.of a0.cells) (show(x.map Y).length=16 by rw[aI];exact N) (d.rA L B) (show r.v.length=58 by unfold aD.v aD.t;simp[d.fit.hm,d.fit.hcm]);clear ap;go_wp2_with (first|(refine bZ F (Bg F F underlying29 (aQ _) _) ?_)|(refine bZ F (cB F F cg eu ba) ?_)|(refine rQ F _ _ _ F F F p (by rw[ba.out];exact eu) (by rw[ba.out,bj.out];decide) (dw x) ?_));intro w3 b3 u3;rw[aD.WA _ _ d.fit.hm N.out]at b3;have ac:aD.Fit {r with member:=x}:={d.fit with hm:=N.out};have K:=aE.out _ _ _ _ (d.store (i:=1) L Q ai a7 a8 B T u3 b3 (xR (i:=1) d.took ((U.map λx=>({r.p with member:=x}:fA)).congr F)) ac F F F F F F F F);go_wp2
    go_roundg ag
    case measure=>omega
    case rel=>exact K
   ·skip
    have cq:=d.nr d5;have c8:=d.nh (λh=>d7 ⟨d3,wZ h⟩);go_wp2_with fail;refine(Iw R M w.heap.size g az d.rd).mono ?_;rintro e dy ⟨aw,rfl,de,a4,a5,cx,cz,fk,Q⟩;have c3:=O cz;have a_:=O d.fit;have ct:=d.rA L Q;have cj:Ui w g f (f+1) ((t.take k).length+1) A r a4 a5 0 dy none 0 [] a4 a5:=⟨by rw[cq.eq];exact ct,d.res.grown Q (by simp;omega),cx,⟨λh=>⟨h,F⟩,λh=> .inl h⟩,d.ext.N7 Q J,F,(λ_ h=>by cases h),⟨F,.inl ⟨F,F⟩⟩,by rw[Q.block f (o9.1 d.it).1 (by simpa using ai)];exact d.it⟩;clear cx cz ct;go_wp2_with fail;go_loopw [54] (λi wr=>∃(k1:Nat) (a:aO) (c:Nat) (ls:bq) (R:ah) (M:Bool),k1<=aw/\i= .int .i64 (k1:Int)/\Ui w g f (f+1) ((t.take k).length+1) A r a4 a5 k1 wr a c ls R M) (λi _=>aw - (intOf i).toNat)
    ·exact⟨0,none,0,[],a4,a5,J,F,cj⟩
    ·obtain⟨k1,V,aa,ls,cA,cD,dc,rfl,m⟩:=hrel;clear cj;by_cases bw:k1<aw
     ·have dt:=cO ((k1:Int)<(aw:Int));have du:=bV bw;obtain⟨C,bi,aK,bR⟩:=tO (I:=λw'=>au w' (w.heap.size+1) ({r with ra:=V,rn:=k1,rc:=aa,roles:=ls}:aD).v 101) (λ_ _ bb ap=>(bb.ext ap)) (w:=wr) (m.body);have ei:({r with ra:=V,rn:=k1,rc:=aa,roles:=ls}:aD).v[17]? =some (.slice V k1 aa):=by
       unfold aD.v;exact qE (n:=16) (i:=0) (by rw[aI];exact a_.hm)
      have dT:=O ei;clear ei;go_upto_region 18 with(fail);refine nK (W:=[10]) λX=> ?_;refine dL 0 ?_;refine kK 1 (λdv h=>((bi dv).1 h).cell' dT) ?_;refine dL 2 ?_;refine dL 3 ?_;refine i_ 4 ?_;intro P z;go_wp2_with fail;refine(Iw cA cD w.heap.size g wr.drew (m.rd.ext (aj.refl wr).drew)).mono ?_;rintro e cN ⟨fv,rfl,fl,ft,fw,ex,eA,f3,eo⟩;have da:wr.grownBy cN (some g):=sI (F5 (Af wr _) (aj.refl wr).drew) eo;have ee:au cN (w.heap.size+1) ({r with ra:=V,rn:=k1,rc:=aa,roles:=ls}:aD).v 101:=m.body.grown da (by simp;omega);replace X:=(bi cN).2 ee;have eS:=O eA;go_wp2_with fail;refine z _ _ X ?_;clear z P ee eo eA;refine aL ?_;refine i_ 5 ?_;intro P z;go_wp2_with fail;refine(Gw ft fw w.heap.size g fv cN J ex).mono ?_;rintro e a6 ⟨eb,ec,x,b',cc,rfl,ej,hx,bc,b0,bo,er,bl⟩;have af:wr.grownBy a6 (some g):=sI da bl;have bu:au a6 (w.heap.size+1) ({r with ra:=V,rn:=k1,rc:=aa,roles:=ls}:aD).v 101:=m.body.grown af (by simp;omega);replace X:=(bi a6).2 bu;obtain⟨N,cR,ci⟩:=aW hx bc bo;have fs:(bN x).size<256:=by show x.toArray.size<256;rw[zh,hx];exact fl
      have OT:=O (Io m.own λi a9 dl=>af.block i dl (by simp;omega));have fn:=af.size;go_wp2_with fail;refine z _ _ X ?_;clear z P ex da bl hx bc bo;refine aL ?_;refine i_ 6 ?_;intro P z;go_wp2_with (refine bZ F (NU F F N cR.cells) ?_);refine z _ _ X ?_;clear z P;obtain⟨xs,dp⟩:=aF (bN x);have e1:=O dp;rw[dp]at fs⊢;clear dp;refine aL ?_;refine i_ 7 ?_;intro P z;go_wp2_with fail;refine z _ _ (aK _ _ X ((aj.refl a6).alloc _)) ?_;clear z P;generalize o:alloc a6 _=bh;have cC:=dX o [.string xs] 9;have G:=dS o;have cr:=aK _ _ X G;clear X;have X:=cr;obtain⟨ck,bs,cl,p,ce,cf⟩:=jW cC (iy OT G) (b0.ext G) (bu.ext G) ((m.res.grown af (by simp;omega)).ext G) ((m.ext.N7 af J).ext G);have cv:=(o9.1 m.it).1;have cd:Hid (bh.heap[f]? =some (.stringIter A ((t.take k).length+1))):=O (by rw[G.block f J,af.block f cv (by simpa using ai)];exact m.it);have c7:f+1<=bh.heap.size:=by have:=G.size;omega
      have cV:=O m.took;have cW:=O m.len;have cX:=O m.Pn;clear cr o cC G OT bu b0 af m cv;refine aL ?_;refine i_ 8 ?_;intro P z;go_wp2_with (at_builtin;refine aeJ F _ _ F (f+1) F F bs ck J c7 ?_);intro fx w6 b4 ao;obtain⟨a1,a2,rfl⟩:=R5 b4;have ar:∀q,(slice V k1 aa).ownBlock=some q->f+1<=q:=yR bs;have bt:au w6 (w.heap.size+1) ({r with ra:=V,rn:=k1,rc:=aa,roles:=ls}:aD).v 101:=p.grown ao (λe=>by have:=ar _ e.symm;omega);replace X:=(bi w6).2 bt;obtain⟨c1,cS,cT⟩:=aW (ce.grown ao (λe=>by have:=ar _ e.symm;omega)) (cl.Q5 ao (λq bz=>by have:=ar _ bz;exact⟨J,J⟩)) (cf.grown ao (λq bz=>by have:=ar _ bz;omega));have cU:Hid (w6.heap[f]? =some (.stringIter A ((t.take k).length+1))):=O (by rw[ao.block f J (λe=>by have:=ar _ e.symm;omega)];exact cd);obtain⟨c0,bp⟩:=aA b4 bt;clear b4 ao ar p ce cl cf cd bs ck bt;go_wp2_with fail;refine z _ _ X ?_;clear z P;refine aL ?_;refine dL 9 ?_;refine lK 10 ?_;intro P z;have ae:=bp.cell' dT;have ab:=bp.frozen 17;go_wp2_with fail;generalize b1:setCell w6 _ _=cE;have cm:au cE (w.heap.size+1) ({r with ra:=a1,rn:=k1+1,rc:=a2,roles:=ls++[xs]}:aD).v 101:=by
       rw[<-b1];have H:=bp.set 17 (.slice a1 (k1+1) a2);rw[aD.Pg {r with ra:=V,rn:=k1,rc:=aa,roles:=ls} a1 (k1+1) a2 (ls++[xs]) a_.hm]at H;exact H
      have ax:=kE b1;clear b1 ae ab;refine z _ _ trivial ?_;refine aL ?_;refine n_ ?_;have cy:Ui w g f (f+1) ((t.take k).length+1) A r a4 a5 (k1+1) cE a1 a2 (ls++[xs]) b' cc:=
       ⟨cm,c1.upd ax J,cS.upd ax J J,Tt cV (by rw[<-e1.out];exact acF eS ci),ax.ext cT J,by rw[bQ,cW.out];rfl,
       λs hs=>by
        rcases kU.1 hs with h|h
        ·exact cX s h
        ·rw[nu.1 h];omega,
       by rw[jv];exact Io c0 λi a9 _=>ax.block i J,by rw[ax.block f J];exact cU⟩
      have c2:=O cy;clear cy ax cm;go_wp2;go_roundw
      ·exact⟨k1+1,a1,a2,ls++[xs],b',cc,J,by go_num,c2⟩
      ·exact fV
     ·have dt:=bU ((k1:Int)<(aw:Int));have du:=bg bw;have dd:k1=aw:=J;subst dd;have K:=aE.out wr {r with ra:=V,rn:=k1,rc:=aa,roles:=ls} cA cD
       ⟨m.body,m.res,m.rd,Tv (i:=2) (b:=true) (λc4 ys=>{c4 with roles:=ys}) cq.NS (λ_ _=>rfl) d.took c3 m.took,m.ext,
        {a_ with rl:=m.len,Ap:=(dh.Gm bS m.own).2.2,rm:=zX de,rs:=m.Pn},(dh.Gm bS m.own).1,(.inl (by rw[c8.l];rfl)),λh=>absurd aB h,λh=>by
         have H:=d.nh (λhm=>h (by simp[hm]));exact⟨H.a,H.n,H.c,H.l⟩,by rw[m.it,bQ];rfl⟩
      clear m bw dc;go_wp2
      go_roundg ag
      case measure=>omega
      case rel=>exact K
   ·skip
    go_wp2_with fail;refine(Iw R M w.heap.size g az d.rd).mono ?_;rintro e S ⟨x,rfl,hx,am,an,T,D,bd,B⟩;have U:=O D;clear D;go_wp2_with fail;refine(Gw am an w.heap.size g x S J T).mono ?_;rintro e fy ⟨eb,ec,y,b',cc,rfl,ej,dq,bc,b0,bo,er,bl⟩;obtain⟨e2,cR,ci⟩:=aW dq bc bo;have af:=sI B bl;have eK:y.length<=140737488355328:=by rw[dq];omega
    have e3:=O eK;clear dq bc bo B bl T eK;have p:=O (d.rA L af);have ae:=p.cell' (aD.Qz d.fit);have ab:=p.frozen 18;go_wp2_with (refine bZ F (NU F F e2 cR.cells) ?_);generalize o:setCell fy _ _=w3;have b3:au w3 (w.heap.size+1) {r with label:=bN y}.v 101:=by rw[<-o,<-aD.Ph r _ d.fit.hm];exact p.set 18 (.string (bN y))
    have u3:=kE o;clear o ae ab;have ac:aD.Fit {r with label:=bN y}:={d.fit with ls:=by show y.toArray.size<=_;rw[zh];exact e3};have K:=aE.out _ _ _ _ (d.store (i:=3) L Q ai a7 a8 af b0 u3 b3 (xR (i:=3) d.took (((acF U ci).map λx=>({r.p with label:=x}:fA)).congr F)) ac F F F F F F F F)
    go_roundg ag
    case measure=>omega
    case rel=>exact K
   ·skip
    go_wp2_with fail;refine(Gw R M w.heap.size g 32 az J d.rd).mono ?_;rintro e S ⟨b5,b6,x,am,an,rfl,cI,hx,al,T,D,bd,B⟩;obtain⟨N,a0,U⟩:=aW hx al D;clear hx al D;obtain⟨b,off,rfl,ap⟩:=a0.cells.jg (by rw[aI,N.out];omega);obtain⟨cg,ba,p,bj⟩:=bT (d9.of a0.cells) (show(x.map Y).length=32 by rw[aI];exact N) (d.rA L B) (show r.v.length=58 by unfold aD.v aD.t;simp[d.fit.hm,d.fit.hcm]);clear ap;go_wp2_with (first|(refine bZ F (Bg F F underlying31 (aQ _) _) ?_)|(refine bZ F (cB F F cg bf ba) ?_)|(refine rQ F _ _ _ F F F p (by rw[ba.out];exact bf) (by rw[ba.out,bj.out];decide) (dw x) ?_));intro w3 b3 u3;rw[aD.R_ _ _ d.fit.hm d.fit.hcm N.out]at b3;have ac:aD.Fit {r with commit:=x}:={d.fit with hcm:=N.out};have K:=aE.out _ _ _ _ (d.store (i:=4) L Q ai a7 a8 B T u3 b3 (xR (i:=4) d.took ((U.map λx=>({r.p with commit:=x}:fA)).congr F)) ac F F F F F F F F);go_wp2
    go_roundg ag
    case measure=>omega
    case rel=>exact K
   ·skip
    go_wp2_with fail;refine(Gw R M w.heap.size g 4 az J d.rd).mono ?_;rintro e S ⟨b5,b6,x,am,an,rfl,cI,hx,al,T,D,bd,B⟩;obtain⟨N,a0,U⟩:=aW hx al D;clear hx al D;have bx:=O8 x b5 4 b6 S N J a0.cells;obtain⟨br,bv⟩:=aF (oZ (nI x));rw[bv]at bx;obtain⟨ch,cY⟩:=aA bv bx;clear bv bx;go_wp2_with fail;refine cY.mono ?_;rintro e S ⟨rfl,rfl⟩;have p:=O (d.rA L B);have ae:=p.cell' (aD.K7 d.fit.hm d.fit.hcm);have ab:=p.frozen 51;go_wp2_with fail;generalize o:setCell S _ _=w3;have b3:au w3 (w.heap.size+1) {r with epoch:=br}.v 101:=by rw[<-o,<-aD.Pj r _ d.fit.hm d.fit.hcm];exact p.set 51 (.int .i64 br)
    have u3:=kE o;clear o ae ab;have ac:aD.Fit {r with epoch:=br}:={d.fit with};have K:=aE.out _ _ _ _ (d.store (i:=5) L Q ai a7 a8 B T u3 b3 (xR (i:=5) d.took (by rw[<-ch.out,PG (by rw[V7 N.out];have:=(mo x 0).toNat_lt;omega)];exact akB U)) ac F F F F F F F F)
    go_roundg ag
    case measure=>omega
    case rel=>exact K
   ·skip
    go_wp2_with fail;refine(Iw R M w.heap.size g az d.rd).mono ?_;rintro e S ⟨x,rfl,hx,am,an,T,D,bd,B⟩;have U:=O D;clear D;have p:=O (d.rA L B);have ae:=p.cell' (aD.Uv d.fit.hm d.fit.hcm);have ab:=p.frozen 52;go_wp2_with fail;generalize o:setCell S _ _=w3;have b3:au w3 (w.heap.size+1) {r with purpose:=(x:Int)}.v 101:=by rw[<-o,<-aD.Xe r _ d.fit.hm d.fit.hcm];exact p.set 52 (.int .i64 (x:Int))
    have u3:=kE o;clear o ae ab;have ac:aD.Fit {r with purpose:=(x:Int)}:={d.fit with};have K:=aE.out _ _ _ _ (d.store (i:=6) L Q ai a7 a8 B T u3 b3 (xR (i:=6) d.took ((U.map λ(x:Nat)=>({r.p with purpose:=(x:Int)}:fA)).congr F)) ac F F F F F F F F)
    go_roundg ag
    case measure=>omega
    case rel=>exact K
   ·skip
    go_wp2_with fail;refine(Iw R M w.heap.size g az d.rd).mono ?_;rintro e S ⟨x,rfl,hx,am,an,T,D,bd,B⟩;have U:=O D;clear D;have p:=O (d.rA L B);have ae:=p.cell' (aD.YU d.fit.hm d.fit.hcm);have ab:=p.frozen 53;go_wp2_with fail;generalize o:setCell S _ _=w3;have b3:au w3 (w.heap.size+1) {r with reason:=(x:Int)}.v 101:=by rw[<-o,<-aD.Xf r _ d.fit.hm d.fit.hcm];exact p.set 53 (.int .i64 (x:Int))
    have u3:=kE o;clear o ae ab;have ac:aD.Fit {r with reason:=(x:Int)}:={d.fit with};have K:=aE.out _ _ _ _ (d.store (i:=7) L Q ai a7 a8 B T u3 b3 (xR (i:=7) d.took ((U.map λ(x:Nat)=>({r.p with reason:=(x:Int)}:fA)).congr F)) ac F F F F F F F F)
    go_roundg ag
    case measure=>omega
    case rel=>exact K
   ·skip
    go_wp2_with fail;refine(Iw R M w.heap.size g az d.rd).mono ?_;rintro e S ⟨x,rfl,hx,am,an,T,D,bd,B⟩;have U:=O D;clear D;have p:=O (d.rA L B);have ae:=p.cell' (aD.Uw d.fit.hm d.fit.hcm);have ab:=p.frozen 54;go_wp2_with fail;generalize o:setCell S _ _=w3;have b3:au w3 (w.heap.size+1) {r with need:=(x:Int)}.v 101:=by rw[<-o,<-aD.Xg r _ d.fit.hm d.fit.hcm];exact p.set 54 (.int .i64 (x:Int))
    have u3:=kE o;clear o ae ab;have ac:aD.Fit {r with need:=(x:Int)}:={d.fit with};have K:=aE.out _ _ _ _ (d.store (i:=8) L Q ai a7 a8 B T u3 b3 (xR (i:=8) d.took ((U.map λ(x:Nat)=>({r.p with need:=(x:Int)}:fA)).congr F)) ac F F F F F F F F)
    go_roundg ag
    case measure=>omega
    case rel=>exact K
   ·skip
    have cq:=d.nh d5;have c8:=d.nr (λh=>d7 ⟨wZ h,d3⟩);go_wp2_with fail;refine(Iw R M w.heap.size g az d.rd).mono ?_;rintro e dy ⟨aw,rfl,de,a4,a5,cx,cz,fk,Q⟩;have c3:=O cz;have a_:=O d.fit;have ct:=d.rA L Q;have cj:Uh w g f (f+1) ((t.take k).length+1) A r a4 a5 0 dy none 0 [] a4 a5:=⟨by rw[cq.eq];exact ct,d.res.grown Q (by simp;omega),cx,⟨λh=>⟨h,F⟩,λh=> .inl h⟩,d.ext.N7 Q J,F,(λ_ h=>by cases h),⟨F,.inl ⟨F,F⟩⟩,by rw[Q.block f (o9.1 d.it).1 (by simpa using ai)];exact d.it⟩;clear cx cz ct;go_wp2_with fail;go_loopw [112] (λi wr=>∃(k1:Nat) (a:aO) (c:Nat) (ls:List (ah)) (R:ah) (M:Bool),k1<=aw/\i= .int .i64 (k1:Int)/\Uh w g f (f+1) ((t.take k).length+1) A r a4 a5 k1 wr a c ls R M) (λi _=>aw - (intOf i).toNat)
    ·exact⟨0,none,0,[],a4,a5,J,F,cj⟩
    ·obtain⟨k1,V,aa,ls,cA,cD,dc,rfl,m⟩:=hrel;clear cj;by_cases bw:k1<aw
     ·have dt:=cO ((k1:Int)<(aw:Int));have du:=bV bw;obtain⟨C,bi,aK,bR⟩:=tO (I:=λw'=>au w' (w.heap.size+1) ({r with ha:=V,hn:=k1,hc:=aa,dG:=ls}:aD).v 101) (λ_ _ bb ap=>(bb.ext ap)) (w:=wr) (m.body);have ek:({r with ha:=V,hn:=k1,hc:=aa,dG:=ls}:aD).v[57]? =some (.slice V k1 aa):=aD.Uy (b:=({r with ha:=V,hn:=k1,hc:=aa,dG:=ls}:aD)) a_.hm a_.hcm;have d0:=O ek;clear ek;go_upto_region 37 with(fail);refine nK (W:=[9]) λX=> ?_;refine dL 0 ?_;refine kK 1 (λdv h=>((bi dv).1 h).cell' d0) ?_;refine dL 2 ?_;refine i_ 3 ?_;intro P z;go_wp2_with fail;refine(Gw cA cD w.heap.size g 16 wr.drew J (m.rd.ext (aj.refl wr).drew)).mono ?_;rintro e a6 ⟨eb,ec,x,b',cc,rfl,ej,hx,bc,b0,bo,er,bl⟩;have af:wr.grownBy a6 (some g):=sI (F5 (Af wr _) (aj.refl wr).drew) bl;have bu:au a6 (w.heap.size+1) ({r with ha:=V,hn:=k1,hc:=aa,dG:=ls}:aD).v 101:=m.body.grown af (by simp;omega);replace X:=(bi a6).2 bu;obtain⟨fN,f6,rfl,fe⟩:=bc.cells.jg (by rw[aI,hx];omega);obtain⟨cg,N,ba,ci,OT⟩:=fC (d9.of bc.cells) hx (show(x.map Y).length=16 by rw[aI];exact hx) bo (Io m.own λi a9 dl=>af.block i dl (by simp;omega));have fn:=af.size;go_wp2_with fail;refine z _ _ X ?_;clear z P bl hx bc bo fe;refine aL ?_;refine i_ 4 ?_;intro P z;go_wp2_with (refine bZ F (Bg F F underlying29 (aQ _) _) ?_);refine z _ _ X ?_;clear z P;refine aL ?_;refine i_ 5 ?_;intro P z;go_wp2_with (refine bZ F (cB F F cg eu ba) ?_);refine z _ _ X ?_;clear z P;refine aL ?_;refine i_ 6 ?_;intro P z;go_wp2_with (refine aeK F F F N ?_);refine z _ _ (aK _ _ X ((aj.refl a6).alloc _)) ?_
      clear z P;generalize o:alloc a6 _=bh;have cC:=dX o (x.map Y) 29;have G:=dS o;have cr:=aK _ _ X G;clear X;have X:=cr;obtain⟨ck,bs,cl,p,ce,cf⟩:=jW cC (iy OT G) (b0.ext G) (bu.ext G) ((m.res.grown af (by simp;omega)).ext G) ((m.ext.N7 af J).ext G);have cv:=(o9.1 m.it).1;have cd:Hid (bh.heap[f]? =some (.stringIter A ((t.take k).length+1))):=O (by rw[G.block f J,af.block f cv (by simpa using ai)];exact m.it);have c7:f+1<=bh.heap.size:=by have:=G.size;omega
      have cV:=O m.took;have cW:=O m.len;have cX:=O m.h16;clear cr o cC G OT bu b0 af m cv;refine aL ?_;refine i_ 7 ?_;intro P z;go_wp2_with (at_builtin;refine aeI F _ _ F (f+1) F F bs N ck J c7 ?_);intro fx w6 b4 ao;obtain⟨a1,a2,rfl⟩:=R5 b4;have ar:∀q,(slice V k1 aa).ownBlock=some q->f+1<=q:=yR bs;have bt:au w6 (w.heap.size+1) ({r with ha:=V,hn:=k1,hc:=aa,dG:=ls}:aD).v 101:=p.grown ao (λe=>by have:=ar _ e.symm;omega);replace X:=(bi w6).2 bt;obtain⟨c1,cS,cT⟩:=aW (ce.grown ao (λe=>by have:=ar _ e.symm;omega)) (cl.Q5 ao (λq bz=>by have:=ar _ bz;exact⟨J,J⟩)) (cf.grown ao (λq bz=>by have:=ar _ bz;omega));have cU:Hid (w6.heap[f]? =some (.stringIter A ((t.take k).length+1))):=O (by rw[ao.block f J (λe=>by have:=ar _ e.symm;omega)];exact cd);obtain⟨c0,bp⟩:=aA b4 bt;clear b4 ao ar p ce cl cf cd bs ck bt;go_wp2_with fail;refine z _ _ X ?_;clear z P;refine aL ?_;refine dL 8 ?_;refine lK 9 ?_;intro P z;have ae:=bp.cell' d0;have ab:=bp.frozen 57;go_wp2_with fail;generalize b1:setCell w6 _ _=cE;have cm:au cE (w.heap.size+1) ({r with ha:=a1,hn:=k1+1,hc:=a2,dG:=ls++[x]}:aD).v 101:=by
       rw[<-b1];have H:=bp.set 57 (.slice a1 (k1+1) a2);rw[aD.Xj {r with ha:=V,hn:=k1,hc:=aa,dG:=ls} a1 (k1+1) a2 (ls++[x]) a_.hm a_.hcm]at H;exact H
      have ax:=kE b1;clear b1 ae ab;refine z _ _ trivial ?_;refine aL ?_;refine n_ ?_;have cy:Uh w g f (f+1) ((t.take k).length+1) A r a4 a5 (k1+1) cE a1 a2 (ls++[x]) b' cc:=
       ⟨cm,c1.upd ax J,cS.upd ax J J,Tt cV ci,ax.ext cT J,by rw[bQ,cW.out];rfl,
       λs hs=>by
        rcases kU.1 hs with h|h
        ·exact cX s h
        ·rw[nu.1 h];exact N,
       Io c0 λi a9 _=>ax.block i J,by rw[ax.block f J];exact cU⟩
      have c2:=O cy;clear cy ax cm;go_wp2;go_roundw
      ·exact⟨k1+1,a1,a2,ls++[x],b',cc,J,by go_num,c2⟩
      ·exact fV
     ·have dt:=bU ((k1:Int)<(aw:Int));have du:=bg bw;have dd:k1=aw:=J;subst dd;have K:=aE.out wr {r with ha:=V,hn:=k1,hc:=aa,dG:=ls} cA cD
       ⟨m.body,m.res,m.rd,Tv (i:=9) (b:=true) (λc4 ys=>{c4 with dG:=ys}) cq.NS (λ_ _=>rfl) d.took c3 m.took,m.ext,
        {a_ with hl:=m.len,hnc:=(dh.Gm bS m.own).2.2,Ey:=zX de,h16:=m.h16},(.inl (by rw[c8.l];rfl)),(dh.Gm bS m.own).1,λh=>by
         have H:=d.nr (λhm=>h (by simp[hm]));exact⟨H.a,H.n,H.c,H.l⟩,λh=>absurd aB h,by rw[m.it,bQ];rfl⟩
      clear m bw dc;go_wp2
      go_roundg ag
      case measure=>omega
      case rel=>exact K
   ·skip
    go_wp2_with fail;refine(Iw R M w.heap.size g az d.rd).mono ?_;rintro e S ⟨x,rfl,hx,am,an,T,D,bd,B⟩;have U:=O D;clear D;have p:=O (d.rA L B);have ae:=p.cell' (aD.YV d.fit.hm d.fit.hcm);have ab:=p.frozen 55;go_wp2_with fail;generalize o:setCell S _ _=w3;have b3:au w3 (w.heap.size+1) {r with version:=(x:Int)}.v 101:=by rw[<-o,<-aD.Xh r _ d.fit.hm d.fit.hcm];exact p.set 55 (.int .i64 (x:Int))
    have u3:=kE o;clear o ae ab;have ac:aD.Fit {r with version:=(x:Int)}:={d.fit with};have K:=aE.out _ _ _ _ (d.store (i:=10) L Q ai a7 a8 B T u3 b3 (xR (i:=10) d.took ((U.map λ(x:Nat)=>({r.p with version:=(x:Int)}:fA)).congr F)) ac F F F F F F F F)
    go_roundg ag
    case measure=>omega
    case rel=>exact K
   ·skip
    go_wp2_with fail;refine(Gw R M w.heap.size g 8 az J d.rd).mono ?_;rintro e S ⟨b5,b6,x,am,an,rfl,cI,hx,al,T,D,bd,B⟩;obtain⟨N,a0,U⟩:=aW hx al D;clear hx al D;have bx:=O8 x b5 8 b6 S N J a0.cells;obtain⟨br,bv⟩:=aF (oZ (nI x));rw[bv]at bx;obtain⟨ch,cY⟩:=aA bv bx;clear bv bx;go_wp2_with fail;refine cY.mono ?_;rintro e S ⟨rfl,rfl⟩;have p:=O (d.rA L B);have ae:=p.cell' (aD.Ux d.fit.hm d.fit.hcm);have ab:=p.frozen 56;go_wp2_with fail;generalize o:setCell S _ _=w3;have b3:au w3 (w.heap.size+1) {r with count:=br}.v 101:=by rw[<-o,<-aD.Xi r _ d.fit.hm d.fit.hcm];exact p.set 56 (.int .i64 br)
    have u3:=kE o;clear o ae ab;have ac:aD.Fit {r with count:=br}:={d.fit with};have K:=aE.out _ _ _ _ (d.store (i:=11) L Q ai a7 a8 B T u3 b3 (xR (i:=11) d.took (by rw[<-ch.out];exact akv U)) ac F F F F F F F F)
    go_roundg ag
    case measure=>omega
    case rel=>exact K
  ·have b9:¬k<A.size:=by rw[d6.out];exact di
   have bm:=aq.it;rw[cL]at bm;have dg:∀ty,(Instr.next (.pointer (some ⟨f,0,none⟩)) true ty).run prog wr=_:=λty=>Qf wr f A k ty bm b9;have en:t.take k=t:=gY J;rw[en]at aq;have a':=O aq;obtain⟨c5,b2,c6,c9,fm, -,f4, -, -⟩:=aq.rd;have dr:=c9.cell' (i:=0) (v:= .slice c5 b2 c6) F;have k1:=c9.cell' (i:=1) (v:= .bool M) F;have ea:=O aq.took;have ZE:=O aq.res;have EE:=O aq.ext;have bj:=O (show r.v.length=58 by unfold aD.v aD.t;simp[aq.fit.hm,aq.fit.hcm]);clear bm en aq cL c9;cases M with
   |true=>
    have ev:nY oD t sV l=none:=(ea.2 F).resolve_left aB;have ad:=uq.out;rw[ev]at ad;simp only at ad;subst ad;clear ev;exact Tm
   |false=>
   have ez:=(ea.1 F).2;have ad:=uq.out;rw[ez]at ad;simp only at ad;rw[fm]at ad;clear ez;by_cases cb:0<b2
   ·rw[aN cb]at ad;subst ad;have fb:=bV cb;have fc:=cO ((0:Int)<(b2:Int));clear cb;exact Tm
   rw[aJ cb]at ad;have fb:=bg cb;have fc:=bU ((0:Int)<(b2:Int));have c_:=eh.out r;rw[UD a'.fit.rl a'.fit.hl]at c_;have cQ:=O c_;generalize Ck (bk:Int) r.p=E at ad cQ;have uq:=O ad;have cP:=O a'.body;clear c_ ad cb eh;go_wp2_with (refine dA F 101 (.tmp 6) F F cP jQ bj ?_);refine(cQ wr (a'.fit.ok a'.mO a'.hhi)).mono ?_;rintro e w6 ⟨rfl,b8⟩;obtain⟨ZF,EF,eN,e4,e6⟩:=fC (ZE.ext b8) (EE.ext b8) (cP.ext b8) (a'.mO.ext b8) (a'.hhi.ext b8);clear b8 ZE EE cP cQ dr k1;by_cases ds:E=0
   ·subst ds;have ad:=uq.out;rw[aN F]at ad;subst ad;go_wp2_with (first|(refine dA F 101 (.tmp 6) F F eN jQ bj ?_)|(refine aZ F _ _ _ F F F ZF jQ og (xs:=r.v) bj (yV r) ?_));intro w7 b7 u7;go_wp2_with fail;exact lI F F b7 jQ bj F ⟨r,F,a'.fit,(e4.upd u7 J).lower J,(e6.upd u7 J).lower J,F,u7.ext EF (aQ _)⟩
   ·have ad:=uq.out;rw[aJ ds]at ad;subst ad;have fW:(E != 0)=true:=by simpa using ds
    exact adR
end
def alP{act:Int}(h:kR act=true):(act=1/\l7 act=[0])∨(∀i∈l7 act,i<12/\i≠0):=by
 rcases FQ h with rfl|rfl|rfl|rfl|rfl|rfl|rfl|rfl|rfl|rfl|rfl|rfl
 ·exact .inl ⟨F,F⟩
 all_goals exact .inr bS
def alO{act:Int}(h:kR act=true):(l7 act).length<=4:=by
 rcases FQ h with rfl|rfl|rfl|rfl|rfl|rfl|rfl|rfl|rfl|rfl|rfl|rfl<;>decide
def aki{act:Int}{b:aD}(h:Qt b act)(s:b.member.length=16)(r:b.commit.length=32)(j:b.roles.length=b.rn)(f:b.dG.length=b.hn)(d:yZ b.dG):(ku (l7 act) b.p).length<=32768:=by
 rcases alP h.JM with⟨o,a⟩|a
 ·rw[a];show(b.text.data.toList++[]).length<=_;rw[xg,pz];exact h.t
 ·have e:∀i∈l7 act,(vQ i b.p).length<=600:=by
   intro i c;obtain⟨p,n⟩:=a i c;rcases(by omega:i=1∨i=2∨i=3∨i=4∨i=5∨i=6∨i=7∨i=8∨i=9∨i=10∨i=11)with rfl|rfl|rfl|rfl|rfl|rfl|rfl|rfl|rfl|rfl|rfl
   ·show b.member.length<=_;omega
   ·exact acp h.small j
   ·show(rO b.label).length<=_;rw[Pv];have:=h.small.l;omega
   ·show b.commit.length<=_;omega
   ·show(mh _).length<=_;simp[mh]
   ·show[vZ _].length<=_;simp
   ·show[vZ _].length<=_;simp
   ·show[vZ _].length<=_;simp
   ·exact aas h.small f d
   ·show[vZ _].length<=_;simp
   ·show(fQ _).length<=_;rw[JU];decide
  have g:=NV (l:=(l7 act).map λi=>vQ i b.p) (k:=600) (by
   intro x m;obtain⟨i,c,rfl⟩:=pI.1 m;exact e i c)
  rw[aI]at g;have:=alO h.JM;unfold ku;have q:(l7 act).length*600<=4*600:=Ho _ this;omega
def agZ(f g:ah->Int)(i:Nat)(a:i<11)(x:fA)(l:ah):oq f i x l=oq g i x l:=by
 rcases(by omega:i=0∨i=1∨i=2∨i=3∨i=4∨i=5∨i=6∨i=7∨i=8∨i=9∨i=10)with rfl|rfl|rfl|rfl|rfl|rfl|rfl|rfl|rfl|rfl|rfl<;>simp only[oq,reduceIte,Nat.reduceEqDiff]
def acN(f g:ah->Int):∀(s:List Nat) (x:fA) (l:ah),(∀i∈s,i<11)->nY f s x l=nY g s x l
 |[],_,_,_=>rfl
 |i::s,x,l,h=>by
  rw[nY,nY,agZ f g i (h i aB)];cases oq g i x l with
  |none=>rfl
  |some p=>exact acN f g s p.1 p.2 (λj hj=>h j (by simp[hj]))
def af8{x:fA}{m n:Int}(c:fZ m 0 65536=true)(d:fZ n 0 65536=true):Ck 12 {x with count:=m}=Ck 12 {x with count:=n}/\Ck 12 {x with count:=m}≠0:=by
 have f:∀k:Int,vP (({x with count:=k}:fA).r) (sP 12)=vP (({x with count:=0}:fA).r) (sP 12):=λk=>by
  rfl
 have e:∀k:Int,fZ k 0 65536=true->DK 12 (({x with count:=k}:fA).r)=true:=λk a=>by
  unfold DK;rw[show(({x with count:=k}:fA).r).count=k from F,a,Bool.or_true]
 have b:∀k:Int,fZ k 0 65536=true->Ck 12 {x with count:=k}=if vP (({x with count:=0}:fA).r) (sP 12)then 2
  else if decide (32768<x.text.size)||(decide (16<x.roles.length)||decide (32<x.dG.length))then 5
  else if Gv x.roles != 0 then Gv x.roles else if fO 12 3&& !nH x.label.data.toList then 6 else 4:=λk a=>by
  unfold Ck qG;rw[f k,e k a];rfl
 rw[b m c,b n d];refine⟨F,?_⟩;split
 ·decide
 ·split
  ·decide
  ·split
   ·rename_i h;simpa using h
   ·split<;>decide
def acM(f:ah->Int)(l:ah):nY f [10,11,4] sV l=(qz l).bind λp=>(jA 8 p.2).bind λq=>(jA 32 q.2).map λu=>(({({sV with version:=(p.1:Int),commit:=u.1}:fA)with count:=f q.1}:fA),u.2):=by
 show((qz l).map _).bind _=_;cases qz l with
 |none=>rfl
 |some p=>
  show(((jA 8 p.2).map _).map _).bind _=(jA 8 p.2).bind _;cases jA 8 p.2 with
  |none=>rfl
  |some q=>
   show(((jA 32 q.2).map _).bind _)=(jA 32 q.2).map _;cases jA 32 q.2<;>rfl
def adz{n:Nat}{l:ah}{p:ah×ah}(h:jA n l=some p):p.1.length=n:=by grind [jA]
def ajV(act:Int)(l:ah):qM rJ act l=qM oD act l:=by
 unfold qM;by_cases ha:kR act=false
 ·rw[aN ha,aN ha]
 ·rw[aJ ha,aJ ha];by_cases a:32768<l.length
  ·rw[aN a,aN a]
  ·rw[aJ a,aJ a];by_cases d:act=12
   ·subst d;show(match nY rJ [10,11,4] sV l with|none=>_|some (x,rest)=>_)=(match nY oD [10,11,4] sV l with|none=>_|some (x,rest)=>_);rw[acM,acM];cases qz l with
    |none=>rfl
    |some p=>
     simp only[AV];cases m:jA 8 p.2 with
     |none=>rfl
     |some q=>
      simp only[AV];cases jA 32 q.2 with
      |none=>rfl
      |some u=>
       simp only[jr];by_cases b:0<u.2.length
       ·rw[aN b,aN b]
       ·rw[aJ b,aJ b];have o:=adz m;have h:nI q.1=iZ q.1 0:=by
         have:=VZ (l:=q.1) (p:=0) J;rw[jP,gY J]at this;exact this
        by_cases g:iZ q.1 0<=4611686018427387904
        ·have c:rJ q.1=oD q.1:=by
          unfold rJ oD;rw[aN g,h,PG J]
         rw[c]
        ·have c:fZ (rJ q.1) 0 65536=true:=by
          unfold rJ fZ;rw[aJ g];decide
         have j:fZ (oD q.1) 0 65536=true:=by
          have n:=VL q.1 0;unfold oD fZ oZ;rw[h,P5];generalize iZ q.1 0=M at*;simp only[zf,tJ];omega
         obtain⟨e,f⟩:=af8 (x:={sV with version:=(p.1:Int),commit:=u.1}) c j;rw[aJ f,aJ (by rw[<-e];exact f),e]
   ·have hs:∀i∈l7 act,i<11:=by
     have k:kR act=true:=by simpa using ha
     rcases FQ k with rfl|rfl|rfl|rfl|rfl|rfl|rfl|rfl|rfl|rfl|rfl|rfl
     all_goals first|decide|exact absurd F d
    rw[acN rJ oD (l7 act) sV l hs]
structure aR where
 num:Int
 time:Int
 act:Int
 dz:ah
 key:ah
 prev:ah
 ba:aO
 bn:Nat
 bc:Nat
 body:ah
def aR.v(e:aR):aP:= .int .i64 e.num:: .int .i64 e.time:: .int .i64 e.act::(e.dz.map Y++(e.key.map Y++(e.prev.map Y++[.slice e.ba e.bn e.bc])))
structure aR.Ok(w:World)(e:aR):Prop where
 ha:e.dz.length=16
 hk:e.key.length=16
 hp:e.prev.length=32
 hb:e.body.length=e.bn
 hbc:e.bn<=e.bc
 Lv:e.bn<=140737488355328
 hn0:e.ba=none->e.bn=0/\e.bc=0
 hcl:aM w e.ba (e.body.map Y)
def aR.Ok.ext{w w':World}{e:aR}(h:e.Ok w)(k:aj w w'):e.Ok w':=⟨h.ha,h.hk,h.hp,h.hb,h.hbc,h.Lv,h.hn0,h.hcl.ext k⟩
def aR.len{w:World}{e:aR}(h:e.Ok w):e.v.length=68:=by unfold aR.v;simp[h.ha,h.hk,h.hp]
def eZ:jc prog 34 68:=⟨⟨_,underlying34,F⟩,aC⟩
def aR.kV(e:aR):e.v[0]? =some (.int .i64 e.num):=F
def aR.Ci(e:aR):e.v[1]? =some (.int .i64 e.time):=F
def aR.at2(e:aR):e.v[2]? =some (.int .i64 e.act):=F
def aR.tail(e:aR):e.v.drop 3=e.dz.map Y++(e.key.map Y++(e.prev.map Y++[.slice e.ba e.bn e.bc])):=F
def aR.Qv{w:World}{e:aR}(h:e.Ok w):(e.v.drop 3).take 16=e.dz.map Y:=by
 rw[aR.tail,oo (by rw[aI,h.ha])]
def aR.Gi{w:World}{e:aR}(h:e.Ok w):(e.v.drop 19).take 16=e.key.map Y:=by
 have:e.v.drop 19=(e.v.drop 3).drop 16:=by rw[tK]
 rw[this,aR.tail,q_ (by rw[aI,h.ha]),oo (by rw[aI,h.hk])]
def aR.abR{w:World}{e:aR}(h:e.Ok w):(e.v.drop 35).take 32=e.prev.map Y:=by
 have:e.v.drop 35=((e.v.drop 3).drop 16).drop 16:=by rw[tK,tK]
 rw[this,aR.tail,q_ (by rw[aI,h.ha]),q_ (by rw[aI,h.hk]),oo (by rw[aI,h.hp])]
def aR.La{w:World}{e:aR}(h:e.Ok w):e.v[67]? =some (.slice e.ba e.bn e.bc):=by
 have:e.v[67]? =(((e.v.drop 3).drop 16).drop 16)[32]? :=by rw[tK,tK,qY]
 rw[this,aR.tail,q_ (by rw[aI,h.ha]),q_ (by rw[aI,h.hk]),yc (by rw[aI,h.hp];exact aQ _),aI,h.hp];rfl
noncomputable def iJ(e:aR):Int:=if fZ e.num 0 65535||fZ e.time 0 1099511627776 then 4 else(qM oD e.act e.body).2
def aeh{a:Prop}(e:a:=by
 refine Kz.mono ?_;rintro x w5 ⟨y,rfl,VA, -, -, -,e5⟩;obtain⟨HLY,E5⟩:=aA (show y.v.length=58 by unfold aD.v aD.t;simp[VA.hm,VA.hcm]) (EA.ext e5);clear VA e5 Kz c0 c1 c2 Ny;go_wp2_with (refine aZ F _ _ _ F F F (au.bK (vs:=gQ.v) F F) jQ og (xs:=y.v) HLY (yV y) ?_);intro w6 b6 u6;have E6:=O (u6.ext (E5.alloc _) E5.size);clear b6 u6;go_wp2;go_ret;exact⟨F,E6⟩):a:=e
def agw(e:aR)(w:World)(j:e.Ok w):
 eO 96 #[.agg e.v.toArray] w (.int .i64 (iJ e)):=by
 have m:=O j;obtain⟨E,a⟩:=aF (iJ e);rw[a];unfold iJ at a;have o:=O (aR.len j);clear j;go_enter func96,ntmps96;go_upto_region 1 with(fail);generalize l:alloc w _=n;have d:=dX l e.v 34;have i:=dS l;have c0:=d.cell' (aR.kV e);have c1:=d.cell' (aR.Ci e);have c2:=d.cell' (aR.at2 e);have Ny:=d.cell' (aR.La m);obtain⟨EA,f⟩:=aA i (m.ext i);clear l d i;by_cases b:fZ e.num 0 65535=true
 ·rw[b,Bool.true_or,aN F]at a;subst a;have g:(decide (e.num<0)||decide (65535<e.num))=true:=b;go_wp2_with (first|(go_at_call 155;refine(CP _ _ _ _).mono ?_;rintro x w' ⟨rfl,rfl⟩;rw[g]));go_ret;exact⟨F,EA⟩
 have b:fZ e.num 0 65535=false:=by simpa using b
 have g:(decide (e.num<0)||decide (65535<e.num))=false:=b;rw[b,Bool.false_or]at a;by_cases c:fZ e.time 0 1099511627776=true
 ·rw[aN c]at a;subst a;have h:(decide (e.time<0)||decide (1099511627776<e.time))=true:=c;go_wp2_with (first|(go_at_call 155;refine(CP _ _ _ _).mono ?_;rintro x w' ⟨rfl,rfl⟩;first|rw[g]|rw[h]));go_ret;exact⟨F,EA⟩
 have c:fZ e.time 0 1099511627776=false:=by simpa using c
 have h:(decide (e.time<0)||decide (1099511627776<e.time))=false:=c;rw[aJ (by rw[c];exact Bool.false_ne_true)]at a;have k:=ai7 e.act e.body e.ba e.bn e.bc n f.hb f.hbc f.Lv f.hcl;rw[ajV,a]at k;have Kz:=O k;clear k a b c;go_wp2_with (first|(go_at_call 155;refine(CP _ _ _ _).mono ?_;rintro x w' ⟨rfl,rfl⟩;first|rw[g]|rw[h]));exact aeh
def NR(e:aR)(w:World)(j:e.Ok w):
 eO 78 #[.agg e.v.toArray] w (.int .i64 (iJ e)):=by
 have m:=O j;obtain⟨E,a⟩:=aF (iJ e);rw[a];unfold iJ at a;have s:=O (aR.len j);clear j;go_enter func78,ntmps78;go_upto_region 1 with(fail);generalize l:alloc w _=r;have b:=dX l e.v 34;have i:=dS l;have c0:=b.cell' (aR.kV e);have c1:=b.cell' (aR.Ci e);have c2:=b.cell' (aR.at2 e);have Ny:=b.cell' (aR.La m);obtain⟨EA,c⟩:=aA i (m.ext i);clear l b i;unfold fZ at a;by_cases d:e.num<0
 ·rw[aN (by simp;omega)]at a;have n:=bV d;subst a;go_wp2;go_ret;exact⟨F,EA⟩
 have n:=bg d;by_cases f:65536<=e.num
 ·rw[aN (by simp;omega)]at a;have o:=bV f;subst a;go_wp2;go_ret;exact⟨F,EA⟩
 have o:=bg f;by_cases g:e.time<0
 ·rw[aN (by simp;omega)]at a;have p:=bV g;subst a;go_wp2;go_ret;exact⟨F,EA⟩
 have p:=bg g;by_cases h:1099511627776<e.time
 ·rw[aN (by simp;omega)]at a;have q:=bV h;subst a;go_wp2;go_ret;exact⟨F,EA⟩
 have q:=bg h;rw[aJ (by simp;omega)]at a;have k:=Sw e.act e.body e.ba e.bn e.bc r c.hb c.hbc c.Lv c.hcl;rw[a]at k;have Kz:=O k;clear k a d f g h;go_wp2_with fail;exact aeh
def FT(e:aR):ah:=[75,87,69,49]++fQ (UInt64.ofNat e.num.toNat)++fQ (UInt64.ofNat e.time.toNat)++[UInt8.ofNat e.act.toNat]++e.dz++e.key++e.prev++mh (UInt32.ofNat e.bn)++e.body
def Er{e:aR}{w:World}(h:e.Ok w)(a:iJ e=0):0<=e.num/\e.num<=65535/\0<=e.time/\e.time<=1099511627776/\1<=e.act/\e.act<=12/\e.bn<=32768:=by
 unfold iJ at a;by_cases b:(fZ e.num 0 65535||fZ e.time 0 1099511627776)=true
 ·rw[aN b]at a;omega
 rw[aJ b]at a;unfold fZ at b;simp only[zf,tJ,not_or]at b;unfold qM at a;by_cases ha:kR e.act=false
 ·rw[aN ha]at a;simp at a
 rw[aJ ha]at a;unfold kR at ha;simp only[Bool.not_eq_false,qZ,tJ]at ha;by_cases c:32768<e.body.length
 ·rw[aN c]at a;simp at a
 rw[h.hb]at c;omega
theorem Ur{e:aR}{w:World}(h:e.Ok w):(FT e).length=89+e.bn:=by
 simp[FT,JU,h.ha,h.hk,h.hp,h.hb];simp[mh];omega
section
section
variable {P:Program} {ops:Array Oper} {Q:Exit->Act->World->Prop} {S:World->Prop}
def ahN{B β C:Type}(g:B->World->Prop)(j:β->World->Prop)(k:C->World->Prop)(p:B->Nat)(q:β->Nat)(s:C->Nat)(U:B->Option Nat)(V:β->Option Nat)(W:C->Option Nat)(a:B->β->C->Array Bool)(mk:B->β->C->Act){f:Nat}
 (N:∀x w w',g x w->jJ w w'->g x w')(R:∀x w w',j x w->jJ w w'->j x w')(T:∀x w w',k x w->jJ w w'->k x w')
 (ai:∀x y z,0<p x+q y+s z->(ready .any ops (a x y z)).all (λi=>U x==some i||V y==some i||W z==some i)=true)
 (ag:∀x y z,0<p x+q y+s z->(ready .any ops (a x y z)).isEmpty=false)
 (aa:∀x y z w i,U x=some i->S w->g x w->∃o r,ops.toList.drop i=o::r/\∀b:Exit->Act->World->Prop,(∀x' w',S w'->jJ w w'->g x' w'->p x'+1=p x->a x' y z=(a x y z).setIfInBounds i true->b .normal (mk x' y z) w')->wpList P ops b [o] (mk x y z) w)
 (ab:∀x y z w i,V y=some i->S w->j y w->∃o r,ops.toList.drop i=o::r/\∀b:Exit->Act->World->Prop,(∀l w',S w'->jJ w w'->j l w'->q l+1=q y->a x l z=(a x y z).setIfInBounds i true->b .normal (mk x l z) w')->wpList P ops b [o] (mk x y z) w)
 (ac:∀x y z w i,W z=some i->S w->k z w->∃o r,ops.toList.drop i=o::r/\∀b:Exit->Act->World->Prop,(∀m w',S w'->jJ w w'->k m w'->s m+1=s z->a x y m=(a x y z).setIfInBounds i true->b .normal (mk x y m) w')->wpList P ops b [o] (mk x y z) w)
 (ad:∀x y z w,p x=0->q y=0->s z=0->S w->g x w->j y w->k z w->wpAnyH P .any ops Q S f (a x y z) (mk x y z) w):
 ∀n x y z w,p x+q y+s z=n->S w->g x w->j y w->k z w->wpAnyH P .any ops Q S (f+n) (a x y z) (mk x y z) w:=by
 intro n;induction n with
 |zero=>intro x y z w af;exact ad x y z w J J J
 |succ n I=>
  intro x y z w af D E G H;have K:=ag x y z J;have L:=ai x y z J;rw[z_]at L;refine BU F (by intro h;rw[h]at K;simp at K) λi ae=> ?_;have c:=L i ae;simp only[zf,yj]at c;rcases c with(c|c)|c
  ·obtain⟨o,r,v,A⟩:=aa x y z w i c D E;exact p9 (kJ v) (A _ λx' w' e d t M u=>⟨e,by rw[<-u];exact I x' y z w' J e t (R _ _ _ G d) (T _ _ _ H d)⟩)
  ·obtain⟨o,r,v,A⟩:=ab x y z w i c D G;exact p9 (kJ v) (A _ λl w' e d t M u=>⟨e,by rw[<-u];exact I x l z w' J e (N _ _ _ E d) t (T _ _ _ H d)⟩)
  ·obtain⟨o,r,v,A⟩:=ac x y z w i c D H;exact p9 (kJ v) (A _ λm w' e d t M u=>⟨e,by rw[<-u];exact I x y m w' J e (N _ _ _ E d) (R _ _ _ G d) t⟩)
def ahO{l β m:Type}(n:Nat)(x:l)(y:β)(z:m)(d:l->World->Prop)(e:β->World->Prop)(g:m->World->Prop)(h:l->Nat)(j:β->Nat)(k:m->Nat)(s:l->Option Nat)(t:β->Option Nat)(u:m->Option Nat)(b:l->β->m->Array Bool)(mk:l->β->m->Act){f v:Nat}{A:Array Bool}{a:Act}{w:World}
 (H:b x y z=A)(ha:mk x y z=a)(hF:f+n=v)(I:h x+j y+k z=n)(E:S w)(M:d x w)(N:e y w)(R:g z w)
 (T:∀x w w',d x w->jJ w w'->d x w')(U:∀x w w',e x w->jJ w w'->e x w')(V:∀x w w',g x w->jJ w w'->g x w')
 (L:∀x y z,0<h x+j y+k z->(ready .any ops (b x y z)).all (λi=>s x==some i||t y==some i||u z==some i)=true)
 (K:∀x y z,0<h x+j y+k z->(ready .any ops (b x y z)).isEmpty=false)
 (B:∀x y z w i,s x=some i->S w->d x w->∃o r,ops.toList.drop i=o::r/\∀c:Exit->Act->World->Prop,(∀x' w',S w'->jJ w w'->d x' w'->h x'+1=h x->b x' y z=(b x y z).setIfInBounds i true->c .normal (mk x' y z) w')->wpList P ops c [o] (mk x y z) w)
 (C:∀x y z w i,t y=some i->S w->e y w->∃o r,ops.toList.drop i=o::r/\∀c:Exit->Act->World->Prop,(∀p w',S w'->jJ w w'->e p w'->j p+1=j y->b x p z=(b x y z).setIfInBounds i true->c .normal (mk x p z) w')->wpList P ops c [o] (mk x y z) w)
 (D:∀x y z w i,u z=some i->S w->g z w->∃o r,ops.toList.drop i=o::r/\∀c:Exit->Act->World->Prop,(∀q w',S w'->jJ w w'->g q w'->k q+1=k z->b x y q=(b x y z).setIfInBounds i true->c .normal (mk x y q) w')->wpList P ops c [o] (mk x y z) w)
 (G:∀x y z w,h x=0->j y=0->k z=0->S w->d x w->e y w->g z w->wpAnyH P .any ops Q S f (b x y z) (mk x y z) w):
 wpAnyH P .any ops Q S v A a w:=by
 subst H ha hF;exact ahN d e g h j k s t u b mk T U V L K B C D G n x y z w I E M N R
end
inductive nP where
 |n
 |o (b:Nat)
 |t (b:Nat)
inductive j4 where
 |n
 |o (b1:Nat)
 |t (b1 b2:Nat)
 |h (b1 b2 b3:Nat)
inductive uL where
 |n
 |o (g:Nat)
def nP.v0:nP->Value| .n=>undef| .o b=> .slice (some ⟨b,0,none⟩) 4 4 | .t b=> .slice (some ⟨b,0,none⟩) 4 4
def nP.v1:nP->Value| .n=>undef| .o _=>undef| .t b=> .slice (some ⟨b,0,none⟩) 4 4
def j4.v0:j4->Value| .n=>undef| .o b=> .slice (some ⟨b,0,none⟩) 8 8 | .t b _=> .slice (some ⟨b,0,none⟩) 8 8 | .h b _ _=> .slice (some ⟨b,0,none⟩) 8 8
def j4.v1:j4->Value| .n=>undef| .o _=>undef| .t _ b=> .slice (some ⟨b,0,none⟩) 8 8 | .h _ b _=> .slice (some ⟨b,0,none⟩) 8 8
def j4.v2:j4->Value| .n=>undef| .o _=>undef| .t _ _=>undef| .h _ _ b=> .slice (some ⟨b,4,none⟩) 4 4
def uL.v0:uL->Value| .n=>undef| .o b=> .slice (some ⟨b,0,none⟩) 1 1
def nP.d0:nP->Bool| .n=>false| .o _=>true| .t _=>true
def nP.d1:nP->Bool| .n=>false| .o _=>false| .t _=>true
def j4.d0:j4->Bool| .n=>false| .o _=>true| .t _ _=>true| .h _ _ _=>true
def j4.d1:j4->Bool| .n=>false| .o _=>false| .t _ _=>true| .h _ _ _=>true
def j4.d2:j4->Bool| .n=>false| .o _=>false| .t _ _=>false| .h _ _ _=>true
def uL.d0:uL->Bool| .n=>false| .o _=>true
def nP.m:nP->Nat| .n=>2 | .o _=>1 | .t _=>0
def j4.m:j4->Nat| .n=>3 | .o _=>2 | .t _ _=>1 | .h _ _ _=>0
def uL.m:uL->Nat| .n=>1 | .o _=>0
def nP.op:nP->Option Nat| .n=>some 0 | .o _=>some 1 | .t _=>none
def j4.op:j4->Option Nat| .n=>some 4 | .o _=>some 7 | .t _ _=>some 21 | .h _ _ _=>none
def uL.op:uL->Option Nat| .n=>some 11 | .o _=>none
def I8(B:Nat)(w:World)(b:Nat):Prop:=B<=b/\∃a,w.heap[b]? =some (.cells #[int .u8 75,int .u8 87,int .u8 69,int .u8 49] 5 a)
def nP.I(B:Nat)(w:World):nP->Prop| .n=>True| .o b=>I8 B w b| .t b=>I8 B w b
def sW(w:World)(b o:Nat)(l:ah):Prop:=aM w (some ⟨b,o,none⟩) (l.map Y)
def j4.I(a e f:ah)(w:World):j4->Prop| .n=>True| .o b=>sW w b 0 a| .t b c=>sW w b 0 a/\sW w c 0 e| .h b c d=>sW w b 0 a/\sW w c 0 e/\sW w d 4 f
def uL.I(l:ah)(w:World):uL->Prop| .n=>True| .o b=>sW w b 0 l
def I8.rel{B:Nat}{w w':World}{b:Nat}(h:I8 B w b)(k:jJ w w'):I8 B w' b:=⟨h.1,by obtain⟨c,a⟩:=h.2;exact k.2 _ _ _ _ a⟩
def sW.rel{w w':World}{b o:Nat}{l:ah}(h:sW w b o l)(k:jJ w w'):sW w' b o l:=aM.rel h k
def plL(x:nP)(y:j4)(z:uL):Array Bool:= #[x.d0,x.d1,true,true,y.d0,true,true,y.d1,true,true,true,z.d0,true,true,true,true,true,true,true,true,true,y.d2,true,true,false,false,false]
def Iq(c:aP)(g i k:Nat)(act:Int)(d:UInt8)(a:aO)(bn b:Nat)(x:nP)(y:j4)(z:uL):Act:={tmps:= #[agg c.toArray,pointer (some {block:=g,off:=0}),slice none 0 0,x.v0,x.v1,pointer (some {block:=g,off:=0}),int IntKind.i64 (i:Int),y.v0,pointer (some {block:=g,off:=1}),int IntKind.i64 (k:Int),y.v1,pointer (some {block:=g,off:=2}),int IntKind.i64 act,int IntKind.u8 (d.toNat:Int),z.v0,pointer (some {block:=g,off:=3}),slice (some {block:=g,off:=3}) 16 16,pointer (some {block:=g,off:=19}),slice (some {block:=g,off:=19}) 16 16,pointer (some {block:=g,off:=35}),slice (some {block:=g,off:=35}) 32 32,pointer (some {block:=g,off:=67}),slice a bn b,int IntKind.i64 (bn:Int),y.v2,pointer (some {block:=g,off:=67}),slice a bn b,undef,undef],defers:=[]}
def abP(e:aR)(w:World)(p:e.Ok w)(bk:iJ e=0):
 Calls prog 92 #[.agg e.v.toArray] w λx w'=>∃v,x= .returned v/\w'.ownsRow w.heap.size 5 1 v (89+e.bn) ((FT e).map Y)/\aj w w':=by
 have a_:=O (Ur p);obtain⟨a1,r2,a2,bv,bw,bx,a3⟩:=Er p bk;have b4:=O (aR.len p);have a6:=O p.ha;have a7:=O p.hk;have a8:=O p.hp;have a9:=O p.hb;obtain⟨ba,bb,bc,bd⟩:=bT (aR.Qv p) (aR.Gi p) (aR.abR p) (aR.La p);have a':=O p.hn0;have a5:=O p.hcl;obtain⟨ac,ad,act,dz,M,N,q,bn,r,S⟩:=e;have aw:=aR.kV ⟨ac,ad,act,dz,M,N,q,bn,r,S⟩;have ax:=aR.Ci ⟨ac,ad,act,dz,M,N,q,bn,r,S⟩;have az:=aR.at2 ⟨ac,ad,act,dz,M,N,q,bn,r,S⟩;have ai:FT ⟨ac,ad,act,dz,M,N,q,bn,r,S⟩=[75,87,69,49]++fQ (UInt64.ofNat ac.toNat)++fQ (UInt64.ofNat ad.toNat)++[UInt8.ofNat act.toNat]++dz++M++N++mh (UInt32.ofNat bn)++S:=F;generalize FT _=bz at*;generalize aR.v _=bl at*;simp only at a1 r2 a2 bv bw bx a3 aw ax az b4 a6 a7 a8 a9 ba bb bc bd a' a5 a_⊢;clear p bk;obtain⟨i,rfl⟩:=uO a1;obtain⟨k,rfl⟩:=uO a2;obtain⟨ci,cj,ck⟩:=aW (λw'=>J4 i w' J) (λw'=>J4 k w' J) (λw'=>acB bn w' J);obtain⟨af,a0⟩:=aF (UInt8.ofNat act.toNat);have cs:IntKind.u8.wrap act=(af.toNat:Int):=by
  rw[<-a0,FL,Nk _ J];omega
 rw[a0]at ai;simp only[su]at ai;obtain⟨b2,ch⟩:=aA ai a3;clear a1 r2 a2 bv bw bx a3 a0 ai;go_enter func92,ntmps92;go_upto_region 1 with(fail);generalize aE:alloc w _=a4;obtain⟨Q,b0,b5,b6,b7⟩:=fC (dX aE bl 34) (dS aE) aw ax az;clear aE aw ax az;obtain⟨C,A,aK,bR⟩:=fK (show bM w a4 [w.heap.size] [] a4 from bM.iP b0 (dR.one Q.lt));have bh:∀a,C a->a.cell? ⟨w.heap.size,0,none⟩=some (.int .i64 (i:Int)):=λa K=>(((A a).1 K).blk Q aB).cell' b5;have bi:∀a,C a->a.cell? ⟨w.heap.size,1,none⟩=some (.int .i64 (k:Int)):=λa K=>(((A a).1 K).blk Q aB).cell' b6;have m:∀a,C a->a.cell? ⟨w.heap.size,2,none⟩=some (.int .i64 act):=λa K=>(((A a).1 K).blk Q aB).cell' b7;have al:∀a,C a->a.cell? ⟨w.heap.size,67,none⟩=some (.slice q bn r):=λa K=>(((A a).1 K).blk Q aB).cell' bd;refine fF λX=> ?_;refine ay 2 ?_;refine dW 3 (bh) ?_;refine ay 5 ?_;refine dW 6 (bi) ?_;refine ay 8 ?_;refine dW 9 (m) ?_;refine ay 10 ?_;refine ay 12 ?_;refine ay 13 ?_;refine ay 14 ?_;refine ay 15 ?_;refine ay 16 ?_;refine ay 17 ?_;refine ay 18 ?_;refine dW 19 (al) ?_;refine ay 20 ?_;refine ay 22 ?_;refine dW 23 (al) ?_;generalize a4.drew=cv at*;have aq:∀a,C a->w.heap.size+1<=a.heap.size:=λa K=>by have:=Q.lt;have:=((A a).1 K).kept.1;omega
 clear bh bi m al;obtain⟨g,hg⟩:=aF w.heap.size;rw[hg]at aq;refine ahO 6 nP.n j4.n uL.n (λx a=>nP.I (g+1) a x) (λy a=>j4.I (fQ (UInt64.ofNat i)) (fQ (UInt64.ofNat k)) (mh (UInt32.ofNat bn)) a y) (λz a=>uL.I [af] a z) nP.m j4.m uL.m nP.op j4.op uL.op plL (Iq bl g i k act af q bn r)
  aC ?ha F F X trivial trivial trivial ?mA ?mB ?mC ?hr ?bW ?hA ?hB ?hC ?fD
 case ha=>rw[<-hg];rfl
 case mA=>intro x a ae h k;cases x<;>first|exact h|exact I8.rel h k
 case mB=>
  intro y a ae h k;cases y with
  |n=>exact h
  |o b=>exact sW.rel h k
  |t b c=>exact⟨sW.rel h.1 k,sW.rel h.2 k⟩
  |h b c d=>exact⟨sW.rel h.1 k,sW.rel h.2.1 k,sW.rel h.2.2 k⟩
 case mC=>intro z a ae h k;cases z<;>first|exact h|exact sW.rel h k
 case hr=>intro x y z ar;cases x<;>cases y<;>cases z<;>first|exact absurd ar (Nat.lt_irrefl 0)|kernel_rfl
 case bW=>intro x y z ar;cases x<;>cases y<;>cases z<;>first|exact absurd ar (Nat.lt_irrefl 0)|kernel_rfl
 case hA=>
  intro x y z a j B L U;have ab:=aq a L;clear X;cases x with
  |n=>
   cases B;refine⟨_,_,F,λG f=> ?_⟩;unfold Iq;simp only[nP.v0,nP.v1];go_wp2_with fail;exact f (.o a.heap.size) _ (aK _ _ L ((aj.refl a).alloc _)) (jJ.Im ((aj.refl a).alloc _)) ⟨ab,(0,0),au.FU a ([75,87,69,49].map Y) 5⟩ F F
  |o b=>
   cases B;obtain⟨ab,cq,V⟩:=U;refine⟨_,_,F,λG f=> ?_⟩;have ct:=acQ (P:=prog) 32 5 b 4 4 _ _ _ a underlying32 underlying5 V;unfold Iq;simp only[nP.v0,nP.v1];have b3:=O V;clear V;go_wp2_with fail;exact f (.t b) _ ((A _).2 (((A _).1 L).N8 (aac a _) (λg h=>by cases h;simp;omega) (λg h=>by cases h;show _<=b;omega))) (Vg a _) (I8.rel ⟨ab,cq,b3⟩ (Vg a _)) F F
  |t b=>cases B
 case hB=>
  intro x y z a j B L U;clear X;cases y with
  |n=>
   cases B;refine⟨_,_,F,λG f=> ?_⟩;unfold Iq;simp only[j4.v0,j4.v1,j4.v2];go_wp2_with fail;refine(ci a).mono ?_;rintro e ae ⟨rfl,l,m⟩;have aa:=aK _ _ L m;have W:=O (aM.iM l);have hr:=jJ.Im m;clear l m;go_wp2_with fail;exact f (.o a.heap.size) _ aa hr W F F
  |o b=>
   cases B;refine⟨_,_,F,λG f=> ?_⟩;unfold Iq;simp only[j4.v0,j4.v1,j4.v2];go_wp2_with fail;refine(cj a).mono ?_;rintro e ae ⟨rfl,l,m⟩;have aa:=aK _ _ L m;have W:=O (aM.iM l);have hr:=jJ.Im m;clear l m;go_wp2_with fail;exact f (.t b a.heap.size) _ aa hr ⟨sW.rel U hr,W⟩ F F
  |t b c=>
   cases B;refine⟨_,_,F,λG f=> ?_⟩;unfold Iq;simp only[j4.v0,j4.v1,j4.v2];go_wp2_with fail;refine(ck a).mono ?_;rintro e ae ⟨rfl,be,m⟩;have aa:=aK _ _ L m;have W:=O be;have hr:=jJ.Im m;clear be m;go_wp2_with fail;exact f (.h b c a.heap.size) _ aa hr ⟨sW.rel U.1 hr,sW.rel U.2 hr,W⟩ F F
  |h b c d=>cases B
 case hC=>
  intro x y z a j B L U;clear X;cases z with
  |n=>
   cases B;refine⟨_,_,F,λG f=> ?_⟩;unfold Iq;simp only[uL.v0];go_wp2_with fail;exact f (.o a.heap.size) _ (aK _ _ L ((aj.refl a).alloc _)) (jJ.Im ((aj.refl a).alloc _)) (aM.iM (T:=5) (au.bK F F)) F F
  |o b=>cases B
 case fD=>
  clear X;intro x y z s br bs bt hF cm cn bm;obtain⟨b,rfl⟩:∃b,x= .t b:=by cases x<;>first|exact⟨_,F⟩|cases br
  obtain⟨H,l,I,rfl⟩:∃H l I,y= .h H l I:=by cases y<;>first|exact⟨_,_,_,F⟩|cases bs
  obtain⟨R,rfl⟩:∃b,z= .o b:=by cases z<;>first|exact⟨_,F⟩|cases bt
  obtain⟨ab,zb,V⟩:=cm;obtain⟨k1,k2,k3⟩:=cn;have bp:aM s (some ⟨b,0,none⟩) ([75,87,69,49].map Y):=by
   refine .inr ⟨b,0,F,λj u cl=> ?_⟩;rw[kD];simp only[World.cell?,V];exact(Qb (xs:=[75,87,69,49].map Y)).trans cl
  have ag:=O (((A s).1 hF).blk Q aB);have k5:aM s (some ⟨w.heap.size,3,none⟩) (dz.map Y):=by
   have:=aM.DI ag 3 16;rwa[ba.out]at this
  have k6:aM s (some ⟨w.heap.size,19,none⟩) (M.map Y):=by
   have:=aM.DI ag 19 16;rwa[bb.out]at this
  have k7:aM s (some ⟨w.heap.size,35,none⟩) (N.map Y):=by
   have:=aM.DI ag 35 32;rwa[bc.out]at this
  rw[hg]at k5 k6 k7;obtain⟨b8,b9,b',ca,cb,cc,cd,ce⟩:=mQ bp k1 k2 k3 bm k5 k6 k7;have cf:=O (a5.ext ((A s).1 hF).base);clear bp k1 k2 k3 bm k5 k6 k7 V ab aq br bs bt;unfold Iq plL;simp only[nP.v0,nP.v1,j4.v0,j4.v1,j4.v2,uL.v0,nP.d0,nP.d1,j4.d0,j4.d1,j4.d2,uL.d0];refine aT 24 ?_;intro G f;go_wp2_with fail;have am:=aK _ _ hF ((aj.refl s).alloc (.cells #[.slice (some ⟨b,0,none⟩) 4 4,.slice (some ⟨H,0,none⟩) 8 8,.slice (some ⟨l,0,none⟩) 8 8,.slice (some ⟨R,0,none⟩) 1 1,.slice (some ⟨g,3,none⟩) 16 16,.slice (some ⟨g,19,none⟩) 16 16,.slice (some ⟨g,35,none⟩) 32 32,.slice (some ⟨I,4,none⟩) 4 4,.slice q bn r] 32));obtain⟨E,D⟩:=aA (show au (s.alloc (.cells #[.slice (some ⟨b,0,none⟩) 4 4,.slice (some ⟨H,0,none⟩) 8 8,.slice (some ⟨l,0,none⟩) 8 8,.slice (some ⟨R,0,none⟩) 1 1,.slice (some ⟨g,3,none⟩) 16 16,.slice (some ⟨g,19,none⟩) 16 16,.slice (some ⟨g,35,none⟩) 32 32,.slice (some ⟨I,4,none⟩) 4 4,.slice q bn r] 32)) s.heap.size [.slice (some ⟨b,0,none⟩) 4 4,.slice (some ⟨H,0,none⟩) 8 8,.slice (some ⟨l,0,none⟩) 8 8,.slice (some ⟨R,0,none⟩) 1 1,.slice (some ⟨g,3,none⟩) 16 16,.slice (some ⟨g,19,none⟩) 16 16,.slice (some ⟨g,35,none⟩) 32 32,.slice (some ⟨I,4,none⟩) 4 4,.slice q bn r] 32 from au.bK F F) ((aj.refl s).alloc (.cells #[.slice (some ⟨b,0,none⟩) 4 4,.slice (some ⟨H,0,none⟩) 8 8,.slice (some ⟨l,0,none⟩) 8 8,.slice (some ⟨R,0,none⟩) 1 1,.slice (some ⟨g,3,none⟩) 16 16,.slice (some ⟨g,19,none⟩) 16 16,.slice (some ⟨g,35,none⟩) 32 32,.slice (some ⟨I,4,none⟩) 4 4,.slice q bn r] 32));refine f _ _ am ?_
  clear f G;generalize s.alloc (.cells #[.slice (some ⟨b,0,none⟩) 4 4,.slice (some ⟨H,0,none⟩) 8 8,.slice (some ⟨l,0,none⟩) 8 8,.slice (some ⟨R,0,none⟩) 1 1,.slice (some ⟨g,3,none⟩) 16 16,.slice (some ⟨g,19,none⟩) 16 16,.slice (some ⟨g,35,none⟩) 32 32,.slice (some ⟨I,4,none⟩) 4 4,.slice q bn r] 32)=co at*;refine aL ?_;refine aT 25 ?_;intro G f;go_wp2_with fail;have ao:jw [(some ⟨b,0,none⟩,4,[75,87,69,49]),(some ⟨H,0,none⟩,8,fQ (UInt64.ofNat i)),(some ⟨l,0,none⟩,8,fQ (UInt64.ofNat k)),(some ⟨R,0,none⟩,1,[af]),(some ⟨g,3,none⟩,16,dz),(some ⟨g,19,none⟩,16,M),(some ⟨g,35,none⟩,32,N),(some ⟨I,4,none⟩,4,mh (UInt32.ofNat bn)),(q,r,S)]=bz:=by rw[b2.out];simp[jw]
  have ap:=a_.out;refine(NC [(some ⟨b,0,none⟩,4,[75,87,69,49]),(some ⟨H,0,none⟩,8,fQ (UInt64.ofNat i)),(some ⟨l,0,none⟩,8,fQ (UInt64.ofNat k)),(some ⟨R,0,none⟩,1,[af]),(some ⟨g,3,none⟩,16,dz),(some ⟨g,19,none⟩,16,M),(some ⟨g,35,none⟩,32,N),(some ⟨I,4,none⟩,4,mh (UInt32.ofNat bn)),(q,r,S)] s.heap.size 9 9 co F J J ?hg ?hc ?hn ?hl).mono ?_
  case hg=>
   intro j bo bO
   match j,bO with
   |0,bO=>cases bO;exact E.cell' F
   |1,bO=>cases bO;exact E.cell' F
   |2,bO=>cases bO;exact E.cell' F
   |3,bO=>cases bO;exact E.cell' F
   |4,bO=>cases bO;unfold tV;simp only;rw[a6.out];exact E.cell' F
   |5,bO=>cases bO;unfold tV;simp only;rw[a7.out];exact E.cell' F
   |6,bO=>cases bO;unfold tV;simp only;rw[a8.out];exact E.cell' F
   |7,bO=>cases bO;exact E.cell' F
   |8,bO=>cases bO;unfold tV;simp only;rw[a9.out];exact E.cell' F
  case hc=>
   intro bo bO;simp only[gM,lN,lQ]at bO;rcases bO with rfl|rfl|rfl|rfl|rfl|rfl|rfl|rfl|rfl
   ·exact b8.ext D
   ·exact aM.ext b9 D
   ·exact aM.ext b' D
   ·exact aM.ext cb D
   ·exact cc.ext D
   ·exact cd.ext D
   ·exact ce.ext D
   ·exact aM.ext ca D
   ·exact cf.ext D
  case hn=>
   intro bo bO;simp only[gM,lN,lQ]at bO;rcases bO with rfl|rfl|rfl|rfl|rfl|rfl|rfl|rfl|rfl<;>first|(intro h;cases h;done)|exact λh=>(a' h).2
  case hl=>rw[ao,ap];have:=ch.out;omega
  rw[ao,ap];rintro e cp ⟨v,rfl,bu,bj⟩;have an:=aK _ _ am bj;have cg:=O bu;clear bu ao ap;go_wp2_with fail;refine f _ _ an ?_;clear f G hF am bj;refine aL ?_;have X:=an;clear an;refine ay 26 ?_;have b1:=O ((A cp).1 X).base;have cr:=D.size;clear X A aK bR;refine dP ?_;go_wp2;go_ret;exact⟨v,F,xL cg (by have:=ag.lt;omega),b1⟩
end
noncomputable def pO(e:aR):ah:=if iJ e=0 then eY 3 (FT e)else replicate 32 0
theorem F3(e:aR):(pO e).length=32:=by
 unfold pO;split
 ·exact nJ _ _
 ·simp
def FR:jc prog 31 32:=⟨⟨_,underlying31,F⟩,aC⟩
def WJ(e:aR)(w:World)(d:e.Ok w)(b:iJ e=0):
 eO 57 #[.agg e.v.toArray] w (.agg ((pO e).map Y).toArray):=by
 obtain⟨u,y,E,G,k⟩:=fC d (aR.len d) (λw' h=>abP e w' h b) (Ur d) (show((pO e).map Y).length=32 by rw[aI,F3]);have p:=dw (pO e);have H:=O (Er d b).2.2.2.2.2.2;have j:pO e=eY 3 (FT e):=by unfold pO;rw[aN b]
 obtain⟨S,n⟩:=aF (pO e);rw[n]at k p j⊢;clear d b n;go_enter func57,ntmps57;go_upto_region 1 with(fail);generalize f:alloc (alloc w _) _=K;obtain⟨r,A,m⟩:=aW (qA f e.v 34) (qQ f (replicate 32 (.int .u8 0)) 31) (wN f);clear f;go_wp2_with (refine dA F 34 (.tmp 1) F F r eZ y ?_);refine(E K (u.ext m)).mono ?_;rintro x L ⟨v,rfl,q,g⟩;obtain⟨a,c,rfl,N,M,b,o⟩:=wm q;have l:=CW 3 (FT e) (89+e.bn) c a L J J G (by have:=H.out;omega) o;rw[<-j]at l;obtain⟨z,B,s⟩:=aW l (A.ext g) (m.ext g);clear l g q o j;go_wp2_with fail;refine z.mono ?_;rintro x P ⟨rfl,i⟩;obtain⟨C,t⟩:=aA (B.ext i) (s.ext i);clear i;go_wp2_with (refine aZ F _ _ _ F F F C FR aB k p ?_);intro Q D I;go_wp2_with fail;exact jS F F D FR k F ⟨F,I.ext t J⟩
noncomputable def xu(e:aR):ah:=FT e++pO e
def U7{e:aR}{w:World}(h:e.Ok w):(xu e).length=121+e.bn:=by grind [xu,length_append,Ur,F3]
def akh(e:aR)(w:World)(x:Ending)(w':World):Prop:=
 aj w w'/\((iJ e=0/\∃v,x= .returned (.tuple #[v,.int .i64 0])/\w'.ownsRow w.heap.size 5 1 v (121+e.bn) ((xu e).map Y))∨(iJ e≠0/\x= .returned (.tuple #[.slice none 0 0,.int .i64 (iJ e)])))
def ane{a:Prop}(e:a:=by
 obtain⟨C,Z,aK,bR⟩:=fK (show bM w wC [w.heap.size,gs] [] wC from bM.iP EC (dR.two BC.lt SC.lt));refine fF λX=> ?_;refine ay 2 ?_;have hSz:∀w1,C w1->w.heap.size+2<=w1.heap.size/\gs+1<=w1.heap.size:=λw1 h1=>by have:=SC.lt;have:=((Z w1).1 h1).kept.1;omega
 generalize wC.drew=wD at*;refine aT 0 ?_;intro Q' hQ;go_wp2_with (refine dA F 34 (.tmp 1) F F (((Z wD).1 X).blk BC aB) eZ gq ?_);refine hQ _ _ X ?_;clear hQ Q';refine aL ?_;refine aT 1 ?_;intro Q' hQ;go_wp2_with fail;refine(Rj wD (by trivial) (HE.ext ((Z wD).1 X).base)).mono ?_;rintro x wF ⟨v,rfl,own,eF⟩;have hF:=aK _ _ X eF;have OF:=O own;clear own;go_wp2_with fail;refine hQ _ _ hF ?_;clear hQ Q';refine aL ?_;refine aT 3 ?_;intro Q' hQ;have cS:aM wF (some ⟨gs,0,none⟩) (S.map Y):=aM.iM (((Z wF).1 hF).blk SC aB);have hdF:=hSz wD X;go_wp2_with (at_builtin;refine GH F _ _ F wD.heap.size (ys:=S) F F OF gI (λh=>by cases h) cS (by have:=IY.out;omega) eF.size ?_);intro v2 wG lH gG;have hv:=λg' h=>yR OF g' h;have hG:C wG:=(Z _).2 (((Z _).1 hF).N8 gG (λg' h=>by have:=hv g' h;simp;omega) (λg' h=>by have:=hv g' h;omega));have OG:=O (xL lH (show w.heap.size<=wD.heap.size by omega));clear lH;go_wp2_with fail;refine hQ _ _ hG ?_;clear hQ Q' X hF gG hv OF cS;refine aL ?_;have X:=hG;clear hG;refine ay 4 ?_;refine ay 5 ?_;have EG:=O ((Z wG).1 X).base;clear X Z aK bR;refine dP ?_;go_wp2
 go_ret2
 refine⟨EG,.inl ⟨AB,v2,F,?_⟩⟩;rw[show 121+e.bn=89+e.bn+32 by omega];unfold xu;rw[HS.out];simpa using OG.out):a:=e
def acz(e:aR)(w:World)(b:e.Ok w):
 Calls prog 54 #[.agg e.v.toArray] w (akh e w):=by
 obtain⟨HE,gq,v,m,Rj,l⟩:=jW b (aR.len b) (λw' h=>NR e w' h) (λw' i h=>WJ e w' h i) (λw' i h=>abP e w' h i) (λh=>(Er b h).2.2.2.2.2.2);have o:=dw (pO e);obtain⟨gI,u⟩:=aA (F3 e) (show((pO e).map Y).length=32 by rw[aI,F3]);obtain⟨S,k⟩:=aF (pO e);rw[k]at m gI u o;have HS:=O k;clear k b;obtain⟨E,j⟩:=aF (iJ e);rw[j]at v m Rj l;have AB:=O j;clear j;go_enter func54,ntmps54;go_upto_region 1 with(fail);generalize n:alloc w _=D;obtain⟨p,s⟩:=aA (dX n e.v 34) (dS n);clear n;go_wp2_with (refine dA F 34 (.tmp 1) F F p eZ gq ?_);refine(v D (HE.ext s)).mono ?_;rintro x G ⟨rfl,a⟩;obtain⟨r,f⟩:=aA (p.ext a) (s.ext a);clear a;by_cases q:E=0
 ·subst q;go_wp2_with (refine dA F 34 (.tmp 1) F F r eZ gq ?_);refine(m G (by trivial) (HE.ext f)).mono ?_;rintro x c ⟨rfl,a⟩;obtain⟨d,t⟩:=aA (r.ext a) (f.ext a);clear a;have C:w.heap.size+1<=c.heap.size:=d.lt;go_wp2_with (refine aZ F _ _ _ F F F (au.bK (vs:=replicate 32 (.int .u8 0)) F F) FR aB u o ?_);intro wC z A;have g:aj c wC:=A.ext ((aj.refl c).alloc _) (aQ _);obtain⟨BC,EC,SC,IY⟩:=bT (d.ext g) (t.ext g) z (l (by trivial));clear A g z d t o l;obtain⟨gs,y⟩:=aF c.heap.size;rw[y]at SC C⊢;clear y;go_upto_region 5 with(fail);exact ane
 ·have H:(E != 0)=true:=by simpa using q
  have B:=O q;clear q;go_wp2
  go_ret2
  exact⟨f,.inr ⟨by rw[AB.out];exact B,by rw[AB.out];rfl⟩⟩
def alS(p m q:aP)(v:Array Value)(e:m.length=v.size):
 v.zipIdx.foldl (λcs (x:Value×Nat)=>cs.setIfInBounds (p.length+x.2) x.1) (p++m++q).toArray=(p++v.toList++q).toArray:=by
 rw[<-Array.foldl_toList,Array.toList_zipIdx];obtain⟨f,d⟩:=Great.foldl_set p.length v.toList 0 (p++m++q).toArray;apply Array.ext_getElem?;intro k;rw[d k];simp only[z8,pz,zh,bQ,Qb,kD];have a:v.toList.length=v.size:=pz;by_cases b:k<p.length
 ·rw[aJ J,sw,sw,zY b,zY b]
 ·by_cases c:k<p.length+v.size
  ·rw[aN ⟨J,c,J⟩,sw,yc J,zY (by rw[a];omega)]
  ·rw[aJ J,yc (by rw[bQ];omega),yc (by rw[bQ,a];omega)]
   congr 1
   rw[bQ,bQ,a,e]
def lF{a:Nat->Option (Nat×Nat)}{i off b:Nat}{v:Value}{rest:List (Nat×Value)}(p m q:aP)(f:a i=some (off,b))(d:off=p.length)(e:v.cells.size=b)(c:m.length=b):
 Instr.fill a (p++m++q).toArray ((i,v)::rest)=Instr.fill a (p++v.cells.toList++q).toArray rest:=by
 rw[Instr.fill];simp only[f];rw[aJ (by simp[e,d,c])];subst d;rw[<-alS p m q v.cells (by rw[c,e])]
def aii:(prog.info? 46).map (λi=>(i.zero,i.size,i.bytes))=some (some (.agg (iX 0 0 fT fT).toArray),66,80):=aC
def ag5:(prog.underlying 46).bind (λd=>match d with| .struct a=>a.toList.mapM (λf=>(prog.info? f.type).map λi=>(f.offset,i.size))|_=>none)=some [(0,1),(1,1),(2,32),(34,32)]:=aC
def afK(C T:Int)(x y:ah)(b:x.length=32)(h:y.length=32):prog.built 46 [(0,.int .i64 C),(1,.int .i64 T),(2,.agg (x.map Y).toArray),(3,.agg (y.map Y).toArray)]=some (iX C T x y).toArray:=by
 obtain⟨l,g,i,k,j⟩:=gJ aii;have a:=ag5;rw[underlying46]at a;simp only[AV]at a;unfold Program.built;rw[g,underlying46];simp only[i,a];have c:(agg (iX 0 0 fT fT).toArray).cells=([]++[int .i64 0]++(int .i64 0::(fT.map Y++fT.map Y))).toArray:=F;rw[c,lF [] [int .i64 0] _ F F F F];have d:([]++(int .i64 C).cells.toList++(int .i64 0::(fT.map Y++fT.map Y)))=[int .i64 C]++[int .i64 0]++(fT.map Y++fT.map Y):=F;rw[d,lF [int .i64 C] [int .i64 0] _ F F F F];have e:([int .i64 C]++(int .i64 T).cells.toList++(fT.map Y++fT.map Y))=[int .i64 C,int .i64 T]++fT.map Y++fT.map Y:=F;rw[e,lF [int .i64 C,int .i64 T] (fT.map Y) _ F F (by simp[cells,b]) (by rfl)];have f:([int .i64 C,int .i64 T]++(agg (x.map Y).toArray).cells.toList++fT.map Y)=([int .i64 C,int .i64 T]++x.map Y)++fT.map Y++[]:=by simp[cells]
 rw[f,lF ([int .i64 C,int .i64 T]++x.map Y) (fT.map Y) [] F (by simp[b]) (by simp[cells,h]) (by rfl)];rw[Instr.fill];simp[cells,iX]
def agK{o:Oper}{a:Act}{b c d e:Operand}{C T:Int}{x y:ah}(l:o.op= .build 46 #[(0,b),(1,c),(2,d),(3,e)])(g:a.eval b= .int .i64 C)(i:a.eval c= .int .i64 T)(f:a.eval d= .agg (x.map Y).toArray)(j:a.eval e= .agg (y.map Y).toArray)(m:x.length=32)(n:y.length=32)(w:World):
 (execOp a.eval o).run prog w= .ok (.value (.agg (iX C T x y).toArray)) w:=by
 have h:=B_ (P:=prog) w 46 #[(0,.int .i64 C),(1,.int .i64 T),(2,.agg (x.map Y).toArray),(3,.agg (y.map Y).toArray)] _ (afK C T x y m n);have k:(#[(0,b),(1,c),(2,d),(3,e)].map λ(r:Nat×Operand)=>(r.1,a.eval r.2))= #[(0,.int .i64 C),(1,.int .i64 T),(2,.agg (x.map Y).toArray),(3,.agg (y.map Y).toArray)]:=by simp[g,i,f,j]
 unfold execOp;simp only[l,iC];have f:(Instr.build 46 (#[(0,b),(1,c),(2,d),(3,e)].map λ(r:Nat×Operand)=>(r.1,a.eval r.2))).run prog w= .ok (.agg (iX C T x y).toArray) w:=by rw[k];exact h
 rw[f];rfl
structure lX where
 num:Int
 time:Int
 act:Int
 dz:ah
 key:ah
 prev:ah
 body:ah
def aR.p(e:aR):lX:=⟨e.num,e.time,e.act,e.dz,e.key,e.prev,e.body⟩
def lX.r(x:lX):aR:=⟨x.num,x.time,x.act,x.dz,x.key,x.prev,none,x.body.length,x.body.length,x.body⟩
noncomputable def rC(x:lX):Int:=iJ x.r
def Zv(e:aR):iJ e=rC e.p:=F
def iG:ah:=replicate 16 0
def D6:lX:=⟨0,0,0,iG,iG,replicate 32 0,[]⟩
def gB:aR:=⟨0,0,0,iG,iG,replicate 32 0,none,0,0,[]⟩
def iA:gB.v.length=68:=F
def nQ(e:aR):∀v∈e.v,v.oneCell'=true:=by
 intro v a;unfold aR.v at a;simp only[gM,kU,lN,lQ]at a;rcases a with rfl|rfl|rfl|a|a|a|rfl
 ·rfl
 ·rfl
 ·rfl
 ·exact dw _ v a
 ·exact dw _ v a
 ·exact dw _ v a
 ·rfl
def LK:(prog.info? 34).map (λi=>(i.zero,i.size,i.bytes))=some (some (.agg gB.v.toArray),68,112):=aC
def Z5:(prog.underlying 34).bind (λd=>match d with| .struct a=>a.toList.mapM (λf=>(prog.info? f.type).map λi=>(f.offset,i.size))|_=>none)=some [(0,1),(1,1),(2,1),(3,16),(19,16),(35,32),(67,1)]:=aC
def afI(n t k:Int)(x y z:ah)(b:x.length=16)(c:y.length=16)(m:z.length=32):prog.built 34 [(0,int .i64 n),(1,int .i64 t),(2,int .i64 k),(3,agg (x.map Y).toArray),(4,agg (y.map Y).toArray),(5,agg (z.map Y).toArray)]=some (aR.v ⟨n,t,k,x,y,z,none,0,0,[]⟩).toArray:=by
 obtain⟨q,j,l,p,o⟩:=gJ LK;have a:=Z5;rw[underlying34]at a;simp only[AV]at a;unfold Program.built;rw[j,underlying34];simp only[l,a];have d:(agg gB.v.toArray).cells=(([]:aP)++[int .i64 0]++(int .i64 0::int .i64 0::(iG.map Y++(iG.map Y++((replicate 32 (0:UInt8)).map Y++[slice none 0 0]))))).toArray:=F;rw[d,lF ([]:aP) ([int .i64 0]) (int .i64 0::int .i64 0::(iG.map Y++(iG.map Y++((replicate 32 (0:UInt8)).map Y++[slice none 0 0])))) F F F (by rfl)];have e:(([]:aP)++(int .i64 n).cells.toList++(int .i64 0::int .i64 0::(iG.map Y++(iG.map Y++((replicate 32 (0:UInt8)).map Y++[slice none 0 0])))))=[int .i64 n]++[int .i64 0]++(int .i64 0::(iG.map Y++(iG.map Y++((replicate 32 (0:UInt8)).map Y++[slice none 0 0])))):=by simp[cells]
 rw[e,lF [int .i64 n] ([int .i64 0]) (int .i64 0::(iG.map Y++(iG.map Y++((replicate 32 (0:UInt8)).map Y++[slice none 0 0])))) F F F (by rfl)];have f:([int .i64 n]++(int .i64 t).cells.toList++(int .i64 0::(iG.map Y++(iG.map Y++((replicate 32 (0:UInt8)).map Y++[slice none 0 0])))))=[int .i64 n,int .i64 t]++[int .i64 0]++(iG.map Y++(iG.map Y++((replicate 32 (0:UInt8)).map Y++[slice none 0 0]))):=by simp[cells]
 rw[f,lF [int .i64 n,int .i64 t] ([int .i64 0]) (iG.map Y++(iG.map Y++((replicate 32 (0:UInt8)).map Y++[slice none 0 0]))) F F F (by rfl)];have g:([int .i64 n,int .i64 t]++(int .i64 k).cells.toList++(iG.map Y++(iG.map Y++((replicate 32 (0:UInt8)).map Y++[slice none 0 0]))))=[int .i64 n,int .i64 t,int .i64 k]++iG.map Y++(iG.map Y++((replicate 32 (0:UInt8)).map Y++[slice none 0 0])):=by simp[cells]
 rw[g,lF [int .i64 n,int .i64 t,int .i64 k] (iG.map Y) (iG.map Y++((replicate 32 (0:UInt8)).map Y++[slice none 0 0])) F F (by simp[cells,b]) (by rfl)];have h:([int .i64 n,int .i64 t,int .i64 k]++(agg (x.map Y).toArray).cells.toList++(iG.map Y++((replicate 32 (0:UInt8)).map Y++[slice none 0 0])))=([int .i64 n,int .i64 t,int .i64 k]++x.map Y)++iG.map Y++((replicate 32 (0:UInt8)).map Y++[slice none 0 0]):=by simp[cells]
 rw[h,lF ([int .i64 n,int .i64 t,int .i64 k]++x.map Y) (iG.map Y) ((replicate 32 (0:UInt8)).map Y++[slice none 0 0]) F (by simp[b]) (by simp[cells,c]) (by rfl)];have i:(([int .i64 n,int .i64 t,int .i64 k]++x.map Y)++(agg (y.map Y).toArray).cells.toList++((replicate 32 (0:UInt8)).map Y++[slice none 0 0]))=([int .i64 n,int .i64 t,int .i64 k]++x.map Y++y.map Y)++(replicate 32 (0:UInt8)).map Y++[slice none 0 0]:=by simp[cells]
 rw[i,lF ([int .i64 n,int .i64 t,int .i64 k]++x.map Y++y.map Y) ((replicate 32 (0:UInt8)).map Y) [slice none 0 0] F (by simp[b,c]) (by simp[cells,m]) (by rfl)];rw[Instr.fill];simp[cells,aR.v]
def afJ(n t k:Int)(x y z:ah)(d:aO)(bn e:Nat)(l:ah)(a:x.length=16)(c:y.length=16)(f:z.length=32):prog.built 34 [(0,int .i64 n),(1,int .i64 t),(2,int .i64 k),(3,agg (x.map Y).toArray),(4,agg (y.map Y).toArray),(5,agg (z.map Y).toArray),(6,slice d bn e)]=some (aR.v ⟨n,t,k,x,y,z,d,bn,e,l⟩).toArray:=by
 obtain⟨v,q,r,u,s⟩:=gJ LK;have b:=Z5;rw[underlying34]at b;simp only[AV]at b;unfold Program.built;rw[q,underlying34];simp only[r,b];have g:(agg gB.v.toArray).cells=(([]:aP)++[int .i64 0]++(int .i64 0::int .i64 0::(iG.map Y++(iG.map Y++((replicate 32 (0:UInt8)).map Y++[slice none 0 0]))))).toArray:=F;rw[g,lF ([]:aP) ([int .i64 0]) (int .i64 0::int .i64 0::(iG.map Y++(iG.map Y++((replicate 32 (0:UInt8)).map Y++[slice none 0 0])))) F F F (by rfl)];have h:(([]:aP)++(int .i64 n).cells.toList++(int .i64 0::int .i64 0::(iG.map Y++(iG.map Y++((replicate 32 (0:UInt8)).map Y++[slice none 0 0])))))=[int .i64 n]++[int .i64 0]++(int .i64 0::(iG.map Y++(iG.map Y++((replicate 32 (0:UInt8)).map Y++[slice none 0 0])))):=by simp[cells]
 rw[h,lF [int .i64 n] ([int .i64 0]) (int .i64 0::(iG.map Y++(iG.map Y++((replicate 32 (0:UInt8)).map Y++[slice none 0 0])))) F F F (by rfl)];have i:([int .i64 n]++(int .i64 t).cells.toList++(int .i64 0::(iG.map Y++(iG.map Y++((replicate 32 (0:UInt8)).map Y++[slice none 0 0])))))=[int .i64 n,int .i64 t]++[int .i64 0]++(iG.map Y++(iG.map Y++((replicate 32 (0:UInt8)).map Y++[slice none 0 0]))):=by simp[cells]
 rw[i,lF [int .i64 n,int .i64 t] ([int .i64 0]) (iG.map Y++(iG.map Y++((replicate 32 (0:UInt8)).map Y++[slice none 0 0]))) F F F (by rfl)];have j:([int .i64 n,int .i64 t]++(int .i64 k).cells.toList++(iG.map Y++(iG.map Y++((replicate 32 (0:UInt8)).map Y++[slice none 0 0]))))=[int .i64 n,int .i64 t,int .i64 k]++iG.map Y++(iG.map Y++((replicate 32 (0:UInt8)).map Y++[slice none 0 0])):=by simp[cells]
 rw[j,lF [int .i64 n,int .i64 t,int .i64 k] (iG.map Y) (iG.map Y++((replicate 32 (0:UInt8)).map Y++[slice none 0 0])) F F (by simp[cells,a]) (by rfl)];have m:([int .i64 n,int .i64 t,int .i64 k]++(agg (x.map Y).toArray).cells.toList++(iG.map Y++((replicate 32 (0:UInt8)).map Y++[slice none 0 0])))=([int .i64 n,int .i64 t,int .i64 k]++x.map Y)++iG.map Y++((replicate 32 (0:UInt8)).map Y++[slice none 0 0]):=by simp[cells]
 rw[m,lF ([int .i64 n,int .i64 t,int .i64 k]++x.map Y) (iG.map Y) ((replicate 32 (0:UInt8)).map Y++[slice none 0 0]) F (by simp[a]) (by simp[cells,c]) (by rfl)];have o:(([int .i64 n,int .i64 t,int .i64 k]++x.map Y)++(agg (y.map Y).toArray).cells.toList++((replicate 32 (0:UInt8)).map Y++[slice none 0 0]))=([int .i64 n,int .i64 t,int .i64 k]++x.map Y++y.map Y)++(replicate 32 (0:UInt8)).map Y++[slice none 0 0]:=by simp[cells]
 rw[o,lF ([int .i64 n,int .i64 t,int .i64 k]++x.map Y++y.map Y) ((replicate 32 (0:UInt8)).map Y) [slice none 0 0] F (by simp[a,c]) (by simp[cells,f]) (by rfl)];have p:(([int .i64 n,int .i64 t,int .i64 k]++x.map Y++y.map Y)++(agg (z.map Y).toArray).cells.toList++[slice none 0 0])=([int .i64 n,int .i64 t,int .i64 k]++x.map Y++y.map Y++z.map Y)++[slice none 0 0]++([]:aP):=by simp[cells]
 rw[p,lF ([int .i64 n,int .i64 t,int .i64 k]++x.map Y++y.map Y++z.map Y) ([slice none 0 0]) ([]:aP) F (by simp[a,c,f]) F (by rfl)];rw[Instr.fill];simp[cells,aR.v]
def agJ{o:Oper}{a:Act}{b c d e f g:Operand}{n t k:Int}{x y z:ah}(u:o.op= .build 34 #[(0,b),(1,c),(2,d),(3,e),(4,f),(5,g)])(j:a.eval b=int .i64 n)(l:a.eval c=int .i64 t)(i:a.eval d=int .i64 k)(m:a.eval e=agg (x.map Y).toArray)(p:a.eval f=agg (y.map Y).toArray)(q:a.eval g=agg (z.map Y).toArray)(v:x.length=16)(A:y.length=16)(B:z.length=32)(w:World):
 (execOp a.eval o).run prog w= .ok (.value (.agg (aR.v ⟨n,t,k,x,y,z,none,0,0,[]⟩).toArray)) w:=by
 have h:=B_ (P:=prog) w 34 #[(0,int .i64 n),(1,int .i64 t),(2,int .i64 k),(3,agg (x.map Y).toArray),(4,agg (y.map Y).toArray),(5,agg (z.map Y).toArray)] _ (afI n t k x y z v A B);have s:(#[(0,b),(1,c),(2,d),(3,e),(4,f),(5,g)].map λ(r:Nat×Operand)=>(r.1,a.eval r.2))= #[(0,int .i64 n),(1,int .i64 t),(2,int .i64 k),(3,agg (x.map Y).toArray),(4,agg (y.map Y).toArray),(5,agg (z.map Y).toArray)]:=by simp[j,l,i,m,p,q]
 unfold execOp;simp only[u,iC];have i:(Instr.build 34 (#[(0,b),(1,c),(2,d),(3,e),(4,f),(5,g)].map λ(r:Nat×Operand)=>(r.1,a.eval r.2))).run prog w= .ok (.agg (aR.v ⟨n,t,k,x,y,z,none,0,0,[]⟩).toArray) w:=by rw[s];exact h
 rw[i];rfl
def ZL{o:Oper}{a:Act}{d e f g i j m:Operand}{n t k:Int}{x y z:ah}{b:aO}{bn c:Nat}(l:ah)(D:o.op= .build 34 #[(0,d),(1,e),(2,f),(3,g),(4,i),(5,j),(6,m)])(q:a.eval d=int .i64 n)(s:a.eval e=int .i64 t)(p:a.eval f=int .i64 k)(u:a.eval g=agg (x.map Y).toArray)(v:a.eval i=agg (y.map Y).toArray)(A:a.eval j=agg (z.map Y).toArray)(B:a.eval m=slice b bn c)(E:x.length=16)(G:y.length=16)(H:z.length=32)(w:World):
 (execOp a.eval o).run prog w= .ok (.value (.agg (aR.v ⟨n,t,k,x,y,z,b,bn,c,l⟩).toArray)) w:=by
 have h:=B_ (P:=prog) w 34 #[(0,int .i64 n),(1,int .i64 t),(2,int .i64 k),(3,agg (x.map Y).toArray),(4,agg (y.map Y).toArray),(5,agg (z.map Y).toArray),(6,slice b bn c)] _ (afJ n t k x y z b bn c l E G H);have C:(#[(0,d),(1,e),(2,f),(3,g),(4,i),(5,j),(6,m)].map λ(r:Nat×Operand)=>(r.1,a.eval r.2))= #[(0,int .i64 n),(1,int .i64 t),(2,int .i64 k),(3,agg (x.map Y).toArray),(4,agg (y.map Y).toArray),(5,agg (z.map Y).toArray),(6,slice b bn c)]:=by simp[q,s,p,u,v,A,B]
 unfold execOp;simp only[D,iC];have p:(Instr.build 34 (#[(0,d),(1,e),(2,f),(3,g),(4,i),(5,j),(6,m)].map λ(r:Nat×Operand)=>(r.1,a.eval r.2))).run prog w= .ok (.agg (aR.v ⟨n,t,k,x,y,z,b,bn,c,l⟩).toArray) w:=by rw[C];exact h
 rw[p];rfl
section
def kX(es:List aR):aP:=es.flatMap aR.v
def GL(es:List aR):Prop:=∀e∈es,e.v.length=68
def Zy{es:List aR}(h:GL es):(kX es).length=68*es.length:=by induction es<;>grind [kX,aR,GL]
def agz{es:List aR}(h:GL es){k:Nat}{e:aR}(a:es[k]? =some e):((kX es).drop (k*68)).take 68=e.v:=by
 have c:es=es.take k++e::es.drop (k+1):=by
  obtain⟨b,g⟩:=iK.1 a;rw[<-g,<-FJ b,AX]
 have b:=(iK.1 a).1;have d:(kX (es.take k)).length=k*68:=by
  rw[Zy (λx i=>h x (wZ i)),fP];omega
 have f:kX es=kX (es.take k)++(e.v++kX (es.drop (k+1))):=by
  conv=>lhs;rw[c]
  unfold kX;rw[Eh,yh]
 rw[f,q_ d,oo (h e (f_ a))]
def Zx(xs ys:List aR):kX (xs++ys)=kX xs++kX ys:=by unfold kX;rw[Eh]
def Xp:(prog.info? 34).map (·.size)=some 68:=aC
def Zm:wO prog 24 34 68 112:=⟨underlying24,⟨_,_,(gJ LK).choose_spec.1,(gJ LK).choose_spec.2.1,(gJ LK).choose_spec.2.2.1,(gJ LK).choose_spec.2.2.2,F⟩,bS⟩
structure uj(w:World)(a:aO)(n c:Nat)(es:List aR):Prop where
 hl:es.length=n
 nc:n<=c
 n0:a=none->c=0
 ok:∀e∈es,e.Ok w
 cell:aM w a (kX es)
section
variable {w w':World} {a:aO} {n c:Nat} {es:List aR}
def uj.RJ(h:uj w a n c es):GL es:=λe b=>aR.len (h.ok e b)
def uj.ext(h:uj w a n c es)(e:aj w w'):uj w' a n c es:=⟨h.hl,h.nc,h.n0,λx b=>(h.ok x b).ext e,h.cell.ext e⟩
def uj.at(h:uj w a n c es){k:Nat}{e:aR}(f:es[k]? =some e):∃A,a=some A/\d9 w (A.add (k*68)) e.v:=by
 have l:=(iK.1 f).1;obtain⟨b,o,rfl,g⟩:=h.cell.jg (by rw[Zy h.RJ];omega);refine⟨_,F,λj u d=> ?_⟩;rw[eX,eX,k_];refine g _ _ ?_;rw[<-agz h.RJ f]at d;have i:j<68:=by
  have:=(iK.1 d).1;rw[fP]at this;omega
 rw[uM i,qY]at d;exact d
end
noncomputable def qb(es:List aR):ah:=es.flatMap xu
def aob{es:List aR}{k:Nat}{e:aR}(h:es[k]? =some e):qb (es.take (k+1))=qb (es.take k)++xu e:=by simp_all [qb,ny,Eh]
def aoc(es:List aR)(k:Nat):(qb (es.take k)).length<=(qb es).length:=by
 have:qb es=qb (es.take k)++qb (es.drop k):=by
  conv=>lhs;rw[<-AX k es]
  unfold qb;rw[Eh]
 rw[this,bQ];omega
def aeP(a:aO)(n c:Nat)(es:List aR)(w:World)(h:uj w a n c es)(S:∀e∈es,iJ e=0)(a3:n<=1000000)(R:(qb es).length<=140737488355328):
 Calls prog 9 #[.slice a n c] w λx w'=>∃v,x= .returned v/\w'.ownsRow w.heap.size 5 1 v (qb es).length ((qb es).map Y)/\aj w w':=by
 obtain⟨f,ag,ad,af⟩:=bT h S R (aoc es);clear h S R;go_enter func9,ntmps9;go_wp2;go_loopw [3,10] (λu i wr=>∃k:Nat,k<=n/\i= .int .i64 (k:Int)/\wr.ownsRow w.heap.size 5 1 u (qb (es.take k)).length ((qb (es.take k)).map Y)/\aj w wr) (λ_ i _=>n - (intOf i).toNat)
 ·exact⟨0,J,F,⟨F,.inl ⟨F,F⟩⟩,aj.refl _⟩
 ·obtain⟨k,a2,rfl,V,K⟩:=hrel;obtain⟨b,g⟩:=aA K V;clear K V;by_cases Q:k<n
  ·obtain⟨r,d⟩:∃r,es[k]? =some r:=⟨es[k]'(by rw[f.hl];exact Q),aB⟩;obtain⟨A,rfl,P⟩:=(f.ext b).at d;obtain⟨E,o,ac⟩:=aW P ((f.ext b).ok r (f_ d)) (ag r (f_ d));obtain⟨p,G,ae⟩:=aW (aR.len o) (aob d) (af (k+1));clear P d;go_wp2_with (first|(refine bZ F (gD (i:=k) F F F underlying24 Xp Q _) ?_)|(refine bZ F (cB F F E eZ p) ?_)|(refine aZ F _ (.tmp 5) _ F F F (au.bK (vs:=gB.v) F F) eZ iA p (nQ r) ?_));intro aa I W;have j:aj wr aa:=W.ext ((aj.refl wr).alloc _) (aQ _);obtain⟨B,C,m,H⟩:=bT I (b.ext j) (o.ext j) (iy g j);clear I W j o E g b;generalize wr.heap.size=a0 at*;go_wp2_with (refine dA F 34 (.tmp 5) F F B eZ p ?_);refine(acz r aa m).mono ?_;rintro x a4 ⟨t,⟨z,v,rfl,ow⟩|⟨z,rfl⟩⟩
   ·have l:=O (C.ext t);have s:=O (iy H t);obtain⟨am,an,rfl,ao,ap,M,N⟩:=wm ow;obtain⟨D,y⟩:=aA N (show(xu r).length=121+r.bn from U7 m);have ab:=O (show(qb (es.take k)).length+(121+r.bn)<=140737488355328 by
     have ar:=ae.out;rw[G.out,bQ,y.out]at ar;have a1:=ad.out;omega)
    have ax:=l.size;have aq:am=none->121+r.bn=0/\an=0:=λh=>by have:=M h;omega
    clear ow z N t C m H B ao ap M;go_wp2_with (refine GH F _ _ F w.heap.size (ys:=xu r) F F s y aq D ab ax ?_);intro aE w' U L;have T:aj w w':=l.grown L (λq az=>(s.lt q az).1);obtain⟨ai,al⟩:=aA T (show w'.ownsRow w.heap.size 5 1 aE (qb (es.take (k+1))).length ((qb (es.take (k+1))).map Y) by rw[G.out,bQ,y.out,jv];exact U);clear T U L D s l;go_wp2;go_roundw
    ·exact⟨k+1,J,by go_num,al,ai⟩
    ·exact fV
   ·exact absurd ac.out z
  ·obtain rfl:k=n:=J;have aw:es.take k=es:=gY (by rw[f.hl];exact aQ _);rw[aw]at g;go_wp2;go_ret;exact⟨_,F,g,b⟩
end
section
open Go Go.RowKit Go.Maps Go.MapKept Go.WideShapes
set_option linter.unusedSectionVars false
structure PY{K:Type}(P:Program)(k:TypeId)(kv:K->Value)(good:K->Prop):Prop where
 keyed:Keyed P k
 key:∀x,good x->∃l,keyOf P k (kv x)=some l
 inj:∀x y,kv x=kv y->x=y
section plain
variable {K V:Type} [DecidableEq K]
structure kL(good:K->Prop)(hs:List (K×V)):Prop where
 good:∀p∈hs,good p.1
 nodup:(hs.map Prod.fst).Nodup
def kL.nil{a:K->Prop}:kL a ([]:List (K×V)):=⟨aB,aB⟩
def mK(k:K)(hs:List (K×V)):Option Nat:=hs.findIdx? (λp=>decide (p.1=k))
def dM(hs:List (K×V))(k:K):Option V:=match mK k hs with|some i=>hs[i]?.map Prod.snd|none=>none
def gF(hs:List (K×V))(k:K)(v:V):List (K×V):=match mK k hs with|some i=>hs.set i (k,v)|none=>hs++[(k,v)]
def kW(hs:List (K×V))(k:K):List (K×V):=match mK k hs with|some i=>hs.eraseIdx i|none=>hs
def LM{k:K}{hs:List (K×V)}:mK k hs=none↔∀p∈hs,p.1≠k:=by grind [mK]
theorem aaI{k:K}{hs:List (K×V)}{i:Nat}(h:mK k hs=some i):i<hs.length:=by grind [mK,List.findIdx?_eq_some_iff_getElem]
def JO{k:K}{hs:List (K×V)}{i:Nat}(h:mK k hs=some i):∃v,hs[i]? =some (k,v):=by grind [mK,aaI,List.findIdx?_eq_some_iff_getElem,List.getElem?_eq_getElem]
def OJ{hs:List (K×V)}(h:(hs.map Prod.fst).Nodup){i j:Nat}{k:K}{v u:V}(c:hs[i]? =some (k,v))(e:hs[j]? =some (k,u)):i=j:=by
 have a:(hs.map Prod.fst)[i]? =some k:=by rw[iT,c];rfl
 have b:(hs.map Prod.fst)[j]? =some k:=by rw[iT,e];rfl
 have d:i<(hs.map Prod.fst).length:=(iK.1 a).1;exact(List.getElem?_inj d h).1 (a.trans b.symm)
def Ox{hs:List (K×V)}(h:(hs.map Prod.fst).Nodup){j:Nat}{k:K}{v:V}(a:hs[j]? =some (k,v)):mK k hs=some j:=by
 cases b:mK k hs with
 |none=>exact absurd F (LM.1 b _ (f_ a))
 |some i=>
  obtain⟨u,c⟩:=JO b;rw[OJ h c a]
def LQ{a β:Type}{f:a->β}{l:List a}{i:Nat}{x y:a}(b:l[i]? =some x)(h:f x=f y):(l.set i y).map f=l.map f:=by
 rw[zV,<-h];apply Nn;intro j;rw[Jd];split
 ·rename_i e;subst e;split
  ·rw[iT,b];rfl
  ·rename_i c;rw[MX J]
 ·rfl
def VW{a β:Type}(f:a->β)(l:List a)(i:Nat):(l.eraseIdx i).map f=(l.map f).eraseIdx i:=by simp_all [eraseIdx_eq_take_drop_succ,jv,wW,ze]
theorem H8{hs:List (K×V)}(h:(hs.map Prod.fst).Nodup){k:K}{v:V}(b:(k,v)∈hs):dM hs k=some v:=by
 obtain⟨j,a⟩:=AU b;unfold dM;rw[Ox h a];simp[a]
theorem Lr{hs:List (K×V)}{k:K}{v:V}(h:dM hs k=some v):(k,v)∈hs:=by
 unfold dM at h;cases a:mK k hs with
 |none=>rw[a]at h;cases h
 |some i=>
  obtain⟨u,b⟩:=JO a;rw[a]at h;simp only[b,jr,wY]at h;subst h;exact f_ b
theorem ahv{hs:List (K×V)}{k:K}:dM hs k=none↔∀p∈hs,p.1≠k:=by
 unfold dM;cases b:mK k hs with
 |none=>simp only[true_iff];exact LM.1 b
 |some i=>
  obtain⟨u,a⟩:=JO b;simp only[a,jr,reduceCtorEq,false_iff];intro h;exact h _ (f_ a) F
def ahu{hs:List (K×V)}{k:K}:(dM hs k).isSome=(mK k hs).isSome:=by
 unfold dM;cases b:mK k hs with
 |none=>rfl
 |some i=>
  obtain⟨u,a⟩:=JO b;simp[a]
def kL.set{e:K->Prop}{hs:List (K×V)}(h:kL e hs){k:K}(v:V)(g:e k):kL e (gF hs k v):=by
 unfold gF;cases j:mK k hs with
 |none=>
  refine⟨λp d=> ?_,?_⟩
  ·rcases kU.1 d with c|c
   ·exact h.good p c
   ·simp at c;subst c;exact g
  ·simp only[jv,oM,FH];rw[KR];refine⟨h.nodup,aB,λa ha b f=> ?_⟩;simp at f;subst f;obtain⟨p,d,rfl⟩:=pI.1 ha;exact LM.1 j p d
 |some i=>
  obtain⟨u,l⟩:=JO j;refine⟨λp d=> ?_,?_⟩
  ·rcases Jl d with c|c
   ·exact h.good p c
   ·subst c;exact g
  ·have:(hs.set i (k,v)).map Prod.fst=hs.map Prod.fst:=LQ l F;show((hs.set i (k,v)).map Prod.fst).Nodup;rw[this];exact h.nodup
def kL.sub{a:K->Prop}{hs b:List (K×V)}(h:kL a hs)(c:b.Sublist hs):kL a b:=by grind [kL]
def Lg(hs:List (K×V))(k:K):(kW hs k).Sublist hs:=by grind [kW]
def kL.del{a:K->Prop}{hs:List (K×V)}(h:kL a hs)(k:K):kL a (kW hs k):=h.sub (Lg hs k)
theorem ER{hs:List (K×V)}(h:(hs.map Prod.fst).Nodup){k:K}{v:V}{p:K×V}:p∈gF hs k v↔p=(k,v)∨(p∈hs/\p.1≠k):=by
 unfold gF;cases d:mK k hs with
 |none=>
  simp only[kU,nu]
  constructor
  ·rintro(a|a)
   ·exact .inr ⟨a,LM.1 d p a⟩
   ·exact .inl a
  ·rintro(a|a)
   ·exact .inr a
   ·exact .inl a.1
 |some i=>
  obtain⟨u,c⟩:=JO d;have g:=(iK.1 c).1
  constructor
  ·intro m;obtain⟨j,b⟩:=AU m;simp only[Jd]at b;split at b
   ·first
     |exact .inl (zZ b).symm
     |(
      split at b
      ·exact .inl (zZ b).symm
      ·cases b)
   ·rename_i l;refine .inr ⟨f_ b,λe=>l ?_⟩;obtain⟨n,o⟩:=p;simp only at e;subst e;exact OJ h c b
  ·rintro(a|⟨a,f⟩)
   ·subst a;exact f_ (i:=i) (by simp[g])
   ·obtain⟨j,b⟩:=AU a;refine f_ (i:=j) ?_;simp only[Jd];rw[aJ,b];rintro rfl;rw[c]at b;exact f (by rw[<-zZ b])
def ahw{b:K->Prop}{hs:List (K×V)}(h:kL b hs){k a:K}(v:V)(c:b k):dM (gF hs k v) a=if a=k then some v else dM hs a:=by grind [dM,kL,gF,H8,ER,ahv,Lr]
end plain
section
variable {P:Program} {K V:Type} [DecidableEq K] {kv:K->Value} {vv:V->Value} {good:K->Prop}
def iN(kv:K->Value)(vv:V->Value)(w:World)(g:Nat)(hs:List (K×V)):Prop:=
 ∃es a,w.heap[g]? =some (.map es a)/\es.toList.map (λe=>(e.key,e.val))=hs.map (λp=>(kv p.1,vv p.2))/\Stamped es a
def iN.lt{w:World}{g:Nat}{hs:List (K×V)}(h:iN kv vv w g hs):g<w.heap.size:=by grind [iN]
def iN.keep{w w':World}{g:Nat}{hs:List (K×V)}(h:iN kv vv w g hs)(e:w'.heap[g]? =w.heap[g]?):iN kv vv w' g hs:=by grind [iN]
def iN.ext{w w':World}{g:Nat}{hs:List (K×V)}(h:iN kv vv w g hs)(e:aj w w'):iN kv vv w' g hs:=h.keep (e.block g h.lt)
def iN.upd{w w':World}{g q:Nat}{hs:List (K×V)}(h:iN kv vv w g hs)(u:dF w q w')(a:g≠q):iN kv vv w' g hs:=h.keep (u.block g a)
def iN.grown{w w':World}{g:Nat}{hs:List (K×V)}{r:Option Nat}(h:iN kv vv w g hs)(k:w.grownBy w' r)(a:some g≠r):iN kv vv w' g hs:=h.keep (k.block g h.lt a)
def iN.new(w:World):iN kv vv (w.alloc (.map #[] 0)) w.heap.size []:=⟨#[],0,by show(w.heap.push _)[w.heap.size]? =_;simp,F,stamped_empty 0⟩
def U6{es:Array MapEntry}{hs:List (K×V)}(h:es.toList.map (λe=>(e.key,e.val))=hs.map (λp=>(kv p.1,vv p.2))){j:Nat}{e:MapEntry}(c:es.toList[j]? =some e):∃k v,hs[j]? =some (k,v)/\e.key=kv k/\e.val=vv v:=by
 have a:(hs.map (λp=>(kv p.1,vv p.2)))[j]? =some (e.key,e.val):=by rw[<-h,iT,c];rfl
 rw[iT]at a;cases b:hs[j]? with
 |none=>rw[b]at a;simp at a
 |some p=>
  rw[b]at a;simp only[jr,wY,Prod.mk.injEq]at a;exact⟨p.1,p.2,F,a.1.symm,a.2.symm⟩
variable {k:TypeId} (KV:PY P k kv good)
include KV
def ags{es:Array MapEntry}{hs:List (K×V)}(a:kL good hs)(h:es.toList.map (λe=>(e.key,e.val))=hs.map (λp=>(kv p.1,vv p.2))):∀e∈es.toList,∃l,keyOf P k e.key=some l:=λe b=>by
 obtain⟨j,c⟩:=AU b;obtain⟨x,v,f,d,_⟩:=U6 h c;rw[d];exact KV.key x (a.good _ (f_ f))
def QS{es:Array MapEntry}{hs:List (K×V)}(w:World)(i:kL good hs)(h:es.toList.map (λe=>(e.key,e.val))=hs.map (λp=>(kv p.1,vv p.2))){x:K}(n:good x):
 (mK x hs=none/\(Instr.findKey k (kv x) es.toList).run P w= .ok none w/\∀e∈es.toList,e.key≠kv x)∨
 ∃j e v,mK x hs=some j/\hs[j]? =some (x,v)/\es.toList[j]? =some e/\e.key=kv x/\e.val=vv v/\(Instr.findKey k (kv x) es.toList).run P w= .ok (some (j,vv v)) w:=by
 obtain⟨t,q⟩:=KV.key x n;rcases KV.keyed.find w (x:=kv x) q es.toList (ags KV i h)with⟨d,b⟩|⟨j,e,d,b,g⟩
 ·refine .inl ⟨LM.2 λp c r=> ?_,d,b⟩;obtain⟨j,m⟩:=AU c;have a:(es.toList.map (λe=>(e.key,e.val)))[j]? =some (kv p.1,vv p.2):=by rw[h,iT,m];rfl
  rw[iT]at a;cases f:es.toList[j]? with
  |none=>rw[f]at a;simp at a
  |some e=>
   rw[f]at a;simp only[jr,wY,Prod.mk.injEq]at a;exact b e (f_ f) (by rw[a.1,r])
 ·obtain⟨s,v,c,o,l⟩:=U6 h b;obtain rfl:s=x:=KV.inj _ _ (o.symm.trans g);exact .inr ⟨j,e,v,Ox i.nodup c,c,b,g,l,by rw[d,l]⟩
def Hy(w:World)(a:Bool){x:K}(b:good x):(Instr.checkKey a 10000 k (kv x)).run P w= .ok () w:=by
 obtain⟨d,c⟩:=KV.key x b;exact KV.keyed.check w a c
variable {t e:TypeId} (ht:P.underlying t=some (.map k e)) {w:World} {g:Nat} {hs:List (K×V)} {x:K}
include ht
def OA(vv:V->Value)(z:Value)(o:Option V):Value:=match o with|some v=>vv v|none=>z
def SB{z:Value}(n:(zeroValue e).run P w= .ok z w)(h:iN kv vv w g hs)(l:kL good hs)(f:good x)(c:Bool):
 (Instr.lookup t (.map (some g)) (kv x) c).run P w= .ok (if c then .tuple #[OA vv z (dM hs x),.bool (dM hs x).isSome]else OA vv z (dM hs x)) w:=by
 obtain⟨es,o,i,m,q⟩:=h;rcases QS KV w l m f with⟨a,b,_⟩|⟨j,p,v,a,b,_,_,_,k⟩
 ·have d:dM hs x=none:=by unfold dM;rw[a]
  rw[d];simp[Instr.lookup,jB ht,FK i,Hy KV w _ f,b,n,Result.andThen,OA];all_goals (cases c<;>rfl)
 ·have d:dM hs x=some v:=by unfold dM;rw[a];simp[b]
  rw[d];simp[Instr.lookup,jB ht,FK i,Hy KV w _ f,k,Result.andThen,OA];all_goals (cases c<;>rfl)
omit KV in
def alq{ty:TypeId}(h:iN kv vv w g hs):(Builtin.len_ #[t] ty #[.map (some g)]).run P w= .ok (.int .i64 (hs.length:Int)) w:=by
 obtain⟨es,c,a,d,e⟩:=h;have b:es.size=hs.length:=by have:=lq List.length d;simpa using this
 simp[Builtin.len_,jB ht,FK a,b,goInt]
omit KV ht in
def IL(w:World)(g:Nat)(o:Obj):dF w g {w with heap:=w.heap.setIfInBounds g o}:=by grind [dF]
omit KV ht in
def LY{w:World}{g:Nat}(a:g<w.heap.size)(o:Obj):({w with heap:=w.heap.setIfInBounds g o}:World).heap[g]? =some o:=by grind
def J9{v:V}(h:iN kv vv w g hs)(s:kL good hs)(d:good x):
 ∃w',(Instr.mapUpdate t (.map (some g)) (kv x) (vv v)).run P w= .ok () w'/\dF w g w'/\iN kv vv w' g (gF hs x v):=by
 have n:=h.lt;obtain⟨es,D,c,k,o⟩:=h;obtain⟨G,A⟩:=KV.key x d;rcases QS KV w s k d with⟨f,l,r⟩|⟨j,b,u,f,l,a,m,E,q⟩
 ·refine⟨_,by simp[Instr.mapUpdate,jB ht,FK c,Hy KV w _ d,l,KG _ c,Result.andThen];rfl,IL _ _ _,⟨_,_,LY n _,?_,stamped_push o r⟩⟩;unfold gF;rw[f];simp[k]
 ·have z:es[j]? =some b:=by simpa using a
  refine⟨_,by simp[Instr.mapUpdate,jB ht,FK c,Hy KV w _ d,q,z,m,KV.keyed.stays w (v:=kv x) A,KG _ c,Result.andThen];rfl,IL _ _ _,⟨_,_,LY n _,?_,?_⟩⟩
  ·unfold gF;rw[f,Qh,P7 _ _ _ _ a,zV,k,zV]
  ·obtain⟨p,B,C⟩:=o;refine⟨λy e=> ?_,?_,?_⟩
   ·rw[Qh,P7 _ _ _ _ a]at e;rcases Jl e with e|rfl
    ·exact p y e
    ·exact p b (f_ a)
   ·rw[Qh,P7 _ _ _ _ a];have i:(es.toList.set j {b with key:=kv x,val:=vv v}).map (·.born)=es.toList.map (·.born):=LQ a F;exact i▸B
   ·rw[Qh,P7 _ _ _ _ a];have i:(es.toList.set j {b with key:=kv x,val:=vv v}).map (·.key)=es.toList.map (·.key):=LQ a m;exact i▸C
def WZ{ty:TypeId}(h:iN kv vv w g hs)(o:kL good hs)(c:good x):
 ∃w',(Builtin.delete_ #[t,k] ty #[.map (some g),kv x]).run P w= .ok (.tuple #[]) w'/\dF w g w'/\iN kv vv w' g (kW hs x):=by
 have l:=h.lt;obtain⟨es,v,a,e,m⟩:=h;rcases QS KV w o e c with⟨b,f,A⟩|⟨j,z,u,b,f,i,B,C,n⟩
 ·refine⟨_,by simp[Builtin.delete_,jB ht,FK a,Hy KV w _ c,f,KG _ a,Result.andThen],IL _ _ _,⟨_,_,LY l _,?_,m⟩⟩;unfold kW;rw[b];exact e
 ·refine⟨_,by simp[Builtin.delete_,jB ht,FK a,Hy KV w _ c,n,KG _ a,Result.andThen];rfl,IL _ _ _,⟨_,_,LY l _,?_,?_⟩⟩
  ·unfold kW;rw[b];simp only[Array.eraseIdxIfInBounds,zW (show j<es.size by have:=(iK.1 i).1;simpa using this),Uf,VW,e]
  ·obtain⟨q,r,s⟩:=m;have d:(es.eraseIdxIfInBounds j).toList.Sublist es.toList:=by
    simp only[Array.eraseIdxIfInBounds,zW (show j<es.size by have:=(iK.1 i).1;simpa using this),Uf];exact eraseIdx_sublist _ _
   exact⟨λy p=>q y (d.mem p),r.sublist (d.map _),s.sublist (d.map _)⟩
end
end
section
open Go Go.RowKit Go.Maps Go.MapKept Go.WideShapes
set_option linter.unusedSectionVars false
open Go.ChangeMaps (setBlock)
section
variable {P:Program} {K V:Type} [DecidableEq K] {kv:K->Value} {vv:V->Value} {good:K->Prop}
def iV(kv:K->Value)(vv:V->Value)(w:World)(g r:Nat)(hs:List (K×V))(f:List K):Prop:=
 ∃es b a d c,w.heap[g]? =some (.map es b)/\es.toList.map (λe=>(e.key,e.val))=hs.map (λp=>(kv p.1,vv p.2))/\Stamped es b/\
  w.heap[r]? =some (.mapIter (some g) a d c)/\(∀x∈es.toList,x.born<a)/\a<=c/\a<=b/\(leftOf es d).toList.map (·.key)=f.map kv
def iV.map{w:World}{g r:Nat}{hs:List (K×V)}{a:List K}(h:iV kv vv w g r hs a):iN kv vv w g hs:=by grind [iV,iN]
def iV.lt{w:World}{g r:Nat}{hs:List (K×V)}{a:List K}(h:iV kv vv w g r hs a):r<w.heap.size:=by grind [iV]
def iV.ne{w:World}{g r:Nat}{hs:List (K×V)}{a:List K}(h:iV kv vv w g r hs a):r≠g:=by grind [iV]
def iV.keep{w w':World}{g r:Nat}{hs:List (K×V)}{a:List K}(h:iV kv vv w g r hs a)(d:w'.heap[g]? =w.heap[g]?)(e:w'.heap[r]? =w.heap[r]?):iV kv vv w' g r hs a:=by
 obtain⟨es,c,n,m,b,f,i,l,j,k⟩:=h;exact⟨es,c,n,m,b,d.trans f,i,l,e.trans j,k⟩
def iV.ext{w w':World}{g r:Nat}{hs:List (K×V)}{a:List K}(h:iV kv vv w g r hs a)(e:aj w w'):iV kv vv w' g r hs a:=h.keep (e.block g h.map.lt) (e.block r h.lt)
def iV.upd{w w':World}{g r q:Nat}{hs:List (K×V)}{a:List K}(h:iV kv vv w g r hs a)(u:dF w q w')(b:g≠q)(c:r≠q):iV kv vv w' g r hs a:=h.keep (u.block g b) (u.block r c)
def iV.grown{w w':World}{g r:Nat}{hs:List (K×V)}{a:List K}{q:Option Nat}(h:iV kv vv w g r hs a)(k:w.grownBy w' q)(b:some g≠q)(c:some r≠q):iV kv vv w' g r hs a:=h.keep (k.block g h.map.lt b) (k.block r h.lt c)
end
section
def aiP{es:Array MapEntry}{a:Array Nat}{e:MapEntry}(l:(es.toList.map (·.born)).Nodup)(j:e∈(leftOf es a).toList):
 ∃A B,(leftOf es a).toList=A++e::B/\(leftOf es (a.push e.born)).toList=A++B:=by
 obtain⟨A,B,f⟩:=append_of_mem j;have d:(leftOf es (a.push e.born)).toList=(leftOf es a).toList.filter (λx=>x.born != e.born):=by
  unfold leftOf;rw[Jm,Jm,filter_filter];apply filter_congr;intro x _;rw[contains_push];cases a.contains x.born<;>cases b:(x.born==e.born)<;>simp_all
 have c:((leftOf es a).toList.map (·.born)).Nodup:=by
  unfold leftOf;rw[Jm];exact l.sublist ((filter_sublist).map _)
 rw[f]at c d;rw[jv,oM,KR]at c;obtain⟨n,g,m⟩:=c;have h:∀x∈A,(x.born != e.born)=true:=λx b=>by
  have:=m x.born (pI.2 ⟨x,b,F⟩) e.born aB;simpa using this
 have i:∀x∈B,(x.born != e.born)=true:=λx b=>by
  rw[nodup_cons]at g;have:x.born≠e.born:=λk=>g.1 (k▸pI.2 ⟨x,b,F⟩);simpa using this
 refine⟨A,B,f,?_⟩;rw[d,Nj,filter_cons,KO.2 h,KO.2 i];simp
end
section
variable {P:Program} {K V:Type} [DecidableEq K] {kv:K->Value} {vv:V->Value} {good:K->Prop}
variable {ops:Array Oper} {rest:List Oper} {o:Oper} {a:Act} {w:World} {Q:Exit->Act->World->Prop}
def Ku(q:o.guard=none)(t k e:TypeId)(x:P.underlying t=some (.map k e))(m:Operand)(u:o.op= .range t m){g:Nat}{hs:List (K×V)}(s:a.eval m= .map (some g))(h:iN kv vv w g hs)
 (l:∀w',iV kv vv w' g w.heap.size hs (hs.map Prod.fst)->aj w w'->w'.heap.size=w.heap.size+1->wpList P ops Q rest (a.put o.dst (.pointer (some ⟨w.heap.size,0,none⟩))) w'):wpList P ops Q (o::rest) a w:=by
 have r:=h.lt;obtain⟨es,b,c,d,f⟩:=h;have v:=run_range_map (P:=P) w t k e g es b x c;refine q8 q λy n=> ?_;unfold Oper.wp;simp[execOp,u,s,v,Result.andThen];refine n _ _ (l _ ⟨es,b,b,#[],b,((MapKept.heap_alloc w _).2 g r).trans c,d,f,(MapKept.heap_alloc w _).1,f.1,aQ _,aQ _,?_⟩ ((aj.refl w).alloc _) aB);have i:(leftOf es #[]).toList=es.toList:=by
  unfold leftOf;rw[Jm];exact KO.2 (λ_ _=>by simp)
 rw[i];have j:(es.toList.map (λe=>(e.key,e.val))).map Prod.fst=(hs.map (λp=>(kv p.1,vv p.2))).map Prod.fst:=by rw[d]
 simpa[Function.comp_def]using j
def Kt(ao:o.guard=none)(aq:∀x y,kv x=kv y->x=y)(ab:Operand)(S:o.op= .next ab false){g r:Nat}{hs:List (K×V)}{f:List K}(N:a.eval ab= .pointer (some ⟨r,0,none⟩))(h:iV kv vv w g r hs f)
 (al:f=[]->wpList P ops Q rest (a.put o.dst (.tuple #[.bool false])) w)
 (am:∀(x:K) (v:V) (w':World) (C:List K),(x,v)∈hs->f.Perm (x::C)->f.length=C.length+1->iV kv vv w' g r hs C->dF w r w'->(Instr.entry (.pointer (some ⟨r,0,none⟩))).run P w'= .ok (.tuple #[kv x,vv v]) w'->
  wpList P ops Q rest (a.put o.dst (.tuple #[.bool true,kv x,vv v])) w'):wpList P ops Q (o::rest) a w:=by
 have ax:=h.ne;obtain⟨es,b,k,c,E,H,T,z,U,R,a0,W,n⟩:=h;refine q8 ao λa3 G=> ?_;unfold Oper.wp;rcases run_next_at (P:=P) w o.type r g k E c es b U H R a0 with⟨ad,p⟩|⟨e,L,D,t,p⟩
 ·have aw:f=[]:=by
   have l:(leftOf es c).toList=[]:=by simpa using ad
   rw[l]at n;simpa using n.symm
  simp[execOp,S,N,p,Result.andThen];exact G _ _ (al aw)
 ·obtain⟨M,a4⟩:=mem_left L;obtain⟨j,ar⟩:=AU M;obtain⟨x,v,az,u,aa⟩:=U6 T ar;obtain⟨A,B,ag,ai⟩:=aiP z.2.1 L;have aE:D.heap[r]? =some (.mapIter (some g) k c E):=by rcases t with rfl|rfl<;>exact U
  have an:D.heap[g]? =some (.map es b):=by rcases t with rfl|rfl<;>exact H
  have q:=heap_set (o':= .mapIter (some g) k (c.push e.born) b) aE;have I:(setBlock D r (.mapIter (some g) k (c.push e.born) b)).heap[g]? =some (.map es b):=(q.2 g (λac=>ax ac.symm)).trans an;have a1:∃d m,f=d++x::m/\A.map (·.key)=d.map kv/\B.map (·.key)=m.map kv:=by
   rw[ag,jv,oM]at n;obtain⟨d,m,rfl,l,s⟩:=map_eq_append_iff.1 n.symm;obtain⟨y,a2,rfl,ae,af⟩:=Nf.1 s;obtain rfl:y=x:=aq _ _ (ae.trans u);exact⟨d,a2,F,l.symm,af.symm⟩
  obtain⟨d,m,rfl,l,s⟩:=a1;rw[u,aa]at p;simp[execOp,S,N,p,Result.andThen];refine G _ _ (am x v _ (d++m) (f_ az) perm_middle (by simp only[bQ,iU];omega) ⟨es,b,k,c.push e.born,b,I,T,z,q.1,R,W,W,by rw[ai,jv,l,s,jv]⟩ ?_ ?_)
  ·rcases t with rfl|rfl<;>exact⟨F,F,F,by simp[setBlock],λi ap=>q.2 i ap⟩
  ·have:=run_entry_at (P:=P) _ r g k c es b e q.1 I M z.2.1;rw[u,aa]at this;exact this
end
section
variable {P:Program} {K V:Type} [DecidableEq K] {kv:K->Value} {vv:V->Value} {good:K->Prop}
variable {k:TypeId} (KV:PY P k kv good) {t e:TypeId} (ht:P.underlying t=some (.map k e)) {w:World} {g r:Nat} {hs:List (K×V)} {lf:List K} {x:K}
include KV ht
def alk{ty:TypeId}(h:iV kv vv w g r hs lf)(H:kL good hs)(l:good x)(S:x∉lf):
 ∃w',(Builtin.delete_ #[t,k] ty #[.map (some g),kv x]).run P w= .ok (.tuple #[]) w'/\dF w g w'/\iV kv vv w' g r (kW hs x) lf:=by
 have v:=h.ne;have s:=h.map.lt;obtain⟨es,ab,ae,e,aa,c,o,D,A,z,B,C,m⟩:=h;rcases QS KV w H o l with⟨f,p,ac⟩|⟨j,a,u,f,p,i,G,ad,E⟩
 ·refine⟨_,by simp[Builtin.delete_,jB ht,FK c,Hy KV w _ l,p,KG _ c,Result.andThen],IL _ _ _,⟨_,_,_,_,_,LY s _,?_,D,((IL w g _).block r v).trans A,z,B,C,m⟩⟩;unfold kW;rw[f];exact o
 ·have L:j<es.size:=by have:=(iK.1 i).1;simpa using this
  have n:(es.eraseIdxIfInBounds j).toList=es.toList.eraseIdx j:=by
   simp only[Array.eraseIdxIfInBounds,zW L,Uf]
  have d:(es.eraseIdxIfInBounds j).toList.Sublist es.toList:=by rw[n];exact eraseIdx_sublist _ _
  refine⟨_,by simp[Builtin.delete_,jB ht,FK c,Hy KV w _ l,E,KG _ c,Result.andThen],IL _ _ _,⟨_,_,_,_,_,LY s _,?_,?_,((IL w g _).block r v).trans A,λy b=>z y (d.mem b),B,C,?_⟩⟩
  ·unfold kW;rw[f];simp only[n,VW,o]
  ·obtain⟨U,V,W⟩:=D;exact⟨λy b=>U y (d.mem b),V.sublist (d.map _),W.sublist (d.map _)⟩
  ·rw[<-m];unfold leftOf;rw[Jm,Jm,n];have Q:e.contains a.born=true:=by
    cases hs:e.contains a.born with
    |true=>rfl
    |false=>
     exfalso;have N:a∈(leftOf es e).toList:=by
      unfold leftOf;rw[Jm,mem_filter];refine⟨f_ i,?_⟩;simpa using hs
     have M:kv x∈lf.map kv:=by rw[<-m,<-G];exact pI.2 ⟨a,N,F⟩
     obtain⟨y,b,T⟩:=pI.1 M;exact S (KV.inj _ _ T▸b)
   congr 1
   have R:es.toList=es.toList.take j++a::es.toList.drop (j+1):=by
    obtain⟨K,I⟩:=iK.1 i;have q:=(AX j es.toList).symm;rw[FJ K,I]at q;exact q
   rw[eraseIdx_eq_take_drop_succ]
   conv=>rhs;rw[R]
   rw[Nj,Nj,filter_cons];have:(!e.contains a.born)=false:=by rw[Q];rfl
   simp only[this,Qi,Ed]
end
end
section
open Go Go.RowKit Go.Maps Go.MapKept Go.WideShapes
structure gL(M:Nat->Prop)(w w':World):Prop where
 os:w'.os=w.os
 tape:w'.tape=w.tape
 output:w'.output=w.output
 size:w.heap.size<=w'.heap.size
 block:∀k,k<w.heap.size->¬M k->w'.heap[k]? =w.heap[k]?
section
variable {M M':Nat->Prop} {w w' w0 a b c:World} {g B:Nat}
def gL.refl(M:Nat->Prop)(w:World):gL M w w:=⟨F,F,F,aQ _,λ_ _ _=>rfl⟩
def gL.CO(e:aj w w'):gL M w w':=⟨e.os,e.tape,e.output,e.size,λk a _=>e.block k a⟩
def gL.RV(u:dF w g w')(a:M g):gL M w w':=by grind [dF,gL]
def gL.ajy{r:Option Nat}(k:w.grownBy w' r)(c:∀g,r=some g->M g):gL M w w':=⟨k.os,k.tape,k.output,k.size,λi a b=>k.block i a (λe=>b (c i e.symm))⟩
def gL.trans(h:gL M a b)(k:gL M' b c)(d:∀x,x<a.heap.size->M' x->M x):gL M a c:=by grind [gL]
def gL.same(h:gL M a b)(k:gL M b c):gL M a c:=h.trans k (λ_ _ h=>h)
def gL.mono(h:gL M a b)(c:∀x,x<a.heap.size->M x->M' x):gL M' a b:=by grind [gL]
def gL.LZ(h:gL M w w')(e:aj w0 w)(b:∀x,x<w0.heap.size->¬M x):aj w0 w':=
 ⟨h.os.trans e.os,h.tape.trans e.tape,h.output.trans e.output,dJ e.size h.size,λi a=>(h.block i (vL a e.size) (b i a)).trans (e.block i a)⟩
def au.mut{vs:aP}{T:TypeId}(h:au w g vs T)(m:gL M w w')(a:¬M g):au w' g vs T:=by grind [au,gL]
def iN.mut{a b:Type}[DecidableEq a]{c:a->Value}{d:b->Value}{hs:List (a×b)}(h:iN c d w g hs)(m:gL M w w')(e:¬M g):iN c d w' g hs:=h.keep (m.block g h.lt e)
def kM(w:World)(g:Nat):Prop:=∃o:Obj,w.heap[g]? =some o/\∀c e z,o≠.cells c e z
def kM.map{a b:Type}[DecidableEq a]{c:a->Value}{d:b->Value}{hs:List (a×b)}(h:iN c d w g hs):kM w g:=by grind [iN,kM]
def kM.cell(h:kM w g)(off:Nat):w.cell? ⟨g,off,none⟩=none:=by grind [kM,World.cell?]
def dh.mut{a:aO}{xs:aP}(h:dh w B a xs)(m:gL M w w')(f:∀g,M g->B<=g->kM w g):dh w' B a xs:=by
 rcases h with h|⟨b,off,ha,d,h⟩
 ·exact .inl h
 by_cases l:xs=[]
 ·exact .inl l
 refine .inr ⟨b,off,ha,d,λi u k=> ?_⟩;have c:=h i u k;refine FX c (m.block b (kN c) (λj=> ?_));have e:=(f b j d).cell (off+i);rw[e]at c;cases c
def dh.mono{B':Nat}{a:aO}{xs:aP}(h:dh w B a xs)(b:B'<=B):dh w B' a xs:=by grind [dh]
def dh.ext'{a:aO}{xs:aP}(h:dh w B a xs)(e:aj w w'):dh w' B a xs:=h.turn (λk _ b=>e.block k b)
def dh.aeu{a:aO}{xs:aP}(h:dh w B a xs)(u:dF w g w')(b:g<B∨kM w g):dh w' B a xs:=
 h.mut (M:=λx=>x=g) (gL.RV u F) (λx c d=>by
  subst c;rcases b with b|b
  ·omega
  ·exact b)
end
def h_(x:ah):Value:= .agg (x.map Y).toArray
def anx{a b:UInt8}(h:Y a=Y b):a=b:=by
 unfold Y at h;injection h with _ h;exact M5.1 J
def FW{x y:ah}(h:h_ x=h_ y):x=y:=by
 unfold h_ at h;injection h with h;have a:x.map Y=y.map Y:=by simpa using lq Array.toList h
 exact(map_inj_right (λ_ _=>anx)).1 a
def VU{b β:Type}(g:b->Option β):∀(l:List b),(∀i∈l,∃y,g i=some y)->∃ys,l.mapM g=some ys
 |[],_=>⟨[],F⟩
 |a::l,h=>by
  obtain⟨y,hy⟩:=h a aB;obtain⟨ys,d⟩:=VU g l (λi c=>h i (yg _ c));exact⟨y::ys,by rw[mapM_cons,hy,d];rfl⟩
def adW{a:Prop}(e:a:=by
 have e1:IntKind.u8.min=0:=bS;have e2:IntKind.u8.max=255:=bS;show(decide (IntKind.u8.min<=(m[i].toNat:Int))&&decide ((m[i].toNat:Int)<=IntKind.u8.max))=true;rw[e1,e2,bV J,bV J];rfl):a:=e
def aiB{m:ah}(a:m.length=32):∃l,keyOf prog 31 (h_ m)=some l:=by
 unfold h_;have b:=underlying31;have o:prog.keyType 31=true:=aC;have c:prog.cellsOf 31=32:=aC;have e:prog.cellsOf 5=1:=aC;have j:(agg (m.map Y).toArray).formed prog 31=true:=by simp[Value.formed,b,c,a]
 obtain⟨d,f⟩:∃d,prog.types.size=d+1:=Nat.exists_eq_succ_of_ne_zero (by
  intro h;have:decide (prog.types.size=0)=false:=aC;rw[h]at this;simp at this)
 unfold keyOf;rw[b];simp only[o,j,Bool.and_self,wX];have p:(agg (m.map Y).toArray).cells.toList=m.map Y:=F;rw[p,f];unfold Program.keyLits;rw[b];simp only[aI,a,c,wX,e,nA];obtain⟨ys,r⟩:=VU (λi=>prog.keyLits (d+1) 5 (((m.map Y).drop i).take 1)) (List.range 32) (λi k=>by
  have n:i<m.length:=by rw[a];exact Jj.1 k
  have g:((m.map Y).drop i).take 1=[Y m[i]]:=by
   rw[<-ze,<-wW,FJ n];rfl
  refine⟨[.int .u8 (m[i].toNat:Int)],?_⟩;rw[g];unfold Program.keyLits;rw[underlying5];have s:=m[i].toNat_lt;have q:(Lit.int .u8 (m[i].toNat:Int)).wf=true:=by
   exact adW
  simp only[Y,q,and_self,wX])
 rw[r];exact⟨_,F⟩
def Eu(x:ah):Prop:=x.length=32
def Rz:PY prog 31 h_ Eu where
 keyed:=Keyed.of_law (WideMaps.ArrKey.law (e:=5) (n:=32) ⟨underlying31,aC,aC,aC⟩)
 key x h:=aiB h
 inj _ _ h:=FW h
def aiA{m:ah}(a:m.length=16):∃l,keyOf prog 29 (h_ m)=some l:=by
 unfold h_;have b:=underlying29;have o:prog.keyType 29=true:=aC;have c:prog.cellsOf 29=16:=aC;have e:prog.cellsOf 5=1:=aC;have j:(agg (m.map Y).toArray).formed prog 29=true:=by simp[Value.formed,b,c,a]
 obtain⟨d,f⟩:∃d,prog.types.size=d+1:=Nat.exists_eq_succ_of_ne_zero (by
  intro h;have:decide (prog.types.size=0)=false:=aC;rw[h]at this;simp at this)
 unfold keyOf;rw[b];simp only[o,j,Bool.and_self,wX];have p:(agg (m.map Y).toArray).cells.toList=m.map Y:=F;rw[p,f];unfold Program.keyLits;rw[b];simp only[aI,a,c,wX,e,nA];obtain⟨ys,r⟩:=VU (λi=>prog.keyLits (d+1) 5 (((m.map Y).drop i).take 1)) (List.range 16) (λi k=>by
  have n:i<m.length:=by rw[a];exact Jj.1 k
  have g:((m.map Y).drop i).take 1=[Y m[i]]:=by
   rw[<-ze,<-wW,FJ n];rfl
  refine⟨[.int .u8 (m[i].toNat:Int)],?_⟩;rw[g];unfold Program.keyLits;rw[underlying5];have s:=m[i].toNat_lt;have q:(Lit.int .u8 (m[i].toNat:Int)).wf=true:=by
   exact adW
  simp only[Y,q,and_self,wX])
 rw[r];exact⟨_,F⟩
def uT(x:ah):Prop:=x.length=16
def Dy:PY prog 29 h_ uT where
 keyed:=Keyed.of_law (WideMaps.ArrKey.law (e:=5) (n:=16) ⟨underlying29,aC,aC,aC⟩)
 key x h:=aiA h
 inj _ _ h:=FW h
end
structure j_ where
 a:aO
 n:Nat
 c:Nat
 l:bq
def j_.v(r:j_):Value:= .slice r.a r.n r.c
def j_.nil:j_:=⟨none,0,0,[]⟩
structure j_.Hi(w:World)(B:Nat)(r:j_):Prop where
 hl:r.l.length=r.n
 nc:r.n<=r.c
 n16:r.n<=16
 sz:∀s∈r.l,s.size<=32
 cell:dh w B r.a (r.l.map dx)
structure bP where
 key:ah
 label:ByteArray
 epoch:Int
 commit:ah
 rev:Bool
 esc:Int
 shared:ah
def bP.v(k:bP):aP:=k.key.map Y++(.string k.label:: .int .i64 k.epoch::(k.commit.map Y++(.bool k.rev:: .int .i64 k.esc::k.shared.map Y)))
def bP.va(k:bP):Value:= .agg k.v.toArray
def bP.zero:bP:=⟨replicate 16 0,⟨#[]⟩,0,replicate 32 0,false,0,replicate 32 0⟩
structure bP.Ok(k:bP):Prop where
 hk:k.key.length=16
 ls:k.label.size<=32
 e0:0<=k.epoch
 e1:k.epoch<=4294967295
 hc:k.commit.length=32
 s0: -1<=k.esc
 s1:k.esc<=4294967295
 hs:k.shared.length=32
def bP.len{k:bP}(h:k.Ok):k.v.length=84:=by unfold bP.v;simp[h.hk,h.hc,h.hs]
theorem bP.D7:bP.zero.Ok:=⟨F,bS,bS,bS,F,bS,bS,F⟩
structure gN where
 r:j_
 t:Int
def gN.v(x:gN):Value:= .agg #[x.r.v,.int .i64 x.t]
def gN.zero:gN:=⟨.nil,0⟩
structure vK where
 q:Nat
 a:aO
 n:Nat
 c:Nat
 rs:List aX
structure vK.Hi(w:World)(B:Nat)(p:vK):Prop where
 blk:au w p.q [.slice p.a p.n p.c] 152
 ge:B<=p.q
 hl:p.rs.length=p.n
 nc:p.n<=p.c
 n100:p.n<=140737488355328
 cell:dh w B p.a (CX p.rs)
 Aq:∀r∈p.rs,r.Ok w
 mO:∀r∈p.rs,dh w B r.ra (r.roles.map dx)/\dh w B r.aa (r.acts.map qH)/\dh w B r.la (r.labels.map dx)
structure bD where
 cnt:Nat
 tm:Int
 last:ah
 lY:ah
 pol:Option vK
 gm:Nat
 gk:Nat
 ga:Nat
 ms:List (ah×j_)
 ks:List (ah×bP)
 av:List (ah×(Nat×List (ah×gN)))
def bD.v(S:bD):aP:= .int .i64 (S.cnt:Int):: .int .i64 S.tm::(S.last.map Y++(S.lY.map Y++[.pointer (S.pol.map λp=>⟨p.q,0,none⟩),.map (some S.gm),.map (some S.gk),.map (some S.ga)]))
def vW(x:Nat×List (ah×gN)):Value:= .map (some x.1)
def bD.M(S:bD)(p:Nat)(g:Nat):Prop:=g=p∨g=S.gm∨g=S.gk∨g=S.ga∨∃x∈S.av,g=x.2.1
structure eT(w:World)(p:Nat)(S:bD):Prop where
 blk:au w p S.v 147
 hl:S.last.length=32
 hf:S.lY.length=16
 c1:S.cnt<=65536
 t0:0<=S.tm
 t1:S.tm<=1099511627776
 mem:iN h_ j_.v w S.gm S.ms
 key:iN h_ bP.va w S.gk S.ks
 app:iN h_ vW w S.ga S.av
 em:kL uT S.ms
 ek:kL uT S.ks
 ea:kL Eu S.av
 inn:∀x∈S.av,iN h_ gN.v w x.2.1 x.2.2/\kL uT x.2.2/\∀y∈x.2.2,y.2.r.Hi w (p+1)/\0<=y.2.t/\y.2.t<=1099511627776
 nd:(S.gm::S.gk::S.ga::S.av.map (λx=>x.2.1)).Nodup
 mr:∀x∈S.ms,x.2.Hi w (p+1)
 kr:∀x∈S.ks,x.2.Ok
 po:∀P,S.pol=some P->P.Hi w (p+1)
def aaF{w:World}{a:aO}{ls:List Int}{k:Nat}{x:Int}(h:aM w a (ls.map qH))(b:ls[k]? =some x):∃A,a=some A/\w.cell? (A.add (k*1))=some (.int .i64 x):=by
 obtain⟨g,o,rfl,c⟩:=h.jg (by rw[aI];have:=(iK.1 b).1;omega);refine⟨_,F,?_⟩;rw[eX,nA];exact c k _ (by rw[iT,b];rfl)
def adb:(prog.info? 3).map (·.size)=some 1:=aC
def ani{a:Prop}(e:a:=by
 ·have d1:=bU ((k:Int)<(n:Int));have d2:=bg aS;go_wp2;go_ret;exact⟨F,E1⟩):a:=e
def am6{a:Prop}(e:a:=by
 refine dP ?_;have zw:=(Z _).1 X;go_wp2;go_roundw
 ·exact⟨k+1,J,by go_num,E1.ext zw⟩
 ·simp[intOf];omega):a:=e
def am1{a:Prop}(e:a:=by
 have eA:aj w wA:=by rw[<-aG];exact((aj.refl w).alloc _).alloc _
 have EA:=O eA;have x0:=bX.cell' (i:=0) F;have y0:=bY.cell' (i:=0) F;clear aG bX bY eA;go_wp2_with fail;refine(HE wA EA).mono ?_;rintro e wB ⟨rfl,eB⟩;go_wp2;go_ret;exact⟨F,EA.ext eB⟩):a:=e
end Go.Proofs.YtjlhhnkhcbpnjaaGreatDoor
