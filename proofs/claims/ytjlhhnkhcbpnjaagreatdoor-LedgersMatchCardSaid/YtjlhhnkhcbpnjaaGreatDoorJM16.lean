/- Laws that the row leans on; no condition. -/
import Derived.Test.YtjlhhnkhcbpnjaaGreatDoorJM15
import Derived.Lib.AtoiAllCases
namespace Go.Proofs.YtjlhhnkhcbpnjaaGreatDoor
open Go Go.RowKit Go.Shelf List Tryz
set_option linter.unusedVariables false
set_option linter.unusedSimpArgs false
set_option maxHeartbeats 40000000
set_option maxRecDepth 100000
theorem aaK(x:Nat)(w:World):Calls prog 133 #[.int .i32 (x:Int)] w fun e w'=>e= .returned (.bool (oh x))/\∃q,w'=w.drewN q:=by
 unfold oh;by_cases u:x=32
 ·subst u;go_enter func133,ntmps133;go_wp2;go_ret;exact⟨F,0,F⟩
 by_cases E:x=9
 ·subst E;go_enter func133,ntmps133;go_wp2;go_ret;exact⟨F,0,F⟩
 have I:((x:Int)==32)=false:=by simp;omega
 have R:decide ((x:Int)=32)=false:=aP J;have aa:((x:Int)==9)=false:=by simp;omega
 have ab:decide ((x:Int)=9)=false:=aP J;have j:(x==32||x==9)=false:=by simp;exact⟨u,E⟩
 rw[j];clear j;go_enter func133,ntmps133;go_wp2;go_ret;exact⟨F,0,F⟩
theorem aaL(l:aj)(w:World)(ae:l.length<=100000):
 Calls prog 132 #[.string (aY l),.func (.func 133) #[] #[]] w fun e w'=>∃A,e= .returned (.slice (some ⟨A,0,none⟩) (vC l).length (vC l).length)/\
  gK w' w.heap.size (some ⟨A,0,none⟩) (vC l).length (vC l).length ((vC l).map aY)/\X w w':=by
 have h:=Any.strings_FieldsFunc_runes Ma 133 #[] (Et func133 au F) oh (aY l) w (by rw[o7];omega) (fun W x _ _=>aaK x W) au au;have R:Lib.goFieldsP oh (aY l)=(vC l).map aY:=by
  have:=Zo (aY l);rw[pW]at this;rw[<-this,Rt]
 rw[R,length_map]at h;refine h.mono ?_;rintro e w' ⟨A,rfl,u,E,I⟩;obtain⟨_,_,aa,_,_,hc⟩:=iJ E;injection aa with j e2 ac;rw[<-j]at hc;have ad:=H9 vw l [];refine⟨A,F,⟨by rw[length_map],Nat.le_refl _,?_,?_,.inr ⟨_,F,u⟩,hc⟩,I⟩
 ·show(oI vw [] l).length<=_;omega
 ·intro s hs;obtain⟨y,ab,rfl⟩:=mem_map.1 hs;have:=H8 vw l [] y ab;rw[o7];simp at this;omega
def Ir:aT:=[sQ,qE,sS,qF,qG]
theorem aaM(x:ByteArray):xK x=true↔x∈Ir:=by grind [xK,Ir]
theorem aaN(x:ByteArray)(w:World):Calls prog 190 #[.string x] w fun e w'=>e= .returned (.bool (xK x))/\X w w':=by
 go_enter func190,ntmps190;go_wp2_with fail;generalize iX:World.alloc w _=j;have u:ah j w.heap.size (Ir.map bM) 9:=by rw[<-iX];exact ah.aI F F
 have E:X w j:=by rw[<-iX];exact(X.refl w).alloc _
 obtain⟨I,EA⟩:=aB u E;clear iX u E;refine(QS x Ir (some ⟨w.heap.size,0,none⟩) 5 5 j F J (aK.tO I)).mono ?_;rintro e R ⟨b,rfl,hb,rfl⟩;have u7:b=xK x:=by
  rw[Bool.eq_iff_iff,hb,aaM]
 subst u7;clear hb;go_wp2_with fail;go_ret;exact⟨F,EA⟩
theorem aaO(l:aj): -9223372036854775808<=gV l/\gV l<=9223372036854775807:=by
 unfold gV;cases h:Lib.atoiAll l with
 |ok v=>exact Lib.atoiAll_bounds h
 |range=>
  simp only[Lib.atoiSat];split<;>omega
 |_=>simp
theorem LM(l:aj)(w:World)(a2:l.length<=1000000)(an:Cb w):
 nW 192 #[.string (aY l)] w (.tuple #[.int .i64 (gV l),.bool (jv l)]):=by
 have aq:=(Hq l).1;rw[<-aq];clear aq;have a3:=o7 l;have aE:=Am (aY (Lib.itoa (gV l))) (aY l);have ap:decide (aY (Lib.itoa (gV l))=aY l)=decide (Lib.itoa (gV l)=l):=by
  congr 1
  exact propext ⟨fun e=>by have:=congrArg (fun s=>s.data.toList) e;simpa[aY]using this,fun e=>by rw[e]⟩
 rw[ap]at aE;have al:=aaO l;obtain⟨ai,ax,am,a0,ab⟩:=dM (fun w h=>wL (gV l) w al.1 al.2 h) an (fun h=>ZH l w J h) (fun h=>ZI l w J h an) (show EC l=(GD l&&decide (0<=gV l)&&decide (l.length<=3)&&decide (Lib.itoa (gV l)=l))from F);clear ap an;obtain⟨S,ag⟩:=aC (EC l);have aa:=O ag;rw[ag];clear ag al;generalize ac:GD l=ok at*;generalize Lib.itoa (gV l)=ar at*;generalize gV l=N at*;cases ok with
 |false=>
  have u:S=false:=by rw[<-aa.out,ab.out];rfl
  have I:=O u;clear u;go_enter func192,ntmps192;go_wp2_with fail;refine(a0 (by first|rfl|trivial|exact ac)).mono ?_;rintro e ad ⟨a1,rfl,j⟩;have E:=O j;clear j;go_wp2_with fail
  go_ret2
  exact⟨by rw[I.out];rfl,E⟩
 |true=>
  by_cases af:0<=N
  ·by_cases ao:l.length<=3
   ·have R:decide (0<=N)=true:=aQ af;have ae:decide (l.length<=3)=true:=aQ ao;have az:decide ((l.length:Int)<=3)=true:=aQ J;have u:S=decide (ar=l):=by rw[<-aa.out,ab.out,R,ae];rfl
    have I:=O u;clear u;generalize decide (ar=l)=q at*;go_enter func192,ntmps192;go_wp2_with fail;refine(am (by first|rfl|trivial|exact ac)).mono ?_;rintro e ad ⟨rfl,j⟩;have E:=O j;clear j;go_wp2_with fail;refine(ai ad (ax.ext E).pw).mono ?_;rintro e w2 ⟨rfl,e2⟩;have aw:=O (E.ext e2);clear e2;go_wp2_with fail
    go_ret2
    exact⟨by rw[I.out];rfl,aw⟩
   ·have R:decide (0<=N)=true:=aQ af;have ae:decide (l.length<=3)=false:=aP ao;have az:decide ((l.length:Int)<=3)=false:=aP J;have u:S=false:=by rw[<-aa.out,ab.out,R,ae];rfl
    have I:=O u;clear u ai;go_enter func192,ntmps192;go_wp2_with fail;refine(am (by first|rfl|trivial|exact ac)).mono ?_;rintro e ad ⟨rfl,j⟩;have E:=O j;clear j;go_wp2_with fail
    go_ret2
    exact⟨by rw[I.out];rfl,E⟩
  ·have R:decide (0<=N)=false:=aP af;have u:S=false:=by rw[<-aa.out,ab.out,R];rfl
   have I:=O u;clear u ai;go_enter func192,ntmps192;go_wp2_with fail;refine(am (by first|rfl|trivial|exact ac)).mono ?_;rintro e ad ⟨rfl,j⟩;have E:=O j;clear j;go_wp2_with fail
   go_ret2
   exact⟨by rw[I.out];rfl,E⟩
theorem ES(G B:Nat)(T:TypeId)(a:aN)(n c:Nat)(ws:aT)(nm:ByteArray)(w0 w:World)(ad:ah w G [.slice a n c] T)(az:gK w0 B a n c ws)(aw:X w0 w)(ce:w0.heap.size<=G):
 Calls prog 189 #[.string nm,.pointer (some ⟨G,0,none⟩)] w fun e w'=>∃ai ao al a' n' c',e= .returned (.tuple #[.slice ai ao al,.bool (!je nm ws|| !(oZ nm ws).isEmpty)])/\
  gK w0 B ai ao al (oZ nm ws)/\gK w0 B a' n' c' (uz nm ws)/\ah w' G [.slice a' n' c'] T/\w.grownBy w' (some G):=by
 have b':=ad.cell' (i:=0) F;have cc:=ad.frozen 0;obtain⟨a3,aq,ac⟩:=aW ad aw az;obtain⟨b,hb⟩:=aC (je nm ws);have aa:=O hb;rw[hb];obtain⟨ab,bc⟩:=aC (oZ nm ws);have a4:=O bc;rw[bc];obtain⟨ar,a_⟩:∃ar:Ending->World->Prop,ar=fun e w'=>∃ai ao al a' n' c',e= .returned (.tuple #[.slice ai ao al,.bool (!b|| !ab.isEmpty)])/\
  gK w0 B ai ao al ab/\gK w0 B a' n' c' (uz nm ws)/\ah w' G [.slice a' n' c'] T/\w.grownBy w' (some G):=⟨_,F⟩
 rw[<-a_];have a7:=O a_;clear a_ bc hb;by_cases bv:b=false
 ·subst bv;have bx:ab=[]:=by rw[<-a4.out];exact Hy aa
  have b1:uz nm ws=ws:=by unfold uz;rw[aa.out];rfl
  have am:∀e,e=Ending.returned (.tuple #[.slice none 0 0,.bool true])->ar e w:=by
   rintro e rfl;rw[a7.out,b1,bx];exact⟨none,0,0,a,n,c,F,gK.nil _ _,ac,a3,Rw _ _⟩
  have af:=O am;clear am bx b1;cases ws with
  |nil=>
   obtain rfl:n=0:=ac.hl.symm;clear az ad aw;go_enter func189,ntmps189;go_wp2
   (try go_ret2)
   exact af _ F
  |cons x r=>
   obtain⟨A,rfl,nu⟩:=(ac.ext aq).at (k:=0) (x:=x) F;rw[Hz]at nu;have hn:1<=n:=by have:=ac.hl;simp at this;omega
   have b4:((n:Int)==0)=false:=by simp;omega
   have b5:decide ((n:Int)=0)=false:=by simp;omega
   have n2:decide (n=0)=false:=by simp;omega
   have ch:0<n:=J;have ax:=Am x nm;rw[show decide (x=nm)=false from aa.out]at ax;clear az ad aw hn;go_enter func189,ntmps189;go_wp2
   (try go_ret2)
   exact af _ F
 obtain rfl:b=true:=by cases b<;>simp_all
 obtain⟨x,r,rfl⟩:∃x r,ws=x::r:=by
  cases ws with
  |nil=>exact absurd aa.out (by simp[je])
  |cons x r=>exact⟨x,r,F⟩
 have yD:ab=r.take (xM r):=by rw[<-a4.out];unfold oZ;rw[aa.out];rfl
 have b2:uz nm (x::r)=r.drop (xM r):=by unfold uz;rw[aa.out];rfl
 rw[b2]at a7;have b8:=O yD;obtain⟨A,rfl,nu⟩:=(ac.ext aq).at (k:=0) (x:=x) F;rw[Hz]at nu;have hn:1<=n:=by have:=ac.hl;simp at this;omega
 have bl:=O hn;have b4:((n:Int)==0)=false:=by simp;omega
 have b5:decide ((n:Int)=0)=false:=by simp;omega
 have n2:decide (n=0)=false:=by simp;omega
 have ax:=Am x nm;rw[show decide (x=nm)=true from aa.out]at ax;have bp:=O (ac.drop hn);clear az ad aw hn yD b2 bv a4;go_enter func189,ntmps189;go_upto_region 4 with(refine bF F (Kj (p:=some A) (n:=n) (c:=c) (k:=1) F F F underlying98 rP bl _) ?_);have an:=bp.out;rw[show(x::r).drop 1=r from F]at an;obtain⟨R,Cv⟩:=aC (dL (some A) c 1);obtain⟨u,Dm⟩:=aC (n - 1);obtain⟨E,bw⟩:=aC (c - 1);rw[Cv,Dm,bw]at an⊢;obtain⟨a0,aE⟩:=aC (World.setCell w ⟨G,0,none⟩ (.slice R u E));rw[aE];have br:ah a0 G [.slice R u E] T:=by rw[<-aE];exact a3.set 0 (.slice R u E)
 have bi:aU w G a0:=by rw[<-aE];exact aU.setCell _
 obtain⟨I,b6,b7,G1⟩:=bU an br (bi.ext aq ce) (Rx (Rw w (some G)) bi);have cg:=an.hm;clear an br bi aE Cv Dm bw bp bl b4 b5 n2 ax nu b' cc a3 aq aa;go_wp2_with fail;go_loopw [5] (fun i wr=>∃k:Nat,k<=u/\i= .int .i64 (k:Int)/\(∀x∈r.take k,xK x=false)/\X a0 wr) (fun i _=>u - (intOf i).toNat)
 case atStart=>exact⟨0,J,F,aF,X.refl _⟩
 case round=>
  obtain⟨k,hk,rfl,ou,a9⟩:=hrel;obtain⟨ag,ap,ae⟩:=aW ou a9 (b6.ext a9);have bt:=ae.cell' (i:=0) F;have bu:=ae.frozen 0;clear ou a9;have am:∀(k:Nat) (w2 a1:World),k<=u->k=xM r->X a0 w2->ah a1 G [.slice (dL R E k) (u - k) (E - k)] T->aU w2 G a1->∀e,e=Ending.returned (.tuple #[.slice R k E,.bool (decide ((0:Int)<(k:Int)))])->ar e a1:=by
   rintro k w2 a1 hk b3 e2 b9 cf e rfl;rw[a7.out];have b0:=I.hnc;have bz:ab=r.take k:=by rw[b8.out,b3]
   refine⟨R,k,E,dL R E k,u - k,E - k,?_,?_,?_,b9,Rx (ZM G1 e2) cf⟩
   ·have:decide ((0:Int)<(k:Int))=(!true|| !ab.isEmpty):=by
     have ba:ab.length=k:=by
      have:=(I.take hk (Nat.le_trans hk b0)).hl;rw[bz];exact this
     cases ab with
     |nil=>simp at ba;subst ba;rfl
     |cons y z=>simp at ba;simp;omega
    rw[this]
   ·rw[bz];exact I.take hk (Nat.le_trans hk b0)
   ·rw[<-b3];exact I.drop hk
  have af:=O am;clear am;by_cases j3:k<u
  ·have ca:decide ((k:Int)<(u:Int))=true:=aQ J;have cb:decide (k<u)=true:=aQ j3;obtain⟨y,bh⟩:∃y,r[k]? =some y:=⟨r[k]'(by rw[I.hl];exact j3),aF⟩;obtain⟨bj,rfl,cd⟩:=(I.ext (b7.ext ap)).at bh;have HY:=O bh;have bd:=aaN y wr;obtain⟨q,be⟩:=aC (xK y);rw[be]at bd;obtain⟨bo,bm⟩:=aB be bd;clear bh be bd;go_wp2_with fail;refine bm.mono ?_;rintro e w2 ⟨rfl,e2⟩;obtain⟨bk,a2⟩:=aB (ap.ext e2) (ae.ext e2);clear e2 bm bt bu ae ap;have bt:=a2.cell' (i:=0) F;have bu:=a2.frozen 0;cases q with
   |false=>
    go_wp2_with fail;go_roundw
    case rel=>
     refine⟨k+1,J,by go_num,(fun z j=> ?_),bk⟩;rw[take_add_one,HY.out,mem_append]at j;rcases j with j|j
     ·exact ag z j
     ·simp at j;rw[j];exact bo
    case measure=>simp[intOf];omega
   |true=>
    obtain⟨a8,a5⟩:=aB (show k=xM r from(Rh (by rw[I.hl];exact hk) ag (fun z j=>by rw[HY.out]at j;injection j with j;rw[<-j];exact bo)).symm) j3;have a6:=O I.hnc;clear j3 ca cb hk cd ag;go_upto_region 7 with fail;go_wp2_with (first|(refine bF F (Ru (p:=some bj) (n:=u) (c:=E) (k:=k) F F F underlying98 rP (by have:=a5.out;have:=a6.out;omega) _) ?_)|(refine bF F (Kj (p:=some bj) (n:=u) (c:=E) (k:=k) F F F underlying98 rP (by have:=a5.out;omega) _) ?_))
    (try go_ret2)
    exact af k w2 _ (Nat.le_of_lt a5) a8 bk (a2.set 0 _) (aU.setCell _) _ (by first|rfl|simp)
  ·obtain rfl:k=u:=J;have a8:=O (show k=xM r from(Rh (by rw[I.hl];exact hk) ag (fun z j=>by
    have:=(List.getElem?_eq_some_iff.1 j).1;rw[I.hl]at this;omega)).symm)
   have a6:=O I.hnc;clear ag hk;go_upto_region 7 with fail;go_wp2_with (first|(refine bF F (Ru (p:=R) (n:=k) (c:=E) (k:=k) F F F underlying98 rP a6 _) ?_)|(refine bF F (Kj (p:=R) (n:=k) (c:=E) (k:=k) F F F underlying98 rP l5 _) ?_))
   (try go_ret2)
   refine af k wr _ l5 a8 ap ?_ (aU.setCell _) _ (by first|rfl|simp);rw[Nat.sub_self];exact ae.set 0 _
section
open Go Go.RowKit
structure Sl where
 a:aN
 n:Nat
 c:Nat
def Sl.v(s:Sl):Value:= .slice s.a s.n s.c
def aaP:Sl:=⟨none,0,0⟩
def oL:Nat->ByteArray
 |0=>sQ
 |1=>qE
 |2=>sS
 |3=>qF
 |_=>qG
def mQ:Nat->aT->aT
 |0,ws=>BZ ws
 |k+1,ws=>uz (oL k) (mQ k ws)
def Iu(k:Nat)(ws:aT):aT:=oZ (oL k) (mQ k ws)
def sZ(k:Nat)(ws:aT):Bool:= !je (oL k) (mQ k ws)|| !(Iu k ws).isEmpty
def qK(q:Nat->Sl)(k:Nat)(s:Sl):Nat->Sl:=fun j=>if j=k then s else q j
def nJ(d:Bool)(q:Nat->Sl)(j la:aT):aS:={xQ d with ra:=(q 0).a,rn:=(q 0).n,rc:=(q 0).c,roles:=j,la:=(q 2).a,ln:=(q 2).n,lc:=(q 2).c,labels:=la}
def LP(d:Bool)(ws:aT):aS:={xQ d with rn:=(oJ ws).length,roles:=oJ ws,ln:=(oK ws).length,labels:=oK ws}
def xX(d:Bool)(ws:aT):aS:={LP d ws with an:=(kX ws).length,acts:=(kX ws).map mG}
def tq(d:Bool)(ws:aT):aS:={xX d ws with fr:=Hr (iG ws),tt:=Ht (iG ws)}
def CQ(d:Bool)(ws:aT):aS:={tq d ws with nd:=Hu (jk ws),ow:=Hw (jk ws)}
theorem aaQ(ws:aT):CQ (je vF ws) ws=Aj ws:=F
theorem aaR{d:Bool}{ws:aT}(h:iG ws=[]):tq d ws=xX d ws:=by
 show({xX d ws with fr:=Hr (iG ws),tt:=Ht (iG ws)}:aS)=xX d ws;rw[h];rfl
theorem aaS{d:Bool}{ws:aT}(h:jk ws=[]):CQ d ws=tq d ws:=by
 show({tq d ws with nd:=Hu (jk ws),ow:=Hw (jk ws)}:aS)=tq d ws;rw[h];rfl
theorem aaT{d:Bool}{ws:aT}{x:ByteArray}(h:iG ws=[x])(j:jv (pV x).1=true)(u:jv (pV x).2.1=true):{xX d ws with fr:=gV (pV x).1,tt:=gV (pV x).2.1}=tq d ws:=by
 show _=({xX d ws with fr:=Hr (iG ws),tt:=Ht (iG ws)}:aS);rw[h,(Hq _).2 j,(Hq _).2 u];rfl
theorem aaU{d:Bool}{ws:aT}{x y:ByteArray}(h:jk ws=[x,y])(j:jv x.data.toList=true):{tq d ws with nd:=gV x.data.toList,ow:=y}=CQ d ws:=by
 show _=({tq d ws with nd:=Hu (jk ws),ow:=Hw (jk ws)}:aS);rw[h,(Hq _).2 j];rfl
theorem LQ(ws:aT):NH ws=(bL ws&&sZ 0 ws&&sZ 1 ws&&sZ 2 ws&&sZ 3 ws&&sZ 4 ws&&(yP ws).isEmpty&&wJ (kX ws)&&((iG ws).isEmpty||sU (iG ws))&&((jk ws).isEmpty||xO (jk ws))):=F
theorem ET{ws:aT}{k:Nat}(hk:k<5)(h:sZ k ws=false):aR ws=false:=by
 rw[<-Ny,LQ];rcases(show k=0∨k=1∨k=2∨k=3∨k=4 by omega)with rfl|rfl|rfl|rfl|rfl<;>rw[h]<;>simp
theorem aaV{ws:aT}(u:bL ws=true)(h:∀j,j<5->sZ j ws=true):aR ws=((yP ws).isEmpty&&wJ (kX ws)&&((iG ws).isEmpty||sU (iG ws))&&((jk ws).isEmpty||xO (jk ws))):=by
 rw[<-Ny,LQ,u,h 0 J,h 1 J,h 2 J,h 3 J,h 4 J];simp
structure tu(w:World)(B G1 G2 G5 G6 G7 G8:Nat)(d:Bool)(ws:aT)(k:Nat)(q:Nat->Sl)(a:aN)(n c:Nat)(wx:World):Prop where
 e:X w wx
 b1:ah wx G1 [.slice a n c] 98
 wd:gK w B a n c (mQ k ws)
 b2:ah wx G2 (nJ d q [] []).v 192
 b5:ah wx G5 [(q 1).v] 98
 b6:ah wx G6 [(q 3).v] 98
 b7:ah wx G7 [(q 4).v] 98
 b8:ah wx G8 [.pointer (some ⟨G2,1,none⟩),.pointer (some ⟨G5,0,none⟩),.pointer (some ⟨G2,3,none⟩),.pointer (some ⟨G6,0,none⟩),.pointer (some ⟨G7,0,none⟩)] 278
 ql:∀j,j<5->gK w B (q j).a (q j).n (q j).c (if j<k then Iu j ws else[])
def yS(G2 G5 G6 G7:Nat):Nat->Nat
 |0=>G2
 |1=>G5
 |2=>G2
 |3=>G6
 |_=>G7
def gF:Nat->Nat
 |0=>1
 |2=>3
 |_=>0
variable {w wx wy wz:World} {B G1 G2 G5 G6 G7 G8 k n c n' c':Nat} {d:Bool} {ws:aT} {q:Nat->Sl} {a a':aN} {s:Sl}
theorem tu.ext(h:tu w B G1 G2 G5 G6 G7 G8 d ws k q a n c wx)(e:X wx wy):tu w B G1 G2 G5 G6 G7 G8 d ws k q a n c wy:=
 {h with e:=h.e.ext e,b1:=h.b1.ext e,b2:=h.b2.ext e,b5:=h.b5.ext e,b6:=h.b6.ext e,b7:=h.b7.ext e,b8:=h.b8.ext e}
theorem tu.step(h:tu w B G1 G2 G5 G6 G7 G8 d ws k q a n c wx)(hk:k<5)(ap:w.heap.size<=G1)(aq:G1<G2)(ar:G2<G5)(aw:G5<G6)(ax:G6<G7)(az:G7<G8)
 (hb:ah wy G1 [.slice a' n' c'] 98)(E:wx.grownBy wy (some G1))(hs:gK w B s.a s.n s.c (Iu k ws))(al:gK w B a' n' c' (mQ (k+1) ws))
 (ae:wz=wy.setCell ⟨yS G2 G5 G6 G7 k,gF k,none⟩ s.v):tu w B G1 G2 G5 G6 G7 G8 d ws (k+1) (qK q k s) a' n' c' wz:=by
 have u:aU wy (yS G2 G5 G6 G7 k) wz:=by rw[ae];exact aU.setCell _
 have an:yS G2 G5 G6 G7 k≠G1:=by
  rcases(show k=0∨k=1∨k=2∨k=3∨k=4 by omega)with rfl|rfl|rfl|rfl|rfl<;>(simp only[yS];omega)
 have ao:yS G2 G5 G6 G7 k≠G8:=by
  rcases(show k=0∨k=1∨k=2∨k=3∨k=4 by omega)with rfl|rfl|rfl|rfl|rfl<;>(simp only[yS];omega)
 have am:w.heap.size<=yS G2 G5 G6 G7 k:=by
  rcases(show k=0∨k=1∨k=2∨k=3∨k=4 by omega)with rfl|rfl|rfl|rfl|rfl<;>(simp only[yS];omega)
 have ag:X w wy:=h.e.grown E (fun g e=>by injection e with e;omega);have I:=h.b2.grown E (fun e=>by injection e with e;omega);have R:=h.b5.grown E (fun e=>by injection e with e;omega);have aa:=h.b6.grown E (fun e=>by injection e with e;omega);have ab:=h.b7.grown E (fun e=>by injection e with e;omega);have af:=h.b8.grown E (fun e=>by injection e with e;omega);have ql:∀j,j<5->gK w B (qK q k s j).a (qK q k s j).n (qK q k s j).c (if j<k+1 then Iu j ws else[]):=by
  intro j ai;unfold qK;by_cases ad:j=k
  ·subst ad;rw[if_pos F,if_pos J];exact hs
  ·have ac:=h.ql j ai;rw[if_neg ad];by_cases j3:j<k
   ·rw[if_pos j3]at ac;rw[if_pos J];exact ac
   ·rw[if_neg j3]at ac;rw[if_neg J];exact ac
 refine⟨u.ext ag am,hb.upd u an.symm,al,?_,?_,?_,?_,af.upd u ao.symm,ql⟩;all_goals
  subst ae;rcases(show k=0∨k=1∨k=2∨k=3∨k=4 by omega)with rfl|rfl|rfl|rfl|rfl
 ·exact I.set 1 s.v
 ·exact I.upd u (by show G2≠G5;omega)
 ·exact I.set 3 s.v
 ·exact I.upd u (by show G2≠G6;omega)
 ·exact I.upd u (by show G2≠G7;omega)
 ·exact R.upd u (by show G5≠G2;omega)
 ·exact R.set 0 s.v
 ·exact R.upd u (by show G5≠G2;omega)
 ·exact R.upd u (by show G5≠G6;omega)
 ·exact R.upd u (by show G5≠G7;omega)
 ·exact aa.upd u (by show G6≠G2;omega)
 ·exact aa.upd u (by show G6≠G5;omega)
 ·exact aa.upd u (by show G6≠G2;omega)
 ·exact aa.set 0 s.v
 ·exact aa.upd u (by show G6≠G7;omega)
 ·exact ab.upd u (by show G7≠G2;omega)
 ·exact ab.upd u (by show G7≠G5;omega)
 ·exact ab.upd u (by show G7≠G2;omega)
 ·exact ab.upd u (by show G7≠G6;omega)
 ·exact ab.set 0 s.v
theorem tu.st(h:tu w B G1 G2 G5 G6 G7 G8 d ws 5 q a n c wx):fH w wx B G2 (nJ d q (oJ ws) (oK ws)) (LP d ws):=by
 have j:=h.ql 0 J;have u:=h.ql 2 J;exact((fH.zero w wx B G2 d).roles (a:=(q 0).a) (n:=(q 0).n) (c:=(q 0).c) (ws:=oJ ws) j).labels (a:=(q 2).a) (n:=(q 2).n) (c:=(q 2).c) (ws:=oK ws) u
structure qc(w:World)(B G2 G5 G6 G7:Nat)(ws:aT)(q:Nat->Sl)(r x:aS)(wx:World):Prop where
 e:X w wx
 b2:ah wx G2 r.v 192
 b5:ah wx G5 [(q 1).v] 98
 b6:ah wx G6 [(q 3).v] 98
 b7:ah wx G7 [(q 4).v] 98
 w1:gK w B (q 1).a (q 1).n (q 1).c (kX ws)
 w3:gK w B (q 3).a (q 3).n (q 3).c (iG ws)
 w4:gK w B (q 4).a (q 4).n (q 4).c (jk ws)
 st:fH w wx B G2 r x
theorem fH.fr{W:World}{G:Nat}{r x:aS}(h:fH w W B G r x)(f:Int):fH w W B G {r with fr:=f} {x with fr:=f}:={h with q:=by rw[<-h.q];rfl}
theorem fH.tt{W:World}{G:Nat}{r x:aS}(h:fH w W B G r x)(f:Int):fH w W B G {r with tt:=f} {x with tt:=f}:={h with q:=by rw[<-h.q];rfl}
theorem fH.nd{W:World}{G:Nat}{r x:aS}(h:fH w W B G r x)(f:Int):fH w W B G {r with nd:=f} {x with nd:=f}:={h with q:=by rw[<-h.q];rfl}
theorem fH.ow{W:World}{G:Nat}{r x:aS}(h:fH w W B G r x)(o:ByteArray)(j:o.size<=140737488355328):fH w W B G {r with ow:=o} {x with ow:=o}:={h with q:=by rw[<-h.q];rfl,os:=j}
structure rU(w:World)(G2 G5 G6 G7:Nat)(q:Nat->Sl)(r:aS)(wx:World):Prop where
 e:X w wx
 b2:ah wx G2 r.v 192
 b5:ah wx G5 [(q 1).v] 98
 b6:ah wx G6 [(q 3).v] 98
 b7:ah wx G7 [(q 4).v] 98
theorem rU.ext{r:aS}(h:rU w G2 G5 G6 G7 q r wx)(e:X wx wy):rU w G2 G5 G6 G7 q r wy:=⟨h.e.ext e,h.b2.ext e,h.b5.ext e,h.b6.ext e,h.b7.ext e⟩
theorem rU.yQ{r:aS}{p:Option Nat}(h:rU w G2 G5 G6 G7 q r wx)(E:G2<G5)(I:G5<G6)(R:G6<G7)(g:wx.grownBy wy p)(j:∀g,p=some g->w.heap.size<=g/\G7<g):rU w G2 G5 G6 G7 q r wy:=
 ⟨h.e.grown g (fun i u=>(j i u).1),h.b2.grown g (fun e=>by have:=(j _ e.symm).2;omega),h.b5.grown g (fun e=>by have:=(j _ e.symm).2;omega),h.b6.grown g (fun e=>by have:=(j _ e.symm).2;omega),h.b7.grown g (fun e=>by have:=(j _ e.symm).2;omega)⟩
theorem rU.rule{r r':aS}(h:rU w G2 G5 G6 G7 q r wx)(j:w.heap.size<=G2)(E:G2<G5)(I:G5<G6)(R:G6<G7)(hb:ah wy G2 r'.v 192)(u:aU wx G2 wy):rU w G2 G5 G6 G7 q r' wy:=
 ⟨u.ext h.e j,hb,h.b5.upd u J,h.b6.upd u J,h.b7.upd u J⟩
theorem aaW(l:aT):∀z∈l.map mG,(Lit.int .i64 z).wf=true:=by
 intro z u;obtain⟨y,_,rfl⟩:=mem_map.1 u;have:=Rl y;obtain⟨m,j⟩:∃m:Nat,mG y=(m:Int):=⟨(mG y).toNat,J⟩;rw[j]at this⊢;have j3:m<13:=J;exact(show∀m<13,(Lit.int .i64 ((m:Nat):Int)).wf=true by decide) m j3
theorem tu.j(h:tu w B G1 G2 G5 G6 G7 G8 d ws 5 q a n c wx):qc w B G2 G5 G6 G7 ws q (nJ d q (oJ ws) (oK ws)) (LP d ws) wx:=
 ⟨h.e,h.b2,h.b5,h.b6,h.b7,h.ql 1 J,h.ql 3 J,h.ql 4 J,h.st⟩
variable {r x r' x':aS}
theorem qc.gN(h:qc w B G2 G5 G6 G7 ws q r x wx):rU w G2 G5 G6 G7 q r wx:=⟨h.e,h.b2,h.b5,h.b6,h.b7⟩
theorem rU.j(h:rU w G2 G5 G6 G7 q r wx)(j:gK w B (q 1).a (q 1).n (q 1).c (kX ws))(u:gK w B (q 3).a (q 3).n (q 3).c (iG ws))(E:gK w B (q 4).a (q 4).n (q 4).c (jk ws))(I:fH w wx B G2 r x):qc w B G2 G5 G6 G7 ws q r x wx:=
 ⟨h.e,h.b2,h.b5,h.b6,h.b7,j,u,E,I⟩
theorem qc.ext(h:qc w B G2 G5 G6 G7 ws q r x wx)(e:X wx wy):qc w B G2 G5 G6 G7 ws q r x wy:=
 {h with e:=h.e.ext e,b2:=h.b2.ext e,b5:=h.b5.ext e,b6:=h.b6.ext e,b7:=h.b7.ext e,st:=h.st.ext e}
theorem qc.rule(h:qc w B G2 G5 G6 G7 ws q r x wx)(j:w.heap.size<=G2)(E:G2<G5)(I:G5<G6)(R:G6<G7)(hb:ah wy G2 r'.v 192)(u:aU wx G2 wy)(hs:fH w wy B G2 r x->fH w wy B G2 r' x'):
 qc w B G2 G5 G6 G7 ws q r' x' wy:=
 ⟨u.ext h.e j,hb,h.b5.upd u J,h.b6.upd u J,h.b7.upd u J,h.w1,h.w3,h.w4,hs (h.st.upd u l5)⟩
end
theorem aaX(B:Nat)(er:aN)(bv bl:Nat)(ws:aT)(w:World)(cS:gK w B er bv bl ws)(e8:ws≠[])(e4:mJ w)(g7:B<=w.heap.size):
 Calls prog 134 #[.slice er bv bl] w fun e w'=>∃r:aS,e= .returned (.tuple #[.agg r.v.toArray,.bool (aR ws)])/\(aR ws=true->r.bare=Aj ws/\r.Ok w'/\r.Hi B)/\X w w':=by
 obtain⟨cH,eg,E⟩:=aW e4 cS Ag;obtain⟨x,g',cV⟩:∃x r,ws=x::r:=by
  cases ws with
  |nil=>exact absurd F e8
  |cons x r=>exact⟨x,r,F⟩
 have c6:=O cV;obtain⟨A,cL,nu⟩:=cS.at (k:=0) (x:=x) (by rw[cV];rfl);rw[Hz]at nu;have rz:=O nu;have hn:0<bv:=by have:=cS.hl;rw[cV]at this;simp at this;omega
 subst cL;obtain⟨fR,dl⟩:=jE (fun e w'=>∃r:aS,e= .returned (.tuple #[.agg r.v.toArray,.bool (aR ws)])/\(aR ws=true->r.bare=Aj ws/\r.Ok w'/\r.Hi B)/\X w w':Ending->World->Prop);rw[<-dl];have ed:=O dl;have ez:aR ws=false->∀(r:aS) (w':World),X w w'->fR (.returned (.tuple #[.agg r.v.toArray,.bool false])) w':=fun h r w' e=>by
  rw[ed.out];exact⟨r,by rw[h],(fun ae=>by rw[h]at ae;cases ae),e⟩
 have a7:=O ez;clear dl ez e4 cS e8 cV nu;go_enter func134,ntmps134;go_upto_region 1 with(fail);generalize iX:World.alloc (World.alloc w _) _=co;have ey:ah co w.heap.size [.slice (some A) bv bl] 98:=by rw[<-iX];exact(ah.aI F F).alloc _
 have zA:ah co (w.heap.size+1) (xQ false).v 192:=by rw[<-iX];exact ah.aI (xR _ _).symm rfl
 have eI:X w co:=by rw[<-iX];exact((X.refl w).alloc _).alloc _
 have fb:co.heap.size=w.heap.size+2:=by rw[<-iX,xR,xR]
 obtain⟨ee,cF,ZA,EA⟩:=bU fb ey zA eI;clear iX fb ey zA eI;have k1:=cF.cell' (i:=0) F;have gm:co.cell? A=some (.string x):=by
  rw[EA.cell (block_lt_of_cell rz)];exact rz
 have d4:=ZO x;have d5:=ZN x;have dv:bL ws=(decide (x=vF)||decide (x=Ai)):=by rw[c6.out];rfl
 have dr:je vF ws=decide (x=vF):=by rw[c6.out];rfl
 obtain⟨d,dq⟩:=aC (decide (x=vF));obtain⟨cs,dm⟩:=aC (decide (x=Ai));rw[dq,dm]at dv;rw[dq]at dr d5;rw[dm]at d4;obtain⟨c1,fv⟩:=aB dv dr;clear dv dr dq dm;go_cut [27] (fun v wx=>v= .bool (!(d||cs))/\wx=co)
 case first=>
  cases cs<;>cases d
  all_goals (
   go_wp2_with fail;go_meet;exact⟨F,F⟩)
 case rest=>
 obtain⟨rfl,rfl⟩:=hcut;by_cases cP:(d||cs)=false
 ·rw[cP];have e9:aR ws=false:=by
   rw[<-Ny,LQ,c1.out,cP];rfl
  have al:=O e9;clear d4 d5 e9;go_wp2_with (first|(refine bV F 192 _ F F ZA E F ?_)|(refine bg F _ _ _ F F F ZA E F (xs:=(xQ false).v) F (nD _) ?_));intro af ad ab;go_wp2_with fail;exact iy F F ad E F F (a7 al (xQ false) af (ab.ext EA J))
 have du:(d||cs)=true:=by revert cP;cases (d||cs)<;>simp
 rw[du];have fy:=O (c1.trans du);clear d4 cP du c1;have gn:=ZA.cell' (i:=0) F;have f6:=ZA.frozen 0;have de:=cF.frozen 0;go_upto_region 4 with fail;obtain⟨cb,ar⟩:=aC (World.setCell wc ⟨w.heap.size+1,0,none⟩ (.bool d));rw[ar];have ew:ah cb w.heap.size [.slice (some A) bv bl] 98:=by rw[<-ar];exact cF.qm _ _ aF
 have fs:ah cb (w.heap.size+1) (xQ d).v 192:=by rw[<-ar];exact ZA.set 0 (.bool d)
 have a6:X w cb:=by rw[<-ar];exact EA.set _ aF
 have a0:cb.heap.size=w.heap.size+2:=by rw[<-ar,<-ee.out];exact(aU.setCell (w:=wc) (g:=w.heap.size+1) (i:=0) (.bool d)).size
 obtain⟨cE,eo,d',a3,c2⟩:=dM ew fs a6 a0 (show 1<=bv from hn);clear ar ew fs a6 a0 gn f6 de k1 gm d5 cF ZA EA ee hn;have k1:=cE.cell' (i:=0) F;have de:=cE.frozen 0;go_upto_region 5 with(refine bF F (Kj (p:=some A) (n:=bv) (c:=bl) (k:=1) F F F underlying98 rP c2 _) ?_);obtain⟨w2,cl⟩:=aC (World.setCell cb ⟨w.heap.size,0,none⟩ (.slice (dL (some A) bl 1) (bv - 1) (bl - 1)));rw[cl];have ex:ah w2 w.heap.size [.slice (dL (some A) bl 1) (bv - 1) (bl - 1)] 98:=by rw[<-cl];exact cE.set 0 _
 have z2:ah w2 (w.heap.size+1) (xQ d).v 192:=by rw[<-cl];exact eo.qm _ _ aF
 have e2:X w w2:=by rw[<-cl];exact d'.set _ aF
 have fa:w2.heap.size=w.heap.size+2:=by rw[<-cl,<-a3.out];exact(aU.setCell (w:=cb) (g:=w.heap.size) (i:=0) _).size
 have fi:gK w B (dL (some A) bl 1) (bv - 1) (bl - 1) (mQ 0 ws):=by
  have:=eg.drop c2;rw[c6.out]at this⊢;exact this
 generalize dL (some A) bl 1=cr at*;generalize bv - 1=fl at*;generalize bl - 1=eA at*;obtain⟨B2,ep,ea,Im,eh⟩:=dM ex z2 e2 fa fi;clear cl ex z2 e2 fa fi k1 de cE eo d' a3 c2;go_upto_region 8 with fail;generalize fg:World.alloc (World.alloc (World.alloc (World.alloc w2 _) _) _) _=wB;have c8:tu w B w.heap.size (w.heap.size+1) w2.heap.size (w2.heap.size+1) (w2.heap.size+1+1) (w2.heap.size+1+1+1) d ws 0 (fun _=>aaP) cr fl eA wB:=by
  rw[<-fg];refine⟨(((ea.alloc _).alloc _).alloc _).alloc _,(((B2.alloc _).alloc _).alloc _).alloc _,eh,(((ep.alloc _).alloc _).alloc _).alloc _,(((ah.aI F F).alloc _).alloc _).alloc _,((ah.aI (xR _ _).symm rfl).alloc _).alloc _,(ah.aI (by rw[xR,xR]) F).alloc _,ah.aI (by rw[xR,xR,xR]) F,fun j cc=> ?_⟩;rw[if_neg J];exact gK.nil _ _
 obtain⟨G8,dk⟩:=aC (w2.heap.size+1+1+1);obtain⟨G7,cv⟩:=aC (w2.heap.size+1+1);obtain⟨G6,dj⟩:=aC (w2.heap.size+1);obtain⟨G5,di⟩:=aC w2.heap.size;obtain⟨G2,dg⟩:=aC (w.heap.size+1);obtain⟨G1,cM⟩:=aC w.heap.size;have gc:w.heap.size<=G1/\G1<G2/\G2<G5/\G5<G6/\G6<G7/\G7<G8/\B<=G2:=by
  have:=Im.out;omega
 obtain⟨b2,cz,bw,bx,bz,cA,fm⟩:=gc;obtain⟨fx,g9⟩:=aB fm cM;rw[dk,cv,dj,di,dg,cM]at c8;rw[dk,cv,dj,di,dg,cM];clear dk cv dj di dg cM fg B2 ep ea Im eh eg rz fm;go_wp2_with fail;go_loopw [41] (fun i wr=>∃(k:Nat) (q:Nat->Sl) (a:aN) (n c:Nat),k<=5/\i= .int .i64 (k:Int)/\tu w B G1 G2 G5 G6 G7 G8 d ws k q a n c wr/\(∀j,j<k->sZ j ws=true)) (fun i _=>5 - (intOf i).toNat)
 case atStart=>exact⟨0,_,cr,fl,eA,J,F,c8,fun j cc=>by omega⟩
 case round=>
  obtain⟨k,q,a,n,c,hk,rfl,eK,e1⟩:=hrel;obtain⟨ag,ce⟩:=aB eK e1;clear eK e1 c8;rcases(show k=0∨k=1∨k=2∨k=3∨k=4∨k=5 by omega)with rfl|rfl|rfl|rfl|rfl|rfl
  ·have b5:=ag.b8.cell' (i:=0) (v:= .pointer (some ⟨G2,1,none⟩)) F;go_upto_region 10 with fail;go_wp2_with fail;generalize be:World.alloc wr _=bh;have I:=O (ag.ext (show X wr bh by rw[<-be];exact(X.refl wr).alloc _));clear be b5 ag;refine(ES G1 B _ a n c (mQ 0 ws) (oL 0) w bh I.b1 I.wd I.e b2).mono ?_;rintro e wD ⟨ao,aq,ap,a',n',c',rfl,a0,ar,bc,az⟩;obtain⟨a3,ba,a8,a_⟩:=bU a0 ar bc az;obtain⟨f,hf⟩:=aC ((!je (oL 0) (mQ 0 ws)|| !(oZ (oL 0) (mQ 0 ws)).isEmpty));rw[hf];have a9:=O (show sZ 0 ws=f from hf);have ax:=I.b2.grown az (fun e=>by injection e with e;omega);have b6:=ax.cell' (i:=1) F;have b8:=ax.frozen 1;clear a0 ar bc az hf ax;go_upto_region 11 with fail;obtain⟨wE,aE⟩:=aC (World.setCell wD ⟨G2,1,none⟩ (.slice ao aq ap));rw[aE];have am:=O (I.step (s:=⟨ao,aq,ap⟩) J b2 cz bw bx bz cA a8 a_ a3 ba aE.symm);clear aE b6 b8 I a3 ba a8 a_;cases f with
   |false=>
    obtain⟨al,R⟩:=aB (ET J a9) (aS.len (nJ d (qK q 0 ⟨ao,aq,ap⟩) [] []));go_wp2_with (first|(refine bV F 192 _ F F am.b2 E R ?_)|(refine bg F _ _ _ F F F am.b2 E R R (nD _) ?_));intro af ad ab;go_wp2_with fail;exact iy F F ad E R F (a7 al (nJ d (qK q 0 ⟨ao,aq,ap⟩) [] []) af (ab.ext am.e J))
   |true=>
    go_wp2_with fail;go_roundw
    case rel=>exact⟨0+1,_,a',n',c',J,by go_num,am,fun j cc=>by
     by_cases b9:j=0
     ·rw[b9];exact a9
     ·exact ce j J⟩
    case measure=>simp[intOf]
  ·have b5:=ag.b8.cell' (i:=1) (v:= .pointer (some ⟨G5,0,none⟩)) F;go_upto_region 10 with fail;go_wp2_with fail;generalize be:World.alloc wr _=bh;have I:=O (ag.ext (show X wr bh by rw[<-be];exact(X.refl wr).alloc _));clear be b5 ag;refine(ES G1 B _ a n c (mQ 1 ws) (oL 1) w bh I.b1 I.wd I.e b2).mono ?_;rintro e wD ⟨ao,aq,ap,a',n',c',rfl,a0,ar,bc,az⟩;obtain⟨a3,ba,a8,a_⟩:=bU a0 ar bc az;obtain⟨f,hf⟩:=aC ((!je (oL 1) (mQ 1 ws)|| !(oZ (oL 1) (mQ 1 ws)).isEmpty));rw[hf];have a9:=O (show sZ 1 ws=f from hf);have ax:=I.b5.grown az (fun e=>by injection e with e;omega);have b6:=ax.cell' (i:=0) F;have b8:=ax.frozen 0;clear a0 ar bc az hf ax;go_upto_region 11 with fail;obtain⟨wE,aE⟩:=aC (World.setCell wD ⟨G5,0,none⟩ (.slice ao aq ap));rw[aE];have am:=O (I.step (s:=⟨ao,aq,ap⟩) J b2 cz bw bx bz cA a8 a_ a3 ba aE.symm);clear aE b6 b8 I a3 ba a8 a_;cases f with
   |false=>
    obtain⟨al,R⟩:=aB (ET J a9) (aS.len (nJ d (qK q 1 ⟨ao,aq,ap⟩) [] []));go_wp2_with (first|(refine bV F 192 _ F F am.b2 E R ?_)|(refine bg F _ _ _ F F F am.b2 E R R (nD _) ?_));intro af ad ab;go_wp2_with fail;exact iy F F ad E R F (a7 al (nJ d (qK q 1 ⟨ao,aq,ap⟩) [] []) af (ab.ext am.e J))
   |true=>
    go_wp2_with fail;go_roundw
    case rel=>exact⟨1+1,_,a',n',c',J,by go_num,am,fun j cc=>by
     by_cases b9:j=1
     ·rw[b9];exact a9
     ·exact ce j J⟩
    case measure=>simp[intOf]
  ·have b5:=ag.b8.cell' (i:=2) (v:= .pointer (some ⟨G2,3,none⟩)) F;go_upto_region 10 with fail;go_wp2_with fail;generalize be:World.alloc wr _=bh;have I:=O (ag.ext (show X wr bh by rw[<-be];exact(X.refl wr).alloc _));clear be b5 ag;refine(ES G1 B _ a n c (mQ 2 ws) (oL 2) w bh I.b1 I.wd I.e b2).mono ?_;rintro e wD ⟨ao,aq,ap,a',n',c',rfl,a0,ar,bc,az⟩;obtain⟨a3,ba,a8,a_⟩:=bU a0 ar bc az;obtain⟨f,hf⟩:=aC ((!je (oL 2) (mQ 2 ws)|| !(oZ (oL 2) (mQ 2 ws)).isEmpty));rw[hf];have a9:=O (show sZ 2 ws=f from hf);have ax:=I.b2.grown az (fun e=>by injection e with e;omega);have b6:=ax.cell' (i:=3) F;have b8:=ax.frozen 3;clear a0 ar bc az hf ax;go_upto_region 11 with fail;obtain⟨wE,aE⟩:=aC (World.setCell wD ⟨G2,3,none⟩ (.slice ao aq ap));rw[aE];have am:=O (I.step (s:=⟨ao,aq,ap⟩) J b2 cz bw bx bz cA a8 a_ a3 ba aE.symm);clear aE b6 b8 I a3 ba a8 a_;cases f with
   |false=>
    obtain⟨al,R⟩:=aB (ET J a9) (aS.len (nJ d (qK q 2 ⟨ao,aq,ap⟩) [] []));go_wp2_with (first|(refine bV F 192 _ F F am.b2 E R ?_)|(refine bg F _ _ _ F F F am.b2 E R R (nD _) ?_));intro af ad ab;go_wp2_with fail;exact iy F F ad E R F (a7 al (nJ d (qK q 2 ⟨ao,aq,ap⟩) [] []) af (ab.ext am.e J))
   |true=>
    go_wp2_with fail;go_roundw
    case rel=>exact⟨2+1,_,a',n',c',J,by go_num,am,fun j cc=>by
     by_cases b9:j=2
     ·rw[b9];exact a9
     ·exact ce j J⟩
    case measure=>simp[intOf]
  ·have b5:=ag.b8.cell' (i:=3) (v:= .pointer (some ⟨G6,0,none⟩)) F;go_upto_region 10 with fail;go_wp2_with fail;generalize be:World.alloc wr _=bh;have I:=O (ag.ext (show X wr bh by rw[<-be];exact(X.refl wr).alloc _));clear be b5 ag;refine(ES G1 B _ a n c (mQ 3 ws) (oL 3) w bh I.b1 I.wd I.e b2).mono ?_;rintro e wD ⟨ao,aq,ap,a',n',c',rfl,a0,ar,bc,az⟩;obtain⟨a3,ba,a8,a_⟩:=bU a0 ar bc az;obtain⟨f,hf⟩:=aC ((!je (oL 3) (mQ 3 ws)|| !(oZ (oL 3) (mQ 3 ws)).isEmpty));rw[hf];have a9:=O (show sZ 3 ws=f from hf);have ax:=I.b6.grown az (fun e=>by injection e with e;omega);have b6:=ax.cell' (i:=0) F;have b8:=ax.frozen 0;clear a0 ar bc az hf ax;go_upto_region 11 with fail;obtain⟨wE,aE⟩:=aC (World.setCell wD ⟨G6,0,none⟩ (.slice ao aq ap));rw[aE];have am:=O (I.step (s:=⟨ao,aq,ap⟩) J b2 cz bw bx bz cA a8 a_ a3 ba aE.symm);clear aE b6 b8 I a3 ba a8 a_;cases f with
   |false=>
    obtain⟨al,R⟩:=aB (ET J a9) (aS.len (nJ d (qK q 3 ⟨ao,aq,ap⟩) [] []));go_wp2_with (first|(refine bV F 192 _ F F am.b2 E R ?_)|(refine bg F _ _ _ F F F am.b2 E R R (nD _) ?_));intro af ad ab;go_wp2_with fail;exact iy F F ad E R F (a7 al (nJ d (qK q 3 ⟨ao,aq,ap⟩) [] []) af (ab.ext am.e J))
   |true=>
    go_wp2_with fail;go_roundw
    case rel=>exact⟨3+1,_,a',n',c',J,by go_num,am,fun j cc=>by
     by_cases b9:j=3
     ·rw[b9];exact a9
     ·exact ce j J⟩
    case measure=>simp[intOf]
  ·have b5:=ag.b8.cell' (i:=4) (v:= .pointer (some ⟨G7,0,none⟩)) F;go_upto_region 10 with fail;go_wp2_with fail;generalize be:World.alloc wr _=bh;have I:=O (ag.ext (show X wr bh by rw[<-be];exact(X.refl wr).alloc _));clear be b5 ag;refine(ES G1 B _ a n c (mQ 4 ws) (oL 4) w bh I.b1 I.wd I.e b2).mono ?_;rintro e wD ⟨ao,aq,ap,a',n',c',rfl,a0,ar,bc,az⟩;obtain⟨a3,ba,a8,a_⟩:=bU a0 ar bc az;obtain⟨f,hf⟩:=aC ((!je (oL 4) (mQ 4 ws)|| !(oZ (oL 4) (mQ 4 ws)).isEmpty));rw[hf];have a9:=O (show sZ 4 ws=f from hf);have ax:=I.b7.grown az (fun e=>by injection e with e;omega);have b6:=ax.cell' (i:=0) F;have b8:=ax.frozen 0;clear a0 ar bc az hf ax;go_upto_region 11 with fail;obtain⟨wE,aE⟩:=aC (World.setCell wD ⟨G7,0,none⟩ (.slice ao aq ap));rw[aE];have am:=O (I.step (s:=⟨ao,aq,ap⟩) J b2 cz bw bx bz cA a8 a_ a3 ba aE.symm);clear aE b6 b8 I a3 ba a8 a_;cases f with
   |false=>
    obtain⟨al,R⟩:=aB (ET J a9) (aS.len (nJ d (qK q 4 ⟨ao,aq,ap⟩) [] []));go_wp2_with (first|(refine bV F 192 _ F F am.b2 E R ?_)|(refine bg F _ _ _ F F F am.b2 E R R (nD _) ?_));intro af ad ab;go_wp2_with fail;exact iy F F ad E R F (a7 al (nJ d (qK q 4 ⟨ao,aq,ap⟩) [] []) af (ab.ext am.e J))
   |true=>
    go_wp2_with fail;go_roundw
    case rel=>exact⟨4+1,_,a',n',c',J,by go_num,am,fun j cc=>by
     by_cases b9:j=4
     ·rw[b9];exact a9
     ·exact ce j J⟩
    case measure=>simp[intOf]
  ·have bk:=O (tu.j ag);have fj:gK w B a n c (yP ws):=ag.wd;have e0:(yP ws).isEmpty=decide (n=0):=by
    have:=fj.hl;cases b':yP ws with
    |nil=>rw[b']at this;simp at this;simp[<-this]
    |cons y z=>rw[b']at this;simp at this;simp;omega
   have bd:=aaV fy ce;rw[e0]at bd;have k1:=ag.b1.cell' (i:=0) F;have R:=O (aS.len (nJ d q (oJ ws) (oK ws)));obtain⟨cD,fh⟩:=aC wr;rw[fh]at bk k1⊢;have em:Hid (gK w B (q 0).a (q 0).n (q 0).c (oJ ws)):=O (ag.ql 0 J);have en:Hid (gK w B (q 2).a (q 2).n (q 2).c (oK ws)):=O (ag.ql 2 J);have cj:=O bk.w1;have b0:=O bk.w3;have bp:=O bk.w4;have cv:G7<cD.heap.size:=bk.b7.lt;clear fj e0 ag ce fh wr hk;by_cases bo:n≠0
   ·have al:=O (show aR ws=false by rw[bd,aP bo];simp);have g1:decide ((0:Int)<(n:Int))=true:=aQ J;have df:decide (0<n)=true:=aQ J;clear bd;go_wp2_with (first|(refine bV F 192 _ F F bk.b2 E R ?_)|(refine bg F _ _ _ F F F bk.b2 E R R (nD _) ?_));intro af ad ab;go_wp2_with fail;exact iy F F ad E R F (a7 al (nJ d q (oJ ws) (oK ws)) af (ab.ext bk.e J))
   have bo:n=0:=J;rw[aQ bo,Bool.true_and]at bd;subst bo;have b3:=O bd;clear bd;go_upto_region 16 with fail;clear k1;have k5:=bk.b5.cell' (i:=0) (v:= .slice (q 1).a (q 1).n (q 1).c) F;have e5:G2<cD.heap.size:=bk.b2.lt;have eb:=O (show w.heap.size<=cD.heap.size from bk.e.size);obtain⟨cp,f'⟩:=aC cD.heap.size;rw[f']at e5 eb cv;have ej:rU w G2 G5 G6 G7 q {nJ d q (oJ ws) (oK ws)with aa:=none,an:=0,ac:=0,acts:=[]} cD:=bk.gN;go_wp2_with fail;clear k5 bk;go_loopw [67] (fun i d8=>∃(j:Nat) (b4:aN) (b7:Nat) (zs:List Int),j<=(q 1).n/\i= .int .i64 (j:Int)/\rU w G2 G5 G6 G7 q {nJ d q (oJ ws) (oK ws)with aa:=b4,an:=j,ac:=b7,acts:=zs} d8/\d8.ownsRow cp 3 1 (.slice b4 j b7) j (zs.map lN)/\zs=((kX ws).take j).map mG/\(∀x∈(kX ws).take j,mG x≠0)/\cp<=d8.heap.size) (fun i _=>(q 1).n - (intOf i).toNat)
   case atStart=>exact⟨0,none,0,[],J,F,ej,⟨F,.inl ⟨F,F⟩⟩,F,(fun _ h=>by simp at h),J⟩
   case round=>
    obtain⟨j,b4,b7,zs,cc,rfl,eL,e_,fk,ou,ga⟩:=hrel;obtain⟨ag,cI,c4,c7⟩:=bU eL e_ ou fk;have Dm:=cj.hm;clear eL e_ ou ej fk;by_cases j3:j<(q 1).n
    ·have f1:decide ((j:Int)<((q 1).n:Int))=true:=aQ J;have f2:decide (j<(q 1).n)=true:=aQ j3;obtain⟨y,cm⟩:∃y,(kX ws)[j]? =some y:=⟨(kX ws)[j]'(by rw[cj.hl];exact j3),aF⟩;obtain⟨gC,f9,g8⟩:=(cj.ext ag.e).at cm;have HY:=O cm;have cx:(kX ws).take (j+1)=(kX ws).take j++[y]:=by rw[take_add_one,cm];rfl
     obtain⟨ef,e3⟩:=aB cx (fun cb cr (h:aK cb cr (((⟨#[]⟩:ByteArray)::pR).map bM))=>ZP y (⟨#[]⟩::pR) cr 13 13 cb F J h);have ck:=Zu y;clear cm cx;rw[f9];go_wp2_with fail;refine(Ry wr).mono ?_;rintro e ch ⟨rfl,eW,a6⟩;obtain⟨ec,I,c3⟩:=aW eW (ag.ext a6) (uF cI a6);have a0:=a6.size;clear eW a6 cI;go_wp2_with fail;refine(e3 ch _ ec).mono ?_;rintro e v2 ⟨rfl,rfl⟩;clear e3 ec ag;by_cases cd:mG y=0
     ·have cW:=ck.1;rw[aQ cd]at cW;have al:=O (show aR ws=false by
       rw[b3.out];have:wJ (kX ws)=false:=by
        unfold wJ;rw[all_eq_false];exact⟨y,mem_of_getElem? HY,by simp[cd]⟩
       rw[this];rfl)
      have R:=O (aS.len {nJ d q (oJ ws) (oK ws)with aa:=b4,an:=j,ac:=b7,acts:=zs});clear ck cd;generalize rO y (⟨#[]⟩::pR)=gE at*;go_wp2_with (first|(refine bV F 192 _ F F I.b2 E R ?_)|(refine bg F _ _ _ F F F I.b2 E R R (nD _) ?_));intro af ad ab;go_wp2_with fail;exact iy F F ad E R F (a7 al _ af (ab.ext I.e J))
     ·have cW:=ck.1;rw[aP cd,ck.2 cd]at cW;rw[ck.2 cd];have HZ:=O cd;clear ck cd;obtain⟨z,d3⟩:=aC (mG y);rw[d3]at cW⊢;have fN:=O d3;have fS:=I.b2.cell' (i:=2) (v:= .slice b4 j b7) F;have fL:=O Rz;clear d3;go_upto_region 22 with fail;go_wp2_with (refine qB (n:=j) (m:=1) (c:=1) (news:=[.int .i64 z]) fL F _ _ F cp F F (uF c3 ((X.refl _).alloc _)) F l5 (fun h=>by cases h) (aK.tO (ah.aI F F)) (fun u fe=>by simp at fe;rw[fe];rfl) J J (by rw[rQ];omega) ?_);intro v' v3 dC dt gh;obtain⟨da,dd,rfl,_,_,_⟩:=iJ dC;have cJ:=O ((I.ext ((X.refl _).alloc _)).yQ bw bx bz dt (fun g ds=>by
       have:=(c3.lt g ds).1;have:=eb.out;omega))
      have fz:=O dC;have cw:=dt.size;rw[rQ]at cw;have gO:=cJ.b2.cell' (i:=2) (v:= .slice b4 j b7) F;have gS:=cJ.b2.frozen 2;clear dC dt gh fS I c3;go_wp2_with fail;go_roundw
      case rel=>
       refine⟨j+1,da,dd,zs++[z],J,by go_num,cJ.rule J bw bx bz (cJ.b2.set 2 (.slice da (j+1) dd)) (aU.setCell _),?_,?_,?_,?_⟩
       ·have ae:v3.ownsRow cp 3 1 (.slice da (j+1) dd) (j+1) ((zs++[z]).map lN):=by
         rw[map_append];exact fz
        exact um ae (qC (aU.setCell _)) (fun g ds e=>by
         injection e with e;have:=(ae.lt g ds).1;omega)
       ·rw[ef.out,map_append,<-c7.out,<-fN.out];rfl
       ·intro gA cf;rw[ef.out,mem_append]at cf;rcases cf with cf|cf
        ·exact c4 gA cf
        ·simp at cf;rw[cf];exact HZ
       ·rw[(aU.setCell (w:=v3) (g:=G2) (i:=2) _).size];omega
      case measure=>simp[intOf];omega
    ·have gg:j=(q 1).n:=J;have f1:decide ((j:Int)<((q 1).n:Int))=false:=aP J;have f2:decide (j<(q 1).n)=false:=aP J;have cx:(kX ws).take j=kX ws:=take_of_length_le (by rw[cj.hl];omega);have dE:=c4.out;have cy:=c7.out;rw[cx]at dE cy;have dy:zs.length=j:=by rw[cy,length_map,cj.hl];omega
     have fd:fH w wr B G2 {nJ d q (oJ ws) (oK ws)with aa:=b4,an:=j,ac:=b7,acts:=zs} (xX d ws):=by
      have ai:=((fH.zero w wr B G2 d).roles em).labels en;have ae:=ai.acts (a:=b4) (n:=j) (c:=b7) (zs:=zs) (B0:=cp) (by rw[dy];exact cI) e5 (by rw[dy];omega) (by rw[cy];exact aaW _);exact ae.to (by rw[cy,length_map];rfl)
     have eQ:wJ (kX ws)=true:=by
      unfold wJ;rw[all_eq_true];intro y cm;simp[dE y cm]
     have bd:=b3.out;rw[eQ,Bool.true_and]at bd;obtain⟨b3,aw⟩:=aB bd (ag.j cj b0 bp fd);obtain⟨r2,e'⟩:=aC ({nJ d q (oJ ws) (oK ws)with aa:=b4,an:=j,ac:=b7,acts:=zs}:aS);rw[e']at aw;obtain⟨gz,ff⟩:=aC wr;rw[ff]at aw⊢;obtain⟨gw,cw⟩:=aC (q 3);obtain⟨et,a1,db⟩:=gw;obtain⟨gx,dT⟩:=aC (q 4);obtain⟨ev,b1,dc⟩:=gx;have cT:=b0.out;have cU:=bp.out;rw[cw]at cT;rw[dT]at cU;dsimp only at cT cU;obtain⟨b0,bp,ek,el⟩:=bU cT cU (show(q 3).v= .slice et a1 db by rw[cw];rfl) (show(q 4).v= .slice ev b1 dc by rw[dT];rfl);clear fd eQ dE cy dy bd cx gg e' ff wr cw dT cT cU c4 c7 cI ag ga cc em en;have k6:=aw.b6.cell' (i:=0) (v:= .slice et a1 db) (by rw[<-ek.out];rfl);go_upto_if 86 with fail;go_cut [] (fun wx=>∃r,qc w B G2 G5 G6 G7 ws q r (tq d ws) wx/\((iG ws).isEmpty||sU (iG ws))=true)
     case first=>
      by_cases bo:a1=0
      ·have bu:iG ws=[]:=length_eq_zero_iff.1 (b0.hl.trans bo);have cq:=O bu;subst bo;clear bu;go_wp2_with fail;go_meet;exact⟨r2,by rw[aaR cq.out];exact aw,by rw[cq.out];rfl⟩
      have g1:decide ((0:Int)<(a1:Int))=true:=aQ J;have df:decide (0<a1)=true:=aQ J;have g3:0<a1:=J;obtain⟨a2,d7,a4⟩:∃x t,iG ws=x::t:=by
       cases b':iG ws with
       |nil=>exact absurd (b0.hl.symm.trans (by rw[b'];rfl)) bo
       |cons y z=>exact⟨y,z,F⟩
      obtain⟨ft,rfl,nu⟩:=(b0.ext aw.e).at (k:=0) (x:=a2) (by rw[a4];rfl);rw[Hz]at nu;have d2:=b0.hs a2 (by rw[a4];simp);have ei:=O a4;have fc:a2.data.toList.length<=1000000:=by rw[Array.length_toList];exact d2
      have hcut:=O (Rq a2.data.toList [45] gz J (cH.ext aw.e).lw.ml);rw[KU]at hcut;have gf:=RD a2.data.toList [45];have cL:Lib.cut a2.data.toList [45]=pV a2:=F;rw[cL]at hcut gf;have eR:∀b,a1=1->sU (iG ws)=b->Ea a2=b:=by
       intro b ai ae;have:d7=[]:=by
        have:=b0.hl;rw[a4,ai]at this;simpa using this
       rw[a4,this]at ae;exact ae
      have eS:a1≠1->sU (iG ws)=false:=by
       intro ai;have:=b0.hl;rw[a4]at this⊢;cases d7 with
       |nil=>exact absurd this.symm ai
       |cons y z=>rfl
      have eV:a1=1->iG ws=[a2]:=by
       intro ai;have:=b0.hl;rw[a4,ai]at this;rw[a4];simp at this;rw[this]
      obtain⟨cG,cY,c0,c5,ci⟩:=dM eR eS eV (show Ea a2=((pV a2).2.2&&jv (pV a2).1&&jv (pV a2).2.1)from F) (fun(h:iG ws=[a2]) (ai:jv (pV a2).1=true) (ae:jv (pV a2).2.1=true)=>aaT (d:=d) h ai ae);clear cL a4 eR eS eV;generalize pV a2=f0 at*;obtain⟨bm,bt,ct⟩:=f0;dsimp only at*;go_wp2_with fail;refine hcut.mono ?_;rintro e ch ⟨rfl,a6⟩;have c9:=O (aw.ext a6);clear a6 hcut k6 nu;have cn:=O (LM bm ch J (cH.ext c9.e).lw);clear aw;go_wp2_with fail;refine cn.mono ?_;rintro e v2 ⟨rfl,e2⟩;have br:=O (c9.ext e2);have fW:=br.b2.cell' (i:=4) F;have f3:=br.b2.frozen 4;clear e2 cn c9;go_upto_region 28 with fail;obtain⟨v3,ca⟩:=aC (World.setCell v2 ⟨G2,4,none⟩ (.int .i64 (gV bm)));rw[ca];have bi:=O (br.rule (r':={r2 with fr:=gV bm}) (x':={xX d ws with fr:=gV bm}) (wy:=v3) J bw bx bz (by rw[<-ca];exact br.b2.set 4 (.int .i64 (gV bm))) (by rw[<-ca];exact aU.setCell _) (fun s=>s.fr _));clear ca fW f3 br;have fo:=O (LM bt v3 J (cH.ext bi.e).lw);go_wp2_with fail;refine fo.mono ?_;rintro e cX ⟨rfl,eE⟩;have bj:=O (bi.ext eE);have fX:=bj.b2.cell' (i:=5) F;have f4:=bj.b2.frozen 5;clear eE fo bi;go_upto_region 29 with fail;obtain⟨fp,cR⟩:=aC (World.setCell cX ⟨G2,5,none⟩ (.int .i64 (gV bt)));rw[cR];have a5:=O (bj.rule (r':={r2 with fr:=gV bm,tt:=gV bt}) (x':={xX d ws with fr:=gV bm,tt:=gV bt}) (wy:=fp) J bw bx bz (by rw[<-cR];exact bj.b2.set 5 (.int .i64 (gV bt))) (by rw[<-cR];exact aU.setCell _) (fun s=>s.tt _));clear cR fX f4 bj;have k6:=a5.b6.cell' (i:=0) (v:= .slice (some ft) a1 db) (by rw[<-ek.out];rfl);by_cases om:a1=1/\(ct&&jv bm&&jv bt)=true
      ·obtain⟨ai,ae⟩:=om;have dp:ct=true/\jv bm=true/\jv bt=true:=by
        simp only[Bool.and_eq_true]at ae;exact⟨ae.1.1,ae.1.2,ae.2⟩
       have fw:Hid (((iG ws).isEmpty||sU (iG ws))=true):=O (by
        have:=cG.out _ ai F;rw[c5.out]at this;rw[<-this,ae,Bool.or_true])
       have c_:Hid (qc w B G2 G5 G6 G7 ws q {r2 with fr:=gV bm,tt:=gV bt} (tq d ws) fp):=O {a5 with st:=a5.st.to (ci (c0 ai) dp.2.1 dp.2.2)};obtain⟨a6,e2,eC⟩:=dp;rw[a6,e2,eC];subst ai;clear c0 cG cY ci ae a6 e2 eC a5;go_wp2_with fail;go_meet;exact⟨_,c_,fw⟩
      ·have al:=O (show aR ws=false by
        have hb:((iG ws).isEmpty||sU (iG ws))=false:=by
         rw[ei.out];show(false||sU (a2::d7))=false;rw[<-ei.out,Bool.false_or];by_cases ai:a1=1
         ·cases b':sU (iG ws)with
          |false=>rfl
          |true=>
           have:=cG.out _ ai b';rw[c5.out]at this;exact absurd ⟨ai,this⟩ om
         ·exact cY ai
        rw[b3.out,hb];rfl)
       have gd:(a1≠1)∨(a1=1/\(ct&&jv bm&&jv bt)=false):=by
        by_cases ai:a1=1
        ·exact .inr ⟨ai,by cases b':(ct&&jv bm&&jv bt)with
          |false=>rfl
          |true=>exact absurd ⟨ai,b'⟩ om⟩
        ·exact .inl ai
       clear om c0 cG cY ci c5;rcases gd with ai|⟨ai,ae⟩
       ·have gp:((a1:Int) != 1)=true:=by simp;omega
        have gr:decide ((a1:Int)=1)=false:=aP J;have gt:decide (a1=1)=false:=aP ai;go_wp2_with (first|(refine bV F 192 _ F F a5.b2 E (aS.len _) ?_)|(refine bg F _ _ _ F F F a5.b2 E (aS.len _) (aS.len _) (nD _) ?_));intro af ad ab;go_wp2_with fail;exact iy F F ad E (aS.len _) F (a7 al _ af (ab.ext a5.e J))
       ·subst ai;generalize jv bm=gv at*;generalize jv bt=d6 at*;cases ct
        ·clear ae;go_wp2_with (first|(refine bV F 192 _ F F a5.b2 E (aS.len _) ?_)|(refine bg F _ _ _ F F F a5.b2 E (aS.len _) (aS.len _) (nD _) ?_));intro af ad ab;go_wp2_with fail;exact iy F F ad E (aS.len _) F (a7 al _ af (ab.ext a5.e J))
        ·cases gv
         ·clear ae;go_wp2_with (first|(refine bV F 192 _ F F a5.b2 E (aS.len _) ?_)|(refine bg F _ _ _ F F F a5.b2 E (aS.len _) (aS.len _) (nD _) ?_));intro af ad ab;go_wp2_with fail;exact iy F F ad E (aS.len _) F (a7 al _ af (ab.ext a5.e J))
         ·cases d6
          ·clear ae;go_wp2_with (first|(refine bV F 192 _ F F a5.b2 E (aS.len _) ?_)|(refine bg F _ _ _ F F F a5.b2 E (aS.len _) (aS.len _) (nD _) ?_));intro af ad ab;go_wp2_with fail;exact iy F F ad E (aS.len _) F (a7 al _ af (ab.ext a5.e J))
          ·cases ae
     case rest=>
     obtain⟨cC,eM,bu⟩:=hcut;have bd:=b3.out;rw[bu,Bool.true_and]at bd;have b3:=O bd;clear aw k6 bd bu;obtain⟨ch,d0⟩:=aC wc;have aw:Hid (qc w B G2 G5 G6 G7 ws q cC (tq d ws) ch):=O (by rw[<-d0];exact eM);rw[d0];clear d0 eM wc;have k7:=aw.b7.cell' (i:=0) (v:= .slice ev b1 dc) (by rw[<-el.out];rfl);go_upto_if 125 with fail;go_cut [] (fun wx=>∃r,qc w B G2 G5 G6 G7 ws q r (CQ d ws) wx/\((jk ws).isEmpty||xO (jk ws))=true)
     case first=>
      by_cases bo:b1=0
      ·have bu:jk ws=[]:=length_eq_zero_iff.1 (bp.hl.trans bo);have cq:=O bu;subst bo;clear bu;go_wp2_with fail;go_meet;exact⟨cC,by rw[aaS cq.out];exact aw,by rw[cq.out];rfl⟩
      have g1:decide ((0:Int)<(b1:Int))=true:=aQ J;have df:decide (0<b1)=true:=aQ J;by_cases ae:b1≠2
      ·have e6:((jk ws).isEmpty||xO (jk ws))=false:=by
        have:=bp.hl
        match b':jk ws,this with
        |[],h=>exact absurd h.symm bo
        |[y],_=>rfl
        |[y,z],h=>exact absurd h.symm ae
        |y::z::l::t,_=>rfl
       have al:=O (show aR ws=false by rw[b3.out,e6]);have gp:((b1:Int) != 2)=true:=by simp;omega
       have gr:decide ((b1:Int)=2)=false:=aP J;have gt:decide (b1=2)=false:=aP ae;clear e6;go_wp2_with (first|(refine bV F 192 _ F F aw.b2 E (aS.len _) ?_)|(refine bg F _ _ _ F F F aw.b2 E (aS.len _) (aS.len _) (nD _) ?_));intro af ad ab;go_wp2_with fail;exact iy F F ad E (aS.len _) F (a7 al _ af (ab.ext aw.e J))
      have ae:b1=2:=J;subst ae;obtain⟨x,y,a4⟩:=ZQ (jk ws) bp.hl;obtain⟨gb,go,rfl,vD⟩:=(bp.ext aw.e).cell.gQ (by rw[length_map,bp.hl];omega);have nu:ch.cell? ⟨gb,go,none⟩=some (.string x):=vD 0 _ (by rw[a4];rfl);have iB:Hid (∀W:World,X w W->W.cell? ⟨gb,go+1,none⟩=some (.string y)):=O (fun W h=>by
       obtain⟨f7,f8,cN,ge⟩:=(bp.ext h).cell.gQ (by rw[length_map,bp.hl];omega);have a6:f7=gb:=by simp at cN;exact cN.1.symm
       have e2:f8=go:=by simp at cN;exact cN.2.symm
       subst a6;subst e2;exact ge 1 _ (by rw[a4];rfl))
      have d2:=bp.hs x (by rw[a4];simp);have gl:y.size<=140737488355328:=Nat.le_trans (bp.hs y (by rw[a4];simp)) J;have fc:x.data.toList.length<=1000000:=by rw[Array.length_toList];exact d2
      have e7:((jk ws).isEmpty||xO (jk ws))=jv x.data.toList:=by rw[a4];rfl
      obtain⟨ci,Ct,cn⟩:=aW (fun(ai:jv x.data.toList=true)=>aaU (d:=d) a4 ai) e7 (LM x.data.toList ch fc (cH.ext aw.e).lw);rw[KU]at cn;clear vD e7 a4 bo g1 df;generalize gV x.data.toList=cg at*;generalize jv x.data.toList=d6 at*;go_wp2_with fail;refine cn.mono ?_;rintro e v2 ⟨rfl,e2⟩;have br:=O (aw.ext e2);have fY:=br.b2.cell' (i:=6) F;have f5:=br.b2.frozen 6;clear e2 cn aw k7 nu;go_upto_region 35 with fail;obtain⟨v3,ca⟩:=aC (World.setCell v2 ⟨G2,6,none⟩ (.int .i64 cg));rw[ca];have bi:=O (br.rule (r':={cC with nd:=cg}) (x':={tq d ws with nd:=cg}) (wy:=v3) J bw bx bz (by rw[<-ca];exact br.b2.set 6 (.int .i64 cg)) (by rw[<-ca];exact aU.setCell _) (fun s=>s.nd _));clear ca fY f5 br;cases d6 with
      |false=>
       have al:=O (show aR ws=false by rw[b3.out,Ct.out]);go_wp2_with (first|(refine bV F 192 _ F F bi.b2 E (aS.len _) ?_)|(refine bg F _ _ _ F F F bi.b2 E (aS.len _) (aS.len _) (nD _) ?_));intro af ad ab;go_wp2_with fail;exact iy F F ad E (aS.len _) F (a7 al _ af (ab.ext bi.e J))
      |true=>
       have k7:=bi.b7.cell' (i:=0) (v:= .slice (some ⟨gb,go,none⟩) 2 dc) (by rw[<-el.out];rfl);have Bb:=iB.out v3 bi.e;have gR:=bi.b2.cell' (i:=7) F;have g2:=bi.b2.frozen 7;go_wp2_with fail;obtain⟨cX,cQ⟩:=aC (World.setCell v3 ⟨G2,7,none⟩ (.string y));try rw[cQ]
       have bj:=O (bi.rule (r':={cC with nd:=cg,ow:=y}) (x':={tq d ws with nd:=cg,ow:=y}) (wy:=cX) J bw bx bz (by rw[<-cQ];exact bi.b2.set 7 (.string y)) (by rw[<-cQ];exact aU.setCell _) (fun s=>s.ow _ gl));have c_:Hid (qc w B G2 G5 G6 G7 ws q {cC with nd:=cg,ow:=y} (CQ d ws) cX):=O {bj with st:=bj.st.to (by first|exact ci F|exact ci trivial)};clear cQ;go_meet;exact⟨_,c_,Ct⟩
     case rest=>
     obtain⟨fn,eN,bu⟩:=hcut;have al:=O (show aR ws=true by rw[b3.out,bu]);obtain⟨v2,d1⟩:=aC wc;have bj:Hid (qc w B G2 G5 G6 G7 ws q fn (CQ d ws) v2):=O (by rw[<-d1];exact eN);rw[d1];clear aw k7 d1 eN bu wc;go_wp2_with (first|(refine bV F 192 _ F F bj.b2 E (aS.len _) ?_)|(refine bg F _ _ _ F F F bj.b2 E (aS.len _) (aS.len _) (nD _) ?_));intro af ad ab;go_wp2_with fail;refine iy F F ad E (aS.len _) F ?_;rw[ed.out];have st:=bj.st.upd ab l5;have eJ:X w af:=ab.ext bj.e J;refine⟨fn,by rw[al.out];rfl,fun _=>⟨?_,st.ok eJ,st.hi fx⟩,eJ⟩;rw[st.q,<-aaQ,fv.out]
def CS(B:Nat)(j:aN)(E u:Nat)(rs:List aS):Prop:=(∀g,(Value.slice j E u).ownBlock=some g->B<=g)/\∀r∈rs,r.Hi B
theorem LU(B:Nat):CS B none 0 0 []:=⟨fun g h=>(by cases h),fun _ h=>(by cases h)⟩
theorem LV{B B':Nat}{a:aN}{n:Nat}(h:xP B a n)(hb:B'<=B):xP B' a n:=by grind [xP]
theorem SY{B B':Nat}{r:aS}(h:r.Hi B)(hb:B'<=B):r.Hi B':=⟨LV h.r1 hb,LV h.r2 hb,LV h.r3 hb⟩
theorem S9(s:aj)(w:World)(cr:mJ w)(dt:s.length<=9223372036854775807):
 Calls prog 85 #[.string (aY s)] w fun e w'=>∃al an am rs,e= .returned (.tuple #[.agg #[.slice al an am],.int .i64 (wM s),.int .i64 (jH s)])/\lG w' al an am rs/\rs.map aS.bare=mM s/\X w w'/\CS w.heap.size al an am rs:=by
 obtain⟨bj,I,cb⟩:=aW cr Cj Ag;have du:=o7 s;have cL:=O (show jH s=jH s from F);clear cr;obtain⟨dc,b4⟩:=jE (fun e w'=>∃al an am rs,e= .returned (.tuple #[.agg #[.slice al an am],.int .i64 (wM s),.int .i64 (jH s)])/\lG w' al an am rs/\rs.map aS.bare=mM s/\X w w'/\CS w.heap.size al an am rs:Ending->World->Prop);rw[<-b4];have a1:=O b4;clear b4 cL;go_enter func85,ntmps85;go_upto_region 1 with fail;generalize iX:World.alloc w _=aq;have cl:ah aq w.heap.size [.slice none 0 0] 152:=by rw[<-iX];exact ah.aI F F
 have cm:X w aq:=by rw[<-iX];exact(X.refl w).alloc _
 have cx:aq.heap.size=w.heap.size+1:=by rw[<-iX,rQ]
 obtain⟨bh,EA,bp⟩:=aW cl cm cx;clear iX cl cm cx;by_cases ba:65536<s.length
 ·have a8:decide ((65536:Int)<(s.length:Int))=true:=aQ J;have bw:decide (65536<s.length)=true:=aQ J;have bi:=O (RI ba);clear ba;go_wp2_with (refine bg F _ _ _ F F F bh I F (xs:=[.slice none 0 0]) F (fun v j=>by simp at j;rw[j];rfl) ?_);intro aa a6 da;go_wp2_with fail;refine F8 F F a6 I F F ?_;rw[a1.out];refine⟨none,0,0,[],?_,Lc _,?_,da.ext EA l5,LU _⟩
  ·rw[bi.1,bi.2.1];rfl
  ·rw[bi.2.2];rfl
 have a8:decide ((65536:Int)<(s.length:Int))=false:=aP J;have bw:decide (65536<s.length)=false:=aP J;have cW:s.length<=65536:=J;have cc:=O ba;clear ba;go_upto_region 3 with fail;go_upto_region 4 with fail;obtain⟨aa,aE⟩:=aC (World.alloc aq (.cells #[.slice none 0 0] 152));rw[aE];have a6:ah aa aq.heap.size [.slice none 0 0] 152:=by rw[<-aE];exact ah.aI F F
 have u:X aq aa:=by rw[<-aE];exact(X.refl aq).alloc _
 obtain⟨be,B2,ae⟩:=aW a6 (bh.ext u) (EA.ext u);have cw:aa.heap.size=w.heap.size+2:=by rw[<-aE,rQ,bp.out]
 have ch:=O cw;rw[bp.out]at be⊢;clear a6 aE u bh EA cw a8 bw;go_wp2_with fail;refine(ZK s 10 aa J (bj.ext ae).lw.ml).mono ?_;rintro e w2 ⟨rfl,bv,e2⟩;obtain⟨N,b3⟩:=aC ((kH 10 s).length);have dk:N<=65537:=by have:=RF 10 s;omega
 have cV:aa.heap.size<w2.heap.size:=bv.lt;obtain⟨G2,b0⟩:=aC w.heap.size;obtain⟨G5,b1⟩:=aC (w.heap.size+1);obtain⟨g0,b5⟩:=aC aa.heap.size;have bu:sV w G2 G5 g0 w2.heap.size s 0 none 0 [] w2:=by
  rw[<-b0,<-b1,<-b5];exact⟨ae.ext e2,B2.ext e2,be.ext e2,bv,⟨F,.inl ⟨F,F⟩⟩,F,(fun _ h=>by cases h),(fun _ h=>by cases h),(fun _ h=>by cases h),(fun _ h=>by simp at h),Nat.le_refl _⟩
 have cn:w.heap.size<=G2/\G2≠G5/\w.heap.size<=G5/\g0≠G5/\G5<w2.heap.size/\G2<w2.heap.size/\g0<w2.heap.size/\w.heap.size<=w2.heap.size:=by
  have:=ch.out;omega
 obtain⟨ab,ce⟩:=aB cn b3;rw[b3,b1,b0,b5];obtain⟨a0,bz⟩:=aC w2.heap.size;rw[bz]at bu ab;have cF:=O bz;clear bv e2 b3 b1 b0 b5 B2 be ae ch bp cV cn bz;go_wp2_with fail;go_loopw [19] (fun i wr=>∃(k:Nat) (a:aN) (c:Nat) (rs:List aS),k<=N/\i= .int .i64 (k:Int)/\sV w G2 G5 g0 a0 s k a c rs wr/\a0<=wr.heap.size) (fun i _=>N - (intOf i).toNat)
 case atStart=>exact⟨0,none,0,[],J,F,bu,by rw[cF.out];exact Nat.le_refl _⟩
 case round=>
  obtain⟨k,a,c,rs,hk,rfl,b2,dj⟩:=hrel;have R:=O b2;have cI:Hid (∀g,(Value.slice a rs.length c).ownBlock=some g->g<wr.heap.size):=O (fun g ad=>(b2.own.lt g ad).2);clear b2 bu;by_cases j3:k<N
  ·have a8:decide ((k:Int)<(N:Int))=true:=aQ J;have bw:decide (k<N)=true:=aQ j3;obtain⟨l,Cq⟩:∃l,(kH 10 s)[k]? =some l:=⟨(kH 10 s)[k]'(by rw[ce.out];exact j3),aF⟩;have dl:l.length<=65536:=Nat.le_trans (RG 10 s l (mem_of_getElem? Cq)) cW;have cQ:=R.ln.cell' (i:=k) (v:= .string (aY l)) (by rw[List.getElem?_map,List.getElem?_map,Cq];rfl);have bk:=O (ZW Cq);have cU:=(RD l [35]).1;clear Cq;go_wp2_with fail;refine(Rq l [35] wr J (bj.ext R.e).lw.ml).mono ?_;rintro e ap ⟨rfl,u⟩;have ae:=O u;clear u cQ;go_wp2_with fail;refine(aaL (Lib.cut l [35]).1 ap J).mono ?_;rintro e b' ⟨g1,rfl,bN,a9⟩;have dp:=a9.size;have a5:=O (R.ext (ae.ext a9));have cY:=ae.size;have dq:=(ae.ext a9).size;have b9:gK b' ap.heap.size (some ⟨g1,0,none⟩) (vC (Lib.cut l [35]).1).length (vC (Lib.cut l [35]).1).length (bB l):=bN;clear bN a9 ae R cU;have c1:ap.heap.size<=b'.heap.size:=J;generalize (vC (Lib.cut l [35]).1).length=m at*;have bd:=b9.hl;have br:=O b9;clear b9;by_cases ar:m=0
   ·have cN:=O (length_eq_zero_iff.1 (bd.trans ar));subst ar;clear bd br;go_wp2_with fail;go_roundw
    case rel=>exact⟨k+1,a,c,rs,J,by go_num,a5.skip bk cN,J⟩
    case measure=>simp[intOf];omega
   have cR:((m:Int)==0)=false:=by simp;exact ar
   have cS:decide ((m:Int)=0)=false:=aP J;have cT:decide (m=0)=false:=aP ar;have bt:Hid (bB l≠[]):=O (fun e=>ar (by rw[<-bd,e];rfl));clear bd;go_wp2_with fail;refine(aaX ap.heap.size (some ⟨g1,0,none⟩) m m (bB l) b' br bt (bj.ext a5.e) c1).mono ?_;rintro e ca ⟨r,rfl,ai,bx⟩;have cj:=O (a5.ext bx);have dr:=bx.size;have a3:=O ai;obtain⟨b,hb⟩:=aC (aR (bB l));have cd:=O hb;rw[hb]at a3⊢;clear hb ai bx a5 br ar cR cS cT;obtain⟨a4,cg⟩:=aB (aS.len r) (nD r);go_wp2_with (refine bg F _ _ _ F F F (ah.aI (vs:=BX) F F) cb F (xs:=r.v) a4 cg ?_);intro db ck cy;have a_:X ca db:=cy.ext ((X.refl ca).alloc _) l5;obtain⟨ac,cD,cE⟩:=aW (cj.ext a_) ck a_;have ds:=a_.size;clear ck cy a_ cj;cases b with
   |false=>
    have co:uD (lU s)=some k:=Zw bk ac.good (by
     unfold Ak;rw[cd.out,Bool.or_false];cases cX:bB l with
     |nil=>exact absurd cX bt
     |cons y z=>rfl)
    have bl:=O (RJ cc co);clear co;go_wp2_with (refine bg F _ _ _ F F F ac.b2 I F (xs:=[.slice none 0 0]) F (fun v j=>by simp at j;rw[j];rfl) ?_);intro cz ax ao;go_wp2_with fail;refine F8 F F ax I F F ?_;rw[a1.out];refine⟨none,0,0,[],?_,Lc _,?_,ao.ext ac.e ab.1,LU _⟩
    ·rw[bl.1,bl.2.1];rfl
    ·rw[bl.2.2];rfl
   |true=>
    have cv:r.bare=Aj (bB l)/\r.Ok ca/\r.Hi ap.heap.size:=by first|exact a3 F|exact a3 trivial
    have bo:=O cv;have cP:=ac.b5.cell' (i:=0) F;have ci:=O ZR;have dm:=ac.cnt;clear cv a3;go_wp2_with (first|(refine bV F 192 _ F F cD cb a4 ?_)|(refine Cc ci aX F F F a4 ?_)|(refine qB (n:=rs.length) (m:=1) (c:=1) (xs:=uw rs) (news:=r.v) ci F _ _ F a0 F F (uF ac.own ((X.refl _).alloc _)) a4 l5 (fun h=>by cases h) (aK.tO (ah.aI F F)) cg J J (by rw[rQ];omega) ?_));intro dv cA b7 bc ct;obtain⟨a',c',rfl,_,_,_⟩:=iJ b7;obtain⟨cJ,cG,cH⟩:=aW b7 bc ct;have cq:∀g,(Value.slice a rs.length c).ownBlock=some g->a0<=g:=fun g ad=>(ac.own.lt g ad).1;have a7:ah cA G5 [.slice a rs.length c] 152:=(ac.b5.alloc _).grown bc (fun e=>by
     have dg:=cq G5 e.symm;have di:=ab.out;omega)
    have c0:=bc.size;rw[rQ]at c0;have cC:=O a7;have dd:=a7.cell' (i:=0) F;have df:=a7.frozen 0;clear b7 bc ct cq a7 cP;go_wp2_with fail;go_roundw
    case rel=>
     refine⟨k+1,a',c',rs++[r],J,by go_num,?_,by rw[(aU.setCell (w:=cA) (g:=G5) (i:=0) _).size];omega⟩;obtain⟨c3,c4,c5,c6,c7,c8,c9,c_⟩:=ab.out;exact(ac.ext ((X.refl _).alloc _)).push bk bt cd c3 c4 c5 c6 c7 c8 c9 c_ (g1:=ap.heap.size) bo.1 ((bo.2.1.ext cE).ext ((X.refl _).alloc _)) bo.2.2 J (fun g ad=>Nat.lt_of_lt_of_le (cI g ad) cY) cJ cG (by rw[rQ];exact cH) (aU.setCell _) (cC.set 0 _)
    case measure=>simp[intOf];omega
  ·obtain rfl:k=N:=J;have a8:decide ((k:Int)<(k:Int))=false:=aP J;have om:(lU s).take k=lU s:=take_of_length_le (by rw[ZX,ce.out];exact Nat.le_refl _);have az:=R.ru;have b6:=R.good;rw[om]at az b6;have b8:=RN cc (Zv b6);have cs:(wK (lU s)).length=rs.length:=by rw[<-az,length_map]
   rw[cs,KW az]at b8;obtain⟨I9,aw,bm⟩:=aW az b8 (R.pol J);clear om az b6 b8 cs;have cp:=O (fun aa (h:lG aa a rs.length c rs)=>QV a rs.length c rs aa h);go_wp2_with (refine bV F 152 _ F F R.b5 I F ?_);refine(cp wr bm).mono ?_;rintro e ap ⟨rfl,u⟩;obtain⟨af,cf⟩:=aB (R.ext u) (bm.ext u);clear u cp R bm;by_cases ag:jG rs rs.length=0
   ·have a2:=O (show jH s=0 from aw.1.trans ag);have c2:(jG rs rs.length != 0)=false:=by simp[ag]
    have n2:decide (jG rs rs.length=0)=true:=aQ ag;generalize jG rs rs.length=E at*;subst ag;go_wp2_with (first|(refine bV F 152 _ F F af.b5 I F ?_)|(refine bg F _ _ _ F F F af.b2 I F (xs:=[.slice a rs.length c]) F (fun v j=>by simp at j;rw[j];rfl) ?_));intro cz ax ao;go_wp2_with fail;refine F8 F F ax I F F ?_;rw[a1.out];refine⟨a,rs.length,c,rs,?_,?_,?_,ao.ext af.e ab.1,fun g ad=>Nat.le_trans (by have:=ab.out;omega) (af.own.lt g ad).1,fun r ai=>SY (af.hi r ai) (by have:=ab.out;omega)⟩
    ·rw[a2.out,aw.2];rfl
    ·have p:=af.out;have q:=ab.out;refine⟨F,cf.hnc,cf.hm,?_,fun r ai=>(p.ok r ai).yQ ((p.hi r ai).off (q:=some G2) (fun g e=>by injection e with e;omega)) (qC ao)⟩;obtain⟨_,_,j,_,_,hc⟩:=iJ (um p.own (qC ao) (fun g ad e=>by
      injection e with e;have:=(p.own.lt g ad).1;omega))
     injection j with u e2 de;rw[u];exact hc
    ·unfold mM;rw[if_pos a2.out];exact I9
   ·have a2:=O (show jH s≠0 from fun e=>ag (aw.1.symm.trans e));have c2:(jG rs rs.length != 0)=true:=by simp[ag]
    have n2:decide (jG rs rs.length=0)=false:=aP ag;have cM:=O aw.1;generalize jG rs rs.length=E at*;clear ag;go_wp2_with (refine bg F _ _ _ F F F af.b2 I F (xs:=[.slice none 0 0]) F (fun v j=>by simp at j;rw[j];rfl) ?_);intro cz ax ao;go_wp2_with fail;refine F8 F F ax I F F ?_;rw[a1.out];refine⟨none,0,0,[],?_,Lc _,?_,ao.ext af.e ab.1,LU _⟩
    ·rw[cM.out,aw.2];rfl
    ·unfold mM;rw[if_neg a2.out];rfl
theorem S_(s:aj)(w:World)(ac:mJ w)(ad:s.length<=9223372036854775807):
 Calls prog 85 #[.string (aY s)] w fun e w'=>∃j E u rs,e= .returned (.tuple #[.agg #[.slice j E u],.int .i64 (wM s),.int .i64 (jH s)])/\lG w' j E u rs/\rs.map aS.bare=mM s/\X w w':=
 (S9 s w ac ad).mono fun e w' ⟨j,E,u,rs,I,R,aa,ab,_⟩=>⟨j,E,u,rs,I,R,aa,ab⟩
theorem Tc(I:aN)(j R:Nat)(rs:List aS)(w:World)(bk:lG w I j R rs)(bj:mJ w):
 nW 123 #[.agg #[.slice I j R]] w (.tuple #[.string (aY (lI rs j)),.int .i64 (lH rs j)]):=by
 obtain⟨af,a9,ae⟩:=aW bk bj Cj;obtain⟨b8,aE⟩:=jE (fun e w'=>e= .returned (.tuple #[.string (aY (lI rs j)),.int .i64 (lH rs j)])/\X w w':Ending->World->Prop);unfold nW;rw[<-aE];obtain⟨al,bi⟩:=aB aE (fun aa (h:lG aa I j R rs)=>QV I j R rs aa h);clear aE bk bj;go_enter func123,ntmps123;go_upto_region 1 with fail;generalize iX:World.alloc w _=a1;have bd:ah a1 w.heap.size [.slice I j R] 152:=by rw[<-iX];exact ah.aI F F
 have bh:X w a1:=by rw[<-iX];exact(X.refl w).alloc _
 obtain⟨an,EA⟩:=aB bd bh;clear iX bd bh;go_wp2_with (refine bV F 152 _ F F an ae F ?_);refine(bi a1 (af.ext EA)).mono ?_;rintro e wB ⟨rfl,aw⟩;obtain⟨ao,ad⟩:=aB (an.ext aw) (EA.ext aw);clear aw an EA bi;by_cases ab:jG rs j≠0
 ·have u:=O (Sv ab);have b5:(jG rs j != 0)=true:=by simp;exact ab
  have n2:decide (jG rs j=0)=false:=aP ab;generalize jG rs j=E at*;clear ab;go_wp2_with fail
  (try go_ret2)
  rw[al.out];exact⟨by rw[u.1,u.2];rfl,ad⟩
 have ag:jG rs j=0:=Classical.not_not.1 ab;have ai:=aai ag;obtain⟨a8,ar⟩:=aB (fun h=>aah (rs:=rs) ag h) (fun h=>Sz (rs:=rs) ag h);rw[ag];have b3:=Sr (W:=w) (fun r b2=>af.ok r b2) ai.2;have br:rs.length<=100:=by rw[af.hl];exact ai.1
 have b4:(iR rs).length<=400100:=by
  have:rs.length*4001<=100*4001:=Nat.mul_le_mul_right _ br;omega
 obtain⟨bt,bl⟩:=aB (fun aa (h:lG aa I j R rs) b1=>aaJ I j R rs aa h ai.2 ai.1 b1) (fun aa h=>S_ (iR rs) aa h J);clear ab ag ai b3 br b4;go_wp2_with (refine bV F 152 _ F F ao ae F ?_);refine(bt wB (af.ext ad) (a9.ext ad)).mono ?_;rintro e b7 ⟨rfl,ax⟩;obtain⟨a2,ap⟩:=aB (ao.ext ax) (ad.ext ax);clear ax ao ad bt;generalize iR rs=S at*;go_wp2_with fail;refine(bl b7 (a9.ext ap)).mono ?_;rintro e wD ⟨bv,bx,bw,a0,rfl,bo,bp,az⟩;obtain⟨a_,bc,a3,a6⟩:=bU bo (show jY rs (mM S)=jY rs a0 by rw[<-bp,Si]) (a2.ext az) (ap.ext az);clear bo bp az a2 ap bl;go_wp2_with (refine bg F _ _ _ F F F (ah.aI (vs:=[.slice none 0 0]) F F) ae F (xs:=[.slice bv bx bw]) F (fun v bu=>by simp at bu;rw[bu];rfl) ?_);intro wE be bz;have am:X wD wE:=bz.ext ((X.refl wD).alloc _) l5;obtain⟨a4,a5,aq,b0⟩:=bU be (a3.ext am) (a6.ext am) (a_.ext am);clear be bz am a3 a6 a_;generalize wD.heap.size=G6 at*;by_cases ac:jH S≠0
 ·have u:=O (ar (fun h=>ac h.1));have b5:(jH S != 0)=true:=by simp;exact ac
  have n2:decide (jH S=0)=false:=aP ac;generalize jH S=E at*;clear ac;go_wp2_with fail
  (try go_ret2)
  rw[al.out];exact⟨by rw[u.1,u.2];rfl,aq⟩
 have bm:jH S=0:=Classical.not_not.1 ac;rw[bm]at a8 ar⊢;have b9:=a5.cell' (i:=0) F;have b':=a4.cell' (i:=0) F;have Cx:=O (aaf I j R rs bv bx bw a0 wE (af.ext aq) b0);clear ac bm;go_wp2_with (first|(refine O6 F 152 (.tmp 1) F F a5 ae F ?_)|(refine O6 F 152 (.tmp 6) F F a4 ae F ?_));refine Cx.mono ?_;rintro e wF ⟨rfl,eF⟩;have a7:=O (aq.ext eF);clear eF Cx;obtain⟨b6,Fy⟩:=aC (jY rs a0);have ba:=O Fy;rw[Fy];clear Fy;cases b6 with
 |false=>
  have u:=O (ar (fun h=>by have:=h.2;rw[bc.out,ba.out]at this;cases this));go_wp2_with fail
  (try go_ret2)
  rw[al.out];exact⟨by rw[u.1,u.2];rfl,a7⟩
 |true=>
  have u:=O (a8 ⟨by first|rfl|trivial,by rw[bc.out,ba.out]⟩);go_wp2_with fail
  (try go_ret2)
  rw[al.out];exact⟨by rw[u.1,u.2];rfl,a7⟩
end Go.Proofs.YtjlhhnkhcbpnjaaGreatDoor
