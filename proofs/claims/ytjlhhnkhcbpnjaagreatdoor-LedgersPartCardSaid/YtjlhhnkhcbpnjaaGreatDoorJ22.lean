/- Laws that the row leans on; no condition. -/
import Derived.Test.YtjlhhnkhcbpnjaaGreatDoorJ20
import Derived.Lib.AtoiAllCases
namespace Go.Proofs.YtjlhhnkhcbpnjaaGreatDoor
open Go Go.RowKit Go.Shelf List Tryz
set_option linter.unusedVariables false
set_option linter.unusedSectionVars false
set_option linter.unusedSimpArgs false
set_option maxHeartbeats 40000000
set_option maxRecDepth 100000
theorem aaK(x:Nat)(w:World):Calls prog 133 #[.int .i32 (x:Int)] w fun e w'=>e= .returned (.bool (oh x))/\∃q,w'=w.drewN q:=by
 unfold oh;by_cases u:x=32
 ·subst u;go_enter func133,ntmps133;go_wp2;go_ret;exact⟨F,0,F⟩
 by_cases E:x=9
 ·subst E;go_enter func133,ntmps133;go_wp2;go_ret;exact⟨F,0,F⟩
 have I:((x:Int)==32)=false:=by simp;omega
 have R:decide ((x:Int)=32)=false:=aP J;have aa:((x:Int)==9)=false:=by simp;omega
 have ab:decide ((x:Int)=9)=false:=aP J;have j:(x==32||x==9)=false:=by simp;exact⟨u,E⟩
 rw[j];clear j;go_enter func133,ntmps133;go_wp2;go_ret;exact⟨F,0,F⟩
theorem aaL(l:aj)(w:World)(ae:l.length<=100000):
 Calls prog 132 #[.string (aY l),.func (.func 133) #[] #[]] w fun e w'=>∃A,e= .returned (.slice (some ⟨A,0,none⟩) (vC l).length (vC l).length)/\
  gK w' w.heap.size (some ⟨A,0,none⟩) (vC l).length (vC l).length ((vC l).map aY)/\X w w':=by
 have h:=Any.strings_FieldsFunc_runes ZG 133 #[] (Et func133 au F) oh (aY l) w (by rw[o7];omega) (fun W x _ _=>aaK x W) au au;have R:Lib.goFieldsP oh (aY l)=(vC l).map aY:=by
  have:=Zo (aY l);rw[pW]at this;rw[<-this,Rt]
 rw[R,length_map]at h;refine h.mono ?_;rintro e w' ⟨A,rfl,u,E,I⟩;obtain⟨_,_,aa,_,_,hc⟩:=iJ E;injection aa with j e2 ac;rw[<-j]at hc;have ad:=H9 vw l [];refine⟨A,F,⟨by rw[length_map],Nat.le_refl _,?_,?_,.inr ⟨_,F,u⟩,hc⟩,I⟩
 ·show(oI vw [] l).length<=_;omega
 ·intro s hs;obtain⟨y,ab,rfl⟩:=mem_map.1 hs;have:=H8 vw l [] y ab;rw[o7];simp at this;omega
def Ir:aT:=[sQ,qE,sS,qF,qG]
theorem aaM(x:ByteArray):xK x=true↔x∈Ir:=by
 unfold xK Ir;simp only[Bool.or_eq_true,decide_eq_true_eq,mem_cons,not_mem_nil,or_false,or_assoc]
theorem aaN(x:ByteArray)(w:World):Calls prog 190 #[.string x] w fun e w'=>e= .returned (.bool (xK x))/\X w w':=by
 go_enter func190,ntmps190;go_wp2_with fail;generalize j:World.alloc w _=u;have E:ah u w.heap.size (Ir.map bM) 9:=by rw[<-j];exact ah.aI F F
 have I:X w u:=by rw[<-j];exact(X.refl w).alloc _
 obtain⟨R,aa⟩:=aB E I;clear j E I;refine(QS x Ir (some ⟨w.heap.size,0,none⟩) 5 5 u F J (aK.eG R)).mono ?_;rintro e ac ⟨b,rfl,hb,rfl⟩;have ab:b=xK x:=by
  rw[Bool.eq_iff_iff,hb,aaM]
 subst ab;clear hb;go_wp2_with fail;go_ret;exact⟨F,aa⟩
theorem aaO(l:aj): -9223372036854775808<=gV l/\gV l<=9223372036854775807:=by
 unfold gV;cases h:Lib.atoiAll l with
 |ok v=>exact Lib.atoiAll_bounds h
 |range=>
  simp only[Lib.atoiSat];split<;>omega
 |_=>simp
theorem LM(l:aj)(w:World)(a2:l.length<=1000000)(an:Cb w):
 Calls prog 192 #[.string (aY l)] w fun e w'=>e= .returned (.tuple #[.int .i64 (gV l),.bool (jv l)])/\X w w':=by
 have aq:=(Hq l).1;rw[<-aq];clear aq;have a3:=o7 l;have aE:=Am (aY (Lib.itoa (gV l))) (aY l);have ap:decide (aY (Lib.itoa (gV l))=aY l)=decide (Lib.itoa (gV l)=l):=by
  congr 1
  exact propext ⟨fun e=>by have:=congrArg (fun s=>s.data.toList) e;simpa[aY]using this,fun e=>by rw[e]⟩
 rw[ap]at aE;have al:=aaO l;obtain⟨ai,ax,am,a0,ab⟩:=dM (fun w h=>wL (gV l) w al.1 al.2 h) an (fun h=>ZH l w J h) (fun h=>ZI l w J h an) (show EC l=(wG l&&decide (0<=gV l)&&decide (l.length<=3)&&decide (Lib.itoa (gV l)=l))from F);clear ap an;obtain⟨S,ag⟩:=aC (EC l);have aa:=O ag;rw[ag];clear ag al;generalize ac:wG l=ok at*;generalize Lib.itoa (gV l)=ar at*;generalize gV l=N at*;cases ok with
 |false=>
  have u:S=false:=by rw[<-aa.out,ab.out];rfl
  have I:=O u;clear u;go_enter func192,ntmps192;go_wp2_with fail;refine(a0 (by first|rfl|trivial|exact ac)).mono ?_;rintro e ad ⟨a1,rfl,j⟩;have E:=O j;clear j;go_wp2_with fail
  go_ret2
  exact⟨by rw[I.out];rfl,E⟩
 |true=>
  by_cases af:0<=N
  ·by_cases ao:l.length<=3
   ·have R:decide (0<=N)=true:=aQ af;have ae:decide (l.length<=3)=true:=aQ ao;have az:decide ((l.length:Int)<=3)=true:=aQ J;have u:S=decide (ar=l):=by rw[<-aa.out,ab.out,R,ae];rfl
    have I:=O u;clear u;generalize decide (ar=l)=q at*;go_enter func192,ntmps192;go_wp2_with fail;refine(am (by first|rfl|trivial|exact ac)).mono ?_;rintro e ad ⟨rfl,j⟩;have E:=O j;clear j;go_wp2_with fail;refine(ai ad (ax.ext E).pw).mono ?_;rintro e w2 ⟨rfl,e2⟩;have aw:=O (E.ext e2);clear e2;go_wp2_with fail
    go_ret2
    exact⟨by rw[I.out];rfl,aw⟩
   ·have R:decide (0<=N)=true:=aQ af;have ae:decide (l.length<=3)=false:=aP ao;have az:decide ((l.length:Int)<=3)=false:=aP J;have u:S=false:=by rw[<-aa.out,ab.out,R,ae];rfl
    have I:=O u;clear u ai;go_enter func192,ntmps192;go_wp2_with fail;refine(am (by first|rfl|trivial|exact ac)).mono ?_;rintro e ad ⟨rfl,j⟩;have E:=O j;clear j;go_wp2_with fail
    go_ret2
    exact⟨by rw[I.out];rfl,E⟩
  ·have R:decide (0<=N)=false:=aP af;have u:S=false:=by rw[<-aa.out,ab.out,R];rfl
   have I:=O u;clear u ai;go_enter func192,ntmps192;go_wp2_with fail;refine(am (by first|rfl|trivial|exact ac)).mono ?_;rintro e ad ⟨rfl,j⟩;have E:=O j;clear j;go_wp2_with fail
   go_ret2
   exact⟨by rw[I.out];rfl,E⟩
theorem ES(G B:Nat)(T:TypeId)(a:aN)(n c:Nat)(ws:aT)(nm:ByteArray)(w0 w:World)(ad:ah w G [.slice a n c] T)(a0:gK w0 B a n c ws)(ax:X w0 w)(cl:w0.heap.size<=G):
 Calls prog 189 #[.string nm,.pointer (some ⟨G,0,none⟩)] w fun e w'=>∃ai ao al a' n' c',e= .returned (.tuple #[.slice ai ao al,.bool (!je nm ws|| !(oZ nm ws).isEmpty)])/\
  gK w0 B ai ao al (oZ nm ws)/\gK w0 B a' n' c' (uz nm ws)/\ah w' G [.slice a' n' c'] T/\w.grownBy w' (some G):=by
 have cg:=ad.cell' (i:=0) F;have cj:=ad.frozen 0;obtain⟨a5,aq,ac⟩:=aW ad ax a0;obtain⟨b,hb⟩:=aC (je nm ws);have aa:=O hb;rw[hb];obtain⟨ab,be⟩:=aC (oZ nm ws);have a6:=O be;rw[be];obtain⟨ar,bc⟩:∃ar:Ending->World->Prop,ar=fun e w'=>∃ai ao al a' n' c',e= .returned (.tuple #[.slice ai ao al,.bool (!b|| !ab.isEmpty)])/\
  gK w0 B ai ao al ab/\gK w0 B a' n' c' (uz nm ws)/\ah w' G [.slice a' n' c'] T/\w.grownBy w' (some G):=⟨_,F⟩
 rw[<-bc];have a9:=O bc;clear bc be hb;by_cases b0:b=false
 ·subst b0;have b2:ab=[]:=by rw[<-a6.out];exact Hy aa
  have b8:uz nm ws=ws:=by unfold uz;rw[aa.out];rfl
  have am:∀e,e=Ending.returned (.tuple #[.slice none 0 0,.bool true])->ar e w:=by
   rintro e rfl;rw[a9.out,b8,b2];exact⟨none,0,0,a,n,c,F,gK.nil _ _,ac,a5,Rw _ _⟩
  have af:=O am;clear am b2 b8;cases ws with
  |nil=>
   obtain rfl:n=0:=ac.hl.symm;clear a0 ad ax;go_enter func189,ntmps189;go_wp2
   (try go_ret2)
   exact af _ F
  |cons x r=>
   obtain⟨A,rfl,aw⟩:=(ac.ext aq).at (k:=0) (x:=x) F;rw[Hz]at aw;have hn:1<=n:=by have:=ac.hl;simp at this;omega
   have ca:((n:Int)==0)=false:=by simp;omega
   have cb:decide ((n:Int)=0)=false:=by simp;omega
   have n2:decide (n=0)=false:=by simp;omega
   have co:0<n:=J;have aE:=Am x nm;rw[show decide (x=nm)=false from aa.out]at aE;clear a0 ad ax hn;go_enter func189,ntmps189;go_wp2
   (try go_ret2)
   exact af _ F
 obtain rfl:b=true:=by cases b<;>simp_all
 obtain⟨x,r,rfl⟩:∃x r,ws=x::r:=by
  cases ws with
  |nil=>exact absurd aa.out (by simp[je])
  |cons x r=>exact⟨x,r,F⟩
 have b3:ab=r.take (xM r):=by rw[<-a6.out];unfold oZ;rw[aa.out];rfl
 have b9:uz nm (x::r)=r.drop (xM r):=by unfold uz;rw[aa.out];rfl
 rw[b9]at a9;have ce:=O b3;obtain⟨A,rfl,aw⟩:=(ac.ext aq).at (k:=0) (x:=x) F;rw[Hz]at aw;have hn:1<=n:=by have:=ac.hl;simp at this;omega
 have bo:=O hn;have ca:((n:Int)==0)=false:=by simp;omega
 have cb:decide ((n:Int)=0)=false:=by simp;omega
 have n2:decide (n=0)=false:=by simp;omega
 have aE:=Am x nm;rw[show decide (x=nm)=true from aa.out]at aE;have bt:=O (ac.drop hn);clear a0 ad ax hn b3 b9 b0 a6;go_enter func189,ntmps189;go_upto_region 4 with(refine bF F (HY (p:=some A) (n:=n) (c:=c) (k:=1) F F F underlying98 rP bo _) ?_);have an:=bt.out;rw[show(x::r).drop 1=r from F]at an;obtain⟨R,bz⟩:=aC (dL (some A) c 1);obtain⟨u,b5⟩:=aC (n - 1);obtain⟨E,b1⟩:=aC (c - 1);rw[bz,b5,b1]at an⊢;obtain⟨a2,a1⟩:=aC (World.setCell w ⟨G,0,none⟩ (.slice R u E));rw[a1];have bv:ah a2 G [.slice R u E] T:=by rw[<-a1];exact a5.set 0 (.slice R u E)
 have bk:aU w G a2:=by rw[<-a1];exact aU.setCell _
 obtain⟨I,cc,cd,G1⟩:=bU an bv (bk.ext aq cl) (Rx (Rw w (some G)) bk);have cn:=an.hm;clear an bv bk a1 bz b5 b1 bt bo ca cb n2 aE aw cg cj a5 aq aa;go_wp2_with fail;go_loopw [5] (fun i wr=>∃k:Nat,k<=u/\i= .int .i64 (k:Int)/\(∀x∈r.take k,xK x=false)/\X a2 wr) (fun i _=>u - (intOf i).toNat)
 case atStart=>exact⟨0,J,F,aF,X.refl _⟩
 case round=>
  obtain⟨k,hk,rfl,b7,ba⟩:=hrel;obtain⟨ag,ap,ae⟩:=aW b7 ba (cc.ext ba);have bw:=ae.cell' (i:=0) F;have bx:=ae.frozen 0;clear b7 ba;have am:∀(k:Nat) (w2 a3:World),k<=u->k=xM r->X a2 w2->ah a3 G [.slice (dL R E k) (u - k) (E - k)] T->aU w2 G a3->∀e,e=Ending.returned (.tuple #[.slice R k E,.bool (decide ((0:Int)<(k:Int)))])->ar e a3:=by
   rintro k w2 a3 hk b' e2 cf cm e rfl;rw[a9.out];have b6:=I.hnc;have b4:ab=r.take k:=by rw[ce.out,b']
   refine⟨R,k,E,dL R E k,u - k,E - k,?_,?_,?_,cf,Rx (ZM G1 e2) cm⟩
   ·have:decide ((0:Int)<(k:Int))=(!true|| !ab.isEmpty):=by
     have bd:ab.length=k:=by
      have:=(I.take hk (Nat.le_trans hk b6)).hl;rw[b4];exact this
     cases ab with
     |nil=>simp at bd;subst bd;rfl
     |cons y z=>simp at bd;simp;omega
    rw[this]
   ·rw[b4];exact I.take hk (Nat.le_trans hk b6)
   ·rw[<-b'];exact I.drop hk
  have af:=O am;clear am;by_cases az:k<u
  ·have ch:decide ((k:Int)<(u:Int))=true:=aQ J;have ci:decide (k<u)=true:=aQ az;obtain⟨y,bj⟩:∃y,r[k]? =some y:=⟨r[k]'(by rw[I.hl];exact az),aF⟩;obtain⟨bl,rfl,ck⟩:=(I.ext (cd.ext ap)).at bj;have bu:=O bj;have bh:=aaN y wr;obtain⟨q,bi⟩:=aC (xK y);rw[bi]at bh;obtain⟨br,bp⟩:=aB bi bh;clear bj bi bh;go_wp2_with fail;refine bp.mono ?_;rintro e w2 ⟨rfl,e2⟩;obtain⟨bm,a4⟩:=aB (ap.ext e2) (ae.ext e2);clear e2 bp bw bx ae ap;have bw:=a4.cell' (i:=0) F;have bx:=a4.frozen 0;cases q with
   |false=>
    go_wp2_with fail;go_roundw
    case rel=>
     refine⟨k+1,J,by go_num,(fun z j=> ?_),bm⟩;rw[take_add_one,bu.out,mem_append]at j;rcases j with j|j
     ·exact ag z j
     ·simp at j;rw[j];exact br
    case measure=>simp[intOf];omega
   |true=>
    obtain⟨a_,a7⟩:=aB (show k=xM r from(Rh (by rw[I.hl];exact hk) ag (fun z j=>by rw[bu.out]at j;injection j with j;rw[<-j];exact br)).symm) az;have a8:=O I.hnc;clear az ch ci hk ck ag;go_upto_region 7 with fail;go_wp2_with (first|(refine bF F (Ru (p:=some bl) (n:=u) (c:=E) (k:=k) F F F underlying98 rP (by have:=a7.out;have:=a8.out;omega) _) ?_)|(refine bF F (HY (p:=some bl) (n:=u) (c:=E) (k:=k) F F F underlying98 rP (by have:=a7.out;omega) _) ?_))
    (try go_ret2)
    exact af k w2 _ (Nat.le_of_lt a7) a_ bm (a4.set 0 _) (aU.setCell _) _ (by first|rfl|simp)
  ·obtain rfl:k=u:=J;have a_:=O (show k=xM r from(Rh (by rw[I.hl];exact hk) ag (fun z j=>by
    have:=(List.getElem?_eq_some_iff.1 j).1;rw[I.hl]at this;omega)).symm)
   have a8:=O I.hnc;clear ag hk;go_upto_region 7 with fail;go_wp2_with (first|(refine bF F (Ru (p:=R) (n:=k) (c:=E) (k:=k) F F F underlying98 rP a8 _) ?_)|(refine bF F (HY (p:=R) (n:=k) (c:=E) (k:=k) F F F underlying98 rP bG _) ?_))
   (try go_ret2)
   refine af k wr _ bG a_ ap ?_ (aU.setCell _) _ (by first|rfl|simp);rw[Nat.sub_self];exact ae.set 0 _
section
open Go Go.RowKit
structure Sl where
 a:aN
 n:Nat
 c:Nat
def Sl.v(s:Sl):Value:= .slice s.a s.n s.c
def aaP:Sl:=⟨none,0,0⟩
def oL:Nat->ByteArray
 |0=>sQ
 |1=>qE
 |2=>sS
 |3=>qF
 |_=>qG
def mQ:Nat->aT->aT
 |0,ws=>BZ ws
 |k+1,ws=>uz (oL k) (mQ k ws)
def Iu(k:Nat)(ws:aT):aT:=oZ (oL k) (mQ k ws)
def sZ(k:Nat)(ws:aT):Bool:= !je (oL k) (mQ k ws)|| !(Iu k ws).isEmpty
def qK(q:Nat->Sl)(k:Nat)(s:Sl):Nat->Sl:=fun j=>if j=k then s else q j
def nJ(d:Bool)(q:Nat->Sl)(j la:aT):aS:={xQ d with ra:=(q 0).a,rn:=(q 0).n,rc:=(q 0).c,roles:=j,la:=(q 2).a,ln:=(q 2).n,lc:=(q 2).c,labels:=la}
def LP(d:Bool)(ws:aT):aS:={xQ d with rn:=(oJ ws).length,roles:=oJ ws,ln:=(oK ws).length,labels:=oK ws}
def xX(d:Bool)(ws:aT):aS:={LP d ws with an:=(kX ws).length,acts:=(kX ws).map mG}
def tq(d:Bool)(ws:aT):aS:={xX d ws with fr:=Hr (iG ws),tt:=Ht (iG ws)}
def CQ(d:Bool)(ws:aT):aS:={tq d ws with nd:=Hu (jk ws),ow:=Hw (jk ws)}
theorem aaQ(ws:aT):CQ (je vF ws) ws=Aj ws:=F
theorem aaR{d:Bool}{ws:aT}(h:iG ws=[]):tq d ws=xX d ws:=by
 show({xX d ws with fr:=Hr (iG ws),tt:=Ht (iG ws)}:aS)=xX d ws;rw[h];rfl
theorem aaS{d:Bool}{ws:aT}(h:jk ws=[]):CQ d ws=tq d ws:=by
 show({tq d ws with nd:=Hu (jk ws),ow:=Hw (jk ws)}:aS)=tq d ws;rw[h];rfl
theorem aaT{d:Bool}{ws:aT}{x:ByteArray}(h:iG ws=[x])(j:jv (pV x).1=true)(u:jv (pV x).2.1=true):{xX d ws with fr:=gV (pV x).1,tt:=gV (pV x).2.1}=tq d ws:=by
 show _=({xX d ws with fr:=Hr (iG ws),tt:=Ht (iG ws)}:aS);rw[h,(Hq _).2 j,(Hq _).2 u];rfl
theorem aaU{d:Bool}{ws:aT}{x y:ByteArray}(h:jk ws=[x,y])(j:jv x.data.toList=true):{tq d ws with nd:=gV x.data.toList,ow:=y}=CQ d ws:=by
 show _=({tq d ws with nd:=Hu (jk ws),ow:=Hw (jk ws)}:aS);rw[h,(Hq _).2 j];rfl
theorem LQ(ws:aT):NH ws=(bL ws&&sZ 0 ws&&sZ 1 ws&&sZ 2 ws&&sZ 3 ws&&sZ 4 ws&&(yP ws).isEmpty&&wJ (kX ws)&&((iG ws).isEmpty||sU (iG ws))&&((jk ws).isEmpty||xO (jk ws))):=F
theorem ET{ws:aT}{k:Nat}(hk:k<5)(h:sZ k ws=false):aR ws=false:=by
 rw[<-Ny,LQ];rcases(show k=0∨k=1∨k=2∨k=3∨k=4 by omega)with rfl|rfl|rfl|rfl|rfl<;>rw[h]<;>simp
theorem aaV{ws:aT}(u:bL ws=true)(h:∀j,j<5->sZ j ws=true):aR ws=((yP ws).isEmpty&&wJ (kX ws)&&((iG ws).isEmpty||sU (iG ws))&&((jk ws).isEmpty||xO (jk ws))):=by
 rw[<-Ny,LQ,u,h 0 J,h 1 J,h 2 J,h 3 J,h 4 J];simp
structure tu(w:World)(B G1 G2 G5 G6 G7 G8:Nat)(d:Bool)(ws:aT)(k:Nat)(q:Nat->Sl)(a:aN)(n c:Nat)(wx:World):Prop where
 e:X w wx
 b1:ah wx G1 [.slice a n c] 98
 wd:gK w B a n c (mQ k ws)
 b2:ah wx G2 (nJ d q [] []).v 192
 b5:ah wx G5 [(q 1).v] 98
 b6:ah wx G6 [(q 3).v] 98
 b7:ah wx G7 [(q 4).v] 98
 b8:ah wx G8 [.pointer (some ⟨G2,1,none⟩),.pointer (some ⟨G5,0,none⟩),.pointer (some ⟨G2,3,none⟩),.pointer (some ⟨G6,0,none⟩),.pointer (some ⟨G7,0,none⟩)] 278
 ql:∀j,j<5->gK w B (q j).a (q j).n (q j).c (if j<k then Iu j ws else[])
def yS(G2 G5 G6 G7:Nat):Nat->Nat
 |0=>G2
 |1=>G5
 |2=>G2
 |3=>G6
 |_=>G7
def gF:Nat->Nat
 |0=>1
 |2=>3
 |_=>0
variable {w wx wy wz:World} {B G1 G2 G5 G6 G7 G8 k n c n' c':Nat} {d:Bool} {ws:aT} {q:Nat->Sl} {a a':aN} {s:Sl}
theorem tu.ext(h:tu w B G1 G2 G5 G6 G7 G8 d ws k q a n c wx)(e:X wx wy):tu w B G1 G2 G5 G6 G7 G8 d ws k q a n c wy:=
 {h with e:=h.e.ext e,b1:=h.b1.ext e,b2:=h.b2.ext e,b5:=h.b5.ext e,b6:=h.b6.ext e,b7:=h.b7.ext e,b8:=h.b8.ext e}
theorem tu.step(h:tu w B G1 G2 G5 G6 G7 G8 d ws k q a n c wx)(hk:k<5)(aq:w.heap.size<=G1)(ar:G1<G2)(aw:G2<G5)(ax:G5<G6)(az:G6<G7)(aE:G7<G8)
 (hb:ah wy G1 [.slice a' n' c'] 98)(E:wx.grownBy wy (some G1))(hs:gK w B s.a s.n s.c (Iu k ws))(am:gK w B a' n' c' (mQ (k+1) ws))
 (af:wz=wy.setCell ⟨yS G2 G5 G6 G7 k,gF k,none⟩ s.v):tu w B G1 G2 G5 G6 G7 G8 d ws (k+1) (qK q k s) a' n' c' wz:=by
 have u:aU wy (yS G2 G5 G6 G7 k) wz:=by rw[af];exact aU.setCell _
 have ao:yS G2 G5 G6 G7 k≠G1:=by
  rcases(show k=0∨k=1∨k=2∨k=3∨k=4 by omega)with rfl|rfl|rfl|rfl|rfl<;>(simp only[yS];omega)
 have ap:yS G2 G5 G6 G7 k≠G8:=by
  rcases(show k=0∨k=1∨k=2∨k=3∨k=4 by omega)with rfl|rfl|rfl|rfl|rfl<;>(simp only[yS];omega)
 have an:w.heap.size<=yS G2 G5 G6 G7 k:=by
  rcases(show k=0∨k=1∨k=2∨k=3∨k=4 by omega)with rfl|rfl|rfl|rfl|rfl<;>(simp only[yS];omega)
 have ai:X w wy:=h.e.grown E (fun g e=>by injection e with e;omega);have I:=h.b2.grown E (fun e=>by injection e with e;omega);have R:=h.b5.grown E (fun e=>by injection e with e;omega);have aa:=h.b6.grown E (fun e=>by injection e with e;omega);have ab:=h.b7.grown E (fun e=>by injection e with e;omega);have ag:=h.b8.grown E (fun e=>by injection e with e;omega);have ql:∀j,j<5->gK w B (qK q k s j).a (qK q k s j).n (qK q k s j).c (if j<k+1 then Iu j ws else[]):=by
  intro j al;unfold qK;by_cases ad:j=k
  ·subst ad;rw[if_pos F,if_pos J];exact hs
  ·have ac:=h.ql j al;rw[if_neg ad];by_cases ae:j<k
   ·rw[if_pos ae]at ac;rw[if_pos J];exact ac
   ·rw[if_neg ae]at ac;rw[if_neg J];exact ac
 refine⟨u.ext ai an,hb.upd u ao.symm,am,?_,?_,?_,?_,ag.upd u ap.symm,ql⟩;all_goals
  subst af;rcases(show k=0∨k=1∨k=2∨k=3∨k=4 by omega)with rfl|rfl|rfl|rfl|rfl
 ·exact I.set 1 s.v
 ·exact I.upd u (by show G2≠G5;omega)
 ·exact I.set 3 s.v
 ·exact I.upd u (by show G2≠G6;omega)
 ·exact I.upd u (by show G2≠G7;omega)
 ·exact R.upd u (by show G5≠G2;omega)
 ·exact R.set 0 s.v
 ·exact R.upd u (by show G5≠G2;omega)
 ·exact R.upd u (by show G5≠G6;omega)
 ·exact R.upd u (by show G5≠G7;omega)
 ·exact aa.upd u (by show G6≠G2;omega)
 ·exact aa.upd u (by show G6≠G5;omega)
 ·exact aa.upd u (by show G6≠G2;omega)
 ·exact aa.set 0 s.v
 ·exact aa.upd u (by show G6≠G7;omega)
 ·exact ab.upd u (by show G7≠G2;omega)
 ·exact ab.upd u (by show G7≠G5;omega)
 ·exact ab.upd u (by show G7≠G2;omega)
 ·exact ab.upd u (by show G7≠G6;omega)
 ·exact ab.set 0 s.v
theorem tu.st(h:tu w B G1 G2 G5 G6 G7 G8 d ws 5 q a n c wx):fH w wx B G2 (nJ d q (oJ ws) (oK ws)) (LP d ws):=by
 have j:=h.ql 0 J;have u:=h.ql 2 J;exact((fH.zero w wx B G2 d).roles (a:=(q 0).a) (n:=(q 0).n) (c:=(q 0).c) (ws:=oJ ws) j).labels (a:=(q 2).a) (n:=(q 2).n) (c:=(q 2).c) (ws:=oK ws) u
structure qc(w:World)(B G2 G5 G6 G7:Nat)(ws:aT)(q:Nat->Sl)(r x:aS)(wx:World):Prop where
 e:X w wx
 b2:ah wx G2 r.v 192
 b5:ah wx G5 [(q 1).v] 98
 b6:ah wx G6 [(q 3).v] 98
 b7:ah wx G7 [(q 4).v] 98
 w1:gK w B (q 1).a (q 1).n (q 1).c (kX ws)
 w3:gK w B (q 3).a (q 3).n (q 3).c (iG ws)
 w4:gK w B (q 4).a (q 4).n (q 4).c (jk ws)
 st:fH w wx B G2 r x
theorem fH.fr{W:World}{G:Nat}{r x:aS}(h:fH w W B G r x)(f:Int):fH w W B G {r with fr:=f} {x with fr:=f}:={h with q:=by rw[<-h.q];rfl}
theorem fH.tt{W:World}{G:Nat}{r x:aS}(h:fH w W B G r x)(f:Int):fH w W B G {r with tt:=f} {x with tt:=f}:={h with q:=by rw[<-h.q];rfl}
theorem fH.nd{W:World}{G:Nat}{r x:aS}(h:fH w W B G r x)(f:Int):fH w W B G {r with nd:=f} {x with nd:=f}:={h with q:=by rw[<-h.q];rfl}
theorem fH.ow{W:World}{G:Nat}{r x:aS}(h:fH w W B G r x)(o:ByteArray)(j:o.size<=140737488355328):fH w W B G {r with ow:=o} {x with ow:=o}:={h with q:=by rw[<-h.q];rfl,os:=j}
structure rU(w:World)(G2 G5 G6 G7:Nat)(q:Nat->Sl)(r:aS)(wx:World):Prop where
 e:X w wx
 b2:ah wx G2 r.v 192
 b5:ah wx G5 [(q 1).v] 98
 b6:ah wx G6 [(q 3).v] 98
 b7:ah wx G7 [(q 4).v] 98
theorem rU.ext{r:aS}(h:rU w G2 G5 G6 G7 q r wx)(e:X wx wy):rU w G2 G5 G6 G7 q r wy:=⟨h.e.ext e,h.b2.ext e,h.b5.ext e,h.b6.ext e,h.b7.ext e⟩
theorem rU.yQ{r:aS}{p:Option Nat}(h:rU w G2 G5 G6 G7 q r wx)(E:G2<G5)(I:G5<G6)(R:G6<G7)(g:wx.grownBy wy p)(j:∀g,p=some g->w.heap.size<=g/\G7<g):rU w G2 G5 G6 G7 q r wy:=
 ⟨h.e.grown g (fun i u=>(j i u).1),h.b2.grown g (fun e=>by have:=(j _ e.symm).2;omega),h.b5.grown g (fun e=>by have:=(j _ e.symm).2;omega),h.b6.grown g (fun e=>by have:=(j _ e.symm).2;omega),h.b7.grown g (fun e=>by have:=(j _ e.symm).2;omega)⟩
theorem rU.rule{r r':aS}(h:rU w G2 G5 G6 G7 q r wx)(j:w.heap.size<=G2)(E:G2<G5)(I:G5<G6)(R:G6<G7)(hb:ah wy G2 r'.v 192)(u:aU wx G2 wy):rU w G2 G5 G6 G7 q r' wy:=
 ⟨u.ext h.e j,hb,h.b5.upd u J,h.b6.upd u J,h.b7.upd u J⟩
theorem aaW(l:aT):∀z∈l.map mG,(Lit.int .i64 z).wf=true:=by
 intro z E;obtain⟨y,_,rfl⟩:=mem_map.1 E;have:=Rl y;obtain⟨m,u⟩:∃m:Nat,mG y=(m:Int):=⟨(mG y).toNat,J⟩;rw[u]at this⊢;have j:m<13:=J;exact(show∀m<13,(Lit.int .i64 ((m:Nat):Int)).wf=true by decide) m j
theorem tu.j(h:tu w B G1 G2 G5 G6 G7 G8 d ws 5 q a n c wx):qc w B G2 G5 G6 G7 ws q (nJ d q (oJ ws) (oK ws)) (LP d ws) wx:=
 ⟨h.e,h.b2,h.b5,h.b6,h.b7,h.ql 1 J,h.ql 3 J,h.ql 4 J,h.st⟩
variable {r x r' x':aS}
theorem qc.gN(h:qc w B G2 G5 G6 G7 ws q r x wx):rU w G2 G5 G6 G7 q r wx:=⟨h.e,h.b2,h.b5,h.b6,h.b7⟩
theorem rU.j(h:rU w G2 G5 G6 G7 q r wx)(j:gK w B (q 1).a (q 1).n (q 1).c (kX ws))(u:gK w B (q 3).a (q 3).n (q 3).c (iG ws))(E:gK w B (q 4).a (q 4).n (q 4).c (jk ws))(I:fH w wx B G2 r x):qc w B G2 G5 G6 G7 ws q r x wx:=
 ⟨h.e,h.b2,h.b5,h.b6,h.b7,j,u,E,I⟩
theorem qc.ext(h:qc w B G2 G5 G6 G7 ws q r x wx)(e:X wx wy):qc w B G2 G5 G6 G7 ws q r x wy:=
 {h with e:=h.e.ext e,b2:=h.b2.ext e,b5:=h.b5.ext e,b6:=h.b6.ext e,b7:=h.b7.ext e,st:=h.st.ext e}
theorem qc.rule(h:qc w B G2 G5 G6 G7 ws q r x wx)(j:w.heap.size<=G2)(E:G2<G5)(I:G5<G6)(R:G6<G7)(hb:ah wy G2 r'.v 192)(u:aU wx G2 wy)(hs:fH w wy B G2 r x->fH w wy B G2 r' x'):
 qc w B G2 G5 G6 G7 ws q r' x' wy:=
 ⟨u.ext h.e j,hb,h.b5.upd u J,h.b6.upd u J,h.b7.upd u J,h.w1,h.w3,h.w4,hs (h.st.upd u bG)⟩
end
end Go.Proofs.YtjlhhnkhcbpnjaaGreatDoor
