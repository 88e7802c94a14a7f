/- Laws; no condition. -/
import Derived.Test.YtjlhhnkhcbpnjaaGreatDoorJN1
import Derived.Laws.StructEq
import Derived.Laws.BytesArg
import Derived.Laws.OwnMore
import Derived.Lib.Walk
import Derived.Lib.SliceRun
import Derived.Lib.AppendZerosOnto
import Derived.Laws.AppendOwnNone
import Derived.Laws.MakeOwn
import Derived.Laws.ResultCell
import Derived.Stop.BytesEq
import Derived.Deep.DeepCutAuto
import Derived.Deep.CutBlock
namespace Go.Proofs.YtjlhhnkhcbpnjaaGreatDoor
open Go Go.RowKit List Tryz
open Go.Value(int)
open Go.World(alloc setCell)
open Go.Builtin(zeroCells append_)
set_option linter.all false
set_option maxHeartbeats 40000000
set_option maxRecDepth 100000
def oP{w w':World}{p:Addr}{v:Value}(h:w.cell? p=some v)(e:aj w w'):w'.cell? p=some v:=by
 have a:=kN h;rw[e.cell a];exact h
def QD(x y:ByteArray):(x.toList==y.toList)=true↔x=y:=by
 rw[yj,FN,FN];exact⟨λh=>KQ (Array.toList_inj.mp h),λh=>by rw[h]⟩
def dx:ByteArray->Value:= .string
def NP{ls:bq}{k:Nat}{x:ByteArray}(h:ls[k]? =some x):(ls.map dx)[k]? =some (.string x):=by rw[iT,h];rfl
theorem aaR:∀x y:ah,Op.bytesLess x y= !(Op.bytesLess y x||y==x)
 |[],[]=>rfl
 |[],_::_=>rfl
 |_::_,[]=>rfl
 |a::x,b::y=>by
  have ih:=aaR x y;unfold Op.bytesLess;rw[ih];have g:a<b∨a=b∨b<a:=by
   rcases Nat.lt_trichotomy a.toNat b.toNat with h|h|h
   ·exact .inl (UInt8.lt_iff_toNat_lt.2 h)
   ·exact .inr (.inl (M5.1 h))
   ·exact .inr (.inr (UInt8.lt_iff_toNat_lt.2 h))
  rcases g with h|h|h
  ·have d:¬b<a:=UInt8.lt_asymm h;have c:¬b=a:=λe=>by subst e;exact Ng _ h
   have f:(b==a)=false:=by simpa using c
   simp[h,d,f,c]
  ·subst h;simp[Ng]
  ·have d:¬a<b:=UInt8.lt_asymm h;have c:¬a=b:=λe=>by subst e;exact Ng _ h
   have f:(a==b)=false:=by simpa using c
   simp[h,d,f]
def BA(a b:ByteArray):Bool:=Op.bytesLess a.toList b.toList
def aaQ(a b:ByteArray):(Op.bytesLess b.toList a.toList||b.toList==a.toList)= !BA a b:=by grind [BA,aaR]
def Yv(ls:bq)(k:Nat):Prop:=∀i a b,i+1<k->ls[i]? =some a->ls[i+1]? =some b->BA a b=true
def Yv.one(ls:bq){k:Nat}(h:k<=1):Yv ls k:=λi _ _ a=>by omega
def CZ:(prog.info? 9).map (·.size)=some 1:=aC
def xJ:KF prog 9:=⟨⟨_,underlying9,F⟩,aC⟩
def pR{P:Program}{o:Oper}{a:Act}{w:World}{ty:TypeId}{x:Operand}{p:Addr}{v:Value}(e:o.op= .load ty x)(h:a.eval x= .pointer (some p))(c:w.cell? p=some v)(f:KF P ty):
 (execOp a.eval o).run P w= .ok (.value v) w:=by
 obtain⟨⟨d,g,i⟩,j⟩:=f;have b:(isAgg ty).run P w= .ok false w:=by
  unfold isAgg;rw[iC,jB g w];cases d<;>simp_all
 unfold execOp;simp only[e,h,Instr.loadAt,Instr.sureAddr,iC,ni,ng];simp[loadVar,iC,b,go_sem,c]
def Ki{w:World}{a:aO}{ls:bq}{k:Nat}{x:ByteArray}(h:aM w a (ls.map dx))(b:ls[k]? =some x):∃A,a=some A/\w.cell? (A.add (k*1))=some (.string x):=by
 obtain⟨g,o,rfl,c⟩:=h.jg (by rw[aI];have:=(iK.1 b).1;omega);exact⟨_,F,by rw[eX,nA];exact c k _ (NP b)⟩
def CP(n a b:Int)(w:World):
 qR 155 #[.int .i64 n,.int .i64 a,.int .i64 b] w (.bool (decide (n<a)||decide (b<n))):=by
 by_cases h:n<a
 ·have c:=bV h;go_enter func155,ntmps155;go_wp2;go_ret;exact⟨by first|rfl|(rw[c];rfl),F⟩
 ·have c:=bg h;go_enter func155,ntmps155;go_wp2;go_ret;exact⟨by first|rfl|(rw[c];rfl),F⟩
section
def aU(n:Nat):Nat:=2^Nat.log2 (n - 1)
def oF{n:Nat}(h:2<=n):1<=aU n/\aU n<n/\n<=2*aU n:=by
 unfold aU;have b:=Nat.log2_self_le (n:=n - 1) J;have a:=Nat.lt_log2_self (n:=n - 1);rw[Qn]at a;have c:0<2^Nat.log2 (n - 1):=Nat.pow_pos J;omega
def adk{n j:Nat}(a:2^j<n)(b:n<=2*2^j):2^j=aU n:=by grind [aU,Nat.pow_pos,Nat.log2,Nat.log2_eq_iff,Nat.pow_succ]
def kS(i n:Nat):List Bool:=
 if h:n<2 then[]else if i<aU n then kS i (aU n)++[false]else kS (i - aU n) (n - aU n)++[true]
termination_by n
decreasing_by
 ·have:=oF (n:=n) J;omega
 ·have:=oF (n:=n) J;omega
def SV(i n:Nat)(h:n<2):kS i n=[]:=by rw[kS,zW h]
def Mf{i n:Nat}(h:2<=n)(a:i<aU n):kS i n=kS i (aU n)++[false]:=by
 rw[kS,FI J,aN a]
def Mg{i n:Nat}(h:2<=n)(a:¬i<aU n):kS i n=kS (i - aU n) (n - aU n)++[true]:=by
 rw[kS,FI J,aJ a]
def Pm(i n:Nat):(kS i n).length<=n:=by
 induction n using Nat.strongRecOn generalizing i with
 |ind n b=>
  by_cases h:n<2
  ·rw[SV _ _ h];simp
  ·have hs:=oF (n:=n) J;by_cases a:i<aU n
   ·rw[Mf J a,bQ];have:=b (aU n) J i;simp only[iU,sD];omega
   ·rw[Mg J a,bQ];have:=b (n - aU n) J (i - aU n);simp only[iU,sD];omega
section
variable (nd:ah->ah->ah)
def ads(x:ah)(p:Bool×ah):ah:=if p.1 then nd p.2 x else nd x p.2
def pW(x:ah)(s:List Bool)(a:List (ah)):ah:=(s.zip a).foldl (ads nd) x
def aiH(x:ah)(a:List (ah)):pW nd x [] a=x:=F
theorem VI(x:ah)(s:List Bool)(b:Bool)(a:List (ah))(y:ah)(h:s.length=a.length):
 pW nd x (s++[b]) (a++[y])=if b then nd y (pW nd x s a)else nd (pW nd x s a) y:=by
 unfold pW;rw[zip_append h,foldl_append];rfl
def aiI(x:ah)(s:List Bool)(a:List (ah))(k:Nat)(hs:k<s.length)(b:k<a.length):
 pW nd x (s.take (k+1)) (a.take (k+1))=if s[k]then nd a[k] (pW nd x (s.take k) (a.take k))else nd (pW nd x (s.take k) (a.take k)) a[k]:=by grind [take_succ_eq_append_getElem,VI]
theorem JQ(d:∀a b,(nd a b).length=32)(x:ah)(s:List Bool)(c:List (ah))(e:x.length=32):(pW nd x s c).length=32:=by
 unfold pW;generalize s.zip c=z;induction z generalizing x with
 |nil=>exact e
 |cons p z f=>
  rw[foldl_cons];apply f;unfold ads;split<;>exact d _ _
def kF(m n:Nat)(whole:Bool):Nat:=
 if h:n<2 then(if whole then 0 else 1)else if m=n then(if whole then 0 else 1)else if m<=aU n then kF m (aU n) whole+1 else kF (m - aU n) (n - aU n) false+1
termination_by n
decreasing_by
 ·have:=oF (n:=n) J;omega
 ·have:=oF (n:=n) J;omega
def mU(b:ah)(m n:Nat)(whole:Bool)(a:List (ah)):ah×ah:=
 if h:n<2 then(if whole then(b,b)else(a.headD [],a.headD []))else if m=n then(if whole then(b,b)else(a.headD [],a.headD []))else
  if m<=aU n then((mU b m (aU n) whole a.dropLast).1,nd (mU b m (aU n) whole a.dropLast).2 (a.getLastD []))
  else(nd (a.getLastD []) (mU b (m - aU n) (n - aU n) false a.dropLast).1,nd (a.getLastD []) (mU b (m - aU n) (n - aU n) false a.dropLast).2)
termination_by n
decreasing_by
 all_goals have:=oF (n:=n) J;omega
end
def NZ{n:Nat}(whole:Bool):kF n n whole=if whole then 0 else 1:=by
 rw[kF];split
 ·rfl
 ·rw[aN F]
def H9{m n:Nat}{whole:Bool}(a:1<=m)(h:m<n)(b:m<=aU n):kF m n whole=kF m (aU n) whole+1:=by grind [kF]
def H_{m n:Nat}{whole:Bool}(a:1<=m)(h:m<n)(b:¬m<=aU n):kF m n whole=kF (m - aU n) (n - aU n) false+1:=by grind [kF]
def QV(c:ah->ah->ah)(a:ah)(n:Nat)(whole:Bool)(b:List (ah)):mU c a n n whole b=if whole then(a,a)else(b.headD [],b.headD []):=by
 rw[mU];split
 ·rfl
 ·rw[aN F]
def Ve(a:ah->ah->ah)(b:ah){m n:Nat}(whole:Bool)(rest:List (ah))(c:ah)(d:1<=m)(h:m<n)(e:m<=aU n):
 mU a b m n whole (rest++[c])=((mU a b m (aU n) whole rest).1,a (mU a b m (aU n) whole rest).2 c):=by grind [mU]
def Vf(a:ah->ah->ah)(c:ah){m n:Nat}(whole:Bool)(rest:List (ah))(b:ah)(d:1<=m)(h:m<n)(e:¬m<=aU n):
 mU a c m n whole (rest++[b])=(a b (mU a c (m - aU n) (n - aU n) false rest).1,a b (mU a c (m - aU n) (n - aU n) false rest).2):=by grind [mU]
def Vj(m n:Nat)(whole:Bool)(h:m<=n)(a:1<=m):kF m n whole<=n:=by
 induction n using Nat.strongRecOn generalizing m whole with
 |ind n d=>
  rcases Fz m n with b|b
  ·have hs:=oF (n:=n) J;by_cases c:m<=aU n
   ·rw[H9 a b c];have:=d (aU n) J m whole c a;omega
   ·rw[H_ a b c];have:=d (n - aU n) J (m - aU n) false J J;omega
  ·obtain rfl:m=n:=J;rw[NZ];split<;>omega
end
def jY(s t:ah):Nat->ah
 |0=>s
 |n+1=>Ac (jY s t n) ((t.drop (32*n)).take 32)
def lu{s t:ah}(hs:s.length=64)(n:Nat):(jY s t n).length=64:=by
 cases n with
 |zero=>exact hs
 |succ n=>exact Ul _ _
theorem Nt{s t b:ah}(n:Nat)(h:32*n<=t.length):jY s (t++b) n=jY s t n:=by induction n<;>grind [jY]
def qC(w:World)(g:Nat)(T:TypeId)(a t:ah)(b:Int):Prop:=
 ∃r:ah,r.length=32/\r.take (t.length%32)=t.drop (32*(t.length / 32))/\au w g (sm (jY a t (t.length / 32)) r (t.length%32:Nat) b) T
def Kj{l:ah}{i:Nat}(h:i<l.length):(l.map Y)[i]? =some (.int .u8 ((l[i]?.getD 0).toNat:Int)):=by simp[h,Y]
def QL{t b:ah}{m k:Nat}(h:t.length=32*m):(t++b).drop (32*(m+k))=b.drop (32*k):=by
 rw[drop_append,FP (by rw[h];omega),zi,h,show 32*(m+k) - 32*m=32*k by omega]
def IE:Value->Nat
 | .slice _ n _=>n
 |_=>0
def Tj(w:World)(g:Nat)(T:TypeId)(a u:ah)(b:Int)(e:Ending)(w':World):Prop:=
 e= .returned (.tuple #[])/\qC w' g T a u b/\w.grownBy w' (some g)
def amQ(o t b r:ah)(p:Int)(g m n c:Nat)(a:aO)(T:TypeId)(w:World)(hs:o.length=64)(af:r.length=32)(Q:b.length=n)(ad:t.length=32*m)
 (M:au w g (sm (jY o t m) r 0 p) T)(bm:n<=140737488355328)(ba:n<=c)(bj:c<=9223372036854775807)(L:a=none->n=0)(U:aM w a (b.map Y))(N:n=0∨∀x,a=some x->some x.block≠some g):
 Calls prog 267 #[.pointer (some ⟨g,0,none⟩),.slice a n c] w (Tj w g T o (t++b) p):=by
 have q:=O hs;clear hs;have j:=O Q;clear Q;have l:=O ad;clear ad;have y:=O af;clear af;have an:=O L;clear L;have ao:=O N;clear N;have ar:=O U;clear U;have K:=M.cell' (Gy 0 p (lu q m) y);go_enter func267,ntmps267;go_wp2;clear K;go_loopw [1] (λx wr=>∃(k d u:Nat) (s:aO),x= .slice s d u/\d+32*k=n/\d<=u/\u<=c/\Hid (s=none->d=0)/\Hid (d=0∨∀x,s=some x->some x.block≠some g)/\
  Hid (aM wr s ((b.drop (32*k)).map Y))/\Hid (au wr g (sm (jY o (t++b) (m+k)) r 0 p) T)/\Hid (w.grownBy wr (some g)))
  (λx _=>IE x)
 ·exact⟨0,n,c,a,F,J,ba,J,an,ao,ar,O (by rw[z8,Nt _ (by rw[l.out];omega)];exact M),O (Ib _ _)⟩
 ·obtain⟨k,d,u,s,rfl,bl,bo,bk,C,a7,G,R,aa⟩:=hrel;by_cases ac:32<=d
  ·have a9:=cO ((32:Int)<=(d:Int));have f:(b.drop (32*k)).length=d:=by rw[iI,j.out];omega
   have bb:s≠none:=λe=>by have:=C.out e;omega
   obtain⟨B,off,rfl,S⟩:=G.jg (by rw[aI,f];omega);have E:=a7.resolve_left J;have a_:B≠g:=λe=>E _ F (by rw[e]);have I:=O E;clear E;have bi:=J8 (P:=prog) underlying30 (len:=d) ac;have al:∀i,i<32->wr.cell? ⟨B,off+i,none⟩=some (.int .u8 ((((b.drop (32*k)).take 32)[i]?.getD 0).toNat:Int)):=by
    intro i a';refine S i _ ?_;rw[uM a'];exact Kj J
   have a5:=O al;clear al S bb;have a0:=O f;clear f;go_wp2_with fail;refine(Nw _ ((b.drop (32*k)).take 32) _ g B off T wr (lu q _) R a5 (.inl a_)).mono ?_;rintro e be ⟨rfl,h,g1⟩;have am:Ac (jY o (t++b) (m+k)) ((b.drop (32*k)).take 32)=jY o (t++b) (m+(k+1)):=by
    rw[<-k_,jY,QL l.out]
   rw[am]at h;have ap:=O h;clear h am;obtain⟨az,a8⟩:=aA (sI aa g1) (G.grown g1 I);clear g1;go_wp2_with (refine Kv F _ _ _ _ F (k:=32) F F underlying32 jO ac ?_);go_roundw
   ·refine⟨k+1,d - 32,u - 32,_,F,J,J,J,O λe=> ?_,O (.inr (Pk I)),O ?_,ap,az⟩
    ·have:=C.out (SS.1 e);omega
    ·have v:=a8.shift u 32 (d - 32) J;rw[<-ze,tK,gY (by rw[aI,iI,j.out];omega)]at v;rwa[show 32*k+32=32*(k+1) by omega]at v
   ·simp[IE];omega
  ·have a9:=bU ((32:Int)<=(d:Int));have f:(b.drop (32*k)).length=d:=by rw[iI,j.out];omega
   have ab:((b.drop (32*k)).map Y).length=d:=by rw[aI,f]
   have ae:d=Nat.min d 32:=(Qp J).symm;have a2:=O ae;clear ae;have W:64+d<=(sm (jY o (t++b) (m+k)) r 0 p).length:=by rw[Po _ _ (lu q _) y.out];omega
   have ax:=O W;clear W;have H:=S_ (xs:=b.drop (32*k)) 0 p (lu (t:=t++b) q (m+k)) y 0 (by rw[f];omega);rw[pG,zi,z8,kD,f]at H;have ag:(b.drop (32*k)++r.drop d).length=32:=by rw[bQ,f,iI,y.out];omega
   have ai:(b.drop (32*k)++r.drop d).take d=b.drop (32*k):=by rw[<-f,KU]
   have V:=QL (b:=b) (k:=k) l;generalize b.drop (32*k)=a6 at*;obtain⟨aw,a0⟩:=aA V f;clear f V;have a1:=O ab;clear ab;generalize bc:a6++r.drop d=r2 at*;obtain⟨a3,z,a4⟩:=aW ai ag H;clear ai ag H bc;go_wp2_with (refine Kr F _ _ _ _ F F F R underlying32 jO a1 a2 C G ax (dw _) ?_);intro be h bd;rw[a4.out]at h;have bh:=h.frozen 96;have K:=h.cell' (Gy 0 p (lu q (m+k)) z);go_wp2;have A:=h.set 96 (.int .i64 (d:Int));rw[Pp _ _ _ (lu q _) z.out]at A;obtain⟨aq,aE⟩:=aA A (Ic (JE aa bd) 96 (.int .i64 (d:Int)));clear A;refine U5 F F ⟨F,⟨r2,z,?_,?_⟩,aE⟩
   ·have v:(t++b).length%32=d:=by rw[bQ,l.out,j.out];omega
    have D:(t++b).length / 32=m+k:=by rw[bQ,l.out,j.out];omega
    rw[v,D,aw.out];exact a3
   ·have v:(t++b).length%32=d:=by rw[bQ,l.out,j.out];omega
    have D:(t++b).length / 32=m+k:=by rw[bQ,l.out,j.out];omega
    rw[v,D];exact aq
def yK(n:Nat):UInt8:=if n<10 then UInt8.ofNat (48+n)else UInt8.ofNat (87+n)
def Oe(b:UInt8):ah:=[yK (b.toNat / 16),yK (b.toNat%16)]
def jN(l:ah):ah:=l.flatMap Oe
def Cw(l:ah):(jN l).length=2*l.length:=by induction l<;>grind [jN,Oe]
def aap(l:ah)(k:Nat)(h:k<l.length):jN (l.take (k+1))=jN (l.take k)++Oe (l[k]?.getD 0):=by
 rw[take_succ_eq_append_getElem h,jN,Eh];simp[jN,h]
def Jy:ByteArray:={data:= #[48,49,50,51,52,53,54,55,56,57,97,98,99,100,101,102]}
def agk(k:Nat)(h:k<16):Jy[k]? =some (yK k):=by
 have:∀k:Fin 16,Jy[k.val]? =some (yK k.val):=bS;exact this ⟨k,h⟩
def acR(k:Nat)(h:k<16)(w:World):(Instr.index 9 (.string {data:= #[48,49,50,51,52,53,54,55,56,57,97,98,99,100,101,102]}) (.int .u8 (k:Int))).run prog w= .ok (.int .u8 ((yK k).toNat:Nat)) w:=by
 have a:=agk k h;unfold Jy at a;simp[Instr.index,asIntOf,jB underlying9,a]
def YO(b:UInt8):bits .and .u8 (b.toNat:Int) 15=(b.toNat:Int)%16:=by
 have h:=b.toNat_lt;have e:(15:Int)=((15:Nat):Int):=F;rw[e,(Y0 _ 15 h J).2.2,Nat.and_two_pow_sub_one_eq_mod b.toNat 4];omega
def aln(b:UInt8):(∀w,(Instr.index 9 (.string {data:= #[48,49,50,51,52,53,54,55,56,57,97,98,99,100,101,102]}) (.int .u8 ((b.toNat:Int) / 16))).run prog w= .ok (.int .u8 ((yK (b.toNat / 16)).toNat:Nat)) w)/\
 (∀w,(Instr.index 9 (.string {data:= #[48,49,50,51,52,53,54,55,56,57,97,98,99,100,101,102]}) (.int .u8 ((b.toNat:Int)%16))).run prog w= .ok (.int .u8 ((yK (b.toNat%16)).toNat:Nat)) w)/\
 bits .and .u8 (b.toNat:Int) 15=(b.toNat:Int)%16:=by
 have h:=b.toNat_lt;have a:(b.toNat:Int) / 16=((b.toNat / 16:Nat):Int):=J;have c:(b.toNat:Int)%16=((b.toNat%16:Nat):Int):=J;rw[YO,a,c];exact⟨acR _ J,acR _ J,F⟩
def Gf:(prog.info? 5).map (λi=>(i.zero,i.size,i.bytes))=some (some (.int .u8 0),1,1):=aC
def bN(l:ah):ByteArray:=⟨l.toArray⟩
def aaG(l:ah):((l.map λb=>(b.toNat:Int)).map λn=>UInt8.ofNat n.toNat)=l:=by simp_all [zU,map_id,GZ]
theorem SH(w:World)(a:aO)(l:ah)(n c:Nat)(h:aM w a (l.map Y))(i:n=l.length):
 (convert 32 9 (.slice a n c)).run prog w= .ok (.string (bN l)) w:=by
 subst i;have g:(l.map λb=>(b.toNat:Int)).map (int .u8)=l.map Y:=by
  rw[zU];rfl
 have e:∀x:Addr,(loadCells x l.length).run prog w= .ok (l.map Y).toArray w->(convert 32 9 (.slice (some x) l.length c)).run prog w= .ok (.string (bN l)) w:=by
  intro x d;rw[run_convert_bytes_string w 32 9 5 (some x) l.length c underlying32 underlying5 underlying9,
   run_bytesToString w x l.length c (l.map λb=>(b.toNat:Int)) (by rw[g];exact d),foldl_push_bytes,aaG]
  simp[bN,ByteArray.empty,ByteArray.emptyWithCapacity];rfl
 rcases h with h|⟨b,off,rfl,h⟩
 ·have d:l=[]:=by simpa using h
  subst d;cases a with
  |none=>exact run_convert_bytes_nil w 32 5 underlying32 underlying5 _ _ _ underlying9
  |some x=>exact e x (by simpa using M6 (P:=prog) w x [] aB)
 ·refine e _ ?_;have:=M6 (P:=prog) w ⟨b,off,none⟩ (l.map Y) (λj v f=>by
   have k:(⟨b,off,none⟩:Addr).add j=⟨b,off+j,none⟩:=by unfold Addr.add;split<;>simp_all
   rw[k];exact h j v f)
  simpa using this
def ahP(l:ah)(a:aO)(c:Nat)(w:World)(K:l.length<=140737488351232)(p:aM w a (l.map Y)):
 eO 41 #[.slice a l.length c] w (.string (bN (jN l))):=by
 obtain⟨z,r,L,y,M⟩:=gJ Gf;have B:=O p;clear p;obtain⟨n,j⟩:=aF l.length;have d:=O j;rw[j]at K⊢;clear j;go_enter func41,ntmps41;go_wp2_with (at_make;refine wpList_make_own _ F _ _ 32 F w.heap.size 5 z (.int .u8 0) 1 underlying32 r L y _ _ _ (2*n) F F J (by rw[M];omega) (by unfold maxLen;omega) (aQ _) ?_);intro R N m;have D:aj w R:=(aj.refl w).grown m (λg h=>by cases h);clear m;go_wp2;go_loopw [12,3] (λx v wr=>∃k:Nat,k<=n/\x= .int .i64 k/\v= .slice (some ⟨w.heap.size,0,none⟩) (2*k) (2*n)/\wr.ownsRow w.heap.size 5 1 v (2*k) ((jN (l.take k)).map Y)/\aj w wr)
  (λx _ _=>n - (intOf x).toNat)
 ·exact⟨0,J,F,F,by simpa[jN]using N,D⟩
 ·obtain⟨k,V,rfl,rfl,f,e⟩:=hrel;by_cases s:k<n
  ·obtain⟨b,off,rfl,q⟩:=(B.ext e).jg (by rw[aI,d.out];omega);have H:wr.cell? ⟨b,off+k,none⟩=some (.int .u8 ((l[k]?.getD 0).toNat:Nat)):=q k _ (by simp[Y,d.out,s]);clear q;have U:=Kk (l[k]?.getD 0);obtain⟨P,r2,Q⟩:=aln (l[k]?.getD 0);have hs:=aap l k (by rw[d.out];exact s);have C:=O hs;clear hs;go_wp2
   go_region_law ((refine amD F _ _ 32 F w.heap.size 5 z 1 underlying32 r y w.heap.size (2*k) (2*n) _ F (f.alloc _) ⟨wr.heap.size,0,none⟩ 2 2 ((Oe (l[k]?.getD 0)).map Y) F F (DF (T:=5) (au.bK F F)) (dw _) J ?_;intro S A o))
   all_goals
    have E:aj w S:=((e.alloc _).drew).grown o (λg h=>by cases h;exact aQ _);rw[<-jv,<-C.out]at A;clear o f e H P r2 Q;go_wp2;go_roundw
    ·exact⟨k+1,J,by go_num,by rw[show 2*(k+1)=2*k+2 by omega],A,E⟩
    ·exact fV
  ·obtain rfl:k=n:=J;have I:aM wr (some ⟨w.heap.size,0,none⟩) ((jN l).map Y):=by
    refine .inr ⟨_,_,F,λi u t=> ?_⟩;rw[gY (by rw[d.out];omega)]at f;have G:=f.cellAt i (by have:=(iK.1 t).1;rw[aI,Cw,d.out]at this;omega);rw[kD,G];exact t
   have W:=SH wr _ (jN l) (2*k) (2*k) I (by rw[Cw,d.out]);go_wp2;go_ret;exact⟨F,e⟩
def aiE(w:World):Calls prog 7 #[] w λe w'=>e= .returned (.bool true)/\aj w w':=by
 go_enter func7,ntmps7;go_wp2_with fail;refine(ahP [1] _ _ _ aB (aM.iM (T:=5) (au.bK F F))).mono ?_;rintro e c ⟨rfl,b⟩;have a:bN (jN [1])={data:= #[48,49]}:=bS;rw[a];go_wp2;go_ret;exact⟨F,(aj.alloc (aj.refl w) _).ext b⟩
def jT(n:Nat)(at_ a:Int):Int:=if at_<0 then 4 else if(n:Int)<a∨(n:Int) - a<at_ then 1 else 0
def Sn(a:aO)(n c:Nat)(at_ b:Int)(w:World)(k:n<=140737488355328)(i:0<=b)(j:b<=1099511627776):
 qR 153 #[.slice a n c,.int .i64 at_,.int .i64 b] w (.int .i64 (jT n at_ b)):=by
 by_cases d:at_<0
 ·go_enter func153,ntmps153;go_wp2;go_ret;exact⟨by simp[jT,d],F⟩
 ·by_cases e:(n:Int)<b
  ·go_enter func153,ntmps153;go_wp2;go_ret;exact⟨by simp[jT,d,e],F⟩
  ·by_cases h:(n:Int) - b<at_
   ·go_enter func153,ntmps153;go_wp2;go_ret;exact⟨by simp[jT,d,e,h],F⟩
   ·have f:jT n at_ b=0:=by simp only[jT,d,Ed];rw[aJ J]
    have g:=O f;clear f;go_enter func153,ntmps153;go_wp2;go_ret;exact⟨by rw[g.out];rfl,F⟩
def GN(a:aO)(n c:Nat)(at_ b:Int)(w:World)(e:Ending)(w':World):Prop:=
 w=w'/\e= .returned (if jT n at_ b=0 then .tuple #[.slice (fu a c at_.toNat) b.toNat (c - at_.toNat),.int .i64 0]else .tuple #[.slice none 0 0,.int .i64 (jT n at_ b)])
def anj{b:Prop}(e:b:=by
 by_cases h1:at_<0
 ·have hp:∀e w',(e=Ending.returned (.tuple #[.slice none 0 0,.int .i64 4])/\w=w')->GN a n c at_ many w e w':=by
   rintro e w' ⟨rfl,rfl⟩;have:jT n at_ many=4:=by simp[jT,h1]
   refine⟨F,?_⟩;rw[aJ J,this]
  refine Calls.mono ?_ hp;clear hp;go_enter func98,ntmps98;go_wp2
  go_ret2
  exact⟨F,F⟩
 ·have h0:0<=at_:=J;by_cases h2:(n:Int)<at_
  ·have hp:∀e w',(e=Ending.returned (.tuple #[.slice none 0 0,.int .i64 1])/\w=w')->GN a n c at_ many w e w':=by
    rintro e w' ⟨rfl,rfl⟩;have:jT n at_ many=1:=by simp only[jT,h1,Ed];rw[aN J]
    refine⟨F,?_⟩;rw[aJ J,this]
   refine Calls.mono ?_ hp;clear hp;go_enter func98,ntmps98;go_wp2
   go_ret2
   exact⟨F,F⟩
  ·by_cases h3:(n:Int) - at_<many
   ·have hp:∀e w',(e=Ending.returned (.tuple #[.slice none 0 0,.int .i64 1])/\w=w')->GN a n c at_ many w e w':=by
     rintro e w' ⟨rfl,rfl⟩;have:jT n at_ many=1:=by simp only[jT,h1,Ed];rw[aN J]
     refine⟨F,?_⟩;rw[aJ J,this]
    refine Calls.mono ?_ hp;clear hp;go_enter func98,ntmps98;go_wp2
    go_ret2
    exact⟨F,F⟩
   ·have hE:jT n at_ many=0:=by simp only[jT,h1,Ed];rw[aJ J]
    have HE:=O hE;clear hE;obtain⟨p,rfl⟩:=uO h0;obtain⟨m,rfl⟩:=uO hm;go_enter func98,ntmps98;go_wp2;all_goals
     go_ret2
     refine⟨F,?_⟩;rw[aN HE.out];simp[fu, *]):b:=e
def WO{n:Nat}{at_ a:Int}(h:jT n at_ a=0)(b:0<=a):∃p:Nat,at_=(p:Int)/\(p:Int)+a<=n:=by
 unfold jT at h;split at h
 ·cases h
 ·split at h
  ·cases h
  ·exact⟨at_.toNat,J,J⟩
def mo(l:ah)(p:Nat):UInt32:=xS (l[p]?.getD 0) (l[p+1]?.getD 0) (l[p+2]?.getD 0) (l[p+3]?.getD 0)
def Il(l:ah)(n:Nat)(at_:Int):Value:=if jT n at_ 4=0 then .tuple #[.int .u32 ((mo l at_.toNat).toNat:Nat),.int .i64 0]else .tuple #[.int .u32 0,.int .i64 (jT n at_ 4)]
def Cm{w:World}{b off:Nat}{l:ah}(h:∀(i:Nat) (u:Value),(l.map Y)[i]? =some u->w.cell? ⟨b,off+i,none⟩=some u)(i:Nat)(a:i<l.length):
 w.cell? ⟨b,off+i,none⟩=some (.int .u8 ((l[i]?.getD 0).toNat:Nat)):=h i _ (by simp[a,Y])
def abt(l:ah)(a:aO)(n c:Nat)(at_:Int)(w:World)(i:l.length=n)(v:n<=140737488355328)(u:n<=c)(g:aM w a (l.map Y)):
 eO 150 #[.slice a n c,.int .i64 at_] w (Il l n at_):=by
 by_cases h:jT n at_ 4=0
 ·obtain⟨p,rfl,y⟩:=WO h J;have d:Il l n (p:Int)= .tuple #[.int .u32 ((mo l p).toNat:Nat),.int .i64 0]:=by rw[Il,aN h];rfl
  rw[d];obtain⟨b,off,rfl,f⟩:=g.jg (by rw[aI];omega);have t:=Cm f p J;have k:=Cm f (p+1) J;have m:=Cm f (p+2) J;have o:=Cm f (p+3) J;simp only[<-k_]at k m o;obtain⟨j,s⟩:=aA h d;clear h d g f;have z:¬c=p:=J;have r:=O i;clear i;have ha:=J8 (P:=prog) underlying248 (len:=4) (aQ 4);go_enter func150,ntmps150;go_wp2_with fail;refine(Sn _ n c _ 4 w J J J).mono ?_;rintro e w' ⟨rfl,rfl⟩;rw[j.out];go_wp2_with fail;refine(XT _ _ _ _ _).mono ?_;rintro e A ⟨rfl,q⟩;go_wp2
  go_ret2
  exact⟨F,q⟩
 ·have d:Il l n at_= .tuple #[.int .u32 0,.int .i64 (jT n at_ 4)]:=by rw[Il,aJ h]
  rw[d];have x:(jT n at_ 4 != 0)=true:=by rw[bne_iff_ne];exact h
  clear d g h i;go_enter func150,ntmps150;go_wp2_with fail;refine(Sn _ n c _ 4 w J J J).mono ?_;rintro e w' ⟨rfl,rfl⟩;go_wp2
  go_ret2
  exact⟨F,aj.refl _⟩
def iZ(l:ah)(p:Nat):Nat:=(mo l p).toNat*4294967296+(mo l (p+4)).toNat
def EO(l:ah)(n:Nat)(at_:Int):Value:=
 if jT n at_ 8=0 then(if iZ l at_.toNat<=4611686018427387904 then .tuple #[.int .i64 (iZ l at_.toNat:Nat),.int .i64 0]else .tuple #[.int .i64 0,.int .i64 4])else .tuple #[.int .i64 0,.int .i64 (jT n at_ 8)]
def ajH(x y:UInt32):bits .or .u64 ((x.toNat:Int)*4294967296) (y.toNat:Int)=((x.toNat*4294967296+y.toNat:Nat):Int):=by
 have c:=x.toNat_lt;have d:=y.toNat_lt;have a:(BitVec.ofInt 64 ((x.toNat:Int)*4294967296)).toNat=x.toNat*4294967296:=by
  rw[show((x.toNat:Int)*4294967296)=((x.toNat*4294967296:Nat):Int) by omega];rw[M_];omega
 have b:(BitVec.ofInt 64 (y.toNat:Int)).toNat=y.toNat:=by rw[M_];omega
 change IntKind.u64.wrap ((BitVec.ofInt 64 ((x.toNat:Int)*4294967296) ||| BitVec.ofInt 64 (y.toNat:Int)).toNat:Int)=_;have:=OP x.toNat y.toNat 32 J;rw[show(2:Nat)^32=4294967296 from F]at this;rw[Qr,a,b,this,IntKind.wrap_u64];omega
section
section
variable {P:Program} {C:World->Prop} {o:Oper} {a:Act} {K:Act->Prop}
def als{b off n:Nat}{w:World}{vs:aP}{ty:TypeId}(h:∀j u,vs[j]? =some u->w.cell? ⟨b,off+j,none⟩=some u)(l:jc P ty n)(k:vs.length=n):
 (loadVar ty ⟨b,off,none⟩).run P w= .ok (.agg vs.toArray) w:=by
 obtain⟨⟨d,m,p⟩,c⟩:=l;have e:(loadCells ⟨b,off,none⟩ vs.length).run P w= .ok vs.toArray w:=
  M6 (P:=P) w ⟨b,off,none⟩ _ (λj v o=>by
   have f:(⟨b,off,none⟩:Addr).add j=⟨b,off+j,none⟩:=by unfold Addr.add;split<;>simp_all
   rw[f];exact h j v o)
 rw[k]at e;cases a:P.info? ty with
 |none=>simp[a]at c
 |some i=>
  have hs:i.size=n:=by simpa[a]using c
  have g:(isAgg ty).run P w= .ok true w:=by
   unfold isAgg;rw[iC,jB m w];cases d<;>simp_all
  simp[loadVar,g,sizeOf,typeInfo,a,hs,e]
def ab5(ty:TypeId)(x:Operand)(e:o.op= .load ty x){b off n:Nat}{vs:aP}
 (i:a.eval x= .pointer (some ⟨b,off,none⟩))(c:∀w,C w->∀j u,vs[j]? =some u->w.cell? ⟨b,off+j,none⟩=some u)(f:jc P ty n)(d:vs.length=n)
 (h:K (a.put o.dst (.agg vs.toArray))):o.quiet P a C K:=
 ⟨_,λw g=>by
  unfold Oper.quietAt execOp;simp only[e,i,Instr.loadAt,Instr.sureAddr,iC,ni,ng,als (c w g) f d];exact⟨F,F⟩,h⟩
def ab4{f:FuncId}{xs:Array Operand}{j:Array TypeId}{args:Array Value}{v:Value}(d:o.op= .call {callee:= .value (.func f),args:=xs,argTypes:=j})
 (c:∀args w,(callFunc f args).run P w= .ok (.enter f args) w)(ha:xs.map a.eval=args)
 (b:∀w,C w->Calls P f args w (λe w'=>e= .returned v/\C w'))(h:K (a.put o.dst v)):o.quiet P a C K:=
 ⟨v,λw i=>by
  have g:(execOp a.eval o).run P w= .ok (.enter f args) w:=by
   unfold execOp;simp only[d,resolve,Act.eval,Deferred.ofValue,iC,ni,ng,invoke];have:(#[]++xs.map a.eval++ #[]:Array Value)=args:=by simp[ha]
   simpa[ha]using c args w
  unfold Oper.quietAt;rw[g];exact⟨F,b w i⟩,h⟩
end
def VO(l:ah)(a:aO)(n c:Nat)(at_:Int)(w:World)(G:l.length=n)(aE:n<=140737488355328)(ab:n<=c)(E:aM w a (l.map Y)):
 eO 95 #[.slice a n c,.int .i64 at_] w (EO l n at_):=by
 by_cases h:jT n at_ 8=0
 ·obtain⟨p,rfl,ad⟩:=WO h J;have k:EO l n (p:Int)=if iZ l p<=4611686018427387904 then .tuple #[.int .i64 (iZ l p:Nat),.int .i64 0]else .tuple #[.int .i64 0,.int .i64 4]:=by rw[EO,aN h];rfl
  obtain⟨b,off,rfl,g⟩:=E.jg (by rw[aI];omega);have r:=Cm g p J;have s:=Cm g (p+1) J;have t:=Cm g (p+2) J;have v:=Cm g (p+3) J;have x:=Cm g (p+4) J;have y:=Cm g (p+5) J;have z:=Cm g (p+6) J;have A:=Cm g (p+7) J;simp only[<-k_]at s t v x y z A;have S:=kN r;obtain⟨W,m,ax⟩:=aW h k G;clear h k E g G;have am:¬c=p:=J;have an:¬c=p+4:=J;have ha:=J8 (P:=prog) underlying248 (len:=4) (aQ 4);go_enter func95,ntmps95;go_wp2_with fail;refine(Sn _ n c _ 8 w J J J).mono ?_;rintro e w' ⟨rfl,rfl⟩;rw[W.out];go_wp2_with fail;obtain⟨C,K⟩:=mP (λw'=>aj w w':World->Prop);have L:∀w',C w'↔aj w w':=λw'=>by rw[K]
  clear K;have i:=O L;clear L;have Q:∀w w',C w->aj w w'->C w':=λw w' B D=>(i w').2 (((i w).1 B).ext D);have M:∀w',C w'->∀j u,[Y (l[p]?.getD 0),Y (l[p+1]?.getD 0),Y (l[p+2]?.getD 0),Y (l[p+3]?.getD 0)][j]? =some u->w'.cell? ⟨b,off+p+j,none⟩=some u:=by
   intro w' h j u hu;rw[((i w').1 h).cell (p:=⟨b,_,none⟩) S]
   match j,hu with
   |0,hu=>cases hu;exact r
   |1,hu=>cases hu;exact s
   |2,hu=>cases hu;exact t
   |3,hu=>cases hu;exact v
  have N:∀w',C w'->∀j u,[Y (l[p+4]?.getD 0),Y (l[p+5]?.getD 0),Y (l[p+6]?.getD 0),Y (l[p+7]?.getD 0)][j]? =some u->w'.cell? ⟨b,off+(p+4)+j,none⟩=some u:=by
   intro w' h j u hu;rw[((i w').1 h).cell (p:=⟨b,_,none⟩) S]
   match j,hu with
   |0,hu=>cases hu;exact x
   |1,hu=>cases hu;exact y
   |2,hu=>cases hu;exact z
   |3,hu=>cases hu;exact A
  clear r s t v x y z A;refine AA (C:=C) 21 aC aC ((i _).2 (aj.refl w).drew) ?_;simp only[pE,pG,mH,jP];have k4:IntKind.i64.wrap ((p:Int)+4)=(p:Int)+4:=fJ _ J;have al:IntKind.i64.wrap ((p:Int)+8)=(p:Int)+8:=fJ _ J;have af:(0:Int)<=(p:Int)+4:=J;have i1:(p:Int)+4<=(c:Int):=J;have i2:(p:Int)<=(p:Int)+4:=J;have ag:(0:Int)<=(p:Int)+8:=J;have ai:(p:Int)+8<=(c:Int):=J;have ao:((p:Int)+4).toNat=p+4:=J;have ap:((p:Int)+8).toNat=p+8:=J;have aa:p+8 - (p+4)=4:=J;have hx:=(mo l p).toNat_lt;have ae:=(mo l (p+4)).toNat_lt;have ar:IntKind.u64.wrap ((mo l p).toNat:Int)=((mo l p).toNat:Int):=Ni _ J;have wy:IntKind.u64.wrap ((mo l (p+4)).toNat:Int)=((mo l (p+4)).toNat:Int):=Ni _ J;have aw:IntKind.u64.wrap ((mo l p).toNat*4294967296:Int)=((mo l p).toNat*4294967296:Int):=Ni _ J;have T:=ajH (mo l p) (mo l (p+4));rw[show(mo l p).toNat*4294967296+(mo l (p+4)).toNat=iZ l p from F]at T;have H:∀q w',C w'->Calls prog 154 #[.agg #[.int .u8 (l[q]?.getD 0).toNat,.int .u8 (l[q+1]?.getD 0).toNat,.int .u8 (l[q+2]?.getD 0).toNat,.int .u8 (l[q+3]?.getD 0).toNat]] w' λe V=>e= .returned (.int .u32 (mo l q).toNat)/\C V:=
   λq w' h=>(XT _ _ _ _ w').mono λe V ⟨B,D⟩=>⟨B,Q _ _ h D⟩
  clear hx ae;iterate 6
   refine FC (λf d=> ?_);rw[aN (by rfl)];apply Ji;refine⟨λw o=> ?_,d _ ?_⟩
   go_simp
   first|exact F|exact⟨F,F⟩
   clear d f;refine dY ?_
  refine FC (λf d=> ?_);rw[aN (by rfl)];refine ab5 _ _ F F M Uo F (d _ ?_);clear d f;refine dY ?_;refine FC (λf d=> ?_);rw[aN (by rfl)];refine ab4 F call154 (by simp[Act.eval,Y]) (H p) (d _ ?_);clear d f;refine dY ?_;iterate 8
   refine FC (λf d=> ?_);rw[aN (by rfl)];apply Ji;refine⟨λw o=> ?_,d _ ?_⟩
   go_simp
   first|exact F|exact⟨F,F⟩
   clear d f;refine dY ?_
  refine FC (λf d=> ?_);rw[aN (by rfl)];apply Ji;refine⟨λw o=> ?_,d _ ?_⟩
  go_simp
  first|exact F|exact⟨F,F⟩
  clear d f;refine dY ?_;refine FC (λf d=> ?_);rw[aN (by rfl)];refine ab5 _ _ F F N Uo F (d _ ?_);clear d f;refine dY ?_;refine FC (λf d=> ?_);rw[aN (by rfl)];refine ab4 F call154 (by simp[Act.eval,Y]) (H (p+4)) (d _ ?_);clear d f;refine dY ?_;refine FC (λf d=> ?_);rw[aN (by rfl)];apply Ji;refine⟨λw o=> ?_,d _ ?_⟩
  go_simp
  first|exact F|exact⟨F,F⟩
  clear d f;refine dY ?_;refine FC (λf d=> ?_);rw[aN (by rfl)];apply Ji;refine⟨λw o=> ?_,d _ ?_⟩
  go_simp
  first|exact F|exact⟨F,F⟩
  clear d f;refine dY ?_;refine AY ?_;intro aq U;have I:=(i aq).1 U;clear U Q M N H ar wy aw T k4 al af i1 i2 ag ai ao ap aa ha am an ad ab;by_cases R:iZ l p<=4611686018427387904
  ·rw[aN R]at m;have ac:=bU ((4611686018427387904:Int)<(iZ l p:Int));have az:IntKind.i64.wrap (iZ l p:Int)=(iZ l p:Int):=fJ _ J;go_wp2
   go_ret2
   exact⟨by rw[m.out];rfl,I⟩
  ·rw[aJ R]at m;have ac:=cO ((4611686018427387904:Int)<(iZ l p:Int));go_wp2
   go_ret2
   exact⟨by rw[m.out];rfl,I⟩
 ·have k:EO l n at_= .tuple #[.int .i64 0,.int .i64 (jT n at_ 8)]:=by rw[EO,aJ h]
  rw[k];have a0:(jT n at_ 8 != 0)=true:=by rw[bne_iff_ne];exact h
  clear k E h G;go_enter func95,ntmps95;go_wp2_with fail;refine(Sn _ n c _ 8 w J J J).mono ?_;rintro e w' ⟨rfl,rfl⟩;go_wp2
  go_ret2
  exact⟨F,aj.refl _⟩
end
def ahx(n:Nat)(w:World)(u:n<=140737488355328):
 Calls prog 149 #[.slice none 0 0,.int .i64 n] w λe w'=>∃v,e= .returned v/\w'.ownsRow w.heap.size 5 1 v 0 []/\aj w w':=by
 by_cases g:n=0
 ·subst g;go_enter func149,ntmps149;go_wp2;go_ret;exact⟨_,F,Hq _ _ _ _,aj.refl _⟩
 ·have c:¬((n:Int)<0):=J;have r:IntKind.i64.wrap (n:Int)=(n:Int):=fJ _ J;have s:=cO ((0:Int)<(n:Int));obtain⟨q,k,p,hs,f⟩:=gJ Gf;obtain⟨a,b⟩:=mP (grownCap w n 0 5);have t:n<=a:=by rw[b];exact KT w _ _ _
  have d:a<=maxLen:=by rw[b];exact KJ w n 0 5 (by unfold maxLen;omega)
  have m:∀ty,(append_ #[32,3] ty #[.slice none 0 0,.int .i64 (n:Int)]).run prog w=
   .ok (.slice (some ⟨w.heap.size,0,none⟩) n a) (w.drew.alloc (.cells (#[]++zeroCells (int .u8 0).cells n++zeroCells (int .u8 0).cells (a - n)) 5)):=λty=>by
   have h:=Lib.run_append_grow_zeros w 32 3 ty 5 q (.int .u8 0) .i64 .i64 underlying32 underlying3 k p none 0 0 [] (by rw[hs];exact run_firstCells_none w.drew 1 0 0 0) n J J J J (by rw[f];omega)
    (by exact KN J (by rw[f];omega))
   rw[kD,<-b]at h;exact h
  have o:(#[]++zeroCells (int .u8 0).cells n++zeroCells (int .u8 0).cells (a - n)).size=a*1:=by
   have c:(int .u8 0).cells.size=1:=F;simp[zeroCells,c];omega
  have l:∀cs:Array Value,cs.size=a*1->(w.drew.alloc (.cells cs 5)).ownsRow w.heap.size 5 1 (.slice (some ⟨w.heap.size,0,none⟩) 0 a) 0 []:=λcs i=>M7 w.drew cs a (aQ _) d i;generalize j:(#[]++zeroCells (int .u8 0).cells n++zeroCells (int .u8 0).cells (a - n))=cs at*;clear b j;unfold maxLen at d;go_enter func149,ntmps149;go_wp2_with (at_builtin;refine Lib.wpList_append_run _ F _ _ _ _ F _ _ F F _ _ (m _) ?_);all_goals (go_ret;exact⟨_,F,l cs o,(aj.refl w).drew.alloc _⟩)
abbrev I6:=aO×Nat×ah
def jw(a:List I6):ah:=(a.map (·.2.2)).flatten
def tV(a:I6):Value:= .slice a.1 a.2.2.length a.2.1
def UH{a:List I6}{k:Nat}{b:I6}(h:a[k]? =some b):jw (a.take (k+1))=jw (a.take k)++b.2.2:=by grind [jw,take_add_one]
def UG(a:List I6)(k:Nat):(jw (a.take k)).length<=(jw a).length:=by
 have b:jw a=jw (a.take k)++jw (a.drop k):=by
  unfold jw;rw[<-flatten_append,<-jv,AX]
 rw[b,bQ];omega
def am0{a:Prop}(e:a:=by
 rw[hm,hq]at hcl;rw[hq]at c1;rw[hm];have h3:IntKind.i64.wrap ((m:Int)+(q:Int))=(m:Int)+(q:Int):=fJ _ J;have h4:=bU ((m:Int)+(q:Int)<0);have HS:=O yP;clear yP jH hcl uX hm hq bO;go_wp2;go_roundw
 ·exact⟨k+1,J,by rw[HS.out];go_num,by go_num,aB⟩
 ·simp[intOf];omega):a:=e
def NC(a:List I6)(g d cap:Nat)(w:World)(P:a.length=d)(ar:d<=140737488355328)(aq:d<=cap)(K:∀(i:Nat) b,a[i]? =some b->w.cell? ⟨g,i,none⟩=some (tV b))
 (I:∀b∈a,aM w b.1 (b.2.2.map Y))(l:∀b∈a,b.1=none->b.2.1=0)(N:(jw a).length<=140737488355328):
 Calls prog 91 #[.slice (some ⟨g,0,none⟩) d cap] w λe w'=>∃v,e= .returned v/\w'.ownsRow w.heap.size 5 1 v (jw a).length ((jw a).map Y)/\aj w w':=by
 obtain⟨n,C,T,V,D⟩:=fC P K I l N;obtain⟨R,L,an,hs,af⟩:=gJ Gf;clear K I l N P;go_enter func91,ntmps91;go_wp2;go_loopw [3,11] (λs i wr=>∃k:Nat,k<=d/\s= .int .i64 ((jw (a.take k)).length:Nat)/\i= .int .i64 k/\wr=w)
  (λ_ i _=>d - (intOf i).toNat)
 ·exact⟨0,J,by simp[jw],F,F⟩
 ·obtain⟨k,ai,rfl,rfl,aw⟩:=hrel;subst wr;by_cases A:k<d
  ·obtain⟨b,bO⟩:∃b,a[k]? =some b:=⟨a[k]'(by rw[n.out];exact A),aB⟩;have c1:=C.out k b bO;unfold tV at c1;have jH:=UH bO;have hcl:=UG a (k+1);rw[jH]at hcl;have uX:=D.out;rw[bQ]at hcl;obtain⟨m,hm⟩:=aF ((jw (a.take k)).length);obtain⟨q,hq⟩:=aF b.2.2.length;have yP:(jw (a.take (k+1))).length=m+q:=by rw[jH,bQ,hm,hq]
   exact am0
  ·have al:k=d:=J;subst k;have Q:a.take d=a:=gY (by rw[n.out];omega);rw[Q];have M:=D.out;obtain⟨aa,u⟩:=aF ((jw a).length);have W:=O u;rw[u]at M⊢;clear Q u;go_wp2_with fail;refine(ahx aa _ M).mono ?_;rintro e az ⟨v,rfl,ao,ac⟩;go_wp2;go_loopw [6,27] (λv i wr=>∃k:Nat,k<=d/\i= .int .i64 k/\wr.ownsRow w.heap.size 5 1 v (jw (a.take k)).length ((jw (a.take k)).map Y)/\aj w wr)
    (λ_ i _=>d - (intOf i).toNat)
   ·exact⟨0,J,F,by simpa[jw]using ao,ac⟩
   ·obtain⟨k,ai,rfl,f,j⟩:=hrel;by_cases A:k<d
    ·obtain⟨b,bO⟩:∃b,a[k]? =some b:=⟨a[k]'(by rw[n.out];exact A),aB⟩;have c1:=C.out k b bO;have H:=kN c1;rw[<-j.cell (p:=⟨g,k,none⟩) H]at c1;have jH:=UH bO;have hcl:=UG a (k+1);rw[jH,W.out,bQ]at hcl;have o:=(T b (f_ bO)).ext j;have l:=V.out b (f_ bO);unfold tV at c1;obtain⟨x,c,B⟩:=b;obtain⟨q,hq⟩:=aF B.length;obtain⟨m,hm⟩:=aF ((jw (a.take k)).length);simp only at c1 jH hcl o l;rw[hq]at c1;rw[hm,hq]at hcl;rw[hm]at f;obtain⟨r,t,E⟩:=aW jH hq hm;clear jH hq hm bO H;cases x with
     |none=>
      have z:B=[]:=by
       rcases o with h|⟨_,_,h,_⟩
       ·simpa using h
       ·cases h
      have ag:c=0:=l F;have am:q=0:=by rw[<-t.out,z];rfl
      subst ag;subst am;have y:=r.out;rw[z,xg]at y;have U:=O y;clear y z r;go_wp2_with (at_builtin;refine wpList_append_own_none F _ _ 32 F w.heap.size 5 R 1 underlying32 L _ _ _ F f F ?_);go_wp2;go_roundw
      ·exact⟨k+1,J,by go_num,by rw[U.out,E.out];exact f,j⟩
      ·exact fV
     |some ab=>
      go_wp2_with (at_builtin;refine Jc _ F _ _ 32 F w.heap.size 5 R (.int .u8 0) 1 1 underlying32 L an hs af F bS _ _ _ F f ab q c (B.map Y) F ?qc1 (Gl o) (dw _) ?qc4 ?qc5 j.size ?_)
      case qc1=>rw[aI,t.out,nA]
      case qc4=>unfold maxLen;omega
      case qc5=>omega
      intro ax ap S G _;have ad:aj w ap:=j.grown G (λae h=>(f.lt ae h).1);rw[<-jv]at S;clear f G j c1 o;go_wp2;go_roundw
      ·exact⟨k+1,J,by go_num,by rw[r.out,bQ,E.out,t.out];exact S,ad⟩
      ·exact fV
    ·have al:k=d:=J;subst k;rw[gY (by rw[n.out];omega)]at f;go_wp2;go_ret;exact⟨_,F,f,j⟩
def wm{w:World}{B:Nat}{v:Value}{n:Nat}{xs:aP}(h:w.ownsRow B 5 1 v n xs):
 ∃a c,v= .slice a n c/\n<=c/\c<=maxLen/\(a=none->c=0)/\aM w a xs:=by
 obtain⟨p,h⟩:=h;rcases h with⟨rfl,rfl⟩|⟨g,cap,d,rfl,o,k,e,f,m,j⟩
 ·refine⟨none,0,F,aQ _,by unfold maxLen;omega,λ_=>rfl,.inl ?_⟩;exact qm.1 J
 ·refine⟨_,cap,F,e,f,(λh=>by cases h),.inr ⟨g,0,F,λi u b=> ?_⟩⟩;rw[<-j]at b;have l:i<n*1:=by
   have:=(iK.1 b).1;simp at this;omega
  rw[uM l]at b;rw[kD];exact au.cell' (vs:=d.toList) (T:=5) (by simpa[au]using k) b
def xL{w:World}{B B':Nat}{e:TypeId}{a:Nat}{v:Value}{n:Nat}{xs:aP}(h:w.ownsRow B e a v n xs)(i:B'<=B):w.ownsRow B' e a v n xs:=by
 refine⟨h.1,?_⟩;rcases h.2 with h|⟨g,cap,b,c,d,f⟩
 ·exact .inl h
 ·exact .inr ⟨g,cap,b,c,dJ i d,f⟩
def DC(k:Int):Nat:=if k<0∨4611686018427387904<k then 0 else k.toNat
def ai2(k:Int):DC k<=4611686018427387904:=by unfold DC;split<;>omega
def JU(u:UInt64):(fQ u).length=8:=F
def XJ{b:Prop}(e:b:=by
 go_enter func159,ntmps159;go_wp2_with fail;refine(EL _).mono ?_;rintro e w1 ⟨rfl,e1⟩;go_wp2_with (first|(refine aZ F _ _ _ F F F (au.bK F F) Qx F F (dw _) ?_));intro w2 b2 u2;have e2:aj w w2:=u2.ext (e1.alloc _) e1.size;go_wp2_with fail;have hB:au (w2.alloc (.cells #[.slice a n c,.slice (some ⟨w1.heap.size,0,none⟩) 8 8] 32)) w2.heap.size [.slice a n c,.slice (some ⟨w1.heap.size,0,none⟩) 8 8] 32:=au.bK F F;have b3:=b2.alloc (.cells #[.slice a n c,.slice (some ⟨w1.heap.size,0,none⟩) 8 8] 32);have e3:aj w (w2.alloc (.cells #[.slice a n c,.slice (some ⟨w1.heap.size,0,none⟩) 8 8] 32)):=e2.alloc _;generalize w2.alloc (.cells #[.slice a n c,.slice (some ⟨w1.heap.size,0,none⟩) 8 8] 32)=w3 at*;have qp:jw [(a,c,l),(some ⟨w1.heap.size,0,none⟩,8,fQ u)]=l++fQ u:=by simp[jw]
 have cK:(l++fQ u).length=n+8:=by rw[bQ,HN.out];rfl
 refine(NC [(a,c,l),(some ⟨w1.heap.size,0,none⟩,8,fQ u)] w2.heap.size 2 2 w3 F J J ?hg ?hc ?hn ?hl).mono ?_
 case hg=>
  intro i it bO
  match i,bO with
  |0,bO=>cases bO;rw[tV];simp only;rw[HN.out];exact hB.cell' F
  |1,bO=>cases bO;exact hB.cell' F
 case hc=>
  intro it bO;simp only[gM,lN,lQ]at bO;rcases bO with rfl|rfl
  ·exact HC.ext e3
  ·exact aM.iM b3
 case hn=>
  intro it bO;simp only[gM,lN,lQ]at bO;rcases bO with rfl|rfl
  ·exact H0
  ·intro h;cases h
 case hl=>rw[qp,cK];omega
 rintro e w4 ⟨v,rfl,own,e4⟩;rw[qp,cK]at own;have ajK:w4.ownsRow w.heap.size 5 1 v (n+8) ((l++fQ u).map Y):=xL own e3.size;have e5:=e3.ext e4;clear qp cK hB b3 e3 own e4 b2 u2 e2;go_wp2;go_ret;exact⟨_,F,ajK,e5⟩):b:=e
def abZ(l:ah)(a:aO)(n c:Nat)(k:Int)(w:World)(i:l.length=n)(hn:n<=140737488355320)(h:aM w a (l.map Y))(b:a=none->c=0):
 Calls prog 159 #[.slice a n c,.int .i64 k] w λe w'=>∃v,e= .returned v/\w'.ownsRow w.heap.size 5 1 v (n+8) ((l++fQ (UInt64.ofNat (DC k))).map Y)/\aj w w':=by
 obtain⟨HN,HC,H0⟩:=aW i h b;clear i h b;obtain⟨u,g⟩:=aF (UInt64.ofNat (DC k));have d:(u.toNat:Int)=DC k:=by
  have:=ai2 k;rw[<-g,Qd];omega
 rw[g];clear g;by_cases f:k<0∨4611686018427387904<k
 ·have b:(u.toNat:Int)=0:=by rw[d,DC,aN f];rfl
  clear d;have EL:=λw=>VN u w;rw[b]at EL;by_cases j:k<0
  ·exact XJ
  ·have m:4611686018427387904<k:=J;exact XJ
 ·have j:¬k<0:=J;have m:¬4611686018427387904<k:=J;have b:(u.toNat:Int)=k:=by rw[d,DC,aJ f];omega
  have o:IntKind.u64.wrap k=k:=Ni _ J;clear d f;have EL:=λw=>VN u w;rw[b]at EL;exact XJ
def NA(l:ah)(a:aO)(n c:Nat)(w:World)(o:l.length=n)(E:n<=140737488355320)(j:aM w a (l.map Y)):
 Calls prog 58 #[.slice a n c] w λe w'=>∃v,e= .returned v/\w'.ownsRow w.heap.size 5 1 v n (l.map Y)/\(v= .slice none 0 0↔a=none)/\aj w w':=by
 obtain⟨i,g⟩:=aA o j;clear o j;obtain⟨B,t,A,hs,s⟩:=gJ Gf;have G:∀(w:World) (a:aO) (n c f b:Nat),(binOp .eql 32 (.slice a n c) (.slice none f b)).run prog w= .ok (.bool a.isNone) w:=λw a n c f b=>Ue w _ _ a n c f b underlying32;cases a with
 |none=>
  have d:l=[]:=by
   rcases g.out with h|⟨_,_,h,_⟩
   ·simpa using h
   ·cases h
  have x:n=0:=by rw[<-i.out,d];rfl
  subst x;have p:=O d;clear d;go_enter func58,ntmps58;go_wp2;go_ret;exact⟨_,F,by rw[p.out];exact Hq _ _ _ _,aB,aj.refl _⟩
 |some q=>
  go_enter func58,ntmps58;go_wp2_with (at_builtin;refine Jc _ F _ _ 32 F w.heap.size 5 B (.int .u8 0) 1 1 underlying32 t A hs s F bS _ _ _ F (M7 w #[] 0 (aQ _) (w_ _) aB) q n c (l.map Y) F ?qc1 (Gl (g.ext ((aj.refl w).alloc _))) (dw _) ?qc4 ?qc5 ?qc6 ?_)
  case qc1=>rw[aI,i.out,nA]
  case qc4=>unfold maxLen;omega
  case qc5=>omega
  case qc6=>simp
  intro C D z m y;have r:aj w D:=((aj.refl w).alloc _).grown m (by intro k u;simp[Value.ownBlock]at u;omega);clear m;go_wp2;go_ret;exact⟨C,F,z,by simp[y],r⟩
section
attribute [local irreducible] wpQuiet
def amT{w:World}{a:aO}{l m:ah}{n:Nat}(h:aM w a ((l++m).map Y))(b:l.length=n):aM w a (l.map Y):=by
 have:=h.take n;rwa[<-wW,oo b]at this
end
def akI{P:Program}{c:Func}{b:Ending->World->Prop}{a:Act}{w:World}(f:c.results= #[])(e:a.defers=[])(d:b (.returned (.tuple #[])) w):bodyPost P c b .ret a w:=
 Jg (results_none f _ _ _) e d
def amR(p t b r:ah)(i:Int)(g m h n c:Nat)(a:aO)(T:TypeId)(w:World)(hs:p.length=64)(M:r.length=32)(E:b.length=n)(K:t.length=32*m+h)(aq:0<h)(ar:h+n<32)
 (o:r.take h=t.drop (32*m))
 (B:au w g (sm (jY p t m) r h i) T)(ax:n<=c)(an:c<=9223372036854775807)(A:a=none->n=0)(G:aM w a (b.map Y))(D:n=0∨∀x,a=some x->some x.block≠some g):
 Calls prog 267 #[.pointer (some ⟨g,0,none⟩),.slice a n c] w (Tj w g T p (t++b) i):=by
 obtain⟨j,f,d,e,Q,ai,U,z⟩:=mQ hs M E K A D G B;have ad:=O o;clear hs M E K A D G B o;have ag:=z.cell' (Gy h i (lu j m) f);have ao:=cO ((0:Int)<(h:Int));have aE:¬32=h:=J;have az:(0:Int)<=(h:Int):=J;have i1:(h:Int)<=32:=J;have aw:IntKind.i64.wrap ((h:Int)+n)=(h:Int)+n:=fJ _ J;have ap:=cO ((h:Int)+n<32);have L:n=Nat.min n (32 - h):=(Qp J).symm;have I:(b.map Y).length=n:=by rw[aI,d.out]
 have H:64+h+n<=(sm (jY p t m) r h i).length:=by rw[Po _ _ (lu j _) f.out];omega
 have y:=S_ (xs:=b) h i (lu (t:=t) j m) f h (by rw[d.out];omega);rw[d.out]at y;have N:(r.take h++b++r.drop (h+n)).length=32:=by rw[bQ,bQ,fP,d.out,iI,f.out];omega
 have o:(r.take h++b++r.drop (h+n)).take (h+n)=(t++b).drop (32*m):=by
  rw[Ud (by rw[e.out];omega),<-ad.out,MW (by rw[bQ,fP,d.out,f.out];omega),
   gY (by rw[bQ,fP,d.out,f.out];omega)]
 generalize r.take h++b++r.drop (h+n)=r2 at*;obtain⟨ac,ab,V,af,q,ae⟩:=jW L I H y N o;clear L I H y N o;go_enter func267,ntmps267;go_wp2;refine AA (C:=λw'=>∃n,w'=w.drewN n) 9 aC aC ⟨1,F⟩ ?_;simp only[pE,pG,mH,jP];iterate 9 quiet_step (fail)
 refine AY ?_;rintro _ ⟨nq,rfl⟩;go_wp2_with (refine Kr F _ _ _ _ F F F (z.drewN (n:=nq)) underlying32 jO ab ac Q (U.ext ((aj.refl w).drewN nq)) V (dw _) ?_);intro a0 l P;rw[af.out]at l;obtain⟨R,W⟩:=aA l (JE (Q6 (Ib w (some g)) nq) P);have am:=l.frozen 96;have al:=l.cell' (Gy h i (lu j m) q);clear l P ag;go_wp2_with (refine Kv F _ _ _ _ F (k:=n) F F underlying32 jO (aQ n) ?_);have s:=R.set 96 (.int .i64 ((h:Int)+n));rw[Pp _ _ _ (lu j _) q.out]at s;obtain⟨S,aa⟩:=aA s (Ic W 96 (.int .i64 ((h:Int)+n)));clear s;refine akI F F ⟨F,⟨r2,q,?_,?_⟩,aa⟩
 ·have u:(t++b).length%32=h+n:=by rw[bQ,e.out,d.out];omega
  have v:(t++b).length / 32=m:=by rw[bQ,e.out,d.out];omega
  rw[u,v];exact ae
 ·have u:(t++b).length%32=h+n:=by rw[bQ,e.out,d.out];omega
  have v:(t++b).length / 32=m:=by rw[bQ,e.out,d.out];omega
  rw[u,v,Nt _ (by rw[e.out];omega)];exact S
def amS(u t f d r:ah)(q:Int)(g m h n y c:Nat)(a:aO)(T:TypeId)(w:World)(hs:u.length=64)(ar:r.length=32)(bb:d.length=y)(K:f.length=32 - h)(R:t.length=32*m+h)(cJ:0<h)(cL:h<32)
 (bp:n=32 - h+y)(L:r.take h=t.drop (32*m))
 (a_:au w g (sm (jY u t m) r h q) T)(cM:n<=c)(cG:c<=9223372036854775807)(a9:a=none->n=0)(ab:aM w a ((f++d).map Y))(ba:n=0∨∀x,a=some x->some x.block≠some g):
 Calls prog 267 #[.pointer (some ⟨g,0,none⟩),.slice a n c] w (Tj w g T u (t++f++d) q):=by
 obtain⟨p,M,E,aa,cC,az,aE,cA⟩:=mQ hs ar bb K R a9 (ba.resolve_left J) ab;obtain⟨a3,cD,cd⟩:=aW a_ L bp;have bo:(t++f).length=32*(m+1):=by rw[bQ,R,K];omega
 have A:=O bo;have bd:(r.take h++f)=(t++f).drop (32*m):=by rw[Ud (by rw[R];omega),L]
 have a':Ac (jY u t m) (r.take h++f)=jY u (t++f) (m+1):=by
  have cE:(r.take h++f).length=32:=by rw[bQ,fP,K,ar];omega
  rw[jY,<-bd,Nt _ (by rw[R];omega),gY (l:=r.take h++f) J]
 have bw:=O a';have be:aM w a (f.map Y):=amT (m:=d) ab F;have b1:=O be;have bh:aM w (fu a c (32 - h)) (d.map Y):=by
  have v:=ab.shift c (32 - h) y J;rw[<-ze,<-K,drop_left,gY (by rw[aI];omega)]at v;rwa[K]at v
 have b2:=O bh;clear hs ar bb R a9 ba ab a_ L bo bd a' be bh K;have a6:=a3.cell' (Gy h q (lu p m) M);have cI:=cO ((0:Int)<(h:Int));have cQ:¬32=h:=J;have cP:(0:Int)<=(h:Int):=J;have i1:(h:Int)<=32:=J;obtain⟨j,bl⟩:=aF (32 - h);have cs:IntKind.i64.wrap ((h:Int)+j)=32:=by
  rw[show(h:Int)+j=32 by omega];exact fJ _ J
 have S:j=Nat.min n j:=(Nat.min_eq_right J).symm;have Q:(f.map Y).length=j:=by rw[aI,aa.out];exact bl
 have N:64+h+j<=(sm (jY u t m) r h q).length:=by rw[Po _ _ (lu p _) M.out];omega
 have G:=S_ (xs:=f) h q (lu (t:=t) p m) M h (by rw[aa.out];omega);rw[aa.out,show h+(32 - h)=32 by omega,FP (by rw[M.out];omega),xg]at G;have U:(r.take h++f).length=32:=by rw[bQ,fP,aa.out,M.out];omega
 generalize r.take h++f=r2 at*;obtain⟨cb,b',b4,cf,B⟩:=fC S Q N G U;clear S Q N G U;have cr:j<=n:=J;clear bp;go_enter func267,ntmps267;go_wp2;refine AA (C:=λw'=>∃n,w'=w.drewN n) 9 aC aC ⟨1,F⟩ ?_;simp only[pE,pG,mH,jP];iterate 9 quiet_step (fail)
 refine AY ?_;rintro _ ⟨nq,rfl⟩;go_wp2_with (refine Kr F _ _ _ _ F F F (a3.drewN (n:=nq)) underlying32 jO b' cb az (b1.ext ((aj.refl w).drewN nq)) b4 (dw _) ?_);intro ax k1 ac;rw[cf.out]at k1;obtain⟨W,ad⟩:=aA k1 (JE (Q6 (Ib w (some g)) nq) ac);have a7:=k1.frozen 96;have cj:=k1.cell' (Gy h q (lu p m) B);clear k1 ac a6;go_wp2_with (refine Kv F _ _ _ _ F (k:=j) F F underlying32 jO cr ?_);have k2:=W.set 96 (.int .i64 32);rw[Pp _ _ _ (lu p _) B.out]at k2;obtain⟨bx,b6⟩:=aA k2 (Ic ad 96 (.int .i64 32));generalize setCell ax _ _=bt at*;have V:∀i,i<32->bt.cell? ⟨g,64+i,none⟩=some (.int .u8 ((r2[i]?.getD 0).toNat:Int)):=λi aq=>k2.cell' (al4 32 q (lu p m) B aq);have af:=O V;clear k2 a7 cj V;refine(Nw _ r2 _ g g 64 T bt (lu p m) bx af (.inr (aQ _))).mono ?_;rintro e bu ⟨rfl,k3,a8⟩;rw[bw.out]at k3;have aw:au bu g (sm (jY u (t++f) (m+1)) r2 32 q) T:=k3;obtain⟨bz,b7⟩:=aA aw (sI b6 a8);have cl:=k3.frozen 96;have ck:=aw.cell' (Gy 32 q (lu p (m+1)) B);clear k3 aw a8;go_wp2;have k4:=bz.set 96 (.int .i64 0);rw[Pp _ _ _ (lu p _) B.out]at k4;obtain⟨a2,a5⟩:=aA k4 (Ic b7 96 (.int .i64 0));generalize setCell bu _ _=cR at*;have a4:=O (b2.grown a5 (Pk aE));have a1:Hid (y=0∨∀x,fu a c (32 - h)=some x->some x.block≠some g):=O (.inr (Pk (c:=c) (k:=32 - h) aE));rw[bl]at a4 a1;have cv:n - j=y:=by have:=cd.out;omega
 have bv:Hid (fu a c j=none->y=0):=O λe=>by have:=az.out (SS.1 e);omega
 rw[cv];clear k4 cl ck W;generalize fu a c j=ch at*;obtain⟨z,bs⟩:=aF (t++f);obtain⟨D,ct⟩:=aF (m+1);obtain⟨ai,co⟩:=aF (c - j);rw[bs,ct]at a2 A;rw[bs,co];have cw:y<=ai:=J;go_loopw [1] (λx wr=>∃(k o I:Nat) (H:aO),x= .slice H o I/\o+32*k=y/\o<=I/\I<=ai/\Hid (H=none->o=0)/\Hid (o=0∨∀x,H=some x->some x.block≠some g)/\
  Hid (aM wr H ((d.drop (32*k)).map Y))/\Hid (au wr g (sm (jY u (z++d) (D+k)) r2 0 q) T)/\Hid (w.grownBy wr (some g)))
  (λx _=>IE x)
 ·exact⟨0,y,ai,ch,F,J,cw,J,bv,a1,O (by rw[G_,jP];exact a4),O (by rw[z8,Nt _ (by rw[A.out];omega)];exact a2),a5⟩
 ·obtain⟨k,o,I,H,rfl,cs,cN,cH,am,cm,ap,bc,bk⟩:=hrel;by_cases bm:32<=o
  ·have cp:=cO ((32:Int)<=(o:Int));have s:(d.drop (32*k)).length=o:=by rw[iI,E.out];omega
   have cx:H≠none:=λe=>by have:=am.out e;omega
   obtain⟨al,off,rfl,bi⟩:=ap.jg (by rw[aI,s];omega);have ao:=cm.resolve_left J;have cq:al≠g:=λe=>ao _ F (by rw[e]);have a0:=O ao;clear ao;have cF:=J8 (P:=prog) underlying30 (len:=o) bm;have V:∀i,i<32->wr.cell? ⟨al,off+i,none⟩=some (.int .u8 ((((d.drop (32*k)).take 32)[i]?.getD 0).toNat:Int)):=by
    intro i aq;refine bi i _ ?_;rw[uM aq];exact Kj J
   have af:=O V;clear V bi cx;have b9:=O s;clear s;go_wp2_with fail;refine(Nw _ ((d.drop (32*k)).take 32) _ g al off T wr (lu p _) bc af (.inl cq)).mono ?_;rintro e ax ⟨rfl,f,g1⟩;have br:Ac (jY u (z++d) (D+k)) ((d.drop (32*k)).take 32)=jY u (z++d) (D+(k+1)):=by
    rw[<-k_,jY,QL A.out]
   rw[br]at f;have W:=O f;clear f br;obtain⟨ad,cn⟩:=aA (sI bk g1) (ap.grown g1 a0);clear g1;go_wp2_with (refine Kv F _ _ _ _ F (k:=32) F F underlying32 jO bm ?_);go_roundw
   ·refine⟨k+1,o - 32,I - 32,_,F,J,J,J,O λe=> ?_,O (.inr (Pk a0)),O ?_,W,ad⟩
    ·have:=am.out (SS.1 e);omega
    ·have v:=cn.shift I 32 (o - 32) J;rw[<-ze,tK,gY (by rw[aI,iI,E.out];omega)]at v;rwa[show 32*k+32=32*(k+1) by omega]at v
   ·simp[IE];omega
  ·have cp:=bU ((32:Int)<=(o:Int));have s:(d.drop (32*k)).length=o:=by rw[iI,E.out];omega
   have Q:((d.drop (32*k)).map Y).length=o:=by rw[aI,s]
   have S:o=Nat.min o 32:=(Qp J).symm;have cc:=O S;clear S;have N:64+o<=(sm (jY u (z++d) (D+k)) r2 0 q).length:=by rw[Po _ _ (lu p _) B.out];omega
   have b5:=O N;clear N;have G:=S_ (xs:=d.drop (32*k)) 0 q (lu (t:=z++d) p (D+k)) B 0 (by rw[s];omega);rw[pG,zi,z8,kD,s]at G;have U:(d.drop (32*k)++r2.drop o).length=32:=by rw[bQ,s,iI,B.out];omega
   have L:(d.drop (32*k)++r2.drop o).take o=d.drop (32*k):=by rw[<-s,KU]
   have bj:=QL (b:=d) (k:=k) A;generalize d.drop (32*k)=ci at*;obtain⟨b3,b9⟩:=aA bj s;clear s bj;have ca:=O Q;clear Q;generalize cy:ci++r2.drop o=cz at*;obtain⟨ce,ae,cg⟩:=aW L U G;clear L U G cy;go_wp2_with (refine Kr F _ _ _ _ F F F bc underlying32 jO ca cc am ap b5 (dw _) ?_);intro ax f ac;rw[cg.out]at f;have a7:=f.frozen 96;have a6:=f.cell' (Gy 0 q (lu p (D+k)) ae);go_wp2;have ag:=f.set 96 (.int .i64 (o:Int));rw[Pp _ _ _ (lu p _) ae.out]at ag;obtain⟨b0,b8⟩:=aA ag (Ic (JE bk ac) 96 (.int .i64 (o:Int)));clear ag;refine U5 F F ⟨F,⟨cz,ae,?_,?_⟩,b8⟩
   ·have v:(z++d).length%32=o:=by rw[bQ,A.out,E.out];omega
    have an:(z++d).length / 32=D+k:=by rw[bQ,A.out,E.out];omega
    rw[v,an,b3.out];exact ce
   ·have v:(z++d).length%32=o:=by rw[bQ,A.out,E.out];omega
    have an:(z++d).length / 32=D+k:=by rw[bQ,A.out,E.out];omega
    rw[v,an];exact b0
def SG(w:World)(n:Nat)(j:n<=140737488355328):(Instr.makeSlice 32 (.int .i64 (n:Int)) (.int .i64 (n:Int))).run prog w=
 .ok (.slice (some ⟨w.heap.size,0,none⟩) n n) (w.alloc (.cells ((replicate n (0:UInt8)).map Y).toArray 5)):=by
 obtain⟨d,b,c,hs,a⟩:=gJ Gf;have h:=run_make (P:=prog) w 32 5 d (.int .u8 0) underlying32 b c .i64 .i64 n n J J (by rw[a];omega) J;rw[h,hs];have:madeCells (int .u8 0).cells ((n:Int).toNat*1)=((replicate n (0:UInt8)).map Y).toArray:=by
  have e:(int .u8 0).cells= #[.int .u8 0]:=F;apply Array.ext
  ·simp[size_madeCells]
  ·intro i f g;simp[madeCells,e,Y,Nat.mod_one]
 rw[this];simp
def aeN{ops:Array Oper}{rest:List Oper}{o:Oper}{a:Act}{w:World}{b:Exit->Act->World->Prop}(d:o.guard=none)(x y:Operand)(f:o.op= .makeSlice 32 x y){n:Nat}
 (g:a.eval x= .int .i64 (n:Int))(i:a.eval y= .int .i64 (n:Int))(e:n<=140737488355328)
 (h:wpList prog ops b rest (a.put o.dst (.slice (some ⟨w.heap.size,0,none⟩) n n)) (w.alloc (.cells ((replicate n (0:UInt8)).map Y).toArray 5))):wpList prog ops b (o::rest) a w:=
 q8 d λj c=>by
  unfold Oper.wp execOp;simp only[f,g,i,ng,iC,ni,SG w n e];exact c _ _ h
def XG(d t b:ah)(e:Int)(g n c:Nat)(a:aO)(T:TypeId)(w:World)(hs:d.length=64)(f:b.length=n)
 (A:qC w g T d t e)(C:n<=140737488355328)(p:n<=c)(l:c<=9223372036854775807)(i:a=none->n=0)(o:aM w a (b.map Y))(k:n=0∨∀x,a=some x->some x.block≠some g):
 Calls prog 267 #[.pointer (some ⟨g,0,none⟩),.slice a n c] w (Tj w g T d (t++b) e):=by
 obtain⟨r,q,u,j⟩:=A;have s:t.length=32*(t.length / 32)+t.length%32:=J;generalize E:t.length / 32=m at*;generalize D:t.length%32=h at*;have B:h<32:=J;by_cases y:h=0
 ·subst y;exact amQ d t b r e g m n c a T w hs q f J j C p l i o k
 ·by_cases z:h+n<32
  ·exact amR d t b r e g m h n c a T w hs q f s J z u j p l i o k
  ·have v:b.take (32 - h)++b.drop (32 - h)=b:=AX _ _;have:=amS d t (b.take (32 - h)) (b.drop (32 - h)) r e g m h n (n - (32 - h)) c a T w hs q (by rw[iI,f]) (by rw[fP,f];omega) s J B J u j p l i (by rw[v];exact o) k;rwa[sw,v]at this
def afV{w w':World}{a:aO}{xs:aP}{r:Option Nat}{n:Nat}(h:aM w a xs)(c:xs.length=n)(k:w.grownBy w' r)(b:n=0∨∀x,a=some x->some x.block≠r):aM w' a xs:=by
 rcases b with rfl|b
 ·exact .inl (qm.1 c)
 ·exact h.grown k b
def afy{c:World}{a:aO}{xs:aP}{n g:Nat}(h:aM c a xs)(m:xs.length=n)(l:c.heap.size<=g):n=0∨∀x,a=some x->some x.block≠some g:=by
 by_cases d:n=0
 ·exact .inl d
 ·refine .inr ?_;intro x i;obtain⟨b,off,rfl,f⟩:=h.jg J;cases i;have j:b<c.heap.size:=kN (f 0 _ (mG J));intro e;have k:b=g:=by injection e
  omega
abbrev Dl:TypeId:=350
def YM:jc prog 350 98:=⟨⟨_,underlying350,F⟩,aC⟩
def qC.blk{w:World}{g:Nat}{T:TypeId}{b t:ah}{c:Int}(h:qC w g T b t c):∃vs,vs.length=vs.length/\au w g vs T:=by
 obtain⟨r,_,_,a⟩:=h;exact⟨_,F,a⟩
def qC.lt{w:World}{g:Nat}{T:TypeId}{b t:ah}{c:Int}(h:qC w g T b t c):g<w.heap.size:=by
 obtain⟨r,_,_,a⟩:=h;exact a.lt
def qC.ext{w w':World}{g:Nat}{T:TypeId}{a t:ah}{b:Int}(h:qC w g T a t b)(k:aj w w'):qC w' g T a t b:=by
 obtain⟨r,c,d,e⟩:=h;exact⟨r,c,d,e.ext k⟩
def qC.grown{w w':World}{g:Nat}{T:TypeId}{a t:ah}{b:Int}{r:Option Nat}(h:qC w g T a t b)(k:w.grownBy w' r)(f:some g≠r):qC w' g T a t b:=by
 obtain⟨r,c,d,e⟩:=h;exact⟨r,c,d,e.grown k f⟩
def XZ(w:World)(g:Nat)(T:TypeId)(c t b:ah)(a:Int)(e:Ending)(w':World):Prop:=
 if(b.length:Int)<=1048576 - a then e= .returned (.int .i64 0)/\qC w' g T c (t++b) (a+b.length)/\w.grownBy w' (some g)
 else e= .returned (.int .i64 5)/\w=w'
def aoa(f t b:ah)(d:Int)(g n c:Nat)(a:aO)(T:TypeId)(w:World)(hs:f.length=64)(i:b.length=n)(S:0<=d)(U:d<=1048576)
 (H:qC w g T f t d)(R:n<=9223372036854775807)(M:n<=c)(K:c<=9223372036854775807)(s:a=none->n=0)(v:aM w a (b.map Y))(u:n=0∨∀x,a=some x->some x.block≠some g):
 Calls prog 203 #[.pointer (some ⟨g,0,none⟩),.slice a n c] w (XZ w g T f t b d):=by
 obtain⟨r,j,z,h⟩:=H;unfold XZ;rw[i];obtain⟨l,m,D,A,k,C,B,o⟩:=mQ i j z s u v h hs;have P:=h.cell' (Xq (t.length%32:Nat) d (lu hs _) j);have Q:=h.frozen 97;have k1:IntKind.i64.wrap (1048576 - d)=1048576 - d:=fJ _ J;clear i j z s u v h hs;by_cases y:(n:Int)<=1048576 - d
 ·simp only[aN y];have k2:IntKind.i64.wrap (d+n)=d+n:=fJ _ J;have L:=bU ((1048576 - d)<(n:Int));go_enter func203,ntmps203;go_wp2_with fail;have p:=B.set 97 (.int .i64 (d+n));rw[al5 _ _ _ (lu o _) m.out]at p;have I:qC (w.setCell ⟨g,97,none⟩ (.int .i64 (d+n))) g T f t (d+n):=⟨r,m,D,p⟩;have q:=Ic (Ib w (some g)) 97 (.int .i64 (d+n));generalize setCell w _ _=N at*;refine(XG f t b (d+n) g n c a T N o l I J M K A (afV C (by rw[aI];exact l) q k) k).mono ?_;rintro e V ⟨rfl,G,E⟩;go_wp2;go_ret;exact⟨F,G,sI q E⟩
 ·simp only[aJ y];have L:=cO ((1048576 - d)<(n:Int));go_enter func203,ntmps203;go_wp2;go_ret;exact⟨F,F⟩
def af7(b t:ah)(c:Int)(g:Nat)(T:TypeId)(w:World)(hs:b.length=64)(q:qC w g T b t c):
 Calls prog 268 #[.pointer (some ⟨g,0,none⟩)] w λe w'=>e= .returned (.pointer (some ⟨w.heap.size,0,none⟩))/\qC w' w.heap.size Dl b t c/\aj w w':=by
 obtain⟨r,d,j,h⟩:=q;have i:=Po (t.length%32:Nat) c (lu (t:=t) hs (t.length / 32)) d;have p:∀v∈sm (jY b t (t.length / 32)) r (t.length%32:Nat) c,v.oneCell'=true:=by
  intro v a;unfold sm at a;simp only[kU,gM,lN,lQ]at a;rcases a with a|a|a|a
  ·exact dw _ v a
  ·exact dw _ v a
  ·rw[a];rfl
  ·rw[a];rfl
 obtain⟨k,f,l,m⟩:=bT h i d j;clear h i d j;go_enter func268,ntmps268;go_wp2_with (first|(refine dA F _ _ F F k YM f ?_)|(refine aZ F _ _ _ F F F (au.bK F F) YM F f p ?_));intro u n s;have o:=s.ext ((aj.refl w).alloc _) (aQ _);go_wp2;go_ret;exact⟨F,⟨r,l,m,n⟩,o⟩
def mY(d:Int):ah:=(replicate 64 0).set 63 (UInt8.ofNat d.toNat)
def Ry(d:Int):(mY d).length=64:=by simp[mY]
def aop:zeroCells350=(sm (replicate 64 0) (replicate 32 0) 0 0).toArray:=aC
def RP(d:Int)(w:World)(e:Ending)(w':World):Prop:=
 if d<0∨255<d then e= .returned (.tuple #[.pointer none,.int .i64 3])/\w=w'
 else e= .returned (.tuple #[.pointer (some ⟨w.heap.size,0,none⟩),.int .i64 0])/\qC w' w.heap.size Dl (mY d) [] 0/\aj w w'
def abl(d:Int)(w:World):
 Calls prog 202 #[.int .i64 d] w (RP d w):=by
 unfold RP;by_cases a:d<0∨255<d
 ·simp only[aN a];by_cases b:d<0
  ·clear a;go_enter func202,ntmps202;go_wp2
   go_ret2
   exact⟨F,F⟩
  ·have c:255<d:=J;clear a;go_enter func202,ntmps202;go_wp2
   go_ret2
   exact⟨F,F⟩
 ·simp only[aJ a];have b:¬d<0:=J;have c:¬255<d:=J;have f:IntKind.u8.wrap d=d:=Nk _ J;clear a;go_enter func202,ntmps202;go_wp2
  go_ret2
  have e:zeroCells350.setIfInBounds 63 (.int .u8 d)=(sm (mY d) (replicate 32 0) 0 0).toArray:=by
   rw[aop,o_]
   congr 1
   unfold sm mY;rw[set_append_left _ _ aB,zV];have:Y (UInt8.ofNat d.toNat)= .int .u8 d:=by
    unfold Y;rw[FL]
    congr 1
    omega
   rw[this]
  exact⟨F,⟨replicate 32 0,F,F,au.bK F e.symm⟩,(aj.refl w).alloc _⟩
def zC(t:ah):ah:=t++128::replicate (31 - t.length%32) 0
def abC(t:ah):(zC t).length%32=0:=by grind [zC]
def mI(s t:ah)(n:Nat):ah:=Ac (jY s (zC t) ((zC t).length / 32)) (replicate 24 0++fQ (UInt64.ofNat n))
def Hz(s t:ah)(n:Nat):(mI s t n).length=64:=Ul _ _
def aah{w w':World}(h:aj w w')(r:Option Nat):w.grownBy w' r:=⟨h.os,h.tape,h.output,h.size,λi a _=>h.block i a⟩
def aeM{P:Program}{ops:Array Oper}{rest:List Oper}{o:Oper}{a:Act}{w:World}{b:Exit->Act->World->Prop}(d:o.guard=none)(ty:TypeId)(x:Operand)(f:o.op= .load ty x){g off n:Nat}{vs xs:aP}{T:TypeId}
 (j:a.eval x= .pointer (some ⟨g,off,none⟩))(c:au w g vs T)(i:jc P ty n)(e:off+n<=vs.length)(k:(vs.drop off).take n=xs)
 (h:wpList P ops b rest (a.put o.dst (.agg xs.toArray)) w):wpList P ops b (o::rest) a w:=
 XW d ty x f j c i e (by rw[k];exact h)
def adM{a:Prop}(e:a:=by
 rintro e wH ⟨rfl,bH,gH⟩;rw[<-HFD.out]at bH;obtain⟨HZH,HEH⟩:=aA (Yp.grown gH (by intro h;injection h with h;omega)) (BP.grown gH (by intro k hk;cases hk;omega));generalize r.map Y++[int IntKind.i64 _,int IntKind.i64 _]=tl at*;have hlH:0+64<=(zm.map Y++tl).length:=by rw[bQ,wQ.out];omega
 have jd:((zm.map Y++tl).drop 0).take 64=zm.map Y:=by rw[jP,<-wQ.out,KU]
 generalize hvs:zm.map Y++tl=vs at*;obtain⟨HVS,m_⟩:=aA hvs jd;have Vl:=dw zm;clear hvs gH jd;generalize Og:zm.map Y=fv at*;have TQ:=O Og;clear Og;go_wp2_with (first|(refine aeM F _ _ F F bH tL hlH m_ ?_)|refine aZ F _ _ _ F F F HZH tL F wQ Vl ?_);intro wI bI uI;go_wp2;refine jS F F bI tL wQ F ⟨by rw[TQ.out],uI.ext HEH (aQ _)⟩):a:=e
def Zt(c t:ah)(a:Nat)(g:Nat)(T:TypeId)(w:World)(hs:c.length=64)(cg:a<=4611686018427387904)(a3:qC w g T c t a):
 eO 204 #[.pointer (some ⟨g,0,none⟩)] w (.agg ((mI c t a).map Y).toArray):=by
 obtain⟨m,al⟩:=aA hs a3;have ck:IntKind.u64.wrap (a:Int)=(a:Int):=Ni _ J;have bk:((UInt64.ofNat a).toNat:Int)=a:=by rw[Qd];omega
 have a5:=λw=>VN (UInt64.ofNat a) w;rw[bk]at a5;have wQ:Hid (((mI c t a).map Y).length=64):=O (by rw[aI,Hz]);have HFD:Hid (mI c t a=Ac (jY c (zC t) ((zC t).length / 32)) (replicate 24 0++fQ (UInt64.ofNat a))):=O F;have ch:=a3.lt;generalize mI c t a=zm at*;generalize UInt64.ofNat a=u at*;clear hs a3 bk;go_enter func204,ntmps204;go_wp2_with fail;generalize ad:alloc w _=cd;have bm:=dX ad (replicate 64 (.int .u8 0)) 77;have ax:=dS ad;have a_:cd.heap.size=w.heap.size+1:=by rw[<-ad];exact Ef _
 clear ad;refine(af7 c t a g T _ m (al.ext ax)).mono ?_;rintro e a' ⟨rfl,bh,aw⟩;obtain⟨bz,bt,am⟩:=aW (bm.ext aw) (ax.ext aw) bh;rw[a_]at am;rw[a_];have b':w.heap.size+1<a'.heap.size:=am.lt;clear bm ax a_ bh aw;go_wp2_with fail;generalize a7:alloc a' _=ce;have bo:=dX a7 (([128]:ah).map Y) 5;have aa:=dS a7;clear a7;refine(XG c t [128] a (w.heap.size+1) 1 1 (some ⟨a'.heap.size,0,none⟩) Dl ce m F (am.ext aa) J (aQ _) J (by intro h;cases h) (aM.iM bo) (.inr (by intro x a9;cases a9;intro h;injection h with h;simp only at h;omega))).mono ?_;rintro e b ⟨rfl,a1,aE⟩;have bd:=aah aa (some (w.heap.size+1));obtain⟨bb,ai⟩:=aA ((bz.grown bd (by intro h;injection h with h;omega)).grown aE (by intro h;injection h with h;omega)) ((bt.ext aa).grown aE (by intro k hk;cases hk;omega));have ca:w.heap.size+1<b.heap.size:=a1.lt;have W:=O a1;clear a1 aE bo aa bd b';obtain⟨r,s,b7,p⟩:=W.out;have bc:=p.cell' (Gy _ a (lu m _) s);have bi:(t++[128]).length%32=(t.length+1)%32:=by rw[bQ];rfl
 rw[bi]at bc;have M:zC t=(t++[128])++replicate (31 - t.length%32) 0:=by unfold zC;rw[sw];rfl
 have ci:=abC t;generalize bj:(t.length+1)%32=q at*;have b5:q=0∨(0<q/\32 - q=31 - t.length%32):=J;have cj:q<32:=J;clear s b7 p r bi;rcases b5 with rfl|⟨b6,a6⟩
 ·have:31 - t.length%32=0:=J;rw[this,replicate_zero,xg]at M;rw[<-M]at W;clear M this bj;obtain⟨r,s, -,p⟩:=W.out;obtain⟨bx,br⟩:=aA s p;clear s p;have ar:=λo=>((al.ext ai).ext ((aj.refl b).alloc o)).elim λcb K=>K.2.2.cell' (Xq _ a (lu m _) K.1);go_wp2_with fail;generalize j:alloc b _=B;have V:=dX j (replicate 32 (.int .u8 0)) 30;have az:=dS j;have cc:B.heap.size=b.heap.size+1:=by rw[<-j];exact Ef _
  clear j ar;refine(a5 _).mono ?_;rintro e S ⟨rfl,f⟩;have b9:B.heap.size<=S.heap.size:=f.size;go_wp2_with (refine aZ F _ _ _ F F F (au.bK F F) Qx F F (dw _) ?_);intro U E R;have G:aj B U:=R.ext (f.alloc _) f.size;obtain⟨aq,ae,D⟩:=aW (V.ext G) E (az.ext G);clear E R f V;generalize S.heap.size=b1 at*;go_wp2;refine AA (C:=λw'=>∃n,w'=U.drewN n) 2 aC aC ⟨1,F⟩ ?_;simp only[pE,pG,mH,jP];iterate 2 quiet_step (fail)
  refine AY ?_;rintro _ ⟨nq,rfl⟩;have an:Hid (((fQ u).map Y).length=8):=O (by rw[aI,JU]);have N:jm (replicate 32 (.int .u8 0)) 24 ((fQ u).map Y)=(replicate 24 0++fQ u).map Y:=F;have ao:=O N;have a2:(replicate 24 0++fQ u).length=32:=F;clear N;generalize I:(fQ u).map Y=Q at*;have L:∀v∈Q,v.oneCell'=true:=by rw[<-I];exact dw _
  clear I;have ag:=O (aM.iM (ae.drewN (n:=nq)));go_wp2_with (refine Kr F _ _ _ _ F F F (aq.drewN (n:=nq)) underlying32 jO an F (λe=>by cases e) ag aB L ?_);intro l d A;change au l _ (jm (replicate 32 (.int .u8 0)) 24 Q) _ at d;rw[ao.out]at d;generalize a4:replicate 24 0++fQ u=P at*;clear a4;have H:w.heap.size+1≠b.heap.size:=J;have af:=O (((br.ext D).drewN (n:=nq)).upd A H);have ap:Hid (∀i,i<32->l.cell? ⟨b.heap.size,0+i,none⟩=some (.int .u8 ((P[i]?.getD 0).toNat:Int))):=O λi b3=>by
   rw[kD];exact d.cell' (Kj J)
  have z:aj b l:=A.ext (D.drewN nq) (aQ _);obtain⟨Yp,BP⟩:=aA (bb.ext z) (ai.ext z);clear d A z L a2;go_wp2_with fail;refine(Nw _ P _ (w.heap.size+1) b.heap.size 0 Dl l (lu m _) af ap (.inl (Ne.symm H))).mono ?_;exact adM
 ·obtain⟨k,hk⟩:=aF (32 - q);have b8:IntKind.i64.wrap (32 - (q:Int))=(k:Int):=by rw[fJ _ J];omega
  have b4:k<=32/\0<k:=J;rw[hk]at a6;obtain⟨cf,bw,bv⟩:=aW hk a6 M;clear hk bj a6 M;have b2:=cO ((0:Int)<(q:Int));go_wp2_with (refine aeN F _ _ F (n:=k) F F J ?_);generalize a8:alloc b _=bl;have bp:au bl b.heap.size ((replicate (k) (0:UInt8)).map Y) 5:=by rw[<-a8];exact au.bK F aB
  have ab:=dS a8;clear a8;refine(XG c (t++[128]) (replicate (k) 0) a (w.heap.size+1) k k (some ⟨b.heap.size,0,none⟩) Dl bl m (Jf ..) (W.ext ab) J (aQ _) J (by intro h;cases h) (aM.iM bp) (.inr (by intro x a9;cases a9;intro h;injection h with h;simp only at h;omega))).mono ?_;rintro e y ⟨rfl,ac,a0⟩;rw[bw.out,<-bv.out]at ac;have be:=aah ab (some (w.heap.size+1));obtain⟨b0,ba⟩:=aA ((bb.grown be (by intro h;injection h with h;omega)).grown a0 (by intro h;injection h with h;omega)) ((ai.ext ab).grown a0 (by intro k hk;cases hk;omega));have cl:w.heap.size+1<y.heap.size:=ac.lt;have bu:=O ac;clear ac a0 bp ab be ca bc b6 b2 b8 b4;obtain⟨r,s, -,p⟩:=bu.out;obtain⟨bx,bs⟩:=aA s p;clear s p;have ar:=λo=>((al.ext ba).ext ((aj.refl y).alloc o)).elim λcb K=>K.2.2.cell' (Xq _ a (lu m _) K.1);go_wp2_with fail;generalize j:alloc y _=B;have V:=dX j (replicate 32 (.int .u8 0)) 30;have az:=dS j;have cc:B.heap.size=y.heap.size+1:=by rw[<-j];exact Ef _
  clear j ar;refine(a5 _).mono ?_;rintro e S ⟨rfl,f⟩;have b9:B.heap.size<=S.heap.size:=f.size;go_wp2_with (refine aZ F _ _ _ F F F (au.bK F F) Qx F F (dw _) ?_);intro U E R;have G:aj B U:=R.ext (f.alloc _) f.size;obtain⟨aq,ae,D⟩:=aW (V.ext G) E (az.ext G);clear E R f V;generalize S.heap.size=b1 at*;go_wp2;refine AA (C:=λw'=>∃n,w'=U.drewN n) 2 aC aC ⟨1,F⟩ ?_;simp only[pE,pG,mH,jP];iterate 2 quiet_step (fail)
  refine AY ?_;rintro _ ⟨nq,rfl⟩;have an:Hid (((fQ u).map Y).length=8):=O (by rw[aI,JU]);have N:jm (replicate 32 (.int .u8 0)) 24 ((fQ u).map Y)=(replicate 24 0++fQ u).map Y:=F;have ao:=O N;have a2:(replicate 24 0++fQ u).length=32:=F;clear N;generalize I:(fQ u).map Y=Q at*;have L:∀v∈Q,v.oneCell'=true:=by rw[<-I];exact dw _
  clear I;have ag:=O (aM.iM (ae.drewN (n:=nq)));go_wp2_with (refine Kr F _ _ _ _ F F F (aq.drewN (n:=nq)) underlying32 jO an F (λe=>by cases e) ag aB L ?_);intro l d A;change au l _ (jm (replicate 32 (.int .u8 0)) 24 Q) _ at d;rw[ao.out]at d;generalize a4:replicate 24 0++fQ u=P at*;clear a4;have H:w.heap.size+1≠y.heap.size:=J;have af:=O (((bs.ext D).drewN (n:=nq)).upd A H);have ap:Hid (∀i,i<32->l.cell? ⟨y.heap.size,0+i,none⟩=some (.int .u8 ((P[i]?.getD 0).toNat:Int))):=O λi b3=>by
   rw[kD];exact d.cell' (Kj J)
  have z:aj y l:=A.ext (D.drewN nq) (aQ _);obtain⟨Yp,BP⟩:=aA (b0.ext z) (ba.ext z);clear d A z L a2;go_wp2_with fail;refine(Nw _ P _ (w.heap.size+1) y.heap.size 0 Dl l (lu m _) af ap (.inl (Ne.symm H))).mono ?_;exact adM
def bf:jc prog 31 32:=⟨⟨_,underlying31,F⟩,aC⟩
def eY(d:Int)(t:ah):ah:=(mI (mY d) t t.length).take 32
def nJ(d:Int)(t:ah):(eY d t).length=32:=by rw[eY,fP,Hz];rfl
def amM(b t:ah)(a:Nat)(g:Nat)(T:TypeId)(w:World)(hs:b.length=64)(B:a<=4611686018427387904)(l:qC w g T b t a):
 eO 152 #[.pointer (some ⟨g,0,none⟩)] w (.agg (((mI b t a).take 32).map Y).toArray):=by
 have s:=O l;have k:Hid (((mI b t a).map Y).length=64):=O (by rw[aI,Hz]);have r:Hid ((((mI b t a).map Y).drop 0).take 32=((mI b t a).take 32).map Y):=O (by rw[jP,wW]);have j:Hid ((((mI b t a).take 32).map Y).length=32):=O (by rw[aI,fP,Hz];rfl);have z:=dw (mI b t a);have A:=dw ((mI b t a).take 32);have C:=λw' (h:qC w' g T b t a)=>Zt b t a g T w' hs B h;generalize D:((mI b t a).take 32).map Y=I at*;generalize (mI b t a).map Y=H at*;clear l D;have ha:=J8 (P:=prog) underlying31 (len:=32) (aQ 32);go_enter func152,ntmps152;go_wp2_with fail;generalize i:alloc w _=L;have o:=dX i (replicate 32 (.int .u8 0)) 31;have f:=dS i;clear i;refine(C _ (s.ext f)).mono ?_;rintro e n ⟨rfl,c⟩;obtain⟨u,p⟩:=aA (o.ext c) (f.ext c);clear o f c;go_wp2_with (refine aZ F _ _ _ F F F (au.bK F F) tL F k z ?_);intro G x m;have d:aj n G:=m.ext ((aj.refl n).alloc _) (aQ _);obtain⟨v,q⟩:=aA (u.ext d) (p.ext d);clear d m;go_wp2_with (first|(refine aeM F _ _ F F x bf (by rw[k.out];omega) r ?_)|refine aZ F _ _ _ F F F v bf F j A ?_);intro K y E;go_wp2;refine jS F F y bf j F ⟨F,E.ext q (aQ _)⟩
def Tg(d:Int)(t:ah)(w:World)(e:Ending)(w':World):Prop:=
 (if d<0∨255<d then e= .returned (.tuple #[.pointer none,.int .i64 3])
 else if t.length<=1048576 then e= .returned (.tuple #[.pointer (some ⟨w.heap.size,0,none⟩),.int .i64 0])/\qC w' w.heap.size Dl (mY d) t t.length
 else e= .returned (.tuple #[.pointer none,.int .i64 5]))/\aj w w'
def adx(f:List I6)(d:Int)(g len cap:Nat)(w:World)(S:f.length=len)(a2:len<=1000)
 (R:∀i b,f[i]? =some b->w.cell? ⟨g,i,none⟩=some (tV b))(ao:g<w.heap.size)
 (N:∀b∈f,aM w b.1 (b.2.2.map Y))(T:∀b∈f,b.1=none->b.2.1=0)(r:∀b∈f,b.2.2.length<=b.2.1)(m:∀b∈f,b.2.1<=9223372036854775807):
 Calls prog 151 #[.int .i64 d,.slice (some ⟨g,0,none⟩) len cap] w (Tg d (jw f) w):=by
 obtain⟨G,ad,V,al,am,aa⟩:=jW S R N T r m;clear S R N T r m;unfold Tg;by_cases j:d<0∨255<d
 ·simp only[aN j];have z:=O j;clear j;go_enter func151,ntmps151;go_wp2_with fail;refine(abl d w).mono ?_;intro e aw h;unfold RP at h;rw[aN z.out]at h;obtain⟨rfl,rfl⟩:=h;go_wp2
  go_ret2
  exact⟨F,aj.refl _⟩
 ·simp only[aJ j];have z:=O j;clear j;go_enter func151,ntmps151;go_wp2_with fail;refine(abl d w).mono ?_;intro e aw h;unfold RP at h;rw[aJ z.out]at h;obtain⟨rfl,K,H⟩:=h;obtain⟨ae,ab⟩:=aA K H;clear K H;go_wp2;go_loopw [21] (λx wr=>∃k:Nat,k<=len/\x= .int .i64 k/\Hid ((jw (f.take k)).length<=1048576)/\Hid (qC wr w.heap.size Dl (mY d) (jw (f.take k)) (jw (f.take k)).length)/\Hid (aj w wr))
   (λx _=>len - (intOf x).toNat)
  ·exact⟨0,J,F,O (by simp[jw]),O ae.out,ab⟩
  ·obtain⟨k,a1,rfl,B,t,n⟩:=hrel;by_cases ar:k<len
   ·have az:=cO ((k:Int)<(len:Int));obtain⟨b,u⟩:∃b,f[k]? =some b:=⟨_,mG (by rw[G.out];exact ar)⟩;have q:b∈f:=f_ u;have an:=(n.cell (p:=⟨g,k,none⟩) ao).trans (ad k b u);obtain⟨a,c,l⟩:=b;have y:=UH u;simp only[tV]at an;have r:=am.out _ q;have m:=aa.out _ q;simp only at r m y;obtain⟨v,E,ai⟩:=aW y (V _ q) (al _ q);have aE:(0:Int)<=(k:Int):=J;have a0:(k:Int)<(len:Int):=J;clear y u q;generalize o:l.length=C at*;generalize ax:jw (f.take k)=s at*;have W:=O (UG f (k+1));go_wp2_with fail;refine(aoa (mY d) s l (s.length:Nat) w.heap.size C c a Dl wr (Ry d) o J (by have:=B.out;omega) t J r m (λe=>by have:=ai.out e;omega) (E.ext n) (afy E (by rw[aI];exact o) (aQ _))).mono ?_;intro e a4 h;unfold XZ at h;rw[o]at h;by_cases A:(C:Int)<=1048576 - (s.length:Nat)
    ·rw[aN A]at h;obtain⟨rfl,L,I⟩:=h;obtain⟨af,ac⟩:=aA L (n.grown I (by intro a3 ap;cases ap;exact aQ _));have Q:(s++l).length=s.length+C:=by rw[bQ,o]
     have D:=O Q;clear L I Q;go_wp2;go_roundw
     ·refine⟨k+1,J,by go_num,O ?_,O ?_,ac⟩
      ·rw[v.out,D.out];omega
      ·rw[v.out,D.out,Int.natCast_add];exact af
     ·exact fV
    ·rw[aJ A]at h;obtain⟨rfl,rfl⟩:=h;have M:¬(jw f).length<=1048576:=by
      have:=W.out;rw[v.out,bQ,o]at this;omega
     have U:=O M;clear M A;go_wp2
     go_ret2
     refine⟨?_,n⟩;first|rfl|(rw[aJ U.out];rfl)
   ·have aq:k=len:=J;subst aq;have P:jw (f.take k)=jw f:=by rw[gY (by rw[G.out];exact aQ _)]
    rw[P]at B t;have ag:Hid ((jw f).length<=1048576):=B;clear P;go_wp2
    go_ret2
    refine⟨?_,n⟩;first|exact⟨F,t⟩|(rw[aN ag.out];exact⟨F,t⟩)
def aiZ(a i:Nat)(e:a<18446744073709551616)(f:i<8):((((fQ (UInt64.ofNat a))[i]?.getD 0).toNat:Nat):Int)=(a:Int) / 2^(56 - 8*i)%256:=by
 have d:(UInt64.ofNat a).toNat=a:=by rw[Qd];omega
 unfold fQ;rw[d];have b:(UInt32.ofNat (a / 4294967296)).toNat=a / 4294967296%4294967296:=FM ..;have c:(UInt32.ofNat a).toNat=a%4294967296:=FM ..;rcases(by omega:i=0∨i=1∨i=2∨i=3∨i=4∨i=5∨i=6∨i=7)with rfl|rfl|rfl|rfl|rfl|rfl|rfl|rfl
 all_goals
  simp only[mh,b,c,cons_append,zi,P_,uN,Ql,anv];simp;try omega
def J4(a:Nat)(w:World)(s:a<=4611686018427387904):
 Calls prog 107 #[.int .i64 (a:Int)] w λe w'=>e= .returned (.slice (some ⟨w.heap.size,0,none⟩) 8 8)/\au w' w.heap.size ((fQ (UInt64.ofNat a)).map Y) 5/\aj w w':=by
 have u:=λw=>SG w 8 J;obtain⟨f,c⟩:=aF ((λi=>(fQ (UInt64.ofNat a))[i]?.getD 0):Nat->UInt8);have j:fQ (UInt64.ofNat a)=mR (λi=>(fQ (UInt64.ofNat a))[i]?.getD 0) 0 8 8:=by
  rw[Vb _ _ _ _ (aQ _)];rfl
 have g:=O j;have o:∀i,i<8->(a:Int) / 2^(56 - 8*i)%256=((f i).toNat:Int):=λi h=>by rw[<-c,aiZ a i J h]
 rw[c]at g;clear j c;generalize fQ (UInt64.ofNat a)=y at*;go_enter func107,ntmps107;go_wp2_with (refine aeN F _ _ F (n:=8) F F J ?_);generalize d:alloc w _=A;have p:=dX d ((mR f 0 8 0).map Y) 5;have m:=dS d;clear d;go_loopw [8] (λx wr=>∃i:Nat,i<=8/\x= .int .i64 i/\au wr w.heap.size ((mR f 0 8 i).map Y) 5/\aj w wr)
  (λx _=>8 - (intOf x).toNat)
 ·exact⟨0,J,F,p,m⟩
 ·obtain⟨i,h,rfl,b,l⟩:=hrel;by_cases k:i<8
  ·have t:=cO ((i:Int)<8);have z:=o i k;have q:=b.cell' (i:=i) (Kj (by rw[Bj];exact k));have r:=b.frozen i;have v:(0:Int)<=(i:Int):=J;have i1:(i:Int)<8:=J;have k1:IntKind.i64.wrap (8*(i:Int))=8*(i:Int):=fJ _ J;have k2:IntKind.i64.wrap (56 - 8*(i:Int))=((56 - 8*i:Nat):Int):=by rw[fJ _ J];omega
   go_wp2;go_roundw
   ·exact⟨i+1,J,by go_num,b.Z6,l.set _ (aQ _)⟩
   ·exact fV
  ·obtain rfl:i=8:=J;go_wp2;go_ret;exact⟨F,by rw[g.out];exact b,l⟩
def X4(k:Nat):zeroCells (int .u8 0).cells k=(replicate k (int .u8 0)).toArray:=by
 have e:(int .u8 0).cells= #[.int .u8 0]:=F;apply Array.ext
 ·simp[zeroCells,e]
 ·intro i a b;simp[zeroCells,e,Nat.mod_one]
def ali(w:World)(h:Nat)(ty:TypeId)(v:Value)(n:Nat)(xs:aP)(r:w.ownsRow h 5 1 v n xs)(k:Nat)(z:0<k)
 (V:n+k<=140737488355328)(E:h<=w.heap.size):
 ∃C w',(append_ #[32,3] ty #[v,.int .i64 (k:Int)]).run prog w= .ok C w'/\w'.ownsRow h 5 1 C (n+k) (xs++replicate k (.int .u8 0))/\w.grownBy w' v.ownBlock:=by
 obtain⟨d,p,t,hs,i⟩:=gJ Gf;have l:=r.1;have m:(xs++replicate k (int .u8 0)).length=(n+k)*1:=by rw[bQ,Jf,l];omega
 have x:∀(a:Nat),a<n+k->∀(row:Option Nat),
  (w.drew.alloc (.cells (xs.toArray++zeroCells (int .u8 0).cells k++zeroCells (int .u8 0).cells (grownCap w (n+k) a 5 - (n+k))) 5)).ownsRow h 5 1
   (.slice (some ⟨w.heap.size,0,none⟩) (n+k) (grownCap w (n+k) a 5)) (n+k) (xs++replicate k (.int .u8 0))/\
  w.grownBy (w.drew.alloc (.cells (xs.toArray++zeroCells (int .u8 0).cells k++zeroCells (int .u8 0).cells (grownCap w (n+k) a 5 - (n+k))) 5)) row:=by
  intro a aa row;have K:=KT w (n+k) a 5;have o:grownCap w (n+k) a 5<=maxLen:=KJ w (n+k) a 5 (by unfold maxLen;omega);refine⟨⟨m,.inr ⟨w.heap.size,_,_,F,E,heap_alloc_new w.drew _,K,o,?_,?_⟩⟩,⟨F,F,F,aB,λj q _=>heap_alloc_old w.drew _ q⟩⟩
  ·simp only[Array.size_append,zh,X4,Jf,l];omega
  ·simp only[Array.toList_append,X4,sw];rw[<-sw,<-m];exact KU
 rcases r.2 with⟨rfl,rfl⟩|⟨g,cap,f,rfl,G,y,W,o,H,S⟩
 ·have U:xs=[]:=eq_nil_of_length_eq_zero (by simpa using l);subst U;have c:=Lib.run_append_nil_zeros (P:=prog) w 32 3 ty 5 d (.int .u8 0) .i64 .i64 underlying32 underlying3 p t k z J J (by rw[i];omega);have b:=x 0 J (Value.ownBlock (.slice none 0 0));simp only[kD,Array.empty_append]at b c⊢;exact⟨_,_,c,by simpa using b.1,by simpa using b.2⟩
 ·by_cases A:n+k<=cap
  ·have I:n*1+(replicate k (int .u8 0)).length<=f.size:=by rw[Jf,H];omega
   have s:=run_storeCells_at prog g (n*1) 5 (replicate k (int .u8 0)) 0 f w y (by simpa using I) (by intro u B;simp at B;rw[B.2];rfl);have T:IntKind.i64.wrap (k:Int)=k:=by rw[P5];omega
   have D:¬(281474976710656<(k:Int)*(d.bytes:Int)):=by rw[i];omega
   have N:¬(k*d.size=0):=by rw[hs];omega
   have M:¬((k:Int)<0):=J;have L:k≠0:=J;simp only[z8]at s;have c:(append_ #[32,3] ty #[.slice (some ⟨g,0,none⟩) n cap,.int .i64 (k:Int)]).run prog w=
    .ok (.slice (some ⟨g,0,none⟩) (n+k) cap) (w.setRow g (f.toList.take (n*1)++replicate k (int .u8 0)++f.toList.drop (n*1+(replicate k (int .u8 0)).length)).toArray):=by
    simp[append_,jB underlying32,jB underlying3,sizeOf,typeInfo,zeroValue,p,t,asInt,asIntOf,T,M,D,N,A,X4,L,hs,Addr.add_lit];simp at s;simp[s]
   refine⟨_,_,c,⟨m,.inr ⟨g,cap,_,F,G,setRow_heap w g f _ _ _ y,A,o,?_,?_⟩⟩,⟨F,F,F,aB,λj _ q=>setRow_other w g j _ (λe=>q (by simp[Value.ownBlock,e]))⟩⟩
   ·simp only[zh,bQ,fP,iI,pz,Jf];omega
   ·rw[S,<-m];exact KU
  ·have R:∀j u,xs[j]? =some u->w.cell? ((⟨g,0,none⟩:Addr).add j)=some u:=r.cells (g:=g) F;have Q:(Builtin.firstCells d.size n (.slice (some ⟨g,0,none⟩) n cap)).run prog w.drew= .ok xs.toArray w.drew:=run_firstCells_some (P:=prog) w.drew d.size n ⟨g,0,none⟩ n cap xs (by rw[hs];exact l) R;have c:=Lib.run_append_grow_zeros (P:=prog) w 32 3 ty 5 d (.int .u8 0) .i64 .i64 underlying32 underlying3 p t (some ⟨g,0,none⟩) n cap xs Q k z J J J (by rw[i];omega) (KN J (by rw[i];omega));have b:=x cap J (Value.ownBlock (.slice (some ⟨g,0,none⟩) n cap));exact⟨_,_,c,b.1,b.2⟩
def an6{ops:Array Oper}{rest:List Oper}{o:Oper}{a:Act}{w:World}{d:Exit->Act->World->Prop}(j:o.guard=none)(s x:Operand)
 (m:o.op= .call {callee:= .builtin .append,args:= #[s,x],argTypes:= #[32,3]})(c:Nat){v:Value}{n:Nat}{xs:aP}{k:Nat}
 (hs:a.eval s=v)(r:a.eval x= .int .i64 (k:Int))(p:w.ownsRow c 5 1 v n xs)(l:0<k)(g:n+k<=140737488355328)(i:c<=w.heap.size)
 (h:∀b w',w'.ownsRow c 5 1 b (n+k) (xs++replicate k (.int .u8 0))->w.grownBy w' v.ownBlock->wpList prog ops d rest (a.put o.dst b) w'):wpList prog ops d (o::rest) a w:=by
 obtain⟨b,w',q,e,f⟩:=ali w c o.type v n xs p k l g i;exact Lib.wpList_append_run w j s x _ _ m v _ hs r b w' q (h b w' e f)
def GH{ops:Array Oper}{rest:List Oper}{o:Oper}{a:Act}{w:World}{g:Exit->Act->World->Prop}(i:o.guard=none)(s x:Operand)
 (l:o.op= .call {callee:= .builtin .append,args:= #[s,x],argTypes:= #[32,32]})(b:Nat){v:Value}{n m c:Nat}{xs ys:ah}{d:aO}
 (hs:a.eval s=v)(p:a.eval x= .slice d m c)(f:w.ownsRow b 5 1 v n (xs.map Y))(k:ys.length=m)(z:d=none->m=0/\c=0)(C:aM w d (ys.map Y))
 (H:n+m<=140737488355328)(B:b<=w.heap.size)
 (h:∀e w',w'.ownsRow b 5 1 e (n+m) ((xs++ys).map Y)->w.grownBy w' v.ownBlock->wpList prog ops g rest (a.put o.dst e) w'):wpList prog ops g (o::rest) a w:=by
 obtain⟨q,j,G,D,A⟩:=gJ Gf;cases d with
 |none=>
  obtain⟨rfl,rfl⟩:=z F;have E:ys=[]:=qm.1 k;subst E;have r:=h v w (by simpa using f) (Ib w _);exact wpList_append_own_none i s x 32 l b 5 q 1 underlying32 j v n (xs.map Y) hs f p r
 |some y=>
  exact Jc w i s x 32 l b 5 q (.int .u8 0) 1 1 underlying32 j G D A F bS v n (xs.map Y) hs f y m c (ys.map Y) p
   (by rw[aI,k,nA]) (Gl C) (dw _) (by unfold maxLen;omega) J B (λe w' t u _=>h e w' (by rw[jv];exact t) u)
def yR{w:World}{B:Nat}{e:TypeId}{b n:Nat}{v:Value}{xs:aP}(h:w.ownsRow B e b v n xs):∀g,v.ownBlock=some g->B<=g:=by
 intro g a;rcases h.2 with⟨rfl,_⟩|⟨d,cap,c,rfl,f,_⟩
 ·cases a
 ·simp[Value.ownBlock]at a;omega
def ae4{s p q:ah}{m:Nat}(a:p.length=32*m)(b:q.length=32):jY s (p++q) (m+1)=Ac (jY s p m) q:=by grind [jY,Nt,drop_left,take_of_length_le]
def ahh(s t:ah)(n:Nat):mI s t n=jY s (zC t++(replicate 24 0++fQ (UInt64.ofNat n))) ((zC t).length / 32+1):=by
 have h:=abC t;rw[ae4 J F];rfl
def anw(d:Int)(h:0<=d)(a:d<=255):((UInt8.ofNat d.toNat).toNat:Int)=d:=by rw[FL];omega
def aiq(d:Int)(h:0<=d)(a:d<=255):(replicate 64 (int .u8 0)).set 63 (.int .u8 d)=(mY d).map Y:=by simp[mY,Y,zV,anw];omega
def ajL{w:World}{B n c:Nat}{e:TypeId}{g:Nat}{a:aO}{xs:aP}(h:w.ownsRow B e g (.slice a n c) n xs):∀x,a=some x->B<=x.block:=by
 intro x d;rcases h.2 with⟨b,_⟩|⟨j,cap,i,b,f,_⟩
 ·injection b with b _ _;rw[b]at d;cases d
 ·injection b with b _ _;rw[b]at d;cases d;exact f
def acD(d:Int)(t:ah)(n c:Nat)(a:aO)(w:World)(dk:0<=d)(dl:d<=255)(a0:t.length=n)(es:n<=1099511627776)(b4:aM w a (t.map Y)):
 eO 108 #[.int .i64 d,.slice a n c] w (.agg ((mI (mY d) t n).map Y).toArray):=by
 obtain⟨bk,cA,ba⟩:=aW a0 b4 (ahh (mY d) t n);have cN:Hid (((mI (mY d) t n).map Y).length=64):=O (by rw[aI,Hz]);have bi:Hid (zC t=t++128::replicate (31 - n%32) 0):=O (by rw[<-a0];rfl);have en:IntKind.u8.wrap d=d:=Nk _ J;have cF:=O (aiq d dk dl);have bc:=Ry d;have dy:=λw=>J4 n w J;generalize mI (mY d) t n=br at*;generalize mY d=q at*;generalize ca:fQ (UInt64.ofNat n)=I at*;have bd:Hid (I.length=8):=O (by rw[<-ca];rfl);have bb:=O bc;clear a0 b4 bc ca;go_enter func108,ntmps108;go_wp2_with fail;generalize af:alloc (alloc w _) _=T;have cw:=qA af (replicate 64 (.int .u8 0)) 77;have a8:au T (w.heap.size+1) (q.map Y) 77:=by rw[<-af,<-cF.out];exact au.bK aB F
 have ap:=wN af;have eC:w.heap.size+1<T.heap.size:=a8.lt;clear af;refine(NA t a n c T bk J (cA.ext ap)).mono ?_;rintro e s ⟨v,rfl,cn, -,p⟩;obtain⟨be,a',bm,bj⟩:=bT cn (ap.ext p) (cw.ext p) (a8.ext p);have b0:T.heap.size<=s.heap.size:=p.size;clear cw a8 ap p cn;generalize T.heap.size=B at*;have U:au (s.alloc (.cells #[.int .u8 128] 5)) s.heap.size (([128]:ah).map Y) 5:=au.bK F F;have f:aj s (s.alloc (.cells #[.int .u8 128] 5)):=(aj.refl s).alloc _;obtain⟨P,ao,am,ag⟩:=bT (iy be f) (bm.ext f) (bj.ext f) (a'.ext f);have E:B<=(s.alloc (.cells #[.int .u8 128] 5)).heap.size:=dJ b0 f.size;go_wp2_with (at_builtin;refine GH F _ _ F B (ys:=[128]) F F P F (by intro h;cases h) (aM.iM U) J E ?_);generalize s.alloc (.cells #[.int .u8 128] 5)=d7 at*;intro eJ d8 co Q;have cR:=O co;have ac:=λA h=>yR P A h;obtain⟨c7,cX,cH⟩:=aW (ao.grown Q (by intro h;have:=ac _ h.symm;omega)) (am.grown Q (by intro h;have:=ac _ h.symm;omega)) (ag.grown Q (by intro k z;have:=ac _ z;omega));have bw:B<=d8.heap.size:=dJ E Q.size;clear co Q ac U f E be bm bj a' b0;go_wp2;go_loopw [6] (λx wr=>∃j:Nat,n+1+j<=n+1+(31 - n%32)/\Hid (wr.ownsRow B 5 1 x (n+1+j) ((t++[128]++replicate j 0).map Y))/\Hid (au wr w.heap.size (replicate 64 (.int .u8 0)) 77)/\Hid (au wr (w.heap.size+1) (q.map Y) 77)/\Hid (aj w wr)/\B<=wr.heap.size)
  (λx _=>n+100 - IE x)
 ·exact⟨0,J,O (by rw[replicate_zero,xg,jv];exact cR),c7,cX,cH,bw⟩
 ·obtain⟨j,dq,G,a3,hs,ar,aa⟩:=hrel;obtain⟨ec,eg,rfl,cd,di,bt,b5⟩:=wm G;obtain⟨cD,eb⟩:=aA b5 bt;clear b5 bt;obtain⟨eI,a1⟩:=aF (t++[128]++replicate j 0);rw[a1]at G cD;have bl:=O a1;clear a1;by_cases aw:j<31 - n%32
  ·have cg:((n:Int)+1+j).tmod 32=((n:Int)+1+j)%32:=KH J;have ew:(((n:Int)+1+j)%32 != 0)=true:=by rw[bne_iff_ne];omega
   have U:au (wr.alloc (.cells #[.int .u8 0] 5)) wr.heap.size (([0]:ah).map Y) 5:=au.bK F F;have f:aj wr (wr.alloc (.cells #[.int .u8 0] 5)):=(aj.refl wr).alloc _;obtain⟨P,ao,am,ag⟩:=bT (iy G f) (a3.ext f) (hs.ext f) (ar.ext f);have E:B<=(wr.alloc (.cells #[.int .u8 0] 5)).heap.size:=dJ aa f.size;go_wp2_with (at_builtin;refine GH F _ _ F B (ys:=[0]) F F P F (by intro h;cases h) (aM.iM U) J E ?_);generalize wr.alloc (.cells #[.int .u8 0] 5)=eL at*;intro eK ct a4 R;have cS:=O a4;have ad:=λA h=>yR P A h;obtain⟨c8,cY,cI⟩:=aW (ao.grown R (by intro h;have:=ad _ h.symm;omega)) (am.grown R (by intro h;have:=ad _ h.symm;omega)) (ag.grown R (by intro k z;have:=ad _ z;omega));have df:B<=ct.heap.size:=dJ E R.size;obtain⟨ed,eh,H, -, -, -, -⟩:=wm a4;have c5:=O H;clear a4 R ad U f E H;go_wp2;go_roundw
   ·refine⟨j+1,J,O ?_,c8,cY,cI,df⟩;have N:t++[128]++replicate (j+1) 0=(t++[128]++replicate j 0)++[0]:=by rw[replicate_succ',sw (t++[128])]
    rw[N,bl.out,jv];exact cS
   ·rw[c5.out];simp only[IE];omega
  ·have dr:j=31 - n%32:=J;subst dr;have ax:t++[128]++replicate (31 - n%32) 0=zC t:=by rw[bi.out,sw];rfl
   have cl:=bl.out;rw[ax]at cl;subst cl;obtain⟨g,ab⟩:∃g,n+1+(31 - n%32)=32*g:=⟨(n+1+(31 - n%32)) / 32,J⟩;have ce:(zC t).length=32*g:=by rw[<-ax,bQ,bQ,Jf,bk.out,<-ab];rfl
   have er:32*g<=1099511627776+32:=J;rw[ab]at G cd;rw[ab];have cg:(32*(g:Int)).tmod 32=0:=by
    rw[KH J];omega
   have hcut:(zC t).length / 32+1=g+1:=J;rw[hcut]at ba;clear hcut ab aw dq ax bi;generalize zC t=K at*;have cU:=O ce;clear ce;go_wp2_with (at_builtin;refine an6 F _ _ F B (k:=24) F F G J J aa ?_);intro d5 a9 cp S;have H:=λA h=>yR G A h;have cT:Hid (a9.ownsRow B 5 1 d5 (32*g+24) ((K++replicate 24 0).map Y)):=O (by rw[jv];exact cp);obtain⟨c9,c0,cJ⟩:=aW (a3.grown S (by intro h;have:=H _ h.symm;omega)) (hs.grown S (by intro h;have:=H _ h.symm;omega)) (ar.grown S (by intro k z;have:=H _ z;omega));have bx:B<=a9.heap.size:=dJ aa S.size;clear cp S H G a3 hs ar aa;have ch:K++replicate 24 0++I=K++(replicate 24 0++I):=sw ..;generalize d1:K++replicate 24 0=eE at*;have cW:=O ch;clear ch;go_wp2_with fail;refine(dy a9).mono ?_;rintro e d' ⟨rfl,bp,M⟩;obtain⟨bh,c_,c1,cL⟩:=bT (iy cT M) (c9.ext M) (c0.ext M) (cJ.ext M);have bz:B<=d'.heap.size:=dJ bx M.size;go_wp2_with (at_builtin;refine GH F _ _ F B (ys:=I) F F bh bd (by intro h;cases h) (aM.iM bp) J bz ?_);intro d6 ea cq V;have ae:=λA h=>yR bh A h;obtain⟨c',c2,cM⟩:=aW (c_.grown V (by intro h;have:=ae _ h.symm;omega)) (c1.grown V (by intro h;have:=ae _ h.symm;omega)) (cL.grown V (by intro k z;have:=ae _ z;omega));have a5:ea.ownsRow B 5 1 d6 (32*(g+1)) ((K++(replicate 24 0++I)).map Y):=by
    rw[<-cW.out,jv,show 32*(g+1)=32*g+24+8 by omega];simpa using cq
   have b1:(K++(replicate 24 0++I)).length=32*(g+1):=by
    rw[bQ,bQ,Jf,cU.out,bd.out];omega
   generalize K++(replicate 24 0++I)=m at*;obtain⟨da,dc,rfl,dT,dj,bu,b6⟩:=wm a5;have bv:=ajL a5;obtain⟨a_,cE,cx,cy⟩:=bT b1 b6 bu bv;clear cq V ae a5 b6 bu bv bp M bx bz d1 b1 cg;unfold maxLen at dj;go_wp2;clear cd di bw;go_loopw [6] (λx wr=>∃(k l u:Nat) (L:aO),x= .slice L l u/\l+32*k=32*(g+1)/\l<=u/\u<=9223372036854775807/\Hid (L=none->u=0)/\Hid (∀x,L=some x->B<=x.block)/\
    Hid (aM wr L ((m.drop (32*k)).map Y))/\Hid (au wr (w.heap.size+1) ((jY q m k).map Y) 77)/\Hid (au wr w.heap.size (replicate 64 (.int .u8 0)) 77)/\Hid (aj w wr))
    (λx _=>IE x)
   ·exact⟨0,_,dc,da,F,J,dT,J,cx,cy,O (by rw[G_,jP];exact cE),c2,c',cM⟩
   ·obtain⟨k,l,u,L,rfl,z,et,ek,bs,de,b2,az,cm,b7⟩:=hrel;by_cases ev:0<l
    ·have el:=cO ((0:Int)<(l:Int));have aw:32<=l:=J;have dv:(m.drop (32*k)).length=l:=by rw[iI,a_.out];omega
     have d0:L≠none:=λe=>by have:=bs.out e;omega
     obtain⟨D,off,rfl,b3⟩:=b2.jg (by rw[aI,dv];omega);have eo:B<=D:=de.out _ F;obtain⟨b,aq⟩:=aF ((m.drop (32*k)).take 32);have cj:∀i,i<32->wr.cell? ⟨D,off+i,none⟩=some (.int .u8 ((b[i]?.getD 0).toNat:Int)):=by
      intro i b';refine b3 i _ ?_;rw[<-aq,uM b'];exact Kj J
     have ck:jY q m (k+1)=Ac (jY q m k) b:=by rw[jY,aq]
     have c4:=O ck;have ci:(jY q m k).length=64:=lu bb k;generalize jY q m k=o at*;obtain⟨an,c3⟩:=aA ci cj;clear cj b3 d0 ck ci aq;go_wp2;go_loopw [32] (λx cv=>∃i:Nat,i<=32/\x= .int .i64 i/\Hid (au cv (w.heap.size+1) ((pX o b i).map Y) 77)/\Hid (wr.grownBy cv (some (w.heap.size+1))))
      (λx _=>32 - (intOf x).toNat)
     ·exact⟨0,J,F,az,O (Ib _ _)⟩
     ·obtain⟨i,b',rfl,a6,a7⟩:=hrel;by_cases dC:i<32
      ·have em:=cO ((i:Int)<32);have dm:some D≠some (w.heap.size+1):=by intro e;injection e;omega
       have aE:=c3.out i dC;have b9:=kN aE;have ee:∀nq,(wr.drewN nq).cell? ⟨D,off+i,none⟩=some (.int .u8 ((b[i]?.getD 0).toNat:Int)):=λnq=>by
        rw[<-aE];exact World.cell?_of_block (a7.block D b9 dm)
       have ey:(0:Int)<=(i:Int):=J;have i1:(i:Int)<32:=J;have i2:(i:Int)<64:=J;have ez:(i:Int)<(l:Int):=J;have ep:(pX o b i).length=64:=by rw[JW];exact an
       have cc:pX o b (i+1)=(pX o b i).set i (C_ ((pX o b i)[i]?.getD 0) (b[i]?.getD 0)):=F;generalize pX o b i=ws at*;have cQ:=O cc;have al:=O a6.out;have ef:∀nq,(wr.drewN nq).cell? ⟨w.heap.size+1,i,none⟩=some (.int .u8 ((ws[i]?.getD 0).toNat:Int)):=λnq=>(al.drewN (n:=nq)).cell' (Kj J);have ei:∀nq,(wr.drewN nq).frozen? ⟨w.heap.size+1,i,none⟩=false:=λnq=>(al.drewN (n:=nq)).frozen i;have ex:=TI (ws[i]?.getD 0) (b[i]?.getD 0);clear cc aE b9;go_wp2;refine AA (C:=λw'=>∃n,w'=wr.drewN n) 9 aC aC ⟨1,F⟩ ?_;simp only[pE,pG,mH,jP];iterate 9 quiet_step (fail)
       refine AY ?_;rintro _ ⟨nq,rfl⟩;go_wp2;have cr:=(al.drewN (n:=nq)).set i (Y (C_ (ws[i]?.getD 0) (b[i]?.getD 0)));rw[<-zV,<-cQ.out]at cr;have d3:=Ic (Q6 a7 nq) i (.int .u8 ((C_ (ws[i]?.getD 0) (b[i]?.getD 0)).toNat:Int));go_roundw
       ·exact⟨i+1,J,by go_num,O cr,O d3⟩
       ·exact fV
      ·have dp:i=32:=J;subst dp;have cb:((pX o b 32).map Y).length=64:=by rw[aI,JW];exact an
       go_wp2_with (refine dA F _ _ F F a6 tL cb ?_);refine(acE (pX o b 32) (by rw[JW];exact an) wr).mono ?_;rw[show Fb (pX o b 32)=Ac o b from F,<-c4.out];rintro e s ⟨rfl,p⟩;have du:((jY q m (k+1)).map Y).length=64:=by rw[aI];exact lu bb _
       generalize cf:jY q m (k+1)=r at*;go_wp2_with (refine aZ F _ _ _ F F F (a6.ext p) tL cb du (dw _) ?_);intro d7 bo cs;have W:=JE (F5 a7 p) cs;obtain⟨cz,cC,c6,cG,cV⟩:=fC bo (b2.grown W (by intro x a2;cases a2;intro e;injection e with e;simp only at e;omega)) (cm.grown W (by intro e;injection e with e;omega)) (b7.grown W (by intro eA ds;cases ds;omega)) cf;clear bo cs W p cf;go_wp2_with (refine Kv F _ _ _ _ F (k:=32) F F underlying32 jO aw ?_);go_roundw
       ·refine⟨k+1,l - 32,u - 32,_,F,J,J,J,O λe=> ?_,O ?_,O ?_,by rw[cV.out];exact cz,c6,cG⟩
        ·have:=bs.out (SS.1 e);omega
        ·intro x a2;have N:=Pk (r:=some (x.block)) (c:=u) (k:=32) (a:=some ⟨D,off,none⟩);by_cases dg:D=x.block
         ·omega
         ·exact absurd F (N (by intro y d2;cases d2;intro e;injection e with e;exact dg e) x a2)
        ·have N:=cC.shift u 32 (l - 32) J;rw[<-ze,tK,gY (by rw[aI,iI,a_.out];omega)]at N;rwa[show 32*k+32=32*(k+1) by omega]at N
       ·simp[IE];omega
    ·have dE:l=0:=J;subst dE;have dt:k=g+1:=J;subst dt;rw[<-ba.out]at az;have ai:=cN;have dd:=dw br;generalize b8:br.map Y=ej at*;have cP:=O b8;clear b8;go_wp2_with (first|(refine dA F _ _ F F az tL ai ?_)|(refine aZ F _ _ _ F F F cm tL F ai dd ?_));intro ct db d4;go_wp2;refine jS F F db tL ai F ⟨by rw[cP.out],d4.ext b7 (aQ _)⟩
def CW(d:Int)(t:ah)(n c:Nat)(a:aO)(w:World)(R:0<=d)(S:d<=255)(m:t.length=n)(T:n<=1099511627776)(v:aM w a (t.map Y)):
 eO 70 #[.int .i64 d,.slice a n c] w (.agg ((eY d t).map Y).toArray):=by
 have D:=O v;have U:=λw' (h:aM w' a (t.map Y))=>acD d t n c a w' R S m T h;have K:Hid (((mI (mY d) t n).map Y).length=64):=O (by rw[aI,Hz]);have b:Hid (((eY d t).map Y).length=32):=O (by rw[aI,nJ]);have L:Hid (((mI (mY d) t n).map Y).take 32=(eY d t).map Y):=O (by rw[eY,m,wW]);have P:=dw (mI (mY d) t n);have s:=dw (eY d t);generalize V:(eY d t).map Y=g at*;generalize (mI (mY d) t n).map Y=ab at*;clear v V m;go_enter func70,ntmps70;go_wp2_with fail;generalize o:alloc w _=ae;have A:=dX o (replicate 32 (.int .u8 0)) 31;have l:=dS o;clear o;refine(U _ (D.ext l)).mono ?_;rintro e i ⟨rfl,j⟩;obtain⟨q,G⟩:=aA (A.ext j) (l.ext j);have ac:w.heap.size<i.heap.size:=q.lt;clear A l j;go_wp2_with (refine aZ F _ _ _ F F F (au.bK F F) tL F K P ?_);intro p r y;have k:aj i p:=y.ext ((aj.refl i).alloc _) (aQ _);obtain⟨M,H,B⟩:=aW (q.ext k) (G.ext k) r;clear k y r;go_wp2;refine AA (C:=λw'=>∃n,w'=p.drewN n) 2 aC aC ⟨1,F⟩ ?_;simp only[pE,pG,mH,jP];iterate 2 quiet_step (fail)
 refine AY ?_;rintro _ ⟨nq,rfl⟩;have u:aM (p.drewN nq) (some ⟨i.heap.size,0,none⟩) g:=by
  have:=aM.iM (B.drewN (n:=nq));have Q:=this.take 32;rwa[L.out]at Q
 have E:=O u;clear u;go_wp2_with (first|(refine Kr F _ _ _ _ F F F (M.drewN (n:=nq)) underlying32 jO b F (λe=>by cases e) E aB s ?_));intro aa f z;have x:jm (replicate 32 (.int .u8 0)) 0 g=g:=by
  unfold jm;rw[pG,zi,FP (by rw[b.out];simp),xg]
 change au aa _ (jm (replicate 32 (.int .u8 0)) 0 g) _ at f;rw[x]at f;have I:=O (z.ext (H.drewN nq) (aQ _));clear x z;go_wp2_with (first|(refine dA F _ _ F F f bf b ?_)|(refine aZ F _ _ _ F F F f bf b b s ?_));intro ad N W;go_wp2;refine jS F F N bf b F ⟨F,W.ext I (aQ _)⟩
def lI{P:Program}{c:Func}{b:Ending->World->Prop}{a:Act}{w:World}{p u:Tmp}{ty:TypeId}{g:Nat}{vs:aP}{T:TypeId}
 (l:c.results= #[.cell p ty,.tmp u])(k:a.tmps.getD p undef= .pointer (some ⟨g,0,none⟩))(h:au w g vs T)
 {n:Nat}(m:jc P ty n)(j:vs.length=n)
 (i:a.defers=[])(f:b (.returned (.tuple #[.agg vs.toArray,a.tmps.getD u undef])) w):bodyPost P c b .ret a w:=by
 have d:=Fa (P:=P) (off:=0) h m J;have e:(vs.drop 0).take n=vs:=by simp[<-j]
 rw[e]at d;refine Jg ?_ i f;rw[results_cell_tmp l,k];simp[asAddr,d]
def adP{b:Prop}(e:b:=by
 have h1:=Fa (P:=P) (off:=0) hb ht J;have h2:(vs.drop 0).take n=vs:=by simp[<-hn]
 rw[h2]at h1;refine Jg (v:= .tuple #[.agg vs.toArray,a.tmps.getD u undef,a.tmps.getD q undef]) ?_ Ez hR;simp only[Ca]at hp;simp[results,kP,hp,asAddr,h1]):b:=e
def Sg{P:Program}{c:Func}{b:Ending->World->Prop}{a:Act}{w:World}{p u q:Tmp}{ty:TypeId}{g:Nat}{vs:aP}{T:TypeId}
 (kP:c.results= #[.cell p ty,.tmp u,.tmp q])(hp:a.tmps.getD p undef= .pointer (some ⟨g,0,none⟩))(hb:au w g vs T)
 {n:Nat}(ht:jc P ty n)(hn:vs.length=n)
 (Ez:a.defers=[])(hR:b (.returned (.tuple #[.agg vs.toArray,a.tmps.getD u undef,a.tmps.getD q undef])) w):bodyPost P c b .ret a w:=by
 exact adP
def pK:jc prog 78 64:=⟨⟨_,underlying78,F⟩,aC⟩
def Uq:jc prog 69 32:=⟨⟨_,underlying69,F⟩,aC⟩
def vw(k t:ah):ah:=Fb (mI (mY 9) (k++t) (k++t).length)
def J_(k t:ah):(vw k t).length=64:=adt _
def ajn{w:World}{a:aO}{t:ah}{n c:Nat}(d:aM w a (t.map Y))(e:t.length=n)(b:a=none->c=0):a=none->n=0/\c=0:=by grind [aM,Y,List.length,length_map]
def zeros(n:Nat):Value:= .agg (replicate n (.int .u8 0)).toArray
def Gp(n:Nat):∀v∈replicate n (int .u8 0),v.oneCell'=true:=by intro v a;rw[mem_replicate]at a;rw[a.2];rfl
def alL(k t:ah)(n c:Nat)(a:aO)(w:World)(E:k.length=32)(I:t.length=n)(hnc:n<=c)(hc:c<=140737488355328)(y:a=none->c=0)(B:aM w a (t.map Y)):
 eO 164 #[.agg (k.map Y).toArray,.slice a n c] w (if n<=1048544 then .tuple #[.agg ((vw k t).map Y).toArray,.int .i64 0]else .tuple #[zeros 64,.int .i64 5]):=by
 obtain⟨j,g,P,N⟩:=bT I E B y;clear I E B y;go_enter func164,ntmps164;go_wp2_with fail;generalize b:alloc (alloc (alloc w _) _) _=L;have K:=wM b (k.map Y) 69;have M:=vB b (replicate 64 (.int .u8 0)) 78;have d:=vC b [.slice (some ⟨w.heap.size,0,none⟩) 32 32,.slice a n c] 32;have q:=vE b;clear b;have A:jw [(some ⟨w.heap.size,0,none⟩,32,k),(a,c,t)]=k++t:=by simp[jw]
 refine(adx [(some ⟨w.heap.size,0,none⟩,32,k),(a,c,t)] 9 (w.heap.size+2) 2 2 L F J ?hg d.lt ?hc ?hn ?hnc ?hcm).mono ?_
 case hg=>
  intro i f bO
  match i,bO with
  |0,bO=>cases bO;rw[tV];simp only;rw[g.out];exact d.cell' F
  |1,bO=>cases bO;rw[tV];simp only;rw[j.out];exact d.cell' F
 case hc=>
  intro f bO;simp only[gM,lN,lQ]at bO;rcases bO with rfl|rfl
  ·exact aM.iM K
  ·exact P.ext q
 case hn=>
  intro f bO;simp only[gM,lN,lQ]at bO;rcases bO with rfl|rfl
  ·intro h;cases h
  ·exact N
 case hnc=>
  intro f bO;simp only[gM,lN,lQ]at bO;rcases bO with rfl|rfl
  ·rw[g.out];exact aQ _
  ·rw[j.out];exact hnc
 case hcm=>
  intro f bO;simp only[gM,lN,lQ]at bO;rcases bO with rfl|rfl
  ·simp
  ·exact dJ hc bS
 intro e W h;rw[A]at h;unfold Tg at h;obtain⟨h,m⟩:=h;rw[aJ J]at h;have G:(k++t).length=32+n:=by rw[bQ,g.out,j.out]
 obtain⟨x,u⟩:=aA (M.ext m) (q.ext m);clear K M d q m A;by_cases D:n<=1048544
 ·rw[aN J]at h;obtain⟨rfl,z⟩:=h;simp only[aN D];have v:Hid (((vw k t).map Y).length=64):=O (by rw[aI,J_]);have C:=Zt (mY 9) (k++t) (k++t).length L.heap.size Dl W (Ry 9) J z;have r:=λw=>adu (mI (mY 9) (k++t) (k++t).length) (Hz _ _ _) w;rw[show Fb (mI (mY 9) (k++t) (k++t).length)=vw k t from F]at r;have V:=dw (vw k t);generalize (mI (mY 9) (k++t) (k++t).length).map Y=ac at*;generalize H:(vw k t).map Y=ad at*;have S:=O H;clear z H G;go_wp2_with fail;refine C.mono ?_;rintro e aa ⟨rfl,o⟩;obtain⟨T,Q⟩:=aA (x.ext o) (u.ext o);clear o C;go_wp2_with fail;refine(r aa).mono ?_;rintro e ae ⟨rfl,p⟩;obtain⟨U,R⟩:=aA (T.ext p) (Q.ext p);clear p r;go_wp2_with (refine aZ F _ _ _ F F F U pK aB v V ?_);intro ab l s;go_wp2;refine lI F F l pK v F ⟨by rw[S.out];rfl,s.ext R J⟩
 ·rw[aJ J]at h;subst h;simp only[aJ D];clear G;go_wp2_with (refine aZ F _ _ _ F F F x pK aB (xs:=replicate 64 (.int .u8 0)) aB (Gp 64) ?_);intro ab l s;go_wp2;refine lI F F l pK aB F ⟨by unfold zeros;rfl,s.ext u J⟩
def ak6(k t:ah)(n c:Nat)(a:aO)(w:World)(d:k.length=32)(g:t.length=n)(az:n<=1048544)(D:a=none->c=0)(p:aM w a (t.map Y)):
 eO 71 #[.agg (k.map Y).toArray,.slice a n c] w (.agg ((vw k t).map Y).toArray):=by
 obtain⟨ab,aa,S,R⟩:=bT g d p (ajn p g D);have q:(k++t).length=32+n:=by rw[bQ,d,g]
 have I:=λ(b:aO) (m:Nat) (w:World) (h:aM w b ((k++t).map Y))=>acD 9 (k++t) (32+n) m b w J J q J h;have r:=λw=>acE (mI (mY 9) (k++t) (32+n)) (Hz _ _ _) w;rw[show Fb (mI (mY 9) (k++t) (32+n))=vw k t by rw[vw,q]]at r;have A:Hid (((vw k t).map Y).length=64):=O (by rw[aI,J_]);have an:=dw (vw k t);generalize (mI (mY 9) (k++t) (32+n)).map Y=ax at*;generalize K:(vw k t).map Y=a0 at*;have aw:=O K;clear g d p D K q;go_enter func71,ntmps71;go_wp2_with fail;generalize i:alloc (alloc w _) _=u;have L:=qA i (k.map Y) 69;have x:=qQ i (replicate 64 (.int .u8 0)) 78;have C:=wN i;have aE:=x.lt;clear i;refine(NA k (some ⟨w.heap.size,0,none⟩) 32 32 u aa J (aM.iM L)).mono ?_;rintro e aq ⟨v,rfl,M, -,f⟩;obtain⟨z,ac,y⟩:=aW M (x.ext f) (C.ext f);have T:=O (S.ext y);have E:u.heap.size<=aq.heap.size:=f.size;clear L x C M f;generalize u.heap.size=B at*;go_wp2_with (at_builtin;refine GH F _ _ F B (ys:=t) F F z ab R T J E ?_);intro ap Q N o;have s:=λam h=>yR z am h;have P:Q.ownsRow B 5 1 ap (32+n) ((k++t).map Y):=by rw[jv];simpa using N
 obtain⟨ad,U⟩:=aA (ac.grown o (by intro h;have:=s _ h.symm;omega)) (y.grown o (by intro k d;have:=s _ d;omega));obtain⟨ag,al,rfl, -, -, -,G⟩:=wm P;have H:=I ag al Q G;clear N P o s G E I;go_wp2_with fail;refine H.mono ?_;rintro e ar ⟨rfl,j⟩;obtain⟨ae,V⟩:=aA (ad.ext j) (U.ext j);clear j H;go_wp2_with fail;refine(r ar).mono ?_;rintro e a1 ⟨rfl,l⟩;obtain⟨af,W⟩:=aA (ae.ext l) (V.ext l);clear l r;go_wp2_with (first|(refine aZ F _ _ _ F F F af pK aB A an ?_));intro a2 ai ao;go_wp2;refine jS F F ai pK A F ⟨F,ao.ext W J⟩
def OQ{w:World}{B:Nat}{e:TypeId}{c n:Nat}{v:Value}{xs:aP}(h:w.ownsRow B e c v n xs):∀g,v.ownBlock=some g->g<w.heap.size:=by
 intro g a;rcases h.2 with⟨rfl,_⟩|⟨f,cap,d,rfl,i,b,_⟩
 ·cases a
 ·simp[Value.ownBlock]at a;subst a;exact(o9.1 b).1
def ZH{t:TypeId}{n:Nat}(a:prog.underlying t=some (.array n 5))(xs ys:ah)(b:xs.length=n)(c:ys.length=n)(w:World):
 (binOp .eql t (.agg (xs.map Y).toArray) (.agg (ys.map Y).toArray)).run prog w= .ok (.bool (xs==ys)) w:=
 run_eql_bytes w t 5 n a underlying5 (λw=>by kernel_rfl) xs ys b c
def xI{t:TypeId}{n:Nat}(b:prog.underlying t=some (.array n 5))(xs ys:ah)(c:xs.length=n)(d:ys.length=n)(w:World):
 (binOp .neq t (.agg (xs.map Y).toArray) (.agg (ys.map Y).toArray)).run prog w= .ok (.bool (!(xs==ys))) w:=by
 have h:=run_equalIn_bytes w 9998 t 5 n b underlying5 (λw=>by kernel_rfl) xs ys c d;rw[run_neq_struct];have a:(Op.equalIn 10000 t (.agg (xs.map Y).toArray) (.agg (ys.map Y).toArray)).run prog w= .ok (xs==ys) w:=h;rw[a];rfl
def N9:prog.eqGuardType prog.depth 31=false:=aC
section
section
variable {P:Program} {ops:Array Oper} {rest:List Oper} {o:Oper} {a:Act} {w:World} {Q:Exit->Act->World->Prop}
def XV(d:Region.wanted o (yielded ops a.tmps)=true)(h:∀b:Act->World->Prop,(∀a w,wpList P ops Q rest a w->b a w)->o.wp P a w b Q):wpList P ops Q (o::rest) a w:=
 wpList_step λb c=>by rw[aN d];exact h b c
def qP(k:Region.wanted o (yielded ops a.tmps)=true)(ty:TypeId)(x:Operand)(i:o.op= .load ty x){g:Nat}{vs:aP}{T:TypeId}
 (l:a.eval x= .pointer (some ⟨g,0,none⟩))(e:au w g vs T){n:Nat}(j:jc P ty n)(f:vs.length=n)
 (h:wpList P ops Q rest (a.put o.dst (.agg vs.toArray)) w):wpList P ops Q (o::rest) a w:=
 XV k λm d=>by
  have b:=Fa (P:=P) (off:=0) e j J;have c:(vs.drop 0).take n=vs:=by simp[<-f]
  rw[c]at b;unfold Oper.wp execOp;simp only[i,l,Instr.loadAt,Instr.sureAddr,iC,ni,ng,b];exact d _ _ h
def Fh(i:Region.wanted o (yielded ops a.tmps)=true)(c:BinOp)(t u:TypeId)(x y:Operand)(f:o.op= .binOp c t x y u){xs ys:Array Value}{b:Value}(j:a.eval x= .agg xs)(k:a.eval y= .agg ys)
 (e:P.eqGuardType P.depth t=false)(g:∀w,(binOp c t (.agg xs) (.agg ys)).run P w= .ok b w)
 (h:wpList P ops Q rest (a.put o.dst b) w):wpList P ops Q (o::rest) a w:=
 XV i λl d=>by
  unfold Oper.wp execOp;simp only[f,j,k,iC,run_eqGuard_agg w c t x y xs ys e,ng,g,ni];exact d _ _ h
end
def Sz{P:Program}{d:Nat}{xs ys:Array Value}{f:Field}{c:List Field}{a b:Value}{w:World}(i:f.name≠ "_")(e:(part f.type xs f.offset).run P w= .ok a w)(g:(part f.type ys f.offset).run P w= .ok b w)(h:(Op.equalIn d f.type a b).run P w= .ok true w):
 (Op.eqFields d xs ys (f::c)).run P w=(Op.eqFields d xs ys c).run P w:=by
 simp[Op.eqFields,i,e,g,h]
def acV{P:Program}{t:TypeId}{k:IntKind}{xs:Array Value}{off:Nat}{v:Value}{w:World}(a:P.underlying t=some (.int k))(b:xs[off]? =some v):(part t xs off).run P w= .ok v w:=by
 simp[part,isAgg,jB a,b]
def acU{P:Program}{t e:TypeId}{n m:Nat}{xs:Array Value}{off:Nat}{w:World}(a:P.underlying t=some (.array n e))(hs:P.cellsOf t=m):(part t xs off).run P w= .ok (.agg (xs.extract off (off+m))) w:=by
 obtain⟨i,b⟩:=info_of_underlying a;simp[part,isAgg,jB a,run_sizeOf w b,hs]
end
def aaj:prog.eqGuardType prog.depth 78=false:=aC
def Wo{r:Result Value}{v a:Value}{w w':World}{x:Option Nat}(b:r= .ok v w)(c:r= .ok a w')(d:v.ownBlock=x):a.ownBlock=x:=by grind
def DX(d:Int)(t:ah)(n:Nat):Value:=
 if d<0∨255<d then .tuple #[zeros 32,.int .i64 3]else if n<=1048576 then .tuple #[.agg ((eY d t).map Y).toArray,.int .i64 0]else .tuple #[zeros 32,.int .i64 5]
def ad3{a:Prop}(e:a:=by
 go_wp2_with (refine aZ F _ _ _ F F F qW bf aB (xs:=replicate 32 (.int .u8 0)) aB (Gp 32) ?_);intro w4 b4 u4;go_wp2;refine lI F F b4 bf aB F ⟨by rw[<-mE.out];unfold zeros;rfl,u4.ext y9 J⟩):a:=e
def Tf(d:Int)(t:ah)(n c:Nat)(a:aO)(w:World)(D:t.length=n)(hnc:n<=c)(hc:c<=9223372036854775807)(z:a=none->c=0)(C:aM w a (t.map Y)):
 eO 94 #[.int .i64 d,.slice a n c] w (DX d t n):=by
 obtain⟨N,k⟩:=aF (DX d t n);rw[k];unfold DX at k;obtain⟨g,j,G,E⟩:=bT k D C z;clear D C z k;go_enter func94,ntmps94;go_wp2_with fail;generalize m:alloc (alloc w _) _=v;have x:=qA m (replicate 32 (.int .u8 0)) 31;have s:=qQ m [.slice a n c] 32;have r:=wN m;clear m;have B:jw [(a,c,t)]=t:=by simp[jw]
 refine(adx [(a,c,t)] d (w.heap.size+1) 1 1 v F J ?hg s.lt ?hc ?hn ?hnc ?hcm).mono ?_
 case hg=>
  intro i o bO
  match i,bO with
  |0,bO=>cases bO;rw[tV];simp only;rw[j.out];exact s.cell' F
 case hc=>
  intro o bO;simp only[gM,lN,lQ]at bO;subst bO;exact G.ext r
 case hn=>
  intro o bO;simp only[gM,lN,lQ]at bO;subst bO;exact E
 case hnc=>
  intro o bO;simp only[gM,lN,lQ]at bO;subst bO;simp only;rw[j.out];exact hnc
 case hcm=>
  intro o bO;simp only[gM,lN,lQ]at bO;subst bO;exact hc
 intro e M h;rw[B]at h;unfold Tg at h;rw[j.out]at h;obtain⟨h,p⟩:=h;obtain⟨qW,y9⟩:=aA (x.ext p) (r.ext p);have P:w.heap.size<v.heap.size:=x.lt;clear x s r p B;by_cases f:d<0∨255<d
 ·rw[aN f]at h;have b:=g.out;rw[aN f]at b;subst h;have mE:=O b;clear f b g;exact ad3
 ·rw[aJ f]at h;have b:=g.out;rw[aJ f]at b;by_cases l:n<=1048576
  ·rw[aN l]at h b;obtain⟨rfl,A⟩:=h;have u:=amM (mY d) t n v.heap.size Dl M (Ry d) J A;rw[show(mI (mY d) t n).take 32=eY d t by rw[eY,j.out]]at u;have y:Hid (((eY d t).map Y).length=32):=O (by rw[aI,nJ]);have L:=dw (eY d t);generalize (eY d t).map Y=Q at*;obtain⟨mE,I⟩:=aA b u;clear f b g u A l;go_wp2_with fail;refine I.mono ?_;rintro e R ⟨rfl,q⟩;obtain⟨K,H⟩:=aA (qW.ext q) (y9.ext q);clear q;go_wp2_with (refine aZ F _ _ _ F F F K bf aB y L ?_);intro w4 b4 u4;go_wp2;refine lI F F b4 bf y F ⟨by rw[<-mE.out];rfl,u4.ext H J⟩
  ·rw[aJ l]at h b;subst h;have mE:=O b;clear f b g l;exact ad3
def ai0(u:UInt64):(fQ u).drop 4=mh (UInt32.ofNat u.toNat):=F
def acB(a:Nat)(w:World)(i:a<=4611686018427387904):
 Calls prog 137 #[.int .i64 (a:Int)] w λe w'=>e= .returned (.slice (some ⟨w.heap.size,4,none⟩) 4 4)/\aM w' (some ⟨w.heap.size,4,none⟩) ((mh (UInt32.ofNat a)).map Y)/\aj w w':=by
 have j:=O (J4 a w i);have d:(fQ (UInt64.ofNat a)).drop 4=mh (UInt32.ofNat a):=by
  rw[ai0];have:(UInt64.ofNat a).toNat=a:=by rw[Qd];omega
  rw[this]
 have g:=O d;clear d;generalize fQ (UInt64.ofNat a)=k at*;go_enter func137,ntmps137;go_wp2_with fail;refine j.mono ?_;rintro e l ⟨rfl,c,h⟩;have b:=aM.DI c 4 4;rw[<-ze,g.out,gY (by rw[aI];exact aQ 4)]at b;have f:=O b;clear c b;go_wp2;go_ret;exact⟨F,f,h⟩
def dN(x y:ah):ah:=eY 2 (x++y)
theorem lU(x y:ah):(dN x y).length=32:=nJ _ _
def LX(x y:ah)(w:World)(hx:x.length=32)(I:y.length=32):
 eO 158 #[.agg (x.map Y).toArray,.agg (y.map Y).toArray] w (.agg ((dN x y).map Y).toArray):=by
 obtain⟨az,aE⟩:=aA hx I;have t:Hid (((dN x y).map Y).length=32):=O (by rw[aI,lU]);have af:=dw (dN x y);have ab:∀k l,jw [(some ⟨k,0,none⟩,32,x),(some ⟨l,0,none⟩,32,y)]=x++y:=by intro k l;simp[jw]
 have ac:(x++y).length=64:=by rw[bQ,hx,I]
 have ad:DX 2 (x++y) 64= .tuple #[.agg ((dN x y).map Y).toArray,.int .i64 0]:=by rw[DX,aJ J,aN J];rfl
 obtain⟨ax,G,P⟩:=aW ad ac ab;clear hx I ad ac ab;generalize (dN x y).map Y=a7 at*;go_enter func158,ntmps158;go_wp2_with fail;generalize r:alloc (alloc (alloc w _) _) _=M;have al:=wM r (x.map Y) 31;have am:=vB r (y.map Y) 31;have an:=vC r (replicate 32 (.int .u8 0)) 31;have W:=vE r;clear r;obtain⟨a0,a1,R,N⟩:=bT al am an W;clear al am an W;obtain⟨C,j,a4⟩:=nR M;refine qX (S:=C) aC ((j _).2 (aj.refl M).drew) (λX=> ?_);refine ay 0 ?_;refine ay 1 ?_;refine GU (B:=World.heap M |>.size) (A:=8) (d:=5) (T:=31) (vs:=replicate 32 (.int .u8 0)) (D:=C) undef F a4 (λ_ h=>h) (λ_ h=>((j _).1 h).size) X ?_;try dsimp only
 refine dY ?_;refine rT 2 (β:=Nat) (λg=> .slice (some ⟨g,0,none⟩) 2 2) (λg w'=>au w' g [.slice (some ⟨w.heap.size,0,none⟩) 32 32,.slice (some ⟨w.heap.size+1,0,none⟩) 32 32] 32) F F F F (λ_ _=>rfl) aC aC aC F (λ_ _=>mF) ?phi2 ?step2 ?rest2
 case phi2=>exact λ_ _ _ h a5=>h.ext a5
 case step2=>
  intro x m ba n f;go_wp2_with fail;exact f m.heap.size _ ((aj.refl m).alloc _) (au.bK F F)
 case rest2=>
 intro g;refine aL ?_;refine rT 3 (β:=aO×Nat) (λb=> .slice b.1 64 b.2) (Nr 64 ((x++y).map Y)) F F F F (λ_ _=>rfl) aC aC aC F (λ_ _=>mF) ?J2 ?Kh ?J3
 case J2=>exact Nr.ext
 case Kh=>
  rintro a9 m ⟨aa,q⟩ n f;have V:=(j m).1 aa;obtain⟨s,Q⟩:=aA q V;clear q V aa;go_wp2_with fail;refine(NC [(some ⟨w.heap.size,0,none⟩,32,x),(some ⟨w.heap.size+1,0,none⟩,32,y)] g 2 2 m F J J ?hg ?hc ?hn ?hl).mono ?_
  case hg=>
   intro i ae bO
   match i,bO with
   |0,bO=>cases bO;rw[tV];simp only;rw[az.out];exact s.cell' F
   |1,bO=>cases bO;rw[tV];simp only;rw[aE.out];exact s.cell' F
  case hc=>
   intro ae bO;simp only[gM,lN,lQ]at bO;rcases bO with rfl|rfl
   ·exact aM.iM (a0.ext Q)
   ·exact aM.iM (a1.ext Q)
  case hn=>
   intro ae bO;simp only[gM,lN,lQ]at bO;rcases bO with rfl|rfl<;>(intro h;cases h)
  case hl=>rw[P.out,G.out];omega
  rintro e K ⟨v,rfl,ag,H⟩;rw[P.out,G.out]at ag;obtain⟨a,c,rfl,k,l,u,o⟩:=wm ag;go_wp2_with fail;exact f (a,c) K H ⟨k,l,u,o⟩
 case J3=>
 rintro⟨a,c⟩;refine aL ?_;refine rT 4 (β:=Unit) (λ_=> .tuple #[.agg a7.toArray,.int .i64 0]) (λ_ _=>True) F F F F (λ_ _=>rfl) aC aC aC F (λ_ _=>mF) ?phi4 ?step4 ?rest4
 case phi4=>exact λ_ _ _ _ _=>trivial
 case step4=>
  rintro a9 m ⟨_,k,l,u,o⟩ n f;simp only at k l u o;have aq:=O o;clear o;go_wp2_with fail;refine(Tf 2 (x++y) 64 c a m G k l u aq).mono ?_;rintro e K ⟨rfl,H⟩;rw[ax.out];go_wp2_with fail;exact f () K H trivial
 case rest4=>
 rintro⟨⟩;refine aL ?_;refine yI 5 ?_;refine yI 6 ?_;refine yI 7 ?_;refine GR F F F (λ_ _=>rfl) aC (λ_ _=>mF) ?_;rintro b L ⟨⟨⟨z,_⟩,_⟩,_⟩ a6 q;obtain⟨s,a_,a',ar⟩:=bT q (N.ext ((j L).1 z)) (R.ext ((j L).1 z)) z;clear q z;refine aT 9 ?_;intro n f;go_wp2_with (refine aZ F _ _ _ F F F s bf aB t af ?_);intro E U ai;have p:=ai.ext ((j L).1 ar) a6;refine f _ _ ((j E).2 p) ?_;obtain⟨aw,ao,a2,ap⟩:=bT ((j E).2 p) U (R.ext p) (N.ext p);clear f n ai U p;refine aL ?_;refine aT 10 ?_;intro n f;go_wp2_with fail;refine f _ _ ((j E).2 ?_) ?_
 ·exact(j E).1 aw
 clear f n;refine dP ?_;go_wp2_with (first|(refine dA F _ _ F F ao bf t ?_)|(refine aZ F _ _ _ F F F a2 bf aB t af ?_));intro bb a3 a8;go_wp2;refine jS F F a3 bf t F ⟨F,a8.ext ap J⟩
end Go.Proofs.YtjlhhnkhcbpnjaaGreatDoor
