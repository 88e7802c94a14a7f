/- Laws that the row leans on; no condition. -/
import Derived.Test.YtjlhhnkhcbpnjaaGreatDoorJ1
import Derived.Lib.Bytealg
import Derived.Shelf.GgSortFunc.InsertionK
import Derived.Sort.Statements
import Derived.Laws.BytesArg
import Derived.Laws.OwnMore
import Derived.Lib.Walk
import Derived.Lib.SliceRun
import Derived.Lib.AppendZerosOnto
import Derived.Laws.AppendOwnNone
import Derived.Laws.MakeOwn
namespace Go.Proofs.YtjlhhnkhcbpnjaaGreatDoor
open Go Go.RowKit List Tryz
set_option linter.unusedVariables false
set_option linter.unusedSectionVars false
set_option linter.unusedSimpArgs false
set_option maxHeartbeats 40000000
set_option maxRecDepth 100000
theorem VW(s:ByteArray)(i:Nat)(c:UInt8)(h:s.data[i]? =some c)(w:World):(Instr.index 9 (.string s) (.int .i64 (i:Int))).run prog w= .ok (.int .u8 (c.toNat:Int)) w:=by
 have j:s[i]? =some c:=by
  have u:i<s.size:=(Array.getElem?_eq_some_iff.1 h).1;rw[getElem?_pos s i u];have:=(Array.getElem?_eq_some_iff.1 h).2;exact congrArg some this
 simp[Instr.index,asIntOf,run_underlying underlying9,j]
theorem Oq(s:ByteArray)(w:World)(hn:s.size<=140737488355328):
 Calls prog 277 #[.string s] w fun e w'=>e= .returned (.bool (jK s.data.toList))/\w=w':=by
 obtain⟨n,bw⟩:=aC s.size;have bk:s.data.toList.length=n:=by rw[<-bw,Array.length_toList];rfl
 obtain⟨az,a1⟩:=aC (jK s.data.toList);rw[a1];unfold jK at a1;obtain⟨a5,ag⟩:=aB a1 bk;have bh:∀i:Nat,s.data[i]? =s.data.toList[i]? :=fun i=>by rw[Array.getElem?_toList]
 have ax:=O bh;clear a1 bk bh;go_enter func277,ntmps277;go_wp2;go_loopw [3] (fun x wr=>∃i:Nat,i<=n/\x= .int .i64 i/\Hid ((s.data.toList.take i).all jl=true)/\Hid (w=wr))
  (fun x _=>n - (intOf x).toNat)
 case atStart=>exact⟨0,J,F,O aF,O F⟩
 case round=>
  obtain⟨i,b2,rfl,aq,E⟩:=hrel;by_cases bu:i<n
  ·have b1:decide ((i:Int)<(n:Int))=true:=aQ J;obtain⟨c,hc⟩:∃c,s.data.toList[i]? =some c:=⟨_,List.getElem?_eq_getElem (by rw[ag.out];exact bu)⟩;have bj:=fun w=>VW s i c (by rw[ax.out];exact hc) w;have br:=c.toNat_lt;have bm:(s.data.toList.take (i+1)).all jl=jl c:=by
    rw[take_add_one,hc,all_append,aq.out];simp
   have bi:jl c=false->az=false:=by
    intro hf;have bv:=mem_of_getElem? hc;have:s.data.toList.all jl=false:=by
     rw[all_eq_false];exact⟨c,bv,by rw[hf];simp⟩
    rw[<-a5.out,this];rfl
   obtain⟨ap,a4⟩:=aB bm bi;obtain⟨C,a0⟩:=aC c.toNat;rw[a0]at bj br;obtain⟨b0,R⟩:=aB a0 bj;have bl:∀b,jl c=b↔((decide (97<=C)&&decide (C<=122))||(decide (48<=C)&&decide (C<=57))||C==45||C==46||C==95)=b:=by
    intro b;unfold jl;rw[a0]
   have aa:=O bl;clear bm bi a0 bl hc;have b3:(0:Int)<=(i:Int):=J;have b4:(i:Int)<(n:Int):=J;rcases(by omega:(97<=C/\C<=122)∨122<C∨(48<=C/\C<=57)∨C=95∨(57<C/\C<97/\¬C=95)∨C=45∨C=46∨(C<48/\¬C=45/\¬C=46))with h|h|h|h|h|h|h|h
   ·have j:jl c=true:=(aa true).2 (by simp;omega);have I:=O j;clear j;have ae:decide (97<=(C:Int))=true:=by simp;omega
    have af:decide (97<=C)=true:=by simp;omega
    have bx:decide ((C:Int)<=122)=true:=by simp;omega
    have bz:decide (C<=122)=true:=by simp;omega
    clear h;have ad:=R.out;go_wp2;go_roundw
    case rel=>exact⟨i+1,J,by go_num,O (by rw[ap.out,I.out]),E⟩
    case measure=>simp[intOf];omega
   ·have j:jl c=false:=(aa false).2 (by simp;omega);have ab:=a4.out j;have u:=O ab;clear j ab;have ae:decide (97<=(C:Int))=true:=by simp;omega
    have af:decide (97<=C)=true:=by simp;omega
    have bx:decide ((C:Int)<=122)=false:=by simp;omega
    have bz:decide (C<=122)=false:=by simp;omega
    have am:decide (48<=(C:Int))=true:=by simp;omega
    have an:decide (48<=C)=true:=by simp;omega
    have a8:decide ((C:Int)<=57)=false:=by simp;omega
    have a9:decide (C<=57)=false:=by simp;omega
    have ar:((C:Int)==45)=false:=by simp;omega
    have aw:decide ((C:Int)=45)=false:=by simp;omega
    have a2:((C:Int)==46)=false:=by simp;omega
    have a3:decide ((C:Int)=46)=false:=by simp;omega
    have a_:((C:Int)==95)=false:=by simp;omega
    have ba:decide ((C:Int)=95)=false:=by simp;omega
    clear h;have ad:=R.out;go_wp2;go_ret;exact⟨by rw[u.out];rfl,E⟩
   ·have j:jl c=true:=(aa true).2 (by simp;omega);have I:=O j;clear j;have ae:decide (97<=(C:Int))=false:=by simp;omega
    have af:decide (97<=C)=false:=by simp;omega
    have am:decide (48<=(C:Int))=true:=by simp;omega
    have an:decide (48<=C)=true:=by simp;omega
    have a8:decide ((C:Int)<=57)=true:=by simp;omega
    have a9:decide (C<=57)=true:=by simp;omega
    clear h;have ad:=R.out;go_wp2;go_roundw
    case rel=>exact⟨i+1,J,by go_num,O (by rw[ap.out,I.out]),E⟩
    case measure=>simp[intOf];omega
   ·have j:jl c=true:=(aa true).2 (by simp;omega);have I:=O j;clear j;have ae:decide (97<=(C:Int))=false:=by simp;omega
    have af:decide (97<=C)=false:=by simp;omega
    have am:decide (48<=(C:Int))=true:=by simp;omega
    have an:decide (48<=C)=true:=by simp;omega
    have a8:decide ((C:Int)<=57)=false:=by simp;omega
    have a9:decide (C<=57)=false:=by simp;omega
    have ar:((C:Int)==45)=false:=by simp;omega
    have aw:decide ((C:Int)=45)=false:=by simp;omega
    have a2:((C:Int)==46)=false:=by simp;omega
    have a3:decide ((C:Int)=46)=false:=by simp;omega
    have a_:((C:Int)==95)=true:=by simp;omega
    have ba:decide ((C:Int)=95)=true:=by simp;omega
    clear h;have ad:=R.out;go_wp2;go_roundw
    case rel=>exact⟨i+1,J,by go_num,O (by rw[ap.out,I.out]),E⟩
    case measure=>simp[intOf];omega
   ·have j:jl c=false:=(aa false).2 (by simp;omega);have ab:=a4.out j;have u:=O ab;clear j ab;have ae:decide (97<=(C:Int))=false:=by simp;omega
    have af:decide (97<=C)=false:=by simp;omega
    have am:decide (48<=(C:Int))=true:=by simp;omega
    have an:decide (48<=C)=true:=by simp;omega
    have a8:decide ((C:Int)<=57)=false:=by simp;omega
    have a9:decide (C<=57)=false:=by simp;omega
    have ar:((C:Int)==45)=false:=by simp;omega
    have aw:decide ((C:Int)=45)=false:=by simp;omega
    have a2:((C:Int)==46)=false:=by simp;omega
    have a3:decide ((C:Int)=46)=false:=by simp;omega
    have a_:((C:Int)==95)=false:=by simp;omega
    have ba:decide ((C:Int)=95)=false:=by simp;omega
    clear h;have ad:=R.out;go_wp2;go_ret;exact⟨by rw[u.out];rfl,E⟩
   ·have j:jl c=true:=(aa true).2 (by simp;omega);have I:=O j;clear j;have ae:decide (97<=(C:Int))=false:=by simp;omega
    have af:decide (97<=C)=false:=by simp;omega
    have am:decide (48<=(C:Int))=false:=by simp;omega
    have an:decide (48<=C)=false:=by simp;omega
    have ar:((C:Int)==45)=true:=by simp;omega
    have aw:decide ((C:Int)=45)=true:=by simp;omega
    clear h;have ad:=R.out;go_wp2;go_roundw
    case rel=>exact⟨i+1,J,by go_num,O (by rw[ap.out,I.out]),E⟩
    case measure=>simp[intOf];omega
   ·have j:jl c=true:=(aa true).2 (by simp;omega);have I:=O j;clear j;have ae:decide (97<=(C:Int))=false:=by simp;omega
    have af:decide (97<=C)=false:=by simp;omega
    have am:decide (48<=(C:Int))=false:=by simp;omega
    have an:decide (48<=C)=false:=by simp;omega
    have ar:((C:Int)==45)=false:=by simp;omega
    have aw:decide ((C:Int)=45)=false:=by simp;omega
    have a2:((C:Int)==46)=true:=by simp;omega
    have a3:decide ((C:Int)=46)=true:=by simp;omega
    clear h;have ad:=R.out;go_wp2;go_roundw
    case rel=>exact⟨i+1,J,by go_num,O (by rw[ap.out,I.out]),E⟩
    case measure=>simp[intOf];omega
   ·have j:jl c=false:=(aa false).2 (by simp;omega);have ab:=a4.out j;have u:=O ab;clear j ab;have ae:decide (97<=(C:Int))=false:=by simp;omega
    have af:decide (97<=C)=false:=by simp;omega
    have am:decide (48<=(C:Int))=false:=by simp;omega
    have an:decide (48<=C)=false:=by simp;omega
    have ar:((C:Int)==45)=false:=by simp;omega
    have aw:decide ((C:Int)=45)=false:=by simp;omega
    have a2:((C:Int)==46)=false:=by simp;omega
    have a3:decide ((C:Int)=46)=false:=by simp;omega
    have a_:((C:Int)==95)=false:=by simp;omega
    have ba:decide ((C:Int)=95)=false:=by simp;omega
    clear h;have ad:=R.out;go_wp2;go_ret;exact⟨by rw[u.out];rfl,E⟩
  ·have bt:i=n:=J;subst bt;have be:s.data.toList.all jl=true:=by
    have:=aq.out;rwa[take_of_length_le (by rw[ag.out];exact Nat.le_refl _)]at this
   have a7:=a5.out;rw[be,ag.out]at a7;clear be;have u:=O a7;clear a7 a5;have al:s.toList=s.data.toList:=ByteArray.toList_eq s;by_cases ai:s.data.toList=[]
   ·have bc:s.toList=[]:=by rw[al,ai]
    have ac:az=false:=by rw[<-u.out,ai];rfl
    have ao:=O ac;clear ac al ai u ag ax aq;go_wp2;go_ret;exact⟨by rw[ao.out];rfl,E⟩
   ·have bc:¬s.toList=[]:=by rw[al];exact ai
    have bp:s.toList.isEmpty=false:=by
     cases h:s.toList.isEmpty with
     |false=>rfl
     |true=>exact absurd (isEmpty_iff.1 h) bc
    have aE:s.data.toList.isEmpty=false:=by rw[<-al];exact bp
    by_cases bd:i<=32
    ·have bo:decide ((i:Int)<=32)=true:=aQ J;have a6:decide (i<=32)=true:=aQ bd;have ac:az=true:=by rw[<-u.out,aE,a6];rfl
     have ao:=O ac;clear ac al ai aE u ag ax aq;go_wp2;go_ret;exact⟨by rw[ao.out];rfl,E⟩
    ·have bo:decide ((i:Int)<=32)=false:=aP J;have a6:decide (i<=32)=false:=aP bd;have ac:az=false:=by rw[<-u.out,aE,a6];rfl
     have ao:=O ac;clear ac al ai aE u ag ax aq;go_wp2;go_ret;exact⟨by rw[ao.out];rfl,E⟩
def iI(n:Int):Bool:=decide (1<=n)&&decide (n<=12)
theorem Ot(n:Int)(w:World):
 Calls prog 205 #[.int .i64 n] w fun e w'=>e= .returned (.bool (iI n))/\w=w':=by
 by_cases h:1<=n
 ·have j:decide (1<=n)=true:=aQ h;go_enter func205,ntmps205;go_wp2;go_ret;exact⟨by unfold iI;first|rfl|(rw[j];rfl),F⟩
 ·have j:decide (1<=n)=false:=aP h;go_enter func205,ntmps205;go_wp2;go_ret;exact⟨by unfold iI;first|rfl|(rw[j];rfl),F⟩
def ng:Option ByteArray->aT->Int
 |_,[]=>0
 |p,s::t=>if jK s.data.toList then(if p.all fun q=>qY q s then ng (some s) t else 9)else 6
def vV(j:aT):Int:=ng none j
def pz(u:aT):Nat->Option ByteArray
 |0=>none
 |j+1=>u[j]?
theorem Ou{j:aT}{k:Nat}{x:ByteArray}(u:j[k]? =some x):
 ng (pz j k) (j.drop k)=if jK x.data.toList then(if(pz j k).all fun q=>qY q x then ng (pz j (k+1)) (j.drop (k+1))else 9)else 6:=by
 obtain⟨hk,E⟩:=List.getElem?_eq_some_iff.1 u;rw[drop_eq_getElem_cons hk,E];show ng (pz j k) (x::j.drop (k+1))=_;rw[ng];show _=if jK x.data.toList then(if _ then ng j[k]? (j.drop (k+1))else 9)else 6
 rw[u]
theorem Ov{j:aT}{k:Nat}(h:j.length<=k)(p:Option ByteArray):ng p (j.drop k)=0:=by
 rw[drop_eq_nil_of_le h];cases p<;>rfl
theorem VX(u:aT)(a:aN)(n c:Nat)(w:World)(hn:u.length=n)(bc:n<=4611686018427387904)(hs:∀s∈u,s.size<=140737488355328)(a3:aK w a (u.map bM)):
 Calls prog 276 #[.slice a n c] w fun e w'=>e= .returned (.int .i64 (vV u))/\X w w':=by
 obtain⟨ai,aw,a5⟩:=aW hn a3 hs;obtain⟨ae,an⟩:=aC (vV u);rw[an];have az:ng (pz u 0) (u.drop 0)=ae:=an;clear hn a3 hs an;go_enter func276,ntmps276;go_wp2;go_loopw [7] (fun i wr=>∃k:Nat,k<=n/\i= .int .i64 (k:Int)/\ng (pz u k) (u.drop k)=ae/\X w wr) (fun i _=>n - (intOf i).toNat)
 case atStart=>exact⟨0,J,F,az,X.refl _⟩
 case round=>
  obtain⟨k,hk,rfl,E,ax⟩:=hrel;have I:=O ax;clear ax az;by_cases aa:k<n
  ·have a6:decide ((k:Int)<(n:Int))=true:=aQ J;have a7:decide (k<n)=true:=aQ aa;obtain⟨x,ab⟩:∃x,u[k]? =some x:=⟨u[k]'(by rw[ai.out];exact aa),aF⟩;rw[Ou ab]at E;obtain⟨A,rfl,aE⟩:=zC aw ab;obtain⟨ag,ac⟩:=aB (gW aE I) (Oq x wr (a5 x (mem_of_getElem? ab)));clear aE;cases a0:jK x.data.toList with
   |false=>
    rw[a0]at ac E;have ad:=O E;clear E ab;go_wp2_with (first|(refine jU F (fP (i:=k) F F F underlying98 tV aa _) ?_)|(refine jU F (kT F F ag oO) ?_));refine ac.mono ?_;rintro e w2 ⟨rfl,rfl⟩;go_wp2_with fail;go_ret;exact⟨by rw[<-ad.out];rfl,I⟩
   |true=>
    rw[a0]at ac E;simp only[if_true]at E;cases k with
    |zero=>
     have a2:ng (pz u 1) (u.drop 1)=ae:=E;have ad:=O a2;clear a2 E ab;go_wp2_with (first|(refine jU F (fP (i:=0) F F F underlying98 tV aa _) ?_)|(refine jU F (kT F F ag oO) ?_));refine ac.mono ?_;rintro e w2 ⟨rfl,rfl⟩;go_wp2_with fail;go_roundw
     case rel=>exact⟨1,J,by go_num,ad,I⟩
     case measure=>simp[intOf];omega
    |succ j=>
     obtain⟨q,ao⟩:∃q,u[j]? =some q:=⟨u[j]'(by rw[ai.out];omega),aF⟩;obtain⟨a_,am,oz⟩:=zC aw ao;injection am with am;subst am;have a4:=O (gW oz I);have a1:(if qY q x=true then ng (pz u (j+2)) (u.drop (j+2))else 9)=ae:=by
      rw[show pz u (j+1)=some q from ao]at E;exact E
     obtain⟨ar,aq⟩:=aB a1 (Oo q x);have a9:j<n:=J;have bd:IntKind.i64.wrap (((j+1:Nat):Int) - 1)=(j:Int):=by rw[IntWalk.i64_in _ J];omega
     have ba:decide ((0:Int)<((j+1:Nat):Int))=true:=aQ J;clear oz ao E ab a1;go_wp2_with (first|(refine jU F (fP (i:=j+1) F F F underlying98 tV aa _) ?_)|(refine jU F (kT F F ag oO) ?_));refine ac.mono ?_;rintro e w2 ⟨rfl,rfl⟩;go_wp2_with (first|(refine jU F (fP (i:=j) F F F underlying98 tV a9 _) ?_)|(refine jU F (kT F F a4 oO) ?_))
     ·rename_i af;have ap:qY q x=false:=by
       have R:=aq.out;rcases af with al|al
       ·rw[al]at R;simpa using R.symm
       ·rw[al]at R;simpa using R.symm
      go_ret;exact⟨by rw[<-ar.out,ap];rfl,I⟩
     ·rename_i af;have ap:qY q x=true:=by
       have R:=aq.out;rw[af.1,af.2]at R;simpa using R.symm
      have a8:ng (pz u (j+2)) (u.drop (j+2))=ae:=by have:=ar.out;rw[ap]at this;simpa using this
      go_roundw
      case rel=>exact⟨j+2,J,by go_num,a8,I⟩
      case measure=>simp[intOf];omega
  ·have a6:decide ((k:Int)<(n:Int))=false:=aP J;have a7:decide (k<n)=false:=aP aa;rw[Ov (by rw[ai.out];omega)]at E;have ad:=O E;clear E;go_wp2;go_ret;exact⟨by rw[<-ad.out];rfl,I⟩
section
open Go Go.Lib
abbrev eH:=Lib.compareBytes
theorem Js:∀x:aj,eH x x=0
 |[]=>rfl
 |a::ar=>by
  unfold eH Lib.compareBytes;rw[if_neg (UInt8.lt_irrefl a),if_neg (UInt8.lt_irrefl a)];exact Js ar
theorem Jt:∀x y:aj,eH y x= - eH x y
 |[],[]=>rfl
 |[],_::_=>rfl
 |_::_,[]=>rfl
 |a::E,b::bs=>by
  have ih:=Jt E bs;unfold eH Lib.compareBytes at ih⊢;by_cases j:a<b
  ·have u:¬b<a:=UInt8.lt_asymm j;simp[j,u]
  ·by_cases u:b<a
   ·simp[j,u]
   ·simp only[j,u,if_false];unfold Lib.compareBytes;cases E<;>cases bs<;>simp_all [Lib.compareBytes]
theorem Ox:∀{x y:aj},eH x y=0->x=y
 |[],[],_=>rfl
 |[],_::_,h=>by simp[eH,Lib.compareBytes]at h
 |_::_,[],h=>by simp[eH,Lib.compareBytes]at h
 |a::ar,b::bs,h=>by
  unfold eH at h;unfold Lib.compareBytes at h;by_cases h1:a<b
  ·rw[if_pos h1]at h;cases h
  ·by_cases h2:b<a
   ·rw[if_neg h1,if_pos h2]at h;cases h
   ·rw[if_neg h1,if_neg h2]at h;have e1:a=b:=UInt8.le_antisymm (UInt8.not_lt.1 h2) (UInt8.not_lt.1 h1);rw[e1,Ox h]
theorem Oy:∀x y:aj,eH x y= -1∨eH x y=0∨eH x y=1
 |[],[]=> .inr (.inl F)
 |[],_::_=> .inl F
 |_::_,[]=> .inr (.inr F)
 |a::ar,b::bs=>by
  unfold eH Lib.compareBytes;split
  ·exact .inl F
  ·split
   ·exact .inr (.inr F)
   ·exact Oy ar bs
theorem Oz:∀{x y z:aj},eH x y<0->eH y z<0->eH x z<0
 |[],[],_,h,_=>by simp[eH,Lib.compareBytes]at h
 |_,_::_,[],_,h=>by simp[eH,Lib.compareBytes]at h
 |[],_::_,_::_,_,_=>by simp[eH,Lib.compareBytes]
 |_::_,[],_,h,_=>by simp[eH,Lib.compareBytes]at h
 |a::ar,b::bs,c::cs,h1,h2=>by
  unfold eH at h1 h2⊢;unfold Lib.compareBytes at h1 h2⊢;by_cases p1:a<b
  ·by_cases q1:b<c
   ·rw[if_pos (UInt8.lt_trans p1 q1)];decide
   ·by_cases q2:c<b
    ·rw[if_neg q1,if_pos q2]at h2;exact absurd h2 aX
    ·have e:b=c:=UInt8.le_antisymm (UInt8.not_lt.1 q2) (UInt8.not_lt.1 q1);rw[<-e,if_pos p1];decide
  ·by_cases j:b<a
   ·rw[if_neg p1,if_pos j]at h1;exact absurd h1 aX
   ·have e:a=b:=UInt8.le_antisymm (UInt8.not_lt.1 j) (UInt8.not_lt.1 p1);rw[if_neg p1,if_neg j]at h1;subst e;by_cases q1:a<c
    ·rw[if_pos q1];decide
    ·by_cases q2:c<a
     ·rw[if_neg q1,if_pos q2]at h2;exact absurd h2 aX
     ·rw[if_neg q1,if_neg q2]at h2⊢;exact Oz h1 h2
def qp(x y:aj):Bool:=decide (eH x y<0)
theorem Ju(x:aj):qp x x=false:=by unfold qp;rw[Js];rfl
theorem FT{x y z:aj}(h1:qp x y=true)(h2:qp y z=true):qp x z=true:=by
 unfold qp at*;exact aQ (Oz (of_decide_eq_true h1) (of_decide_eq_true h2))
theorem VY(x y:aj):qp x y=true∨x=y∨qp y x=true:=by
 unfold qp;have h:=Jt x y;rcases Oy x y with h1|h1|h1
 ·left;rw[h1];rfl
 ·right;left;exact Ox h1
 ·right;right;rw[h,h1];rfl
theorem Jv{x y z:aj}(u:qp x y=false)(E:qp y z=false):qp x z=false:=by
 cases h:qp x z with
 |false=>rfl
 |true=>
  exfalso;rcases VY y z with j|j|j
  ·rw[j]at E;cases E
  ·subst j;rw[h]at u;cases u
  ·have:=FT h j;rw[this]at u;cases u
end
section
open Go Go.RowKit Go.Sort
structure VZ where
 l:aj
 h:l.length=32
instance:Inhabited VZ:=⟨⟨List.replicate 32 0,aF⟩⟩
end
section
open Go Go.RowKit
section
variable {P:Program} {ops:Array Oper} {Q:Exit->Act->World->Prop} {C:World->Prop}
def aej(P:Program)(C:World->Prop)(w:World)(v:Value):Result Next->Prop
 | .ok (.value u) w'=>w'=w/\u=v
 | .ok .skip w'=>w'=w/\v=undef
 | .ok (.enter f E) w'=>w'=w/\Calls P f E w (fun e j=>e= .returned v/\C j/\X w j)
 |_=>False
end
attribute [go_sem] aej
end
theorem sG(w:World)(r:Option Nat):w.grownBy w r:=⟨F,F,F,Nat.le_refl _,fun _ _ _=>rfl⟩
theorem xk{w j w2:World}{r:Option Nat}(h:w.grownBy j r)(e:X j w2):w.grownBy w2 r:=
 ⟨e.os.trans h.os,e.tape.trans h.tape,e.output.trans h.output,Nat.le_trans h.size e.size,fun k hk hn=>(e.block k (Nat.lt_of_lt_of_le hk h.size)).trans (h.block k hk hn)⟩
theorem FU{w j w2:World}{g:Nat}(h:w.grownBy j (some g))(u:aU j g w2):w.grownBy w2 (some g):=
 ⟨u.os.trans h.os,u.tape.trans h.tape,u.output.trans h.output,by rw[u.size];exact h.size,fun k hk hn=>(u.block k (fun e=>hn (by rw[e]))).trans (h.block k hk hn)⟩
theorem DI{w j w2:World}{g:Nat}{r:Option Nat}(h:w.grownBy j r)(u:aU j g w2)(E:w.heap.size<=g):w.grownBy w2 r:=
 ⟨u.os.trans h.os,u.tape.trans h.tape,u.output.trans h.output,by rw[u.size];exact h.size,fun k hk hn=>(u.block k J).trans (h.block k hk hn)⟩
def qw(w:World)(g:Nat)(a:aN)(xs:aO):Prop:=xs=[]∨∃b off,a=some ⟨b,off,none⟩/\b≠g/\∀i u,xs[i]? =some u->w.cell? ⟨b,off+i,none⟩=some u
theorem qw.cells{w:World}{g:Nat}{a:aN}{xs:aO}(h:qw w g a xs):aK w a xs:=by
 rcases h with h|⟨b,off,ha,_,h⟩
 ·exact .inl h
 ·exact .inr ⟨b,off,ha,h⟩
theorem qw.grown{w w':World}{g:Nat}{a:aN}{xs:aO}(h:qw w g a xs)(k:w.grownBy w' (some g)):qw w' g a xs:=by
 rcases h with h|⟨b,off,ha,hb,h⟩
 ·exact .inl h
 ·exact .inr ⟨b,off,ha,hb,fun i u j=>k.cell (h i u j) (by simpa using hb)⟩
theorem qw.ext{w w':World}{g:Nat}{a:aN}{xs:aO}(h:qw w g a xs)(k:X w w'):qw w' g a xs:=by
 rcases h with h|⟨b,off,ha,hb,h⟩
 ·exact .inl h
 ·refine .inr ⟨b,off,ha,hb,fun i u E=> ?_⟩;have j:=h i u E;have hb:=block_lt_of_cell j;have:=k.cell (p:=⟨b,off+i,none⟩) hb;rw[this];exact j
theorem qw.at{w:World}{g:Nat}{a:aN}{xs:aO}(h:qw w g a xs){i:Nat}{u:Value}(j:xs[i]? =some u):
 ∃b off,a=some ⟨b,off,none⟩/\w.cell? ⟨b,off+i,none⟩=some u:=by
 rcases h with rfl|⟨b,off,ha,_,h⟩
 ·simp at j
 ·exact⟨b,off,ha,h i u j⟩
theorem qw.of{w w':World}{g:Nat}{a:aN}{xs:aO}(h:aK w a xs)(ac:w.heap.size<=g)(e:X w w'):qw w' g a xs:=by
 rcases h.ext e with j|⟨b,off,ha,j⟩
 ·exact .inl j
 ·rcases h with h|⟨ab,ad,I,R⟩
  ·exact .inl h
  ·rw[ha]at I;cases I;by_cases E:xs=[]
   ·exact .inl E
   ·refine .inr ⟨b,off,ha,?_,j⟩;obtain⟨u,aa⟩:∃u,xs[0]? =some u:=⟨xs[0]'(length_pos_iff.2 E),aF⟩;have:=block_lt_of_cell (R 0 u aa);simp only at this;omega
section
open Go Go.RowKit
section
variable {P:Program} {ops:Array Oper} {Q:Exit->Act->World->Prop} {S:World->Prop} {W:List Nat}
def jL(P:Program)(ops:Array Oper)(Q:Exit->Act->World->Prop)(S:World->Prop)(W:List Nat):Nat->Array Bool->Act->World->Prop
 |0,listed,a,w=>Region.ready .any ops listed=[]/\Q .normal a w
 |f+1,listed,a,w=>(Region.ready .any ops listed=[]->Q .normal a w)/\
  ∀i∈Region.ready .any ops listed,wpOp P ops Q i (fun a' w'=>(W.contains i=false->S w->S w')/\jL P ops Q S W f (listed.setIfInBounds i true) a' w') a w
theorem OA:∀(f:Nat) (j:Array Bool) (a:Act) (w:World),jL P ops Q S W f j a w->wpAny P .any ops Q f j a w
 |0,_,_,_,h=>h
 |f+1,_,_,_,h=>⟨h.1,fun i E=>wpOp_mono (fun a' w' u=>OA f _ a' w' u.2) (h.2 i E)⟩
def y8(ops:Array Oper)(j:Array Bool):Prop:=∀k,j.getD k false=true->∀o,ops[k]? =some o->∀e∈o.after,Region.binds .any e=true->j.getD e.on false=true
def xq(ops:Array Oper):Nat->Nat->Nat->Bool
 |0,_,_=>false
 |f+1,j,i=>qR ops j i||(List.range ops.size).any fun k=>qR ops j k&&xq ops f k i
theorem Jw{u:Array Bool}(hd:y8 ops u):∀(f j i:Nat),(∀k,qR ops j k=true->u.getD k false=true)->xq ops f j i=true->u.getD i false=true
 |0,_,_,_,h=>by cases h
 |f+1,j,i,hj,h=>by
  simp only[xq,Bool.or_eq_true,any_eq_true,Bool.and_eq_true]at h;rcases h with h|⟨k,_,h1,h2⟩
  ·exact hj i h
  ·refine Jw hd f k i (fun q hq=> ?_) h2;obtain⟨o,ho,e,he,hb,yj⟩:=Dq hq;rw[<-yj];exact hd k (hj k h1) o ho e he hb
theorem OB{u:Array Bool}{j:Nat}(R:j∈Region.ready .any ops u):∀k,qR ops j k=true->u.getD k false=true:=by
 intro k hk;obtain⟨_,o,aa,E⟩:=mem_ready.1 R;obtain⟨o',ab,e,I,hb,yj⟩:=Dq hk;have:o'=o:=Option.some.inj (ab.symm.trans aa);subst this;rw[<-yj];exact E e I hb
theorem y8.set{u:Array Bool}{j:Nat}(ab:y8 ops u)(ac:j∈Region.ready .any ops u):y8 ops (u.setIfInBounds j true):=by
 intro k hk o R e E hb;by_cases I:j=k
 ·subst I;obtain⟨_,o',ad,aa⟩:=mem_ready.1 ac;have:o'=o:=Option.some.inj (ad.symm.trans R);subst this;exact getD_set_true (aa e E hb)
 ·rw[getD_set_ne false I]at hk;exact getD_set_true (ab k hk o R e E hb)
theorem V3{i:Nat}{ab:Oper}{v:Value}(n:Nat)(af:ops[i]? =some ab)(aq:∀(j:Nat) (o:Oper) cs b,ops[j]? =some o->o.op≠.select cs b)(ax:∀j,W.contains j=true->xq ops n j i=true)
 (aw:∀c a w,Q (.panic c) (a.put ab.dst v) w->Q (.panic c) a w):
 ∀(f:Nat) (u:Array Bool) (a:Act) (w:World),y8 ops u->
  (∀j ac,ops[j]? =some ac->j≠i->u.getD j true=false->(∀e∈ac.after,Region.binds .any e=true->e.on≠i)->ab.apart ops ac=true)->
  i∈Region.ready .any ops u->YieldsIf P ops S ab v a->S w->
  jL P ops Q S W f (u.setIfInBounds i true) (a.put ab.dst v) w->jL P ops Q S W (f+1) u a w:=by
 intro f;induction f with
 |zero=>
  intro u a w _ _ aa ae R H;refine⟨fun h=>(by rw[h]at aa;cases aa),fun j hj=> ?_⟩;by_cases E:j=i
  ·subst E;exact ae.wpOp af R ⟨fun _ _=>R,H⟩
  ·have:=ready_mono hj E;rw[H.1]at this;cases this
 |succ f a4=>
  intro u a w al am aa ae R H;refine⟨fun h=>(by rw[h]at aa;cases aa),fun j hj=> ?_⟩;by_cases E:j=i
  ·subst E;exact ae.wpOp af R ⟨fun _ _=>R,H⟩
  ·have h1:=H.2 j (ready_mono hj E);obtain⟨ap,ac,ag,az⟩:=mem_ready.1 hj;have I:=(mem_ready.1 aa).1;have an:u.getD i false=true->False:=fun h=>by
    simp only[Array.getD_eq_getD_getElem?]at h I;cases hq:u[i]? with
    |none=>rw[hq]at I;simp at I
    |some b=>rw[hq]at h I;simp at h I;rw[h]at I;cases I
   have a3:∀e∈ac.after,Region.binds .any e=true->e.on≠i:=fun e he hb aE=>by
    have h1:=az e he hb;rw[aE]at h1;exact an h1
   have ai:W.contains j=false:=by
    cases hq:W.contains j with
    |false=>rfl
    |true=>exact absurd (Jw al n j i (OB hj) (ax j hq)) an
   have h2:=wpOp_putIf ag (am j ac ag E ap a3) (fun cs b=>aq i ab cs b af) (fun cs b=>aq j ac cs b ag) aw ae h1;have a0:∀k ok,ops[k]? =some ok->k≠i->(u.setIfInBounds j true).getD k true=false->
    (∀e∈ok.after,Region.binds .any e=true->e.on≠i)->ab.apart ops ok=true:=fun k ok hk a1 ar a2=>by
    refine am k ok hk a1 ?_ a2;by_cases ao:j=k
    ·subst ao;exact ap
    ·rw[getD_set_ne true ao]at ar;exact ar
   refine wpOp_mono (fun a' w' ad=>⟨fun _ _=>ad.2.1 ai R,a4 (u.setIfInBounds j true) a' w' (al.set hj) a0 (ready_mono aa (Ne.symm E)) ad.1 (ad.2.1 ai R) ?_⟩) h2;rw[Array.setIfInBounds_comm _ _ E];exact ad.2.2
theorem V4{i:Nat}{ab:Oper}{v:Value}(ag:ops[i]? =some ab)(ap:∀(j:Nat) (o:Oper) cs b,ops[j]? =some o->o.op≠.select cs b)
 (aw:∀c a w,Q (.panic c) (a.put ab.dst v) w->Q (.panic c) a w):
 ∀(f:Nat) (u:Array Bool) (a:Act) (w:World),
  (∀j ac,ops[j]? =some ac->j≠i->u.getD j true=false->(∀e∈ac.after,Region.binds .any e=true->e.on≠i)->ab.apart ops ac=true)->
  i∈Region.ready .any ops u->YieldsIf P ops (fun _=>True) ab v a->
  jL P ops Q S W f (u.setIfInBounds i true) (a.put ab.dst v) w->jL P ops Q S W (f+1) u a w:=by
 intro f;induction f with
 |zero=>
  intro u a w _ aa ae H;refine⟨fun h=>(by rw[h]at aa;cases aa),fun j ad=> ?_⟩;by_cases E:j=i
  ·subst E;exact ae.wpOp ag trivial ⟨fun _ h=>h,H⟩
  ·have:=ready_mono ad E;rw[H.1]at this;cases this
 |succ f a4=>
  intro u a w al aa ae H;refine⟨fun h=>(by rw[h]at aa;cases aa),fun j ad=> ?_⟩;by_cases E:j=i
  ·subst E;exact ae.wpOp ag trivial ⟨fun _ h=>h,H⟩
  ·have R:=H.2 j (ready_mono ad E);obtain⟨an,ac,ai,ax⟩:=mem_ready.1 ad;have a3:∀e∈ac.after,Region.binds .any e=true->e.on≠i:=fun e az hb aE=>by
    have R:=ax e az hb;have I:=(mem_ready.1 aa).1;rw[aE]at R;simp only[Array.getD_eq_getD_getElem?]at R I;cases ao:u[i]? with
    |none=>rw[ao]at I;simp at I
    |some b=>rw[ao]at R I;simp at R I;rw[R]at I;cases I
   have ar:=wpOp_putIf ai (al j ac ai E an a3) (fun cs b=>ap i ab cs b ag) (fun cs b=>ap j ac cs b ai) aw ae R;have a0:∀k ok,ops[k]? =some ok->k≠i->(u.setIfInBounds j true).getD k true=false->
    (∀e∈ok.after,Region.binds .any e=true->e.on≠i)->ab.apart ops ok=true:=fun k ok hk a1 aq a2=>by
    refine al k ok hk a1 ?_ a2;by_cases am:j=k
    ·subst am;exact an
    ·rw[getD_set_ne true am]at aq;exact aq
   refine wpOp_mono (fun a' w' af=>⟨af.2.1,a4 (u.setIfInBounds j true) a' w' a0 (ready_mono aa (Ne.symm E)) af.1 ?_⟩) ar;rw[Array.setIfInBounds_comm _ _ E];exact af.2.2
def uT(ops:Array Oper)(j:Array Bool):Bool:=(List.range ops.size).all fun k=> !j.getD k false||(ops[k]?).all fun o=>o.after.all fun e=> !Region.binds .any e||j.getD e.on false
theorem FV{E:Array Bool}(h:uT ops E=true):y8 ops E:=by
 intro k hk o u e I hb;have R:k<ops.size:=(Array.getElem?_eq_some_iff.1 u).1;have j:=all_eq_true.1 h k (mem_range.2 R);rw[hk,u]at j;simp only[Bool.not_true,Bool.false_or,Option.all_some,Array.all_eq_true']at j;have:=j e I;rw[hb]at this;simpa using this
theorem OC(i:Nat){E:Oper}{r:List Oper}{v:Value}{f:Nat}{u:Array Bool}{a:Act}{w:World}(I:ops.toList.drop i=E::r)
 (hs:Region.noSelect ops=true)(ab:(W.all fun j=>xq ops 12 j i)=true)(ac:uT ops u=true)(hf:Region.free .any ops u i=true)(ae:(Region.ready .any ops u).contains i=true)
 (R:∀c a w,Q (.panic c) (a.put E.dst v) w->Q (.panic c) a w)(af:YieldsIf P ops S E v a)(aa:S w)
 (h:jL P ops Q S W f (u.setIfInBounds i true) (a.put E.dst v) w):jL P ops Q S W (f+1) u a w:=
 V3 12 (jy I) (Region.noSelect_spec hs) (fun j ad=>all_eq_true.1 ab j (by simpa using ad)) R f u a w (FV ac) (Region.free_spec (jy I) hf) (by simpa using ae) af aa h
theorem kJ(i:Nat){u:Oper}{r:List Oper}{v:Value}{f:Nat}{j:Array Bool}{a:Act}{w:World}(E:ops.toList.drop i=u::r)
 (hs:Region.noSelect ops=true)(hf:Region.free .any ops j i=true)(R:(Region.ready .any ops j).contains i=true)
 (I:∀c a w,Q (.panic c) (a.put u.dst v) w->Q (.panic c) a w)(aa:YieldsIf P ops (fun _=>True) u v a)
 (h:jL P ops Q S W f (j.setIfInBounds i true) (a.put u.dst v) w):jL P ops Q S W (f+1) j a w:=
 V4 (jy E) (Region.noSelect_spec hs) I f j a w (Region.free_spec (jy E) hf) (by simpa using R) aa h
theorem V5{i:Nat}{o:Oper}{r:List Oper}{f:Nat}{u:Array Bool}{a:Act}{w:World}(ac:Region.ready .any ops u=[i])(ad:ops.toList.drop i=o::r)(aa:W.contains i=false)(R:S w)
 (h:∀E:Exit->Act->World->Prop,(∀a w,S w->jL P ops Q S W f (u.setIfInBounds i true) a w->E .normal a w)->wpList P ops E [o] a w):
 jL P ops Q S W (f+1) u a w:=by
 refine⟨fun I=>(by rw[ac]at I;cases I),fun j ab=> ?_⟩;rw[ac]at ab;obtain rfl:j=i:=by simpa using ab
 exact mZ (jy ad) (h _ fun a w R aa=>⟨fun _ _=>R,aa⟩)
theorem V6{i:Nat}{o:Oper}{r:List Oper}{f:Nat}{u:Array Bool}{a:Act}{w:World}(aa:Region.ready .any ops u=[i])(ad:ops.toList.drop i=o::r)(ab:W.contains i=true)
 (h:∀E:Exit->Act->World->Prop,(∀a w,True->jL P ops Q S W f (u.setIfInBounds i true) a w->E .normal a w)->wpList P ops E [o] a w):
 jL P ops Q S W (f+1) u a w:=by
 refine⟨fun I=>(by rw[aa]at I;cases I),fun j R=> ?_⟩;rw[aa]at R;obtain rfl:j=i:=by simpa using R
 exact mZ (jy ad) (h _ fun a w _ ac=>⟨fun h=>(by rw[ab]at h;cases h),ac⟩)
theorem V7{j:Array Bool}{a:Act}{w:World}(hr:Region.ready .any ops j=[])(h:Q .normal a w):∀f,jL P ops Q S W f j a w
 |0=>⟨hr,h⟩
 |_+1=>⟨fun _=>h,by rw[hr];simp⟩
theorem V8{id:Nat}{a:Act}{w:World}(u:P.follows .mixedOrders=true)(j:S w.drew)
 (h:S w.drew->jL P ops Q S W ops.size (Array.replicate ops.size false) a w.drew):(Code.region id ops true).wp P Q a w:=
 wp_region_any u (OA _ _ _ _ (h j))
end
section
variable {P:Program} {ops:Array Oper} {Q:Exit->Act->World->Prop} {S:World->Prop} {W:List Nat}
theorem eY(i:Nat){E:Oper}{r:List Oper}{f:Nat}{u:Array Bool}{a:Act}{w:World}{R:Prop}{v:Value}{I:Prop}(hf:I)(h:R)(af:ops.toList.drop i=E::r:=by exact F)(hs:Region.noSelect ops=true:=by kernel_rfl)(ac:(W.all fun j=>xq ops 12 j i)=true:=by kernel_rfl)(ad:uT ops u=true:=by kernel_rfl)(ae:Region.free .any ops u i=true:=by kernel_rfl)(ag:(Region.ready .any ops u).contains i=true:=by kernel_rfl)(ai:Region.wanted E (yielded ops a.tmps)=true:=by exact F)(al:I->∀w,S w->(execOp a.eval E).run P w= .ok (.value v) w:=by(intro hf wq eU;have oz:=hf wq eU;go_simp;try with_reducible rfl))(hx:R->jL P ops Q S W f (u.setIfInBounds i true) (a.put E.dst v) w:=by(intro hx;simp only[Act.put,setIfInBounds_toArray,set_cons_succ,set_cons_zero];exact hx))(ab:S w:=by exact Z)(aa:∀c a w,Q (.panic c) (a.put E.dst v) w->Q (.panic c) a w:=by exact fun _ _ _ h=>h):jL P ops Q S W (f+1) u a w:=
 OC i af hs ac ad ae ag aa (.inl ⟨ai,al hf⟩) ab (hx h)
theorem k_(i:Nat){E:Oper}{r:List Oper}{f:Nat}{u:Array Bool}{a:Act}{w:World}{I:Prop}{v:Value}(ae:ops.toList.drop i=E::r)(ag:YieldsIf P ops S E v a)(h:I)(hs:Region.noSelect ops=true:=by kernel_rfl)(ab:(W.all fun j=>xq ops 12 j i)=true:=by kernel_rfl)(ac:uT ops u=true:=by kernel_rfl)(ad:Region.free .any ops u i=true:=by kernel_rfl)(af:(Region.ready .any ops u).contains i=true:=by kernel_rfl)(hx:I->jL P ops Q S W f (u.setIfInBounds i true) (a.put E.dst v) w:=by(intro hx;simp only[Act.put,setIfInBounds_toArray,set_cons_succ,set_cons_zero];exact hx))(aa:S w:=by exact Z)(R:∀c a w,Q (.panic c) (a.put E.dst v) w->Q (.panic c) a w:=by exact fun _ _ _ h=>h):jL P ops Q S W (f+1) u a w:=
 OC i ae hs ab ac ad af R ag aa (hx h)
theorem bK(i:Nat){j:Oper}{r:List Oper}{f:Nat}{u:Array Bool}{a:Act}{w:World}{E:Prop}{v:Value}(h:E)(aa:ops.toList.drop i=j::r:=by exact F)(hs:Region.noSelect ops=true:=by kernel_rfl)(R:Region.free .any ops u i=true:=by kernel_rfl)(ab:(Region.ready .any ops u).contains i=true:=by kernel_rfl)(ac:Region.wanted j (yielded ops a.tmps)=true:=by exact F)(ad:∀w,(fun _=>True) w->(execOp a.eval j).run P w= .ok (.value v) w:=by(intro _ _;go_simp;try with_reducible rfl))(hx:E->jL P ops Q S W f (u.setIfInBounds i true) (a.put j.dst v) w:=by(intro hx;simp only[Act.put,setIfInBounds_toArray,set_cons_succ,set_cons_zero];exact hx))(I:∀c a w,Q (.panic c) (a.put j.dst v) w->Q (.panic c) a w:=by exact fun _ _ _ h=>h):jL P ops Q S W (f+1) u a w:=
 kJ i aa hs R ab I (.inl ⟨ac,ad⟩) (hx h)
theorem FW(i:Nat){u:Oper}{r:List Oper}{f:Nat}{j:Array Bool}{a:Act}{w:World}{E:Prop}{v:Value}(aa:ops.toList.drop i=u::r)(ac:YieldsIf P ops (fun _=>True) u v a)(h:E)(hs:Region.noSelect ops=true:=by kernel_rfl)(R:Region.free .any ops j i=true:=by kernel_rfl)(ab:(Region.ready .any ops j).contains i=true:=by kernel_rfl)(hx:E->jL P ops Q S W f (j.setIfInBounds i true) (a.put u.dst v) w:=by(intro hx;simp only[Act.put,setIfInBounds_toArray,set_cons_succ,set_cons_zero];exact hx))(I:∀c a w,Q (.panic c) (a.put u.dst v) w->Q (.panic c) a w:=by exact fun _ _ _ h=>h):jL P ops Q S W (f+1) j a w:=
 kJ i aa hs R ab I ac (hx h)
theorem jQ{id:Nat}{a:Act}{w:World}(h:S w.drew->jL P ops Q S W ops.size (Array.replicate ops.size false) a w.drew)(u:P.follows .mixedOrders=true:=by kernel_rfl)
 (j:S w.drew:=by exact aJ _ _ bP (X.refl _).drew):(Code.region id ops true).wp P Q a w:=V8 u j h
theorem fC(i:Nat){o:Oper}{r:List Oper}{f:Nat}{j:Array Bool}{a:Act}{w:World}
 (h:∀u:Exit->Act->World->Prop,(∀a w,S w->jL P ops Q S W f (j.setIfInBounds i true) a w->u .normal a w)->wpList P ops u [o] a w)
 (aa:Region.ready .any ops j=[i]:=by kernel_rfl)(R:ops.toList.drop i=o::r:=by exact F)(I:W.contains i=false:=by kernel_rfl)(E:S w:=by exact Z):jL P ops Q S W (f+1) j a w:=V5 aa R I E h
theorem iU(i:Nat){o:Oper}{r:List Oper}{f:Nat}{j:Array Bool}{a:Act}{w:World}
 (h:∀u:Exit->Act->World->Prop,(∀a w,True->jL P ops Q S W f (j.setIfInBounds i true) a w->u .normal a w)->wpList P ops u [o] a w)
 (R:Region.ready .any ops j=[i]:=by kernel_rfl)(I:ops.toList.drop i=o::r:=by exact F)(E:W.contains i=true:=by kernel_rfl):jL P ops Q S W (f+1) j a w:=V6 R I E h
theorem jR{j:Array Bool}{a:Act}{w:World}{f:Nat}(h:Q .normal a w)(hr:Region.ready .any ops j=[]:=by kernel_rfl):jL P ops Q S W f j a w:=V7 hr h _
end
end
def gZ(s t:aj):Nat->aj
 |0=>s
 |n+1=>qW (gZ s t n) ((t.drop (32*n)).take 32)
theorem iV{s t:aj}(hs:s.length=64)(n:Nat):(gZ s t n).length=64:=by
 cases n with
 |zero=>exact hs
 |succ n=>exact Jo _ _
theorem DJ{s t b:aj}(n:Nat)(h:32*n<=t.length):gZ s (t++b) n=gZ s t n:=by
 induction n with
 |zero=>rfl
 |succ n j=>
  rw[gZ,gZ,j J,drop_append_of_le_length J,take_append_of_le_length (by rw[length_drop];omega)]
def lQ(w:World)(g:Nat)(T:TypeId)(s0 t:aj)(j:Int):Prop:=
 ∃r:aj,r.length=32/\r.take (t.length%32)=t.drop (32*(t.length / 32))/\ah w g (sm (gZ s0 t (t.length / 32)) r (t.length%32:Nat) j) T
theorem zD{l:aj}{i:Nat}(h:i<l.length):(l.map Y)[i]? =some (.int .u8 ((l[i]?.getD 0).toNat:Int)):=by simp[h,Y]
theorem FY{t b:aj}{m k:Nat}(h:t.length=32*m):(t++b).drop (32*(m+k))=b.drop (32*k):=by
 rw[drop_append,drop_of_length_le (by rw[h];omega),nil_append,h,show 32*(m+k) - 32*m=32*k by omega]
def zf:Value->Nat
 | .slice _ n _=>n
 |_=>0
def FZ(w:World)(g:Nat)(T:TypeId)(s0 u:aj)(j:Int)(e:Ending)(w':World):Prop:=
 e= .returned (.tuple #[])/\lQ w' g T s0 u j/\w.grownBy w' (some g)
theorem V9(s0 t b r:aj)(R:Int)(g m n c:Nat)(a:aN)(T:TypeId)(w:World)(hs:s0.length=64)(a6:r.length=32)(hb:b.length=n)(a4:t.length=32*m)
 (aq:ah w g (sm (gZ s0 t m) r 0 R) T)(hn:n<=140737488355328)(b1:n<=c)(hc:c<=9223372036854775807)(ap:a=none->n=0)(az:aK w a (b.map Y))(ar:n=0∨∀x,a=some x->some x.block≠some g):
 Calls prog 267 #[.pointer (some ⟨g,0,none⟩),.slice a n c] w (FZ w g T s0 (t++b) R):=by
 have aa:=O hs;clear hs;have E:=O hb;clear hb;have I:=O a4;clear a4;have ac:=O a6;clear a6;have ba:=O ap;clear ap;have bc:=O ar;clear ar;have bh:=O az;clear az;have ao:=aq.cell' (w_ 0 R (iV aa m) ac);go_enter func267,ntmps267;go_wp2;clear ao;go_loopw [1] (fun x wr=>∃(k n' c':Nat) (a':aN),x= .slice a' n' c'/\n'+32*k=n/\n'<=c'/\c'<=c/\Hid (a'=none->n'=0)/\Hid (n'=0∨∀x,a'=some x->some x.block≠some g)/\
  Hid (aK wr a' ((b.drop (32*k)).map Y))/\Hid (ah wr g (sm (gZ s0 (t++b) (m+k)) r 0 R) T)/\Hid (w.grownBy wr (some g)))
  (fun x _=>zf x)
 case atStart=>exact⟨0,n,c,a,F,J,b1,J,ba,bc,bh,O (by rw[Nat.add_zero,DJ _ (by rw[I.out];omega)];exact aq),O (yA _ _)⟩
 case round=>
  obtain⟨k,n',c',a',rfl,hk,b',b9,af,bv,al,aw,a1⟩:=hrel;by_cases a3:32<=n'
  ·have bx:decide ((32:Int)<=(n':Int))=true:=aQ J;have j:(b.drop (32*k)).length=n':=by rw[length_drop,E.out];omega
   have b2:a'≠none:=fun e=>by have:=af.out e;omega
   obtain⟨gb,off,rfl,ax⟩:=al.gQ (by rw[length_map,j];omega);have ai:=bv.resolve_left J;have bz:gb≠g:=fun e=>ai _ F (by rw[e]);have an:=O ai;clear ai;have b8:=AO (P:=prog) underlying30 (len:=n') a3;have a9:∀i,i<32->wr.cell? ⟨gb,off+i,none⟩=some (.int .u8 ((((b.drop (32*k)).take 32)[i]?.getD 0).toNat:Int)):=by
    intro i b0;refine ax i _ ?_;rw[List.getElem?_take_of_lt b0];exact zD J
   have bu:=O a9;clear a9 ax b2;have bm:=O j;clear j;go_wp2_with fail;refine(Dw _ ((b.drop (32*k)).take 32) _ g gb off T wr (iV aa _) aw bu (.inl bz)).mono ?_;rintro e b6 ⟨rfl,u,g1⟩;have a_:qW (gZ s0 (t++b) (m+k)) ((b.drop (32*k)).take 32)=gZ s0 (t++b) (m+(k+1)):=by
    rw[<-Nat.add_assoc,gZ,FY I.out]
   rw[a_]at u;have bd:=O u;clear u a_;obtain⟨bk,bw⟩:=aB (l9 a1 g1) (al.grown g1 an);clear g1;go_wp2_with (refine zy F _ _ _ _ F (k:=32) F F underlying32 gu a3 ?_);go_roundw
   case rel=>
    refine⟨k+1,n' - 32,c' - 32,_,F,J,J,J,O fun e=> ?_,O (.inr (Dx an)),O ?_,bd,bk⟩
    ·have:=af.out (FM.1 e);omega
    ·have ab:=bw.shift c' 32 (n' - 32) J;rw[<-map_drop,drop_drop,take_of_length_le (by rw[length_map,length_drop,E.out];omega)]at ab;rwa[show 32*k+32=32*(k+1) by omega]at ab
   case measure=>simp[zf];omega
  ·have bx:decide ((32:Int)<=(n':Int))=false:=aP J;have j:(b.drop (32*k)).length=n':=by rw[length_drop,E.out];omega
   have a2:((b.drop (32*k)).map Y).length=n':=by rw[length_map,j]
   have a5:n'=Nat.min n' 32:=(Nat.min_eq_left J).symm;have bp:=O a5;clear a5;have a0:64+n'<=(sm (gZ s0 (t++b) (m+k)) r 0 R).length:=by rw[Dy _ _ (iV aa _) ac.out];omega
   have bj:=O a0;clear a0;have am:=FN (xs:=b.drop (32*k)) 0 R (iV (t:=t++b) aa (m+k)) ac 0 (by rw[j];omega);rw[take_zero,nil_append,Nat.add_zero,Nat.zero_add,j]at am;have a7:(b.drop (32*k)++r.drop n').length=32:=by rw[length_append,j,length_drop,ac.out];omega
   have a8:(b.drop (32*k)++r.drop n').take n'=b.drop (32*k):=by rw[<-j,take_left]
   have aE:=FY (b:=b) (k:=k) I;generalize b.drop (32*k)=bb at*;obtain⟨bi,bm⟩:=aB aE j;clear j aE;have bo:=O a2;clear a2;generalize b3:bb++r.drop n'=b4 at*;obtain⟨br,ad,bt⟩:=aW a8 a7 am;clear a8 a7 am b3;go_wp2_with (refine zA F _ _ _ _ F F F aw underlying32 gu bo bp af al bj (b_ _) ?_);intro b6 u b5;rw[bt.out]at u;have b7:=u.frozen 96;have ao:=u.cell' (w_ 0 R (iV aa (m+k)) ad);go_wp2;have ae:=u.set 96 (.int .i64 (n':Int));rw[Dz _ _ _ (iV aa _) ad.out]at ae;obtain⟨be,bl⟩:=aB ae (yB (A_ a1 b5) 96 (.int .i64 (n':Int)));clear ae;refine bX F F ⟨F,⟨b4,ad,?_,?_⟩,bl⟩
   ·have ab:(t++b).length%32=n':=by rw[length_append,I.out,E.out];omega
    have ag:(t++b).length / 32=m+k:=by rw[length_append,I.out,E.out];omega
    rw[ab,ag,bi.out];exact br
   ·have ab:(t++b).length%32=n':=by rw[length_append,I.out,E.out];omega
    have ag:(t++b).length / 32=m+k:=by rw[length_append,I.out,E.out];omega
    rw[ab,ag];exact be
def pF(n:Nat):UInt8:=if n<10 then UInt8.ofNat (48+n)else UInt8.ofNat (87+n)
def DK(b:UInt8):aj:=[pF (b.toNat / 16),pF (b.toNat%16)]
def aD(l:aj):aj:=l.flatMap DK
theorem tX(l:aj):(aD l).length=2*l.length:=by
 induction l with
 |nil=>rfl
 |cons x l j=>simp only[aD,flatMap_cons,length_append,length_cons]at*;rw[j];simp[DK];omega
theorem OE(l:aj)(k:Nat)(h:k<l.length):aD (l.take (k+1))=aD (l.take k)++DK (l[k]?.getD 0):=by
 rw[take_succ_eq_append_getElem h,aD,flatMap_append];simp[aD,h]
def zF:ByteArray:={data:= #[48,49,50,51,52,53,54,55,56,57,97,98,99,100,101,102]}
theorem V_(k:Nat)(h:k<16):zF[k]? =some (pF k):=by
 have:∀k:Fin 16,zF[k.val]? =some (pF k.val):=aX;exact this ⟨k,h⟩
theorem OG(k:Nat)(h:k<16)(w:World):(Instr.index 9 (.string {data:= #[48,49,50,51,52,53,54,55,56,57,97,98,99,100,101,102]}) (.int .u8 (k:Int))).run prog w= .ok (.int .u8 ((pF k).toNat:Nat)) w:=by
 have j:=V_ k h;unfold zF at j;simp[Instr.index,asIntOf,run_underlying underlying9,j]
theorem OH(b:UInt8):bits .and .u8 (b.toNat:Int) 15=(b.toNat:Int)%16:=by
 have h:=b.toNat_lt;have e:(15:Int)=((15:Nat):Int):=F;rw[e,(NJ _ 15 h J).2.2,Nat.and_two_pow_sub_one_eq_mod b.toNat 4];omega
theorem Wh(b:UInt8):(∀w,(Instr.index 9 (.string {data:= #[48,49,50,51,52,53,54,55,56,57,97,98,99,100,101,102]}) (.int .u8 ((b.toNat:Int) / 16))).run prog w= .ok (.int .u8 ((pF (b.toNat / 16)).toNat:Nat)) w)/\
 (∀w,(Instr.index 9 (.string {data:= #[48,49,50,51,52,53,54,55,56,57,97,98,99,100,101,102]}) (.int .u8 ((b.toNat:Int)%16))).run prog w= .ok (.int .u8 ((pF (b.toNat%16)).toNat:Nat)) w)/\
 bits .and .u8 (b.toNat:Int) 15=(b.toNat:Int)%16:=by
 have h:=b.toNat_lt;have j:(b.toNat:Int) / 16=((b.toNat / 16:Nat):Int):=J;have e2:(b.toNat:Int)%16=((b.toNat%16:Nat):Int):=J;rw[OH,j,e2];exact⟨OG _ J,OG _ J,F⟩
theorem xu:(prog.info? 5).map (fun i=>(i.zero,i.size,i.bytes))=some (some (.int .u8 0),1,1):=au
def aY(l:aj):ByteArray:=⟨l.toArray⟩
theorem OI(l:aj):((l.map fun b=>(b.toNat:Int)).map fun n=>UInt8.ofNat n.toNat)=l:=by
 rw[map_map]
 conv=>rhs;rw[<-map_id l]
 apply map_congr_left;intro b _;simp
theorem Ba(w:World)(a:aN)(l:aj)(n c:Nat)(h:aK w a (l.map Y))(hn:n=l.length):
 (convert 32 9 (.slice a n c)).run prog w= .ok (.string (aY l)) w:=by
 subst hn;have R:(l.map fun b=>(b.toNat:Int)).map (Value.int .u8)=l.map Y:=by
  rw[map_map];rfl
 have E:∀x:Addr,(loadCells x l.length).run prog w= .ok (l.map Y).toArray w->(convert 32 9 (.slice (some x) l.length c)).run prog w= .ok (.string (aY l)) w:=by
  intro x u;rw[run_convert_bytes_string w 32 9 5 (some x) l.length c underlying32 underlying5 underlying9,
   run_bytesToString w x l.length c (l.map fun b=>(b.toNat:Int)) (by rw[R];exact u),foldl_push_bytes,OI]
  simp[aY,ByteArray.empty,ByteArray.emptyWithCapacity];rfl
 rcases h with h|⟨b,off,rfl,h⟩
 ·have u:l=[]:=by simpa using h
  subst u;cases a with
  |none=>exact run_convert_bytes_nil w 32 5 underlying32 underlying5 _ _ _ underlying9
  |some x=>exact E x (by simpa using run_loadCells_list (P:=prog) w x [] aF)
 ·refine E _ ?_;have:=run_loadCells_list (P:=prog) w ⟨b,off,none⟩ (l.map Y) (fun j v I=>by
   have aa:(⟨b,off,none⟩:Addr).add j=⟨b,off+j,none⟩:=by unfold Addr.add;split<;>simp_all
   rw[aa];exact h j v I)
  simpa using this
theorem Wi(l:aj)(a:aN)(c:Nat)(w:World)(ap:l.length<=140737488351232)(hc:aK w a (l.map Y)):
 Calls prog 41 #[.slice a l.length c] w fun e w'=>e= .returned (.string (aY (aD l)))/\X w w':=by
 obtain⟨ae,aa,aq,ad,ar⟩:=info_parts xu;have ag:=O hc;clear hc;obtain⟨n,hn⟩:=aC l.length;have j:=O hn;rw[hn]at ap⊢;clear hn;go_enter func41,ntmps41;go_wp2_with (at_make;refine wpList_make_own _ F _ _ 32 F w.heap.size 5 ae (.int .u8 0) 1 underlying32 aa aq ad _ _ _ (2*n) F F J (by rw[ar];omega) (by unfold maxLen;omega) bG ?_);intro a0 aw E;have al:X w a0:=(X.refl w).grown E (fun g h=>by cases h);clear E;go_wp2;go_loopw [12,3] (fun x v wr=>∃k:Nat,k<=n/\x= .int .i64 k/\v= .slice (some ⟨w.heap.size,0,none⟩) (2*k) (2*n)/\wr.ownsRow w.heap.size 5 1 v (2*k) ((aD (l.take k)).map Y)/\X w wr)
  (fun x _ _=>n - (intOf x).toNat)
 case atStart=>exact⟨0,J,F,F,by simpa[aD]using aw,al⟩
 case round=>
  obtain⟨k,hk,rfl,rfl,own,bb⟩:=hrel;by_cases ab:k<n
  ·obtain⟨b,off,rfl,R⟩:=(ag.ext bb).gQ (by rw[length_map,j.out];omega);have an:wr.cell? ⟨b,off+k,none⟩=some (.int .u8 ((l[k]?.getD 0).toNat:Nat)):=R k _ (by simp[Y,j.out,ab]);clear R;have a1:=zl (l[k]?.getD 0);obtain⟨ax,az,aE⟩:=Wh (l[k]?.getD 0);have hs:=OE l k (by rw[j.out];exact ab);have ai:=O hs;clear hs;go_wp2
   go_region_law ((refine Ve F _ _ 32 F w.heap.size 5 ae 1 underlying32 aa ad w.heap.size (2*k) (2*n) _ F (own.alloc _) ⟨wr.heap.size,0,none⟩ 2 2 ((DK (l[k]?.getD 0)).map Y) F F (tJ (T:=5) (ah.aI F F)) (b_ _) J ?_;intro w2 af I))
   all_goals
    have e2:X w w2:=((bb.alloc _).drew).grown I (fun g h=>by cases h;exact Nat.le_refl _);rw[<-map_append,<-ai.out]at af;clear I own bb an ax az aE;go_wp2;go_roundw
    case rel=>exact⟨k+1,J,by go_num,by rw[show 2*(k+1)=2*k+2 by omega],af,e2⟩
    case measure=>simp[intOf];omega
  ·obtain rfl:k=n:=J;have ao:aK wr (some ⟨w.heap.size,0,none⟩) ((aD l).map Y):=by
    refine .inr ⟨_,_,F,fun i u ac=> ?_⟩;rw[take_of_length_le (by rw[j.out];omega)]at own;have am:=own.cellAt i (by have:=(List.getElem?_eq_some_iff.1 ac).1;rw[length_map,tX,j.out]at this;omega);rw[Nat.zero_add,am];exact ac
   have a2:=Ba wr _ (aD l) (2*k) (2*k) ao (by rw[tX,j.out]);go_wp2;go_ret;exact⟨F,bb⟩
theorem Wj(w:World):Calls prog 7 #[] w fun e w'=>e= .returned (.bool true)/\X w w':=by
 go_enter func7,ntmps7;go_wp2_with fail;refine(Wi [1] _ _ _ aF (aK.eG (T:=5) (ah.aI F F))).mono ?_;rintro e u ⟨rfl,hb⟩;have j:aY (aD [1])={data:= #[48,49]}:=aX;rw[j];go_wp2;go_ret;exact⟨F,(X.alloc (X.refl w) _).ext hb⟩
def g_(n:Nat)(at_ j:Int):Int:=if at_<0 then 4 else if(n:Int)<j∨(n:Int) - j<at_ then 1 else 0
theorem F5(a:aN)(n c:Nat)(at_ j:Int)(w:World)(hn:n<=140737488355328)(ab:0<=j)(ac:j<=1099511627776):
 Calls prog 153 #[.slice a n c,.int .i64 at_,.int .i64 j] w fun e w'=>e= .returned (.int .i64 (g_ n at_ j))/\w=w':=by
 by_cases u:at_<0
 ·go_enter func153,ntmps153;go_wp2;go_ret;exact⟨by simp[g_,u],F⟩
 ·by_cases E:(n:Int)<j
  ·go_enter func153,ntmps153;go_wp2;go_ret;exact⟨by simp[g_,u,E],F⟩
  ·by_cases aa:(n:Int) - j<at_
   ·go_enter func153,ntmps153;go_wp2;go_ret;exact⟨by simp[g_,u,E,aa],F⟩
   ·have I:g_ n at_ j=0:=by simp only[g_,u,if_false];rw[if_neg J]
    have R:=O I;clear I;go_enter func153,ntmps153;go_wp2;go_ret;exact⟨by rw[R.out];rfl,F⟩
def yD(a:aN)(n c:Nat)(at_ j:Int)(w:World)(e:Ending)(w':World):Prop:=
 w=w'/\e= .returned (if g_ n at_ j=0 then .tuple #[.slice (dL a c at_.toNat) j.toNat (c - at_.toNat),.int .i64 0]else .tuple #[.slice none 0 0,.int .i64 (g_ n at_ j)])
theorem Jy{n:Nat}{at_ j:Int}(h:g_ n at_ j=0)(u:0<=j):∃p:Nat,at_=(p:Int)/\(p:Int)+j<=n:=by
 unfold g_ at h;split at h
 ·cases h
 ·split at h
  ·cases h
  ·exact⟨at_.toNat,J,J⟩
def iW(l:aj)(p:Nat):UInt32:=m_ (l[p]?.getD 0) (l[p+1]?.getD 0) (l[p+2]?.getD 0) (l[p+3]?.getD 0)
def yE(l:aj)(n:Nat)(at_:Int):Value:=if g_ n at_ 4=0 then .tuple #[.int .u32 ((iW l at_.toNat).toNat:Nat),.int .i64 0]else .tuple #[.int .u32 0,.int .i64 (g_ n at_ 4)]
theorem bq{w:World}{b off:Nat}{l:aj}(h:∀(i:Nat) (u:Value),(l.map Y)[i]? =some u->w.cell? ⟨b,off+i,none⟩=some u)(i:Nat)(j:i<l.length):
 w.cell? ⟨b,off+i,none⟩=some (.int .u8 ((l[i]?.getD 0).toNat:Nat)):=h i _ (by simp[j,Y])
theorem OJ(l:aj)(a:aN)(n c:Nat)(at_:Int)(w:World)(I:l.length=n)(hn:n<=140737488355328)(hc:n<=c)(E:aK w a (l.map Y)):
 Calls prog 150 #[.slice a n c,.int .i64 at_] w fun e w'=>e= .returned (yE l n at_)/\X w w':=by
 by_cases h:g_ n at_ 4=0
 ·obtain⟨p,rfl,ai⟩:=Jy h J;have j:yE l n (p:Int)= .tuple #[.int .u32 ((iW l p).toNat:Nat),.int .i64 0]:=by rw[yE,if_pos h];rfl
  rw[j];obtain⟨b,off,rfl,u⟩:=E.gQ (by rw[length_map];omega);have af:=bq u p J;have R:=bq u (p+1) J;have aa:=bq u (p+2) J;have ab:=bq u (p+3) J;simp only[<-Nat.add_assoc]at R aa ab;obtain⟨H,ae⟩:=aB h j;clear h j E u;have al:¬c=p:=J;have ad:=O I;clear I;have ha:=AO (P:=prog) underlying248 (len:=4) (Nat.le_refl 4);go_enter func150,ntmps150;go_wp2_with fail;refine(F5 _ n c _ 4 w J J J).mono ?_;rintro e w' ⟨rfl,rfl⟩;rw[H.out];go_wp2_with fail;refine(Jh _ _ _ _ _).mono ?_;rintro e am ⟨rfl,ac⟩;go_wp2
  go_ret2
  exact⟨F,ac⟩
 ·have j:yE l n at_= .tuple #[.int .u32 0,.int .i64 (g_ n at_ 4)]:=by rw[yE,if_neg h]
  rw[j];have ag:(g_ n at_ 4 != 0)=true:=by rw[bne_iff_ne];exact h
  clear j E h I;go_enter func150,ntmps150;go_wp2_with fail;refine(F5 _ n c _ 4 w J J J).mono ?_;rintro e w' ⟨rfl,rfl⟩;go_wp2
  go_ret2
  exact⟨F,X.refl _⟩
theorem Wn(x y:aj):((aY x).toList==(aY y).toList)=(x==y):=by
 unfold aY;rw[ByteArray.toList_mk,ByteArray.toList_mk]
theorem Wp(x y:aj)(a b:aN)(n m c d:Nat)(w:World)(hn:n=x.length)(j:m=y.length)(u:aK w a (x.map Y))(E:aK w b (y.map Y)):
 Calls prog 13 #[.slice a n c,.slice b m d] w fun e w'=>e= .returned (.bool (x==y))/\w=w':=by
 have I:=Ba w a x n c u hn;have R:=Ba w b y m d E j;have hs:=Wn x y;clear hn j u E;go_enter func13,ntmps13;go_wp2;go_ret;exact⟨F,F⟩
def fE(l:aj)(p:Nat):Nat:=(iW l p).toNat*4294967296+(iW l (p+4)).toNat
def vW(l:aj)(n:Nat)(at_:Int):Value:=
 if g_ n at_ 8=0 then(if fE l at_.toNat<=4611686018427387904 then .tuple #[.int .i64 (fE l at_.toNat:Nat),.int .i64 0]else .tuple #[.int .i64 0,.int .i64 4])else .tuple #[.int .i64 0,.int .i64 (g_ n at_ 8)]
theorem Wq(x y:UInt32):bits .or .u64 ((x.toNat:Int)*4294967296) (y.toNat:Int)=((x.toNat*4294967296+y.toNat:Nat):Int):=by
 have E:=x.toNat_lt;have I:=y.toNat_lt;have j:(BitVec.ofInt 64 ((x.toNat:Int)*4294967296)).toNat=x.toNat*4294967296:=by
  rw[show((x.toNat:Int)*4294967296)=((x.toNat*4294967296:Nat):Int) by omega];rw[BitVec.toNat_ofInt];omega
 have u:(BitVec.ofInt 64 (y.toNat:Int)).toNat=y.toNat:=by rw[BitVec.toNat_ofInt];omega
 change IntKind.u64.wrap ((BitVec.ofInt 64 ((x.toNat:Int)*4294967296) ||| BitVec.ofInt 64 (y.toNat:Int)).toNat:Int)=_;have:=Dt x.toNat y.toNat 32 J;rw[show(2:Nat)^32=4294967296 from F]at this;rw[BitVec.toNat_or,j,u,this,IntKind.wrap_u64];omega
section
open Go Go.RowKit
section
variable {P:Program} {C:World->Prop} {o:Oper} {a:Act} {K:Act->Prop}
theorem Ws{b off n:Nat}{w:World}{vs:aO}{ty:TypeId}(hb:∀j u,vs[j]? =some u->w.cell? ⟨b,off+j,none⟩=some u)(ht:iH P ty n)(hn:vs.length=n):
 (loadVar ty ⟨b,off,none⟩).run P w= .ok (.agg vs.toArray) w:=by
 obtain⟨⟨d,ac,ae⟩,I⟩:=ht;have R:(loadCells ⟨b,off,none⟩ vs.length).run P w= .ok vs.toArray w:=
  run_loadCells_list (P:=P) w ⟨b,off,none⟩ _ (fun j v ad=>by
   have aa:(⟨b,off,none⟩:Addr).add j=⟨b,off+j,none⟩:=by unfold Addr.add;split<;>simp_all
   rw[aa];exact hb j v ad)
 rw[hn]at R;cases E:P.info? ty with
 |none=>simp[E]at I
 |some i=>
  have hs:i.size=n:=by simpa[E]using I
  have ab:(isAgg ty).run P w= .ok true w:=by
   unfold isAgg;rw[Sem.run_bind,run_underlying ac w];cases d<;>simp_all
  simp[loadVar,ab,sizeOf,typeInfo,E,hs,R]
theorem OL(ty:TypeId)(x:Operand)(E:o.op= .load ty x){b off n:Nat}{vs:aO}
 (R:a.eval x= .pointer (some ⟨b,off,none⟩))(hb:∀w,C w->∀j u,vs[j]? =some u->w.cell? ⟨b,off+j,none⟩=some u)(ht:iH P ty n)(hn:vs.length=n)
 (h:K (a.put o.dst (.agg vs.toArray))):o.quiet P a C K:=
 ⟨_,fun w I=>by
  unfold Oper.quietAt execOp;simp only[E,R,Instr.loadAt,Instr.sureAddr,Sem.run_bind,Sem.run_pure,Result.andThen_ok,Ws (hb w I) ht hn];exact⟨F,F⟩,h⟩
theorem OM{f:FuncId}{xs:Array Operand}{I:Array TypeId}{args:Array Value}{v:Value}(j:o.op= .call {callee:= .value (.func f),args:=xs,argTypes:=I})
 (hf:∀args w,(callFunc f args).run P w= .ok (.enter f args) w)(ha:xs.map a.eval=args)
 (hc:∀w,C w->Calls P f args w (fun e w'=>e= .returned v/\C w'))(h:K (a.put o.dst v)):o.quiet P a C K:=
 ⟨v,fun w E=>by
  have u:(execOp a.eval o).run P w= .ok (.enter f args) w:=by
   unfold execOp;simp only[j,resolve,Act.eval,Deferred.ofValue,Sem.run_bind,Sem.run_pure,Result.andThen_ok,invoke];have:(#[]++xs.map a.eval++ #[]:Array Value)=args:=by simp[ha]
   simpa[ha]using hf args w
  unfold Oper.quietAt;rw[u];exact⟨F,hc w E⟩,h⟩
end
theorem Jz(l:aj)(a:aN)(n c:Nat)(at_:Int)(w:World)(ar:l.length=n)(hn:n<=140737488355328)(hc:n<=c)(aq:aK w a (l.map Y)):
 Calls prog 95 #[.slice a n c,.int .i64 at_] w fun e w'=>e= .returned (vW l n at_)/\X w w':=by
 by_cases h:g_ n at_ 8=0
 ·obtain⟨p,rfl,a8⟩:=Jy h J;have aa:vW l n (p:Int)=if fE l p<=4611686018427387904 then .tuple #[.int .i64 (fE l p:Nat),.int .i64 0]else .tuple #[.int .i64 0,.int .i64 4]:=by rw[vW,if_pos h];rfl
  obtain⟨b,off,rfl,I⟩:=aq.gQ (by rw[length_map];omega);have ad:=bq I p J;have ae:=bq I (p+1) J;have af:=bq I (p+2) J;have ag:=bq I (p+3) J;have ai:=bq I (p+4) J;have al:=bq I (p+5) J;have am:=bq I (p+6) J;have an:=bq I (p+7) J;simp only[<-Nat.add_assoc]at ae af ag ai al am an;have a2:=block_lt_of_cell ad;obtain⟨H,ab,bm⟩:=aW h aa ar;clear h aa aq I ar;have bi:¬c=p:=J;have bj:¬c=p+4:=J;have ha:=AO (P:=prog) underlying248 (len:=4) (Nat.le_refl 4);go_enter func95,ntmps95;go_wp2_with fail;refine(F5 _ n c _ 8 w J J J).mono ?_;rintro e w' ⟨rfl,rfl⟩;rw[H.out];go_wp2_with fail;obtain⟨C,ax⟩:=jE (fun w'=>X w w':World->Prop);have az:∀w',C w'↔X w w':=fun w'=>by rw[ax]
  clear ax;have R:=O az;clear az;have aJ:∀w w',C w->X w w'->C w':=fun w w' ao ap=>(R w').2 (((R w).1 ao).ext ap);have aE:∀w',C w'->∀j u,[Y (l[p]?.getD 0),Y (l[p+1]?.getD 0),Y (l[p+2]?.getD 0),Y (l[p+3]?.getD 0)][j]? =some u->w'.cell? ⟨b,off+p+j,none⟩=some u:=by
   intro w' h j u hu;rw[((R w').1 h).cell (p:=⟨b,_,none⟩) a2]
   match j,hu with
   |0,hu=>cases hu;exact ad
   |1,hu=>cases hu;exact ae
   |2,hu=>cases hu;exact af
   |3,hu=>cases hu;exact ag
  have a0:∀w',C w'->∀j u,[Y (l[p+4]?.getD 0),Y (l[p+5]?.getD 0),Y (l[p+6]?.getD 0),Y (l[p+7]?.getD 0)][j]? =some u->w'.cell? ⟨b,off+(p+4)+j,none⟩=some u:=by
   intro w' h j u hu;rw[((R w').1 h).cell (p:=⟨b,_,none⟩) a2]
   match j,hu with
   |0,hu=>cases hu;exact ai
   |1,hu=>cases hu;exact al
   |2,hu=>cases hu;exact am
   |3,hu=>cases hu;exact an
  clear ad ae af ag ai al am an;refine qV (C:=C) 21 au au ((R _).2 (X.refl w).drew) ?_;simp only[take_succ_cons,take_zero,drop_succ_cons,drop_zero];have k4:IntKind.i64.wrap ((p:Int)+4)=(p:Int)+4:=IntWalk.i64_in _ J;have bh:IntKind.i64.wrap ((p:Int)+8)=(p:Int)+8:=IntWalk.i64_in _ J;have a_:(0:Int)<=(p:Int)+4:=J;have ba:(p:Int)+4<=(c:Int):=J;have bc:(p:Int)<=(p:Int)+4:=J;have bd:(0:Int)<=(p:Int)+8:=J;have be:(p:Int)+8<=(c:Int):=J;have bk:((p:Int)+4).toNat=p+4:=J;have bl:((p:Int)+8).toNat=p+8:=J;have a6:p+8 - (p+4)=4:=J;have hx:=(iW l p).toNat_lt;have a9:=(iW l (p+4)).toNat_lt;have wx:IntKind.u64.wrap ((iW l p).toNat:Int)=((iW l p).toNat:Int):=IntWalk.u64_in _ J;have wy:IntKind.u64.wrap ((iW l (p+4)).toNat:Int)=((iW l (p+4)).toNat:Int):=IntWalk.u64_in _ J;have wz:IntKind.u64.wrap ((iW l p).toNat*4294967296:Int)=((iW l p).toNat*4294967296:Int):=IntWalk.u64_in _ J;have a3:=Wq (iW l p) (iW l (p+4));rw[show(iW l p).toNat*4294967296+(iW l (p+4)).toNat=fE l p from F]at a3;have aw:∀q w',C w'->Calls prog 154 #[.agg #[.int .u8 (l[q]?.getD 0).toNat,.int .u8 (l[q+1]?.getD 0).toNat,.int .u8 (l[q+2]?.getD 0).toNat,.int .u8 (l[q+3]?.getD 0).toNat]] w' fun e a5=>e= .returned (.int .u32 (iW l q).toNat)/\C a5:=
   fun q w' h=>(Jh _ _ _ _ w').mono fun e a5 ⟨ao,ap⟩=>⟨ao,aJ _ _ h ap⟩
  clear hx a9;iterate 6
   refine wpQuiet_step (fun K E=> ?_);rw[if_pos (by rfl)];apply Exists.intro;refine⟨fun w ac=> ?_,E _ ?_⟩
   go_simp
   first|exact F|exact⟨F,F⟩
   clear E K;refine cO ?_
  refine wpQuiet_step (fun K E=> ?_);rw[if_pos (by rfl)];refine OL _ _ F F aE FK F (E _ ?_);clear E K;refine cO ?_;refine wpQuiet_step (fun K E=> ?_);rw[if_pos (by rfl)];refine OM F call154 (by simp[Act.eval,Y]) (aw p) (E _ ?_);clear E K;refine cO ?_;iterate 8
   refine wpQuiet_step (fun K E=> ?_);rw[if_pos (by rfl)];apply Exists.intro;refine⟨fun w ac=> ?_,E _ ?_⟩
   go_simp
   first|exact F|exact⟨F,F⟩
   clear E K;refine cO ?_
  refine wpQuiet_step (fun K E=> ?_);rw[if_pos (by rfl)];apply Exists.intro;refine⟨fun w ac=> ?_,E _ ?_⟩
  go_simp
  first|exact F|exact⟨F,F⟩
  clear E K;refine cO ?_;refine wpQuiet_step (fun K E=> ?_);rw[if_pos (by rfl)];refine OL _ _ F F a0 FK F (E _ ?_);clear E K;refine cO ?_;refine wpQuiet_step (fun K E=> ?_);rw[if_pos (by rfl)];refine OM F call154 (by simp[Act.eval,Y]) (aw (p+4)) (E _ ?_);clear E K;refine cO ?_;refine wpQuiet_step (fun K E=> ?_);rw[if_pos (by rfl)];apply Exists.intro;refine⟨fun w ac=> ?_,E _ ?_⟩
  go_simp
  first|exact F|exact⟨F,F⟩
  clear E K;refine cO ?_;refine wpQuiet_step (fun K E=> ?_);rw[if_pos (by rfl)];apply Exists.intro;refine⟨fun w ac=> ?_,E _ ?_⟩
  go_simp
  first|exact F|exact⟨F,F⟩
  clear E K;refine cO ?_;refine wpQuiet_nil ?_;intro w2 a4;have e2:=(R w2).1 a4;clear a4 R aJ aE a0 aw wx wy wz a3 k4 bh a_ ba bc bd be bk bl a6 ha bi bj a8 hc;by_cases a1:fE l p<=4611686018427387904
  ·rw[if_pos a1]at ab;have a7:decide ((4611686018427387904:Int)<(fE l p:Int))=false:=aP J;have hk:IntKind.i64.wrap (fE l p:Int)=(fE l p:Int):=IntWalk.i64_in _ J;go_wp2
   go_ret2
   exact⟨by rw[ab.out];rfl,e2⟩
  ·rw[if_neg a1]at ab;have a7:decide ((4611686018427387904:Int)<(fE l p:Int))=true:=aQ J;go_wp2
   go_ret2
   exact⟨by rw[ab.out];rfl,e2⟩
 ·have aa:vW l n at_= .tuple #[.int .i64 0,.int .i64 (g_ n at_ 8)]:=by rw[vW,if_neg h]
  rw[aa];have bo:(g_ n at_ 8 != 0)=true:=by rw[bne_iff_ne];exact h
  clear aa aq h ar;go_enter func95,ntmps95;go_wp2_with fail;refine(F5 _ n c _ 8 w J J J).mono ?_;rintro e w' ⟨rfl,rfl⟩;go_wp2
  go_ret2
  exact⟨F,X.refl _⟩
end
theorem Wu(n:Nat)(w:World)(hn:n<=140737488355328):
 Calls prog 149 #[.slice none 0 0,.int .i64 n] w fun e w'=>∃v,e= .returned v/\w'.ownsRow w.heap.size 5 1 v 0 []/\X w w':=by
 by_cases I:n=0
 ·subst I;go_enter func149,ntmps149;go_wp2;go_ret;exact⟨_,F,World.ownsRow_nil _ _ _ _,X.refl _⟩
 ·have u:¬((n:Int)<0):=J;have ag:IntKind.i64.wrap (n:Int)=(n:Int):=IntWalk.i64_in _ J;have ai:decide ((0:Int)<(n:Int))=true:=aQ J;obtain⟨af,aa,ae,hs,hb⟩:=info_parts xu;obtain⟨G,j⟩:=jE (grownCap w n 0 5);have al:n<=G:=by rw[j];exact grownCap_ge w _ _ _
  have E:G<=maxLen:=by rw[j];exact grownCap_le_maxLen w n 0 5 (by unfold maxLen;omega)
  have ac:∀ty,(Builtin.append_ #[32,3] ty #[.slice none 0 0,.int .i64 (n:Int)]).run prog w=
   .ok (.slice (some ⟨w.heap.size,0,none⟩) n G) (w.drew.alloc (.cells (#[]++Builtin.zeroCells (Value.int .u8 0).cells n++Builtin.zeroCells (Value.int .u8 0).cells (G - n)) 5)):=fun ty=>by
   have h:=Lib.run_append_grow_zeros w 32 3 ty 5 af (.int .u8 0) .i64 .i64 underlying32 underlying3 aa ae none 0 0 [] (by rw[hs];exact run_firstCells_none w.drew 1 0 0 0) n J J J J (by rw[hb];omega)
    (by exact growslice_fits J (by rw[hb];omega))
   rw[Nat.zero_add,<-j]at h;exact h
  have ad:(#[]++Builtin.zeroCells (Value.int .u8 0).cells n++Builtin.zeroCells (Value.int .u8 0).cells (G - n)).size=G*1:=by
   have u:(Value.int .u8 0).cells.size=1:=F;simp[Builtin.zeroCells,u];omega
  have ab:∀cs:Array Value,cs.size=G*1->(w.drew.alloc (.cells cs 5)).ownsRow w.heap.size 5 1 (.slice (some ⟨w.heap.size,0,none⟩) 0 G) 0 []:=fun cs hc=>World.ownsRow_made w.drew cs G bG E hc;generalize R:(#[]++Builtin.zeroCells (Value.int .u8 0).cells n++Builtin.zeroCells (Value.int .u8 0).cells (G - n))=cs at*;clear j R;unfold maxLen at E;go_enter func149,ntmps149;go_wp2_with (at_builtin;refine Lib.wpList_append_run _ F _ _ _ _ F _ _ F F _ _ (ac _) ?_);all_goals (go_ret;exact⟨_,F,ab cs ad,(X.refl w).drew.alloc _⟩)
abbrev AP:=aN×Nat×aj
def fZ(j:List AP):aj:=(j.map (·.2.2)).flatten
def nS(j:AP):Value:= .slice j.1 j.2.2.length j.2.1
theorem JA{j:List AP}{k:Nat}{u:AP}(h:j[k]? =some u):fZ (j.take (k+1))=fZ (j.take k)++u.2.2:=by
 unfold fZ;rw[take_add_one,h];simp
theorem JB(j:List AP)(k:Nat):(fZ (j.take k)).length<=(fZ j).length:=by
 have u:fZ j=fZ (j.take k)++fZ (j.drop k):=by
  unfold fZ;rw[<-flatten_append,<-map_append,take_append_drop]
 rw[u,length_append];omega
theorem zG(j:List AP)(g E aE:Nat)(w:World)(a5:j.length=E)(bx:E<=140737488355328)(bw:E<=aE)(a1:∀(i:Nat) u,j[i]? =some u->w.cell? ⟨g,i,none⟩=some (nS u))
 (hc:∀u∈j,aK w u.1 (u.2.2.map Y))(af:∀u∈j,u.1=none->u.2.1=0)(a4:(fZ j).length<=140737488355328):
 Calls prog 91 #[.slice (some ⟨g,0,none⟩) E aE] w fun e w'=>∃v,e= .returned v/\w'.ownsRow w.heap.size 5 1 v (fZ j).length ((fZ j).map Y)/\X w w':=by
 obtain⟨ag,aw,a_,bc,ax⟩:=dM a5 a1 hc af a4;obtain⟨a8,a2,bt,hs,bl⟩:=info_parts xu;clear a1 hc af a4 a5;go_enter func91,ntmps91;go_wp2;go_loopw [3,11] (fun s i wr=>∃k:Nat,k<=E/\s= .int .i64 ((fZ (j.take k)).length:Nat)/\i= .int .i64 k/\wr=w)
  (fun _ i _=>E - (intOf i).toNat)
 case atStart=>exact⟨0,J,by simp[fZ],F,F⟩
 case round=>
  obtain⟨k,hk,rfl,rfl,bz⟩:=hrel;subst wr;by_cases aq:k<E
  ·obtain⟨u,R⟩:∃u,j[k]? =some u:=⟨j[k]'(by rw[ag.out];exact aq),aF⟩;have I:=aw.out k u R;unfold nS at I;have ad:=JA R;have ac:=JB j (k+1);rw[ad]at ac;have bo:=ax.out;rw[length_append]at ac;obtain⟨m,aa⟩:=aC ((fZ (j.take k)).length);obtain⟨q,ab⟩:=aC u.2.2.length;have a6:(fZ (j.take (k+1))).length=m+q:=by rw[ad,length_append,aa,ab]
   rw[aa,ab]at ac;rw[ab]at I;rw[aa];have bu:IntKind.i64.wrap ((m:Int)+(q:Int))=(m:Int)+(q:Int):=IntWalk.i64_in _ J;have bv:decide ((m:Int)+(q:Int)<0)=false:=aP J;have be:=O a6;clear a6 ad ac bo aa ab R;go_wp2;go_roundw
   case rel=>exact⟨k+1,J,by rw[be.out];go_num,by go_num,aF⟩
   case measure=>simp[intOf];omega
  ·have bp:k=E:=J;subst k;have a7:j.take E=j:=take_of_length_le (by rw[ag.out];omega);rw[a7];have a3:=ax.out;obtain⟨N,an⟩:=aC ((fZ j).length);have bd:=O an;rw[an]at a3⊢;clear a7 an;go_wp2_with fail;refine(Wu N _ a3).mono ?_;rintro e b0 ⟨v,rfl,own,bi⟩;go_wp2;go_loopw [6,27] (fun v i wr=>∃k:Nat,k<=E/\i= .int .i64 k/\wr.ownsRow w.heap.size 5 1 v (fZ (j.take k)).length ((fZ (j.take k)).map Y)/\X w wr)
    (fun _ i _=>E - (intOf i).toNat)
   case atStart=>exact⟨0,J,F,by simpa[fZ]using own,bi⟩
   case round=>
    obtain⟨k,hk,rfl,ae,e2⟩:=hrel;by_cases aq:k<E
    ·obtain⟨u,R⟩:∃u,j[k]? =some u:=⟨j[k]'(by rw[ag.out];exact aq),aF⟩;have I:=aw.out k u R;have hb:=block_lt_of_cell I;rw[<-e2.cell (p:=⟨g,k,none⟩) hb]at I;have ad:=JA R;have ac:=JB j (k+1);rw[ad,bd.out,length_append]at ac;have ai:=(a_ u (mem_of_getElem? R)).ext e2;have af:=bc.out u (mem_of_getElem? R);unfold nS at I;obtain⟨x,c,ar⟩:=u;obtain⟨q,ab⟩:=aC ar.length;obtain⟨m,aa⟩:=aC ((fZ (j.take k)).length);simp only at I ad ac ai af;rw[ab]at I;rw[aa,ab]at ac;rw[aa]at ae;obtain⟨al,am,az⟩:=aW ad ab aa;clear ad ab aa R hb;cases x with
     |none=>
      have ap:ar=[]:=by
       rcases ai with h|⟨_,_,h,_⟩
       ·simpa using h
       ·cases h
      have bm:c=0:=af F;have br:q=0:=by rw[<-am.out,ap];rfl
      subst bm;subst br;have ao:=al.out;rw[ap,append_nil]at ao;have ba:=O ao;clear ao ap al;go_wp2_with (at_builtin;refine wpList_append_own_none F _ _ 32 F w.heap.size 5 a8 1 underlying32 a2 _ _ _ F ae F ?_);go_wp2;go_roundw
      case rel=>exact⟨k+1,J,by go_num,by rw[ba.out,az.out];exact ae,e2⟩
      case measure=>simp[intOf];omega
     |some bh=>
      go_wp2_with (at_builtin;refine wpList_append_own _ F _ _ 32 F w.heap.size 5 a8 (.int .u8 0) 1 1 underlying32 a2 bt hs bl F aX _ _ _ F ae bh q c (ar.map Y) F ?qc1 (wX ai) (b_ _) ?qc4 ?qc5 e2.size ?_)
      case qc1=>rw[length_map,am.out,Nat.mul_one]
      case qc4=>unfold maxLen;omega
      case qc5=>omega
      intro v2 w2 a9 a0 _;have bj:X w w2:=e2.grown a0 (fun bk h=>(ae.lt bk h).1);rw[<-map_append]at a9;clear ae a0 e2 I ai;go_wp2;go_roundw
      case rel=>exact⟨k+1,J,by go_num,by rw[al.out,length_append,az.out,am.out];exact a9,bj⟩
      case measure=>simp[intOf];omega
    ·have bp:k=E:=J;subst k;rw[take_of_length_le (by rw[ag.out];omega)]at ae;go_wp2;go_ret;exact⟨_,F,ae,e2⟩
theorem nT{w:World}{B:Nat}{v:Value}{n:Nat}{xs:aO}(h:w.ownsRow B 5 1 v n xs):
 ∃a c,v= .slice a n c/\n<=c/\c<=maxLen/\(a=none->c=0)/\aK w a xs:=by
 obtain⟨ae,h⟩:=h;rcases h with⟨rfl,rfl⟩|⟨g,E,cu,rfl,hb,ab,I,R,ad,aa⟩
 ·refine⟨none,0,F,Nat.le_refl _,by unfold maxLen;omega,fun _=>rfl,.inl ?_⟩;exact length_eq_zero_iff.1 J
 ·refine⟨_,E,F,I,R,(fun h=>by cases h),.inr ⟨g,0,F,fun i u j=> ?_⟩⟩;rw[<-aa]at j;have ac:i<n*1:=by
   have:=(List.getElem?_eq_some_iff.1 j).1;simp at this;omega
  rw[List.getElem?_take_of_lt ac]at j;rw[Nat.zero_add];exact ah.cell' (vs:=cu.toList) (T:=5) (by simpa[ah]using ab) j
theorem mg{w:World}{B B':Nat}{e:TypeId}{j:Nat}{v:Value}{n:Nat}{xs:aO}(h:w.ownsRow B e j v n xs)(hb:B'<=B):w.ownsRow B' e j v n xs:=by
 refine⟨h.1,?_⟩;rcases h.2 with h|⟨g,u,cu,E,I,R⟩
 ·exact .inl h
 ·exact .inr ⟨g,u,cu,E,Nat.le_trans hb I,R⟩
theorem Wv(l:aj)(a:aN)(n c:Nat)(x:UInt32)(w:World)(ai:l.length=n)(hn:n<=140737488355320)(ag:aK w a (l.map Y))(af:a=none->c=0):
 Calls prog 160 #[.slice a n c,.int .u32 x.toNat] w fun e w'=>∃v,e= .returned v/\w'.ownsRow w.heap.size 5 1 v (n+4) ((l++gq x).map Y)/\X w w':=by
 obtain⟨aa,ao,an⟩:=aW ai ag af;clear ai ag af;go_enter func160,ntmps160;go_wp2_with fail;refine(Ji x _).mono ?_;rintro e j ⟨rfl,ad⟩;go_wp2_with (first|(refine bg F _ _ _ F F F (ah.aI F F) FK F F (b_ _) ?_));intro w2 ab am;have e2:X w w2:=am.ext (ad.alloc _) ad.size;go_wp2_with fail;have E:ah (w2.alloc (.cells #[.slice a n c,.slice (some ⟨j.heap.size,0,none⟩) 4 4] 32)) w2.heap.size [.slice a n c,.slice (some ⟨j.heap.size,0,none⟩) 4 4] 32:=ah.aI F F;have ac:=ab.alloc (.cells #[.slice a n c,.slice (some ⟨j.heap.size,0,none⟩) 4 4] 32);have u:X w (w2.alloc (.cells #[.slice a n c,.slice (some ⟨j.heap.size,0,none⟩) 4 4] 32)):=e2.alloc _;generalize w2.alloc (.cells #[.slice a n c,.slice (some ⟨j.heap.size,0,none⟩) 4 4] 32)=ar at*;have I:fZ [(a,c,l),(some ⟨j.heap.size,0,none⟩,4,gq x)]=l++gq x:=by simp[fZ]
 have R:(l++gq x).length=n+4:=by rw[length_append,aa.out];rfl
 refine(zG [(a,c,l),(some ⟨j.heap.size,0,none⟩,4,gq x)] w2.heap.size 2 2 ar F J J ?hg ?hc ?hn ?hl).mono ?_
 case hg=>
  intro i al hit
  match i,hit with
  |0,hit=>cases hit;rw[nS];simp only;rw[aa.out];exact E.cell' F
  |1,hit=>cases hit;exact E.cell' F
 case hc=>
  intro al hit;simp only[mem_cons,not_mem_nil,or_false]at hit;rcases hit with rfl|rfl
  ·exact ao.ext u
  ·exact aK.eG ac
 case hn=>
  intro al hit;simp only[mem_cons,not_mem_nil,or_false]at hit;rcases hit with rfl|rfl
  ·exact an
  ·intro h;cases h
 case hl=>rw[I,R];omega
 rintro e aw ⟨v,rfl,own,ae⟩;rw[I,R]at own;have aq:aw.ownsRow w.heap.size 5 1 v (n+4) ((l++gq x).map Y):=mg own u.size;have ap:=u.ext ae;clear I R E ac u own ae ab am e2;go_wp2;go_ret;exact⟨_,F,aq,ap⟩
def uU(k:Int):Nat:=if k<0∨4611686018427387904<k then 0 else k.toNat
theorem Wx(k:Int):uU k<=4611686018427387904:=by unfold uU;split<;>omega
theorem Bc(u:UInt64):(dG u).length=8:=F
theorem OO(l:aj)(a:aN)(n c:Nat)(k:Int)(w:World)(a0:l.length=n)(hn:n<=140737488355320)(aE:aK w a (l.map Y))(al:a=none->c=0):
 Calls prog 159 #[.slice a n c,.int .i64 k] w fun e w'=>∃v,e= .returned v/\w'.ownsRow w.heap.size 5 1 v (n+8) ((l++dG (UInt64.ofNat (uU k))).map Y)/\X w w':=by
 obtain⟨ai,ax,aw⟩:=aW a0 aE al;clear a0 aE al;obtain⟨u,az⟩:=aC (UInt64.ofNat (uU k));have ar:(u.toNat:Int)=uU k:=by
  have:=Wx k;rw[<-az,UInt64.toNat_ofNat'];omega
 rw[az];clear az;by_cases hk:k<0∨4611686018427387904<k
 ·have al:(u.toNat:Int)=0:=by rw[ar,uU,if_pos hk];rfl
  clear ar;have am:=fun w=>Jj u w;rw[al]at am;by_cases a1:k<0
  ·go_enter func159,ntmps159;go_wp2_with fail;refine(am _).mono ?_;rintro e j ⟨rfl,ad⟩;go_wp2_with (first|(refine bg F _ _ _ F F F (ah.aI F F) AZ F F (b_ _) ?_));intro w2 ab ag;have e2:X w w2:=ag.ext (ad.alloc _) ad.size;go_wp2_with fail;have I:ah (w2.alloc (.cells #[.slice a n c,.slice (some ⟨j.heap.size,0,none⟩) 8 8] 32)) w2.heap.size [.slice a n c,.slice (some ⟨j.heap.size,0,none⟩) 8 8] 32:=ah.aI F F;have ac:=ab.alloc (.cells #[.slice a n c,.slice (some ⟨j.heap.size,0,none⟩) 8 8] 32);have E:X w (w2.alloc (.cells #[.slice a n c,.slice (some ⟨j.heap.size,0,none⟩) 8 8] 32)):=e2.alloc _;generalize w2.alloc (.cells #[.slice a n c,.slice (some ⟨j.heap.size,0,none⟩) 8 8] 32)=ap at*;have R:fZ [(a,c,l),(some ⟨j.heap.size,0,none⟩,8,dG u)]=l++dG u:=by simp[fZ]
   have aa:(l++dG u).length=n+8:=by rw[length_append,ai.out];rfl
   refine(zG [(a,c,l),(some ⟨j.heap.size,0,none⟩,8,dG u)] w2.heap.size 2 2 ap F J J ?hg ?hc ?hn ?hl).mono ?_
   case hg=>
    intro i af hit
    match i,hit with
    |0,hit=>cases hit;rw[nS];simp only;rw[ai.out];exact I.cell' F
    |1,hit=>cases hit;exact I.cell' F
   case hc=>
    intro af hit;simp only[mem_cons,not_mem_nil,or_false]at hit;rcases hit with rfl|rfl
    ·exact ax.ext E
    ·exact aK.eG ac
   case hn=>
    intro af hit;simp only[mem_cons,not_mem_nil,or_false]at hit;rcases hit with rfl|rfl
    ·exact aw
    ·intro h;cases h
   case hl=>rw[R,aa];omega
   rintro e aq ⟨v,rfl,own,ae⟩;rw[R,aa]at own;have ao:aq.ownsRow w.heap.size 5 1 v (n+8) ((l++dG u).map Y):=mg own E.size;have an:=E.ext ae;clear R aa I ac E own ae ab ag e2;go_wp2;go_ret;exact⟨_,F,ao,an⟩
  ·have a2:4611686018427387904<k:=J;go_enter func159,ntmps159;go_wp2_with fail;refine(am _).mono ?_;rintro e j ⟨rfl,ad⟩;go_wp2_with (first|(refine bg F _ _ _ F F F (ah.aI F F) AZ F F (b_ _) ?_));intro w2 ab ag;have e2:X w w2:=ag.ext (ad.alloc _) ad.size;go_wp2_with fail;have I:ah (w2.alloc (.cells #[.slice a n c,.slice (some ⟨j.heap.size,0,none⟩) 8 8] 32)) w2.heap.size [.slice a n c,.slice (some ⟨j.heap.size,0,none⟩) 8 8] 32:=ah.aI F F;have ac:=ab.alloc (.cells #[.slice a n c,.slice (some ⟨j.heap.size,0,none⟩) 8 8] 32);have E:X w (w2.alloc (.cells #[.slice a n c,.slice (some ⟨j.heap.size,0,none⟩) 8 8] 32)):=e2.alloc _;generalize w2.alloc (.cells #[.slice a n c,.slice (some ⟨j.heap.size,0,none⟩) 8 8] 32)=ap at*;have R:fZ [(a,c,l),(some ⟨j.heap.size,0,none⟩,8,dG u)]=l++dG u:=by simp[fZ]
   have aa:(l++dG u).length=n+8:=by rw[length_append,ai.out];rfl
   refine(zG [(a,c,l),(some ⟨j.heap.size,0,none⟩,8,dG u)] w2.heap.size 2 2 ap F J J ?hg ?hc ?hn ?hl).mono ?_
   case hg=>
    intro i af hit
    match i,hit with
    |0,hit=>cases hit;rw[nS];simp only;rw[ai.out];exact I.cell' F
    |1,hit=>cases hit;exact I.cell' F
   case hc=>
    intro af hit;simp only[mem_cons,not_mem_nil,or_false]at hit;rcases hit with rfl|rfl
    ·exact ax.ext E
    ·exact aK.eG ac
   case hn=>
    intro af hit;simp only[mem_cons,not_mem_nil,or_false]at hit;rcases hit with rfl|rfl
    ·exact aw
    ·intro h;cases h
   case hl=>rw[R,aa];omega
   rintro e aq ⟨v,rfl,own,ae⟩;rw[R,aa]at own;have ao:aq.ownsRow w.heap.size 5 1 v (n+8) ((l++dG u).map Y):=mg own E.size;have an:=E.ext ae;clear R aa I ac E own ae ab ag e2;go_wp2;go_ret;exact⟨_,F,ao,an⟩
 ·have a1:¬k<0:=J;have a2:¬4611686018427387904<k:=J;have al:(u.toNat:Int)=k:=by rw[ar,uU,if_neg hk];omega
  have a3:IntKind.u64.wrap k=k:=IntWalk.u64_in _ J;clear ar hk;have am:=fun w=>Jj u w;rw[al]at am;go_enter func159,ntmps159;go_wp2_with fail;refine(am _).mono ?_;rintro e j ⟨rfl,ad⟩;go_wp2_with (first|(refine bg F _ _ _ F F F (ah.aI F F) AZ F F (b_ _) ?_));intro w2 ab ag;have e2:X w w2:=ag.ext (ad.alloc _) ad.size;go_wp2_with fail;have I:ah (w2.alloc (.cells #[.slice a n c,.slice (some ⟨j.heap.size,0,none⟩) 8 8] 32)) w2.heap.size [.slice a n c,.slice (some ⟨j.heap.size,0,none⟩) 8 8] 32:=ah.aI F F;have ac:=ab.alloc (.cells #[.slice a n c,.slice (some ⟨j.heap.size,0,none⟩) 8 8] 32);have E:X w (w2.alloc (.cells #[.slice a n c,.slice (some ⟨j.heap.size,0,none⟩) 8 8] 32)):=e2.alloc _;generalize w2.alloc (.cells #[.slice a n c,.slice (some ⟨j.heap.size,0,none⟩) 8 8] 32)=ap at*;have R:fZ [(a,c,l),(some ⟨j.heap.size,0,none⟩,8,dG u)]=l++dG u:=by simp[fZ]
  have aa:(l++dG u).length=n+8:=by rw[length_append,ai.out];rfl
  refine(zG [(a,c,l),(some ⟨j.heap.size,0,none⟩,8,dG u)] w2.heap.size 2 2 ap F J J ?hg ?hc ?hn ?hl).mono ?_
  case hg=>
   intro i af hit
   match i,hit with
   |0,hit=>cases hit;rw[nS];simp only;rw[ai.out];exact I.cell' F
   |1,hit=>cases hit;exact I.cell' F
  case hc=>
   intro af hit;simp only[mem_cons,not_mem_nil,or_false]at hit;rcases hit with rfl|rfl
   ·exact ax.ext E
   ·exact aK.eG ac
  case hn=>
   intro af hit;simp only[mem_cons,not_mem_nil,or_false]at hit;rcases hit with rfl|rfl
   ·exact aw
   ·intro h;cases h
  case hl=>rw[R,aa];omega
  rintro e aq ⟨v,rfl,own,ae⟩;rw[R,aa]at own;have ao:aq.ownsRow w.heap.size 5 1 v (n+8) ((l++dG u).map Y):=mg own E.size;have an:=E.ext ae;clear R aa I ac E own ae ab ag e2;go_wp2;go_ret;exact⟨_,F,ao,an⟩
theorem DL(l:aj)(a:aN)(n c:Nat)(w:World)(aa:l.length=n)(hn:n<=140737488355320)(I:aK w a (l.map Y)):
 Calls prog 58 #[.slice a n c] w fun e w'=>∃v,e= .returned v/\w'.ownsRow w.heap.size 5 1 v n (l.map Y)/\(v= .slice none 0 0↔a=none)/\X w w':=by
 obtain⟨u,j⟩:=aB aa I;clear aa I;obtain⟨an,af,am,hs,ae⟩:=info_parts xu;have ap:∀(w:World) (a:aN) (n c n' c':Nat),(binOp .eql 32 (.slice a n c) (.slice none n' c')).run prog w= .ok (.bool a.isNone) w:=fun w a n c n' c'=>Lib.run_eql_slice_nil w _ _ a n c n' c' underlying32;cases a with
 |none=>
  have E:l=[]:=by
   rcases j.out with h|⟨_,_,h,_⟩
   ·simpa using h
   ·cases h
  have ag:n=0:=by rw[<-u.out,E];rfl
  subst ag;have ab:=O E;clear E u j;go_enter func58,ntmps58;go_wp2;go_ret;exact⟨_,F,by rw[ab.out];exact World.ownsRow_nil _ _ _ _,aF,X.refl _⟩
 |some ac=>
  go_enter func58,ntmps58;go_wp2_with (at_builtin;refine wpList_append_own _ F _ _ 32 F w.heap.size 5 an (.int .u8 0) 1 1 underlying32 af am hs ae F aX _ _ _ F (World.ownsRow_made w #[] 0 bG (Nat.zero_le _) aF) ac n c (l.map Y) F ?qc1 (wX (j.ext ((X.refl w).alloc _))) (b_ _) ?qc4 ?qc5 ?qc6 ?_)
  case qc1=>rw[length_map,u.out,Nat.mul_one]
  case qc4=>unfold maxLen;omega
  case qc5=>omega
  case qc6=>simp
  intro v' ao al R ai;have ad:X w ao:=((X.refl w).alloc _).grown R (by intro k hk;simp[Value.ownBlock]at hk;omega);clear R;go_wp2;go_ret;exact⟨v',F,al,by simp[ai],ad⟩
theorem OQ(x:UInt32):m_ (UInt8.ofNat (x.toNat / 16777216)) (UInt8.ofNat (x.toNat / 65536)) (UInt8.ofNat (x.toNat / 256)) (UInt8.ofNat x.toNat)=x:=by
 have j:=x.toNat_lt;unfold m_;apply UInt32.toNat_inj.1;rw[UInt32.toNat_ofNat',UInt8.toNat_ofNat',UInt8.toNat_ofNat',UInt8.toNat_ofNat',UInt8.toNat_ofNat'];omega
theorem OU(l m:aj)(a b c d:UInt8)(r:aj)(q:Nat)(h:l.length=q)(j:m=a::b::c::d::r):iW (l++m) q=m_ a b c d:=by
 subst j;subst h;unfold iW;rw[List.getElem?_append_right J,List.getElem?_append_right J,List.getElem?_append_right J,List.getElem?_append_right J];rw[show l.length - l.length=0 by omega,show l.length+1 - l.length=1 by omega,show l.length+2 - l.length=2 by omega,show l.length+3 - l.length=3 by omega];rfl
theorem OV(l:aj)(x:UInt32)(q:Nat)(h:l.length=q):iW (l++gq x) q=x:=by
 rw[OU l (gq x) _ _ _ _ [] q h F,OQ]
theorem Wy(l:aj)(u:UInt64)(q:Nat)(h:l.length=q):fE (l++dG u) q=u.toNat:=by
 have j:=u.toNat_lt;unfold fE dG;rw[<-append_assoc,OV (l++gq _) _ (q+4) (by rw[length_append,h];rfl)];rw[append_assoc,OU l (gq _++gq _) _ _ _ _ _ q h F,OQ,UInt32.toNat_ofNat',UInt32.toNat_ofNat'];omega
section
open Go Go.RowKit
attribute [local irreducible] wpQuiet
theorem WA{w:World}{a:aN}{l m:aj}{n:Nat}(h:aK w a ((l++m).map Y))(hn:l.length=n):aK w a (l.map Y):=by
 have:=h.take n;rwa[<-map_take,take_left' hn]at this
end
theorem WB{P:Program}{u:Func}{j:Ending->World->Prop}{a:Act}{w:World}(R:u.results= #[])(I:a.defers=[])(E:j (.returned (.tuple #[])) w):bodyPost P u j .ret a w:=
 bodyPost_ret (results_none R _ _ _) I E
theorem WC(s0 t b r:aj)(I:Int)(g m h n c:Nat)(a:aN)(T:TypeId)(w:World)(hs:s0.length=64)(ax:r.length=32)(hb:b.length=n)(ar:t.length=32*m+h)(bl:0<h)(bm:h+n<32)
 (ab:r.take h=t.drop (32*m))
 (am:ah w g (sm (gZ s0 t m) r h I) T)(bo:n<=c)(hc:c<=9223372036854775807)(al:a=none->n=0)(ao:aK w a (b.map Y))(an:n=0∨∀x,a=some x->some x.block≠some g):
 Calls prog 267 #[.pointer (some ⟨g,0,none⟩),.slice a n c] w (FZ w g T s0 (t++b) I):=by
 obtain⟨R,E,j,u,a0,be,a3,ai⟩:=jg hs ax hb ar al an ao am;have a9:=O ab;clear hs ax hb ar al an ao am ab;have bc:=ai.cell' (w_ h I (iV R m) E);have bj:decide ((0:Int)<(h:Int))=true:=aQ J;have bt:¬32=h:=J;have bp:(0:Int)<=(h:Int):=J;have br:(h:Int)<=32:=J;have hk:IntKind.i64.wrap ((h:Int)+n)=(h:Int)+n:=IntWalk.i64_in _ J;have bk:decide ((h:Int)+n<32)=true:=aQ J;have aw:n=Nat.min n (32 - h):=(Nat.min_eq_left J).symm;have aq:(b.map Y).length=n:=by rw[length_map,j.out]
 have ap:64+h+n<=(sm (gZ s0 t m) r h I).length:=by rw[Dy _ _ (iV R _) E.out];omega
 have ag:=FN (xs:=b) h I (iV (t:=t) R m) E h (by rw[j.out];omega);rw[j.out]at ag;have az:(r.take h++b++r.drop (h+n)).length=32:=by rw[length_append,length_append,length_take,j.out,length_drop,E.out];omega
 have ab:(r.take h++b++r.drop (h+n)).take (h+n)=(t++b).drop (32*m):=by
  rw[drop_append_of_le_length (by rw[u.out];omega),<-a9.out,take_append_of_le_length (by rw[length_append,length_take,j.out,E.out];omega),
   take_of_length_le (by rw[length_append,length_take,j.out,E.out];omega)]
 generalize r.take h++b++r.drop (h+n)=bd at*;obtain⟨a8,a7,a4,ba,ac,a_⟩:=iq aw aq ap ag az ab;clear aw aq ap ag az ab;go_enter func267,ntmps267;go_wp2;refine qV (C:=fun w'=>∃n,w'=w.drewN n) 9 au au ⟨1,F⟩ ?_;simp only[take_succ_cons,take_zero,drop_succ_cons,drop_zero];iterate 9 quiet_step (fail)
 refine wpQuiet_nil ?_;rintro _ ⟨nq,rfl⟩;go_wp2_with (refine zA F _ _ _ _ F F F (ai.drewN (n:=nq)) underlying32 gu a7 a8 a0 (a3.ext ((X.refl w).drewN nq)) a4 (b_ _) ?_);intro bu aa aE;rw[ba.out]at aa;obtain⟨a1,a5⟩:=aB aa (A_ (bR (yA w (some g)) nq) aE);have bi:=aa.frozen 96;have bh:=aa.cell' (w_ h I (iV R m) ac);clear aa aE bc;go_wp2_with (refine zy F _ _ _ _ F (k:=n) F F underlying32 gu (Nat.le_refl n) ?_);have ad:=a1.set 96 (.int .i64 ((h:Int)+n));rw[Dz _ _ _ (iV R _) ac.out]at ad;obtain⟨a2,a6⟩:=aB ad (yB a5 96 (.int .i64 ((h:Int)+n)));clear ad;refine WB F F ⟨F,⟨bd,ac,?_,?_⟩,a6⟩
 ·have ae:(t++b).length%32=h+n:=by rw[length_append,u.out,j.out];omega
  have af:(t++b).length / 32=m:=by rw[length_append,u.out,j.out];omega
  rw[ae,af];exact a_
 ·have ae:(t++b).length%32=h+n:=by rw[length_append,u.out,j.out];omega
  have af:(t++b).length / 32=m:=by rw[length_append,u.out,j.out];omega
  rw[ae,af,DJ _ (by rw[u.out];omega)];exact a2
theorem WE(s0 t E u r:aj)(R:Int)(g m h n n2 c:Nat)(a:aN)(T:TypeId)(w:World)(hs:s0.length=64)(bd:r.length=32)(hb:u.length=n2)(am:E.length=32 - h)(ar:t.length=32*m+h)(c0:0<h)(c1:h<32)
 (hn:n=32 - h+n2)(an:r.take h=t.drop (32*m))
 (b1:ah w g (sm (gZ s0 t m) r h R) T)(c2:n<=c)(hc:c<=9223372036854775807)(b0:a=none->n=0)(a3:aK w a ((E++u).map Y))(b3:n=0∨∀x,a=some x->some x.block≠some g):
 Calls prog 267 #[.pointer (some ⟨g,0,none⟩),.slice a n c] w (FZ w g T s0 (t++E++u) R):=by
 obtain⟨I,ao,ai,a0,cT,bi,bj,cS⟩:=jg hs bd hb am ar b0 (b3.resolve_left J) a3;obtain⟨br,cU,cv⟩:=aW b1 an hn;have cc:(t++E).length=32*(m+1):=by rw[length_append,ar,am];omega
 have ad:=O cc;have b5:(r.take h++E)=(t++E).drop (32*m):=by rw[drop_append_of_le_length (by rw[ar];omega),an]
 have b2:qW (gZ s0 t m) (r.take h++E)=gZ s0 (t++E) (m+1):=by
  have cV:(r.take h++E).length=32:=by rw[length_append,length_take,am,bd];omega
  rw[gZ,<-b5,DJ _ (by rw[ar];omega),take_of_length_le (l:=r.take h++E) J]
 have ch:=O b2;have b6:aK w a (E.map Y):=WA (m:=u) a3 F;have cj:=O b6;have b7:aK w (dL a c (32 - h)) (u.map Y):=by
  have ab:=a3.shift c (32 - h) n2 J;rw[<-map_drop,<-am,drop_left,take_of_length_le (by rw[length_map];omega)]at ab;rwa[am]at ab
 have ck:=O b7;clear hs bd hb ar b0 b3 a3 b1 an cc b5 b2 b6 b7 am;have bx:=br.cell' (w_ h R (iV I m) ao);have cY:decide ((0:Int)<(h:Int))=true:=aQ J;have c6:¬32=h:=J;have c4:(0:Int)<=(h:Int):=J;have c5:(h:Int)<=32:=J;obtain⟨j,ca⟩:=aC (32 - h);have hk:IntKind.i64.wrap ((h:Int)+j)=32:=by
  rw[show(h:Int)+j=32 by omega];exact IntWalk.i64_in _ J
 have aw:j=Nat.min n j:=(Nat.min_eq_right J).symm;have aq:(E.map Y).length=j:=by rw[length_map,a0.out];exact ca
 have ap:64+h+j<=(sm (gZ s0 t m) r h R).length:=by rw[Dy _ _ (iV I _) ao.out];omega
 have al:=FN (xs:=E) h R (iV (t:=t) I m) ao h (by rw[a0.out];omega);rw[a0.out,show h+(32 - h)=32 by omega,drop_of_length_le (by rw[ao.out];omega),append_nil]at al;have ax:(r.take h++E).length=32:=by rw[length_append,length_take,a0.out,ao.out];omega
 generalize r.take h++E=ag at*;obtain⟨cs,cq,cm,cx,ae⟩:=dM aw aq ap al ax;clear aw aq ap al ax;have cJ:j<=n:=J;clear hn;go_enter func267,ntmps267;go_wp2;refine qV (C:=fun w'=>∃n,w'=w.drewN n) 9 au au ⟨1,F⟩ ?_;simp only[take_succ_cons,take_zero,drop_succ_cons,drop_zero];iterate 9 quiet_step (fail)
 refine wpQuiet_nil ?_;rintro _ ⟨nq,rfl⟩;go_wp2_with (refine zA F _ _ _ _ F F F (br.drewN (n:=nq)) underlying32 gu cq cs bi (cj.ext ((X.refl w).drewN nq)) cm (b_ _) ?_);intro bh k1 a4;rw[cx.out]at k1;obtain⟨aE,a1⟩:=aB k1 (A_ (bR (yA w (some g)) nq) a4);have bz:=k1.frozen 96;have cA:=k1.cell' (w_ h R (iV I m) ae);clear k1 a4 bx;go_wp2_with (refine zy F _ _ _ _ F (k:=j) F F underlying32 gu cJ ?_);have k2:=aE.set 96 (.int .i64 32);rw[Dz _ _ _ (iV I _) ae.out]at k2;obtain⟨bm,bu⟩:=aB k2 (yB a1 96 (.int .i64 32));generalize World.setCell bh _ _=w2 at*;have az:∀i,i<32->w2.cell? ⟨g,64+i,none⟩=some (.int .u8 ((ag[i]?.getD 0).toNat:Int)):=fun i bc=>k2.cell' (VK 32 R (iV I m) ae bc);have a2:=O az;clear k2 bz cA az;refine(Dw _ ag _ g g 64 T w2 (iV I m) bm a2 (.inr bG)).mono ?_;rintro e cf ⟨rfl,k3,g3⟩;rw[ch.out]at k3;have be:ah cf g (sm (gZ s0 (t++E) (m+1)) ag 32 R) T:=k3;obtain⟨bo,bv⟩:=aB be (l9 bu g3);have cD:=k3.frozen 96;have cC:=be.cell' (w_ 32 R (iV I (m+1)) ae);clear k3 be g3;go_wp2;have k4:=bo.set 96 (.int .i64 0);rw[Dz _ _ _ (iV I _) ae.out]at k4;obtain⟨bp,bw⟩:=aB k4 (yB bv 96 (.int .i64 0));generalize World.setCell cf _ _=c7 at*;have bt:=O (ck.grown bw (Dx bj));have bl:Hid (n2=0∨∀x,dL a c (32 - h)=some x->some x.block≠some g):=O (.inr (Dx (c:=c) (k:=32 - h) bj));rw[ca]at bt bl;have cM:n - j=n2:=by have:=cv.out;omega
 have cg:Hid (dL a c j=none->n2=0):=O fun e=>by have:=bi.out (FM.1 e);omega
 rw[cM];clear k4 cD cC bo bm bv bu a2 aE a1;generalize dL a c j=cz at*;obtain⟨ac,ce⟩:=aC (t++E);obtain⟨af,cL⟩:=aC (m+1);obtain⟨a7,cG⟩:=aC (c - j);rw[ce,cL]at bp ad;rw[ce,cG];have cN:n2<=a7:=J;go_loopw [1] (fun x wr=>∃(k n' c':Nat) (a':aN),x= .slice a' n' c'/\n'+32*k=n2/\n'<=c'/\c'<=a7/\Hid (a'=none->n'=0)/\Hid (n'=0∨∀x,a'=some x->some x.block≠some g)/\
  Hid (aK wr a' ((u.drop (32*k)).map Y))/\Hid (ah wr g (sm (gZ s0 (ac++u) (af+k)) ag 0 R) T)/\Hid (w.grownBy wr (some g)))
  (fun x _=>zf x)
 case atStart=>exact⟨0,n2,a7,cz,F,J,cN,J,cg,bl,O (by rw[Nat.mul_zero,drop_zero];exact bt),O (by rw[Nat.add_zero,DJ _ (by rw[ad.out];omega)];exact bp),bw⟩
 case round=>
  obtain⟨k,n',c',a',rfl,hk,c3,cX,a8,cE,ba,b4,b'⟩:=hrel;by_cases cb:32<=n'
  ·have cH:decide ((32:Int)<=(n':Int))=true:=aQ J;have aa:(u.drop (32*k)).length=n':=by rw[length_drop,ai.out];omega
   have cP:a'≠none:=fun e=>by have:=a8.out e;omega
   obtain⟨gb,off,rfl,b8⟩:=ba.gQ (by rw[length_map,aa];omega);have a_:=cE.resolve_left J;have cI:gb≠g:=fun e=>a_ _ F (by rw[e]);have bk:=O a_;clear a_;have cW:=AO (P:=prog) underlying30 (len:=n') cb;have az:∀i,i<32->wr.cell? ⟨gb,off+i,none⟩=some (.int .u8 ((((u.drop (32*k)).take 32)[i]?.getD 0).toNat:Int)):=by
    intro i bc;refine b8 i _ ?_;rw[List.getElem?_take_of_lt bc];exact zD J
   have a2:=O az;clear az b8 cP;have cp:=O aa;clear aa;go_wp2_with fail;refine(Dw _ ((u.drop (32*k)).take 32) _ g gb off T wr (iV I _) b4 a2 (.inl cI)).mono ?_;rintro e bh ⟨rfl,E,g1⟩;have cd:qW (gZ s0 (ac++u) (af+k)) ((u.drop (32*k)).take 32)=gZ s0 (ac++u) (af+(k+1)):=by
    rw[<-Nat.add_assoc,gZ,FY ad.out]
   rw[cd]at E;have aE:=O E;clear E cd;obtain⟨a1,cF⟩:=aB (l9 b' g1) (ba.grown g1 bk);clear g1;go_wp2_with (refine zy F _ _ _ _ F (k:=32) F F underlying32 gu cb ?_);go_roundw
   case rel=>
    refine⟨k+1,n' - 32,c' - 32,_,F,J,J,J,O fun e=> ?_,O (.inr (Dx bk)),O ?_,aE,a1⟩
    ·have:=a8.out (FM.1 e);omega
    ·have ab:=cF.shift c' 32 (n' - 32) J;rw[<-map_drop,drop_drop,take_of_length_le (by rw[length_map,length_drop,ai.out];omega)]at ab;rwa[show 32*k+32=32*(k+1) by omega]at ab
   case measure=>simp[zf];omega
  ·have cH:decide ((32:Int)<=(n':Int))=false:=aP J;have aa:(u.drop (32*k)).length=n':=by rw[length_drop,ai.out];omega
   have aq:((u.drop (32*k)).map Y).length=n':=by rw[length_map,aa]
   have aw:n'=Nat.min n' 32:=(Nat.min_eq_left J).symm;have ct:=O aw;clear aw;have ap:64+n'<=(sm (gZ s0 (ac++u) (af+k)) ag 0 R).length:=by rw[Dy _ _ (iV I _) ae.out];omega
   have cn:=O ap;clear ap;have al:=FN (xs:=u.drop (32*k)) 0 R (iV (t:=ac++u) I (af+k)) ae 0 (by rw[aa];omega);rw[take_zero,nil_append,Nat.add_zero,Nat.zero_add,aa]at al;have ax:(u.drop (32*k)++ag.drop n').length=32:=by rw[length_append,aa,length_drop,ae.out];omega
   have an:(u.drop (32*k)++ag.drop n').take n'=u.drop (32*k):=by rw[<-aa,take_left]
   have b9:=FY (b:=u) (k:=k) ad;generalize u.drop (32*k)=bb at*;obtain⟨cl,cp⟩:=aB b9 aa;clear aa b9;have cr:=O aq;clear aq;generalize cQ:bb++ag.drop n'=cR at*;obtain⟨cw,a5,cy⟩:=aW an ax al;clear an ax al cQ;go_wp2_with (refine zA F _ _ _ _ F F F b4 underlying32 gu cr ct a8 ba cn (b_ _) ?_);intro bh E a4;rw[cy.out]at E;have bz:=E.frozen 96;have bx:=E.cell' (w_ 0 R (iV I (af+k)) a5);go_wp2;have a6:=E.set 96 (.int .i64 (n':Int));rw[Dz _ _ _ (iV I _) a5.out]at a6;obtain⟨ci,co⟩:=aB a6 (yB (A_ b' a4) 96 (.int .i64 (n':Int)));clear a6;refine bX F F ⟨F,⟨cR,a5,?_,?_⟩,co⟩
   ·have ab:(ac++u).length%32=n':=by rw[length_append,ad.out,ai.out];omega
    have a9:(ac++u).length / 32=af+k:=by rw[length_append,ad.out,ai.out];omega
    rw[ab,a9,cl.out];exact cw
   ·have ab:(ac++u).length%32=n':=by rw[length_append,ad.out,ai.out];omega
    have a9:(ac++u).length / 32=af+k:=by rw[length_append,ad.out,ai.out];omega
    rw[ab,a9];exact ci
theorem F6(w:World)(n:Nat)(hn:n<=140737488355328):(Instr.makeSlice 32 (.int .i64 (n:Int)) (.int .i64 (n:Int))).run prog w=
 .ok (.slice (some ⟨w.heap.size,0,none⟩) n n) (w.alloc (.cells ((List.replicate n (0:UInt8)).map Y).toArray 5)):=by
 obtain⟨E,j,u,hs,hb⟩:=info_parts xu;have h:=run_make (P:=prog) w 32 5 E (.int .u8 0) underlying32 j u .i64 .i64 n n J J (by rw[hb];omega) J;rw[h,hs];have:madeCells (Value.int .u8 0).cells ((n:Int).toNat*1)=((List.replicate n (0:UInt8)).map Y).toArray:=by
  have e:(Value.int .u8 0).cells= #[.int .u8 0]:=F;apply Array.ext
  ·simp[size_madeCells]
  ·intro i I R;simp[madeCells,e,Y,Nat.mod_one]
 rw[this];simp
theorem OW{ops:Array Oper}{rest:List Oper}{o:Oper}{a:Act}{w:World}{Q:Exit->Act->World->Prop}(u:o.guard=none)(x y:Operand)(E:o.op= .makeSlice 32 x y){n:Nat}
 (I:a.eval x= .int .i64 (n:Int))(R:a.eval y= .int .i64 (n:Int))(hn:n<=140737488355328)
 (h:wpList prog ops Q rest (a.put o.dst (.slice (some ⟨w.heap.size,0,none⟩) n n)) (w.alloc (.cells ((List.replicate n (0:UInt8)).map Y).toArray 5))):wpList prog ops Q (o::rest) a w:=
 wpList_plain u fun K j=>by
  unfold Oper.wp execOp;simp only[E,I,R,Result.andThen_ok,Sem.run_bind,Sem.run_pure,F6 w n hn];exact j _ _ h
theorem JC(s0 t b:aj)(j:Int)(g n c:Nat)(a:aN)(T:TypeId)(w:World)(hs:s0.length=64)(hb:b.length=n)
 (ai:lQ w g T s0 t j)(hn:n<=140737488355328)(aa:n<=c)(hc:c<=9223372036854775807)(u:a=none->n=0)(R:aK w a (b.map Y))(I:n=0∨∀x,a=some x->some x.block≠some g):
 Calls prog 267 #[.pointer (some ⟨g,0,none⟩),.slice a n c] w (FZ w g T s0 (t++b) j):=by
 obtain⟨r,ab,ad,E⟩:=ai;have ac:t.length=32*(t.length / 32)+t.length%32:=J;generalize an:t.length / 32=m at*;generalize am:t.length%32=h at*;have al:h<32:=J;by_cases af:h=0
 ·subst af;exact V9 s0 t b r j g m n c a T w hs ab hb J E hn aa hc u R I
 ·by_cases ag:h+n<32
  ·exact WC s0 t b r j g m h n c a T w hs ab hb ac J ag ad E aa hc u R I
  ·have ae:b.take (32 - h)++b.drop (32 - h)=b:=take_append_drop _ _;have:=WE s0 t (b.take (32 - h)) (b.drop (32 - h)) r j g m h n (n - (32 - h)) c a T w hs ab (by rw[length_drop,hb]) (by rw[length_take,hb];omega) ac J al J ad E aa hc u (by rw[ae];exact R) I;rwa[append_assoc,ae]at this
theorem WG{w w':World}{a:aN}{xs:aO}{r:Option Nat}{n:Nat}(h:aK w a xs)(j:xs.length=n)(k:w.grownBy w' r)(hn:n=0∨∀x,a=some x->some x.block≠r):aK w' a xs:=by
 rcases hn with rfl|hn
 ·exact .inl (length_eq_zero_iff.1 j)
 ·exact h.grown k hn
theorem WH{w0:World}{a:aN}{xs:aO}{n g:Nat}(h:aK w0 a xs)(aa:xs.length=n)(R:w0.heap.size<=g):n=0∨∀x,a=some x->some x.block≠some g:=by
 by_cases j:n=0
 ·exact .inl j
 ·refine .inr ?_;intro x u;obtain⟨b,off,rfl,hc⟩:=h.gQ J;cases u;have E:b<w0.heap.size:=block_lt_of_cell (hc 0 _ (List.getElem?_eq_getElem J));intro e;have I:b=g:=by injection e
  omega
abbrev vX:TypeId:=350
theorem OX:iH prog 350 98:=⟨⟨_,underlying350,F⟩,au⟩
theorem lQ.blk{w:World}{g:Nat}{T:TypeId}{s0 t:aj}{j:Int}(h:lQ w g T s0 t j):∃vs,vs.length=vs.length/\ah w g vs T:=by
 obtain⟨r,_,_,hb⟩:=h;exact⟨_,F,hb⟩
theorem lQ.lt{w:World}{g:Nat}{T:TypeId}{s0 t:aj}{j:Int}(h:lQ w g T s0 t j):g<w.heap.size:=by
 obtain⟨r,_,_,hb⟩:=h;exact hb.lt
theorem lQ.ext{w w':World}{g:Nat}{T:TypeId}{s0 t:aj}{j:Int}(h:lQ w g T s0 t j)(k:X w w'):lQ w' g T s0 t j:=by
 obtain⟨r,u,E,hb⟩:=h;exact⟨r,u,E,hb.ext k⟩
theorem lQ.grown{w w':World}{g:Nat}{T:TypeId}{s0 t:aj}{j:Int}{r:Option Nat}(h:lQ w g T s0 t j)(k:w.grownBy w' r)(hn:some g≠r):lQ w' g T s0 t j:=by
 obtain⟨r,u,E,hb⟩:=h;exact⟨r,u,E,hb.grown k hn⟩
def JD(w:World)(g:Nat)(T:TypeId)(s0 t b:aj)(j:Int)(e:Ending)(w':World):Prop:=
 if(b.length:Int)<=1048576 - j then e= .returned (.int .i64 0)/\lQ w' g T s0 (t++b) (j+b.length)/\w.grownBy w' (some g)
 else e= .returned (.int .i64 5)/\w=w'
theorem WI(s0 t b:aj)(j:Int)(g n c:Nat)(a:aN)(T:TypeId)(w:World)(hs:s0.length=64)(hb:b.length=n)(a1:0<=j)(a2:j<=1048576)
 (ar:lQ w g T s0 t j)(hn:n<=9223372036854775807)(az:n<=c)(hc:c<=9223372036854775807)(ae:a=none->n=0)(ag:aK w a (b.map Y))(af:n=0∨∀x,a=some x->some x.block≠some g):
 Calls prog 203 #[.pointer (some ⟨g,0,none⟩),.slice a n c] w (JD w g T s0 t b j):=by
 obtain⟨r,E,al,u⟩:=ar;unfold JD;rw[hb];obtain⟨R,aa,ap,am,I,ao,an,ab⟩:=jg hb E al ae af ag u hs;have aE:=u.cell' (Jp (t.length%32:Nat) j (iV hs _) E);have a0:=u.frozen 97;have k1:IntKind.i64.wrap (1048576 - j)=1048576 - j:=IntWalk.i64_in _ J;clear hb E al ae af ag u hs;by_cases ai:(n:Int)<=1048576 - j
 ·simp only[if_pos ai];have k2:IntKind.i64.wrap (j+n)=j+n:=IntWalk.i64_in _ J;have ax:decide ((1048576 - j)<(n:Int))=false:=aP J;go_enter func203,ntmps203;go_wp2_with fail;have ac:=an.set 97 (.int .i64 (j+n));rw[VL _ _ _ (iV ab _) aa.out]at ac;have aw:lQ (w.setCell ⟨g,97,none⟩ (.int .i64 (j+n))) g T s0 t (j+n):=⟨r,aa,ap,ac⟩;have ad:=yB (yA w (some g)) 97 (.int .i64 (j+n));generalize World.setCell w _ _=w2 at*;refine(JC s0 t b (j+n) g n c a T w2 ab R aw J az hc am (WG ao (by rw[length_map];exact R) ad I) I).mono ?_;rintro e a3 ⟨rfl,aq,g3⟩;go_wp2;go_ret;exact⟨F,aq,l9 ad g3⟩
 ·simp only[if_neg ai];have ax:decide ((1048576 - j)<(n:Int))=true:=aQ J;go_enter func203,ntmps203;go_wp2;go_ret;exact⟨F,F⟩
theorem WJ(s0 t:aj)(u:Int)(g:Nat)(T:TypeId)(w:World)(hs:s0.length=64)(ai:lQ w g T s0 t u):
 Calls prog 268 #[.pointer (some ⟨g,0,none⟩)] w fun e w'=>e= .returned (.pointer (some ⟨w.heap.size,0,none⟩))/\lQ w' w.heap.size vX s0 t u/\X w w':=by
 obtain⟨r,E,ab,R⟩:=ai;have aa:=Dy (t.length%32:Nat) u (iV (t:=t) hs (t.length / 32)) E;have ag:∀v∈sm (gZ s0 t (t.length / 32)) r (t.length%32:Nat) u,v.oneCell'=true:=by
  intro v j;unfold sm at j;simp only[mem_append,mem_cons,not_mem_nil,or_false]at j;rcases j with j|j|j|j
  ·exact b_ _ v j
  ·exact b_ _ v j
  ·rw[j];rfl
  ·rw[j];rfl
 obtain⟨ac,I,ad,ae⟩:=bU R aa E ab;clear R aa E ab;go_enter func268,ntmps268;go_wp2_with (first|(refine bV F _ _ F F ac OX I ?_)|(refine bg F _ _ _ F F F (ah.aI F F) OX F I ag ?_));intro w2 af al;have e2:=al.ext ((X.refl w).alloc _) bG;go_wp2;go_ret;exact⟨F,⟨r,ad,ae,af⟩,e2⟩
def lS(d:Int):aj:=(List.replicate 64 0).set 63 (UInt8.ofNat d.toNat)
theorem JE(d:Int):(lS d).length=64:=by simp[lS]
theorem WL:zeroCells350=(sm (List.replicate 64 0) (List.replicate 32 0) 0 0).toArray:=au
def F7(d:Int)(w:World)(e:Ending)(w':World):Prop:=
 if d<0∨255<d then e= .returned (.tuple #[.pointer none,.int .i64 3])/\w=w'
 else e= .returned (.tuple #[.pointer (some ⟨w.heap.size,0,none⟩),.int .i64 0])/\lQ w' w.heap.size vX (lS d) [] 0/\X w w'
theorem OY(d:Int)(w:World):
 Calls prog 202 #[.int .i64 d] w (F7 d w):=by
 unfold F7;by_cases j:d<0∨255<d
 ·simp only[if_pos j];by_cases u:d<0
  ·clear j;go_enter func202,ntmps202;go_wp2
   go_ret2
   exact⟨F,F⟩
  ·have E:255<d:=J;clear j;go_enter func202,ntmps202;go_wp2
   go_ret2
   exact⟨F,F⟩
 ·simp only[if_neg j];have u:¬d<0:=J;have E:¬255<d:=J;have R:IntKind.u8.wrap d=d:=IntWalk.u8_in _ J;clear j;go_enter func202,ntmps202;go_wp2
  go_ret2
  have I:zeroCells350.setIfInBounds 63 (.int .u8 d)=(sm (lS d) (List.replicate 32 0) 0 0).toArray:=by
   rw[WL,setIfInBounds_toArray]
   congr 1
   unfold sm lS;rw[set_append_left _ _ aF,map_set];have:Y (UInt8.ofNat d.toNat)= .int .u8 d:=by
    unfold Y;rw[UInt8.toNat_ofNat']
    congr 1
    omega
   rw[this]
  exact⟨F,⟨List.replicate 32 0,F,F,ah.aI F I.symm⟩,(X.refl w).alloc _⟩
def qx(t:aj):aj:=t++128::List.replicate (31 - t.length%32) 0
theorem OZ(t:aj):(qx t).length%32=0:=by
 unfold qx;rw[length_append,length_cons,length_replicate];omega
def lg(s t:aj)(n:Nat):aj:=qW (gZ s (qx t) ((qx t).length / 32)) (List.replicate 24 0++dG (UInt64.ofNat n))
theorem Bd(s t:aj)(n:Nat):(lg s t n).length=64:=Jo _ _
theorem O1{w w':World}(h:X w w')(r:Option Nat):w.grownBy w' r:=⟨h.os,h.tape,h.output,h.size,fun i j _=>h.block i j⟩
theorem JF{P:Program}{ops:Array Oper}{rest:List Oper}{o:Oper}{a:Act}{w:World}{Q:Exit->Act->World->Prop}(j:o.guard=none)(ty:TypeId)(x:Operand)(u:o.op= .load ty x){g off n:Nat}{vs xs:aO}{T:TypeId}
 (E:a.eval x= .pointer (some ⟨g,off,none⟩))(hb:ah w g vs T)(ht:iH P ty n)(hn:off+n<=vs.length)(I:(vs.drop off).take n=xs)
 (h:wpList P ops Q rest (a.put o.dst (.agg xs.toArray)) w):wpList P ops Q (o::rest) a w:=
 Jc j ty x u E hb ht hn (by rw[I];exact h)
theorem WM(s0 t:aj)(N:Nat)(g:Nat)(T:TypeId)(w:World)(hs:s0.length=64)(c6:N<=4611686018427387904)(cb:lQ w g T s0 t N):
 Calls prog 204 #[.pointer (some ⟨g,0,none⟩)] w fun e w'=>e= .returned (.agg ((lg s0 t N).map Y).toArray)/\X w w':=by
 obtain⟨ae,bx⟩:=aB hs cb;have c_:IntKind.u64.wrap (N:Int)=(N:Int):=IntWalk.u64_in _ J;have cF:((UInt64.ofNat N).toNat:Int)=N:=by rw[UInt64.toNat_ofNat'];omega
 have ce:=fun w=>Jj (UInt64.ofNat N) w;rw[cF]at ce;have ad:Hid (((lg s0 t N).map Y).length=64):=O (by rw[length_map,Bd]);have cs:Hid (lg s0 t N=qW (gZ s0 (qx t) ((qx t).length / 32)) (List.replicate 24 0++dG (UInt64.ofNat N))):=O F;have c7:=cb.lt;generalize lg s0 t N=j at*;generalize UInt64.ofNat N=u at*;clear hs cb cF;go_enter func204,ntmps204;go_wp2_with fail;generalize br:World.alloc w _=cl;have cG:ah cl w.heap.size (List.replicate 64 (.int .u8 0)) 77:=by rw[<-br];exact ah.aI F F
 have b6:X w cl:=by rw[<-br];exact(X.refl w).alloc _
 have cj:cl.heap.size=w.heap.size+1:=by rw[<-br];exact Array.size_push _
 clear br;refine(WJ s0 t N g T _ ae (bx.ext b6)).mono ?_;rintro e ap ⟨rfl,cC,b5⟩;obtain⟨cw,cq,bk⟩:=aW (cG.ext b5) (b6.ext b5) cC;rw[cj]at bk;rw[cj];have c0:w.heap.size+1<ap.heap.size:=bk.lt;clear cG b6 cj cC b5;go_wp2_with fail;generalize cg:World.alloc ap _=cm;have cH:ah cm ap.heap.size (([128]:aj).map Y) 5:=by rw[<-cg];exact ah.aI F F
 have bm:X ap cm:=by rw[<-cg];exact(X.refl ap).alloc _
 clear cg;refine(JC s0 t [128] N (w.heap.size+1) 1 1 (some ⟨ap.heap.size,0,none⟩) vX cm ae F (bk.ext bm) J bG J (by intro h;cases h) (aK.eG cH) (.inr (by intro x ci;cases ci;intro h;injection h with h;simp only at h;omega))).mono ?_;rintro e w2 ⟨rfl,b',b8⟩;have cz:=O1 bm (some (w.heap.size+1));obtain⟨bl,bj⟩:=aB ((cw.grown cz (by intro h;injection h with h;omega)).grown b8 (by intro h;injection h with h;omega)) ((cq.ext bm).grown b8 (by intro k hk;cases hk;omega));have c1:w.heap.size+1<w2.heap.size:=b'.lt;have aw:=O b';clear b' b8 cH bm cz cw bk cq c0;obtain⟨r,ag,cW,af⟩:=aw.out;have cy:=af.cell' (w_ _ N (iV ae _) ag);have cD:(t++[128]).length%32=(t.length+1)%32:=by rw[length_append];rfl
 rw[cD]at cy;have a8:qx t=(t++[128])++List.replicate (31 - t.length%32) 0:=by unfold qx;rw[append_assoc];rfl
 have c8:=OZ t;generalize cE:(t.length+1)%32=q at*;have cU:q=0∨(0<q/\32 - q=31 - t.length%32):=J;have c9:q<32:=J;clear ag cW af r cD;rcases cU with rfl|⟨cV,cf⟩
 ·have:31 - t.length%32=0:=J;rw[this,replicate_zero,append_nil]at a8;rw[<-a8]at aw;clear a8 this cE;obtain⟨r,ag, -,af⟩:=aw.out;obtain⟨cM,co⟩:=aB ag af;clear ag af;have b4:=fun o=>((bx.ext bj).ext ((X.refl w2).alloc o)).elim fun c2 a6=>a6.2.2.cell' (Jp _ N (iV ae _) a6.1);go_wp2_with fail;generalize ab:World.alloc w2 _=I;have bi:ah I w2.heap.size (List.replicate 32 (.int .u8 0)) 30:=by rw[<-ab];exact ah.aI F F
  have b7:X w2 I:=by rw[<-ab];exact(X.refl w2).alloc _
  have c3:I.heap.size=w2.heap.size+1:=by rw[<-ab];exact Array.size_push _
  clear ab b4;refine(ce _).mono ?_;rintro e be ⟨rfl,aa⟩;have cY:I.heap.size<=be.heap.size:=aa.size;go_wp2_with (refine bg F _ _ _ F F F (ah.aI F F) AZ F F (b_ _) ?_);intro bh a0 bd;have a2:X I bh:=bd.ext (aa.alloc _) aa.size;obtain⟨aE,aq,ai⟩:=aW (bi.ext a2) a0 (b7.ext a2);clear a0 bd aa bi;generalize be.heap.size=cQ at*;go_wp2;refine qV (C:=fun w'=>∃n,w'=bh.drewN n) 2 au au ⟨1,F⟩ ?_;simp only[take_succ_cons,take_zero,drop_succ_cons,drop_zero];iterate 2 quiet_step (fail)
  refine wpQuiet_nil ?_;rintro _ ⟨nq,rfl⟩;have ax:Hid (((dG u).map Y).length=8):=O (by rw[length_map,Bc]);have a9:fV (List.replicate 32 (.int .u8 0)) 24 ((dG u).map Y)=(List.replicate 24 0++dG u).map Y:=F;have az:=O a9;have ca:(List.replicate 24 0++dG u).length=32:=F;clear a9;generalize a4:(dG u).map Y=bc at*;have a7:∀v∈bc,v.oneCell'=true:=by rw[<-a4];exact b_ _
  clear a4;have ar:=O (aK.eG (aq.drewN (n:=nq)));go_wp2_with (refine zA F _ _ _ _ F F F (aE.drewN (n:=nq)) underlying32 gu ax F (fun e=>by cases e) ar aF a7 ?_);intro ac R ao;change ah ac _ (fV (List.replicate 32 (.int .u8 0)) 24 bc) _ at R;rw[az.out]at R;generalize cd:List.replicate 24 0++dG u=last at*;clear cd;have a3:w.heap.size+1≠w2.heap.size:=J;have bt:=O (((co.ext ai).drewN (n:=nq)).upd ao a3);have bz:Hid (∀i,i<32->ac.cell? ⟨w2.heap.size,0+i,none⟩=some (.int .u8 ((last[i]?.getD 0).toNat:Int))):=O fun i cS=>by
   rw[Nat.zero_add];exact R.cell' (zD J)
  have al:X w2 ac:=ao.ext (ai.drewN nq) bG;obtain⟨b1,bu⟩:=aB (bl.ext al) (bj.ext al);clear R ao al aE aq ai bl co ar ax az a7 ca;go_wp2_with fail;refine(Dw _ last _ (w.heap.size+1) w2.heap.size 0 vX ac (iV ae _) bt bz (.inl (Ne.symm a3))).mono ?_;rintro e c4 ⟨rfl,a1,am⟩;rw[<-cs.out]at a1;obtain⟨b2,bv⟩:=aB (b1.grown am (by intro h;injection h with h;omega)) (bu.grown am (by intro k hk;cases hk;omega));generalize r.map Y++[Value.int IntKind.i64 _,Value.int IntKind.i64 _]=an at*;have cc:0+64<=(j.map Y++an).length:=by rw[length_append,ad.out];omega
  have a_:((j.map Y++an).drop 0).take 64=j.map Y:=by rw[drop_zero,<-ad.out,take_left]
  generalize ba:j.map Y++an=vs at*;obtain⟨cN,b0⟩:=aB ba a_;have b9:=b_ j;clear ba am a_;generalize a5:j.map Y=cP at*;have bw:=O a5;clear a5;go_wp2_with (first|(refine JF F _ _ F F a1 jT cc b0 ?_)|refine bg F _ _ _ F F F b2 jT F ad b9 ?_);intro c5 b3 ck;go_wp2;refine gG F F b3 jT ad F ⟨by rw[bw.out],ck.ext bv bG⟩
 ·obtain⟨k,hk⟩:=aC (32 - q);have cX:IntKind.i64.wrap (32 - (q:Int))=(k:Int):=by rw[IntWalk.i64_in _ J];omega
  have cT:k<=32/\0<k:=J;rw[hk]at cf;obtain⟨cL,cv,ct⟩:=aW hk cf a8;clear hk cE cf a8;have cR:decide ((0:Int)<(q:Int))=true:=aQ J;go_wp2_with (refine OW F _ _ F (n:=k) F F J ?_);generalize ch:World.alloc w2 _=cn;have cI:ah cn w2.heap.size ((List.replicate (k) (0:UInt8)).map Y) 5:=by rw[<-ch];exact ah.aI F aF
  have bo:X w2 cn:=by rw[<-ch];exact(X.refl w2).alloc _
  clear ch;refine(JC s0 (t++[128]) (List.replicate (k) 0) N (w.heap.size+1) k k (some ⟨w2.heap.size,0,none⟩) vX cn ae (length_replicate ..) (aw.ext bo) J bG J (by intro h;cases h) (aK.eG cI) (.inr (by intro x ci;cases ci;intro h;injection h with h;simp only at h;omega))).mono ?_;rintro e E ⟨rfl,bp,g3⟩;rw[cv.out,<-ct.out]at bp;have cA:=O1 bo (some (w.heap.size+1));obtain⟨cx,cr⟩:=aB ((bl.grown cA (by intro h;injection h with h;omega)).grown g3 (by intro h;injection h with h;omega)) ((bj.ext bo).grown g3 (by intro k hk;cases hk;omega));have da:w.heap.size+1<E.heap.size:=bp.lt;have cJ:=O bp;clear bp g3 cI bo cA bl aw bj c1 cy cV cR cX cL cT cv ct;obtain⟨r,ag, -,af⟩:=cJ.out;obtain⟨cM,cp⟩:=aB ag af;clear ag af;have b4:=fun o=>((bx.ext cr).ext ((X.refl E).alloc o)).elim fun c2 a6=>a6.2.2.cell' (Jp _ N (iV ae _) a6.1);go_wp2_with fail;generalize ab:World.alloc E _=I;have bi:ah I E.heap.size (List.replicate 32 (.int .u8 0)) 30:=by rw[<-ab];exact ah.aI F F
  have b7:X E I:=by rw[<-ab];exact(X.refl E).alloc _
  have c3:I.heap.size=E.heap.size+1:=by rw[<-ab];exact Array.size_push _
  clear ab b4;refine(ce _).mono ?_;rintro e be ⟨rfl,aa⟩;have cY:I.heap.size<=be.heap.size:=aa.size;go_wp2_with (refine bg F _ _ _ F F F (ah.aI F F) AZ F F (b_ _) ?_);intro bh a0 bd;have a2:X I bh:=bd.ext (aa.alloc _) aa.size;obtain⟨aE,aq,ai⟩:=aW (bi.ext a2) a0 (b7.ext a2);clear a0 bd aa bi;generalize be.heap.size=cQ at*;go_wp2;refine qV (C:=fun w'=>∃n,w'=bh.drewN n) 2 au au ⟨1,F⟩ ?_;simp only[take_succ_cons,take_zero,drop_succ_cons,drop_zero];iterate 2 quiet_step (fail)
  refine wpQuiet_nil ?_;rintro _ ⟨nq,rfl⟩;have ax:Hid (((dG u).map Y).length=8):=O (by rw[length_map,Bc]);have a9:fV (List.replicate 32 (.int .u8 0)) 24 ((dG u).map Y)=(List.replicate 24 0++dG u).map Y:=F;have az:=O a9;have ca:(List.replicate 24 0++dG u).length=32:=F;clear a9;generalize a4:(dG u).map Y=bc at*;have a7:∀v∈bc,v.oneCell'=true:=by rw[<-a4];exact b_ _
  clear a4;have ar:=O (aK.eG (aq.drewN (n:=nq)));go_wp2_with (refine zA F _ _ _ _ F F F (aE.drewN (n:=nq)) underlying32 gu ax F (fun e=>by cases e) ar aF a7 ?_);intro ac R ao;change ah ac _ (fV (List.replicate 32 (.int .u8 0)) 24 bc) _ at R;rw[az.out]at R;generalize cd:List.replicate 24 0++dG u=last at*;clear cd;have a3:w.heap.size+1≠E.heap.size:=J;have bt:=O (((cp.ext ai).drewN (n:=nq)).upd ao a3);have bz:Hid (∀i,i<32->ac.cell? ⟨E.heap.size,0+i,none⟩=some (.int .u8 ((last[i]?.getD 0).toNat:Int))):=O fun i cS=>by
   rw[Nat.zero_add];exact R.cell' (zD J)
  have al:X E ac:=ao.ext (ai.drewN nq) bG;obtain⟨b1,bu⟩:=aB (cx.ext al) (cr.ext al);clear R ao al aE aq ai cx cp ar ax az a7 ca;go_wp2_with fail;refine(Dw _ last _ (w.heap.size+1) E.heap.size 0 vX ac (iV ae _) bt bz (.inl (Ne.symm a3))).mono ?_;rintro e c4 ⟨rfl,a1,am⟩;rw[<-cs.out]at a1;obtain⟨b2,bv⟩:=aB (b1.grown am (by intro h;injection h with h;omega)) (bu.grown am (by intro k hk;cases hk;omega));generalize r.map Y++[Value.int IntKind.i64 _,Value.int IntKind.i64 _]=an at*;have cc:0+64<=(j.map Y++an).length:=by rw[length_append,ad.out];omega
  have a_:((j.map Y++an).drop 0).take 64=j.map Y:=by rw[drop_zero,<-ad.out,take_left]
  generalize ba:j.map Y++an=vs at*;obtain⟨cN,b0⟩:=aB ba a_;have b9:=b_ j;clear ba am a_;generalize a5:j.map Y=cP at*;have bw:=O a5;clear a5;go_wp2_with (first|(refine JF F _ _ F F a1 jT cc b0 ?_)|refine bg F _ _ _ F F F b2 jT F ad b9 ?_);intro c5 b3 ck;go_wp2;refine gG F F b3 jT ad F ⟨by rw[bw.out],ck.ext bv bG⟩
theorem bY:iH prog 31 32:=⟨⟨_,underlying31,F⟩,au⟩
def dY(d:Int)(t:aj):aj:=(lg (lS d) t t.length).take 32
theorem j_(d:Int)(t:aj):(dY d t).length=32:=by rw[dY,length_take,Bd];rfl
theorem WO(s0 t:aj)(N:Nat)(g:Nat)(T:TypeId)(w:World)(hs:s0.length=64)(aw:N<=4611686018427387904)(aa:lQ w g T s0 t N):
 Calls prog 152 #[.pointer (some ⟨g,0,none⟩)] w fun e w'=>e= .returned (.agg (((lg s0 t N).take 32).map Y).toArray)/\X w w':=by
 have al:=O aa;have R:Hid (((lg s0 t N).map Y).length=64):=O (by rw[length_map,Bd]);have ai:Hid ((((lg s0 t N).map Y).drop 0).take 32=((lg s0 t N).take 32).map Y):=O (by rw[drop_zero,map_take]);have I:Hid ((((lg s0 t N).take 32).map Y).length=32):=O (by rw[length_map,length_take,Bd];rfl);have aq:=b_ (lg s0 t N);have ar:=b_ ((lg s0 t N).take 32);have ax:=fun w' (h:lQ w' g T s0 t N)=>WM s0 t N g T w' hs aw h;generalize az:((lg s0 t N).take 32).map Y=a1 at*;generalize (lg s0 t N).map Y=a0 at*;clear aa az;have ha:=AO (P:=prog) underlying31 (len:=32) (Nat.le_refl 32);go_enter func152,ntmps152;go_wp2_with fail;generalize E:World.alloc w _=ad;have ae:ah ad w.heap.size (List.replicate 32 (.int .u8 0)) 31:=by rw[<-E];exact ah.aI F F
 have u:X w ad:=by rw[<-E];exact(X.refl w).alloc _
 clear E;refine(ax _ (al.ext u)).mono ?_;rintro e ac ⟨rfl,j⟩;obtain⟨am,af⟩:=aB (ae.ext j) (u.ext j);clear ae u j;go_wp2_with (refine bg F _ _ _ F F F (ah.aI F F) jT F R aq ?_);intro w2 ao ab;have e2:X ac w2:=ab.ext ((X.refl ac).alloc _) bG;obtain⟨an,ag⟩:=aB (am.ext e2) (af.ext e2);clear e2 ab;go_wp2_with (first|(refine JF F _ _ F F ao bY (by rw[R.out];omega) ai ?_)|refine bg F _ _ _ F F F an bY F I ar ?_);intro a2 ap aE;go_wp2;refine gG F F ap bY I F ⟨F,aE.ext ag bG⟩
def JG(d:Int)(t:aj)(w:World)(e:Ending)(w':World):Prop:=
 (if d<0∨255<d then e= .returned (.tuple #[.pointer none,.int .i64 3])
 else if t.length<=1048576 then e= .returned (.tuple #[.pointer (some ⟨w.heap.size,0,none⟩),.int .i64 0])/\lQ w' w.heap.size vX (lS d) t t.length
 else e= .returned (.tuple #[.pointer none,.int .i64 5]))/\X w w'
theorem WQ(u:List AP)(d:Int)(g len bk:Nat)(w:World)(a4:u.length=len)(bz:len<=1000)
 (a3:∀i j,u[i]? =some j->w.cell? ⟨g,i,none⟩=some (nS j))(bm:g<w.heap.size)
 (hc:∀j∈u,aK w j.1 (j.2.2.map Y))(hn:∀j∈u,j.1=none->j.2.1=0)(ac:∀j∈u,j.2.2.length<=j.2.1)(I:∀j∈u,j.2.1<=9223372036854775807):
 Calls prog 151 #[.int .i64 d,.slice (some ⟨g,0,none⟩) len bk] w (JG d (fZ u) w):=by
 obtain⟨ar,ba,a6,bi,bj,a8⟩:=iq a4 a3 hc hn ac I;clear a4 a3 hc hn ac I;unfold JG;by_cases E:d<0∨255<d
 ·simp only[if_pos E];have al:=O E;clear E;go_enter func151,ntmps151;go_wp2_with fail;refine(OY d w).mono ?_;intro e bt h;unfold F7 at h;rw[if_pos al.out]at h;obtain⟨rfl,rfl⟩:=h;go_wp2
  go_ret2
  exact⟨F,X.refl _⟩
 ·simp only[if_neg E];have al:=O E;clear E;go_enter func151,ntmps151;go_wp2_with fail;refine(OY d w).mono ?_;intro e bt h;unfold F7 at h;rw[if_neg al.out]at h;obtain⟨rfl,az,aw⟩:=h;obtain⟨bc,a9⟩:=aB az aw;clear az aw;go_wp2;go_loopw [21] (fun x wr=>∃k:Nat,k<=len/\x= .int .i64 k/\Hid ((fZ (u.take k)).length<=1048576)/\Hid (lQ wr w.heap.size vX (lS d) (fZ (u.take k)) (fZ (u.take k)).length)/\Hid (X w wr))
   (fun x _=>len - (intOf x).toNat)
  case atStart=>exact⟨0,J,F,O (by simp[fZ]),O bc.out,a9⟩
  case round=>
   obtain⟨k,hk,rfl,an,ae,R⟩:=hrel;by_cases br:k<len
   ·have bv:decide ((k:Int)<(len:Int))=true:=aQ J;obtain⟨j,af⟩:∃j,u[k]? =some j:=⟨_,List.getElem?_eq_getElem (by rw[ar.out];exact br)⟩;have ab:j∈u:=mem_of_getElem? af;have bl:=(R.cell (p:=⟨g,k,none⟩) bm).trans (ba k j af);obtain⟨a,c,l⟩:=j;have ai:=JA af;simp only[nS]at bl;have ac:=bj.out _ ab;have I:=a8.out _ ab;simp only at ac I ai;obtain⟨ag,aq,bh⟩:=aW ai (a6 _ ab) (bi _ ab);have bw:(0:Int)<=(k:Int):=J;have bx:(k:Int)<(len:Int):=J;clear ai af ab;generalize aa:l.length=ao at*;generalize bu:fZ (u.take k)=ad at*;have a7:=O (JB u (k+1));go_wp2_with fail;refine(WI (lS d) ad l (ad.length:Nat) w.heap.size ao c a vX wr (JE d) aa J (by have:=an.out;omega) ae J ac I (fun e=>by have:=bh.out e;omega) (aq.ext R) (WH aq (by rw[length_map];exact aa) bG)).mono ?_;intro e w2 h;unfold JD at h;rw[aa]at h;by_cases am:(ao:Int)<=1048576 - (ad.length:Nat)
    ·rw[if_pos am]at h;obtain⟨rfl,aE,ax⟩:=h;obtain⟨bd,a_⟩:=aB aE (R.grown ax (by intro b0 bo;cases bo;exact Nat.le_refl _));have a2:(ad++l).length=ad.length+ao:=by rw[length_append,aa]
     have ap:=O a2;clear aE ax a2;go_wp2;go_roundw
     case rel=>
      refine⟨k+1,J,by go_num,O ?_,O ?_,a_⟩
      ·rw[ag.out,ap.out];omega
      ·rw[ag.out,ap.out,Int.natCast_add];exact bd
     case measure=>simp[intOf];omega
    ·rw[if_neg am]at h;obtain⟨rfl,rfl⟩:=h;have a0:¬(fZ u).length<=1048576:=by
      have:=a7.out;rw[ag.out,length_append,aa]at this;omega
     have a5:=O a0;clear a0 am;go_wp2
     go_ret2
     refine⟨?_,R⟩;first|rfl|(rw[if_neg a5.out];rfl)
   ·have bp:k=len:=J;subst bp;have a1:fZ (u.take k)=fZ u:=by rw[take_of_length_le (by rw[ar.out];exact Nat.le_refl _)]
    rw[a1]at an ae;have be:Hid ((fZ u).length<=1048576):=an;clear a1;go_wp2
    go_ret2
    refine⟨?_,R⟩;first|exact⟨F,ae⟩|(rw[if_pos be.out];exact⟨F,ae⟩)
theorem WR(N i:Nat)(I:N<18446744073709551616)(R:i<8):((((dG (UInt64.ofNat N))[i]?.getD 0).toNat:Nat):Int)=(N:Int) / 2^(56 - 8*i)%256:=by
 have E:(UInt64.ofNat N).toNat=N:=by rw[UInt64.toNat_ofNat'];omega
 unfold dG;rw[E];have j:(UInt32.ofNat (N / 4294967296)).toNat=N / 4294967296%4294967296:=UInt32.toNat_ofNat' ..;have u:(UInt32.ofNat N).toNat=N%4294967296:=UInt32.toNat_ofNat' ..;rcases(by omega:i=0∨i=1∨i=2∨i=3∨i=4∨i=5∨i=6∨i=7)with rfl|rfl|rfl|rfl|rfl|rfl|rfl|rfl
 all_goals
  simp only[gq,j,u,cons_append,nil_append,List.getElem?_cons_zero,List.getElem?_cons_succ,Option.getD_some,Oa];simp;try omega
theorem DN(N:Nat)(w:World)(al:N<=4611686018427387904):
 Calls prog 107 #[.int .i64 (N:Int)] w fun e w'=>e= .returned (.slice (some ⟨w.heap.size,0,none⟩) 8 8)/\ah w' w.heap.size ((dG (UInt64.ofNat N)).map Y) 5/\X w w':=by
 have an:=fun w=>F6 w 8 J;obtain⟨f,hf⟩:=aC ((fun i=>(dG (UInt64.ofNat N))[i]?.getD 0):Nat->UInt8);have R:dG (UInt64.ofNat N)=jP (fun i=>(dG (UInt64.ofNat N))[i]?.getD 0) 0 8 8:=by
  rw[FB _ _ _ _ bG];rfl
 have E:=O R;have ae:∀i,i<8->(N:Int) / 2^(56 - 8*i)%256=((f i).toNat:Int):=fun i I=>by rw[<-hf,WR N i J I]
 rw[hf]at E;clear R hf;generalize dG (UInt64.ofNat N)=aq at*;go_enter func107,ntmps107;go_wp2_with (refine OW F _ _ F (n:=8) F F J ?_);generalize u:World.alloc w _=ac;have af:ah ac w.heap.size ((jP f 0 8 0).map Y) 5:=by rw[<-u];exact ah.aI F (by rw[Fz];simp)
 have ad:X w ac:=by rw[<-u];exact(X.refl w).alloc _
 clear u;go_loopw [8] (fun x wr=>∃i:Nat,i<=8/\x= .int .i64 i/\ah wr w.heap.size ((jP f 0 8 i).map Y) 5/\X w wr)
  (fun x _=>8 - (intOf x).toNat)
 case atStart=>exact⟨0,J,F,af,ad⟩
 case round=>
  obtain⟨i,I,rfl,j,ab⟩:=hrel;by_cases aa:i<8
  ·have am:decide ((i:Int)<8)=true:=aQ J;have ar:=ae i aa;have ag:=j.cell' (i:=i) (zD (by rw[sD];exact aa));have ai:=j.frozen i;have ao:(0:Int)<=(i:Int):=J;have ap:(i:Int)<8:=J;have k1:IntKind.i64.wrap (8*(i:Int))=8*(i:Int):=IntWalk.i64_in _ J;have k2:IntKind.i64.wrap (56 - 8*(i:Int))=((56 - 8*i:Nat):Int):=by rw[IntWalk.i64_in _ J];omega
   go_wp2;go_roundw
   case rel=>exact⟨i+1,J,by go_num,j.NT,ab.set _ bG⟩
   case measure=>simp[intOf];omega
  ·obtain rfl:i=8:=J;go_wp2;go_ret;exact⟨F,by rw[E.out];exact j,ab⟩
end Go.Proofs.YtjlhhnkhcbpnjaaGreatDoor
