/- Laws that the row leans on; no condition. -/
import Derived.Test.YtjlhhnkhcbpnjaaGreatDoorJM1
import Derived.Lib.Bytealg
import Derived.Shelf.GgSortFunc.InsertionK
import Derived.Sort.Statements
import Derived.Laws.BytesArg
import Derived.Laws.OwnMore
import Derived.Lib.Walk
import Derived.Lib.SliceRun
import Derived.Lib.AppendZerosOnto
import Derived.Laws.AppendOwnNone
import Derived.Laws.MakeOwn
import Derived.Laws.ResultCell
import Derived.Stop.BytesEq
import Derived.Deep.DeepCutAuto
import Derived.Deep.CutBlock
namespace Go.Proofs.YtjlhhnkhcbpnjaaGreatDoor
open Go Go.RowKit List Tryz
set_option linter.unusedVariables false
set_option linter.unusedSimpArgs false
set_option maxHeartbeats 40000000
set_option maxRecDepth 100000
theorem VW(s:ByteArray)(i:Nat)(c:UInt8)(h:s.data[i]? =some c)(w:World):(Instr.index 9 (.string s) (.int .i64 (i:Int))).run prog w= .ok (.int .u8 (c.toNat:Int)) w:=by
 have j:s[i]? =some c:=by
  have u:i<s.size:=(Array.getElem?_eq_some_iff.1 h).1;rw[getElem?_pos s i u];have:=(Array.getElem?_eq_some_iff.1 h).2;exact congrArg some this
 simp[Instr.index,asIntOf,run_underlying underlying9,j]
theorem Oq(s:ByteArray)(w:World)(hn:s.size<=140737488355328):
 Br 277 #[.string s] w (.bool (jK s.data.toList)):=by
 obtain⟨n,bp⟩:=aC s.size;have bh:s.data.toList.length=n:=by rw[<-bp,Array.length_toList];rfl
 obtain⟨aw,aE⟩:=aC (jK s.data.toList);rw[aE];unfold jK at aE;obtain⟨a3,ag⟩:=aB aE bh;have bc:∀i:Nat,s.data[i]? =s.data.toList[i]? :=fun i=>by rw[Array.getElem?_toList]
 have ar:=O bc;clear aE bh bc;go_enter func277,ntmps277;go_wp2;go_loopw [3] (fun x wr=>∃i:Nat,i<=n/\x= .int .i64 i/\Hid ((s.data.toList.take i).all jl=true)/\Hid (w=wr))
  (fun x _=>n - (intOf x).toNat)
 case atStart=>exact⟨0,J,F,O aF,O F⟩
 case round=>
  obtain⟨i,bw,rfl,om,E⟩:=hrel;by_cases j3:i<n
  ·have bv:decide ((i:Int)<(n:Int))=true:=aQ J;obtain⟨c,hc⟩:∃c,s.data.toList[i]? =some c:=⟨_,List.getElem?_eq_getElem (by rw[ag.out];exact j3)⟩;have be:=fun w=>VW s i c (by rw[ar.out];exact hc) w;have bl:=c.toNat_lt;have Cr:(s.data.toList.take (i+1)).all jl=jl c:=by
    rw[take_add_one,hc,all_append,om.out];simp
   have bd:jl c=false->aw=false:=by
    intro hf;have bo:=mem_of_getElem? hc;have:s.data.toList.all jl=false:=by
     rw[all_eq_false];exact⟨c,bo,by rw[hf];simp⟩
    rw[<-a3.out,this];rfl
   obtain⟨nA,a2⟩:=aB Cr bd;obtain⟨C,az⟩:=aC c.toNat;rw[az]at be bl;obtain⟨bu,R⟩:=aB az be;have bi:∀b,jl c=b↔((decide (97<=C)&&decide (C<=122))||(decide (48<=C)&&decide (C<=57))||C==45||C==46||C==95)=b:=by
    intro b;unfold jl;rw[az]
   have aa:=O bi;clear Cr bd az bi hc;have bx:(0:Int)<=(i:Int):=J;have bz:(i:Int)<(n:Int):=J;rcases(by omega:(97<=C/\C<=122)∨122<C∨(48<=C/\C<=57)∨C=95∨(57<C/\C<97/\¬C=95)∨C=45∨C=46∨(C<48/\¬C=45/\¬C=46))with h|h|h|h|h|h|h|h
   ·have j:jl c=true:=(aa true).2 (by simp;omega);have I:=O j;clear j;have ae:decide (97<=(C:Int))=true:=by simp;omega
    have af:decide (97<=C)=true:=by simp;omega
    have br:decide ((C:Int)<=122)=true:=by simp;omega
    have bt:decide (C<=122)=true:=by simp;omega
    clear h;have ad:=R.out;go_wp2;go_roundw
    case rel=>exact⟨i+1,J,by go_num,O (by rw[nA.out,I.out]),E⟩
    case measure=>simp[intOf];omega
   ·have j:jl c=false:=(aa false).2 (by simp;omega);have ab:=a2.out j;have u:=O ab;clear j ab;have ae:decide (97<=(C:Int))=true:=by simp;omega
    have af:decide (97<=C)=true:=by simp;omega
    have br:decide ((C:Int)<=122)=false:=by simp;omega
    have bt:decide (C<=122)=false:=by simp;omega
    have am:decide (48<=(C:Int))=true:=by simp;omega
    have an:decide (48<=C)=true:=by simp;omega
    have a6:decide ((C:Int)<=57)=false:=by simp;omega
    have a7:decide (C<=57)=false:=by simp;omega
    have ap:((C:Int)==45)=false:=by simp;omega
    have aq:decide ((C:Int)=45)=false:=by simp;omega
    have a0:((C:Int)==46)=false:=by simp;omega
    have a1:decide ((C:Int)=46)=false:=by simp;omega
    have a8:((C:Int)==95)=false:=by simp;omega
    have a9:decide ((C:Int)=95)=false:=by simp;omega
    clear h;have ad:=R.out;go_wp2;go_ret;exact⟨by rw[u.out];rfl,E⟩
   ·have j:jl c=true:=(aa true).2 (by simp;omega);have I:=O j;clear j;have ae:decide (97<=(C:Int))=false:=by simp;omega
    have af:decide (97<=C)=false:=by simp;omega
    have am:decide (48<=(C:Int))=true:=by simp;omega
    have an:decide (48<=C)=true:=by simp;omega
    have a6:decide ((C:Int)<=57)=true:=by simp;omega
    have a7:decide (C<=57)=true:=by simp;omega
    clear h;have ad:=R.out;go_wp2;go_roundw
    case rel=>exact⟨i+1,J,by go_num,O (by rw[nA.out,I.out]),E⟩
    case measure=>simp[intOf];omega
   ·have j:jl c=true:=(aa true).2 (by simp;omega);have I:=O j;clear j;have ae:decide (97<=(C:Int))=false:=by simp;omega
    have af:decide (97<=C)=false:=by simp;omega
    have am:decide (48<=(C:Int))=true:=by simp;omega
    have an:decide (48<=C)=true:=by simp;omega
    have a6:decide ((C:Int)<=57)=false:=by simp;omega
    have a7:decide (C<=57)=false:=by simp;omega
    have ap:((C:Int)==45)=false:=by simp;omega
    have aq:decide ((C:Int)=45)=false:=by simp;omega
    have a0:((C:Int)==46)=false:=by simp;omega
    have a1:decide ((C:Int)=46)=false:=by simp;omega
    have a8:((C:Int)==95)=true:=by simp;omega
    have a9:decide ((C:Int)=95)=true:=by simp;omega
    clear h;have ad:=R.out;go_wp2;go_roundw
    case rel=>exact⟨i+1,J,by go_num,O (by rw[nA.out,I.out]),E⟩
    case measure=>simp[intOf];omega
   ·have j:jl c=false:=(aa false).2 (by simp;omega);have ab:=a2.out j;have u:=O ab;clear j ab;have ae:decide (97<=(C:Int))=false:=by simp;omega
    have af:decide (97<=C)=false:=by simp;omega
    have am:decide (48<=(C:Int))=true:=by simp;omega
    have an:decide (48<=C)=true:=by simp;omega
    have a6:decide ((C:Int)<=57)=false:=by simp;omega
    have a7:decide (C<=57)=false:=by simp;omega
    have ap:((C:Int)==45)=false:=by simp;omega
    have aq:decide ((C:Int)=45)=false:=by simp;omega
    have a0:((C:Int)==46)=false:=by simp;omega
    have a1:decide ((C:Int)=46)=false:=by simp;omega
    have a8:((C:Int)==95)=false:=by simp;omega
    have a9:decide ((C:Int)=95)=false:=by simp;omega
    clear h;have ad:=R.out;go_wp2;go_ret;exact⟨by rw[u.out];rfl,E⟩
   ·have j:jl c=true:=(aa true).2 (by simp;omega);have I:=O j;clear j;have ae:decide (97<=(C:Int))=false:=by simp;omega
    have af:decide (97<=C)=false:=by simp;omega
    have am:decide (48<=(C:Int))=false:=by simp;omega
    have an:decide (48<=C)=false:=by simp;omega
    have ap:((C:Int)==45)=true:=by simp;omega
    have aq:decide ((C:Int)=45)=true:=by simp;omega
    clear h;have ad:=R.out;go_wp2;go_roundw
    case rel=>exact⟨i+1,J,by go_num,O (by rw[nA.out,I.out]),E⟩
    case measure=>simp[intOf];omega
   ·have j:jl c=true:=(aa true).2 (by simp;omega);have I:=O j;clear j;have ae:decide (97<=(C:Int))=false:=by simp;omega
    have af:decide (97<=C)=false:=by simp;omega
    have am:decide (48<=(C:Int))=false:=by simp;omega
    have an:decide (48<=C)=false:=by simp;omega
    have ap:((C:Int)==45)=false:=by simp;omega
    have aq:decide ((C:Int)=45)=false:=by simp;omega
    have a0:((C:Int)==46)=true:=by simp;omega
    have a1:decide ((C:Int)=46)=true:=by simp;omega
    clear h;have ad:=R.out;go_wp2;go_roundw
    case rel=>exact⟨i+1,J,by go_num,O (by rw[nA.out,I.out]),E⟩
    case measure=>simp[intOf];omega
   ·have j:jl c=false:=(aa false).2 (by simp;omega);have ab:=a2.out j;have u:=O ab;clear j ab;have ae:decide (97<=(C:Int))=false:=by simp;omega
    have af:decide (97<=C)=false:=by simp;omega
    have am:decide (48<=(C:Int))=false:=by simp;omega
    have an:decide (48<=C)=false:=by simp;omega
    have ap:((C:Int)==45)=false:=by simp;omega
    have aq:decide ((C:Int)=45)=false:=by simp;omega
    have a0:((C:Int)==46)=false:=by simp;omega
    have a1:decide ((C:Int)=46)=false:=by simp;omega
    have a8:((C:Int)==95)=false:=by simp;omega
    have a9:decide ((C:Int)=95)=false:=by simp;omega
    clear h;have ad:=R.out;go_wp2;go_ret;exact⟨by rw[u.out];rfl,E⟩
  ·have bm:i=n:=J;subst bm;have ba:s.data.toList.all jl=true:=by
    have:=om.out;rwa[take_of_length_le (by rw[ag.out];exact Nat.le_refl _)]at this
   have a5:=a3.out;rw[ba,ag.out]at a5;clear ba;have u:=O a5;clear a5 a3;have al:s.toList=s.data.toList:=ByteArray.toList_eq s;by_cases ai:s.data.toList=[]
   ·have a_:s.toList=[]:=by rw[al,ai]
    have ac:aw=false:=by rw[<-u.out,ai];rfl
    have ao:=O ac;clear ac al ai u ag ar om;go_wp2;go_ret;exact⟨by rw[ao.out];rfl,E⟩
   ·have a_:¬s.toList=[]:=by rw[al];exact ai
    have bk:s.toList.isEmpty=false:=by
     cases h:s.toList.isEmpty with
     |false=>rfl
     |true=>exact absurd (isEmpty_iff.1 h) a_
    have ax:s.data.toList.isEmpty=false:=by rw[<-al];exact bk
    by_cases nE:i<=32
    ·have bj:decide ((i:Int)<=32)=true:=aQ J;have a4:decide (i<=32)=true:=aQ nE;have ac:aw=true:=by rw[<-u.out,ax,a4];rfl
     have ao:=O ac;clear ac al ai ax u ag ar om;go_wp2;go_ret;exact⟨by rw[ao.out];rfl,E⟩
    ·have bj:decide ((i:Int)<=32)=false:=aP J;have a4:decide (i<=32)=false:=aP nE;have ac:aw=false:=by rw[<-u.out,ax,a4];rfl
     have ao:=O ac;clear ac al ai ax u ag ar om;go_wp2;go_ret;exact⟨by rw[ao.out];rfl,E⟩
def iI(n:Int):Bool:=decide (1<=n)&&decide (n<=12)
theorem Ot(n:Int)(w:World):
 Br 205 #[.int .i64 n] w (.bool (iI n)):=by
 by_cases h:1<=n
 ·have j:decide (1<=n)=true:=aQ h;go_enter func205,ntmps205;go_wp2;go_ret;exact⟨by unfold iI;first|rfl|(rw[j];rfl),F⟩
 ·have j:decide (1<=n)=false:=aP h;go_enter func205,ntmps205;go_wp2;go_ret;exact⟨by unfold iI;first|rfl|(rw[j];rfl),F⟩
def ng:Option ByteArray->aT->Int
 |_,[]=>0
 |p,s::t=>if jK s.data.toList then(if p.all fun q=>qY q s then ng (some s) t else 9)else 6
def vV(ls:aT):Int:=ng none ls
def pz(ls:aT):Nat->Option ByteArray
 |0=>none
 |j+1=>ls[j]?
theorem Ou{ls:aT}{k:Nat}{x:ByteArray}(j:ls[k]? =some x):
 ng (pz ls k) (ls.drop k)=if jK x.data.toList then(if(pz ls k).all fun q=>qY q x then ng (pz ls (k+1)) (ls.drop (k+1))else 9)else 6:=by grind [ng,pz,jK,List.getElem?_eq_some_iff,drop_eq_getElem_cons]
theorem Ov{ls:aT}{k:Nat}(h:ls.length<=k)(p:Option ByteArray):ng p (ls.drop k)=0:=by
 rw[drop_eq_nil_of_le h];cases p<;>rfl
theorem VX(ls:aT)(a:aN)(n c:Nat)(w:World)(hn:ls.length=n)(Cw:n<=4611686018427387904)(hs:∀s∈ls,s.size<=140737488355328)(aw:aK w a (ls.map bM)):
 nW 276 #[.slice a n c] w (.int .i64 (vV ls)):=by
 obtain⟨ad,an,az⟩:=aW hn aw hs;obtain⟨aa,ag⟩:=aC (vV ls);rw[ag];have ap:ng (pz ls 0) (ls.drop 0)=aa:=ag;clear hn aw hs ag;go_enter func276,ntmps276;go_wp2;go_loopw [7] (fun i wr=>∃k:Nat,k<=n/\i= .int .i64 (k:Int)/\ng (pz ls k) (ls.drop k)=aa/\X w wr) (fun i _=>n - (intOf i).toNat)
 case atStart=>exact⟨0,J,F,ap,X.refl _⟩
 case round=>
  obtain⟨k,hk,rfl,ou,ao⟩:=hrel;have u:=O ao;clear ao ap;by_cases j3:k<n
  ·have aE:decide ((k:Int)<(n:Int))=true:=aQ J;have a0:decide (k<n)=true:=aQ j3;obtain⟨x,pQ⟩:∃x,ls[k]? =some x:=⟨ls[k]'(by rw[ad.out];exact j3),aF⟩;rw[Ou pQ]at ou;obtain⟨A,rfl,Fu⟩:=zC an pQ;obtain⟨ac,I⟩:=aB (gW Fu u) (Oq x wr (az x (mem_of_getElem? pQ)));clear Fu;cases tL:jK x.data.toList with
   |false=>
    rw[tL]at I ou;have R:=O ou;clear ou pQ;go_wp2_with (first|(refine jU F (fP (i:=k) F F F underlying98 tV j3 _) ?_)|(refine jU F (kT F F ac oO) ?_));refine I.mono ?_;rintro e w2 ⟨rfl,rfl⟩;go_wp2_with fail;go_ret;exact⟨by rw[<-R.out];rfl,u⟩
   |true=>
    rw[tL]at I ou;simp only[if_true]at ou;cases k with
    |zero=>
     have ar:ng (pz ls 1) (ls.drop 1)=aa:=ou;have R:=O ar;clear ar ou pQ;go_wp2_with (first|(refine jU F (fP (i:=0) F F F underlying98 tV j3 _) ?_)|(refine jU F (kT F F ac oO) ?_));refine I.mono ?_;rintro e w2 ⟨rfl,rfl⟩;go_wp2_with fail;go_roundw
     case rel=>exact⟨1,J,by go_num,R,u⟩
     case measure=>simp[intOf];omega
    |succ j=>
     obtain⟨q,ai⟩:∃q,ls[j]? =some q:=⟨ls[j]'(by rw[ad.out];omega),aF⟩;obtain⟨a3,af,oz⟩:=zC an ai;injection af with af;subst af;have ax:=O (gW oz u);have aq:(if qY q x=true then ng (pz ls (j+2)) (ls.drop (j+2))else 9)=aa:=by
      rw[show pz ls (j+1)=some q from ai]at ou;exact ou
     obtain⟨am,al⟩:=aB aq (Oo q x);have a2:j<n:=J;have a5:IntKind.i64.wrap (((j+1:Nat):Int) - 1)=(j:Int):=by rw[IntWalk.i64_in _ J];omega
     have a4:decide ((0:Int)<((j+1:Nat):Int))=true:=aQ J;clear oz ai ou pQ aq;go_wp2_with (first|(refine jU F (fP (i:=j+1) F F F underlying98 tV j3 _) ?_)|(refine jU F (kT F F ac oO) ?_));refine I.mono ?_;rintro e w2 ⟨rfl,rfl⟩;go_wp2_with (first|(refine jU F (fP (i:=j) F F F underlying98 tV a2 _) ?_)|(refine jU F (kT F F ax oO) ?_))
     ·rename_i ab;have Cy:qY q x=false:=by
       have E:=al.out;rcases ab with ae|ae
       ·rw[ae]at E;simpa using E.symm
       ·rw[ae]at E;simpa using E.symm
      go_ret;exact⟨by rw[<-am.out,Cy];rfl,u⟩
     ·rename_i ab;have Cy:qY q x=true:=by
       have E:=al.out;rw[ab.1,ab.2]at E;simpa using E.symm
      have a1:ng (pz ls (j+2)) (ls.drop (j+2))=aa:=by have:=am.out;rw[Cy]at this;simpa using this
      go_roundw
      case rel=>exact⟨j+2,J,by go_num,a1,u⟩
      case measure=>simp[intOf];omega
  ·have aE:decide ((k:Int)<(n:Int))=false:=aP J;have a0:decide (k<n)=false:=aP j3;rw[Ov (by rw[ad.out];omega)]at ou;have R:=O ou;clear ou;go_wp2;go_ret;exact⟨by rw[<-R.out];rfl,u⟩
section
open Go Go.Lib
abbrev eH:=Lib.compareBytes
theorem Js:∀x:aj,eH x x=0
 |[]=>rfl
 |a::ar=>by
  unfold eH Lib.compareBytes;rw[if_neg (UInt8.lt_irrefl a),if_neg (UInt8.lt_irrefl a)];exact Js ar
theorem Jt:∀x y:aj,eH y x= - eH x y
 |[],[]=>rfl
 |[],_::_=>rfl
 |_::_,[]=>rfl
 |a::E,b::bs=>by
  have ih:=Jt E bs;unfold eH Lib.compareBytes at ih⊢;by_cases j:a<b
  ·have u:¬b<a:=UInt8.lt_asymm j;simp[j,u]
  ·by_cases u:b<a
   ·simp[j,u]
   ·simp only[j,u,if_false];unfold Lib.compareBytes;cases E<;>cases bs<;>simp_all [Lib.compareBytes]
theorem Ox:∀{x y:aj},eH x y=0->x=y
 |[],[],_=>rfl
 |[],_::_,h=>by simp[eH,Lib.compareBytes]at h
 |_::_,[],h=>by simp[eH,Lib.compareBytes]at h
 |a::ar,b::bs,h=>by
  unfold eH at h;unfold Lib.compareBytes at h;by_cases h1:a<b
  ·rw[if_pos h1]at h;cases h
  ·by_cases h2:b<a
   ·rw[if_neg h1,if_pos h2]at h;cases h
   ·rw[if_neg h1,if_neg h2]at h;have e1:a=b:=UInt8.le_antisymm (UInt8.not_lt.1 h2) (UInt8.not_lt.1 h1);rw[e1,Ox h]
theorem Oy:∀x y:aj,eH x y= -1∨eH x y=0∨eH x y=1
 |[],[]=> .inr (.inl F)
 |[],_::_=> .inl F
 |_::_,[]=> .inr (.inr F)
 |a::ar,b::bs=>by
  unfold eH Lib.compareBytes;split
  ·exact .inl F
  ·split
   ·exact .inr (.inr F)
   ·exact Oy ar bs
theorem Oz:∀{x y z:aj},eH x y<0->eH y z<0->eH x z<0
 |[],[],_,h,_=>by simp[eH,Lib.compareBytes]at h
 |_,_::_,[],_,h=>by simp[eH,Lib.compareBytes]at h
 |[],_::_,_::_,_,_=>by simp[eH,Lib.compareBytes]
 |_::_,[],_,h,_=>by simp[eH,Lib.compareBytes]at h
 |a::ar,b::bs,c::cs,h1,h2=>by
  unfold eH at h1 h2⊢;unfold Lib.compareBytes at h1 h2⊢;by_cases p1:a<b
  ·by_cases q1:b<c
   ·rw[if_pos (UInt8.lt_trans p1 q1)];decide
   ·by_cases q2:c<b
    ·rw[if_neg q1,if_pos q2]at h2;exact absurd h2 aX
    ·have e:b=c:=UInt8.le_antisymm (UInt8.not_lt.1 q2) (UInt8.not_lt.1 q1);rw[<-e,if_pos p1];decide
  ·by_cases j:b<a
   ·rw[if_neg p1,if_pos j]at h1;exact absurd h1 aX
   ·have e:a=b:=UInt8.le_antisymm (UInt8.not_lt.1 j) (UInt8.not_lt.1 p1);rw[if_neg p1,if_neg j]at h1;subst e;by_cases q1:a<c
    ·rw[if_pos q1];decide
    ·by_cases q2:c<a
     ·rw[if_neg q1,if_pos q2]at h2;exact absurd h2 aX
     ·rw[if_neg q1,if_neg q2]at h2⊢;exact Oz h1 h2
def qp(x y:aj):Bool:=decide (eH x y<0)
theorem Ju(x:aj):qp x x=false:=by unfold qp;rw[Js];rfl
theorem FT{x y z:aj}(h1:qp x y=true)(h2:qp y z=true):qp x z=true:=by grind [qp,Oz]
theorem VY(x y:aj):qp x y=true∨x=y∨qp y x=true:=by grind [qp,Jt,Oy,Ox]
theorem Jv{x y z:aj}(j:qp x y=false)(u:qp y z=false):qp x z=false:=by grind [VY,FT]
end
section
open Go Go.RowKit Go.Sort
structure VZ where
 l:aj
 h:l.length=32
instance:Inhabited VZ:=⟨⟨List.replicate 32 0,aF⟩⟩
end
section
open Go Go.RowKit
section
variable {P:Program} {ops:Array Oper} {Q:Exit->Act->World->Prop} {C:World->Prop}
def aej(P:Program)(C:World->Prop)(w:World)(v:Value):Result Next->Prop
 | .ok (.value u) w'=>w'=w/\u=v
 | .ok .skip w'=>w'=w/\v=undef
 | .ok (.enter f E) w'=>w'=w/\Calls P f E w (fun e j=>e= .returned v/\C j/\X w j)
 |_=>False
end
attribute [go_sem] aej
end
theorem sG(w:World)(r:Option Nat):w.grownBy w r:=⟨F,F,F,Nat.le_refl _,fun _ _ _=>rfl⟩
theorem xk{w j w2:World}{r:Option Nat}(h:w.grownBy j r)(e:X j w2):w.grownBy w2 r:=
 ⟨e.os.trans h.os,e.tape.trans h.tape,e.output.trans h.output,Nat.le_trans h.size e.size,fun k hk hn=>(e.block k (Nat.lt_of_lt_of_le hk h.size)).trans (h.block k hk hn)⟩
theorem FU{w j w2:World}{g:Nat}(h:w.grownBy j (some g))(u:aU j g w2):w.grownBy w2 (some g):=
 ⟨u.os.trans h.os,u.tape.trans h.tape,u.output.trans h.output,by rw[u.size];exact h.size,fun k hk hn=>(u.block k (fun e=>hn (by rw[e]))).trans (h.block k hk hn)⟩
theorem DI{w j w2:World}{g:Nat}{r:Option Nat}(h:w.grownBy j r)(u:aU j g w2)(E:w.heap.size<=g):w.grownBy w2 r:=
 ⟨u.os.trans h.os,u.tape.trans h.tape,u.output.trans h.output,by rw[u.size];exact h.size,fun k hk hn=>(u.block k J).trans (h.block k hk hn)⟩
def qw(w:World)(g:Nat)(a:aN)(xs:aO):Prop:=xs=[]∨∃b off,a=some ⟨b,off,none⟩/\b≠g/\∀i u,xs[i]? =some u->w.cell? ⟨b,off+i,none⟩=some u
theorem qw.cells{w:World}{g:Nat}{a:aN}{xs:aO}(h:qw w g a xs):aK w a xs:=by grind [qw,aK]
theorem qw.grown{w w':World}{g:Nat}{a:aN}{xs:aO}(h:qw w g a xs)(k:w.grownBy w' (some g)):qw w' g a xs:=by
 rcases h with h|⟨b,off,ha,hb,h⟩
 ·exact .inl h
 ·exact .inr ⟨b,off,ha,hb,fun i u j=>k.cell (h i u j) (by simpa using hb)⟩
theorem qw.ext{w w':World}{g:Nat}{a:aN}{xs:aO}(h:qw w g a xs)(k:X w w'):qw w' g a xs:=by
 rcases h with h|⟨b,off,ha,hb,h⟩
 ·exact .inl h
 ·refine .inr ⟨b,off,ha,hb,fun i u E=> ?_⟩;have j:=h i u E;have hb:=block_lt_of_cell j;have:=k.cell (p:=⟨b,off+i,none⟩) hb;rw[this];exact j
theorem qw.at{w:World}{g:Nat}{a:aN}{xs:aO}(h:qw w g a xs){i:Nat}{u:Value}(j:xs[i]? =some u):
 ∃b off,a=some ⟨b,off,none⟩/\w.cell? ⟨b,off+i,none⟩=some u:=by grind [qw]
theorem qw.of{w w':World}{g:Nat}{a:aN}{xs:aO}(h:aK w a xs)(ab:w.heap.size<=g)(e:X w w'):qw w' g a xs:=by
 rcases h.ext e with j|⟨b,off,ha,j⟩
 ·exact .inl j
 ·rcases h with h|⟨aa,ac,Da,I⟩
  ·exact .inl h
  ·rw[ha]at Da;cases Da;by_cases E:xs=[]
   ·exact .inl E
   ·refine .inr ⟨b,off,ha,?_,j⟩;obtain⟨u,R⟩:∃u,xs[0]? =some u:=⟨xs[0]'(length_pos_iff.2 E),aF⟩;have:=block_lt_of_cell (I 0 u R);simp only at this;omega
section
open Go Go.RowKit
section
variable {P:Program} {ops:Array Oper} {Q:Exit->Act->World->Prop} {S:World->Prop} {W:List Nat}
def jL(P:Program)(ops:Array Oper)(Q:Exit->Act->World->Prop)(S:World->Prop)(W:List Nat):Nat->Array Bool->Act->World->Prop
 |0,listed,a,w=>Region.ready .any ops listed=[]/\Q .normal a w
 |f+1,listed,a,w=>(Region.ready .any ops listed=[]->Q .normal a w)/\
  ∀i∈Region.ready .any ops listed,wpOp P ops Q i (fun a' w'=>(W.contains i=false->S w->S w')/\jL P ops Q S W f (listed.setIfInBounds i true) a' w') a w
theorem OA:∀(f:Nat) (j:Array Bool) (a:Act) (w:World),jL P ops Q S W f j a w->wpAny P .any ops Q f j a w
 |0,_,_,_,h=>h
 |f+1,_,_,_,h=>⟨h.1,fun i E=>wpOp_mono (fun a' w' u=>OA f _ a' w' u.2) (h.2 i E)⟩
def y8(ops:Array Oper)(j:Array Bool):Prop:=∀k,j.getD k false=true->∀o,ops[k]? =some o->∀e∈o.after,Region.binds .any e=true->j.getD e.on false=true
def xq(ops:Array Oper):Nat->Nat->Nat->Bool
 |0,_,_=>false
 |f+1,j,i=>qR ops j i||(List.range ops.size).any fun k=>qR ops j k&&xq ops f k i
theorem Jw{u:Array Bool}(hd:y8 ops u):∀(f j i:Nat),(∀k,qR ops j k=true->u.getD k false=true)->xq ops f j i=true->u.getD i false=true
 |0,_,_,_,h=>by cases h
 |f+1,j,i,hj,h=>by
  simp only[xq,Bool.or_eq_true,any_eq_true,Bool.and_eq_true]at h;rcases h with h|⟨k,_,h1,h2⟩
  ·exact hj i h
  ·refine Jw hd f k i (fun q hq=> ?_) h2;obtain⟨o,ho,e,he,hb,yj⟩:=Dq hq;rw[<-yj];exact hd k (hj k h1) o ho e he hb
theorem OB{u:Array Bool}{j:Nat}(I:j∈Region.ready .any ops u):∀k,qR ops j k=true->u.getD k false=true:=by
 intro k hk;obtain⟨_,o,R,om⟩:=mem_ready.1 I;obtain⟨o',aa,e,E,hb,yj⟩:=Dq hk;have:o'=o:=Option.some.inj (aa.symm.trans R);subst this;rw[<-yj];exact om e E hb
theorem y8.set{u:Array Bool}{j:Nat}(aa:y8 ops u)(ab:j∈Region.ready .any ops u):y8 ops (u.setIfInBounds j true):=by
 intro k hk o R e E hb;by_cases I:j=k
 ·subst I;obtain⟨_,o',ac,om⟩:=mem_ready.1 ab;have:o'=o:=Option.some.inj (ac.symm.trans R);subst this;exact getD_set_true (om e E hb)
 ·rw[getD_set_ne false I]at hk;exact getD_set_true (aa k hk o R e E hb)
theorem V3{i:Nat}{ab:Oper}{v:Value}(n:Nat)(af:ops[i]? =some ab)(aq:∀(j:Nat) (o:Oper) cs b,ops[j]? =some o->o.op≠.select cs b)(ax:∀j,W.contains j=true->xq ops n j i=true)
 (aw:∀c a w,Q (.panic c) (a.put ab.dst v) w->Q (.panic c) a w):
 ∀(f:Nat) (u:Array Bool) (a:Act) (w:World),y8 ops u->
  (∀j ac,ops[j]? =some ac->j≠i->u.getD j true=false->(∀e∈ac.after,Region.binds .any e=true->e.on≠i)->ab.apart ops ac=true)->
  i∈Region.ready .any ops u->YieldsIf P ops S ab v a->S w->
  jL P ops Q S W f (u.setIfInBounds i true) (a.put ab.dst v) w->jL P ops Q S W (f+1) u a w:=by
 intro f;induction f with
 |zero=>
  intro u a w _ _ aa ae R H;refine⟨fun h=>(by rw[h]at aa;cases aa),fun j hj=> ?_⟩;by_cases E:j=i
  ·subst E;exact ae.wpOp af R ⟨fun _ _=>R,H⟩
  ·have:=ready_mono hj E;rw[H.1]at this;cases this
 |succ f a2=>
  intro u a w al am aa ae R H;refine⟨fun h=>(by rw[h]at aa;cases aa),fun j hj=> ?_⟩;by_cases E:j=i
  ·subst E;exact ae.wpOp af R ⟨fun _ _=>R,H⟩
  ·have h1:=H.2 j (ready_mono hj E);obtain⟨ap,ac,ag,om⟩:=mem_ready.1 hj;have I:=(mem_ready.1 aa).1;have an:u.getD i false=true->False:=fun h=>by
    simp only[Array.getD_eq_getD_getElem?]at h I;cases hq:u[i]? with
    |none=>rw[hq]at I;simp at I
    |some b=>rw[hq]at h I;simp at h I;rw[h]at I;cases I
   have a1:∀e∈ac.after,Region.binds .any e=true->e.on≠i:=fun e he hb Cx=>by
    have h1:=om e he hb;rw[Cx]at h1;exact an h1
   have ai:W.contains j=false:=by
    cases hq:W.contains j with
    |false=>rfl
    |true=>exact absurd (Jw al n j i (OB hj) (ax j hq)) an
   have h2:=wpOp_putIf ag (am j ac ag E ap a1) (fun cs b=>aq i ab cs b af) (fun cs b=>aq j ac cs b ag) aw ae h1;have az:∀k ok,ops[k]? =some ok->k≠i->(u.setIfInBounds j true).getD k true=false->
    (∀e∈ok.after,Region.binds .any e=true->e.on≠i)->ab.apart ops ok=true:=fun k ok hk aE ar a0=>by
    refine am k ok hk aE ?_ a0;by_cases ao:j=k
    ·subst ao;exact ap
    ·rw[getD_set_ne true ao]at ar;exact ar
   refine wpOp_mono (fun a' w' ad=>⟨fun _ _=>ad.2.1 ai R,a2 (u.setIfInBounds j true) a' w' (al.set hj) az (ready_mono aa (Ne.symm E)) ad.1 (ad.2.1 ai R) ?_⟩) h2;rw[Array.setIfInBounds_comm _ _ E];exact ad.2.2
theorem V4{i:Nat}{ab:Oper}{v:Value}(ag:ops[i]? =some ab)(ap:∀(j:Nat) (o:Oper) cs b,ops[j]? =some o->o.op≠.select cs b)
 (aw:∀c a w,Q (.panic c) (a.put ab.dst v) w->Q (.panic c) a w):
 ∀(f:Nat) (u:Array Bool) (a:Act) (w:World),
  (∀j ac,ops[j]? =some ac->j≠i->u.getD j true=false->(∀e∈ac.after,Region.binds .any e=true->e.on≠i)->ab.apart ops ac=true)->
  i∈Region.ready .any ops u->YieldsIf P ops (fun _=>True) ab v a->
  jL P ops Q S W f (u.setIfInBounds i true) (a.put ab.dst v) w->jL P ops Q S W (f+1) u a w:=by
 intro f;induction f with
 |zero=>
  intro u a w _ aa ae H;refine⟨fun h=>(by rw[h]at aa;cases aa),fun j ad=> ?_⟩;by_cases E:j=i
  ·subst E;exact ae.wpOp ag trivial ⟨fun _ h=>h,H⟩
  ·have:=ready_mono ad E;rw[H.1]at this;cases this
 |succ f a2=>
  intro u a w al aa ae H;refine⟨fun h=>(by rw[h]at aa;cases aa),fun j ad=> ?_⟩;by_cases E:j=i
  ·subst E;exact ae.wpOp ag trivial ⟨fun _ h=>h,H⟩
  ·have R:=H.2 j (ready_mono ad E);obtain⟨an,ac,ai,om⟩:=mem_ready.1 ad;have a1:∀e∈ac.after,Region.binds .any e=true->e.on≠i:=fun e ax hb Cx=>by
    have R:=om e ax hb;have I:=(mem_ready.1 aa).1;rw[Cx]at R;simp only[Array.getD_eq_getD_getElem?]at R I;cases ao:u[i]? with
    |none=>rw[ao]at I;simp at I
    |some b=>rw[ao]at R I;simp at R I;rw[R]at I;cases I
   have ar:=wpOp_putIf ai (al j ac ai E an a1) (fun cs b=>ap i ab cs b ag) (fun cs b=>ap j ac cs b ai) aw ae R;have az:∀k ok,ops[k]? =some ok->k≠i->(u.setIfInBounds j true).getD k true=false->
    (∀e∈ok.after,Region.binds .any e=true->e.on≠i)->ab.apart ops ok=true:=fun k ok hk aE aq a0=>by
    refine al k ok hk aE ?_ a0;by_cases am:j=k
    ·subst am;exact an
    ·rw[getD_set_ne true am]at aq;exact aq
   refine wpOp_mono (fun a' w' af=>⟨af.2.1,a2 (u.setIfInBounds j true) a' w' az (ready_mono aa (Ne.symm E)) af.1 ?_⟩) ar;rw[Array.setIfInBounds_comm _ _ E];exact af.2.2
def uT(ops:Array Oper)(j:Array Bool):Bool:=(List.range ops.size).all fun k=> !j.getD k false||(ops[k]?).all fun o=>o.after.all fun e=> !Region.binds .any e||j.getD e.on false
theorem FV{E:Array Bool}(h:uT ops E=true):y8 ops E:=by
 intro k hk o u e I hb;have R:k<ops.size:=(Array.getElem?_eq_some_iff.1 u).1;have j:=all_eq_true.1 h k (mem_range.2 R);rw[hk,u]at j;simp only[Bool.not_true,Bool.false_or,Option.all_some,Array.all_eq_true']at j;have:=j e I;rw[hb]at this;simpa using this
theorem OC(i:Nat){E:Oper}{r:List Oper}{v:Value}{f:Nat}{u:Array Bool}{a:Act}{w:World}(I:ops.toList.drop i=E::r)
 (hs:Region.noSelect ops=true)(ab:(W.all fun j=>xq ops 12 j i)=true)(ac:uT ops u=true)(hf:Region.free .any ops u i=true)(ae:(Region.ready .any ops u).contains i=true)
 (R:∀c a w,Q (.panic c) (a.put E.dst v) w->Q (.panic c) a w)(af:YieldsIf P ops S E v a)(aa:S w)
 (h:jL P ops Q S W f (u.setIfInBounds i true) (a.put E.dst v) w):jL P ops Q S W (f+1) u a w:=
 V3 12 (jy I) (Region.noSelect_spec hs) (fun j ad=>all_eq_true.1 ab j (by simpa using ad)) R f u a w (FV ac) (Region.free_spec (jy I) hf) (by simpa using ae) af aa h
theorem kJ(i:Nat){u:Oper}{r:List Oper}{v:Value}{f:Nat}{j:Array Bool}{a:Act}{w:World}(E:ops.toList.drop i=u::r)
 (hs:Region.noSelect ops=true)(hf:Region.free .any ops j i=true)(R:(Region.ready .any ops j).contains i=true)
 (I:∀c a w,Q (.panic c) (a.put u.dst v) w->Q (.panic c) a w)(aa:YieldsIf P ops (fun _=>True) u v a)
 (h:jL P ops Q S W f (j.setIfInBounds i true) (a.put u.dst v) w):jL P ops Q S W (f+1) j a w:=
 V4 (jy E) (Region.noSelect_spec hs) I f j a w (Region.free_spec (jy E) hf) (by simpa using R) aa h
theorem V5{i:Nat}{o:Oper}{r:List Oper}{f:Nat}{u:Array Bool}{a:Act}{w:World}(ac:Region.ready .any ops u=[i])(ad:ops.toList.drop i=o::r)(aa:W.contains i=false)(R:S w)
 (h:∀E:Exit->Act->World->Prop,(∀a w,S w->jL P ops Q S W f (u.setIfInBounds i true) a w->E .normal a w)->wpList P ops E [o] a w):
 jL P ops Q S W (f+1) u a w:=by
 refine⟨fun I=>(by rw[ac]at I;cases I),fun j ab=> ?_⟩;rw[ac]at ab;obtain rfl:j=i:=by simpa using ab
 exact mZ (jy ad) (h _ fun a w R aa=>⟨fun _ _=>R,aa⟩)
theorem V6{i:Nat}{o:Oper}{r:List Oper}{f:Nat}{u:Array Bool}{a:Act}{w:World}(aa:Region.ready .any ops u=[i])(ad:ops.toList.drop i=o::r)(ab:W.contains i=true)
 (h:∀E:Exit->Act->World->Prop,(∀a w,True->jL P ops Q S W f (u.setIfInBounds i true) a w->E .normal a w)->wpList P ops E [o] a w):
 jL P ops Q S W (f+1) u a w:=by
 refine⟨fun I=>(by rw[aa]at I;cases I),fun j R=> ?_⟩;rw[aa]at R;obtain rfl:j=i:=by simpa using R
 exact mZ (jy ad) (h _ fun a w _ ac=>⟨fun h=>(by rw[ab]at h;cases h),ac⟩)
theorem V7{j:Array Bool}{a:Act}{w:World}(hr:Region.ready .any ops j=[])(h:Q .normal a w):∀f,jL P ops Q S W f j a w
 |0=>⟨hr,h⟩
 |_+1=>⟨fun _=>h,by rw[hr];simp⟩
theorem V8{id:Nat}{a:Act}{w:World}(u:P.follows .mixedOrders=true)(j:S w.drew)
 (h:S w.drew->jL P ops Q S W ops.size (Array.replicate ops.size false) a w.drew):(Code.region id ops true).wp P Q a w:=
 wp_region_any u (OA _ _ _ _ (h j))
end
section
variable {P:Program} {ops:Array Oper} {Q:Exit->Act->World->Prop} {S:World->Prop} {W:List Nat}
theorem eY(i:Nat){E:Oper}{r:List Oper}{f:Nat}{u:Array Bool}{a:Act}{w:World}{R:Prop}{v:Value}{I:Prop}(hf:I)(h:R)(af:ops.toList.drop i=E::r:=by exact F)(hs:Region.noSelect ops=true:=by kernel_rfl)(ac:(W.all fun j=>xq ops 12 j i)=true:=by kernel_rfl)(ad:uT ops u=true:=by kernel_rfl)(ae:Region.free .any ops u i=true:=by kernel_rfl)(ag:(Region.ready .any ops u).contains i=true:=by kernel_rfl)(ai:Region.wanted E (yielded ops a.tmps)=true:=by exact F)(al:I->∀w,S w->(execOp a.eval E).run P w= .ok (.value v) w:=by(intro hf wq eU;have oz:=hf wq eU;go_simp;try with_reducible rfl))(hx:R->jL P ops Q S W f (u.setIfInBounds i true) (a.put E.dst v) w:=by(intro hx;simp only[Act.put,setIfInBounds_toArray,set_cons_succ,set_cons_zero];exact hx))(ab:S w:=by exact Z)(aa:∀c a w,Q (.panic c) (a.put E.dst v) w->Q (.panic c) a w:=by exact fun _ _ _ h=>h):jL P ops Q S W (f+1) u a w:=
 OC i af hs ac ad ae ag aa (.inl ⟨ai,al hf⟩) ab (hx h)
theorem k_(i:Nat){E:Oper}{r:List Oper}{f:Nat}{u:Array Bool}{a:Act}{w:World}{I:Prop}{v:Value}(ae:ops.toList.drop i=E::r)(ag:YieldsIf P ops S E v a)(h:I)(hs:Region.noSelect ops=true:=by kernel_rfl)(ab:(W.all fun j=>xq ops 12 j i)=true:=by kernel_rfl)(ac:uT ops u=true:=by kernel_rfl)(ad:Region.free .any ops u i=true:=by kernel_rfl)(af:(Region.ready .any ops u).contains i=true:=by kernel_rfl)(hx:I->jL P ops Q S W f (u.setIfInBounds i true) (a.put E.dst v) w:=by(intro hx;simp only[Act.put,setIfInBounds_toArray,set_cons_succ,set_cons_zero];exact hx))(aa:S w:=by exact Z)(R:∀c a w,Q (.panic c) (a.put E.dst v) w->Q (.panic c) a w:=by exact fun _ _ _ h=>h):jL P ops Q S W (f+1) u a w:=
 OC i ae hs ab ac ad af R ag aa (hx h)
theorem bK(i:Nat){j:Oper}{r:List Oper}{f:Nat}{u:Array Bool}{a:Act}{w:World}{E:Prop}{v:Value}(h:E)(aa:ops.toList.drop i=j::r:=by exact F)(hs:Region.noSelect ops=true:=by kernel_rfl)(R:Region.free .any ops u i=true:=by kernel_rfl)(ab:(Region.ready .any ops u).contains i=true:=by kernel_rfl)(ac:Region.wanted j (yielded ops a.tmps)=true:=by exact F)(ad:∀w,(fun _=>True) w->(execOp a.eval j).run P w= .ok (.value v) w:=by(intro _ _;go_simp;try with_reducible rfl))(hx:E->jL P ops Q S W f (u.setIfInBounds i true) (a.put j.dst v) w:=by(intro hx;simp only[Act.put,setIfInBounds_toArray,set_cons_succ,set_cons_zero];exact hx))(I:∀c a w,Q (.panic c) (a.put j.dst v) w->Q (.panic c) a w:=by exact fun _ _ _ h=>h):jL P ops Q S W (f+1) u a w:=
 kJ i aa hs R ab I (.inl ⟨ac,ad⟩) (hx h)
theorem FW(i:Nat){u:Oper}{r:List Oper}{f:Nat}{j:Array Bool}{a:Act}{w:World}{E:Prop}{v:Value}(aa:ops.toList.drop i=u::r)(ac:YieldsIf P ops (fun _=>True) u v a)(h:E)(hs:Region.noSelect ops=true:=by kernel_rfl)(R:Region.free .any ops j i=true:=by kernel_rfl)(ab:(Region.ready .any ops j).contains i=true:=by kernel_rfl)(hx:E->jL P ops Q S W f (j.setIfInBounds i true) (a.put u.dst v) w:=by(intro hx;simp only[Act.put,setIfInBounds_toArray,set_cons_succ,set_cons_zero];exact hx))(I:∀c a w,Q (.panic c) (a.put u.dst v) w->Q (.panic c) a w:=by exact fun _ _ _ h=>h):jL P ops Q S W (f+1) j a w:=
 kJ i aa hs R ab I ac (hx h)
theorem jQ{id:Nat}{a:Act}{w:World}(h:S w.drew->jL P ops Q S W ops.size (Array.replicate ops.size false) a w.drew)(u:P.follows .mixedOrders=true:=by kernel_rfl)
 (j:S w.drew:=by exact aJ _ _ bP (X.refl _).drew):(Code.region id ops true).wp P Q a w:=V8 u j h
theorem fC(i:Nat){o:Oper}{r:List Oper}{f:Nat}{j:Array Bool}{a:Act}{w:World}
 (h:∀u:Exit->Act->World->Prop,(∀a w,S w->jL P ops Q S W f (j.setIfInBounds i true) a w->u .normal a w)->wpList P ops u [o] a w)
 (aa:Region.ready .any ops j=[i]:=by kernel_rfl)(R:ops.toList.drop i=o::r:=by exact F)(I:W.contains i=false:=by kernel_rfl)(E:S w:=by exact Z):jL P ops Q S W (f+1) j a w:=V5 aa R I E h
theorem iU(i:Nat){o:Oper}{r:List Oper}{f:Nat}{j:Array Bool}{a:Act}{w:World}
 (h:∀u:Exit->Act->World->Prop,(∀a w,True->jL P ops Q S W f (j.setIfInBounds i true) a w->u .normal a w)->wpList P ops u [o] a w)
 (R:Region.ready .any ops j=[i]:=by kernel_rfl)(I:ops.toList.drop i=o::r:=by exact F)(E:W.contains i=true:=by kernel_rfl):jL P ops Q S W (f+1) j a w:=V6 R I E h
theorem jR{j:Array Bool}{a:Act}{w:World}{f:Nat}(h:Q .normal a w)(hr:Region.ready .any ops j=[]:=by kernel_rfl):jL P ops Q S W f j a w:=V7 hr h _
end
end
def fB(n:Nat):Nat:=2^Nat.log2 (n - 1)
theorem FX{n:Nat}(h:2<=n):1<=fB n/\fB n<n/\n<=2*fB n:=by
 unfold fB;have u:=Nat.log2_self_le (n:=n - 1) J;have j:=Nat.lt_log2_self (n:=n - 1);rw[Nat.pow_succ]at j;have E:0<2^Nat.log2 (n - 1):=Nat.pow_pos J;omega
theorem OD{n j:Nat}(u:2^j<n)(E:n<=2*2^j):2^j=fB n:=by grind [fB,Nat.pow_pos,Nat.log2,Nat.log2_eq_iff,Nat.pow_succ]
def gZ(s t:aj):Nat->aj
 |0=>s
 |n+1=>qW (gZ s t n) ((t.drop (32*n)).take 32)
theorem iV{s t:aj}(hs:s.length=64)(n:Nat):(gZ s t n).length=64:=by
 cases n with
 |zero=>exact hs
 |succ n=>exact Jo _ _
theorem DJ{s t b:aj}(n:Nat)(h:32*n<=t.length):gZ s (t++b) n=gZ s t n:=by induction n<;>grind [gZ]
def lQ(w:World)(g:Nat)(T:TypeId)(s0 t:aj)(j:Int):Prop:=
 ∃r:aj,r.length=32/\r.take (t.length%32)=t.drop (32*(t.length / 32))/\ah w g (sm (gZ s0 t (t.length / 32)) r (t.length%32:Nat) j) T
theorem zD{l:aj}{i:Nat}(h:i<l.length):(l.map Y)[i]? =some (.int .u8 ((l[i]?.getD 0).toNat:Int)):=by simp[h,Y]
theorem FY{t b:aj}{m k:Nat}(h:t.length=32*m):(t++b).drop (32*(m+k))=b.drop (32*k):=by
 rw[drop_append,drop_of_length_le (by rw[h];omega),nil_append,h,show 32*(m+k) - 32*m=32*k by omega]
def zf:Value->Nat
 | .slice _ n _=>n
 |_=>0
def FZ(w:World)(g:Nat)(T:TypeId)(s0 u:aj)(j:Int)(e:Ending)(w':World):Prop:=
 e= .returned (.tuple #[])/\lQ w' g T s0 u j/\w.grownBy w' (some g)
theorem V9(s0 t b r:aj)(R:Int)(g m n c:Nat)(a:aN)(T:TypeId)(w:World)(hs:s0.length=64)(a3:r.length=32)(hb:b.length=n)(a1:t.length=32*m)
 (ao:ah w g (sm (gZ s0 t m) r 0 R) T)(hn:n<=140737488355328)(bw:n<=c)(hc:c<=9223372036854775807)(an:a=none->n=0)(aw:aK w a (b.map Y))(ap:n=0∨∀x,a=some x->some x.block≠some g):
 Calls prog 267 #[.pointer (some ⟨g,0,none⟩),.slice a n c] w (FZ w g T s0 (t++b) R):=by
 have aa:=O hs;clear hs;have E:=O hb;clear hb;have I:=O a1;clear a1;have ac:=O a3;clear a3;have a8:=O an;clear an;have a9:=O ap;clear ap;have bc:=O aw;clear aw;have am:=ao.cell' (w_ 0 R (iV aa m) ac);go_enter func267,ntmps267;go_wp2;clear am;go_loopw [1] (fun x wr=>∃(k n' c':Nat) (a':aN),x= .slice a' n' c'/\n'+32*k=n/\n'<=c'/\c'<=c/\Hid (a'=none->n'=0)/\Hid (n'=0∨∀x,a'=some x->some x.block≠some g)/\
  Hid (aK wr a' ((b.drop (32*k)).map Y))/\Hid (ah wr g (sm (gZ s0 (t++b) (m+k)) r 0 R) T)/\Hid (w.grownBy wr (some g)))
  (fun x _=>zf x)
 case atStart=>exact⟨0,n,c,a,F,J,bw,J,a8,a9,bc,O (by rw[Nat.add_zero,DJ _ (by rw[I.out];omega)];exact ao),O (I6 _ _)⟩
 case round=>
  obtain⟨k,n',c',a',rfl,hk,b5,b4,af,bp,tF,aq,aE⟩:=hrel;by_cases j3:32<=n'
  ·have bt:decide ((32:Int)<=(n':Int))=true:=aQ J;have j:(b.drop (32*k)).length=n':=by rw[length_drop,E.out];omega
   have bx:a'≠none:=fun e=>by have:=af.out e;omega
   obtain⟨gb,off,rfl,ar⟩:=tF.gQ (by rw[length_map,j];omega);have ai:=bp.resolve_left J;have bu:gb≠g:=fun e=>ai _ F (by rw[e]);have al:=O ai;clear ai;have b3:=AO (P:=prog) underlying30 (len:=n') j3;have a6:∀i,i<32->wr.cell? ⟨gb,off+i,none⟩=some (.int .u8 ((((b.drop (32*k)).take 32)[i]?.getD 0).toNat:Int)):=by
    intro i bv;refine ar i _ ?_;rw[List.getElem?_take_of_lt bv];exact zD J
   have bo:=O a6;clear a6 ar bx;have bj:=O j;clear j;go_wp2_with fail;refine(Dw _ ((b.drop (32*k)).take 32) _ g gb off T wr (iV aa _) aq bo (.inl bu)).mono ?_;rintro e b1 ⟨rfl,u,g1⟩;have a7:qW (gZ s0 (t++b) (m+k)) ((b.drop (32*k)).take 32)=gZ s0 (t++b) (m+(k+1)):=by
    rw[<-Nat.add_assoc,gZ,FY I.out]
   rw[a7]at u;have a_:=O u;clear u a7;obtain⟨bh,br⟩:=aB (l9 aE g1) (tF.grown g1 al);clear g1;go_wp2_with (refine zy F _ _ _ _ F (k:=32) F F underlying32 gu j3 ?_);go_roundw
   case rel=>
    refine⟨k+1,n' - 32,c' - 32,_,F,J,J,J,O fun e=> ?_,O (.inr (Dx al)),O ?_,a_,bh⟩
    ·have:=af.out (FM.1 e);omega
    ·have ab:=br.shift c' 32 (n' - 32) J;rw[<-map_drop,drop_drop,take_of_length_le (by rw[length_map,length_drop,E.out];omega)]at ab;rwa[show 32*k+32=32*(k+1) by omega]at ab
   case measure=>simp[zf];omega
  ·have bt:decide ((32:Int)<=(n':Int))=false:=aP J;have j:(b.drop (32*k)).length=n':=by rw[length_drop,E.out];omega
   have a0:((b.drop (32*k)).map Y).length=n':=by rw[length_map,j]
   have a2:n'=Nat.min n' 32:=(Nat.min_eq_left J).symm;have bl:=O a2;clear a2;have az:64+n'<=(sm (gZ s0 (t++b) (m+k)) r 0 R).length:=by rw[Dy _ _ (iV aa _) ac.out];omega
   have be:=O az;clear az;have uW:=FN (xs:=b.drop (32*k)) 0 R (iV (t:=t++b) aa (m+k)) ac 0 (by rw[j];omega);rw[take_zero,nil_append,Nat.add_zero,Nat.zero_add,j]at uW;have a4:(b.drop (32*k)++r.drop n').length=32:=by rw[length_append,j,length_drop,ac.out];omega
   have a5:(b.drop (32*k)++r.drop n').take n'=b.drop (32*k):=by rw[<-j,take_left]
   have ax:=FY (b:=b) (k:=k) I;generalize b.drop (32*k)=bb at*;obtain⟨bd,bj⟩:=aB ax j;clear j ax;have bk:=O a0;clear a0;generalize bz:bb++r.drop n'=r2 at*;obtain⟨CX,ad,bm⟩:=aW a5 a4 uW;clear a5 a4 uW bz;go_wp2_with (refine Kc F _ _ _ _ F F F aq underlying32 gu bk bl af tF be (b_ _) ?_);intro b1 u b0;rw[bm.out]at u;have b2:=u.frozen 96;have am:=u.cell' (w_ 0 R (iV aa (m+k)) ad);go_wp2;have ae:=u.set 96 (.int .i64 (n':Int));rw[Dz _ _ _ (iV aa _) ad.out]at ae;obtain⟨ba,bi⟩:=aB ae (yB (A_ aE b0) 96 (.int .i64 (n':Int)));clear ae;refine bX F F ⟨F,⟨r2,ad,?_,?_⟩,bi⟩
   ·have ab:(t++b).length%32=n':=by rw[length_append,I.out,E.out];omega
    have ag:(t++b).length / 32=m+k:=by rw[length_append,I.out,E.out];omega
    rw[ab,ag,bd.out];exact CX
   ·have ab:(t++b).length%32=n':=by rw[length_append,I.out,E.out];omega
    have ag:(t++b).length / 32=m+k:=by rw[length_append,I.out,E.out];omega
    rw[ab,ag];exact ba
def pF(n:Nat):UInt8:=if n<10 then UInt8.ofNat (48+n)else UInt8.ofNat (87+n)
def DK(b:UInt8):aj:=[pF (b.toNat / 16),pF (b.toNat%16)]
def aD(l:aj):aj:=l.flatMap DK
theorem tX(l:aj):(aD l).length=2*l.length:=by induction l<;>grind [aD,DK]
theorem OE(l:aj)(k:Nat)(h:k<l.length):aD (l.take (k+1))=aD (l.take k)++DK (l[k]?.getD 0):=by
 rw[take_succ_eq_append_getElem h,aD,flatMap_append];simp[aD,h]
def zF:ByteArray:={data:= #[48,49,50,51,52,53,54,55,56,57,97,98,99,100,101,102]}
theorem V_(k:Nat)(h:k<16):zF[k]? =some (pF k):=by
 have:∀k:Fin 16,zF[k.val]? =some (pF k.val):=aX;exact this ⟨k,h⟩
theorem Lx(k:Nat)(h:k<16)(w:World):(Instr.index 9 (.string {data:= #[48,49,50,51,52,53,54,55,56,57,97,98,99,100,101,102]}) (.int .u8 (k:Int))).run prog w= .ok (.int .u8 ((pF k).toNat:Nat)) w:=by
 have j:=V_ k h;unfold zF at j;simp[Instr.index,asIntOf,run_underlying underlying9,j]
theorem Kl(b:UInt8):bits .and .u8 (b.toNat:Int) 15=(b.toNat:Int)%16:=by
 have h:=b.toNat_lt;have e:(15:Int)=((15:Nat):Int):=F;rw[e,(NJ _ 15 h J).2.2,Nat.and_two_pow_sub_one_eq_mod b.toNat 4];omega
theorem Wh(b:UInt8):(∀w,(Instr.index 9 (.string {data:= #[48,49,50,51,52,53,54,55,56,57,97,98,99,100,101,102]}) (.int .u8 ((b.toNat:Int) / 16))).run prog w= .ok (.int .u8 ((pF (b.toNat / 16)).toNat:Nat)) w)/\
 (∀w,(Instr.index 9 (.string {data:= #[48,49,50,51,52,53,54,55,56,57,97,98,99,100,101,102]}) (.int .u8 ((b.toNat:Int)%16))).run prog w= .ok (.int .u8 ((pF (b.toNat%16)).toNat:Nat)) w)/\
 bits .and .u8 (b.toNat:Int) 15=(b.toNat:Int)%16:=by
 have h:=b.toNat_lt;have j:(b.toNat:Int) / 16=((b.toNat / 16:Nat):Int):=J;have e2:(b.toNat:Int)%16=((b.toNat%16:Nat):Int):=J;rw[Kl,j,e2];exact⟨Lx _ J,Lx _ J,F⟩
theorem xu:(prog.info? 5).map (fun i=>(i.zero,i.size,i.bytes))=some (some (.int .u8 0),1,1):=au
def aY(l:aj):ByteArray:=⟨l.toArray⟩
theorem OI(l:aj):((l.map fun b=>(b.toNat:Int)).map fun n=>UInt8.ofNat n.toNat)=l:=by simp_all [map_map,map_id,map_congr_left]
theorem Ba(w:World)(a:aN)(l:aj)(n c:Nat)(h:aK w a (l.map Y))(hn:n=l.length):
 (convert 32 9 (.slice a n c)).run prog w= .ok (.string (aY l)) w:=by
 subst hn;have R:(l.map fun b=>(b.toNat:Int)).map (Value.int .u8)=l.map Y:=by
  rw[map_map];rfl
 have E:∀x:Addr,(loadCells x l.length).run prog w= .ok (l.map Y).toArray w->(convert 32 9 (.slice (some x) l.length c)).run prog w= .ok (.string (aY l)) w:=by
  intro x u;rw[run_convert_bytes_string w 32 9 5 (some x) l.length c underlying32 underlying5 underlying9,
   run_bytesToString w x l.length c (l.map fun b=>(b.toNat:Int)) (by rw[R];exact u),foldl_push_bytes,OI]
  simp[aY,ByteArray.empty,ByteArray.emptyWithCapacity];rfl
 rcases h with h|⟨b,off,rfl,h⟩
 ·have u:l=[]:=by simpa using h
  subst u;cases a with
  |none=>exact run_convert_bytes_nil w 32 5 underlying32 underlying5 _ _ _ underlying9
  |some x=>exact E x (by simpa using run_loadCells_list (P:=prog) w x [] aF)
 ·refine E _ ?_;have:=run_loadCells_list (P:=prog) w ⟨b,off,none⟩ (l.map Y) (fun j v I=>by
   have aa:(⟨b,off,none⟩:Addr).add j=⟨b,off+j,none⟩:=by unfold Addr.add;split<;>simp_all
   rw[aa];exact h j v I)
  simpa using this
theorem Wi(l:aj)(a:aN)(c:Nat)(w:World)(ao:l.length<=140737488351232)(hc:aK w a (l.map Y)):
 nW 41 #[.slice a l.length c] w (.string (aY (aD l))):=by
 obtain⟨ad,aa,ap,ac,aq⟩:=info_parts xu;have af:=O hc;clear hc;obtain⟨n,hn⟩:=aC l.length;have j:=O hn;rw[hn]at ao⊢;clear hn;go_enter func41,ntmps41;go_wp2_with (at_make;refine wpList_make_own _ F _ _ 32 F w.heap.size 5 ad (.int .u8 0) 1 underlying32 aa ap ac _ _ _ (2*n) F F J (by rw[aq];omega) (by unfold maxLen;omega) l5 ?_);intro az ar E;have ai:X w az:=(X.refl w).grown E (fun g h=>by cases h);clear E;go_wp2;go_loopw [12,3] (fun x v wr=>∃k:Nat,k<=n/\x= .int .i64 k/\v= .slice (some ⟨w.heap.size,0,none⟩) (2*k) (2*n)/\wr.ownsRow w.heap.size 5 1 v (2*k) ((aD (l.take k)).map Y)/\X w wr)
  (fun x _ _=>n - (intOf x).toNat)
 case atStart=>exact⟨0,J,F,F,by simpa[aD]using ar,ai⟩
 case round=>
  obtain⟨k,hk,rfl,rfl,own,bb⟩:=hrel;by_cases j3:k<n
  ·obtain⟨b,off,rfl,R⟩:=(af.ext bb).gQ (by rw[length_map,j.out];omega);have am:wr.cell? ⟨b,off+k,none⟩=some (.int .u8 ((l[k]?.getD 0).toNat:Nat)):=R k _ (by simp[Y,j.out,j3]);clear R;have aE:=zl (l[k]?.getD 0);obtain⟨aw,r2,ax⟩:=Wh (l[k]?.getD 0);have hs:=OE l k (by rw[j.out];exact j3);have ag:=O hs;clear hs;go_wp2
   go_region_law ((refine Ve F _ _ 32 F w.heap.size 5 ad 1 underlying32 aa ac w.heap.size (2*k) (2*n) _ F (own.alloc _) ⟨wr.heap.size,0,none⟩ 2 2 ((DK (l[k]?.getD 0)).map Y) F F (tJ (T:=5) (ah.aI F F)) (b_ _) J ?_;intro w2 ae I))
   all_goals
    have e2:X w w2:=((bb.alloc _).drew).grown I (fun g h=>by cases h;exact Nat.le_refl _);rw[<-map_append,<-ag.out]at ae;clear I own bb am aw r2 ax;go_wp2;go_roundw
    case rel=>exact⟨k+1,J,by go_num,by rw[show 2*(k+1)=2*k+2 by omega],ae,e2⟩
    case measure=>simp[intOf];omega
  ·obtain rfl:k=n:=J;have an:aK wr (some ⟨w.heap.size,0,none⟩) ((aD l).map Y):=by
    refine .inr ⟨_,_,F,fun i u ab=> ?_⟩;rw[take_of_length_le (by rw[j.out];omega)]at own;have al:=own.cellAt i (by have:=(List.getElem?_eq_some_iff.1 ab).1;rw[length_map,tX,j.out]at this;omega);rw[Nat.zero_add,al];exact ab
   have a0:=Ba wr _ (aD l) (2*k) (2*k) an (by rw[tX,j.out]);go_wp2;go_ret;exact⟨F,bb⟩
theorem Wj(w:World):Calls prog 7 #[] w fun e w'=>e= .returned (.bool true)/\X w w':=by
 go_enter func7,ntmps7;go_wp2_with fail;refine(Wi [1] _ _ _ aF (aK.tO (T:=5) (ah.aI F F))).mono ?_;rintro e u ⟨rfl,hb⟩;have j:aY (aD [1])={data:= #[48,49]}:=aX;rw[j];go_wp2;go_ret;exact⟨F,(X.alloc (X.refl w) _).ext hb⟩
def g_(n:Nat)(at_ j:Int):Int:=if at_<0 then 4 else if(n:Int)<j∨(n:Int) - j<at_ then 1 else 0
theorem F5(a:aN)(n c:Nat)(at_ j:Int)(w:World)(hn:n<=140737488355328)(ab:0<=j)(ac:j<=1099511627776):
 Br 153 #[.slice a n c,.int .i64 at_,.int .i64 j] w (.int .i64 (g_ n at_ j)):=by
 by_cases u:at_<0
 ·go_enter func153,ntmps153;go_wp2;go_ret;exact⟨by simp[g_,u],F⟩
 ·by_cases E:(n:Int)<j
  ·go_enter func153,ntmps153;go_wp2;go_ret;exact⟨by simp[g_,u,E],F⟩
  ·by_cases aa:(n:Int) - j<at_
   ·go_enter func153,ntmps153;go_wp2;go_ret;exact⟨by simp[g_,u,E,aa],F⟩
   ·have I:g_ n at_ j=0:=by simp only[g_,u,if_false];rw[if_neg J]
    have R:=O I;clear I;go_enter func153,ntmps153;go_wp2;go_ret;exact⟨by rw[R.out];rfl,F⟩
theorem Jy{n:Nat}{at_ j:Int}(h:g_ n at_ j=0)(u:0<=j):∃p:Nat,at_=(p:Int)/\(p:Int)+j<=n:=by
 unfold g_ at h;split at h
 ·cases h
 ·split at h
  ·cases h
  ·exact⟨at_.toNat,J,J⟩
def iW(l:aj)(p:Nat):UInt32:=m_ (l[p]?.getD 0) (l[p+1]?.getD 0) (l[p+2]?.getD 0) (l[p+3]?.getD 0)
def yE(l:aj)(n:Nat)(at_:Int):Value:=if g_ n at_ 4=0 then .tuple #[.int .u32 ((iW l at_.toNat).toNat:Nat),.int .i64 0]else .tuple #[.int .u32 0,.int .i64 (g_ n at_ 4)]
theorem bq{w:World}{b off:Nat}{l:aj}(h:∀(i:Nat) (u:Value),(l.map Y)[i]? =some u->w.cell? ⟨b,off+i,none⟩=some u)(i:Nat)(j:i<l.length):
 w.cell? ⟨b,off+i,none⟩=some (.int .u8 ((l[i]?.getD 0).toNat:Nat)):=h i _ (by simp[j,Y])
theorem OJ(l:aj)(a:aN)(n c:Nat)(at_:Int)(w:World)(I:l.length=n)(hn:n<=140737488355328)(hc:n<=c)(E:aK w a (l.map Y)):
 nW 150 #[.slice a n c,.int .i64 at_] w (yE l n at_):=by
 by_cases h:g_ n at_ 4=0
 ·obtain⟨p,rfl,ag⟩:=Jy h J;have j:yE l n (p:Int)= .tuple #[.int .u32 ((iW l p).toNat:Nat),.int .i64 0]:=by rw[yE,if_pos h];rfl
  rw[j];obtain⟨b,off,rfl,u⟩:=E.gQ (by rw[length_map];omega);have ae:=bq u p J;have R:=bq u (p+1) J;have aa:=bq u (p+2) J;have ab:=bq u (p+3) J;simp only[<-Nat.add_assoc]at R aa ab;obtain⟨H,HV⟩:=aB h j;clear h j E u;have ai:¬c=p:=J;have ad:=O I;clear I;have ha:=AO (P:=prog) underlying248 (len:=4) (Nat.le_refl 4);go_enter func150,ntmps150;go_wp2_with fail;refine(F5 _ n c _ 4 w J J J).mono ?_;rintro e w' ⟨rfl,rfl⟩;rw[H.out];go_wp2_with fail;refine(Jh _ _ _ _ _).mono ?_;rintro e al ⟨rfl,ac⟩;go_wp2
  go_ret2
  exact⟨F,ac⟩
 ·have j:yE l n at_= .tuple #[.int .u32 0,.int .i64 (g_ n at_ 4)]:=by rw[yE,if_neg h]
  rw[j];have af:(g_ n at_ 4 != 0)=true:=by rw[bne_iff_ne];exact h
  clear j E h I;go_enter func150,ntmps150;go_wp2_with fail;refine(F5 _ n c _ 4 w J J J).mono ?_;rintro e w' ⟨rfl,rfl⟩;go_wp2
  go_ret2
  exact⟨F,X.refl _⟩
theorem Wn(x y:aj):((aY x).toList==(aY y).toList)=(x==y):=by simp_all [aY]
theorem Wp(x y:aj)(a b:aN)(n m c d:Nat)(w:World)(hn:n=x.length)(j:m=y.length)(u:aK w a (x.map Y))(E:aK w b (y.map Y)):
 Br 13 #[.slice a n c,.slice b m d] w (.bool (x==y)):=by
 have I:=Ba w a x n c u hn;have R:=Ba w b y m d E j;have hs:=Wn x y;clear hn j u E;go_enter func13,ntmps13;go_wp2;go_ret;exact⟨F,F⟩
def fE(l:aj)(p:Nat):Nat:=(iW l p).toNat*4294967296+(iW l (p+4)).toNat
def vW(l:aj)(n:Nat)(at_:Int):Value:=
 if g_ n at_ 8=0 then(if fE l at_.toNat<=4611686018427387904 then .tuple #[.int .i64 (fE l at_.toNat:Nat),.int .i64 0]else .tuple #[.int .i64 0,.int .i64 4])else .tuple #[.int .i64 0,.int .i64 (g_ n at_ 8)]
theorem Wq(x y:UInt32):bits .or .u64 ((x.toNat:Int)*4294967296) (y.toNat:Int)=((x.toNat*4294967296+y.toNat:Nat):Int):=by
 have E:=x.toNat_lt;have I:=y.toNat_lt;have j:(BitVec.ofInt 64 ((x.toNat:Int)*4294967296)).toNat=x.toNat*4294967296:=by
  rw[show((x.toNat:Int)*4294967296)=((x.toNat*4294967296:Nat):Int) by omega];rw[BitVec.toNat_ofInt];omega
 have u:(BitVec.ofInt 64 (y.toNat:Int)).toNat=y.toNat:=by rw[BitVec.toNat_ofInt];omega
 change IntKind.u64.wrap ((BitVec.ofInt 64 ((x.toNat:Int)*4294967296) ||| BitVec.ofInt 64 (y.toNat:Int)).toNat:Int)=_;have:=Dt x.toNat y.toNat 32 J;rw[show(2:Nat)^32=4294967296 from F]at this;rw[BitVec.toNat_or,j,u,this,IntKind.wrap_u64];omega
section
open Go Go.RowKit
section
variable {P:Program} {C:World->Prop} {o:Oper} {a:Act} {K:Act->Prop}
theorem Ws{b off n:Nat}{w:World}{vs:aO}{ty:TypeId}(hb:∀j u,vs[j]? =some u->w.cell? ⟨b,off+j,none⟩=some u)(ht:iH P ty n)(hn:vs.length=n):
 (loadVar ty ⟨b,off,none⟩).run P w= .ok (.agg vs.toArray) w:=by
 obtain⟨⟨d,ac,ae⟩,I⟩:=ht;have R:(loadCells ⟨b,off,none⟩ vs.length).run P w= .ok vs.toArray w:=
  run_loadCells_list (P:=P) w ⟨b,off,none⟩ _ (fun j v ad=>by
   have aa:(⟨b,off,none⟩:Addr).add j=⟨b,off+j,none⟩:=by unfold Addr.add;split<;>simp_all
   rw[aa];exact hb j v ad)
 rw[hn]at R;cases E:P.info? ty with
 |none=>simp[E]at I
 |some i=>
  have hs:i.size=n:=by simpa[E]using I
  have ab:(isAgg ty).run P w= .ok true w:=by
   unfold isAgg;rw[Sem.run_bind,run_underlying ac w];cases d<;>simp_all
  simp[loadVar,ab,sizeOf,typeInfo,E,hs,R]
theorem OL(ty:TypeId)(x:Operand)(E:o.op= .load ty x){b off n:Nat}{vs:aO}
 (R:a.eval x= .pointer (some ⟨b,off,none⟩))(hb:∀w,C w->∀j u,vs[j]? =some u->w.cell? ⟨b,off+j,none⟩=some u)(ht:iH P ty n)(hn:vs.length=n)
 (h:K (a.put o.dst (.agg vs.toArray))):o.quiet P a C K:=
 ⟨_,fun w I=>by
  unfold Oper.quietAt execOp;simp only[E,R,Instr.loadAt,Instr.sureAddr,Sem.run_bind,Sem.run_pure,Result.andThen_ok,Ws (hb w I) ht hn];exact⟨F,F⟩,h⟩
theorem OM{f:FuncId}{xs:Array Operand}{I:Array TypeId}{args:Array Value}{v:Value}(j:o.op= .call {callee:= .value (.func f),args:=xs,argTypes:=I})
 (hf:∀args w,(callFunc f args).run P w= .ok (.enter f args) w)(ha:xs.map a.eval=args)
 (hc:∀w,C w->Calls P f args w (fun e w'=>e= .returned v/\C w'))(h:K (a.put o.dst v)):o.quiet P a C K:=
 ⟨v,fun w E=>by
  have u:(execOp a.eval o).run P w= .ok (.enter f args) w:=by
   unfold execOp;simp only[j,resolve,Act.eval,Deferred.ofValue,Sem.run_bind,Sem.run_pure,Result.andThen_ok,invoke];have:(#[]++xs.map a.eval++ #[]:Array Value)=args:=by simp[ha]
   simpa[ha]using hf args w
  unfold Oper.quietAt;rw[u];exact⟨F,hc w E⟩,h⟩
end
theorem Jz(l:aj)(a:aN)(n c:Nat)(at_:Int)(w:World)(aq:l.length=n)(hn:n<=140737488355328)(hc:n<=c)(ap:aK w a (l.map Y)):
 nW 95 #[.slice a n c,.int .i64 at_] w (vW l n at_):=by
 by_cases h:g_ n at_ 8=0
 ·obtain⟨p,rfl,a6⟩:=Jy h J;have aa:vW l n (p:Int)=if fE l p<=4611686018427387904 then .tuple #[.int .i64 (fE l p:Nat),.int .i64 0]else .tuple #[.int .i64 0,.int .i64 4]:=by rw[vW,if_pos h];rfl
  obtain⟨b,off,rfl,I⟩:=ap.gQ (by rw[length_map];omega);have ac:=bq I p J;have ad:=bq I (p+1) J;have ae:=bq I (p+2) J;have af:=bq I (p+3) J;have ag:=bq I (p+4) J;have ai:=bq I (p+5) J;have al:=bq I (p+6) J;have am:=bq I (p+7) J;simp only[<-Nat.add_assoc]at ad ae af ag ai al am;have j3:=block_lt_of_cell ac;obtain⟨H,HV,bk⟩:=aW h aa aq;clear h aa ap I aq;have be:¬c=p:=J;have bh:¬c=p+4:=J;have ha:=AO (P:=prog) underlying248 (len:=4) (Nat.le_refl 4);go_enter func95,ntmps95;go_wp2_with fail;refine(F5 _ n c _ 8 w J J J).mono ?_;rintro e w' ⟨rfl,rfl⟩;rw[H.out];go_wp2_with fail;obtain⟨C,aw⟩:=jE (fun w'=>X w w':World->Prop);have ax:∀w',C w'↔X w w':=fun w'=>by rw[aw]
  clear aw;have R:=O ax;clear ax;have aJ:∀w w',C w->X w w'->C w':=fun w w' an ao=>(R w').2 (((R w).1 an).ext ao);have az:∀w',C w'->∀j u,[Y (l[p]?.getD 0),Y (l[p+1]?.getD 0),Y (l[p+2]?.getD 0),Y (l[p+3]?.getD 0)][j]? =some u->w'.cell? ⟨b,off+p+j,none⟩=some u:=by
   intro w' h j u hu;rw[((R w').1 h).cell (p:=⟨b,_,none⟩) j3]
   match j,hu with
   |0,hu=>cases hu;exact ac
   |1,hu=>cases hu;exact ad
   |2,hu=>cases hu;exact ae
   |3,hu=>cases hu;exact af
  have aE:∀w',C w'->∀j u,[Y (l[p+4]?.getD 0),Y (l[p+5]?.getD 0),Y (l[p+6]?.getD 0),Y (l[p+7]?.getD 0)][j]? =some u->w'.cell? ⟨b,off+(p+4)+j,none⟩=some u:=by
   intro w' h j u hu;rw[((R w').1 h).cell (p:=⟨b,_,none⟩) j3]
   match j,hu with
   |0,hu=>cases hu;exact ag
   |1,hu=>cases hu;exact ai
   |2,hu=>cases hu;exact al
   |3,hu=>cases hu;exact am
  clear ac ad ae af ag ai al am;refine qV (C:=C) 21 au au ((R _).2 (X.refl w).drew) ?_;simp only[take_succ_cons,take_zero,drop_succ_cons,drop_zero];have k4:IntKind.i64.wrap ((p:Int)+4)=(p:Int)+4:=IntWalk.i64_in _ J;have bd:IntKind.i64.wrap ((p:Int)+8)=(p:Int)+8:=IntWalk.i64_in _ J;have a8:(0:Int)<=(p:Int)+4:=J;have a9:(p:Int)+4<=(c:Int):=J;have a_:(p:Int)<=(p:Int)+4:=J;have ba:(0:Int)<=(p:Int)+8:=J;have bc:(p:Int)+8<=(c:Int):=J;have bi:((p:Int)+4).toNat=p+4:=J;have bj:((p:Int)+8).toNat=p+8:=J;have a4:p+8 - (p+4)=4:=J;have hx:=(iW l p).toNat_lt;have a7:=(iW l (p+4)).toNat_lt;have wx:IntKind.u64.wrap ((iW l p).toNat:Int)=((iW l p).toNat:Int):=IntWalk.u64_in _ J;have wy:IntKind.u64.wrap ((iW l (p+4)).toNat:Int)=((iW l (p+4)).toNat:Int):=IntWalk.u64_in _ J;have wz:IntKind.u64.wrap ((iW l p).toNat*4294967296:Int)=((iW l p).toNat*4294967296:Int):=IntWalk.u64_in _ J;have a1:=Wq (iW l p) (iW l (p+4));rw[show(iW l p).toNat*4294967296+(iW l (p+4)).toNat=fE l p from F]at a1;have ar:∀q w',C w'->Calls prog 154 #[.agg #[.int .u8 (l[q]?.getD 0).toNat,.int .u8 (l[q+1]?.getD 0).toNat,.int .u8 (l[q+2]?.getD 0).toNat,.int .u8 (l[q+3]?.getD 0).toNat]] w' fun e a3=>e= .returned (.int .u32 (iW l q).toNat)/\C a3:=
   fun q w' h=>(Jh _ _ _ _ w').mono fun e a3 ⟨an,ao⟩=>⟨an,aJ _ _ h ao⟩
  clear hx a7;iterate 6
   refine wpQuiet_step (fun K E=> ?_);rw[if_pos (by rfl)];apply Exists.intro;refine⟨fun w ab=> ?_,E _ ?_⟩
   go_simp
   first|exact F|exact⟨F,F⟩
   clear E K;refine cO ?_
  refine wpQuiet_step (fun K E=> ?_);rw[if_pos (by rfl)];refine OL _ _ F F az FK F (E _ ?_);clear E K;refine cO ?_;refine wpQuiet_step (fun K E=> ?_);rw[if_pos (by rfl)];refine OM F call154 (by simp[Act.eval,Y]) (ar p) (E _ ?_);clear E K;refine cO ?_;iterate 8
   refine wpQuiet_step (fun K E=> ?_);rw[if_pos (by rfl)];apply Exists.intro;refine⟨fun w ab=> ?_,E _ ?_⟩
   go_simp
   first|exact F|exact⟨F,F⟩
   clear E K;refine cO ?_
  refine wpQuiet_step (fun K E=> ?_);rw[if_pos (by rfl)];apply Exists.intro;refine⟨fun w ab=> ?_,E _ ?_⟩
  go_simp
  first|exact F|exact⟨F,F⟩
  clear E K;refine cO ?_;refine wpQuiet_step (fun K E=> ?_);rw[if_pos (by rfl)];refine OL _ _ F F aE FK F (E _ ?_);clear E K;refine cO ?_;refine wpQuiet_step (fun K E=> ?_);rw[if_pos (by rfl)];refine OM F call154 (by simp[Act.eval,Y]) (ar (p+4)) (E _ ?_);clear E K;refine cO ?_;refine wpQuiet_step (fun K E=> ?_);rw[if_pos (by rfl)];apply Exists.intro;refine⟨fun w ab=> ?_,E _ ?_⟩
  go_simp
  first|exact F|exact⟨F,F⟩
  clear E K;refine cO ?_;refine wpQuiet_step (fun K E=> ?_);rw[if_pos (by rfl)];apply Exists.intro;refine⟨fun w ab=> ?_,E _ ?_⟩
  go_simp
  first|exact F|exact⟨F,F⟩
  clear E K;refine cO ?_;refine wpQuiet_nil ?_;intro w2 a2;have e2:=(R w2).1 a2;clear a2 R aJ az aE ar wx wy wz a1 k4 bd a8 a9 a_ ba bc bi bj a4 ha be bh a6 hc;by_cases a0:fE l p<=4611686018427387904
  ·rw[if_pos a0]at HV;have a5:decide ((4611686018427387904:Int)<(fE l p:Int))=false:=aP J;have hk:IntKind.i64.wrap (fE l p:Int)=(fE l p:Int):=IntWalk.i64_in _ J;go_wp2
   go_ret2
   exact⟨by rw[HV.out];rfl,e2⟩
  ·rw[if_neg a0]at HV;have a5:decide ((4611686018427387904:Int)<(fE l p:Int))=true:=aQ J;go_wp2
   go_ret2
   exact⟨by rw[HV.out];rfl,e2⟩
 ·have aa:vW l n at_= .tuple #[.int .i64 0,.int .i64 (g_ n at_ 8)]:=by rw[vW,if_neg h]
  rw[aa];have bl:(g_ n at_ 8 != 0)=true:=by rw[bne_iff_ne];exact h
  clear aa ap h aq;go_enter func95,ntmps95;go_wp2_with fail;refine(F5 _ n c _ 8 w J J J).mono ?_;rintro e w' ⟨rfl,rfl⟩;go_wp2
  go_ret2
  exact⟨F,X.refl _⟩
end
theorem Wu(n:Nat)(w:World)(hn:n<=140737488355328):
 Calls prog 149 #[.slice none 0 0,.int .i64 n] w fun e w'=>∃v,e= .returned v/\w'.ownsRow w.heap.size 5 1 v 0 []/\X w w':=by
 by_cases I:n=0
 ·subst I;go_enter func149,ntmps149;go_wp2;go_ret;exact⟨_,F,World.ownsRow_nil _ _ _ _,X.refl _⟩
 ·have u:¬((n:Int)<0):=J;have af:IntKind.i64.wrap (n:Int)=(n:Int):=IntWalk.i64_in _ J;have ag:decide ((0:Int)<(n:Int))=true:=aQ J;obtain⟨ae,aa,ad,hs,hb⟩:=info_parts xu;obtain⟨G,j⟩:=jE (grownCap w n 0 5);have ai:n<=G:=by rw[j];exact grownCap_ge w _ _ _
  have E:G<=maxLen:=by rw[j];exact grownCap_le_maxLen w n 0 5 (by unfold maxLen;omega)
  have ac:∀ty,(Builtin.append_ #[32,3] ty #[.slice none 0 0,.int .i64 (n:Int)]).run prog w=
   .ok (.slice (some ⟨w.heap.size,0,none⟩) n G) (w.drew.alloc (.cells (#[]++Builtin.zeroCells (Value.int .u8 0).cells n++Builtin.zeroCells (Value.int .u8 0).cells (G - n)) 5)):=fun ty=>by
   have h:=Lib.run_append_grow_zeros w 32 3 ty 5 ae (.int .u8 0) .i64 .i64 underlying32 underlying3 aa ad none 0 0 [] (by rw[hs];exact run_firstCells_none w.drew 1 0 0 0) n J J J J (by rw[hb];omega)
    (by exact growslice_fits J (by rw[hb];omega))
   rw[Nat.zero_add,<-j]at h;exact h
  have mU:(#[]++Builtin.zeroCells (Value.int .u8 0).cells n++Builtin.zeroCells (Value.int .u8 0).cells (G - n)).size=G*1:=by
   have u:(Value.int .u8 0).cells.size=1:=F;simp[Builtin.zeroCells,u];omega
  have ab:∀cs:Array Value,cs.size=G*1->(w.drew.alloc (.cells cs 5)).ownsRow w.heap.size 5 1 (.slice (some ⟨w.heap.size,0,none⟩) 0 G) 0 []:=fun cs hc=>World.ownsRow_made w.drew cs G l5 E hc;generalize R:(#[]++Builtin.zeroCells (Value.int .u8 0).cells n++Builtin.zeroCells (Value.int .u8 0).cells (G - n))=cs at*;clear j R;unfold maxLen at E;go_enter func149,ntmps149;go_wp2_with (at_builtin;refine Lib.wpList_append_run _ F _ _ _ _ F _ _ F F _ _ (ac _) ?_);all_goals (go_ret;exact⟨_,F,ab cs mU,(X.refl w).drew.alloc _⟩)
abbrev AP:=aN×Nat×aj
def fZ(j:List AP):aj:=(j.map (·.2.2)).flatten
def nS(j:AP):Value:= .slice j.1 j.2.2.length j.2.1
theorem JA{j:List AP}{k:Nat}{u:AP}(h:j[k]? =some u):fZ (j.take (k+1))=fZ (j.take k)++u.2.2:=by grind [fZ,take_add_one]
theorem JB(j:List AP)(k:Nat):(fZ (j.take k)).length<=(fZ j).length:=by
 have u:fZ j=fZ (j.take k)++fZ (j.drop k):=by
  unfold fZ;rw[<-flatten_append,<-map_append,take_append_drop]
 rw[u,length_append];omega
theorem JN(j:List AP)(g E cap:Nat)(w:World)(a3:j.length=E)(bv:E<=140737488355328)(bu:E<=cap)(aE:∀(i:Nat) u,j[i]? =some u->w.cell? ⟨g,i,none⟩=some (nS u))
 (hc:∀u∈j,aK w u.1 (u.2.2.map Y))(af:∀u∈j,u.1=none->u.2.1=0)(a2:(fZ j).length<=140737488355328):
 Calls prog 91 #[.slice (some ⟨g,0,none⟩) E cap] w fun e w'=>∃v,e= .returned v/\w'.ownsRow w.heap.size 5 1 v (fZ j).length ((fZ j).map Y)/\X w w':=by
 obtain⟨ag,ar,a8,a_,aw⟩:=dM a3 aE hc af a2;obtain⟨a6,a0,bp,hs,bj⟩:=info_parts xu;clear aE hc af a2 a3;go_enter func91,ntmps91;go_wp2;go_loopw [3,11] (fun s i wr=>∃k:Nat,k<=E/\s= .int .i64 ((fZ (j.take k)).length:Nat)/\i= .int .i64 k/\wr=w)
  (fun _ i _=>E - (intOf i).toNat)
 case atStart=>exact⟨0,J,by simp[fZ],F,F⟩
 case round=>
  obtain⟨k,hk,rfl,rfl,bw⟩:=hrel;subst wr;by_cases j3:k<E
  ·obtain⟨u,R⟩:∃u,j[k]? =some u:=⟨j[k]'(by rw[ag.out];exact j3),aF⟩;have I:=ar.out k u R;unfold nS at I;have ad:=JA R;have ac:=JB j (k+1);rw[ad]at ac;have bl:=aw.out;rw[length_append]at ac;obtain⟨m,aa⟩:=aC ((fZ (j.take k)).length);obtain⟨q,ab⟩:=aC u.2.2.length;have a4:(fZ (j.take (k+1))).length=m+q:=by rw[ad,length_append,aa,ab]
   rw[aa,ab]at ac;rw[ab]at I;rw[aa];have br:IntKind.i64.wrap ((m:Int)+(q:Int))=(m:Int)+(q:Int):=IntWalk.i64_in _ J;have bt:decide ((m:Int)+(q:Int)<0)=false:=aP J;have bc:=O a4;clear a4 ad ac bl aa ab R;go_wp2;go_roundw
   case rel=>exact⟨k+1,J,by rw[bc.out];go_num,by go_num,aF⟩
   case measure=>simp[intOf];omega
  ·have bm:k=E:=J;subst k;have a5:j.take E=j:=take_of_length_le (by rw[ag.out];omega);rw[a5];have a1:=aw.out;obtain⟨N,an⟩:=aC ((fZ j).length);have ba:=O an;rw[an]at a1⊢;clear a5 an;go_wp2_with fail;refine(Wu N _ a1).mono ?_;rintro e bx ⟨v,rfl,own,be⟩;go_wp2;go_loopw [6,27] (fun v i wr=>∃k:Nat,k<=E/\i= .int .i64 k/\wr.ownsRow w.heap.size 5 1 v (fZ (j.take k)).length ((fZ (j.take k)).map Y)/\X w wr)
    (fun _ i _=>E - (intOf i).toNat)
   case atStart=>exact⟨0,J,F,by simpa[fZ]using own,be⟩
   case round=>
    obtain⟨k,hk,rfl,ae,e2⟩:=hrel;by_cases j3:k<E
    ·obtain⟨u,R⟩:∃u,j[k]? =some u:=⟨j[k]'(by rw[ag.out];exact j3),aF⟩;have I:=ar.out k u R;have hb:=block_lt_of_cell I;rw[<-e2.cell (p:=⟨g,k,none⟩) hb]at I;have ad:=JA R;have ac:=JB j (k+1);rw[ad,ba.out,length_append]at ac;have ai:=(a8 u (mem_of_getElem? R)).ext e2;have af:=a_.out u (mem_of_getElem? R);unfold nS at I;obtain⟨x,c,aq⟩:=u;obtain⟨q,ab⟩:=aC aq.length;obtain⟨m,aa⟩:=aC ((fZ (j.take k)).length);simp only at I ad ac ai af;rw[ab]at I;rw[aa,ab]at ac;rw[aa]at ae;obtain⟨al,am,ax⟩:=aW ad ab aa;clear ad ab aa R hb;cases x with
     |none=>
      have ap:aq=[]:=by
       rcases ai with h|⟨_,_,h,_⟩
       ·simpa using h
       ·cases h
      have bk:c=0:=af F;have bo:q=0:=by rw[<-am.out,ap];rfl
      subst bk;subst bo;have ao:=al.out;rw[ap,append_nil]at ao;have a9:=O ao;clear ao ap al;go_wp2_with (at_builtin;refine wpList_append_own_none F _ _ 32 F w.heap.size 5 a6 1 underlying32 a0 _ _ _ F ae F ?_);go_wp2;go_roundw
      case rel=>exact⟨k+1,J,by go_num,by rw[a9.out,ax.out];exact ae,e2⟩
      case measure=>simp[intOf];omega
     |some bd=>
      go_wp2_with (at_builtin;refine wpList_append_own _ F _ _ 32 F w.heap.size 5 a6 (.int .u8 0) 1 1 underlying32 a0 bp hs bj F aX _ _ _ F ae bd q c (aq.map Y) F ?qc1 (wX ai) (b_ _) ?qc4 ?qc5 e2.size ?_)
      case qc1=>rw[length_map,am.out,Nat.mul_one]
      case qc4=>unfold maxLen;omega
      case qc5=>omega
      intro v2 w2 a7 az _;have bh:X w w2:=e2.grown az (fun bi h=>(ae.lt bi h).1);rw[<-map_append]at a7;clear ae az e2 I ai;go_wp2;go_roundw
      case rel=>exact⟨k+1,J,by go_num,by rw[al.out,length_append,ax.out,am.out];exact a7,bh⟩
      case measure=>simp[intOf];omega
    ·have bm:k=E:=J;subst k;rw[take_of_length_le (by rw[ag.out];omega)]at ae;go_wp2;go_ret;exact⟨_,F,ae,e2⟩
theorem nT{w:World}{B:Nat}{v:Value}{n:Nat}{xs:aO}(h:w.ownsRow B 5 1 v n xs):
 ∃a c,v= .slice a n c/\n<=c/\c<=maxLen/\(a=none->c=0)/\aK w a xs:=by
 obtain⟨ad,h⟩:=h;rcases h with⟨rfl,rfl⟩|⟨g,cap,cu,rfl,hb,aa,E,I,ac,R⟩
 ·refine⟨none,0,F,Nat.le_refl _,by unfold maxLen;omega,fun _=>rfl,.inl ?_⟩;exact length_eq_zero_iff.1 J
 ·refine⟨_,cap,F,E,I,(fun h=>by cases h),.inr ⟨g,0,F,fun i u j=> ?_⟩⟩;rw[<-R]at j;have ab:i<n*1:=by
   have:=(List.getElem?_eq_some_iff.1 j).1;simp at this;omega
  rw[List.getElem?_take_of_lt ab]at j;rw[Nat.zero_add];exact ah.cell' (vs:=cu.toList) (T:=5) (by simpa[ah]using aa) j
theorem mg{w:World}{B B':Nat}{e:TypeId}{j:Nat}{v:Value}{n:Nat}{xs:aO}(h:w.ownsRow B e j v n xs)(hb:B'<=B):w.ownsRow B' e j v n xs:=by
 refine⟨h.1,?_⟩;rcases h.2 with h|⟨g,cap,cu,u,E,I⟩
 ·exact .inl h
 ·exact .inr ⟨g,cap,cu,u,Nat.le_trans hb E,I⟩
theorem Wv(l:aj)(a:aN)(n c:Nat)(x:UInt32)(w:World)(ai:l.length=n)(hn:n<=140737488355320)(ag:aK w a (l.map Y))(af:a=none->c=0):
 Calls prog 160 #[.slice a n c,.int .u32 x.toNat] w fun e w'=>∃v,e= .returned v/\w'.ownsRow w.heap.size 5 1 v (n+4) ((l++gq x).map Y)/\X w w':=by
 obtain⟨aa,ao,an⟩:=aW ai ag af;clear ai ag af;go_enter func160,ntmps160;go_wp2_with fail;refine(Ji x _).mono ?_;rintro e j ⟨rfl,ad⟩;go_wp2_with (first|(refine bg F _ _ _ F F F (ah.aI F F) FK F F (b_ _) ?_));intro w2 ab am;have e2:X w w2:=am.ext (ad.alloc _) ad.size;go_wp2_with fail;have E:ah (w2.alloc (.cells #[.slice a n c,.slice (some ⟨j.heap.size,0,none⟩) 4 4] 32)) w2.heap.size [.slice a n c,.slice (some ⟨j.heap.size,0,none⟩) 4 4] 32:=ah.aI F F;have ac:=ab.alloc (.cells #[.slice a n c,.slice (some ⟨j.heap.size,0,none⟩) 4 4] 32);have u:X w (w2.alloc (.cells #[.slice a n c,.slice (some ⟨j.heap.size,0,none⟩) 4 4] 32)):=e2.alloc _;generalize w2.alloc (.cells #[.slice a n c,.slice (some ⟨j.heap.size,0,none⟩) 4 4] 32)=ar at*;have I:fZ [(a,c,l),(some ⟨j.heap.size,0,none⟩,4,gq x)]=l++gq x:=by simp[fZ]
 have R:(l++gq x).length=n+4:=by rw[length_append,aa.out];rfl
 refine(JN [(a,c,l),(some ⟨j.heap.size,0,none⟩,4,gq x)] w2.heap.size 2 2 ar F J J ?hg ?hc ?hn ?hl).mono ?_
 case hg=>
  intro i al hit
  match i,hit with
  |0,hit=>cases hit;rw[nS];simp only;rw[aa.out];exact E.cell' F
  |1,hit=>cases hit;exact E.cell' F
 case hc=>
  intro al hit;simp only[mem_cons,not_mem_nil,or_false]at hit;rcases hit with rfl|rfl
  ·exact ao.ext u
  ·exact aK.tO ac
 case hn=>
  intro al hit;simp only[mem_cons,not_mem_nil,or_false]at hit;rcases hit with rfl|rfl
  ·exact an
  ·intro h;cases h
 case hl=>rw[I,R];omega
 rintro e aw ⟨v,rfl,own,ae⟩;rw[I,R]at own;have aq:aw.ownsRow w.heap.size 5 1 v (n+4) ((l++gq x).map Y):=mg own u.size;have ap:=u.ext ae;clear I R E ac u own ae ab am e2;go_wp2;go_ret;exact⟨_,F,aq,ap⟩
def uU(k:Int):Nat:=if k<0∨4611686018427387904<k then 0 else k.toNat
theorem Wx(k:Int):uU k<=4611686018427387904:=by unfold uU;split<;>omega
theorem Bc(u:UInt64):(dG u).length=8:=F
theorem OO(l:aj)(a:aN)(n c:Nat)(k:Int)(w:World)(a0:l.length=n)(hn:n<=140737488355320)(aE:aK w a (l.map Y))(al:a=none->c=0):
 Calls prog 159 #[.slice a n c,.int .i64 k] w fun e w'=>∃v,e= .returned v/\w'.ownsRow w.heap.size 5 1 v (n+8) ((l++dG (UInt64.ofNat (uU k))).map Y)/\X w w':=by
 obtain⟨ai,ax,aw⟩:=aW a0 aE al;clear a0 aE al;obtain⟨u,az⟩:=aC (UInt64.ofNat (uU k));have ar:(u.toNat:Int)=uU k:=by
  have:=Wx k;rw[<-az,UInt64.toNat_ofNat'];omega
 rw[az];clear az;by_cases hk:k<0∨4611686018427387904<k
 ·have al:(u.toNat:Int)=0:=by rw[ar,uU,if_pos hk];rfl
  clear ar;have am:=fun w=>Jj u w;rw[al]at am;by_cases Co:k<0
  ·go_enter func159,ntmps159;go_wp2_with fail;refine(am _).mono ?_;rintro e j ⟨rfl,ad⟩;go_wp2_with (first|(refine bg F _ _ _ F F F (ah.aI F F) AZ F F (b_ _) ?_));intro w2 ab ag;have e2:X w w2:=ag.ext (ad.alloc _) ad.size;go_wp2_with fail;have I:ah (w2.alloc (.cells #[.slice a n c,.slice (some ⟨j.heap.size,0,none⟩) 8 8] 32)) w2.heap.size [.slice a n c,.slice (some ⟨j.heap.size,0,none⟩) 8 8] 32:=ah.aI F F;have ac:=ab.alloc (.cells #[.slice a n c,.slice (some ⟨j.heap.size,0,none⟩) 8 8] 32);have E:X w (w2.alloc (.cells #[.slice a n c,.slice (some ⟨j.heap.size,0,none⟩) 8 8] 32)):=e2.alloc _;generalize w2.alloc (.cells #[.slice a n c,.slice (some ⟨j.heap.size,0,none⟩) 8 8] 32)=ap at*;have R:fZ [(a,c,l),(some ⟨j.heap.size,0,none⟩,8,dG u)]=l++dG u:=by simp[fZ]
   have aa:(l++dG u).length=n+8:=by rw[length_append,ai.out];rfl
   refine(JN [(a,c,l),(some ⟨j.heap.size,0,none⟩,8,dG u)] w2.heap.size 2 2 ap F J J ?hg ?hc ?hn ?hl).mono ?_
   case hg=>
    intro i af hit
    match i,hit with
    |0,hit=>cases hit;rw[nS];simp only;rw[ai.out];exact I.cell' F
    |1,hit=>cases hit;exact I.cell' F
   case hc=>
    intro af hit;simp only[mem_cons,not_mem_nil,or_false]at hit;rcases hit with rfl|rfl
    ·exact ax.ext E
    ·exact aK.tO ac
   case hn=>
    intro af hit;simp only[mem_cons,not_mem_nil,or_false]at hit;rcases hit with rfl|rfl
    ·exact aw
    ·intro h;cases h
   case hl=>rw[R,aa];omega
   rintro e aq ⟨v,rfl,own,ae⟩;rw[R,aa]at own;have ao:aq.ownsRow w.heap.size 5 1 v (n+8) ((l++dG u).map Y):=mg own E.size;have an:=E.ext ae;clear R aa I ac E own ae ab ag e2;go_wp2;go_ret;exact⟨_,F,ao,an⟩
  ·have y9:4611686018427387904<k:=J;go_enter func159,ntmps159;go_wp2_with fail;refine(am _).mono ?_;rintro e j ⟨rfl,ad⟩;go_wp2_with (first|(refine bg F _ _ _ F F F (ah.aI F F) AZ F F (b_ _) ?_));intro w2 ab ag;have e2:X w w2:=ag.ext (ad.alloc _) ad.size;go_wp2_with fail;have I:ah (w2.alloc (.cells #[.slice a n c,.slice (some ⟨j.heap.size,0,none⟩) 8 8] 32)) w2.heap.size [.slice a n c,.slice (some ⟨j.heap.size,0,none⟩) 8 8] 32:=ah.aI F F;have ac:=ab.alloc (.cells #[.slice a n c,.slice (some ⟨j.heap.size,0,none⟩) 8 8] 32);have E:X w (w2.alloc (.cells #[.slice a n c,.slice (some ⟨j.heap.size,0,none⟩) 8 8] 32)):=e2.alloc _;generalize w2.alloc (.cells #[.slice a n c,.slice (some ⟨j.heap.size,0,none⟩) 8 8] 32)=ap at*;have R:fZ [(a,c,l),(some ⟨j.heap.size,0,none⟩,8,dG u)]=l++dG u:=by simp[fZ]
   have aa:(l++dG u).length=n+8:=by rw[length_append,ai.out];rfl
   refine(JN [(a,c,l),(some ⟨j.heap.size,0,none⟩,8,dG u)] w2.heap.size 2 2 ap F J J ?hg ?hc ?hn ?hl).mono ?_
   case hg=>
    intro i af hit
    match i,hit with
    |0,hit=>cases hit;rw[nS];simp only;rw[ai.out];exact I.cell' F
    |1,hit=>cases hit;exact I.cell' F
   case hc=>
    intro af hit;simp only[mem_cons,not_mem_nil,or_false]at hit;rcases hit with rfl|rfl
    ·exact ax.ext E
    ·exact aK.tO ac
   case hn=>
    intro af hit;simp only[mem_cons,not_mem_nil,or_false]at hit;rcases hit with rfl|rfl
    ·exact aw
    ·intro h;cases h
   case hl=>rw[R,aa];omega
   rintro e aq ⟨v,rfl,own,ae⟩;rw[R,aa]at own;have ao:aq.ownsRow w.heap.size 5 1 v (n+8) ((l++dG u).map Y):=mg own E.size;have an:=E.ext ae;clear R aa I ac E own ae ab ag e2;go_wp2;go_ret;exact⟨_,F,ao,an⟩
 ·have Co:¬k<0:=J;have y9:¬4611686018427387904<k:=J;have al:(u.toNat:Int)=k:=by rw[ar,uU,if_neg hk];omega
  have a1:IntKind.u64.wrap k=k:=IntWalk.u64_in _ J;clear ar hk;have am:=fun w=>Jj u w;rw[al]at am;go_enter func159,ntmps159;go_wp2_with fail;refine(am _).mono ?_;rintro e j ⟨rfl,ad⟩;go_wp2_with (first|(refine bg F _ _ _ F F F (ah.aI F F) AZ F F (b_ _) ?_));intro w2 ab ag;have e2:X w w2:=ag.ext (ad.alloc _) ad.size;go_wp2_with fail;have I:ah (w2.alloc (.cells #[.slice a n c,.slice (some ⟨j.heap.size,0,none⟩) 8 8] 32)) w2.heap.size [.slice a n c,.slice (some ⟨j.heap.size,0,none⟩) 8 8] 32:=ah.aI F F;have ac:=ab.alloc (.cells #[.slice a n c,.slice (some ⟨j.heap.size,0,none⟩) 8 8] 32);have E:X w (w2.alloc (.cells #[.slice a n c,.slice (some ⟨j.heap.size,0,none⟩) 8 8] 32)):=e2.alloc _;generalize w2.alloc (.cells #[.slice a n c,.slice (some ⟨j.heap.size,0,none⟩) 8 8] 32)=ap at*;have R:fZ [(a,c,l),(some ⟨j.heap.size,0,none⟩,8,dG u)]=l++dG u:=by simp[fZ]
  have aa:(l++dG u).length=n+8:=by rw[length_append,ai.out];rfl
  refine(JN [(a,c,l),(some ⟨j.heap.size,0,none⟩,8,dG u)] w2.heap.size 2 2 ap F J J ?hg ?hc ?hn ?hl).mono ?_
  case hg=>
   intro i af hit
   match i,hit with
   |0,hit=>cases hit;rw[nS];simp only;rw[ai.out];exact I.cell' F
   |1,hit=>cases hit;exact I.cell' F
  case hc=>
   intro af hit;simp only[mem_cons,not_mem_nil,or_false]at hit;rcases hit with rfl|rfl
   ·exact ax.ext E
   ·exact aK.tO ac
  case hn=>
   intro af hit;simp only[mem_cons,not_mem_nil,or_false]at hit;rcases hit with rfl|rfl
   ·exact aw
   ·intro h;cases h
  case hl=>rw[R,aa];omega
  rintro e aq ⟨v,rfl,own,ae⟩;rw[R,aa]at own;have ao:aq.ownsRow w.heap.size 5 1 v (n+8) ((l++dG u).map Y):=mg own E.size;have an:=E.ext ae;clear R aa I ac E own ae ab ag e2;go_wp2;go_ret;exact⟨_,F,ao,an⟩
theorem DL(l:aj)(a:aN)(n c:Nat)(w:World)(aa:l.length=n)(hn:n<=140737488355320)(I:aK w a (l.map Y)):
 Calls prog 58 #[.slice a n c] w fun e w'=>∃v,e= .returned v/\w'.ownsRow w.heap.size 5 1 v n (l.map Y)/\(v= .slice none 0 0↔a=none)/\X w w':=by
 obtain⟨u,j⟩:=aB aa I;clear aa I;obtain⟨an,af,am,hs,ae⟩:=info_parts xu;have ap:∀(w:World) (a:aN) (n c n' c':Nat),(binOp .eql 32 (.slice a n c) (.slice none n' c')).run prog w= .ok (.bool a.isNone) w:=fun w a n c n' c'=>Lib.run_eql_slice_nil w _ _ a n c n' c' underlying32;cases a with
 |none=>
  have E:l=[]:=by
   rcases j.out with h|⟨_,_,h,_⟩
   ·simpa using h
   ·cases h
  have ag:n=0:=by rw[<-u.out,E];rfl
  subst ag;have ab:=O E;clear E u j;go_enter func58,ntmps58;go_wp2;go_ret;exact⟨_,F,by rw[ab.out];exact World.ownsRow_nil _ _ _ _,aF,X.refl _⟩
 |some ac=>
  go_enter func58,ntmps58;go_wp2_with (at_builtin;refine wpList_append_own _ F _ _ 32 F w.heap.size 5 an (.int .u8 0) 1 1 underlying32 af am hs ae F aX _ _ _ F (World.ownsRow_made w #[] 0 l5 (Nat.zero_le _) aF) ac n c (l.map Y) F ?qc1 (wX (j.ext ((X.refl w).alloc _))) (b_ _) ?qc4 ?qc5 ?qc6 ?_)
  case qc1=>rw[length_map,u.out,Nat.mul_one]
  case qc4=>unfold maxLen;omega
  case qc5=>omega
  case qc6=>simp
  intro v' ao al R ai;have ad:X w ao:=((X.refl w).alloc _).grown R (by intro k hk;simp[Value.ownBlock]at hk;omega);clear R;go_wp2;go_ret;exact⟨v',F,al,by simp[ai],ad⟩
theorem OQ(x:UInt32):m_ (UInt8.ofNat (x.toNat / 16777216)) (UInt8.ofNat (x.toNat / 65536)) (UInt8.ofNat (x.toNat / 256)) (UInt8.ofNat x.toNat)=x:=by
 have j:=x.toNat_lt;unfold m_;apply UInt32.toNat_inj.1;rw[UInt32.toNat_ofNat',UInt8.toNat_ofNat',UInt8.toNat_ofNat',UInt8.toNat_ofNat',UInt8.toNat_ofNat'];omega
theorem OU(l m:aj)(a b c d:UInt8)(r:aj)(q:Nat)(h:l.length=q)(j:m=a::b::c::d::r):iW (l++m) q=m_ a b c d:=by grind [iW]
theorem LA(l:aj)(x:UInt32)(q:Nat)(h:l.length=q):iW (l++gq x) q=x:=by grind [gq,OU,OQ]
theorem Wy(l:aj)(u:UInt64)(q:Nat)(h:l.length=q):fE (l++dG u) q=u.toNat:=by
 have j:=u.toNat_lt;unfold fE dG;rw[<-append_assoc,LA (l++gq _) _ (q+4) (by rw[length_append,h];rfl)];rw[append_assoc,OU l (gq _++gq _) _ _ _ _ _ q h F,OQ,UInt32.toNat_ofNat',UInt32.toNat_ofNat'];omega
section
open Go Go.RowKit
attribute [local irreducible] wpQuiet
theorem WA{w:World}{a:aN}{l m:aj}{n:Nat}(h:aK w a ((l++m).map Y))(hn:l.length=n):aK w a (l.map Y):=by
 have:=h.take n;rwa[<-map_take,take_left' hn]at this
end
theorem WB{P:Program}{u:Func}{j:Ending->World->Prop}{a:Act}{w:World}(R:u.results= #[])(I:a.defers=[])(E:j (.returned (.tuple #[])) w):bodyPost P u j .ret a w:=
 bodyPost_ret (results_none R _ _ _) I E
theorem WC(s0 t b r:aj)(I:Int)(g m h n c:Nat)(a:aN)(T:TypeId)(w:World)(hs:s0.length=64)(aw:r.length=32)(hb:b.length=n)(aq:t.length=32*m+h)(bi:0<h)(bj:h+n<32)
 (ab:r.take h=t.drop (32*m))
 (al:ah w g (sm (gZ s0 t m) r h I) T)(bk:n<=c)(hc:c<=9223372036854775807)(ai:a=none->n=0)(an:aK w a (b.map Y))(am:n=0∨∀x,a=some x->some x.block≠some g):
 Calls prog 267 #[.pointer (some ⟨g,0,none⟩),.slice a n c] w (FZ w g T s0 (t++b) I):=by
 obtain⟨R,E,j,u,aE,ba,a2,ag⟩:=jg hs aw hb aq ai am an al;have CX:=O ab;clear hs aw hb aq ai am an al ab;have a_:=ag.cell' (w_ h I (iV R m) E);have be:decide ((0:Int)<(h:Int))=true:=aQ J;have bo:¬32=h:=J;have bl:(0:Int)<=(h:Int):=J;have bm:(h:Int)<=32:=J;have hk:IntKind.i64.wrap ((h:Int)+n)=(h:Int)+n:=IntWalk.i64_in _ J;have bh:decide ((h:Int)+n<32)=true:=aQ J;have ar:n=Nat.min n (32 - h):=(Nat.min_eq_left J).symm;have ap:(b.map Y).length=n:=by rw[length_map,j.out]
 have ao:64+h+n<=(sm (gZ s0 t m) r h I).length:=by rw[Dy _ _ (iV R _) E.out];omega
 have uW:=FN (xs:=b) h I (iV (t:=t) R m) E h (by rw[j.out];omega);rw[j.out]at uW;have ax:(r.take h++b++r.drop (h+n)).length=32:=by rw[length_append,length_append,length_take,j.out,length_drop,E.out];omega
 have ab:(r.take h++b++r.drop (h+n)).take (h+n)=(t++b).drop (32*m):=by
  rw[drop_append_of_le_length (by rw[u.out];omega),<-CX.out,take_append_of_le_length (by rw[length_append,length_take,j.out,E.out];omega),
   take_of_length_le (by rw[length_append,length_take,j.out,E.out];omega)]
 generalize r.take h++b++r.drop (h+n)=r2 at*;obtain⟨a7,a6,a3,a9,ac,a8⟩:=iq ar ap ao uW ax ab;clear ar ap ao uW ax ab;go_enter func267,ntmps267;go_wp2;refine qV (C:=fun w'=>∃n,w'=w.drewN n) 9 au au ⟨1,F⟩ ?_;simp only[take_succ_cons,take_zero,drop_succ_cons,drop_zero];iterate 9 quiet_step (fail)
 refine wpQuiet_nil ?_;rintro _ ⟨nq,rfl⟩;go_wp2_with (refine Kc F _ _ _ _ F F F (ag.drewN (n:=nq)) underlying32 gu a6 a7 aE (a2.ext ((X.refl w).drewN nq)) a3 (b_ _) ?_);intro bp aa az;rw[a9.out]at aa;obtain⟨a0,a4⟩:=aB aa (A_ (bR (I6 w (some g)) nq) az);have bd:=aa.frozen 96;have bc:=aa.cell' (w_ h I (iV R m) ac);clear aa az a_;go_wp2_with (refine zy F _ _ _ _ F (k:=n) F F underlying32 gu (Nat.le_refl n) ?_);have ad:=a0.set 96 (.int .i64 ((h:Int)+n));rw[Dz _ _ _ (iV R _) ac.out]at ad;obtain⟨a1,a5⟩:=aB ad (yB a4 96 (.int .i64 ((h:Int)+n)));clear ad;refine WB F F ⟨F,⟨r2,ac,?_,?_⟩,a5⟩
 ·have ae:(t++b).length%32=h+n:=by rw[length_append,u.out,j.out];omega
  have af:(t++b).length / 32=m:=by rw[length_append,u.out,j.out];omega
  rw[ae,af];exact a8
 ·have ae:(t++b).length%32=h+n:=by rw[length_append,u.out,j.out];omega
  have af:(t++b).length / 32=m:=by rw[length_append,u.out,j.out];omega
  rw[ae,af,DJ _ (by rw[u.out];omega)];exact a1
theorem WE(s0 t E u r:aj)(R:Int)(g m h n n2 c:Nat)(a:aN)(T:TypeId)(w:World)(hs:s0.length=64)(a_:r.length=32)(hb:u.length=n2)(ai:E.length=32 - h)(ap:t.length=32*m+h)(cR:0<h)(cS:h<32)
 (hn:n=32 - h+n2)(al:r.take h=t.drop (32*m))
 (bx:ah w g (sm (gZ s0 t m) r h R) T)(cT:n<=c)(hc:c<=9223372036854775807)(bw:a=none->n=0)(a1:aK w a ((E++u).map Y))(b0:n=0∨∀x,a=some x->some x.block≠some g):
 Calls prog 267 #[.pointer (some ⟨g,0,none⟩),.slice a n c] w (FZ w g T s0 (t++E++u) R):=by
 obtain⟨I,am,ag,az,cM,bd,be,cL⟩:=jg hs a_ hb ai ap bw (b0.resolve_left J) a1;obtain⟨bm,CX,cp⟩:=aW bx al hn;have b9:(t++E).length=32*(m+1):=by rw[length_append,ap,ai];omega
 have ad:=O b9;have b2:(r.take h++E)=(t++E).drop (32*m):=by rw[drop_append_of_le_length (by rw[ap];omega),al]
 have bz:qW (gZ s0 t m) (r.take h++E)=gZ s0 (t++E) (m+1):=by
  have nE:(r.take h++E).length=32:=by rw[length_append,length_take,ai,a_];omega
  rw[gZ,<-b2,DJ _ (by rw[ap];omega),take_of_length_le (l:=r.take h++E) J]
 have cd:=O bz;have b3:aK w a (E.map Y):=WA (m:=u) a1 F;have cf:=O b3;have b4:aK w (dL a c (32 - h)) (u.map Y):=by
  have ab:=a1.shift c (32 - h) n2 J;rw[<-map_drop,<-ai,drop_left,take_of_length_le (by rw[length_map];omega)]at ab;rwa[ai]at ab
 have iB:=O b4;clear hs a_ hb ap bw b0 a1 bx al b9 b2 bz b3 b4 ai;have bu:=bm.cell' (w_ h R (iV I m) am);have cQ:decide ((0:Int)<(h:Int))=true:=aQ J;have cX:¬32=h:=J;have cV:(0:Int)<=(h:Int):=J;have cW:(h:Int)<=32:=J;obtain⟨j,b8⟩:=aC (32 - h);have hk:IntKind.i64.wrap ((h:Int)+j)=32:=by
  rw[show(h:Int)+j=32 by omega];exact IntWalk.i64_in _ J
 have aq:j=Nat.min n j:=(Nat.min_eq_right J).symm;have ao:(E.map Y).length=j:=by rw[length_map,az.out];exact b8
 have an:64+h+j<=(sm (gZ s0 t m) r h R).length:=by rw[Dy _ _ (iV I _) am.out];omega
 have uW:=FN (xs:=E) h R (iV (t:=t) I m) am h (by rw[az.out];omega);rw[az.out,show h+(32 - h)=32 by omega,drop_of_length_le (by rw[am.out];omega),append_nil]at uW;have ar:(r.take h++E).length=32:=by rw[length_append,length_take,az.out,am.out];omega
 generalize r.take h++E=r2 at*;obtain⟨cn,cl,ch,cr,ae⟩:=dM aq ao an uW ar;clear aq ao an uW ar;have cE:j<=n:=J;clear hn;go_enter func267,ntmps267;go_wp2;refine qV (C:=fun w'=>∃n,w'=w.drewN n) 9 au au ⟨1,F⟩ ?_;simp only[take_succ_cons,take_zero,drop_succ_cons,drop_zero];iterate 9 quiet_step (fail)
 refine wpQuiet_nil ?_;rintro _ ⟨nq,rfl⟩;go_wp2_with (refine Kc F _ _ _ _ F F F (bm.drewN (n:=nq)) underlying32 gu cl cn bd (cf.ext ((X.refl w).drewN nq)) ch (b_ _) ?_);intro bc k1 a2;rw[cr.out]at k1;obtain⟨ax,aE⟩:=aB k1 (A_ (bR (I6 w (some g)) nq) a2);have bv:=k1.frozen 96;have cv:=k1.cell' (w_ h R (iV I m) ae);clear k1 a2 bu;go_wp2_with (refine zy F _ _ _ _ F (k:=j) F F underlying32 gu cE ?_);have k2:=ax.set 96 (.int .i64 32);rw[Dz _ _ _ (iV I _) ae.out]at k2;obtain⟨bj,bp⟩:=aB k2 (yB aE 96 (.int .i64 32));generalize World.setCell bc _ _=w2 at*;have aw:∀i,i<32->w2.cell? ⟨g,64+i,none⟩=some (.int .u8 ((r2[i]?.getD 0).toNat:Int)):=fun i a9=>k2.cell' (VK 32 R (iV I m) ae a9);have a0:=O aw;clear k2 bv cv aw;refine(Dw _ r2 _ g g 64 T w2 (iV I m) bj a0 (.inr l5)).mono ?_;rintro e cb ⟨rfl,k3,g3⟩;rw[cd.out]at k3;have ba:ah cb g (sm (gZ s0 (t++E) (m+1)) r2 32 R) T:=k3;obtain⟨bk,br⟩:=aB ba (l9 bp g3);have cx:=k3.frozen 96;have cw:=ba.cell' (w_ 32 R (iV I (m+1)) ae);clear k3 ba g3;go_wp2;have k4:=bk.set 96 (.int .i64 0);rw[Dz _ _ _ (iV I _) ae.out]at k4;obtain⟨bl,bt⟩:=aB k4 (yB br 96 (.int .i64 0));generalize World.setCell cb _ _=cY at*;have bo:=O (iB.grown bt (Dx be));have bi:Hid (n2=0∨∀x,dL a c (32 - h)=some x->some x.block≠some g):=O (.inr (Dx (c:=c) (k:=32 - h) be));rw[b8]at bo bi;have cF:n - j=n2:=by have:=cp.out;omega
 have cc:Hid (dL a c j=none->n2=0):=O fun e=>by have:=bd.out (FM.1 e);omega
 rw[cF];clear k4 cx cw bk bj br bp a0 ax aE;generalize dL a c j=ct at*;obtain⟨ac,ca⟩:=aC (t++E);obtain⟨af,Dm⟩:=aC (m+1);obtain⟨a5,cA⟩:=aC (c - j);rw[ca,Dm]at bl ad;rw[ca,cA];have cG:n2<=a5:=J;go_loopw [1] (fun x wr=>∃(k n' c':Nat) (a':aN),x= .slice a' n' c'/\n'+32*k=n2/\n'<=c'/\c'<=a5/\Hid (a'=none->n'=0)/\Hid (n'=0∨∀x,a'=some x->some x.block≠some g)/\
  Hid (aK wr a' ((u.drop (32*k)).map Y))/\Hid (ah wr g (sm (gZ s0 (ac++u) (af+k)) r2 0 R) T)/\Hid (w.grownBy wr (some g)))
  (fun x _=>zf x)
 case atStart=>exact⟨0,n2,a5,ct,F,J,cG,J,cc,bi,O (by rw[Nat.mul_zero,drop_zero];exact bo),O (by rw[Nat.add_zero,DJ _ (by rw[ad.out];omega)];exact bl),bt⟩
 case round=>
  obtain⟨k,n',c',a',rfl,hk,cU,cP,a6,cy,tF,b1,b7⟩:=hrel;by_cases j3:32<=n'
  ·have cC:decide ((32:Int)<=(n':Int))=true:=aQ J;have aa:(u.drop (32*k)).length=n':=by rw[length_drop,ag.out];omega
   have cH:a'≠none:=fun e=>by have:=a6.out e;omega
   obtain⟨gb,off,rfl,b5⟩:=tF.gQ (by rw[length_map,aa];omega);have a8:=cy.resolve_left J;have cD:gb≠g:=fun e=>a8 _ F (by rw[e]);have bh:=O a8;clear a8;have cN:=AO (P:=prog) underlying30 (len:=n') j3;have aw:∀i,i<32->wr.cell? ⟨gb,off+i,none⟩=some (.int .u8 ((((u.drop (32*k)).take 32)[i]?.getD 0).toNat:Int)):=by
    intro i a9;refine b5 i _ ?_;rw[List.getElem?_take_of_lt a9];exact zD J
   have a0:=O aw;clear aw b5 cH;have ck:=O aa;clear aa;go_wp2_with fail;refine(Dw _ ((u.drop (32*k)).take 32) _ g gb off T wr (iV I _) b1 a0 (.inl cD)).mono ?_;rintro e bc ⟨rfl,E,g1⟩;have b':qW (gZ s0 (ac++u) (af+k)) ((u.drop (32*k)).take 32)=gZ s0 (ac++u) (af+(k+1)):=by
    rw[<-Nat.add_assoc,gZ,FY ad.out]
   rw[b']at E;have ax:=O E;clear E b';obtain⟨aE,cz⟩:=aB (l9 b7 g1) (tF.grown g1 bh);clear g1;go_wp2_with (refine zy F _ _ _ _ F (k:=32) F F underlying32 gu j3 ?_);go_roundw
   case rel=>
    refine⟨k+1,n' - 32,c' - 32,_,F,J,J,J,O fun e=> ?_,O (.inr (Dx bh)),O ?_,ax,aE⟩
    ·have:=a6.out (FM.1 e);omega
    ·have ab:=cz.shift c' 32 (n' - 32) J;rw[<-map_drop,drop_drop,take_of_length_le (by rw[length_map,length_drop,ag.out];omega)]at ab;rwa[show 32*k+32=32*(k+1) by omega]at ab
   case measure=>simp[zf];omega
  ·have cC:decide ((32:Int)<=(n':Int))=false:=aP J;have aa:(u.drop (32*k)).length=n':=by rw[length_drop,ag.out];omega
   have ao:((u.drop (32*k)).map Y).length=n':=by rw[length_map,aa]
   have aq:n'=Nat.min n' 32:=(Nat.min_eq_left J).symm;have co:=O aq;clear aq;have an:64+n'<=(sm (gZ s0 (ac++u) (af+k)) r2 0 R).length:=by rw[Dy _ _ (iV I _) ae.out];omega
   have ci:=O an;clear an;have uW:=FN (xs:=u.drop (32*k)) 0 R (iV (t:=ac++u) I (af+k)) ae 0 (by rw[aa];omega);rw[take_zero,nil_append,Nat.add_zero,Nat.zero_add,aa]at uW;have ar:(u.drop (32*k)++r2.drop n').length=32:=by rw[length_append,aa,length_drop,ae.out];omega
   have al:(u.drop (32*k)++r2.drop n').take n'=u.drop (32*k):=by rw[<-aa,take_left]
   have b6:=FY (b:=u) (k:=k) ad;generalize u.drop (32*k)=bb at*;obtain⟨cg,ck⟩:=aB b6 aa;clear aa b6;have cm:=O ao;clear ao;generalize cI:bb++r2.drop n'=cJ at*;obtain⟨cq,a3,cs⟩:=aW al ar uW;clear al ar uW cI;go_wp2_with (refine Kc F _ _ _ _ F F F b1 underlying32 gu cm co a6 tF ci (b_ _) ?_);intro bc E a2;rw[cs.out]at E;have bv:=E.frozen 96;have bu:=E.cell' (w_ 0 R (iV I (af+k)) a3);go_wp2;have a4:=E.set 96 (.int .i64 (n':Int));rw[Dz _ _ _ (iV I _) a3.out]at a4;obtain⟨ce,cj⟩:=aB a4 (yB (A_ b7 a2) 96 (.int .i64 (n':Int)));clear a4;refine bX F F ⟨F,⟨cJ,a3,?_,?_⟩,cj⟩
   ·have ab:(ac++u).length%32=n':=by rw[length_append,ad.out,ag.out];omega
    have a7:(ac++u).length / 32=af+k:=by rw[length_append,ad.out,ag.out];omega
    rw[ab,a7,cg.out];exact cq
   ·have ab:(ac++u).length%32=n':=by rw[length_append,ad.out,ag.out];omega
    have a7:(ac++u).length / 32=af+k:=by rw[length_append,ad.out,ag.out];omega
    rw[ab,a7];exact ce
theorem F6(w:World)(n:Nat)(hn:n<=140737488355328):(Instr.makeSlice 32 (.int .i64 (n:Int)) (.int .i64 (n:Int))).run prog w=
 .ok (.slice (some ⟨w.heap.size,0,none⟩) n n) (w.alloc (.cells ((List.replicate n (0:UInt8)).map Y).toArray 5)):=by
 obtain⟨E,j,u,hs,hb⟩:=info_parts xu;have h:=run_make (P:=prog) w 32 5 E (.int .u8 0) underlying32 j u .i64 .i64 n n J J (by rw[hb];omega) J;rw[h,hs];have:madeCells (Value.int .u8 0).cells ((n:Int).toNat*1)=((List.replicate n (0:UInt8)).map Y).toArray:=by
  have e:(Value.int .u8 0).cells= #[.int .u8 0]:=F;apply Array.ext
  ·simp[size_madeCells]
  ·intro i I R;simp[madeCells,e,Y,Nat.mod_one]
 rw[this];simp
theorem LB{ops:Array Oper}{rest:List Oper}{o:Oper}{a:Act}{w:World}{Q:Exit->Act->World->Prop}(u:o.guard=none)(x y:Operand)(E:o.op= .makeSlice 32 x y){n:Nat}
 (I:a.eval x= .int .i64 (n:Int))(R:a.eval y= .int .i64 (n:Int))(hn:n<=140737488355328)
 (h:wpList prog ops Q rest (a.put o.dst (.slice (some ⟨w.heap.size,0,none⟩) n n)) (w.alloc (.cells ((List.replicate n (0:UInt8)).map Y).toArray 5))):wpList prog ops Q (o::rest) a w:=
 wpList_plain u fun K j=>by
  unfold Oper.wp execOp;simp only[E,I,R,Result.andThen_ok,Sem.run_bind,Sem.run_pure,F6 w n hn];exact j _ _ h
theorem JC(s0 t b:aj)(j:Int)(g n c:Nat)(a:aN)(T:TypeId)(w:World)(hs:s0.length=64)(hb:b.length=n)
 (ai:lQ w g T s0 t j)(hn:n<=140737488355328)(aa:n<=c)(hc:c<=9223372036854775807)(u:a=none->n=0)(R:aK w a (b.map Y))(I:n=0∨∀x,a=some x->some x.block≠some g):
 Calls prog 267 #[.pointer (some ⟨g,0,none⟩),.slice a n c] w (FZ w g T s0 (t++b) j):=by
 obtain⟨r,ab,ad,E⟩:=ai;have ac:t.length=32*(t.length / 32)+t.length%32:=J;generalize am:t.length / 32=m at*;generalize al:t.length%32=h at*;have j3:h<32:=J;by_cases af:h=0
 ·subst af;exact V9 s0 t b r j g m n c a T w hs ab hb J E hn aa hc u R I
 ·by_cases ag:h+n<32
  ·exact WC s0 t b r j g m h n c a T w hs ab hb ac J ag ad E aa hc u R I
  ·have ae:b.take (32 - h)++b.drop (32 - h)=b:=take_append_drop _ _;have:=WE s0 t (b.take (32 - h)) (b.drop (32 - h)) r j g m h n (n - (32 - h)) c a T w hs ab (by rw[length_drop,hb]) (by rw[length_take,hb];omega) ac J j3 J ad E aa hc u (by rw[ae];exact R) I;rwa[append_assoc,ae]at this
theorem WG{w w':World}{a:aN}{xs:aO}{r:Option Nat}{n:Nat}(h:aK w a xs)(j:xs.length=n)(k:w.grownBy w' r)(hn:n=0∨∀x,a=some x->some x.block≠r):aK w' a xs:=by
 rcases hn with rfl|hn
 ·exact .inl (length_eq_zero_iff.1 j)
 ·exact h.grown k hn
theorem WH{w0:World}{a:aN}{xs:aO}{n g:Nat}(h:aK w0 a xs)(aa:xs.length=n)(R:w0.heap.size<=g):n=0∨∀x,a=some x->some x.block≠some g:=by
 by_cases j:n=0
 ·exact .inl j
 ·refine .inr ?_;intro x u;obtain⟨b,off,rfl,hc⟩:=h.gQ J;cases u;have E:b<w0.heap.size:=block_lt_of_cell (hc 0 _ (List.getElem?_eq_getElem J));intro e;have I:b=g:=by injection e
  omega
abbrev vX:TypeId:=350
theorem OX:iH prog 350 98:=⟨⟨_,underlying350,F⟩,au⟩
theorem lQ.blk{w:World}{g:Nat}{T:TypeId}{s0 t:aj}{j:Int}(h:lQ w g T s0 t j):∃vs,vs.length=vs.length/\ah w g vs T:=by
 obtain⟨r,_,_,hb⟩:=h;exact⟨_,F,hb⟩
theorem lQ.lt{w:World}{g:Nat}{T:TypeId}{s0 t:aj}{j:Int}(h:lQ w g T s0 t j):g<w.heap.size:=by
 obtain⟨r,_,_,hb⟩:=h;exact hb.lt
theorem lQ.ext{w w':World}{g:Nat}{T:TypeId}{s0 t:aj}{j:Int}(h:lQ w g T s0 t j)(k:X w w'):lQ w' g T s0 t j:=by
 obtain⟨r,u,E,hb⟩:=h;exact⟨r,u,E,hb.ext k⟩
theorem lQ.grown{w w':World}{g:Nat}{T:TypeId}{s0 t:aj}{j:Int}{r:Option Nat}(h:lQ w g T s0 t j)(k:w.grownBy w' r)(hn:some g≠r):lQ w' g T s0 t j:=by
 obtain⟨r,u,E,hb⟩:=h;exact⟨r,u,E,hb.grown k hn⟩
def JD(w:World)(g:Nat)(T:TypeId)(s0 t b:aj)(j:Int)(e:Ending)(w':World):Prop:=
 if(b.length:Int)<=1048576 - j then e= .returned (.int .i64 0)/\lQ w' g T s0 (t++b) (j+b.length)/\w.grownBy w' (some g)
 else e= .returned (.int .i64 5)/\w=w'
theorem WI(s0 t b:aj)(j:Int)(g n c:Nat)(a:aN)(T:TypeId)(w:World)(hs:s0.length=64)(hb:b.length=n)(a0:0<=j)(a1:j<=1048576)
 (aq:lQ w g T s0 t j)(hn:n<=9223372036854775807)(ax:n<=c)(hc:c<=9223372036854775807)(ae:a=none->n=0)(ag:aK w a (b.map Y))(af:n=0∨∀x,a=some x->some x.block≠some g):
 Calls prog 203 #[.pointer (some ⟨g,0,none⟩),.slice a n c] w (JD w g T s0 t b j):=by
 obtain⟨r,E,al,u⟩:=aq;unfold JD;rw[hb];obtain⟨R,aa,CX,am,I,ao,an,ab⟩:=jg hb E al ae af ag u hs;have az:=u.cell' (Jp (t.length%32:Nat) j (iV hs _) E);have aE:=u.frozen 97;have k1:IntKind.i64.wrap (1048576 - j)=1048576 - j:=IntWalk.i64_in _ J;clear hb E al ae af ag u hs;by_cases ai:(n:Int)<=1048576 - j
 ·simp only[if_pos ai];have k2:IntKind.i64.wrap (j+n)=j+n:=IntWalk.i64_in _ J;have aw:decide ((1048576 - j)<(n:Int))=false:=aP J;go_enter func203,ntmps203;go_wp2_with fail;have ac:=an.set 97 (.int .i64 (j+n));rw[VL _ _ _ (iV ab _) aa.out]at ac;have ar:lQ (w.setCell ⟨g,97,none⟩ (.int .i64 (j+n))) g T s0 t (j+n):=⟨r,aa,CX,ac⟩;have ad:=yB (I6 w (some g)) 97 (.int .i64 (j+n));generalize World.setCell w _ _=w2 at*;refine(JC s0 t b (j+n) g n c a T w2 ab R ar J ax hc am (WG ao (by rw[length_map];exact R) ad I) I).mono ?_;rintro e a2 ⟨rfl,ap,g3⟩;go_wp2;go_ret;exact⟨F,ap,l9 ad g3⟩
 ·simp only[if_neg ai];have aw:decide ((1048576 - j)<(n:Int))=true:=aQ J;go_enter func203,ntmps203;go_wp2;go_ret;exact⟨F,F⟩
theorem WJ(s0 t:aj)(u:Int)(g:Nat)(T:TypeId)(w:World)(hs:s0.length=64)(ag:lQ w g T s0 t u):
 Calls prog 268 #[.pointer (some ⟨g,0,none⟩)] w fun e w'=>e= .returned (.pointer (some ⟨w.heap.size,0,none⟩))/\lQ w' w.heap.size vX s0 t u/\X w w':=by
 obtain⟨r,E,ab,R⟩:=ag;have aa:=Dy (t.length%32:Nat) u (iV (t:=t) hs (t.length / 32)) E;have af:∀v∈sm (gZ s0 t (t.length / 32)) r (t.length%32:Nat) u,v.oneCell'=true:=by
  intro v j;unfold sm at j;simp only[mem_append,mem_cons,not_mem_nil,or_false]at j;rcases j with j|j|j|j
  ·exact b_ _ v j
  ·exact b_ _ v j
  ·rw[j];rfl
  ·rw[j];rfl
 obtain⟨ac,I,ad,CX⟩:=bU R aa E ab;clear R aa E ab;go_enter func268,ntmps268;go_wp2_with (first|(refine bV F _ _ F F ac OX I ?_)|(refine bg F _ _ _ F F F (ah.aI F F) OX F I af ?_));intro w2 ae ai;have e2:=ai.ext ((X.refl w).alloc _) l5;go_wp2;go_ret;exact⟨F,⟨r,ad,CX,ae⟩,e2⟩
def lS(d:Int):aj:=(List.replicate 64 0).set 63 (UInt8.ofNat d.toNat)
theorem JE(d:Int):(lS d).length=64:=by simp[lS]
theorem WL:zeroCells350=(sm (List.replicate 64 0) (List.replicate 32 0) 0 0).toArray:=au
def F7(d:Int)(w:World)(e:Ending)(w':World):Prop:=
 if d<0∨255<d then e= .returned (.tuple #[.pointer none,.int .i64 3])/\w=w'
 else e= .returned (.tuple #[.pointer (some ⟨w.heap.size,0,none⟩),.int .i64 0])/\lQ w' w.heap.size vX (lS d) [] 0/\X w w'
theorem OY(d:Int)(w:World):
 Calls prog 202 #[.int .i64 d] w (F7 d w):=by
 unfold F7;by_cases j:d<0∨255<d
 ·simp only[if_pos j];by_cases u:d<0
  ·clear j;go_enter func202,ntmps202;go_wp2
   go_ret2
   exact⟨F,F⟩
  ·have E:255<d:=J;clear j;go_enter func202,ntmps202;go_wp2
   go_ret2
   exact⟨F,F⟩
 ·simp only[if_neg j];have u:¬d<0:=J;have E:¬255<d:=J;have R:IntKind.u8.wrap d=d:=IntWalk.u8_in _ J;clear j;go_enter func202,ntmps202;go_wp2
  go_ret2
  have I:zeroCells350.setIfInBounds 63 (.int .u8 d)=(sm (lS d) (List.replicate 32 0) 0 0).toArray:=by
   rw[WL,setIfInBounds_toArray]
   congr 1
   unfold sm lS;rw[set_append_left _ _ aF,map_set];have:Y (UInt8.ofNat d.toNat)= .int .u8 d:=by
    unfold Y;rw[UInt8.toNat_ofNat']
    congr 1
    omega
   rw[this]
  exact⟨F,⟨List.replicate 32 0,F,F,ah.aI F I.symm⟩,(X.refl w).alloc _⟩
def qx(t:aj):aj:=t++128::List.replicate (31 - t.length%32) 0
theorem OZ(t:aj):(qx t).length%32=0:=by grind [qx]
def lg(s t:aj)(n:Nat):aj:=qW (gZ s (qx t) ((qx t).length / 32)) (List.replicate 24 0++dG (UInt64.ofNat n))
theorem Bd(s t:aj)(n:Nat):(lg s t n).length=64:=Jo _ _
theorem O1{w w':World}(h:X w w')(r:Option Nat):w.grownBy w' r:=⟨h.os,h.tape,h.output,h.size,fun i j _=>h.block i j⟩
theorem JF{P:Program}{ops:Array Oper}{rest:List Oper}{o:Oper}{a:Act}{w:World}{Q:Exit->Act->World->Prop}(j:o.guard=none)(ty:TypeId)(x:Operand)(u:o.op= .load ty x){g off n:Nat}{vs xs:aO}{T:TypeId}
 (E:a.eval x= .pointer (some ⟨g,off,none⟩))(hb:ah w g vs T)(ht:iH P ty n)(hn:off+n<=vs.length)(I:(vs.drop off).take n=xs)
 (h:wpList P ops Q rest (a.put o.dst (.agg xs.toArray)) w):wpList P ops Q (o::rest) a w:=
 Jc j ty x u E hb ht hn (by rw[I];exact h)
theorem WM(s0 t:aj)(N:Nat)(g:Nat)(T:TypeId)(w:World)(hs:s0.length=64)(cM:N<=4611686018427387904)(b0:lQ w g T s0 t N):
 nW 204 #[.pointer (some ⟨g,0,none⟩)] w (.agg ((lg s0 t N).map Y).toArray):=by
 obtain⟨ab,bj⟩:=aB hs b0;have cQ:IntKind.u64.wrap (N:Int)=(N:Int):=IntWalk.u64_in _ J;have co:((UInt64.ofNat N).toNat:Int)=N:=by rw[UInt64.toNat_ofNat'];omega
 have b3:=fun w=>Jj (UInt64.ofNat N) w;rw[co]at b3;have aa:Hid (((lg s0 t N).map Y).length=64):=O (by rw[length_map,Bd]);have ce:Hid (lg s0 t N=qW (gZ s0 (qx t) ((qx t).length / 32)) (List.replicate 24 0++dG (UInt64.ofNat N))):=O F;have cN:=b0.lt;generalize lg s0 t N=j at*;generalize UInt64.ofNat N=u at*;clear hs b0 co;go_enter func204,ntmps204;go_wp2_with fail;generalize iX:World.alloc w _=b9;have zA:ah b9 w.heap.size (List.replicate 64 (.int .u8 0)) 77:=by rw[<-iX];exact ah.aI F F
 have bu:X w b9:=by rw[<-iX];exact(X.refl w).alloc _
 have b7:b9.heap.size=w.heap.size+1:=by rw[<-iX];exact Array.size_push _
 clear iX;refine(WJ s0 t N g T _ ab (bj.ext bu)).mono ?_;rintro e al ⟨rfl,cl,bt⟩;obtain⟨cg,cc,a9⟩:=aW (zA.ext bt) (bu.ext bt) cl;rw[b7]at a9;rw[b7];have cG:w.heap.size+1<al.heap.size:=a9.lt;clear zA bu b7 cl bt;go_wp2_with fail;generalize b4:World.alloc al _=wB;have cp:ah wB al.heap.size (([128]:aj).map Y) 5:=by rw[<-b4];exact ah.aI F F
 have ba:X al wB:=by rw[<-b4];exact(X.refl al).alloc _
 clear b4;refine(JC s0 t [128] N (w.heap.size+1) 1 1 (some ⟨al.heap.size,0,none⟩) vX wB ab F (a9.ext ba) J l5 J (by intro h;cases h) (aK.tO cp) (.inr (by intro x b6;cases b6;intro h;injection h with h;simp only at h;omega))).mono ?_;rintro e w2 ⟨rfl,bz,bw⟩;have cj:=O1 ba (some (w.heap.size+1));obtain⟨a_,a8⟩:=aB ((cg.grown cj (by intro h;injection h with h;omega)).grown bw (by intro h;injection h with h;omega)) ((cc.ext ba).grown bw (by intro k hk;cases hk;omega));have cH:w.heap.size+1<w2.heap.size:=bz.lt;have ao:=O bz;clear bz bw cp ba cj cg a9 cc cG;obtain⟨r,ad,cD,ac⟩:=ao.out;have ci:=ac.cell' (w_ _ N (iV ab _) ad);have cm:(t++[128]).length%32=(t.length+1)%32:=by rw[length_append];rfl
 rw[cm]at ci;have a2:qx t=(t++[128])++List.replicate (31 - t.length%32) 0:=by unfold qx;rw[append_assoc];rfl
 have za:=OZ t;generalize cn:(t.length+1)%32=q at*;have cC:q=0∨(0<q/\32 - q=31 - t.length%32):=J;have cP:q<32:=J;clear ad cD ac r cm;rcases cC with rfl|⟨EB,Cy⟩
 ·have:31 - t.length%32=0:=J;rw[this,replicate_zero,append_nil]at a2;rw[<-a2]at ao;clear a2 this cn;obtain⟨r,ad, -,ac⟩:=ao.out;obtain⟨ct,ca⟩:=aB ad ac;clear ad ac;have br:=fun o=>((bj.ext a8).ext ((X.refl w2).alloc o)).elim fun cI a0=>a0.2.2.cell' (Jp _ N (iV ab _) a0.1);go_wp2_with fail;generalize R:World.alloc w2 _=wD;have a7:ah wD w2.heap.size (List.replicate 32 (.int .u8 0)) 30:=by rw[<-R];exact ah.aI F F
  have bv:X w2 wD:=by rw[<-R];exact(X.refl w2).alloc _
  have cJ:wD.heap.size=w2.heap.size+1:=by rw[<-R];exact Array.size_push _
  clear R br;refine(b3 _).mono ?_;rintro e wE ⟨rfl,I⟩;have cF:wD.heap.size<=wE.heap.size:=I.size;go_wp2_with (refine bg F _ _ _ F F F (ah.aI F F) AZ F F (b_ _) ?_);intro wF aw a6;have eF:X wD wF:=a6.ext (I.alloc _) I.size;obtain⟨ar,am,ae⟩:=aW (a7.ext eF) aw (bv.ext eF);clear aw a6 I a7;generalize wE.heap.size=cx at*;go_wp2;refine qV (C:=fun w'=>∃n,w'=wF.drewN n) 2 au au ⟨1,F⟩ ?_;simp only[take_succ_cons,take_zero,drop_succ_cons,drop_zero];iterate 2 quiet_step (fail)
  refine wpQuiet_nil ?_;rintro _ ⟨nq,rfl⟩;have ap:Hid (((dG u).map Y).length=8):=O (by rw[length_map,Bc]);have uW:fV (List.replicate 32 (.int .u8 0)) 24 ((dG u).map Y)=(List.replicate 24 0++dG u).map Y:=F;have aq:=O uW;have nE:(List.replicate 24 0++dG u).length=32:=F;clear uW;generalize az:(dG u).map Y=a5 at*;have a1:∀v∈a5,v.oneCell'=true:=by rw[<-az];exact b_ _
  clear az;have an:=O (aK.tO (am.drewN (n:=nq)));go_wp2_with (refine Kc F _ _ _ _ F F F (ar.drewN (n:=nq)) underlying32 gu ap F (fun e=>by cases e) an aF a1 ?_);intro wG bG ai;change ah wG _ (fV (List.replicate 32 (.int .u8 0)) 24 a5) _ at bG;rw[aq.out]at bG;generalize b2:List.replicate 24 0++dG u=last at*;clear b2;have ax:w.heap.size+1≠w2.heap.size:=J;have be:=O (((ca.ext ae).drewN (n:=nq)).upd ai ax);have bk:Hid (∀i,i<32->wG.cell? ⟨w2.heap.size,0+i,none⟩=some (.int .u8 ((last[i]?.getD 0).toNat:Int))):=O fun i cz=>by
   rw[Nat.zero_add];exact bG.cell' (zD J)
  have eG:X w2 wG:=ai.ext (ae.drewN nq) l5;obtain⟨bm,CF⟩:=aB (a_.ext eG) (a8.ext eG);clear bG ai eG ar am ae a_ ca an ap aq a1 nE;go_wp2_with fail;refine(Dw _ last _ (w.heap.size+1) w2.heap.size 0 vX wG (iV ab _) be bk (.inl (Ne.symm ax))).mono ?_;rintro e wH ⟨rfl,bH,af⟩;rw[<-ce.out]at bH;obtain⟨bo,bh⟩:=aB (bm.grown af (by intro h;injection h with h;omega)) (CF.grown af (by intro k hk;cases hk;omega));generalize r.map Y++[Value.int IntKind.i64 _,Value.int IntKind.i64 _]=ag at*;have b1:0+64<=(j.map Y++ag).length:=by rw[length_append,aa.out];omega
  have a3:((j.map Y++ag).drop 0).take 64=j.map Y:=by rw[drop_zero,<-aa.out,take_left]
  generalize a4:j.map Y++ag=vs at*;obtain⟨cv,bl⟩:=aB a4 a3;have bx:=b_ j;clear a4 af a3;generalize aE:j.map Y=cw at*;have bi:=O aE;clear aE;go_wp2_with (first|(refine JF F _ _ F F bH jT b1 bl ?_)|refine bg F _ _ _ F F F bo jT F aa bx ?_);intro cL bp b8;go_wp2;refine gG F F bp jT aa F ⟨by rw[bi.out],b8.ext bh l5⟩
 ·obtain⟨k,hk⟩:=aC (32 - q);have cE:IntKind.i64.wrap (32 - (q:Int))=(k:Int):=by rw[IntWalk.i64_in _ J];omega
  have cA:k<=32/\0<k:=J;rw[hk]at Cy;obtain⟨cs,Cz,cf⟩:=aW hk Cy a2;clear hk cn Cy a2;have cy:decide ((0:Int)<(q:Int))=true:=aQ J;go_wp2_with (refine LB F _ _ F (n:=k) F F J ?_);generalize b5:World.alloc w2 _=b';have cq:ah b' w2.heap.size ((List.replicate (k) (0:UInt8)).map Y) 5:=by rw[<-b5];exact ah.aI F aF
  have bc:X w2 b':=by rw[<-b5];exact(X.refl w2).alloc _
  clear b5;refine(JC s0 (t++[128]) (List.replicate (k) 0) N (w.heap.size+1) k k (some ⟨w2.heap.size,0,none⟩) vX b' ab (length_replicate ..) (ao.ext bc) J l5 J (by intro h;cases h) (aK.tO cq) (.inr (by intro x b6;cases b6;intro h;injection h with h;simp only at h;omega))).mono ?_;rintro e E ⟨rfl,bd,g3⟩;rw[Cz.out,<-cf.out]at bd;have ck:=O1 bc (some (w.heap.size+1));obtain⟨ch,cd⟩:=aB ((a_.grown ck (by intro h;injection h with h;omega)).grown g3 (by intro h;injection h with h;omega)) ((a8.ext bc).grown g3 (by intro k hk;cases hk;omega));have cR:w.heap.size+1<E.heap.size:=bd.lt;have cr:=O bd;clear bd g3 cq bc ck a_ ao a8 cH ci EB cy cE cs cA Cz cf;obtain⟨r,ad, -,ac⟩:=cr.out;obtain⟨ct,cb⟩:=aB ad ac;clear ad ac;have br:=fun o=>((bj.ext cd).ext ((X.refl E).alloc o)).elim fun cI a0=>a0.2.2.cell' (Jp _ N (iV ab _) a0.1);go_wp2_with fail;generalize R:World.alloc E _=wD;have a7:ah wD E.heap.size (List.replicate 32 (.int .u8 0)) 30:=by rw[<-R];exact ah.aI F F
  have bv:X E wD:=by rw[<-R];exact(X.refl E).alloc _
  have cJ:wD.heap.size=E.heap.size+1:=by rw[<-R];exact Array.size_push _
  clear R br;refine(b3 _).mono ?_;rintro e wE ⟨rfl,I⟩;have cF:wD.heap.size<=wE.heap.size:=I.size;go_wp2_with (refine bg F _ _ _ F F F (ah.aI F F) AZ F F (b_ _) ?_);intro wF aw a6;have eF:X wD wF:=a6.ext (I.alloc _) I.size;obtain⟨ar,am,ae⟩:=aW (a7.ext eF) aw (bv.ext eF);clear aw a6 I a7;generalize wE.heap.size=cx at*;go_wp2;refine qV (C:=fun w'=>∃n,w'=wF.drewN n) 2 au au ⟨1,F⟩ ?_;simp only[take_succ_cons,take_zero,drop_succ_cons,drop_zero];iterate 2 quiet_step (fail)
  refine wpQuiet_nil ?_;rintro _ ⟨nq,rfl⟩;have ap:Hid (((dG u).map Y).length=8):=O (by rw[length_map,Bc]);have uW:fV (List.replicate 32 (.int .u8 0)) 24 ((dG u).map Y)=(List.replicate 24 0++dG u).map Y:=F;have aq:=O uW;have nE:(List.replicate 24 0++dG u).length=32:=F;clear uW;generalize az:(dG u).map Y=a5 at*;have a1:∀v∈a5,v.oneCell'=true:=by rw[<-az];exact b_ _
  clear az;have an:=O (aK.tO (am.drewN (n:=nq)));go_wp2_with (refine Kc F _ _ _ _ F F F (ar.drewN (n:=nq)) underlying32 gu ap F (fun e=>by cases e) an aF a1 ?_);intro wG bG ai;change ah wG _ (fV (List.replicate 32 (.int .u8 0)) 24 a5) _ at bG;rw[aq.out]at bG;generalize b2:List.replicate 24 0++dG u=last at*;clear b2;have ax:w.heap.size+1≠E.heap.size:=J;have be:=O (((cb.ext ae).drewN (n:=nq)).upd ai ax);have bk:Hid (∀i,i<32->wG.cell? ⟨E.heap.size,0+i,none⟩=some (.int .u8 ((last[i]?.getD 0).toNat:Int))):=O fun i cz=>by
   rw[Nat.zero_add];exact bG.cell' (zD J)
  have eG:X E wG:=ai.ext (ae.drewN nq) l5;obtain⟨bm,CF⟩:=aB (ch.ext eG) (cd.ext eG);clear bG ai eG ar am ae ch cb an ap aq a1 nE;go_wp2_with fail;refine(Dw _ last _ (w.heap.size+1) E.heap.size 0 vX wG (iV ab _) be bk (.inl (Ne.symm ax))).mono ?_;rintro e wH ⟨rfl,bH,af⟩;rw[<-ce.out]at bH;obtain⟨bo,bh⟩:=aB (bm.grown af (by intro h;injection h with h;omega)) (CF.grown af (by intro k hk;cases hk;omega));generalize r.map Y++[Value.int IntKind.i64 _,Value.int IntKind.i64 _]=ag at*;have b1:0+64<=(j.map Y++ag).length:=by rw[length_append,aa.out];omega
  have a3:((j.map Y++ag).drop 0).take 64=j.map Y:=by rw[drop_zero,<-aa.out,take_left]
  generalize a4:j.map Y++ag=vs at*;obtain⟨cv,bl⟩:=aB a4 a3;have bx:=b_ j;clear a4 af a3;generalize aE:j.map Y=cw at*;have bi:=O aE;clear aE;go_wp2_with (first|(refine JF F _ _ F F bH jT b1 bl ?_)|refine bg F _ _ _ F F F bo jT F aa bx ?_);intro cL bp b8;go_wp2;refine gG F F bp jT aa F ⟨by rw[bi.out],b8.ext bh l5⟩
theorem bY:iH prog 31 32:=⟨⟨_,underlying31,F⟩,au⟩
def dY(d:Int)(t:aj):aj:=(lg (lS d) t t.length).take 32
theorem j_(d:Int)(t:aj):(dY d t).length=32:=by rw[dY,length_take,Bd];rfl
theorem WO(s0 t:aj)(N:Nat)(g:Nat)(T:TypeId)(w:World)(hs:s0.length=64)(ap:N<=4611686018427387904)(R:lQ w g T s0 t N):
 nW 152 #[.pointer (some ⟨g,0,none⟩)] w (.agg (((lg s0 t N).take 32).map Y).toArray):=by
 have ag:=O R;have I:Hid (((lg s0 t N).map Y).length=64):=O (by rw[length_map,Bd]);have af:Hid ((((lg s0 t N).map Y).drop 0).take 32=((lg s0 t N).take 32).map Y):=O (by rw[drop_zero,map_take]);have E:Hid ((((lg s0 t N).take 32).map Y).length=32):=O (by rw[length_map,length_take,Bd];rfl);have an:=b_ (lg s0 t N);have ao:=b_ ((lg s0 t N).take 32);have aq:=fun w' (h:lQ w' g T s0 t N)=>WM s0 t N g T w' hs ap h;generalize ar:((lg s0 t N).take 32).map Y=az at*;generalize (lg s0 t N).map Y=ax at*;clear R ar;have ha:=AO (P:=prog) underlying31 (len:=32) (Nat.le_refl 32);go_enter func152,ntmps152;go_wp2_with fail;generalize iX:World.alloc w _=ac;have zA:ah ac w.heap.size (List.replicate 32 (.int .u8 0)) 31:=by rw[<-iX];exact ah.aI F F
 have u:X w ac:=by rw[<-iX];exact(X.refl w).alloc _
 clear iX;refine(aq _ (ag.ext u)).mono ?_;rintro e ab ⟨rfl,j⟩;obtain⟨HZ,ad⟩:=aB (zA.ext j) (u.ext j);clear zA u j;go_wp2_with (refine bg F _ _ _ F F F (ah.aI F F) jT F I an ?_);intro w2 al aa;have e2:X ab w2:=aa.ext ((X.refl ab).alloc _) l5;obtain⟨ai,ae⟩:=aB (HZ.ext e2) (ad.ext e2);clear e2 aa;go_wp2_with (first|(refine JF F _ _ F F al bY (by rw[I.out];omega) af ?_)|refine bg F _ _ _ F F F ai bY F E ao ?_);intro aE am aw;go_wp2;refine gG F F am bY E F ⟨F,aw.ext ae l5⟩
def JG(d:Int)(t:aj)(w:World)(e:Ending)(w':World):Prop:=
 (if d<0∨255<d then e= .returned (.tuple #[.pointer none,.int .i64 3])
 else if t.length<=1048576 then e= .returned (.tuple #[.pointer (some ⟨w.heap.size,0,none⟩),.int .i64 0])/\lQ w' w.heap.size vX (lS d) t t.length
 else e= .returned (.tuple #[.pointer none,.int .i64 5]))/\X w w'
theorem WQ(u:List AP)(d:Int)(g len cap:Nat)(w:World)(a2:u.length=len)(sP:len<=1000)
 (a1:∀i j,u[i]? =some j->w.cell? ⟨g,i,none⟩=some (nS j))(bi:g<w.heap.size)
 (hc:∀j∈u,aK w j.1 (j.2.2.map Y))(hn:∀j∈u,j.1=none->j.2.1=0)(ab:∀j∈u,j.2.2.length<=j.2.1)(I:∀j∈u,j.2.1<=9223372036854775807):
 Calls prog 151 #[.int .i64 d,.slice (some ⟨g,0,none⟩) len cap] w (JG d (fZ u) w):=by
 obtain⟨aq,a8,a4,bd,be,a5⟩:=iq a2 a1 hc hn ab I;clear a2 a1 hc hn ab I;unfold JG;by_cases E:d<0∨255<d
 ·simp only[if_pos E];have ai:=O E;clear E;go_enter func151,ntmps151;go_wp2_with fail;refine(OY d w).mono ?_;intro e bl h;unfold F7 at h;rw[if_pos ai.out]at h;obtain⟨rfl,rfl⟩:=h;go_wp2
  go_ret2
  exact⟨F,X.refl _⟩
 ·simp only[if_neg E];have ai:=O E;clear E;go_enter func151,ntmps151;go_wp2_with fail;refine(OY d w).mono ?_;intro e bl h;unfold F7 at h;rw[if_neg ai.out]at h;obtain⟨rfl,ax,ar⟩:=h;obtain⟨a9,a6⟩:=aB ax ar;clear ax ar;go_wp2;go_loopw [21] (fun x wr=>∃k:Nat,k<=len/\x= .int .i64 k/\Hid ((fZ (u.take k)).length<=1048576)/\Hid (lQ wr w.heap.size vX (lS d) (fZ (u.take k)) (fZ (u.take k)).length)/\Hid (X w wr))
   (fun x _=>len - (intOf x).toNat)
  case atStart=>exact⟨0,J,F,O (by simp[fZ]),O a9.out,a6⟩
  case round=>
   obtain⟨k,hk,rfl,am,ad,R⟩:=hrel;by_cases j3:k<len
   ·have bo:decide ((k:Int)<(len:Int))=true:=aQ J;obtain⟨j,ae⟩:∃j,u[k]? =some j:=⟨_,List.getElem?_eq_getElem (by rw[aq.out];exact j3)⟩;have tT:j∈u:=mem_of_getElem? ae;have bh:=(R.cell (p:=⟨g,k,none⟩) bi).trans (a8 k j ae);obtain⟨a,c,l⟩:=j;have ag:=JA ae;simp only[nS]at bh;have ab:=be.out _ tT;have I:=a5.out _ tT;simp only at ab I ag;obtain⟨af,ap,bc⟩:=aW ag (a4 _ tT) (bd _ tT);have bp:(0:Int)<=(k:Int):=J;have br:(k:Int)<(len:Int):=J;clear ag ae tT;generalize aa:l.length=an at*;generalize bm:fZ (u.take k)=ac at*;have uE:=O (JB u (k+1));go_wp2_with fail;refine(WI (lS d) ac l (ac.length:Nat) w.heap.size an c a vX wr (JE d) aa J (by have:=am.out;omega) ad J ab I (fun e=>by have:=bc.out e;omega) (ap.ext R) (WH ap (by rw[length_map];exact aa) l5)).mono ?_;intro e w2 h;unfold JD at h;rw[aa]at h;by_cases al:(an:Int)<=1048576 - (ac.length:Nat)
    ·rw[if_pos al]at h;obtain⟨rfl,az,aw⟩:=h;obtain⟨a_,a7⟩:=aB az (R.grown aw (by intro bt bj;cases bj;exact Nat.le_refl _));have a0:(ac++l).length=ac.length+an:=by rw[length_append,aa]
     have ao:=O a0;clear az aw a0;go_wp2;go_roundw
     case rel=>
      refine⟨k+1,J,by go_num,O ?_,O ?_,a7⟩
      ·rw[af.out,ao.out];omega
      ·rw[af.out,ao.out,Int.natCast_add];exact a_
     case measure=>simp[intOf];omega
    ·rw[if_neg al]at h;obtain⟨rfl,rfl⟩:=h;have aE:¬(fZ u).length<=1048576:=by
      have:=uE.out;rw[af.out,length_append,aa]at this;omega
     have a3:=O aE;clear aE al;go_wp2
     go_ret2
     refine⟨?_,R⟩;first|rfl|(rw[if_neg a3.out];rfl)
   ·have bk:k=len:=J;subst bk;have Ke:fZ (u.take k)=fZ u:=by rw[take_of_length_le (by rw[aq.out];exact Nat.le_refl _)]
    rw[Ke]at am ad;have ba:Hid ((fZ u).length<=1048576):=am;clear Ke;go_wp2
    go_ret2
    refine⟨?_,R⟩;first|exact⟨F,ad⟩|(rw[if_pos ba.out];exact⟨F,ad⟩)
theorem WR(N i:Nat)(I:N<18446744073709551616)(R:i<8):((((dG (UInt64.ofNat N))[i]?.getD 0).toNat:Nat):Int)=(N:Int) / 2^(56 - 8*i)%256:=by
 have E:(UInt64.ofNat N).toNat=N:=by rw[UInt64.toNat_ofNat'];omega
 unfold dG;rw[E];have j:(UInt32.ofNat (N / 4294967296)).toNat=N / 4294967296%4294967296:=UInt32.toNat_ofNat' ..;have u:(UInt32.ofNat N).toNat=N%4294967296:=UInt32.toNat_ofNat' ..;rcases(by omega:i=0∨i=1∨i=2∨i=3∨i=4∨i=5∨i=6∨i=7)with rfl|rfl|rfl|rfl|rfl|rfl|rfl|rfl
 all_goals
  simp only[gq,j,u,cons_append,nil_append,List.getElem?_cons_zero,List.getElem?_cons_succ,Option.getD_some,Oa];simp;try omega
theorem DN(N:Nat)(w:World)(af:N<=4611686018427387904):
 Calls prog 107 #[.int .i64 (N:Int)] w fun e w'=>e= .returned (.slice (some ⟨w.heap.size,0,none⟩) 8 8)/\ah w' w.heap.size ((dG (UInt64.ofNat N)).map Y) 5/\X w w':=by
 have ai:=fun w=>F6 w 8 J;obtain⟨f,hf⟩:=aC ((fun i=>(dG (UInt64.ofNat N))[i]?.getD 0):Nat->UInt8);have I:dG (UInt64.ofNat N)=jP (fun i=>(dG (UInt64.ofNat N))[i]?.getD 0) 0 8 8:=by
  rw[FB _ _ _ _ l5];rfl
 have u:=O I;have ac:∀i,i<8->(N:Int) / 2^(56 - 8*i)%256=((f i).toNat:Int):=fun i E=>by rw[<-hf,WR N i J E]
 rw[hf]at u;clear I hf;generalize dG (UInt64.ofNat N)=an at*;go_enter func107,ntmps107;go_wp2_with (refine LB F _ _ F (n:=8) F F J ?_);generalize iX:World.alloc w _=aa;have zA:ah aa w.heap.size ((jP f 0 8 0).map Y) 5:=by rw[<-iX];exact ah.aI F (by rw[Fz];simp)
 have ab:X w aa:=by rw[<-iX];exact(X.refl w).alloc _
 clear iX;go_loopw [8] (fun x wr=>∃i:Nat,i<=8/\x= .int .i64 i/\ah wr w.heap.size ((jP f 0 8 i).map Y) 5/\X w wr)
  (fun x _=>8 - (intOf x).toNat)
 case atStart=>exact⟨0,J,F,zA,ab⟩
 case round=>
  obtain⟨i,E,rfl,j,R⟩:=hrel;by_cases j3:i<8
  ·have ag:decide ((i:Int)<8)=true:=aQ J;have ao:=ac i j3;have ad:=j.cell' (i:=i) (zD (by rw[sD];exact j3));have ae:=j.frozen i;have al:(0:Int)<=(i:Int):=J;have am:(i:Int)<8:=J;have k1:IntKind.i64.wrap (8*(i:Int))=8*(i:Int):=IntWalk.i64_in _ J;have k2:IntKind.i64.wrap (56 - 8*(i:Int))=((56 - 8*i:Nat):Int):=by rw[IntWalk.i64_in _ J];omega
   go_wp2;go_roundw
   case rel=>exact⟨i+1,J,by go_num,j.NT,R.set _ l5⟩
   case measure=>simp[intOf];omega
  ·obtain rfl:i=8:=J;go_wp2;go_ret;exact⟨F,by rw[u.out];exact j,R⟩
theorem JH(k:Nat):Builtin.zeroCells (Value.int .u8 0).cells k=(List.replicate k (Value.int .u8 0)).toArray:=by
 have e:(Value.int .u8 0).cells= #[.int .u8 0]:=F;apply Array.ext
 ·simp[Builtin.zeroCells,e]
 ·intro i j u;simp[Builtin.zeroCells,e,Nat.mod_one]
theorem WS(w:World)(base:Nat)(ty:TypeId)(v:Value)(n:Nat)(xs:aO)(ag:w.ownsRow base 5 1 v n xs)(k:Nat)(hk:0<k)
 (hb:n+k<=140737488355328)(ar:base<=w.heap.size):
 ∃v' w',(Builtin.append_ #[32,3] ty #[v,.int .i64 (k:Int)]).run prog w= .ok v' w'/\w'.ownsRow base 5 1 v' (n+k) (xs++List.replicate k (.int .u8 0))/\w.grownBy w' v.ownBlock:=by
 obtain⟨aa,ae,al,hs,ab⟩:=info_parts xu;have yD:=ag.1;have ac:(xs++List.replicate k (Value.int .u8 0)).length=(n+k)*1:=by rw[length_append,length_replicate,yD];omega
 have am:∀(E:Nat),E<n+k->∀(row:Option Nat),
  (w.drew.alloc (.cells (xs.toArray++Builtin.zeroCells (Value.int .u8 0).cells k++Builtin.zeroCells (Value.int .u8 0).cells (grownCap w (n+k) E 5 - (n+k))) 5)).ownsRow base 5 1
   (.slice (some ⟨w.heap.size,0,none⟩) (n+k) (grownCap w (n+k) E 5)) (n+k) (xs++List.replicate k (.int .u8 0))/\
  w.grownBy (w.drew.alloc (.cells (xs.toArray++Builtin.zeroCells (Value.int .u8 0).cells k++Builtin.zeroCells (Value.int .u8 0).cells (grownCap w (n+k) E 5 - (n+k))) 5)) row:=by
  intro E a9 row;have aE:=grownCap_ge w (n+k) E 5;have ad:grownCap w (n+k) E 5<=maxLen:=grownCap_le_maxLen w (n+k) E 5 (by unfold maxLen;omega);refine⟨⟨ac,.inr ⟨w.heap.size,_,_,F,ar,heap_alloc_new w.drew _,aE,ad,?_,?_⟩⟩,⟨F,F,F,aF,fun j af _=>heap_alloc_old w.drew _ af⟩⟩
  ·simp only[Array.size_append,size_toArray,JH,length_replicate,yD];omega
  ·simp only[Array.toList_append,JH,append_assoc];rw[<-append_assoc,<-ac];exact take_left
 rcases ag.2 with⟨rfl,rfl⟩|⟨g,cap,cu,rfl,aw,an,a8,ad,ax,a5⟩
 ·have a7:xs=[]:=eq_nil_of_length_eq_zero (by simpa using yD);subst a7;have R:=Lib.run_append_nil_zeros (P:=prog) w 32 3 ty 5 aa (.int .u8 0) .i64 .i64 underlying32 underlying3 ae al k hk J J (by rw[ab];omega);have I:=am 0 J (Value.ownBlock (.slice none 0 0));simp only[Nat.zero_add,Array.empty_append]at I R⊢;exact⟨_,_,R,by simpa using I.1,by simpa using I.2⟩
 ·by_cases ao:n+k<=cap
  ·have az:n*1+(List.replicate k (Value.int .u8 0)).length<=cu.size:=by rw[length_replicate,ax];omega
   have ai:=run_storeCells_at prog g (n*1) 5 (List.replicate k (Value.int .u8 0)) 0 cu w an (by simpa using az) (by intro u ap;simp at ap;rw[ap.2];rfl);have a6:IntKind.i64.wrap (k:Int)=k:=by rw[IntKind.wrap_i64];omega
   have aq:¬(281474976710656<(k:Int)*(aa.bytes:Int)):=by rw[ab];omega
   have a2:¬(k*aa.size=0):=by rw[hs];omega
   have a1:¬((k:Int)<0):=J;have a0:k≠0:=J;simp only[Nat.add_zero]at ai;have R:(Builtin.append_ #[32,3] ty #[.slice (some ⟨g,0,none⟩) n cap,.int .i64 (k:Int)]).run prog w=
    .ok (.slice (some ⟨g,0,none⟩) (n+k) cap) (w.setRow g (cu.toList.take (n*1)++List.replicate k (Value.int .u8 0)++cu.toList.drop (n*1+(List.replicate k (Value.int .u8 0)).length)).toArray):=by
    simp[Builtin.append_,run_underlying underlying32,run_underlying underlying3,sizeOf,typeInfo,zeroValue,ae,al,asInt,asIntOf,a6,a1,aq,a2,ao,JH,a0,hs,Addr.add_lit];simp at ai;simp[ai]
   refine⟨_,_,R,⟨ac,.inr ⟨g,cap,_,F,aw,setRow_heap w g cu _ _ _ an,ao,ad,?_,?_⟩⟩,⟨F,F,F,aF,fun j _ af=>setRow_other w g j _ (fun e=>af (by simp[Value.ownBlock,e]))⟩⟩
   ·simp only[size_toArray,length_append,length_take,length_drop,Array.length_toList,length_replicate];omega
   ·rw[a5,<-ac];exact take_left
  ·have a4:∀j u,xs[j]? =some u->w.cell? ((⟨g,0,none⟩:Addr).add j)=some u:=ag.cells (g:=g) F;have a3:(Builtin.firstCells aa.size n (.slice (some ⟨g,0,none⟩) n cap)).run prog w.drew= .ok xs.toArray w.drew:=run_firstCells_some (P:=prog) w.drew aa.size n ⟨g,0,none⟩ n cap xs (by rw[hs];exact yD) a4;have R:=Lib.run_append_grow_zeros (P:=prog) w 32 3 ty 5 aa (.int .u8 0) .i64 .i64 underlying32 underlying3 ae al (some ⟨g,0,none⟩) n cap xs a3 k hk J J J (by rw[ab];omega) (growslice_fits J (by rw[ab];omega));have I:=am cap J (Value.ownBlock (.slice (some ⟨g,0,none⟩) n cap));exact⟨_,_,R,I.1,I.2⟩
theorem WT{ops:Array Oper}{rest:List Oper}{o:Oper}{a:Act}{w:World}{Q:Exit->Act->World->Prop}(I:o.guard=none)(s x:Operand)
 (R:o.op= .call {callee:= .builtin .append,args:= #[s,x],argTypes:= #[32,3]})(base:Nat){v:Value}{n:Nat}{xs:aO}{k:Nat}
 (hs:a.eval s=v)(ac:a.eval x= .int .i64 (k:Int))(aa:w.ownsRow base 5 1 v n xs)(hk:0<k)(hb:n+k<=140737488355328)(E:base<=w.heap.size)
 (h:∀v' w',w'.ownsRow base 5 1 v' (n+k) (xs++List.replicate k (.int .u8 0))->w.grownBy w' v.ownBlock->wpList prog ops Q rest (a.put o.dst v') w'):wpList prog ops Q (o::rest) a w:=by
 obtain⟨v',w',ab,j,u⟩:=WS w base o.type v n xs aa k hk hb E;exact Lib.wpList_append_run w I s x _ _ R v _ hs ac v' w' ab (h v' w' j u)
theorem sH{ops:Array Oper}{rest:List Oper}{o:Oper}{a:Act}{w:World}{Q:Exit->Act->World->Prop}(E:o.guard=none)(s x:Operand)
 (aa:o.op= .call {callee:= .builtin .append,args:= #[s,x],argTypes:= #[32,32]})(base:Nat){v:Value}{n m c:Nat}{xs ys:aj}{j:aN}
 (hs:a.eval s=v)(ab:a.eval x= .slice j m c)(u:w.ownsRow base 5 1 v n (xs.map Y))(R:ys.length=m)(ag:j=none->m=0/\c=0)(hc:aK w j (ys.map Y))
 (hb:n+m<=140737488355328)(al:base<=w.heap.size)
 (h:∀v' w',w'.ownsRow base 5 1 v' (n+m) ((xs++ys).map Y)->w.grownBy w' v.ownBlock->wpList prog ops Q rest (a.put o.dst v') w'):wpList prog ops Q (o::rest) a w:=by
 obtain⟨ac,I,an,mU,ai⟩:=info_parts xu;cases j with
 |none=>
  obtain⟨rfl,rfl⟩:=ag F;have am:ys=[]:=length_eq_zero_iff.1 R;subst am;have ad:=h v w (by simpa using u) (I6 w _);exact wpList_append_own_none E s x 32 aa base 5 ac 1 underlying32 I v n (xs.map Y) hs u ab ad
 |some y=>
  exact wpList_append_own w E s x 32 aa base 5 ac (.int .u8 0) 1 1 underlying32 I an mU ai F aX v n (xs.map Y) hs u y m c (ys.map Y) ab
   (by rw[length_map,R,Nat.mul_one]) (wX hc) (b_ _) (by unfold maxLen;omega) J al (fun v' w' ae af _=>h v' w' (by rw[map_append];exact ae) af)
theorem pG{w:World}{B:Nat}{e:TypeId}{u n:Nat}{v:Value}{xs:aO}(h:w.ownsRow B e u v n xs):∀g,v.ownBlock=some g->B<=g:=by
 intro g j;rcases h.2 with⟨rfl,_⟩|⟨E,cap,cu,rfl,hb,_⟩
 ·cases j
 ·simp[Value.ownBlock]at j;omega
theorem WU{s p q:aj}{m:Nat}(j:p.length=32*m)(u:q.length=32):gZ s (p++q) (m+1)=qW (gZ s p m) q:=by grind [gZ,DJ,drop_left,take_of_length_le]
theorem WV(s t:aj)(n:Nat):lg s t n=gZ s (qx t++(List.replicate 24 0++dG (UInt64.ofNat n))) ((qx t).length / 32+1):=by
 have h:=OZ t;rw[WU J F];rfl
theorem WW(d:Int)(h:0<=d)(j:d<=255):((UInt8.ofNat d.toNat).toNat:Int)=d:=by rw[UInt8.toNat_ofNat'];omega
theorem WX(d:Int)(h:0<=d)(j:d<=255):(List.replicate 64 (Value.int .u8 0)).set 63 (.int .u8 d)=(lS d).map Y:=by simp[lS,Y,map_set,WW];omega
theorem WY{w:World}{B n c:Nat}{e:TypeId}{E:Nat}{a:aN}{xs:aO}(h:w.ownsRow B e E (.slice a n c) n xs):∀x,a=some x->B<=x.block:=by
 intro x u;rcases h.2 with⟨j,_⟩|⟨I,cap,cu,j,hb,_⟩
 ·injection j with j _ _;rw[j]at u;cases u
 ·injection j with j _ _;rw[j]at u;cases u;exact hb
theorem WZ(d:Int)(t:aj)(n c:Nat)(a:aN)(w:World)(dE:0<=d)(dT:d<=255)(ht:t.length=n)(hn:n<=1099511627776)(cv:aK w a (t.map Y)):
 nW 108 #[.int .i64 d,.slice a n c] w (.agg ((lg (lS d) t n).map Y).toArray):=by
 obtain⟨cd,c4,b0⟩:=aW ht cv (WV (lS d) t n);have da:Hid (((lg (lS d) t n).map Y).length=64):=O (by rw[length_map,Bd]);have b7:Hid (qx t=t++128::List.replicate (31 - n%32) 0):=O (by rw[<-ht];rfl);have eA:IntKind.u8.wrap d=d:=IntWalk.u8_in _ J;have c7:=O (WX d dE dT);have b2:=JE d;have d8:=fun w=>DN n w J;generalize lg (lS d) t n=cj at*;generalize lS d=s0 at*;generalize cD:dG (UInt64.ofNat n)=ai at*;have b3:Hid (ai.length=8):=O (by rw[<-cD];rfl);have b1:=O b2;clear ht cv b2 cD;go_enter func108,ntmps108;go_wp2_with fail;generalize iX:World.alloc (World.alloc w _) _=am;have zA:ah am w.heap.size (List.replicate 64 (.int .u8 0)) 77:=by rw[<-iX];exact(ah.aI F F).alloc _
 have bp:ah am (w.heap.size+1) (s0.map Y) 77:=by rw[<-iX,<-c7.out];exact ah.aI aF F
 have a9:X w am:=by rw[<-iX];exact((X.refl w).alloc _).alloc _
 have eV:w.heap.size+1<am.heap.size:=bp.lt;clear iX;refine(DL t a n c am cd J (c4.ext a9)).mono ?_;rintro e ab ⟨v,rfl,cR, -,aa⟩;obtain⟨b4,bv,HZ,b'⟩:=bU cR (a9.ext aa) (zA.ext aa) (bp.ext aa);have cr:am.heap.size<=ab.heap.size:=aa.size;clear zA bp a9 aa cR;generalize am.heap.size=B at*;have aw:ah (ab.alloc (.cells #[.int .u8 128] 5)) ab.heap.size (([128]:aj).map Y) 5:=ah.aI F F;have E:X ab (ab.alloc (.cells #[.int .u8 128] 5)):=(X.refl ab).alloc _;obtain⟨ac,ar,aq,ap⟩:=bU (dQ b4 E) (HZ.ext E) (b'.ext E) (bv.ext E);have ae:B<=(ab.alloc (.cells #[.int .u8 128] 5)).heap.size:=Nat.le_trans cr E.size;go_wp2_with (at_builtin;refine sH F _ _ F B (ys:=[128]) F F ac F (by intro h;cases h) (aK.tO aw) J ae ?_);generalize ab.alloc (.cells #[.int .u8 128] 5)=w2 at*;intro v3 ej cS g3;have b5:=O cS;have a1:=fun ad h=>pG ac ad h;obtain⟨ce,ca,bw⟩:=aW (ar.grown g3 (by intro h;have:=a1 _ h.symm;omega)) (aq.grown g3 (by intro h;have:=a1 _ h.symm;omega)) (ap.grown g3 (by intro k hk;have:=a1 _ hk;omega));have co:B<=ej.heap.size:=Nat.le_trans ae g3.size;clear cS g3 a1 aw E ac ar aq ap ae b4 HZ b' bv cr;go_wp2;go_loopw [6] (fun x wr=>∃j:Nat,n+1+j<=n+1+(31 - n%32)/\Hid (wr.ownsRow B 5 1 x (n+1+j) ((t++[128]++List.replicate j 0).map Y))/\Hid (ah wr w.heap.size (List.replicate 64 (.int .u8 0)) 77)/\Hid (ah wr (w.heap.size+1) (s0.map Y) 77)/\Hid (X w wr)/\B<=wr.heap.size)
  (fun x _=>n+100 - zf x)
 case atStart=>exact⟨0,J,O (by rw[replicate_zero,append_nil,map_append];exact b5),ce,ca,bw,co⟩
 case round=>
  obtain⟨j,d2,af,bj,hs,ba,aE⟩:=hrel;obtain⟨em,er,rfl,cG,dy,cl,cw⟩:=nT af;obtain⟨bu,c0⟩:=aB cw cl;clear cw cl;obtain⟨e0,bh⟩:=aC (t++[128]++List.replicate j 0);rw[bh]at af bu;have a8:=O bh;clear bh;by_cases j3:j<31 - n%32
  ·have cJ:((n:Int)+1+j).tmod 32=((n:Int)+1+j)%32:=Int.tmod_eq_emod_of_nonneg J;have eK:(((n:Int)+1+j)%32 != 0)=true:=by rw[bne_iff_ne];omega
   have aw:ah (wr.alloc (.cells #[.int .u8 0] 5)) wr.heap.size (([0]:aj).map Y) 5:=ah.aI F F;have E:X wr (wr.alloc (.cells #[.int .u8 0] 5)):=(X.refl wr).alloc _;obtain⟨ac,ar,aq,ap⟩:=bU (dQ af E) (bj.ext E) (hs.ext E) (ba.ext E);have ae:B<=(wr.alloc (.cells #[.int .u8 0] 5)).heap.size:=Nat.le_trans aE E.size;go_wp2_with (at_builtin;refine sH F _ _ F B (ys:=[0]) F F ac F (by intro h;cases h) (aK.tO aw) J ae ?_);generalize wr.alloc (.cells #[.int .u8 0] 5)=e3 at*;intro e1 cX bk g5;have dd:=O bk;have a2:=fun ad h=>pG ac ad h;obtain⟨dl,df,c9⟩:=aW (ar.grown g5 (by intro h;have:=a2 _ h.symm;omega)) (aq.grown g5 (by intro h;have:=a2 _ h.symm;omega)) (ap.grown g5 (by intro k hk;have:=a2 _ hk;omega));have du:B<=cX.heap.size:=Nat.le_trans ae g5.size;obtain⟨en,et,ag, -, -, -, -⟩:=nT bk;have dj:=O ag;clear bk g5 a2 aw E ac ar aq ap ae ag;go_wp2;go_roundw
   case rel=>
    refine⟨j+1,J,O ?_,dl,df,c9,du⟩;have ao:t++[128]++List.replicate (j+1) 0=(t++[128]++List.replicate j 0)++[0]:=by rw[replicate_succ',append_assoc (t++[128])]
    rw[ao,a8.out,map_append];exact dd
   case measure=>
    rw[dj.out];simp only[zf];omega
  ·have d3:j=31 - n%32:=J;subst d3;have bc:t++[128]++List.replicate (31 - n%32) 0=qx t:=by rw[b7.out,append_assoc];rfl
   have cP:=a8.out;rw[bc]at cP;subst cP;obtain⟨I,a0⟩:∃I,n+1+(31 - n%32)=32*I:=⟨(n+1+(31 - n%32)) / 32,J⟩;have cH:(qx t).length=32*I:=by rw[<-bc,length_append,length_append,length_replicate,cd.out,<-a0];rfl
   have Dm:32*I<=1099511627776+32:=J;rw[a0]at af cG;rw[a0];have cJ:(32*(I:Int)).tmod 32=0:=by
    rw[Int.tmod_eq_emod_of_nonneg J];omega
   have hcut:(qx t).length / 32+1=I+1:=J;rw[hcut]at b0;clear hcut a0 j3 d2 bc a8 b7;generalize qx t=al at*;have b8:=O cH;clear cH;go_wp2_with (at_builtin;refine WT F _ _ F B (k:=24) F F af J J aE ?_);intro eh br cT g6;have ag:=fun ad h=>pG af ad h;have b6:Hid (br.ownsRow B 5 1 eh (32*I+24) ((al++List.replicate 24 0).map Y)):=O (by rw[map_append];exact cT);obtain⟨cf,cb,bx⟩:=aW (bj.grown g6 (by intro h;have:=ag _ h.symm;omega)) (hs.grown g6 (by intro h;have:=ag _ h.symm;omega)) (ba.grown g6 (by intro k hk;have:=ag _ hk;omega));have cp:B<=br.heap.size:=Nat.le_trans aE g6.size;clear cT g6 ag af bj hs ba aE bu c0;have cL:al++List.replicate 24 0++ai=al++(List.replicate 24 0++ai):=append_assoc ..;generalize ed:al++List.replicate 24 0=eW at*;have b9:=O cL;clear cL;go_wp2_with fail;refine(d8 br).mono ?_;rintro e ek ⟨rfl,ci,an⟩;obtain⟨a5,cg,cc,bz⟩:=bU (dQ b6 an) (cf.ext an) (cb.ext an) (bx.ext an);have cq:B<=ek.heap.size:=Nat.le_trans cp an.size;go_wp2_with (at_builtin;refine sH F _ _ F B (ys:=ai) F F a5 b3 (by intro h;cases h) (aK.tO ci) J cq ?_);intro ei el cU ax;have a3:=fun ad h=>pG a5 ad h;obtain⟨dm,dg,c_⟩:=aW (cg.grown ax (by intro h;have:=a3 _ h.symm;omega)) (cc.grown ax (by intro h;have:=a3 _ h.symm;omega)) (bz.grown ax (by intro k hk;have:=a3 _ hk;omega));have bl:el.ownsRow B 5 1 ei (32*(I+1)) ((al++(List.replicate 24 0++ai)).map Y):=by
    rw[<-b9.out,map_append,show 32*(I+1)=32*I+24+8 by omega];simpa using cU
   have cs:(al++(List.replicate 24 0++ai)).length=32*(I+1):=by
    rw[length_append,length_append,length_replicate,b8.out,b3.out];omega
   generalize al++(List.replicate 24 0++ai)=bb at*;obtain⟨dp,dr,rfl,eb,dC,cm,cx⟩:=nT bl;have cn:=WY bl;obtain⟨bt,c6,c1,c2⟩:=bU cs cx cm cn;clear cU ax a3 bl cx cm cn ci an a5 cg cc bz b6 cf cb bx cp cq ed b9 b8 cs cJ;unfold maxLen at dC;go_wp2;clear cG dy b5 ce ca bw co;go_loopw [6] (fun x wr=>∃(k n' c':Nat) (a':aN),x= .slice a' n' c'/\n'+32*k=32*(I+1)/\n'<=c'/\c'<=9223372036854775807/\Hid (a'=none->c'=0)/\Hid (∀x,a'=some x->B<=x.block)/\
    Hid (aK wr a' ((bb.drop (32*k)).map Y))/\Hid (ah wr (w.heap.size+1) ((gZ s0 bb k).map Y) 77)/\Hid (ah wr w.heap.size (List.replicate 64 (.int .u8 0)) 77)/\Hid (X w wr))
    (fun x _=>zf x)
   case atStart=>exact⟨0,_,dr,dp,F,J,eb,J,c1,c2,O (by rw[Nat.mul_zero,drop_zero];exact c6),dg,dm,c_⟩
   case round=>
    obtain⟨k,n',c',a',rfl,hk,eI,ex,ck,dt,tF,bd,cQ,cy⟩:=hrel;by_cases eJ:0<n'
    ·have ey:decide ((0:Int)<(n':Int))=true:=aQ J;have j3:32<=n':=J;have d7:(bb.drop (32*k)).length=n':=by rw[length_drop,bt.out];omega
     have ec:a'≠none:=fun e=>by have:=ck.out e;omega
     obtain⟨gb,off,rfl,ct⟩:=tF.gQ (by rw[length_map,d7];omega);have eC:B<=gb:=dt.out _ F;obtain⟨u,a_⟩:=aC ((bb.drop (32*k)).take 32);have cN:∀i,i<32->wr.cell? ⟨gb,off+i,none⟩=some (.int .u8 ((u[i]?.getD 0).toNat:Int)):=by
      intro i cC;refine ct i _ ?_;rw[<-a_,List.getElem?_take_of_lt cC];exact zD J
     have Cr:gZ s0 bb (k+1)=qW (gZ s0 bb k) u:=by rw[gZ,a_]
     have nA:=O Cr;have cM:(gZ s0 bb k).length=64:=iV b1 k;generalize gZ s0 bb k=R at*;obtain⟨a7,di⟩:=aB cM cN;clear cN ct ec Cr cM a_;go_wp2;go_loopw [32] (fun x cY=>∃i:Nat,i<=32/\x= .int .i64 i/\Hid (ah cY (w.heap.size+1) ((kS R u i).map Y) 77)/\Hid (wr.grownBy cY (some (w.heap.size+1))))
      (fun x _=>32 - (intOf x).toNat)
     case atStart=>exact⟨0,J,F,bd,O (I6 _ _)⟩
     case round=>
      obtain⟨i,cC,rfl,bm,bo⟩:=hrel;by_cases d':i<32
      ·have ez:decide ((i:Int)<32)=true:=aQ J;have d0:some gb≠some (w.heap.size+1):=by intro e;injection e;omega
       have be:=di.out i d';have cA:=block_lt_of_cell be;have eo:∀nq,(wr.drewN nq).cell? ⟨gb,off+i,none⟩=some (.int .u8 ((u[i]?.getD 0).toNat:Int)):=fun nq=>by
        rw[<-be];exact World.cell?_of_block (bo.block gb cA d0)
       have eM:(0:Int)<=(i:Int):=J;have eN:(i:Int)<32:=J;have eQ:(i:Int)<64:=J;have eR:(i:Int)<(n':Int):=J;have eE:(kS R u i).length=64:=by rw[zx];exact a7
       have cF:kS R u (i+1)=(kS R u i).set i (vO ((kS R u i)[i]?.getD 0) (u[i]?.getD 0)):=F;generalize kS R u i=ws at*;have dc:=O cF;have a6:=O bm.out;have ep:∀nq,(wr.drewN nq).cell? ⟨w.heap.size+1,i,none⟩=some (.int .u8 ((ws[i]?.getD 0).toNat:Int)):=fun nq=>(a6.drewN (n:=nq)).cell' (zD J);have ev:∀nq,(wr.drewN nq).frozen? ⟨w.heap.size+1,i,none⟩=false:=fun nq=>(a6.drewN (n:=nq)).frozen i;have eL:=Jb (ws[i]?.getD 0) (u[i]?.getD 0);clear cF be cA;go_wp2;refine qV (C:=fun w'=>∃n,w'=wr.drewN n) 9 au au ⟨1,F⟩ ?_;simp only[take_succ_cons,take_zero,drop_succ_cons,drop_zero];iterate 9 quiet_step (fail)
       refine wpQuiet_nil ?_;rintro _ ⟨nq,rfl⟩;go_wp2;have cV:=(a6.drewN (n:=nq)).set i (Y (vO (ws[i]?.getD 0) (u[i]?.getD 0)));rw[<-map_set,<-dc.out]at cV;have ef:=yB (bR bo nq) i (.int .u8 ((vO (ws[i]?.getD 0) (u[i]?.getD 0)).toNat:Int));go_roundw
       case rel=>exact⟨i+1,J,by go_num,O cV,O ef⟩
       case measure=>simp[intOf];omega
      ·have d1:i=32:=J;subst d1;have cE:((kS R u 32).map Y).length=64:=by rw[length_map,zx];exact a7
       go_wp2_with (refine bV F _ _ F F bm jT cE ?_);refine(VF (kS R u 32) (by rw[zx];exact a7) wr).mono ?_;rw[show zu (kS R u 32)=qW R u from F,<-nA.out];rintro e ab ⟨rfl,aa⟩;have d6:((gZ s0 bb (k+1)).map Y).length=64:=by rw[length_map];exact iV b1 _
       generalize cI:gZ s0 bb (k+1)=r at*;go_wp2_with (refine bg F _ _ _ F F F (bm.ext aa) jT cE d6 (b_ _) ?_);intro w2 ch cW;have az:=A_ (yC bo aa) cW;obtain⟨c3,c5,dk,c8,de⟩:=dM ch (tF.grown az (by intro x bi;cases bi;intro e;injection e with e;simp only at e;omega)) (cQ.grown az (by intro e;injection e with e;omega)) (cy.grown az (by intro eS d4;cases d4;omega)) cI;clear ch cW az aa cI;go_wp2_with (refine zy F _ _ _ _ F (k:=32) F F underlying32 gu j3 ?_);go_roundw
       case rel=>
        refine⟨k+1,n' - 32,c' - 32,_,F,J,J,J,O fun e=> ?_,O ?_,O ?_,by rw[de.out];exact c3,dk,c8⟩
        ·have:=ck.out (FM.1 e);omega
        ·intro x bi;have ao:=Dx (r:=some (x.block)) (c:=c') (k:=32) (a:=some ⟨gb,off,none⟩);by_cases dv:gb=x.block
         ·omega
         ·exact absurd F (ao (by intro y ee;cases ee;intro e;injection e with e;exact dv e) x bi)
        ·have ao:=c5.shift c' 32 (n' - 32) J;rw[<-map_drop,drop_drop,take_of_length_le (by rw[length_map,length_drop,bt.out];omega)]at ao;rwa[show 32*k+32=32*(k+1) by omega]at ao
       case measure=>simp[zf];omega
    ·have ea:n'=0:=J;subst ea;have d5:k=I+1:=J;subst d5;rw[<-b0.out]at bd;have a4:=da;have ds:=b_ cj;generalize cz:cj.map Y=ew at*;have db:=O cz;clear cz;go_wp2_with (first|(refine bV F _ _ F F bd jT a4 ?_)|(refine bg F _ _ _ F F F cQ jT F a4 ds ?_));intro cX dq eg;go_wp2;refine gG F F dq jT a4 F ⟨by rw[db.out],eg.ext cy l5⟩
theorem uV(d:Int)(t:aj)(n c:Nat)(a:aN)(w:World)(aE:0<=d)(a0:d<=255)(ht:t.length=n)(hn:n<=1099511627776)(ad:aK w a (t.map Y)):
 nW 70 #[.int .i64 d,.slice a n c] w (.agg ((dY d t).map Y).toArray):=by
 have al:=O ad;have a1:=fun w' (h:aK w' a (t.map Y))=>WZ d t n c a w' aE a0 ht hn h;have ap:Hid (((lg (lS d) t n).map Y).length=64):=O (by rw[length_map,Bd]);have j:Hid (((dY d t).map Y).length=32):=O (by rw[length_map,j_]);have aq:Hid (((lg (lS d) t n).map Y).take 32=(dY d t).map Y):=O (by rw[dY,ht,map_take]);have ax:=b_ (lg (lS d) t n);have ac:=b_ (dY d t);generalize a2:(dY d t).map Y=E at*;generalize (lg (lS d) t n).map Y=a5 at*;clear ad a2 ht;go_enter func70,ntmps70;go_wp2_with fail;generalize iX:World.alloc w _=ag;have zA:ah ag w.heap.size (List.replicate 32 (.int .u8 0)) 31:=by rw[<-iX];exact ah.aI F F
 have aa:X w ag:=by rw[<-iX];exact(X.refl w).alloc _
 clear iX;refine(a1 _ (al.ext aa)).mono ?_;rintro e I ⟨rfl,R⟩;obtain⟨HZ,am⟩:=aB (zA.ext R) (aa.ext R);have a6:w.heap.size<I.heap.size:=HZ.lt;clear zA aa R;go_wp2_with (refine bg F _ _ _ F F F (ah.aI F F) jT F ap ax ?_);intro w2 ab ae;have e2:X I w2:=ae.ext ((X.refl I).alloc _) l5;obtain⟨ar,an,ai⟩:=aW (HZ.ext e2) (am.ext e2) ab;clear e2 ae ab;go_wp2;refine qV (C:=fun w'=>∃n,w'=w2.drewN n) 2 au au ⟨1,F⟩ ?_;simp only[take_succ_cons,take_zero,drop_succ_cons,drop_zero];iterate 2 quiet_step (fail)
 refine wpQuiet_nil ?_;rintro _ ⟨nq,rfl⟩;have vD:aK (w2.drewN nq) (some ⟨I.heap.size,0,none⟩) E:=by
  have:=aK.tO (ai.drewN (n:=nq));have az:=this.take 32;rwa[aq.out]at az
 have iB:=O vD;clear vD;go_wp2_with (first|(refine Kc F _ _ _ _ F F F (ar.drewN (n:=nq)) underlying32 gu j F (fun e=>by cases e) iB aF ac ?_));intro a4 u af;have uW:fV (List.replicate 32 (.int .u8 0)) 0 E=E:=by
  unfold fV;rw[take_zero,nil_append,drop_of_length_le (by rw[j.out];simp),append_nil]
 change ah a4 _ (fV (List.replicate 32 (.int .u8 0)) 0 E) _ at u;rw[uW]at u;have ao:=O (af.ext (an.drewN nq) l5);clear uW af;go_wp2_with (first|(refine bV F _ _ F F u bY j ?_)|(refine bg F _ _ _ F F F u bY j j ac ?_));intro a7 aw a3;go_wp2;refine gG F F aw bY j F ⟨F,a3.ext ao l5⟩
theorem iy{P:Program}{E:Func}{j:Ending->World->Prop}{a:Act}{w:World}{p u:Tmp}{ty:TypeId}{g:Nat}{vs:aO}{T:TypeId}
 (xL:E.results= #[.cell p ty,.tmp u])(ac:a.tmps.getD p undef= .pointer (some ⟨g,0,none⟩))(hb:ah w g vs T)
 {n:Nat}(ht:iH P ty n)(hn:vs.length=n)
 (ab:a.defers=[])(aa:j (.returned (.tuple #[.agg vs.toArray,a.tmps.getD u undef])) w):bodyPost P E j .ret a w:=by
 have I:=AV (P:=P) (off:=0) hb ht J;have R:(vs.drop 0).take n=vs:=by simp[<-hn]
 rw[R]at I;refine bodyPost_ret ?_ ab aa;rw[results_cell_tmp xL,ac];simp[asAddr,I]
theorem F8{P:Program}{E:Func}{j:Ending->World->Prop}{a:Act}{w:World}{p u q:Tmp}{ty:TypeId}{g:Nat}{vs:aO}{T:TypeId}
 (xL:E.results= #[.cell p ty,.tmp u,.tmp q])(R:a.tmps.getD p undef= .pointer (some ⟨g,0,none⟩))(hb:ah w g vs T)
 {n:Nat}(ht:iH P ty n)(hn:vs.length=n)
 (ac:a.defers=[])(ab:j (.returned (.tuple #[.agg vs.toArray,a.tmps.getD u undef,a.tmps.getD q undef])) w):bodyPost P E j .ret a w:=by
 have I:=AV (P:=P) (off:=0) hb ht J;have aa:(vs.drop 0).take n=vs:=by simp[<-hn]
 rw[aa]at I;refine bodyPost_ret (v:= .tuple #[.agg vs.toArray,a.tmps.getD u undef,a.tmps.getD q undef]) ?_ ac ab;simp only[Array.getD_eq_getD_getElem?]at R;simp[results,xL,R,asAddr,I]
def zeros(n:Nat):Value:= .agg (List.replicate n (.int .u8 0)).toArray
theorem JI(n:Nat):∀v∈List.replicate n (Value.int .u8 0),v.oneCell'=true:=by intro v j;rw[mem_replicate]at j;rw[j.2];rfl
theorem O4{t:TypeId}{n:Nat}(ht:prog.underlying t=some (.array n 5))(xs ys:aj)(j:xs.length=n)(u:ys.length=n)(w:World):
 (binOp .eql t (.agg (xs.map Y).toArray) (.agg (ys.map Y).toArray)).run prog w= .ok (.bool (xs==ys)) w:=
 run_eql_bytes w t 5 n ht underlying5 (fun w=>by kernel_rfl) xs ys j u
theorem vY{t:TypeId}{n:Nat}(ht:prog.underlying t=some (.array n 5))(xs ys:aj)(u:xs.length=n)(E:ys.length=n)(w:World):
 (binOp .neq t (.agg (xs.map Y).toArray) (.agg (ys.map Y).toArray)).run prog w= .ok (.bool (!(xs==ys))) w:=by
 have h:=run_equalIn_bytes w 9998 t 5 n ht underlying5 (fun w=>by kernel_rfl) xs ys u E;rw[run_neq_struct];have j:(Op.equalIn 10000 t (.agg (xs.map Y).toArray) (.agg (ys.map Y).toArray)).run prog w= .ok (xs==ys) w:=h;rw[j];rfl
theorem O5:prog.eqGuardType prog.depth 31=false:=au
section
open Go Go.RowKit
section
variable {P:Program} {ops:Array Oper} {rest:List Oper} {o:Oper} {a:Act} {w:World} {Q:Exit->Act->World->Prop}
theorem U5(u:Region.wanted o (yielded ops a.tmps)=true)(h:∀K:Act->World->Prop,(∀a w,wpList P ops Q rest a w->K a w)->o.wp P a w K Q):wpList P ops Q (o::rest) a w:=
 wpList_step fun K j=>by rw[if_pos u];exact h K j
theorem O6(R:Region.wanted o (yielded ops a.tmps)=true)(ty:TypeId)(x:Operand)(I:o.op= .load ty x){g:Nat}{vs:aO}{T:TypeId}
 (aa:a.eval x= .pointer (some ⟨g,0,none⟩))(hb:ah w g vs T){n:Nat}(ht:iH P ty n)(hn:vs.length=n)
 (h:wpList P ops Q rest (a.put o.dst (.agg vs.toArray)) w):wpList P ops Q (o::rest) a w:=
 U5 R fun K E=>by
  have j:=AV (P:=P) (off:=0) hb ht J;have u:(vs.drop 0).take n=vs:=by simp[<-hn]
  rw[u]at j;unfold Oper.wp execOp;simp only[I,aa,Instr.loadAt,Instr.sureAddr,Sem.run_bind,Sem.run_pure,Result.andThen_ok,j];exact E _ _ h
end
theorem F9{P:Program}{d:Nat}{xs ys:Array Value}{f:Field}{j:List Field}{a b:Value}{w:World}(hn:f.name≠ "_")(u:(part f.type xs f.offset).run P w= .ok a w)(E:(part f.type ys f.offset).run P w= .ok b w)(I:(Op.equalIn d f.type a b).run P w= .ok true w):
 (Op.eqFields d xs ys (f::j)).run P w=(Op.eqFields d xs ys j).run P w:=by
 simp[Op.eqFields,hn,u,E,I]
theorem O7{P:Program}{t:TypeId}{k:IntKind}{xs:Array Value}{off:Nat}{v:Value}{w:World}(ht:P.underlying t=some (.int k))(j:xs[off]? =some v):(part t xs off).run P w= .ok v w:=by
 simp[part,isAgg,run_underlying ht,j]
theorem O8{P:Program}{t e:TypeId}{n m:Nat}{xs:Array Value}{off:Nat}{w:World}(ht:P.underlying t=some (.array n e))(hs:P.cellsOf t=m):(part t xs off).run P w= .ok (.agg (xs.extract off (off+m))) w:=by
 obtain⟨i,j⟩:=info_of_underlying ht;simp[part,isAgg,run_underlying ht,run_sizeOf w j,hs]
end
theorem JJ{r:Result Value}{v v':Value}{w w':World}{x:Option Nat}(j:r= .ok v w)(u:r= .ok v' w')(E:v.ownBlock=x):v'.ownBlock=x:=by grind
def uX(d:Int)(t:aj)(n:Nat):Value:=
 if d<0∨255<d then .tuple #[zeros 32,.int .i64 3]else if n<=1048576 then .tuple #[.agg ((dY d t).map Y).toArray,.int .i64 0]else .tuple #[zeros 32,.int .i64 5]
theorem Gf(d:Int)(t:aj)(n c:Nat)(a:aN)(w:World)(ht:t.length=n)(hnc:n<=c)(hc:c<=9223372036854775807)(aq:a=none->c=0)(ax:aK w a (t.map Y)):
 nW 94 #[.int .i64 d,.slice a n c] w (uX d t n):=by
 obtain⟨V,ac⟩:=aC (uX d t n);rw[ac];unfold uX at ac;obtain⟨HV,ab,a0,aE⟩:=bU ac ht ax aq;clear ht ax aq ac;go_enter func94,ntmps94;go_wp2_with fail;generalize iX:World.alloc (World.alloc w _) _=E;have zA:ah E w.heap.size (List.replicate 32 (.int .u8 0)) 31:=by rw[<-iX];exact(ah.aI F F).alloc _
 have am:ah E (w.heap.size+1) [.slice a n c] 32:=by rw[<-iX];exact ah.aI aF F
 have al:X w E:=by rw[<-iX];exact((X.refl w).alloc _).alloc _
 clear iX;have aw:fZ [(a,c,t)]=t:=by simp[fZ]
 refine(WQ [(a,c,t)] d (w.heap.size+1) 1 1 E F J ?hg am.lt ?hc ?hn ?hnc ?hcm).mono ?_
 case hg=>
  intro i ae hit
  match i,hit with
  |0,hit=>cases hit;rw[nS];simp only;rw[ab.out];exact am.cell' F
 case hc=>
  intro ae hit;simp only[mem_cons,not_mem_nil,or_false]at hit;subst hit;exact a0.ext al
 case hn=>
  intro ae hit;simp only[mem_cons,not_mem_nil,or_false]at hit;subst hit;exact aE
 case hnc=>
  intro ae hit;simp only[mem_cons,not_mem_nil,or_false]at hit;subst hit;simp only;rw[ab.out];exact hnc
 case hcm=>
  intro ae hit;simp only[mem_cons,not_mem_nil,or_false]at hit;subst hit;exact hc
 intro e a4 h;rw[aw]at h;unfold JG at h;rw[ab.out]at h;obtain⟨h,ai⟩:=h;obtain⟨ag,af⟩:=aB (zA.ext ai) (al.ext ai);have a5:w.heap.size<E.heap.size:=zA.lt;clear zA am al ai aw;by_cases u:d<0∨255<d
 ·rw[if_pos u]at h;have j:=HV.out;rw[if_pos u]at j;subst h;have I:=O j;clear u j HV;go_wp2_with (refine bg F _ _ _ F F F ag bY aF (xs:=List.replicate 32 (.int .u8 0)) aF (JI 32) ?_);intro az R aa;go_wp2;refine iy F F R bY aF F ⟨by rw[<-I.out];unfold zeros;rfl,aa.ext af J⟩
 ·rw[if_neg u]at h;have j:=HV.out;rw[if_neg u]at j;by_cases ad:n<=1048576
  ·rw[if_pos ad]at h j;obtain⟨rfl,ar⟩:=h;have an:=WO (lS d) t n E.heap.size vX a4 (JE d) J ar;rw[show(lg (lS d) t n).take 32=dY d t by rw[dY,ab.out]]at an;have ao:Hid (((dY d t).map Y).length=32):=O (by rw[length_map,j_]);have a3:=b_ (dY d t);generalize (dY d t).map Y=a6 at*;obtain⟨I,ap⟩:=aB j an;clear u j HV an ar ad;go_wp2_with fail;refine ap.mono ?_;rintro e w2 ⟨rfl,e2⟩;obtain⟨a2,a1⟩:=aB (ag.ext e2) (af.ext e2);clear e2 ap;go_wp2_with (refine bg F _ _ _ F F F a2 bY aF ao a3 ?_);intro az R aa;go_wp2;refine iy F F R bY ao F ⟨by rw[<-I.out];rfl,aa.ext a1 J⟩
  ·rw[if_neg ad]at h j;subst h;have I:=O j;clear u j HV ad;go_wp2_with (refine bg F _ _ _ F F F ag bY aF (xs:=List.replicate 32 (.int .u8 0)) aF (JI 32) ?_);intro az R aa;go_wp2;refine iy F F R bY aF F ⟨by rw[<-I.out];unfold zeros;rfl,aa.ext af J⟩
theorem W9(u:UInt64):(dG u).drop 4=gq (UInt32.ofNat u.toNat):=F
theorem O9(N:Nat)(w:World)(aa:N<=4611686018427387904):
 Calls prog 137 #[.int .i64 (N:Int)] w fun e w'=>e= .returned (.slice (some ⟨w.heap.size,4,none⟩) 4 4)/\aK w' (some ⟨w.heap.size,4,none⟩) ((gq (UInt32.ofNat N)).map Y)/\X w w':=by
 have ab:=O (DN N w aa);have E:(dG (UInt64.ofNat N)).drop 4=gq (UInt32.ofNat N):=by
  rw[W9];have:(UInt64.ofNat N).toNat=N:=by rw[UInt64.toNat_ofNat'];omega
  rw[this]
 have I:=O E;clear E;generalize dG (UInt64.ofNat N)=ac at*;go_enter func137,ntmps137;go_wp2_with fail;refine ab.mono ?_;rintro e ad ⟨rfl,u,R⟩;have j:=aK.vP u 4 4;rw[<-map_drop,I.out,take_of_length_le (by rw[length_map];exact Nat.le_refl 4)]at j;have uE:=O j;clear u j;go_wp2;go_ret;exact⟨F,uE,R⟩
def iO(x y:aj):aj:=dY 2 (x++y)
theorem tY(x y:aj):(iO x y).length=32:=j_ _ _
theorem W_(x y:aj)(w:World)(hx:x.length=32)(am:y.length=32):
 nW 158 #[.agg (x.map Y).toArray,.agg (y.map Y).toArray] w (.agg ((iO x y).map Y).toArray):=by
 obtain⟨a_,HY⟩:=aB hx am;have ae:Hid (((iO x y).map Y).length=32):=O (by rw[length_map,tY]);have a2:=b_ (iO x y);have az:∀u E,fZ [(some ⟨u,0,none⟩,32,x),(some ⟨E,0,none⟩,32,y)]=x++y:=by intro u E;simp[fZ]
 have aE:(x++y).length=64:=by rw[length_append,hx,am]
 have a0:uX 2 (x++y) 64= .tuple #[.agg ((iO x y).map Y).toArray,.int .i64 0]:=by rw[uX,if_neg J,if_pos J];rfl
 obtain⟨a9,al,ao⟩:=aW a0 aE az;clear hx am a0 aE az;generalize (iO x y).map Y=bj at*;go_enter func158,ntmps158;go_wp2_with fail;generalize iX:World.alloc (World.alloc (World.alloc w _) _) _=R;have xA:ah R w.heap.size (x.map Y) 31:=by rw[<-iX];exact((ah.aI F F).alloc _).alloc _
 have yA:ah R (w.heap.size+1) (y.map Y) 31:=by rw[<-iX];exact(ah.aI aF F).alloc _
 have zA:ah R (w.heap.size+2) (List.replicate 32 (.int .u8 0)) 31:=by rw[<-iX];exact ah.aI aF F
 have aw:X w R:=by rw[<-iX];exact((((X.refl w).alloc _).alloc _).alloc _)
 clear iX;obtain⟨ba,bc,ZA,EA⟩:=bU xA yA zA aw;clear xA yA zA aw;obtain⟨C,iB,aJ⟩:=jJ R;refine wp_region_held_drew (S:=C) au ((iB _).2 (X.refl R).drew) (fun Z=> ?_);refine aA 0 ?_;refine aA 1 ?_;refine zo (B:=World.heap R |>.size) (A:=8) (d:=5) (T:=31) (vs:=List.replicate 32 (.int .u8 0)) (D:=C) undef F aJ (fun _ h=>h) (fun _ h=>((iB _).1 h).size) Z ?_;try dsimp only
 refine cO ?_;refine lZ 2 (β:=Nat) (fun g=> .slice (some ⟨g,0,none⟩) 2 2) (fun g w'=>ah w' g [.slice (some ⟨w.heap.size,0,none⟩) 32 32,.slice (some ⟨w.heap.size+1,0,none⟩) 32 32] 32) F F F F (fun _ _=>rfl) au au au F (fun _ _=>jw) ?phi2 ?step2 ?rest2
 case phi2=>exact fun _ _ _ h bh=>h.ext bh
 case step2=>
  intro x I bp aa j;go_wp2_with fail;exact j I.heap.size _ ((X.refl I).alloc _) (ah.aI F F)
 case rest2=>
 intro g;refine aH ?_;refine lZ 3 (β:=aN×Nat) (fun b=> .slice b.1 64 b.2) (Dp 64 ((x++y).map Y)) F F F F (fun _ _=>rfl) au au au F (fun _ _=>jw) ?phi3 ?step3 ?rest3
 case phi3=>exact Dp.ext
 case step3=>
  rintro bl I ⟨ax,hb⟩ aa j;have ar:=(iB I).1 ax;obtain⟨ad,ap⟩:=aB hb ar;clear hb ar ax;go_wp2_with fail;refine(JN [(some ⟨w.heap.size,0,none⟩,32,x),(some ⟨w.heap.size+1,0,none⟩,32,y)] g 2 2 I F J J ?hg ?hc ?hn ?hl).mono ?_
  case hg=>
   intro i a1 hit
   match i,hit with
   |0,hit=>cases hit;rw[nS];simp only;rw[a_.out];exact ad.cell' F
   |1,hit=>cases hit;rw[nS];simp only;rw[HY.out];exact ad.cell' F
  case hc=>
   intro a1 hit;simp only[mem_cons,not_mem_nil,or_false]at hit;rcases hit with rfl|rfl
   ·exact aK.tO (ba.ext ap)
   ·exact aK.tO (bc.ext ap)
  case hn=>
   intro a1 hit;simp only[mem_cons,not_mem_nil,or_false]at hit;rcases hit with rfl|rfl<;>(intro h;cases h)
  case hl=>rw[ao.out,al.out];omega
  rintro e w2 ⟨v,rfl,own,e2⟩;rw[ao.out,al.out]at own;obtain⟨a,c,rfl,u,E,af,ab⟩:=nT own;go_wp2_with fail;exact j (a,c) w2 e2 ⟨u,E,af,ab⟩
 case rest3=>
 rintro⟨a,c⟩;refine aH ?_;refine lZ 4 (β:=Unit) (fun _=> .tuple #[.agg bj.toArray,.int .i64 0]) (fun _ _=>True) F F F F (fun _ _=>rfl) au au au F (fun _ _=>jw) ?phi4 ?step4 ?rest4
 case phi4=>exact fun _ _ _ _ _=>trivial
 case step4=>
  rintro bl I ⟨_,u,E,af,ab⟩ aa j;simp only at u E af ab;have a6:=O ab;clear ab;go_wp2_with fail;refine(Gf 2 (x++y) 64 c a I al u E af a6).mono ?_;rintro e w2 ⟨rfl,e2⟩;rw[a9.out];go_wp2_with fail;exact j () w2 e2 trivial
 case rest4=>
 rintro⟨⟩;refine aH ?_;refine nR 5 ?_;refine nR 6 ?_;refine nR 7 ?_;refine wY F F F (fun _ _=>rfl) au (fun _ _=>jw) ?_;rintro b an ⟨⟨⟨ag,_⟩,_⟩,_⟩ bi hb;obtain⟨ad,bm,bo,a7⟩:=bU hb (EA.ext ((iB an).1 ag)) (ZA.ext ((iB an).1 ag)) ag;clear hb ag;refine aZ 9 ?_;intro aa j;go_wp2_with (refine bg F _ _ _ F F F ad bY aF ae a2 ?_);intro ai aq a3;have ac:=a3.ext ((iB an).1 a7) bi;refine j _ _ ((iB ai).2 ac) ?_;obtain⟨a8,a4,bd,a5⟩:=bU ((iB ai).2 ac) aq (ZA.ext ac) (EA.ext ac);clear j aa a3 aq ac;refine aH ?_;refine aZ 10 ?_;intro aa j;go_wp2_with fail;refine j _ _ ((iB ai).2 ?_) ?_
 ·exact(iB ai).1 a8
 clear j aa;refine dH ?_;go_wp2_with (first|(refine bV F _ _ F F a4 bY ae ?_)|(refine bg F _ _ _ F F F bd bY aF ae a2 ?_));intro br be bk;go_wp2;refine gG F F be bY ae F ⟨F,bk.ext a5 J⟩
end Go.Proofs.YtjlhhnkhcbpnjaaGreatDoor
