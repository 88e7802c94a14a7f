/- Laws that the row leans on; no condition. -/
import Derived.Test.YtjlhhnkhcbpnjaaGreatDoorJ1
import Derived.Lib.Bytealg
import Derived.Shelf.GgSortFunc.InsertionK
import Derived.Sort.Statements
import Derived.Laws.BytesArg
import Derived.Laws.OwnMore
import Derived.Lib.Walk
import Derived.Lib.SliceRun
import Derived.Lib.AppendZerosOnto
import Derived.Laws.AppendOwnNone
import Derived.Laws.MakeOwn
namespace Go.Proofs.YtjlhhnkhcbpnjaaGreatDoor
open Go Go.RowKit List Tryz
set_option linter.unusedVariables false
set_option linter.unusedSimpArgs false
set_option maxHeartbeats 40000000
set_option maxRecDepth 100000
theorem VW(s:ByteArray)(i:Nat)(c:UInt8)(h:s.data[i]? =some c)(w:World):(Instr.index 9 (.string s) (.int .i64 (i:Int))).run prog w= .ok (.int .u8 (c.toNat:Int)) w:=by
 have u:s[i]? =some c:=by
  have j:i<s.size:=(Array.getElem?_eq_some_iff.1 h).1;rw[getElem?_pos s i j];have:=(Array.getElem?_eq_some_iff.1 h).2;exact congrArg some this
 simp[Instr.index,asIntOf,run_underlying underlying9,u]
theorem Oq(s:ByteArray)(w:World)(hn:s.size<=140737488355328):
 Calls prog 277 #[.string s] w fun e w'=>e= .returned (.bool (jK s.data.toList))/\w=w':=by
 obtain⟨n,bi⟩:=aC s.size;have a7:s.data.toList.length=n:=by rw[<-bi,Array.length_toList];rfl
 obtain⟨aL,aE⟩:=aC (jK s.data.toList);rw[aE];unfold jK at aE;obtain⟨a6,ag⟩:=aB aE a7;have a9:∀i:Nat,s.data[i]? =s.data.toList[i]? :=fun i=>by rw[Array.getElem?_toList]
 have ax:=O a9;clear aE a7 a9;go_enter func277,ntmps277;go_wp2;go_loopw [3] (fun x wr=>∃i:Nat,i<=n/\x= .int .i64 i/\Hid ((s.data.toList.take i).all jl=true)/\Hid (w=wr))
  (fun x _=>n - (intOf x).toNat)
 case atStart=>exact⟨0,J,F,O aF,O F⟩
 case round=>
  obtain⟨i,bw,rfl,aq,E⟩:=hrel;by_cases bq:i<n
  ·have bv:decide ((i:Int)<(n:Int))=true:=aQ J;obtain⟨c,hc⟩:∃c,s.data.toList[i]? =some c:=⟨_,List.getElem?_eq_getElem (by rw[ag.out];exact bq)⟩;have ba:=fun w=>VW s i c (by rw[ax.out];exact hc) w;have bj:=c.toNat_lt;have be:(s.data.toList.take (i+1)).all jl=jl c:=by
    rw[take_add_one,hc,all_append,aq.out];simp
   have bh:jl c=false->aL=false:=by
    intro hf;have br:=mem_of_getElem? hc;have:s.data.toList.all jl=false:=by
     rw[all_eq_false];exact⟨c,br,by rw[hf];simp⟩
    rw[<-a6.out,this];rfl
   obtain⟨ap,a2⟩:=aB be bh;obtain⟨C,az⟩:=aC c.toNat;rw[az]at ba bj;obtain⟨bu,R⟩:=aB az ba;have a_:∀b,jl c=b↔((decide (97<=C)&&decide (C<=122))||(decide (48<=C)&&decide (C<=57))||C==45||C==46||C==95)=b:=by
    intro b;unfold jl;rw[az]
   have ac:=O a_;clear be bh az a_ hc;have bx:(0:Int)<=(i:Int):=J;have bt:(i:Int)<(n:Int):=J;rcases(by omega:(97<=C/\C<=122)∨122<C∨(48<=C/\C<=57)∨C=95∨(57<C/\C<97/\¬C=95)∨C=45∨C=46∨(C<48/\¬C=45/\¬C=46))with h|h|h|h|h|h|h|h
   ·have j:jl c=true:=(ac true).2 (by simp;omega);have I:=O j;clear j;have af:decide (97<=(C:Int))=true:=by simp;omega
    have ad:decide (97<=C)=true:=by simp;omega
    have bl:decide ((C:Int)<=122)=true:=by simp;omega
    have bm:decide (C<=122)=true:=by simp;omega
    clear h;have ae:=R.out;go_wp2;go_roundw
    case rel=>exact⟨i+1,J,by go_num,O (by rw[ap.out,I.out]),E⟩
    case measure=>simp[intOf];omega
   ·have j:jl c=false:=(ac false).2 (by simp;omega);have ab:=a2.out j;have u:=O ab;clear j ab;have af:decide (97<=(C:Int))=true:=by simp;omega
    have ad:decide (97<=C)=true:=by simp;omega
    have bl:decide ((C:Int)<=122)=false:=by simp;omega
    have bm:decide (C<=122)=false:=by simp;omega
    have ai:decide (48<=(C:Int))=true:=by simp;omega
    have am:decide (48<=C)=true:=by simp;omega
    have aR:decide ((C:Int)<=57)=false:=by simp;omega
    have a5:decide (C<=57)=false:=by simp;omega
    have ar:((C:Int)==45)=false:=by simp;omega
    have ao:decide ((C:Int)=45)=false:=by simp;omega
    have aD:((C:Int)==46)=false:=by simp;omega
    have aw:decide ((C:Int)=46)=false:=by simp;omega
    have a1:((C:Int)==95)=false:=by simp;omega
    have a3:decide ((C:Int)=95)=false:=by simp;omega
    clear h;have ae:=R.out;go_wp2;go_ret;exact⟨by rw[u.out];rfl,E⟩
   ·have j:jl c=true:=(ac true).2 (by simp;omega);have I:=O j;clear j;have af:decide (97<=(C:Int))=false:=by simp;omega
    have ad:decide (97<=C)=false:=by simp;omega
    have ai:decide (48<=(C:Int))=true:=by simp;omega
    have am:decide (48<=C)=true:=by simp;omega
    have aR:decide ((C:Int)<=57)=true:=by simp;omega
    have a5:decide (C<=57)=true:=by simp;omega
    clear h;have ae:=R.out;go_wp2;go_roundw
    case rel=>exact⟨i+1,J,by go_num,O (by rw[ap.out,I.out]),E⟩
    case measure=>simp[intOf];omega
   ·have j:jl c=true:=(ac true).2 (by simp;omega);have I:=O j;clear j;have af:decide (97<=(C:Int))=false:=by simp;omega
    have ad:decide (97<=C)=false:=by simp;omega
    have ai:decide (48<=(C:Int))=true:=by simp;omega
    have am:decide (48<=C)=true:=by simp;omega
    have aR:decide ((C:Int)<=57)=false:=by simp;omega
    have a5:decide (C<=57)=false:=by simp;omega
    have ar:((C:Int)==45)=false:=by simp;omega
    have ao:decide ((C:Int)=45)=false:=by simp;omega
    have aD:((C:Int)==46)=false:=by simp;omega
    have aw:decide ((C:Int)=46)=false:=by simp;omega
    have a1:((C:Int)==95)=true:=by simp;omega
    have a3:decide ((C:Int)=95)=true:=by simp;omega
    clear h;have ae:=R.out;go_wp2;go_roundw
    case rel=>exact⟨i+1,J,by go_num,O (by rw[ap.out,I.out]),E⟩
    case measure=>simp[intOf];omega
   ·have j:jl c=false:=(ac false).2 (by simp;omega);have ab:=a2.out j;have u:=O ab;clear j ab;have af:decide (97<=(C:Int))=false:=by simp;omega
    have ad:decide (97<=C)=false:=by simp;omega
    have ai:decide (48<=(C:Int))=true:=by simp;omega
    have am:decide (48<=C)=true:=by simp;omega
    have aR:decide ((C:Int)<=57)=false:=by simp;omega
    have a5:decide (C<=57)=false:=by simp;omega
    have ar:((C:Int)==45)=false:=by simp;omega
    have ao:decide ((C:Int)=45)=false:=by simp;omega
    have aD:((C:Int)==46)=false:=by simp;omega
    have aw:decide ((C:Int)=46)=false:=by simp;omega
    have a1:((C:Int)==95)=false:=by simp;omega
    have a3:decide ((C:Int)=95)=false:=by simp;omega
    clear h;have ae:=R.out;go_wp2;go_ret;exact⟨by rw[u.out];rfl,E⟩
   ·have j:jl c=true:=(ac true).2 (by simp;omega);have I:=O j;clear j;have af:decide (97<=(C:Int))=false:=by simp;omega
    have ad:decide (97<=C)=false:=by simp;omega
    have ai:decide (48<=(C:Int))=false:=by simp;omega
    have am:decide (48<=C)=false:=by simp;omega
    have ar:((C:Int)==45)=true:=by simp;omega
    have ao:decide ((C:Int)=45)=true:=by simp;omega
    clear h;have ae:=R.out;go_wp2;go_roundw
    case rel=>exact⟨i+1,J,by go_num,O (by rw[ap.out,I.out]),E⟩
    case measure=>simp[intOf];omega
   ·have j:jl c=true:=(ac true).2 (by simp;omega);have I:=O j;clear j;have af:decide (97<=(C:Int))=false:=by simp;omega
    have ad:decide (97<=C)=false:=by simp;omega
    have ai:decide (48<=(C:Int))=false:=by simp;omega
    have am:decide (48<=C)=false:=by simp;omega
    have ar:((C:Int)==45)=false:=by simp;omega
    have ao:decide ((C:Int)=45)=false:=by simp;omega
    have aD:((C:Int)==46)=true:=by simp;omega
    have aw:decide ((C:Int)=46)=true:=by simp;omega
    clear h;have ae:=R.out;go_wp2;go_roundw
    case rel=>exact⟨i+1,J,by go_num,O (by rw[ap.out,I.out]),E⟩
    case measure=>simp[intOf];omega
   ·have j:jl c=false:=(ac false).2 (by simp;omega);have ab:=a2.out j;have u:=O ab;clear j ab;have af:decide (97<=(C:Int))=false:=by simp;omega
    have ad:decide (97<=C)=false:=by simp;omega
    have ai:decide (48<=(C:Int))=false:=by simp;omega
    have am:decide (48<=C)=false:=by simp;omega
    have ar:((C:Int)==45)=false:=by simp;omega
    have ao:decide ((C:Int)=45)=false:=by simp;omega
    have aD:((C:Int)==46)=false:=by simp;omega
    have aw:decide ((C:Int)=46)=false:=by simp;omega
    have a1:((C:Int)==95)=false:=by simp;omega
    have a3:decide ((C:Int)=95)=false:=by simp;omega
    clear h;have ae:=R.out;go_wp2;go_ret;exact⟨by rw[u.out];rfl,E⟩
  ·have bp:i=n:=J;subst bp;have bc:s.data.toList.all jl=true:=by
    have:=aq.out;rwa[take_of_length_le (by rw[ag.out];exact Nat.le_refl _)]at this
   have a0:=a6.out;rw[bc,ag.out]at a0;clear bc;have u:=O a0;clear a0 a6;have al:s.toList=s.data.toList:=ByteArray.toList_eq s;by_cases an:s.data.toList=[]
   ·have a8:s.toList=[]:=by rw[al,an]
    have aa:aL=false:=by rw[<-u.out,an];rfl
    have av:=O aa;clear aa al an u ag ax aq;go_wp2;go_ret;exact⟨by rw[av.out];rfl,E⟩
   ·have a8:¬s.toList=[]:=by rw[al];exact an
    have bk:s.toList.isEmpty=false:=by
     cases h:s.toList.isEmpty with
     |false=>rfl
     |true=>exact absurd (isEmpty_iff.1 h) a8
    have aM:s.data.toList.isEmpty=false:=by rw[<-al];exact bk
    by_cases bd:i<=32
    ·have bo:decide ((i:Int)<=32)=true:=aQ J;have a4:decide (i<=32)=true:=aQ bd;have aa:aL=true:=by rw[<-u.out,aM,a4];rfl
     have av:=O aa;clear aa al an aM u ag ax aq;go_wp2;go_ret;exact⟨by rw[av.out];rfl,E⟩
    ·have bo:decide ((i:Int)<=32)=false:=aP J;have a4:decide (i<=32)=false:=aP bd;have aa:aL=false:=by rw[<-u.out,aM,a4];rfl
     have av:=O aa;clear aa al an aM u ag ax aq;go_wp2;go_ret;exact⟨by rw[av.out];rfl,E⟩
def iI(n:Int):Bool:=decide (1<=n)&&decide (n<=12)
theorem Ot(n:Int)(w:World):
 Calls prog 205 #[.int .i64 n] w fun e w'=>e= .returned (.bool (iI n))/\w=w':=by
 by_cases h:1<=n
 ·have j:decide (1<=n)=true:=aQ h;go_enter func205,ntmps205;go_wp2;go_ret;exact⟨by unfold iI;first|rfl|(rw[j];rfl),F⟩
 ·have j:decide (1<=n)=false:=aP h;go_enter func205,ntmps205;go_wp2;go_ret;exact⟨by unfold iI;first|rfl|(rw[j];rfl),F⟩
def ng:Option ByteArray->aT->Int
 |_,[]=>0
 |p,s::t=>if jK s.data.toList then(if p.all fun q=>qY q s then ng (some s) t else 9)else 6
def vV(ls:aT):Int:=ng none ls
def pz(ls:aT):Nat->Option ByteArray
 |0=>none
 |j+1=>ls[j]?
theorem Ou{ls:aT}{k:Nat}{x:ByteArray}(j:ls[k]? =some x):
 ng (pz ls k) (ls.drop k)=if jK x.data.toList then(if(pz ls k).all fun q=>qY q x then ng (pz ls (k+1)) (ls.drop (k+1))else 9)else 6:=by
 obtain⟨hk,u⟩:=List.getElem?_eq_some_iff.1 j;rw[drop_eq_getElem_cons hk,u];show ng (pz ls k) (x::ls.drop (k+1))=_;rw[ng];show _=if jK x.data.toList then(if _ then ng ls[k]? (ls.drop (k+1))else 9)else 6
 rw[j]
theorem Ov{ls:aT}{k:Nat}(h:ls.length<=k)(p:Option ByteArray):ng p (ls.drop k)=0:=by
 rw[drop_eq_nil_of_le h];cases p<;>rfl
theorem VX(ls:aT)(a:aN)(n c:Nat)(w:World)(hn:ls.length=n)(a7:n<=4611686018427387904)(hs:∀s∈ls,s.size<=140737488355328)(ap:aK w a (ls.map bM)):
 Calls prog 276 #[.slice a n c] w fun e w'=>e= .returned (.int .i64 (vV ls))/\X w w':=by
 obtain⟨an,aw,aR⟩:=aW hn ap hs;obtain⟨ad,al⟩:=aC (vV ls);rw[al];have ar:ng (pz ls 0) (ls.drop 0)=ad:=al;clear hn ap hs al;go_enter func276,ntmps276;go_wp2;go_loopw [7] (fun i wr=>∃k:Nat,k<=n/\i= .int .i64 (k:Int)/\ng (pz ls k) (ls.drop k)=ad/\X w wr) (fun i _=>n - (intOf i).toNat)
 case atStart=>exact⟨0,J,F,ar,X.refl _⟩
 case round=>
  obtain⟨k,hk,rfl,u,aq⟩:=hrel;have E:=O aq;clear aq ar;by_cases aa:k<n
  ·have a2:decide ((k:Int)<(n:Int))=true:=aQ J;have a0:decide (k<n)=true:=aQ aa;obtain⟨x,R⟩:∃x,ls[k]? =some x:=⟨ls[k]'(by rw[an.out];exact aa),aF⟩;rw[Ou R]at u;obtain⟨A,rfl,az⟩:=zC aw R;obtain⟨ao,ac⟩:=aB (gW az E) (Oq x wr (aR x (mem_of_getElem? R)));clear az;cases aD:jK x.data.toList with
   |false=>
    rw[aD]at ac u;have ab:=O u;clear u R;go_wp2_with (first|(refine jU F (fP (i:=k) F F F underlying98 tV aa _) ?_)|(refine jU F (kT F F ao oO) ?_));refine ac.mono ?_;rintro e w2 ⟨rfl,rfl⟩;go_wp2_with fail;go_ret;exact⟨by rw[<-ab.out];rfl,E⟩
   |true=>
    rw[aD]at ac u;simp only[if_true]at u;cases k with
    |zero=>
     have aL:ng (pz ls 1) (ls.drop 1)=ad:=u;have ab:=O aL;clear aL u R;go_wp2_with (first|(refine jU F (fP (i:=0) F F F underlying98 tV aa _) ?_)|(refine jU F (kT F F ao oO) ?_));refine ac.mono ?_;rintro e w2 ⟨rfl,rfl⟩;go_wp2_with fail;go_roundw
     case rel=>exact⟨1,J,by go_num,ab,E⟩
     case measure=>simp[intOf];omega
    |succ j=>
     obtain⟨q,ai⟩:∃q,ls[j]? =some q:=⟨ls[j]'(by rw[an.out];omega),aF⟩;obtain⟨a6,am,oz⟩:=zC aw ai;injection am with am;subst am;have aM:=O (gW oz E);have av:(if qY q x=true then ng (pz ls (j+2)) (ls.drop (j+2))else 9)=ad:=by
      rw[show pz ls (j+1)=some q from ai]at u;exact u
     obtain⟨aE,ax⟩:=aB av (Oo q x);have a3:j<n:=J;have a4:IntKind.i64.wrap (((j+1:Nat):Int) - 1)=(j:Int):=by rw[IntWalk.i64_in _ J];omega
     have a5:decide ((0:Int)<((j+1:Nat):Int))=true:=aQ J;clear oz ai u R av;go_wp2_with (first|(refine jU F (fP (i:=j+1) F F F underlying98 tV aa _) ?_)|(refine jU F (kT F F ao oO) ?_));refine ac.mono ?_;rintro e w2 ⟨rfl,rfl⟩;go_wp2_with (first|(refine jU F (fP (i:=j) F F F underlying98 tV a3 _) ?_)|(refine jU F (kT F F aM oO) ?_))
     ·rename_i ae;have af:qY q x=false:=by
       have I:=ax.out;rcases ae with ag|ag
       ·rw[ag]at I;simpa using I.symm
       ·rw[ag]at I;simpa using I.symm
      go_ret;exact⟨by rw[<-aE.out,af];rfl,E⟩
     ·rename_i ae;have af:qY q x=true:=by
       have I:=ax.out;rw[ae.1,ae.2]at I;simpa using I.symm
      have a1:ng (pz ls (j+2)) (ls.drop (j+2))=ad:=by have:=aE.out;rw[af]at this;simpa using this
      go_roundw
      case rel=>exact⟨j+2,J,by go_num,a1,E⟩
      case measure=>simp[intOf];omega
  ·have a2:decide ((k:Int)<(n:Int))=false:=aP J;have a0:decide (k<n)=false:=aP aa;rw[Ov (by rw[an.out];omega)]at u;have ab:=O u;clear u;go_wp2;go_ret;exact⟨by rw[<-ab.out];rfl,E⟩
section
open Go Go.Lib
abbrev eH:=Lib.compareBytes
theorem Js:∀x:aj,eH x x=0
 |[]=>rfl
 |a::ar=>by
  unfold eH Lib.compareBytes;rw[if_neg (UInt8.lt_irrefl a),if_neg (UInt8.lt_irrefl a)];exact Js ar
theorem Jt:∀x y:aj,eH y x= - eH x y
 |[],[]=>rfl
 |[],_::_=>rfl
 |_::_,[]=>rfl
 |a::E,b::bs=>by
  have ih:=Jt E bs;unfold eH Lib.compareBytes at ih⊢;by_cases j:a<b
  ·have u:¬b<a:=UInt8.lt_asymm j;simp[j,u]
  ·by_cases u:b<a
   ·simp[j,u]
   ·simp only[j,u,if_false];unfold Lib.compareBytes;cases E<;>cases bs<;>simp_all [Lib.compareBytes]
theorem Ox:∀{x y:aj},eH x y=0->x=y
 |[],[],_=>rfl
 |[],_::_,h=>by simp[eH,Lib.compareBytes]at h
 |_::_,[],h=>by simp[eH,Lib.compareBytes]at h
 |a::ar,b::bs,h=>by
  unfold eH at h;unfold Lib.compareBytes at h;by_cases h1:a<b
  ·rw[if_pos h1]at h;cases h
  ·by_cases h2:b<a
   ·rw[if_neg h1,if_pos h2]at h;cases h
   ·rw[if_neg h1,if_neg h2]at h;have e1:a=b:=UInt8.le_antisymm (UInt8.not_lt.1 h2) (UInt8.not_lt.1 h1);rw[e1,Ox h]
theorem Oy:∀x y:aj,eH x y= -1∨eH x y=0∨eH x y=1
 |[],[]=> .inr (.inl F)
 |[],_::_=> .inl F
 |_::_,[]=> .inr (.inr F)
 |a::ar,b::bs=>by
  unfold eH Lib.compareBytes;split
  ·exact .inl F
  ·split
   ·exact .inr (.inr F)
   ·exact Oy ar bs
theorem Oz:∀{x y z:aj},eH x y<0->eH y z<0->eH x z<0
 |[],[],_,h,_=>by simp[eH,Lib.compareBytes]at h
 |_,_::_,[],_,h=>by simp[eH,Lib.compareBytes]at h
 |[],_::_,_::_,_,_=>by simp[eH,Lib.compareBytes]
 |_::_,[],_,h,_=>by simp[eH,Lib.compareBytes]at h
 |a::ar,b::bs,c::cs,h1,h2=>by
  unfold eH at h1 h2⊢;unfold Lib.compareBytes at h1 h2⊢;by_cases p1:a<b
  ·by_cases q1:b<c
   ·rw[if_pos (UInt8.lt_trans p1 q1)];decide
   ·by_cases q2:c<b
    ·rw[if_neg q1,if_pos q2]at h2;exact absurd h2 aX
    ·have e:b=c:=UInt8.le_antisymm (UInt8.not_lt.1 q2) (UInt8.not_lt.1 q1);rw[<-e,if_pos p1];decide
  ·by_cases j:b<a
   ·rw[if_neg p1,if_pos j]at h1;exact absurd h1 aX
   ·have e:a=b:=UInt8.le_antisymm (UInt8.not_lt.1 j) (UInt8.not_lt.1 p1);rw[if_neg p1,if_neg j]at h1;subst e;by_cases q1:a<c
    ·rw[if_pos q1];decide
    ·by_cases q2:c<a
     ·rw[if_neg q1,if_pos q2]at h2;exact absurd h2 aX
     ·rw[if_neg q1,if_neg q2]at h2⊢;exact Oz h1 h2
def qp(x y:aj):Bool:=decide (eH x y<0)
theorem Ju(x:aj):qp x x=false:=by unfold qp;rw[Js];rfl
theorem FT{x y z:aj}(h1:qp x y=true)(h2:qp y z=true):qp x z=true:=by
 unfold qp at*;exact aQ (Oz (of_decide_eq_true h1) (of_decide_eq_true h2))
theorem VY(x y:aj):qp x y=true∨x=y∨qp y x=true:=by
 unfold qp;have h:=Jt x y;rcases Oy x y with h1|h1|h1
 ·left;rw[h1];rfl
 ·right;left;exact Ox h1
 ·right;right;rw[h,h1];rfl
theorem Jv{x y z:aj}(u:qp x y=false)(E:qp y z=false):qp x z=false:=by
 cases h:qp x z with
 |false=>rfl
 |true=>
  exfalso;rcases VY y z with j|j|j
  ·rw[j]at E;cases E
  ·subst j;rw[h]at u;cases u
  ·have:=FT h j;rw[this]at u;cases u
end
section
open Go Go.RowKit Go.Sort
structure VZ where
 l:aj
 h:l.length=32
instance:Inhabited VZ:=⟨⟨List.replicate 32 0,aF⟩⟩
end
section
open Go Go.RowKit
section
variable {P:Program} {ops:Array Oper} {Q:Exit->Act->World->Prop} {C:World->Prop}
def aej(P:Program)(C:World->Prop)(w:World)(v:Value):Result Next->Prop
 | .ok (.value u) w'=>w'=w/\u=v
 | .ok .skip w'=>w'=w/\v=undef
 | .ok (.enter f E) w'=>w'=w/\Calls P f E w (fun e j=>e= .returned v/\C j/\X w j)
 |_=>False
end
attribute [go_sem] aej
end
theorem sG(w:World)(r:Option Nat):w.grownBy w r:=⟨F,F,F,Nat.le_refl _,fun _ _ _=>rfl⟩
theorem xk{w j w2:World}{r:Option Nat}(h:w.grownBy j r)(e:X j w2):w.grownBy w2 r:=
 ⟨e.os.trans h.os,e.tape.trans h.tape,e.output.trans h.output,Nat.le_trans h.size e.size,fun k hk hn=>(e.block k (Nat.lt_of_lt_of_le hk h.size)).trans (h.block k hk hn)⟩
theorem FU{w j w2:World}{g:Nat}(h:w.grownBy j (some g))(u:aU j g w2):w.grownBy w2 (some g):=
 ⟨u.os.trans h.os,u.tape.trans h.tape,u.output.trans h.output,by rw[u.size];exact h.size,fun k hk hn=>(u.block k (fun e=>hn (by rw[e]))).trans (h.block k hk hn)⟩
theorem DI{w j w2:World}{g:Nat}{r:Option Nat}(h:w.grownBy j r)(u:aU j g w2)(E:w.heap.size<=g):w.grownBy w2 r:=
 ⟨u.os.trans h.os,u.tape.trans h.tape,u.output.trans h.output,by rw[u.size];exact h.size,fun k hk hn=>(u.block k J).trans (h.block k hk hn)⟩
def qw(w:World)(g:Nat)(a:aN)(xs:aO):Prop:=xs=[]∨∃b off,a=some ⟨b,off,none⟩/\b≠g/\∀i u,xs[i]? =some u->w.cell? ⟨b,off+i,none⟩=some u
theorem qw.cells{w:World}{g:Nat}{a:aN}{xs:aO}(h:qw w g a xs):aK w a xs:=by
 rcases h with h|⟨b,off,ha,_,h⟩
 ·exact .inl h
 ·exact .inr ⟨b,off,ha,h⟩
theorem qw.grown{w w':World}{g:Nat}{a:aN}{xs:aO}(h:qw w g a xs)(k:w.grownBy w' (some g)):qw w' g a xs:=by
 rcases h with h|⟨b,off,ha,hb,h⟩
 ·exact .inl h
 ·exact .inr ⟨b,off,ha,hb,fun i u j=>k.cell (h i u j) (by simpa using hb)⟩
theorem qw.ext{w w':World}{g:Nat}{a:aN}{xs:aO}(h:qw w g a xs)(k:X w w'):qw w' g a xs:=by
 rcases h with h|⟨b,off,ha,hb,h⟩
 ·exact .inl h
 ·refine .inr ⟨b,off,ha,hb,fun i u E=> ?_⟩;have j:=h i u E;have hb:=block_lt_of_cell j;have:=k.cell (p:=⟨b,off+i,none⟩) hb;rw[this];exact j
theorem qw.at{w:World}{g:Nat}{a:aN}{xs:aO}(h:qw w g a xs){i:Nat}{u:Value}(j:xs[i]? =some u):
 ∃b off,a=some ⟨b,off,none⟩/\w.cell? ⟨b,off+i,none⟩=some u:=by
 rcases h with rfl|⟨b,off,ha,_,h⟩
 ·simp at j
 ·exact⟨b,off,ha,h i u j⟩
theorem qw.of{w w':World}{g:Nat}{a:aN}{xs:aO}(h:aK w a xs)(ab:w.heap.size<=g)(e:X w w'):qw w' g a xs:=by
 rcases h.ext e with j|⟨b,off,ha,j⟩
 ·exact .inl j
 ·rcases h with h|⟨ac,ad,E,R⟩
  ·exact .inl h
  ·rw[ha]at E;cases E;by_cases I:xs=[]
   ·exact .inl I
   ·refine .inr ⟨b,off,ha,?_,j⟩;obtain⟨u,aa⟩:∃u,xs[0]? =some u:=⟨xs[0]'(length_pos_iff.2 I),aF⟩;have:=block_lt_of_cell (R 0 u aa);simp only at this;omega
section
open Go Go.RowKit
section
variable {P:Program} {ops:Array Oper} {Q:Exit->Act->World->Prop} {S:World->Prop} {W:List Nat}
def jL(P:Program)(ops:Array Oper)(Q:Exit->Act->World->Prop)(S:World->Prop)(W:List Nat):Nat->Array Bool->Act->World->Prop
 |0,listed,a,w=>Region.ready .any ops listed=[]/\Q .normal a w
 |f+1,listed,a,w=>(Region.ready .any ops listed=[]->Q .normal a w)/\
  ∀i∈Region.ready .any ops listed,wpOp P ops Q i (fun a' w'=>(W.contains i=false->S w->S w')/\jL P ops Q S W f (listed.setIfInBounds i true) a' w') a w
theorem OA:∀(f:Nat) (j:Array Bool) (a:Act) (w:World),jL P ops Q S W f j a w->wpAny P .any ops Q f j a w
 |0,_,_,_,h=>h
 |f+1,_,_,_,h=>⟨h.1,fun i u=>wpOp_mono (fun a' w' E=>OA f _ a' w' E.2) (h.2 i u)⟩
def y8(ops:Array Oper)(j:Array Bool):Prop:=∀k,j.getD k false=true->∀o,ops[k]? =some o->∀e∈o.after,Region.binds .any e=true->j.getD e.on false=true
def xq(ops:Array Oper):Nat->Nat->Nat->Bool
 |0,_,_=>false
 |f+1,j,i=>qR ops j i||(List.range ops.size).any fun k=>qR ops j k&&xq ops f k i
theorem Jw{u:Array Bool}(hd:y8 ops u):∀(f j i:Nat),(∀k,qR ops j k=true->u.getD k false=true)->xq ops f j i=true->u.getD i false=true
 |0,_,_,_,h=>by cases h
 |f+1,j,i,hj,h=>by
  simp only[xq,Bool.or_eq_true,any_eq_true,Bool.and_eq_true]at h;rcases h with h|⟨k,_,h1,h2⟩
  ·exact hj i h
  ·refine Jw hd f k i (fun q hq=> ?_) h2;obtain⟨o,ho,e,he,hb,yj⟩:=Dq hq;rw[<-yj];exact hd k (hj k h1) o ho e he hb
theorem OB{u:Array Bool}{j:Nat}(ab:j∈Region.ready .any ops u):∀k,qR ops j k=true->u.getD k false=true:=by
 intro k hk;obtain⟨_,o,E,aa⟩:=mem_ready.1 ab;obtain⟨o',R,e,I,hb,yj⟩:=Dq hk;have:o'=o:=Option.some.inj (R.symm.trans E);subst this;rw[<-yj];exact aa e I hb
theorem y8.set{u:Array Bool}{j:Nat}(ad:y8 ops u)(ac:j∈Region.ready .any ops u):y8 ops (u.setIfInBounds j true):=by
 intro k hk o E e I hb;by_cases R:j=k
 ·subst R;obtain⟨_,o',aa,ab⟩:=mem_ready.1 ac;have:o'=o:=Option.some.inj (aa.symm.trans E);subst this;exact getD_set_true (ab e I hb)
 ·rw[getD_set_ne false R]at hk;exact getD_set_true (ad k hk o E e I hb)
theorem V3{i:Nat}{aa:Oper}{v:Value}(n:Nat)(ag:ops[i]? =some aa)(ao:∀(j:Nat) (o:Oper) cs b,ops[j]? =some o->o.op≠.select cs b)(az:∀j,W.contains j=true->xq ops n j i=true)
 (aM:∀c a w,Q (.panic c) (a.put aa.dst v) w->Q (.panic c) a w):
 ∀(f:Nat) (u:Array Bool) (a:Act) (w:World),y8 ops u->
  (∀j R,ops[j]? =some R->j≠i->u.getD j true=false->(∀e∈R.after,Region.binds .any e=true->e.on≠i)->aa.apart ops R=true)->
  i∈Region.ready .any ops u->YieldsIf P ops S aa v a->S w->
  jL P ops Q S W f (u.setIfInBounds i true) (a.put aa.dst v) w->jL P ops Q S W (f+1) u a w:=by
 intro f;induction f with
 |zero=>
  intro u a w _ _ ac ae I H;refine⟨fun h=>(by rw[h]at ac;cases ac),fun j hj=> ?_⟩;by_cases E:j=i
  ·subst E;exact ae.wpOp ag I ⟨fun _ _=>I,H⟩
  ·have:=ready_mono hj E;rw[H.1]at this;cases this
 |succ f aR=>
  intro u a w aq ar ac ae I H;refine⟨fun h=>(by rw[h]at ac;cases ac),fun j hj=> ?_⟩;by_cases E:j=i
  ·subst E;exact ae.wpOp ag I ⟨fun _ _=>I,H⟩
  ·have h1:=H.2 j (ready_mono hj E);obtain⟨ai,R,af,aL⟩:=mem_ready.1 hj;have ab:=(mem_ready.1 ac).1;have ap:u.getD i false=true->False:=fun h=>by
    simp only[Array.getD_eq_getD_getElem?]at h ab;cases hq:u[i]? with
    |none=>rw[hq]at ab;simp at ab
    |some b=>rw[hq]at h ab;simp at h ab;rw[h]at ab;cases ab
   have ax:∀e∈R.after,Region.binds .any e=true->e.on≠i:=fun e he hb aw=>by
    have h1:=aL e he hb;rw[aw]at h1;exact ap h1
   have an:W.contains j=false:=by
    cases hq:W.contains j with
    |false=>rfl
    |true=>exact absurd (Jw aq n j i (OB hj) (az j hq)) ap
   have h2:=wpOp_putIf af (ar j R af E ai ax) (fun cs b=>ao i aa cs b ag) (fun cs b=>ao j R cs b af) aM ae h1;have aD:∀k ok,ops[k]? =some ok->k≠i->(u.setIfInBounds j true).getD k true=false->
    (∀e∈ok.after,Region.binds .any e=true->e.on≠i)->aa.apart ops ok=true:=fun k ok hk av al aE=>by
    refine ar k ok hk av ?_ aE;by_cases am:j=k
    ·subst am;exact ai
    ·rw[getD_set_ne true am]at al;exact al
   refine wpOp_mono (fun a' w' ad=>⟨fun _ _=>ad.2.1 an I,aR (u.setIfInBounds j true) a' w' (aq.set hj) aD (ready_mono ac (Ne.symm E)) ad.1 (ad.2.1 an I) ?_⟩) h2;rw[Array.setIfInBounds_comm _ _ E];exact ad.2.2
theorem V4{i:Nat}{R:Oper}{v:Value}(ai:ops[i]? =some R)(ap:∀(j:Nat) (o:Oper) cs b,ops[j]? =some o->o.op≠.select cs b)
 (aL:∀c a w,Q (.panic c) (a.put R.dst v) w->Q (.panic c) a w):
 ∀(f:Nat) (u:Array Bool) (a:Act) (w:World),
  (∀j I,ops[j]? =some I->j≠i->u.getD j true=false->(∀e∈I.after,Region.binds .any e=true->e.on≠i)->R.apart ops I=true)->
  i∈Region.ready .any ops u->YieldsIf P ops (fun _=>True) R v a->
  jL P ops Q S W f (u.setIfInBounds i true) (a.put R.dst v) w->jL P ops Q S W (f+1) u a w:=by
 intro f;induction f with
 |zero=>
  intro u a w _ ac ae H;refine⟨fun h=>(by rw[h]at ac;cases ac),fun j ad=> ?_⟩;by_cases E:j=i
  ·subst E;exact ae.wpOp ai trivial ⟨fun _ h=>h,H⟩
  ·have:=ready_mono ad E;rw[H.1]at this;cases this
 |succ f aR=>
  intro u a w aq ac ae H;refine⟨fun h=>(by rw[h]at ac;cases ac),fun j ad=> ?_⟩;by_cases E:j=i
  ·subst E;exact ae.wpOp ai trivial ⟨fun _ h=>h,H⟩
  ·have ab:=H.2 j (ready_mono ad E);obtain⟨al,I,ag,aE⟩:=mem_ready.1 ad;have ax:∀e∈I.after,Region.binds .any e=true->e.on≠i:=fun e aM hb av=>by
    have ab:=aE e aM hb;have aa:=(mem_ready.1 ac).1;rw[av]at ab;simp only[Array.getD_eq_getD_getElem?]at ab aa;cases an:u[i]? with
    |none=>rw[an]at aa;simp at aa
    |some b=>rw[an]at ab aa;simp at ab aa;rw[ab]at aa;cases aa
   have aw:=wpOp_putIf ag (aq j I ag E al ax) (fun cs b=>ap i R cs b ai) (fun cs b=>ap j I cs b ag) aL ae ab;have az:∀k ok,ops[k]? =some ok->k≠i->(u.setIfInBounds j true).getD k true=false->
    (∀e∈ok.after,Region.binds .any e=true->e.on≠i)->R.apart ops ok=true:=fun k ok hk ar am aD=>by
    refine aq k ok hk ar ?_ aD;by_cases ao:j=k
    ·subst ao;exact al
    ·rw[getD_set_ne true ao]at am;exact am
   refine wpOp_mono (fun a' w' af=>⟨af.2.1,aR (u.setIfInBounds j true) a' w' az (ready_mono ac (Ne.symm E)) af.1 ?_⟩) aw;rw[Array.setIfInBounds_comm _ _ E];exact af.2.2
def uT(ops:Array Oper)(j:Array Bool):Bool:=(List.range ops.size).all fun k=> !j.getD k false||(ops[k]?).all fun o=>o.after.all fun e=> !Region.binds .any e||j.getD e.on false
theorem FV{E:Array Bool}(h:uT ops E=true):y8 ops E:=by
 intro k hk o u e R hb;have I:k<ops.size:=(Array.getElem?_eq_some_iff.1 u).1;have j:=all_eq_true.1 h k (mem_range.2 I);rw[hk,u]at j;simp only[Bool.not_true,Bool.false_or,Option.all_some,Array.all_eq_true']at j;have:=j e R;rw[hb]at this;simpa using this
theorem OC(i:Nat){E:Oper}{r:List Oper}{v:Value}{f:Nat}{u:Array Bool}{a:Act}{w:World}(I:ops.toList.drop i=E::r)
 (hs:Region.noSelect ops=true)(aa:(W.all fun j=>xq ops 12 j i)=true)(ac:uT ops u=true)(hf:Region.free .any ops u i=true)(af:(Region.ready .any ops u).contains i=true)
 (ab:∀c a w,Q (.panic c) (a.put E.dst v) w->Q (.panic c) a w)(ae:YieldsIf P ops S E v a)(R:S w)
 (h:jL P ops Q S W f (u.setIfInBounds i true) (a.put E.dst v) w):jL P ops Q S W (f+1) u a w:=
 V3 12 (jy I) (Region.noSelect_spec hs) (fun j ad=>all_eq_true.1 aa j (by simpa using ad)) ab f u a w (FV ac) (Region.free_spec (jy I) hf) (by simpa using af) ae R h
theorem kJ(i:Nat){u:Oper}{r:List Oper}{v:Value}{f:Nat}{j:Array Bool}{a:Act}{w:World}(E:ops.toList.drop i=u::r)
 (hs:Region.noSelect ops=true)(hf:Region.free .any ops j i=true)(aa:(Region.ready .any ops j).contains i=true)
 (R:∀c a w,Q (.panic c) (a.put u.dst v) w->Q (.panic c) a w)(I:YieldsIf P ops (fun _=>True) u v a)
 (h:jL P ops Q S W f (j.setIfInBounds i true) (a.put u.dst v) w):jL P ops Q S W (f+1) j a w:=
 V4 (jy E) (Region.noSelect_spec hs) R f j a w (Region.free_spec (jy E) hf) (by simpa using aa) I h
theorem V5{i:Nat}{o:Oper}{r:List Oper}{f:Nat}{u:Array Bool}{a:Act}{w:World}(ac:Region.ready .any ops u=[i])(ad:ops.toList.drop i=o::r)(I:W.contains i=false)(R:S w)
 (h:∀aa:Exit->Act->World->Prop,(∀a w,S w->jL P ops Q S W f (u.setIfInBounds i true) a w->aa .normal a w)->wpList P ops aa [o] a w):
 jL P ops Q S W (f+1) u a w:=by
 refine⟨fun E=>(by rw[ac]at E;cases E),fun j ab=> ?_⟩;rw[ac]at ab;obtain rfl:j=i:=by simpa using ab
 exact mZ (jy ad) (h _ fun a w R I=>⟨fun _ _=>R,I⟩)
theorem V6{i:Nat}{o:Oper}{r:List Oper}{f:Nat}{u:Array Bool}{a:Act}{w:World}(aa:Region.ready .any ops u=[i])(ab:ops.toList.drop i=o::r)(ac:W.contains i=true)
 (h:∀I:Exit->Act->World->Prop,(∀a w,True->jL P ops Q S W f (u.setIfInBounds i true) a w->I .normal a w)->wpList P ops I [o] a w):
 jL P ops Q S W (f+1) u a w:=by
 refine⟨fun E=>(by rw[aa]at E;cases E),fun j R=> ?_⟩;rw[aa]at R;obtain rfl:j=i:=by simpa using R
 exact mZ (jy ab) (h _ fun a w _ ad=>⟨fun h=>(by rw[ac]at h;cases h),ad⟩)
theorem V7{j:Array Bool}{a:Act}{w:World}(hr:Region.ready .any ops j=[])(h:Q .normal a w):∀f,jL P ops Q S W f j a w
 |0=>⟨hr,h⟩
 |_+1=>⟨fun _=>h,by rw[hr];simp⟩
theorem V8{id:Nat}{a:Act}{w:World}(j:P.follows .mixedOrders=true)(u:S w.drew)
 (h:S w.drew->jL P ops Q S W ops.size (Array.replicate ops.size false) a w.drew):(Code.region id ops true).wp P Q a w:=
 wp_region_any j (OA _ _ _ _ (h u))
end
section
variable {P:Program} {ops:Array Oper} {Q:Exit->Act->World->Prop} {S:World->Prop} {W:List Nat}
theorem eY(i:Nat){u:Oper}{r:List Oper}{f:Nat}{E:Array Bool}{a:Act}{w:World}{R:Prop}{v:Value}{I:Prop}(hf:I)(h:R)(ae:ops.toList.drop i=u::r:=by exact F)(hs:Region.noSelect ops=true:=by kernel_rfl)(ad:(W.all fun j=>xq ops 12 j i)=true:=by kernel_rfl)(ag:uT ops E=true:=by kernel_rfl)(ab:Region.free .any ops E i=true:=by kernel_rfl)(al:(Region.ready .any ops E).contains i=true:=by kernel_rfl)(aa:Region.wanted u (yielded ops a.tmps)=true:=by exact F)(ai:I->∀w,S w->(execOp a.eval u).run P w= .ok (.value v) w:=by(intro hf wq eU;have oz:=hf wq eU;go_simp;try with_reducible rfl))(hx:R->jL P ops Q S W f (E.setIfInBounds i true) (a.put u.dst v) w:=by(intro hx;simp only[Act.put,setIfInBounds_toArray,set_cons_succ,set_cons_zero];exact hx))(ac:S w:=by exact Z)(af:∀c a w,Q (.panic c) (a.put u.dst v) w->Q (.panic c) a w:=by exact fun _ _ _ h=>h):jL P ops Q S W (f+1) E a w:=
 OC i ae hs ad ag ab al af (.inl ⟨aa,ai hf⟩) ac (hx h)
theorem k_(i:Nat){E:Oper}{r:List Oper}{f:Nat}{u:Array Bool}{a:Act}{w:World}{I:Prop}{v:Value}(ac:ops.toList.drop i=E::r)(af:YieldsIf P ops S E v a)(h:I)(hs:Region.noSelect ops=true:=by kernel_rfl)(ab:(W.all fun j=>xq ops 12 j i)=true:=by kernel_rfl)(ae:uT ops u=true:=by kernel_rfl)(R:Region.free .any ops u i=true:=by kernel_rfl)(ag:(Region.ready .any ops u).contains i=true:=by kernel_rfl)(hx:I->jL P ops Q S W f (u.setIfInBounds i true) (a.put E.dst v) w:=by(intro hx;simp only[Act.put,setIfInBounds_toArray,set_cons_succ,set_cons_zero];exact hx))(aa:S w:=by exact Z)(ad:∀c a w,Q (.panic c) (a.put E.dst v) w->Q (.panic c) a w:=by exact fun _ _ _ h=>h):jL P ops Q S W (f+1) u a w:=
 OC i ac hs ab ae R ag ad af aa (hx h)
theorem bK(i:Nat){j:Oper}{r:List Oper}{f:Nat}{u:Array Bool}{a:Act}{w:World}{E:Prop}{v:Value}(h:E)(aa:ops.toList.drop i=j::r:=by exact F)(hs:Region.noSelect ops=true:=by kernel_rfl)(R:Region.free .any ops u i=true:=by kernel_rfl)(ad:(Region.ready .any ops u).contains i=true:=by kernel_rfl)(I:Region.wanted j (yielded ops a.tmps)=true:=by exact F)(ac:∀w,(fun _=>True) w->(execOp a.eval j).run P w= .ok (.value v) w:=by(intro _ _;go_simp;try with_reducible rfl))(hx:E->jL P ops Q S W f (u.setIfInBounds i true) (a.put j.dst v) w:=by(intro hx;simp only[Act.put,setIfInBounds_toArray,set_cons_succ,set_cons_zero];exact hx))(ab:∀c a w,Q (.panic c) (a.put j.dst v) w->Q (.panic c) a w:=by exact fun _ _ _ h=>h):jL P ops Q S W (f+1) u a w:=
 kJ i aa hs R ad ab (.inl ⟨I,ac⟩) (hx h)
theorem FW(i:Nat){j:Oper}{r:List Oper}{f:Nat}{u:Array Bool}{a:Act}{w:World}{E:Prop}{v:Value}(R:ops.toList.drop i=j::r)(ab:YieldsIf P ops (fun _=>True) j v a)(h:E)(hs:Region.noSelect ops=true:=by kernel_rfl)(I:Region.free .any ops u i=true:=by kernel_rfl)(ac:(Region.ready .any ops u).contains i=true:=by kernel_rfl)(hx:E->jL P ops Q S W f (u.setIfInBounds i true) (a.put j.dst v) w:=by(intro hx;simp only[Act.put,setIfInBounds_toArray,set_cons_succ,set_cons_zero];exact hx))(aa:∀c a w,Q (.panic c) (a.put j.dst v) w->Q (.panic c) a w:=by exact fun _ _ _ h=>h):jL P ops Q S W (f+1) u a w:=
 kJ i R hs I ac aa ab (hx h)
theorem jQ{id:Nat}{a:Act}{w:World}(h:S w.drew->jL P ops Q S W ops.size (Array.replicate ops.size false) a w.drew)(j:P.follows .mixedOrders=true:=by kernel_rfl)
 (u:S w.drew:=by exact aJ _ _ bP (X.refl _).drew):(Code.region id ops true).wp P Q a w:=V8 j u h
theorem fC(i:Nat){o:Oper}{r:List Oper}{f:Nat}{j:Array Bool}{a:Act}{w:World}
 (h:∀u:Exit->Act->World->Prop,(∀a w,S w->jL P ops Q S W f (j.setIfInBounds i true) a w->u .normal a w)->wpList P ops u [o] a w)
 (aa:Region.ready .any ops j=[i]:=by kernel_rfl)(E:ops.toList.drop i=o::r:=by exact F)(I:W.contains i=false:=by kernel_rfl)(R:S w:=by exact Z):jL P ops Q S W (f+1) j a w:=V5 aa E I R h
theorem iU(i:Nat){o:Oper}{r:List Oper}{f:Nat}{j:Array Bool}{a:Act}{w:World}
 (h:∀u:Exit->Act->World->Prop,(∀a w,True->jL P ops Q S W f (j.setIfInBounds i true) a w->u .normal a w)->wpList P ops u [o] a w)
 (R:Region.ready .any ops j=[i]:=by kernel_rfl)(E:ops.toList.drop i=o::r:=by exact F)(I:W.contains i=true:=by kernel_rfl):jL P ops Q S W (f+1) j a w:=V6 R E I h
theorem jR{j:Array Bool}{a:Act}{w:World}{f:Nat}(h:Q .normal a w)(hr:Region.ready .any ops j=[]:=by kernel_rfl):jL P ops Q S W f j a w:=V7 hr h _
end
end
def fB(n:Nat):Nat:=2^Nat.log2 (n - 1)
theorem FX{n:Nat}(h:2<=n):1<=fB n/\fB n<n/\n<=2*fB n:=by
 unfold fB;have u:=Nat.log2_self_le (n:=n - 1) J;have j:=Nat.lt_log2_self (n:=n - 1);rw[Nat.pow_succ]at j;have E:0<2^Nat.log2 (n - 1):=Nat.pow_pos J;omega
theorem OD{n j:Nat}(u:2^j<n)(E:n<=2*2^j):2^j=fB n:=by
 have I:0<2^j:=Nat.pow_pos J;have:Nat.log2 (n - 1)=j:=(Nat.log2_eq_iff J).2 ⟨J,by rw[Nat.pow_succ];omega⟩;rw[fB,this]
def gZ(s t:aj):Nat->aj
 |0=>s
 |n+1=>qW (gZ s t n) ((t.drop (32*n)).take 32)
theorem iV{s t:aj}(hs:s.length=64)(n:Nat):(gZ s t n).length=64:=by
 cases n with
 |zero=>exact hs
 |succ n=>exact Jo _ _
theorem DJ{s t b:aj}(n:Nat)(h:32*n<=t.length):gZ s (t++b) n=gZ s t n:=by
 induction n with
 |zero=>rfl
 |succ n j=>
  rw[gZ,gZ,j J,drop_append_of_le_length J,take_append_of_le_length (by rw[length_drop];omega)]
def lQ(w:World)(g:Nat)(T:TypeId)(s0 t:aj)(j:Int):Prop:=
 ∃r:aj,r.length=32/\r.take (t.length%32)=t.drop (32*(t.length / 32))/\ah w g (sm (gZ s0 t (t.length / 32)) r (t.length%32:Nat) j) T
theorem zD{l:aj}{i:Nat}(h:i<l.length):(l.map Y)[i]? =some (.int .u8 ((l[i]?.getD 0).toNat:Int)):=by simp[h,Y]
theorem FY{t b:aj}{m k:Nat}(h:t.length=32*m):(t++b).drop (32*(m+k))=b.drop (32*k):=by
 rw[drop_append,drop_of_length_le (by rw[h];omega),nil_append,h,show 32*(m+k) - 32*m=32*k by omega]
def zf:Value->Nat
 | .slice _ n _=>n
 |_=>0
def FZ(w:World)(g:Nat)(T:TypeId)(s0 u:aj)(j:Int)(e:Ending)(w':World):Prop:=
 e= .returned (.tuple #[])/\lQ w' g T s0 u j/\w.grownBy w' (some g)
theorem V9(s0 t b r:aj)(E:Int)(g m n c:Nat)(a:aN)(T:TypeId)(w:World)(hs:s0.length=64)(aq:r.length=32)(hb:b.length=n)(a1:t.length=32*m)
 (ao:ah w g (sm (gZ s0 t m) r 0 E) T)(hn:n<=140737488355328)(a6:n<=c)(hc:c<=9223372036854775807)(aM:a=none->n=0)(ap:aK w a (b.map Y))(ax:n=0∨∀x,a=some x->some x.block≠some g):
 Calls prog 267 #[.pointer (some ⟨g,0,none⟩),.slice a n c] w (FZ w g T s0 (t++b) E):=by
 have aa:=O hs;clear hs;have R:=O hb;clear hb;have I:=O a1;clear a1;have ac:=O aq;clear aq;have bc:=O aM;clear aM;have bo:=O ax;clear ax;have bu:=O ap;clear ap;have az:=ao.cell' (w_ 0 E (iV aa m) ac);go_enter func267,ntmps267;go_wp2;clear az;go_loopw [1] (fun x wr=>∃(k n' c':Nat) (a':aN),x= .slice a' n' c'/\n'+32*k=n/\n'<=c'/\c'<=c/\Hid (a'=none->n'=0)/\Hid (n'=0∨∀x,a'=some x->some x.block≠some g)/\
  Hid (aK wr a' ((b.drop (32*k)).map Y))/\Hid (ah wr g (sm (gZ s0 (t++b) (m+k)) r 0 E) T)/\Hid (w.grownBy wr (some g)))
  (fun x _=>zf x)
 case atStart=>exact⟨0,n,c,a,F,J,a6,J,bc,bo,bu,O (by rw[Nat.add_zero,DJ _ (by rw[I.out];omega)];exact ao),O (yA _ _)⟩
 case round=>
  obtain⟨k,n',c',a',rfl,hk,bE,bA,ag,a7,am,av,aw⟩:=hrel;by_cases a5:32<=n'
  ·have bq:decide ((32:Int)<=(n':Int))=true:=aQ J;have j:(b.drop (32*k)).length=n':=by rw[length_drop,R.out];omega
   have bz:a'≠none:=fun e=>by have:=ag.out e;omega
   obtain⟨gb,off,rfl,a2⟩:=am.gQ (by rw[length_map,j];omega);have af:=a7.resolve_left J;have be:gb≠g:=fun e=>af _ F (by rw[e]);have aR:=O af;clear af;have bL:=AO (P:=prog) underlying30 (len:=n') a5;have an:∀i,i<32->wr.cell? ⟨gb,off+i,none⟩=some (.int .u8 ((((b.drop (32*k)).take 32)[i]?.getD 0).toNat:Int)):=by
    intro i bw;refine a2 i _ ?_;rw[List.getElem?_take_of_lt bw];exact zD J
   have ba:=O an;clear an a2 bz;have a_:=O j;clear j;go_wp2_with fail;refine(Dw _ ((b.drop (32*k)).take 32) _ g gb off T wr (iV aa _) av ba (.inl be)).mono ?_;rintro e a8 ⟨rfl,u,g1⟩;have aE:qW (gZ s0 (t++b) (m+k)) ((b.drop (32*k)).take 32)=gZ s0 (t++b) (m+(k+1)):=by
    rw[<-Nat.add_assoc,gZ,FY I.out]
   rw[aE]at u;have bv:=O u;clear u aE;obtain⟨br,bk⟩:=aB (l9 aw g1) (am.grown g1 aR);clear g1;go_wp2_with (refine zy F _ _ _ _ F (k:=32) F F underlying32 gu a5 ?_);go_roundw
   case rel=>
    refine⟨k+1,n' - 32,c' - 32,_,F,J,J,J,O fun e=> ?_,O (.inr (Dx aR)),O ?_,bv,br⟩
    ·have:=ag.out (FM.1 e);omega
    ·have ab:=bk.shift c' 32 (n' - 32) J;rw[<-map_drop,drop_drop,take_of_length_le (by rw[length_map,length_drop,R.out];omega)]at ab;rwa[show 32*k+32=32*(k+1) by omega]at ab
   case measure=>simp[zf];omega
  ·have bq:decide ((32:Int)<=(n':Int))=false:=aP J;have j:(b.drop (32*k)).length=n':=by rw[length_drop,R.out];omega
   have a0:((b.drop (32*k)).map Y).length=n':=by rw[length_map,j]
   have ar:n'=Nat.min n' 32:=(Nat.min_eq_left J).symm;have bl:=O ar;clear ar;have aD:64+n'<=(sm (gZ s0 (t++b) (m+k)) r 0 E).length:=by rw[Dy _ _ (iV aa _) ac.out];omega
   have bh:=O aD;clear aD;have ai:=FN (xs:=b.drop (32*k)) 0 E (iV (t:=t++b) aa (m+k)) ac 0 (by rw[j];omega);rw[take_zero,nil_append,Nat.add_zero,Nat.zero_add,j]at ai;have a4:(b.drop (32*k)++r.drop n').length=32:=by rw[length_append,j,length_drop,ac.out];omega
   have a3:(b.drop (32*k)++r.drop n').take n'=b.drop (32*k):=by rw[<-j,take_left]
   have aL:=FY (b:=b) (k:=k) I;generalize b.drop (32*k)=bb at*;obtain⟨bp,a_⟩:=aB aL j;clear j aL;have bt:=O a0;clear a0;generalize bd:bb++r.drop n'=r2 at*;obtain⟨a9,al,bx⟩:=aW a3 a4 ai;clear a3 a4 ai bd;go_wp2_with (refine zA F _ _ _ _ F F F av underlying32 gu bt bl ag am bh (b_ _) ?_);intro a8 u bm;rw[bx.out]at u;have bB:=u.frozen 96;have az:=u.cell' (w_ 0 E (iV aa (m+k)) al);go_wp2;have ae:=u.set 96 (.int .i64 (n':Int));rw[Dz _ _ _ (iV aa _) al.out]at ae;obtain⟨bi,bj⟩:=aB ae (yB (A_ aw bm) 96 (.int .i64 (n':Int)));clear ae;refine ND F F ⟨F,⟨r2,al,?_,?_⟩,bj⟩
   ·have ab:(t++b).length%32=n':=by rw[length_append,I.out,R.out];omega
    have ad:(t++b).length / 32=m+k:=by rw[length_append,I.out,R.out];omega
    rw[ab,ad,bp.out];exact a9
   ·have ab:(t++b).length%32=n':=by rw[length_append,I.out,R.out];omega
    have ad:(t++b).length / 32=m+k:=by rw[length_append,I.out,R.out];omega
    rw[ab,ad];exact bi
def pF(n:Nat):UInt8:=if n<10 then UInt8.ofNat (48+n)else UInt8.ofNat (87+n)
def DK(b:UInt8):aj:=[pF (b.toNat / 16),pF (b.toNat%16)]
def gX(l:aj):aj:=l.flatMap DK
theorem tX(l:aj):(gX l).length=2*l.length:=by
 induction l with
 |nil=>rfl
 |cons x l j=>simp only[gX,flatMap_cons,length_append,length_cons]at*;rw[j];simp[DK];omega
theorem OE(l:aj)(k:Nat)(h:k<l.length):gX (l.take (k+1))=gX (l.take k)++DK (l[k]?.getD 0):=by
 rw[take_succ_eq_append_getElem h,gX,flatMap_append];simp[gX,h]
def zF:ByteArray:={data:= #[48,49,50,51,52,53,54,55,56,57,97,98,99,100,101,102]}
theorem V_(k:Nat)(h:k<16):zF[k]? =some (pF k):=by
 have:∀k:Fin 16,zF[k.val]? =some (pF k.val):=aX;exact this ⟨k,h⟩
theorem OG(k:Nat)(h:k<16)(w:World):(Instr.index 9 (.string {data:= #[48,49,50,51,52,53,54,55,56,57,97,98,99,100,101,102]}) (.int .u8 (k:Int))).run prog w= .ok (.int .u8 ((pF k).toNat:Nat)) w:=by
 have j:=V_ k h;unfold zF at j;simp[Instr.index,asIntOf,run_underlying underlying9,j]
theorem OH(b:UInt8):bits .and .u8 (b.toNat:Int) 15=(b.toNat:Int)%16:=by
 have h:=b.toNat_lt;have e:(15:Int)=((15:Nat):Int):=F;rw[e,(NJ _ 15 h J).2.2,Nat.and_two_pow_sub_one_eq_mod b.toNat 4];omega
theorem Wh(b:UInt8):(∀w,(Instr.index 9 (.string {data:= #[48,49,50,51,52,53,54,55,56,57,97,98,99,100,101,102]}) (.int .u8 ((b.toNat:Int) / 16))).run prog w= .ok (.int .u8 ((pF (b.toNat / 16)).toNat:Nat)) w)/\
 (∀w,(Instr.index 9 (.string {data:= #[48,49,50,51,52,53,54,55,56,57,97,98,99,100,101,102]}) (.int .u8 ((b.toNat:Int)%16))).run prog w= .ok (.int .u8 ((pF (b.toNat%16)).toNat:Nat)) w)/\
 bits .and .u8 (b.toNat:Int) 15=(b.toNat:Int)%16:=by
 have h:=b.toNat_lt;have j:(b.toNat:Int) / 16=((b.toNat / 16:Nat):Int):=J;have e2:(b.toNat:Int)%16=((b.toNat%16:Nat):Int):=J;rw[OH,j,e2];exact⟨OG _ J,OG _ J,F⟩
theorem xu:(prog.info? 5).map (fun i=>(i.zero,i.size,i.bytes))=some (some (.int .u8 0),1,1):=au
def aY(l:aj):ByteArray:=⟨l.toArray⟩
theorem OI(l:aj):((l.map fun b=>(b.toNat:Int)).map fun n=>UInt8.ofNat n.toNat)=l:=by
 rw[map_map]
 conv=>rhs;rw[<-map_id l]
 apply map_congr_left;intro b _;simp
theorem Ba(w:World)(a:aN)(l:aj)(n c:Nat)(h:aK w a (l.map Y))(hn:n=l.length):
 (convert 32 9 (.slice a n c)).run prog w= .ok (.string (aY l)) w:=by
 subst hn;have aa:(l.map fun b=>(b.toNat:Int)).map (Value.int .u8)=l.map Y:=by
  rw[map_map];rfl
 have E:∀x:Addr,(loadCells x l.length).run prog w= .ok (l.map Y).toArray w->(convert 32 9 (.slice (some x) l.length c)).run prog w= .ok (.string (aY l)) w:=by
  intro x u;rw[run_convert_bytes_string w 32 9 5 (some x) l.length c underlying32 underlying5 underlying9,
   run_bytesToString w x l.length c (l.map fun b=>(b.toNat:Int)) (by rw[aa];exact u),foldl_push_bytes,OI]
  simp[aY,ByteArray.empty,ByteArray.emptyWithCapacity];rfl
 rcases h with h|⟨b,off,rfl,h⟩
 ·have u:l=[]:=by simpa using h
  subst u;cases a with
  |none=>exact run_convert_bytes_nil w 32 5 underlying32 underlying5 _ _ _ underlying9
  |some x=>exact E x (by simpa using run_loadCells_list (P:=prog) w x [] aF)
 ·refine E _ ?_;have:=run_loadCells_list (P:=prog) w ⟨b,off,none⟩ (l.map Y) (fun j v R=>by
   have I:(⟨b,off,none⟩:Addr).add j=⟨b,off+j,none⟩:=by unfold Addr.add;split<;>simp_all
   rw[I];exact h j v R)
  simpa using this
theorem Wi(l:aj)(a:aN)(c:Nat)(w:World)(ap:l.length<=140737488351232)(hc:aK w a (l.map Y)):
 Calls prog 41 #[.slice a l.length c] w fun e w'=>e= .returned (.string (aY (gX l)))/\X w w':=by
 obtain⟨ad,ab,ao,ac,az⟩:=info_parts xu;have ai:=O hc;clear hc;obtain⟨n,hn⟩:=aC l.length;have j:=O hn;rw[hn]at ap⊢;clear hn;go_enter func41,ntmps41;go_wp2_with (at_make;refine wpList_make_own _ F _ _ 32 F w.heap.size 5 ad (.int .u8 0) 1 underlying32 ab ao ac _ _ _ (2*n) F F J (by rw[az];omega) (by unfold maxLen;omega) bG ?_);intro av an E;have am:X w av:=(X.refl w).grown E (fun g h=>by cases h);clear E;go_wp2;go_loopw [12,3] (fun x v wr=>∃k:Nat,k<=n/\x= .int .i64 k/\v= .slice (some ⟨w.heap.size,0,none⟩) (2*k) (2*n)/\wr.ownsRow w.heap.size 5 1 v (2*k) ((gX (l.take k)).map Y)/\X w wr)
  (fun x _ _=>n - (intOf x).toNat)
 case atStart=>exact⟨0,J,F,F,by simpa[gX]using an,am⟩
 case round=>
  obtain⟨k,hk,rfl,rfl,own,bb⟩:=hrel;by_cases af:k<n
  ·obtain⟨b,off,rfl,R⟩:=(ai.ext bb).gQ (by rw[length_map,j.out];omega);have al:wr.cell? ⟨b,off+k,none⟩=some (.int .u8 ((l[k]?.getD 0).toNat:Nat)):=R k _ (by simp[Y,j.out,af]);clear R;have aE:=zl (l[k]?.getD 0);obtain⟨ax,r2,aw⟩:=Wh (l[k]?.getD 0);have hs:=OE l k (by rw[j.out];exact af);have ag:=O hs;clear hs;go_wp2
   go_region_law ((refine Ve F _ _ 32 F w.heap.size 5 ad 1 underlying32 ab ac w.heap.size (2*k) (2*n) _ F (own.alloc _) ⟨wr.heap.size,0,none⟩ 2 2 ((DK (l[k]?.getD 0)).map Y) F F (tJ (T:=5) (ah.aI F F)) (b_ _) J ?_;intro w2 ae aa))
   all_goals
    have e2:X w w2:=((bb.alloc _).drew).grown aa (fun g h=>by cases h;exact Nat.le_refl _);rw[<-map_append,<-ag.out]at ae;clear aa own bb al ax r2 aw;go_wp2;go_roundw
    case rel=>exact⟨k+1,J,by go_num,by rw[show 2*(k+1)=2*k+2 by omega],ae,e2⟩
    case measure=>simp[intOf];omega
  ·obtain rfl:k=n:=J;have ar:aK wr (some ⟨w.heap.size,0,none⟩) ((gX l).map Y):=by
    refine .inr ⟨_,_,F,fun i u I=> ?_⟩;rw[take_of_length_le (by rw[j.out];omega)]at own;have aq:=own.cellAt i (by have:=(List.getElem?_eq_some_iff.1 I).1;rw[length_map,tX,j.out]at this;omega);rw[Nat.zero_add,aq];exact I
   have aD:=Ba wr _ (gX l) (2*k) (2*k) ar (by rw[tX,j.out]);go_wp2;go_ret;exact⟨F,bb⟩
theorem Wj(w:World):Calls prog 7 #[] w fun e w'=>e= .returned (.bool true)/\X w w':=by
 go_enter func7,ntmps7;go_wp2_with fail;refine(Wi [1] _ _ _ aF (aK.eG (T:=5) (ah.aI F F))).mono ?_;rintro e u ⟨rfl,hb⟩;have j:aY (gX [1])={data:= #[48,49]}:=aX;rw[j];go_wp2;go_ret;exact⟨F,(X.alloc (X.refl w) _).ext hb⟩
def g_(n:Nat)(at_ j:Int):Int:=if at_<0 then 4 else if(n:Int)<j∨(n:Int) - j<at_ then 1 else 0
theorem F5(a:aN)(n c:Nat)(at_ j:Int)(w:World)(hn:n<=140737488355328)(ac:0<=j)(ab:j<=1099511627776):
 Calls prog 153 #[.slice a n c,.int .i64 at_,.int .i64 j] w fun e w'=>e= .returned (.int .i64 (g_ n at_ j))/\w=w':=by
 by_cases u:at_<0
 ·go_enter func153,ntmps153;go_wp2;go_ret;exact⟨by simp[g_,u],F⟩
 ·by_cases I:(n:Int)<j
  ·go_enter func153,ntmps153;go_wp2;go_ret;exact⟨by simp[g_,u,I],F⟩
  ·by_cases aa:(n:Int) - j<at_
   ·go_enter func153,ntmps153;go_wp2;go_ret;exact⟨by simp[g_,u,I,aa],F⟩
   ·have E:g_ n at_ j=0:=by simp only[g_,u,if_false];rw[if_neg J]
    have R:=O E;clear E;go_enter func153,ntmps153;go_wp2;go_ret;exact⟨by rw[R.out];rfl,F⟩
def yD(a:aN)(n c:Nat)(at_ j:Int)(w:World)(e:Ending)(w':World):Prop:=
 w=w'/\e= .returned (if g_ n at_ j=0 then .tuple #[.slice (dL a c at_.toNat) j.toNat (c - at_.toNat),.int .i64 0]else .tuple #[.slice none 0 0,.int .i64 (g_ n at_ j)])
theorem Jy{n:Nat}{at_ j:Int}(h:g_ n at_ j=0)(u:0<=j):∃p:Nat,at_=(p:Int)/\(p:Int)+j<=n:=by
 unfold g_ at h;split at h
 ·cases h
 ·split at h
  ·cases h
  ·exact⟨at_.toNat,J,J⟩
def iW(l:aj)(p:Nat):UInt32:=m_ (l[p]?.getD 0) (l[p+1]?.getD 0) (l[p+2]?.getD 0) (l[p+3]?.getD 0)
def yE(l:aj)(n:Nat)(at_:Int):Value:=if g_ n at_ 4=0 then .tuple #[.int .u32 ((iW l at_.toNat).toNat:Nat),.int .i64 0]else .tuple #[.int .u32 0,.int .i64 (g_ n at_ 4)]
theorem uP{w:World}{b off:Nat}{l:aj}(h:∀(i:Nat) (u:Value),(l.map Y)[i]? =some u->w.cell? ⟨b,off+i,none⟩=some u)(i:Nat)(j:i<l.length):
 w.cell? ⟨b,off+i,none⟩=some (.int .u8 ((l[i]?.getD 0).toNat:Nat)):=h i _ (by simp[j,Y])
theorem OJ(l:aj)(a:aN)(n c:Nat)(at_:Int)(w:World)(E:l.length=n)(hn:n<=140737488355328)(hc:n<=c)(I:aK w a (l.map Y)):
 Calls prog 150 #[.slice a n c,.int .i64 at_] w fun e w'=>e= .returned (yE l n at_)/\X w w':=by
 by_cases h:g_ n at_ 4=0
 ·obtain⟨p,rfl,ad⟩:=Jy h J;have j:yE l n (p:Int)= .tuple #[.int .u32 ((iW l p).toNat:Nat),.int .i64 0]:=by rw[yE,if_pos h];rfl
  rw[j];obtain⟨b,off,rfl,u⟩:=I.gQ (by rw[length_map];omega);have ai:=uP u p J;have ac:=uP u (p+1) J;have R:=uP u (p+2) J;have aa:=uP u (p+3) J;simp only[<-Nat.add_assoc]at ac R aa;obtain⟨H,ag⟩:=aB h j;clear h j I u;have am:¬c=p:=J;have ae:=O E;clear E;have ha:=AO (P:=prog) underlying248 (len:=4) (Nat.le_refl 4);go_enter func150,ntmps150;go_wp2_with fail;refine(F5 _ n c _ 4 w J J J).mono ?_;rintro e w' ⟨rfl,rfl⟩;rw[H.out];go_wp2_with fail;refine(Jh _ _ _ _ _).mono ?_;rintro e af ⟨rfl,ab⟩;go_wp2
  go_ret2
  exact⟨F,ab⟩
 ·have j:yE l n at_= .tuple #[.int .u32 0,.int .i64 (g_ n at_ 4)]:=by rw[yE,if_neg h]
  rw[j];have al:(g_ n at_ 4 != 0)=true:=by rw[bne_iff_ne];exact h
  clear j I h E;go_enter func150,ntmps150;go_wp2_with fail;refine(F5 _ n c _ 4 w J J J).mono ?_;rintro e w' ⟨rfl,rfl⟩;go_wp2
  go_ret2
  exact⟨F,X.refl _⟩
theorem Wn(x y:aj):((aY x).toList==(aY y).toList)=(x==y):=by
 unfold aY;rw[ByteArray.toList_mk,ByteArray.toList_mk]
theorem Wp(x y:aj)(a b:aN)(n m c d:Nat)(w:World)(hn:n=x.length)(E:m=y.length)(j:aK w a (x.map Y))(u:aK w b (y.map Y)):
 Calls prog 13 #[.slice a n c,.slice b m d] w fun e w'=>e= .returned (.bool (x==y))/\w=w':=by
 have I:=Ba w a x n c j hn;have R:=Ba w b y m d u E;have hs:=Wn x y;clear hn E j u;go_enter func13,ntmps13;go_wp2;go_ret;exact⟨F,F⟩
def fE(l:aj)(p:Nat):Nat:=(iW l p).toNat*4294967296+(iW l (p+4)).toNat
def vW(l:aj)(n:Nat)(at_:Int):Value:=
 if g_ n at_ 8=0 then(if fE l at_.toNat<=4611686018427387904 then .tuple #[.int .i64 (fE l at_.toNat:Nat),.int .i64 0]else .tuple #[.int .i64 0,.int .i64 4])else .tuple #[.int .i64 0,.int .i64 (g_ n at_ 8)]
theorem Wq(x y:UInt32):bits .or .u64 ((x.toNat:Int)*4294967296) (y.toNat:Int)=((x.toNat*4294967296+y.toNat:Nat):Int):=by
 have E:=x.toNat_lt;have I:=y.toNat_lt;have u:(BitVec.ofInt 64 ((x.toNat:Int)*4294967296)).toNat=x.toNat*4294967296:=by
  rw[show((x.toNat:Int)*4294967296)=((x.toNat*4294967296:Nat):Int) by omega];rw[BitVec.toNat_ofInt];omega
 have j:(BitVec.ofInt 64 (y.toNat:Int)).toNat=y.toNat:=by rw[BitVec.toNat_ofInt];omega
 change IntKind.u64.wrap ((BitVec.ofInt 64 ((x.toNat:Int)*4294967296) ||| BitVec.ofInt 64 (y.toNat:Int)).toNat:Int)=_;have:=Dt x.toNat y.toNat 32 J;rw[show(2:Nat)^32=4294967296 from F]at this;rw[BitVec.toNat_or,u,j,this,IntKind.wrap_u64];omega
section
open Go Go.RowKit
section
variable {P:Program} {C:World->Prop} {o:Oper} {a:Act} {K:Act->Prop}
theorem Ws{b off n:Nat}{w:World}{vs:aO}{ty:TypeId}(hb:∀j u,vs[j]? =some u->w.cell? ⟨b,off+j,none⟩=some u)(ht:iH P ty n)(hn:vs.length=n):
 (loadVar ty ⟨b,off,none⟩).run P w= .ok (.agg vs.toArray) w:=by
 obtain⟨⟨d,ac,ae⟩,R⟩:=ht;have I:(loadCells ⟨b,off,none⟩ vs.length).run P w= .ok vs.toArray w:=
  run_loadCells_list (P:=P) w ⟨b,off,none⟩ _ (fun j v aa=>by
   have ad:(⟨b,off,none⟩:Addr).add j=⟨b,off+j,none⟩:=by unfold Addr.add;split<;>simp_all
   rw[ad];exact hb j v aa)
 rw[hn]at I;cases E:P.info? ty with
 |none=>simp[E]at R
 |some i=>
  have hs:i.size=n:=by simpa[E]using R
  have ab:(isAgg ty).run P w= .ok true w:=by
   unfold isAgg;rw[Sem.run_bind,run_underlying ac w];cases d<;>simp_all
  simp[loadVar,ab,sizeOf,typeInfo,E,hs,I]
theorem OL(ty:TypeId)(x:Operand)(I:o.op= .load ty x){b off n:Nat}{vs:aO}
 (E:a.eval x= .pointer (some ⟨b,off,none⟩))(hb:∀w,C w->∀j u,vs[j]? =some u->w.cell? ⟨b,off+j,none⟩=some u)(ht:iH P ty n)(hn:vs.length=n)
 (h:K (a.put o.dst (.agg vs.toArray))):o.quiet P a C K:=
 ⟨_,fun w R=>by
  unfold Oper.quietAt execOp;simp only[I,E,Instr.loadAt,Instr.sureAddr,Sem.run_bind,Sem.run_pure,Result.andThen_ok,Ws (hb w R) ht hn];exact⟨F,F⟩,h⟩
theorem OM{f:FuncId}{xs:Array Operand}{I:Array TypeId}{args:Array Value}{v:Value}(j:o.op= .call {callee:= .value (.func f),args:=xs,argTypes:=I})
 (hf:∀args w,(callFunc f args).run P w= .ok (.enter f args) w)(ha:xs.map a.eval=args)
 (hc:∀w,C w->Calls P f args w (fun e w'=>e= .returned v/\C w'))(h:K (a.put o.dst v)):o.quiet P a C K:=
 ⟨v,fun w E=>by
  have u:(execOp a.eval o).run P w= .ok (.enter f args) w:=by
   unfold execOp;simp only[j,resolve,Act.eval,Deferred.ofValue,Sem.run_bind,Sem.run_pure,Result.andThen_ok,invoke];have:(#[]++xs.map a.eval++ #[]:Array Value)=args:=by simp[ha]
   simpa[ha]using hf args w
  unfold Oper.quietAt;rw[u];exact⟨F,hc w E⟩,h⟩
end
theorem Jz(l:aj)(a:aN)(n c:Nat)(at_:Int)(w:World)(ao:l.length=n)(hn:n<=140737488355328)(hc:n<=c)(ar:aK w a (l.map Y)):
 Calls prog 95 #[.slice a n c,.int .i64 at_] w fun e w'=>e= .returned (vW l n at_)/\X w w':=by
 by_cases h:g_ n at_ 8=0
 ·obtain⟨p,rfl,a2⟩:=Jy h J;have aa:vW l n (p:Int)=if fE l p<=4611686018427387904 then .tuple #[.int .i64 (fE l p:Nat),.int .i64 0]else .tuple #[.int .i64 0,.int .i64 4]:=by rw[vW,if_pos h];rfl
  obtain⟨b,off,rfl,I⟩:=ar.gQ (by rw[length_map];omega);have av:=uP I p J;have aq:=uP I (p+1) J;have ae:=uP I (p+2) J;have ai:=uP I (p+3) J;have al:=uP I (p+4) J;have ap:=uP I (p+5) J;have af:=uP I (p+6) J;have am:=uP I (p+7) J;simp only[<-Nat.add_assoc]at aq ae ai al ap af am;have a0:=block_lt_of_cell av;obtain⟨H,ac,bh⟩:=aW h aa ao;clear h aa ar I ao;have bd:¬c=p:=J;have be:¬c=p+4:=J;have ha:=AO (P:=prog) underlying248 (len:=4) (Nat.le_refl 4);go_enter func95,ntmps95;go_wp2_with fail;refine(F5 _ n c _ 8 w J J J).mono ?_;rintro e w' ⟨rfl,rfl⟩;rw[H.out];go_wp2_with fail;obtain⟨C,aE⟩:=jE (fun w'=>X w w':World->Prop);have aL:∀w',C w'↔X w w':=fun w'=>by rw[aE]
  clear aE;have R:=O aL;clear aL;have aJ:∀w w',C w->X w w'->C w':=fun w w' an ad=>(R w').2 (((R w).1 an).ext ad);have ax:∀w',C w'->∀j u,[Y (l[p]?.getD 0),Y (l[p+1]?.getD 0),Y (l[p+2]?.getD 0),Y (l[p+3]?.getD 0)][j]? =some u->w'.cell? ⟨b,off+p+j,none⟩=some u:=by
   intro w' h j u hu;rw[((R w').1 h).cell (p:=⟨b,_,none⟩) a0]
   match j,hu with
   |0,hu=>cases hu;exact av
   |1,hu=>cases hu;exact aq
   |2,hu=>cases hu;exact ae
   |3,hu=>cases hu;exact ai
  have az:∀w',C w'->∀j u,[Y (l[p+4]?.getD 0),Y (l[p+5]?.getD 0),Y (l[p+6]?.getD 0),Y (l[p+7]?.getD 0)][j]? =some u->w'.cell? ⟨b,off+(p+4)+j,none⟩=some u:=by
   intro w' h j u hu;rw[((R w').1 h).cell (p:=⟨b,_,none⟩) a0]
   match j,hu with
   |0,hu=>cases hu;exact al
   |1,hu=>cases hu;exact ap
   |2,hu=>cases hu;exact af
   |3,hu=>cases hu;exact am
  clear av aq ae ai al ap af am;refine qV (C:=C) 21 au au ((R _).2 (X.refl w).drew) ?_;simp only[take_succ_cons,take_zero,drop_succ_cons,drop_zero];have k4:IntKind.i64.wrap ((p:Int)+4)=(p:Int)+4:=IntWalk.i64_in _ J;have a7:IntKind.i64.wrap ((p:Int)+8)=(p:Int)+8:=IntWalk.i64_in _ J;have ba:(0:Int)<=(p:Int)+4:=J;have a1:(p:Int)+4<=(c:Int):=J;have a9:(p:Int)<=(p:Int)+4:=J;have a6:(0:Int)<=(p:Int)+8:=J;have a3:(p:Int)+8<=(c:Int):=J;have a5:((p:Int)+4).toNat=p+4:=J;have a8:((p:Int)+8).toNat=p+8:=J;have a4:p+8 - (p+4)=4:=J;have hx:=(iW l p).toNat_lt;have bc:=(iW l (p+4)).toNat_lt;have wx:IntKind.u64.wrap ((iW l p).toNat:Int)=((iW l p).toNat:Int):=IntWalk.u64_in _ J;have wy:IntKind.u64.wrap ((iW l (p+4)).toNat:Int)=((iW l (p+4)).toNat:Int):=IntWalk.u64_in _ J;have wz:IntKind.u64.wrap ((iW l p).toNat*4294967296:Int)=((iW l p).toNat*4294967296:Int):=IntWalk.u64_in _ J;have aR:=Wq (iW l p) (iW l (p+4));rw[show(iW l p).toNat*4294967296+(iW l (p+4)).toNat=fE l p from F]at aR;have ag:∀q w',C w'->Calls prog 154 #[.agg #[.int .u8 (l[q]?.getD 0).toNat,.int .u8 (l[q+1]?.getD 0).toNat,.int .u8 (l[q+2]?.getD 0).toNat,.int .u8 (l[q+3]?.getD 0).toNat]] w' fun e aw=>e= .returned (.int .u32 (iW l q).toNat)/\C aw:=
   fun q w' h=>(Jh _ _ _ _ w').mono fun e aw ⟨an,ad⟩=>⟨an,aJ _ _ h ad⟩
  clear hx bc;iterate 6
   refine wpQuiet_step (fun K E=> ?_);rw[if_pos (by rfl)];apply Exists.intro;refine⟨fun w ab=> ?_,E _ ?_⟩
   go_simp
   first|exact F|exact⟨F,F⟩
   clear E K;refine cO ?_
  refine wpQuiet_step (fun K E=> ?_);rw[if_pos (by rfl)];refine OL _ _ F F ax FK F (E _ ?_);clear E K;refine cO ?_;refine wpQuiet_step (fun K E=> ?_);rw[if_pos (by rfl)];refine OM F call154 (by simp[Act.eval,Y]) (ag p) (E _ ?_);clear E K;refine cO ?_;iterate 8
   refine wpQuiet_step (fun K E=> ?_);rw[if_pos (by rfl)];apply Exists.intro;refine⟨fun w ab=> ?_,E _ ?_⟩
   go_simp
   first|exact F|exact⟨F,F⟩
   clear E K;refine cO ?_
  refine wpQuiet_step (fun K E=> ?_);rw[if_pos (by rfl)];apply Exists.intro;refine⟨fun w ab=> ?_,E _ ?_⟩
  go_simp
  first|exact F|exact⟨F,F⟩
  clear E K;refine cO ?_;refine wpQuiet_step (fun K E=> ?_);rw[if_pos (by rfl)];refine OL _ _ F F az FK F (E _ ?_);clear E K;refine cO ?_;refine wpQuiet_step (fun K E=> ?_);rw[if_pos (by rfl)];refine OM F call154 (by simp[Act.eval,Y]) (ag (p+4)) (E _ ?_);clear E K;refine cO ?_;refine wpQuiet_step (fun K E=> ?_);rw[if_pos (by rfl)];apply Exists.intro;refine⟨fun w ab=> ?_,E _ ?_⟩
  go_simp
  first|exact F|exact⟨F,F⟩
  clear E K;refine cO ?_;refine wpQuiet_step (fun K E=> ?_);rw[if_pos (by rfl)];apply Exists.intro;refine⟨fun w ab=> ?_,E _ ?_⟩
  go_simp
  first|exact F|exact⟨F,F⟩
  clear E K;refine cO ?_;refine wpQuiet_nil ?_;intro w2 aM;have e2:=(R w2).1 aM;clear aM R aJ ax az ag wx wy wz aR k4 a7 ba a1 a9 a6 a3 a5 a8 a4 ha bd be a2 hc;by_cases aD:fE l p<=4611686018427387904
  ·rw[if_pos aD]at ac;have a_:decide ((4611686018427387904:Int)<(fE l p:Int))=false:=aP J;have hk:IntKind.i64.wrap (fE l p:Int)=(fE l p:Int):=IntWalk.i64_in _ J;go_wp2
   go_ret2
   exact⟨by rw[ac.out];rfl,e2⟩
  ·rw[if_neg aD]at ac;have a_:decide ((4611686018427387904:Int)<(fE l p:Int))=true:=aQ J;go_wp2
   go_ret2
   exact⟨by rw[ac.out];rfl,e2⟩
 ·have aa:vW l n at_= .tuple #[.int .i64 0,.int .i64 (g_ n at_ 8)]:=by rw[vW,if_neg h]
  rw[aa];have bi:(g_ n at_ 8 != 0)=true:=by rw[bne_iff_ne];exact h
  clear aa ar h ao;go_enter func95,ntmps95;go_wp2_with fail;refine(F5 _ n c _ 8 w J J J).mono ?_;rintro e w' ⟨rfl,rfl⟩;go_wp2
  go_ret2
  exact⟨F,X.refl _⟩
end
theorem Wu(n:Nat)(w:World)(hn:n<=140737488355328):
 Calls prog 149 #[.slice none 0 0,.int .i64 n] w fun e w'=>∃v,e= .returned v/\w'.ownsRow w.heap.size 5 1 v 0 []/\X w w':=by
 by_cases ab:n=0
 ·subst ab;go_enter func149,ntmps149;go_wp2;go_ret;exact⟨_,F,World.ownsRow_nil _ _ _ _,X.refl _⟩
 ·have E:¬((n:Int)<0):=J;have ai:IntKind.i64.wrap (n:Int)=(n:Int):=IntWalk.i64_in _ J;have ag:decide ((0:Int)<(n:Int))=true:=aQ J;obtain⟨ae,ac,af,hs,hb⟩:=info_parts xu;obtain⟨G,j⟩:=jE (grownCap w n 0 5);have al:n<=G:=by rw[j];exact grownCap_ge w _ _ _
  have u:G<=maxLen:=by rw[j];exact grownCap_le_maxLen w n 0 5 (by unfold maxLen;omega)
  have I:∀ty,(Builtin.append_ #[32,3] ty #[.slice none 0 0,.int .i64 (n:Int)]).run prog w=
   .ok (.slice (some ⟨w.heap.size,0,none⟩) n G) (w.drew.alloc (.cells (#[]++Builtin.zeroCells (Value.int .u8 0).cells n++Builtin.zeroCells (Value.int .u8 0).cells (G - n)) 5)):=fun ty=>by
   have h:=Lib.run_append_grow_zeros w 32 3 ty 5 ae (.int .u8 0) .i64 .i64 underlying32 underlying3 ac af none 0 0 [] (by rw[hs];exact run_firstCells_none w.drew 1 0 0 0) n J J J J (by rw[hb];omega)
    (by exact growslice_fits J (by rw[hb];omega))
   rw[Nat.zero_add,<-j]at h;exact h
  have aa:(#[]++Builtin.zeroCells (Value.int .u8 0).cells n++Builtin.zeroCells (Value.int .u8 0).cells (G - n)).size=G*1:=by
   have E:(Value.int .u8 0).cells.size=1:=F;simp[Builtin.zeroCells,E];omega
  have R:∀cs:Array Value,cs.size=G*1->(w.drew.alloc (.cells cs 5)).ownsRow w.heap.size 5 1 (.slice (some ⟨w.heap.size,0,none⟩) 0 G) 0 []:=fun cs hc=>World.ownsRow_made w.drew cs G bG u hc;generalize ad:(#[]++Builtin.zeroCells (Value.int .u8 0).cells n++Builtin.zeroCells (Value.int .u8 0).cells (G - n))=cs at*;clear j ad;unfold maxLen at u;go_enter func149,ntmps149;go_wp2_with (at_builtin;refine Lib.wpList_append_run _ F _ _ _ _ F _ _ F F _ _ (I _) ?_);all_goals (go_ret;exact⟨_,F,R cs aa,(X.refl w).drew.alloc _⟩)
abbrev AP:=aN×Nat×aj
def fZ(j:List AP):aj:=(j.map (·.2.2)).flatten
def nS(j:AP):Value:= .slice j.1 j.2.2.length j.2.1
theorem JA{j:List AP}{k:Nat}{u:AP}(h:j[k]? =some u):fZ (j.take (k+1))=fZ (j.take k)++u.2.2:=by
 unfold fZ;rw[take_add_one,h];simp
theorem JB(j:List AP)(k:Nat):(fZ (j.take k)).length<=(fZ j).length:=by
 have u:fZ j=fZ (j.take k)++fZ (j.drop k):=by
  unfold fZ;rw[<-flatten_append,<-map_append,take_append_drop]
 rw[u,length_append];omega
theorem zG(j:List AP)(g E aE:Nat)(w:World)(a0:j.length=E)(bt:E<=140737488355328)(br:E<=aE)(ax:∀(i:Nat) u,j[i]? =some u->w.cell? ⟨g,i,none⟩=some (nS u))
 (hc:∀u∈j,aK w u.1 (u.2.2.map Y))(af:∀u∈j,u.1=none->u.2.1=0)(a3:(fZ j).length<=140737488355328):
 Calls prog 91 #[.slice (some ⟨g,0,none⟩) E aE] w fun e w'=>∃v,e= .returned v/\w'.ownsRow w.heap.size 5 1 v (fZ j).length ((fZ j).map Y)/\X w w':=by
 obtain⟨ag,aR,bh,a9,az⟩:=dM a0 ax hc af a3;obtain⟨a4,a2,a6,hs,a8⟩:=info_parts xu;clear ax hc af a3 a0;go_enter func91,ntmps91;go_wp2;go_loopw [3,11] (fun s i wr=>∃k:Nat,k<=E/\s= .int .i64 ((fZ (j.take k)).length:Nat)/\i= .int .i64 k/\wr=w)
  (fun _ i _=>E - (intOf i).toNat)
 case atStart=>exact⟨0,J,by simp[fZ],F,F⟩
 case round=>
  obtain⟨k,hk,rfl,rfl,bo⟩:=hrel;subst wr;by_cases ar:k<E
  ·obtain⟨u,R⟩:∃u,j[k]? =some u:=⟨j[k]'(by rw[ag.out];exact ar),aF⟩;have I:=aR.out k u R;unfold nS at I;have ac:=JA R;have ad:=JB j (k+1);rw[ac]at ad;have bi:=az.out;rw[length_append]at ad;obtain⟨m,aa⟩:=aC ((fZ (j.take k)).length);obtain⟨q,ab⟩:=aC u.2.2.length;have aD:(fZ (j.take (k+1))).length=m+q:=by rw[ac,length_append,aa,ab]
   rw[aa,ab]at ad;rw[ab]at I;rw[aa];have bm:IntKind.i64.wrap ((m:Int)+(q:Int))=(m:Int)+(q:Int):=IntWalk.i64_in _ J;have bq:decide ((m:Int)+(q:Int)<0)=false:=aP J;have a7:=O aD;clear aD ac ad bi aa ab R;go_wp2;go_roundw
   case rel=>exact⟨k+1,J,by rw[a7.out];go_num,by go_num,aF⟩
   case measure=>simp[intOf];omega
  ·have a_:k=E:=J;subst k;have aM:j.take E=j:=take_of_length_le (by rw[ag.out];omega);rw[aM];have av:=az.out;obtain⟨N,am⟩:=aC ((fZ j).length);have bl:=O am;rw[am]at av⊢;clear aM am;go_wp2_with fail;refine(Wu N _ av).mono ?_;rintro e bp ⟨v,rfl,own,bj⟩;go_wp2;go_loopw [6,27] (fun v i wr=>∃k:Nat,k<=E/\i= .int .i64 k/\wr.ownsRow w.heap.size 5 1 v (fZ (j.take k)).length ((fZ (j.take k)).map Y)/\X w wr)
    (fun _ i _=>E - (intOf i).toNat)
   case atStart=>exact⟨0,J,F,by simpa[fZ]using own,bj⟩
   case round=>
    obtain⟨k,hk,rfl,ae,e2⟩:=hrel;by_cases ar:k<E
    ·obtain⟨u,R⟩:∃u,j[k]? =some u:=⟨j[k]'(by rw[ag.out];exact ar),aF⟩;have I:=aR.out k u R;have hb:=block_lt_of_cell I;rw[<-e2.cell (p:=⟨g,k,none⟩) hb]at I;have ac:=JA R;have ad:=JB j (k+1);rw[ac,bl.out,length_append]at ad;have ai:=(bh u (mem_of_getElem? R)).ext e2;have af:=a9.out u (mem_of_getElem? R);unfold nS at I;obtain⟨x,c,al⟩:=u;obtain⟨q,ab⟩:=aC al.length;obtain⟨m,aa⟩:=aC ((fZ (j.take k)).length);simp only at I ac ad ai af;rw[ab]at I;rw[aa,ab]at ad;rw[aa]at ae;obtain⟨an,ao,a1⟩:=aW ac ab aa;clear ac ab aa R hb;cases x with
     |none=>
      have ap:al=[]:=by
       rcases ai with h|⟨_,_,h,_⟩
       ·simpa using h
       ·cases h
      have a5:c=0:=af F;have bk:q=0:=by rw[<-ao.out,ap];rfl
      subst a5;subst bk;have aq:=an.out;rw[ap,append_nil]at aq;have bd:=O aq;clear aq ap an;go_wp2_with (at_builtin;refine wpList_append_own_none F _ _ 32 F w.heap.size 5 a4 1 underlying32 a2 _ _ _ F ae F ?_);go_wp2;go_roundw
      case rel=>exact⟨k+1,J,by go_num,by rw[bd.out,a1.out];exact ae,e2⟩
      case measure=>simp[intOf];omega
     |some ba=>
      go_wp2_with (at_builtin;refine wpList_append_own _ F _ _ 32 F w.heap.size 5 a4 (.int .u8 0) 1 1 underlying32 a2 a6 hs a8 F aX _ _ _ F ae ba q c (al.map Y) F ?qc1 (wX ai) (b_ _) ?qc4 ?qc5 e2.size ?_)
      case qc1=>rw[length_map,ao.out,Nat.mul_one]
      case qc4=>unfold maxLen;omega
      case qc5=>omega
      intro v2 w2 aL aw _;have be:X w w2:=e2.grown aw (fun bc h=>(ae.lt bc h).1);rw[<-map_append]at aL;clear ae aw e2 I ai;go_wp2;go_roundw
      case rel=>exact⟨k+1,J,by go_num,by rw[an.out,length_append,a1.out,ao.out];exact aL,be⟩
      case measure=>simp[intOf];omega
    ·have a_:k=E:=J;subst k;rw[take_of_length_le (by rw[ag.out];omega)]at ae;go_wp2;go_ret;exact⟨_,F,ae,e2⟩
theorem nT{w:World}{B:Nat}{v:Value}{n:Nat}{xs:aO}(h:w.ownsRow B 5 1 v n xs):
 ∃a c,v= .slice a n c/\n<=c/\c<=maxLen/\(a=none->c=0)/\aK w a xs:=by
 obtain⟨ae,h⟩:=h;rcases h with⟨rfl,rfl⟩|⟨g,E,cu,rfl,hb,R,ac,aa,ad,I⟩
 ·refine⟨none,0,F,Nat.le_refl _,by unfold maxLen;omega,fun _=>rfl,.inl ?_⟩;exact length_eq_zero_iff.1 J
 ·refine⟨_,E,F,ac,aa,(fun h=>by cases h),.inr ⟨g,0,F,fun i u j=> ?_⟩⟩;rw[<-I]at j;have ab:i<n*1:=by
   have:=(List.getElem?_eq_some_iff.1 j).1;simp at this;omega
  rw[List.getElem?_take_of_lt ab]at j;rw[Nat.zero_add];exact ah.cell' (vs:=cu.toList) (T:=5) (by simpa[ah]using R) j
theorem mg{w:World}{B B':Nat}{e:TypeId}{j:Nat}{v:Value}{n:Nat}{xs:aO}(h:w.ownsRow B e j v n xs)(hb:B'<=B):w.ownsRow B' e j v n xs:=by
 refine⟨h.1,?_⟩;rcases h.2 with h|⟨g,E,cu,u,I,R⟩
 ·exact .inl h
 ·exact .inr ⟨g,E,cu,u,Nat.le_trans hb I,R⟩
theorem Wv(l:aj)(a:aN)(n c:Nat)(x:UInt32)(w:World)(ae:l.length=n)(hn:n<=140737488355320)(ag:aK w a (l.map Y))(ad:a=none->c=0):
 Calls prog 160 #[.slice a n c,.int .u32 x.toNat] w fun e w'=>∃v,e= .returned v/\w'.ownsRow w.heap.size 5 1 v (n+4) ((l++gq x).map Y)/\X w w':=by
 obtain⟨am,an,ao⟩:=aW ae ag ad;clear ae ag ad;go_enter func160,ntmps160;go_wp2_with fail;refine(Ji x _).mono ?_;rintro e j ⟨rfl,aa⟩;go_wp2_with (first|(refine bg F _ _ _ F F F (ah.aI F F) FK F F (b_ _) ?_));intro w2 ab al;have e2:X w w2:=al.ext (aa.alloc _) aa.size;go_wp2_with fail;have I:ah (w2.alloc (.cells #[.slice a n c,.slice (some ⟨j.heap.size,0,none⟩) 4 4] 32)) w2.heap.size [.slice a n c,.slice (some ⟨j.heap.size,0,none⟩) 4 4] 32:=ah.aI F F;have af:=ab.alloc (.cells #[.slice a n c,.slice (some ⟨j.heap.size,0,none⟩) 4 4] 32);have u:X w (w2.alloc (.cells #[.slice a n c,.slice (some ⟨j.heap.size,0,none⟩) 4 4] 32)):=e2.alloc _;generalize w2.alloc (.cells #[.slice a n c,.slice (some ⟨j.heap.size,0,none⟩) 4 4] 32)=ar at*;have E:fZ [(a,c,l),(some ⟨j.heap.size,0,none⟩,4,gq x)]=l++gq x:=by simp[fZ]
 have R:(l++gq x).length=n+4:=by rw[length_append,am.out];rfl
 refine(zG [(a,c,l),(some ⟨j.heap.size,0,none⟩,4,gq x)] w2.heap.size 2 2 ar F J J ?hg ?hc ?hn ?hl).mono ?_
 case hg=>
  intro i ac hit
  match i,hit with
  |0,hit=>cases hit;rw[nS];simp only;rw[am.out];exact I.cell' F
  |1,hit=>cases hit;exact I.cell' F
 case hc=>
  intro ac hit;simp only[mem_cons,not_mem_nil,or_false]at hit;rcases hit with rfl|rfl
  ·exact an.ext u
  ·exact aK.eG af
 case hn=>
  intro ac hit;simp only[mem_cons,not_mem_nil,or_false]at hit;rcases hit with rfl|rfl
  ·exact ao
  ·intro h;cases h
 case hl=>rw[E,R];omega
 rintro e ap ⟨v,rfl,own,ai⟩;rw[E,R]at own;have aq:ap.ownsRow w.heap.size 5 1 v (n+4) ((l++gq x).map Y):=mg own u.size;have av:=u.ext ai;clear E R I af u own ai ab al e2;go_wp2;go_ret;exact⟨_,F,aq,av⟩
def uU(k:Int):Nat:=if k<0∨4611686018427387904<k then 0 else k.toNat
theorem Wx(k:Int):uU k<=4611686018427387904:=by unfold uU;split<;>omega
theorem Bc(u:UInt64):(dG u).length=8:=F
theorem OO(l:aj)(a:aN)(n c:Nat)(k:Int)(w:World)(az:l.length=n)(hn:n<=140737488355320)(aD:aK w a (l.map Y))(ai:a=none->c=0):
 Calls prog 159 #[.slice a n c,.int .i64 k] w fun e w'=>∃v,e= .returned v/\w'.ownsRow w.heap.size 5 1 v (n+8) ((l++dG (UInt64.ofNat (uU k))).map Y)/\X w w':=by
 obtain⟨am,av,ax⟩:=aW az aD ai;clear az aD ai;obtain⟨u,aw⟩:=aC (UInt64.ofNat (uU k));have ar:(u.toNat:Int)=uU k:=by
  have:=Wx k;rw[<-aw,UInt64.toNat_ofNat'];omega
 rw[aw];clear aw;by_cases hk:k<0∨4611686018427387904<k
 ·have ai:(u.toNat:Int)=0:=by rw[ar,uU,if_pos hk];rfl
  clear ar;have al:=fun w=>Jj u w;rw[ai]at al;by_cases aE:k<0
  ·go_enter func159,ntmps159;go_wp2_with fail;refine(al _).mono ?_;rintro e j ⟨rfl,ab⟩;go_wp2_with (first|(refine bg F _ _ _ F F F (ah.aI F F) AZ F F (b_ _) ?_));intro w2 ac ag;have e2:X w w2:=ag.ext (ab.alloc _) ab.size;go_wp2_with fail;have R:ah (w2.alloc (.cells #[.slice a n c,.slice (some ⟨j.heap.size,0,none⟩) 8 8] 32)) w2.heap.size [.slice a n c,.slice (some ⟨j.heap.size,0,none⟩) 8 8] 32:=ah.aI F F;have ae:=ac.alloc (.cells #[.slice a n c,.slice (some ⟨j.heap.size,0,none⟩) 8 8] 32);have E:X w (w2.alloc (.cells #[.slice a n c,.slice (some ⟨j.heap.size,0,none⟩) 8 8] 32)):=e2.alloc _;generalize w2.alloc (.cells #[.slice a n c,.slice (some ⟨j.heap.size,0,none⟩) 8 8] 32)=ap at*;have I:fZ [(a,c,l),(some ⟨j.heap.size,0,none⟩,8,dG u)]=l++dG u:=by simp[fZ]
   have aa:(l++dG u).length=n+8:=by rw[length_append,am.out];rfl
   refine(zG [(a,c,l),(some ⟨j.heap.size,0,none⟩,8,dG u)] w2.heap.size 2 2 ap F J J ?hg ?hc ?hn ?hl).mono ?_
   case hg=>
    intro i ad hit
    match i,hit with
    |0,hit=>cases hit;rw[nS];simp only;rw[am.out];exact R.cell' F
    |1,hit=>cases hit;exact R.cell' F
   case hc=>
    intro ad hit;simp only[mem_cons,not_mem_nil,or_false]at hit;rcases hit with rfl|rfl
    ·exact av.ext E
    ·exact aK.eG ae
   case hn=>
    intro ad hit;simp only[mem_cons,not_mem_nil,or_false]at hit;rcases hit with rfl|rfl
    ·exact ax
    ·intro h;cases h
   case hl=>rw[I,aa];omega
   rintro e an ⟨v,rfl,own,af⟩;rw[I,aa]at own;have ao:an.ownsRow w.heap.size 5 1 v (n+8) ((l++dG u).map Y):=mg own E.size;have aq:=E.ext af;clear I aa R ae E own af ac ag e2;go_wp2;go_ret;exact⟨_,F,ao,aq⟩
  ·have aL:4611686018427387904<k:=J;go_enter func159,ntmps159;go_wp2_with fail;refine(al _).mono ?_;rintro e j ⟨rfl,ab⟩;go_wp2_with (first|(refine bg F _ _ _ F F F (ah.aI F F) AZ F F (b_ _) ?_));intro w2 ac ag;have e2:X w w2:=ag.ext (ab.alloc _) ab.size;go_wp2_with fail;have R:ah (w2.alloc (.cells #[.slice a n c,.slice (some ⟨j.heap.size,0,none⟩) 8 8] 32)) w2.heap.size [.slice a n c,.slice (some ⟨j.heap.size,0,none⟩) 8 8] 32:=ah.aI F F;have ae:=ac.alloc (.cells #[.slice a n c,.slice (some ⟨j.heap.size,0,none⟩) 8 8] 32);have E:X w (w2.alloc (.cells #[.slice a n c,.slice (some ⟨j.heap.size,0,none⟩) 8 8] 32)):=e2.alloc _;generalize w2.alloc (.cells #[.slice a n c,.slice (some ⟨j.heap.size,0,none⟩) 8 8] 32)=ap at*;have I:fZ [(a,c,l),(some ⟨j.heap.size,0,none⟩,8,dG u)]=l++dG u:=by simp[fZ]
   have aa:(l++dG u).length=n+8:=by rw[length_append,am.out];rfl
   refine(zG [(a,c,l),(some ⟨j.heap.size,0,none⟩,8,dG u)] w2.heap.size 2 2 ap F J J ?hg ?hc ?hn ?hl).mono ?_
   case hg=>
    intro i ad hit
    match i,hit with
    |0,hit=>cases hit;rw[nS];simp only;rw[am.out];exact R.cell' F
    |1,hit=>cases hit;exact R.cell' F
   case hc=>
    intro ad hit;simp only[mem_cons,not_mem_nil,or_false]at hit;rcases hit with rfl|rfl
    ·exact av.ext E
    ·exact aK.eG ae
   case hn=>
    intro ad hit;simp only[mem_cons,not_mem_nil,or_false]at hit;rcases hit with rfl|rfl
    ·exact ax
    ·intro h;cases h
   case hl=>rw[I,aa];omega
   rintro e an ⟨v,rfl,own,af⟩;rw[I,aa]at own;have ao:an.ownsRow w.heap.size 5 1 v (n+8) ((l++dG u).map Y):=mg own E.size;have aq:=E.ext af;clear I aa R ae E own af ac ag e2;go_wp2;go_ret;exact⟨_,F,ao,aq⟩
 ·have aE:¬k<0:=J;have aL:¬4611686018427387904<k:=J;have ai:(u.toNat:Int)=k:=by rw[ar,uU,if_neg hk];omega
  have aM:IntKind.u64.wrap k=k:=IntWalk.u64_in _ J;clear ar hk;have al:=fun w=>Jj u w;rw[ai]at al;go_enter func159,ntmps159;go_wp2_with fail;refine(al _).mono ?_;rintro e j ⟨rfl,ab⟩;go_wp2_with (first|(refine bg F _ _ _ F F F (ah.aI F F) AZ F F (b_ _) ?_));intro w2 ac ag;have e2:X w w2:=ag.ext (ab.alloc _) ab.size;go_wp2_with fail;have R:ah (w2.alloc (.cells #[.slice a n c,.slice (some ⟨j.heap.size,0,none⟩) 8 8] 32)) w2.heap.size [.slice a n c,.slice (some ⟨j.heap.size,0,none⟩) 8 8] 32:=ah.aI F F;have ae:=ac.alloc (.cells #[.slice a n c,.slice (some ⟨j.heap.size,0,none⟩) 8 8] 32);have E:X w (w2.alloc (.cells #[.slice a n c,.slice (some ⟨j.heap.size,0,none⟩) 8 8] 32)):=e2.alloc _;generalize w2.alloc (.cells #[.slice a n c,.slice (some ⟨j.heap.size,0,none⟩) 8 8] 32)=ap at*;have I:fZ [(a,c,l),(some ⟨j.heap.size,0,none⟩,8,dG u)]=l++dG u:=by simp[fZ]
  have aa:(l++dG u).length=n+8:=by rw[length_append,am.out];rfl
  refine(zG [(a,c,l),(some ⟨j.heap.size,0,none⟩,8,dG u)] w2.heap.size 2 2 ap F J J ?hg ?hc ?hn ?hl).mono ?_
  case hg=>
   intro i ad hit
   match i,hit with
   |0,hit=>cases hit;rw[nS];simp only;rw[am.out];exact R.cell' F
   |1,hit=>cases hit;exact R.cell' F
  case hc=>
   intro ad hit;simp only[mem_cons,not_mem_nil,or_false]at hit;rcases hit with rfl|rfl
   ·exact av.ext E
   ·exact aK.eG ae
  case hn=>
   intro ad hit;simp only[mem_cons,not_mem_nil,or_false]at hit;rcases hit with rfl|rfl
   ·exact ax
   ·intro h;cases h
  case hl=>rw[I,aa];omega
  rintro e an ⟨v,rfl,own,af⟩;rw[I,aa]at own;have ao:an.ownsRow w.heap.size 5 1 v (n+8) ((l++dG u).map Y):=mg own E.size;have aq:=E.ext af;clear I aa R ae E own af ac ag e2;go_wp2;go_ret;exact⟨_,F,ao,aq⟩
theorem DL(l:aj)(a:aN)(n c:Nat)(w:World)(R:l.length=n)(hn:n<=140737488355320)(aa:aK w a (l.map Y)):
 Calls prog 58 #[.slice a n c] w fun e w'=>∃v,e= .returned v/\w'.ownsRow w.heap.size 5 1 v n (l.map Y)/\(v= .slice none 0 0↔a=none)/\X w w':=by
 obtain⟨E,j⟩:=aB R aa;clear R aa;obtain⟨al,ag,an,hs,ai⟩:=info_parts xu;have ap:∀(w:World) (a:aN) (n c n' c':Nat),(binOp .eql 32 (.slice a n c) (.slice none n' c')).run prog w= .ok (.bool a.isNone) w:=fun w a n c n' c'=>Lib.run_eql_slice_nil w _ _ a n c n' c' underlying32;cases a with
 |none=>
  have u:l=[]:=by
   rcases j with h|⟨_,_,h,_⟩
   ·simpa using h
   ·cases h
  have ao:n=0:=by rw[<-E.out,u];rfl
  subst ao;have ac:=O u;clear u E j;go_enter func58,ntmps58;go_wp2;go_ret;exact⟨_,F,by rw[ac.out];exact World.ownsRow_nil _ _ _ _,aF,X.refl _⟩
 |some ae=>
  go_enter func58,ntmps58;go_wp2_with (at_builtin;refine wpList_append_own _ F _ _ 32 F w.heap.size 5 al (.int .u8 0) 1 1 underlying32 ag an hs ai F aX _ _ _ F (World.ownsRow_made w #[] 0 bG (Nat.zero_le _) aF) ae n c (l.map Y) F ?qc1 (wX (j.ext ((X.refl w).alloc _))) (b_ _) ?qc4 ?qc5 ?qc6 ?_)
  case qc1=>rw[length_map,E.out,Nat.mul_one]
  case qc4=>unfold maxLen;omega
  case qc5=>omega
  case qc6=>simp
  intro v' am ab I af;have ad:X w am:=((X.refl w).alloc _).grown I (by intro k hk;simp[Value.ownBlock]at hk;omega);clear I;go_wp2;go_ret;exact⟨v',F,ab,by simp[af],ad⟩
theorem OQ(x:UInt32):m_ (UInt8.ofNat (x.toNat / 16777216)) (UInt8.ofNat (x.toNat / 65536)) (UInt8.ofNat (x.toNat / 256)) (UInt8.ofNat x.toNat)=x:=by
 have j:=x.toNat_lt;unfold m_;apply UInt32.toNat_inj.1;rw[UInt32.toNat_ofNat',UInt8.toNat_ofNat',UInt8.toNat_ofNat',UInt8.toNat_ofNat',UInt8.toNat_ofNat'];omega
theorem OU(l m:aj)(a b c d:UInt8)(r:aj)(q:Nat)(h:l.length=q)(j:m=a::b::c::d::r):iW (l++m) q=m_ a b c d:=by
 subst j;subst h;unfold iW;rw[List.getElem?_append_right J,List.getElem?_append_right J,List.getElem?_append_right J,List.getElem?_append_right J];rw[show l.length - l.length=0 by omega,show l.length+1 - l.length=1 by omega,show l.length+2 - l.length=2 by omega,show l.length+3 - l.length=3 by omega];rfl
theorem OV(l:aj)(x:UInt32)(q:Nat)(h:l.length=q):iW (l++gq x) q=x:=by
 rw[OU l (gq x) _ _ _ _ [] q h F,OQ]
theorem Wy(l:aj)(u:UInt64)(q:Nat)(h:l.length=q):fE (l++dG u) q=u.toNat:=by
 have j:=u.toNat_lt;unfold fE dG;rw[<-append_assoc,OV (l++gq _) _ (q+4) (by rw[length_append,h];rfl)];rw[append_assoc,OU l (gq _++gq _) _ _ _ _ _ q h F,OQ,UInt32.toNat_ofNat',UInt32.toNat_ofNat'];omega
section
open Go Go.RowKit
attribute [local irreducible] wpQuiet
theorem WA{w:World}{a:aN}{l m:aj}{n:Nat}(h:aK w a ((l++m).map Y))(hn:l.length=n):aK w a (l.map Y):=by
 have:=h.take n;rwa[<-map_take,take_left' hn]at this
end
theorem WB{P:Program}{u:Func}{j:Ending->World->Prop}{a:Act}{w:World}(R:u.results= #[])(I:a.defers=[])(E:j (.returned (.tuple #[])) w):bodyPost P u j .ret a w:=
 bodyPost_ret (results_none R _ _ _) I E
theorem WC(s0 t b r:aj)(E:Int)(g m h n c:Nat)(a:aN)(T:TypeId)(w:World)(hs:s0.length=64)(ax:r.length=32)(hb:b.length=n)(az:t.length=32*m+h)(bd:0<h)(bl:h+n<32)
 (ab:r.take h=t.drop (32*m))
 (an:ah w g (sm (gZ s0 t m) r h E) T)(a_:n<=c)(hc:c<=9223372036854775807)(ao:a=none->n=0)(av:aK w a (b.map Y))(ap:n=0∨∀x,a=some x->some x.block≠some g):
 Calls prog 267 #[.pointer (some ⟨g,0,none⟩),.slice a n c] w (FZ w g T s0 (t++b) E):=by
 obtain⟨R,I,j,u,aM,bc,aE,aw⟩:=jg hs ax hb az ao ap av an;have a7:=O ab;clear hs ax hb az ao ap av an ab;have a6:=aw.cell' (w_ h E (iV R m) I);have bh:decide ((0:Int)<(h:Int))=true:=aQ J;have bk:¬32=h:=J;have bi:(0:Int)<=(h:Int):=J;have a9:(h:Int)<=32:=J;have hk:IntKind.i64.wrap ((h:Int)+n)=(h:Int)+n:=IntWalk.i64_in _ J;have a8:decide ((h:Int)+n<32)=true:=aQ J;have am:n=Nat.min n (32 - h):=(Nat.min_eq_left J).symm;have aq:(b.map Y).length=n:=by rw[length_map,j.out]
 have ai:64+h+n<=(sm (gZ s0 t m) r h E).length:=by rw[Dy _ _ (iV R _) I.out];omega
 have ae:=FN (xs:=b) h E (iV (t:=t) R m) I h (by rw[j.out];omega);rw[j.out]at ae;have ar:(r.take h++b++r.drop (h+n)).length=32:=by rw[length_append,length_append,length_take,j.out,length_drop,I.out];omega
 have ab:(r.take h++b++r.drop (h+n)).take (h+n)=(t++b).drop (32*m):=by
  rw[drop_append_of_le_length (by rw[u.out];omega),<-a7.out,take_append_of_le_length (by rw[length_append,length_take,j.out,I.out];omega),
   take_of_length_le (by rw[length_append,length_take,j.out,I.out];omega)]
 generalize r.take h++b++r.drop (h+n)=r2 at*;obtain⟨aL,a5,a0,a2,ag,a1⟩:=iq am aq ai ae ar ab;clear am aq ai ae ar ab;go_enter func267,ntmps267;go_wp2;refine qV (C:=fun w'=>∃n,w'=w.drewN n) 9 au au ⟨1,F⟩ ?_;simp only[take_succ_cons,take_zero,drop_succ_cons,drop_zero];iterate 9 quiet_step (fail)
 refine wpQuiet_nil ?_;rintro _ ⟨nq,rfl⟩;go_wp2_with (refine zA F _ _ _ _ F F F (aw.drewN (n:=nq)) underlying32 gu a5 aL aM (aE.ext ((X.refl w).drewN nq)) a0 (b_ _) ?_);intro bj aa al;rw[a2.out]at aa;obtain⟨aR,a3⟩:=aB aa (A_ (Ja (yA w (some g)) nq) al);have be:=aa.frozen 96;have ba:=aa.cell' (w_ h E (iV R m) ag);clear aa al a6;go_wp2_with (refine zy F _ _ _ _ F (k:=n) F F underlying32 gu (Nat.le_refl n) ?_);have ad:=aR.set 96 (.int .i64 ((h:Int)+n));rw[Dz _ _ _ (iV R _) ag.out]at ad;obtain⟨a4,aD⟩:=aB ad (yB a3 96 (.int .i64 ((h:Int)+n)));clear ad;refine WB F F ⟨F,⟨r2,ag,?_,?_⟩,aD⟩
 ·have af:(t++b).length%32=h+n:=by rw[length_append,u.out,j.out];omega
  have ac:(t++b).length / 32=m:=by rw[length_append,u.out,j.out];omega
  rw[af,ac];exact a1
 ·have af:(t++b).length%32=h+n:=by rw[length_append,u.out,j.out];omega
  have ac:(t++b).length / 32=m:=by rw[length_append,u.out,j.out];omega
  rw[af,ac,DJ _ (by rw[u.out];omega)];exact a4
theorem WE(s0 t E u r:aj)(R:Int)(g m h n n2 c:Nat)(a:aN)(T:TypeId)(w:World)(hs:s0.length=64)(a5:r.length=32)(hb:u.length=n2)(al:E.length=32 - h)(av:t.length=32*m+h)(cD:0<h)(cF:h<32)
 (hn:n=32 - h+n2)(am:r.take h=t.drop (32*m))
 (bd:ah w g (sm (gZ s0 t m) r h R) T)(cz:n<=c)(hc:c<=9223372036854775807)(bN:a=none->n=0)(ax:aK w a ((E++u).map Y))(bt:n=0∨∀x,a=some x->some x.block≠some g):
 Calls prog 267 #[.pointer (some ⟨g,0,none⟩),.slice a n c] w (FZ w g T s0 (t++E++u) R):=by
 obtain⟨I,ao,ai,aD,cJ,bo,bL,cH⟩:=jg hs a5 hb al av bN (bt.resolve_left J) ax;obtain⟨bj,cB,cy⟩:=aW bd am hn;have bx:(t++E).length=32*(m+1):=by rw[length_append,av,al];omega
 have af:=O bx;have a_:(r.take h++E)=(t++E).drop (32*m):=by rw[drop_append_of_le_length (by rw[av];omega),am]
 have bR:qW (gZ s0 t m) (r.take h++E)=gZ s0 (t++E) (m+1):=by
  have cN:(r.take h++E).length=32:=by rw[length_append,length_take,al,a5];omega
  rw[gZ,<-a_,DJ _ (by rw[av];omega),take_of_length_le (l:=r.take h++E) J]
 have cw:=O bR;have be:aK w a (E.map Y):=WA (m:=u) ax F;have b6:=O be;have bl:aK w (dL a c (32 - h)) (u.map Y):=by
  have ac:=ax.shift c (32 - h) n2 J;rw[<-map_drop,<-al,drop_left,take_of_length_le (by rw[length_map];omega)]at ac;rwa[al]at ac
 have cl:=O bl;clear hs a5 hb av bN bt ax bd am bx a_ bR be bl al;have bw:=bj.cell' (w_ h R (iV I m) ao);have cK:decide ((0:Int)<(h:Int))=true:=aQ J;have cM:¬32=h:=J;have cL:(0:Int)<=(h:Int):=J;have cC:(h:Int)<=32:=J;obtain⟨j,bi⟩:=aC (32 - h);have hk:IntKind.i64.wrap ((h:Int)+j)=32:=by
  rw[show(h:Int)+j=32 by omega];exact IntWalk.i64_in _ J
 have ap:j=Nat.min n j:=(Nat.min_eq_right J).symm;have ar:(E.map Y).length=j:=by rw[length_map,aD.out];exact bi
 have aq:64+h+j<=(sm (gZ s0 t m) r h R).length:=by rw[Dy _ _ (iV I _) ao.out];omega
 have ag:=FN (xs:=E) h R (iV (t:=t) I m) ao h (by rw[aD.out];omega);rw[aD.out,show h+(32 - h)=32 by omega,drop_of_length_le (by rw[ao.out];omega),append_nil]at ag;have aw:(r.take h++E).length=32:=by rw[length_append,length_take,aD.out,ao.out];omega
 generalize r.take h++E=r2 at*;obtain⟨cn,cq,ch,cv,ae⟩:=dM ap ar aq ag aw;clear ap ar aq ag aw;have b5:j<=n:=J;clear hn;go_enter func267,ntmps267;go_wp2;refine qV (C:=fun w'=>∃n,w'=w.drewN n) 9 au au ⟨1,F⟩ ?_;simp only[take_succ_cons,take_zero,drop_succ_cons,drop_zero];iterate 9 quiet_step (fail)
 refine wpQuiet_nil ?_;rintro _ ⟨nq,rfl⟩;go_wp2_with (refine zA F _ _ _ _ F F F (bj.drewN (n:=nq)) underlying32 gu cq cn bo (b6.ext ((X.refl w).drewN nq)) ch (b_ _) ?_);intro a4 k1 aE;rw[cv.out]at k1;obtain⟨aM,aL⟩:=aB k1 (A_ (Ja (yA w (some g)) nq) aE);have bc:=k1.frozen 96;have b2:=k1.cell' (w_ h R (iV I m) ae);clear k1 aE bw;go_wp2_with (refine zy F _ _ _ _ F (k:=j) F F underlying32 gu b5 ?_);have k2:=aM.set 96 (.int .i64 32);rw[Dz _ _ _ (iV I _) ae.out]at k2;obtain⟨bu,bB⟩:=aB k2 (yB aL 96 (.int .i64 32));generalize World.setCell a4 _ _=w2 at*;have an:∀i,i<32->w2.cell? ⟨g,64+i,none⟩=some (.int .u8 ((r2[i]?.getD 0).toNat:Int)):=fun i a9=>k2.cell' (VK 32 R (iV I m) ae a9);have az:=O an;clear k2 bc b2 an;refine(Dw _ r2 _ g g 64 T w2 (iV I m) bu az (.inr bG)).mono ?_;rintro e bh ⟨rfl,k3,g3⟩;rw[cw.out]at k3;have a8:ah bh g (sm (gZ s0 (t++E) (m+1)) r2 32 R) T:=k3;obtain⟨bq,bX⟩:=aB a8 (l9 bB g3);have ck:=k3.frozen 96;have ct:=a8.cell' (w_ 32 R (iV I (m+1)) ae);clear k3 a8 g3;go_wp2;have k4:=bq.set 96 (.int .i64 0);rw[Dz _ _ _ (iV I _) ae.out]at k4;obtain⟨bv,bz⟩:=aB k4 (yB bX 96 (.int .i64 0));generalize World.setCell bh _ _=cE at*;have ba:=O (cl.grown bz (Dx bL));have bm:Hid (n2=0∨∀x,dL a c (32 - h)=some x->some x.block≠some g):=O (.inr (Dx (c:=c) (k:=32 - h) bL));rw[bi]at ba bm;have b3:n - j=n2:=by have:=cy.out;omega
 have b':Hid (dL a c j=none->n2=0):=O fun e=>by have:=bo.out (FM.1 e);omega
 rw[b3];clear k4 ck ct bq bu bX bB az aM aL;generalize dL a c j=cj at*;obtain⟨ab,bk⟩:=aC (t++E);obtain⟨ad,cd⟩:=aC (m+1);obtain⟨a3,cs⟩:=aC (c - j);rw[bk,cd]at bv af;rw[bk,cs];have ci:n2<=a3:=J;go_loopw [1] (fun x wr=>∃(k n' c':Nat) (a':aN),x= .slice a' n' c'/\n'+32*k=n2/\n'<=c'/\c'<=a3/\Hid (a'=none->n'=0)/\Hid (n'=0∨∀x,a'=some x->some x.block≠some g)/\
  Hid (aK wr a' ((u.drop (32*k)).map Y))/\Hid (ah wr g (sm (gZ s0 (ab++u) (ad+k)) r2 0 R) T)/\Hid (w.grownBy wr (some g)))
  (fun x _=>zf x)
 case atStart=>exact⟨0,n2,a3,cj,F,J,ci,J,b',bm,O (by rw[Nat.mul_zero,drop_zero];exact ba),O (by rw[Nat.add_zero,DJ _ (by rw[af.out];omega)];exact bv),bz⟩
 case round=>
  obtain⟨k,n',c',a',rfl,hk,cG,cA,a2,b8,a7,bp,br⟩:=hrel;by_cases b0:32<=n'
  ·have cp:decide ((32:Int)<=(n':Int))=true:=aQ J;have aa:(u.drop (32*k)).length=n':=by rw[length_drop,ai.out];omega
   have cx:a'≠none:=fun e=>by have:=a2.out e;omega
   obtain⟨gb,off,rfl,bS⟩:=a7.gQ (by rw[length_map,aa];omega);have a1:=b8.resolve_left J;have cf:gb≠g:=fun e=>a1 _ F (by rw[e]);have bO:=O a1;clear a1;have cI:=AO (P:=prog) underlying30 (len:=n') b0;have an:∀i,i<32->wr.cell? ⟨gb,off+i,none⟩=some (.int .u8 ((((u.drop (32*k)).take 32)[i]?.getD 0).toNat:Int)):=by
    intro i a9;refine bS i _ ?_;rw[List.getElem?_take_of_lt a9];exact zD J
   have az:=O an;clear an bS cx;have cc:=O aa;clear aa;go_wp2_with fail;refine(Dw _ ((u.drop (32*k)).take 32) _ g gb off T wr (iV I _) bp az (.inl cf)).mono ?_;rintro e a4 ⟨rfl,E,g1⟩;have bA:qW (gZ s0 (ab++u) (ad+k)) ((u.drop (32*k)).take 32)=gZ s0 (ab++u) (ad+(k+1)):=by
    rw[<-Nat.add_assoc,gZ,FY af.out]
   rw[bA]at E;have aM:=O E;clear E bA;obtain⟨aL,cm⟩:=aB (l9 br g1) (a7.grown g1 bO);clear g1;go_wp2_with (refine zy F _ _ _ _ F (k:=32) F F underlying32 gu b0 ?_);go_roundw
   case rel=>
    refine⟨k+1,n' - 32,c' - 32,_,F,J,J,J,O fun e=> ?_,O (.inr (Dx bO)),O ?_,aM,aL⟩
    ·have:=a2.out (FM.1 e);omega
    ·have ac:=cm.shift c' 32 (n' - 32) J;rw[<-map_drop,drop_drop,take_of_length_le (by rw[length_map,length_drop,ai.out];omega)]at ac;rwa[show 32*k+32=32*(k+1) by omega]at ac
   case measure=>simp[zf];omega
  ·have cp:decide ((32:Int)<=(n':Int))=false:=aP J;have aa:(u.drop (32*k)).length=n':=by rw[length_drop,ai.out];omega
   have ar:((u.drop (32*k)).map Y).length=n':=by rw[length_map,aa]
   have ap:n'=Nat.min n' 32:=(Nat.min_eq_left J).symm;have cg:=O ap;clear ap;have aq:64+n'<=(sm (gZ s0 (ab++u) (ad+k)) r2 0 R).length:=by rw[Dy _ _ (iV I _) ae.out];omega
   have ca:=O aq;clear aq;have ag:=FN (xs:=u.drop (32*k)) 0 R (iV (t:=ab++u) I (ad+k)) ae 0 (by rw[aa];omega);rw[take_zero,nil_append,Nat.add_zero,Nat.zero_add,aa]at ag;have aw:(u.drop (32*k)++r2.drop n').length=32:=by rw[length_append,aa,length_drop,ae.out];omega
   have am:(u.drop (32*k)++r2.drop n').take n'=u.drop (32*k):=by rw[<-aa,take_left]
   have bE:=FY (b:=u) (k:=k) af;generalize u.drop (32*k)=bb at*;obtain⟨co,cc⟩:=aB bE aa;clear aa bE;have b9:=O ar;clear ar;generalize b1:bb++r2.drop n'=cr at*;obtain⟨cb,aR,b4⟩:=aW am aw ag;clear am aw ag b1;go_wp2_with (refine zA F _ _ _ _ F F F bp underlying32 gu b9 cg a2 a7 ca (b_ _) ?_);intro a4 E aE;rw[b4.out]at E;have bc:=E.frozen 96;have bw:=E.cell' (w_ 0 R (iV I (ad+k)) aR);go_wp2;have a6:=E.set 96 (.int .i64 (n':Int));rw[Dz _ _ _ (iV I _) aR.out]at a6;obtain⟨b7,ce⟩:=aB a6 (yB (A_ br aE) 96 (.int .i64 (n':Int)));clear a6;refine ND F F ⟨F,⟨cr,aR,?_,?_⟩,ce⟩
   ·have ac:(ab++u).length%32=n':=by rw[length_append,af.out,ai.out];omega
    have a0:(ab++u).length / 32=ad+k:=by rw[length_append,af.out,ai.out];omega
    rw[ac,a0,co.out];exact cb
   ·have ac:(ab++u).length%32=n':=by rw[length_append,af.out,ai.out];omega
    have a0:(ab++u).length / 32=ad+k:=by rw[length_append,af.out,ai.out];omega
    rw[ac,a0];exact b7
theorem F6(w:World)(n:Nat)(hn:n<=140737488355328):(Instr.makeSlice 32 (.int .i64 (n:Int)) (.int .i64 (n:Int))).run prog w=
 .ok (.slice (some ⟨w.heap.size,0,none⟩) n n) (w.alloc (.cells ((List.replicate n (0:UInt8)).map Y).toArray 5)):=by
 obtain⟨u,j,E,hs,hb⟩:=info_parts xu;have h:=run_make (P:=prog) w 32 5 u (.int .u8 0) underlying32 j E .i64 .i64 n n J J (by rw[hb];omega) J;rw[h,hs];have:madeCells (Value.int .u8 0).cells ((n:Int).toNat*1)=((List.replicate n (0:UInt8)).map Y).toArray:=by
  have e:(Value.int .u8 0).cells= #[.int .u8 0]:=F;apply Array.ext
  ·simp[size_madeCells]
  ·intro i I R;simp[madeCells,e,Y,Nat.mod_one]
 rw[this];simp
theorem OW{ops:Array Oper}{rest:List Oper}{o:Oper}{a:Act}{w:World}{Q:Exit->Act->World->Prop}(R:o.guard=none)(x y:Operand)(u:o.op= .makeSlice 32 x y){n:Nat}
 (j:a.eval x= .int .i64 (n:Int))(I:a.eval y= .int .i64 (n:Int))(hn:n<=140737488355328)
 (h:wpList prog ops Q rest (a.put o.dst (.slice (some ⟨w.heap.size,0,none⟩) n n)) (w.alloc (.cells ((List.replicate n (0:UInt8)).map Y).toArray 5))):wpList prog ops Q (o::rest) a w:=
 wpList_plain R fun K E=>by
  unfold Oper.wp execOp;simp only[u,j,I,Result.andThen_ok,Sem.run_bind,Sem.run_pure,F6 w n hn];exact E _ _ h
theorem JC(s0 t b:aj)(j:Int)(g n c:Nat)(a:aN)(T:TypeId)(w:World)(hs:s0.length=64)(hb:b.length=n)
 (ag:lQ w g T s0 t j)(hn:n<=140737488355328)(u:n<=c)(hc:c<=9223372036854775807)(I:a=none->n=0)(aa:aK w a (b.map Y))(R:n=0∨∀x,a=some x->some x.block≠some g):
 Calls prog 267 #[.pointer (some ⟨g,0,none⟩),.slice a n c] w (FZ w g T s0 (t++b) j):=by
 obtain⟨r,ab,ad,E⟩:=ag;have ae:t.length=32*(t.length / 32)+t.length%32:=J;generalize an:t.length / 32=m at*;generalize am:t.length%32=h at*;have al:h<32:=J;by_cases ai:h=0
 ·subst ai;exact V9 s0 t b r j g m n c a T w hs ab hb J E hn u hc I aa R
 ·by_cases af:h+n<32
  ·exact WC s0 t b r j g m h n c a T w hs ab hb ae J af ad E u hc I aa R
  ·have ac:b.take (32 - h)++b.drop (32 - h)=b:=take_append_drop _ _;have:=WE s0 t (b.take (32 - h)) (b.drop (32 - h)) r j g m h n (n - (32 - h)) c a T w hs ab (by rw[length_drop,hb]) (by rw[length_take,hb];omega) ae J al J ad E u hc I (by rw[ac];exact aa) R;rwa[append_assoc,ac]at this
theorem WG{w w':World}{a:aN}{xs:aO}{r:Option Nat}{n:Nat}(h:aK w a xs)(j:xs.length=n)(k:w.grownBy w' r)(hn:n=0∨∀x,a=some x->some x.block≠r):aK w' a xs:=by
 rcases hn with rfl|hn
 ·exact .inl (length_eq_zero_iff.1 j)
 ·exact h.grown k hn
theorem WH{w0:World}{a:aN}{xs:aO}{n g:Nat}(h:aK w0 a xs)(aa:xs.length=n)(I:w0.heap.size<=g):n=0∨∀x,a=some x->some x.block≠some g:=by
 by_cases j:n=0
 ·exact .inl j
 ·refine .inr ?_;intro x u;obtain⟨b,off,rfl,hc⟩:=h.gQ J;cases u;have E:b<w0.heap.size:=block_lt_of_cell (hc 0 _ (List.getElem?_eq_getElem J));intro e;have R:b=g:=by injection e
  omega
abbrev vX:TypeId:=350
theorem OX:iH prog 350 98:=⟨⟨_,underlying350,F⟩,au⟩
theorem lQ.blk{w:World}{g:Nat}{T:TypeId}{s0 t:aj}{j:Int}(h:lQ w g T s0 t j):∃vs,vs.length=vs.length/\ah w g vs T:=by
 obtain⟨r,_,_,hb⟩:=h;exact⟨_,F,hb⟩
theorem lQ.lt{w:World}{g:Nat}{T:TypeId}{s0 t:aj}{j:Int}(h:lQ w g T s0 t j):g<w.heap.size:=by
 obtain⟨r,_,_,hb⟩:=h;exact hb.lt
theorem lQ.ext{w w':World}{g:Nat}{T:TypeId}{s0 t:aj}{j:Int}(h:lQ w g T s0 t j)(k:X w w'):lQ w' g T s0 t j:=by
 obtain⟨r,u,E,hb⟩:=h;exact⟨r,u,E,hb.ext k⟩
theorem lQ.grown{w w':World}{g:Nat}{T:TypeId}{s0 t:aj}{j:Int}{r:Option Nat}(h:lQ w g T s0 t j)(k:w.grownBy w' r)(hn:some g≠r):lQ w' g T s0 t j:=by
 obtain⟨r,u,E,hb⟩:=h;exact⟨r,u,E,hb.grown k hn⟩
def JD(w:World)(g:Nat)(T:TypeId)(s0 t b:aj)(j:Int)(e:Ending)(w':World):Prop:=
 if(b.length:Int)<=1048576 - j then e= .returned (.int .i64 0)/\lQ w' g T s0 (t++b) (j+b.length)/\w.grownBy w' (some g)
 else e= .returned (.int .i64 5)/\w=w'
theorem WI(s0 t b:aj)(j:Int)(g n c:Nat)(a:aN)(T:TypeId)(w:World)(hs:s0.length=64)(hb:b.length=n)(aM:0<=j)(aE:j<=1048576)
 (aq:lQ w g T s0 t j)(hn:n<=9223372036854775807)(am:n<=c)(hc:c<=9223372036854775807)(ad:a=none->n=0)(ag:aK w a (b.map Y))(af:n=0∨∀x,a=some x->some x.block≠some g):
 Calls prog 203 #[.pointer (some ⟨g,0,none⟩),.slice a n c] w (JD w g T s0 t b j):=by
 obtain⟨r,E,ae,u⟩:=aq;unfold JD;rw[hb];obtain⟨ai,aa,av,ap,ab,an,ax,I⟩:=jg hb E ae ad af ag u hs;have aD:=u.cell' (Jp (t.length%32:Nat) j (iV hs _) E);have az:=u.frozen 97;have k1:IntKind.i64.wrap (1048576 - j)=1048576 - j:=IntWalk.i64_in _ J;clear hb E ae ad af ag u hs;by_cases al:(n:Int)<=1048576 - j
 ·simp only[if_pos al];have k2:IntKind.i64.wrap (j+n)=j+n:=IntWalk.i64_in _ J;have ar:decide ((1048576 - j)<(n:Int))=false:=aP J;go_enter func203,ntmps203;go_wp2_with fail;have ac:=ax.set 97 (.int .i64 (j+n));rw[VL _ _ _ (iV I _) aa.out]at ac;have aw:lQ (w.setCell ⟨g,97,none⟩ (.int .i64 (j+n))) g T s0 t (j+n):=⟨r,aa,av,ac⟩;have R:=yB (yA w (some g)) 97 (.int .i64 (j+n));generalize World.setCell w _ _=w2 at*;refine(JC s0 t b (j+n) g n c a T w2 I ai aw J am hc ap (WG an (by rw[length_map];exact ai) R ab) ab).mono ?_;rintro e aL ⟨rfl,ao,g3⟩;go_wp2;go_ret;exact⟨F,ao,l9 R g3⟩
 ·simp only[if_neg al];have ar:decide ((1048576 - j)<(n:Int))=true:=aQ J;go_enter func203,ntmps203;go_wp2;go_ret;exact⟨F,F⟩
theorem WJ(s0 t:aj)(u:Int)(g:Nat)(T:TypeId)(w:World)(hs:s0.length=64)(ac:lQ w g T s0 t u):
 Calls prog 268 #[.pointer (some ⟨g,0,none⟩)] w fun e w'=>e= .returned (.pointer (some ⟨w.heap.size,0,none⟩))/\lQ w' w.heap.size vX s0 t u/\X w w':=by
 obtain⟨r,E,ab,aa⟩:=ac;have R:=Dy (t.length%32:Nat) u (iV (t:=t) hs (t.length / 32)) E;have ae:∀v∈sm (gZ s0 t (t.length / 32)) r (t.length%32:Nat) u,v.oneCell'=true:=by
  intro v j;unfold sm at j;simp only[mem_append,mem_cons,not_mem_nil,or_false]at j;rcases j with j|j|j|j
  ·exact b_ _ v j
  ·exact b_ _ v j
  ·rw[j];rfl
  ·rw[j];rfl
 obtain⟨ai,I,al,af⟩:=bU aa R E ab;clear aa R E ab;go_enter func268,ntmps268;go_wp2_with (first|(refine bV F _ _ F F ai OX I ?_)|(refine bg F _ _ _ F F F (ah.aI F F) OX F I ae ?_));intro w2 ad ag;have e2:=ag.ext ((X.refl w).alloc _) bG;go_wp2;go_ret;exact⟨F,⟨r,al,af,ad⟩,e2⟩
def lS(d:Int):aj:=(List.replicate 64 0).set 63 (UInt8.ofNat d.toNat)
theorem JE(d:Int):(lS d).length=64:=by simp[lS]
theorem WL:zeroCells350=(sm (List.replicate 64 0) (List.replicate 32 0) 0 0).toArray:=au
def F7(d:Int)(w:World)(e:Ending)(w':World):Prop:=
 if d<0∨255<d then e= .returned (.tuple #[.pointer none,.int .i64 3])/\w=w'
 else e= .returned (.tuple #[.pointer (some ⟨w.heap.size,0,none⟩),.int .i64 0])/\lQ w' w.heap.size vX (lS d) [] 0/\X w w'
theorem OY(d:Int)(w:World):
 Calls prog 202 #[.int .i64 d] w (F7 d w):=by
 unfold F7;by_cases j:d<0∨255<d
 ·simp only[if_pos j];by_cases u:d<0
  ·clear j;go_enter func202,ntmps202;go_wp2
   go_ret2
   exact⟨F,F⟩
  ·have E:255<d:=J;clear j;go_enter func202,ntmps202;go_wp2
   go_ret2
   exact⟨F,F⟩
 ·simp only[if_neg j];have u:¬d<0:=J;have E:¬255<d:=J;have R:IntKind.u8.wrap d=d:=IntWalk.u8_in _ J;clear j;go_enter func202,ntmps202;go_wp2
  go_ret2
  have I:zeroCells350.setIfInBounds 63 (.int .u8 d)=(sm (lS d) (List.replicate 32 0) 0 0).toArray:=by
   rw[WL,setIfInBounds_toArray]
   congr 1
   unfold sm lS;rw[set_append_left _ _ aF,map_set];have:Y (UInt8.ofNat d.toNat)= .int .u8 d:=by
    unfold Y;rw[UInt8.toNat_ofNat']
    congr 1
    omega
   rw[this]
  exact⟨F,⟨List.replicate 32 0,F,F,ah.aI F I.symm⟩,(X.refl w).alloc _⟩
def qx(t:aj):aj:=t++128::List.replicate (31 - t.length%32) 0
theorem OZ(t:aj):(qx t).length%32=0:=by
 unfold qx;rw[length_append,length_cons,length_replicate];omega
def lg(s t:aj)(n:Nat):aj:=qW (gZ s (qx t) ((qx t).length / 32)) (List.replicate 24 0++dG (UInt64.ofNat n))
theorem Bd(s t:aj)(n:Nat):(lg s t n).length=64:=Jo _ _
theorem O1{w w':World}(h:X w w')(r:Option Nat):w.grownBy w' r:=⟨h.os,h.tape,h.output,h.size,fun i j _=>h.block i j⟩
theorem JF{P:Program}{ops:Array Oper}{rest:List Oper}{o:Oper}{a:Act}{w:World}{Q:Exit->Act->World->Prop}(u:o.guard=none)(ty:TypeId)(x:Operand)(E:o.op= .load ty x){g off n:Nat}{vs xs:aO}{T:TypeId}
 (j:a.eval x= .pointer (some ⟨g,off,none⟩))(hb:ah w g vs T)(ht:iH P ty n)(hn:off+n<=vs.length)(I:(vs.drop off).take n=xs)
 (h:wpList P ops Q rest (a.put o.dst (.agg xs.toArray)) w):wpList P ops Q (o::rest) a w:=
 Jc u ty x E j hb ht hn (by rw[I];exact h)
theorem WM(s0 t:aj)(N:Nat)(g:Nat)(T:TypeId)(w:World)(hs:s0.length=64)(cN:N<=4611686018427387904)(bL:lQ w g T s0 t N):
 Calls prog 204 #[.pointer (some ⟨g,0,none⟩)] w fun e w'=>e= .returned (.agg ((lg s0 t N).map Y).toArray)/\X w w':=by
 obtain⟨af,b0⟩:=aB hs bL;have cP:IntKind.u64.wrap (N:Int)=(N:Int):=IntWalk.u64_in _ J;have cc:((UInt64.ofNat N).toNat:Int)=N:=by rw[UInt64.toNat_ofNat'];omega
 have b9:=fun w=>Jj (UInt64.ofNat N) w;rw[cc]at b9;have ag:Hid (((lg s0 t N).map Y).length=64):=O (by rw[length_map,Bd]);have cb:Hid (lg s0 t N=qW (gZ s0 (qx t) ((qx t).length / 32)) (List.replicate 24 0++dG (UInt64.ofNat N))):=O F;have cR:=bL.lt;generalize lg s0 t N=j at*;generalize UInt64.ofNat N=u at*;clear hs bL cc;go_enter func204,ntmps204;go_wp2_with fail;generalize bj:World.alloc w _=b6;have cq:ah b6 w.heap.size (List.replicate 64 (.int .u8 0)) 77:=by rw[<-bj];exact ah.aI F F
 have b4:X w b6:=by rw[<-bj];exact(X.refl w).alloc _
 have b7:b6.heap.size=w.heap.size+1:=by rw[<-bj];exact Array.size_push _
 clear bj;refine(WJ s0 t N g T _ af (b0.ext b4)).mono ?_;rintro e ap ⟨rfl,cf,b2⟩;obtain⟨cn,cm,bd⟩:=aW (cq.ext b2) (b4.ext b2) cf;rw[b7]at bd;rw[b7];have cG:w.heap.size+1<ap.heap.size:=bd.lt;clear cq b4 b7 cf b2;go_wp2_with fail;generalize bO:World.alloc ap _=bE;have cr:ah bE ap.heap.size (([128]:aj).map Y) 5:=by rw[<-bO];exact ah.aI F F
 have bi:X ap bE:=by rw[<-bO];exact(X.refl ap).alloc _
 clear bO;refine(JC s0 t [128] N (w.heap.size+1) 1 1 (some ⟨ap.heap.size,0,none⟩) vX bE af F (bd.ext bi) J bG J (by intro h;cases h) (aK.eG cr) (.inr (by intro x bB;cases bB;intro h;injection h with h;simp only at h;omega))).mono ?_;rintro e w2 ⟨rfl,bo,bm⟩;have co:=O1 bi (some (w.heap.size+1));obtain⟨be,bk⟩:=aB ((cn.grown co (by intro h;injection h with h;omega)).grown bm (by intro h;injection h with h;omega)) ((cm.ext bi).grown bm (by intro k hk;cases hk;omega));have cC:w.heap.size+1<w2.heap.size:=bo.lt;have ax:=O bo;clear bo bm cr bi co cn bd cm cG;obtain⟨r,ae,cL,ad⟩:=ax.out;have ci:=ad.cell' (w_ _ N (iV af _) ae);have cg:(t++[128]).length%32=(t.length+1)%32:=by rw[length_append];rfl
 rw[cg]at ci;have av:qx t=(t++[128])++List.replicate (31 - t.length%32) 0:=by unfold qx;rw[append_assoc];rfl
 have cQ:=OZ t;generalize cp:(t.length+1)%32=q at*;have cM:q=0∨(0<q/\32 - q=31 - t.length%32):=J;have cT:q<32:=J;clear ae cL ad r cg;rcases cM with rfl|⟨cI,bl⟩
 ·have:31 - t.length%32=0:=J;rw[this,replicate_zero,append_nil]at av;rw[<-av]at ax;clear av this cp;obtain⟨r,ae, -,ad⟩:=ax.out;obtain⟨ct,ch⟩:=aB ae ad;clear ae ad;have bp:=fun o=>((b0.ext bk).ext ((X.refl w2).alloc o)).elim fun cv aw=>aw.2.2.cell' (Jp _ N (iV af _) aw.1);go_wp2_with fail;generalize ab:World.alloc w2 _=I;have a2:ah I w2.heap.size (List.replicate 32 (.int .u8 0)) 30:=by rw[<-ab];exact ah.aI F F
  have b5:X w2 I:=by rw[<-ab];exact(X.refl w2).alloc _
  have cy:I.heap.size=w2.heap.size+1:=by rw[<-ab];exact Array.size_push _
  clear ab bp;refine(b9 _).mono ?_;rintro e a1 ⟨rfl,ac⟩;have cw:I.heap.size<=a1.heap.size:=ac.size;go_wp2_with (refine bg F _ _ _ F F F (ah.aI F F) AZ F F (b_ _) ?_);intro aq a8 a_;have a4:X I aq:=a_.ext (ac.alloc _) ac.size;obtain⟨az,a3,al⟩:=aW (a2.ext a4) a8 (b5.ext a4);clear a8 a_ ac a2;generalize a1.heap.size=cs at*;go_wp2;refine qV (C:=fun w'=>∃n,w'=aq.drewN n) 2 au au ⟨1,F⟩ ?_;simp only[take_succ_cons,take_zero,drop_succ_cons,drop_zero];iterate 2 quiet_step (fail)
  refine wpQuiet_nil ?_;rintro _ ⟨nq,rfl⟩;have a6:Hid (((dG u).map Y).length=8):=O (by rw[length_map,Bc]);have ar:fV (List.replicate 32 (.int .u8 0)) 24 ((dG u).map Y)=(List.replicate 24 0++dG u).map Y:=F;have a7:=O ar;have bR:(List.replicate 24 0++dG u).length=32:=F;clear ar;generalize aD:(dG u).map Y=aE at*;have a5:∀v∈aE,v.oneCell'=true:=by rw[<-aD];exact b_ _
  clear aD;have aM:=O (aK.eG (a3.drewN (n:=nq)));go_wp2_with (refine zA F _ _ _ _ F F F (az.drewN (n:=nq)) underlying32 gu a6 F (fun e=>by cases e) aM aF a5 ?_);intro aa R ao;change ah aa _ (fV (List.replicate 32 (.int .u8 0)) 24 aE) _ at R;rw[a7.out]at R;generalize b1:List.replicate 24 0++dG u=last at*;clear b1;have aR:w.heap.size+1≠w2.heap.size:=J;have b3:=O (((ch.ext al).drewN (n:=nq)).upd ao aR);have bu:Hid (∀i,i<32->aa.cell? ⟨w2.heap.size,0+i,none⟩=some (.int .u8 ((last[i]?.getD 0).toNat:Int))):=O fun i cK=>by
   rw[Nat.zero_add];exact R.cell' (zD J)
  have am:X w2 aa:=ao.ext (al.drewN nq) bG;obtain⟨b8,bz⟩:=aB (be.ext am) (bk.ext am);clear R ao am az a3 al be ch aM a6 a7 a5 bR;go_wp2_with fail;refine(Dw _ last _ (w.heap.size+1) w2.heap.size 0 vX aa (iV af _) b3 bu (.inl (Ne.symm aR))).mono ?_;rintro e cE ⟨rfl,ba,ai⟩;rw[<-cb.out]at ba;obtain⟨bX,bA⟩:=aB (b8.grown ai (by intro h;injection h with h;omega)) (bz.grown ai (by intro k hk;cases hk;omega));generalize r.map Y++[Value.int IntKind.i64 _,Value.int IntKind.i64 _]=an at*;have br:0+64<=(j.map Y++an).length:=by rw[length_append,ag.out];omega
  have a0:((j.map Y++an).drop 0).take 64=j.map Y:=by rw[drop_zero,<-ag.out,take_left]
  generalize aL:j.map Y++an=vs at*;obtain⟨cz,bS⟩:=aB aL a0;have bw:=b_ j;clear aL ai a0;generalize a9:j.map Y=cA at*;have bq:=O a9;clear a9;go_wp2_with (first|(refine JF F _ _ F F ba jT br bS ?_)|refine bg F _ _ _ F F F bX jT F ag bw ?_);intro cJ bv bx;go_wp2;refine gG F F bv jT ag F ⟨by rw[bq.out],bx.ext bA bG⟩
 ·obtain⟨k,hk⟩:=aC (32 - q);have cF:IntKind.i64.wrap (32 - (q:Int))=(k:Int):=by rw[IntWalk.i64_in _ J];omega
  have cH:k<=32/\0<k:=J;rw[hk]at bl;obtain⟨cx,ck,cl⟩:=aW hk bl av;clear hk cp bl av;have cB:decide ((0:Int)<(q:Int))=true:=aQ J;go_wp2_with (refine OW F _ _ F (n:=k) F F J ?_);generalize bt:World.alloc w2 _=bN;have ca:ah bN w2.heap.size ((List.replicate (k) (0:UInt8)).map Y) 5:=by rw[<-bt];exact ah.aI F aF
  have bh:X w2 bN:=by rw[<-bt];exact(X.refl w2).alloc _
  clear bt;refine(JC s0 (t++[128]) (List.replicate (k) 0) N (w.heap.size+1) k k (some ⟨w2.heap.size,0,none⟩) vX bN af (length_replicate ..) (ax.ext bh) J bG J (by intro h;cases h) (aK.eG ca) (.inr (by intro x bB;cases bB;intro h;injection h with h;simp only at h;omega))).mono ?_;rintro e E ⟨rfl,bc,g3⟩;rw[ck.out,<-cl.out]at bc;have b':=O1 bh (some (w.heap.size+1));obtain⟨cj,cd⟩:=aB ((be.grown b' (by intro h;injection h with h;omega)).grown g3 (by intro h;injection h with h;omega)) ((bk.ext bh).grown g3 (by intro k hk;cases hk;omega));have cS:w.heap.size+1<E.heap.size:=bc.lt;have cD:=O bc;clear bc g3 ca bh b' be ax bk cC ci cI cB cF cx cH ck cl;obtain⟨r,ae, -,ad⟩:=cD.out;obtain⟨ct,ce⟩:=aB ae ad;clear ae ad;have bp:=fun o=>((b0.ext cd).ext ((X.refl E).alloc o)).elim fun cv aw=>aw.2.2.cell' (Jp _ N (iV af _) aw.1);go_wp2_with fail;generalize ab:World.alloc E _=I;have a2:ah I E.heap.size (List.replicate 32 (.int .u8 0)) 30:=by rw[<-ab];exact ah.aI F F
  have b5:X E I:=by rw[<-ab];exact(X.refl E).alloc _
  have cy:I.heap.size=E.heap.size+1:=by rw[<-ab];exact Array.size_push _
  clear ab bp;refine(b9 _).mono ?_;rintro e a1 ⟨rfl,ac⟩;have cw:I.heap.size<=a1.heap.size:=ac.size;go_wp2_with (refine bg F _ _ _ F F F (ah.aI F F) AZ F F (b_ _) ?_);intro aq a8 a_;have a4:X I aq:=a_.ext (ac.alloc _) ac.size;obtain⟨az,a3,al⟩:=aW (a2.ext a4) a8 (b5.ext a4);clear a8 a_ ac a2;generalize a1.heap.size=cs at*;go_wp2;refine qV (C:=fun w'=>∃n,w'=aq.drewN n) 2 au au ⟨1,F⟩ ?_;simp only[take_succ_cons,take_zero,drop_succ_cons,drop_zero];iterate 2 quiet_step (fail)
  refine wpQuiet_nil ?_;rintro _ ⟨nq,rfl⟩;have a6:Hid (((dG u).map Y).length=8):=O (by rw[length_map,Bc]);have ar:fV (List.replicate 32 (.int .u8 0)) 24 ((dG u).map Y)=(List.replicate 24 0++dG u).map Y:=F;have a7:=O ar;have bR:(List.replicate 24 0++dG u).length=32:=F;clear ar;generalize aD:(dG u).map Y=aE at*;have a5:∀v∈aE,v.oneCell'=true:=by rw[<-aD];exact b_ _
  clear aD;have aM:=O (aK.eG (a3.drewN (n:=nq)));go_wp2_with (refine zA F _ _ _ _ F F F (az.drewN (n:=nq)) underlying32 gu a6 F (fun e=>by cases e) aM aF a5 ?_);intro aa R ao;change ah aa _ (fV (List.replicate 32 (.int .u8 0)) 24 aE) _ at R;rw[a7.out]at R;generalize b1:List.replicate 24 0++dG u=last at*;clear b1;have aR:w.heap.size+1≠E.heap.size:=J;have b3:=O (((ce.ext al).drewN (n:=nq)).upd ao aR);have bu:Hid (∀i,i<32->aa.cell? ⟨E.heap.size,0+i,none⟩=some (.int .u8 ((last[i]?.getD 0).toNat:Int))):=O fun i cK=>by
   rw[Nat.zero_add];exact R.cell' (zD J)
  have am:X E aa:=ao.ext (al.drewN nq) bG;obtain⟨b8,bz⟩:=aB (cj.ext am) (cd.ext am);clear R ao am az a3 al cj ce aM a6 a7 a5 bR;go_wp2_with fail;refine(Dw _ last _ (w.heap.size+1) E.heap.size 0 vX aa (iV af _) b3 bu (.inl (Ne.symm aR))).mono ?_;rintro e cE ⟨rfl,ba,ai⟩;rw[<-cb.out]at ba;obtain⟨bX,bA⟩:=aB (b8.grown ai (by intro h;injection h with h;omega)) (bz.grown ai (by intro k hk;cases hk;omega));generalize r.map Y++[Value.int IntKind.i64 _,Value.int IntKind.i64 _]=an at*;have br:0+64<=(j.map Y++an).length:=by rw[length_append,ag.out];omega
  have a0:((j.map Y++an).drop 0).take 64=j.map Y:=by rw[drop_zero,<-ag.out,take_left]
  generalize aL:j.map Y++an=vs at*;obtain⟨cz,bS⟩:=aB aL a0;have bw:=b_ j;clear aL ai a0;generalize a9:j.map Y=cA at*;have bq:=O a9;clear a9;go_wp2_with (first|(refine JF F _ _ F F ba jT br bS ?_)|refine bg F _ _ _ F F F bX jT F ag bw ?_);intro cJ bv bx;go_wp2;refine gG F F bv jT ag F ⟨by rw[bq.out],bx.ext bA bG⟩
theorem bY:iH prog 31 32:=⟨⟨_,underlying31,F⟩,au⟩
def dY(d:Int)(t:aj):aj:=(lg (lS d) t t.length).take 32
theorem j_(d:Int)(t:aj):(dY d t).length=32:=by rw[dY,length_take,Bd];rfl
theorem WO(s0 t:aj)(N:Nat)(g:Nat)(T:TypeId)(w:World)(hs:s0.length=64)(ag:N<=4611686018427387904)(I:lQ w g T s0 t N):
 Calls prog 152 #[.pointer (some ⟨g,0,none⟩)] w fun e w'=>e= .returned (.agg (((lg s0 t N).take 32).map Y).toArray)/\X w w':=by
 have az:=O I;have ac:Hid (((lg s0 t N).map Y).length=64):=O (by rw[length_map,Bd]);have ai:Hid ((((lg s0 t N).map Y).drop 0).take 32=((lg s0 t N).take 32).map Y):=O (by rw[drop_zero,map_take]);have ae:Hid ((((lg s0 t N).take 32).map Y).length=32):=O (by rw[length_map,length_take,Bd];rfl);have aq:=b_ (lg s0 t N);have af:=b_ ((lg s0 t N).take 32);have an:=fun w' (h:lQ w' g T s0 t N)=>WM s0 t N g T w' hs ag h;generalize aw:((lg s0 t N).take 32).map Y=aE at*;generalize (lg s0 t N).map Y=aD at*;clear I aw;have ha:=AO (P:=prog) underlying31 (len:=32) (Nat.le_refl 32);go_enter func152,ntmps152;go_wp2_with fail;generalize j:World.alloc w _=R;have ab:ah R w.heap.size (List.replicate 32 (.int .u8 0)) 31:=by rw[<-j];exact ah.aI F F
 have E:X w R:=by rw[<-j];exact(X.refl w).alloc _
 clear j;refine(an _ (az.ext E)).mono ?_;rintro e aa ⟨rfl,u⟩;obtain⟨am,ax⟩:=aB (ab.ext u) (E.ext u);clear ab E u;go_wp2_with (refine bg F _ _ _ F F F (ah.aI F F) jT F ac aq ?_);intro w2 al ad;have e2:X aa w2:=ad.ext ((X.refl aa).alloc _) bG;obtain⟨av,ap⟩:=aB (am.ext e2) (ax.ext e2);clear e2 ad;go_wp2_with (first|(refine JF F _ _ F F al bY (by rw[ac.out];omega) ai ?_)|refine bg F _ _ _ F F F av bY F ae af ?_);intro aL ar ao;go_wp2;refine gG F F ar bY ae F ⟨F,ao.ext ap bG⟩
def JG(d:Int)(t:aj)(w:World)(e:Ending)(w':World):Prop:=
 (if d<0∨255<d then e= .returned (.tuple #[.pointer none,.int .i64 3])
 else if t.length<=1048576 then e= .returned (.tuple #[.pointer (some ⟨w.heap.size,0,none⟩),.int .i64 0])/\lQ w' w.heap.size vX (lS d) t t.length
 else e= .returned (.tuple #[.pointer none,.int .i64 5]))/\X w w'
theorem WQ(u:List AP)(d:Int)(g len a0:Nat)(w:World)(aM:u.length=len)(bp:len<=1000)
 (av:∀i j,u[i]? =some j->w.cell? ⟨g,i,none⟩=some (nS j))(a6:g<w.heap.size)
 (hc:∀j∈u,aK w j.1 (j.2.2.map Y))(hn:∀j∈u,j.1=none->j.2.1=0)(R:∀j∈u,j.2.2.length<=j.2.1)(aa:∀j∈u,j.2.1<=9223372036854775807):
 Calls prog 151 #[.int .i64 d,.slice (some ⟨g,0,none⟩) len a0] w (JG d (fZ u) w):=by
 obtain⟨ax,bk,a2,bi,a8,ba⟩:=iq aM av hc hn R aa;clear aM av hc hn R aa;unfold JG;by_cases E:d<0∨255<d
 ·simp only[if_pos E];have al:=O E;clear E;go_enter func151,ntmps151;go_wp2_with fail;refine(OY d w).mono ?_;intro e bj h;unfold F7 at h;rw[if_pos al.out]at h;obtain⟨rfl,rfl⟩:=h;go_wp2
  go_ret2
  exact⟨F,X.refl _⟩
 ·simp only[if_neg E];have al:=O E;clear E;go_enter func151,ntmps151;go_wp2_with fail;refine(OY d w).mono ?_;intro e bj h;unfold F7 at h;rw[if_neg al.out]at h;obtain⟨rfl,aL,aD⟩:=h;obtain⟨a9,a1⟩:=aB aL aD;clear aL aD;go_wp2;go_loopw [21] (fun x wr=>∃k:Nat,k<=len/\x= .int .i64 k/\Hid ((fZ (u.take k)).length<=1048576)/\Hid (lQ wr w.heap.size vX (lS d) (fZ (u.take k)) (fZ (u.take k)).length)/\Hid (X w wr))
   (fun x _=>len - (intOf x).toNat)
  case atStart=>exact⟨0,J,F,O (by simp[fZ]),O a9.out,a1⟩
  case round=>
   obtain⟨k,hk,rfl,ai,ae,ab⟩:=hrel;by_cases bl:k<len
   ·have bo:decide ((k:Int)<(len:Int))=true:=aQ J;obtain⟨j,af⟩:∃j,u[k]? =some j:=⟨_,List.getElem?_eq_getElem (by rw[ax.out];exact bl)⟩;have ad:j∈u:=mem_of_getElem? af;have a4:=(ab.cell (p:=⟨g,k,none⟩) a6).trans (bk k j af);obtain⟨a,c,l⟩:=j;have ao:=JA af;simp only[nS]at a4;have R:=a8.out _ ad;have aa:=ba.out _ ad;simp only at R aa ao;obtain⟨an,ar,a7⟩:=aW ao (a2 _ ad) (bi _ ad);have br:(0:Int)<=(k:Int):=J;have bq:(k:Int)<(len:Int):=J;clear ao af ad;generalize I:l.length=am at*;generalize bt:fZ (u.take k)=ac at*;have a5:=O (JB u (k+1));go_wp2_with fail;refine(WI (lS d) ac l (ac.length:Nat) w.heap.size am c a vX wr (JE d) I J (by have:=ai.out;omega) ae J R aa (fun e=>by have:=a7.out e;omega) (ar.ext ab) (WH ar (by rw[length_map];exact I) bG)).mono ?_;intro e w2 h;unfold JD at h;rw[I]at h;by_cases ag:(am:Int)<=1048576 - (ac.length:Nat)
    ·rw[if_pos ag]at h;obtain⟨rfl,az,aw⟩:=h;obtain⟨bd,bc⟩:=aB az (ab.grown aw (by intro bm be;cases be;exact Nat.le_refl _));have aq:(ac++l).length=ac.length+am:=by rw[length_append,I]
     have aR:=O aq;clear az aw aq;go_wp2;go_roundw
     case rel=>
      refine⟨k+1,J,by go_num,O ?_,O ?_,bc⟩
      ·rw[an.out,aR.out];omega
      ·rw[an.out,aR.out,Int.natCast_add];exact bd
     case measure=>simp[intOf];omega
    ·rw[if_neg ag]at h;obtain⟨rfl,rfl⟩:=h;have aE:¬(fZ u).length<=1048576:=by
      have:=a5.out;rw[an.out,length_append,I]at this;omega
     have a_:=O aE;clear aE ag;go_wp2
     go_ret2
     refine⟨?_,ab⟩;first|rfl|(rw[if_neg a_.out];rfl)
   ·have bh:k=len:=J;subst bh;have ap:fZ (u.take k)=fZ u:=by rw[take_of_length_le (by rw[ax.out];exact Nat.le_refl _)]
    rw[ap]at ai ae;have a3:Hid ((fZ u).length<=1048576):=ai;clear ap;go_wp2
    go_ret2
    refine⟨?_,ab⟩;first|exact⟨F,ae⟩|(rw[if_pos a3.out];exact⟨F,ae⟩)
theorem WR(N i:Nat)(R:N<18446744073709551616)(I:i<8):((((dG (UInt64.ofNat N))[i]?.getD 0).toNat:Nat):Int)=(N:Int) / 2^(56 - 8*i)%256:=by
 have u:(UInt64.ofNat N).toNat=N:=by rw[UInt64.toNat_ofNat'];omega
 unfold dG;rw[u];have j:(UInt32.ofNat (N / 4294967296)).toNat=N / 4294967296%4294967296:=UInt32.toNat_ofNat' ..;have E:(UInt32.ofNat N).toNat=N%4294967296:=UInt32.toNat_ofNat' ..;rcases(by omega:i=0∨i=1∨i=2∨i=3∨i=4∨i=5∨i=6∨i=7)with rfl|rfl|rfl|rfl|rfl|rfl|rfl|rfl
 all_goals
  simp only[gq,j,E,cons_append,nil_append,List.getElem?_cons_zero,List.getElem?_cons_succ,Option.getD_some,Oa];simp;try omega
theorem DN(N:Nat)(w:World)(ai:N<=4611686018427387904):
 Calls prog 107 #[.int .i64 (N:Int)] w fun e w'=>e= .returned (.slice (some ⟨w.heap.size,0,none⟩) 8 8)/\ah w' w.heap.size ((dG (UInt64.ofNat N)).map Y) 5/\X w w':=by
 have aq:=fun w=>F6 w 8 J;obtain⟨f,hf⟩:=aC ((fun i=>(dG (UInt64.ofNat N))[i]?.getD 0):Nat->UInt8);have ab:dG (UInt64.ofNat N)=jP (fun i=>(dG (UInt64.ofNat N))[i]?.getD 0) 0 8 8:=by
  rw[FB _ _ _ _ bG];rfl
 have ac:=O ab;have ae:∀i,i<8->(N:Int) / 2^(56 - 8*i)%256=((f i).toNat:Int):=fun i I=>by rw[<-hf,WR N i J I]
 rw[hf]at ac;clear ab hf;generalize dG (UInt64.ofNat N)=an at*;go_enter func107,ntmps107;go_wp2_with (refine OW F _ _ F (n:=8) F F J ?_);generalize u:World.alloc w _=E;have af:ah E w.heap.size ((jP f 0 8 0).map Y) 5:=by rw[<-u];exact ah.aI F (by rw[Fz];simp)
 have ad:X w E:=by rw[<-u];exact(X.refl w).alloc _
 clear u;go_loopw [8] (fun x wr=>∃i:Nat,i<=8/\x= .int .i64 i/\ah wr w.heap.size ((jP f 0 8 i).map Y) 5/\X w wr)
  (fun x _=>8 - (intOf x).toNat)
 case atStart=>exact⟨0,J,F,af,ad⟩
 case round=>
  obtain⟨i,I,rfl,j,aa⟩:=hrel;by_cases R:i<8
  ·have am:decide ((i:Int)<8)=true:=aQ J;have ar:=ae i R;have ap:=j.cell' (i:=i) (zD (by rw[sD];exact R));have al:=j.frozen i;have ao:(0:Int)<=(i:Int):=J;have ag:(i:Int)<8:=J;have k1:IntKind.i64.wrap (8*(i:Int))=8*(i:Int):=IntWalk.i64_in _ J;have k2:IntKind.i64.wrap (56 - 8*(i:Int))=((56 - 8*i:Nat):Int):=by rw[IntWalk.i64_in _ J];omega
   go_wp2;go_roundw
   case rel=>exact⟨i+1,J,by go_num,j.NT,aa.set _ bG⟩
   case measure=>simp[intOf];omega
  ·obtain rfl:i=8:=J;go_wp2;go_ret;exact⟨F,by rw[ac.out];exact j,aa⟩
end Go.Proofs.YtjlhhnkhcbpnjaaGreatDoor
