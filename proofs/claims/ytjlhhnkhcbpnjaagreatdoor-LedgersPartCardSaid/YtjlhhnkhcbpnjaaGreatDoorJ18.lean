/- Laws that the row leans on; no condition. -/
import Derived.Test.YtjlhhnkhcbpnjaaGreatDoorJ17
import Derived.Shelf.Strings.OnBuilder
import Derived.Shelf.Strings.Builder1
namespace Go.Proofs.YtjlhhnkhcbpnjaaGreatDoor
open Go Go.RowKit Go.Shelf List Tryz
set_option linter.unusedVariables false
set_option linter.unusedSectionVars false
set_option linter.unusedSimpArgs false
set_option maxHeartbeats 40000000
set_option maxRecDepth 100000
section
open Go Go.RowKit Go.Shelf Go.Sort
theorem KU(b:ByteArray):aY b.data.toList=b:=by
 cases b with
 |mk d=>simp[aY]
theorem Rt(bs:aT):(bs.map fun b=>b.data.toList).map aY=bs:=by
 rw[map_map]
 conv=>rhs;rw[<-map_id bs]
 exact map_congr_left fun b _=>KU b
theorem ZJ(l:aj)(c:UInt8):Lib.splitB (aY [c]) 0 (Lib.countB (aY l) (aY [c])) (aY l)=(kH c l).map aY:=by
 have h:=Lib.splitB_data (aY [c]) 0 (Lib.countB (aY l) (aY [c])) (aY l);have hc:Lib.countB (aY l) (aY [c])=Lib.count l [c]:=by
  show Lib.count (aY l).data.toList (aY [c]).data.toList=_;rw[pW,pW]
 rw[pW,pW,hc,KN]at h;rw[hc,<-h,Rt]
theorem ZK(l:aj)(c:UInt8)(w:World)(I:l.length<4294967281)(j:∃m,w.cell? ⟨0,0,none⟩=some (.int .i64 m)):
 Calls prog 130 #[.string (aY l),.string (aY [c])] w fun e w'=>e= .returned (.slice (some ⟨w.heap.size,0,none⟩) (kH c l).length (kH c l).length)/\ah w' w.heap.size (((kH c l).map aY).map bM) 9/\X w w':=by
 obtain⟨m,j⟩:=j;have h:=Any.strings_Split ZE au (aY l) (aY [c]) m w (by rw[o7];exact I) j (by rw[o7];simp);have u:=ZJ l c;have E:Lib.countB (aY l) (aY [c])+1=(kH c l).length:=by
  have:=Lib.splitB_all (aY [c]) (by rw[o7];simp) 0 _ (aY l) F;rw[u,length_map]at this;exact this.symm
 rw[u,E]at h;refine h.mono ?_;rintro e w' ⟨rfl,rfl⟩;exact⟨F,ah.yu w _ _,(X.refl w).alloc _⟩
end
section
open Go Go.RowKit
section
variable {P:Program} {ops:Array Oper} {rest:List Oper} {o:Oper} {a:Act} {w:World} {Q:Exit->Act->World->Prop}
theorem ZL{p:aN}{c k:Nat}{A:Addr}(h:p=some A):∃j,dL p c k=some j/\j.block=A.block:=by
 subst h;unfold dL;split
 ·exact⟨A,F,F⟩
 ·refine⟨A.add k,F,?_⟩;unfold Addr.add;split<;>rfl
theorem Hz(A:Addr):A.add 0=A:=by unfold Addr.add;split<;>simp_all
theorem HY{t e:TypeId}{x y:Operand}{p:aN}{n c k:Nat}(I:o.op= .slice t x (some y) none none)(aa:a.eval x= .slice p n c)(ab:a.eval y= .int .i64 (k:Int))(R:P.underlying t=some (.slice e))(hs:(P.info? e).map (·.size)=some 1)(hk:k<=n)(w:World):
 (execOp a.eval o).run P w= .ok (.value (.slice (dL p c k) (n - k) (c - k))) w:=by
 cases j:P.info? e with
 |none=>simp[j]at hs
 |some i=>
  have E:i.size=1:=by simpa[j]using hs
  have u:(0:Int)<=k/\(k:Int)<=n:=J;unfold execOp;simp[I,aa,ab,Instr.sliceAt,Instr.slice,Instr.sliceBounds,Instr.sliceBound,asIntOf,run_underlying R,sizeOf,typeInfo,j,E,u.1,hk,dL]
theorem Ru{t e:TypeId}{x y:Operand}{p:aN}{n c k:Nat}(E:o.op= .slice t x none (some y) none)(R:a.eval x= .slice p n c)(aa:a.eval y= .int .i64 (k:Int))(I:P.underlying t=some (.slice e))(hs:(P.info? e).map (·.size)=some 1)(hk:k<=c)(w:World):
 (execOp a.eval o).run P w= .ok (.value (.slice p k c)) w:=by
 cases j:P.info? e with
 |none=>simp[j]at hs
 |some i=>
  have u:i.size=1:=by simpa[j]using hs
  have ab:(0:Int)<=k/\(k:Int)<=c:=J;have ha:p.map (fun x=>x.add 0)=p:=by
   cases p with
   |none=>rfl
   |some A=>
    show some (A.add 0)=some A;rw[show A.add 0=A by unfold Addr.add;split<;>simp_all]
  unfold execOp;simp[E,R,aa,Instr.sliceAt,Instr.slice,Instr.sliceBounds,Instr.sliceBound,asIntOf,run_underlying I,sizeOf,typeInfo,j,u,hk,ha]
end
theorem Rw(w:World)(r:Option Nat):w.grownBy w r:=⟨F,F,F,Nat.le_refl _,fun _ _ _=>rfl⟩
theorem ZM{w u w2:World}{r:Option Nat}(h:w.grownBy u r)(e:X u w2):w.grownBy w2 r:=
 ⟨e.os.trans h.os,e.tape.trans h.tape,e.output.trans h.output,Nat.le_trans h.size e.size,fun i j E=>(e.block i (Nat.lt_of_lt_of_le j h.size)).trans (h.block i j E)⟩
theorem Rx{w E w2:World}{g:Nat}(h:w.grownBy E (some g))(u:aU E g w2):w.grownBy w2 (some g):=
 ⟨u.os.trans h.os,u.tape.trans h.tape,u.output.trans h.output,Nat.le_trans h.size (Nat.le_of_eq u.size.symm),fun i I j=>(u.block i (fun e=>j (by rw[e]))).trans (h.block i I j)⟩
def xP(B:Nat)(a:aN)(n:Nat):Prop:=n=0∨∃A,a=some A/\B<=A.block
structure gK(w:World)(B:Nat)(a:aN)(n c:Nat)(ws:aT):Prop where
 hl:ws.length=n
 hnc:n<=c
 hm:n<=1000000
 hs:∀s∈ws,s.size<=1000000
 hi:xP B a n
 cell:aK w a (ws.map bM)
theorem gK.nil(w:World)(B:Nat):gK w B none 0 0 []:=⟨F,Nat.le_refl _,J,(fun _ h=>by cases h),.inl F,.inl F⟩
theorem gK.ext{w w':World}{B:Nat}{a:aN}{n c:Nat}{ws:aT}(h:gK w B a n c ws)(e:X w w'):gK w' B a n c ws:=⟨h.hl,h.hnc,h.hm,h.hs,h.hi,h.cell.ext e⟩
theorem gK.drop{w:World}{B:Nat}{a:aN}{n c:Nat}{ws:aT}(h:gK w B a n c ws){k:Nat}(hk:k<=n):gK w B (dL a c k) (n - k) (c - k) (ws.drop k):=by
 have j:=h.hl;have ad:=h.hnc;have ac:=h.hm;refine⟨by rw[length_drop,j],J,J,fun s hs=>h.hs s (mem_of_mem_drop hs),?_,?_⟩
 ·rcases h.hi with ab|⟨A,E,I⟩
  ·exact .inl J
  ·obtain⟨u,R,aa⟩:=ZL (c:=c) (k:=k) E;exact .inr ⟨u,R,by rw[aa];exact I⟩
 ·have:=h.cell.shift c k (n - k) J;rw[<-map_drop,<-map_take,take_of_length_le (by rw[length_drop,j];exact Nat.le_refl _)]at this;exact this
theorem gK.take{w:World}{B:Nat}{a:aN}{n c:Nat}{ws:aT}(h:gK w B a n c ws){k c':Nat}(hk:k<=n)(hc:k<=c'):gK w B a k c' (ws.take k):=by
 have u:=h.hl;have I:=h.hm;refine⟨by rw[length_take,u];omega,hc,J,fun s hs=>h.hs s (mem_of_mem_take hs),?_,?_⟩
 ·rcases h.hi with E|j
  ·exact .inl J
  ·exact .inr j
 ·have:=h.cell.take k;rw[<-map_take]at this;exact this
theorem gK.at{w:World}{B:Nat}{a:aN}{n c:Nat}{ws:aT}(h:gK w B a n c ws){k:Nat}{x:ByteArray}(j:ws[k]? =some x):∃A,a=some A/\w.cell? (A.add k)=some (.string x):=by
 have hk:=(List.getElem?_eq_some_iff.1 j).1;obtain⟨b,o,rfl,hc⟩:=h.cell.gQ (by rw[length_map];omega);refine⟨_,F,?_⟩;rw[dn];exact hc k _ (by rw[List.getElem?_map,j];rfl)
theorem Am(x y:ByteArray):(x.toList==y.toList)=decide (x=y):=by
 by_cases h:x=y
 ·subst h;simp
 ·rw[aP h];exact Bool.eq_false_iff.2 fun e=>h (by
   have e2:=beq_iff_eq.1 e;rw[ByteArray.toList_eq,ByteArray.toList_eq]at e2;cases x;cases y;simpa using e2)
theorem ZN(x:ByteArray):(x.toList==[100,101,110,121])=decide (x=vF):=by
 rw[<-Am,show vF.toList=[100,101,110,121] by rw[ByteArray.toList_eq];rfl]
theorem ZO(x:ByteArray):(x.toList==[97,108,108,111,119])=decide (x=Ai):=by
 rw[<-Am,show Ai.toList=[97,108,108,111,119] by rw[ByteArray.toList_eq];rfl]
theorem rP:(prog.info? 9).map (·.size)=some 1:=au
end
theorem ZP(x:ByteArray)(j:aT)(a:aN)(n c:Nat)(w:World)(hn:j.length=n)(aw:n<=4611686018427387904)(an:aK w a (j.map bM)):
 Calls prog 174 #[.slice a n c,.string x] w fun e w'=>e= .returned (.int .i64 (rO x j))/\w=w':=by
 obtain⟨ab,ap⟩:=aB hn an;obtain⟨al,ae⟩:=aC (rO x j);rw[ae];have ai:=O ae;clear hn an ae;go_enter func174,ntmps174;go_wp2
 go_loop [5,8] (fun _ i=>∃k:Nat,k<=n/\i= .int .i64 (k:Int)/\Hid (x∉j.take k)) (fun _ i=>n - (intOf i).toNat)
 case atStart=>exact⟨0,J,F,O aF⟩
 case round=>
  obtain⟨k,hk,rfl,E⟩:=hrel;by_cases ar:k<n
  ·obtain⟨y,aa⟩:∃y,j[k]? =some y:=⟨j[k]'(by rw[ab.out];exact ar),aF⟩;obtain⟨A,rfl,ax⟩:∃A,a=some A/\w.cell? (A.add k)=some (.string y):=by
    obtain⟨g,o,rfl,h⟩:=ap.gQ (by rw[length_map,ab.out];omega);exact⟨_,F,by rw[dn];exact h k _ (DC aa)⟩
   have am:y≠x->x∉j.take (k+1):=by
    intro h u;rw[take_add_one,aa,mem_append]at u;rcases u with u|u
    ·exact E u
    ·simp at u;exact h u.symm
   obtain⟨ad,aq⟩:=aB am aa;have R:=(show((x.toList==y.toList)=true↔y=x)from(FQ x y).trans eq_comm);clear aa am;by_cases I:y=x
   ·have q:=R.2 I;have af:=aq.out;rw[I]at af;have ac:=O (show al=(k:Int) by rw[<-ai.out];unfold rO;rw[Rj af E.out]);clear R af ad E;go_wp2;go_ret;exact⟨by rw[ac.out];rfl,F⟩
   ·have q:_=false:=Bool.eq_false_iff.2 fun h=>I (R.1 h);have ao:=O (ad I);clear R I ad;go_wp2
    go_round
    case rel=>exact⟨k+1,J,by go_num,ao⟩
    case measure=>simp[intOf];omega
  ·obtain rfl:k=n:=J;have ag:=E.out;rw[take_of_length_le (by rw[ab.out];exact Nat.le_refl _)]at ag;have ac:=O (show al= -1 by rw[<-ai.out];unfold rO;rw[Ri.2 ag]);clear ag E;go_wp2;go_ret;exact⟨by rw[ac.out];rfl,F⟩
theorem Ry(w:World):
 Calls prog 191 #[] w fun e w'=>e= .returned (.slice (some ⟨w.heap.size,0,none⟩) 13 13)/\aK w' (some ⟨w.heap.size,0,none⟩) (((⟨#[]⟩:ByteArray)::pR).map bM)/\X w w':=by
 go_enter func191,ntmps191;go_wp2;go_ret;exact⟨F,aK.eG (ah.aI F F),(X.refl w).alloc _⟩
theorem Rz:pO prog 106 3 1 8:=⟨underlying106,⟨_,_,(info_parts (show(prog.info? 3).map (fun i=>(i.zero,i.size,i.bytes))=some (some (.int .i64 0),1,8) by kernel_rfl)).choose_spec.1,(info_parts (show(prog.info? 3).map (fun i=>(i.zero,i.size,i.bytes))=some (some (.int .i64 0),1,8) by kernel_rfl)).choose_spec.2.1,(info_parts (show(prog.info? 3).map (fun i=>(i.zero,i.size,i.bytes))=some (some (.int .i64 0),1,8) by kernel_rfl)).choose_spec.2.2.1,(info_parts (show(prog.info? 3).map (fun i=>(i.zero,i.size,i.bytes))=some (some (.int .i64 0),1,8) by kernel_rfl)).choose_spec.2.2.2,F⟩,aX⟩
theorem uF{w w':World}{e:TypeId}{z n B:Nat}{v:Value}{xs:aO}(h:w.ownsRow B e z v n xs)(k:X w w'):w'.ownsRow B e z v n xs:=um h (r:=none) ⟨k.os,k.tape,k.output,k.size,fun i j _=>k.block i j⟩ (fun _ _ h=>by cases h)
theorem rQ(w:World)(o:Obj):(w.alloc o).heap.size=w.heap.size+1:=Array.size_push ..
structure mJ(w:World):Prop where
 lw:Cb w
 sp:∀g,prog.globalNamed "strings.asciiSpace" =some g->Lib.TabIs prog w "strings.asciiSpace" .u8 Lib.asciiSpaceTab
theorem mJ.ext{w w':World}(h:mJ w)(e:X w w'):mJ w':=⟨h.lw.ext e,fun g j=>Ro (g:=g) (h.sp g j) j e⟩
theorem RD(l s:aj):(Lib.cut l s).1.length<=l.length/\(Lib.cut l s).2.1.length<=l.length:=by
 unfold Lib.cut;split
 ·refine⟨?_,?_⟩
  ·first|(rw[length_take];omega)|simp
  ·first|(rw[length_drop];omega)|simp
 ·exact⟨Nat.le_refl _,Nat.zero_le _⟩
section
open Go Go.RowKit
def aS.bare(r:aS):aS:={r with ra:=none,rc:=0,aa:=none,ac:=0,la:=none,lc:=0}
def xQ(d:Bool):aS:={deny:=d,ra:=none,rn:=0,rc:=0,roles:=[],aa:=none,an:=0,ac:=0,acts:=[],la:=none,ln:=0,lc:=0,labels:=[],fr:=0,tt:=0,nd:=0,ow:=⟨#[]⟩}
structure aS.Hi(B:Nat)(r:aS):Prop where
 r1:xP B r.ra r.rn
 r2:xP B r.aa r.an
 r3:xP B r.la r.ln
structure fH(w W:World)(B G:Nat)(r x:aS):Prop where
 q:r.bare=x
 ro:gK w B r.ra r.rn r.rc r.roles
 la:gK w B r.la r.ln r.lc r.labels
 al:r.acts.length=r.an
 Ad:r.an<=r.ac
 am:r.an<=1000000
 mF:aK W r.aa (r.acts.map lN)
 H6:r.an=0∨∃A,r.aa=some A/\G<A.block
 Hf:∀z∈r.acts,(Lit.int .i64 z).wf=true
 os:r.ow.size<=140737488355328
theorem fH.zero(w W:World)(B G:Nat)(d:Bool):fH w W B G (xQ d) (xQ d):=⟨F,gK.nil _ _,gK.nil _ _,F,Nat.le_refl _,by show 0<=_;omega,.inl F,.inl F,(fun _ h=>by cases h),by show(⟨#[]⟩:ByteArray).size<=_;decide⟩
variable {w W W':World} {B G:Nat} {r x:aS}
theorem fH.ext(h:fH w W B G r x)(e:X W W'):fH w W' B G r x:={h with mF:=h.mF.ext e}
theorem fH.upd{g:Nat}(h:fH w W B G r x)(u:aU W g W')(aa:g<=G):fH w W' B G r x:=by
 refine{h with mF:= ?_};rcases h.H6 with E|⟨A,I,hb⟩
 ·have:r.acts=[]:=length_eq_zero_iff.1 (by rw[h.al];exact E);rw[this];exact .inl F
 ·refine h.mF.grown (r:=some g) ⟨u.os,u.tape,u.output,by rw[u.size];exact Nat.le_refl _,fun i _ R=>u.block i (fun e=>R (by rw[e]))⟩ (fun y j=> ?_);rw[I]at j;injection j with j;rw[<-j];intro e;injection e with e;omega
theorem fH.yQ{g:Nat}(h:fH w W B G r x)(u:W.grownBy W' (some g))(R:g<=G):fH w W' B G r x:=by
 refine{h with mF:= ?_};rcases h.H6 with E|⟨A,I,hb⟩
 ·have:r.acts=[]:=length_eq_zero_iff.1 (by rw[h.al];exact E);rw[this];exact .inl F
 ·refine h.mF.grown (r:=some g) u (fun y j=> ?_);rw[I]at j;injection j with j;rw[<-j];intro e;injection e with e;omega
theorem fH.ok(h:fH w W B G r x)(e:X w W):r.Ok W:=
 ⟨h.ro.hl,h.ro.hnc,Nat.le_trans h.ro.hm J,h.ro.cell.ext e,(fun s hs=>Nat.le_trans (h.ro.hs s hs) J),h.al,h.Ad,Nat.le_trans h.am J,h.mF,h.Hf,h.la.hl,h.la.hnc,Nat.le_trans h.la.hm J,h.la.cell.ext e,(fun s hs=>Nat.le_trans (h.la.hs s hs) J),h.os⟩
theorem fH.hi(h:fH w W B G r x)(E:B<=G):r.Hi B:=
 ⟨h.ro.hi,h.H6.imp id (fun⟨A,j,u⟩=>⟨A,j,J⟩),h.la.hi⟩
theorem fH.roles{a:aN}{n c:Nat}{ws:aT}(h:fH w W B G r x)(k:gK w B a n c ws):
 fH w W B G {r with ra:=a,rn:=n,rc:=c,roles:=ws} {x with rn:=ws.length,roles:=ws}:=
 {h with ro:=k,q:=by rw[<-h.q,k.hl];rfl}
theorem fH.labels{a:aN}{n c:Nat}{ws:aT}(h:fH w W B G r x)(k:gK w B a n c ws):
 fH w W B G {r with la:=a,ln:=n,lc:=c,labels:=ws} {x with ln:=ws.length,labels:=ws}:=
 {h with la:=k,q:=by rw[<-h.q,k.hl];rfl}
theorem fH.need(h:fH w W B G r x)(n:Int)(o:ByteArray)(j:o.size<=140737488355328):fH w W B G {r with nd:=n,ow:=o} {x with nd:=n,ow:=o}:=
 {h with q:=by rw[<-h.q];rfl,os:=j}
theorem fH.acts{a:aN}{n c B0:Nat}{zs:List Int}(h:fH w W B G r x)(k:W.ownsRow B0 3 1 (.slice a n c) zs.length (zs.map lN))(ag:G<B0)(R:zs.length<=1000000)(ad:∀z∈zs,(Lit.int .i64 z).wf=true):
 fH w W B G {r with aa:=a,an:=n,ac:=c,acts:=zs} {x with an:=zs.length,acts:=zs}:=by
 obtain⟨ae,c',u,ab,_,hc⟩:=iJ k;injection u with j e2 E;subst j e2 E;refine{h with al:=F,Ad:=ab,am:=R,mF:=hc,H6:= ?_,Hf:=ad,q:=by rw[<-h.q];rfl};rcases k.2 with⟨hn,I⟩|⟨g,af,cu,u,hb,_⟩
 ·left
  first|exact I|(injection hn)
 ·right
  injection u with j e2 E;exact⟨_,j,by show G<g;omega⟩
theorem fH.to{x':aS}(h:fH w W B G r x)(e:x=x'):fH w W B G r x':=e▸h
theorem ZQ{α:Type}:∀(l:List α),l.length=2->∃x y,l=[x,y]
 |[x,y],_=>⟨x,y,F⟩
variable {G1 G2 G4 n c n' c':Nat} {ok ok':Bool} {ws ws':aT} {a a':aN} {wx wy:World} {x' r':aS}
end
theorem xR(w:World)(o:Obj):(w.alloc o).heap.size=w.heap.size+1:=Array.size_push ..
section
open Go Go.RowKit
section
variable {P:Program} {t e:TypeId} {z y:Nat} {ops:Array Oper} {rest:List Oper} {o:Oper} {a:Act} {w:World} {Q:Exit->Act->World->Prop}
theorem Cc(T:pO P t e z y)(ao:z<=100000)(aa:o.guard=none){x:Operand}{cs:aO}(ad:o.op= .buildSlice t 1 #[(0,x)])(ai:a.eval x= .agg cs.toArray)(ac:cs.length=z)
 (h:wpList P ops Q rest (a.put o.dst (.slice (some ⟨w.heap.size,0,none⟩) 1 1)) (w.alloc (.cells cs.toArray e))):wpList P ops Q (o::rest) a w:=by
 obtain⟨am,aq,ab,al,u,an,ap⟩:=T.info;have ae:=T.pos;refine wpList_plain aa fun K I=> ?_;have hf:∀j:Array Value,j.size=z->Instr.fill (fun i=>some (i*z,z)) j [(0,.agg cs.toArray)]=some cs.toArray:=by
  intro j hc;have h:=Great.fill_whole (s:=z) ae [.agg cs.toArray] j (by intro v ag;rw[mem_singleton.1 ag];simp[Value.cells,ac]) (by simp[hc]);simpa[Value.cells]using h
 have af:(execOp a.eval o).run P w= .ok (.value (.slice (some ⟨w.heap.size,0,none⟩) 1 1)) (w.alloc (.cells cs.toArray e)):=by
  have h:=run_buildSlice (P:=P) w t e 1 #[(0,.agg cs.toArray)] cs.toArray am _ T.hu ab al (by rw[u];omega) (by rw[u];omega) (by rw[u];exact hf _ aF);have R:(#[(0,x)].map fun(p:Nat×Operand)=>(p.1,a.eval p.2))= #[(0,.agg cs.toArray)]:=by simp[ai]
  unfold execOp;simp only[ad,Sem.run_bind];have E:(Instr.buildSlice t 1 (#[(0,x)].map fun(p:Nat×Operand)=>(p.1,a.eval p.2))).run P w= .ok (.slice (some ⟨w.heap.size,0,none⟩) 1 1) (w.alloc (.cells cs.toArray e)):=by rw[R];exact h
  rw[E];rfl
 unfold Oper.wp;rw[af,Oper.upon_value];exact I _ _ h
end
theorem H7:(prog.info? 192).map (fun i=>(i.zero,i.size,i.bytes))=some (some (.agg BX.toArray),8,120):=au
theorem ZR:pO prog 150 192 8 120:=⟨underlying150,⟨_,_,(info_parts H7).choose_spec.1,(info_parts H7).choose_spec.2.1,(info_parts H7).choose_spec.2.2.1,(info_parts H7).choose_spec.2.2.2,F⟩,aX⟩
theorem ZT(b:UInt8)(j:List (aj))(h:j≠[]):(Ho b j).length=j.length:=by
 cases j with
 |nil=>exact absurd F h
 |cons x r=>rfl
theorem RF(c:UInt8):∀l:aj,(kH c l).length<=l.length+1
 |[]=>by simp[kH]
 |b::l=>by
  have ih:=RF c l;unfold kH;split
  ·simp;omega
  ·rw[ZT b _ (KO c l),length_cons];omega
theorem RG(c:UInt8):∀(l:aj),∀x∈kH c l,x.length<=l.length
 |[],x,h=>by simp[kH]at h;subst h;simp
 |b::l,x,h=>by
  have ih:=RG c l;unfold kH at h;split at h
  ·rcases mem_cons.1 h with rfl|h
   ·simp
   ·have:=ih x h;simp;omega
  ·cases hs:kH c l with
   |nil=>exact absurd hs (KO c l)
   |cons y r=>
    rw[hs]at h ih;rcases mem_cons.1 h with rfl|h
    ·have:=ih y aF;simp;omega
    ·have:=ih x (mem_cons_of_mem _ h);simp;omega
theorem H8(q:UInt8->Bool):∀(l cu:aj),∀x∈oI q cu l,x.length<=cu.length+l.length
 |[],cu,x,h=>by
  unfold oI at h;split at h
  ·cases h
  ·simp at h;subst h;simp
 |b::l,cu,x,h=>by
  unfold oI at h;split at h
  ·split at h
   ·have:=H8 q l [] x h;simp at this⊢;omega
   ·rcases mem_cons.1 h with rfl|h
    ·simp
    ·have:=H8 q l [] x h;simp at this⊢;omega
  ·have:=H8 q l (cu++[b]) x h;simp at this⊢;omega
theorem H9(q:UInt8->Bool):∀(l cu:aj),(oI q cu l).length<=l.length+1
 |[],cu=>by
  unfold oI;split<;>simp
 |b::l,cu=>by
  unfold oI;split
  ·split
   ·have:=H9 q l [];simp;omega
   ·have:=H9 q l [];simp;omega
  ·have:=H9 q l (cu++[b]);simp;omega
noncomputable def jH(s:aj):Int:=if 65536<s.length then 5 else match uD (lU s)with|some _=>11 |none=>jG (wK (lU s)) (wK (lU s)).length
def wM(s:aj):Int:=if 65536<s.length then 0 else match uD (lU s)with|some k=>(k:Int)|none=>0
noncomputable def mM(s:aj):List aS:=if jH s=0 then wK (lU s)else[]
theorem ZU(r:aS):jd r.bare=jd r:=F
theorem RH:∀rs:List aS,sO (rs.map aS.bare)=sO rs
 |[]=>rfl
 |r::rs=>by
  rw[map_cons];unfold sO;rw[ZU,RH rs]
theorem KW{rs j:List aS}(h:rs.map aS.bare=j)(n:Nat):jG j n=jG rs n:=by
 unfold jG;rw[<-h,RH]
theorem RI{s:aj}(h:65536<s.length):jH s=5/\wM s=0/\mM s=[]:=by
 have j:jH s=5:=by unfold jH;rw[if_pos h]
 refine⟨j,by unfold wM;rw[if_pos h],?_⟩;unfold mM;rw[j,if_neg aX]
theorem RJ{s:aj}{k:Nat}(h:¬65536<s.length)(hb:uD (lU s)=some k):jH s=11/\wM s=k/\mM s=[]:=by
 have j:jH s=11:=by unfold jH;rw[if_neg h,hb]
 refine⟨j,by unfold wM;rw[if_neg h,hb],?_⟩;unfold mM;rw[j,if_neg aX]
theorem RN{s:aj}(h:¬65536<s.length)(hb:uD (lU s)=none):jH s=jG (wK (lU s)) (wK (lU s)).length/\wM s=0:=by
 exact⟨by unfold jH;rw[if_neg h,hb],by unfold wM;rw[if_neg h,hb]⟩
def wO(q:Option Nat)(a:aN)(n:Nat):Prop:=n=0∨∃A,a=some A/\q≠some A.block
structure aS.Off(q:Option Nat)(r:aS):Prop where
 r1:wO q r.ra r.rn
 r2:wO q r.aa r.an
 r3:wO q r.la r.ln
theorem xP.off{B:Nat}{a:aN}{n:Nat}{q:Option Nat}(h:xP B a n)(u:∀g,q=some g->g<B):wO q a n:=
 h.imp id fun⟨A,j,E⟩=>⟨A,j,fun e=>by have:=u _ e;omega⟩
theorem aS.Hi.off{B:Nat}{r:aS}{q:Option Nat}(h:r.Hi B)(j:∀g,q=some g->g<B):r.Off q:=⟨h.r1.off j,h.r2.off j,h.r3.off j⟩
theorem aS.Hi.mono{B B':Nat}{r:aS}(h:r.Hi B)(hb:B'<=B):r.Hi B':=
 ⟨h.r1.imp id (fun⟨A,j,u⟩=>⟨A,j,J⟩),h.r2.imp id (fun⟨A,j,u⟩=>⟨A,j,J⟩),h.r3.imp id (fun⟨A,j,u⟩=>⟨A,j,J⟩)⟩
theorem wO.cells{w w':World}{q:Option Nat}{a:aN}{n:Nat}{xs:aO}(h:wO q a n)(R:xs.length=n)(hc:aK w a xs)(k:w.grownBy w' q):aK w' a xs:=by
 rcases h with I|⟨A,u,E⟩
 ·have:xs=[]:=length_eq_zero_iff.1 J;rw[this];exact .inl F
 ·refine hc.grown k (fun y j=> ?_);rw[u]at j;injection j with j;rw[<-j];exact fun e=>E e.symm
theorem aS.Ok.yQ{w w':World}{r:aS}{q:Option Nat}(h:r.Ok w)(j:r.Off q)(k:w.grownBy w' q):r.Ok w':=
 {h with nU:=j.r1.cells (by rw[length_map];exact h.rl) h.nU k,mF:=j.r2.cells (by rw[length_map];exact h.al) h.mF k,sN:=j.r3.cells (by rw[length_map];exact h.ll) h.sN k}
theorem U6{w:World}{a:aN}{xs:aO}(hc:aK w a xs)(h:xs≠[]):∃A,a=some A/\A.block<w.heap.size:=by
 rcases hc with j|⟨b,o,rfl,hc⟩
 ·exact absurd j h
 ·obtain⟨x,r,rfl⟩:∃x r,xs=x::r:=by
   cases xs with
   |nil=>exact absurd F h
   |cons x r=>exact⟨x,r,F⟩
  have:=hc 0 x F;exact⟨_,F,block_lt_of_cell this⟩
theorem KX{w:World}{a:aN}{n:Nat}{xs:aO}(hc:aK w a xs)(u:xs.length=n):wO (some w.heap.size) a n:=by
 by_cases h:xs=[]
 ·left;rw[<-u,h];rfl
 ·obtain⟨A,j,E⟩:=U6 hc h;exact .inr ⟨A,j,fun e=>by injection e with e;omega⟩
theorem aS.Ok.H_{w:World}{r:aS}(h:r.Ok w):r.Off (some w.heap.size):=
 ⟨KX h.nU (by rw[length_map];exact h.rl),KX h.mF (by rw[length_map];exact h.al),KX h.sN (by rw[length_map];exact h.ll)⟩
structure sV(w:World)(G2 G5 g0 B:Nat)(s:aj)(k:Nat)(a:aN)(c:Nat)(rs:List aS)(wx:World):Prop where
 e:X w wx
 b2:ah wx G2 [.slice none 0 0] 152
 b5:ah wx G5 [.slice a rs.length c] 152
 ln:ah wx g0 (((kH 10 s).map aY).map bM) 9
 own:wx.ownsRow B 192 8 (.slice a rs.length c) rs.length (uw rs)
 ru:rs.map aS.bare=wK ((lU s).take k)
 ok:∀r∈rs,r.Ok wx
 hi:∀r∈rs,r.Hi B
 off:∀r∈rs,r.Off (Value.slice a rs.length c).ownBlock
 good:∀x∈(lU s).take k,Ak x=true
 cnt:rs.length<=k
variable {w wx wy wz:World} {G2 G5 g0 B k c c':Nat} {s:aj} {a a':aN} {rs:List aS} {r:aS}
theorem sV.ext(h:sV w G2 G5 g0 B s k a c rs wx)(e:X wx wy):sV w G2 G5 g0 B s k a c rs wy:=
 {h with e:=h.e.ext e,b2:=h.b2.ext e,b5:=h.b5.ext e,ln:=h.ln.ext e,own:=uF h.own e,ok:=fun r j=>(h.ok r j).ext e}
theorem sV.skip(h:sV w G2 G5 g0 B s k a c rs wx){ws:aT}(hk:(lU s)[k]? =some ws)(u:ws=[]):sV w G2 G5 g0 B s (k+1) a c rs wx:=by
 subst u;refine{h with ru:= ?_,good:= ?_,cnt:=by have:=h.cnt;omega}
 ·rw[Rn hk,h.ru];simp
 ·intro x j;rw[take_add_one,hk,mem_append]at j;rcases j with j|j
  ·exact h.good x j
  ·simp at j;rw[j];rfl
theorem ZV(rs:List aS)(r:aS):uw (rs++[r])=uw rs++r.v:=by
 unfold uw;rw[flatMap_append];simp
theorem sV.push(h:sV w G2 G5 g0 B s k a c rs wx){ws:aT}(hk:(lU s)[k]? =some ws)(al:ws≠[])(ax:aR ws=true)(a3:w.heap.size<=G2)(ao:G2≠G5)(aq:w.heap.size<=G5)(am:g0≠G5)(a2:G5<B)(ap:G2<B)(an:g0<B)(a0:w.heap.size<=B)
 {g1:Nat}(hb:r.bare=Aj ws)(aE:r.Ok wx)(ab:r.Hi g1)(ar:B<=g1)(az:∀g,(Value.slice a rs.length c).ownBlock=some g->g<g1)
 (ad:wy.ownsRow B 192 8 (.slice a' (rs.length+1) c') (rs.length+1) (uw rs++r.v))(E:wx.grownBy wy (Value.slice a rs.length c).ownBlock)(hn:(Value.slice a' (rs.length+1) c').ownBlock=(Value.slice a rs.length c).ownBlock∨(Value.slice a' (rs.length+1) c').ownBlock=some wx.heap.size)
 (u:aU wy G5 wz)(ai:ah wz G5 [.slice a' (rs.length+1) c'] 152):
 sV w G2 G5 g0 B s (k+1) a' c' (rs++[r]) wz:=by
 have I:(rs++[r]).length=rs.length+1:=aF;have aa:∀g,(Value.slice a rs.length c).ownBlock=some g->B<=g:=fun g e=>(h.own.lt g e).1;have ac:∀g,g<B->some g≠(Value.slice a rs.length c).ownBlock:=fun g E e=>by have:=aa g e.symm;omega
 have R:∀x∈rs++[r],x.Ok wz/\x.Hi B/\x.Off (Value.slice a' (rs.length+1) c').ownBlock:=by
  intro x j;have a1:x.Ok wx/\x.Hi B/\x.Off (Value.slice a rs.length c).ownBlock:=by
   rcases mem_append.1 j with j|j
   ·exact⟨h.ok x j,h.hi x j,h.off x j⟩
   ·rw[mem_singleton]at j;subst j;exact⟨aE,ab.mono ar,ab.off az⟩
  obtain⟨ae,af,ag⟩:=a1;refine⟨(ae.yQ ag E).yQ (af.off (q:=some G5) (fun g e=>by injection e with e;omega)) (qC u),af,?_⟩;rcases hn with hn|hn
  ·rw[hn];exact ag
  ·rw[hn];exact ae.H_
 refine⟨?_,?_,by rw[I];exact ai,?_,?_,?_,fun x j=>(R x j).1,fun x j=>(R x j).2.1,fun x j=>by rw[I];exact(R x j).2.2,?_,by have:=h.cnt;omega⟩
 ·exact u.ext (h.e.grown E (fun g e=>Nat.le_trans a0 (aa g e))) aq
 ·exact(h.b2.grown E (ac _ ap)).upd u ao
 ·exact(h.ln.grown E (ac _ an)).upd u am
 ·rw[I,ZV];refine um ad (qC u) (fun g aw e=> ?_);injection e with e;have:=(ad.lt g aw).1;omega
 ·rw[Rn hk,map_append,h.ru];have:ws.isEmpty=false:=by
   cases ws with
   |nil=>exact absurd F al
   |cons y z=>rfl
  rw[this];simp[hb]
 ·intro x j;rw[take_add_one,hk,mem_append]at j;rcases j with j|j
  ·exact h.good x j
  ·simp at j;rw[j];unfold Ak;rw[ax,Bool.or_true]
theorem sV.pol(h:sV w G2 G5 g0 B s k a c rs wx)(hk:k<=1000000):lG wx a rs.length c rs:=by
 obtain⟨R,aa,I,E,_,hc⟩:=iJ h.own;injection I with j e2 u;subst j u;exact⟨F,E,by have:=h.cnt;omega,hc,h.ok⟩
theorem ZW{s:aj}{k:Nat}{l:aj}(h:(kH 10 s)[k]? =some l):(lU s)[k]? =some (bB l):=by
 unfold lU;rw[List.getElem?_map,h];rfl
theorem ZX(s:aj):(lU s).length=(kH 10 s).length:=by unfold lU;rw[length_map]
end
def RP:Go.Shelf.Ren:=⟨fun|156=>144 |165=>198 |166=>199 |169=>200 |240=>257 |241=>258 |276=>317 |277=>318 |n=>n,fun|0=>0 |3=>3 |4=>4 |5=>5 |9=>9 |20=>20 |31=>98 |37=>32 |70=>285 |72=>287 |75=>290 |76=>291 |80=>293 |127=>343 |164=>385 |n=>n,fun|n=>n⟩
theorem aev:Go.Proofs.Lays.n156 prog RP:=by repeat' first|kernel_rfl|(intro _;kernel_rfl)|constructor
theorem ZY:Go.Proofs.Builder.Extra prog RP:=by repeat' first|kernel_rfl|(intro _;kernel_rfl)|decide|constructor
def KY(B b:Nat)(l:aj)(w:World):Prop:=Lib.IsBuilder 287 5 B b (Lib.byteCells l) w
theorem KY.ext{B b:Nat}{l:aj}{w w':World}(h:KY B b l w)(e:X w w'):KY B b l w':=by
 have at_:∀p,Lib.BuilderAt 287 5 B b p (Lib.byteCells l) w->Lib.BuilderAt 287 5 B b p (Lib.byteCells l) w':=by
  intro p h;have R:=h.lt;obtain⟨j,v,u,E,I⟩:=h;exact⟨j,v,(e.block b R).trans u,uF E e,I⟩
 rcases h with h|h
 ·exact .inl (at_ _ h)
 ·exact .inr (at_ _ h)
theorem KZ(a:aN)(n c:Nat)(xs:aT)(w:World)(ab:xs.length=n)(ad:n<=c)(E:xs≠[])(hn:n<=140737488355328)(aa:aK w a (xs.map bM))
 (ac:(Lib.join (xs.map (·.data.toList)) [32]).length<=140737488355328):
 Calls prog 144 #[.slice a n c,.string (aY [32])] w fun e w'=>e= .returned (.string (aY (Lib.join (xs.map (·.data.toList)) [32])))/\X w w':=by
 subst ab;obtain⟨u,o,rfl,hc⟩:=aa.gQ (by
  rw[length_map];cases xs with
  |nil=>exact absurd F E
  |cons x r=>simp)
 have I:∀(j:Nat) x,xs[j]? =some x->w.cell? ⟨u,o+j,none⟩=some (.string x):=fun j x h=>hc j _ (by rw[List.getElem?_map,h];rfl);have R:u<w.heap.size:=by
  cases xs with
  |nil=>exact absurd F E
  |cons x r=>exact block_lt_of_cell (I 0 x F)
 have h:=Any.strings_Join aev ZY u o c xs (aY [32]) w I R hn ad (by rw[pW];exact ac);rw[pW]at h;exact h
def qH(z:Int):ByteArray:=pR.getD (z - 1).toNat ⟨#[]⟩
def Ce(f t:Int):ByteArray:=aY (Lib.itoa f++45::Lib.itoa t)
def Ia(r:aS):aT:=if r.roles=[]then[]else sQ::r.roles
def Ci(r:aS):aT:=if r.acts=[]then[]else qE::r.acts.map qH
def Ib(r:aS):aT:=if r.labels=[]then[]else sS::r.labels
def uG(r:aS):aT:=if r.fr=r.tt then[]else[qF,Ce r.fr r.tt]
def uH(r:aS):aT:=if 0<r.nd then[qG,aY (Lib.itoa r.nd),r.ow]else[]
def AL(d:Bool):ByteArray:=if d then vF else Ai
def wP(r:aS):aT:=[AL r.deny]++Ia r++Ci r++Ib r++uG r++uH r
def Ap(r:aS):aj:=Lib.join ((wP r).map (·.data.toList)) [32]
def iR(rs:List aS):aj:=rs.flatMap fun r=>Ap r++[10]
theorem Ic(rs:List aS):iR (rs.map aS.bare)=iR rs:=by
 unfold iR;rw[flatMap_map];rfl
theorem Z4(x y:aj):aY x++aY y=aY (x++y):=by
 apply ByteArray.ext;simp[aY,ByteArray.data_append]
theorem K_{o:Oper}{a:Act}{x y:Operand}{u v:aj}(E:o.op= .binOp .add 9 x y 9)(I:a.eval x= .string (aY u))(R:a.eval y= .string (aY v))(h:u.length+v.length<=9223372036854775807)(w:World):
 (execOp a.eval o).run prog w= .ok (.value (.string (aY (u++v)))) w:=by
 have j:¬9223372036854775807<(aY u).size+(aY v).size:=by
  show¬9223372036854775807<u.toArray.size+v.toArray.size;simp;omega
 unfold execOp;simp only[E,I,R,Sem.run_bind]
 go_simp
 simp[j,Z4]
theorem jf{o:Oper}{a:Act}{x y:Operand}{u v r:aj}(E:u++v=r)(j:o.op= .binOp .add 9 x y 9)(I:a.eval x= .string (aY u))(R:a.eval y= .string (aY v))(h:u.length+v.length<=9223372036854775807)(w:World):
 (execOp a.eval o).run prog w= .ok (.value (.string (aY r))) w:=by
 subst E;exact K_ j I R h w
section
open Go Go.RowKit
theorem Z5{w:World}{B q:Nat}{e:TypeId}{z n j:Nat}{xs rest:aO}(hb:ah w q (xs++rest) e)(I:(xs++rest).length=j*z)(u:xs.length=n*z)(E:B<=q)(hn:n<=j)(hc:j<=maxLen):
 w.ownsRow B e z (.slice (some ⟨q,0,none⟩) n j) n xs:=
 ⟨u,.inr ⟨q,j,(xs++rest).toArray,F,E,hb,hn,hc,by simpa using I,by simp[<-u]⟩⟩
theorem Ie:(prog.info? 9).map (fun i=>(i.zero,i.size,i.bytes))=some (some (.string ⟨#[]⟩),1,16):=au
theorem RQ:pO prog 98 9 1 16:=⟨underlying98,⟨_,_,(info_parts Ie).choose_spec.1,(info_parts Ie).choose_spec.2.1,(info_parts Ie).choose_spec.2.2.1,(info_parts Ie).choose_spec.2.2.2,F⟩,aX⟩
structure Ig(r:aS):Prop where
 n1:r.rn<=16
 n2:r.an<=16
 n3:r.ln<=16
 s1:∀s∈r.roles,s.size<=33
 s3:∀s∈r.labels,s.size<=33
 a1:∀z∈r.acts,1<=z/\z<=12
 f1:0<=r.fr/\r.fr<=24
 t1:0<=r.tt/\r.tt<=24
 d1:0<=r.nd/\r.nd<=16
 o1:r.ow.size<=33
theorem RS{s:ByteArray}(h:rJ s=false):s.size<=33:=by
 unfold rJ jK at h;have j:s.data.toList.length<=32:=by
  simp only[Bool.not_eq_false',Bool.and_eq_true,decide_eq_true_eq]at h;exact h.2
 rw[Array.length_toList]at j;exact Nat.le_trans j J
theorem Z7{s:ByteArray}(h:yO s=false):s.size<=33:=by
 unfold yO BU at h;simp only[Bool.not_eq_false',Bool.or_eq_true,Bool.and_eq_true]at h;have j:(wF s.data.toList).length<=32:=by
  rcases h with h|h
  ·unfold jK at h;simp only[Bool.and_eq_true,decide_eq_true_eq]at h;exact h.2
  ·rw[isEmpty_iff.1 h.2];simp
 have hs:s.data.toList.length<=(wF s.data.toList).length+1:=by
  unfold wF Lib.trimSuffix;split
  ·simp;omega
  ·omega
 rw[Array.length_toList]at hs;exact Nat.le_trans hs J
theorem RU{r:aS}{W:World}(am:r.Ok W)(h:jd r=0):Ig r:=by
 unfold jd at h;split at h
 ·cases h
 rename_i u;split at h
 ·cases h
 rename_i E;split at h
 ·cases h
 rename_i I;split at h
 ·cases h
 rename_i R;split at h
 ·cases h
 split at h
 ·cases h
 rename_i j;unfold k1 at u;unfold k2 at E;unfold k3 at I;unfold k4 at R;unfold k6 at j;simp only[Bool.or_eq_true,decide_eq_true_eq,not_or]at u;simp only[Bool.or_eq_true,Bool.and_eq_true,decide_eq_true_eq,not_or]at j;have aa:r.roles.any rJ=false/\(uq r.ow=true∨rJ r.ow=false):=by
  revert E;cases r.roles.any rJ<;>cases uq r.ow<;>cases rJ r.ow<;>simp
 have ac:r.acts.any Af=false:=by revert I;cases r.acts.any Af<;>simp
 have ad:r.labels.any yO=false:=by revert R;cases r.labels.any yO<;>simp
 rw[any_eq_false]at ac ad;have ab:=aa.1;rw[any_eq_false]at ab;obtain⟨⟨⟨⟨ai,al⟩,an,ao⟩,_⟩,af,ag⟩:=j;refine⟨J,J,J,fun s hs=>RS (by simpa using ab s hs),fun s hs=>Z7 (by simpa using ad s hs),fun z ae=> ?_,⟨J,J⟩,⟨J,J⟩,⟨J,J⟩,?_⟩
 ·have:=ac z ae;unfold Af Ac at this;simp at this;exact this
 ·rcases aa.2 with h|h
  ·unfold uq at h;rw[ByteArray.toList_eq,isEmpty_iff]at h;have:r.ow.data.toList.length=0:=by rw[h];rfl
   rw[Array.length_toList]at this;show r.ow.data.size<=33;omega
  ·exact RS h
theorem ED{n:Int}(j:0<=n)(u:n<=24):(Lib.itoa n).length<=20:=Ah J J
theorem Z8(z:Int):(qH z).size<=60:=by
 unfold qH;rw[getD_eq_getElem?_getD];cases h:pR[(z - 1).toNat]? with
 |none=>show(⟨#[]⟩:ByteArray).size<=60;decide
 |some x=>
  have:=mem_of_getElem? h;exact(show∀x∈pR,x.size<=60 by decide) x this
theorem Z9{r:aS}(h:Ig r):∀x∈wP r,x.size<=60:=by
 intro x j;unfold wP at j;simp only[mem_append]at j;rcases j with((((j|j)|j)|j)|j)|j
 ·rw[mem_singleton]at j;subst j;unfold AL;split
  ·show vF.size<=60;decide
  ·show Ai.size<=60;decide
 ·unfold Ia at j;split at j
  ·cases j
  ·rcases mem_cons.1 j with rfl|j
   ·show sQ.size<=60;decide
   ·have:=h.s1 x j;omega
 ·unfold Ci at j;split at j
  ·cases j
  ·rcases mem_cons.1 j with rfl|j
   ·show qE.size<=60;decide
   ·obtain⟨z,_,rfl⟩:=mem_map.1 j;exact Z8 z
 ·unfold Ib at j;split at j
  ·cases j
  ·rcases mem_cons.1 j with rfl|j
   ·show sS.size<=60;decide
   ·have:=h.s3 x j;omega
 ·unfold uG at j;split at j
  ·cases j
  ·rcases mem_cons.1 j with rfl|j
   ·show qF.size<=60;decide
   ·rw[mem_singleton]at j;subst j;unfold Ce;rw[o7];have u:=ED h.f1.1 h.f1.2;have E:=ED h.t1.1 h.t1.2;simp;omega
 ·unfold uH at j;split at j
  ·rcases mem_cons.1 j with rfl|j
   ·show qG.size<=60;decide
   ·rcases mem_cons.1 j with rfl|j
    ·rw[o7];have u:=ED h.d1.1 (by have:=h.d1.2;omega);omega
    ·rw[mem_singleton]at j;subst j;have:=h.o1;omega
  ·cases j
theorem Z_{r:aS}{W:World}(j:r.Ok W)(h:Ig r):(wP r).length<=60:=by
 have u:(Ia r).length<=17:=by
  have:=j.rl;have:=h.n1;unfold Ia;split
  ·simp
  ·rw[length_cons];omega
 have E:(Ci r).length<=17:=by
  have:=j.al;have:=h.n2;unfold Ci;split
  ·simp
  ·rw[length_cons,length_map];omega
 have I:(Ib r).length<=17:=by
  have:=j.ll;have:=h.n3;unfold Ib;split
  ·simp
  ·rw[length_cons];omega
 have R:(uG r).length<=2:=by unfold uG;split<;>simp
 have aa:(uH r).length<=3:=by unfold uH;split<;>simp
 unfold wP;simp only[length_append,length_cons,length_nil];omega
theorem RV(M:Nat):∀xs:List (aj),(∀x∈xs,x.length<=M)->(Lib.join xs [32]).length<=xs.length*(M+1)
 |[],_=>by simp[Lib.join]
 |[x],h=>by
  have:=h x aF;simp[Lib.join];omega
 |x::y::r,h=>by
  have E:=h x aF;have j:=RV M (y::r) (fun z u=>h z (mem_cons_of_mem _ u));have e:Lib.join (x::y::r) [32]=x++[32]++Lib.join (y::r) [32]:=by simp[Lib.join]
  rw[e,length_append,length_append,length_cons (a:=x),Nat.add_mul];simp only[length_cons,length_nil];simp only[length_cons]at j;omega
theorem RX{r:aS}{W:World}(E:r.Ok W)(h:Ig r):(Ap r).length<=4000:=by
 have j:=RV 60 ((wP r).map (·.data.toList)) (fun x I=>by
  obtain⟨y,R,rfl⟩:=mem_map.1 I;rw[Array.length_toList];exact Z9 h y R)
 have u:=Z_ E h;rw[length_map]at j;show(Lib.join _ _).length<=4000;have:(wP r).length*(60+1)<=60*61:=Nat.mul_le_mul_right _ u;omega
structure La(w:World)(G1 B:Nat)(r:aS)(ws:aT)(a:aN)(c:Nat)(wx:World):Prop where
 e:X w wx
 b1:ah wx G1 r.v 192
 own:wx.ownsRow B 9 1 (.slice a ws.length c) ws.length (ws.map bM)
 sz:B<=wx.heap.size
variable {w wx wy:World} {G1 B:Nat} {r:aS} {ws news:aT} {a a':aN} {c c':Nat}
theorem La.ext(h:La w G1 B r ws a c wx)(e:X wx wy):La w G1 B r ws a c wy:=⟨h.e.ext e,h.b1.ext e,uF h.own e,Nat.le_trans h.sz e.size⟩
end
theorem RY{w:World}{a:aN}{u:List Int}{k:Nat}{x:Int}(h:aK w a (u.map lN))(j:u[k]? =some x):∃A,a=some A/\w.cell? (A.add (k*1))=some (.int .i64 x):=by
 obtain⟨g,o,rfl,E⟩:=h.gQ (by rw[length_map];have:=(List.getElem?_eq_some_iff.1 j).1;omega);refine⟨_,F,?_⟩;rw[dn,Nat.mul_one];exact E k _ (by rw[List.getElem?_map,j];rfl)
theorem RZ:(prog.info? 3).map (·.size)=some 1:=au
end Go.Proofs.YtjlhhnkhcbpnjaaGreatDoor
