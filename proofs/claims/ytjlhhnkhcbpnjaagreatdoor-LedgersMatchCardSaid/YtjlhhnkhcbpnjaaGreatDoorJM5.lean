/- Laws that the row leans on; no condition. -/
import Derived.Test.YtjlhhnkhcbpnjaaGreatDoorJM4
import Derived.Great.BuildSlice
namespace Go.Proofs.YtjlhhnkhcbpnjaaGreatDoor
open Go Go.RowKit List Tryz
set_option linter.unusedVariables false
set_option linter.unusedSimpArgs false
set_option maxHeartbeats 40000000
set_option maxRecDepth 100000
def dR(n a b:Int):Bool:=decide (n<a)||decide (b<n)
def dK(act:Int)(i:Nat):Bool:=(lT act).getD i false
def pJ(act:Int)(b:ay):Bool:=
 (dK act 6&&dR b.purpose 1 3)||dR b.reason 0 255||dR b.version 0 255||(dK act 8&&dR b.need 1 32)||dR b.epoch 0 4294967295||dR b.count 0 65536
def q_(l:List (aj))(k:Nat):Prop:=∀i x y,i+1<k->l[i]? =some x->l[i+1]? =some y->eH x y<0
noncomputable def tZ(l:List (aj)):Bool:= @decide (q_ l l.length) (Classical.propDecidable _)
theorem Gi{l:List (aj)}:tZ l=true↔q_ l l.length:=by grind [tZ]
theorem q_.one(l:List (aj)){k:Nat}(h:k<=1):q_ l k:=fun i _ _ j=>by omega
theorem q_.step{l:List (aj)}{k:Nat}{x y:aj}(h:q_ l (k+1))(I:l[k]? =some x)(R:l[k+1]? =some y)(aa:eH x y<0):q_ l (k+2):=by
 intro i u v ab j E;by_cases Fw:i=k
 ·subst Fw;rw[I]at j;rw[R]at E;injection j with j;injection E with E;rw[<-j,<-E];exact aa
 ·exact h i u v J j E
theorem Ph{l:List (aj)}{i:Nat}{x y:aj}(u:l[i]? =some x)(j:l[i+1]? =some y)(h:¬eH x y<0):tZ l=false:=by
 cases E:tZ l with
 |false=>rfl
 |true=>exact absurd (Gi.1 E i x y (List.getElem?_eq_some_iff.1 j).1 u j) h
noncomputable def jS(act:Int)(b:ay):Int:=
 if !iI act then 3 else if nX b (lT act)then 2
 else if decide (32768<b.text.size)||(decide (16<b.rn)||decide (32<b.hn))then 5
 else if vV b.roles != 0 then vV b.roles
 else if dK act 3&& !jK b.label.data.toList then 6
 else if pJ act b then 4
 else if !tZ b.mK then 9 else 0
section
open Go Go.RowKit
section
variable {P:Program} {o:Oper} {a:Act}
theorem oV{t e:TypeId}{x y z:Operand}{p:aN}{n c k h:Nat}(I:o.op= .slice t x (some y) (some z) none)(ab:a.eval x= .slice p n c)(ac:a.eval y= .int .i64 (k:Int))(ad:a.eval z= .int .i64 (h:Int))(aa:P.underlying t=some (.slice e))(hs:(P.info? e).map (·.size)=some 1)(hk:k<=h)(hc:h<=c)
 {q:aN}(j:dL p c k=q)(w:World):(execOp a.eval o).run P w= .ok (.value (.slice q (h - k) (c - k))) w:=by
 subst j;have R:(Instr.sliceAt t (.slice p n c) (some (.int .i64 (k:Int))) (some (.int .i64 (h:Int))) none).run P w= .ok (.slice (dL p c k) (h - k) (c - k)) w:=by
  cases j:P.info? e with
  |none=>simp[j]at hs
  |some i=>
   have E:i.size=1:=by simpa[j]using hs
   have u:(0:Int)<=k/\(k:Int)<=h/\(h:Int)<=c:=J;simp[Instr.sliceAt,Instr.slice,Instr.sliceBounds,Instr.sliceBound,asIntOf,run_underlying aa,sizeOf,typeInfo,j,E,u.2.1,u.2.2,hk,hc,dL]
 unfold execOp;simp only[I,ab,ac,ad,Option.map_some,Option.map_none,Sem.run_bind,R,Result.andThen_ok,Sem.run_pure]
theorem rC{T e:TypeId}{x:Operand}{p:aN}{n c m:Nat}(u:o.op= .sliceToArrayPointer T x)(I:a.eval x= .slice p m c)(E:P.underlying T=some (.array n e))(j:n<=m)(w:World):(execOp a.eval o).run P w= .ok (.value (.pointer p)) w:=by grind [execOp,Sem.run_bind,AO,Result.andThen_ok,Sem.run_pure]
end
def jM(l:aj):Nat:=l.foldl (fun m c=>m*256+c.toNat) 0
def kK(m:Nat):Int:=IntKind.i64.wrap (m:Int)
theorem Xk(l:aj)(c:UInt8):jM (l++[c])=jM l*256+c.toNat:=by unfold jM;rw[foldl_append];rfl
theorem Xl(m:Nat):IntKind.i64.wrap (kK m*256)=kK (m*256):=by grind [kK,IntKind.wrap_i64]
theorem Xm(m:Nat)(c:UInt8):bits .or .i64 (kK (m*256)) (c.toNat:Int)=kK (m*256+c.toNat):=by
 have hc:=c.toNat_lt;have j:(BitVec.ofInt 64 (kK (m*256))).toNat=m*256%18446744073709551616:=by
  unfold kK;rw[BitVec.toNat_ofInt,IntKind.wrap_i64];omega
 have u:(BitVec.ofInt 64 (c.toNat:Int)).toNat=c.toNat:=by rw[BitVec.toNat_ofInt];omega
 change IntKind.i64.wrap ((BitVec.ofInt 64 (kK (m*256)) ||| BitVec.ofInt 64 (c.toNat:Int)).toNat:Int)=_;have h:=nat_join 8 (m*256%18446744073709551616) c.toNat J J;rw[BitVec.toNat_or,j,u,h];unfold kK;simp only[IntKind.wrap_i64];omega
theorem DV(l:aj)(a:aN)(n c:Nat)(w:World)(E:l.length=n)(hn:n<=140737488355328)(u:aK w a (l.map Y)):
 Br 99 #[.slice a n c] w (.int .i64 (kK (jM l))):=by
 obtain⟨j,R⟩:=aB E u;clear E u;go_enter func99,ntmps99;go_wp2;go_loopw [3,8] (fun t i wr=>∃k:Nat,k<=n/\i= .int .i64 (k:Int)/\t= .int .i64 (kK (jM (l.take k)))/\w=wr) (fun _ i _=>n - (intOf i).toNat)
 case atStart=>exact⟨0,J,F,F,by first|trivial|rfl⟩
 case round=>
  obtain⟨k,hk,rfl,rfl,rfl⟩:=hrel;by_cases j3:k<n
  ·obtain⟨x,pQ⟩:∃x,l[k]? =some x:=⟨l[k]'(by rw[j.out];exact j3),aF⟩;obtain⟨A,rfl,nu⟩:∃A,a=some A/\w.cell? (A.add (k*1))=some (Y x):=by
    obtain⟨g,o,rfl,h⟩:=R.gQ (by rw[length_map,j.out];omega);exact⟨_,F,by rw[dn,Nat.mul_one];exact h k _ (by rw[List.getElem?_map,pQ];rfl)⟩
   have hs:l.take (k+1)=l.take k++[x]:=by
    rw[take_add_one,pQ];rfl
   have I:jM (l.take (k+1))=jM (l.take k)*256+x.toNat:=by rw[hs,Xk]
   have HV:=O I;clear hs I pQ;generalize jM (l.take k)=m at*;have ac:=Xl m;have ad:=Xm m x;have ae:IntKind.i64.wrap (x.toNat:Int)=(x.toNat:Int):=IntWalk.i64_in _ (by have:=x.toNat_lt;omega);have ab:w.cell? (A.add k)=some (.int .u8 (x.toNat:Int)):=by rw[Nat.mul_one]at nu;exact nu
   unfold Y at nu;go_wp2;go_roundw
   case rel=>exact⟨k+1,J,by first|rfl|go_num,by rw[HV.out],by first|trivial|rfl⟩
   case measure=>simp[intOf];omega
  ·have aa:k=n:=J;subst aa;have Cq:l.take k=l:=take_of_length_le (by rw[j.out];omega);rw[Cq]at*;go_wp2;go_ret;exact⟨F,F⟩
theorem t_{l:aj}{p m:Nat}(h:p<l.length):(l.drop p).take (m+1)=l[p]?.getD 0::(l.drop (p+1)).take m:=by
 rw[drop_eq_getElem_cons h,take_succ_cons,List.getElem?_eq_getElem h];rfl
theorem JM(l:aj)(p:Nat):(iW l p).toNat=(l[p]?.getD 0).toNat*16777216+(l[p+1]?.getD 0).toNat*65536+(l[p+2]?.getD 0).toNat*256+(l[p+3]?.getD 0).toNat:=by
 have ha:=(l[p]?.getD 0).toNat_lt;have hb:=(l[p+1]?.getD 0).toNat_lt;have hc:=(l[p+2]?.getD 0).toNat_lt;have j:=(l[p+3]?.getD 0).toNat_lt;unfold iW m_;rw[UInt32.toNat_ofNat'];omega
theorem Pj{l:aj}{p:Nat}(h:p+4<=l.length):jM ((l.drop p).take 4)=(iW l p).toNat:=by
 rw[t_ J,t_ J,t_ J,t_ J,take_zero,JM];simp only[jM,foldl_cons,foldl_nil,Nat.add_assoc,Nat.reduceAdd];omega
theorem JO{l:aj}{p:Nat}(h:p+8<=l.length):jM ((l.drop p).take 8)=fE l p:=by
 rw[t_ J,t_ J,t_ J,t_ J,t_ J,t_ J,t_ J,t_ J,take_zero];unfold fE;rw[JM,JM];simp only[jM,foldl_cons,foldl_nil,Nat.add_assoc,Nat.reduceAdd];omega
theorem JQ(l:aj)(p:Nat):fE l p<18446744073709551616:=by
 unfold fE;have:=(iW l p).toNat_lt;have:=(iW l (p+4)).toNat_lt;omega
theorem DW{m:Nat}(h:m<9223372036854775808):kK m=m:=by grind [kK,IntKind.wrap_i64]
section
variable {P:Program} {o:Oper} {a:Act}
theorem DX{t e:TypeId}{x z:Operand}{p:aN}{n c h:Nat}(I:o.op= .slice t x none (some z) none)(ab:a.eval x= .slice p n c)(ac:a.eval z= .int .i64 (h:Int))(aa:P.underlying t=some (.slice e))(hs:(P.info? e).map (·.size)=some 1)(hc:h<=c)
 {q:aN}(j:dL p c 0=q)(w:World):(execOp a.eval o).run P w= .ok (.value (.slice q h c)) w:=by
 subst j;have R:(Instr.sliceAt t (.slice p n c) none (some (.int .i64 (h:Int))) none).run P w= .ok (.slice (dL p c 0) h c) w:=by
  cases j:P.info? e with
  |none=>simp[j]at hs
  |some i=>
   have E:i.size=1:=by simpa[j]using hs
   have u:(0:Int)<=(h:Int)/\(h:Int)<=c:=J;simp[Instr.sliceAt,Instr.slice,Instr.sliceBounds,Instr.sliceBound,asIntOf,run_underlying aa,sizeOf,typeInfo,j,E,u.2,hc,dL]
 unfold execOp;simp only[I,ab,ac,Option.map_some,Option.map_none,Sem.run_bind,R,Result.andThen_ok,Sem.run_pure]
end
end
structure bZ where
 text:ByteArray
 member:aj
 roles:aT
 label:ByteArray
 commit:aj
 epoch:Int
 purpose:Int
 reason:Int
 need:Int
 version:Int
 count:Int
 mK:List (aj)
def ay.p(b:ay):bZ:=⟨b.text,b.member,b.roles,b.label,b.commit,b.epoch,b.purpose,b.reason,b.need,b.version,b.count,b.mK⟩
def kD:bZ:=⟨⟨#[]⟩,List.replicate 16 0,[],⟨#[]⟩,List.replicate 32 0,0,0,0,0,0,0,[]⟩
def fK(n:Nat)(l:aj):Option (aj×aj):=if l.length<n then none else some (l.take n,l.drop n)
def kV(l:aj):Option (Nat×aj):=(fK 1 l).map fun p=>((p.1.headD 0).toNat,p.2)
def rD(l:aj):Option (ByteArray×aj):=(kV l).bind fun p=>(fK p.1 p.2).map fun q=>(⟨q.1.toArray⟩,q.2)
def kW{α:Type}(f:aj->Option (α×aj)):Nat->List α->aj->Option (List α×aj)
 |0,xs,l=>some (xs,l)
 |k+1,xs,l=>(f l).bind fun p=>kW f k (xs++[p.1]) p.2
def NG(f:aj->Int)(l:aj):Option (Int×aj):=(fK 8 l).map fun p=>(f p.1,p.2)
def iP(f:aj->Int)(i:Nat)(x:bZ)(l:aj):Option (bZ×aj):=
 if i=0 then some ({x with text:=⟨l.toArray⟩},[])
 else if i=1 then(fK 16 l).map fun p=>({x with member:=p.1},p.2)
 else if i=2 then(kV l).bind fun p=>(kW rD p.1 [] p.2).map fun q=>({x with roles:=q.1},q.2)
 else if i=3 then(rD l).map fun p=>({x with label:=p.1},p.2)
 else if i=4 then(fK 32 l).map fun p=>({x with commit:=p.1},p.2)
 else if i=5 then(fK 4 l).map fun p=>({x with epoch:=(jM p.1:Int)},p.2)
 else if i=6 then(kV l).map fun p=>({x with purpose:=(p.1:Int)},p.2)
 else if i=7 then(kV l).map fun p=>({x with reason:=(p.1:Int)},p.2)
 else if i=8 then(kV l).map fun p=>({x with need:=(p.1:Int)},p.2)
 else if i=9 then(kV l).bind fun p=>(kW (fK 16) p.1 [] p.2).map fun q=>({x with mK:=q.1},q.2)
 else if i=10 then(kV l).map fun p=>({x with version:=(p.1:Int)},p.2)
 else(NG f l).map fun p=>({x with count:=p.1},p.2)
def jC(f:aj->Int):List Nat->bZ->aj->Option (bZ×aj)
 |[],x,l=>some (x,l)
 |i::t,x,l=>(iP f i x l).bind fun p=>jC f t p.1 p.2
theorem Pm(f:aj->Int):∀(s:List Nat) (i:Nat) (x:bZ) (l:aj),jC f (s++[i]) x l=(jC f s x l).bind fun p=>iP f i p.1 p.2
 |[],i,x,l=>by
  show(iP f i x l).bind (fun p=>some (p.1,p.2))=iP f i x l;cases iP f i x l<;>rfl
 |j::s,i,x,l=>by
  show(iP f j x l).bind _=_;rw[jC];cases iP f j x l with
  |none=>rfl
  |some p=>exact Pm f s i p.1 p.2
def gy(act:Int):List Nat:=
 if act=1 then[0]else if act=2 then[1,2]else if act=3 then[1]else if act=4 then[3,4]else if act=5 then[5,4]
 else if act=6 then[6,5,4]else if act=7 then[7]else if act=8 then[4]else if act=9 then[8,9,5,4]else if act=10 then[9,5,4]
 else if act=11 then[10,4]else[10,11,4]
theorem wo{act:Int}(h:iI act=true):act=1∨act=2∨act=3∨act=4∨act=5∨act=6∨act=7∨act=8∨act=9∨act=10∨act=11∨act=12:=by grind [iI]
def Gj:List Nat:=[0,1,2,3,6,7,8,10,9,5,11,4]
theorem JR{act:Int}(h:iI act=true):Gj.filter (fun i=>dK act i)=gy act:=by
 rcases wo h with rfl|rfl|rfl|rfl|rfl|rfl|rfl|rfl|rfl|rfl|rfl|rfl<;>rfl
def Bj(l:aT):aj:=UInt8.ofNat l.length::(l.map kU).flatten
def Bl(l:List (aj)):aj:=UInt8.ofNat l.length::l.flatten
def kL(n:Int):UInt8:=UInt8.ofNat (n%256).toNat
def jo(i:Nat)(x:bZ):aj:=
 if i=0 then x.text.data.toList
 else if i=1 then x.member
 else if i=2 then Bj x.roles
 else if i=3 then kU x.label
 else if i=4 then x.commit
 else if i=5 then gq (UInt32.ofNat x.epoch.toNat)
 else if i=6 then[kL x.purpose]
 else if i=7 then[kL x.reason]
 else if i=8 then[kL x.need]
 else if i=9 then Bl x.mK
 else if i=10 then[kL x.version]
 else dG (UInt64.ofNat x.count.toNat)
def fG(s:List Nat)(x:bZ):aj:=(s.map fun i=>jo i x).flatten
theorem zJ(n:Nat)(x r:aj)(h:x.length=n):fK n (x++r)=some (x,r):=by grind [fK]
theorem zK(c:UInt8)(r:aj):kV (c::r)=some (c.toNat,r):=by
 unfold kV;rw[show c::r=[c]++r from F,zJ 1 [c] r F];rfl
theorem Pn(s:ByteArray)(r:aj)(h:s.size<256):rD (kU s++r)=some (s,r):=by
 unfold rD kU;rw[cons_append,zK];show(fK _ _).map _=_;have j:(UInt8.ofNat s.size).toNat=s.size:=by rw[UInt8.toNat_ofNat'];omega
 rw[j,zJ _ _ _ (by rw[Array.length_toList];rfl)];rfl
theorem Po(r:aj):∀(l xs:aT),(∀s∈l,s.size<256)->kW rD l.length xs ((l.map kU).flatten++r)=some (xs++l,r)
 |[],xs,_=>by rw[append_nil];rfl
 |s::l,xs,h=>by
  rw[map_cons,flatten_cons,append_assoc,length_cons,kW,Pn s _ (h s aF)];show kW rD _ _ _=_;rw[Po r l (xs++[s]) (fun x hx=>h x (by simp[hx]))];simp
theorem Pq(r:aj):∀(l xs:List (aj)),oP l->kW (fK 16) l.length xs (l.flatten++r)=some (xs++l,r)
 |[],xs,_=>by rw[append_nil];rfl
 |s::l,xs,h=>by
  rw[flatten_cons,append_assoc,length_cons,kW,zJ 16 s _ (h s aF)];show kW (fK 16) _ _ _=_;rw[Pq r l (xs++[s]) (fun x hx=>h x (by simp[hx]))];simp
section
open Go Go.RowKit
structure aey(D g:Nat)(w w':World):Prop where
 size:w.heap.size<=w'.heap.size
 block:∀k,k<D->w'.heap[k]? =w.heap[k]?
 own:w'.heap[g]? =w.heap[g]?
theorem wu{w w':World}{p:Addr}{v:Value}(h:w.cell? p=some v)(e:w'.heap[p.block]? =w.heap[p.block]?):w'.cell? p=some v:=by
 unfold World.cell? at*;rw[e];exact h
def uf(w:World)(D g:Nat)(a:aN)(xs:aO):Prop:=xs=[]∨∃b off,a=some ⟨b,off,none⟩/\b<D/\b≠g/\∀i u,xs[i]? =some u->w.cell? ⟨b,off+i,none⟩=some u
theorem uf.off{w:World}{D g:Nat}{a:aN}{xs:aO}(h:uf w D g a xs):qw w g a xs:=by grind [uf,qw]
theorem uf.turn{w w':World}{D g:Nat}{a:aN}{xs:aO}(h:uf w D g a xs)(e:∀k,k<D->k≠g->w'.heap[k]? =w.heap[k]?):uf w' D g a xs:=by grind [uf,wu]
def gI(T:TypeId)(D:Nat)(w:World)(g:Nat)(l:aj)(s:Bool):Prop:=
 ∃a n c,ah w g [.slice a n c,.bool s] T/\l.length=n/\n<=c/\n<=140737488355328/\D<=w.heap.size/\uf w D g a (l.map Y)
theorem gI.len{T:TypeId}{D:Nat}{w:World}{g:Nat}{l:aj}{s:Bool}(h:gI T D w g l s):l.length<=140737488355328:=by
 obtain⟨a,n,c,_,j,u,E,_⟩:=h;omega
theorem gI.lt{T:TypeId}{D:Nat}{w:World}{g:Nat}{l:aj}{s:Bool}(h:gI T D w g l s):g<w.heap.size:=by
 obtain⟨a,n,c,hb,_⟩:=h;exact hb.lt
theorem gI.le{T:TypeId}{D:Nat}{w:World}{g:Nat}{l:aj}{s:Bool}(h:gI T D w g l s):D<=w.heap.size:=by
 obtain⟨a,n,c,_,_,_,_,hb,_⟩:=h;exact hb
theorem gI.same{T:TypeId}{D:Nat}{w w':World}{g:Nat}{l:aj}{s:Bool}(h:gI T D w g l s)(e:aey D g w w'):gI T D w' g l s:=by
 obtain⟨a,n,c,j,u,E,I,R,aa⟩:=h;exact⟨a,n,c,by unfold ah at*;rw[e.own];exact j,u,E,I,Nat.le_trans R e.size,aa.turn fun k hk _=>e.block k hk⟩
theorem gI.ext{T:TypeId}{D:Nat}{w w':World}{g:Nat}{l:aj}{s:Bool}(h:gI T D w g l s)(e:X w w'):gI T D w' g l s:=
 h.same ⟨e.size,fun k hk=>e.block k (Nat.lt_of_lt_of_le hk h.le),e.block g h.lt⟩
theorem gI.upd{T:TypeId}{D k:Nat}{w w':World}{g:Nat}{l:aj}{s:Bool}(h:gI T D w g l s)(u:aU w k w')(E:D<=k)(j:g≠k):gI T D w' g l s:=
 h.same ⟨by rw[u.size];exact Nat.le_refl _,fun i I=>u.block i J,u.block g j⟩
theorem gI.grown{T:TypeId}{D k:Nat}{w w':World}{g:Nat}{l:aj}{s:Bool}(h:gI T D w g l s)(u:w.grownBy w' (some k))(I:D<=k)(j:g≠k):gI T D w' g l s:=
 h.same ⟨u.size,fun i E=>u.block i (Nat.lt_of_lt_of_le E h.le) (by simp;omega),u.block g h.lt (by simpa using j)⟩
theorem gI.Gl{T:TypeId}{D:Nat}{w w':World}{g:Nat}{l:aj}{s:Bool}{r:Option Nat}(h:gI T D w g l s)(u:w.grownBy w' r)(j:∀k,r=some k->D<=k/\g≠k):gI T D w' g l s:=
 h.same ⟨u.size,fun i E=>u.block i (Nat.lt_of_lt_of_le E h.le) (fun e=>by have:=(j i e.symm).1;omega),u.block g h.lt (fun e=>(j g e.symm).2 F)⟩
def fA{α:Type}(p:aj->Option (α×aj))(l:aj)(s:Bool)(x:α)(u:aj)(j:Bool):Prop:=
 (j=false->s=false/\p l=some (x,u))/\(j=true->s=true∨p l=none)
theorem fA.map{α β:Type}{p:aj->Option (α×aj)}{l:aj}{s:Bool}{x:α}{j:aj}{u:Bool}(h:fA p l s x j u)(f:α->β):fA (fun l=>(p l).map fun q=>(f q.1,q.2)) l s (f x) j u:=by grind [fA]
theorem fA.bind{α β:Type}{p:aj->Option (α×aj)}{q:α->aj->Option (β×aj)}{l m r:aj}{s t u:Bool}{x:α}{y:β}(h:fA p l s x m t)(k:fA (q x) m t y r u):
 fA (fun l=>(p l).bind fun z=>q z.1 z.2) l s y r u:=by
 refine⟨fun E=> ?_,fun I=> ?_⟩
 ·obtain⟨k1,k2⟩:=k.1 E;obtain⟨j,R⟩:=h.1 k1;exact⟨j,by show(p l).bind _=_;rw[R];exact k2⟩
 ·rcases k.2 I with k1|k1
  ·exact(h.2 k1).imp_right fun j=>by show(p l).bind _=_;rw[j];rfl
  ·cases t with
   |true=>exact(h.2 F).imp_right fun j=>by show(p l).bind _=_;rw[j];rfl
   |false=>exact .inr (by show(p l).bind _=_;rw[(h.1 F).2];exact k1)
abbrev RT:TypeId:=301
section
variable {P:Program} {o:Oper} {a:Act}
theorem Xn{t e:TypeId}{x z m:Operand}{p:aN}{n c h:Nat}(R:o.op= .slice t x none (some z) (some m))(ac:a.eval x= .slice p n c)(ad:a.eval z= .int .i64 (h:Int))(I:a.eval m= .int .i64 (h:Int))(ab:P.underlying t=some (.slice e))(hs:(P.info? e).map (·.size)=some 1)(hc:h<=c)
 {q:aN}(j:dL p h 0=q)(w:World):(execOp a.eval o).run P w= .ok (.value (.slice q h h)) w:=by
 subst j;have aa:(Instr.sliceAt t (.slice p n c) none (some (.int .i64 (h:Int))) (some (.int .i64 (h:Int)))).run P w= .ok (.slice (dL p h 0) h h) w:=by
  cases j:P.info? e with
  |none=>simp[j]at hs
  |some i=>
   have E:i.size=1:=by simpa[j]using hs
   have u:(0:Int)<=(h:Int)/\(h:Int)<=c:=J;simp[Instr.sliceAt,Instr.slice,Instr.sliceBounds,Instr.sliceBound,asIntOf,run_underlying ab,sizeOf,typeInfo,j,E,u.2,hc,dL]
 unfold execOp;simp only[R,ac,ad,I,Option.map_some,Option.map_none,Sem.run_bind,aa,Result.andThen_ok,Sem.run_pure]
end
theorem uf.Pv{w:World}{D g:Nat}{a:aN}{xs:aO}(h:uf w D g a xs)(c m:Nat)(R:m<=c):uf w D g (dL a c 0) (xs.take m):=by
 rcases h with rfl|⟨b,off,rfl,I,hb,hc⟩
 ·exact .inl aF
 ·by_cases E:m=0
  ·subst E;exact .inl aF
  ·refine .inr ⟨b,off,?_,I,hb,fun i u j=>hc i u ?_⟩
   ·unfold dL;rw[if_neg J];simp[dn]
   ·rw[List.getElem?_take]at j;split at j
    ·exact j
    ·cases j
theorem uf.Px{w:World}{D g:Nat}{a:aN}{xs:aO}(h:uf w D g a xs)(c p:Nat)(R:xs.length<=c):uf w D g (dL a c p) (xs.drop p):=by
 rcases h with rfl|⟨b,off,rfl,I,hb,hc⟩
 ·exact .inl aF
 ·by_cases j:c=p
  ·subst j;exact .inl (drop_eq_nil_of_le R)
  ·refine .inr ⟨b,off+p,?_,I,hb,fun i u E=> ?_⟩
   ·unfold dL;rw[if_neg j];simp[dn]
   ·rw[Nat.add_assoc];exact hc (p+i) u (by rw[List.getElem?_drop]at E;exact E)
theorem zL(l:aj)(s:Bool)(D g m:Nat)(w:World)(ax:m<=140737488355328)(a0:gI RT D w g l s):
 Calls prog 270 #[.pointer (some ⟨g,0,none⟩),.int .i64 (m:Int)] w fun e w'=>∃a x af al,e= .returned (.slice a m m)/\x.length=m/\qw w' g a (x.map Y)/\gI RT D w' g af al/\fA (fK m) l s x af al/\af.length<=l.length/\w.grownBy w' (some g):=by
 obtain⟨a,n,c,hb,hn,aE,hc,a4,ag⟩:=a0;obtain⟨ac,I,uE⟩:=aW hb hn ag;have a2:=hb.cell' (i:=0) (v:= .slice a n c) F;have k1:=hb.cell' (i:=1) (v:= .bool s) F;have aq:=hb.frozen 1;have ap:=hb.frozen 0;have a9:=ac.lt;clear hb hn ag;by_cases h:n<m
 ·have an:decide (n<m)=true:=aQ h;have ao:decide ((n:Int)<(m:Int))=true:=aQ J;go_enter func270,ntmps270;go_upto_region 3 with(fail);generalize iX:World.setCell w _ _=j;have aa:ah j g [.slice a n c,.bool true] RT:=by rw[<-iX];exact ac.set 1 (.bool true)
  have E:aU w g j:=by rw[<-iX];exact aU.setCell _
  obtain⟨am,ad⟩:=aB aa E;clear iX aa E a2 k1 ap aq;have a6:=F6 j m ax;go_wp2_with fail;generalize ai:World.alloc j _=wB;have a3:ah wB j.heap.size ((List.replicate m (0:UInt8)).map Y) 5:=by rw[<-ai];exact ah.aI F aF
  have ab:X j wB:=by rw[<-ai];exact(X.refl j).alloc _
  have mU:=ad.size;go_wp2_with fail;go_ret;refine⟨_,List.replicate m 0,l,true,F,aF,?_,?_,⟨fun ae=>(by cases ae),fun _=> .inr ?_⟩,Nat.le_refl _,?_⟩
  ·exact .inr ⟨j.heap.size,0,F,J,fun i u a1=>by rw[Nat.zero_add];exact a3.cell' a1⟩
  ·have a8:=ab.size;refine⟨a,n,c,am.ext ab,I,aE,hc,J,uE.turn fun k hk R=> ?_⟩;rw[ab.block k J];exact ad.block k R
  ·unfold fK;rw[I.out,if_pos h]
  ·exact xk (FU (sG w (some g)) ad) ab
 ·have an:decide (n<m)=false:=aP h;have ao:decide ((n:Int)<(m:Int))=false:=aP J;have az:m<=c:=J;have Gr:m<=n:=J;go_enter func270,ntmps270;go_wp2_with (first|(refine bF F (Xn F F F F underlying32 gu az F _) ?_)|(refine zy F _ _ _ _ F F F underlying32 gu Gr ?_));generalize iX:World.setCell w _ _=j;have aa:ah j g [.slice (dL a c m) (n - m) (c - m),.bool s] RT:=by rw[<-iX];exact ac.set 0 (.slice (dL a c m) (n - m) (c - m))
  have E:aU w g j:=by rw[<-iX];exact aU.setCell _
  have ar:=FU (sG w (some g)) E;go_ret;have a5:(l.map Y).length=n:=by rw[length_map];exact I
  refine⟨_,l.take m,l.drop m,s,F,?_,?_,?_,⟨fun ae=>⟨ae,?_⟩,fun aw=> .inl aw⟩,?_,ar⟩
  ·rw[length_take,I.out];omega
  ·rw[map_take];exact((uE.turn fun k _ R=>E.block k R).Pv m m l5).off
  ·have a7:=E.size;refine⟨_,_,_,aa,by rw[length_drop,I.out],J,J,J,?_⟩;rw[map_drop];exact(uE.turn fun k _ R=>E.block k R).Px c m J
  ·unfold fK;rw[I.out,if_neg h]
  ·rw[length_drop];omega
end
section
open Go Go.RowKit
def Fe{α:Type}(T:TypeId)(D:Nat)(p:aj->Option (α×aj))(w:World)(g:Nat)(l:aj)(s:Bool)(x:α)(w':World):Prop:=
 ∃j u,gI T D w' g j u/\fA p l s x j u/\j.length<=l.length/\w.grownBy w' (some g)
def JU{α:Type}(is:Bool)(p:aj->Option (α×aj))(d:α)(l:aj):Option (α×aj):=bif is then p l else some (d,l)
theorem fA.same{α:Type}(x:α)(l:aj)(s:Bool):fA (fun l=>some (x,l)) l s x l s:=⟨fun h=>⟨h,F⟩,fun h=> .inl h⟩
theorem fA.congr{α:Type}{p q:aj->Option (α×aj)}{l j:aj}{s u:Bool}{x:α}(h:fA p l s x j u)(e:p l=q l):fA q l s x j u:=by
 unfold fA at*;rw[<-e];exact h
section
variable {o:Oper} {a:Act}
theorem DY{x:Operand}{p:aN}{l:aj}{n c:Nat}{w:World}(u:o.op= .convert 32 9 x)(E:a.eval x= .slice p n c)(j:l.length=n)(hc:aK w p (l.map Y)):
 (execOp a.eval o).run prog w= .ok (.value (.string (aY l))) w:=by grind [execOp,Sem.run_bind,Ba,Result.andThen_ok,Sem.run_pure]
end
def jV(l:aj):Int:=if fE l 0<=4611686018427387904 then(fE l 0:Nat)else 65537
theorem zM(l:aj)(s is:Bool)(D g:Nat)(w:World)(j:gI RT D w g l s):
 Calls prog 272 #[.pointer (some ⟨g,0,none⟩),.bool is] w fun e w'=>∃x:Nat,e= .returned (.int .i64 (x:Int))/\x<256/\Fe RT D (JU is kV 0) w g l s x w':=by
 have E:=O j;clear j;cases is with
 |false=>
  go_enter func272,ntmps272;go_wp2_with fail;go_ret;exact⟨0,F,aX,l,s,E,fA.same 0 l s,Nat.le_refl _,sG w _⟩
 |true=>
  go_enter func272,ntmps272;go_wp2_with fail;refine(zL l s D g 1 w J E).mono ?_;rintro e w' ⟨a,x,ag,ai,rfl,u,hc,j,ht,aa,R⟩;obtain⟨b,off,rfl,I⟩:=hc.cells.gQ (by rw[length_map,u];omega);obtain⟨c,rfl⟩:∃c,x=[c]:=by
   match x,u with
   |[c],_=>exact⟨c,F⟩
  have af:w'.cell? ⟨b,off,none⟩=some (.int .u8 (c.toNat:Int)):=I 0 _ F;obtain⟨al,ad,ae,ab,ac⟩:=dM af j ht R aa;clear hc I j ht R aa u;have am:=c.toNat_lt;have an:IntKind.i64.wrap (c.toNat:Int)=(c.toNat:Int):=IntWalk.i64_in _ J;go_wp2_with fail;go_ret;refine⟨c.toNat,F,J,ag,ai,ad,?_,ac,ab⟩;exact(ae.map (fun x=>(x.headD 0).toNat)).congr F
theorem Py(l:aj)(s:Bool)(D g:Nat)(w:World)(j:gI RT D w g l s):
 Calls prog 271 #[.pointer (some ⟨g,0,none⟩)] w fun e w'=>∃x:aj,e= .returned (.agg (x.map Y).toArray)/\x.length=16/\Fe RT D (fK 16) w g l s x w':=by
 have am:=O j;have a1:g<w.heap.size:=j.lt;have aw:D<=w.heap.size:=j.le;clear j;go_enter func271,ntmps271;go_upto_region 1 with(fail);generalize iX:World.alloc w _=R;have zA:ah R w.heap.size ((List.replicate 16 (0:UInt8)).map Y) 29:=by rw[<-iX];exact ah.aI F F
 have ac:X w R:=by rw[<-iX];exact(X.refl w).alloc _
 obtain⟨ZA,EA⟩:=aB zA ac;clear iX zA ac;go_wp2_with fail;refine(zL l s D g 16 R J (am.ext EA)).mono ?_;rintro e w' ⟨a,x,ax,az,rfl,u,hc,j,ht,ae,I⟩;obtain⟨b,off,rfl,ar⟩:=hc.cells.gQ (by rw[length_map,u];omega);have nu:=dP.of hc.cells;have rz:=O nu;have Dr:(x.map Y).length=16:=by rw[length_map];exact u
 have E:=O Dr;have ag:ah w' w.heap.size ((List.replicate 16 (0:UInt8)).map Y) 29:=by
  refine ZA.grown I ?_;intro h;injection h with h;omega
 have aq:=sG w (some g);have ad:w.grownBy w' (some g):=l9 (yC (sG w (some g)) EA) I;obtain⟨ap,aa,an,ai,al,ao⟩:=iq ag j ht ad ae u;clear hc ar j ht I ae u nu Dr ag aq ad ZA;go_wp2_with (first|(refine bF F (rC F F underlying29 l5 _) ?_)|(refine bF F (bQ F F rz dh E) ?_)|(refine bg F _ _ _ F F F ap dh F E (b_ x) ?_));intro a3 ab af;obtain⟨a0,aE⟩:=aB (aa) ab;have a2:w.heap.size≠g:=J;go_wp2_with fail;refine gG F F ab dh E F ?_;refine⟨x,F,ao,ax,az,?_,an,al,?_⟩
 ·exact aa.upd af aw J
 ·exact DI ai af l5
theorem Pz(l:aj)(s:Bool)(D g:Nat)(w:World)(I:gI RT D w g l s):
 Calls prog 273 #[.pointer (some ⟨g,0,none⟩)] w fun e w'=>∃x:ByteArray,e= .returned (.string x)/\x.size<256/\Fe RT D rD w g l s x w':=by
 have am:=O I;clear I;go_enter func273,ntmps273;go_wp2_with fail;refine(zM l s true D g w am).mono ?_;rintro e w2 ⟨n,rfl,hn,ae,af,R,ab,sP,u⟩;obtain⟨an,ap,ai⟩:=aW R ab u;clear R ab u;go_wp2_with fail;refine(zL ae af D g n w2 J an).mono ?_;rintro e aE ⟨a,x,aw,ax,rfl,ad,hc,aa,ac,az,E⟩;obtain⟨j,ag,ao,aq,al⟩:=dM ad hc aa ac E;clear ad hc aa ac E;go_wp2_with (refine bF F (DY F F j ag.cells) ?_);go_ret;refine⟨aY x,F,?_,aw,ax,ao,?_,J,l9 ai al⟩
 ·show x.toArray.size<256;rw[size_toArray,j.out];exact hn
 ·have ar:fA kV l s n ae af:=ap.congr F;exact(ar.bind (q:=fun n l=>(fK n l).map fun q=>((⟨q.1.toArray⟩:ByteArray),q.2)) (aq.map fun x=>(⟨x.toArray⟩:ByteArray))).congr F
theorem Xo(l:aj)(s:Bool)(D g:Nat)(w:World)(af:gI RT D w g l s):
 Calls prog 274 #[.pointer (some ⟨g,0,none⟩)] w fun e w'=>∃x:Int,e= .returned (.int .i64 x)/\Fe RT D (NG jV) w g l s x w':=by
 have ao:=O af;clear af;go_enter func274,ntmps274;go_wp2_with fail;refine(zL l s D g 8 w J ao).mono ?_;rintro e w2 ⟨a,x,am,an,rfl,aa,hc,ag,ai,sP,ae⟩;obtain⟨ac,ad,ab,aq,u⟩:=dM ag ai ae aa (fun w' e=>Jz x a 8 8 0 w' aa J l5 (hc.cells.ext e));have al:g_ 8 0 8=0:=aX;unfold vW at u;rw[if_pos al]at u;clear ag ai ae aa hc al;by_cases hb:fE x 0<=4611686018427387904
 ·have I:jV x=(fE x 0:Nat):=if_pos hb;have HV:=O I;have j:=u.out;rw[show(0:Int).toNat=0 from F,if_pos hb]at j;have R:=O j;clear u j I;generalize fE x 0=N at*;go_wp2_with fail;refine(R w2 (X.refl w2)).mono ?_;rintro e ap ⟨rfl,E⟩;go_wp2_with fail;go_ret;exact⟨_,F,am,an,ac.ext E,by rw[<-HV.out];exact ad.map jV,sP,xk ab E⟩
 ·have I:jV x=65537:=if_neg hb;have HV:=O I;have j:=u.out;rw[show(0:Int).toNat=0 from F,if_neg hb]at j;have R:=O j;clear u j I;go_wp2_with fail;refine(R w2 (X.refl w2)).mono ?_;rintro e ap ⟨rfl,E⟩;go_wp2_with fail;go_ret;exact⟨_,F,am,an,ac.ext E,by rw[<-HV.out];exact ad.map jV,sP,xk ab E⟩
end
section
open Go Go.RowKit
section
variable {P:Program} {ops:Array Oper} {rest:List Oper} {o:Oper} {a:Act} {w:World} {Q:Exit->Act->World->Prop}
theorem zN{f:FuncId}{xs:Array Operand}{aa:Array TypeId}{v:Value}(E:o.op= .call {callee:= .value (.func f),args:=xs,argTypes:=aa})
 (hf:∀args w,(callFunc f args).run P w= .ok (.enter f args) w)
 (R:(Region.wanted o (yielded ops a.tmps)=true/\∃args,xs.map a.eval=args/\Calls P f args w (fun e w'=>e= .returned v/\w=w'))∨(Region.wanted o (yielded ops a.tmps)=false/\v=undef))
 (h:wpList P ops Q rest (a.put o.dst v) w):wpList P ops Q (o::rest) a w:=by
 rcases R with⟨j,args,ha,hc⟩|⟨j,rfl⟩
 ·refine U5 j fun K u=> ?_;have I:(execOp a.eval o).run P w= .ok (.enter f args) w:=by
   unfold execOp;simp only[E,resolve,Act.eval,Deferred.ofValue,Sem.run_bind,Sem.run_pure,Result.andThen_ok,invoke];have:(#[]++xs.map a.eval++ #[]:Array Value)=args:=by simp[ha]
   simpa[ha]using hf args w
  unfold Oper.wp;rw[I];refine hc.mono ?_;rintro e w' ⟨rfl,rfl⟩;exact u _ _ h
 ·exact wpList_skip j h
end
theorem Xp{ls:List (aj)}(h:oP ls){i:Nat}{x:aj}(E:ls[i]? =some x){j:Nat}(u:j<16):(dB ls)[16*i+j]? =(x.map Y)[j]? :=by induction ls generalizing i<;>grind [dB,oP,Y]
theorem Xq{ls:List (aj)}(h:oP ls):(dB ls).length=16*ls.length:=by induction ls<;>grind [dB,oP]
theorem Gm{w:World}{a:aN}{ls:List (aj)}(h:aK w a (dB ls))(E:oP ls){i:Nat}{x:aj}(ac:ls[i]? =some x):∃p,a=some p/\∀k y,ls[k]? =some y->dP w (p.add (k*16)) (y.map Y):=by
 have ad:=(List.getElem?_eq_some_iff.1 ac).1;obtain⟨b,off,rfl,hc⟩:=h.gQ (by rw[Xq E];omega);refine⟨_,F,fun k y R j u I=> ?_⟩;have Dr:=E y (mem_of_getElem? R);have ab:j<16:=by
  have:=(List.getElem?_eq_some_iff.1 I).1;rw[length_map,Dr]at this;exact this
 have aa:(dB ls)[16*k+j]? =some u:=by rw[Xp E R ab];exact I
 rw[dn,dn];have:=hc _ _ aa;rw[show off+k*16+j=off+(16*k+j) by omega];exact this
theorem zO:(prog.info? 29).map (·.size)=some 16:=au
theorem JV{l:List Bool}(h:l.length=12):∃b0 j I R aa ab ac ad ae af u E,l=[b0,j,I,R,aa,ab,ac,ad,ae,af,u,E]:=by
 match l,h with
 |[b0,j,I,R,aa,ab,ac,ad,ae,af,u,E],_=>exact⟨b0,j,I,R,aa,ab,ac,ad,ae,af,u,E,F⟩
theorem Xr(act:Int)(b:ay)(w:World)(b5:b.Ok w):
 nW 208 #[.int .i64 act,.agg b.v.toArray] w (.int .i64 (jS act b)):=by
 have a3:=O b5;obtain⟨E,a_⟩:=aC (jS act b);rw[a_];unfold jS dK pJ dK at a_;have a0:=Pg act;unfold DT at a0;obtain⟨bp,br,bv,R,bw,bx,ab,bz,aa,b0,bt,bu,cq⟩:=JV (DR act);rw[cq]at a0;simp only[cq,getD_cons_zero,getD_cons_succ]at a_;obtain⟨a0,u,c9,cs⟩:=bU a0 a_ (fun w' h=>Xj b bp br bv R bw bx ab bz aa b0 bt bu w' h) (fun w' (h:b.Ok w')=>VX b.roles b.ra b.rn b.rc w' h.rl (by have:=h.qZ;have:=h.rm;omega) h.rs h.nU);go_enter func208,ntmps208;go_upto_region 1 with(fail);generalize iX:World.alloc w _=bd;have cQ:ah bd w.heap.size b.v 101:=by rw[<-iX];exact ah.aI F F
 have c2:X w bd:=by rw[<-iX];exact(X.refl w).alloc _
 obtain⟨cA,EA⟩:=aB cQ c2;go_wp2_with fail;refine(Ot act bd).mono ?_;rintro e w2 ⟨rfl,rfl⟩;cases cp:iI act with
 |false=>
  go_wp2;go_ret;exact⟨by rw[<-u,cp];rfl,EA⟩
 |true=>
 rw[cp]at u;go_wp2_with fail;refine(a0 bd).mono ?_;rintro e a1 ⟨rfl,b2⟩;obtain⟨cC,ci⟩:=aB (cA.ext b2) (EA.ext b2);obtain⟨cJ,cI⟩:=aB (a3.ext ci) (ay.len a3);go_upto_region 4 with(fail);generalize cv:World.alloc a1 _=ce;obtain⟨aq,da⟩:=aC a1.heap.size;have cy:ah ce a1.heap.size [.bool bp,.bool br,.bool bv,.bool R,.bool bw,.bool bx,.bool ab,.bool bz,.bool aa,.bool b0,.bool bt,.bool bu] 304:=by rw[<-cv];exact ah.aI F F
 have b3:X a1 ce:=by rw[<-cv];exact(X.refl a1).alloc _
 rw[da]at cy⊢;obtain⟨co,cf,cH,cl⟩:=bU cy (cC.ext b3) (ci.ext b3) (cJ.ext b3);go_wp2_with (first|(refine bV F 101 (.tmp 3) F F cf eP cI ?_)|(refine bV F 304 (.tmp 5) F F co sJ F ?_));refine(c9 ce cl).mono ?_;rintro e bc ⟨rfl,az⟩;obtain⟨ND,ad,ax,af⟩:=bU (co.ext az) (cf.ext az) (cH.ext az) (cl.ext az);cases a9:nX b [bp,br,bv,R,bw,bx,ab,bz,aa,b0,bt,bu]with
 |true=>
  rw[a9]at u;go_wp2;go_ret;exact⟨by rw[<-u];rfl,ax⟩
 |false=>
 rw[a9]at u;have dm:=ad.cell' (ay.aL b);have dp:=ad.cell' (ay.pI af);have cR:=ad.cell' (ay.zH af);have cS:=ad.cell' (ay.mD af);have cT:=ad.cell' (ay.nV af);have cU:=ad.cell' (ay.oQ af);have cV:=ad.cell' (ay.xw af);have cW:=ad.cell' (ay.GQ af);have cX:=ad.cell' (ay.Bh af);have b1:=ad.cell' (ay.xB af);have di:bc.cell? ⟨aq,3,none⟩=some (.bool R):=ND.cell' F;have dj:bc.cell? ⟨aq,6,none⟩=some (.bool ab):=ND.cell' F;have dk:bc.cell? ⟨aq,8,none⟩=some (.bool aa):=ND.cell' F;by_cases cb:32768<b.text.size
 ·have a6:decide (32768<b.text.size)=true:=aQ cb;have a7:decide ((32768:Int)<(b.text.size:Int))=true:=aQ J;have ac:(5:Int)=E:=by rw[<-u];simp[cb]
  have u:=O ac;go_wp2;go_ret;exact⟨by rw[<-u];rfl,ax⟩
 have cY:decide (32768<b.text.size)=false:=aP cb;have b2:decide ((32768:Int)<(b.text.size:Int))=false:=aP J;by_cases cc:16<b.rn
 ·have a6:decide (16<b.rn)=true:=aQ cc;have a7:decide ((16:Int)<(b.rn:Int))=true:=aQ J;have ac:(5:Int)=E:=by rw[<-u];simp[cc]
  have u:=O ac;go_wp2;go_ret;exact⟨by rw[<-u];rfl,ax⟩
 have c0:decide (16<b.rn)=false:=aP cc;have az:decide ((16:Int)<(b.rn:Int))=false:=aP J;by_cases cd:32<b.hn
 ·have a6:decide (32<b.hn)=true:=aQ cd;have a7:decide ((32:Int)<(b.hn:Int))=true:=aQ J;have ac:(5:Int)=E:=by rw[<-u];simp[cd]
  have u:=O ac;go_wp2;go_ret;exact⟨by rw[<-u];rfl,ax⟩
 have c1:decide (32<b.hn)=false:=aP cd;have aE:decide ((32:Int)<(b.hn:Int))=false:=aP J;have bm:=u;rw[cY,c0,c1]at bm;obtain⟨a5,c8⟩:=aC (vV b.roles);rw[c8]at bm cs;have u:=O bm;go_wp2_with fail;refine(cs bc af).mono ?_;rintro e ai ⟨rfl,aE⟩;obtain⟨bo,ar,a2,ap⟩:=bU (ND.ext aE) (ad.ext aE) (ax.ext aE) (af.ext aE);by_cases b4:a5=0
 rotate_left
 ·have ac:a5=E:=by
   have c4:(a5 != 0)=true:=by simpa using b4
   rw[<-u,c4];rfl
  subst ac;have dq:(a5 != 0)=true:=by simpa using b4
  go_wp2;go_ret;exact⟨F,a2⟩
 subst b4;have cR:=ar.cell' (ay.zH ap);have di:ai.cell? ⟨aq,3,none⟩=some (.bool R):=bo.cell' F;have tL:=O (Oq b.label ai ap.ls);obtain⟨a4,c6⟩:=aC (jK b.label.data.toList);have cj:=u;rw[c6]at cj tL;have u:=O cj;go_upto_region 11 with(fail);refine wp_region_list ?_;refine ku (v:= .pointer (some ⟨aq,3,none⟩)) ?_;refine ku (v:= .bool R) ?_;refine ku (v:= .bool R) ?_;refine dD R (v:=bif R then .pointer (some ⟨w.heap.size,18,none⟩)else undef) ?_;refine dD R (v:=bif R then .string b.label else undef) ?_;refine zN (v:=bif R then .bool a4 else undef) F call277 ?hy6 ?hz6
 case hy6=>((cases R)<;>(first|exact .inl ⟨F,_,by simp[Act.eval],tL⟩|exact .inr ⟨F,F⟩))
 case hz6=>
 refine lY ?_;refine dD R (v:=bif R then .bool (!a4)else undef) ?_;refine dD R (v:= .bool (R&& !a4)) ?_;obtain⟨G3,c5⟩:=aC ((R&& !a4));have ae:=u;rw[c5]at ae⊢;have u:=O ae;cases G3 with
 |true=>
  have ac:(6:Int)=E:=by rw[<-u];rfl
  go_wp2_with fail;go_ret;exact⟨by rw[<-ac];rfl,a2⟩
 |false=>
 have cS:=ar.cell' (ay.mD ap);have cT:=ar.cell' (ay.nV ap);have cU:=ar.cell' (ay.oQ ap);have cV:=ar.cell' (ay.xw ap);have cW:=ar.cell' (ay.GQ ap);have cX:=ar.cell' (ay.Bh ap);have dj:ai.cell? ⟨aq,6,none⟩=some (.bool ab):=bo.cell' F;have dk:ai.cell? ⟨aq,8,none⟩=some (.bool aa):=bo.cell' F;have ae:=u;unfold dR at ae;have be:=xg b.purpose 1 3 ai;generalize (decide (b.purpose<1)||decide (3<b.purpose))=b7 at be ae;have be:=O be;have bh:=xg b.reason 0 255 ai;generalize (decide (b.reason<0)||decide (255<b.reason))=b8 at bh ae;have bh:=O bh;have bi:=xg b.version 0 255 ai;generalize (decide (b.version<0)||decide (255<b.version))=b9 at bi ae;have bi:=O bi;have bj:=xg b.need 1 32 ai;generalize (decide (b.need<1)||decide (32<b.need))=ba at bj ae;have bj:=O bj;have bk:=xg b.epoch 0 4294967295 ai;generalize (decide (b.epoch<0)||decide (4294967295<b.epoch))=b' at bk ae;have bk:=O bk;have bl:=xg b.count 0 65536 ai;generalize (decide (b.count<0)||decide (65536<b.count))=ca at bl ae;obtain⟨bl,u⟩:=aB bl ae;go_upto_region 13 with(fail);refine wp_region_list ?_;refine ku (v:= .pointer (some ⟨aq,6,none⟩)) ?_;refine ku (v:= .bool ab) ?_;refine ku (v:= .bool ab) ?_;refine dD ab (v:=bif ab then .pointer (some ⟨w.heap.size,52,none⟩)else undef) ?_;refine dD ab (v:=bif ab then .int .i64 b.purpose else undef) ?_;refine zN (v:=bif ab then .bool b7 else undef) F call155 ?hy14 ?hz14
 case hy14=>((cases ab)<;>(first|exact .inl ⟨F,_,by simp[Act.eval],be⟩|exact .inr ⟨F,F⟩))
 case hz14=>
 refine lY ?_;refine dD ab (v:= .bool (ab&&b7)) ?_;generalize dr:(ab&&b7)=al at u⊢;refine ku (v:= .bool al) ?_;refine dD al (v:=bif al then undef else .pointer (some ⟨w.heap.size,53,none⟩)) ?_;refine dD al (v:=bif al then undef else .int .i64 b.reason) ?_;refine zN (v:=bif al then undef else .bool b8) F call155 ?hy19 ?hz19
 case hy19=>((cases al)<;>(first|exact .inl ⟨F,_,by simp[Act.eval],bh⟩|exact .inr ⟨F,F⟩))
 case hz19=>
 refine lY ?_;refine dD al (v:= .bool (al||b8)) ?_;generalize ds:(al||b8)=am at u⊢;refine ku (v:= .bool am) ?_;refine dD am (v:=bif am then undef else .pointer (some ⟨w.heap.size,55,none⟩)) ?_;refine dD am (v:=bif am then undef else .int .i64 b.version) ?_;refine zN (v:=bif am then undef else .bool b9) F call155 ?hy24 ?hz24
 case hy24=>((cases am)<;>(first|exact .inl ⟨F,_,by simp[Act.eval],bi⟩|exact .inr ⟨F,F⟩))
 case hz24=>
 refine lY ?_;refine dD am (v:= .bool (am||b9)) ?_;generalize dt:(am||b9)=I at u⊢;refine ku (v:= .bool I) ?_;refine dD I (v:=bif I then undef else .pointer (some ⟨aq,8,none⟩)) ?_;refine dD I (v:=bif I then undef else .bool aa) ?_;refine dD I (v:=bif I then undef else .bool aa) ?_;refine iL I aa (v:=bif I then undef else(bif aa then .pointer (some ⟨w.heap.size,54,none⟩)else undef)) ?_;refine iL I aa (v:=bif I then undef else(bif aa then .int .i64 b.need else undef)) ?_;refine zN (v:=bif I then undef else(bif aa then .bool ba else undef)) F call155 ?hy32 ?hz32
 case hy32=>((cases I<;>cases aa)<;>(first|exact .inl ⟨F,_,by simp[Act.eval],bj⟩|exact .inr ⟨F,F⟩))
 case hz32=>
 refine lY ?_;refine iL I aa (v:=bif I then undef else .bool (aa&&ba)) ?_;refine dD I (v:= .bool (I||(aa&&ba))) ?_;generalize du:(I||(aa&&ba))=an at u⊢;refine ku (v:= .bool an) ?_;refine dD an (v:=bif an then undef else .pointer (some ⟨w.heap.size,51,none⟩)) ?_;refine dD an (v:=bif an then undef else .int .i64 b.epoch) ?_;refine zN (v:=bif an then undef else .bool b') F call155 ?hy38 ?hz38
 case hy38=>((cases an)<;>(first|exact .inl ⟨F,_,by simp[Act.eval],bk⟩|exact .inr ⟨F,F⟩))
 case hz38=>
 refine lY ?_;refine dD an (v:= .bool (an||b')) ?_;generalize dv:(an||b')=ao at u⊢;refine ku (v:= .bool ao) ?_;refine dD ao (v:=bif ao then undef else .pointer (some ⟨w.heap.size,56,none⟩)) ?_;refine dD ao (v:=bif ao then undef else .int .i64 b.count) ?_;refine zN (v:=bif ao then undef else .bool ca) F call155 ?hy43 ?hz43
 case hy43=>((cases ao)<;>(first|exact .inl ⟨F,_,by simp[Act.eval],bl⟩|exact .inr ⟨F,F⟩))
 case hz43=>
 refine lY ?_;refine dD ao (v:= .bool (ao||ca)) ?_;generalize dy:(ao||ca)=cF at u⊢;cases cF with
 |true=>
  have ac:(4:Int)=E:=by rw[<-u];rfl
  go_wp2_with fail;go_ret;exact⟨by rw[<-ac];rfl,a2⟩
 |false=>
 have c_:(if !tZ b.mK then(9:Int)else 0)=E:=u;have ck:=O c_;go_wp2_with fail;go_loopw [7] (fun i wr=>∃k:Nat,1<=k/\(k<=b.hn∨k=1)/\i= .int .i64 (k:Int)/\q_ b.mK k/\X ai wr) (fun i _=>b.hn - (intOf i).toNat)
 case atStart=>exact⟨1,J,.inr F,F,q_.one _ J,X.refl _⟩
 case round=>
  obtain⟨k,Co,y9,rfl,de,a8⟩:=hrel;obtain⟨cz,aw,ch,cG,cm⟩:=dM (ar.ext a8) (ap.ext a8) (a2.ext a8) a8 de;have b1:=cz.cell' (ay.xB aw);by_cases j3:k<b.hn
  ·have a6:decide ((k:Int)<(b.hn:Int))=true:=aQ J;have a7:decide (k<b.hn)=true:=aQ j3;have dC:=aw.hl;obtain⟨j,rfl⟩:∃j,k=j+1:=⟨k - 1,J⟩;obtain⟨x,hx⟩:∃x,b.mK[j]? =some x:=⟨b.mK[j]'J,aF⟩;obtain⟨y,b6⟩:∃y,b.mK[j+1]? =some y:=⟨b.mK[j+1]'J,aF⟩;obtain⟨p,dc,ct⟩:=Gm aw.hcell aw.h16 hx;have cw:=aw.h16 x (mem_of_getElem? hx);have cx:=aw.h16 y (mem_of_getElem? b6);obtain⟨cD,cE,cM,cP,cL,cN,cn,HY⟩:=jg (ct j x hx) (ct (j+1) y b6) (show(x.map Y).length=16 by rw[length_map];exact cw) (show(y.map Y).length=16 by rw[length_map];exact cx) cw cx hx b6;rw[dc]at b1;have cg:=O b1;have db:j<b.hn:=J;have dg:IntKind.i64.wrap (j:Int)=(j:Int):=by have:=a3.vZ;have:=a3.hnc;exact IntWalk.i64_in _ J
   go_upto_region 18 with(fail);obtain⟨C,iB,aJ⟩:=jJ wr;refine wp_region_held_drew (S:=C) au ((iB _).2 (X.refl wr).drew) (fun Z=> ?_);refine aA 0 ?_;refine dA 1 (fun ag h=>gW cg ((iB ag).1 h)) ?_;refine aA 2 ?_;refine bD 3 F (bf F (fun ag _=>fP (i:=j+1) F F F underlying99 zO j3 ag)) ?_;refine bD 4 F (bf F (fun ag h=>bQ F F (cE.ext ((iB ag).1 h)) dh cP)) ?_;refine aA 5 ?_;refine dA 6 (fun ag h=>gW cg ((iB ag).1 h)) ?_;refine aA 7 ?_;refine d_ 8 (v:= .int .i64 (j:Int)) F au au au (fun _ _ _ h=>h) (.inl ⟨F,fun wz _=> ?sub8⟩) Z ?rest8
   case sub8=>(go_simp;try exact dg)
   case rest8=>
   refine aH ?_;refine bD 9 F (bf F (fun ag _=>fP (i:=j) F F F underlying99 zO db ag)) ?_;refine bD 10 F (bf F (fun ag h=>bQ F F (cD.ext ((iB ag).1 h)) dh cM)) ?_;refine aZ 11 ?_;intro dl c7;go_wp2_with fail;refine(Xg y x _ cN cL).mono ?_;rintro e wq ⟨rfl,c3⟩;have cr:=aJ _ _ Z c3;go_wp2_with fail;refine c7 _ _ cr ?_;have Z:=cr;refine aH ?_;have df:=Jt x y;rw[df]at*;by_cases hc:eH x y<0
   ·have dd:decide (- eH x y<=0)=false:=aP J;refine aA 12 ?_;refine dH ?_;have Fx:=(iB _).1 Z;go_wp2_with fail;go_roundw
    case rel=>exact⟨j+2,J,J,by go_num,cm.step cn HY hc,cG.ext Fx⟩
    case measure=>simp[intOf];omega
   ·have dd:decide (- eH x y<=0)=true:=aQ J;refine aA 12 ?_;refine dH ?_;have Fx:=(iB _).1 Z;have ac:(9:Int)=E:=by rw[<-ck,Ph cn HY hc];rfl
    go_wp2_with fail;go_ret;exact⟨by rw[<-ac];rfl,ch.ext Fx⟩
  ·have a6:decide ((k:Int)<(b.hn:Int))=false:=aP J;have a7:decide (k<b.hn)=false:=aP j3;have b5:tZ b.mK=true:=Gi.2 (by
    have:=aw.hl;rcases y9 with a9|a9
    ·rw[this,show b.hn=k by omega];exact cm
    ·exact q_.one _ J)
   have ac:(0:Int)=E:=by rw[<-ck,b5];rfl
   go_wp2_with fail;go_ret;exact⟨by rw[<-ac];rfl,ch⟩
end
theorem JW{x v:Value}{l r:aO}{n i:Nat}(j:l.length=n):(x::(l++r)).set (n+1+i) v=x::(l++r.set i v):=by grind
theorem Xt{x:Value}{l r xs:aO}(j:l.length=xs.length):fV (x::(l++r)) 1 xs=x::(xs++r):=by grind [fV]
theorem Xu{x:Value}{l r xs:aO}{n i:Nat}(j:l.length=n):fV (x::(l++r)) (n+1+i) xs=x::(l++fV r i xs):=by
 unfold fV;rw[show n+1+i=(n+i)+1 by omega,take_succ_cons,show n+i+1+xs.length=(n+(i+xs.length))+1 by omega,drop_succ_cons];rw[<-j,take_length_add_append,drop_length_add_append];simp
theorem ay.set0(r:ay)(x:ByteArray):r.v.set 0 (.string x)={r with text:=x}.v:=F
theorem ay.JX(r:ay)(x:aj)(h:r.member.length=16)(j:x.length=16):fV r.v 1 (x.map Y)={r with member:=x}.v:=by
 unfold ay.v;exact Xt (by rw[length_map,length_map,h,j])
theorem ay.DZ(r:ay)(a:aN)(n c:Nat)(ls:aT)(h:r.member.length=16):r.v.set 17 (.slice a n c)={r with ra:=a,rn:=n,rc:=c,roles:=ls}.v:=by
 unfold ay.v;exact JW (n:=16) (i:=0) (by rw[length_map,h])
theorem ay.D5(r:ay)(x:ByteArray)(h:r.member.length=16):r.v.set 18 (.string x)={r with label:=x}.v:=by
 unfold ay.v;exact JW (n:=16) (i:=1) (by rw[length_map,h])
theorem ay.Gn(r:ay)(x:aj)(h:r.member.length=16)(hc:r.commit.length=32)(E:x.length=32):fV r.v 19 (x.map Y)={r with commit:=x}.v:=by
 unfold ay.v;have j:=Xu (x:= .string r.text) (l:=r.member.map Y) (r:= .slice r.ra r.rn r.rc:: .string r.label::(r.commit.map Y++r.t)) (xs:=x.map Y) (n:=16) (i:=2) (by rw[length_map,h]);refine j.trans ?_;have u:fV (.slice r.ra r.rn r.rc:: .string r.label::(r.commit.map Y++r.t)) 2 (x.map Y)= .slice r.ra r.rn r.rc:: .string r.label::(x.map Y++r.t):=by
  unfold fV;rw[length_map,E,take_succ_cons,take_succ_cons,take_zero,show 2+32=32+1+1 by omega,drop_succ_cons,drop_succ_cons,drop_left' (by rw[length_map,hc])];rfl
 rw[u];rfl
theorem ay.zQ(r:ay)(i:Nat)(v:Value)(h:r.member.length=16)(hc:r.commit.length=32):r.v.set (51+i) v= .string r.text::(r.member.map Y++(.slice r.ra r.rn r.rc:: .string r.label::(r.commit.map Y++r.t.set i v))):=by grind [ay.v]
theorem ay.D6(r:ay)(n:Int)(h:r.member.length=16)(hc:r.commit.length=32):r.v.set 51 (.int .i64 n)={r with epoch:=n}.v:=r.zQ 0 _ h hc
theorem ay.JY(r:ay)(n:Int)(h:r.member.length=16)(hc:r.commit.length=32):r.v.set 52 (.int .i64 n)={r with purpose:=n}.v:=r.zQ 1 _ h hc
theorem ay.JZ(r:ay)(n:Int)(h:r.member.length=16)(hc:r.commit.length=32):r.v.set 53 (.int .i64 n)={r with reason:=n}.v:=r.zQ 2 _ h hc
theorem ay.J3(r:ay)(n:Int)(h:r.member.length=16)(hc:r.commit.length=32):r.v.set 54 (.int .i64 n)={r with need:=n}.v:=r.zQ 3 _ h hc
theorem ay.J4(r:ay)(n:Int)(h:r.member.length=16)(hc:r.commit.length=32):r.v.set 55 (.int .i64 n)={r with version:=n}.v:=r.zQ 4 _ h hc
theorem ay.J5(r:ay)(n:Int)(h:r.member.length=16)(hc:r.commit.length=32):r.v.set 56 (.int .i64 n)={r with count:=n}.v:=r.zQ 5 _ h hc
theorem ay.J6(r:ay)(a:aN)(n c:Nat)(ls:List (aj))(h:r.member.length=16)(hc:r.commit.length=32):r.v.set 57 (.slice a n c)={r with ha:=a,hn:=n,hc:=c,mK:=ls}.v:=r.zQ 6 _ h hc
def bJ(w:World)(B:Nat)(a:aN)(xs:aO):Prop:=xs=[]∨∃b off,a=some ⟨b,off,none⟩/\B<=b/\∀i u,xs[i]? =some u->w.cell? ⟨b,off+i,none⟩=some u
theorem bJ.cells{w:World}{B:Nat}{a:aN}{xs:aO}(h:bJ w B a xs):aK w a xs:=by grind [bJ,aK]
theorem bJ.turn{w w':World}{B:Nat}{a:aN}{xs:aO}(h:bJ w B a xs)(e:∀k,B<=k->k<w.heap.size->w'.heap[k]? =w.heap[k]?):bJ w' B a xs:=by
 rcases h with h|⟨b,off,ha,hb,h⟩
 ·exact .inl h
 ·refine .inr ⟨b,off,ha,hb,fun i u E=> ?_⟩;have j:=h i u E;exact wu j (e b hb (block_lt_of_cell j))
theorem bJ.grown{w w':World}{B k:Nat}{a:aN}{xs:aO}(h:bJ w B a xs)(g:w.grownBy w' (some k))(hk:k<B):bJ w' B a xs:=
 h.turn fun i u j=>g.block i j (by simp;omega)
theorem bJ.upd{w w':World}{B k:Nat}{a:aN}{xs:aO}(h:bJ w B a xs)(g:aU w k w')(hk:k<B):bJ w' B a xs:=
 h.turn fun i j _=>g.block i J
theorem bJ.ext{w w':World}{B:Nat}{a:aN}{xs:aO}(h:bJ w B a xs)(e:X w w'):bJ w' B a xs:=
 h.turn fun i _ j=>e.block i j
theorem bJ.xC{w:World}{B:Nat}{T:TypeId}{z:Nat}{a:aN}{n c m:Nat}{xs:aO}(al:0<z)(h:w.ownsRow B T z (.slice a n c) m xs):bJ w B a xs/\n=m/\n<=c:=by
 obtain⟨ai,h⟩:=h;rcases h with⟨j,rfl⟩|⟨aa,cap,cu,j,hb,ad,ab,af,ag,ac⟩
 ·injection j with j I R;subst j I R;exact⟨.inl (length_eq_zero_iff.1 J),F,Nat.le_refl _⟩
 ·injection j with j I R;subst j I R;refine⟨.inr ⟨aa,0,F,hb,fun i u E=> ?_⟩,F,ab⟩;rw[<-ac]at E;have ae:=(List.getElem?_eq_some_iff.1 E).1;rw[List.getElem?_take_of_lt (by simp only[length_take]at ae;omega)]at E;rw[Nat.zero_add];exact ah.cell' (vs:=cu.toList) (T:=T) (by simpa[ah]using ad) E
structure ay.Fit(b:ay):Prop where
 ts:b.text.size<=140737488355328
 hm:b.member.length=16
 hcm:b.commit.length=32
 rl:b.roles.length=b.rn
 qZ:b.rn<=b.rc
 rm:b.rn<=256
 rs:∀s∈b.roles,s.size<=140737488355328
 ls:b.label.size<=140737488355328
 hl:b.mK.length=b.hn
 hnc:b.hn<=b.hc
 vZ:b.hn<=256
 h16:oP b.mK
theorem ay.Fit.ok{b:ay}{w:World}{B:Nat}(h:b.Fit)(u:bJ w B b.ra (b.roles.map bM))(j:bJ w B b.ha (dB b.mK)):b.Ok w:=
 ⟨h.ts,h.hm,h.hcm,h.rl,h.qZ,by have:=h.rm;omega,u.cells,h.rs,h.ls,h.hl,h.hnc,by have:=h.vZ;omega,h.h16,j.cells⟩
theorem oW{f:aj->Int}{sq:List Nat}{i:Nat}{R j u:bZ}{l0 l E:aj}{s0 s I:Bool}(h:fA (jC f sq R) l0 s0 j l s)(k:fA (iP f i j) l s u E I):fA (jC f (sq++[i]) R) l0 s0 u E I:=by
 refine(h.bind (q:=fun x=>iP f i x) k).congr ?_;rw[Pm]
theorem D7{α:Type}{f:aj->Int}{sq:List Nat}{i:Nat}{b:Bool}{aa j:bZ}{l0 l E:aj}{s0 s I:Bool}{p:aj->Option (α×aj)}{d y:α}(u:bZ->α->bZ)(ad:u j d=j)(hf:∀x l,iP f i x l=(p l).map fun q=>(u x q.1,q.2))
 (h:fA (jC f sq aa) l0 s0 j l s)(k:fA (JU b p d) l s y E I):fA (jC f (sq++if b then[i]else[]) aa) l0 s0 (u j y) E I:=by
 cases b with
 |true=>
  refine oW h ?_;exact(k.map (u j)).congr (by rw[hf];rfl)
 |false=>
  have R:fA (fun l=>some (d,l)) l s y E I:=k;have e:(sq++if false=true then[i]else[])=sq:=aF;rw[e];refine⟨fun ab=> ?_,fun ac=> ?_⟩
  ·obtain⟨k1,k2⟩:=R.1 ab;injection k2 with k2;injection k2 with k2 k3;rw[<-k2,<-k3,ad];exact h.1 k1
  ·rcases R.2 ac with k1|k1
   ·exact h.2 k1
   ·cases k1
theorem PD{α:Type}(f:aj->Option (α×aj)):∀(k:Nat) (xs:List α) (l:aj),kW f (k+1) xs l=(kW f k xs l).bind fun p=>(f p.2).map fun q=>(p.1++[q.1],q.2)
 |0,xs,l=>by
  show(f l).bind (fun p=>some (xs++[p.1],p.2))=(f l).map _;cases f l<;>rfl
 |k+1,xs,l=>by
  rw[kW]
  conv=>rhs;rw[kW]
  cases f l with
  |none=>rfl
  |some p=>exact PD f k (xs++[p.1]) p.2
theorem Gp{α:Type}{f:aj->Option (α×aj)}{k:Nat}{xs:List α}{x:α}{l j u:aj}{s E I:Bool}(h:fA (kW f k []) l s xs j E)(t:fA f j E x u I):fA (kW f (k+1) []) l s (xs++[x]) u I:=by
 refine(h.bind (q:=fun xs l=>(f l).map fun q=>(xs++[q.1],q.2)) (t.map fun x=>xs++[x])).congr ?_;rw[PD]
theorem Gq{α:Type}{f:aj->Int}{g:aj->Option (α×aj)}{sq:List Nat}{i n:Nat}{b:Bool}{ab j:bZ}{l0 l E I:aj}{s0 s R aa:Bool}{ys:List α}(u:bZ->List α->bZ)(ac:u j []=j)
 (hf:∀x l,iP f i x l=(kV l).bind fun p=>(kW g p.1 [] p.2).map fun q=>(u x q.1,q.2))
 (h:fA (jC f sq ab) l0 s0 j l s)(k:fA (JU b kV 0) l s n E R)(m:fA (kW g n []) E R ys I aa):fA (jC f (sq++if b then[i]else[]) ab) l0 s0 (u j ys) I aa:=by
 have ad:=k.bind (q:=fun n l=>kW g n [] l) m;refine D7 (b:=b) (d:=[]) (p:=fun l=>(kV l).bind fun p=>kW g p.1 [] p.2) u ac (fun x l=> ?_) h (ad.congr ?_)
 ·rw[hf];cases kV l<;>rfl
 ·cases b<;>rfl
section
open Go Go.RowKit
def dI:ay:=⟨⟨#[]⟩,List.replicate 16 0,none,0,0,[],⟨#[]⟩,List.replicate 32 0,0,0,0,0,0,0,none,0,0,[]⟩
theorem rE:dI.Fit:=⟨aX,aX,aX,F,aX,aX,(fun _ h=>by cases h),aX,F,aX,aX,(fun _ h=>by cases h)⟩
structure ni(w0:World)(D g:Nat)(bs:List Bool)(l0:aj)(s0:Bool)(sq:List Nat)(w:World)(r:ay)(l:aj)(s:Bool):Prop where
 body:ah w (w0.heap.size+2) r.v 101
 needs:ah w w0.heap.size (bs.map .bool) 304
 res:ah w (w0.heap.size+1) dI.v 101
 rd:gI RT D w g l s
 took:fA (jC jV sq kD) l0 s0 r.p l s
 grown:w0.grownBy w (some g)
 fit:r.Fit
 jF:bJ w (w0.heap.size+3) r.ra (r.roles.map bM)
 hhi:bJ w (w0.heap.size+3) r.ha (dB r.mK)
structure xE(r:ay):Prop where
 a:r.ra=none
 n:r.rn=0
 c:r.rc=0
 l:r.roles=[]
structure ug(r:ay):Prop where
 a:r.ha=none
 n:r.hn=0
 c:r.hc=0
 l:r.mK=[]
structure D8(b:ay):Prop where
 p:b.purpose=0
 r:b.reason=0
 n:b.need=0
 v:b.version=0
theorem fM:dI.v.length=58:=aX
theorem uO(w:World)(o:Obj):(w.alloc o).heap.size=w.heap.size+1:=Array.size_push ..
theorem lD(r:ay):∀v∈r.v,v.oneCell'=true:=by
 intro v j;unfold ay.v ay.t at j;simp only[mem_cons,mem_append,not_mem_nil,or_false]at j;rcases j with rfl|h|rfl|rfl|h|rfl|rfl|rfl|rfl|rfl|rfl|rfl
 ·rfl
 ·exact b_ _ v h
 ·rfl
 ·rfl
 ·exact b_ _ v h
 all_goals rfl
theorem bJ.lower{w:World}{B B':Nat}{a:aN}{xs:aO}(h:bJ w B a xs)(hb:B'<=B):bJ w B' a xs:=by grind [bJ]
theorem Xv(p:Nat->Bool)(i:Nat):[i].filter p=if p i=true then[i]else[]:=by
 cases h:p i<;>simp[h]
theorem zS(sq:List Nat)(i:Nat):(sq++if(false=true)then[i]else[])=sq:=aF
theorem Bo(sq:List Nat)(i:Nat):(sq++if(true=true)then[i]else[])=sq++[i]:=aF
section
variable {w0:World} {D g:Nat} {bs:List Bool} {l0:aj} {s0:Bool} {sq zT:List Nat} {w:World} {r:ay} {l:aj} {s:Bool}
theorem ni.seq(h:ni w0 D g bs l0 s0 sq w r l s)(e:sq=zT):ni w0 D g bs l0 s0 zT w r l s:=e▸h
theorem ni.store(h:ni w0 D g bs l0 s0 sq w r l s){w2 R:World}{E:aj}{I:Bool}{r2:ay}(ag:g<w0.heap.size)(af:D<=w0.heap.size)(j:w.grownBy w2 (some g))(rd:gI RT D w2 g E I)(u:aU w2 (w0.heap.size+2) R)(hb:ah R (w0.heap.size+2) r2.v 101)
 (ae:fA (jC jV zT kD) l0 s0 r2.p E I)(fit:r2.Fit)(aa:r2.ra=r.ra)(ab:r2.roles=r.roles)(ac:r2.ha=r.ha)(ad:r2.mK=r.mK):ni w0 D g bs l0 s0 zT R r2 E I where
 body:=hb
 needs:=(h.needs.grown j (by simp;omega)).upd u J
 res:=(h.res.grown j (by simp;omega)).upd u J
 rd:=rd.upd u J J
 took:=ae
 grown:=DI (l9 h.grown j) u J
 fit:=fit
 jF:=by rw[aa,ab];exact(h.jF.grown j J).upd u J
 hhi:=by rw[ac,ad];exact(h.hhi.grown j J).upd u J
theorem ni.aM(h:ni w0 D g bs l0 s0 sq w r l s){w2:World}(u:g<w0.heap.size)(j:w.grownBy w2 (some g)):ah w2 (w0.heap.size+2) r.v 101:=h.body.grown j (by simp;omega)
theorem ni.Bq(h:ni w0 D g bs l0 s0 sq w r l s){w2:World}(u:g<w0.heap.size)(j:w.grownBy w2 (some g)):ah w2 w0.heap.size (bs.map .bool) 304:=h.needs.grown j (by simp;omega)
end
theorem PE{j:bZ}{n:Nat}{l u x:aj}{s E:Bool}(hn:l.length=n)(h:fA (fK n) l s x u E):fA (iP jV 0 j) l s {j with text:=aY x} u E:=by grind [fK,bZ,fA,iP,jV,aY]
theorem Xw{j:bZ}{l u x:aj}{s E:Bool}(h:fA (fK 4) l s x u E):fA (iP jV 5 j) l s {j with epoch:=(jM x:Int)} u E:=by grind [jM,bZ,fA,fK,iP,jV]
theorem Gs{x:aj}(h:x.length=4):jM x=(iW x 0).toNat:=by
 have:=Pj (l:=x) (p:=0) J;rw[drop_zero,take_of_length_le J]at this;exact this
theorem Xx:(prog.info? 9).map (fun i=>(i.zero,i.size,i.bytes))=some (some (.string ⟨#[]⟩),1,16):=au
theorem J7:(prog.info? 29).map (fun i=>(i.zero,i.size,i.bytes))=some (some (.agg (List.replicate 16 (.int .u8 0)).toArray),16,16):=au
theorem Xy:(Value.agg (List.replicate 16 (.int .u8 0)).toArray).cells.size=16:=by simp[Value.cells]
theorem PG{ops:Array Oper}{rest:List Oper}{o:Oper}{a:Act}{w:World}{Q:Exit->Act->World->Prop}(aa:o.guard=none)(s x:Operand)
 (ac:o.op= .call {callee:= .builtin .append,args:= #[s,x],argTypes:= #[98,98]})(base:Nat){v:Value}{n c g:Nat}{ls:aT}{y:ByteArray}{T:TypeId}
 (hs:a.eval s=v)(af:a.eval x= .slice (some ⟨g,0,none⟩) 1 c)(ad:w.ownsRow base 9 1 v n (ls.map bM))(hb:ah w g [.string y] T)
 (hn:(n+1)*16<=140737488355328)(R:base<=w.heap.size)
 (h:∀v' w',w'.ownsRow base 9 1 v' (n+1) ((ls++[y]).map bM)->w.grownBy w' v.ownBlock->wpList prog ops Q rest (a.put o.dst v') w'):wpList prog ops Q (o::rest) a w:=by
 obtain⟨ai,ab,ag,mU,I⟩:=info_parts Xx;exact wpList_append_own w aa s x 98 ac base 9 ai _ 1 16 underlying98 ab ag mU I F aX v n (ls.map bM) hs ad ⟨g,0,none⟩ 1 c [.string y] af
  rfl (tJ hb) (by intro u ae;rw[mem_singleton.1 ae];rfl) (by unfold maxLen;omega) hn R (fun v' w' j E _=>h v' w' (by rw[map_append];exact j) E)
theorem PI{ops:Array Oper}{rest:List Oper}{o:Oper}{a:Act}{w:World}{Q:Exit->Act->World->Prop}(R:o.guard=none)(s x:Operand)
 (ab:o.op= .call {callee:= .builtin .append,args:= #[s,x],argTypes:= #[99,99]})(base:Nat){v:Value}{n c g:Nat}{ls:List (aj)}{y:aj}{T:TypeId}
 (hs:a.eval s=v)(ad:a.eval x= .slice (some ⟨g,0,none⟩) 1 c)(ac:w.ownsRow base 29 16 v n (dB ls))(ae:y.length=16)(hb:ah w g (y.map Y) T)
 (hn:(n+1)*16<=140737488355328)(I:base<=w.heap.size)
 (h:∀v' w',w'.ownsRow base 29 16 v' (n+1) (dB (ls++[y]))->w.grownBy w' v.ownBlock->wpList prog ops Q rest (a.put o.dst v') w'):wpList prog ops Q (o::rest) a w:=by
 obtain⟨ag,aa,af,mU,E⟩:=info_parts J7;exact wpList_append_own w R s x 99 ab base 29 ag _ 16 16 underlying99 aa af mU E Xy aX v n (dB ls) hs ac ⟨g,0,none⟩ 1 c (y.map Y) ad
  (by rw[length_map,ae]) (tJ hb) (b_ _) (by unfold maxLen;omega) hn I (fun v' w' j u _=>h v' w' (by rw[Oh,Oi];exact j) u)
theorem Xz(y:aj)(E:y.length=16)(j:Array Value)(hc:j.size=16):Instr.fill (fun i=>some (i*16,16)) j [(0,.agg (y.map Y).toArray)]=some (y.map Y).toArray:=by
 have h:=Great.fill_whole (s:=16) J [.agg (y.map Y).toArray] j (by intro v u;rw[mem_singleton.1 u];simp[Value.cells,E]) (by simp[hc]);simpa[Value.cells]using h
theorem PK{ops:Array Oper}{rest:List Oper}{o:Oper}{a:Act}{w:World}{Q:Exit->Act->World->Prop}(I:o.guard=none){x:Operand}{y:aj}(aa:o.op= .buildSlice 99 1 #[(0,x)])(ac:a.eval x= .agg (y.map Y).toArray)(ad:y.length=16)
 (h:wpList prog ops Q rest (a.put o.dst (.slice (some ⟨w.heap.size,0,none⟩) 1 1)) (w.alloc (.cells (y.map Y).toArray 29))):wpList prog ops Q (o::rest) a w:=by
 obtain⟨af,R,ae,mU,ag⟩:=info_parts J7;refine wpList_plain I fun K u=> ?_;have ab:(execOp a.eval o).run prog w= .ok (.value (.slice (some ⟨w.heap.size,0,none⟩) 1 1)) (w.alloc (.cells (y.map Y).toArray 29)):=by
  have h:=run_buildSlice (P:=prog) w 99 29 1 #[(0,.agg (y.map Y).toArray)] (y.map Y).toArray af _ underlying99 R ae (by rw[mU];omega) (by rw[mU];omega) (by rw[mU];exact Xz y ad _ aF);have E:(#[(0,x)].map fun(p:Nat×Operand)=>(p.1,a.eval p.2))= #[(0,.agg (y.map Y).toArray)]:=by simp[ac]
  unfold execOp;simp only[aa,Sem.run_bind];have j:(Instr.buildSlice 99 1 (#[(0,x)].map fun(p:Nat×Operand)=>(p.1,a.eval p.2))).run prog w= .ok (.slice (some ⟨w.heap.size,0,none⟩) 1 1) (w.alloc (.cells (y.map Y).toArray 29)):=by rw[E];exact h
  rw[j];rfl
 unfold Oper.wp;rw[ab,Oper.upon_value];exact u _ _ h
def yF(w:World)(B E:Nat)(a:aN)(xs:aO):Prop:=xs=[]∨∃b off,a=some ⟨b,off,none⟩/\B<=b/\b<E/\∀i u,xs[i]? =some u->w.cell? ⟨b,off+i,none⟩=some u
theorem yF.hi{w:World}{B E:Nat}{a:aN}{xs:aO}(h:yF w B E a xs):bJ w B a xs:=by grind [yF,bJ]
theorem yF.turn{w w':World}{B E:Nat}{a:aN}{xs:aO}(h:yF w B E a xs)(e:∀k,B<=k->k<E->w'.heap[k]? =w.heap[k]?):yF w' B E a xs:=by grind [yF,wu]
theorem bJ.bt{w:World}{B:Nat}{a:aN}{xs:aO}(h:bJ w B a xs):yF w B w.heap.size a xs:=by
 rcases h with h|⟨b,off,ha,hb,h⟩
 ·exact .inl h
 ·by_cases j:xs=[]
  ·exact .inl j
  ·obtain⟨u,E⟩:∃u,xs[0]? =some u:=⟨xs[0]'(length_pos_iff.2 j),aF⟩;exact .inr ⟨b,off,ha,hb,block_lt_of_cell (h 0 u E),h⟩
theorem ay.XA{b:ay}(h:b.Fit):b.v[17]? =some (.slice b.ra b.rn b.rc):=by
 unfold ay.v;exact lC (n:=16) (i:=0) (by rw[length_map,h.hm])
theorem ay.Gt{b:ay}(h:b.Fit):b.v[18]? =some (.string b.label):=by
 unfold ay.v;exact lC (n:=16) (i:=1) (by rw[length_map,h.hm])
theorem ay.J8{b:ay}(h:b.member.length=16)(hc:b.commit.length=32):b.v[52]? =some (.int .i64 b.purpose):=by
 unfold ay.v;rw[show 52=16+1+(32+1+(1+1)) by rfl,lC (by rw[length_map,h]),show 32+1+(1+1)=(32+1+1)+1 by rfl,List.getElem?_cons_succ];exact lC (n:=32) (i:=1) (by rw[length_map,hc])
theorem ay.PL{b:ay}(h:b.member.length=16)(hc:b.commit.length=32):b.v[53]? =some (.int .i64 b.reason):=by
 unfold ay.v;rw[show 53=16+1+(32+1+(2+1)) by rfl,lC (by rw[length_map,h]),show 32+1+(2+1)=(32+1+2)+1 by rfl,List.getElem?_cons_succ];exact lC (n:=32) (i:=2) (by rw[length_map,hc])
theorem ay.J9{b:ay}(h:b.member.length=16)(hc:b.commit.length=32):b.v[54]? =some (.int .i64 b.need):=by
 unfold ay.v;rw[show 54=16+1+(32+1+(3+1)) by rfl,lC (by rw[length_map,h]),show 32+1+(3+1)=(32+1+3)+1 by rfl,List.getElem?_cons_succ];exact lC (n:=32) (i:=3) (by rw[length_map,hc])
theorem ay.PN{b:ay}(h:b.member.length=16)(hc:b.commit.length=32):b.v[55]? =some (.int .i64 b.version):=by
 unfold ay.v;rw[show 55=16+1+(32+1+(4+1)) by rfl,lC (by rw[length_map,h]),show 32+1+(4+1)=(32+1+4)+1 by rfl,List.getElem?_cons_succ];exact lC (n:=32) (i:=4) (by rw[length_map,hc])
theorem ay.Bv{b:ay}(h:b.member.length=16)(hc:b.commit.length=32):b.v[51]? =some (.int .i64 b.epoch):=by
 unfold ay.v;rw[show 51=16+1+(32+1+(0+1)) by rfl,lC (by rw[length_map,h]),show 32+1+(0+1)=(32+1+0)+1 by rfl,List.getElem?_cons_succ];exact lC (n:=32) (i:=0) (by rw[length_map,hc])
theorem ay.J_{b:ay}(h:b.member.length=16)(hc:b.commit.length=32):b.v[56]? =some (.int .i64 b.count):=by
 unfold ay.v;rw[show 56=16+1+(32+1+(5+1)) by rfl,lC (by rw[length_map,h]),show 32+1+(5+1)=(32+1+5)+1 by rfl,List.getElem?_cons_succ];exact lC (n:=32) (i:=5) (by rw[length_map,hc])
theorem ay.Ko{b:ay}(h:b.member.length=16)(hc:b.commit.length=32):b.v[57]? =some (.slice b.ha b.hn b.hc):=by
 unfold ay.v;rw[show 57=16+1+(32+1+(6+1)) by rfl,lC (by rw[length_map,h]),show 32+1+(6+1)=(32+1+6)+1 by rfl,List.getElem?_cons_succ];exact lC (n:=32) (i:=6) (by rw[length_map,hc])
theorem yG{w w':World}{B:Nat}{e:TypeId}{z:Nat}{v:Value}{n:Nat}{xs:aO}(h:w.ownsRow B e z v n xs)(k:∀i,B<=i->i<w.heap.size->w'.heap[i]? =w.heap[i]?):w'.ownsRow B e z v n xs:=by
 refine⟨h.1,?_⟩;rcases h.2 with h|⟨g,cap,cu,E,u,j,I⟩
 ·exact .inl h
 ·refine .inr ⟨g,cap,cu,E,u,?_,I⟩;rw[k g u (by rw[Array.getElem?_eq_some_iff]at j;exact j.1)];exact j
theorem Gu{w:World}{B:Nat}{T:TypeId}{z:Nat}{v:Value}{n:Nat}{xs:aO}(h:w.ownsRow B T z v n xs):∃a c,v= .slice a n c:=by
 rcases h.2 with⟨rfl,rfl⟩|⟨j,cap,cu,rfl,_⟩
 ·exact⟨_,_,F⟩
 ·exact⟨_,_,F⟩
theorem xE.D9{r:ay}(h:xE r):{r.p with roles:=[]}=r.p:=by
 unfold ay.p;rw[h.l]
theorem ug.D9{r:ay}(h:ug r):{r.p with mK:=[]}=r.p:=by
 unfold ay.p;rw[h.l]
theorem xE.eq{r:ay}(h:xE r):{r with ra:=none,rn:=0,rc:=0,roles:=[]}=r:=by grind [ay,xE]
theorem ug.eq{r:ay}(h:ug r):{r with ha:=none,hn:=0,hc:=0,mK:=[]}=r:=by grind [ay,ug]
structure PO(w0:World)(D g:Nat)(bs:List Bool)(r:ay)(l1:aj)(s1:Bool)(k:Nat)(w:World)(a:aN)(c:Nat)(ls:aT)(lk:aj)(sk:Bool):Prop where
 body:ah w (w0.heap.size+2) {r with ra:=a,rn:=k,rc:=c,roles:=ls}.v 101
 needs:ah w w0.heap.size (bs.map .bool) 304
 res:ah w (w0.heap.size+1) dI.v 101
 rd:gI RT D w g lk sk
 took:fA (kW rD k []) l1 s1 ls lk sk
 grown:w0.grownBy w (some g)
 len:ls.length=k
 D_:∀s∈ls,s.size<=140737488355328
 own:w.ownsRow (w0.heap.size+3) 9 1 (.slice a k c) k (ls.map bM)
 hhi:bJ w (w0.heap.size+3) r.ha (dB r.mK)
structure PS(w0:World)(D g E:Nat)(bs:List Bool)(r:ay)(l1:aj)(s1:Bool)(k:Nat)(w:World)(a:aN)(c:Nat)(ls:List (aj))(lk:aj)(sk:Bool):Prop where
 body:ah w (w0.heap.size+2) {r with ha:=a,hn:=k,hc:=c,mK:=ls}.v 101
 needs:ah w w0.heap.size (bs.map .bool) 304
 res:ah w (w0.heap.size+1) dI.v 101
 rd:gI RT D w g lk sk
 took:fA (kW (fK 16) k []) l1 s1 ls lk sk
 grown:w0.grownBy w (some g)
 len:ls.length=k
 h16:oP ls
 own:w.ownsRow E 29 16 (.slice a k c) k (dB ls)
 PU:yF w (w0.heap.size+3) E r.ra (r.roles.map bM)
 le:E<=w.heap.size
end
end Go.Proofs.YtjlhhnkhcbpnjaaGreatDoor
