/- Laws that the row leans on; no condition. -/
import Derived.WalkKit
import Derived.Deep.Draws
import Derived.Deep.Quiet
import Derived.Deep.RegionLaw
import Derived.Test.YtjlhhnkhcbpnjaaGreatDoorProg
import Derived.OrdersHeld
import Derived.Deep.RegionHeld3
import Derived.Deep.QuietTactic
import Derived.WalkSpells
import Derived.WalkLawsBesides
import Derived.Laws.AppendOwn
import Derived.Laws.StructEq
namespace Go.Proofs.YtjlhhnkhcbpnjaaGreatDoor
open Go Go.RowKit List Tryz
set_option linter.unusedVariables false
set_option linter.unusedSimpArgs false
set_option maxHeartbeats 40000000
set_option maxRecDepth 100000
theorem J{P:Prop}(h:P:=by omega):P:=h
theorem au{P:Prop}(h:P:=by kernel_rfl):P:=h
theorem aF{P:Prop}(h:P:=by simp):P:=h
theorem aX{P:Prop}(h:P:=by decide):P:=h
theorem l5{n:Nat}:n<=n:=Nat.le_refl n
theorem aQ{p:Prop}[Decidable p](h:p):decide p=true:=decide_eq_true h
theorem aP{p:Prop}[Decidable p](h:¬p):decide p=false:=decide_eq_false h
theorem F{α:Sort _}{a:α}:a=a:=rfl
theorem aC{α:Sort _}(x:α):∃y,x=y:=⟨x,rfl⟩
theorem aB{j u:Prop}(E:j)(I:u):Hid j/\Hid u:=⟨E,I⟩
theorem aW{j u E:Prop}(I:j)(R:u)(aa:E):Hid j/\Hid u/\Hid E:=⟨I,R,aa⟩
theorem bU{j u E I:Prop}(R:j)(aa:u)(ab:E)(ac:I):Hid j/\Hid u/\Hid E/\Hid I:=⟨R,aa,ab,ac⟩
theorem dM{j u E I R:Prop}(aa:j)(ab:u)(ac:E)(ad:I)(ae:R):Hid j/\Hid u/\Hid E/\Hid I/\Hid R:=⟨aa,ab,ac,ad,ae⟩
theorem iq{j u E I R aa:Prop}(ab:j)(ac:u)(ad:E)(ae:I)(af:R)(ag:aa):Hid j/\Hid u/\Hid E/\Hid I/\Hid R/\Hid aa:=⟨ab,ac,ad,ae,af,ag⟩
theorem su{j u E I R aa ab:Prop}(ac:j)(ad:u)(ae:E)(af:I)(ag:R)(ai:aa)(al:ab):Hid j/\Hid u/\Hid E/\Hid I/\Hid R/\Hid aa/\Hid ab:=⟨ac,ad,ae,af,ag,ai,al⟩
theorem jg{j u E I R aa ab ac:Prop}(ad:j)(ae:u)(af:E)(ag:I)(ai:R)(al:aa)(am:ab)(an:ac):Hid j/\Hid u/\Hid E/\Hid I/\Hid R/\Hid aa/\Hid ab/\Hid ac:=⟨ad,ae,af,ag,ai,al,am,an⟩
theorem jw{P:Prop}(h:P:=by simp only[Act.put,List.setIfInBounds_toArray,List.set_cons_succ,List.set_cons_zero]):P:=h
abbrev aj:=List UInt8
abbrev aO:=List Value
abbrev aN:=Option Addr
abbrev aT:=List ByteArray
theorem jE{α:Sort _}(x:α):∃y,y=x:=⟨x,rfl⟩
def Y(x:UInt8):Value:= .int .u8 (x.toNat:Int)
def gY(x:UInt32):Value:= .int .u32 (x.toNat:Int)
theorem zl(x:UInt8):(x.toNat:Int)<256:=by have:=x.toNat_lt;omega
theorem NI(x:UInt32):(x.toNat:Int)<4294967296:=by have:=x.toNat_lt;omega
theorem AU(a b:Nat)(ha:a<4294967296)(hb:b<4294967296):
 bits .xor .u32 a b=((a ^^^ b:Nat):Int)/\bits .or .u32 a b=((a ||| b:Nat):Int)/\bits .and .u32 a b=((a &&& b:Nat):Int):=by
 have E:a ^^^ b<2^32:=Nat.xor_lt_two_pow J J;have I:a ||| b<2^32:=Nat.or_lt_two_pow J J;have R:a &&& b<2^32:=Nat.and_lt_two_pow _ J;have j:(BitVec.ofInt 32 (a:Int)).toNat=a:=by simp;omega
 have u:(BitVec.ofInt 32 (b:Int)).toNat=b:=by simp;omega
 refine⟨?_,?_,?_⟩
 ·change IntKind.u32.wrap ((BitVec.ofInt 32 (a:Int) ^^^ BitVec.ofInt 32 (b:Int)).toNat:Int)=_;rw[BitVec.toNat_xor,j,u,IntKind.wrap_u32'];omega
 ·change IntKind.u32.wrap ((BitVec.ofInt 32 (a:Int) ||| BitVec.ofInt 32 (b:Int)).toNat:Int)=_;rw[BitVec.toNat_or,j,u,IntKind.wrap_u32'];omega
 ·change IntKind.u32.wrap ((BitVec.ofInt 32 (a:Int) &&& BitVec.ofInt 32 (b:Int)).toNat:Int)=_;rw[BitVec.toNat_and,j,u,IntKind.wrap_u32'];omega
theorem NJ(a b:Nat)(ha:a<256)(hb:b<256):
 bits .xor .u8 a b=((a ^^^ b:Nat):Int)/\bits .or .u8 a b=((a ||| b:Nat):Int)/\bits .and .u8 a b=((a &&& b:Nat):Int):=by
 have E:a ^^^ b<2^8:=Nat.xor_lt_two_pow J J;have I:a ||| b<2^8:=Nat.or_lt_two_pow J J;have R:a &&& b<2^8:=Nat.and_lt_two_pow _ J;have j:(BitVec.ofInt 8 (a:Int)).toNat=a:=by simp;omega
 have u:(BitVec.ofInt 8 (b:Int)).toNat=b:=by simp;omega
 refine⟨?_,?_,?_⟩
 ·change IntKind.u8.wrap ((BitVec.ofInt 8 (a:Int) ^^^ BitVec.ofInt 8 (b:Int)).toNat:Int)=_;rw[BitVec.toNat_xor,j,u,IntKind.wrap_u8'];omega
 ·change IntKind.u8.wrap ((BitVec.ofInt 8 (a:Int) ||| BitVec.ofInt 8 (b:Int)).toNat:Int)=_;rw[BitVec.toNat_or,j,u,IntKind.wrap_u8'];omega
 ·change IntKind.u8.wrap ((BitVec.ofInt 8 (a:Int) &&& BitVec.ofInt 8 (b:Int)).toNat:Int)=_;rw[BitVec.toNat_and,j,u,IntKind.wrap_u8'];omega
theorem NK(x y:UInt32):bits .xor .u32 x.toNat y.toNat=((x ^^^ y).toNat:Int):=by
 rw[(AU _ _ x.toNat_lt y.toNat_lt).1,UInt32.toNat_xor]
theorem U7(x y:UInt32):IntKind.u32.wrap ((x.toNat:Int)+y.toNat)=((x+y).toNat:Int):=by
 rw[IntKind.wrap_u32',UInt32.toNat_add];omega
theorem U8(x y:UInt8):bits .xor .u8 x.toNat y.toNat=((x ^^^ y).toNat:Int):=by
 rw[(NJ _ _ x.toNat_lt y.toNat_lt).1,UInt8.toNat_xor]
def zk(x y:UInt32):UInt32:=x+y
def yt(x y:UInt32):UInt32:=x ^^^ y
def vO(x y:UInt8):UInt8:=x ^^^ y
theorem NM(x y:UInt32):IntKind.u32.wrap ((x.toNat:Int)+y.toNat)=((zk x y).toNat:Int):=U7 x y
theorem NP(x y:UInt32):bits .xor .u32 x.toNat y.toNat=((yt x y).toNat:Int):=NK x y
theorem Jb(x y:UInt8):bits .xor .u8 x.toNat y.toNat=((vO x y).toNat:Int):=U8 x y
def qj(x:UInt32)(k:Nat):UInt32:=UInt32.ofNat ((x.toNat*2^k%4294967296) ||| (x.toNat / 2^(32 - k)))
theorem U9(x:UInt32)(k:Nat):((qj x k).toNat:Int)=(((x.toNat*2^k%4294967296) ||| (x.toNat / 2^(32 - k)):Nat):Int):=by
 unfold qj;have j:x.toNat / 2^(32 - k)<2^32:=Nat.lt_of_le_of_lt (Nat.div_le_self _ _) x.toNat_lt;have u:x.toNat*2^k%4294967296<2^32:=Nat.mod_lt _ J;have E:=Nat.or_lt_two_pow u j;rw[UInt32.toNat_ofNat'];omega
theorem cO{j u:Prop}(h:j)(e:j->u:=by(intro hx;simp only[Act.put,setIfInBounds_toArray,set_cons_succ,set_cons_zero];exact hx)):u:=e h
theorem aH{j u:Prop}(h:j)(e:j->u:=by(intro hx;(try dsimp only);(try simp only[Act.put,setIfInBounds_toArray,set_cons_succ,set_cons_zero]);exact hx)):u:=e h
theorem lY{j u:Prop}(h:j)(e:j->u:=by(intro hx;(try simp only[Act.put,setIfInBounds_toArray,set_cons_succ,set_cons_zero]);exact hx)):u:=e h
section
open Go Go.RowKit
theorem O{p:Prop}(h:p):Hid p:=h
def ah(w:World)(g:Nat)(vs:aO)(T:TypeId):Prop:=w.heap[g]? =some (.cells vs.toArray T (0,0))
theorem ah.lt{w:World}{g:Nat}{vs:aO}{T:TypeId}(h:ah w g vs T):g<w.heap.size:=by grind [ah]
theorem ah.cell{w:World}{g:Nat}{vs:aO}{T:TypeId}(h:ah w g vs T){i:Nat}(j:i<vs.length):w.cell? ⟨g,i,none⟩=some vs[i]:=by
 unfold ah at h;simp[World.cell?,h,j]
theorem ah.cell'{w:World}{g:Nat}{vs:aO}{T:TypeId}(h:ah w g vs T){i:Nat}{v:Value}(j:vs[i]? =some v):w.cell? ⟨g,i,none⟩=some v:=by
 unfold ah at h;simp[World.cell?,h,j]
theorem ah.frozen{w:World}{g:Nat}{vs:aO}{T:TypeId}(h:ah w g vs T)(i:Nat):w.frozen? ⟨g,i,none⟩=false:=by
 unfold ah at h;simp[World.frozen?,h]
theorem ah.below{w w':World}{B g:Nat}{vs:aO}{T:TypeId}(h:ah w g vs T)(hb:Below B w w')(j:g<B):ah w' g vs T:=by
 unfold ah at*;rw[hb.block g j];exact h
theorem ah.drew{w:World}{g:Nat}{vs:aO}{T:TypeId}(h:ah w g vs T):ah w.drew g vs T:=h
theorem ah.drewN{w:World}{g n:Nat}{vs:aO}{T:TypeId}(h:ah w g vs T):ah (w.drewN n) g vs T:=h
theorem ah.yu(w:World)(vs:aO)(T:TypeId):ah (w.alloc (.cells vs.toArray T)) w.heap.size vs T:=by
 unfold ah;show(w.heap.push _)[w.heap.size]? =_;simp
theorem ah.aI{w:World}{j:Array Value}{vs:aO}{T:TypeId}{n:Nat}(hn:n=w.heap.size)(ha:vs.toArray=j):ah (w.alloc (.cells j T)) n vs T:=by
 subst hn;subst ha;exact ah.yu _ _ _
theorem ah.alloc{w:World}{g:Nat}{vs:aO}{T:TypeId}(h:ah w g vs T)(o:Obj):ah (w.alloc o) g vs T:=by
 have:=h.lt;unfold ah at*;show(w.heap.push _)[g]? =_;rw[Array.getElem?_push,if_neg J];exact h
theorem ah.set{w:World}{g:Nat}{vs:aO}{T:TypeId}(h:ah w g vs T)(i:Nat)(v:Value):ah (w.setCell ⟨g,i,none⟩ v) g (vs.set i v) T:=by simp_all [ah,World.setCell,Array.getElem?_modify,Option.map_some]
theorem ah.qm{w:World}{g:Nat}{vs:aO}{T:TypeId}(h:ah w g vs T)(a:Addr)(v:Value)(hn:g≠a.block):ah (w.setCell a v) g vs T:=by
 unfold ah at*;rw[Below.heap_setCell _ _ _ _ hn];exact h
def iH(P:Program)(ty:TypeId)(n:Nat):Prop:=(∃d,P.underlying ty=some d/\(match d with| .struct _| .array _ _=>true|_=>false)=true)/\(P.info? ty).map (·.size)=some n
theorem gG{P:Program}{u:Func}{j:Ending->World->Prop}{a:Act}{w:World}{p:Tmp}{ty:TypeId}{g:Nat}{vs:aO}{T:TypeId}
 (xL:u.results= #[.cell p ty])(aa:a.tmps.getD p undef= .pointer (some ⟨g,0,none⟩))(hb:ah w g vs T)
 {n:Nat}(ht:iH P ty n)(hn:vs.length=n)
 (I:a.defers=[])(E:j (.returned (.agg vs.toArray)) w):bodyPost P u j .ret a w:=by
 obtain⟨⟨d,ab,ac⟩,R⟩:=ht;exact bodyPost_ret (results_cell_row xL a.tmps w g T vs.toArray (0,0) d aa hb ab (by cases d<;>simp_all) (by rw[R,<-hn];simp)) I E
abbrev X(W w:World):Prop:=Below W.heap.size W w
theorem X.refl(w:World):X w w:=Below.refl _ _
abbrev Br(f:FuncId)(j:Array Value)(w:World)(v:Value):Prop:=Calls prog f j w fun e w'=>e= .returned v/\w=w'
abbrev nW(f:FuncId)(j:Array Value)(w:World)(v:Value):Prop:=Calls prog f j w fun e w'=>e= .returned v/\X w w'
theorem X.alloc{W w:World}(h:X W w)(o:Obj):X W (w.alloc o):=Below.alloc h h.size o
theorem X.set{W w:World}(h:X W w){p:Addr}(v:Value)(j:W.heap.size<=p.block):X W (w.setCell p v):=Below.setCell h j v
theorem X.drew{W w:World}(h:X W w):X W w.drew:=Below.drew h
theorem X.drewN{W w:World}(h:X W w)(n:Nat):X W (w.drewN n):=⟨h.os,h.tape,h.output,h.size,h.block⟩
theorem X.ext{W w w':World}(h:X W w)(k:X w w'):X W w':=Below.trans h (k.mono h.size)
theorem ah.ext{w w':World}{g:Nat}{vs:aO}{T:TypeId}(h:ah w g vs T)(k:X w w'):ah w' g vs T:=h.below k h.lt
structure aU(w:World)(g:Nat)(w':World):Prop where
 os:w'.os=w.os
 tape:w'.tape=w.tape
 output:w'.output=w.output
 size:w'.heap.size=w.heap.size
 block:∀k,k≠g->w'.heap[k]? =w.heap[k]?
theorem aU.ext{W w w':World}{g:Nat}(h:X W w)(k:aU w g w')(u:W.heap.size<=g):X W w':=
 ⟨k.os.trans h.os,k.tape.trans h.tape,k.output.trans h.output,by rw[k.size];exact h.size,fun i j=>(k.block i J).trans (h.block i j)⟩
theorem ah.upd{w w':World}{k g:Nat}{vs:aO}{T:TypeId}(h:ah w k vs T)(u:aU w g w')(hn:k≠g):ah w' k vs T:=by
 unfold ah at*;rw[u.block k hn];exact h
theorem aU.setRow{w:World}{g:Nat}(cs:Array Value):aU w g (w.setRow g cs):=
 ⟨F,F,F,aF,fun k hk=>setRow_other w g k cs hk⟩
theorem aU.setCell{w:World}{g i:Nat}(v:Value):aU w g (w.setCell ⟨g,i,none⟩ v):=by grind [aU,World.setCell]
theorem ah.setRow{w:World}{g:Nat}{vs:aO}{T:TypeId}(h:ah w g vs T)(j:aO):ah (w.setRow g j.toArray) g j T:=
 setRow_heap w g vs.toArray j.toArray T (0,0) h
theorem aU.refl(w:World)(g:Nat):aU w g w:=⟨F,F,F,F,fun _ _=>rfl⟩
theorem aU.trans{a b c:World}{g:Nat}(h:aU a g b)(k:aU b g c):aU a g c:=by grind [aU]
def fV(vs:aO)(o:Nat)(xs:aO):aO:=vs.take o++xs++vs.drop (o+xs.length)
section
variable {P:Program} {ops:Array Oper} {rest:List Oper} {o:Oper} {a:Act} {w:World} {Q:Exit->Act->World->Prop}
theorem AV{g off n:Nat}{vs:aO}{T ty:TypeId}(hb:ah w g vs T)(ht:iH P ty n)(hn:off+n<=vs.length):
 (loadVar ty ⟨g,off,none⟩).run P w= .ok (.agg ((vs.drop off).take n).toArray) w:=by
 obtain⟨⟨d,ae,af⟩,I⟩:=ht;have ad:((vs.drop off).take n).length=n:=by simp;omega
 have R:(loadCells ⟨g,off,none⟩ ((vs.drop off).take n).length).run P w= .ok ((vs.drop off).take n).toArray w:=
  run_loadCells_list (P:=P) w ⟨g,off,none⟩ _ (fun j v E=>by
   have ac:j<n:=by
    have:=(List.getElem?_eq_some_iff.1 E).1;omega
   have aa:(⟨g,off,none⟩:Addr).add j=⟨g,off+j,none⟩:=by unfold Addr.add;split<;>simp_all
   rw[aa];refine hb.cell' ?_;rw[List.getElem?_take_of_lt ac,List.getElem?_drop]at E;exact E)
 rw[ad]at R;cases u:P.info? ty with
 |none=>simp[u]at I
 |some i=>
  have hs:i.size=n:=by simpa[u]using I
  have ab:(isAgg ty).run P w= .ok true w:=by
   unfold isAgg;rw[Sem.run_bind,run_underlying ae w];cases d<;>simp_all
  simp[loadVar,Sem.run_bind,ab,sizeOf,typeInfo,u,hs,R]
theorem U_{g off:Nat}{vs xs:aO}{T ty:TypeId}(hb:ah w g vs T)(ht:iH P ty xs.length)(hn:off+xs.length<=vs.length)(I:∀v∈xs,v.oneCell'=true):
 (storeVar ty ⟨g,off,none⟩ (.agg xs.toArray)).run P w= .ok () (w.setRow g (fV vs off xs).toArray):=by
 obtain⟨_,u⟩:=ht;have E:=run_storeCells_at P g off T xs 0 vs.toArray w hb (by simpa using hn) I;cases j:P.info? ty with
 |none=>simp[j]at u
 |some i=>
  have hs:xs.length=i.size:=by simp[j]at u;omega
  simp only[Nat.add_zero,toList_toArray]at E;simp[storeVar,sizeOf,typeInfo,j,Value.cells,hs,E,fV]
theorem Jc(u:o.guard=none)(ty:TypeId)(x:Operand)(E:o.op= .load ty x){g off n:Nat}{vs:aO}{T:TypeId}
 (I:a.eval x= .pointer (some ⟨g,off,none⟩))(hb:ah w g vs T)(ht:iH P ty n)(hn:off+n<=vs.length)
 (h:wpList P ops Q rest (a.put o.dst (.agg ((vs.drop off).take n).toArray)) w):wpList P ops Q (o::rest) a w:=
 wpList_plain u fun K j=>by
  unfold Oper.wp execOp;simp only[E,I,Instr.loadAt,Instr.sureAddr,Sem.run_bind,Sem.run_pure,Result.andThen_ok,AV hb ht hn];exact j _ _ h
theorem bV(j:o.guard=none)(ty:TypeId)(x:Operand)(u:o.op= .load ty x){g:Nat}{vs:aO}{T:TypeId}
 (E:a.eval x= .pointer (some ⟨g,0,none⟩))(hb:ah w g vs T){n:Nat}(ht:iH P ty n)(hn:vs.length=n)
 (h:wpList P ops Q rest (a.put o.dst (.agg vs.toArray)) w):wpList P ops Q (o::rest) a w:=by
 subst hn;exact Jc j ty x u E hb ht J (by simpa using h)
theorem kR(E:o.guard=none)(ty:TypeId)(x y:Operand)(I:o.op= .store ty x y){g off:Nat}{vs xs:aO}{T:TypeId}
 (R:a.eval x= .pointer (some ⟨g,off,none⟩))(aa:a.eval y= .agg xs.toArray)(hb:ah w g vs T)(ht:iH P ty xs.length)(hn:off+xs.length<=vs.length)
 (j:∀v∈xs,v.oneCell'=true)
 (h:∀w',ah w' g (fV vs off xs) T->aU w g w'->wpList P ops Q rest (a.put o.dst undef) w'):wpList P ops Q (o::rest) a w:=
 wpList_plain E fun K u=>by
  unfold Oper.wp execOp;simp only[I,R,aa,Instr.storeAt,Instr.sureAddr,Sem.run_bind,Sem.run_pure,Result.andThen_ok,U_ hb ht hn j];exact u _ _ (h _ (hb.setRow _) (aU.setRow _))
theorem bg(E:o.guard=none)(ty:TypeId)(x y:Operand)(I:o.op= .store ty x y){g:Nat}{vs xs:aO}{T:TypeId}
 (ab:a.eval x= .pointer (some ⟨g,0,none⟩))(ac:a.eval y= .agg xs.toArray)(hb:ah w g vs T){n:Nat}(ht:iH P ty n)(aa:vs.length=n)(hn:xs.length=n)
 (j:∀v∈xs,v.oneCell'=true)
 (h:∀w',ah w' g xs T->aU w g w'->wpList P ops Q rest (a.put o.dst undef) w'):wpList P ops Q (o::rest) a w:=
 kR E ty x y I ab ac hb (by rw[hn];exact ht) J j fun w' u R=>h w' (by
  have:fV vs 0 xs=xs:=by simp[fV,hn,aa]
  rwa[this]at u) R
theorem NQ(ag:o.guard=none)(R ac:TypeId)(x y:Operand)(ai:o.op= .call {callee:= .builtin .copy,args:= #[x,y],argTypes:= #[R,ac]}){g off u I E ab:Nat}{sa:Addr}{vs cs:aO}{T aa:TypeId}
 (ao:a.eval x= .slice (some ⟨g,off,none⟩) u I)(ap:a.eval y= .slice (some sa) E ab)(hb:ah w g vs T)
 (an:P.underlying R=some (.slice aa))(hs:(P.info? aa).map (·.size)=some 1)(hn:cs.length=Nat.min E u)
 (am:∀j v,cs[j]? =some v->w.cell? (sa.add j)=some v)(af:off+cs.length<=vs.length)(ad:∀v∈cs,v.oneCell'=true)
 (h:∀w',ah w' g (fV vs off cs) T->aU w g w'->wpList P ops Q rest (a.put o.dst (.int .i64 cs.length)) w'):wpList P ops Q (o::rest) a w:=
 wpList_plain ag fun K ae=>by
  have al:=run_copy_row (P:=P) w R ac o.type aa g off u I sa E ab vs.toArray T cs an hs hb hn am (by simpa using af) ad;unfold Oper.wp execOp;simp only[ai,resolve,Sem.run_bind,Sem.run_pure,Result.andThen_ok,invoke,builtin];have e:(#[x,y].map a.eval)= #[.slice (some ⟨g,off,none⟩) u I,.slice (some sa) E ab]:=by simp[ao,ap]
  rw[e,al];simp only[Result.andThen_ok,Sem.run_pure,Oper.upon];refine ae _ _ (h _ ?_ (aU.setRow _));have:=hb.setRow (fV vs off cs);simpa[fV]using this
theorem AO{T e:TypeId}{n:Nat}(u:P.underlying T=some (.array n e)){len:Nat}(j:n<=len)(x:aN)(c:Nat)(w:World):
 (Instr.arrayAt T (.slice x len c)).run P w= .ok (.pointer x) w:=by
 simp[Instr.arrayAt,run_underlying u,Nat.not_lt.2 j]
def AX(P:Program)(ty:TypeId):Prop:=(∃d,P.underlying ty=some d/\(match d with| .struct _| .array _ _=>true|_=>false)=false)/\(P.info? ty).map (·.size)=some 1
theorem NR{T e:TypeId}{n:Nat}{cs:Array Value}{v:Value}(ab:P.underlying T=some (.array n e))(I:AX P e)(i:Nat)(R:i<n)(ac:cs[i]? =some v)(w:World):
 (Instr.index T (.agg cs) (.int .i64 (i:Int))).run P w= .ok v w:=by
 obtain⟨⟨d,E,af⟩,hs⟩:=I;cases j:P.info? e with
 |none=>simp[j]at hs
 |some ad=>
  have aa:ad.size=1:=by simpa[j]using hs
  have u:(isAgg e).run P w= .ok false w:=by
   unfold isAgg;rw[Sem.run_bind,run_underlying E w];cases d<;>simp_all
  have ae:(0:Int)<=i/\(i:Int)<n:=J;simp[Instr.index,asIntOf,run_underlying ab,part,sizeOf,typeInfo,j,aa,u,ac,R]
end
theorem Jd{B:Nat}{W j:World}(hb:Below B W j):(∀b o,b<B->j.cell? ⟨b,o,none⟩=W.cell? ⟨b,o,none⟩)/\(∀b o,b<B->j.frozen? ⟨b,o,none⟩=W.frozen? ⟨b,o,none⟩):=
 ⟨fun b o h=>hb.cell (p:=⟨b,o,none⟩) h,fun b o h=>hb.frozen (p:=⟨b,o,none⟩) h⟩
theorem b_(l:aj):∀v∈l.map Y,v.oneCell'=true:=by
 intro v j;obtain⟨x,_,rfl⟩:=mem_map.1 j;rfl
theorem Fq(l:List UInt32):∀v∈l.map gY,v.oneCell'=true:=by
 intro v j;obtain⟨x,_,rfl⟩:=mem_map.1 j;rfl
theorem Va{a b:Value}(h:a=b):Ending.returned a=Ending.returned b:=by rw[h]
theorem aew{k:IntKind}{a b:Int}(h:a=b):Value.int k a=Value.int k b:=by rw[h]
def jP{α:Type}(f:Nat->α)(d:α)(n i:Nat):List α:=(List.range n).map fun j=>if j<i then f j else d
theorem sD{α:Type}(f:Nat->α)(d:α)(n i:Nat):(jP f d n i).length=n:=by simp[jP]
theorem zn{α:Type}(f:Nat->α)(d:α)(n i j:Nat)(h:j<n):(jP f d n i)[j]? =some (if j<i then f j else d):=by
 simp[jP,h]
theorem NS{α:Type}(f:Nat->α)(d:α)(n i:Nat):(jP f d n i).set i (f i)=jP f d n (i+1):=by
 apply ext_getElem?;intro j;by_cases E:j<n
 ·rw[zn _ _ _ _ _ E,List.getElem?_set];by_cases I:i=j
  ·subst I;simp[sD,E]
  ·rw[if_neg I,zn _ _ _ _ _ E];by_cases u:j<i
   ·rw[if_pos u,if_pos J]
   ·rw[if_neg u,if_neg J]
 ·have u:((jP f d n i).set i (f i)).length=n:=by simp[sD]
  rw[List.getElem?_eq_none J,List.getElem?_eq_none (by rw[sD];omega)]
theorem eB{w:World}{g:Nat}{ws:List UInt32}{T:TypeId}(h:ah w g (ws.map gY) T)(n:Nat)(hn:ws.length=n):∀j,j<n->w.cell? ⟨g,j,none⟩=some (gY (ws.getD j 0)):=by
 intro j u;refine h.cell' ?_;simp[hn,u]
theorem ah.Fv{w:World}{g:Nat}{ws:List UInt32}{T:TypeId}(h:ah w g (ws.map gY) T)(i:Nat)(x:UInt32):ah (w.setCell ⟨g,i,none⟩ (.int .u32 (x.toNat:Nat))) g ((ws.set i x).map gY) T:=by
 have:=h.set i (gY x);rwa[<-map_set]at this
theorem ah.Vb{w:World}{g:Nat}{f:Nat->UInt32}{n i:Nat}{T:TypeId}(h:ah w g ((jP f 0 n i).map gY) T):ah (w.setCell ⟨g,i,none⟩ (.int .u32 ((f i).toNat:Nat))) g ((jP f 0 n (i+1)).map gY) T:=by
 have:=h.set i (gY (f i));rwa[<-map_set,NS]at this
theorem ah.NT{w:World}{g:Nat}{f:Nat->UInt8}{n i:Nat}{T:TypeId}(h:ah w g ((jP f 0 n i).map Y) T):ah (w.setCell ⟨g,i,none⟩ (.int .u8 ((f i).toNat:Nat))) g ((jP f 0 n (i+1)).map Y) T:=by
 have:=h.set i (Y (f i));rwa[<-map_set,NS]at this
theorem Vd{α:Type}(f:Nat->α)(d:α)(n a m:Nat)(g:α->Value)(h:a+m<=n)(xs:List α)(aa:xs=(List.range m).map fun j=>f (a+j)):
 fV ((jP f d n a).map g) a (xs.map g)=(jP f d n (a+m)).map g:=by
 subst aa;unfold fV;have R:(((List.range m).map fun j=>f (a+j)).map g).length=m:=aF;rw[R];apply ext_getElem?;intro j;rw[List.getElem?_append,List.getElem?_append];have ab:(((jP f d n a).map g).take a).length=a:=by simp[sD];omega
 rw[length_append,ab,R];by_cases u:j<a+m
 ·rw[if_pos u];by_cases E:j<a
  ·rw[if_pos E,List.getElem?_take_of_lt E,List.getElem?_map,List.getElem?_map,zn _ _ _ _ _ J,zn _ _ _ _ _ J,if_pos E,if_pos u]
  ·rw[if_neg E,List.getElem?_map,List.getElem?_map,List.getElem?_map,zn _ _ _ _ _ J,if_pos u];simp[show j - a<m by omega,show a+(j - a)=j by omega]
 ·rw[if_neg u,List.getElem?_drop,show a+m+(j - (a+m))=j by omega,List.getElem?_map,List.getElem?_map];by_cases I:j<n
  ·rw[zn _ _ _ _ _ I,zn _ _ _ _ _ I,if_neg J,if_neg u]
  ·rw[List.getElem?_eq_none (by rw[sD];omega),List.getElem?_eq_none (by rw[sD];omega)]
theorem Fz{α:Type}(f:Nat->α)(d:α)(n:Nat):jP f d n 0=List.replicate n d:=by
 apply ext_getElem<;>simp[jP]
theorem FB{α:Type}(f:Nat->α)(d:α)(n i:Nat)(h:n<=i):jP f d n i=(List.range n).map f:=by simp[jP,map_congr_left,mem_range];omega
def aK(w:World)(a:aN)(xs:aO):Prop:=xs=[]∨∃b off,a=some ⟨b,off,none⟩/\∀i u,xs[i]? =some u->w.cell? ⟨b,off+i,none⟩=some u
theorem aK.ext{w w':World}{a:aN}{xs:aO}(h:aK w a xs)(k:X w w'):aK w' a xs:=by
 rcases h with h|⟨b,off,ha,h⟩
 ·exact .inl h
 ·refine .inr ⟨b,off,ha,fun i u E=> ?_⟩;have j:=h i u E;have hb:=block_lt_of_cell j;have:=k.cell (p:=⟨b,off+i,none⟩) hb;rw[this];exact j
theorem aK.nil(w:World)(a:aN):aK w a []:= .inl F
theorem aK.vP{w:World}{g:Nat}{vs:aO}{T:TypeId}(h:ah w g vs T)(o n:Nat):aK w (some ⟨g,o,none⟩) ((vs.drop o).take n):=by
 refine .inr ⟨g,o,F,fun i u j=>h.cell' ?_⟩;have E:i<n:=by
  have:=(List.getElem?_eq_some_iff.1 j).1;simp at this;omega
 rw[List.getElem?_take_of_lt E,List.getElem?_drop]at j;exact j
theorem aK.tO{w:World}{g:Nat}{vs:aO}{T:TypeId}(h:ah w g vs T):aK w (some ⟨g,0,none⟩) vs:=by
 refine .inr ⟨g,0,F,fun i u j=>h.cell' (by simpa using j)⟩
theorem aK.part{w:World}{b o:Nat}{xs:aO}(h:aK w (some ⟨b,o,none⟩) xs)(k n:Nat):aK w (some ⟨b,o+k,none⟩) ((xs.drop k).take n):=by
 rcases h with rfl|⟨I,o',hb,h⟩
 ·left;simp
 ·cases hb;refine .inr ⟨b,o+k,F,fun i u j=> ?_⟩;have E:i<n:=by
   have:=(List.getElem?_eq_some_iff.1 j).1;simp at this;omega
  rw[List.getElem?_take_of_lt E,List.getElem?_drop]at j;have:=h (k+i) u j;rwa[<-Nat.add_assoc]at this
theorem aK.gQ{w:World}{a:aN}{xs:aO}(h:aK w a xs)(hn:0<xs.length):∃b off,a=some ⟨b,off,none⟩/\∀i u,xs[i]? =some u->w.cell? ⟨b,off+i,none⟩=some u:=by
 rcases h with rfl|h
 ·simp at hn
 ·exact h
def dL(a:aN)(c p:Nat):aN:=if c=p then a else a.map (·.add p)
theorem aK.shift{w:World}{a:aN}{xs:aO}(h:aK w a xs)(c p m:Nat)(E:p+m<=c):aK w (dL a c p) ((xs.drop p).take m):=by
 unfold Go.Proofs.YtjlhhnkhcbpnjaaGreatDoor.dL;by_cases u:c=p
 ·left
  obtain rfl:m=0:=J;simp
 ·rw[if_neg u];rcases h with rfl|⟨b,off,rfl,h⟩
  ·left;simp
  ·have j:(⟨b,off,none⟩:Addr).add p=⟨b,off+p,none⟩:=by unfold Addr.add;split<;>simp_all
   rw[Option.map_some,j];exact aK.part (.inr ⟨b,off,F,h⟩) p m
theorem aK.take{w:World}{a:aN}{xs:aO}(h:aK w a xs)(n:Nat):aK w a (xs.take n):=by grind [aK]
section
variable {P:Program} {ops:Array Oper} {rest:List Oper} {o:Oper} {a:Act} {w:World} {Q:Exit->Act->World->Prop}
theorem Ve{K:Act->World->Prop}{E:Prop}
 (ag:o.guard=none)(s x:Operand)(t:TypeId)(ai:o.op=Op.call {callee:=Callee.builtin Builtin.append,args:= #[s,x],argTypes:= #[t,t]})
 (base:Nat)(e:TypeId)(i:TypeInfo)(I:Nat)(ab:P.underlying t=some (.slice e))(ad:P.info? e=some i)(ae:i.size=I)
 (g k cap:Nat)(xs:aO)(hs:a.eval s= .slice (some ⟨g,0,none⟩) k cap)(al:w.ownsRow base e I (.slice (some ⟨g,0,none⟩) k cap) k xs)(R:Addr)(m c:Nat)(news:aO)(ao:a.eval x= .slice (some R) m c)(hn:news.length=m*I)
 (hc:∀j u,news[j]? =some u->w.cell? (R.add j)=some u)(ac:∀u∈news,u.oneCell'=true)(aa:k+m<=cap)
 (af:∀w',w'.ownsRow base e I (.slice (some ⟨g,0,none⟩) (k+m) cap) (k+m) (xs++news)->w.grownBy w' (some g)->K (a.put o.dst (.slice (some ⟨g,0,none⟩) (k+m) cap)) w'):
 if Region.wanted o (yielded ops a.tmps)=true then Oper.wp P o a w K Q else E:=by
 have an:Region.wanted o (yielded ops a.tmps)=true:=by simp[Region.wanted,ag]
 rw[if_pos an];obtain⟨w',am,ap,r2⟩:=run_append_fits (P:=P) w base t o.type e i I ab ad ae g k cap xs al R m c news hn hc ac aa;unfold Oper.wp;simp[execOp,ai,resolve,invoke,builtin,hs,ao,am,Result.andThen];exact af _ ap r2
end
theorem tJ{w:World}{g:Nat}{vs:aO}{T:TypeId}(h:ah w g vs T):∀j u,vs[j]? =some u->w.cell? ((⟨g,0,none⟩:Addr).add j)=some u:=by
 intro j u I;have E:(⟨g,0,none⟩:Addr).add j=⟨g,j,none⟩:=by unfold Addr.add;split<;>simp_all
 rw[E];exact h.cell' I
theorem wX{w:World}{x:Addr}{xs:aO}(h:aK w (some x) xs):∀j u,xs[j]? =some u->w.cell? (x.add j)=some u:=by
 intro j u E;rcases h with rfl|⟨b,off,R,h⟩
 ·simp at E
 ·cases R;have I:(⟨b,off,none⟩:Addr).add j=⟨b,off+j,none⟩:=by unfold Addr.add;split<;>simp_all
  rw[I];exact h j u E
theorem X.grown{W w w':World}{row:Option Nat}(h:X W w)(k:w.grownBy w' row)(j:∀g,row=some g->W.heap.size<=g):X W w':=Below.grown h k h.size j
theorem ah.grown{w w':World}{row:Option Nat}{g:Nat}{vs:aO}{T:TypeId}(h:ah w g vs T)(k:w.grownBy w' row)(hn:some g≠row):ah w' g vs T:=by
 have:=h.lt;unfold ah at*;rw[k.block g this hn];exact h
theorem dQ{w w':World}{base:Nat}{e:TypeId}{j:Nat}{v:Value}{n:Nat}{xs:aO}(h:w.ownsRow base e j v n xs)(k:X w w'):w'.ownsRow base e j v n xs:=by
 refine h.kept (row:=none) ⟨k.os,k.tape,k.output,k.size,fun i u _=>k.block i u⟩ ?_;cases E:v.ownBlock with
 |none=>exact .inl F
 |some g=>exact .inr aF
theorem kZ{I:World->Prop}(j:∀w w',I w->X w w'->I w'){w:World}(h:I w):∃C:World->Prop,Hid (∀w',C w'↔I w')/\(∀w w',C w->X w w'->C w')/\C w:=⟨I,O fun _=>Iff.rfl,j,h⟩
theorem jJ(w:World):∃C:World->Prop,Hid (∀w',C w'↔X w w')/\∀w w',C w->X w w'->C w':=⟨fun w'=>X w w',O fun _=>Iff.rfl,fun _ _ j u=>j.ext u⟩
end
theorem dh:iH prog 29 16:=⟨⟨_,underlying29,F⟩,au⟩
def jl(c:UInt8):Bool:=(decide (97<=c.toNat)&&decide (c.toNat<=122))||(decide (48<=c.toNat)&&decide (c.toNat<=57))||c.toNat==45||c.toNat==46||c.toNat==95
def jK(l:aj):Bool:=l.all jl&& !(l.isEmpty)&&decide (l.length<=32)
section
open Go Go.RowKit
section
variable {P:Program} {ops:Array Oper} {Q:Exit->Act->World->Prop} {S:World->Prop}
def Je(K:Act->World->Prop)(Q:Exit->Act->World->Prop):Exit->Act->World->Prop
 | .normal,a,w=>K a w
 |e,a,w=>Q e a w
theorem NU{K:Act->World->Prop}(h:LetsOut (Je K Q)):LetsOut Q:=h
theorem Vf{o:Oper}{a:Act}{w:World}{K E:Act->World->Prop}(h:o.wp P a w K (Je E Q)):o.wp P a w K Q:=by
 unfold Oper.wp at*;generalize (execOp a.eval o).run P w=r at*;cases r with
 |ok n w'=>
  cases n
  case enter f I=>
   refine Calls.mono h fun e R j=> ?_;cases e with
   |returned u=>exact j
   |panicked c=>exact j
   |outgrown=>exact NU j
  all_goals exact h
 |halt x w'=>
  cases x<;>first|exact h|exact h.elim
theorem mZ{i:Nat}{o:Oper}{K:Act->World->Prop}{a:Act}{w:World}(I:ops[i]? =some o)(h:wpList P ops (Je K Q) [o] a w):wpOp P ops Q i K a w:=by
 unfold wpOp;simp only[I];unfold wpList at h;split
 ·rename_i j;rw[if_pos j]at h;rcases h with h|⟨u,E⟩
  ·exact .inl (Vf h)
  ·exact .inr ⟨u,NU E⟩
 ·rename_i j;rw[if_neg j]at h;exact h
theorem jy{i:Nat}{o:Oper}{r:List Oper}(h:ops.toList.drop i=o::r):ops[i]? =some o:=by
 have u:=List.getElem?_drop (xs:=ops.toList) (i:=i) (j:=0);rw[h,Nat.add_zero]at u;simpa using u.symm
theorem d_(i:Nat){u:Oper}{r:List Oper}{v:Value}{E:Nat}{j:Array Bool}{a:Act}{w:World}(aa:ops.toList.drop i=u::r)
 (hs:Region.noSelect ops=true)(hf:Region.free .any ops j i=true)(ab:(Region.ready .any ops j).contains i=true)
 (I:∀c a w,Q (.panic c) (a.put u.dst v) w->Q (.panic c) a w)(ac:YieldsIf P ops S u v a)(R:S w)
 (h:wpAnyH P .any ops Q S E (j.setIfInBounds i true) (a.put u.dst v) w):wpAnyH P .any ops Q S (E+1) j a w:=
 wpAnyH_take (jy aa) hs hf ab I ac R h
theorem Jf{i:Nat}{o:Oper}{r:List Oper}{f:Nat}{u:Array Bool}{a:Act}{w:World}(ac:Region.ready .any ops u=[i])(ab:ops.toList.drop i=o::r)
 (h:∀E:Exit->Act->World->Prop,(∀a w,S w->wpAnyH P .any ops Q S f (u.setIfInBounds i true) a w->E .normal a w)->wpList P ops E [o] a w):
 wpAnyH P .any ops Q S (f+1) u a w:=
 wpAnyH_all ac aF fun j aa=>by
  obtain rfl:j=i:=by simpa using aa
  exact mZ (jy ab) (h _ fun a w I R=>⟨I,R⟩)
def vS(g:Nat):Value:= .pointer (some ⟨g,0,none⟩)
def Fl(P:Program)(ops:Array Oper)(Q:Exit->Act->World->Prop)(S:World->Prop)(B A:Nat)(vs:aO)(T:TypeId)(f:Nat)(j:Array Bool)(α:Value->Act)(D:World->Prop):Prop:=
 (∀w w',D w->X w w'->D w')->(∀w,D w->S w)->(∀w,D w->B<=w.heap.size)->
 (∀x w,D w->wpAnyH P .any ops Q S (f+1) j (α x) w)/\∀g w,D w->B<=g->ah w g vs T->wpAnyH P .any ops Q S f (j.setIfInBounds A true) (α (vS g)) w
theorem zo{B A d:Nat}{vs:aO}{T:TypeId}{f:Nat}{j:Array Bool}{a:Act}{w:World}{D:World->Prop}(y:Value)(aa:a.put (some d) y=a)(R:∀w w',D w->X w w'->D w')(I:∀w,D w->S w)(E:∀w,D w->B<=w.heap.size)(u:D w)
 (h:Fl P ops Q S B A vs T f j (fun x=>a.put (some d) x) D):wpAnyH P .any ops Q S (f+1) j a w:=by
 have:=(h R I E).1 y w u;simp only[aa]at this;exact this
theorem NV{B A:Nat}{vs:aO}{T:TypeId}{f:Nat}{j:Array Bool}{α:Value->Act}{D:World->Prop}(i:Nat){E:Oper}{r:List Oper}{v:Value}(aa:ops.toList.drop i=E::r)(hs:Region.noSelect ops=true)
 (hf:Region.free .any ops j i=true)(af:Region.free .any ops (j.setIfInBounds A true) i=true)
 (al:(Region.ready .any ops j).contains i=true)(am:(Region.ready .any ops (j.setIfInBounds A true)).contains i=true)(ag:(i==A)=false)
 (R:∀c a w,Q (.panic c) (a.put E.dst v) w->Q (.panic c) a w)(ab:∀x,YieldsIf P ops S E v (α x))
 (h:Fl P ops Q S B A vs T f (j.setIfInBounds i true) (fun x=>(α x).put E.dst v) D):Fl P ops Q S B A vs T (f+1) j α D:=by
 intro ae I ad;have ai:i≠A:=by simpa using ag
 have h:=h ae I ad;refine⟨fun x w u=>wpAnyH_take (jy aa) hs hf al R (ab x) (I w u) (h.1 x w u),fun g w u ac hb=>wpAnyH_take (jy aa) hs af am R (ab _) (I w u) ?_⟩;have:=h.2 g w u ac hb;rwa[Array.setIfInBounds_comm _ _ ai]at this
theorem lZ{B A:Nat}{vs:aO}{T:TypeId}{f:Nat}{R:Array Bool}{α:Value->Act}{D:World->Prop}(i:Nat){o ad:Oper}{r a7:List Oper}{d:Tmp}{β:Type}(ap:β->Value)(ae:β->World->Prop)
 (a3:ops.toList.drop i=o::r)(ar:ops.toList.drop A=ad::a7)(aw:ad.dst=some d)(ax:ad.guard=none)(az:∀a8 w,(execOp a8 ad).run P w= .ok (.value (vS w.heap.size)) (w.alloc (.cells vs.toArray T)))
 (a4:((Region.ready .any ops R).all fun j=>j==i||j==A)=true)(an:(Region.ready .any ops R).isEmpty=false)(a5:Region.ready .any ops (R.setIfInBounds A true)=[i])(a1:(i==A)=false)
 (a6:∀x y,(α x).put (some d) y=α y)(ab:∀b w w',ae b w->X w w'->ae b w')
 (Cr:∀x w,D w->∀ag:Exit->Act->World->Prop,(∀b w',X w w'->ae b w'->ag .normal ((α x).put o.dst (ap b)) w')->wpList P ops ag [o] (α x) w)
 (h:∀b,Fl P ops Q S B A vs T f (R.setIfInBounds i true) (fun x=>(α x).put o.dst (ap b)) (fun w=>D w/\ae b w)):Fl P ops Q S B A vs T (f+1) R α D:=by
 have am:=jy a3;have aq:=jy ar;intro I ac ai;have h:=fun b=>h b (fun w w' aa u=>⟨I w w' aa.1 u,ab b w w' aa.2 u⟩) (fun w aa=>ac w aa.1) (fun w aa=>ai w aa.1);have a2:i≠A:=by simpa using a1
 have ao:∀g w,D w->B<=g->ah w g vs T->wpAnyH P .any ops Q S (f+1) (R.setIfInBounds A true) (α (vS g)) w:=by
  intro g w E aE hb;refine wpAnyH_all a5 aF fun j af=> ?_;obtain rfl:j=i:=by simpa using af
  refine mZ am (Cr _ w E _ fun b w' u ab=> ?_);have:=(h b).2 g w' ⟨I _ _ E u,ab⟩ aE (hb.ext u);rw[Array.setIfInBounds_comm _ _ a2]at this;exact⟨ac _ (I _ _ E u),this⟩
 refine⟨fun x w E=> ?_,ao⟩;refine wpAnyH_all (rs:=Region.ready .any ops R) F (fun e=>by rw[e]at an;cases an) fun j af=> ?_;have al:=all_eq_true.1 a4 j af;simp only[Bool.or_eq_true,beq_iff_eq]at al;rcases al with rfl|rfl
 ·refine mZ am (Cr _ w E _ fun b w' u ab=> ?_);exact⟨ac _ (I _ _ E u),(h b).1 x w' ⟨I _ _ E u,ab⟩⟩
 ·refine mZ aq ?_;refine wpList_plain ax fun K a0=> ?_;unfold Oper.wp;rw[az,Oper.upon_value,aw];refine a0 _ _ ?_;have u:X w (w.alloc (.cells vs.toArray T)):=(X.refl w).alloc _;rw[a6];exact⟨ac _ (I _ _ E u),ao _ _ (I _ _ E u) (ai _ E) (ah.yu _ _ _)⟩
theorem wY{B A:Nat}{vs:aO}{T:TypeId}{f:Nat}{I:Array Bool}{α:Value->Act}{D:World->Prop}{u:Oper}{ap:List Oper}{d:Tmp}
 (ac:ops.toList.drop A=u::ap)(ad:u.dst=some d)(ae:u.guard=none)(af:∀aq w,(execOp aq u).run P w= .ok (.value (vS w.heap.size)) (w.alloc (.cells vs.toArray T)))
 (an:Region.ready .any ops I=[A])(ao:∀x y,(α x).put (some d) y=α y)
 (h:∀g w,D w->B<=g->ah w g vs T->wpAnyH P .any ops Q S f (I.setIfInBounds A true) (α (vS g)) w):Fl P ops Q S B A vs T f I α D:=by
 have ab:=jy ac;intro R ai ag;refine⟨fun x w E=> ?_,h⟩;refine wpAnyH_all an aF fun j am=> ?_;obtain rfl:j=A:=by simpa using am
 refine mZ ab ?_;refine wpList_plain ae fun K al=> ?_;unfold Oper.wp;rw[af,Oper.upon_value,ad];refine al _ _ ?_;have aa:X w (w.alloc (.cells vs.toArray T)):=(X.refl w).alloc _;rw[ao];exact⟨ai _ (R _ _ E aa),h _ _ (R _ _ E aa) (ag _ E) (ah.yu _ _ _)⟩
def dV(W:World)(L:List Nat)(w':World):Prop:=W.heap.size<=w'.heap.size/\(∀g∈L,g<W.heap.size)/\∀g∈L,w'.heap[g]? =W.heap[g]?
theorem dV.ext{W w w':World}{L:List Nat}(h:dV W L w)(e:X w w'):dV W L w':=
 ⟨Nat.le_trans h.1 e.size,h.2.1,fun g j=>(e.block g (Nat.lt_of_lt_of_le (h.2.1 g j) h.1)).trans (h.2.2 g j)⟩
theorem dV.upd{W w w':World}{L:List Nat}{r:Nat}(h:dV W L w)(u:aU w r w')(j:r∉L):dV W L w':=by grind [dV,aU]
theorem dV.blk{W w:World}{L:List Nat}{g:Nat}{vs:aO}{T:TypeId}(h:dV W L w)(hb:ah W g vs T)(j:g∈L):ah w g vs T:=by
 unfold ah at*;rw[h.2.2 g j];exact hb
theorem dV.none(W:World):dV W [] W:=⟨Nat.le_refl _,aF,aF⟩
theorem dV.one{W:World}{a:Nat}(ha:a<W.heap.size):dV W [a] W:=⟨Nat.le_refl _,by simpa using ha,fun _ _=>rfl⟩
theorem dV.two{W:World}{a b:Nat}(ha:a<W.heap.size)(hb:b<W.heap.size):dV W [a,b] W:=⟨Nat.le_refl _,by simpa using⟨ha,hb⟩,fun _ _=>rfl⟩
theorem dV.grown{W w w':World}{L:List Nat}{row:Option Nat}(h:dV W L w)(k:w.grownBy w' row)(u:∀g,row=some g->W.heap.size<=g):dV W L w':=
 ⟨Nat.le_trans h.1 k.size,h.2.1,fun g j=>(k.block g (Nat.lt_of_lt_of_le (h.2.1 g j) h.1) (fun e=>by have E:=u g e.symm;have I:=h.2.1 g j;omega)).trans (h.2.2 g j)⟩
structure bT(w0 W:World)(L:List Nat)(R:List (Nat×Nat×TypeId))(w:World):Prop where
 base:X w0 w
 kept:dV W L w
 room:∀x∈R,x.1<W.heap.size/\∃vs,vs.length=x.2.1/\ah w x.1 vs x.2.2
theorem bT.ext{w0 W w w':World}{L:List Nat}{j:List (Nat×Nat×TypeId)}(h:bT w0 W L j w)(e:X w w'):bT w0 W L j w':=
 ⟨h.base.ext e,h.kept.ext e,fun x u=>⟨(h.room x u).1,by obtain⟨_,vs,E,I⟩:=h.room x u;exact⟨vs,E,I.ext e⟩⟩⟩
theorem bT.grown{w0 W w w':World}{L:List Nat}{u:List (Nat×Nat×TypeId)}{row:Option Nat}(h:bT w0 W L u w)(k:w.grownBy w' row)(j:∀g,row=some g->W.heap.size<=g)(I:w0.heap.size<=W.heap.size):bT w0 W L u w':=
 ⟨h.base.grown k (fun g ab=>Nat.le_trans I (j g ab)),h.kept.grown k j,fun x E=>⟨(h.room x E).1,by
  obtain⟨ac,vs,R,aa⟩:=h.room x E;exact⟨vs,R,aa.grown k (fun e=>by have:=j _ e.symm;omega)⟩⟩⟩
theorem bT.upd{w0 W w w':World}{L:List Nat}{j:List (Nat×Nat×TypeId)}{g:Nat}(h:bT w0 W L j w)(u:aU w g w')(ad:W.heap.size<=g)(ab:w0.heap.size<=W.heap.size):bT w0 W L j w':=
 ⟨u.ext h.base J,h.kept.upd u (fun aa=>by have:=h.kept.2.1 g aa;omega),fun x E=>⟨(h.room x E).1,by
  obtain⟨ac,vs,I,R⟩:=h.room x E;exact⟨vs,I,R.upd u J⟩⟩⟩
theorem bT.store{w0 W w w':World}{L:List Nat}{j:List (Nat×Nat×TypeId)}{r:Nat}{xs:aO}{T:TypeId}(h:bT w0 W L j w)(u:aU w r w')(hb:ah w' r xs T)(ac:∀x∈j,x.1=r->x=(r,xs.length,T))(ab:w0.heap.size<=r)(aa:r∉L):bT w0 W L j w':=
 ⟨u.ext h.base ab,h.kept.upd u aa,fun x E=>⟨(h.room x E).1,by
  obtain⟨ad,vs,I,R⟩:=h.room x E;by_cases e:x.1=r
  ·rw[ac x E e];exact⟨xs,F,hb⟩
  ·exact⟨vs,I,R.upd u e⟩⟩⟩
theorem bT.blk{w0 W w:World}{L:List Nat}{j:List (Nat×Nat×TypeId)}{g:Nat}{vs:aO}{T:TypeId}(h:bT w0 W L j w)(hb:ah W g vs T)(u:g∈L):ah w g vs T:=h.kept.blk hb u
theorem bT.Dn{w0 W w:World}{L:List Nat}{r n:Nat}{T:TypeId}{j:List (Nat×Nat×TypeId)}(h:bT w0 W L j w)(u:(r,n,T)∈j):∃vs,vs.length=n/\ah w r vs T:=(h.room _ u).2
theorem bT.jA{w0 W:World}{L:List Nat}(h:X w0 W)(k:dV W L W):bT w0 W L [] W:=⟨h,k,aF⟩
theorem bT.yw{w0 W:World}{L:List Nat}{r n:Nat}{vs:aO}{T:TypeId}(h:X w0 W)(k:dV W L W)(hb:ah W r vs T)(hn:vs.length=n):bT w0 W L [(r,n,T)] W:=
 ⟨h,k,by simp only[mem_singleton];rintro x rfl;exact⟨hb.lt,vs,hn,hb⟩⟩
def Dp(n:Nat)(xs:aO)(b:aN×Nat)(w:World):Prop:=n<=b.2/\b.2<=9223372036854775807/\(b.1=none->b.2=0)/\aK w b.1 xs
theorem Dp.ext{n:Nat}{xs:aO}:∀(b:aN×Nat) (w w':World),Dp n xs b w->X w w'->Dp n xs b w':=fun _ _ _ h j=>⟨h.1,h.2.1,h.2.2.1,h.2.2.2.ext j⟩
theorem oC{o:Oper}{a:Act}(j:Region.wanted o (yielded ops a.tmps)=true)(ty:TypeId)(x:Operand)(I:o.op= .load ty x){g:Nat}{vs:aO}{T:TypeId}{n:Nat}
 (R:a.eval x= .pointer (some ⟨g,0,none⟩))(hb:∀w,S w->ah w g vs T)(ht:iH P ty n)(hn:vs.length=n):YieldsIf P ops S o (.agg vs.toArray) a:=by
 refine .inl ⟨j,fun w j=> ?_⟩;have u:=AV (P:=P) (off:=0) (hb w j) ht J;have E:(vs.drop 0).take n=vs:=by simp[<-hn]
 rw[E]at u;unfold execOp;simp only[I,R,Instr.loadAt,Instr.sureAddr,Sem.run_bind,Sem.run_pure,Result.andThen_ok,u]
end
section
variable {P:Program} {ops:Array Oper} {Q:Exit->Act->World->Prop} {S:World->Prop}
theorem aA(i:Nat){j:Oper}{r:List Oper}{f:Nat}{u:Array Bool}{a:Act}{w:World}{E:Prop}{v:Value}(h:E)(ab:ops.toList.drop i=j::r:=by exact F)(hs:Region.noSelect ops=true:=by kernel_rfl)(aa:Region.free .any ops u i=true:=by kernel_rfl)(ac:(Region.ready .any ops u).contains i=true:=by kernel_rfl)(ad:Region.wanted j (yielded ops a.tmps)=true:=by exact F)(ae:∀w,S w->(execOp a.eval j).run P w= .ok (.value v) w:=by(intro _ _;go_simp;try with_reducible rfl))(hx:E->wpAnyH P .any ops Q S f (u.setIfInBounds i true) (a.put j.dst v) w:=by(intro hx;simp only[Act.put,setIfInBounds_toArray,set_cons_succ,set_cons_zero];exact hx))(R:S w:=by exact Z)(I:∀c a w,Q (.panic c) (a.put j.dst v) w->Q (.panic c) a w:=by exact fun _ _ _ h=>h):wpAnyH P .any ops Q S (f+1) u a w:=
 d_ i ab hs aa ac I (.inl ⟨ad,ae⟩) R (hx h)
theorem dA(i:Nat){j:Oper}{r:List Oper}{f:Nat}{u:Array Bool}{a:Act}{w:World}{I:Prop}{v:Value}{E:Prop}(hf:E)(h:I)(ac:ops.toList.drop i=j::r:=by exact F)(hs:Region.noSelect ops=true:=by kernel_rfl)(ab:Region.free .any ops u i=true:=by kernel_rfl)(ad:(Region.ready .any ops u).contains i=true:=by kernel_rfl)(ae:Region.wanted j (yielded ops a.tmps)=true:=by exact F)(af:E->∀w,S w->(execOp a.eval j).run P w= .ok (.value v) w:=by(intro hf wq eU;have oz:=hf wq eU;go_simp;try with_reducible rfl))(hx:I->wpAnyH P .any ops Q S f (u.setIfInBounds i true) (a.put j.dst v) w:=by(intro hx;simp only[Act.put,setIfInBounds_toArray,set_cons_succ,set_cons_zero];exact hx))(aa:S w:=by exact Z)(R:∀c a w,Q (.panic c) (a.put j.dst v) w->Q (.panic c) a w:=by exact fun _ _ _ h=>h):wpAnyH P .any ops Q S (f+1) u a w:=
 d_ i ac hs ab ad R (.inl ⟨ae,af hf⟩) aa (hx h)
theorem bD(i:Nat){u:Oper}{r:List Oper}{f:Nat}{j:Array Bool}{a:Act}{w:World}{E:Prop}{v:Value}(ab:ops.toList.drop i=u::r)(ad:YieldsIf P ops S u v a)(h:E)(hs:Region.noSelect ops=true:=by kernel_rfl)(aa:Region.free .any ops j i=true:=by kernel_rfl)(ac:(Region.ready .any ops j).contains i=true:=by kernel_rfl)(hx:E->wpAnyH P .any ops Q S f (j.setIfInBounds i true) (a.put u.dst v) w:=by(intro hx;simp only[Act.put,setIfInBounds_toArray,set_cons_succ,set_cons_zero];exact hx))(R:S w:=by exact Z)(I:∀c a w,Q (.panic c) (a.put u.dst v) w->Q (.panic c) a w:=by exact fun _ _ _ h=>h):wpAnyH P .any ops Q S (f+1) j a w:=
 d_ i ab hs aa ac I ad R (hx h)
theorem sF(i:Nat){u:Oper}{r:List Oper}{f:Nat}{j:Array Bool}{a:Act}{w:World}{E:Prop}(h:E)(ab:ops.toList.drop i=u::r:=by exact F)(hs:Region.noSelect ops=true:=by kernel_rfl)(aa:Region.free .any ops j i=true:=by kernel_rfl)(ac:(Region.ready .any ops j).contains i=true:=by kernel_rfl)(ad:Region.wanted u (yielded ops a.tmps)=false:=by exact F)(hx:E->wpAnyH P .any ops Q S f (j.setIfInBounds i true) (a.put u.dst undef) w:=by(intro hx;simp only[Act.put,setIfInBounds_toArray,set_cons_succ,set_cons_zero];exact hx))(R:S w:=by exact Z)(I:∀c a w,Q (.panic c) (a.put u.dst undef) w->Q (.panic c) a w:=by exact fun _ _ _ h=>h):wpAnyH P .any ops Q S (f+1) j a w:=
 d_ i ab hs aa ac I (.inr ⟨ad,F⟩) R (hx h)
theorem aZ(i:Nat){o:Oper}{r:List Oper}{f:Nat}{j:Array Bool}{a:Act}{w:World}
 (h:∀u:Exit->Act->World->Prop,(∀a w,S w->wpAnyH P .any ops Q S f (j.setIfInBounds i true) a w->u .normal a w)->wpList P ops u [o] a w)
 (I:Region.ready .any ops j=[i]:=by kernel_rfl)(E:ops.toList.drop i=o::r:=by exact F):wpAnyH P .any ops Q S (f+1) j a w:=Jf I E h
theorem dH{j:Array Bool}{a:Act}{w:World}{f:Nat}(h:Q .normal a w)(u:Region.ready .any ops j=[]:=by kernel_rfl):wpAnyH P .any ops Q S f j a w:=wpAnyH_done u h _
theorem fJ{id:Nat}{a:Act}{w:World}(h:S w.drew->wpAnyH P .any ops Q S ops.size (Array.replicate ops.size false) a w.drew)(u:P.follows .mixedOrders=true:=by kernel_rfl)
 (j:S w.drew:=by exact aJ _ _ bP (X.refl _).drew):(Code.region id ops true).wp P Q a w:=wp_region_held_drew u j h
theorem nR{B A:Nat}{vs:aO}{T:TypeId}{f:Nat}{j:Array Bool}{α:Value->Act}{D:World->Prop}(i:Nat){u:Oper}{r:List Oper}{v:Value}{E:Prop}(h:E)(ab:ops.toList.drop i=u::r:=by exact F)(hs:Region.noSelect ops=true:=by kernel_rfl)(R:Region.free .any ops j i=true:=by kernel_rfl)(aa:Region.free .any ops (j.setIfInBounds A true) i=true:=by kernel_rfl)(ad:(Region.ready .any ops j).contains i=true:=by kernel_rfl)(ae:(Region.ready .any ops (j.setIfInBounds A true)).contains i=true:=by kernel_rfl)(ac:(i==A)=false:=by exact F)(af:∀x,Region.wanted u (yielded ops (α x).tmps)=true:=by exact fun _=>rfl)(ag:∀x w,S w->(execOp (α x).eval u).run P w= .ok (.value v) w:=by(intro _ _ _;go_simp;try with_reducible rfl))(hx:E->Fl P ops Q S B A vs T f (j.setIfInBounds i true) (fun x=>(α x).put u.dst v) D:=by(intro hx;(try dsimp only);simp only[Act.put,setIfInBounds_toArray,set_cons_succ,set_cons_zero];exact hx))(I:∀c a w,Q (.panic c) (a.put u.dst v) w->Q (.panic c) a w:=by exact fun _ _ _ h=>h):Fl P ops Q S B A vs T (f+1) j α D:=
 NV i ab hs R aa ad ae ac I (fun x=> .inl ⟨af x,ag x⟩) (hx h)
theorem AY{B A:Nat}{vs:aO}{T:TypeId}{f:Nat}{j:Array Bool}{α:Value->Act}{D:World->Prop}(i:Nat){u:Oper}{r:List Oper}{v:Value}{E:Prop}(ab:ops.toList.drop i=u::r)(af:∀x,YieldsIf P ops S u v (α x))(h:E)(hs:Region.noSelect ops=true:=by kernel_rfl)(R:Region.free .any ops j i=true:=by kernel_rfl)(aa:Region.free .any ops (j.setIfInBounds A true) i=true:=by kernel_rfl)(ad:(Region.ready .any ops j).contains i=true:=by kernel_rfl)(ae:(Region.ready .any ops (j.setIfInBounds A true)).contains i=true:=by kernel_rfl)(ac:(i==A)=false:=by exact F)(hx:E->Fl P ops Q S B A vs T f (j.setIfInBounds i true) (fun x=>(α x).put u.dst v) D:=by(intro hx;(try dsimp only);simp only[Act.put,setIfInBounds_toArray,set_cons_succ,set_cons_zero];exact hx))(I:∀c a w,Q (.panic c) (a.put u.dst v) w->Q (.panic c) a w:=by exact fun _ _ _ h=>h):Fl P ops Q S B A vs T (f+1) j α D:=
 NV i ab hs R aa ad ae ac I af (hx h)
theorem iw{w0 W:World}{L:List Nat}{j:List (Nat×Nat×TypeId)}{u:World}(h:bT w0 W L j u):∃C:World->Prop,Hid (∀w',C w'↔bT w0 W L j w')/\(∀w w',C w->X w w'->C w')/\C u:=
 ⟨fun w'=>bT w0 W L j w',O fun _=>Iff.rfl,fun _ _ E I=>E.ext I,h⟩
end
end
section
open Go
def qR(ops:Array Oper)(i j:Nat):Bool:=(ops[i]?).any fun o=>o.after.any fun e=>Region.binds .any e&&e.on==j
def oN(ops:Array Oper)(i:Nat):Option Tmp:=(ops[i]?).bind (·.dst)
def FC(o:Oper):Bool:=match o.op with| .select .. =>false|_=>true
def Jg(ops:Array Oper)(n:Nat):Bool:=
 ((List.range ops.size).all fun i=>(ops[i]?).all fun o=>o.after.all fun e=> !Region.binds .any e||decide (e.on<i))&&
 ((List.range n).all fun i=>(ops[i]?).all fun o=>FC o&&
  ((List.range n).all fun j=>(oN ops j).all fun t=>(i==j||o.dst != some t)&&
   (!(o.looksAt ops).contains t||((decide (i<=j)||qR ops i j)&&(decide (j<=i)||qR ops j i)))))&&
 (
  (decide (n=ops.size)||(List.range n).all fun i=>(List.range (n+1)).any fun j=>decide (i<j)&&qR ops j i)&&
  ((List.range ops.size).all fun t=>decide (t<=n)||qR ops t (t - 1)))&&
 decide (n<=ops.size)
section
variable {P:Program} {ops:Array Oper} {Q:Exit->Act->World->Prop}
theorem Vg{id:Nat}{a:Act}{w:World}(I:Array Bool->Act->World->Prop)(an:P.follows .mixedOrders=true)
 (ag:I (Array.replicate ops.size false) a {w with drawn:=w.drawn+1})
 (Cr:∀j a w i,j.size=ops.size->I j a w->i∈Region.ready .any ops j->wpOp P ops Q i (I (j.setIfInBounds i true)) a w)
 (ad:∀j a w,j.size=ops.size->I j a w->Region.ready .any ops j=[]->Q .normal a w):(Code.region id ops true).wp P Q a w:=by
 refine wp_region_any an ?_;have key:∀(f:Nat) (j:Array Bool) (a:Act) (w:World),j.size=ops.size->(j.toList.count false<=f)->I j a w->wpAny P .any ops Q f j a w:=by
  intro f;induction f with
  |zero=>
   intro j a w hs hf E;have ae:Region.ready .any ops j=[]:=by
    apply eq_nil_iff_forall_not_mem.2;intro i R;obtain⟨aa,o,ac,_⟩:=mem_ready.1 R;have j3:i<j.size:=by
     rw[hs];exact(Array.getElem?_eq_some_iff.1 ac).1
    have u:j[i]=false:=by simpa[j3]using aa
    have ab:false∈j.toList:=by rw[<-u];simp
    have:=count_pos_iff.2 ab;omega
   exact⟨ae,ad _ _ _ hs E ae⟩
  |succ f ao=>
   intro j a w hs hf E;refine⟨ad _ _ _ hs E,fun i R=> ?_⟩;refine wpOp_mono (fun a' w' af=>ao _ a' w' (by simpa using hs) ?_ af) (Cr _ _ _ _ hs E R);obtain⟨aa,o,ac,_⟩:=mem_ready.1 R;have j3:i<j.size:=by
    rw[hs];exact(Array.getElem?_eq_some_iff.1 ac).1
   have u:j[i]=false:=by simpa[j3]using aa
   have ai:(j.setIfInBounds i true).toList=j.toList.set i true:=aF;have al:j.toList[i]'(by simpa using j3)=false:=by simpa using u
   have ab:false∈j.toList:=by rw[<-u];simp
   have ap:=count_pos_iff.2 ab;have am:List.count false (j.toList.set i true)=List.count false j.toList - 1:=by
    rw[count_set (by simpa using j3),al];rfl
   rw[ai,am];omega
 refine key _ _ _ _ aF ?_ ag;simp
structure r_(ops:Array Oper)(n:Nat)(vs:Nat->Value)(a0:Act)(S:Nat->Bool)(a:Act):Prop where
 FD:a.defers=a0.defers
 sz:a.tmps.size=a0.tmps.size
 yes:∀t,t<a0.tmps.size->∀i,i<n->S i=true->oN ops i=some t->a.tmps[t]? =some (vs i)
 no:∀t,t<a0.tmps.size->(∀i,i<n->S i=true->oN ops i≠some t)->a.tmps[t]? =a0.tmps[t]?
theorem r_.put{n:Nat}{vs:Nat->Value}{ae a:Act}{S S':Nat->Bool}(h:r_ ops n vs ae S a){i:Nat}(al:i<n)(af:S i=false)
 (ag:S' i=true)(aa:∀j,j≠i->S' j=S j)
 (ai:∀j,j<n->j≠i->∀t,oN ops i=some t->oN ops j≠some t):r_ ops n vs ae S' (a.put (oN ops i) (vs i)):=by
 cases ab:oN ops i with
 |none=>
  refine⟨h.FD,h.sz,fun t ht j R u I=> ?_,fun t ht ac=> ?_⟩
  ·have E:j≠i:=fun e=>by subst e;rw[ab]at I;cases I
   exact h.yes t ht j R (by rw[<-aa j E];exact u) I
  ·refine h.no t ht fun j R u=> ?_;have E:j≠i:=fun e=>by subst e;rw[af]at u;cases u
   exact ac j R (by rw[aa j E];exact u)
 |some d=>
  refine⟨h.FD,by simp[Act.put,h.sz],fun t ht j R u I=> ?_,fun t ht ac=> ?_⟩
  ·by_cases E:j=i
   ·subst E;rw[ab]at I;cases I;have:d<a.tmps.size:=by rw[h.sz];exact ht
    simp[Act.put,this]
   ·have ad:d≠t:=fun e=>ai j R E d ab (by rw[I,e]);simp only[Act.put];rw[Array.getElem?_setIfInBounds_ne ad];exact h.yes t ht j R (by rw[<-aa j E];exact u) I
  ·have ad:d≠t:=fun e=>ac i al ag (by rw[ab,e]);simp only[Act.put];rw[Array.getElem?_setIfInBounds_ne ad];refine h.no t ht fun j R u=> ?_;have E:j≠i:=fun e=>by subst e;rw[af]at u;cases u
   exact ac j R (by rw[aa j E];exact u)
theorem r_.same{n:Nat}{vs:Nat->Value}{u a a':Act}{S S':Nat->Bool}(h:r_ ops n vs u S a)(E:r_ ops n vs u S' a'){t:Nat}
 (I:∀j,j<n->oN ops j=some t->S j=S' j):a.tmps[t]? =a'.tmps[t]? :=by grind [oN,r_]
theorem r_.eq{n:Nat}{vs:Nat->Value}{u a a':Act}{S S':Nat->Bool}(h:r_ ops n vs u S a)(E:r_ ops n vs u S' a')
 (I:∀j,j<n->S j=S' j):a=a':=by
 have aa:a.tmps=a'.tmps:=by
  apply Array.ext_getElem?;intro t;exact h.same E fun j R _=>I j R
 have e2:a.defers=a'.defers:=by rw[h.FD,E.FD]
 cases a;cases a';simp_all
theorem r_.eval{n:Nat}{vs:Nat->Value}{E a a':Act}{S S':Nat->Bool}(h:r_ ops n vs E S a)(I:r_ ops n vs E S' a'){o:Oper}
 (hs:FC o=true)(R:∀j,j<n->∀t,oN ops j=some t->t∈o.looksAt ops->S j=S' j):
 execOp a.eval o=execOp a'.eval o/\Region.wanted o (yielded ops a.tmps)=Region.wanted o (yielded ops a'.tmps):=by
 have ht:∀t,t∈o.looksAt ops->a.tmps[t]? =a'.tmps[t]? :=fun t ac=>h.same I fun j ab u=>R j ab t u ac
 constructor
 ·refine execOp_congr o (fun cs b e=>by simp[FC,e]at hs) fun x ad=> ?_;cases x with
  |tmp t=>
   have:=ht t (mem_append_left _ (mem_filterMap.2 ⟨.tmp t,by simpa using ad,F⟩));simp[Act.eval,this]
  |_=>rfl
 ·unfold Region.wanted;cases aa:o.guard with
  |none=>rfl
  |some g=>
   obtain⟨j,ae⟩:=g;simp only[yielded];cases u:(ops[j]?).bind (·.dst)with
   |none=>simp
   |some t=>
    have:=ht t (mem_append_right _ (by simp[aa,u]));simp[this]
theorem NW{C:World->Prop}{K:Act->Prop}:∀(l:List Oper) (k:Nat) (a:Act),(∀j,j<l.length->ops[k+j]? =l[j]?)->wpQuiet P ops C K l a->
 ∃(vs:Nat->Value) (u:Nat->Act),u k=a/\(∀j,k<=j->j<k+l.length->u (j+1)=(u j).put (oN ops j) (vs j)/\∃o,ops[j]? =some o/\YieldsIn P ops C o (vs j) (u j))/\K (u (k+l.length))
 |[],k,a,_,h=>⟨fun _=>undef,fun _=>a,F,fun j E h2=>by simp at h2;omega,h⟩
 |o::l,k,a,aa,h=>by
  have h0:ops[k]? =some o:=by simpa using aa 0 aF
  have ae:qOp P ops C k (wpQuiet P ops C K l) a:=by unfold qOp;simp only[h0];exact h
  obtain⟨v,af,ac⟩:=yieldsIn_of_qOp h0 ae;obtain⟨vs,u,E,h2,ab⟩:=NW l (k+1) _ (fun j I=>by
   have:=aa (j+1) (by simpa using I);simpa[Nat.add_assoc,Nat.add_comm 1 j]using this) ac
  refine⟨fun j=>if j=k then v else vs j,fun j=>if j=k then a else u j,aF,fun j I ad=> ?_,?_⟩
  ·by_cases R:j=k
   ·subst R;simp only[if_true,if_neg (show j+1≠j by omega)];refine⟨by rw[E];simp[oN,h0],o,h0,af⟩
   ·simp only[if_neg R,if_neg (show j+1≠k by omega)];exact h2 j J (by simp only[length_cons]at ad;omega)
  ·simp only[length_cons,if_neg (show k+(l.length+1)≠k by omega)];have e:k+(l.length+1)=k+1+l.length:=J;rw[e];exact ab
theorem Vh{n:Nat}(h:Jg ops n=true):
 (∀i o,ops[i]? =some o->∀e∈o.after,Region.binds .any e=true->e.on<i)/\
 (∀i o,i<n->ops[i]? =some o->FC o=true/\∀j t,j<n->oN ops j=some t->(i≠j->o.dst≠some t)/\(t∈o.looksAt ops->(j<i->qR ops i j=true)/\(i<j->qR ops j i=true)))/\
 ((n<ops.size->∀i,i<n->∃j,i<j/\j<=n/\qR ops j i=true)/\(∀t,n<t->t<ops.size->qR ops t (t - 1)=true))/\n<=ops.size:=by
 simp only[Jg,Bool.and_eq_true,all_eq_true,any_eq_true,mem_range,Option.all_eq_true,Bool.or_eq_true,decide_eq_true_eq,Bool.not_eq_true',Array.all_eq_true',beq_iff_eq,bne_iff_ne]at h;obtain⟨⟨⟨ab,ac⟩,ad,af⟩,ae⟩:=h;refine⟨fun i o I e ai hb=> ?_,fun i o R I=> ?_,⟨fun hn i R=> ?_,fun t ht ao=> ?_⟩,ae⟩
 ·rcases ab i (Array.getElem?_eq_some_iff.1 I).1 o I e ai with h|h
  ·rw[hb]at h;cases h
  ·exact h
 ·obtain⟨a,b⟩:=ac i R o I;refine⟨a,fun j t aa ag=> ?_⟩;obtain⟨c,d⟩:=b j aa t ag;refine⟨fun an=> ?_,fun am=> ?_⟩
  ·rcases c with c|c
   ·exact absurd c an
   ·exact c
  ·rcases d with d|⟨u,E⟩
   ·rw[contains_iff_mem.2 am]at d;cases d
   ·refine⟨fun j3=> ?_,fun j3=> ?_⟩
    ·rcases u with u|u
     ·omega
     ·exact u
    ·rcases E with E|E
     ·omega
     ·exact E
 ·rcases ad with h|h
  ·omega
  ·obtain⟨j,aa,al,ap⟩:=h i R;exact⟨j,al,J,ap⟩
 ·rcases af t ao with h|h
  ·omega
  ·exact h
theorem Dq{i j:Nat}(h:qR ops i j=true):∃o,ops[i]? =some o/\∃e∈o.after,Region.binds .any e=true/\e.on=j:=by grind [qR]
theorem NY{j:Array Bool}{i:Nat}(u:i<j.size):j.getD i true=j.getD i false:=by
 simp[u]
theorem NZ{u:Array Bool}{m:Nat}(hs:u.size=ops.size)(aa:m<ops.size)(ab:u.getD m false=false)(om:∀j,j<m->u.getD j false=true)
 (I:∀o,ops[m]? =some o->∀e∈o.after,Region.binds .any e=true->e.on<m):m∈Region.ready .any ops u:=by
 have E:ops[m]? =some ops[m]:=by simp[aa]
 exact mem_ready.2 ⟨by rw[NY J];exact ab,ops[m],E,fun e R hb=>om _ (I _ E e R hb)⟩
theorem qV{id:Nat}{a:Act}{w:World}{l:List Oper}{C:World->Prop}(n:Nat)(ca:P.follows .mixedOrders=true)(b5:Jg l.toArray n=true)(b6:C w.drew)
 (h:wpQuiet P l.toArray C (fun a'=>∀w',C w'->wpList P l.toArray Q (l.drop n) a' w') (l.take n) a):(Code.region id l.toArray true).wp P Q a w:=by
 obtain⟨be,bh,⟨bz,bj⟩,b0⟩:=Vh b5;have cc:n<=l.length:=by simpa using b0
 have bv:(l.take n).length=n:=by simp[cc]
 obtain⟨vs,bd,cf,a4,a0⟩:=NW (l.take n) 0 a (fun j u=>by
  have b':j<n:=by rw[bv]at u;exact u
  simp[b']) h
 rw[bv]at a4 a0;simp only[Nat.zero_add]at a4 a0;have a8:∀i,i<=n->r_ l.toArray n vs a (fun j=>decide (j<i)) (bd i):=by
  intro i;induction i with
  |zero=>
   intro _;rw[cf];exact⟨F,F,fun _ _ _ _ h=>by simp at h,fun _ _ _=>rfl⟩
  |succ i ax=>
   intro af;obtain⟨R,o,aa,_⟩:=a4 i (Nat.zero_le _) J;rw[R];refine(ax J).put J aF aF (fun j u=> ?_) (fun j u ae t ac=> ?_)
   ·simp;omega
   ·intro a9;have:=((bh i o J aa).2 j t u a9).1 (Ne.symm ae);simp only[oN,aa]at ac;exact this ac
 refine Vg (I:=fun E a' w'=>
  ((∀t,n<=t->E.getD t false=false)/\(∀i,E.getD i false=true->∀o,l.toArray[i]? =some o->∀e∈o.after,Region.binds .any e=true->E.getD e.on false=true)/\
   r_ l.toArray n vs a (fun j=>E.getD j false) a'/\C w')∨
  (∃m,n<=m/\m<=l.length/\(∀j,j<l.length->E.getD j false=decide (j<m))/\wpList P l.toArray Q (l.drop m) a' w')) ca ?_ ?_ ?_
 ·refine .inl ⟨fun t _=> ?_,fun i af=> ?_,⟨F,F,fun _ _ _ _ h=> ?_,fun _ _ _=>rfl⟩,b6⟩
  ·simp[Array.getElem?_replicate];split<;>rfl
  ·exfalso;simp[Array.getElem?_replicate]at af;split at af<;>cases af
  ·exfalso;simp[Array.getElem?_replicate]at h;split at h<;>cases h
 ·intro E a' w' i mU a6 af;obtain⟨cg,o,aa,om⟩:=mem_ready.1 af;have ag:i<l.length:=by simpa using(Array.getElem?_eq_some_iff.1 aa).1
  have aw:E.getD i false=false:=by rw[<-NY (by rw[mU];simpa using ag)];exact cg
  have a5:∀j,qR l.toArray i j=true->E.getD j false=true:=fun j u=>by
   obtain⟨o',ar,e,ab,hb,yj⟩:=Dq u;have:o'=o:=Option.some.inj (ar.symm.trans aa);subst this;rw[<-yj];exact om e ab hb
  have bw:∀m,n<=m->m<=l.length->(∀j,j<l.length->E.getD j false=decide (j<m))->wpList P l.toArray Q (l.drop m) a' w'->
   wpOp P l.toArray Q i (fun al az=>(∃m,n<=m/\m<=l.length/\(∀j,j<l.length->(E.setIfInBounds i true).getD j false=decide (j<m))/\wpList P l.toArray Q (l.drop m) al az)) a' w':=by
   intro m tL bc ai ad;have b8:i=m:=by
    have R:¬i<m:=fun j3=>by have:=ai i ag;rw[aw]at this;simp at this;omega
    rcases Nat.lt_or_ge m i with h2|h2
    ·have b4:=a5 (i - 1) (bj i J (by simpa using ag));have bk:=ai (i - 1) J;rw[b4]at bk;simp at bk;omega
    ·omega
   subst b8;have ac:l.drop i=o::l.drop (i+1):=by
    have ar:l[i]=o:=by
     have:=(Array.getElem?_eq_some_iff.1 aa).2;simpa using this
    rw[<-ar];exact drop_eq_getElem_cons ag
   rw[ac]at ad;have ch:wpOp P l.toArray Q i (wpList P l.toArray Q (l.drop (i+1))) a' w':=by
    unfold wpOp;simp only[aa];exact ad
   refine wpOp_mono (fun al az am=>⟨i+1,J,J,fun j u=> ?_,am⟩) ch;by_cases ae:j=i
   ·subst ae;have:j<E.size:=by rw[mU];simpa using ag
    simp[this]
   ·have ap:i≠j:=Ne.symm ae;have an:=ai j u;simp only[Array.getD_eq_getD_getElem?]at an⊢;rw[Array.getElem?_setIfInBounds_ne ap,an];by_cases bp:j<i
    ·simp[bp];omega
    ·simp[bp];omega
  rcases a6 with⟨aq,a1,ao,aE⟩|⟨m,tL,bc,ai,ad⟩
  ·by_cases a_:i<n
   ·obtain⟨_,o',ar,ci⟩:=a4 i (Nat.zero_le _) a_;have:o'=o:=Option.some.inj (ar.symm.trans aa);subst this;obtain⟨bx,bi⟩:=bh i o' a_ aa;have bo:=ao.eval (a8 i J) (o:=o') bx (fun j u t ac ht=>by
     obtain⟨_,b1⟩:=bi j t u ac;obtain⟨b2,b3⟩:=b1 ht;rcases Nat.lt_trichotomy j i with R|R|R
     ·simp only[R,decide_true];exact a5 j (b2 R)
     ·subst R;simp only[Nat.lt_irrefl,decide_false];exact aw
     ·have:¬j<i:=J;simp only[this,decide_false];cases ba:E.getD j false with
      |false=>rfl
      |true=>
       obtain⟨ck,cd,e,ab,hb,yj⟩:=Dq (b3 R);have:=a1 j ba ck cd e ab hb;rw[yj,aw]at this;cases this)
    have cj:YieldsIn P l.toArray C o' (vs i) a':=ci.of_same bo.1 bo.2;have ce:qOp P l.toArray C i (fun al=>al=a'.put o'.dst (vs i)) a':=cj.qOp aa F;refine wpOp_of_qOp aE (fun al az b7 ab=> ?_) ce;subst ab;refine .inl ⟨fun t ht=> ?_,fun k hk ok a3 e ab hb=> ?_,?_,b7⟩
    ·have ap:i≠t:=J;have an:=aq t ht;simp only[Array.getD_eq_getD_getElem?]at an⊢;rw[Array.getElem?_setIfInBounds_ne ap];exact an
    ·have bu:∀j,E.getD j false=true->(E.setIfInBounds i true).getD j false=true:=fun j u=>by
      by_cases ae:i=j
      ·subst ae;rw[aw]at u;cases u
      ·simp only[Array.getD_eq_getD_getElem?]at u⊢;rw[Array.getElem?_setIfInBounds_ne ae];exact u
     by_cases a2:i=k
     ·subst a2;have:ok=o':=Option.some.inj (a3.symm.trans aa);subst this;exact bu _ (om e ab hb)
     ·refine bu _ (a1 k ?_ ok a3 e ab hb);simp only[Array.getD_eq_getD_getElem?]at hk⊢;rw[Array.getElem?_setIfInBounds_ne a2]at hk;exact hk
    ·have bm:o'.dst=oN l.toArray i:=by simp[oN,aa]
     rw[bm];refine ao.put a_ aw ?_ (fun j u=> ?_) (fun j u ae t ac a9=> ?_)
     ·have:i<E.size:=by rw[mU];simpa using ag
      simp[this]
     ·have ap:i≠j:=Ne.symm u;simp only[Array.getD_eq_getD_getElem?];rw[Array.getElem?_setIfInBounds_ne ap]
     ·have:=(bi j t u a9).1 (Ne.symm ae);rw[<-bm]at ac;exact this ac
   ·have b9:i=n:=by
     rcases Nat.lt_or_ge n i with R|R
     ·have h2:=a5 (i - 1) (bj i R (by simpa using ag));rw[aq (i - 1) J]at h2;cases h2
     ·omega
    have bl:∀j,j<i->E.getD j false=true:=by
     have key:∀d j,i - j=d->j<i->E.getD j false=true:=by
      intro d;induction d using Nat.strongRecOn with
      |_ d ax=>
       intro j ac u;obtain⟨k,cl,cm,ad⟩:=bz (by simpa[b9]using ag) j J;by_cases a2:k=i
       ·subst a2;exact a5 j ad
       ·have hk:=ax (i - k) J k F J;obtain⟨ok,a3,e,ab,hb,yj⟩:=Dq ad;rw[<-yj];exact a1 k hk ok a3 e ab hb
     exact fun j u=>key _ j F u
    have a7:a'=bd n:=ao.eq (a8 n l5) fun j u=>by
     rw[bl j J];simp[u]
    refine wpOp_mono (fun al az am=> .inr am) (bw n l5 J (fun j u=> ?_) (by rw[a7];exact a0 w' aE));by_cases br:j<n
    ·rw[bl j J];simp[br]
    ·rw[aq j J];simp[br]
  ·exact wpOp_mono (fun al az am=> .inr am) (bw m tL bc ai ad)
 ·intro E a' w' mU a6 bt;have cn:E.size=l.length:=by rw[mU];simp
  rcases a6 with⟨aq,a1,ao,aE⟩|⟨m,tL,bc,ai,ad⟩
  ·have om:∀i,i<l.length->E.getD i false=true:=by
    intro i;induction i using Nat.strongRecOn with
    |_ i ax=>
     intro af;cases ba:E.getD i false with
     |true=>rfl
     |false=>
      have:=NZ (ops:=l.toArray) mU (by simpa using af) ba (fun j u=>ax j u J) (fun o aa e ab hb=>be i o aa e ab hb);rw[bt]at this;cases this
   have hn:n=l.length:=by
    rcases Nat.lt_or_ge n l.length with R|R
    ·have:=om n R;rw[aq n l5]at this;cases this
    ·omega
   have a7:a'=bd n:=ao.eq (a8 n l5) fun j u=>by
    rw[om j J];simp[u]
   have:=a0 w' aE;rw[a7];rw[hn,drop_length]at this;rw[hn];exact this
  ·have cb:m=l.length:=by
    rcases Nat.lt_or_ge m l.length with R|R
    ·have:=NZ (ops:=l.toArray) mU (by simpa using R) (by rw[ai m R];simp) (fun j u=>by rw[ai j J];simp[u]) (fun o aa e ab hb=>be m o aa e ab hb);rw[bt]at this;cases this
    ·omega
   rw[cb,drop_length]at ad;exact ad
end
end
theorem Vj(k:Nat)(h:k<32):bits .and .u64 (k:Int) 31=(k:Int):=by
 have j:(BitVec.ofInt 64 (k:Int)).toNat=k:=by simp;omega
 have u:(BitVec.ofInt 64 (31:Int)).toNat=31:=aF;change IntKind.u64.wrap ((BitVec.ofInt 64 (k:Int) &&& BitVec.ofInt 64 31).toNat:Int)=_;rw[BitVec.toNat_and,j,u,Nat.and_two_pow_sub_one_eq_mod k 5,IntKind.wrap_u64];omega
theorem N7(x:UInt32)(k:Nat):bits .or .u32 ((x.toNat:Int)*2^k%4294967296) ((x.toNat:Int) / 2^(32 - k))=((qj x k).toNat:Int):=by
 have j:(x.toNat:Int)*2^k%4294967296=((x.toNat*2^k%4294967296:Nat):Int):=by
  rw[Int.natCast_emod,Int.natCast_mul,Int.natCast_pow];rfl
 have e2:(x.toNat:Int) / 2^(32 - k)=((x.toNat / 2^(32 - k):Nat):Int):=by
  rw[Int.natCast_ediv,Int.natCast_pow];rfl
 rw[j,e2,(AU _ _ (Nat.mod_lt _ J) (Nat.lt_of_le_of_lt (Nat.div_le_self _ _) x.toNat_lt)).2.1,U9]
theorem N8(x:UInt32)(k:Nat)(w:World)(j:k<32):
 Br 281 #[.int .u32 x.toNat,.int .i64 k] w (.int .u32 (qj x k).toNat):=by
 have hk:=Vj k j;have u:=NI x;go_enter func281,ntmps281;go_wp2;go_ret;refine⟨?_,F⟩;rw[<-N7];rfl
theorem N9(x:UInt32)(k:Nat)(w:World)(u:k<32):
 Calls prog 162 #[.int .u32 x.toNat,.int .i64 k] w fun e w'=>e= .returned (.int .u32 (qj x k).toNat)/\∃n,w'=w.drewN n:=by
 have ac:=NI x;have j:0<=(k:Int):=J;have E:(k:Int)<=32:=J;have I:(0:Int)<=32 - (k:Int):=J;have R:IntKind.i64.wrap (32 - (k:Int))=32 - (k:Int):=IntWalk.i64_in _ J;have aa:(32 - (k:Int)).toNat=32 - k:=J;have ab:IntKind.u32.wrap ((x.toNat:Int)*2^k)=(x.toNat:Int)*2^k%4294967296:=IntKind.wrap_u32' _;go_enter func162,ntmps162;go_wp2
 go_quiet (fail)
 go_wp2;go_ret;exact⟨by rw[<-N7];rfl,nq,F⟩
def tK(ws:List UInt32)(r i:Nat):UInt32:=qj (ws.getD ((i+1+r)%16) 0) (5+i) ^^^ UInt32.ofNat (2654435769*(16*r+i+1))
theorem Vk(m:Nat):(2654435769*(m:Int)%4294967296)=((UInt32.ofNat (2654435769*m)).toNat:Int):=by
 rw[UInt32.toNat_ofNat'];omega
theorem N_(ws:List UInt32)(r i:Nat):bits .xor .u32 ((qj (ws[(i+1+r)%16]?.getD 0) (5+i)).toNat:Int) (2654435769*(16*(r:Int)+i+1)%4294967296)=((tK ws r i).toNat:Int):=by
 have e:(16*(r:Int)+i+1)=((16*r+i+1:Nat):Int):=J;rw[e,Vk,NK];simp[tK]
theorem Vl(g:Nat)(ws:List UInt32)(r i:Nat)(w:World)(I:r<8)(E:i<16)(hc:∀j,j<16->w.cell? ⟨g,j,none⟩=some (gY (ws.getD j 0))):
 Br 280 #[.pointer (some ⟨g,0,none⟩),.int .i64 r,.int .i64 i] w (.int .u32 (tK ws r i).toNat):=by
 have u:=hc ((i+1+r)%16) J;clear hc;go_enter func280,ntmps280;go_wp2_with (go_at_call 281;refine(N8 _ (5+i) _ J).mono ?_;rintro e w' ⟨rfl,rfl⟩);go_ret;refine⟨?_,F⟩;rw[<-N_];rfl
def m_(a b c d:UInt8):UInt32:=UInt32.ofNat (a.toNat*16777216+b.toNat*65536+c.toNat*256+d.toNat)
theorem Dt(a b k:Nat)(h:b<2^k):(a*2^k ||| b)=a*2^k+b:=by
 rw[Nat.mul_comm,<-Nat.two_pow_add_eq_or_of_lt h]
theorem Vm(a b c d:UInt8):bits .or .u32 (bits .or .u32 (bits .or .u32 ((a.toNat:Int)*16777216) ((b.toNat:Int)*65536)) ((c.toNat:Int)*256)) (d.toNat:Int)=((m_ a b c d).toNat:Int):=by
 have ha:=a.toNat_lt;have hb:=b.toNat_lt;have hc:=c.toNat_lt;have aa:=d.toNat_lt;have j:(a.toNat:Int)*16777216=((a.toNat*16777216:Nat):Int):=J;have e2:(b.toNat:Int)*65536=((b.toNat*65536:Nat):Int):=J;have u:(c.toNat:Int)*256=((c.toNat*256:Nat):Int):=J;rw[j,e2,u,(AU _ _ J J).2.1];have E:(a.toNat*16777216 ||| b.toNat*65536)=a.toNat*16777216+b.toNat*65536:=Dt a.toNat (b.toNat*65536) 24 J;rw[E,(AU _ _ J J).2.1];have I:(a.toNat*16777216+b.toNat*65536 ||| c.toNat*256)=a.toNat*16777216+b.toNat*65536+c.toNat*256:=by
  have:=Dt (a.toNat*256+b.toNat) (c.toNat*256) 16 J;have e:(a.toNat*256+b.toNat)*2^16=a.toNat*16777216+b.toNat*65536:=J;rwa[e]at this
 rw[I,(AU _ _ J J).2.1];have R:(a.toNat*16777216+b.toNat*65536+c.toNat*256 ||| d.toNat)=a.toNat*16777216+b.toNat*65536+c.toNat*256+d.toNat:=by
  have:=Dt (a.toNat*65536+b.toNat*256+c.toNat) d.toNat 8 J;have e:(a.toNat*65536+b.toNat*256+c.toNat)*2^8=a.toNat*16777216+b.toNat*65536+c.toNat*256:=J;rwa[e]at this
 rw[R];unfold m_;rw[UInt32.toNat_ofNat'];omega
theorem Jh(a b c d:UInt8)(w:World):
 nW 154 #[.agg #[.int .u8 a.toNat,.int .u8 b.toNat,.int .u8 c.toNat,.int .u8 d.toNat]] w (.int .u32 (m_ a b c d).toNat):=by
 have ha:=zl a;have hb:=zl b;have hc:=zl c;have j:=zl d;go_enter func154,ntmps154;go_wp2;go_ret;refine⟨?_,(X.refl _).alloc _⟩;rw[<-Vm];rfl
def gq(n:UInt32):aj:=[UInt8.ofNat (n.toNat / 16777216),UInt8.ofNat (n.toNat / 65536),UInt8.ofNat (n.toNat / 256),UInt8.ofNat n.toNat]
theorem Oa(m:Nat):((UInt8.ofNat m).toNat:Int)=(m:Int)%256:=by
 rw[UInt8.toNat_ofNat'];omega
theorem FH(n:UInt32):(gq n).map Y=[.int .u8 ((n.toNat:Int) / 16777216%256),.int .u8 ((n.toNat:Int) / 65536%256),.int .u8 ((n.toNat:Int) / 256%256),.int .u8 ((n.toNat:Int)%256)]:=by simp[gq,Y]
theorem Ji(n:UInt32)(w:World):
 nW 210 #[.int .u32 n.toNat] w (.agg ((gq n).map Y).toArray):=by
 rw[FH];go_enter func210,ntmps210;go_wp2;exact bodyPost_ret (v:= .agg #[.int .u8 ((n.toNat:Int) / 16777216%256),.int .u8 ((n.toNat:Int) / 65536%256),.int .u8 ((n.toNat:Int) / 256%256),.int .u8 ((n.toNat:Int)%256)])
  (by simp[results,Tryz.results210,go_sem]) F ⟨F,(X.refl _).alloc _⟩
def dG(n:UInt64):aj:=gq (UInt32.ofNat (n.toNat / 4294967296))++gq (UInt32.ofNat n.toNat)
theorem Ob(m:Nat):((UInt32.ofNat m).toNat:Int)=(m:Int)%4294967296:=by
 rw[UInt32.toNat_ofNat'];omega
theorem Oc(n:UInt32)(w:World):
 nW 210 #[.int .u32 n.toNat] w (.agg #[.int .u8 ((n.toNat:Int) / 16777216%256),.int .u8 ((n.toNat:Int) / 65536%256),.int .u8 ((n.toNat:Int) / 256%256),.int .u8 ((n.toNat:Int)%256)]):=by
 have:=Ji n w;rw[FH]at this;exact this
theorem Vo(n:UInt64):(dG n).map Y=[.int .u8 (((UInt32.ofNat (n.toNat / 4294967296)).toNat:Int) / 16777216%256),.int .u8 (((UInt32.ofNat (n.toNat / 4294967296)).toNat:Int) / 65536%256),.int .u8 (((UInt32.ofNat (n.toNat / 4294967296)).toNat:Int) / 256%256),.int .u8 (((UInt32.ofNat (n.toNat / 4294967296)).toNat:Int)%256),
 .int .u8 (((UInt32.ofNat n.toNat).toNat:Int) / 16777216%256),.int .u8 (((UInt32.ofNat n.toNat).toNat:Int) / 65536%256),.int .u8 (((UInt32.ofNat n.toNat).toNat:Int) / 256%256),.int .u8 (((UInt32.ofNat n.toNat).toNat:Int)%256)]:=by simp_all [dG,map_append,FH]
theorem AZ:iH prog 306 8:=⟨⟨_,underlying306,F⟩,au⟩
theorem Jj(n:UInt64)(w:World):
 nW 209 #[.int .u64 n.toNat] w (.agg ((dG n).map Y).toArray):=by
 rw[Vo];have hn:(n.toNat:Int)<18446744073709551616:=by have:=n.toNat_lt;omega
 have R:(n.toNat:Int) / 4294967296=((UInt32.ofNat (n.toNat / 4294967296)).toNat:Int):=by rw[Ob];omega
 have aa:((n.toNat:Int)%4294967296)=((UInt32.ofNat n.toNat).toNat:Int):=by rw[Ob]
 generalize UInt32.ofNat (n.toNat / 4294967296)=x at*;generalize UInt32.ofNat n.toNat=y at*;go_enter func209,ntmps209;go_wp2_with fail;refine(Oc _ _).mono ?_;rintro e I ⟨rfl,j⟩;obtain⟨ab,ad⟩:=Jd j;have E:w.heap.size<I.heap.size:=by have:=j.size;simp at this;omega
 go_wp2_with fail;refine(Oc _ _).mono ?_;rintro e w2 ⟨rfl,u6⟩;obtain⟨ac,ae⟩:=Jd u6;have af:w.heap.size<w2.heap.size:=by have:=u6.size;omega
 go_wp2_with fail;have u:X w w2:=(((X.refl w).alloc _).ext j).ext u6;have k2:ah w2 w.heap.size (List.replicate 8 (.int .u8 0)) 306:=
  ((ah.yu w (List.replicate 8 (.int .u8 0)) 306).below j aF).below u6 E
 have k3:=((((((((k2.set 0 (.int .u8 (↑x.toNat / 16777216%256))).set 1 (.int .u8 (↑x.toNat / 65536%256))).set 2 (.int .u8 (↑x.toNat / 256%256))).set 3 (.int .u8 (↑x.toNat%256))).set 4 (.int .u8 (↑y.toNat / 16777216%256))).set 5 (.int .u8 (↑y.toNat / 65536%256))).set 6 (.int .u8 (↑y.toNat / 256%256))).set 7 (.int .u8 (↑y.toNat%256)));refine gG (g:=w.heap.size) F F ((k3.alloc _).alloc _) AZ F F ⟨F,?_⟩;refine X.alloc (X.alloc ?_ _) _;iterate 8 refine X.set ?_ _ l5
 exact u
def bO(l:aj)(i:Nat):UInt32:=m_ (l[4*i]?.getD 0) (l[4*i+1]?.getD 0) (l[4*i+2]?.getD 0) (l[4*i+3]?.getD 0)
def l7(l:aj):List UInt32:=(List.range 16).map (bO l)
theorem Du{w:World}{g:Nat}{l:aj}{T:TypeId}(h:ah w g (l.map Y) T){i:Nat}(j:i<l.length):w.cell? ⟨g,i,none⟩=some (.int .u8 (((l[i]?.getD 0).toNat:Nat):Int)):=by
 refine h.cell' ?_;simp[j,Y]
theorem wZ{w:World}{g:Nat}{l:List UInt32}{T:TypeId}(h:ah w g (l.map gY) T){i:Nat}(j:i<l.length):w.cell? ⟨g,i,none⟩=some (.int .u32 (((l[i]?.getD 0).toNat:Nat):Int)):=by
 refine h.cell' ?_;simp[j,gY]
theorem Vp(n:Nat):(List.replicate n (0:UInt32)).map gY=List.replicate n (.int .u32 0):=by simp[gY]
theorem Oe(n:Nat):(List.replicate n (0:UInt8)).map Y=List.replicate n (.int .u8 0):=by simp[Y]
theorem FI:AX prog 5:=⟨⟨_,underlying5,F⟩,au⟩
theorem Vq:AX prog 239:=⟨⟨_,underlying239,F⟩,au⟩
theorem uQ:iH prog 251 16:=⟨⟨_,underlying251,F⟩,au⟩
theorem jT:iH prog 77 64:=⟨⟨_,underlying77,F⟩,au⟩
theorem FK:iH prog 248 4:=⟨⟨_,underlying248,F⟩,au⟩
theorem Vr(l:aj)(ab:l.length=64)(w:World):
 nW 279 #[.agg (l.map Y).toArray] w (.agg ((l7 l).map gY).toArray):=by
 have ad:=O ab;clear ab;go_enter func279,ntmps279;go_wp2;generalize u:World.alloc _ _=R;have ag:ah R w.heap.size (l.map Y) 77:=by subst u;exact((ah.aI F F).alloc _).alloc _
 have k1:ah R (w.heap.size+1) (List.replicate 16 (.int .u32 0)) 251:=by subst u;exact(ah.aI aF F).alloc _
 have k2:ah R (w.heap.size+1+1) ((jP (bO l) 0 16 0).map gY) 251:=by subst u;exact ah.aI aF (by rw[Fz,Vp];rfl)
 have ae:X w R:=by subst u;exact(((X.refl w).alloc _).alloc _).alloc _
 clear u;go_loopw [5] (fun i wr=>∃k:Nat,k<=16/\i= .int .i64 k/\ah wr w.heap.size (l.map Y) 77/\ah wr (w.heap.size+1) (List.replicate 16 (.int .u32 0)) 251/\ah wr (w.heap.size+1+1) ((jP (bO l) 0 16 k).map gY) 251/\X w wr)
  (fun i _=>16 - (intOf i).toNat)
 case atStart=>exact⟨0,J,F,ag,k1,k2,ae⟩
 case round=>
  obtain⟨k,hk,rfl,E,ac,I,bb⟩:=hrel;by_cases j3:k<16
  ·have af:=ad.out;have am:=Du E (i:=4*k) J;have an:=Du E (i:=4*k+1) J;have ao:=Du E (i:=4*k+2) J;have ap:=Du E (i:=4*k+3) J;have z2:=wZ I (i:=k) (by rw[sD];omega);have aq:=I.frozen k;have a0:=I.lt;have ax:(0:Int)<=4*(k:Int):=J;have az:4*(k:Int)<=4*(k:Int)+4:=J;have aE:4*(k:Int)+4<=64:=J;have ha:=AO (P:=prog) underlying248 (len:=4) (Nat.le_refl 4);clear af;go_wp2_with fail;refine(Jh _ _ _ _ _).mono ?_;rintro e a1 ⟨rfl,j⟩;obtain⟨ar,aw⟩:=Jd j;go_wp2_with fail;go_roundw
   case rel=>
    have r2:=ah.Vb (I.ext j);exact⟨k+1,J,by go_num,(E.ext j).qm _ _ (by simp;omega),(ac.ext j).qm _ _ aF,r2,(bb.ext j).set _ (by simp;omega)⟩
   case measure=>simp[intOf];omega
  ·obtain rfl:k=16:=J;have aa:((jP (bO l) 0 16 16).map gY).length=16:=by rw[length_map,sD]
   go_wp2_with (first|(refine bV F _ _ F F I uQ aa ?_)|(refine bg F _ _ _ F F F ac uQ aF aa (Fq _) ?_));intro a2 ai al;go_wp2;refine gG (g:=w.heap.size+1) F F ai uQ aa F ⟨?_,al.ext bb J⟩;rw[FB _ _ _ _ l5];rfl
def vT(l:aj)(i j:Nat):UInt32:=
 if i<=4*j then 0 else if i=4*j+1 then m_ 0 0 0 (l[4*j]?.getD 0)else if i=4*j+2 then m_ 0 0 (l[4*j]?.getD 0) (l[4*j+1]?.getD 0)
 else if i=4*j+3 then m_ 0 (l[4*j]?.getD 0) (l[4*j+1]?.getD 0) (l[4*j+2]?.getD 0)else bO l j
def vU(l:aj)(i:Nat):List UInt32:=(List.range 16).map (vT l i)
theorem Vs(a b c d e:UInt8):bits .or .u32 (((m_ a b c d).toNat:Int)*256%4294967296) (e.toNat:Int)=((m_ b c d e).toNat:Int):=by
 have ha:=a.toNat_lt;have hb:=b.toNat_lt;have hc:=c.toNat_lt;have E:=d.toNat_lt;have I:=e.toNat_lt;have u:((m_ a b c d).toNat:Int)*256%4294967296=((b.toNat*65536+c.toNat*256+d.toNat)*256:Nat):=by
  unfold m_;rw[UInt32.toNat_ofNat'];omega
 rw[u,(AU _ _ J J).2.1];have j:=Dt (b.toNat*65536+c.toNat*256+d.toNat) e.toNat 8 J;rw[show(2:Nat)^8=256 from F]at j;rw[j];unfold m_;rw[UInt32.toNat_ofNat'];omega
theorem Vt(l:aj)(i:Nat):∃a b c d,vT l i (i / 4)=m_ a b c d/\vT l (i+1) (i / 4)=m_ b c d (l[i]?.getD 0):=by
 have h:=Nat.div_add_mod i 4;have E:i%4<4:=Nat.mod_lt _ J;have e:∃q,i / 4=q:=⟨_,F⟩;obtain⟨q,u⟩:=e;rw[u]at h⊢;clear u;unfold vT;rcases(by omega:i%4=0∨i%4=1∨i%4=2∨i%4=3)with j|j|j|j
 ·obtain rfl:i=4*q:=J;exact⟨0,0,0,0,by rw[if_pos J];rfl,by rw[if_neg J,if_pos J]⟩
 ·obtain rfl:i=4*q+1:=J;exact⟨0,0,0,_,by rw[if_neg J,if_pos J],by rw[if_neg J,if_neg J,if_pos J]⟩
 ·obtain rfl:i=4*q+2:=J;exact⟨0,0,_,_,by rw[if_neg J,if_neg J,if_pos J],by rw[if_neg J,if_neg J,if_neg J,if_pos J]⟩
 ·obtain rfl:i=4*q+3:=J;exact⟨0,_,_,_,by rw[if_neg J,if_neg J,if_neg J,if_pos J],by rw[if_neg J,if_neg J,if_neg J,if_neg J];rfl⟩
theorem Vu(l:aj)(i j:Nat)(h:j≠i / 4):vT l (i+1) j=vT l i j:=by grind [vT]
theorem Vw(l:aj)(i:Nat):(vU l i).set (i / 4) (vT l (i+1) (i / 4))=vU l (i+1):=by
 unfold vU;apply ext_getElem?;intro j;rw[List.getElem?_set];by_cases E:i / 4=j
 ·subst E;simp only[if_true,length_map,length_range,List.getElem?_map];by_cases u:i / 4<16
  ·simp[u]
  ·simp[u]
 ·rw[if_neg E];simp only[List.getElem?_map];by_cases u:j<16
  ·simp[u,Vu l i j (Ne.symm E)]
  ·simp[u]
theorem Vx(l:aj)(I:l.length=64)(w:World):
 nW 161 #[.agg (l.map Y).toArray] w (.agg ((l7 l).map gY).toArray):=by
 have ab:(l.map Y).length=64:=by rw[length_map];exact I
 have ad:=O ab;clear ab;have ae:=O I;clear I;go_enter func161,ntmps161;go_wp2_with (refine bV F _ _ F F (((ah.aI F F).alloc _).alloc _) jT ad ?_);generalize u:World.alloc _ _=aa;have k1:ah aa (w.heap.size+1) (List.replicate 16 (.int .u32 0)) 251:=by subst u;exact(ah.aI aF F).alloc _
 have k2:ah aa (w.heap.size+1+1) ((vU l 0).map gY) 251:=by subst u;exact ah.aI aF F
 have af:X w aa:=by subst u;exact(((X.refl w).alloc _).alloc _).alloc _
 clear u;go_loopw [7] (fun i wr=>∃k:Nat,k<=64/\i= .int .i64 k/\ah wr (w.heap.size+1) (List.replicate 16 (.int .u32 0)) 251/\ah wr (w.heap.size+1+1) ((vU l k).map gY) 251/\X w wr)
  (fun i _=>64 - (intOf i).toNat)
 case atStart=>exact⟨0,J,F,k1,k2,af⟩
 case round=>
  obtain⟨k,hk,rfl,ac,E,bb⟩:=hrel;by_cases j3:k<64
  ·obtain⟨a,b,c,d,al,am⟩:=Vt l k;have z2:wr.cell? ⟨w.heap.size+1+1,k / 4,none⟩=some (.int .u32 ((m_ a b c d).toNat:Nat)):=by
    refine E.cell' ?_;rw[<-al];simp[vU,gY,show k / 4<16 by omega]
   have ao:=E.frozen (k / 4);have ap:=zl (l[k]?.getD 0);have aq:=NR (P:=prog) (cs:=(l.map Y).toArray) (v:= .int .u8 ((l[k]?.getD 0).toNat:Nat)) underlying77 FI k j3 (by
    have:=ae.out;simp[Y,this,j3])
   have ar:=Vs a b c d (l[k]?.getD 0);go_wp2_with fail;go_roundw
   case rel=>
    have r2:=E.set (k / 4) (gY (vT l (k+1) (k / 4)));rw[<-map_set,Vw,am]at r2;exact⟨k+1,J,by go_num,ac.qm _ _ aF,r2,bb.set _ (by simp;omega)⟩
   case measure=>simp[intOf];omega
  ·obtain rfl:k=64:=J;have R:((vU l 64).map gY).length=16:=by simp[vU]
   go_wp2_with (first|(refine bV F _ _ F F E uQ R ?_)|(refine bg F _ _ _ F F F ac uQ aF R (Fq _) ?_));intro aw ai an;go_wp2;refine gG (g:=w.heap.size+1) F F ai uQ R F ⟨?_,an.ext bb J⟩;have:vU l 64=l7 l:=by
    unfold vU l7;apply map_congr_left;intro j ag;have:=mem_range.1 ag;unfold vT;rw[if_neg J,if_neg J,if_neg J,if_neg J]
   rw[this]
def qo(ws:List UInt32)(j:Nat):UInt8:=(gq (ws[j / 4]?.getD 0))[j%4]?.getD 0
def zq(ws:List UInt32):aj:=(List.range 64).map (qo ws)
theorem Vy(ws:List UInt32)(k:Nat):gq (ws[k]?.getD 0)=(List.range 4).map fun j=>qo ws (4*k+j):=by
 have e:∀j,j<4->qo ws (4*k+j)=(gq (ws[k]?.getD 0))[j]?.getD 0:=fun j u=>by
  unfold qo;rw[show(4*k+j) / 4=k by omega,show(4*k+j)%4=j by omega]
 show _=[qo ws (4*k+0),qo ws (4*k+1),qo ws (4*k+2),qo ws (4*k+3)];rw[e 0 J,e 1 J,e 2 J,e 3 J];rfl
theorem Vz(ws:List UInt32)(R:ws.length=16)(w:World):
 nW 282 #[.agg (ws.map gY).toArray] w (.agg ((zq ws).map Y).toArray):=by
 have af:(ws.map gY).length=16:=by rw[length_map];exact R
 have ap:=O af;clear af;have aq:=O R;clear R;go_enter func282,ntmps282;go_wp2_with (refine bV F _ _ F F (((ah.aI F F).alloc _).alloc _) uQ ap ?_);generalize E:World.alloc _ _=ac;have k1:ah ac (w.heap.size+1) (List.replicate 64 (.int .u8 0)) 77:=by subst E;exact(ah.aI aF F).alloc _
 have k2:ah ac (w.heap.size+1+1) ((jP (qo ws) 0 64 (4*0)).map Y) 77:=by subst E;exact ah.aI aF (by rw[Fz,Oe];rfl)
 have ar:X w ac:=by subst E;exact(((X.refl w).alloc _).alloc _).alloc _
 clear E;go_loopw [8] (fun i wr=>∃k:Nat,k<=16/\i= .int .i64 k/\ah wr (w.heap.size+1) (List.replicate 64 (.int .u8 0)) 77/\ah wr (w.heap.size+1+1) ((jP (qo ws) 0 64 (4*k)).map Y) 77/\X w wr)
  (fun i _=>16 - (intOf i).toNat)
 case atStart=>exact⟨0,J,F,k1,k2,ar⟩
 case round=>
  obtain⟨k,hk,rfl,ab,I,bb⟩:=hrel;by_cases j3:k<16
  ·have aE:=NR (P:=prog) (cs:=(ws.map gY).toArray) (v:= .int .u32 ((ws[k]?.getD 0).toNat:Nat)) underlying251 Vq k j3 (by
    have:=aq.out;simp[gY,this,j3])
   go_wp2_with fail;refine(Ji _ _).mono ?_;rintro e ao ⟨rfl,ae⟩;go_wp2_with (first|(refine bg F _ _ _ F F F (ah.aI F F) FK F F (b_ _) ?_));intro w2 ai an;have e2:X wr w2:=an.ext (ae.alloc _) ae.size;have al:=ab.ext e2;have r2:=I.ext e2;have ad:=bb.ext e2;have a0:=I.lt;clear an ab I bb aE;have a4:(0:Int)<=4*(k:Int):=J;have a5:4*(k:Int)<=64:=J;have a6:¬(64=4*k):=J;have a8:IntKind.i64.wrap (4*(k:Int))=4*(k:Int):=IntWalk.i64_in _ J;have a7:(4*(k:Int)).toNat=4*k:=J;go_wp2_with fail;refine qV (C:=fun w'=>w'=w2.drew) 4 au au F ?_;simp only[take_succ_cons,take_zero,drop_succ_cons,drop_zero];iterate 4 quiet_step (fail)
   refine wpQuiet_nil ?_;rintro _ rfl;have ag:((gq (ws[k]?.getD 0)).map Y).length=4:=F;refine NQ F _ _ _ _ F F F r2.drew underlying32 FI.2 (cs:=(gq (ws[k]?.getD 0)).map Y) (by rw[ag];exact(Nat.min_eq_left J).symm) ?_ (by rw[ag,length_map,sD];omega) (b_ _) ?_
   ·intro j v az;have ax:(⟨ao.heap.size,0,none⟩:Addr).add j=⟨ao.heap.size,j,none⟩:=by unfold Addr.add;split<;>simp_all
    rw[ax];exact ai.drew.cell' az
   intro a3 am u;have a2:=al.drew.upd u J;have aw:=u.ext ad.drew J;rw[Vd (qo ws) 0 64 (4*k) 4 Y J (gq (ws[k]?.getD 0)) (Vy ws k),show 4*k+4=4*(k+1) by omega]at am;clear ai e2 al r2 ad a0 u;go_wp2;go_roundw
   case rel=>exact⟨k+1,J,by go_num,a2,am,aw⟩
   case measure=>simp[intOf];omega
  ·obtain rfl:k=16:=J;have aa:((jP (qo ws) 0 64 (4*16)).map Y).length=64:=by rw[length_map,sD]
   go_wp2_with (first|(refine bV F _ _ F F I jT aa ?_)|(refine bg F _ _ _ F F F ab jT aF aa (b_ _) ?_));intro a3 a1 u;go_wp2;refine gG (g:=w.heap.size+1) F F a1 jT aa F ⟨?_,u.ext bb J⟩;rw[FB _ _ _ _ J];rfl
theorem VA(n:UInt32)(m:Nat)(j:m<4):((n.toNat:Int) / 2^(24 - 8*m)%256)=(((gq n)[m]?.getD 0).toNat:Int):=by
 rcases(by omega:m=0∨m=1∨m=2∨m=3)with rfl|rfl|rfl|rfl
 all_goals simp only[gq];simp;try rw[UInt8.toNat_ofNat'];omega
theorem VB(ws:List UInt32)(R:ws.length=16)(w:World):
 nW 163 #[.agg (ws.map gY).toArray] w (.agg ((zq ws).map Y).toArray):=by
 have ac:=O R;clear R;go_enter func163,ntmps163;go_wp2;generalize j:World.alloc _ _=E;have ae:ah E w.heap.size (ws.map gY) 251:=by subst j;exact((ah.aI F F).alloc _).alloc _
 have k1:ah E (w.heap.size+1) (List.replicate 64 (.int .u8 0)) 77:=by subst j;exact(ah.aI aF F).alloc _
 have k2:ah E (w.heap.size+1+1) ((jP (qo ws) 0 64 0).map Y) 77:=by subst j;exact ah.aI aF (by rw[Fz,Oe];rfl)
 have ad:X w E:=by subst j;exact(((X.refl w).alloc _).alloc _).alloc _
 clear j;go_loopw [5] (fun i wr=>∃k:Nat,k<=64/\i= .int .i64 k/\ah wr w.heap.size (ws.map gY) 251/\ah wr (w.heap.size+1) (List.replicate 64 (.int .u8 0)) 77/\ah wr (w.heap.size+1+1) ((jP (qo ws) 0 64 k).map Y) 77/\X w wr)
  (fun i _=>64 - (intOf i).toNat)
 case atStart=>exact⟨0,J,F,ae,k1,k2,ad⟩
 case round=>
  obtain⟨k,hk,rfl,aa,ab,u,bb⟩:=hrel;by_cases j3:k<64
  ·have al:=wZ aa (i:=k / 4) (by rw[ac.out];omega);have z2:=Du u (i:=k) (by rw[sD];omega);have ai:=u.frozen k;have am:=VA (ws[k / 4]?.getD 0) (k%4) J;go_wp2_with fail;go_roundw
   case rel=>
    have r2:=ah.NT u;exact⟨k+1,J,by go_num,aa.qm _ _ (by simp;omega),ab.qm _ _ aF,r2,bb.set _ (by simp;omega)⟩
   case measure=>simp[intOf];omega
  ·obtain rfl:k=64:=J;have I:((jP (qo ws) 0 64 64).map Y).length=64:=by rw[length_map,sD]
   go_wp2_with (first|(refine bV F _ _ F F u jT I ?_)|(refine bg F _ _ _ F F F ab jT aF I (b_ _) ?_));intro an af ag;go_wp2;refine gG (g:=w.heap.size+1) F F af jT I F ⟨?_,ag.ext bb J⟩;rw[FB _ _ _ _ J];rfl
def uS(ws:List UInt32)(r i:Nat):List UInt32:=ws.set i (zk (ws[i]?.getD 0) (tK ws r i))
def Dv(ws:List UInt32)(i:Nat):List UInt32:=ws.set ((i+9)%16) (yt (ws[(i+9)%16]?.getD 0) (qj (ws[i]?.getD 0) 11))
def I_(ws:List UInt32)(r i:Nat):List UInt32:=Dv (uS ws r i) i
def tN(r:Nat)(ws:List UInt32):Nat->List UInt32
 |0=>ws
 |i+1=>I_ (tN r ws i) r i
def pq(ws:List UInt32):Nat->List UInt32
 |0=>ws
 |r+1=>tN r (pq ws r) 16
def zu(l:aj):aj:=zq (pq (l7 l) 8)
theorem Jk(ws:List UInt32)(r i:Nat):(uS ws r i).length=ws.length:=by simp[uS]
theorem VD(ws:List UInt32)(i:Nat):(Dv ws i).length=ws.length:=by simp[Dv]
theorem Jl(r:Nat)(ws:List UInt32)(i:Nat):(tN r ws i).length=ws.length:=by induction i<;>grind [tN,I_,VD,Jk]
theorem A8(ws:List UInt32)(r:Nat):(pq ws r).length=ws.length:=by induction r<;>grind [pq,Jl]
theorem yx(l:aj):(l7 l).length=16:=by simp[l7]
theorem Jm(ws:List UInt32):(zq ws).length=64:=by simp[zq]
theorem VE(l:aj)(ai:l.length=64)(w:World):
 nW 211 #[.agg (l.map Y).toArray] w (.agg ((zu l).map Y).toArray):=by
 have az:(l.map Y).length=64:=by rw[length_map];exact ai
 have a5:=O az;clear az;have a6:=O ai;clear ai;have a0:((l7 l).map gY).length=16:=by rw[length_map,yx]
 have a8:=O a0;clear a0;go_enter func211,ntmps211;go_wp2_with (refine bV F _ _ F F ((ah.aI F F).alloc _) jT a5 ?_);refine(Vr l a6 _).mono ?_;rintro e E ⟨rfl,ag⟩;have aa:X w E:=(((X.refl w).alloc _).alloc _).ext ag;have ap:ah E (w.heap.size+1) (List.replicate 64 (.int .u8 0)) 77:=ah.ext (ah.aI aF F) ag;have a2:w.heap.size+1<E.heap.size:=ap.lt;clear ag;go_wp2_with (refine bg F _ _ _ F F F (ah.aI F F) uQ F a8 (Fq _) ?_);intro w2 k2 an;have e2:X w w2:=an.ext (aa.alloc _) aa.size;have z2:ah w2 (w.heap.size+1) (List.replicate 64 (.int .u8 0)) 77:=(ap.alloc _).upd an J;clear an ap;have a1:w.heap.size+1<E.heap.size/\w.heap.size<=E.heap.size:=⟨a2,aa.size⟩;generalize E.heap.size=g at*;clear aa a2;go_wp2;go_loopw [8] (fun x wr=>∃r:Nat,r<=8/\x= .int .i64 r/\ah wr (w.heap.size+1) (List.replicate 64 (.int .u8 0)) 77/\ah wr g ((pq (l7 l) r).map gY) 251/\X w wr)
  (fun x _=>8 - (intOf x).toNat)
 case atStart=>exact⟨0,J,F,z2,k2,e2⟩
 case round=>
  obtain⟨r,br,rfl,a3,a4,bb⟩:=hrel;by_cases j3:r<8
  ·have bo:decide ((r:Int)<8)=true:=aQ J;go_wp2;go_loopw [11] (fun y ao=>∃i:Nat,i<=16/\y= .int .i64 i/\ah ao (w.heap.size+1) (List.replicate 64 (.int .u8 0)) 77/\ah ao g ((tN r (pq (l7 l) r) i).map gY) 251/\X w ao)
    (fun y _=>16 - (intOf y).toNat)
   case atStart=>exact⟨0,J,F,a3,a4,bb⟩
   case round=>
    obtain⟨i,bp,rfl,am,u,ad⟩:=hrel;by_cases bd:i<16
    ·have I:(tN r (pq (l7 l) r) i).length=16:=by rw[Jl,A8,yx]
     generalize be:tN r (pq (l7 l) r) i=ws at*;have ax:=fun n=>eB (u.drewN (n:=n)) 16 I;have ar:wr.cell? ⟨g,i,none⟩=some (.int .u32 ((ws[i]?.getD 0).toNat:Nat)):=wZ u J;have bc:=u.frozen i;have bt:(0:Int)<=(i:Int):=J;have bu:(i:Int)<16:=J;have a9:=NM (ws[i]?.getD 0) (tK ws r i);have aq:=O ax;clear ax;have a7:=O I;clear I;go_wp2;refine qV (C:=fun w'=>∃n,w'=wr.drewN n) 7 au au ⟨1,F⟩ ?_;simp only[take_succ_cons,take_zero,drop_succ_cons,drop_zero];iterate 7 quiet_step ((exact Calls.quiet_of_same ((Vl g ws r i _ j3 bd (aq _)).mono fun e w' ⟨ae,af⟩=>⟨ae,af.symm⟩)))
     refine wpQuiet_nil ?_;rintro _ ⟨nq,rfl⟩;go_wp2;have R:=(u.drewN (n:=nq)).Fv i (zk (ws[i]?.getD 0) (tK ws r i));have bh:=(am.drewN (n:=nq)).qm ⟨g,i,none⟩ (.int .u32 ((zk (ws[i]?.getD 0) (tK ws r i)).toNat:Nat)) (by simp;omega);have a_:=(ad.drewN nq).set (p:=⟨g,i,none⟩) (.int .u32 ((zk (ws[i]?.getD 0) (tK ws r i)).toNat:Nat)) a1.2;generalize World.setCell _ _ _=ac at*;clear am u ad ar bc a9 aq;have ab:(uS ws r i).length=16:=by rw[Jk];exact a7
     change ah ac g ((uS ws r i).map gY) _ at R;have aE:I_ ws r i=Dv (uS ws r i) i:=F;generalize uS ws r i=j at*;have nA:=O aE;clear aE;have ar:ac.cell? ⟨g,i,none⟩=some (.int .u32 ((j[i]?.getD 0).toNat:Nat)):=wZ R J;have bl:ac.cell? ⟨g,(i+9)%16,none⟩=some (.int .u32 ((j[(i+9)%16]?.getD 0).toNat:Nat)):=wZ R J;have bm:=R.frozen ((i+9)%16);have bv:(0:Int)<=((i:Int)+9)%16:=J;have bw:((i:Int)+9)%16<16:=J;have bx:(((i:Int)+9)%16).toNat=(i+9)%16:=J;have bz:IntKind.i64.wrap ((i:Int)+9)=(i:Int)+9:=IntWalk.i64_in _ J;have b0:((i:Int)+9).tmod 16=((i:Int)+9)%16:=Int.tmod_eq_emod_of_nonneg J;have b3:=NP (j[(i+9)%16]?.getD 0) (qj (j[i]?.getD 0) 11);clear ab;refine qV (C:=fun w'=>∃n,w'=ac.drewN n) 10 au au ⟨1,F⟩ ?_;simp only[take_succ_cons,take_zero,drop_succ_cons,drop_zero];iterate 10 quiet_step ((exact Calls.quiet_of_same ((N8 (j[i]?.getD 0) 11 _ J).mono fun e w' ⟨ae,af⟩=>⟨ae,af.symm⟩)))
     refine wpQuiet_nil ?_;rintro _ ⟨al,rfl⟩;have bj:=(R.drewN (n:=al)).Fv ((i+9)%16) (yt (j[(i+9)%16]?.getD 0) (qj (j[i]?.getD 0) 11));have bi:=(bh.drewN (n:=al)).qm ⟨g,(i+9)%16,none⟩ (.int .u32 ((yt (j[(i+9)%16]?.getD 0) (qj (j[i]?.getD 0) 11)).toNat:Nat)) (by simp;omega);have ba:=(a_.drewN al).set (p:=⟨g,(i+9)%16,none⟩) (.int .u32 ((yt (j[(i+9)%16]?.getD 0) (qj (j[i]?.getD 0) 11)).toNat:Nat)) a1.2;go_wp2;go_roundw
     case rel=>exact⟨i+1,J,by go_num,bi,by rw[tN,be,nA.out];exact bj,ba⟩
     case measure=>simp[intOf];omega
    ·obtain rfl:i=16:=J;go_wp2;go_roundw
     case rel=>exact⟨r+1,J,by go_num,am,u,ad⟩
     case measure=>simp[intOf];omega
  ·obtain rfl:r=8:=J;have I:((pq (l7 l) 8).map gY).length=16:=by rw[length_map,A8,yx]
   go_wp2_with (refine bV F _ _ F F a4 uQ I ?_);refine(Vz _ (by rw[A8,yx]) _).mono ?_;rintro e b1 ⟨rfl,aw⟩;have ab:((zq (pq (l7 l) 8)).map Y).length=64:=by rw[length_map,Jm]
   go_wp2_with (refine bg F _ _ _ F F F (a3.ext aw) jT aF ab (b_ _) ?_);intro b2 k6 bk;go_wp2;exact gG (g:=w.heap.size+1) F F k6 jT ab F ⟨F,bk.ext (bb.ext aw) J⟩
theorem VF(l:aj)(af:l.length=64)(w:World):
 nW 109 #[.agg (l.map Y).toArray] w (.agg ((zu l).map Y).toArray):=by
 have aq:(l.map Y).length=64:=by rw[length_map];exact af
 have a1:=O aq;clear aq;have a2:=O af;clear af;have aw:((l7 l).map gY).length=16:=by rw[length_map,yx]
 have a4:=O aw;clear aw;go_enter func109,ntmps109;go_wp2_with (refine bV F _ _ F F ((ah.aI F F).alloc _) jT a1 ?_);refine(Vx l a2 _).mono ?_;rintro e E ⟨rfl,ae⟩;have R:X w E:=(((X.refl w).alloc _).alloc _).ext ae;have an:ah E (w.heap.size+1) (List.replicate 64 (.int .u8 0)) 77:=ah.ext (ah.aI aF F) ae;have az:w.heap.size+1<E.heap.size:=an.lt;clear ae;go_wp2_with (refine bg F _ _ _ F F F (ah.aI F F) uQ F a4 (Fq _) ?_);intro w2 k2 al;have e2:X w w2:=al.ext (R.alloc _) R.size;have z2:ah w2 (w.heap.size+1) (List.replicate 64 (.int .u8 0)) 77:=(an.alloc _).upd al J;clear al an;have ax:w.heap.size+1<E.heap.size/\w.heap.size<=E.heap.size:=⟨az,R.size⟩;generalize E.heap.size=g at*;clear R az;go_wp2;go_loopw [10] (fun x wr=>∃r:Nat,r<=8/\x= .int .i64 r/\ah wr (w.heap.size+1) (List.replicate 64 (.int .u8 0)) 77/\ah wr g ((pq (l7 l) r).map gY) 251/\X w wr)
  (fun x _=>8 - (intOf x).toNat)
 case atStart=>exact⟨0,J,F,z2,k2,e2⟩
 case round=>
  obtain⟨r,bx,rfl,aE,a0,bb⟩:=hrel;by_cases j3:r<8
  ·have bu:decide ((r:Int)<8)=true:=aQ J;go_wp2;go_loopw [13] (fun y am=>∃i:Nat,i<=16/\y= .int .i64 i/\ah am (w.heap.size+1) (List.replicate 64 (.int .u8 0)) 77/\ah am g ((tN r (pq (l7 l) r) i).map gY) 251/\X w am)
    (fun y _=>16 - (intOf y).toNat)
   case atStart=>exact⟨0,J,F,aE,a0,bb⟩
   case round=>
    obtain⟨i,bv,rfl,ai,u,ad⟩:=hrel;by_cases bw:i<16
    ·have aa:(tN r (pq (l7 l) r) i).length=16:=by rw[Jl,A8,yx]
     generalize a_:tN r (pq (l7 l) r) i=ws at*;have ao:wr.cell? ⟨g,i,none⟩=some (.int .u32 ((ws[i]?.getD 0).toNat:Nat)):=wZ u J;have a6:wr.cell? ⟨g,(i+1+r)%16,none⟩=some (.int .u32 ((ws[(i+1+r)%16]?.getD 0).toNat:Nat)):=wZ u J;have a9:=u.frozen i;have bz:(0:Int)<=(i:Int):=J;have b0:(i:Int)<16:=J;have a5:=NM (ws[i]?.getD 0) (tK ws r i);have bd:(0:Int)<=((i:Int)+1+r)%16:=J;have be:((i:Int)+1+r)%16<16:=J;have bh:(((i:Int)+1+r)%16).toNat=(i+1+r)%16:=J;have j5:IntKind.i64.wrap (5+(i:Int))=5+(i:Int):=IntWalk.i64_in _ J;have j6:IntKind.i64.wrap (16*(r:Int))=16*(r:Int):=IntWalk.i64_in _ J;have bi:IntKind.i64.wrap (16*(r:Int)+i)=16*(r:Int)+i:=IntWalk.i64_in _ J;have bj:IntKind.i64.wrap (16*(r:Int)+i+1)=16*(r:Int)+i+1:=IntWalk.i64_in _ J;have bk:IntKind.u32.wrap (16*(r:Int)+i+1)=16*(r:Int)+i+1:=IntWalk.u32_in _ J;have ba:IntKind.u32.wrap (2654435769*(16*(r:Int)+i+1))=2654435769*(16*(r:Int)+i+1)%4294967296:=IntKind.wrap_u32' _;have bc:=N_ ws r i;have a3:=O aa;clear aa;go_wp2;refine qV (C:=fun w'=>∃n,w'=wr.drewN n) 18 au au ⟨1,F⟩ ?_;simp only[take_succ_cons,take_zero,drop_succ_cons,drop_zero];iterate 18 quiet_step ((exact Calls.quiet_of ((N9 (ws[(i+1+r)%16]?.getD 0) (5+i) _ J))))
     refine wpQuiet_nil ?_;rintro _ ⟨nq,rfl⟩;go_wp2;have I:=(u.drewN (n:=nq)).Fv i (zk (ws[i]?.getD 0) (tK ws r i));have bl:=(ai.drewN (n:=nq)).qm ⟨g,i,none⟩ (.int .u32 ((zk (ws[i]?.getD 0) (tK ws r i)).toNat:Nat)) (by simp;omega);have a7:=(ad.drewN nq).set (p:=⟨g,i,none⟩) (.int .u32 ((zk (ws[i]?.getD 0) (tK ws r i)).toNat:Nat)) ax.2;generalize World.setCell _ _ _=ac at*;clear ai u ad ao a6 a9 a5 bd be bh j5 j6 bi bj bk ba bc;have ab:(uS ws r i).length=16:=by rw[Jk];exact a3
     change ah ac g ((uS ws r i).map gY) _ at I;have ar:I_ ws r i=Dv (uS ws r i) i:=F;generalize uS ws r i=j at*;have nA:=O ar;clear ar;have ao:ac.cell? ⟨g,i,none⟩=some (.int .u32 ((j[i]?.getD 0).toNat:Nat)):=wZ I J;have br:ac.cell? ⟨g,(i+9)%16,none⟩=some (.int .u32 ((j[(i+9)%16]?.getD 0).toNat:Nat)):=wZ I J;have bt:=I.frozen ((i+9)%16);have b1:(0:Int)<=((i:Int)+9)%16:=J;have b2:((i:Int)+9)%16<16:=J;have b3:(((i:Int)+9)%16).toNat=(i+9)%16:=J;have b4:IntKind.i64.wrap ((i:Int)+9)=(i:Int)+9:=IntWalk.i64_in _ J;have b5:((i:Int)+9).tmod 16=((i:Int)+9)%16:=Int.tmod_eq_emod_of_nonneg J;have b8:=NP (j[(i+9)%16]?.getD 0) (qj (j[i]?.getD 0) 11);clear ab;refine qV (C:=fun w'=>∃n,w'=ac.drewN n) 8 au au ⟨1,F⟩ ?_;simp only[take_succ_cons,take_zero,drop_succ_cons,drop_zero];iterate 8 quiet_step ((exact Calls.quiet_of (N9 (j[i]?.getD 0) 11 _ J)))
     refine wpQuiet_nil ?_;rintro _ ⟨ag,rfl⟩;have bo:=(I.drewN (n:=ag)).Fv ((i+9)%16) (yt (j[(i+9)%16]?.getD 0) (qj (j[i]?.getD 0) 11));have bm:=(bl.drewN (n:=ag)).qm ⟨g,(i+9)%16,none⟩ (.int .u32 ((yt (j[(i+9)%16]?.getD 0) (qj (j[i]?.getD 0) 11)).toNat:Nat)) (by simp;omega);have a8:=(a7.drewN ag).set (p:=⟨g,(i+9)%16,none⟩) (.int .u32 ((yt (j[(i+9)%16]?.getD 0) (qj (j[i]?.getD 0) 11)).toNat:Nat)) ax.2;go_wp2;go_roundw
     case rel=>exact⟨i+1,J,by go_num,bm,by rw[tN,a_,nA.out];exact bo,a8⟩
     case measure=>simp[intOf];omega
    ·obtain rfl:i=16:=J;go_wp2;go_roundw
     case rel=>exact⟨r+1,J,by go_num,ai,u,ad⟩
     case measure=>simp[intOf];omega
  ·obtain rfl:r=8:=J;have aa:((pq (l7 l) 8).map gY).length=16:=by rw[length_map,A8,yx]
   go_wp2_with (refine bV F _ _ F F a0 uQ aa ?_);refine(VB _ (by rw[A8,yx]) _).mono ?_;rintro e b6 ⟨rfl,ap⟩;have ab:((zq (pq (l7 l) 8)).map Y).length=64:=by rw[length_map,Jm]
   go_wp2_with (refine bg F _ _ _ F F F (aE.ext ap) jT aF ab (b_ _) ?_);intro b7 k6 bp;go_wp2;exact gG (g:=w.heap.size+1) F F k6 jT ab F ⟨F,bp.ext (bb.ext ap) J⟩
def kS(s b:aj):Nat->aj
 |0=>s
 |i+1=>(kS s b i).set i (vO ((kS s b i)[i]?.getD 0) (b[i]?.getD 0))
theorem zx(s b:aj)(i:Nat):(kS s b i).length=s.length:=by induction i<;>grind [kS]
theorem bX{P:Program}{u:Func}{j:Ending->World->Prop}{a:Act}{w:World}(R:u.results= #[])(I:a.defers=[])(E:j (.returned (.tuple #[])) w):bodyPost P u j .normal a w:=by grind [bodyPost,results_none]
def qW(s b:aj):aj:=zu (kS s b 32)
theorem VG(l:aj):(zu l).length=64:=by simp[zu,Jm]
theorem Jo(s b:aj):(qW s b).length=64:=VG _
theorem I6(w:World)(r:Option Nat):w.grownBy w r:=⟨F,F,F,Nat.le_refl _,fun _ _ _=>rfl⟩
theorem bR{w w':World}{r:Option Nat}(h:w.grownBy w' r)(n:Nat):w.grownBy (w'.drewN n) r:=⟨h.os,h.tape,h.output,h.size,h.block⟩
theorem yB{w w':World}{g:Nat}(h:w.grownBy w' (some g))(i:Nat)(v:Value):w.grownBy (w'.setCell ⟨g,i,none⟩ v) (some g):=
 ⟨h.os,h.tape,h.output,by simp[World.setCell];exact h.size,fun k hk hn=>by rw[Below.heap_setCell _ _ _ _ (fun e=>hn (by rw[e]))];exact h.block k hk hn⟩
theorem yC{w u w2:World}{r:Option Nat}(h:w.grownBy u r)(k:X u w2):w.grownBy w2 r:=
 ⟨k.os.trans h.os,k.tape.trans h.tape,k.output.trans h.output,Nat.le_trans h.size k.size,fun i j hn=>(k.block i (Nat.lt_of_lt_of_le j h.size)).trans (h.block i j hn)⟩
theorem A_{w j w2:World}{g:Nat}(h:w.grownBy j (some g))(k:aU j g w2):w.grownBy w2 (some g):=
 ⟨k.os.trans h.os,k.tape.trans h.tape,k.output.trans h.output,by rw[k.size];exact h.size,fun i u hn=>(k.block i (fun e=>hn (by rw[e]))).trans (h.block i u hn)⟩
theorem VH{w:World}{g:Nat}{l:aj}{u:aO}{T:TypeId}(h:ah w g (l.map Y++u) T){i:Nat}(j:i<l.length):
 w.cell? ⟨g,i,none⟩=some (.int .u8 ((l[i]?.getD 0).toNat:Int)):=by
 refine h.cell' ?_;rw[List.getElem?_append_left (by simpa using j)];simp[j,Y]
theorem VI{w:World}{g:Nat}{l:aj}{j:aO}{T:TypeId}(h:ah w g (l.map Y++j) T){i:Nat}(u:i<l.length)(x:UInt8):
 ah (w.setCell ⟨g,i,none⟩ (.int .u8 (x.toNat:Int))) g ((l.set i x).map Y++j) T:=by
 have:=h.set i (Y x);rwa[set_append_left _ _ (by simpa using u),<-map_set]at this
theorem Dw(s b:aj)(u:aO)(g gb off:Nat)(T:TypeId)(w:World)(hs:s.length=64)(am:ah w g (s.map Y++u) T)
 (ae:∀i,i<32->w.cell? ⟨gb,off+i,none⟩=some (.int .u8 ((b[i]?.getD 0).toNat:Int)))(a5:gb≠g∨64<=off):
 Calls prog 269 #[.pointer (some ⟨g,0,none⟩),.pointer (some ⟨gb,off,none⟩)] w fun e w'=>
  e= .returned (.tuple #[])/\ah w' g ((qW s b).map Y++u) T/\w.grownBy w' (some g):=by
 have I:=O hs;clear hs;have ai:=O ae;clear ae;go_enter func269,ntmps269;go_wp2;go_loopw [7] (fun x wr=>∃i:Nat,i<=32/\x= .int .i64 i/\ah wr g ((kS s b i).map Y++u) T/\w.grownBy wr (some g)
  /\∀j,j<32->wr.cell? ⟨gb,off+j,none⟩=some (.int .u8 ((b[j]?.getD 0).toNat:Int)))
  (fun x _=>32 - (intOf x).toNat)
 case atStart=>exact⟨0,J,F,am,I6 _ _,ai⟩
 case round=>
  obtain⟨i,a4,rfl,E,af,ag⟩:=hrel;by_cases j3:i<32
  ·have a2:decide ((i:Int)<32)=true:=aQ J;have aE:=ag i j3;have a7:(0:Int)<=(i:Int):=J;have a8:(i:Int)<32:=J;have a9:(i:Int)<64:=J;have ad:(kS s b i).length=64:=by rw[zx];exact I
   generalize aq:kS s b i=ws at*;have a0:=VH E (i:=i) J;have a1:=E.frozen i;have a6:=Jb (ws[i]?.getD 0) (b[i]?.getD 0);go_wp2;refine qV (C:=fun w'=>∃n,w'=wr.drewN n) 6 au au ⟨1,F⟩ ?_;simp only[take_succ_cons,take_zero,drop_succ_cons,drop_zero];iterate 6 quiet_step (fail)
   refine wpQuiet_nil ?_;rintro _ ⟨nq,rfl⟩;go_wp2;refine qV (C:=fun w'=>∃n,w'=wr.drewN n) 11 au au ⟨nq+1,F⟩ ?_;simp only[take_succ_cons,take_zero,drop_succ_cons,drop_zero];iterate 11 quiet_step (fail)
   refine wpQuiet_nil ?_;rintro _ ⟨R,rfl⟩;go_wp2;have ar:=VI (E.drewN (n:=R)) (i:=i) J (vO (ws[i]?.getD 0) (b[i]?.getD 0));have aw:=yB (bR af R) i (.int .u8 ((vO (ws[i]?.getD 0) (b[i]?.getD 0)).toNat:Int));have ax:∀j,j<32->((wr.drewN R).setCell ⟨g,i,none⟩ (.int .u8 ((vO (ws[i]?.getD 0) (b[i]?.getD 0)).toNat:Int))).cell? ⟨gb,off+j,none⟩=some (.int .u8 ((b[j]?.getD 0).toNat:Int)):=by
    intro j ao;rw[<-ag j ao,World.cell?_setCell_other _ _ _ _ (by intro e;simp only[Addr.mk.injEq]at e;omega)];rfl
   go_roundw
   case rel=>exact⟨i+1,J,by go_num,by rw[kS,aq];exact ar,aw,ax⟩
   case measure=>simp[intOf];omega
  ·obtain rfl:i=32:=J;have ad:((kS s b 32).map Y).length=64:=by rw[length_map,zx];exact I
   have a3:((List.drop 0 ((kS s b 32).map Y++u)).take 64)=(kS s b 32).map Y:=by
    rw[drop_zero,take_append_of_le_length J,take_of_length_le J]
   go_wp2_with (refine Jc F _ _ F F E jT (n:=64) (by simp[zx,I.out]) ?_);refine(VE (kS s b 32) (by rw[zx];exact I) wr).mono ?_;rw[show zu (kS s b 32)=qW s b from F];rintro e a_ ⟨rfl,ab⟩;have ac:((qW s b).map Y).length=64:=by rw[length_map,Jo]
   generalize ap:qW s b=r at*;have an:0+(r.map Y).length<=((kS s b 32).map Y++u).length:=by rw[length_append];omega
   go_wp2_with (refine kR F _ _ _ F F F (E.ext ab) (by rw[ac];exact jT) an (b_ _) ?_);intro w2 aa az;have uW:fV ((kS s b 32).map Y++u) 0 (r.map Y)=r.map Y++u:=by
    unfold fV;rw[take_zero,nil_append,ac,<-ad,Nat.zero_add,drop_left]
   rw[uW]at aa;have al:=A_ (yC af ab) az;go_wp2;exact bX F F ⟨F,by rw[ap];exact aa,al⟩
section
open Go Go.RowKit
section
variable {P:Program} {ops:Array Oper} {rest:List Oper} {o:Oper} {a:Act} {w:World} {Q:Exit->Act->World->Prop}
theorem VJ{t e:TypeId}{p:aN}{n c k:Nat}(I:P.underlying t=some (.slice e))(hs:(P.info? e).map (·.size)=some 1)(hk:k<=n):
 (Instr.sliceAt t (.slice p n c) (some (.int .i64 (k:Int))) none none).run P w= .ok (.slice (dL p c k) (n - k) (c - k)) w:=by
 cases j:P.info? e with
 |none=>simp[j]at hs
 |some i=>
  have E:i.size=1:=by simpa[j]using hs
  have u:(0:Int)<=k/\(k:Int)<=n:=J;simp[Instr.sliceAt,Instr.slice,Instr.sliceBounds,Instr.sliceBound,asIntOf,run_underlying I,sizeOf,typeInfo,j,E,u.1,hk,dL]
theorem zy(u:o.guard=none)(t e:TypeId)(x y:Operand)(E:o.op= .slice t x (some y) none none){p:aN}{n c k:Nat}
 (R:a.eval x= .slice p n c)(aa:a.eval y= .int .i64 (k:Int))(I:P.underlying t=some (.slice e))(hs:(P.info? e).map (·.size)=some 1)(hk:k<=n)
 (h:wpList P ops Q rest (a.put o.dst (.slice (dL p c k) (n - k) (c - k))) w):wpList P ops Q (o::rest) a w:=
 wpList_plain u fun K j=>by
  unfold Oper.wp execOp;simp only[E,R,aa,Option.map_some,Option.map_none,VJ I hs hk,Result.andThen_ok,Sem.run_bind,Sem.run_pure];exact j _ _ h
theorem Kc(ac:o.guard=none)(u ab:TypeId)(x y:Operand)(ad:o.op= .call {callee:= .builtin .copy,args:= #[x,y],argTypes:= #[u,ab]}){g off j E aa R:Nat}{sa:aN}{vs cs:aO}{T I:TypeId}
 (ai:a.eval x= .slice (some ⟨g,off,none⟩) j E)(al:a.eval y= .slice sa aa R)(hb:ah w g vs T)
 (ag:P.underlying u=some (.slice I))(hs:(P.info? I).map (·.size)=some 1){k:Nat}(hk:cs.length=k)(hn:k=Nat.min aa j)(am:sa=none->aa=0)
 (af:aK w sa cs)(aq:off+k<=vs.length)(an:∀v∈cs,v.oneCell'=true)
 (h:∀w',ah w' g (fV vs off cs) T->aU w g w'->wpList P ops Q rest (a.put o.dst (.int .i64 (k:Int))) w'):wpList P ops Q (o::rest) a w:=by
 subst hk;cases sa with
 |some ax=>exact NQ ac u ab x y ad ai al hb ag hs hn (wX af) aq an h
 |none=>
  have aw:=am F;subst aw;have ap:cs=[]:=by
   rcases af with h|⟨_,_,h,_⟩
   ·exact h
   ·cases h
  subst ap;refine wpList_plain ac fun K ao=> ?_;have ar:(Builtin.copy_ #[u,ab] o.type #[.slice (some ⟨g,off,none⟩) j E,.slice none 0 R]).run P w= .ok (goInt 0) w:=by
   cases ae:P.info? I with
   |none=>simp[ae]at hs
   |some i=>simp[Builtin.copy_,run_underlying ag,Builtin.lenOf,Builtin.firstCells,sizeOf,typeInfo,ae,storeCells]
  unfold Oper.wp execOp;simp only[ad,resolve,Sem.run_bind,Sem.run_pure,Result.andThen_ok,invoke,builtin];have e:(#[x,y].map a.eval)= #[.slice (some ⟨g,off,none⟩) j E,.slice none 0 R]:=by simp[ai,al]
  rw[e,ar];simp only[Result.andThen_ok,Sem.run_pure,Oper.upon];refine ao _ _ (h _ ?_ (aU.refl _ _));simpa[fV]using hb
end
theorem gu:(prog.info? 5).map (·.size)=some 1:=au
theorem aK.grown{w w':World}{a:aN}{xs:aO}{r:Option Nat}(h:aK w a xs)(k:w.grownBy w' r)(hn:∀x,a=some x->some x.block≠r):aK w' a xs:=by
 rcases h with h|⟨b,off,ha,h⟩
 ·exact .inl h
 ·refine .inr ⟨b,off,ha,fun i u I=> ?_⟩;have j:=h i u I;have hb:=block_lt_of_cell j;have E:w'.heap[b]? =w.heap[b]? :=k.block b hb (hn _ ha);rw[<-j];simp[World.cell?,E]
theorem Dx{a:aN}{c k:Nat}{r:Option Nat}(hn:∀x,a=some x->some x.block≠r):∀x,dL a c k=some x->some x.block≠r:=by
 intro x j;unfold dL at j;split at j
 ·exact hn x j
 ·cases a with
  |none=>cases j
  |some y=>
   cases j;have:(y.add k).block=y.block:=by unfold Addr.add;split<;>rfl
   rw[this];exact hn y F
theorem FM{a:aN}{c k:Nat}:dL a c k=none↔a=none:=by
 unfold dL;split
 ·rfl
 ·simp
theorem l9{a b c:World}{r:Option Nat}(h:a.grownBy b r)(k:b.grownBy c r):a.grownBy c r:=
 ⟨k.os.trans h.os,k.tape.trans h.tape,k.output.trans h.output,Nat.le_trans h.size k.size,fun i j hn=>(k.block i (Nat.lt_of_lt_of_le j h.size) hn).trans (h.block i j hn)⟩
def sm(s r:aj)(h:Int)(t:Int):aO:=s.map Y++(r.map Y++[.int .i64 h,.int .i64 t])
theorem Dy{s r:aj}(h t:Int)(hs:s.length=64)(j:r.length=32):(sm s r h t).length=98:=by simp[sm,hs,j]
theorem w_{s r:aj}(h t:Int)(hs:s.length=64)(j:r.length=32):(sm s r h t)[96]? =some (.int .i64 h):=by grind [sm]
theorem Jp{s r:aj}(h t:Int)(hs:s.length=64)(j:r.length=32):(sm s r h t)[97]? =some (.int .i64 t):=by grind [sm]
theorem VK{s r:aj}(h t:Int)(hs:s.length=64)(u:r.length=32){i:Nat}(j:i<32):(sm s r h t)[64+i]? =some (.int .u8 ((r[i]?.getD 0).toNat:Int)):=by grind [sm,Y]
theorem Dz{s r:aj}(h t j:Int)(hs:s.length=64)(u:r.length=32):(sm s r h t).set 96 (.int .i64 j)=sm s r j t:=by simp_all [sm,set_append_right,length_map]
theorem VL{s r:aj}(h t j:Int)(hs:s.length=64)(u:r.length=32):(sm s r h t).set 97 (.int .i64 j)=sm s r h j:=by simp_all [sm,set_append_right,length_map]
theorem FN{s r xs:aj}(h t:Int)(hs:s.length=64)(u:r.length=32)(k:Nat)(hk:k+xs.length<=32):
 fV (sm s r h t) (64+k) (xs.map Y)=sm s (r.take k++xs++r.drop (k+xs.length)) h t:=by
 unfold fV sm;rw[length_map];have j:(s.map Y).length=64:=by rw[length_map];exact hs
 have E:(r.map Y).length=32:=by rw[length_map];exact u
 rw[take_append,j,take_of_length_le J,show 64+k - 64=k by omega,take_append_of_le_length J,
  drop_append,j,drop_of_length_le J,nil_append,show 64+k+xs.length - 64=k+xs.length by omega,drop_append_of_le_length J]
 simp[map_append,map_take,map_drop]
end
section
open Go Go.RowKit
def dB(ls:List (aj)):aO:=ls.flatten.map Y
def jB(ls:List (aj)):Prop:=∀l∈ls,l.length=32
theorem fq{ls:List (aj)}(h:jB ls):ls.flatten.length=32*ls.length:=by induction ls<;>grind [jB]
theorem Og{ls:List (aj)}(h:jB ls):(dB ls).length=32*ls.length:=by rw[dB,length_map,fq h]
theorem Oh(a b:List (aj)):dB (a++b)=dB a++dB b:=by simp[dB]
theorem Oi(x:aj):dB [x]=x.map Y:=by simp[dB]
theorem jB.append{a b:List (aj)}(j:jB a)(u:jB b):jB (a++b):=by grind [jB]
theorem jB.take{ls:List (aj)}(h:jB ls)(k:Nat):jB (ls.take k):=fun l j=>h l (mem_of_mem_take j)
theorem jB.drop{ls:List (aj)}(h:jB ls)(k:Nat):jB (ls.drop k):=fun l j=>h l (mem_of_mem_drop j)
theorem jB.one{x:aj}(h:x.length=32):jB [x]:=fun l j=>by rw[mem_singleton.1 j];exact h
theorem jB.nil:jB []:=fun l j=>by cases j
theorem jB.at{ls:List (aj)}(h:jB ls){i:Nat}{x:aj}(j:ls[i]? =some x):x.length=32:=h x (mem_of_getElem? j)
theorem VN{ls:List (aj)}(h:jB ls)(k:Nat):ls.flatten.drop (32*k)=(ls.drop k).flatten:=by
 induction ls generalizing k with
 |nil=>simp
 |cons l ls E=>
  cases k with
  |zero=>simp
  |succ k=>
   have j:=h l aF;rw[flatten_cons,drop_append,j,show 32*(k+1) - 32=32*k by omega,drop_of_length_le J,nil_append,E (fun x u=>h x (by simp[u])),drop_succ_cons]
theorem VO{ls:List (aj)}(h:jB ls)(k:Nat):ls.flatten.take (32*k)=(ls.take k).flatten:=by
 induction ls generalizing k with
 |nil=>simp
 |cons l ls E=>
  cases k with
  |zero=>simp
  |succ k=>
   have j:=h l aF;rw[flatten_cons,take_append,j,show 32*(k+1) - 32=32*k by omega,take_of_length_le J,E (fun x u=>h x (by simp[u])),take_succ_cons,flatten_cons]
theorem Jq{ls:List (aj)}(h:jB ls)(k:Nat):(dB ls).drop (32*k)=dB (ls.drop k):=by rw[dB,<-map_drop,VN h];rfl
theorem FP{ls:List (aj)}(h:jB ls)(k:Nat):(dB ls).take (32*k)=dB (ls.take k):=by rw[dB,<-map_take,VO h];rfl
theorem VP{ls:List (aj)}(h:jB ls){i:Nat}{x:aj}(R:ls[i]? =some x):((dB ls).drop (32*i)).take 32=x.map Y:=by
 have j:ls.drop i=x::ls.drop (i+1):=by
  have I:=(List.getElem?_eq_some_iff.1 R);obtain⟨j3,E⟩:=I;rw[drop_eq_getElem_cons j3,E]
 rw[Jq h,j];have u:=FP (ls:=x::ls.drop (i+1)) (by rw[<-j];exact h.drop i) 1;rw[Nat.mul_one]at u;rw[u];simp[dB]
def dP(w:World)(p:Addr)(xs:aO):Prop:=∀j u,xs[j]? =some u->w.cell? (p.add j)=some u
theorem dn(b o n:Nat):(⟨b,o,none⟩:Addr).add n=⟨b,o+n,none⟩:=by unfold Addr.add;split<;>simp_all
theorem dP.of{w:World}{p:Addr}{xs:aO}(h:aK w (some p) xs):dP w p xs:=wX h
theorem dP.ext{w w':World}{p:Addr}{xs:aO}(h:dP w p xs)(k:X w w'):dP w' p xs:=by
 intro j u I;have E:=h j u I;have hb:=block_lt_of_cell E;rw[k.cell hb];exact E
def qX(a:aN)(c p z:Nat):aN:=if c=p then a else a.map (·.add (p*z))
theorem aK.rowAt{w:World}{p:Addr}{ls:List (aj)}(h:aK w (some p) (dB ls))(nE:jB ls){i:Nat}{x:aj}(R:ls[i]? =some x):dP w (p.add (i*32)) (x.map Y):=by
 intro j u E;have Dr:=nE.at R;have ab:j<32:=by
  have:=(List.getElem?_eq_some_iff.1 E).1;rw[length_map,Dr]at this;exact this
 have aa:=VP nE R;have I:(dB ls)[32*i+j]? =some u:=by
  rw[<-aa,List.getElem?_take_of_lt ab,List.getElem?_drop]at E;exact E
 obtain⟨b,off,ac,hc⟩:=h.gQ (by have:=(List.getElem?_eq_some_iff.1 I).1;omega);cases ac;rw[dn,dn];have:=hc _ _ I;rw[show off+i*32+j=off+(32*i+j) by omega];exact this
theorem aK.Oj{w:World}{a:aN}{ls:List (aj)}(h:aK w a (dB ls))(nE:jB ls)(k:Nat):aK w a (dB (ls.take k)):=by
 rw[<-FP nE];exact h.take _
theorem aK.Ol{w:World}{a:aN}{ls:List (aj)}(h:aK w a (dB ls))(nE:jB ls)(c p:Nat)(hc:ls.length<=c):aK w (qX a c p 32) (dB (ls.drop p)):=by
 unfold qX;rw[<-Jq nE];split
 ·rename_i E
  left
  rw[Jq nE,drop_of_length_le J];rfl
 ·rcases h with h|⟨b,off,rfl,h⟩
  ·left;rw[h];simp
  ·refine .inr ⟨b,off+p*32,by rw[Option.map_some,dn],fun i u j=> ?_⟩;rw[List.getElem?_drop]at j;have:=h _ _ j;rw[show off+p*32+i=off+(32*p+i) by omega];exact this
section
variable {P:Program} {ops:Array Oper} {rest:List Oper} {o:Oper} {a:Act} {w:World} {Q:Exit->Act->World->Prop} {S:World->Prop}
theorem VQ{t e:TypeId}{p:Addr}{n c i z:Nat}(E:P.underlying t=some (.slice e))(hs:(P.info? e).map (·.size)=some z)(u:i<n)(w:World):
 (Instr.indexAt t (.slice (some p) n c) (.int .i64 (i:Int))).run P w= .ok (.pointer (some (p.add (i*z)))) w:=by
 cases j:P.info? e with
 |none=>simp[j]at hs
 |some R=>
  have I:R.size=z:=by simpa[j]using hs
  have aa:(0:Int)<=i/\(i:Int)<n:=J;simp[Instr.indexAt,asIntOf,run_underlying E,sizeOf,typeInfo,j,I,u]
theorem VR{t e:TypeId}{p:aN}{n c k z:Nat}(E:P.underlying t=some (.slice e))(hs:(P.info? e).map (·.size)=some z)(hk:k<=c)(w:World):
 (Instr.sliceAt t (.slice p n c) none (some (.int .i64 (k:Int))) none).run P w= .ok (.slice p k c) w:=by
 cases j:P.info? e with
 |none=>simp[j]at hs
 |some i=>
  have u:i.size=z:=by simpa[j]using hs
  have I:(0:Int)<=k/\(k:Int)<=c:=J;have ha:p.map (fun x=>x.add 0)=p:=by
   cases p with
   |none=>rfl
   |some x=>obtain⟨b,o,s⟩:=x;simp only[Option.map_some,Addr.add];split<;>simp_all
  simp[Instr.sliceAt,Instr.slice,Instr.sliceBounds,Instr.sliceBound,asIntOf,run_underlying E,sizeOf,typeInfo,j,u,hk,ha]
theorem VT{t e:TypeId}{p:aN}{n c k z:Nat}(I:P.underlying t=some (.slice e))(hs:(P.info? e).map (·.size)=some z)(hk:k<=n)(w:World):
 (Instr.sliceAt t (.slice p n c) (some (.int .i64 (k:Int))) none none).run P w= .ok (.slice (qX p c k z) (n - k) (c - k)) w:=by
 cases j:P.info? e with
 |none=>simp[j]at hs
 |some i=>
  have E:i.size=z:=by simpa[j]using hs
  have u:(0:Int)<=k/\(k:Int)<=n:=J;simp[Instr.sliceAt,Instr.slice,Instr.sliceBounds,Instr.sliceBound,asIntOf,run_underlying I,sizeOf,typeInfo,j,E,u.1,hk,qX]
theorem VU{ty:TypeId}{p:Addr}{xs:aO}{n:Nat}(hc:dP w p xs)(ht:iH P ty n)(hn:xs.length=n):(loadVar ty p).run P w= .ok (.agg xs.toArray) w:=by
 obtain⟨⟨d,R,aa⟩,u⟩:=ht;have E:=run_loadCells_list (P:=P) w p xs hc;rw[hn]at E;cases j:P.info? ty with
 |none=>simp[j]at u
 |some i=>
  have hs:i.size=n:=by simpa[j]using u
  have I:(isAgg ty).run P w= .ok true w:=by
   unfold isAgg;rw[Sem.run_bind,run_underlying R w];cases d<;>simp_all
  simp[loadVar,Sem.run_bind,I,sizeOf,typeInfo,j,hs,E]
theorem bF{v:Value}(u:o.guard=none)(E:(execOp a.eval o).run P w= .ok (.value v) w)(h:wpList P ops Q rest (a.put o.dst v) w):wpList P ops Q (o::rest) a w:=
 wpList_plain u fun K j=>by
  unfold Oper.wp;rw[E,Oper.upon_value];exact j _ _ h
theorem jU{v:Value}(E:Region.wanted o (yielded ops a.tmps)=true)(u:(execOp a.eval o).run P w= .ok (.value v) w)(h:wpList P ops Q rest (a.put o.dst v) w):wpList P ops Q (o::rest) a w:=
 wpList_step fun K j=>by
  rw[if_pos E];unfold Oper.wp;rw[u,Oper.upon_value];exact j _ _ h
theorem fP{t e:TypeId}{x y:Operand}{p:Addr}{n c i z:Nat}(u:o.op= .indexAddr t x y)(I:a.eval x= .slice (some p) n c)(R:a.eval y= .int .i64 (i:Int))(E:P.underlying t=some (.slice e))(hs:(P.info? e).map (·.size)=some z)(j:i<n)(w:World):
 (execOp a.eval o).run P w= .ok (.value (.pointer (some (p.add (i*z))))) w:=by grind [execOp,Sem.run_bind,VQ,Result.andThen_ok,Sem.run_pure]
theorem zB{t e:TypeId}{x y:Operand}{p:aN}{n c k z:Nat}(j:o.op= .slice t x none (some y) none)(E:a.eval x= .slice p n c)(I:a.eval y= .int .i64 (k:Int))(u:P.underlying t=some (.slice e))(hs:(P.info? e).map (·.size)=some z)(hk:k<=c)(w:World):
 (execOp a.eval o).run P w= .ok (.value (.slice p k c)) w:=by
 unfold execOp;simp only[j,E,I,Option.map_some,Option.map_none,Sem.run_bind,VR u hs hk w,Result.andThen_ok,Sem.run_pure]
theorem Jr{t e:TypeId}{x y:Operand}{p:aN}{n c k z:Nat}(j:o.op= .slice t x (some y) none none)(E:a.eval x= .slice p n c)(I:a.eval y= .int .i64 (k:Int))(u:P.underlying t=some (.slice e))(hs:(P.info? e).map (·.size)=some z)(hk:k<=n)(w:World):
 (execOp a.eval o).run P w= .ok (.value (.slice (qX p c k z) (n - k) (c - k))) w:=by
 unfold execOp;simp only[j,E,I,Option.map_some,Option.map_none,Sem.run_bind,VT u hs hk w,Result.andThen_ok,Sem.run_pure]
theorem bQ{ty:TypeId}{x:Operand}{p:Addr}{xs:aO}{n:Nat}(j:o.op= .load ty x)(u:a.eval x= .pointer (some p))(hc:dP w p xs)(ht:iH P ty n)(hn:xs.length=n):
 (execOp a.eval o).run P w= .ok (.value (.agg xs.toArray)) w:=by
 unfold execOp;simp only[j,u,Instr.loadAt,Instr.sureAddr,Sem.run_bind,Sem.run_pure,Result.andThen_ok,VU hc ht hn]
theorem bf{v:Value}(u:Region.wanted o (yielded ops a.tmps)=true)(j:∀w,S w->(execOp a.eval o).run P w= .ok (.value v) w):YieldsIf P ops S o v a:= .inl ⟨u,j⟩
end
end
theorem gW{w w':World}{p:Addr}{v:Value}(h:w.cell? p=some v)(e:X w w'):w'.cell? p=some v:=by
 have hb:=block_lt_of_cell h;rw[e.cell hb];exact h
theorem FQ(x y:ByteArray):(x.toList==y.toList)=true↔x=y:=by
 rw[beq_iff_eq,ByteArray.toList_eq,ByteArray.toList_eq];exact⟨fun h=>ByteArray.ext (Array.toList_inj.mp h),fun h=>by rw[h]⟩
def bM:ByteArray->Value:= .string
theorem DC{ls:aT}{k:Nat}{x:ByteArray}(h:ls[k]? =some x):(ls.map bM)[k]? =some (.string x):=by rw[List.getElem?_map,h];rfl
theorem Om:∀x y:aj,Op.bytesLess x y= !(Op.bytesLess y x||y==x)
 |[],[]=>rfl
 |[],_::_=>rfl
 |_::_,[]=>rfl
 |a::x,b::y=>by
  have ih:=Om x y;unfold Op.bytesLess;rw[ih];have I:a<b∨a=b∨b<a:=by
   rcases Nat.lt_trichotomy a.toNat b.toNat with h|h|h
   ·exact .inl (UInt8.lt_iff_toNat_lt.2 h)
   ·exact .inr (.inl (UInt8.toNat_inj.1 h))
   ·exact .inr (.inr (UInt8.lt_iff_toNat_lt.2 h))
  rcases I with h|h|h
  ·have u:¬b<a:=UInt8.lt_asymm h;have j:¬b=a:=fun e=>by subst e;exact UInt8.lt_irrefl _ h
   have E:(b==a)=false:=by simpa using j
   simp[h,u,E,j]
  ·subst h;simp[UInt8.lt_irrefl]
  ·have u:¬a<b:=UInt8.lt_asymm h;have j:¬a=b:=fun e=>by subst e;exact UInt8.lt_irrefl _ h
   have E:(a==b)=false:=by simpa using j
   simp[h,u,E]
def qY(a b:ByteArray):Bool:=Op.bytesLess a.toList b.toList
theorem Oo(a b:ByteArray):(Op.bytesLess b.toList a.toList||b.toList==a.toList)= !qY a b:=by grind [qY,Om]
def DF(ls:aT)(k:Nat):Prop:=∀i a b,i+1<k->ls[i]? =some a->ls[i+1]? =some b->qY a b=true
theorem DF.step{ls:aT}{k:Nat}{a b:ByteArray}(h:DF ls (k+1))(j:ls[k]? =some a)(u:ls[k+1]? =some b)(E:qY a b=true):DF ls (k+2):=by grind [DF,qY]
theorem DF.one(ls:aT){k:Nat}(h:k<=1):DF ls k:=fun i _ _ j=>by omega
theorem tV:(prog.info? 9).map (·.size)=some 1:=au
theorem oO:AX prog 9:=⟨⟨_,underlying9,F⟩,au⟩
theorem kT{P:Program}{o:Oper}{a:Act}{w:World}{ty:TypeId}{x:Operand}{p:Addr}{v:Value}(u:o.op= .load ty x)(I:a.eval x= .pointer (some p))(hc:w.cell? p=some v)(ht:AX P ty):
 (execOp a.eval o).run P w= .ok (.value v) w:=by
 obtain⟨⟨d,E,R⟩,aa⟩:=ht;have j:(isAgg ty).run P w= .ok false w:=by
  unfold isAgg;rw[Sem.run_bind,run_underlying E w];cases d<;>simp_all
 unfold execOp;simp only[u,I,Instr.loadAt,Instr.sureAddr,Sem.run_bind,Sem.run_pure,Result.andThen_ok];simp[loadVar,Sem.run_bind,j,go_sem,hc]
theorem zC{w:World}{a:aN}{ls:aT}{k:Nat}{x:ByteArray}(h:aK w a (ls.map bM))(j:ls[k]? =some x):∃A,a=some A/\w.cell? (A.add (k*1))=some (.string x):=by
 obtain⟨g,o,rfl,u⟩:=h.gQ (by rw[length_map];have:=(List.getElem?_eq_some_iff.1 j).1;omega);exact⟨_,F,by rw[dn,Nat.mul_one];exact u k _ (DC j)⟩
theorem xg(n a b:Int)(w:World):
 Br 155 #[.int .i64 n,.int .i64 a,.int .i64 b] w (.bool (decide (n<a)||decide (b<n))):=by
 by_cases h:n<a
 ·have j:decide (n<a)=true:=aQ h;go_enter func155,ntmps155;go_wp2;go_ret;exact⟨by first|rfl|(rw[j];rfl),F⟩
 ·have j:decide (n<a)=false:=aP h;go_enter func155,ntmps155;go_wp2;go_ret;exact⟨by first|rfl|(rw[j];rfl),F⟩
end Go.Proofs.YtjlhhnkhcbpnjaaGreatDoor
