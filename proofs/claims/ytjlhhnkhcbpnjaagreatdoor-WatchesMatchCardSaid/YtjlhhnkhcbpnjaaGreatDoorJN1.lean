/- Laws; no condition. -/
import Derived.WalkKit
import Derived.Test.YtjlhhnkhcbpnjaaGreatDoorProg
import Derived.Deep.Draws
import Derived.Deep.Quiet
import Derived.Deep.RegionLaw
import Derived.OrdersHeld
import Derived.Deep.RegionHeld3
import Derived.Deep.QuietTactic
import Derived.WalkSpells
import Derived.WalkLawsBesides
import Derived.Laws.AppendOwn
namespace Go.Proofs.YtjlhhnkhcbpnjaaGreatDoor
open Go Go.RowKit List Tryz
open Go.World(alloc setCell)
open Go.Region(ready wanted noSelect free binds)
set_option linter.all false
set_option maxHeartbeats 40000000
set_option maxRecDepth 100000
def J{P:Prop}(h:P:=by omega):P:=h
def aC{P:Prop}(h:P:=by kernel_rfl):P:=h
def aB{P:Prop}(h:P:=by simp):P:=h
def bS{P:Prop}(h:P:=by decide):P:=h
def aov{n:Nat}:n<=n:=Nat.le_refl n
def bV{p:Prop}[Decidable p](h:p):decide p=true:=decide_eq_true h
def bg{p:Prop}[Decidable p](h:¬p):decide p=false:=decide_eq_false h
def F{b:Sort _}{a:b}:a=a:=rfl
def aF{a:Sort _}(x:a):∃y,x=y:=⟨x,rfl⟩
def aA{a b:Prop}(c:a)(d:b):Hid a/\Hid b:=⟨c,d⟩
def aW{a b c:Prop}(d:a)(e:b)(f:c):Hid a/\Hid b/\Hid c:=⟨d,e,f⟩
def bT{a b c d:Prop}(e:a)(f:b)(g:c)(h:d):Hid a/\Hid b/\Hid c/\Hid d:=⟨e,f,g,h⟩
def fC{a b c d e:Prop}(f:a)(g:b)(h:c)(i:d)(j:e):Hid a/\Hid b/\Hid c/\Hid d/\Hid e:=⟨f,g,h,i,j⟩
def jW{a b c d e f:Prop}(g:a)(h:b)(i:c)(j:d)(k:e)(l:f):Hid a/\Hid b/\Hid c/\Hid d/\Hid e/\Hid f:=⟨g,h,i,j,k,l⟩
def zT{a b c d e f g:Prop}(h:a)(i:b)(j:c)(k:d)(l:e)(m:f)(n:g):Hid a/\Hid b/\Hid c/\Hid d/\Hid e/\Hid f/\Hid g:=⟨h,i,j,k,l,m,n⟩
def mQ{a b c d e f g h:Prop}(i:a)(j:b)(k:c)(l:d)(m:e)(n:f)(o:g)(p:h):Hid a/\Hid b/\Hid c/\Hid d/\Hid e/\Hid f/\Hid g/\Hid h:=⟨i,j,k,l,m,n,o,p⟩
def mF{P:Prop}(h:P:=by simp only[Act.put,List.setIfInBounds_toArray,List.set_cons_succ,List.set_cons_zero]):P:=h
abbrev ah:=List UInt8
abbrev aP:=List Value
abbrev aO:=Option Addr
abbrev bq:=List ByteArray
def mP{a:Sort _}(x:a):∃y,y=x:=⟨x,rfl⟩
def aI:= @List.length_map
def Fz:= @Nat.lt_or_ge
def KG:= @Go.MapKept.run_setObj_map
def BS:= @Nat.one_mul
def Jb:= @List.length_singleton
def wW:= @List.map_take
def KH:= @Int.tmod_eq_emod_of_nonneg
def KI:= @Array.getElem?_toList
def Jc:= @Go.wpList_append_own
def Jd:= @List.getElem?_set
def BU:= @Go.wpAnyH_all
def iT:= @List.getElem?_map
def MW:= @List.take_append_of_le_length
def AO:= @Go.wpOp_mono
def Je:= @List.set_append_right
def AP:= @Go.mem_ready
def ze:= @List.map_drop
def GZ:= @List.map_congr_left
def Jf:= @List.length_replicate
def P5:= @Go.IntKind.wrap_i64
def FB:= @List.isEmpty_iff
def FC:= @Go.wpQuiet_step
def mG:= @List.getElem?_eq_getElem
def wX:= @if_true
def KJ:= @Go.grownCap_le_maxLen
def FD:= @Nat.mul_comm
def G9:= @Option.map_none
def B_:= @Go.run_build
def MX:= @List.getElem?_eq_none
def Yu:= @Bool.and_eq_false_imp
def MZ:= @Array.getElem?_modify
def KL:= @Go.IntKind.wrap_u32'
def M0:= @Go.Region.noSelect_spec
def iC:= @Go.Sem.run_bind
def P6:= @Array.getElem?_append_left
def Jg:= @Go.bodyPost_ret
def G_:= @Nat.mul_zero
def KM:= @Nat.lt_succ_self
def M4:= @beq_eq_false_iff_ne
def P7:= @Go.ChangeMaps.modify_eq_set
def P8:= @Array.getElem?_replicate
def zU:= @List.map_map
def M5:= @UInt8.toNat_inj
def M6:= @Go.run_loadCells_list
def fP:= @List.length_take
def FE:= @Go.ready_mono
def M7:= @Go.World.ownsRow_made
def M8:= @List.getElem?_take
def M_:= @BitVec.toNat_ofInt
def P9:= @List.dropLast_concat_getLast
def He:= @List.any_eq_true
def Hf:= @Nat.le_succ
def P_:= @List.getElem?_cons_zero
def zV:= @List.map_set
def Na:= @List.length_eq_one_iff
def o9:= @Array.getElem?_eq_some_iff
def KN:= @Go.growslice_fits
def Jh:= @getElem!_pos
def KO:= @List.filter_eq_self
def zW:= @dif_pos
def Ji:= @Exists.intro
def KP:= @Go.DataW.trod_int
def Nb:= @Bool.not_eq_true'
def Qa:= @Nat.le_of_ble_eq_true
def Qb:= @List.getElem?_toArray
def Qc:= @List.Perm.append_left
def jr:= @Option.map_some
def Nc:= @Go.Region.free_spec
def KQ:= @ByteArray.ext
def Ec:= @List.sum_cons
def Ed:= @if_false
def Nf:= @List.map_eq_cons_iff
def Ng:= @UInt8.lt_irrefl
def Qd:= @UInt64.toNat_ofNat'
def Qe:= @Go.Lib.strCells_length
def Qf:= @Go.Lib.run_next_end_at
def Qg:= @Go.Lib.run_next_any_at
def jB:= @Go.run_underlying
def Qh:= @Array.toList_modify
def KR:= @List.nodup_append
def KS:= @UInt8.not_lt
def Hg:= @Nat.zero_mul
def Nh:= @List.filterMap_cons
def Ub:= @Nat.eq_of_mul_eq_mul_right
def Ni:= @Go.IntWalk.u64_in
def Qi:= @Bool.false_eq_true
def Uc:= @List.getLast?_eq_getElem?
def KT:= @Go.grownCap_ge
def kN:= @Go.block_lt_of_cell
def Qj:= @Classical.not_not
def Qk:= @Bool.eq_false_iff
def Nj:= @List.filter_append
def Ud:= @List.drop_append_of_le_length
def Nk:= @Go.IntWalk.u8_in
def Nl:= @Bool.true_and
def KU:= @List.take_left
def Jj:= @List.mem_range
def Ql:= @Option.getD_some
def Qm:= @BitVec.toNat_and
def gJ:= @Go.info_parts
def FH:= @List.map_nil
def Nn:= @List.ext_getElem?
def FI:= @dif_neg
def Qn:= @Nat.pow_succ
def Jk:= @Nat.mod_lt
def zX:= @Nat.le_of_lt
def Np:= @Nat.add_comm
def Qo:= @Go.World.iter_heap
def Qp:= @Nat.min_eq_left
def Qq:= @Go.Lib.iterAt_heap
def ng:= @Go.Result.andThen_ok
def bQ:= @List.length_append
def Qr:= @BitVec.toNat_or
def Ue:= @Go.Lib.run_eql_slice_nil
def Uf:= @Array.toList_eraseIdx
def iI:= @List.length_drop
def o_:= @List.setIfInBounds_toArray
def yc:= @List.getElem?_append_right
def iU:= @List.length_cons
def k_:= @Nat.add_assoc
def qm:= @List.length_eq_zero_iff
def uM:= @List.getElem?_take_of_lt
def pz:= @Array.length_toList
def gM:= @List.mem_cons
def uN:= @List.getElem?_cons_succ
def aJ:= @if_neg
def uO:= @Int.eq_ofNat_of_zero_le
def kD:= @Nat.zero_add
def jv:= @List.map_append
def qX:= @Go.wp_region_held_drew
def mH:= @List.drop_succ_cons
def lN:= @List.not_mem_nil
def ni:= @Go.Sem.run_pure
def qY:= @List.getElem?_drop
def nk:= @List.set_cons_succ
def nu:= @List.mem_singleton
def iK:= @List.getElem?_eq_some_iff
def su:= @Int.toNat_natCast
def Ca:= @Array.getD_eq_getD_getElem?
def qZ:= @Bool.and_eq_true
def ny:= @List.take_add_one
def tJ:= @decide_eq_true_eq
def kU:= @List.mem_append
def pE:= @List.take_succ_cons
def zY:= @List.getElem?_append_left
def jP:= @List.drop_zero
def pF:= @List.set_cons_zero
def aN:= @if_pos
def AQ:= @Array.setIfInBounds_comm
def Ee:= @Array.getElem?_setIfInBounds_ne
def nA:= @Nat.mul_one
def wY:= @Option.some.injEq
def vL:= @Nat.lt_of_lt_of_le
def lQ:= @or_false
def q8:= @Go.wpList_plain
def lq:= @congrArg
def AU:= @List.getElem?_of_mem
def oo:= @List.take_left'
def dJ:= @Nat.le_trans
def sw:= @List.append_assoc
def zf:= @Bool.or_eq_true
def wZ:= @List.mem_of_mem_take
def zZ:= @Option.some.inj
def sD:= @List.length_nil
def q_:= @List.drop_left'
def AV:= @Option.bind_some
def FJ:= @List.drop_eq_getElem_cons
def FK:= @Go.MapKept.run_getObj_map
def Cb:= @Go.Oper.upon_value
def aQ:= @Nat.le_refl
def pG:= @List.take_zero
def oM:= @List.map_cons
def FL:= @UInt8.toNat_ofNat'
def w_:= @Nat.zero_le
def yg:= @List.mem_cons_of_mem
def Cc:= @Bool.eq_iff_iff
def AX:= @List.take_append_drop
def zh:= @List.size_toArray
def yh:= @List.flatMap_cons
def FM:= @UInt32.toNat_ofNat'
def gY:= @List.take_of_length_le
def FN:= @Go.ByteArray.toList_eq
def Hl:= @List.getD_eq_getElem?_getD
def tK:= @List.drop_drop
def z8:= @Nat.add_zero
def xg:= @List.append_nil
def Ho:= @Nat.mul_le_mul_right
def pI:= @List.mem_map
def yj:= @beq_iff_eq
def AY:= @Go.wpQuiet_nil
def z_:= @List.all_eq_true
def f_:= @List.mem_of_getElem?
def Ef:= @Array.size_push
def Jl:= @List.mem_or_eq_of_mem_set
def Eh:= @List.flatMap_append
def Qs:= @Bool.or_eq_false_iff
def FP:= @List.drop_of_length_le
def Ug:= @decide_eq_false_iff_not
def Hq:= @Go.World.ownsRow_nil
def zi:= @List.nil_append
def Aa:= @Go.RowKit.Below.refl
def Jm:= @Array.toList_filter
def fJ:= @Go.IntWalk.i64_in
def Y(x:UInt8):Value:= .int .u8 (x.toNat:Int)
def jU(x:UInt32):Value:= .int .u32 (x.toNat:Int)
def Kk(x:UInt8):(x.toNat:Int)<256:=by have:=x.toNat_lt;omega
def aep(x:UInt32):(x.toNat:Int)<4294967296:=by have:=x.toNat_lt;omega
def Lb(a b:Nat)(ha:a<4294967296)(h:b<4294967296):
 bits .xor .u32 a b=((a ^^^ b:Nat):Int)/\bits .or .u32 a b=((a ||| b:Nat):Int)/\bits .and .u32 a b=((a &&& b:Nat):Int):=by
 have e:a ^^^ b<2^32:=Nat.xor_lt_two_pow J J;have f:a ||| b<2^32:=Nat.or_lt_two_pow J J;have g:a &&& b<2^32:=Nat.and_lt_two_pow _ J;have c:(BitVec.ofInt 32 (a:Int)).toNat=a:=by simp;omega
 have d:(BitVec.ofInt 32 (b:Int)).toNat=b:=by simp;omega
 refine⟨?_,?_,?_⟩
 ·change IntKind.u32.wrap ((BitVec.ofInt 32 (a:Int) ^^^ BitVec.ofInt 32 (b:Int)).toNat:Int)=_;rw[BitVec.toNat_xor,c,d,KL];omega
 ·change IntKind.u32.wrap ((BitVec.ofInt 32 (a:Int) ||| BitVec.ofInt 32 (b:Int)).toNat:Int)=_;rw[Qr,c,d,KL];omega
 ·change IntKind.u32.wrap ((BitVec.ofInt 32 (a:Int) &&& BitVec.ofInt 32 (b:Int)).toNat:Int)=_;rw[Qm,c,d,KL];omega
def Y0(a b:Nat)(ha:a<256)(h:b<256):
 bits .xor .u8 a b=((a ^^^ b:Nat):Int)/\bits .or .u8 a b=((a ||| b:Nat):Int)/\bits .and .u8 a b=((a &&& b:Nat):Int):=by
 have e:a ^^^ b<2^8:=Nat.xor_lt_two_pow J J;have f:a ||| b<2^8:=Nat.or_lt_two_pow J J;have g:a &&& b<2^8:=Nat.and_lt_two_pow _ J;have c:(BitVec.ofInt 8 (a:Int)).toNat=a:=by simp;omega
 have d:(BitVec.ofInt 8 (b:Int)).toNat=b:=by simp;omega
 refine⟨?_,?_,?_⟩
 ·change IntKind.u8.wrap ((BitVec.ofInt 8 (a:Int) ^^^ BitVec.ofInt 8 (b:Int)).toNat:Int)=_;rw[BitVec.toNat_xor,c,d,IntKind.wrap_u8'];omega
 ·change IntKind.u8.wrap ((BitVec.ofInt 8 (a:Int) ||| BitVec.ofInt 8 (b:Int)).toNat:Int)=_;rw[Qr,c,d,IntKind.wrap_u8'];omega
 ·change IntKind.u8.wrap ((BitVec.ofInt 8 (a:Int) &&& BitVec.ofInt 8 (b:Int)).toNat:Int)=_;rw[Qm,c,d,IntKind.wrap_u8'];omega
def aeS(x y:UInt32):bits .xor .u32 x.toNat y.toNat=((x ^^^ y).toNat:Int):=by
 rw[(Lb _ _ x.toNat_lt y.toNat_lt).1,UInt32.toNat_xor]
def afc(x y:UInt32):IntKind.u32.wrap ((x.toNat:Int)+y.toNat)=((x+y).toNat:Int):=by
 rw[KL,UInt32.toNat_add];omega
def aog(x y:UInt8):bits .xor .u8 x.toNat y.toNat=((x ^^^ y).toNat:Int):=by
 rw[(Y0 _ _ x.toNat_lt y.toNat_lt).1,UInt8.toNat_xor]
def Hr(x y:UInt32):UInt32:=x+y
def PN(x y:UInt32):UInt32:=x ^^^ y
def C_(x y:UInt8):UInt8:=x ^^^ y
def YH(x y:UInt32):IntKind.u32.wrap ((x.toNat:Int)+y.toNat)=((Hr x y).toNat:Int):=afc x y
def aeR(x y:UInt32):bits .xor .u32 x.toNat y.toNat=((PN x y).toNat:Int):=aeS x y
def TI(x y:UInt8):bits .xor .u8 x.toNat y.toNat=((C_ x y).toNat:Int):=aog x y
def BH(x:UInt32)(k:Nat):UInt32:=UInt32.ofNat ((x.toNat*2^k%4294967296) ||| (x.toNat / 2^(32 - k)))
def akW(x:UInt32)(k:Nat):((BH x k).toNat:Int)=(((x.toNat*2^k%4294967296) ||| (x.toNat / 2^(32 - k)):Nat):Int):=by
 unfold BH;have a:x.toNat / 2^(32 - k)<2^32:=Nat.lt_of_le_of_lt (Nat.div_le_self _ _) x.toNat_lt;have b:x.toNat*2^k%4294967296<2^32:=Jk _ J;have c:=Nat.or_lt_two_pow b a;rw[FM];omega
def dY{X a:Prop}(h:X)(e:X->a:=by(intro hx;simp only[Act.put,o_,nk,pF];exact hx)):a:=e h
def aL{X a:Prop}(h:X)(e:X->a:=by(intro hx;(try dsimp only);(try simp only[Act.put,o_,nk,pF]);exact hx)):a:=e h
def sj{X a:Prop}(h:X)(e:X->a:=by(intro hx;(try simp only[Act.put,o_,nk,pF]);exact hx)):a:=e h
section
def O{p:Prop}(h:p):Hid p:=h
def au(w:World)(g:Nat)(vs:aP)(T:TypeId):Prop:=w.heap[g]? =some (.cells vs.toArray T (0,0))
def au.lt{w:World}{g:Nat}{vs:aP}{T:TypeId}(h:au w g vs T):g<w.heap.size:=by grind [au]
def au.cell{w:World}{g:Nat}{vs:aP}{T:TypeId}(h:au w g vs T){i:Nat}(a:i<vs.length):w.cell? ⟨g,i,none⟩=some vs[i]:=by
 unfold au at h;simp[World.cell?,h,a]
def au.cell'{w:World}{g:Nat}{vs:aP}{T:TypeId}(h:au w g vs T){i:Nat}{v:Value}(a:vs[i]? =some v):w.cell? ⟨g,i,none⟩=some v:=by
 unfold au at h;simp[World.cell?,h,a]
def au.frozen{w:World}{g:Nat}{vs:aP}{T:TypeId}(h:au w g vs T)(i:Nat):w.frozen? ⟨g,i,none⟩=false:=by
 unfold au at h;simp[World.frozen?,h]
def au.below{w w':World}{B g:Nat}{vs:aP}{T:TypeId}(h:au w g vs T)(a:Below B w w')(b:g<B):au w' g vs T:=by
 unfold au at*;rw[a.block g b];exact h
def au.drew{w:World}{g:Nat}{vs:aP}{T:TypeId}(h:au w g vs T):au w.drew g vs T:=h
def au.drewN{w:World}{g n:Nat}{vs:aP}{T:TypeId}(h:au w g vs T):au (w.drewN n) g vs T:=h
def au.FU(w:World)(vs:aP)(T:TypeId):au (w.alloc (.cells vs.toArray T)) w.heap.size vs T:=by
 unfold au;show(w.heap.push _)[w.heap.size]? =_;simp
def au.bK{w:World}{a:Array Value}{vs:aP}{T:TypeId}{n:Nat}(b:n=w.heap.size)(ha:vs.toArray=a):au (w.alloc (.cells a T)) n vs T:=by
 subst b;subst ha;exact au.FU _ _ _
def au.alloc{w:World}{g:Nat}{vs:aP}{T:TypeId}(h:au w g vs T)(o:Obj):au (w.alloc o) g vs T:=by
 have:=h.lt;unfold au at*;show(w.heap.push _)[g]? =_;rw[Array.getElem?_push,aJ J];exact h
def au.set{w:World}{g:Nat}{vs:aP}{T:TypeId}(h:au w g vs T)(i:Nat)(v:Value):au (w.setCell ⟨g,i,none⟩ v) g (vs.set i v) T:=by simp_all [au,setCell,MZ,jr]
def au.Au{w:World}{g:Nat}{vs:aP}{T:TypeId}(h:au w g vs T)(a:Addr)(v:Value)(b:g≠a.block):au (w.setCell a v) g vs T:=by
 unfold au at*;rw[Below.heap_setCell _ _ _ _ b];exact h
def jc(P:Program)(ty:TypeId)(n:Nat):Prop:=(∃d,P.underlying ty=some d/\(match d with| .struct _| .array _ _=>true|_=>false)=true)/\(P.info? ty).map (·.size)=some n
def jS{P:Program}{c:Func}{b:Ending->World->Prop}{a:Act}{w:World}{p:Tmp}{ty:TypeId}{g:Nat}{vs:aP}{T:TypeId}
 (l:c.results= #[.cell p ty])(k:a.tmps.getD p undef= .pointer (some ⟨g,0,none⟩))(f:au w g vs T)
 {n:Nat}(m:jc P ty n)(j:vs.length=n)
 (h:a.defers=[])(e:b (.returned (.agg vs.toArray)) w):bodyPost P c b .ret a w:=by
 obtain⟨⟨d,o,q⟩,i⟩:=m;exact Jg (results_cell_row l a.tmps w g T vs.toArray (0,0) d k f o (by cases d<;>simp_all) (by rw[i,<-j];simp)) h e
abbrev aj(W w:World):Prop:=Below W.heap.size W w
def aj.refl(w:World):aj w w:=Aa _ _
abbrev qR(f:FuncId)(a:Array Value)(w:World)(v:Value):Prop:=Calls prog f a w λe w'=>e= .returned v/\w=w'
abbrev eO(f:FuncId)(a:Array Value)(w:World)(v:Value):Prop:=Calls prog f a w λe w'=>e= .returned v/\aj w w'
def aj.alloc{W w:World}(h:aj W w)(o:Obj):aj W (w.alloc o):=Below.alloc h h.size o
def aj.set{W w:World}(h:aj W w){p:Addr}(v:Value)(a:W.heap.size<=p.block):aj W (w.setCell p v):=Below.setCell h a v
def aj.drew{W w:World}(h:aj W w):aj W w.drew:=Below.drew h
def aj.drewN{W w:World}(h:aj W w)(n:Nat):aj W (w.drewN n):=⟨h.os,h.tape,h.output,h.size,h.block⟩
def aj.ext{W w w':World}(h:aj W w)(k:aj w w'):aj W w':=Below.trans h (k.mono h.size)
def au.ext{w w':World}{g:Nat}{vs:aP}{T:TypeId}(h:au w g vs T)(k:aj w w'):au w' g vs T:=h.below k h.lt
structure dF(w:World)(g:Nat)(w':World):Prop where
 os:w'.os=w.os
 tape:w'.tape=w.tape
 output:w'.output=w.output
 size:w'.heap.size=w.heap.size
 block:∀k,k≠g->w'.heap[k]? =w.heap[k]?
def dF.ext{W w w':World}{g:Nat}(h:aj W w)(k:dF w g w')(b:W.heap.size<=g):aj W w':=
 ⟨k.os.trans h.os,k.tape.trans h.tape,k.output.trans h.output,by rw[k.size];exact h.size,λi a=>(k.block i J).trans (h.block i a)⟩
def au.upd{w w':World}{k g:Nat}{vs:aP}{T:TypeId}(h:au w k vs T)(u:dF w g w')(a:k≠g):au w' k vs T:=by
 unfold au at*;rw[u.block k a];exact h
def dF.setRow{w:World}{g:Nat}(cs:Array Value):dF w g (w.setRow g cs):=
 ⟨F,F,F,aB,λk a=>setRow_other w g k cs a⟩
def dF.setCell{w:World}{g i:Nat}(v:Value):dF w g (w.setCell ⟨g,i,none⟩ v):=by grind [dF,setCell]
def au.setRow{w:World}{g:Nat}{vs:aP}{T:TypeId}(h:au w g vs T)(a:aP):au (w.setRow g a.toArray) g a T:=
 setRow_heap w g vs.toArray a.toArray T (0,0) h
def dF.refl(w:World)(g:Nat):dF w g w:=⟨F,F,F,F,λ_ _=>rfl⟩
def dF.trans{a b c:World}{g:Nat}(h:dF a g b)(k:dF b g c):dF a g c:=by grind [dF]
def jm(vs:aP)(o:Nat)(xs:aP):aP:=vs.take o++xs++vs.drop (o+xs.length)
section
variable {P:Program} {ops:Array Oper} {rest:List Oper} {o:Oper} {a:Act} {w:World} {Q:Exit->Act->World->Prop}
def aed{a:Prop}(e:a:=by
 cases hq:P.info? ty with
 |none=>simp[hq]at hi
 |some i=>
  have hs:i.size=n:=by simpa[hq]using hi
  have F7:(isAgg ty).run P w= .ok true w:=by
   unfold isAgg;rw[iC,jB hu w];cases d<;>simp_all
  simp[loadVar,iC,F7,sizeOf,typeInfo,hq,hs,hl]):a:=e
def Fa{g off n:Nat}{vs:aP}{T ty:TypeId}(c:au w g vs T)(h:jc P ty n)(k:off+n<=vs.length):
 (loadVar ty ⟨g,off,none⟩).run P w= .ok (.agg ((vs.drop off).take n).toArray) w:=by
 obtain⟨⟨d,hu,i⟩,hi⟩:=h;have f:((vs.drop off).take n).length=n:=by simp;omega
 have hl:(loadCells ⟨g,off,none⟩ ((vs.drop off).take n).length).run P w= .ok ((vs.drop off).take n).toArray w:=
  M6 (P:=P) w ⟨g,off,none⟩ _ (λj v a=>by
   have e:j<n:=by
    have:=(iK.1 a).1;omega
   have b:(⟨g,off,none⟩:Addr).add j=⟨g,off+j,none⟩:=by unfold Addr.add;split<;>simp_all
   rw[b];refine c.cell' ?_;rw[uM e,qY]at a;exact a)
 rw[f]at hl;exact aed
def alA{g off:Nat}{vs xs:aP}{T ty:TypeId}(e:au w g vs T)(h:jc P ty xs.length)(f:off+xs.length<=vs.length)(d:∀v∈xs,v.oneCell'=true):
 (storeVar ty ⟨g,off,none⟩ (.agg xs.toArray)).run P w= .ok () (w.setRow g (jm vs off xs).toArray):=by
 obtain⟨_,b⟩:=h;have c:=run_storeCells_at P g off T xs 0 vs.toArray w e (by simpa using f) d;cases a:P.info? ty with
 |none=>simp[a]at b
 |some i=>
  have hs:xs.length=i.size:=by simp[a]at b;omega
  simp only[z8,toList_toArray]at c;simp[storeVar,sizeOf,typeInfo,a,Value.cells,hs,c,jm]
def XW(d:o.guard=none)(ty:TypeId)(x:Operand)(f:o.op= .load ty x){g off n:Nat}{vs:aP}{T:TypeId}
 (j:a.eval x= .pointer (some ⟨g,off,none⟩))(c:au w g vs T)(i:jc P ty n)(e:off+n<=vs.length)
 (h:wpList P ops Q rest (a.put o.dst (.agg ((vs.drop off).take n).toArray)) w):wpList P ops Q (o::rest) a w:=
 q8 d λk b=>by
  unfold Oper.wp execOp;simp only[f,j,Instr.loadAt,Instr.sureAddr,iC,ni,ng,Fa c i e];exact b _ _ h
def dA(c:o.guard=none)(ty:TypeId)(x:Operand)(e:o.op= .load ty x){g:Nat}{vs:aP}{T:TypeId}
 (i:a.eval x= .pointer (some ⟨g,0,none⟩))(b:au w g vs T){n:Nat}(f:jc P ty n)(d:vs.length=n)
 (h:wpList P ops Q rest (a.put o.dst (.agg vs.toArray)) w):wpList P ops Q (o::rest) a w:=by
 subst d;exact XW c ty x e i b f J (by simpa using h)
def rQ(e:o.guard=none)(ty:TypeId)(x y:Operand)(i:o.op= .store ty x y){g off:Nat}{vs xs:aP}{T:TypeId}
 (k:a.eval x= .pointer (some ⟨g,off,none⟩))(l:a.eval y= .agg xs.toArray)(b:au w g vs T)(j:jc P ty xs.length)(f:off+xs.length<=vs.length)
 (c:∀v∈xs,v.oneCell'=true)
 (h:∀w',au w' g (jm vs off xs) T->dF w g w'->wpList P ops Q rest (a.put o.dst undef) w'):wpList P ops Q (o::rest) a w:=
 q8 e λm d=>by
  unfold Oper.wp execOp;simp only[i,k,l,Instr.storeAt,Instr.sureAddr,iC,ni,ng,alA b j f c];exact d _ _ (h _ (b.setRow _) (dF.setRow _))
def aZ(f:o.guard=none)(ty:TypeId)(x y:Operand)(i:o.op= .store ty x y){g:Nat}{vs xs:aP}{T:TypeId}
 (m:a.eval x= .pointer (some ⟨g,0,none⟩))(p:a.eval y= .agg xs.toArray)(d:au w g vs T){n:Nat}(j:jc P ty n)(l:vs.length=n)(b:xs.length=n)
 (c:∀v∈xs,v.oneCell'=true)
 (h:∀w',au w' g xs T->dF w g w'->wpList P ops Q rest (a.put o.dst undef) w'):wpList P ops Q (o::rest) a w:=
 rQ f ty x y i m p d (by rw[b];exact j) J c λw' e k=>h w' (by
  have:jm vs 0 xs=xs:=by simp[jm,b,l]
  rwa[this]at e) k
def aeL(r:o.guard=none)(f m:TypeId)(x y:Operand)(t:o.op= .call {callee:= .builtin .copy,args:= #[x,y],argTypes:= #[f,m]}){g off b d c k:Nat}{sa:Addr}{vs cs:aP}{T i:TypeId}
 (B:a.eval x= .slice (some ⟨g,off,none⟩) b d)(C:a.eval y= .slice (some sa) c k)(l:au w g vs T)
 (A:P.underlying f=some (.slice i))(hs:(P.info? i).map (·.size)=some 1)(s:cs.length=Nat.min c b)
 (z:∀j v,cs[j]? =some v->w.cell? (sa.add j)=some v)(q:off+cs.length<=vs.length)(n:∀v∈cs,v.oneCell'=true)
 (h:∀w',au w' g (jm vs off cs) T->dF w g w'->wpList P ops Q rest (a.put o.dst (.int .i64 cs.length)) w'):wpList P ops Q (o::rest) a w:=
 q8 r λD p=>by
  have u:=run_copy_row (P:=P) w f m o.type i g off b d sa c k vs.toArray T cs A hs l s z (by simpa using q) n;unfold Oper.wp execOp;simp only[t,resolve,iC,ni,ng,invoke,builtin];have e:(#[x,y].map a.eval)= #[.slice (some ⟨g,off,none⟩) b d,.slice (some sa) c k]:=by simp[B,C]
  rw[e,u];simp only[ng,ni,Oper.upon];refine p _ _ (h _ ?_ (dF.setRow _));have:=l.setRow (jm vs off cs);simpa[jm]using this
theorem J8{T e:TypeId}{n:Nat}(b:P.underlying T=some (.array n e)){len:Nat}(a:n<=len)(x:aO)(c:Nat)(w:World):
 (Instr.arrayAt T (.slice x len c)).run P w= .ok (.pointer x) w:=by
 simp[Instr.arrayAt,jB b,Nat.not_lt.2 a]
def KF(P:Program)(ty:TypeId):Prop:=(∃d,P.underlying ty=some d/\(match d with| .struct _| .array _ _=>true|_=>false)=false)/\(P.info? ty).map (·.size)=some 1
def acS{T e:TypeId}{n:Nat}{cs:Array Value}{v:Value}(j:P.underlying T=some (.array n e))(f:KF P e)(i:Nat)(g:i<n)(k:cs[i]? =some v)(w:World):
 (Instr.index T (.agg cs) (.int .i64 (i:Int))).run P w= .ok v w:=by
 obtain⟨⟨d,c,o⟩,hs⟩:=f;cases a:P.info? e with
 |none=>simp[a]at hs
 |some l=>
  have h:l.size=1:=by simpa[a]using hs
  have b:(isAgg e).run P w= .ok false w:=by
   unfold isAgg;rw[iC,jB c w];cases d<;>simp_all
  have m:(0:Int)<=i/\(i:Int)<n:=J;simp[Instr.index,asIntOf,jB j,part,sizeOf,typeInfo,a,h,b,k,g]
end
def UA{B:Nat}{W a:World}(c:Below B W a):(∀b o,b<B->a.cell? ⟨b,o,none⟩=W.cell? ⟨b,o,none⟩)/\(∀b o,b<B->a.frozen? ⟨b,o,none⟩=W.frozen? ⟨b,o,none⟩):=
 ⟨λb o h=>c.cell (p:=⟨b,o,none⟩) h,λb o h=>c.frozen (p:=⟨b,o,none⟩) h⟩
def dw(l:ah):∀v∈l.map Y,v.oneCell'=true:=by
 intro v a;obtain⟨x,_,rfl⟩:=pI.1 a;rfl
def RX(l:List UInt32):∀v∈l.map jU,v.oneCell'=true:=by
 intro v a;obtain⟨x,_,rfl⟩:=pI.1 a;rfl
def ace{a b:Value}(h:a=b):Ending.returned a=Ending.returned b:=by rw[h]
def aaE{k:IntKind}{a b:Int}(h:a=b):Value.int k a=Value.int k b:=by rw[h]
def mR{a:Type}(f:Nat->a)(d:a)(n i:Nat):List a:=(List.range n).map λj=>if j<i then f j else d
def Bj{a:Type}(f:Nat->a)(d:a)(n i:Nat):(mR f d n i).length=n:=by simp[mR]
def JA{a:Type}(f:Nat->a)(d:a)(n i j:Nat)(h:j<n):(mR f d n i)[j]? =some (if j<i then f j else d):=by
 simp[mR,h]
def Z7{e:Type}(f:Nat->e)(d:e)(n i:Nat):(mR f d n i).set i (f i)=mR f d n (i+1):=by
 apply Nn;intro j;by_cases b:j<n
 ·rw[JA _ _ _ _ _ b,Jd];by_cases c:i=j
  ·subst c;simp[Bj,b]
  ·rw[aJ c,JA _ _ _ _ _ b];by_cases a:j<i
   ·rw[aN a,aN J]
   ·rw[aJ a,aJ J]
 ·have a:((mR f d n i).set i (f i)).length=n:=by simp[Bj]
  rw[MX J,MX (by rw[Bj];omega)]
def afS{w:World}{g:Nat}{ws:List UInt32}{T:TypeId}(h:au w g (ws.map jU) T)(n:Nat)(b:ws.length=n):∀j,j<n->w.cell? ⟨g,j,none⟩=some (jU (ws.getD j 0)):=by
 intro j a;refine h.cell' ?_;simp[b,a]
def au.Xc{w:World}{g:Nat}{ws:List UInt32}{T:TypeId}(h:au w g (ws.map jU) T)(i:Nat)(x:UInt32):au (w.setCell ⟨g,i,none⟩ (.int .u32 (x.toNat:Nat))) g ((ws.set i x).map jU) T:=by
 have:=h.set i (jU x);rwa[<-zV]at this
def au.ahb{w:World}{g:Nat}{f:Nat->UInt32}{n i:Nat}{T:TypeId}(h:au w g ((mR f 0 n i).map jU) T):au (w.setCell ⟨g,i,none⟩ (.int .u32 ((f i).toNat:Nat))) g ((mR f 0 n (i+1)).map jU) T:=by
 have:=h.set i (jU (f i));rwa[<-zV,Z7]at this
def au.Z6{w:World}{g:Nat}{f:Nat->UInt8}{n i:Nat}{T:TypeId}(h:au w g ((mR f 0 n i).map Y) T):au (w.setCell ⟨g,i,none⟩ (.int .u8 ((f i).toNat:Nat))) g ((mR f 0 n (i+1)).map Y) T:=by
 have:=h.set i (Y (f i));rwa[<-zV,Z7]at this
def ahf{e:Type}(f:Nat->e)(d:e)(n a m:Nat)(g:e->Value)(h:a+m<=n)(xs:List e)(l:xs=(List.range m).map λj=>f (a+j)):
 jm ((mR f d n a).map g) a (xs.map g)=(mR f d n (a+m)).map g:=by
 subst l;unfold jm;have k:(((List.range m).map λj=>f (a+j)).map g).length=m:=aB;rw[k];apply Nn;intro j;rw[List.getElem?_append,List.getElem?_append];have o:(((mR f d n a).map g).take a).length=a:=by simp[Bj];omega
 rw[bQ,o,k];by_cases b:j<a+m
 ·rw[aN b];by_cases c:j<a
  ·rw[aN c,uM c,iT,iT,JA _ _ _ _ _ J,JA _ _ _ _ _ J,aN c,aN b]
  ·rw[aJ c,iT,iT,iT,JA _ _ _ _ _ J,aN b];simp[show j - a<m by omega,show a+(j - a)=j by omega]
 ·rw[aJ b,qY,show a+m+(j - (a+m))=j by omega,iT,iT];by_cases i:j<n
  ·rw[JA _ _ _ _ _ i,JA _ _ _ _ _ i,aJ J,aJ b]
  ·rw[MX (by rw[Bj];omega),MX (by rw[Bj];omega)]
def Vd{a:Type}(f:Nat->a)(d:a)(n:Nat):mR f d n 0=replicate n d:=by
 apply ext_getElem<;>simp[mR]
def Vb{a:Type}(f:Nat->a)(d:a)(n i:Nat)(h:n<=i):mR f d n i=(List.range n).map f:=by simp[mR,GZ,Jj];omega
def aM(w:World)(a:aO)(xs:aP):Prop:=xs=[]∨∃b off,a=some ⟨b,off,none⟩/\∀i u,xs[i]? =some u->w.cell? ⟨b,off+i,none⟩=some u
def aM.ext{w w':World}{a:aO}{xs:aP}(h:aM w a xs)(k:aj w w'):aM w' a xs:=by
 rcases h with h|⟨b,off,ha,h⟩
 ·exact .inl h
 ·refine .inr ⟨b,off,ha,λi u e=> ?_⟩;have c:=h i u e;have d:=kN c;have:=k.cell (p:=⟨b,off+i,none⟩) d;rw[this];exact c
def aM.nil(w:World)(a:aO):aM w a []:= .inl F
def aM.DI{w:World}{g:Nat}{vs:aP}{T:TypeId}(h:au w g vs T)(o n:Nat):aM w (some ⟨g,o,none⟩) ((vs.drop o).take n):=by
 refine .inr ⟨g,o,F,λi u a=>h.cell' ?_⟩;have b:i<n:=by
  have:=(iK.1 a).1;simp at this;omega
 rw[uM b,qY]at a;exact a
def aM.iM{w:World}{g:Nat}{vs:aP}{T:TypeId}(h:au w g vs T):aM w (some ⟨g,0,none⟩) vs:=by
 refine .inr ⟨g,0,F,λi u a=>h.cell' (by simpa using a)⟩
def aM.part{w:World}{b o:Nat}{xs:aP}(h:aM w (some ⟨b,o,none⟩) xs)(k n:Nat):aM w (some ⟨b,o+k,none⟩) ((xs.drop k).take n):=by
 rcases h with rfl|⟨e,o',c,h⟩
 ·left;simp
 ·cases c;refine .inr ⟨b,o+k,F,λi u a=> ?_⟩;have d:i<n:=by
   have:=(iK.1 a).1;simp at this;omega
  rw[uM d,qY]at a;have:=h (k+i) u a;rwa[<-k_]at this
def aM.jg{w:World}{a:aO}{xs:aP}(h:aM w a xs)(c:0<xs.length):∃b off,a=some ⟨b,off,none⟩/\∀i u,xs[i]? =some u->w.cell? ⟨b,off+i,none⟩=some u:=by
 rcases h with rfl|h
 ·simp at c
 ·exact h
def fu(a:aO)(c p:Nat):aO:=if c=p then a else a.map (·.add p)
def aM.shift{w:World}{a:aO}{xs:aP}(h:aM w a xs)(c p m:Nat)(f:p+m<=c):aM w (fu a c p) ((xs.drop p).take m):=by
 unfold Go.Proofs.YtjlhhnkhcbpnjaaGreatDoor.fu;by_cases e:c=p
 ·left
  obtain rfl:m=0:=J;simp
 ·rw[aJ e];rcases h with rfl|⟨b,off,rfl,h⟩
  ·left;simp
  ·have d:(⟨b,off,none⟩:Addr).add p=⟨b,off+p,none⟩:=by unfold Addr.add;split<;>simp_all
   rw[jr,d];exact aM.part (.inr ⟨b,off,F,h⟩) p m
def aM.take{w:World}{a:aO}{xs:aP}(h:aM w a xs)(n:Nat):aM w a (xs.take n):=by grind [aM]
section
variable {P:Program} {ops:Array Oper} {rest:List Oper} {o:Oper} {a:Act} {w:World} {Q:Exit->Act->World->Prop}
def amD{h:Act->World->Prop}{E:Prop}
 (z:o.guard=none)(s x:Operand)(t:TypeId)(B:o.op=Op.call {callee:=Callee.builtin Builtin.append,args:= #[s,x],argTypes:= #[t,t]})
 (f:Nat)(e:TypeId)(i:TypeInfo)(b:Nat)(n:P.underlying t=some (.slice e))(q:P.info? e=some i)(r:i.size=b)
 (g k cap:Nat)(xs:aP)(hs:a.eval s= .slice (some ⟨g,0,none⟩) k cap)(C:w.ownsRow f e b (.slice (some ⟨g,0,none⟩) k cap) k xs)(d:Addr)(m c:Nat)(news:aP)(H:a.eval x= .slice (some d) m c)(A:news.length=m*b)
 (y:∀j u,news[j]? =some u->w.cell? (d.add j)=some u)(p:∀u∈news,u.oneCell'=true)(l:k+m<=cap)
 (v:∀w',w'.ownsRow f e b (.slice (some ⟨g,0,none⟩) (k+m) cap) (k+m) (xs++news)->w.grownBy w' (some g)->h (a.put o.dst (.slice (some ⟨g,0,none⟩) (k+m) cap)) w'):
 if wanted o (yielded ops a.tmps)=true then Oper.wp P o a w h Q else E:=by
 have G:wanted o (yielded ops a.tmps)=true:=by simp[wanted,z]
 rw[aN G];obtain⟨w',D,I,r2⟩:=run_append_fits (P:=P) w f t o.type e i b n q r g k cap xs C d m c news A y p l;unfold Oper.wp;simp[execOp,B,resolve,invoke,builtin,hs,H,D,Result.andThen];exact v _ I r2
end
def DF{w:World}{g:Nat}{vs:aP}{T:TypeId}(h:au w g vs T):∀j u,vs[j]? =some u->w.cell? ((⟨g,0,none⟩:Addr).add j)=some u:=by
 intro j u b;have a:(⟨g,0,none⟩:Addr).add j=⟨g,j,none⟩:=by unfold Addr.add;split<;>simp_all
 rw[a];exact h.cell' b
def Gl{w:World}{x:Addr}{xs:aP}(h:aM w (some x) xs):∀j u,xs[j]? =some u->w.cell? (x.add j)=some u:=by
 intro j u a;rcases h with rfl|⟨b,off,d,h⟩
 ·simp at a
 ·cases d;have c:(⟨b,off,none⟩:Addr).add j=⟨b,off+j,none⟩:=by unfold Addr.add;split<;>simp_all
  rw[c];exact h j u a
def aj.grown{W w w':World}{row:Option Nat}(h:aj W w)(k:w.grownBy w' row)(a:∀g,row=some g->W.heap.size<=g):aj W w':=Below.grown h k h.size a
def au.grown{w w':World}{row:Option Nat}{g:Nat}{vs:aP}{T:TypeId}(h:au w g vs T)(k:w.grownBy w' row)(a:some g≠row):au w' g vs T:=by
 have:=h.lt;unfold au at*;rw[k.block g this a];exact h
def iy{w w':World}{a:Nat}{e:TypeId}{b:Nat}{v:Value}{n:Nat}{xs:aP}(h:w.ownsRow a e b v n xs)(k:aj w w'):w'.ownsRow a e b v n xs:=by
 refine h.kept (row:=none) ⟨k.os,k.tape,k.output,k.size,λi c _=>k.block i c⟩ ?_;cases d:v.ownBlock with
 |none=>exact .inl F
 |some g=>exact .inr aB
def tO{I:World->Prop}(a:∀w w',I w->aj w w'->I w'){w:World}(h:I w):∃C:World->Prop,Hid (∀w',C w'↔I w')/\(∀w w',C w->aj w w'->C w')/\C w:=⟨I,O λ_=>Iff.rfl,a,h⟩
def nR(w:World):∃C:World->Prop,Hid (∀w',C w'↔aj w w')/\∀w w',C w->aj w w'->C w':=⟨λw'=>aj w w',O λ_=>Iff.rfl,λ_ _ a b=>a.ext b⟩
section
variable {w wA:World} {o p q:Obj} {vs:aP} {T:TypeId}
def dS(h:alloc w o=wA):aj w wA:=h▸(aj.refl w).alloc o
def wN(h:alloc (alloc w o) p=wA):aj w wA:=h▸((aj.refl w).alloc o).alloc p
def vE(h:alloc (alloc (alloc w o) p) q=wA):aj w wA:=h▸(((aj.refl w).alloc o).alloc p).alloc q
def dX(h:alloc w o=wA)(vs:aP)(T:TypeId)(e:o= .cells vs.toArray T:=by exact F):au wA w.heap.size vs T:=by subst e;rw[<-h];exact au.bK F F
def qA(h:alloc (alloc w o) p=wA)(vs:aP)(T:TypeId)(e:o= .cells vs.toArray T:=by exact F):au wA w.heap.size vs T:=by subst e;rw[<-h];exact(au.bK F F).alloc _
def qQ(h:alloc (alloc w o) p=wA)(vs:aP)(T:TypeId)(e:p= .cells vs.toArray T:=by exact F):au wA (w.heap.size+1) vs T:=by subst e;rw[<-h];exact au.bK (Ef _).symm rfl
def wM(h:alloc (alloc (alloc w o) p) q=wA)(vs:aP)(T:TypeId)(e:o= .cells vs.toArray T:=by exact F):au wA w.heap.size vs T:=by subst e;rw[<-h];exact((au.bK F F).alloc _).alloc _
def vB(h:alloc (alloc (alloc w o) p) q=wA)(vs:aP)(T:TypeId)(e:p= .cells vs.toArray T:=by exact F):au wA (w.heap.size+1) vs T:=by subst e;rw[<-h];exact(au.bK (Ef _).symm rfl).alloc _
def vC(h:alloc (alloc (alloc w o) p) q=wA)(vs:aP)(T:TypeId)(e:q= .cells vs.toArray T:=by exact F):au wA (w.heap.size+2) vs T:=by subst e;rw[<-h];exact au.bK (by show _=(Array.push _ _).size;rw[Ef];show _=(Array.push _ _).size+1;rw[Ef]) F
def kE{g i:Nat}{v:Value}(h:setCell w ⟨g,i,none⟩ v=wA):dF w g wA:=h▸dF.setCell v
end
def cO(p:Prop)[Decidable p](h:p:=by first|omega|(simp;omega)):decide p=true:=bV h
def bU(p:Prop)[Decidable p](h:¬p:=by first|omega|(simp;omega)):decide p=false:=bg h
def om{c:Type}[DecidableEq c]{a b:c}(h:¬a=b):(a != b)=true:=by simp;exact h
def fV{P:Prop}(h:P:=by simp[intOf];omega):P:=h
def qd{c:Type}[DecidableEq c]{a b:c}(h:¬a=b):(a==b)=false:=by simp;exact h
end
section
section
variable {P:Program} {ops:Array Oper} {Q:Exit->Act->World->Prop} {S:World->Prop}
def Wq(b:Act->World->Prop)(Q:Exit->Act->World->Prop):Exit->Act->World->Prop
 | .normal,a,w=>b a w
 |e,a,w=>Q e a w
def aaS{a:Act->World->Prop}(h:LetsOut (Wq a Q)):LetsOut Q:=h
def ajF{o:Oper}{a:Act}{w:World}{d g:Act->World->Prop}(h:o.wp P a w d (Wq g Q)):o.wp P a w d Q:=by
 unfold Oper.wp at*;generalize (execOp a.eval o).run P w=r at*;cases r with
 |ok n w'=>
  cases n
  case enter f i=>
   refine Calls.mono h λe j b=> ?_;cases e with
   |returned u=>exact b
   |panicked c=>exact b
   |outgrown=>exact aaS b
  all_goals exact h
 |halt x w'=>
  cases x<;>first|exact h|exact h.elim
def p9{i:Nat}{o:Oper}{c:Act->World->Prop}{a:Act}{w:World}(f:ops[i]? =some o)(h:wpList P ops (Wq c Q) [o] a w):wpOp P ops Q i c a w:=by
 unfold wpOp;simp only[f];unfold wpList at h;split
 ·rename_i b;rw[aN b]at h;rcases h with h|⟨d,e⟩
  ·exact .inl (ajF h)
  ·exact .inr ⟨d,aaS e⟩
 ·rename_i b;rw[aJ b]at h;exact h
def kJ{i:Nat}{o:Oper}{r:List Oper}(h:ops.toList.drop i=o::r):ops[i]? =some o:=by
 have a:=qY (xs:=ops.toList) (i:=i) (j:=0);rw[h,z8]at a;simpa using a.symm
def gV(i:Nat){d:Oper}{r:List Oper}{v:Value}{e:Nat}{b:Array Bool}{a:Act}{w:World}(k:ops.toList.drop i=d::r)
 (hs:noSelect ops=true)(j:free .any ops b i=true)(l:(ready .any ops b).contains i=true)
 (f:∀c a w,Q (.panic c) (a.put d.dst v) w->Q (.panic c) a w)(m:YieldsIf P ops S d v a)(g:S w)
 (h:wpAnyH P .any ops Q S e (b.setIfInBounds i true) (a.put d.dst v) w):wpAnyH P .any ops Q S (e+1) b a w:=
 wpAnyH_take (kJ k) hs j l f m g h
def Od{i:Nat}{o:Oper}{r:List Oper}{f:Nat}{b:Array Bool}{a:Act}{w:World}(l:ready .any ops b=[i])(k:ops.toList.drop i=o::r)
 (h:∀c:Exit->Act->World->Prop,(∀a w,S w->wpAnyH P .any ops Q S f (b.setIfInBounds i true) a w->c .normal a w)->wpList P ops c [o] a w):
 wpAnyH P .any ops Q S (f+1) b a w:=
 BU l aB λj g=>by
  obtain rfl:j=i:=by simpa using g
  exact p9 (kJ k) (h _ λa w d e=>⟨d,e⟩)
def DJ(g:Nat):Value:= .pointer (some ⟨g,0,none⟩)
def Fl(P:Program)(ops:Array Oper)(Q:Exit->Act->World->Prop)(S:World->Prop)(B A:Nat)(vs:aP)(T:TypeId)(f:Nat)(a:Array Bool)(b:Value->Act)(D:World->Prop):Prop:=
 (∀w w',D w->aj w w'->D w')->(∀w,D w->S w)->(∀w,D w->B<=w.heap.size)->
 (∀x w,D w->wpAnyH P .any ops Q S (f+1) a (b x) w)/\∀g w,D w->B<=g->au w g vs T->wpAnyH P .any ops Q S f (a.setIfInBounds A true) (b (DJ g)) w
def GU{B A d:Nat}{vs:aP}{T:TypeId}{f:Nat}{b:Array Bool}{a:Act}{w:World}{D:World->Prop}(y:Value)(j:a.put (some d) y=a)(i:∀w w',D w->aj w w'->D w')(g:∀w,D w->S w)(e:∀w,D w->B<=w.heap.size)(c:D w)
 (h:Fl P ops Q S B A vs T f b (λx=>a.put (some d) x) D):wpAnyH P .any ops Q S (f+1) b a w:=by
 have:=(h i g e).1 y w c;simp only[j]at this;exact this
def Yb{B A:Nat}{vs:aP}{T:TypeId}{f:Nat}{b:Array Bool}{k:Value->Act}{D:World->Prop}(i:Nat){e:Oper}{r:List Oper}{v:Value}(m:ops.toList.drop i=e::r)(hs:noSelect ops=true)
 (t:free .any ops b i=true)(u:free .any ops (b.setIfInBounds A true) i=true)
 (C:(ready .any ops b).contains i=true)(E:(ready .any ops (b.setIfInBounds A true)).contains i=true)(y:(i==A)=false)
 (l:∀c a w,Q (.panic c) (a.put e.dst v) w->Q (.panic c) a w)(n:∀x,YieldsIf P ops S e v (k x))
 (h:Fl P ops Q S B A vs T f (b.setIfInBounds i true) (λx=>(k x).put e.dst v) D):Fl P ops Q S B A vs T (f+1) b k D:=by
 intro q j p;have z:i≠A:=by simpa using y
 have h:=h q j p;refine⟨λx w d=>wpAnyH_take (kJ m) hs t C l (n x) (j w d) (h.1 x w d),λg w d o s=>wpAnyH_take (kJ m) hs u E l (n _) (j w d) ?_⟩;have:=h.2 g w d o s;rwa[AQ _ _ z]at this
def ad7{a:Prop}(e:a:=by
 ·refine p9 hA ?_;refine q8 Dt λK hK=> ?_;unfold Oper.wp;rw[Q_,Cb,Q9];refine hK _ _ ?_;have he:aj w (w.alloc (.cells vs.toArray T)):=(aj.refl w).alloc _;rw[hα];exact⟨uU _ (hD _ _ nS he),SN _ _ (hD _ _ nS he) (Du _ nS) (au.FU _ _ _)⟩):a:=e
def rT{B A:Nat}{vs:aP}{T:TypeId}{f:Nat}{a:Array Bool}{c:Value->Act}{D:World->Prop}(i:Nat){o m:Oper}{r N:List Oper}{d:Tmp}{β:Type}(z:β->Value)(n:β->World->Prop)
 (K:ops.toList.drop i=o::r)(C:ops.toList.drop A=m::N)(Q9:m.dst=some d)(Dt:m.guard=none)(Q_:∀R w,(execOp R m).run P w= .ok (.value (DJ w.heap.size)) (w.alloc (.cells vs.toArray T)))
 (L:((ready .any ops a).all λj=>j==i||j==A)=true)(u:(ready .any ops a).isEmpty=false)(M:ready .any ops (a.setIfInBounds A true)=[i])(H:(i==A)=false)
 (hα:∀x y,(c x).put (some d) y=c y)(l:∀b w w',n b w->aj w w'->n b w')
 (v:∀x w,D w->∀q:Exit->Act->World->Prop,(∀b w',aj w w'->n b w'->q .normal ((c x).put o.dst (z b)) w')->wpList P ops q [o] (c x) w)
 (h:∀b,Fl P ops Q S B A vs T f (a.setIfInBounds i true) (λx=>(c x).put o.dst (z b)) (λw=>D w/\n b w)):Fl P ops Q S B A vs T (f+1) a c D:=by
 have t:=kJ K;have hA:=kJ C;intro hD uU Du;have h:=λb=>h b (λw w' k he=>⟨hD w w' k.1 he,l b w w' k.2 he⟩) (λw k=>uU w k.1) (λw k=>Du w k.1);have I:i≠A:=by simpa using H
 have SN:∀g w,D w->B<=g->au w g vs T->wpAnyH P .any ops Q S (f+1) (a.setIfInBounds A true) (c (DJ g)) w:=by
  intro g w nS E G;refine BU M aB λj p=> ?_;obtain rfl:j=i:=by simpa using p
  refine p9 t (v _ w nS _ λb w' he l=> ?_);have:=(h b).2 g w' ⟨hD _ _ nS he,l⟩ E (G.ext he);rw[AQ _ _ I]at this;exact⟨uU _ (hD _ _ nS he),this⟩
 refine⟨λx w nS=> ?_,SN⟩;refine BU (rs:=ready .any ops a) F (λe=>by rw[e]at u;cases u) λj p=> ?_;have s:=z_.1 L j p;simp only[zf,yj]at s;rcases s with rfl|rfl
 ·refine p9 t (v _ w nS _ λb w' he l=> ?_);exact⟨uU _ (hD _ _ nS he),(h b).1 x w' ⟨hD _ _ nS he,l⟩⟩
 exact ad7
def GR{B A:Nat}{vs:aP}{T:TypeId}{f:Nat}{e:Array Bool}{b:Value->Act}{D:World->Prop}{a:Oper}{z:List Oper}{d:Tmp}
 (m:ops.toList.drop A=a::z)(n:a.dst=some d)(o:a.guard=none)(p:∀C w,(execOp C a).run P w= .ok (.value (DJ w.heap.size)) (w.alloc (.cells vs.toArray T)))
 (u:ready .any ops e=[A])(v:∀x y,(b x).put (some d) y=b y)
 (h:∀g w,D w->B<=g->au w g vs T->wpAnyH P .any ops Q S f (e.setIfInBounds A true) (b (DJ g)) w):Fl P ops Q S B A vs T f e b D:=by
 have l:=kJ m;intro i r q;refine⟨λx w c=> ?_,h⟩;refine BU u aB λj t=> ?_;obtain rfl:j=A:=by simpa using t
 refine p9 l ?_;refine q8 o λE s=> ?_;unfold Oper.wp;rw[p,Cb,n];refine s _ _ ?_;have k:aj w (w.alloc (.cells vs.toArray T)):=(aj.refl w).alloc _;rw[v];exact⟨r _ (i _ _ c k),h _ _ (i _ _ c k) (q _ c) (au.FU _ _ _)⟩
def dR(W:World)(a:List Nat)(w':World):Prop:=W.heap.size<=w'.heap.size/\(∀g∈a,g<W.heap.size)/\∀g∈a,w'.heap[g]? =W.heap[g]?
def dR.ext{W w w':World}{a:List Nat}(h:dR W a w)(e:aj w w'):dR W a w':=
 ⟨dJ h.1 e.size,h.2.1,λg b=>(e.block g (vL (h.2.1 g b) h.1)).trans (h.2.2 g b)⟩
def dR.upd{W w w':World}{a:List Nat}{r:Nat}(h:dR W a w)(u:dF w r w')(b:r∉a):dR W a w':=by grind [dR,dF]
def dR.blk{W w:World}{a:List Nat}{g:Nat}{vs:aP}{T:TypeId}(h:dR W a w)(b:au W g vs T)(c:g∈a):au w g vs T:=by
 unfold au at*;rw[h.2.2 g c];exact b
def dR.none(W:World):dR W [] W:=⟨aQ _,aB,aB⟩
def dR.one{W:World}{a:Nat}(ha:a<W.heap.size):dR W [a] W:=⟨aQ _,by simpa using ha,λ_ _=>rfl⟩
def dR.two{W:World}{a b:Nat}(ha:a<W.heap.size)(c:b<W.heap.size):dR W [a,b] W:=⟨aQ _,by simpa using⟨ha,c⟩,λ_ _=>rfl⟩
def dR.three{W:World}{a b c:Nat}(ha:a<W.heap.size)(d:b<W.heap.size)(e:c<W.heap.size):dR W [a,b,c] W:=by grind [dR]
def dR.grown{W w w':World}{b:List Nat}{row:Option Nat}(h:dR W b w)(k:w.grownBy w' row)(c:∀g,row=some g->W.heap.size<=g):dR W b w':=
 ⟨dJ h.1 k.size,h.2.1,λg a=>(k.block g (vL (h.2.1 g a) h.1) (λe=>by have d:=c g e.symm;have f:=h.2.1 g a;omega)).trans (h.2.2 g a)⟩
structure bM(w0 W:World)(L:List Nat)(R:List (Nat×Nat×TypeId))(w:World):Prop where
 base:aj w0 w
 kept:dR W L w
 room:∀x∈R,x.1<W.heap.size/\∃vs,vs.length=x.2.1/\au w x.1 vs x.2.2
def bM.ext{d W w w':World}{a:List Nat}{b:List (Nat×Nat×TypeId)}(h:bM d W a b w)(e:aj w w'):bM d W a b w':=
 ⟨h.base.ext e,h.kept.ext e,λx c=>⟨(h.room x c).1,by obtain⟨_,vs,f,g⟩:=h.room x c;exact⟨vs,f,g.ext e⟩⟩⟩
def bM.grown{b W w w':World}{c:List Nat}{d:List (Nat×Nat×TypeId)}{row:Option Nat}(h:bM b W c d w)(k:w.grownBy w' row)(a:∀g,row=some g->W.heap.size<=g)(i:b.heap.size<=W.heap.size):bM b W c d w':=
 ⟨h.base.grown k (λg m=>dJ i (a g m)),h.kept.grown k a,λx f=>⟨(h.room x f).1,by
  obtain⟨n,vs,j,l⟩:=h.room x f;exact⟨vs,j,l.grown k (λe=>by have:=a _ e.symm;omega)⟩⟩⟩
def bM.upd{a W w w':World}{b:List Nat}{c:List (Nat×Nat×TypeId)}{g:Nat}(h:bM a W b c w)(u:dF w g w')(l:W.heap.size<=g)(j:a.heap.size<=W.heap.size):bM a W b c w':=
 ⟨u.ext h.base J,h.kept.upd u (λi=>by have:=h.kept.2.1 g i;omega),λx d=>⟨(h.room x d).1,by
  obtain⟨k,vs,e,f⟩:=h.room x d;exact⟨vs,e,f.upd u J⟩⟩⟩
def bM.store{d W w w':World}{a:List Nat}{b:List (Nat×Nat×TypeId)}{r:Nat}{xs:aP}{T:TypeId}(h:bM d W a b w)(u:dF w r w')(j:au w' r xs T)(l:∀x∈b,x.1=r->x=(r,xs.length,T))(k:d.heap.size<=r)(i:r∉a):bM d W a b w':=
 ⟨u.ext h.base k,h.kept.upd u i,λx c=>⟨(h.room x c).1,by
  obtain⟨m,vs,f,g⟩:=h.room x c;by_cases e:x.1=r
  ·rw[l x c e];exact⟨xs,F,j⟩
  ·exact⟨vs,f,g.upd u e⟩⟩⟩
def bM.blk{e W w:World}{a:List Nat}{b:List (Nat×Nat×TypeId)}{g:Nat}{vs:aP}{T:TypeId}(h:bM e W a b w)(c:au W g vs T)(d:g∈a):au w g vs T:=h.kept.blk c d
def bM.qo{d W w:World}{b:List Nat}{r n:Nat}{T:TypeId}{a:List (Nat×Nat×TypeId)}(h:bM d W b a w)(c:(r,n,T)∈a):∃vs,vs.length=n/\au w r vs T:=(h.room _ c).2
def bM.iP{b W:World}{a:List Nat}(h:aj b W)(k:dR W a W):bM b W a [] W:=⟨h,k,aB⟩
def bM.Gn{c W:World}{a:List Nat}{r n:Nat}{vs:aP}{T:TypeId}(h:aj c W)(k:dR W a W)(b:au W r vs T)(d:vs.length=n):bM c W a [(r,n,T)] W:=
 ⟨h,k,by simp only[nu];rintro x rfl;exact⟨b.lt,vs,d,b⟩⟩
def Nr(n:Nat)(xs:aP)(b:aO×Nat)(w:World):Prop:=n<=b.2/\b.2<=9223372036854775807/\(b.1=none->b.2=0)/\aM w b.1 xs
def Nr.ext{n:Nat}{xs:aP}:∀(b:aO×Nat) (w w':World),Nr n xs b w->aj w w'->Nr n xs b w':=λ_ _ _ h a=>⟨h.1,h.2.1,h.2.2.1,h.2.2.2.ext a⟩
def gP{o:Oper}{a:Act}(b:wanted o (yielded ops a.tmps)=true)(ty:TypeId)(x:Operand)(h:o.op= .load ty x){g:Nat}{vs:aP}{T:TypeId}{n:Nat}
 (j:a.eval x= .pointer (some ⟨g,0,none⟩))(e:∀w,S w->au w g vs T)(i:jc P ty n)(f:vs.length=n):YieldsIf P ops S o (.agg vs.toArray) a:=by
 refine .inl ⟨b,λw b=> ?_⟩;have c:=Fa (P:=P) (off:=0) (e w b) i J;have d:(vs.drop 0).take n=vs:=by simp[<-f]
 rw[d]at c;unfold execOp;simp only[h,j,Instr.loadAt,Instr.sureAddr,iC,ni,ng,c]
end
section
variable {P:Program} {ops:Array Oper} {Q:Exit->Act->World->Prop} {S:World->Prop}
def ay(i:Nat){b:Oper}{r:List Oper}{f:Nat}{d:Array Bool}{a:Act}{w:World}{X:Prop}{v:Value}(h:X)(k:ops.toList.drop i=b::r:=by exact F)(hs:noSelect ops=true:=by kernel_rfl)(j:free .any ops d i=true:=by kernel_rfl)(l:(ready .any ops d).contains i=true:=by kernel_rfl)(m:wanted b (yielded ops a.tmps)=true:=by exact F)(n:∀w,S w->(execOp a.eval b).run P w= .ok (.value v) w:=by(intro _ _;go_simp;try with_reducible rfl))(hx:X->wpAnyH P .any ops Q S f (d.setIfInBounds i true) (a.put b.dst v) w:=by(intro hx;simp only[Act.put,o_,nk,pF];exact hx))(g:S w:=by exact X)(e:∀c a w,Q (.panic c) (a.put b.dst v) w->Q (.panic c) a w:=by exact λ_ _ _ h=>h):wpAnyH P .any ops Q S (f+1) d a w:=
 gV i k hs j l e (.inl ⟨m,n⟩) g (hx h)
def dW(i:Nat){b:Oper}{r:List Oper}{f:Nat}{d:Array Bool}{a:Act}{w:World}{X:Prop}{v:Value}{e:Prop}(hf:e)(h:X)(l:ops.toList.drop i=b::r:=by exact F)(hs:noSelect ops=true:=by kernel_rfl)(k:free .any ops d i=true:=by kernel_rfl)(m:(ready .any ops d).contains i=true:=by kernel_rfl)(n:wanted b (yielded ops a.tmps)=true:=by exact F)(o:e->∀w,S w->(execOp a.eval b).run P w= .ok (.value v) w:=by(intro hf wq jl;have sM:=hf wq jl;go_simp;try with_reducible rfl))(hx:X->wpAnyH P .any ops Q S f (d.setIfInBounds i true) (a.put b.dst v) w:=by(intro hx;simp only[Act.put,o_,nk,pF];exact hx))(j:S w:=by exact X)(g:∀c a w,Q (.panic c) (a.put b.dst v) w->Q (.panic c) a w:=by exact λ_ _ _ h=>h):wpAnyH P .any ops Q S (f+1) d a w:=
 gV i l hs k m g (.inl ⟨n,o hf⟩) j (hx h)
def aV(i:Nat){d:Oper}{r:List Oper}{f:Nat}{b:Array Bool}{a:Act}{w:World}{X:Prop}{v:Value}(k:ops.toList.drop i=d::r)(m:YieldsIf P ops S d v a)(h:X)(hs:noSelect ops=true:=by kernel_rfl)(j:free .any ops b i=true:=by kernel_rfl)(l:(ready .any ops b).contains i=true:=by kernel_rfl)(hx:X->wpAnyH P .any ops Q S f (b.setIfInBounds i true) (a.put d.dst v) w:=by(intro hx;simp only[Act.put,o_,nk,pF];exact hx))(g:S w:=by exact X)(e:∀c a w,Q (.panic c) (a.put d.dst v) w->Q (.panic c) a w:=by exact λ_ _ _ h=>h):wpAnyH P .any ops Q S (f+1) b a w:=
 gV i k hs j l e m g (hx h)
def Bu(i:Nat){d:Oper}{r:List Oper}{f:Nat}{b:Array Bool}{a:Act}{w:World}{X:Prop}(h:X)(k:ops.toList.drop i=d::r:=by exact F)(hs:noSelect ops=true:=by kernel_rfl)(j:free .any ops b i=true:=by kernel_rfl)(l:(ready .any ops b).contains i=true:=by kernel_rfl)(m:wanted d (yielded ops a.tmps)=false:=by exact F)(hx:X->wpAnyH P .any ops Q S f (b.setIfInBounds i true) (a.put d.dst undef) w:=by(intro hx;simp only[Act.put,o_,nk,pF];exact hx))(g:S w:=by exact X)(e:∀c a w,Q (.panic c) (a.put d.dst undef) w->Q (.panic c) a w:=by exact λ_ _ _ h=>h):wpAnyH P .any ops Q S (f+1) b a w:=
 gV i k hs j l e (.inr ⟨m,F⟩) g (hx h)
def aT(i:Nat){o:Oper}{r:List Oper}{f:Nat}{b:Array Bool}{a:Act}{w:World}
 (h:∀c:Exit->Act->World->Prop,(∀a w,S w->wpAnyH P .any ops Q S f (b.setIfInBounds i true) a w->c .normal a w)->wpList P ops c [o] a w)
 (e:ready .any ops b=[i]:=by kernel_rfl)(d:ops.toList.drop i=o::r:=by exact F):wpAnyH P .any ops Q S (f+1) b a w:=Od e d h
def dP{b:Array Bool}{a:Act}{w:World}{f:Nat}(h:Q .normal a w)(c:ready .any ops b=[]:=by kernel_rfl):wpAnyH P .any ops Q S f b a w:=wpAnyH_done c h _
def fF{id:Nat}{a:Act}{w:World}(h:S w.drew->wpAnyH P .any ops Q S ops.size (Array.replicate ops.size false) a w.drew)(c:P.follows .mixedOrders=true:=by kernel_rfl)
 (b:S w.drew:=by exact aK _ _ bR (aj.refl _).drew):(Code.region id ops true).wp P Q a w:=qX c b h
def yI{B A:Nat}{vs:aP}{T:TypeId}{f:Nat}{b:Array Bool}{e:Value->Act}{D:World->Prop}(i:Nat){d:Oper}{r:List Oper}{v:Value}{X:Prop}(h:X)(l:ops.toList.drop i=d::r:=by exact F)(hs:noSelect ops=true:=by kernel_rfl)(j:free .any ops b i=true:=by kernel_rfl)(k:free .any ops (b.setIfInBounds A true) i=true:=by kernel_rfl)(n:(ready .any ops b).contains i=true:=by kernel_rfl)(o:(ready .any ops (b.setIfInBounds A true)).contains i=true:=by kernel_rfl)(m:(i==A)=false:=by exact F)(p:∀x,wanted d (yielded ops (e x).tmps)=true:=by exact λ_=>rfl)(q:∀x w,S w->(execOp (e x).eval d).run P w= .ok (.value v) w:=by(intro _ _ _;go_simp;try with_reducible rfl))(hx:X->Fl P ops Q S B A vs T f (b.setIfInBounds i true) (λx=>(e x).put d.dst v) D:=by(intro hx;(try dsimp only);simp only[Act.put,o_,nk,pF];exact hx))(g:∀c a w,Q (.panic c) (a.put d.dst v) w->Q (.panic c) a w:=by exact λ_ _ _ h=>h):Fl P ops Q S B A vs T (f+1) b e D:=
 Yb i l hs j k n o m g (λx=> .inl ⟨p x,q x⟩) (hx h)
def QT{B A:Nat}{vs:aP}{T:TypeId}{f:Nat}{b:Array Bool}{e:Value->Act}{D:World->Prop}(i:Nat){d:Oper}{r:List Oper}{v:Value}{X:Prop}(l:ops.toList.drop i=d::r)(p:∀x,YieldsIf P ops S d v (e x))(h:X)(hs:noSelect ops=true:=by kernel_rfl)(j:free .any ops b i=true:=by kernel_rfl)(k:free .any ops (b.setIfInBounds A true) i=true:=by kernel_rfl)(n:(ready .any ops b).contains i=true:=by kernel_rfl)(o:(ready .any ops (b.setIfInBounds A true)).contains i=true:=by kernel_rfl)(m:(i==A)=false:=by exact F)(hx:X->Fl P ops Q S B A vs T f (b.setIfInBounds i true) (λx=>(e x).put d.dst v) D:=by(intro hx;(try dsimp only);simp only[Act.put,o_,nk,pF];exact hx))(g:∀c a w,Q (.panic c) (a.put d.dst v) w->Q (.panic c) a w:=by exact λ_ _ _ h=>h):Fl P ops Q S B A vs T (f+1) b e D:=
 Yb i l hs j k n o m g p (hx h)
def fK{c W:World}{a:List Nat}{b:List (Nat×Nat×TypeId)}{d:World}(h:bM c W a b d):∃C:World->Prop,Hid (∀w',C w'↔bM c W a b w')/\(∀w w',C w->aj w w'->C w')/\C d:=
 ⟨λw'=>bM c W a b w',O λ_=>Iff.rfl,λ_ _ e f=>e.ext f,h⟩
end
end
section
def yX(ops:Array Oper)(i j:Nat):Bool:=(ops[i]?).any λo=>o.after.any λe=>binds .any e&&e.on==j
def lC(ops:Array Oper)(i:Nat):Option Tmp:=(ops[i]?).bind (·.dst)
def OI(o:Oper):Bool:=match o.op with| .select .. =>false|_=>true
def QF(ops:Array Oper)(n:Nat):Bool:=
 ((List.range ops.size).all λi=>(ops[i]?).all λo=>o.after.all λe=> !binds .any e||decide (e.on<i))&&
 ((List.range n).all λi=>(ops[i]?).all λo=>OI o&&
  ((List.range n).all λj=>(lC ops j).all λt=>(i==j||o.dst != some t)&&
   (!(o.looksAt ops).contains t||((decide (i<=j)||yX ops i j)&&(decide (j<=i)||yX ops j i)))))&&
 (
  (decide (n=ops.size)||(List.range n).all λi=>(List.range (n+1)).any λj=>decide (i<j)&&yX ops j i)&&
  ((List.range ops.size).all λt=>decide (t<=n)||yX ops t (t - 1)))&&
 decide (n<=ops.size)
section
variable {P:Program} {ops:Array Oper} {Q:Exit->Act->World->Prop}
def aeG{id:Nat}{a:Act}{w:World}(I:Array Bool->Act->World->Prop)(v:P.follows .mixedOrders=true)
 (q:I (Array.replicate ops.size false) a {w with drawn:=w.drawn+1})
 (x:∀b a w i,b.size=ops.size->I b a w->i∈ready .any ops b->wpOp P ops Q i (I (b.setIfInBounds i true)) a w)
 (l:∀b a w,b.size=ops.size->I b a w->ready .any ops b=[]->Q .normal a w):(Code.region id ops true).wp P Q a w:=by
 refine wp_region_any v ?_;have z:∀(f:Nat) (b:Array Bool) (a:Act) (w:World),b.size=ops.size->(b.toList.count false<=f)->I b a w->wpAny P .any ops Q f b a w:=by
  intro f;induction f with
  |zero=>
   intro b a w hs u e;have m:ready .any ops b=[]:=by
    apply eq_nil_iff_forall_not_mem.2;intro i g;obtain⟨h,o,k,_⟩:=AP.1 g;have c:i<b.size:=by
     rw[hs];exact(o9.1 k).1
    have d:b[i]=false:=by simpa[c]using h
    have j:false∈b.toList:=by rw[<-d];simp
    have:=count_pos_iff.2 j;omega
   exact⟨m,l _ _ _ hs e m⟩
  |succ f y=>
   intro b a w hs u e;refine⟨l _ _ _ hs e,λi g=> ?_⟩;refine AO (λn w' p=>y _ n w' (by simpa using hs) ?_ p) (x _ _ _ _ hs e g);obtain⟨h,o,k,_⟩:=AP.1 g;have c:i<b.size:=by
    rw[hs];exact(o9.1 k).1
   have d:b[i]=false:=by simpa[c]using h
   have r:(b.setIfInBounds i true).toList=b.toList.set i true:=aB;have s:b.toList[i]'(by simpa using c)=false:=by simpa using d
   have j:false∈b.toList:=by rw[<-d];simp
   have A:=count_pos_iff.2 j;have t:List.count false (b.toList.set i true)=List.count false b.toList - 1:=by
    rw[count_set (by simpa using c),s];rfl
   rw[r,t];omega
 refine z _ _ _ _ aB ?_ q;simp
structure kC(ops:Array Oper)(n:Nat)(vs:Nat->Value)(a0:Act)(S:Nat->Bool)(a:Act):Prop where
 Lh:a.defers=a0.defers
 sz:a.tmps.size=a0.tmps.size
 yes:∀t,t<a0.tmps.size->∀i,i<n->S i=true->lC ops i=some t->a.tmps[t]? =some (vs i)
 no:∀t,t<a0.tmps.size->(∀i,i<n->S i=true->lC ops i≠some t)->a.tmps[t]? =a0.tmps[t]?
def kC.put{n:Nat}{vs:Nat->Value}{q a:Act}{S S':Nat->Bool}(h:kC ops n vs q S a){i:Nat}(v:i<n)(r:S i=false)
 (s:S' i=true)(l:∀j,j≠i->S' j=S j)
 (u:∀j,j<n->j≠i->∀t,lC ops i=some t->lC ops j≠some t):kC ops n vs q S' (a.put (lC ops i) (vs i)):=by
 cases m:lC ops i with
 |none=>
  refine⟨h.Lh,h.sz,λt k j g b f=> ?_,λt k o=> ?_⟩
  ·have c:j≠i:=λe=>by subst e;rw[m]at f;cases f
   exact h.yes t k j g (by rw[<-l j c];exact b) f
  ·refine h.no t k λj g b=> ?_;have c:j≠i:=λe=>by subst e;rw[r]at b;cases b
   exact o j g (by rw[l j c];exact b)
 |some d=>
  refine⟨h.Lh,by simp[Act.put,h.sz],λt k j g b f=> ?_,λt k o=> ?_⟩
  ·by_cases c:j=i
   ·subst c;rw[m]at f;cases f;have:d<a.tmps.size:=by rw[h.sz];exact k
    simp[Act.put,this]
   ·have p:d≠t:=λe=>u j g c d m (by rw[f,e]);simp only[Act.put];rw[Ee p];exact h.yes t k j g (by rw[<-l j c];exact b) f
  ·have p:d≠t:=λe=>o i v s (by rw[m,e]);simp only[Act.put];rw[Ee p];refine h.no t k λj g b=> ?_;have c:j≠i:=λe=>by subst e;rw[r]at b;cases b
   exact o j g (by rw[l j c];exact b)
def kC.same{n:Nat}{vs:Nat->Value}{c a b:Act}{S S':Nat->Bool}(h:kC ops n vs c S a)(d:kC ops n vs c S' b){t:Nat}
 (e:∀j,j<n->lC ops j=some t->S j=S' j):a.tmps[t]? =b.tmps[t]? :=by grind [lC,kC]
def kC.eq{n:Nat}{vs:Nat->Value}{c a b:Act}{S S':Nat->Bool}(h:kC ops n vs c S a)(d:kC ops n vs c S' b)
 (e:∀j,j<n->S j=S' j):a=b:=by
 have g:a.tmps=b.tmps:=by
  apply Array.ext_getElem?;intro t;exact h.same d λj f _=>e j f
 have i:a.defers=b.defers:=by rw[h.Lh,d.Lh]
 cases a;cases b;simp_all
def aei{a:Prop}(e:a:=by
 constructor
 ·refine execOp_congr o (λcs b e=>by simp[OI,e]at hs) λx hx=> ?_;cases x with
  |tmp t=>
   have:=ht t (mem_append_left _ (mem_filterMap.2 ⟨.tmp t,by simpa using hx,F⟩));simp[Act.eval,this]
  |_=>rfl
 ·unfold wanted;cases hg:o.guard with
  |none=>rfl
  |some g=>
   obtain⟨j,aox⟩:=g;simp only[yielded];cases hd:(ops[j]?).bind (·.dst)with
   |none=>simp
   |some t=>
    have:=ht t (mem_append_right _ (by simp[hg,hd]));simp[this]):a:=e
def kC.eval{n:Nat}{vs:Nat->Value}{c a b:Act}{S S':Nat->Bool}(h:kC ops n vs c S a)(d:kC ops n vs c S' b){o:Oper}
 (hs:OI o=true)(e:∀j,j<n->∀t,lC ops j=some t->t∈o.looksAt ops->S j=S' j):
 execOp a.eval o=execOp b.eval o/\wanted o (yielded ops a.tmps)=wanted o (yielded ops b.tmps):=by
 have ht:∀t,t∈o.looksAt ops->a.tmps[t]? =b.tmps[t]? :=λt g=>h.same d λj f hd=>e j f t hd g;exact aei
def aaT{C:World->Prop}{c:Act->Prop}:∀(l:List Oper) (k:Nat) (a:Act),(∀j,j<l.length->ops[k+j]? =l[j]?)->wpQuiet P ops C c l a->
 ∃(vs:Nat->Value) (b:Nat->Act),b k=a/\(∀j,k<=j->j<k+l.length->b (j+1)=(b j).put (lC ops j) (vs j)/\∃o,ops[j]? =some o/\YieldsIn P ops C o (vs j) (b j))/\c (b (k+l.length))
 |[],k,a,_,h=>⟨λ_=>undef,λ_=>a,F,λj d h2=>by simp at h2;omega,h⟩
 |o::l,k,a,i,h=>by
  have h0:ops[k]? =some o:=by simpa using i 0 aB
  have q:qOp P ops C k (wpQuiet P ops C c l) a:=by unfold qOp;simp only[h0];exact h
  obtain⟨v,r,n⟩:=yieldsIn_of_qOp h0 q;obtain⟨vs,b,d,h2,m⟩:=aaT l (k+1) _ (λj f=>by
   have:=i (j+1) (by simpa using f);simpa[k_,Np 1 j]using this) n
  refine⟨λj=>if j=k then v else vs j,λj=>if j=k then a else b j,aB,λj f p=> ?_,?_⟩
  ·by_cases g:j=k
   ·subst g;simp only[wX,aJ (show j+1≠j by omega)];refine⟨by rw[d];simp[lC,h0],o,h0,r⟩
   ·simp only[aJ g,aJ (show j+1≠k by omega)];exact h2 j J (by simp only[iU]at p;omega)
  ·simp only[iU,aJ (show k+(l.length+1)≠k by omega)];have e:k+(l.length+1)=k+1+l.length:=J;rw[e];exact m
def Y9{n:Nat}(h:QF ops n=true):
 (∀i o,ops[i]? =some o->∀e∈o.after,binds .any e=true->e.on<i)/\
 (∀i o,i<n->ops[i]? =some o->OI o=true/\∀j t,j<n->lC ops j=some t->(i≠j->o.dst≠some t)/\(t∈o.looksAt ops->(j<i->yX ops i j=true)/\(i<j->yX ops j i=true)))/\
 ((n<ops.size->∀i,i<n->∃j,i<j/\j<=n/\yX ops j i=true)/\(∀t,n<t->t<ops.size->yX ops t (t - 1)=true))/\n<=ops.size:=by
 simp only[QF,qZ,z_,He,Jj,Option.all_eq_true,zf,tJ,Nb,Array.all_eq_true',yj,bne_iff_ne]at h;obtain⟨⟨⟨p,q⟩,r,u⟩,s⟩:=h;refine⟨λi o k e x v=> ?_,λi o l k=> ?_,⟨λE i l=> ?_,λt G C=> ?_⟩,s⟩
 ·rcases p i (o9.1 k).1 o k e x with h|h
  ·rw[v]at h;cases h
  ·exact h
 ·obtain⟨a,b⟩:=q i l o k;refine⟨a,λj t m w=> ?_⟩;obtain⟨c,d⟩:=b j m t w;refine⟨λB=> ?_,λA=> ?_⟩
  ·rcases c with c|c
   ·exact absurd c B
   ·exact c
  ·rcases d with d|⟨f,g⟩
   ·rw[contains_iff_mem.2 A]at d;cases d
   ·refine⟨λz=> ?_,λz=> ?_⟩
    ·rcases f with f|f
     ·omega
     ·exact f
    ·rcases g with g|g
     ·omega
     ·exact g
 ·rcases r with h|h
  ·omega
  ·obtain⟨j,m,y,D⟩:=h i l;exact⟨j,y,J,D⟩
 ·rcases u t C with h|h
  ·omega
  ·exact h
def Km{i j:Nat}(h:yX ops i j=true):∃o,ops[i]? =some o/\∃e∈o.after,binds .any e=true/\e.on=j:=by grind [yX]
def Vh{a:Array Bool}{i:Nat}(b:i<a.size):a.getD i true=a.getD i false:=by
 simp[b]
def aa7{a:Array Bool}{m:Nat}(hs:a.size=ops.size)(h:m<ops.size)(i:a.getD m false=false)(c:∀j,j<m->a.getD j false=true)
 (f:∀o,ops[m]? =some o->∀e∈o.after,binds .any e=true->e.on<m):m∈ready .any ops a:=by
 have b:ops[m]? =some ops[m]:=by simp[h]
 exact AP.2 ⟨by rw[Vh J];exact i,ops[m],b,λe g d=>c _ (f _ b e g d)⟩
def aem{a:Prop}(e:a:=by
 have key:∀d j,i - j=d->j<i->aH.getD j false=true:=by
  intro d;induction d using Nat.strongRecOn with
  |_ d ih=>
   intro j hd hj;obtain⟨k,lS,Cy,hw⟩:=b3 (by simpa[aar]using xC) j J;by_cases Bq:k=i
   ·subst Bq;exact uZ j hw
   ·have hk:=ih (i - k) J k F J;obtain⟨ok,fq,e,he,hb,Bt⟩:=Km hw;rw[<-Bt];exact Ig k hk ok fq e he hb
 exact λj hj=>key _ j F hj):a:=e
def aef{a:Prop}(e:a:=by
 ·have ahS:m=l.length:=by
   rcases Fz m l.length with h1|h1
   ·have:=aa7 (ops:=l.toArray) b_ (by simpa using h1) (by rw[xD m h1];simp) (λj hj=>by rw[xD j J];simp[hj]) (λo ho e he hb=>b1 m o ho e he hb);rw[hr]at this;cases this
   ·omega
  rw[ahS,drop_length]at hw;exact hw):a:=e
def adY{a:Prop}(e:a:=by
 intro i;induction i using Nat.strongRecOn with
 |_ i ih=>
  intro hi;cases hl:aH.getD i false with
  |true=>rfl
  |false=>
   have:=aa7 (ops:=l.toArray) b_ (by simpa using hi) hl (λj hj=>ih j hj J) (λo ho e he hb=>b1 i o ho e he hb);rw[hr]at this;cases this):a:=e
def aeb{a:Prop}(e:a:=by
 have h1:¬i<m:=λaS=>by have:=xD i xC;rw[Dx]at this;simp at this;omega
 rcases Fz m i with h2|h2
 ·have h3:=uZ (i - 1) (b5 i J (by simpa using xC));have h4:=xD (i - 1) J;rw[h3]at h4;simp at h4;omega
 ·omega):a:=e
def AA{id:Nat}{a:Act}{w:World}{l:List Oper}{C:World->Prop}(n:Nat)(ar:P.follows .mixedOrders=true)(am:QF l.toArray n=true)(an:C w.drew)
 (h:wpQuiet P l.toArray C (λb=>∀w',C w'->wpList P l.toArray Q (l.drop n) b w') (l.take n) a):(Code.region id l.toArray true).wp P Q a w:=by
 obtain⟨b1,N,⟨b3,b5⟩,af⟩:=Y9 am;have aw:n<=l.length:=by simpa using af
 have ac:(l.take n).length=n:=by simp[aw]
 obtain⟨vs,M,aE,z,y⟩:=aaT (l.take n) 0 a (λj hj=>by
  have aq:j<n:=by rw[ac]at hj;exact hj
  simp[aq]) h
 rw[ac]at z y;simp only[kD]at z y;have D:∀i,i<=n->kC l.toArray n vs a (λj=>decide (j<i)) (M i):=by
  intro i;induction i with
  |zero=>
   intro _;rw[aE];exact⟨F,F,λ_ _ _ _ h=>by simp at h,λ_ _ _=>rfl⟩
  |succ i ih=>
   intro hi;obtain⟨h1,o,ho,_⟩:=z i (w_ _) J;rw[h1];refine(ih J).put J aB aB (λj hj=> ?_) (λj hj c t hd=> ?_)
   ·simp;omega
   ·intro E;have:=((N i o J ho).2 j t hj E).1 (Ne.symm c);simp only[lC,ho]at hd;exact this hd
 refine aeG (I:=λaH b w'=>
  ((∀t,n<=t->aH.getD t false=false)/\(∀i,aH.getD i false=true->∀o,l.toArray[i]? =some o->∀e∈o.after,binds .any e=true->aH.getD e.on false=true)/\
   kC l.toArray n vs a (λj=>aH.getD j false) b/\C w')∨
  (∃m,n<=m/\m<=l.length/\(∀j,j<l.length->aH.getD j false=decide (j<m))/\wpList P l.toArray Q (l.drop m) b w')) ar ?_ ?_ ?_
 ·refine .inl ⟨λt _=> ?_,λi hi=> ?_,⟨F,F,λ_ _ _ _ h=> ?_,λ_ _ _=>rfl⟩,an⟩
  ·simp[P8];split<;>rfl
  ·exfalso;simp[P8]at hi;split at hi<;>cases hi
  ·exfalso;simp[P8]at h;split at h<;>cases h
 ·intro aH b w' i b_ A hi;obtain⟨a0,o,ho,q⟩:=AP.1 hi;have xC:i<l.length:=by simpa using(o9.1 ho).1
  have Dx:aH.getD i false=false:=by rw[<-Vh (by rw[b_];simpa using xC)];exact a0
  have uZ:∀j,yX l.toArray i j=true->aH.getD j false=true:=λj hj=>by
   obtain⟨o',u,e,he,hb,Bt⟩:=Km hj;have:o'=o:=zZ (u.symm.trans ho);subst this;rw[<-Bt];exact q e he hb
  have ad:∀m,n<=m->m<=l.length->(∀j,j<l.length->aH.getD j false=decide (j<m))->wpList P l.toArray Q (l.drop m) b w'->
   wpOp P l.toArray Q i (λd v=>(∃m,n<=m/\m<=l.length/\(∀j,j<l.length->(aH.setIfInBounds i true).getD j false=decide (j<m))/\wpList P l.toArray Q (l.drop m) d v)) b w':=by
   intro m K H xD hw;have ap:i=m:=by
    exact aeb
   subst ap;have hd:l.drop i=o::l.drop (i+1):=by
    have u:l[i]=o:=by
     have:=(o9.1 ho).2;simpa using this
    rw[<-u];exact FJ xC
   rw[hd]at hw;have a1:wpOp P l.toArray Q i (wpList P l.toArray Q (l.drop (i+1))) b w':=by
    unfold wpOp;simp only[ho];exact hw
   refine AO (λd v f=>⟨i+1,J,J,λj hj=> ?_,f⟩) a1;by_cases c:j=i
   ·subst c;have:j<aH.size:=by rw[b_];simpa using xC
    simp[this]
   ·have r:i≠j:=Ne.symm c;have g:=xD j hj;simp only[Ca]at g⊢;rw[Ee r,g];by_cases V:j<i
    ·simp[V];omega
    ·simp[V];omega
  rcases A with⟨s,Ig,p,x⟩|⟨m,K,H,xD,hw⟩
  ·by_cases G:i<n
   ·obtain⟨_,o',u,a2⟩:=z i (w_ _) G;have:o'=o:=zZ (u.symm.trans ho);subst this;obtain⟨ae,R⟩:=N i o' G ho;have U:=p.eval (D i J) (o:=o') ae (λj hj t hd L=>by
     obtain⟨_,ag⟩:=R j t hj hd;obtain⟨ai,al⟩:=ag L;rcases Nat.lt_trichotomy j i with h1|h1|h1
     ·simp only[h1,decide_true];exact uZ j (ai h1)
     ·subst h1;simp only[Nat.lt_irrefl,decide_false];exact Dx
     ·have:¬j<i:=J;simp only[this,decide_false];cases hl:aH.getD j false with
      |false=>rfl
      |true=>
       obtain⟨a4,ax,e,he,hb,Bt⟩:=Km (al h1);have:=Ig j hl a4 ax e he hb;rw[Bt,Dx]at this;cases this)
    have a3:YieldsIn P l.toArray C o' (vs i) b:=a2.of_same U.1 U.2;have az:qOp P l.toArray C i (λd=>d=b.put o'.dst (vs i)) b:=a3.qOp ho F;refine wpOp_of_qOp x (λd v ao he=> ?_) az;subst he;refine .inl ⟨λt L=> ?_,λk hk ok fq e he hb=> ?_,?_,ao⟩
    ·have r:i≠t:=J;have g:=s t L;simp only[Ca]at g⊢;rw[Ee r];exact g
    ·have ab:∀j,aH.getD j false=true->(aH.setIfInBounds i true).getD j false=true:=λj hj=>by
      by_cases c:i=j
      ·subst c;rw[Dx]at hj;cases hj
      ·simp only[Ca]at hj⊢;rw[Ee c];exact hj
     by_cases Bq:i=k
     ·subst Bq;have:ok=o':=zZ (fq.symm.trans ho);subst this;exact ab _ (q e he hb)
     ·refine ab _ (Ig k ?_ ok fq e he hb);simp only[Ca]at hk⊢;rw[Ee Bq]at hk;exact hk
    ·have T:o'.dst=lC l.toArray i:=by simp[lC,ho]
     rw[T];refine p.put G Dx ?_ (λj hj=> ?_) (λj hj c t hd E=> ?_)
     ·have:i<aH.size:=by rw[b_];simpa using xC
      simp[this]
     ·have r:i≠j:=Ne.symm hj;simp only[Ca];rw[Ee r]
     ·have:=(R j t hj E).1 (Ne.symm c);rw[<-T]at hd;exact this hd
   ·have aar:i=n:=by
     rcases Fz n i with h1|h1
     ·have h2:=uZ (i - 1) (b5 i h1 (by simpa using xC));rw[s (i - 1) J]at h2;cases h2
     ·omega
    have S:∀j,j<i->aH.getD j false=true:=by
     exact aem
    have B:b=M n:=p.eq (D n (aQ _)) λj hj=>by
     rw[S j J];simp[hj]
    refine AO (λd v f=> .inr f) (ad n (aQ _) J (λj hj=> ?_) (by rw[B];exact y w' x));by_cases W:j<n
    ·rw[S j J];simp[W]
    ·rw[s j J];simp[W]
  ·exact AO (λd v f=> .inr f) (ad m K H xD hw)
 ·intro aH b w' b_ A hr;have a5:aH.size=l.length:=by rw[b_];simp
  rcases A with⟨s,Ig,p,x⟩|⟨m,K,H,xD,hw⟩
  ·have q:∀i,i<l.length->aH.getD i false=true:=by
    exact adY
   have aa:n=l.length:=by
    rcases Fz n l.length with h1|h1
    ·have:=q n h1;rw[s n (aQ _)]at this;cases this
    ·omega
   have B:b=M n:=p.eq (D n (aQ _)) λj hj=>by
    rw[q j J];simp[hj]
   have:=y w' x;rw[B];rw[aa,drop_length]at this;rw[aa];exact this
  exact aef
end
end
def afg(k:Nat)(h:k<32):bits .and .u64 (k:Int) 31=(k:Int):=by
 have a:(BitVec.ofInt 64 (k:Int)).toNat=k:=by simp;omega
 have b:(BitVec.ofInt 64 (31:Int)).toNat=31:=aB;change IntKind.u64.wrap ((BitVec.ofInt 64 (k:Int) &&& BitVec.ofInt 64 31).toNat:Int)=_;rw[Qm,a,b,Nat.and_two_pow_sub_one_eq_mod k 5,IntKind.wrap_u64];omega
def acv(x:UInt32)(k:Nat):bits .or .u32 ((x.toNat:Int)*2^k%4294967296) ((x.toNat:Int) / 2^(32 - k))=((BH x k).toNat:Int):=by
 have a:(x.toNat:Int)*2^k%4294967296=((x.toNat*2^k%4294967296:Nat):Int):=by
  rw[Int.natCast_emod,Int.natCast_mul,Int.natCast_pow];rfl
 have b:(x.toNat:Int) / 2^(32 - k)=((x.toNat / 2^(32 - k):Nat):Int):=by
  rw[Int.natCast_ediv,Int.natCast_pow];rfl
 rw[a,b,(Lb _ _ (Jk _ J) (Nat.lt_of_le_of_lt (Nat.div_le_self _ _) x.toNat_lt)).2.1,akW]
def acu(x:UInt32)(k:Nat)(w:World)(a:k<32):
 qR 281 #[.int .u32 x.toNat,.int .i64 k] w (.int .u32 (BH x k).toNat):=by
 have b:=afg k a;have c:=aep x;go_enter func281,ntmps281;go_wp2;go_ret;refine⟨?_,F⟩;rw[<-acv];rfl
def acG(x:UInt32)(k:Nat)(w:World)(b:k<32):
 Calls prog 162 #[.int .u32 x.toNat,.int .i64 k] w λe w'=>e= .returned (.int .u32 (BH x k).toNat)/\∃n,w'=w.drewN n:=by
 have i:=aep x;have a:0<=(k:Int):=J;have c:(k:Int)<=32:=J;have d:(0:Int)<=32 - (k:Int):=J;have f:IntKind.i64.wrap (32 - (k:Int))=32 - (k:Int):=fJ _ J;have g:(32 - (k:Int)).toNat=32 - k:=J;have h:IntKind.u32.wrap ((x.toNat:Int)*2^k)=(x.toNat:Int)*2^k%4294967296:=KL _;go_enter func162,ntmps162;go_wp2
 go_quiet (fail)
 go_wp2;go_ret;exact⟨by rw[<-acv];rfl,nq,F⟩
def C8(ws:List UInt32)(r i:Nat):UInt32:=BH (ws.getD ((i+1+r)%16) 0) (5+i) ^^^ UInt32.ofNat (2654435769*(16*r+i+1))
def aje(m:Nat):(2654435769*(m:Int)%4294967296)=((UInt32.ofNat (2654435769*m)).toNat:Int):=by
 rw[FM];omega
def aeo(ws:List UInt32)(r i:Nat):bits .xor .u32 ((BH (ws[(i+1+r)%16]?.getD 0) (5+i)).toNat:Int) (2654435769*(16*(r:Int)+i+1)%4294967296)=((C8 ws r i).toNat:Int):=by
 have e:(16*(r:Int)+i+1)=((16*r+i+1:Nat):Int):=J;rw[e,aje,aeS];simp[C8]
def anq(g:Nat)(ws:List UInt32)(r i:Nat)(w:World)(d:r<8)(c:i<16)(a:∀j,j<16->w.cell? ⟨g,j,none⟩=some (jU (ws.getD j 0))):
 qR 280 #[.pointer (some ⟨g,0,none⟩),.int .i64 r,.int .i64 i] w (.int .u32 (C8 ws r i).toNat):=by
 have b:=a ((i+1+r)%16) J;clear a;go_enter func280,ntmps280;go_wp2_with (go_at_call 281;refine(acu _ (5+i) _ J).mono ?_;rintro e w' ⟨rfl,rfl⟩);go_ret;refine⟨?_,F⟩;rw[<-aeo];rfl
def xS(a b c d:UInt8):UInt32:=UInt32.ofNat (a.toNat*16777216+b.toNat*65536+c.toNat*256+d.toNat)
def OP(a b k:Nat)(h:b<2^k):(a*2^k ||| b)=a*2^k+b:=by
 rw[FD,<-Nat.two_pow_add_eq_or_of_lt h]
def anX(a b c d:UInt8):bits .or .u32 (bits .or .u32 (bits .or .u32 ((a.toNat:Int)*16777216) ((b.toNat:Int)*65536)) ((c.toNat:Int)*256)) (d.toNat:Int)=((xS a b c d).toNat:Int):=by
 have ha:=a.toNat_lt;have l:=b.toNat_lt;have m:=c.toNat_lt;have n:=d.toNat_lt;have f:(a.toNat:Int)*16777216=((a.toNat*16777216:Nat):Int):=J;have g:(b.toNat:Int)*65536=((b.toNat*65536:Nat):Int):=J;have h:(c.toNat:Int)*256=((c.toNat*256:Nat):Int):=J;rw[f,g,h,(Lb _ _ J J).2.1];have i:(a.toNat*16777216 ||| b.toNat*65536)=a.toNat*16777216+b.toNat*65536:=OP a.toNat (b.toNat*65536) 24 J;rw[i,(Lb _ _ J J).2.1];have j:(a.toNat*16777216+b.toNat*65536 ||| c.toNat*256)=a.toNat*16777216+b.toNat*65536+c.toNat*256:=by
  have:=OP (a.toNat*256+b.toNat) (c.toNat*256) 16 J;have e:(a.toNat*256+b.toNat)*2^16=a.toNat*16777216+b.toNat*65536:=J;rwa[e]at this
 rw[j,(Lb _ _ J J).2.1];have k:(a.toNat*16777216+b.toNat*65536+c.toNat*256 ||| d.toNat)=a.toNat*16777216+b.toNat*65536+c.toNat*256+d.toNat:=by
  have:=OP (a.toNat*65536+b.toNat*256+c.toNat) d.toNat 8 J;have e:(a.toNat*65536+b.toNat*256+c.toNat)*2^8=a.toNat*16777216+b.toNat*65536+c.toNat*256:=J;rwa[e]at this
 rw[k];unfold xS;rw[FM];omega
def XT(a b c d:UInt8)(w:World):
 eO 154 #[.agg #[.int .u8 a.toNat,.int .u8 b.toNat,.int .u8 c.toNat,.int .u8 d.toNat]] w (.int .u32 (xS a b c d).toNat):=by
 have ha:=Kk a;have e:=Kk b;have f:=Kk c;have g:=Kk d;go_enter func154,ntmps154;go_wp2;go_ret;refine⟨?_,(aj.refl _).alloc _⟩;rw[<-anX];rfl
def mh(n:UInt32):ah:=[UInt8.ofNat (n.toNat / 16777216),UInt8.ofNat (n.toNat / 65536),UInt8.ofNat (n.toNat / 256),UInt8.ofNat n.toNat]
def anv(m:Nat):((UInt8.ofNat m).toNat:Int)=(m:Int)%256:=by
 rw[FL];omega
def V8(n:UInt32):(mh n).map Y=[.int .u8 ((n.toNat:Int) / 16777216%256),.int .u8 ((n.toNat:Int) / 65536%256),.int .u8 ((n.toNat:Int) / 256%256),.int .u8 ((n.toNat:Int)%256)]:=by simp[mh,Y]
def abv(n:UInt32)(w:World):
 eO 210 #[.int .u32 n.toNat] w (.agg ((mh n).map Y).toArray):=by
 rw[V8];go_enter func210,ntmps210;go_wp2;exact Jg (v:= .agg #[.int .u8 ((n.toNat:Int) / 16777216%256),.int .u8 ((n.toNat:Int) / 65536%256),.int .u8 ((n.toNat:Int) / 256%256),.int .u8 ((n.toNat:Int)%256)])
  (by simp[results,Tryz.results210,go_sem]) F ⟨F,(aj.refl _).alloc _⟩
def fQ(n:UInt64):ah:=mh (UInt32.ofNat (n.toNat / 4294967296))++mh (UInt32.ofNat n.toNat)
def aer(m:Nat):((UInt32.ofNat m).toNat:Int)=(m:Int)%4294967296:=by
 rw[FM];omega
def abw(n:UInt32)(w:World):
 eO 210 #[.int .u32 n.toNat] w (.agg #[.int .u8 ((n.toNat:Int) / 16777216%256),.int .u8 ((n.toNat:Int) / 65536%256),.int .u8 ((n.toNat:Int) / 256%256),.int .u8 ((n.toNat:Int)%256)]):=by
 have:=abv n w;rw[V8]at this;exact this
def ai1(n:UInt64):(fQ n).map Y=[.int .u8 (((UInt32.ofNat (n.toNat / 4294967296)).toNat:Int) / 16777216%256),.int .u8 (((UInt32.ofNat (n.toNat / 4294967296)).toNat:Int) / 65536%256),.int .u8 (((UInt32.ofNat (n.toNat / 4294967296)).toNat:Int) / 256%256),.int .u8 (((UInt32.ofNat (n.toNat / 4294967296)).toNat:Int)%256),
 .int .u8 (((UInt32.ofNat n.toNat).toNat:Int) / 16777216%256),.int .u8 (((UInt32.ofNat n.toNat).toNat:Int) / 65536%256),.int .u8 (((UInt32.ofNat n.toNat).toNat:Int) / 256%256),.int .u8 (((UInt32.ofNat n.toNat).toNat:Int)%256)]:=by simp_all [fQ,jv,V8]
def Qx:jc prog 306 8:=⟨⟨_,underlying306,F⟩,aC⟩
def VN(n:UInt64)(w:World):
 eO 209 #[.int .u64 n.toNat] w (.agg ((fQ n).map Y).toArray):=by
 rw[ai1];have p:(n.toNat:Int)<18446744073709551616:=by have:=n.toNat_lt;omega
 have i:(n.toNat:Int) / 4294967296=((UInt32.ofNat (n.toNat / 4294967296)).toNat:Int):=by rw[aer];omega
 have j:((n.toNat:Int)%4294967296)=((UInt32.ofNat n.toNat).toNat:Int):=by rw[aer]
 generalize UInt32.ofNat (n.toNat / 4294967296)=x at*;generalize UInt32.ofNat n.toNat=y at*;go_enter func209,ntmps209;go_wp2_with fail;refine(abw _ _).mono ?_;rintro e h ⟨rfl,a⟩;obtain⟨k,m⟩:=UA a;have f:w.heap.size<h.heap.size:=by have:=a.size;simp at this;omega
 go_wp2_with fail;refine(abw _ _).mono ?_;rintro e c ⟨rfl,b⟩;obtain⟨l,o⟩:=UA b;have q:w.heap.size<c.heap.size:=by have:=b.size;omega
 go_wp2_with fail;have d:aj w c:=(((aj.refl w).alloc _).ext a).ext b;have k2:au c w.heap.size (replicate 8 (.int .u8 0)) 306:=
  ((au.FU w (replicate 8 (.int .u8 0)) 306).below a aB).below b f
 have k3:=((((((((k2.set 0 (.int .u8 (↑x.toNat / 16777216%256))).set 1 (.int .u8 (↑x.toNat / 65536%256))).set 2 (.int .u8 (↑x.toNat / 256%256))).set 3 (.int .u8 (↑x.toNat%256))).set 4 (.int .u8 (↑y.toNat / 16777216%256))).set 5 (.int .u8 (↑y.toNat / 65536%256))).set 6 (.int .u8 (↑y.toNat / 256%256))).set 7 (.int .u8 (↑y.toNat%256)));refine jS (g:=w.heap.size) F F ((k3.alloc _).alloc _) Qx F F ⟨F,?_⟩;refine aj.alloc (aj.alloc ?_ _) _;iterate 8 refine aj.set ?_ _ (aQ _)
 exact d
def PK(l:ah)(i:Nat):UInt32:=xS (l[4*i]?.getD 0) (l[4*i+1]?.getD 0) (l[4*i+2]?.getD 0) (l[4*i+3]?.getD 0)
def ug(l:ah):List UInt32:=(List.range 16).map (PK l)
def Nz{w:World}{g:Nat}{l:ah}{T:TypeId}(h:au w g (l.map Y) T){i:Nat}(a:i<l.length):w.cell? ⟨g,i,none⟩=some (.int .u8 (((l[i]?.getD 0).toNat:Nat):Int)):=by
 refine h.cell' ?_;simp[a,Y]
def FY{w:World}{g:Nat}{l:List UInt32}{T:TypeId}(h:au w g (l.map jU) T){i:Nat}(a:i<l.length):w.cell? ⟨g,i,none⟩=some (.int .u32 (((l[i]?.getD 0).toNat:Nat):Int)):=by
 refine h.cell' ?_;simp[a,jU]
def aoq(n:Nat):(replicate n (0:UInt32)).map jU=replicate n (.int .u32 0):=by simp[jU]
def aeX(n:Nat):(replicate n (0:UInt8)).map Y=replicate n (.int .u8 0):=by simp[Y]
def RY:KF prog 5:=⟨⟨_,underlying5,F⟩,aC⟩
def ajC:KF prog 239:=⟨⟨_,underlying239,F⟩,aC⟩
def Dn:jc prog 251 16:=⟨⟨_,underlying251,F⟩,aC⟩
def tL:jc prog 77 64:=⟨⟨_,underlying77,F⟩,aC⟩
def Uo:jc prog 248 4:=⟨⟨_,underlying248,F⟩,aC⟩
def anY(l:ah)(m:l.length=64)(w:World):
 eO 279 #[.agg (l.map Y).toArray] w (.agg ((ug l).map jU).toArray):=by
 have o:=O m;clear m;go_enter func279,ntmps279;go_wp2;generalize b:alloc _ _=f;have r:au f w.heap.size (l.map Y) 77:=by subst b;exact((au.bK F F).alloc _).alloc _
 have k1:au f (w.heap.size+1) (replicate 16 (.int .u32 0)) 251:=by subst b;exact(au.bK aB F).alloc _
 have k2:au f (w.heap.size+1+1) ((mR (PK l) 0 16 0).map jU) 251:=by subst b;exact au.bK aB (by rw[Vd,aoq];rfl)
 have p:aj w f:=by subst b;exact(((aj.refl w).alloc _).alloc _).alloc _
 clear b;go_loopw [5] (λi wr=>∃k:Nat,k<=16/\i= .int .i64 k/\au wr w.heap.size (l.map Y) 77/\au wr (w.heap.size+1) (replicate 16 (.int .u32 0)) 251/\au wr (w.heap.size+1+1) ((mR (PK l) 0 16 k).map jU) 251/\aj w wr)
  (λi _=>16 - (intOf i).toNat)
 ·exact⟨0,J,F,r,k1,k2,p⟩
 ·obtain⟨k,C,rfl,c,n,d,j⟩:=hrel;by_cases D:k<16
  ·have q:=o.out;have u:=Nz c (i:=4*k) J;have v:=Nz c (i:=4*k+1) J;have x:=Nz c (i:=4*k+2) J;have y:=Nz c (i:=4*k+3) J;have K:=FY d (i:=k) (by rw[Bj];omega);have z:=d.frozen k;have G:=d.lt;have E:(0:Int)<=4*(k:Int):=J;have i1:4*(k:Int)<=4*(k:Int)+4:=J;have i2:4*(k:Int)+4<=64:=J;have ha:=J8 (P:=prog) underlying248 (len:=4) (aQ 4);clear q;go_wp2_with fail;refine(XT _ _ _ _ _).mono ?_;rintro e H ⟨rfl,a⟩;obtain⟨A,B⟩:=UA a;go_wp2;go_roundw
   ·have r2:=au.ahb (d.ext a);exact⟨k+1,J,by go_num,(c.ext a).Au _ _ (by simp;omega),(n.ext a).Au _ _ aB,r2,(j.ext a).set _ (by simp;omega)⟩
   ·exact fV
  ·obtain rfl:k=16:=J;have h:((mR (PK l) 0 16 16).map jU).length=16:=by rw[aI,Bj]
   go_wp2_with (first|(refine dA F _ _ F F d Dn h ?_)|(refine aZ F _ _ _ F F F n Dn aB h (RX _) ?_));intro I s t;go_wp2;refine jS (g:=w.heap.size+1) F F s Dn h F ⟨?_,t.ext j J⟩;rw[Vb _ _ _ _ (aQ _)];rfl
def Fe(l:ah)(i j:Nat):UInt32:=
 if i<=4*j then 0 else if i=4*j+1 then xS 0 0 0 (l[4*j]?.getD 0)else if i=4*j+2 then xS 0 0 (l[4*j]?.getD 0) (l[4*j+1]?.getD 0)
 else if i=4*j+3 then xS 0 (l[4*j]?.getD 0) (l[4*j+1]?.getD 0) (l[4*j+2]?.getD 0)else PK l j
def Fg(l:ah)(i:Nat):List UInt32:=(List.range 16).map (Fe l i)
def alU(a b c d e:UInt8):bits .or .u32 (((xS a b c d).toNat:Int)*256%4294967296) (e.toNat:Int)=((xS b c d e).toNat:Int):=by
 have ha:=a.toNat_lt;have h:=b.toNat_lt;have i:=c.toNat_lt;have j:=d.toNat_lt;have k:=e.toNat_lt;have g:((xS a b c d).toNat:Int)*256%4294967296=((b.toNat*65536+c.toNat*256+d.toNat)*256:Nat):=by
  unfold xS;rw[FM];omega
 rw[g,(Lb _ _ J J).2.1];have f:=OP (b.toNat*65536+c.toNat*256+d.toNat) e.toNat 8 J;rw[show(2:Nat)^8=256 from F]at f;rw[f];unfold xS;rw[FM];omega
def anW(l:ah)(i:Nat):∃a b c d,Fe l i (i / 4)=xS a b c d/\Fe l (i+1) (i / 4)=xS b c d (l[i]?.getD 0):=by
 have h:=Nat.div_add_mod i 4;have j:i%4<4:=Jk _ J;have e:∃q,i / 4=q:=⟨_,F⟩;obtain⟨q,g⟩:=e;rw[g]at h⊢;clear g;unfold Fe;rcases(by omega:i%4=0∨i%4=1∨i%4=2∨i%4=3)with f|f|f|f
 ·obtain rfl:i=4*q:=J;exact⟨0,0,0,0,by rw[aN J];rfl,by rw[aJ J,aN J]⟩
 ·obtain rfl:i=4*q+1:=J;exact⟨0,0,0,_,by rw[aJ J,aN J],by rw[aJ J,aJ J,aN J]⟩
 ·obtain rfl:i=4*q+2:=J;exact⟨0,0,_,_,by rw[aJ J,aJ J,aN J],by rw[aJ J,aJ J,aJ J,aN J]⟩
 ·obtain rfl:i=4*q+3:=J;exact⟨0,_,_,_,by rw[aJ J,aJ J,aJ J,aN J],by rw[aJ J,aJ J,aJ J,aJ J];rfl⟩
def anV(l:ah)(i j:Nat)(h:j≠i / 4):Fe l (i+1) j=Fe l i j:=by grind [Fe]
def anZ(l:ah)(i:Nat):(Fg l i).set (i / 4) (Fe l (i+1) (i / 4))=Fg l (i+1):=by
 unfold Fg;apply Nn;intro j;rw[Jd];by_cases b:i / 4=j
 ·subst b;simp only[wX,aI,length_range,iT];by_cases a:i / 4<16
  ·simp[a]
  ·simp[a]
 ·rw[aJ b];simp only[iT];by_cases a:j<16
  ·simp[a,anV l i j (Ne.symm b)]
  ·simp[a]
def alE(l:ah)(h:l.length=64)(w:World):
 eO 161 #[.agg (l.map Y).toArray] w (.agg ((ug l).map jU).toArray):=by
 have p:(l.map Y).length=64:=by rw[aI];exact h
 have s:=O p;clear p;have t:=O h;clear h;go_enter func161,ntmps161;go_wp2_with (refine dA F _ _ F F (((au.bK F F).alloc _).alloc _) tL s ?_);generalize e:alloc _ _=n;have k1:au n (w.heap.size+1) (replicate 16 (.int .u32 0)) 251:=by subst e;exact(au.bK aB F).alloc _
 have k2:au n (w.heap.size+1+1) ((Fg l 0).map jU) 251:=by subst e;exact au.bK aB F
 have u:aj w n:=by subst e;exact(((aj.refl w).alloc _).alloc _).alloc _
 clear e;go_loopw [7] (λi wr=>∃k:Nat,k<=64/\i= .int .i64 k/\au wr (w.heap.size+1) (replicate 16 (.int .u32 0)) 251/\au wr (w.heap.size+1+1) ((Fg l k).map jU) 251/\aj w wr)
  (λi _=>64 - (intOf i).toNat)
 ·exact⟨0,J,F,k1,k2,u⟩
 ·obtain⟨k,E,rfl,r,f,o⟩:=hrel;by_cases q:k<64
  ·obtain⟨a,b,c,d,z,A⟩:=anW l k;have K:wr.cell? ⟨w.heap.size+1+1,k / 4,none⟩=some (.int .u32 ((xS a b c d).toNat:Nat)):=by
    refine f.cell' ?_;rw[<-z];simp[Fg,jU,show k / 4<16 by omega]
   have C:=f.frozen (k / 4);have D:=Kk (l[k]?.getD 0);have G:=acS (P:=prog) (cs:=(l.map Y).toArray) (v:= .int .u8 ((l[k]?.getD 0).toNat:Nat)) underlying77 RY k q (by
    have:=t.out;simp[Y,this,q])
   have H:=alU a b c d (l[k]?.getD 0);go_wp2;go_roundw
   ·have r2:=f.set (k / 4) (jU (Fe l (k+1) (k / 4)));rw[<-zV,anZ,A]at r2;exact⟨k+1,J,by go_num,r.Au _ _ aB,r2,o.set _ (by simp;omega)⟩
   ·exact fV
  ·obtain rfl:k=64:=J;have m:((Fg l 64).map jU).length=16:=by simp[Fg]
   go_wp2_with (first|(refine dA F _ _ F F f Dn m ?_)|(refine aZ F _ _ _ F F F r Dn aB m (RX _) ?_));intro I y B;go_wp2;refine jS (g:=w.heap.size+1) F F y Dn m F ⟨?_,B.ext o J⟩;have:Fg l 64=ug l:=by
    unfold Fg ug;apply GZ;intro j x;have:=Jj.1 x;unfold Fe;rw[aJ J,aJ J,aJ J,aJ J]
   rw[this]
def zB(ws:List UInt32)(j:Nat):UInt8:=(mh (ws[j / 4]?.getD 0))[j%4]?.getD 0
def Mj(ws:List UInt32):ah:=(List.range 64).map (zB ws)
def ajx(ws:List UInt32)(k:Nat):mh (ws[k]?.getD 0)=(List.range 4).map λj=>zB ws (4*k+j):=by
 have e:∀j,j<4->zB ws (4*k+j)=(mh (ws[k]?.getD 0))[j]?.getD 0:=λj a=>by
  unfold zB;rw[show(4*k+j) / 4=k by omega,show(4*k+j)%4=j by omega]
 show _=[zB ws (4*k+0),zB ws (4*k+1),zB ws (4*k+2),zB ws (4*k+3)];rw[e 0 J,e 1 J,e 2 J,e 3 J];rfl
def ad6{a:Prop}(e:a:=by
 go_wp2_with (first|(refine dA F _ _ F F q2 tL cK ?_)|(refine aZ F _ _ _ F F F q1 tL aB cK (dw _) ?_));intro w4 p1 u4;go_wp2;refine jS (g:=w.heap.size+1) F F p1 tL cK F ⟨?_,u4.ext bb J⟩;rw[Vb _ _ _ _ J];rfl):a:=e
def amB(ws:List UInt32)(c:ws.length=16)(w:World):
 eO 282 #[.agg (ws.map jU).toArray] w (.agg ((Mj ws).map Y).toArray):=by
 have h:(ws.map jU).length=16:=by rw[aI];exact c
 have t:=O h;clear h;have u:=O c;clear c;go_enter func282,ntmps282;go_wp2_with (refine dA F _ _ F F (((au.bK F F).alloc _).alloc _) Dn t ?_);generalize b:alloc _ _=d;have k1:au d (w.heap.size+1) (replicate 64 (.int .u8 0)) 77:=by subst b;exact(au.bK aB F).alloc _
 have k2:au d (w.heap.size+1+1) ((mR (zB ws) 0 64 (4*0)).map Y) 77:=by subst b;exact au.bK aB (by rw[Vd,aeX];rfl)
 have x:aj w d:=by subst b;exact(((aj.refl w).alloc _).alloc _).alloc _
 clear b;go_loopw [8] (λi wr=>∃k:Nat,k<=16/\i= .int .i64 k/\au wr (w.heap.size+1) (replicate 64 (.int .u8 0)) 77/\au wr (w.heap.size+1+1) ((mR (zB ws) 0 64 (4*k)).map Y) 77/\aj w wr)
  (λi _=>16 - (intOf i).toNat)
 ·exact⟨0,J,F,k1,k2,x⟩
 ·obtain⟨k,G,rfl,q1,q2,bb⟩:=hrel;by_cases m:k<16
  ·have B:=acS (P:=prog) (cs:=(ws.map jU).toArray) (v:= .int .u32 ((ws[k]?.getD 0).toNat:Nat)) underlying251 ajC k m (by
    have:=u.out;simp[jU,this,m])
   go_wp2_with fail;refine(abv _ _).mono ?_;rintro e r ⟨rfl,g⟩;go_wp2_with (first|(refine aZ F _ _ _ F F F (au.bK F F) Uo F F (dw _) ?_));intro s n q;have a:aj wr s:=q.ext (g.alloc _) g.size;have o:=q1.ext a;have r2:=q2.ext a;have f:=bb.ext a;have D:=q2.lt;clear q q1 q2 bb B;have H:(0:Int)<=4*(k:Int):=J;have i2:4*(k:Int)<=64:=J;have I:¬(64=4*k):=J;have L:IntKind.i64.wrap (4*(k:Int))=4*(k:Int):=fJ _ J;have K:(4*(k:Int)).toNat=4*k:=J;go_wp2_with fail;refine AA (C:=λw'=>w'=s.drew) 4 aC aC F ?_;simp only[pE,pG,mH,jP];iterate 4 quiet_step (fail)
   refine AY ?_;rintro _ rfl;have l:((mh (ws[k]?.getD 0)).map Y).length=4:=F;refine aeL F _ _ _ _ F F F r2.drew underlying32 RY.2 (cs:=(mh (ws[k]?.getD 0)).map Y) (by rw[l];exact(Qp J).symm) ?_ (by rw[l,aI,Bj];omega) (dw _) ?_
   ·intro j v A;have z:(⟨r.heap.size,0,none⟩:Addr).add j=⟨r.heap.size,j,none⟩:=by unfold Addr.add;split<;>simp_all
    rw[z];exact n.drew.cell' A
   intro w4 p u4;have E:=o.drew.upd u4 J;have y:=u4.ext f.drew J;rw[ahf (zB ws) 0 64 (4*k) 4 Y J (mh (ws[k]?.getD 0)) (ajx ws k),show 4*k+4=4*(k+1) by omega]at p;clear n a o r2 f D u4;go_wp2;go_roundw
   ·exact⟨k+1,J,by go_num,E,p,y⟩
   ·exact fV
  ·obtain rfl:k=16:=J;have cK:((mR (zB ws) 0 64 (4*16)).map Y).length=64:=by rw[aI,Bj]
   exact ad6
def alY(n:UInt32)(m:Nat)(a:m<4):((n.toNat:Int) / 2^(24 - 8*m)%256)=(((mh n)[m]?.getD 0).toNat:Int):=by
 rcases(by omega:m=0∨m=1∨m=2∨m=3)with rfl|rfl|rfl|rfl
 all_goals simp only[mh];simp;try rw[FL];omega
def akO(ws:List UInt32)(c:ws.length=16)(w:World):
 eO 163 #[.agg (ws.map jU).toArray] w (.agg ((Mj ws).map Y).toArray):=by
 have e:=O c;clear c;go_enter func163,ntmps163;go_wp2;generalize a:alloc _ _=b;have g:au b w.heap.size (ws.map jU) 251:=by subst a;exact((au.bK F F).alloc _).alloc _
 have k1:au b (w.heap.size+1) (replicate 64 (.int .u8 0)) 77:=by subst a;exact(au.bK aB F).alloc _
 have k2:au b (w.heap.size+1+1) ((mR (zB ws) 0 64 0).map Y) 77:=by subst a;exact au.bK aB (by rw[Vd,aeX];rfl)
 have f:aj w b:=by subst a;exact(((aj.refl w).alloc _).alloc _).alloc _
 clear a;go_loopw [5] (λi wr=>∃k:Nat,k<=64/\i= .int .i64 k/\au wr w.heap.size (ws.map jU) 251/\au wr (w.heap.size+1) (replicate 64 (.int .u8 0)) 77/\au wr (w.heap.size+1+1) ((mR (zB ws) 0 64 k).map Y) 77/\aj w wr)
  (λi _=>64 - (intOf i).toNat)
 ·exact⟨0,J,F,g,k1,k2,f⟩
 ·obtain⟨k,j,rfl,d,q1,q2,bb⟩:=hrel;by_cases l:k<64
  ·have m:=FY d (i:=k / 4) (by rw[e.out];omega);have o:=Nz q2 (i:=k) (by rw[Bj];omega);have h:=q2.frozen k;have n:=alY (ws[k / 4]?.getD 0) (k%4) J;go_wp2;go_roundw
   ·have r2:=au.Z6 q2;exact⟨k+1,J,by go_num,d.Au _ _ (by simp;omega),q1.Au _ _ aB,r2,bb.set _ (by simp;omega)⟩
   ·exact fV
  ·obtain rfl:k=64:=J;have cK:((mR (zB ws) 0 64 64).map Y).length=64:=by rw[aI,Bj]
   exact ad6
def Dm(ws:List UInt32)(r i:Nat):List UInt32:=ws.set i (Hr (ws[i]?.getD 0) (C8 ws r i))
def PO(ws:List UInt32)(i:Nat):List UInt32:=ws.set ((i+9)%16) (PN (ws[(i+9)%16]?.getD 0) (BH (ws[i]?.getD 0) 11))
def Te(ws:List UInt32)(r i:Nat):List UInt32:=PO (Dm ws r i) i
def DN(r:Nat)(ws:List UInt32):Nat->List UInt32
 |0=>ws
 |i+1=>Te (DN r ws i) r i
def zH(ws:List UInt32):Nat->List UInt32
 |0=>ws
 |r+1=>DN r (zH ws r) 16
def Fb(l:ah):ah:=Mj (zH (ug l) 8)
theorem Um(ws:List UInt32)(r i:Nat):(Dm ws r i).length=ws.length:=by simp[Dm]
theorem aof(ws:List UInt32)(i:Nat):(PO ws i).length=ws.length:=by simp[PO]
theorem WR(r:Nat)(ws:List UInt32)(i:Nat):(DN r ws i).length=ws.length:=by induction i<;>grind [DN,Te,aof,Um]
def Mk(ws:List UInt32)(r:Nat):(zH ws r).length=ws.length:=by induction r<;>grind [zH,WR]
def IU(l:ah):(ug l).length=16:=by simp[ug]
def adq(ws:List UInt32):(Mj ws).length=64:=by simp[Mj]
def adL{a:Prop}(e:a:=by
 refine AY ?_;rintro _ ⟨nr,rfl⟩;have p4:=(p3.drewN (n:=nr)).Xc ((i+9)%16) (PN (xV[(i+9)%16]?.getD 0) (BH (xV[i]?.getD 0) 11));have ajP:=(p1'.drewN (n:=nr)).Au ⟨g,(i+9)%16,none⟩ (.int .u32 ((PN (xV[(i+9)%16]?.getD 0) (BH (xV[i]?.getD 0) 11)).toNat:Nat)) (by simp;omega);have afR:=(Y3.drewN nr).set (p:=⟨g,(i+9)%16,none⟩) (.int .u32 ((PN (xV[(i+9)%16]?.getD 0) (BH (xV[i]?.getD 0) 11)).toNat:Nat)) lg.2;go_wp2;go_roundw
 ·exact⟨i+1,J,by go_num,ajP,by rw[DN,EM,fE.out];exact p4,afR⟩
 ·simp[intOf];omega):a:=e
def ad4{a:Prop}(e:a:=by
 rintro e w5 ⟨rfl,Rk⟩;have vS:((Mj (zH (ug l) 8)).map Y).length=64:=by rw[aI,adq]
 go_wp2_with (refine aZ F _ _ _ F F F (q1.ext Rk) tL aB vS (dw _) ?_);intro w6 k6 u6;go_wp2;exact jS (g:=w.heap.size+1) F F k6 tL vS F ⟨F,u6.ext (bb.ext Rk) J⟩):a:=e
def adu(l:ah)(o:l.length=64)(w:World):
 eO 211 #[.agg (l.map Y).toArray] w (.agg ((Fb l).map Y).toArray):=by
 have A:(l.map Y).length=64:=by rw[aI];exact o
 have K:=O A;clear A;have L:=O o;clear o;have D:((ug l).map jU).length=16:=by rw[aI,IU]
 have N:=O D;clear D;go_enter func211,ntmps211;go_wp2_with (refine dA F _ _ F F ((au.bK F F).alloc _) tL K ?_);refine(anY l L _).mono ?_;rintro e b ⟨rfl,m⟩;have d:aj w b:=(((aj.refl w).alloc _).alloc _).ext m;have u:au b (w.heap.size+1) (replicate 64 (.int .u8 0)) 77:=au.ext (au.bK aB F) m;have E:w.heap.size+1<b.heap.size:=u.lt;clear m;go_wp2_with (refine aZ F _ _ _ F F F (au.bK F F) Dn F N (RX _) ?_);intro H k2 s;have Q:aj w H:=s.ext (d.alloc _) d.size;have U:au H (w.heap.size+1) (replicate 64 (.int .u8 0)) 77:=(u.alloc _).upd s J;clear s u;have lg:w.heap.size+1<b.heap.size/\w.heap.size<=b.heap.size:=⟨E,d.size⟩;generalize b.heap.size=g at*;clear d E;go_wp2;go_loopw [8] (λx wr=>∃r:Nat,r<=8/\x= .int .i64 r/\au wr (w.heap.size+1) (replicate 64 (.int .u8 0)) 77/\au wr g ((zH (ug l) r).map jU) 251/\aj w wr)
  (λx _=>8 - (intOf x).toNat)
 ·exact⟨0,J,F,U,k2,Q⟩
 ·obtain⟨r,ac,rfl,q1,G,bb⟩:=hrel;by_cases S:r<8
  ·have aa:=cO ((r:Int)<8);go_wp2;go_loopw [11] (λy t=>∃i:Nat,i<=16/\y= .int .i64 i/\au t (w.heap.size+1) (replicate 64 (.int .u8 0)) 77/\au t g ((DN r (zH (ug l) r) i).map jU) 251/\aj w t)
    (λy _=>16 - (intOf y).toNat)
   ·exact⟨0,J,F,q1,G,bb⟩
   ·obtain⟨i,ab,rfl,q,a,h⟩:=hrel;by_cases T:i<16
    ·have c:(DN r (zH (ug l) r) i).length=16:=by rw[WR,Mk,IU]
     generalize EM:DN r (zH (ug l) r) i=ws at*;have z:=λn=>afS (a.drewN (n:=n)) 16 c;have v:wr.cell? ⟨g,i,none⟩=some (.int .u32 ((ws[i]?.getD 0).toNat:Nat)):=FY a J;have R:=a.frozen i;have ad:(0:Int)<=(i:Int):=J;have i1:(i:Int)<16:=J;have P:=YH (ws[i]?.getD 0) (C8 ws r i);have I:=O z;clear z;have M:=O c;clear c;go_wp2;refine AA (C:=λw'=>∃n,w'=wr.drewN n) 7 aC aC ⟨1,F⟩ ?_;simp only[pE,pG,mH,jP];iterate 7 quiet_step ((exact Calls.quiet_of_same ((anq g ws r i _ S T (I _)).mono λe w' ⟨j,k⟩=>⟨j,k.symm⟩)))
     refine AY ?_;rintro _ ⟨nq,rfl⟩;go_wp2;have p3:=(a.drewN (n:=nq)).Xc i (Hr (ws[i]?.getD 0) (C8 ws r i));have p1':=(q.drewN (n:=nq)).Au ⟨g,i,none⟩ (.int .u32 ((Hr (ws[i]?.getD 0) (C8 ws r i)).toNat:Nat)) (by simp;omega);have Y3:=(h.drewN nq).set (p:=⟨g,i,none⟩) (.int .u32 ((Hr (ws[i]?.getD 0) (C8 ws r i)).toNat:Nat)) lg.2;generalize setCell _ _ _=f at*;clear q a h v R P;have vS:(Dm ws r i).length=16:=by rw[Um];exact M
     change au f g ((Dm ws r i).map jU) _ at p3;have B:Te ws r i=PO (Dm ws r i) i:=F;generalize Dm ws r i=xV at*;have fE:=O B;clear B;have v:f.cell? ⟨g,i,none⟩=some (.int .u32 ((xV[i]?.getD 0).toNat:Nat)):=FY p3 J;have V:f.cell? ⟨g,(i+9)%16,none⟩=some (.int .u32 ((xV[(i+9)%16]?.getD 0).toNat:Nat)):=FY p3 J;have W:=p3.frozen ((i+9)%16);have i2:(0:Int)<=((i:Int)+9)%16:=J;have ae:((i:Int)+9)%16<16:=J;have af:(((i:Int)+9)%16).toNat=(i+9)%16:=J;have ag:IntKind.i64.wrap ((i:Int)+9)=(i:Int)+9:=fJ _ J;have ai:((i:Int)+9).tmod 16=((i:Int)+9)%16:=KH J;have al:=aeR (xV[(i+9)%16]?.getD 0) (BH (xV[i]?.getD 0) 11);clear vS;refine AA (C:=λw'=>∃n,w'=f.drewN n) 10 aC aC ⟨1,F⟩ ?_;simp only[pE,pG,mH,jP];iterate 10 quiet_step ((exact Calls.quiet_of_same ((acu (xV[i]?.getD 0) 11 _ J).mono λe w' ⟨j,k⟩=>⟨j,k.symm⟩)))
     exact adL
    ·obtain rfl:i=16:=J;go_wp2;go_roundw
     ·exact⟨r+1,J,by go_num,q,a,h⟩
     ·exact fV
  ·obtain rfl:r=8:=J;have c:((zH (ug l) 8).map jU).length=16:=by rw[aI,Mk,IU]
   go_wp2_with (refine dA F _ _ F F G Dn c ?_);refine(amB _ (by rw[Mk,IU]) _).mono ?_;exact ad4
def acE(l:ah)(k:l.length=64)(w:World):
 eO 109 #[.agg (l.map Y).toArray] w (.agg ((Fb l).map Y).toArray):=by
 have u:(l.map Y).length=64:=by rw[aI];exact k
 have E:=O u;clear u;have G:=O k;clear k;have z:((ug l).map jU).length=16:=by rw[aI,IU]
 have I:=O z;clear z;go_enter func109,ntmps109;go_wp2_with (refine dA F _ _ F F ((au.bK F F).alloc _) tL E ?_);refine(alE l G _).mono ?_;rintro e b ⟨rfl,j⟩;have c:aj w b:=(((aj.refl w).alloc _).alloc _).ext j;have s:au b (w.heap.size+1) (replicate 64 (.int .u8 0)) 77:=au.ext (au.bK aB F) j;have A:w.heap.size+1<b.heap.size:=s.lt;clear j;go_wp2_with (refine aZ F _ _ _ F F F (au.bK F F) Dn F I (RX _) ?_);intro D k2 o;have M:aj w D:=o.ext (c.alloc _) c.size;have W:au D (w.heap.size+1) (replicate 64 (.int .u8 0)) 77:=(s.alloc _).upd o J;clear o s;have lg:w.heap.size+1<b.heap.size/\w.heap.size<=b.heap.size:=⟨A,c.size⟩;generalize b.heap.size=g at*;clear c A;go_wp2;go_loopw [10] (λx wr=>∃r:Nat,r<=8/\x= .int .i64 r/\au wr (w.heap.size+1) (replicate 64 (.int .u8 0)) 77/\au wr g ((zH (ug l) r).map jU) 251/\aj w wr)
  (λx _=>8 - (intOf x).toNat)
 ·exact⟨0,J,F,W,k2,M⟩
 ·obtain⟨r,ag,rfl,q1,B,bb⟩:=hrel;by_cases ae:r<8
  ·have ac:=cO ((r:Int)<8);go_wp2;go_loopw [13] (λy q=>∃i:Nat,i<=16/\y= .int .i64 i/\au q (w.heap.size+1) (replicate 64 (.int .u8 0)) 77/\au q g ((DN r (zH (ug l) r) i).map jU) 251/\aj w q)
    (λy _=>16 - (intOf y).toNat)
   ·exact⟨0,J,F,q1,B,bb⟩
   ·obtain⟨i,ad,rfl,m,a,h⟩:=hrel;by_cases af:i<16
    ·have d:(DN r (zH (ug l) r) i).length=16:=by rw[WR,Mk,IU]
     generalize EM:DN r (zH (ug l) r) i=ws at*;have t:wr.cell? ⟨g,i,none⟩=some (.int .u32 ((ws[i]?.getD 0).toNat:Nat)):=FY a J;have L:wr.cell? ⟨g,(i+1+r)%16,none⟩=some (.int .u32 ((ws[(i+1+r)%16]?.getD 0).toNat:Nat)):=FY a J;have N:=a.frozen i;have ai:(0:Int)<=(i:Int):=J;have i1:(i:Int)<16:=J;have K:=YH (ws[i]?.getD 0) (C8 ws r i);have j2:(0:Int)<=((i:Int)+1+r)%16:=J;have R:((i:Int)+1+r)%16<16:=J;have S:(((i:Int)+1+r)%16).toNat=(i+1+r)%16:=J;have j5:IntKind.i64.wrap (5+(i:Int))=5+(i:Int):=fJ _ J;have j6:IntKind.i64.wrap (16*(r:Int))=16*(r:Int):=fJ _ J;have T:IntKind.i64.wrap (16*(r:Int)+i)=16*(r:Int)+i:=fJ _ J;have U:IntKind.i64.wrap (16*(r:Int)+i+1)=16*(r:Int)+i+1:=fJ _ J;have V:IntKind.u32.wrap (16*(r:Int)+i+1)=16*(r:Int)+i+1:=IntWalk.u32_in _ J;have P:IntKind.u32.wrap (2654435769*(16*(r:Int)+i+1))=2654435769*(16*(r:Int)+i+1)%4294967296:=KL _;have Q:=aeo ws r i;have H:=O d;clear d;go_wp2;refine AA (C:=λw'=>∃n,w'=wr.drewN n) 18 aC aC ⟨1,F⟩ ?_;simp only[pE,pG,mH,jP];iterate 18 quiet_step ((exact Calls.quiet_of ((acG (ws[(i+1+r)%16]?.getD 0) (5+i) _ J))))
     refine AY ?_;rintro _ ⟨nq,rfl⟩;go_wp2;have p3:=(a.drewN (n:=nq)).Xc i (Hr (ws[i]?.getD 0) (C8 ws r i));have p1':=(m.drewN (n:=nq)).Au ⟨g,i,none⟩ (.int .u32 ((Hr (ws[i]?.getD 0) (C8 ws r i)).toNat:Nat)) (by simp;omega);have Y3:=(h.drewN nq).set (p:=⟨g,i,none⟩) (.int .u32 ((Hr (ws[i]?.getD 0) (C8 ws r i)).toNat:Nat)) lg.2;generalize setCell _ _ _=f at*;clear m a h t L N K j2 R S j5 j6 T U V P Q;have vS:(Dm ws r i).length=16:=by rw[Um];exact H
     change au f g ((Dm ws r i).map jU) _ at p3;have v:Te ws r i=PO (Dm ws r i) i:=F;generalize Dm ws r i=xV at*;have fE:=O v;clear v;have t:f.cell? ⟨g,i,none⟩=some (.int .u32 ((xV[i]?.getD 0).toNat:Nat)):=FY p3 J;have aa:f.cell? ⟨g,(i+9)%16,none⟩=some (.int .u32 ((xV[(i+9)%16]?.getD 0).toNat:Nat)):=FY p3 J;have ab:=p3.frozen ((i+9)%16);have i2:(0:Int)<=((i:Int)+9)%16:=J;have al:((i:Int)+9)%16<16:=J;have am:(((i:Int)+9)%16).toNat=(i+9)%16:=J;have an:IntKind.i64.wrap ((i:Int)+9)=(i:Int)+9:=fJ _ J;have ao:((i:Int)+9).tmod 16=((i:Int)+9)%16:=KH J;have ap:=aeR (xV[(i+9)%16]?.getD 0) (BH (xV[i]?.getD 0) 11);clear vS;refine AA (C:=λw'=>∃n,w'=f.drewN n) 8 aC aC ⟨1,F⟩ ?_;simp only[pE,pG,mH,jP];iterate 8 quiet_step ((exact Calls.quiet_of (acG (xV[i]?.getD 0) 11 _ J)))
     exact adL
    ·obtain rfl:i=16:=J;go_wp2;go_roundw
     ·exact⟨r+1,J,by go_num,m,a,h⟩
     ·exact fV
  ·obtain rfl:r=8:=J;have d:((zH (ug l) 8).map jU).length=16:=by rw[aI,Mk,IU]
   go_wp2_with (refine dA F _ _ F F B Dn d ?_);refine(akO _ (by rw[Mk,IU]) _).mono ?_;exact ad4
def pX(s b:ah):Nat->ah
 |0=>s
 |i+1=>(pX s b i).set i (C_ ((pX s b i)[i]?.getD 0) (b[i]?.getD 0))
def JW(s b:ah)(i:Nat):(pX s b i).length=s.length:=by induction i<;>grind [pX]
def U5{P:Program}{c:Func}{b:Ending->World->Prop}{a:Act}{w:World}(f:c.results= #[])(e:a.defers=[])(d:b (.returned (.tuple #[])) w):bodyPost P c b .normal a w:=by grind [bodyPost,results_none]
def Ac(s b:ah):ah:=Fb (pX s b 32)
def adt(l:ah):(Fb l).length=64:=by simp[Fb,adq]
def Ul(s b:ah):(Ac s b).length=64:=adt _
def Ib(w:World)(r:Option Nat):w.grownBy w r:=⟨F,F,F,aQ _,λ_ _ _=>rfl⟩
def Q6{w w':World}{r:Option Nat}(h:w.grownBy w' r)(n:Nat):w.grownBy (w'.drewN n) r:=⟨h.os,h.tape,h.output,h.size,h.block⟩
def Ic{w w':World}{g:Nat}(h:w.grownBy w' (some g))(i:Nat)(v:Value):w.grownBy (w'.setCell ⟨g,i,none⟩ v) (some g):=
 ⟨h.os,h.tape,h.output,by simp[setCell];exact h.size,λk b a=>by rw[Below.heap_setCell _ _ _ _ (λe=>a (by rw[e]))];exact h.block k b a⟩
def F5{w b c:World}{r:Option Nat}(h:w.grownBy b r)(k:aj b c):w.grownBy c r:=
 ⟨k.os.trans h.os,k.tape.trans h.tape,k.output.trans h.output,dJ h.size k.size,λi a d=>(k.block i (vL a h.size)).trans (h.block i a d)⟩
def JE{w b c:World}{g:Nat}(h:w.grownBy b (some g))(k:dF b g c):w.grownBy c (some g):=
 ⟨k.os.trans h.os,k.tape.trans h.tape,k.output.trans h.output,by rw[k.size];exact h.size,λi d a=>(k.block i (λe=>a (by rw[e]))).trans (h.block i d a)⟩
def ajc{w:World}{g:Nat}{l:ah}{b:aP}{T:TypeId}(h:au w g (l.map Y++b) T){i:Nat}(a:i<l.length):
 w.cell? ⟨g,i,none⟩=some (.int .u8 ((l[i]?.getD 0).toNat:Int)):=by
 refine h.cell' ?_;rw[zY (by simpa using a)];simp[a,Y]
def ajd{w:World}{g:Nat}{l:ah}{a:aP}{T:TypeId}(h:au w g (l.map Y++a) T){i:Nat}(b:i<l.length)(x:UInt8):
 au (w.setCell ⟨g,i,none⟩ (.int .u8 (x.toNat:Int))) g ((l.set i x).map Y++a) T:=by
 have:=h.set i (Y x);rwa[set_append_left _ _ (by simpa using b),<-zV]at this
def Nw(s b:ah)(a:aP)(g c off:Nat)(T:TypeId)(w:World)(hs:s.length=64)(y:au w g (s.map Y++a) T)
 (p:∀i,i<32->w.cell? ⟨c,off+i,none⟩=some (.int .u8 ((b[i]?.getD 0).toNat:Int)))(U:c≠g∨64<=off):
 Calls prog 269 #[.pointer (some ⟨g,0,none⟩),.pointer (some ⟨c,off,none⟩)] w λe w'=>
  e= .returned (.tuple #[])/\au w' g ((Ac s b).map Y++a) T/\w.grownBy w' (some g):=by
 have f:=O hs;clear hs;have u:=O p;clear p;go_enter func269,ntmps269;go_wp2;go_loopw [7] (λx wr=>∃i:Nat,i<=32/\x= .int .i64 i/\au wr g ((pX s b i).map Y++a) T/\w.grownBy wr (some g)
  /\∀j,j<32->wr.cell? ⟨c,off+j,none⟩=some (.int .u8 ((b[j]?.getD 0).toNat:Int)))
  (λx _=>32 - (intOf x).toNat)
 ·exact⟨0,J,F,y,Ib _ _,u⟩
 ·obtain⟨i,S,rfl,d,q,t⟩:=hrel;by_cases B:i<32
  ·have Q:=cO ((i:Int)<32);have M:=t i B;have W:(0:Int)<=(i:Int):=J;have i1:(i:Int)<32:=J;have i2:(i:Int)<64:=J;have o:(pX s b i).length=64:=by rw[JW];exact f
   generalize G:pX s b i=ws at*;have N:=ajc d (i:=i) J;have P:=d.frozen i;have V:=TI (ws[i]?.getD 0) (b[i]?.getD 0);go_wp2;refine AA (C:=λw'=>∃n,w'=wr.drewN n) 6 aC aC ⟨1,F⟩ ?_;simp only[pE,pG,mH,jP];iterate 6 quiet_step (fail)
   refine AY ?_;rintro _ ⟨nq,rfl⟩;go_wp2;refine AA (C:=λw'=>∃n,w'=wr.drewN n) 11 aC aC ⟨nq+1,F⟩ ?_;simp only[pE,pG,mH,jP];iterate 11 quiet_step (fail)
   refine AY ?_;rintro _ ⟨h,rfl⟩;go_wp2;have H:=ajd (d.drewN (n:=h)) (i:=i) J (C_ (ws[i]?.getD 0) (b[i]?.getD 0));have I:=Ic (Q6 q h) i (.int .u8 ((C_ (ws[i]?.getD 0) (b[i]?.getD 0)).toNat:Int));have K:∀j,j<32->((wr.drewN h).setCell ⟨g,i,none⟩ (.int .u8 ((C_ (ws[i]?.getD 0) (b[i]?.getD 0)).toNat:Int))).cell? ⟨c,off+j,none⟩=some (.int .u8 ((b[j]?.getD 0).toNat:Int)):=by
    intro j A;rw[<-t j A,World.cell?_setCell_other _ _ _ _ (by intro e;simp only[Addr.mk.injEq]at e;omega)];rfl
   go_roundw
   ·exact⟨i+1,J,by go_num,by rw[pX,G];exact H,I,K⟩
   ·exact fV
  ·obtain rfl:i=32:=J;have o:((pX s b 32).map Y).length=64:=by rw[aI,JW];exact f
   have R:((List.drop 0 ((pX s b 32).map Y++a)).take 64)=(pX s b 32).map Y:=by
    rw[jP,MW J,gY J]
   go_wp2_with (refine XW F _ _ F F d tL (n:=64) (by simp[JW,f.out]) ?_);refine(adu (pX s b 32) (by rw[JW];exact f) wr).mono ?_;rw[show Fb (pX s b 32)=Ac s b from F];rintro e aa ⟨rfl,l⟩;have m:((Ac s b).map Y).length=64:=by rw[aI,Ul]
   generalize D:Ac s b=r at*;have z:0+(r.map Y).length<=((pX s b 32).map Y++a).length:=by rw[bQ];omega
   go_wp2_with (refine rQ F _ _ _ F F F (d.ext l) (by rw[m];exact tL) z (dw _) ?_);intro ab k L;have E:jm ((pX s b 32).map Y++a) 0 (r.map Y)=r.map Y++a:=by
    unfold jm;rw[pG,zi,m,<-o,kD,drop_left]
   rw[E]at k;have v:=JE (F5 q l) L;go_wp2;exact U5 F F ⟨F,by rw[D];exact k,v⟩
section
section
variable {P:Program} {ops:Array Oper} {rest:List Oper} {o:Oper} {a:Act} {w:World} {Q:Exit->Act->World->Prop}
def alx{t e:TypeId}{p:aO}{n c k:Nat}(g:P.underlying t=some (.slice e))(hs:(P.info? e).map (·.size)=some 1)(f:k<=n):
 (Instr.sliceAt t (.slice p n c) (some (.int .i64 (k:Int))) none none).run P w= .ok (.slice (fu p c k) (n - k) (c - k)) w:=by
 cases a:P.info? e with
 |none=>simp[a]at hs
 |some i=>
  have d:i.size=1:=by simpa[a]using hs
  have b:(0:Int)<=k/\(k:Int)<=n:=J;simp[Instr.sliceAt,Instr.slice,Instr.sliceBounds,Instr.sliceBound,asIntOf,jB g,sizeOf,typeInfo,a,d,b.1,f,fu]
def Kv(d:o.guard=none)(t e:TypeId)(x y:Operand)(g:o.op= .slice t x (some y) none none){p:aO}{n c k:Nat}
 (j:a.eval x= .slice p n c)(l:a.eval y= .int .i64 (k:Int))(i:P.underlying t=some (.slice e))(hs:(P.info? e).map (·.size)=some 1)(f:k<=n)
 (h:wpList P ops Q rest (a.put o.dst (.slice (fu p c k) (n - k) (c - k))) w):wpList P ops Q (o::rest) a w:=
 q8 d λm b=>by
  unfold Oper.wp execOp;simp only[g,j,l,jr,G9,alx i hs f,ng,iC,ni];exact b _ _ h
def Kr(p:o.guard=none)(c m:TypeId)(x y:Operand)(q:o.op= .call {callee:= .builtin .copy,args:= #[x,y],argTypes:= #[c,m]}){g off b d l j:Nat}{sa:aO}{vs cs:aP}{T f:TypeId}
 (u:a.eval x= .slice (some ⟨g,off,none⟩) b d)(z:a.eval y= .slice sa l j)(n:au w g vs T)
 (t:P.underlying c=some (.slice f))(hs:(P.info? f).map (·.size)=some 1){k:Nat}(G:cs.length=k)(H:k=Nat.min l b)(A:sa=none->l=0)
 (s:aM w sa cs)(E:off+k<=vs.length)(B:∀v∈cs,v.oneCell'=true)
 (h:∀w',au w' g (jm vs off cs) T->dF w g w'->wpList P ops Q rest (a.put o.dst (.int .i64 (k:Int))) w'):wpList P ops Q (o::rest) a w:=by
 subst G;cases sa with
 |some M=>exact aeL p c m x y q u z n t hs H (Gl s) E B h
 |none=>
  have K:=A F;subst K;have D:cs=[]:=by
   rcases s with h|⟨_,_,h,_⟩
   ·exact h
   ·cases h
  subst D;refine q8 p λL C=> ?_;have I:(Builtin.copy_ #[c,m] o.type #[.slice (some ⟨g,off,none⟩) b d,.slice none 0 j]).run P w= .ok (goInt 0) w:=by
   cases r:P.info? f with
   |none=>simp[r]at hs
   |some i=>simp[Builtin.copy_,jB t,Builtin.lenOf,Builtin.firstCells,sizeOf,typeInfo,r,storeCells]
  unfold Oper.wp execOp;simp only[q,resolve,iC,ni,ng,invoke,builtin];have e:(#[x,y].map a.eval)= #[.slice (some ⟨g,off,none⟩) b d,.slice none 0 j]:=by simp[u,z]
  rw[e,I];simp only[ng,ni,Oper.upon];refine C _ _ (h _ ?_ (dF.refl _ _));simpa[jm]using n
end
def jO:(prog.info? 5).map (·.size)=some 1:=aC
def aM.grown{w w':World}{a:aO}{xs:aP}{r:Option Nat}(h:aM w a xs)(k:w.grownBy w' r)(f:∀x,a=some x->some x.block≠r):aM w' a xs:=by
 rcases h with h|⟨b,off,ha,h⟩
 ·exact .inl h
 ·refine .inr ⟨b,off,ha,λi u g=> ?_⟩;have c:=h i u g;have e:=kN c;have d:w'.heap[b]? =w.heap[b]? :=k.block b e (f _ ha);rw[<-c];simp[World.cell?,d]
def Pk{a:aO}{c k:Nat}{r:Option Nat}(d:∀x,a=some x->some x.block≠r):∀x,fu a c k=some x->some x.block≠r:=by
 intro x b;unfold fu at b;split at b
 ·exact d x b
 ·cases a with
  |none=>cases b
  |some y=>
   cases b;have:(y.add k).block=y.block:=by unfold Addr.add;split<;>rfl
   rw[this];exact d y F
def SS{a:aO}{c k:Nat}:fu a c k=none↔a=none:=by
 unfold fu;split
 ·rfl
 ·simp
def sI{a b c:World}{r:Option Nat}(h:a.grownBy b r)(k:b.grownBy c r):a.grownBy c r:=
 ⟨k.os.trans h.os,k.tape.trans h.tape,k.output.trans h.output,dJ h.size k.size,λi d e=>(k.block i (vL d h.size) e).trans (h.block i d e)⟩
def sm(s r:ah)(h:Int)(t:Int):aP:=s.map Y++(r.map Y++[.int .i64 h,.int .i64 t])
def Po{s r:ah}(h t:Int)(hs:s.length=64)(a:r.length=32):(sm s r h t).length=98:=by simp[sm,hs,a]
def Gy{s r:ah}(h t:Int)(hs:s.length=64)(a:r.length=32):(sm s r h t)[96]? =some (.int .i64 h):=by grind [sm]
def Xq{s r:ah}(h t:Int)(hs:s.length=64)(a:r.length=32):(sm s r h t)[97]? =some (.int .i64 t):=by grind [sm]
def al4{s r:ah}(h t:Int)(hs:s.length=64)(b:r.length=32){i:Nat}(a:i<32):(sm s r h t)[64+i]? =some (.int .u8 ((r[i]?.getD 0).toNat:Int)):=by grind [sm,Y]
def Pp{s r:ah}(h t a:Int)(hs:s.length=64)(b:r.length=32):(sm s r h t).set 96 (.int .i64 a)=sm s r a t:=by simp_all [sm,Je,aI]
def al5{s r:ah}(h t a:Int)(hs:s.length=64)(b:r.length=32):(sm s r h t).set 97 (.int .i64 a)=sm s r h a:=by simp_all [sm,Je,aI]
def S_{s r xs:ah}(h t:Int)(hs:s.length=64)(b:r.length=32)(k:Nat)(c:k+xs.length<=32):
 jm (sm s r h t) (64+k) (xs.map Y)=sm s (r.take k++xs++r.drop (k+xs.length)) h t:=by
 unfold jm sm;rw[aI];have a:(s.map Y).length=64:=by rw[aI];exact hs
 have d:(r.map Y).length=32:=by rw[aI];exact b
 rw[take_append,a,gY J,show 64+k - 64=k by omega,MW J,
  drop_append,a,FP J,zi,show 64+k+xs.length - 64=k+xs.length by omega,Ud J]
 simp[jv,wW,ze]
end
section
def dH(ls:List (ah)):aP:=ls.flatten.map Y
def iH(ls:List (ah)):Prop:=∀l∈ls,l.length=32
def ahp{ls:List (ah)}(h:iH ls):ls.flatten.length=32*ls.length:=by induction ls<;>grind [iH]
def Pb{ls:List (ah)}(h:iH ls):(dH ls).length=32*ls.length:=by rw[dH,aI,ahp h]
def acw(a b:List (ah)):dH (a++b)=dH a++dH b:=by simp[dH]
def WW(x:ah):dH [x]=x.map Y:=by simp[dH]
def iH.take{ls:List (ah)}(h:iH ls)(k:Nat):iH (ls.take k):=λl a=>h l (wZ a)
def iH.drop{ls:List (ah)}(h:iH ls)(k:Nat):iH (ls.drop k):=λl a=>h l (mem_of_mem_drop a)
def iH.one{x:ah}(h:x.length=32):iH [x]:=λl a=>by rw[nu.1 a];exact h
def iH.nil:iH []:=λl a=>by cases a
def iH.at{ls:List (ah)}(h:iH ls){i:Nat}{x:ah}(a:ls[i]? =some x):x.length=32:=h x (f_ a)
def aho{ls:List (ah)}(h:iH ls)(k:Nat):ls.flatten.drop (32*k)=(ls.drop k).flatten:=by
 induction ls generalizing k with
 |nil=>simp
 |cons l ls c=>
  cases k with
  |zero=>simp
  |succ k=>
   have a:=h l aB;rw[flatten_cons,drop_append,a,show 32*(k+1) - 32=32*k by omega,FP J,zi,c (λx b=>h x (by simp[b])),mH]
def ahq{ls:List (ah)}(h:iH ls)(k:Nat):ls.flatten.take (32*k)=(ls.take k).flatten:=by
 induction ls generalizing k with
 |nil=>simp
 |cons l ls c=>
  cases k with
  |zero=>simp
  |succ k=>
   have a:=h l aB;rw[flatten_cons,take_append,a,show 32*(k+1) - 32=32*k by omega,gY J,c (λx b=>h x (by simp[b])),pE,flatten_cons]
def WV{ls:List (ah)}(h:iH ls)(k:Nat):(dH ls).drop (32*k)=dH (ls.drop k):=by rw[dH,<-ze,aho h];rfl
def Sv{ls:List (ah)}(h:iH ls)(k:Nat):(dH ls).take (32*k)=dH (ls.take k):=by rw[dH,<-wW,ahq h];rfl
def akZ{ls:List (ah)}(h:iH ls){i:Nat}{x:ah}(f:ls[i]? =some x):((dH ls).drop (32*i)).take 32=x.map Y:=by
 have a:ls.drop i=x::ls.drop (i+1):=by
  have d:=(iK.1 f);obtain⟨e,c⟩:=d;rw[FJ e,c]
 rw[WV h,a];have b:=Sv (ls:=x::ls.drop (i+1)) (by rw[<-a];exact h.drop i) 1;rw[nA]at b;rw[b];simp[dH]
def d9(w:World)(p:Addr)(xs:aP):Prop:=∀j u,xs[j]? =some u->w.cell? (p.add j)=some u
def eX(b o n:Nat):(⟨b,o,none⟩:Addr).add n=⟨b,o+n,none⟩:=by unfold Addr.add;split<;>simp_all
def d9.of{w:World}{p:Addr}{xs:aP}(h:aM w (some p) xs):d9 w p xs:=Gl h
def d9.ext{w w':World}{p:Addr}{xs:aP}(h:d9 w p xs)(k:aj w w'):d9 w' p xs:=by
 intro j u c;have a:=h j u c;have b:=kN a;rw[k.cell b];exact a
def p8(a:aO)(c p z:Nat):aO:=if c=p then a else a.map (·.add (p*z))
def aM.rowAt{w:World}{p:Addr}{ls:List (ah)}(h:aM w (some p) (dH ls))(d:iH ls){i:Nat}{x:ah}(e:ls[i]? =some x):d9 w (p.add (i*32)) (x.map Y):=by
 intro j u a;have m:=d.at e;have k:j<32:=by
  have:=(iK.1 a).1;rw[aI,m]at this;exact this
 have f:=akZ d e;have c:(dH ls)[32*i+j]? =some u:=by
  rw[<-f,uM k,qY]at a;exact a
 obtain⟨b,off,l,g⟩:=h.jg (by have:=(iK.1 c).1;omega);cases l;rw[eX,eX];have:=g _ _ c;rw[show off+i*32+j=off+(32*i+j) by omega];exact this
def aM.Mc{w:World}{a:aO}{ls:List (ah)}(h:aM w a (dH ls))(b:iH ls)(k:Nat):aM w a (dH (ls.take k)):=by
 rw[<-Sv b];exact h.take _
def aM.WU{w:World}{a:aO}{ls:List (ah)}(h:aM w a (dH ls))(d:iH ls)(c p:Nat)(f:ls.length<=c):aM w (p8 a c p 32) (dH (ls.drop p)):=by
 unfold p8;rw[<-WV d];split
 ·rename_i g
  left
  rw[WV d,FP J];rfl
 ·rcases h with h|⟨b,off,rfl,h⟩
  ·left;rw[h];simp
  ·refine .inr ⟨b,off+p*32,by rw[jr,eX],λi u e=> ?_⟩;rw[qY]at e;have:=h _ _ e;rw[show off+p*32+i=off+(32*p+i) by omega];exact this
section
variable {P:Program} {ops:Array Oper} {rest:List Oper} {o:Oper} {a:Act} {w:World} {Q:Exit->Act->World->Prop} {S:World->Prop}
theorem alo{t e:TypeId}{p:Addr}{n c i z:Nat}(d:P.underlying t=some (.slice e))(hs:(P.info? e).map (·.size)=some z)(b:i<n)(w:World):
 (Instr.indexAt t (.slice (some p) n c) (.int .i64 (i:Int))).run P w= .ok (.pointer (some (p.add (i*z)))) w:=by
 cases a:P.info? e with
 |none=>simp[a]at hs
 |some g=>
  have f:g.size=z:=by simpa[a]using hs
  have h:(0:Int)<=i/\(i:Int)<n:=J;simp[Instr.indexAt,asIntOf,jB d,sizeOf,typeInfo,a,f,b]
def alv{t e:TypeId}{p:aO}{n c k z:Nat}(g:P.underlying t=some (.slice e))(hs:(P.info? e).map (·.size)=some z)(f:k<=c)(w:World):
 (Instr.sliceAt t (.slice p n c) none (some (.int .i64 (k:Int))) none).run P w= .ok (.slice p k c) w:=by
 cases a:P.info? e with
 |none=>simp[a]at hs
 |some i=>
  have d:i.size=z:=by simpa[a]using hs
  have h:(0:Int)<=k/\(k:Int)<=c:=J;have ha:p.map (λx=>x.add 0)=p:=by
   cases p with
   |none=>rfl
   |some x=>obtain⟨b,o,s⟩:=x;simp only[jr,Addr.add];split<;>simp_all
  simp[Instr.sliceAt,Instr.slice,Instr.sliceBounds,Instr.sliceBound,asIntOf,jB g,sizeOf,typeInfo,a,d,f,ha]
def aly{t e:TypeId}{p:aO}{n c k z:Nat}(g:P.underlying t=some (.slice e))(hs:(P.info? e).map (·.size)=some z)(f:k<=n)(w:World):
 (Instr.sliceAt t (.slice p n c) (some (.int .i64 (k:Int))) none none).run P w= .ok (.slice (p8 p c k z) (n - k) (c - k)) w:=by
 cases a:P.info? e with
 |none=>simp[a]at hs
 |some i=>
  have d:i.size=z:=by simpa[a]using hs
  have b:(0:Int)<=k/\(k:Int)<=n:=J;simp[Instr.sliceAt,Instr.slice,Instr.sliceBounds,Instr.sliceBound,asIntOf,jB g,sizeOf,typeInfo,a,d,b.1,f,p8]
def alr{ty:TypeId}{p:Addr}{xs:aP}{n:Nat}(a:d9 w p xs)(c:jc P ty n)(b:xs.length=n):(loadVar ty p).run P w= .ok (.agg xs.toArray) w:=by
 obtain⟨⟨d,hu,e⟩,hi⟩:=c;have hl:=M6 (P:=P) w p xs a;rw[b]at hl;exact aed
def bZ{v:Value}(c:o.guard=none)(d:(execOp a.eval o).run P w= .ok (.value v) w)(h:wpList P ops Q rest (a.put o.dst v) w):wpList P ops Q (o::rest) a w:=
 q8 c λe b=>by
  unfold Oper.wp;rw[d,Cb];exact b _ _ h
theorem oH{v:Value}(d:wanted o (yielded ops a.tmps)=true)(c:(execOp a.eval o).run P w= .ok (.value v) w)(h:wpList P ops Q rest (a.put o.dst v) w):wpList P ops Q (o::rest) a w:=
 wpList_step λe b=>by
  rw[aN d];unfold Oper.wp;rw[c,Cb];exact b _ _ h
def gD{t e:TypeId}{x y:Operand}{p:Addr}{n c i z:Nat}(d:o.op= .indexAddr t x y)(g:a.eval x= .slice (some p) n c)(h:a.eval y= .int .i64 (i:Int))(f:P.underlying t=some (.slice e))(hs:(P.info? e).map (·.size)=some z)(b:i<n)(w:World):
 (execOp a.eval o).run P w= .ok (.value (.pointer (some (p.add (i*z))))) w:=by grind [execOp,Sem.run_bind,alo,Result.andThen_ok,Sem.run_pure]
def yG{t e:TypeId}{x y:Operand}{p:aO}{n c k z:Nat}(d:o.op= .slice t x none (some y) none)(g:a.eval x= .slice p n c)(h:a.eval y= .int .i64 (k:Int))(f:P.underlying t=some (.slice e))(hs:(P.info? e).map (·.size)=some z)(b:k<=c)(w:World):
 (execOp a.eval o).run P w= .ok (.value (.slice p k c)) w:=by
 unfold execOp;simp only[d,g,h,jr,G9,iC,alv f hs b w,ng,ni]
theorem Lp{t e:TypeId}{x y:Operand}{p:aO}{n c k z:Nat}(d:o.op= .slice t x (some y) none none)(g:a.eval x= .slice p n c)(h:a.eval y= .int .i64 (k:Int))(f:P.underlying t=some (.slice e))(hs:(P.info? e).map (·.size)=some z)(b:k<=n)(w:World):
 (execOp a.eval o).run P w= .ok (.value (.slice (p8 p c k z) (n - k) (c - k))) w:=by
 unfold execOp;simp only[d,g,h,jr,G9,iC,aly f hs b w,ng,ni]
def cB{ty:TypeId}{x:Operand}{p:Addr}{xs:aP}{n:Nat}(d:o.op= .load ty x)(f:a.eval x= .pointer (some p))(b:d9 w p xs)(e:jc P ty n)(c:xs.length=n):
 (execOp a.eval o).run P w= .ok (.value (.agg xs.toArray)) w:=by
 unfold execOp;simp only[d,f,Instr.loadAt,Instr.sureAddr,iC,ni,ng,alr b e c]
def aY{v:Value}(c:wanted o (yielded ops a.tmps)=true)(b:∀w,S w->(execOp a.eval o).run P w= .ok (.value v) w):YieldsIf P ops S o v a:= .inl ⟨c,b⟩
end
end
section
section
variable {P:Program} {ops:Array Oper} {Q:Exit->Act->World->Prop} {C:World->Prop}
def Tw(P:Program)(C:World->Prop)(w:World)(v:Value):Result Next->Prop
 | .ok (.value u) w'=>w'=w/\u=v
 | .ok .skip w'=>w'=w/\v=undef
 | .ok (.enter f b) w'=>w'=w/\Calls P f b w (λe a=>e= .returned v/\C a/\aj w a)
 |_=>False
def ME(P:Program)(C:World->Prop)(o:Oper)(a:Act)(v:Value):Prop:=∀w,C w->Tw P C w v ((execOp a.eval o).run P w)
def qK(a:List (Nat×aP×TypeId))(k:Nat):Bool:=a.any λx=>x.1==k
def D5(P:Program)(ops:Array Oper)(C:World->Prop)(c:List (Nat×aP×TypeId))(b:Act->Prop):List Oper->Nat->Act->Prop
 |[],_,a=>b a
 |o::rest,k,a=>
  if qK c k then D5 P ops C c b rest (k+1) (a.put o.dst undef)
  else if wanted o (yielded ops a.tmps)then∃v,ME P C o a v/\D5 P ops C c b rest (k+1) (a.put o.dst v)
  else D5 P ops C c b rest (k+1) (a.put o.dst undef)
def aeE{c:List (Nat×aP×TypeId)}{b:Act->Prop}{k:Nat}{a:Act}(h:b a):D5 P ops C c b [] k a:=h
def Az{b:List (Nat×aP×TypeId)}{c:Act->Prop}{k:Nat}{a:Act}{o:Oper}{rest:List Oper}(d:qK b k=false)(f:wanted o (yielded ops a.tmps)=true)(v:Value)
 (e:ME P C o a v)(h:D5 P ops C b c rest (k+1) (a.put o.dst v)):D5 P ops C b c (o::rest) k a:=by grind [D5]
def adr(P:Program)(ops:Array Oper)(C:World->Prop)(b:List (Nat×aP×TypeId))(o:Oper)(k:Nat)(a:Act)(v:Value):Prop:=
 qK b k=true∨(wanted o (yielded ops a.tmps)=true/\ME P C o a v)∨(wanted o (yielded ops a.tmps)=false/\v=undef)
def aaU{d:List (Nat×aP×TypeId)}{f:Act->Prop}:∀(l:List Oper) (k:Nat) (a:Act),(∀j,j<l.length->ops[k+j]? =l[j]?)->D5 P ops C d f l k a->
 ∃(vs:Nat->Value) (b:Nat->Act),b k=a/\(∀j,k<=j->j<k+l.length->b (j+1)=(b j).put (lC ops j) (vs j)/\∃o,ops[j]? =some o/\adr P ops C d o j (b j) (vs j))/\f (b (k+l.length))
 |[],k,a,_,h=>⟨λ_=>undef,λ_=>a,F,λj c h2=>by simp at h2;omega,h⟩
 |o::l,k,a,n,h=>by
  have h0:ops[k]? =some o:=by simpa using n 0 aB
  have g:∃v,adr P ops C d o k a v/\D5 P ops C d f l (k+1) (a.put o.dst v):=by
   simp only[D5]at h;by_cases c:qK d k=true
   ·rw[aN c]at h;exact⟨undef,.inl c,h⟩
   ·rw[aJ c]at h;by_cases h2:wanted o (yielded ops a.tmps)=true
    ·rw[aN h2]at h;obtain⟨v,g,h⟩:=h;exact⟨v,.inr (.inl ⟨h2,g⟩),h⟩
    ·rw[aJ h2]at h;exact⟨undef,.inr (.inr ⟨by simpa using h2,F⟩),h⟩
  obtain⟨v,s,q⟩:=g;obtain⟨vs,b,c,h2,p⟩:=aaU l (k+1) _ (λj i=>by
   have:=n (j+1) (by simpa using i);simpa[k_,Np 1 j]using this) q
  refine⟨λj=>if j=k then v else vs j,λj=>if j=k then a else b j,aB,λj i r=> ?_,?_⟩
  ·by_cases m:j=k
   ·subst m;simp only[wX,aJ (show j+1≠j by omega)];refine⟨by rw[c];simp[lC,h0],o,h0,s⟩
   ·simp only[aJ m,aJ (show j+1≠k by omega)];exact h2 j J (by simp only[iU]at r;omega)
  ·simp only[iU,aJ (show k+(l.length+1)≠k by omega)];have e:k+(l.length+1)=k+1+l.length:=J;rw[e];exact p
def kC.alF{n:Nat}{vs d:Nat->Value}{c a b:Act}{S S':Nat->Bool}(h:kC ops n vs c S a)(e:kC ops n d c S' b){t:Nat}
 (f:∀j,j<n->lC ops j=some t->S j=S' j/\vs j=d j):a.tmps[t]? =b.tmps[t]? :=by grind [lC,kC]
def kC.agD{n:Nat}{vs d:Nat->Value}{c a b:Act}{S S':Nat->Bool}(h:kC ops n vs c S a)(e:kC ops n d c S' b){o:Oper}
 (hs:OI o=true)(f:∀j,j<n->∀t,lC ops j=some t->t∈o.looksAt ops->S j=S' j/\vs j=d j):
 execOp a.eval o=execOp b.eval o/\wanted o (yielded ops a.tmps)=wanted o (yielded ops b.tmps):=by
 have ht:∀t,t∈o.looksAt ops->a.tmps[t]? =b.tmps[t]? :=λt i=>h.alF e λj g hd=>f j g t hd i;exact aei
def kC.UM{n:Nat}{vs c:Nat->Value}{b a:Act}{S:Nat->Bool}(h:kC ops n vs b S a)(d:∀j,j<n->S j=true->vs j=c j):kC ops n c b S a:=by grind [kC]
def kC.akC{n:Nat}{vs:Nat->Value}{o a:Act}{S:Nat->Bool}(h:kC ops n vs o S a){i:Nat}(s:i<n)(q:S i=true)(v:Value)
 (r:∀j,j<n->j≠i->∀t,lC ops i=some t->lC ops j≠some t):kC ops n (λj=>if j=i then v else vs j) o S (a.put (lC ops i) v):=by
 cases g:lC ops i with
 |none=>
  refine⟨h.Lh,h.sz,λt c j k l b=> ?_,h.no⟩;have f:j≠i:=λe=>by subst e;rw[g]at b;cases b
  rw[aJ f];exact h.yes t c j k l b
 |some d=>
  refine⟨h.Lh,by simp[Act.put,h.sz],λt c j k l b=> ?_,λt c p=> ?_⟩
  ·by_cases f:j=i
   ·subst f;rw[g]at b;cases b;have:d<a.tmps.size:=by rw[h.sz];exact c
    simp[Act.put,this]
   ·have m:d≠t:=λe=>r j k f d g (by rw[b,e]);simp only[Act.put];rw[Ee m,aJ f];exact h.yes t c j k l b
  ·have m:d≠t:=λe=>p i s q (by rw[g,e]);simp only[Act.put];rw[Ee m];exact h.no t c p
def CV(g:Nat):Value:= .pointer (some ⟨g,0,none⟩)
def Ir(ops:Array Oper)(gs:Nat->Nat):List (Nat×aP×TypeId)->Act->Act
 |[],a=>a
 |x::r,a=>Ir ops gs r (a.put (lC ops x.1) (CV (gs x.1)))
def afe(ops:Array Oper)(n:Nat)(a:List (Nat×aP×TypeId)):Bool:=
 a.all λx=>decide (x.1<n)&&((List.range n).all λi=>qK a i||(ops[i]?).all λo=>(lC ops x.1).all λt=> !(o.looksAt ops).contains t)
def WB{n:Nat}{g:Act}{S:Nat->Bool}{gs:Nat->Nat}(k:∀i,i<n->∀j,j<n->j≠i->∀t,lC ops i=some t->lC ops j≠some t):
 ∀(c:List (Nat×aP×TypeId)) (vs:Nat->Value) (a:Act),(∀x∈c,x.1<n/\S x.1=true)->kC ops n vs g S a->
  kC ops n (λj=>if qK c j then CV (gs j)else vs j) g S (Ir ops gs c a)
 |[],vs,a,_,h=>by simpa[qK,Ir]using h
 |x::r,vs,a,hx,h=>by
  obtain⟨h1,h2⟩:=hx x aB;have:=WB (gs:=gs) k r _ _ (λy l=>hx y (by simp[l])) (h.akC h1 h2 (CV (gs x.1)) (k x.1 h1));refine kC.UM this λj o m=> ?_;have d:qK (x::r) j=(x.1==j||qK r j):=F;show(if qK r j=true then CV (gs j)else if j=x.1 then CV (gs x.1)else vs j)=if qK (x::r) j=true then CV (gs j)else vs j
  by_cases b:qK r j=true
  ·rw[aN b,aN (by rw[d,b,Bool.or_true])]
  ·rw[aJ b];by_cases f:j=x.1
   ·subst f;rw[aN F,aN (by rw[d];simp)]
   ·rw[aJ f,aJ];rw[d];simp only[zf,yj,not_or];exact⟨λe=>f e.symm,b⟩
def aeF{id:Nat}{a:Act}{w:World}{l:List Oper}(n:Nat)(b:List (Nat×aP×TypeId))(B:Nat)(ca:P.follows .mixedOrders=true)(bt:QF l.toArray n=true)
 (bs:afe l.toArray n b=true)(bu:C w.drew)(bx:∀w o,C w->C (w.alloc o))(bw:∀w,C w->B<=w.heap.size)
 (am:∀x∈b,∃o,l[x.1]? =some o/\o.guard=none/\∀ct w,(execOp ct o).run P w= .ok (.value (CV w.heap.size)) (w.alloc (.cells x.2.1.toArray x.2.2)))
 (h:D5 P l.toArray C b (λd=>∀gs w',C w'->(∀x∈b,au w' (gs x.1) x.2.1 x.2.2/\B<=gs x.1)->(∀x∈b,∀y∈b,x.1≠y.1->gs x.1≠gs y.1)->
  wpList P l.toArray Q (l.drop n) (Ir l.toArray gs b d) w') (l.take n) 0 a):(Code.region id l.toArray true).wp P Q a w:=by
 obtain⟨b1,a7,⟨b3,b5⟩,bm⟩:=Y9 bt;have K:∀x∈b,x.1<n/\∀i,i<n->qK b i=false->∀o,l.toArray[i]? =some o->∀t,lC l.toArray x.1=some t->t∉o.looksAt l.toArray:=by
  intro x hx;have:=z_.1 bs x hx;simp only[qZ,tJ,z_,Jj,zf,Option.all_eq_true,Nb]at this;refine⟨this.1,λi hi am o ho t R cb=> ?_⟩;rcases this.2 i hi with h1|h1
  ·rw[am]at h1;cases h1
  ·have:=h1 o ho t R;rw[contains_iff_mem.2 cb]at this;cases this
 have cc:n<=l.length:=by simpa using bm
 have be:(l.take n).length=n:=by simp[cc]
 have V:∀i,i<n->∀j,j<n->j≠i->∀t,lC l.toArray i=some t->lC l.toArray j≠some t:=by
  intro i hi j hj g t hd b2;have ho:l.toArray[i]? =some l[i]:=by simp<;>omega
  have:=((a7 i _ hi ho).2 j t hj b2).1 (Ne.symm g);simp only[lC,ho]at hd;exact this hd
 obtain⟨vs,af,ck,aq,ai⟩:=aaU (l.take n) 0 a (λj hj=>by
  have b8:j<n:=by rw[be]at hj;exact hj
  simp[b8]) h
 rw[be]at aq ai;simp only[kD]at aq ai;have aE:∀i,i<=n->kC l.toArray n vs a (λj=>decide (j<i)) (af i):=by
  intro i;induction i with
  |zero=>
   intro _;rw[ck];exact⟨F,F,λ_ _ _ _ h=>by simp at h,λ_ _ _=>rfl⟩
  |succ i ih=>
   intro hi;obtain⟨h1,o,ho,_⟩:=aq i (w_ _) J;rw[h1];refine(ih J).put J aB aB (λj hj=> ?_) (λj hj g t hd=>V i J j hj g t hd);simp;omega
 refine aeG (I:=λaH d w'=>
  ((∀t,n<=t->aH.getD t false=false)/\(∀i,aH.getD i false=true->∀o,l.toArray[i]? =some o->∀e∈o.after,binds .any e=true->aH.getD e.on false=true)/\C w'/\
   ∃gs:Nat->Nat,kC l.toArray n (λj=>if qK b j then CV (gs j)else vs j) a (λj=>aH.getD j false) d/\
    (∀x∈b,aH.getD x.1 false=true->au w' (gs x.1) x.2.1 x.2.2/\B<=gs x.1)/\(∀x∈b,∀y∈b,aH.getD x.1 false=true->aH.getD y.1 false=true->x.1≠y.1->gs x.1≠gs y.1))∨
  (∃m,n<=m/\m<=l.length/\(∀j,j<l.length->aH.getD j false=decide (j<m))/\wpList P l.toArray Q (l.drop m) d w')) ca ?_ ?_ ?_
 ·have aa:∀t,(Array.replicate l.toArray.size false).getD t false=false:=λt=>by
   simp[P8];split<;>rfl
  refine .inl ⟨λt _=>aa t,λi hi=>(by rw[aa]at hi;cases hi),bu,λ_=>0,⟨F,F,λ_ _ i _ h=>(by rw[aa]at h;cases h),λ_ _ _=>rfl⟩,λx _ h=>(by rw[aa]at h;cases h),λx _ y _ h=>(by rw[aa]at h;cases h)⟩
 ·intro aH d w' i b_ ax hi;obtain⟨cl,o,ho,N⟩:=AP.1 hi;have xC:i<l.length:=by simpa using(o9.1 ho).1
  have Dx:aH.getD i false=false:=by rw[<-Vh (by rw[b_];simpa using xC)];exact cl
  have uZ:∀j,yX l.toArray i j=true->aH.getD j false=true:=λj hj=>by
   obtain⟨o',ad,e,he,hb,Bt⟩:=Km hj;have:o'=o:=zZ (ad.symm.trans ho);subst this;rw[<-Bt];exact N e he hb
  have ap:(aH.setIfInBounds i true).getD i false=true:=by
   have:i<aH.size:=by rw[b_];simpa using xC
   simp[this]
  have s:∀j,j≠i->(aH.setIfInBounds i true).getD j false=aH.getD j false:=λj hj=>by
   simp only[Ca];rw[Ee (Ne.symm hj)]
  have bj:∀m,n<=m->m<=l.length->(∀j,j<l.length->aH.getD j false=decide (j<m))->wpList P l.toArray Q (l.drop m) d w'->
   wpOp P l.toArray Q i (λH p=>(∃m,n<=m/\m<=l.length/\(∀j,j<l.length->(aH.setIfInBounds i true).getD j false=decide (j<m))/\wpList P l.toArray Q (l.drop m) H p)) d w':=by
   intro m a5 a4 xD hw;have b7:i=m:=by
    exact aeb
   subst b7;have hd:l.drop i=o::l.drop (i+1):=by
    have ad:l[i]=o:=by
     have:=(o9.1 ho).2;simpa using this
    rw[<-ad];exact FJ xC
   rw[hd]at hw;have cm:wpOp P l.toArray Q i (wpList P l.toArray Q (l.drop (i+1))) d w':=by
    unfold wpOp;simp only[ho];exact hw
   refine AO (λH p U=>⟨i+1,J,J,λj hj=> ?_,U⟩) cm;by_cases g:j=i
   ·subst g;rw[ap];simp
   ·rw[s j g,xD j hj];by_cases a_:j<i
    ·simp[a_];omega
    ·simp[a_];omega
  rcases ax with⟨ac,Ig,A,gs,M,D,W⟩|⟨m,a5,a4,xD,hw⟩
  ·have a8:∀k,(aH.setIfInBounds i true).getD k false=true->∀ok,l.toArray[k]? =some ok->∀e∈ok.after,binds .any e=true->(aH.setIfInBounds i true).getD e.on false=true:=by
    intro k hk ok fq e he hb;have bd:∀j,aH.getD j false=true->(aH.setIfInBounds i true).getD j false=true:=λj hj=>by
     by_cases g:j=i
     ·subst g;exact ap
     ·rw[s j g];exact hj
    by_cases Bq:k=i
    ·subst Bq;have:ok=o:=zZ (fq.symm.trans ho);subst this;exact bd _ (N e he hb)
    ·rw[s k Bq]at hk;exact bd _ (Ig k hk ok fq e he hb)
   by_cases L:i<n
   ·have bb:∀t,n<=t->(aH.setIfInBounds i true).getD t false=false:=λt R=>by rw[s t J];exact ac t R
    have a9:o.dst=lC l.toArray i:=by simp[lC,ho]
    obtain⟨_,o',ad,c⟩:=aq i (w_ _) L;have:o'=o:=zZ (ad.symm.trans ho);subst this;by_cases a0:qK b i=true
    ·
     obtain⟨x,hx,cn⟩:=He.1 a0;have co:x.1=i:=by simpa using cn
     obtain⟨ae,cg,b4,bc⟩:=am x hx;have ce:ae=o':=by
      have:l.toArray[i]? =some ae:=by rw[<-co];simpa using cg
      exact zZ (this.symm.trans ho)
     subst ce;unfold wpOp;simp only[ho];rw[aN (by simp[wanted,b4])];refine .inl ?_;unfold Oper.wp;rw[bc];simp only[Oper.upon];refine .inl ⟨bb,a8,bx _ _ A,λj=>if j=i then w'.heap.size else gs j,?_,λy c v=> ?_,λy c z bh v ao ab=> ?_⟩
     ·rw[a9];have ar:kC l.toArray n (λj=>if qK b j then CV (if j=i then w'.heap.size else gs j)else vs j) a (λj=>aH.getD j false) d:=
       M.UM λj hj al=>by
        by_cases g:j=i
        ·subst g;rw[Dx]at al;cases al
        ·rw[aJ g]
      have aw:=ar.put (S':=λj=>(aH.setIfInBounds i true).getD j false) L Dx ap (λj hj=>s j hj) (λj hj g t hd=>V i L j hj g t hd);simpa[a0]using aw
     ·show au _ (if y.1=i then w'.heap.size else gs y.1) _ _/\B<=(if y.1=i then w'.heap.size else gs y.1);by_cases G:y.1=i
      ·rw[aN G];have:ae=ae:=F;obtain⟨bi,ch,_,cj⟩:=am y c;have cf:bi=ae:=by
        have:l.toArray[i]? =some bi:=by rw[<-G];simpa using ch
        exact zZ (this.symm.trans ho)
       subst cf;have E:=bc d.eval w';rw[cj]at E;have T:w'.alloc (.cells y.2.1.toArray y.2.2)=w'.alloc (.cells x.2.1.toArray x.2.2):=by injection E
       refine⟨?_,bw _ A⟩;have:=au.FU w' y.2.1 y.2.2;rw[T]at this;exact this
      ·rw[aJ G];rw[s y.1 G]at v;exact⟨(D y c v).1.alloc _,(D y c v).2⟩
     ·show(if y.1=i then w'.heap.size else gs y.1)≠(if z.1=i then w'.heap.size else gs z.1);by_cases G:y.1=i
      ·rw[aN G,aJ J];rw[s z.1 J]at ao;have:=(D z bh ao).1.lt;omega
      ·rw[aJ G];rw[s y.1 G]at v;by_cases a6:z.1=i
       ·rw[aN a6];have:=(D y c v).1.lt;omega
       ·rw[aJ a6];rw[s z.1 a6]at ao;exact W y c z bh v ao ab
    ·have an:qK b i=false:=by simpa using a0
     obtain⟨bk,bl⟩:=a7 i o' L ho;have a2:=M.agD (aE i J) (o:=o') bk (λj hj t hd R=>by
      have b':qK b j=false:=by
       cases b9:qK b j with
       |false=>rfl
       |true=>
        obtain⟨x,hx,cp⟩:=He.1 b9;have cq:x.1=j:=by simpa using cp
        exact absurd R ((K x hx).2 i L an o' ho t (by rw[cq];exact hd))
      refine⟨?_,by simp[b']⟩;obtain⟨_,bo⟩:=bl j t hj hd;obtain⟨bp,br⟩:=bo R;rcases Nat.lt_trichotomy j i with h1|h1|h1
      ·simp only[h1,decide_true];exact uZ j (bp h1)
      ·subst h1;simp only[Nat.lt_irrefl,decide_false];exact Dx
      ·have:¬j<i:=J;simp only[this,decide_false];cases hl:aH.getD j false with
       |false=>rfl
       |true=>
        obtain⟨cs,cd,e,he,hb,Bt⟩:=Km (br h1);have:=Ig j hl cs cd e he hb;rw[Bt,Dx]at this;cases this)
     have ci:∀ag:Nat->Nat,(∀j,aH.getD j false=true->ag j=gs j)->kC l.toArray n (λj=>if qK b j then CV (ag j)else vs j) a (λj=>(aH.setIfInBounds i true).getD j false) (d.put o'.dst (vs i)):=by
      intro ag b6;rw[a9];have ar:kC l.toArray n (λj=>if qK b j then CV (ag j)else vs j) a (λj=>aH.getD j false) d:=
       M.UM λj hj al=>by rw[b6 j al]
      have aw:=ar.put (S':=λj=>(aH.setIfInBounds i true).getD j false) L Dx ap (λj hj=>s j hj) (λj hj g t hd=>V i L j hj g t hd);simpa[an]using aw
     have done:∀p,C p->aj w' p->(λH p=>((∀t,n<=t->(aH.setIfInBounds i true).getD t false=false)/\(∀k,(aH.setIfInBounds i true).getD k false=true->∀o,l.toArray[k]? =some o->∀e∈o.after,binds .any e=true->(aH.setIfInBounds i true).getD e.on false=true)/\C p/\
      ∃gs:Nat->Nat,kC l.toArray n (λj=>if qK b j then CV (gs j)else vs j) a (λj=>(aH.setIfInBounds i true).getD j false) H/\
       (∀x∈b,(aH.setIfInBounds i true).getD x.1 false=true->au p (gs x.1) x.2.1 x.2.2/\B<=gs x.1)/\(∀x∈b,∀y∈b,(aH.setIfInBounds i true).getD x.1 false=true->(aH.setIfInBounds i true).getD y.1 false=true->x.1≠y.1->gs x.1≠gs y.1))∨
      (∃m,n<=m/\m<=l.length/\(∀j,j<l.length->(aH.setIfInBounds i true).getD j false=decide (j<m))/\wpList P l.toArray Q (l.drop m) H p)) (d.put o'.dst (vs i)) p:=by
      intro p bv bz;have ab:∀x∈b,x.1≠i:=λx hx e=>by
       have:qK b i=true:=He.2 ⟨x,hx,by simp[e]⟩;rw[an]at this;cases this
      refine .inl ⟨bb,a8,bv,gs,ci gs (λ_ _=>rfl),λx hx q=> ?_,λx hx y c q v=> ?_⟩
      ·rw[s x.1 (ab x hx)]at q;exact⟨(D x hx q).1.ext bz,(D x hx q).2⟩
      ·rw[s x.1 (ab x hx)]at q;rw[s y.1 (ab y c)]at v;exact W x hx y c q v
     unfold wpOp;simp only[ho];rcases c with c|⟨hw,c⟩|⟨hw,c⟩
     ·rw[an]at c;cases c
     ·rw[aN (by rw[a2.2];exact hw)];refine .inl ?_;have h3:=c w' A;rw[<-a2.1]at h3;unfold Oper.wp;generalize (execOp d.eval o').run P w'=r at h3⊢;cases r with
      |ok cr p=>
       cases cr<;>simp only[Tw]at h3<;>simp only[Oper.upon]
       case value u=>
        obtain⟨E,T⟩:=h3;rw[E,T];exact done _ A (aj.refl _)
       case skip=>
        obtain⟨E,T⟩:=h3;rw[E,<-T];exact done _ A (aj.refl _)
       case enter f cv=>
        obtain⟨E,b0⟩:=h3;rw[E];exact b0.mono λe cx ⟨he,h1,h2⟩=>by subst he;exact done _ h1 h2
      |halt x p=>simp only[Tw]at h3
     ·rw[aJ (by rw[a2.2,hw];simp),<-c];exact done _ A (aj.refl _)
   ·have aar:i=n:=by
     rcases Fz n i with h1|h1
     ·have h2:=uZ (i - 1) (b5 i h1 (by simpa using xC));rw[ac (i - 1) J]at h2;cases h2
     ·omega
    have a1:∀j,j<i->aH.getD j false=true:=by
     exact aem
    have a3:=WB (gs:=gs) (S:=λj=>decide (j<n)) V b vs (af n) (λx hx=>⟨(K x hx).1,by simpa using(K x hx).1⟩) (aE n (aQ _));have az:d=Ir l.toArray gs b (af n):=M.eq a3 λj hj=>by
     rw[a1 j J];simp[hj]
    refine AO (λH p U=> .inr U) (bj n (aQ _) J (λj hj=> ?_) ?_)
    ·by_cases a':j<n
     ·rw[a1 j J];simp[a']
     ·rw[ac j J];simp[a']
    ·rw[az];have q:∀x∈b,aH.getD x.1 false=true:=λx hx=>a1 _ (by have:=(K x hx).1;omega);exact ai gs w' A (λx hx=>D x hx (q x hx)) (λx hx y c=>W x hx y c (q x hx) (q y c))
  ·exact AO (λH p U=> .inr U) (bj m a5 a4 xD hw)
 ·intro aH d w' b_ ax hr;have cw:aH.size=l.length:=by rw[b_];simp
  rcases ax with⟨ac,Ig,A,gs,M,D,W⟩|⟨m,a5,a4,xD,hw⟩
  ·have N:∀i,i<l.length->aH.getD i false=true:=by
    exact adY
   have ba:n=l.length:=by
    rcases Fz n l.length with h1|h1
    ·have:=N n h1;rw[ac n (aQ _)]at this;cases this
    ·omega
   have a3:=WB (gs:=gs) (S:=λj=>decide (j<n)) V b vs (af n) (λx hx=>⟨(K x hx).1,by simpa using(K x hx).1⟩) (aE n (aQ _));have az:d=Ir l.toArray gs b (af n):=M.eq a3 λj hj=>by
    rw[N j J];simp[hj]
   have q:∀x∈b,aH.getD x.1 false=true:=λx hx=>N _ (by have:=(K x hx).1;omega);have:=ai gs w' A (λx hx=>D x hx (q x hx)) (λx hx y c=>W x hx y c (q x hx) (q y c));rw[az];rw[ba,drop_length]at this;rw[ba];exact this
  exact aef
end
section
variable {P:Program} {C:World->Prop} {o:Oper} {a:Act}
def aeU(ty:TypeId)(x:Operand)(f:o.op= .load ty x){g:Nat}{vs:aP}{T:TypeId}{n:Nat}
 (j:a.eval x= .pointer (some ⟨g,0,none⟩))(d:∀w,C w->au w g vs T)(h:jc P ty n)(e:vs.length=n):ME P C o a (.agg vs.toArray):=by
 intro w i;have b:=Fa (P:=P) (off:=0) (d w i) h J;have c:(vs.drop 0).take n=vs:=by simp[<-e]
 rw[c]at b;unfold execOp;simp only[f,j,Instr.loadAt,Instr.sureAddr,iC,ni,ng,b];exact⟨F,F⟩
def adG{b:Prop}(e:b:=by
 unfold execOp;simp only[ho,resolve,Act.eval,Deferred.ofValue,iC,ni,ng,invoke];have:(#[]++xs.map a.eval++ #[]:Array Value)=args:=by simp[ha]
 simpa[ha]using hf args w):b:=e
def aeT{f:FuncId}{xs:Array Operand}{j:Array TypeId}{args:Array Value}{v:Value}(ho:o.op= .call {callee:= .value (.func f),args:=xs,argTypes:=j})
 (hf:∀args w,(callFunc f args).run P w= .ok (.enter f args) w)(ha:xs.map a.eval=args)
 (h:∀w,C w->Calls P f args w (λe w'=>e= .returned v/\aj w w'))(g:∀w w',C w->aj w w'->C w'):ME P C o a v:=by
 intro w c;have i:(execOp a.eval o).run P w= .ok (.enter f args) w:=by
  exact adG
 rw[i];exact⟨F,(h w c).mono λe w' ⟨d,b⟩=>⟨d,g w w' c b,b⟩⟩
end
attribute [go_sem] Tw
end
section
def Af(w:World)(r:Option Nat):w.grownBy w r:=⟨F,F,F,aQ _,λ_ _ _=>rfl⟩
def H7{w b c:World}{r:Option Nat}(h:w.grownBy b r)(e:aj b c):w.grownBy c r:=
 ⟨e.os.trans h.os,e.tape.trans h.tape,e.output.trans h.output,dJ h.size e.size,λk a d=>(e.block k (vL a h.size)).trans (h.block k a d)⟩
def QZ{w b c:World}{g:Nat}(h:w.grownBy b (some g))(u:dF b g c):w.grownBy c (some g):=
 ⟨u.os.trans h.os,u.tape.trans h.tape,u.output.trans h.output,by rw[u.size];exact h.size,λk d a=>(u.block k (λe=>a (by rw[e]))).trans (h.block k d a)⟩
def NW{w a b:World}{g:Nat}{r:Option Nat}(h:w.grownBy a r)(u:dF a g b)(e:w.heap.size<=g):w.grownBy b r:=
 ⟨u.os.trans h.os,u.tape.trans h.tape,u.output.trans h.output,by rw[u.size];exact h.size,λk c d=>(u.block k J).trans (h.block k c d)⟩
def uh(w:World)(g:Nat)(a:aO)(xs:aP):Prop:=xs=[]∨∃b off,a=some ⟨b,off,none⟩/\b≠g/\∀i u,xs[i]? =some u->w.cell? ⟨b,off+i,none⟩=some u
def uh.cells{w:World}{g:Nat}{a:aO}{xs:aP}(h:uh w g a xs):aM w a xs:=by grind [uh,aM]
def uh.grown{w w':World}{g:Nat}{a:aO}{xs:aP}(h:uh w g a xs)(k:w.grownBy w' (some g)):uh w' g a xs:=by
 rcases h with h|⟨b,off,ha,c,h⟩
 ·exact .inl h
 ·exact .inr ⟨b,off,ha,c,λi u d=>k.cell (h i u d) (by simpa using c)⟩
def uh.ext{w w':World}{g:Nat}{a:aO}{xs:aP}(h:uh w g a xs)(k:aj w w'):uh w' g a xs:=by
 rcases h with h|⟨b,off,ha,c,h⟩
 ·exact .inl h
 ·refine .inr ⟨b,off,ha,c,λi u e=> ?_⟩;have d:=h i u e;have c:=kN d;have:=k.cell (p:=⟨b,off+i,none⟩) c;rw[this];exact d
def ajO{w:World}{B g:Nat}{T:TypeId}{z:Nat}{v:Value}{n:Nat}{xs:aP}(s:0<z)(h:w.ownsRow B T z v n xs)(q:g<B):
 ∃a c,v= .slice a n c/\n<=c/\c<=maxLen/\(a=none->c=0)/\uh w g a xs:=by
 obtain⟨r,h⟩:=h;rcases h with⟨rfl,rfl⟩|⟨e,cap,d,rfl,p,l,f,j,o,k⟩
 ·refine⟨none,0,F,aQ _,by unfold maxLen;omega,λ_=>rfl,.inl ?_⟩;exact qm.1 J
 ·refine⟨_,cap,F,f,j,(λh=>by cases h),.inr ⟨e,0,F,J,λi u b=> ?_⟩⟩;rw[<-k]at b;have m:i<n*z:=by
   have:=(iK.1 b).1;simp only[fP]at this;omega
  rw[uM m]at b;rw[kD];exact au.cell' (vs:=d.toList) (T:=T) (by simpa[au]using l) b
def uh.at{w:World}{g:Nat}{a:aO}{xs:aP}(h:uh w g a xs){i:Nat}{u:Value}(c:xs[i]? =some u):
 ∃b off,a=some ⟨b,off,none⟩/\w.cell? ⟨b,off+i,none⟩=some u:=by grind [uh]
def uh.of{w w':World}{g:Nat}{a:aO}{xs:aP}(h:aM w a xs)(l:w.heap.size<=g)(e:aj w w'):uh w' g a xs:=by
 rcases h.ext e with c|⟨b,off,ha,c⟩
 ·exact .inl c
 ·rcases h with h|⟨k,m,f,i⟩
  ·exact .inl h
  ·rw[ha]at f;cases f;by_cases d:xs=[]
   ·exact .inl d
   ·refine .inr ⟨b,off,ha,?_,c⟩;obtain⟨u,j⟩:∃u,xs[0]? =some u:=⟨xs[0]'(length_pos_iff.2 d),aB⟩;have:=kN (i 0 u j);simp only at this;omega
section
variable {P:Program} {ops:Array Oper} {rest:List Oper} {o:Oper} {a:Act} {C:World->Prop}
def MF{v:Value}(c:∀w,C w->(execOp a.eval o).run P w= .ok (.value v) w):ME P C o a v:=by
 intro w b;rw[c w b];first|exact⟨F,F⟩|exact⟨F,b⟩
end
end
section
section
variable {P:Program} {ops:Array Oper} {Q:Exit->Act->World->Prop} {S:World->Prop} {W:List Nat}
def lW(P:Program)(ops:Array Oper)(Q:Exit->Act->World->Prop)(S:World->Prop)(W:List Nat):Nat->Array Bool->Act->World->Prop
 |0,aH,a,w=>ready .any ops aH=[]/\Q .normal a w
 |f+1,aH,a,w=>(ready .any ops aH=[]->Q .normal a w)/\
  ∀i∈ready .any ops aH,wpOp P ops Q i (λb w'=>(W.contains i=false->S w->S w')/\lW P ops Q S W f (aH.setIfInBounds i true) b w') a w
def aeD:∀(f:Nat) (b:Array Bool) (a:Act) (w:World),lW P ops Q S W f b a w->wpAny P .any ops Q f b a w
 |0,_,_,_,h=>h
 |f+1,_,_,_,h=>⟨h.1,λi e=>AO (λc w' d=>aeD f _ c w' d.2) (h.2 i e)⟩
def GQ(ops:Array Oper)(a:Array Bool):Prop:=∀k,a.getD k false=true->∀o,ops[k]? =some o->∀e∈o.after,binds .any e=true->a.getD e.on false=true
def Gt(ops:Array Oper):Nat->Nat->Nat->Bool
 |0,_,_=>false
 |f+1,j,i=>yX ops j i||(List.range ops.size).any λk=>yX ops j k&&Gt ops f k i
def WH{a:Array Bool}(hd:GQ ops a):∀(f j i:Nat),(∀k,yX ops j k=true->a.getD k false=true)->Gt ops f j i=true->a.getD i false=true
 |0,_,_,_,h=>by cases h
 |f+1,j,i,hj,h=>by
  simp only[Gt,zf,He,qZ]at h;rcases h with h|⟨k,_,h1,h2⟩
  ·exact hj i h
  ·refine WH hd f k i (λq hq=> ?_) h2;obtain⟨o,ho,e,he,hb,Bt⟩:=Km hq;rw[<-Bt];exact hd k (hj k h1) o ho e he hb
def ab9{a:Array Bool}{j:Nat}(f:j∈ready .any ops a):∀k,yX ops j k=true->a.getD k false=true:=by
 intro k g;obtain⟨_,o,h,b⟩:=AP.1 f;obtain⟨o',i,e,d,c,l⟩:=Km g;have:o'=o:=zZ (i.symm.trans h);subst this;rw[<-l];exact b e d c
def GQ.set{a:Array Bool}{j:Nat}(i:GQ ops a)(l:j∈ready .any ops a):GQ ops (a.setIfInBounds j true):=by
 intro k d o g e c b;by_cases f:j=k
 ·subst f;obtain⟨_,o',m,h⟩:=AP.1 l;have:o'=o:=zZ (m.symm.trans g);subst this;exact getD_set_true (h e c b)
 ·rw[getD_set_ne false f]at d;exact getD_set_true (i k d o g e c b)
def an1{i:Nat}{q:Oper}{v:Value}(n:Nat)(x:ops[i]? =some q)(G:∀(j:Nat) (o:Oper) cs b,ops[j]? =some o->o.op≠.select cs b)(L:∀j,W.contains j=true->Gt ops n j i=true)
 (K:∀c a w,Q (.panic c) (a.put q.dst v) w->Q (.panic c) a w):
 ∀(f:Nat) (d:Array Bool) (a:Act) (w:World),GQ ops d->
  (∀j r,ops[j]? =some r->j≠i->d.getD j true=false->(∀e∈r.after,binds .any e=true->e.on≠i)->q.apart ops r=true)->
  i∈ready .any ops d->YieldsIf P ops S q v a->S w->
  lW P ops Q S W f (d.setIfInBounds i true) (a.put q.dst v) w->lW P ops Q S W (f+1) d a w:=by
 intro f;induction f with
 |zero=>
  intro d a w _ _ p u m s;refine⟨λh=>(by rw[h]at p;cases p),λj hj=> ?_⟩;by_cases g:j=i
  ·subst g;exact u.wpOp x m ⟨λ_ _=>m,s⟩
  ·have:=FE hj g;rw[s.1]at this;cases this
 |succ f ab=>
  intro d a w A B p u m s;refine⟨λh=>(by rw[h]at p;cases p),λj hj=> ?_⟩;by_cases g:j=i
  ·subst g;exact u.wpOp x m ⟨λ_ _=>m,s⟩
  ·have h1:=s.2 j (FE hj g);obtain⟨E,r,y,M⟩:=AP.1 hj;have l:=(AP.1 p).1;have C:d.getD i false=true->False:=λh=>by
    simp only[Ca]at h l;cases hq:d[i]? with
    |none=>rw[hq]at l;simp at l
    |some b=>rw[hq]at h l;simp at h l;rw[h]at l;cases l
   have aa:∀e∈r.after,binds .any e=true->e.on≠i:=λe he hb N=>by
    have h1:=M e he hb;rw[N]at h1;exact C h1
   have z:W.contains j=false:=by
    cases hq:W.contains j with
    |false=>rfl
    |true=>exact absurd (WH A n j i (ab9 hj) (L j hq)) C
   have h2:=wpOp_putIf y (B j r y g E aa) (λcs b=>G i q cs b x) (λcs b=>G j r cs b y) K u h1;have R:∀k ok,ops[k]? =some ok->k≠i->(d.setIfInBounds j true).getD k true=false->
    (∀e∈ok.after,binds .any e=true->e.on≠i)->q.apart ops ok=true:=λk ok T U H V=>by
    refine B k ok T U ?_ V;by_cases D:j=k
    ·subst D;exact E
    ·rw[getD_set_ne true D]at H;exact H
   refine AO (λI w' t=>⟨λ_ _=>t.2.1 z m,ab (d.setIfInBounds j true) I w' (A.set hj) R (FE p (Ne.symm g)) t.1 (t.2.1 z m) ?_⟩) h2;rw[AQ _ _ g];exact t.2.2
def an2{i:Nat}{p:Oper}{v:Value}(x:ops[i]? =some p)(D:∀(j:Nat) (o:Oper) cs b,ops[j]? =some o->o.op≠.select cs b)
 (I:∀c a w,Q (.panic c) (a.put p.dst v) w->Q (.panic c) a w):
 ∀(f:Nat) (d:Array Bool) (a:Act) (w:World),
  (∀j q,ops[j]? =some q->j≠i->d.getD j true=false->(∀e∈q.after,binds .any e=true->e.on≠i)->p.apart ops q=true)->
  i∈ready .any ops d->YieldsIf P ops (λ_=>True) p v a->
  lW P ops Q S W f (d.setIfInBounds i true) (a.put p.dst v) w->lW P ops Q S W (f+1) d a w:=by
 intro f;induction f with
 |zero=>
  intro d a w _ n t r;refine⟨λh=>(by rw[h]at n;cases n),λj s=> ?_⟩;by_cases g:j=i
  ·subst g;exact t.wpOp x trivial ⟨λ_ h=>h,r⟩
  ·have:=FE s g;rw[r.1]at this;cases this
 |succ f ab=>
  intro d a w z n t r;refine⟨λh=>(by rw[h]at n;cases n),λj s=> ?_⟩;by_cases g:j=i
  ·subst g;exact t.wpOp x trivial ⟨λ_ h=>h,r⟩
  ·have m:=r.2 j (FE s g);obtain⟨B,q,y,K⟩:=AP.1 s;have aa:∀e∈q.after,binds .any e=true->e.on≠i:=λe M L N=>by
    have m:=K e M L;have l:=(AP.1 n).1;rw[N]at m;simp only[Ca]at m l;cases C:d[i]? with
    |none=>rw[C]at l;simp at l
    |some b=>rw[C]at m l;simp at m l;rw[m]at l;cases l
   have H:=wpOp_putIf y (z j q y g B aa) (λcs b=>D i p cs b x) (λcs b=>D j q cs b y) I t m;have R:∀k ok,ops[k]? =some ok->k≠i->(d.setIfInBounds j true).getD k true=false->
    (∀e∈ok.after,binds .any e=true->e.on≠i)->p.apart ops ok=true:=λk ok T U E V=>by
    refine z k ok T U ?_ V;by_cases A:j=k
    ·subst A;exact B
    ·rw[getD_set_ne true A]at E;exact E
   refine AO (λG w' u=>⟨u.2.1,ab (d.setIfInBounds j true) G w' R (FE n (Ne.symm g)) u.1 ?_⟩) H;rw[AQ _ _ g];exact u.2.2
def Dq(ops:Array Oper)(a:Array Bool):Bool:=(List.range ops.size).all λk=> !a.getD k false||(ops[k]?).all λo=>o.after.all λe=> !binds .any e||a.getD e.on false
def QK{c:Array Bool}(h:Dq ops c=true):GQ ops c:=by
 intro k g o b e f d;have i:k<ops.size:=(o9.1 b).1;have a:=z_.1 h k (Jj.2 i);rw[g,b]at a;simp only[Bool.not_true,Bool.false_or,Option.all_some,Array.all_eq_true']at a;have:=a e f;rw[d]at this;simpa using this
def aez(i:Nat){d:Oper}{r:List Oper}{v:Value}{f:Nat}{b:Array Bool}{a:Act}{w:World}(e:ops.toList.drop i=d::r)
 (hs:noSelect ops=true)(l:(W.all λj=>Gt ops 12 j i)=true)(m:Dq ops b=true)(n:free .any ops b i=true)(p:(ready .any ops b).contains i=true)
 (g:∀c a w,Q (.panic c) (a.put d.dst v) w->Q (.panic c) a w)(q:YieldsIf P ops S d v a)(k:S w)
 (h:lW P ops Q S W f (b.setIfInBounds i true) (a.put d.dst v) w):lW P ops Q S W (f+1) b a w:=
 an1 12 (kJ e) (M0 hs) (λj o=>z_.1 l j (by simpa using o)) g f b a w (QK m) (Nc (kJ e) n) (by simpa using p) q k h
def TB(i:Nat){d:Oper}{r:List Oper}{v:Value}{f:Nat}{b:Array Bool}{a:Act}{w:World}(e:ops.toList.drop i=d::r)
 (hs:noSelect ops=true)(j:free .any ops b i=true)(k:(ready .any ops b).contains i=true)
 (g:∀c a w,Q (.panic c) (a.put d.dst v) w->Q (.panic c) a w)(l:YieldsIf P ops (λ_=>True) d v a)
 (h:lW P ops Q S W f (b.setIfInBounds i true) (a.put d.dst v) w):lW P ops Q S W (f+1) b a w:=
 an2 (kJ e) (M0 hs) g f b a w (Nc (kJ e) j) (by simpa using k) l h
def anQ{i:Nat}{o:Oper}{r:List Oper}{f:Nat}{b:Array Bool}{a:Act}{w:World}(l:ready .any ops b=[i])(m:ops.toList.drop i=o::r)(g:W.contains i=false)(e:S w)
 (h:∀c:Exit->Act->World->Prop,(∀a w,S w->lW P ops Q S W f (b.setIfInBounds i true) a w->c .normal a w)->wpList P ops c [o] a w):
 lW P ops Q S W (f+1) b a w:=by
 refine⟨λd=>(by rw[l]at d;cases d),λj k=> ?_⟩;rw[l]at k;obtain rfl:j=i:=by simpa using k
 exact p9 (kJ m) (h _ λa w e g=>⟨λ_ _=>e,g⟩)
def anP{i:Nat}{o:Oper}{r:List Oper}{f:Nat}{b:Array Bool}{a:Act}{w:World}(g:ready .any ops b=[i])(m:ops.toList.drop i=o::r)(k:W.contains i=true)
 (h:∀c:Exit->Act->World->Prop,(∀a w,True->lW P ops Q S W f (b.setIfInBounds i true) a w->c .normal a w)->wpList P ops c [o] a w):
 lW P ops Q S W (f+1) b a w:=by
 refine⟨λd=>(by rw[g]at d;cases d),λj e=> ?_⟩;rw[g]at e;obtain rfl:j=i:=by simpa using e
 exact p9 (kJ m) (h _ λa w _ l=>⟨λh=>(by rw[k]at h;cases h),l⟩)
def anO{b:Array Bool}{a:Act}{w:World}(hr:ready .any ops b=[])(h:Q .normal a w):∀f,lW P ops Q S W f b a w
 |0=>⟨hr,h⟩
 |_+1=>⟨λ_=>h,by rw[hr];simp⟩
def an4{id:Nat}{a:Act}{w:World}(c:P.follows .mixedOrders=true)(b:S w.drew)
 (h:S w.drew->lW P ops Q S W ops.size (Array.replicate ops.size false) a w.drew):(Code.region id ops true).wp P Q a w:=
 wp_region_any c (aeD _ _ _ _ (h b))
end
def bM.IK{g W:World}{b:List Nat}{r r2 n f:Nat}{vs a:aP}{T c:TypeId}(h:aj g W)(k:dR W b W)(d:au W r vs T)(i:vs.length=n)(e:au W r2 a c)(j:a.length=f):bM g W b [(r,n,T),(r2,f,c)] W:=
 ⟨h,k,by simp only[gM,lN,lQ];rintro x (rfl|rfl)<;>first|exact⟨d.lt,vs,i,d⟩|exact⟨e.lt,a,j,e⟩⟩
section
variable {P:Program} {ops:Array Oper} {Q:Exit->Act->World->Prop} {S:World->Prop} {W:List Nat}
def kK(i:Nat){d:Oper}{r:List Oper}{f:Nat}{b:Array Bool}{a:Act}{w:World}{X:Prop}{v:Value}{e:Prop}(hf:e)(h:X)(o:ops.toList.drop i=d::r:=by exact F)(hs:noSelect ops=true:=by kernel_rfl)(l:(W.all λj=>Gt ops 12 j i)=true:=by kernel_rfl)(m:Dq ops b=true:=by kernel_rfl)(n:free .any ops b i=true:=by kernel_rfl)(p:(ready .any ops b).contains i=true:=by kernel_rfl)(q:wanted d (yielded ops a.tmps)=true:=by exact F)(s:e->∀w,S w->(execOp a.eval d).run P w= .ok (.value v) w:=by(intro hf wq jl;have sM:=hf wq jl;go_simp;try with_reducible rfl))(hx:X->lW P ops Q S W f (b.setIfInBounds i true) (a.put d.dst v) w:=by(intro hx;simp only[Act.put,o_,nk,pF];exact hx))(k:S w:=by exact X)(g:∀c a w,Q (.panic c) (a.put d.dst v) w->Q (.panic c) a w:=by exact λ_ _ _ h=>h):lW P ops Q S W (f+1) b a w:=
 aez i o hs l m n p g (.inl ⟨q,s hf⟩) k (hx h)
def l8(i:Nat){d:Oper}{r:List Oper}{f:Nat}{b:Array Bool}{a:Act}{w:World}{X:Prop}{v:Value}(n:ops.toList.drop i=d::r)(p:YieldsIf P ops S d v a)(h:X)(hs:noSelect ops=true:=by kernel_rfl)(k:(W.all λj=>Gt ops 12 j i)=true:=by kernel_rfl)(l:Dq ops b=true:=by kernel_rfl)(m:free .any ops b i=true:=by kernel_rfl)(o:(ready .any ops b).contains i=true:=by kernel_rfl)(hx:X->lW P ops Q S W f (b.setIfInBounds i true) (a.put d.dst v) w:=by(intro hx;simp only[Act.put,o_,nk,pF];exact hx))(g:S w:=by exact X)(e:∀c a w,Q (.panic c) (a.put d.dst v) w->Q (.panic c) a w:=by exact λ_ _ _ h=>h):lW P ops Q S W (f+1) b a w:=
 aez i n hs k l m o e p g (hx h)
def dL(i:Nat){b:Oper}{r:List Oper}{f:Nat}{d:Array Bool}{a:Act}{w:World}{X:Prop}{v:Value}(h:X)(j:ops.toList.drop i=b::r:=by exact F)(hs:noSelect ops=true:=by kernel_rfl)(g:free .any ops d i=true:=by kernel_rfl)(k:(ready .any ops d).contains i=true:=by kernel_rfl)(l:wanted b (yielded ops a.tmps)=true:=by exact F)(m:∀w,(λ_=>True) w->(execOp a.eval b).run P w= .ok (.value v) w:=by(intro _ _;go_simp;try with_reducible rfl))(hx:X->lW P ops Q S W f (d.setIfInBounds i true) (a.put b.dst v) w:=by(intro hx;simp only[Act.put,o_,nk,pF];exact hx))(e:∀c a w,Q (.panic c) (a.put b.dst v) w->Q (.panic c) a w:=by exact λ_ _ _ h=>h):lW P ops Q S W (f+1) d a w:=
 TB i j hs g k e (.inl ⟨l,m⟩) (hx h)
def TG(i:Nat){d:Oper}{r:List Oper}{f:Nat}{b:Array Bool}{a:Act}{w:World}{X:Prop}{v:Value}(j:ops.toList.drop i=d::r)(l:YieldsIf P ops (λ_=>True) d v a)(h:X)(hs:noSelect ops=true:=by kernel_rfl)(g:free .any ops b i=true:=by kernel_rfl)(k:(ready .any ops b).contains i=true:=by kernel_rfl)(hx:X->lW P ops Q S W f (b.setIfInBounds i true) (a.put d.dst v) w:=by(intro hx;simp only[Act.put,o_,nk,pF];exact hx))(e:∀c a w,Q (.panic c) (a.put d.dst v) w->Q (.panic c) a w:=by exact λ_ _ _ h=>h):lW P ops Q S W (f+1) b a w:=
 TB i j hs g k e l (hx h)
def nK{id:Nat}{a:Act}{w:World}(h:S w.drew->lW P ops Q S W ops.size (Array.replicate ops.size false) a w.drew)(c:P.follows .mixedOrders=true:=by kernel_rfl)
 (b:S w.drew:=by exact aK _ _ bR (aj.refl _).drew):(Code.region id ops true).wp P Q a w:=an4 c b h
def i_(i:Nat){o:Oper}{r:List Oper}{f:Nat}{b:Array Bool}{a:Act}{w:World}
 (h:∀c:Exit->Act->World->Prop,(∀a w,S w->lW P ops Q S W f (b.setIfInBounds i true) a w->c .normal a w)->wpList P ops c [o] a w)
 (j:ready .any ops b=[i]:=by kernel_rfl)(g:ops.toList.drop i=o::r:=by exact F)(e:W.contains i=false:=by kernel_rfl)(d:S w:=by exact X):lW P ops Q S W (f+1) b a w:=anQ j g e d h
def lK(i:Nat){o:Oper}{r:List Oper}{f:Nat}{b:Array Bool}{a:Act}{w:World}
 (h:∀c:Exit->Act->World->Prop,(∀a w,True->lW P ops Q S W f (b.setIfInBounds i true) a w->c .normal a w)->wpList P ops c [o] a w)
 (g:ready .any ops b=[i]:=by kernel_rfl)(e:ops.toList.drop i=o::r:=by exact F)(d:W.contains i=true:=by kernel_rfl):lW P ops Q S W (f+1) b a w:=anP g e d h
def n_{b:Array Bool}{a:Act}{w:World}{f:Nat}(h:Q .normal a w)(hr:ready .any ops b=[]:=by kernel_rfl):lW P ops Q S W f b a w:=anO hr h _
end
end
def eu:jc prog 29 16:=⟨⟨_,underlying29,F⟩,aC⟩
def lZ(c:UInt8):Bool:=(decide (97<=c.toNat)&&decide (c.toNat<=122))||(decide (48<=c.toNat)&&decide (c.toNat<=57))||c.toNat==45||c.toNat==46||c.toNat==95
def nH(l:ah):Bool:=l.all lZ&& !(l.isEmpty)&&decide (l.length<=32)
end Go.Proofs.YtjlhhnkhcbpnjaaGreatDoor
