/- Laws that the row leans on; no condition. -/
import Derived.Test.YtjlhhnkhcbpnjaaGreatDoorJ11
import Derived.WideKeyArr
namespace Go.Proofs.YtjlhhnkhcbpnjaaGreatDoor
open Go Go.RowKit List Tryz
set_option linter.unusedVariables false
set_option linter.unusedSectionVars false
set_option linter.unusedSimpArgs false
set_option maxHeartbeats 40000000
set_option maxRecDepth 100000
section
open Go Go.RowKit Go.Maps Go.MapKept Go.WideShapes
structure gB(M:Nat->Prop)(w w':World):Prop where
 os:w'.os=w.os
 tape:w'.tape=w.tape
 output:w'.output=w.output
 size:w.heap.size<=w'.heap.size
 block:∀k,k<w.heap.size->¬M k->w'.heap[k]? =w.heap[k]?
section
variable {M M':Nat->Prop} {w w' w0 a b c:World} {g B:Nat}
theorem gB.refl(M:Nat->Prop)(w:World):gB M w w:=⟨F,F,F,Nat.le_refl _,fun _ _ _=>rfl⟩
theorem gB.wC(e:X w w'):gB M w w':=⟨e.os,e.tape,e.output,e.size,fun k hk _=>e.block k hk⟩
theorem gB.QM(u:aU w g w')(j:M g):gB M w w':=⟨u.os,u.tape,u.output,by rw[u.size];exact Nat.le_refl _,fun k _ hn=>u.block k (fun e=>hn (e▸j))⟩
theorem gB.trans(h:gB M a b)(k:gB M' b c)(u:∀x,x<a.heap.size->M' x->M x):gB M a c:=
 ⟨k.os.trans h.os,k.tape.trans h.tape,k.output.trans h.output,Nat.le_trans h.size k.size,fun i j hn=>(k.block i (Nat.lt_of_lt_of_le j h.size) (fun E=>hn (u i j E))).trans (h.block i j hn)⟩
theorem gB.same(h:gB M a b)(k:gB M b c):gB M a c:=h.trans k (fun _ _ h=>h)
theorem gB.mono(h:gB M a b)(u:∀x,x<a.heap.size->M x->M' x):gB M' a b:=⟨h.os,h.tape,h.output,h.size,fun i j hn=>h.block i j (fun E=>hn (u i j E))⟩
theorem gB.Ep(h:gB M w w')(e:X w0 w)(u:∀x,x<w0.heap.size->¬M x):X w0 w':=
 ⟨h.os.trans e.os,h.tape.trans e.tape,h.output.trans e.output,Nat.le_trans e.size h.size,fun i j=>(h.block i (Nat.lt_of_lt_of_le j e.size) (u i j)).trans (e.block i j)⟩
theorem ah.mut{vs:aO}{T:TypeId}(h:ah w g vs T)(m:gB M w w')(j:¬M g):ah w' g vs T:=by
 have u:=h.lt;unfold ah at*;rw[m.block g u j];exact h
theorem f_.mut{K V:Type}[DecidableEq K]{kv:K->Value}{vv:V->Value}{hs:List (K×V)}(h:f_ kv vv w g hs)(m:gB M w w')(j:¬M g):f_ kv vv w' g hs:=h.keep (m.block g h.lt j)
def jr(w:World)(g:Nat):Prop:=∃o:Obj,w.heap[g]? =some o/\∀c e z,o≠.cells c e z
theorem jr.map{K V:Type}[DecidableEq K]{kv:K->Value}{vv:V->Value}{hs:List (K×V)}(h:f_ kv vv w g hs):jr w g:=by
 obtain⟨es,c,hb,_⟩:=h;exact⟨_,hb,fun _ _ _ h=>by cases h⟩
theorem jr.cell(h:jr w g)(off:Nat):w.cell? ⟨g,off,none⟩=none:=by
 obtain⟨o,j,hc⟩:=h;unfold World.cell?;simp only[j];cases o<;>first|exact absurd F (hc _ _ _)|rfl
theorem bJ.mut{a:aN}{xs:aO}(h:bJ w B a xs)(m:gB M w w')(I:∀g,M g->B<=g->jr w g):bJ w' B a xs:=by
 rcases h with h|⟨b,off,ha,hb,h⟩
 ·exact .inl h
 by_cases ab:xs=[]
 ·exact .inl ab
 refine .inr ⟨b,off,ha,hb,fun i u aa=> ?_⟩;have j:=h i u aa;refine wu j (m.block b (block_lt_of_cell j) (fun R=> ?_));have E:=(I b R hb).cell (off+i);rw[E]at j;cases j
theorem bJ.mono{B':Nat}{a:aN}{xs:aO}(h:bJ w B a xs)(j:B'<=B):bJ w B' a xs:=by
 rcases h with h|⟨b,off,ha,hb,h⟩
 ·exact .inl h
 ·exact .inr ⟨b,off,ha,J,h⟩
theorem bJ.ext'{a:aN}{xs:aO}(h:bJ w B a xs)(e:X w w'):bJ w' B a xs:=h.turn (fun k _ hk=>e.block k hk)
theorem bJ.QN{a:aN}{xs:aO}(h:bJ w B a xs)(u:aU w g w')(j:g<B∨jr w g):bJ w' B a xs:=
 h.mut (M:=fun x=>x=g) (gB.QM u F) (fun x E hb=>by
  subst E;rcases j with j|j
  ·omega
  ·exact j)
end
def eX(x:aj):Value:= .agg (x.map Y).toArray
theorem YQ{a b:UInt8}(h:Y a=Y b):a=b:=by
 unfold Y at h;injection h with _ h;exact UInt8.toNat_inj.1 J
theorem xJ{x y:aj}(h:eX x=eX y):x=y:=by
 unfold eX at h;injection h with h;have j:x.map Y=y.map Y:=by simpa using congrArg Array.toList h
 exact(map_inj_right (fun _ _=>YQ)).1 j
theorem KE{α β:Type}(g:α->Option β):∀(l:List α),(∀i∈l,∃y,g i=some y)->∃ys,l.mapM g=some ys
 |[],_=>⟨[],F⟩
 |a::l,h=>by
  obtain⟨y,hy⟩:=h a aF;obtain⟨ys,u⟩:=KE g l (fun i j=>h i (mem_cons_of_mem _ j));exact⟨y::ys,by rw[mapM_cons,hy,u];rfl⟩
theorem YR{m:aj}(j:m.length=32):∃l,keyOf prog 31 (eX m)=some l:=by
 unfold eX;have ht:=underlying31;have hk:prog.keyType 31=true:=au;have hc:prog.cellsOf 31=32:=au;have E:prog.cellsOf 5=1:=au;have hf:(Value.agg (m.map Y).toArray).formed prog 31=true:=by simp[Value.formed,ht,hc,j]
 obtain⟨d,I⟩:∃d,prog.types.size=d+1:=Nat.exists_eq_succ_of_ne_zero (by
  intro h;have:decide (prog.types.size=0)=false:=au;rw[h]at this;simp at this)
 unfold keyOf;rw[ht];simp only[hk,hf,Bool.and_self,if_true];have ac:(Value.agg (m.map Y).toArray).cells.toList=m.map Y:=F;rw[ac,I];unfold Program.keyLits;rw[ht];simp only[length_map,j,hc,if_true,E,Nat.mul_one];obtain⟨ys,ae⟩:=KE (fun i=>prog.keyLits (d+1) 5 (((m.map Y).drop i).take 1)) (List.range 32) (fun i aa=>by
  have ab:i<m.length:=by rw[j];exact mem_range.1 aa
  have R:((m.map Y).drop i).take 1=[Y m[i]]:=by
   rw[<-map_drop,<-map_take,drop_eq_getElem_cons ab];rfl
  refine⟨[.int .u8 (m[i].toNat:Int)],?_⟩;rw[R];unfold Program.keyLits;rw[underlying5];have af:=m[i].toNat_lt;have ad:(Lit.int .u8 (m[i].toNat:Int)).wf=true:=by
   have u:IntKind.u8.min=0:=aX;have e2:IntKind.u8.max=255:=aX;show(decide (IntKind.u8.min<=(m[i].toNat:Int))&&decide ((m[i].toNat:Int)<=IntKind.u8.max))=true;rw[u,e2,aQ J,aQ J];rfl
  simp only[Y,ad,and_self,if_true])
 rw[ae];exact⟨_,F⟩
def wE(x:aj):Prop:=x.length=32
theorem G_:GY prog 31 eX wE where
 keyed:=Keyed.of_law (WideMaps.ArrKey.law (e:=5) (n:=32) ⟨underlying31,au,au,au⟩)
 key x h:=YR h
 inj _ _ h:=xJ h
theorem YS{m:aj}(j:m.length=16):∃l,keyOf prog 29 (eX m)=some l:=by
 unfold eX;have ht:=underlying29;have hk:prog.keyType 29=true:=au;have hc:prog.cellsOf 29=16:=au;have E:prog.cellsOf 5=1:=au;have hf:(Value.agg (m.map Y).toArray).formed prog 29=true:=by simp[Value.formed,ht,hc,j]
 obtain⟨d,I⟩:∃d,prog.types.size=d+1:=Nat.exists_eq_succ_of_ne_zero (by
  intro h;have:decide (prog.types.size=0)=false:=au;rw[h]at this;simp at this)
 unfold keyOf;rw[ht];simp only[hk,hf,Bool.and_self,if_true];have ac:(Value.agg (m.map Y).toArray).cells.toList=m.map Y:=F;rw[ac,I];unfold Program.keyLits;rw[ht];simp only[length_map,j,hc,if_true,E,Nat.mul_one];obtain⟨ys,ae⟩:=KE (fun i=>prog.keyLits (d+1) 5 (((m.map Y).drop i).take 1)) (List.range 16) (fun i aa=>by
  have ab:i<m.length:=by rw[j];exact mem_range.1 aa
  have R:((m.map Y).drop i).take 1=[Y m[i]]:=by
   rw[<-map_drop,<-map_take,drop_eq_getElem_cons ab];rfl
  refine⟨[.int .u8 (m[i].toNat:Int)],?_⟩;rw[R];unfold Program.keyLits;rw[underlying5];have af:=m[i].toNat_lt;have ad:(Lit.int .u8 (m[i].toNat:Int)).wf=true:=by
   have u:IntKind.u8.min=0:=aX;have e2:IntKind.u8.max=255:=aX;show(decide (IntKind.u8.min<=(m[i].toNat:Int))&&decide ((m[i].toNat:Int)<=IntKind.u8.max))=true;rw[u,e2,aQ J,aQ J];rfl
  simp only[Y,ad,and_self,if_true])
 rw[ae];exact⟨_,F⟩
def og(x:aj):Prop:=x.length=16
theorem vg:GY prog 29 eX og where
 keyed:=Keyed.of_law (WideMaps.ArrKey.law (e:=5) (n:=16) ⟨underlying29,au,au,au⟩)
 key x h:=YS h
 inj _ _ h:=xJ h
end
section
open Go Go.RowKit Go.Maps Go.MapKept Go.WideShapes
def Aa(w:World)(g:Nat)(ks:aO):Prop:=∃es j,w.heap[g]? =some (.map es j)/\es.toList.map MapEntry.key=ks/\∀x∈es.toList,x.val= .bool true
theorem Aa.lt{w:World}{g:Nat}{ks:aO}(h:Aa w g ks):g<w.heap.size:=by
 obtain⟨es,c,hb,_⟩:=h;exact(Array.getElem?_eq_some_iff.1 hb).1
theorem Aa.new(w:World):Aa (w.alloc (.map #[] 0)) w.heap.size []:=⟨#[],0,by show(w.heap.push _)[w.heap.size]? =_;simp,F,aF⟩
theorem Aa.ext{w w':World}{g:Nat}{ks:aO}(h:Aa w g ks)(e:X w w'):Aa w' g ks:=by
 obtain⟨es,c,hb,j,u⟩:=h;exact⟨es,c,(e.block g (Array.getElem?_eq_some_iff.1 hb).1).trans hb,j,u⟩
section
variable {P:Program} {t k e:TypeId} {w:World} {g:Nat} {ks:aO} {key:Value} {kl:Lit}
theorem He(t:TypeId)(w:World):(Instr.makeMap t none).run P w= .ok (.map (some w.heap.size)) (w.alloc (.map #[] 0)):=by
 simp[Instr.makeMap,newObj,Sem.run]
end
end
theorem YT(p:ByteArray->Bool)(g:Nat)(aq:Array Value)(j:aT)(a:aN)(n c:Nat)(w:World)(a0:∀ag w,(callFunc g ag).run prog w= .ok (.enter g ag) w)(hn:j.length=n)(a1:n<=4611686018427387904)(ap:aK w a (j.map bM))
 (am:∀y∈j,∀w',X w w'->Calls prog g (#[.string y]++aq) w' fun e aE=>e= .returned (.bool (p y))/\X w' aE):
 Calls prog 212 #[.slice a n c,.func (.func g) #[] aq] w fun e w'=>∃z:Int,e= .returned (.int .i64 z)/\decide (0<=z)=j.any p/\X w w':=by
 obtain⟨aa,ax,aw⟩:=aW hn ap am;clear hn ap am;go_enter func212,ntmps212;go_wp2;go_loopw [8] (fun i wr=>∃k:Nat,k<=n/\i= .int .i64 (k:Int)/\(j.take k).any p=false/\X w wr) (fun i _=>n - (intOf i).toNat)
 case atStart=>exact⟨0,J,F,aF,X.refl _⟩
 case round=>
  obtain⟨k,hk,rfl,an,ai⟩:=hrel;obtain⟨u,af⟩:=aB ai an;clear ai an;by_cases az:k<n
  ·obtain⟨x,I⟩:∃x,j[k]? =some x:=⟨j[k]'(by rw[aa.out];exact az),aF⟩;obtain⟨A,rfl,al⟩:∃A,a=some A/\w.cell? (A.add k)=some (.string x):=by
    obtain⟨g,o,rfl,h⟩:=ax.gQ (by rw[length_map,aa.out];omega);exact⟨_,F,by rw[dn];exact h k _ (DC I)⟩
   have a2:=gW al u;have R:=O (aw x (mem_of_getElem? I) wr u);have ao:(j.take (k+1)).any p=p x:=by rw[take_add_one,I,any_append,af.out];simp
   have ac:=O ao;have ad:p x=true->j.any p=true:=fun h=>any_eq_true.2 ⟨x,mem_of_getElem? I,h⟩;clear al I ao;cases E:p x with
   |true=>
    rw[E]at R;have ab:=O (ad E);clear ad E ac;go_wp2_with fail;refine R.mono ?_;rintro e w' ⟨rfl,e2⟩;go_wp2_with fail;go_ret;exact⟨_,F,by rw[ab.out];exact aQ J,u.ext e2⟩
   |false=>
    rw[E]at R ac;clear ad E;go_wp2_with fail;refine R.mono ?_;rintro e w' ⟨rfl,e2⟩;go_wp2_with fail;have ar:=O (u.ext e2);clear e2;go_roundw
    case rel=>exact⟨k+1,J,by go_num,ac,ar⟩
    case measure=>simp[intOf];omega
  ·obtain rfl:k=n:=J;have ae:=af.out;rw[take_of_length_le (by rw[aa.out];exact Nat.le_refl _)]at ae;have ab:=O ae;clear ae;go_wp2;go_ret;exact⟨-1,F,by rw[ab.out];rfl,u⟩
theorem QO(p:ByteArray->Bool)(g:Nat)(u:Array Value)(j:aT)(a:aN)(n c:Nat)(w:World)(R:∀E w,(callFunc g E).run prog w= .ok (.enter g E) w)(hn:j.length=n)(ae:n<=4611686018427387904)(ac:aK w a (j.map bM))
 (ab:∀y∈j,∀w',X w w'->Calls prog g (#[.string y]++u) w' fun e ag=>e= .returned (.bool (p y))/\X w' ag):
 Calls prog 170 #[.slice a n c,.func (.func g) #[] u] w fun e w'=>e= .returned (.bool (j.any p))/\X w w':=by
 have aa:=O (YT p g u j a n c w R hn ae ac ab);clear ab ac hn R;generalize j.any p=b at*;generalize Value.func (.func g) #[] u=ai at*;go_enter func170,ntmps170;go_wp2_with fail;refine aa.mono ?_;rintro e al ⟨z,rfl,af,I⟩;have ad:=O I;clear I aa;go_wp2_with fail;go_ret;exact⟨by first|rfl|rw[af],ad⟩
theorem YU(x:ByteArray)(u:aT)(a:aN)(n c:Nat)(w:World)(hn:u.length=n)(ao:n<=4611686018427387904)(ag:aK w a (u.map bM)):
 Calls prog 174 #[.slice a n c,.string x] w fun e w'=>∃z:Int,e= .returned (.int .i64 z)/\(0<=z↔x∈u)/\w=w':=by
 obtain⟨aa,am⟩:=aB hn ag;clear hn ag;go_enter func174,ntmps174;go_wp2
 go_loop [5,8] (fun _ i=>∃k:Nat,k<=n/\i= .int .i64 (k:Int)/\Hid (x∉u.take k)) (fun _ i=>n - (intOf i).toNat)
 case atStart=>exact⟨0,J,F,O aF⟩
 case round=>
  obtain⟨k,hk,rfl,ab⟩:=hrel;by_cases an:k<n
  ·obtain⟨y,R⟩:∃y,u[k]? =some y:=⟨u[k]'(by rw[aa.out];exact an),aF⟩;obtain⟨A,rfl,ap⟩:∃A,a=some A/\w.cell? (A.add k)=some (.string y):=by
    obtain⟨g,o,rfl,h⟩:=am.gQ (by rw[length_map,aa.out];omega);exact⟨_,F,by rw[dn];exact h k _ (DC R)⟩
   have ae:=O (mem_of_getElem? R);have af:y≠x->x∉u.take (k+1):=by
    intro h j;rw[take_add_one,R,mem_append]at j;rcases j with j|j
    ·exact ab j
    ·simp at j;exact h j.symm
   have ad:=O af;have E:=(show((x.toList==y.toList)=true↔y=x)from(FQ x y).trans eq_comm);clear R af;by_cases I:y=x
   ·subst I;have q:=E.2 F;clear E;go_wp2;go_ret;exact⟨_,F,⟨fun _=>ae,fun _=>by omega⟩,F⟩
   ·have q:_=false:=Bool.eq_false_iff.2 fun h=>I (E.1 h);have al:=O (ad I);clear E ae I ad;go_wp2
    go_round
    case rel=>exact⟨k+1,J,by go_num,al⟩
    case measure=>simp[intOf];omega
  ·obtain rfl:k=n:=J;have ac:=ab.out;rw[take_of_length_le (by rw[aa.out];exact Nat.le_refl _)]at ac;have ai:=O ac;clear ac ab;go_wp2;go_ret;exact⟨-1,F,⟨fun h=>absurd h aX,fun h=>absurd h ai⟩,F⟩
theorem QS(x:ByteArray)(j:aT)(a:aN)(n c:Nat)(w:World)(hn:j.length=n)(aa:n<=4611686018427387904)(E:aK w a (j.map bM)):
 Calls prog 118 #[.slice a n c,.string x] w fun e w'=>∃b:Bool,e= .returned (.bool b)/\(b=true↔x∈j)/\w=w':=by
 have u:=O (YU x j a n c w hn aa E);clear E hn;go_enter func118,ntmps118;go_wp2_with fail;refine u.mono ?_;rintro e ab ⟨z,rfl,I,rfl⟩;have R:=O I;clear u I;go_wp2_with fail;go_ret;exact⟨_,F,by simpa using R.out,F⟩
def lN:Int->Value:= .int .i64
theorem KF{j:List Int}{k:Nat}{x:Int}(h:j[k]? =some x):(j.map lN)[k]? =some (.int .i64 x):=by rw[List.getElem?_map,h];rfl
theorem BR:AX prog 3:=⟨⟨_,underlying3,F⟩,au⟩
theorem YV(p:Int->Bool)(g:Nat)(aq:Array Value)(j:List Int)(a:aN)(n c:Nat)(w:World)(a0:∀ag w,(callFunc g ag).run prog w= .ok (.enter g ag) w)(hn:j.length=n)(a1:n<=4611686018427387904)(ap:aK w a (j.map lN))
 (am:∀y∈j,∀w',X w w'->Calls prog g (#[.int .i64 y]++aq) w' fun e aE=>e= .returned (.bool (p y))/\X w' aE):
 Calls prog 301 #[.slice a n c,.func (.func g) #[] aq] w fun e w'=>∃z:Int,e= .returned (.int .i64 z)/\decide (0<=z)=j.any p/\X w w':=by
 obtain⟨aa,ax,aw⟩:=aW hn ap am;clear hn ap am;go_enter func301,ntmps301;go_wp2;go_loopw [8] (fun i wr=>∃k:Nat,k<=n/\i= .int .i64 (k:Int)/\(j.take k).any p=false/\X w wr) (fun i _=>n - (intOf i).toNat)
 case atStart=>exact⟨0,J,F,aF,X.refl _⟩
 case round=>
  obtain⟨k,hk,rfl,an,ai⟩:=hrel;obtain⟨u,af⟩:=aB ai an;clear ai an;by_cases az:k<n
  ·obtain⟨x,I⟩:∃x,j[k]? =some x:=⟨j[k]'(by rw[aa.out];exact az),aF⟩;obtain⟨A,rfl,al⟩:∃A,a=some A/\w.cell? (A.add k)=some (.int .i64 x):=by
    obtain⟨g,o,rfl,h⟩:=ax.gQ (by rw[length_map,aa.out];omega);exact⟨_,F,by rw[dn];exact h k _ (KF I)⟩
   have a2:=gW al u;have R:=O (aw x (mem_of_getElem? I) wr u);have ao:(j.take (k+1)).any p=p x:=by rw[take_add_one,I,any_append,af.out];simp
   have ac:=O ao;have ad:p x=true->j.any p=true:=fun h=>any_eq_true.2 ⟨x,mem_of_getElem? I,h⟩;clear al I ao;cases E:p x with
   |true=>
    rw[E]at R;have ab:=O (ad E);clear ad E ac;go_wp2_with fail;refine R.mono ?_;rintro e w' ⟨rfl,e2⟩;go_wp2_with fail;go_ret;exact⟨_,F,by rw[ab.out];exact aQ J,u.ext e2⟩
   |false=>
    rw[E]at R ac;clear ad E;go_wp2_with fail;refine R.mono ?_;rintro e w' ⟨rfl,e2⟩;go_wp2_with fail;have ar:=O (u.ext e2);clear e2;go_roundw
    case rel=>exact⟨k+1,J,by go_num,ac,ar⟩
    case measure=>simp[intOf];omega
  ·obtain rfl:k=n:=J;have ae:=af.out;rw[take_of_length_le (by rw[aa.out];exact Nat.le_refl _)]at ae;have ab:=O ae;clear ae;go_wp2;go_ret;exact⟨-1,F,by rw[ab.out];rfl,u⟩
theorem YW(p:Int->Bool)(g:Nat)(u:Array Value)(j:List Int)(a:aN)(n c:Nat)(w:World)(R:∀E w,(callFunc g E).run prog w= .ok (.enter g E) w)(hn:j.length=n)(ae:n<=4611686018427387904)(ac:aK w a (j.map lN))
 (ab:∀y∈j,∀w',X w w'->Calls prog g (#[.int .i64 y]++u) w' fun e ag=>e= .returned (.bool (p y))/\X w' ag):
 Calls prog 241 #[.slice a n c,.func (.func g) #[] u] w fun e w'=>e= .returned (.bool (j.any p))/\X w w':=by
 have aa:=O (YV p g u j a n c w R hn ae ac ab);clear ab ac hn R;generalize j.any p=b at*;generalize Value.func (.func g) #[] u=ai at*;go_enter func241,ntmps241;go_wp2_with fail;refine aa.mono ?_;rintro e al ⟨z,rfl,af,I⟩;have ad:=O I;clear I aa;go_wp2_with fail;go_ret;exact⟨by first|rfl|rw[af],ad⟩
theorem YX(x:Int)(u:List Int)(a:aN)(n c:Nat)(w:World)(hn:u.length=n)(ao:n<=4611686018427387904)(ag:aK w a (u.map lN)):
 Calls prog 90 #[.slice a n c,.int .i64 x] w fun e w'=>∃z:Int,e= .returned (.int .i64 z)/\(0<=z↔x∈u)/\w=w':=by
 obtain⟨aa,am⟩:=aB hn ag;clear hn ag;go_enter func90,ntmps90;go_wp2
 go_loop [5,8] (fun _ i=>∃k:Nat,k<=n/\i= .int .i64 (k:Int)/\Hid (x∉u.take k)) (fun _ i=>n - (intOf i).toNat)
 case atStart=>exact⟨0,J,F,O aF⟩
 case round=>
  obtain⟨k,hk,rfl,ab⟩:=hrel;by_cases an:k<n
  ·obtain⟨y,R⟩:∃y,u[k]? =some y:=⟨u[k]'(by rw[aa.out];exact an),aF⟩;obtain⟨A,rfl,ap⟩:∃A,a=some A/\w.cell? (A.add k)=some (.int .i64 y):=by
    obtain⟨g,o,rfl,h⟩:=am.gQ (by rw[length_map,aa.out];omega);exact⟨_,F,by rw[dn];exact h k _ (KF R)⟩
   have ae:=O (mem_of_getElem? R);have af:y≠x->x∉u.take (k+1):=by
    intro h j;rw[take_add_one,R,mem_append]at j;rcases j with j|j
    ·exact ab j
    ·simp at j;exact h j.symm
   have ad:=O af;have E:=(show((x==y)=true↔y=x)from by rw[beq_iff_eq];exact eq_comm);clear R af;by_cases I:y=x
   ·subst I;have q:=E.2 F;clear E;go_wp2;go_ret;exact⟨_,F,⟨fun _=>ae,fun _=>by omega⟩,F⟩
   ·have q:_=false:=Bool.eq_false_iff.2 fun h=>I (E.1 h);have al:=O (ad I);clear E ae I ad;go_wp2
    go_round
    case rel=>exact⟨k+1,J,by go_num,al⟩
    case measure=>simp[intOf];omega
  ·obtain rfl:k=n:=J;have ac:=ab.out;rw[take_of_length_le (by rw[aa.out];exact Nat.le_refl _)]at ac;have ai:=O ac;clear ac ab;go_wp2;go_ret;exact⟨-1,F,⟨fun h=>absurd h aX,fun h=>absurd h ai⟩,F⟩
theorem Es(x:Int)(j:List Int)(a:aN)(n c:Nat)(w:World)(hn:j.length=n)(aa:n<=4611686018427387904)(E:aK w a (j.map lN)):
 Calls prog 50 #[.slice a n c,.int .i64 x] w fun e w'=>∃b:Bool,e= .returned (.bool b)/\(b=true↔x∈j)/\w=w':=by
 have u:=O (YX x j a n c w hn aa E);clear E hn;go_enter func50,ntmps50;go_wp2_with fail;refine u.mono ?_;rintro e ab ⟨z,rfl,I,rfl⟩;have R:=O I;clear u I;go_wp2_with fail;go_ret;exact⟨_,F,by simpa using R.out,F⟩
section
open Go Go.RowKit Go.Maps Go.MapKept Go.WideShapes
theorem YZ{j:aT}{k:Nat}{x:ByteArray}(h:j[k]? =some x)(hn:(j.take k).Nodup):(x∉j.take k->(j.take (k+1)).Nodup)/\(x∈j.take k->¬j.Nodup):=by
 have ht:j.take (k+1)=j.take k++[x]:=by rw[take_add_one,h];rfl
 refine⟨fun u=> ?_,fun u I=> ?_⟩
 ·rw[ht,nodup_append];refine⟨hn,aF,?_⟩;intro a ha b hb;rw[mem_singleton]at hb;subst hb;intro e;subst e;exact u ha
 ·have E:(j.take (k+1)).Nodup:=I.sublist (take_sublist _ _);rw[ht,nodup_append]at E;exact E.2.2 x u x aF F
theorem QT(j:aT)(a:aN)(n c:Nat)(w:World)(hn:j.length=n)(aw:n<=4611686018427387904)(aE:n<=c)(ap:aK w a (j.map bM)):
 Calls prog 245 #[.slice a n c] w fun e w'=>∃b:Bool,e= .returned (.bool b)/\(b=true↔¬j.Nodup)/\X w w':=by
 obtain⟨I,af⟩:=aB hn ap;clear hn ap;go_enter func245,ntmps245;go_wp2;go_loopw [7] (fun i wr=>∃k:Nat,k<=n/\i= .int .i64 (k:Int)/\(j.take k).Nodup/\X w wr) (fun i _=>n - (intOf i).toNat)
 case atStart=>exact⟨0,J,F,aF,X.refl _⟩
 case round=>
  obtain⟨k,hk,rfl,ao,ag⟩:=hrel;obtain⟨u,ab⟩:=aB ag ao;clear ag ao;by_cases ar:k<n
  ·obtain⟨x,ae⟩:∃x,j[k]? =some x:=⟨j[k]'(by rw[I.out];exact ar),aF⟩;obtain⟨A,rfl,ai⟩:∃A,a=some A/\w.cell? (A.add k)=some (.string x):=by
    obtain⟨g,o,rfl,h⟩:=af.gQ (by rw[length_map,I.out];omega);exact⟨_,F,by rw[dn];exact h k _ (DC ae)⟩
   have ax:=gW ai u;have R:=O (YZ ae ab);have am:aK wr (some A) ((j.take k).map bM):=by rw[map_take];exact(af.ext u).take k
   have an:(j.take k).length=k:=by rw[length_take,I.out];omega
   have al:=O (QS x (j.take k) (some A) k c wr an J am);have az:k<=c:=J;clear ai ae am an;go_wp2_with fail;refine al.mono ?_;rintro e a0 ⟨b,rfl,hb,rfl⟩;have E:=O hb;clear hb al;cases b with
   |true=>
    have aa:=O (R.2 (E.1 F));clear E R;go_wp2_with fail;go_ret;exact⟨true,F,(by first|exact⟨fun _=>aa,fun _=>rfl⟩|exact⟨fun _=>aa,fun _=>trivial⟩|simpa using aa.out),u⟩
   |false=>
    have aq:=O (R.1 fun h=>by have:=E.2 h;cases this);clear R E ab;go_wp2_with fail;go_roundw
    case rel=>exact⟨k+1,J,by go_num,aq,u⟩
    case measure=>simp[intOf];omega
  ·obtain rfl:k=n:=J;have ad:=ab.out;rw[take_of_length_le (by rw[I.out];exact Nat.le_refl _)]at ad;have ac:=O ad;clear ad;go_wp2;go_ret;exact⟨false,F,(by first|exact⟨fun h=>(Bool.noConfusion h),fun h=>absurd ac.out h⟩|exact ac|simpa using ac.out),u⟩
end
section
open Go Go.RowKit Go.Maps Go.MapKept Go.WideShapes
theorem Y0{j:List Int}{k:Nat}{x:Int}(h:j[k]? =some x)(hn:(j.take k).Nodup):(x∉j.take k->(j.take (k+1)).Nodup)/\(x∈j.take k->¬j.Nodup):=by
 have ht:j.take (k+1)=j.take k++[x]:=by rw[take_add_one,h];rfl
 refine⟨fun u=> ?_,fun u I=> ?_⟩
 ·rw[ht,nodup_append];refine⟨hn,aF,?_⟩;intro a ha b hb;rw[mem_singleton]at hb;subst hb;intro e;subst e;exact u ha
 ·have E:(j.take (k+1)).Nodup:=I.sublist (take_sublist _ _);rw[ht,nodup_append]at E;exact E.2.2 x u x aF F
theorem Y1(j:List Int)(a:aN)(n c:Nat)(w:World)(hn:j.length=n)(aw:n<=4611686018427387904)(aE:n<=c)(ap:aK w a (j.map lN)):
 Calls prog 246 #[.slice a n c] w fun e w'=>∃b:Bool,e= .returned (.bool b)/\(b=true↔¬j.Nodup)/\X w w':=by
 obtain⟨I,af⟩:=aB hn ap;clear hn ap;go_enter func246,ntmps246;go_wp2;go_loopw [7] (fun i wr=>∃k:Nat,k<=n/\i= .int .i64 (k:Int)/\(j.take k).Nodup/\X w wr) (fun i _=>n - (intOf i).toNat)
 case atStart=>exact⟨0,J,F,aF,X.refl _⟩
 case round=>
  obtain⟨k,hk,rfl,ao,ag⟩:=hrel;obtain⟨u,ab⟩:=aB ag ao;clear ag ao;by_cases ar:k<n
  ·obtain⟨x,ae⟩:∃x,j[k]? =some x:=⟨j[k]'(by rw[I.out];exact ar),aF⟩;obtain⟨A,rfl,ai⟩:∃A,a=some A/\w.cell? (A.add k)=some (.int .i64 x):=by
    obtain⟨g,o,rfl,h⟩:=af.gQ (by rw[length_map,I.out];omega);exact⟨_,F,by rw[dn];exact h k _ (KF ae)⟩
   have ax:=gW ai u;have R:=O (Y0 ae ab);have am:aK wr (some A) ((j.take k).map lN):=by rw[map_take];exact(af.ext u).take k
   have an:(j.take k).length=k:=by rw[length_take,I.out];omega
   have al:=O (Es x (j.take k) (some A) k c wr an J am);have az:k<=c:=J;clear ai ae am an;go_wp2_with fail;refine al.mono ?_;rintro e a0 ⟨b,rfl,hb,rfl⟩;have E:=O hb;clear hb al;cases b with
   |true=>
    have aa:=O (R.2 (E.1 F));clear E R;go_wp2_with fail;go_ret;exact⟨true,F,(by first|exact⟨fun _=>aa,fun _=>rfl⟩|exact⟨fun _=>aa,fun _=>trivial⟩|simpa using aa.out),u⟩
   |false=>
    have aq:=O (R.1 fun h=>by have:=E.2 h;cases this);clear R E ab;go_wp2_with fail;go_roundw
    case rel=>exact⟨k+1,J,by go_num,aq,u⟩
    case measure=>simp[intOf];omega
  ·obtain rfl:k=n:=J;have ad:=ab.out;rw[take_of_length_le (by rw[I.out];exact Nat.le_refl _)]at ad;have ac:=O ad;clear ad;go_wp2;go_ret;exact⟨false,F,(by first|exact⟨fun h=>(Bool.noConfusion h),fun h=>absurd ac.out h⟩|exact ac|simpa using ac.out),u⟩
end
end Go.Proofs.YtjlhhnkhcbpnjaaGreatDoor
