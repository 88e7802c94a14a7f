/- Laws that the row leans on; no condition. -/
import Derived.Test.YtjlhhnkhcbpnjaaGreatDoorJM9
import Derived.Test.YtjlhhnkhcbpnjaaGreatDoorJM11
import Derived.WideKeyArr
namespace Go.Proofs.YtjlhhnkhcbpnjaaGreatDoor
open Go Go.RowKit List Tryz
set_option linter.unusedVariables false
set_option linter.unusedSimpArgs false
set_option maxHeartbeats 40000000
set_option maxRecDepth 100000
section
open Go Go.RowKit Go.Maps Go.MapKept Go.WideShapes
structure gB(M:Nat->Prop)(w w':World):Prop where
 os:w'.os=w.os
 tape:w'.tape=w.tape
 output:w'.output=w.output
 size:w.heap.size<=w'.heap.size
 block:∀k,k<w.heap.size->¬M k->w'.heap[k]? =w.heap[k]?
section
variable {M M':Nat->Prop} {w w' w0 a b c:World} {g B:Nat}
theorem gB.refl(M:Nat->Prop)(w:World):gB M w w:=⟨F,F,F,Nat.le_refl _,fun _ _ _=>rfl⟩
theorem gB.wC(e:X w w'):gB M w w':=⟨e.os,e.tape,e.output,e.size,fun k hk _=>e.block k hk⟩
theorem gB.QM(u:aU w g w')(j:M g):gB M w w':=by grind [aU,gB]
theorem gB.trans(h:gB M a b)(k:gB M' b c)(j:∀x,x<a.heap.size->M' x->M x):gB M a c:=by grind [gB]
theorem gB.same(h:gB M a b)(k:gB M b c):gB M a c:=h.trans k (fun _ _ h=>h)
theorem gB.mono(h:gB M a b)(j:∀x,x<a.heap.size->M x->M' x):gB M' a b:=by grind [gB]
theorem gB.Ep(h:gB M w w')(e:X w0 w)(u:∀x,x<w0.heap.size->¬M x):X w0 w':=
 ⟨h.os.trans e.os,h.tape.trans e.tape,h.output.trans e.output,Nat.le_trans e.size h.size,fun i j=>(h.block i (Nat.lt_of_lt_of_le j e.size) (u i j)).trans (e.block i j)⟩
theorem ah.mut{vs:aO}{T:TypeId}(h:ah w g vs T)(m:gB M w w')(j:¬M g):ah w' g vs T:=by grind [ah,gB]
theorem f_.mut{K V:Type}[DecidableEq K]{kv:K->Value}{vv:V->Value}{hs:List (K×V)}(h:f_ kv vv w g hs)(m:gB M w w')(j:¬M g):f_ kv vv w' g hs:=h.keep (m.block g h.lt j)
def jr(w:World)(g:Nat):Prop:=∃o:Obj,w.heap[g]? =some o/\∀c e z,o≠.cells c e z
theorem jr.map{K V:Type}[DecidableEq K]{kv:K->Value}{vv:V->Value}{hs:List (K×V)}(h:f_ kv vv w g hs):jr w g:=by grind [f_,jr]
theorem jr.cell(h:jr w g)(off:Nat):w.cell? ⟨g,off,none⟩=none:=by grind [jr,World.cell?]
theorem bJ.mut{a:aN}{xs:aO}(h:bJ w B a xs)(m:gB M w w')(I:∀g,M g->B<=g->jr w g):bJ w' B a xs:=by
 rcases h with h|⟨b,off,ha,hb,h⟩
 ·exact .inl h
 by_cases ab:xs=[]
 ·exact .inl ab
 refine .inr ⟨b,off,ha,hb,fun i u aa=> ?_⟩;have j:=h i u aa;refine wu j (m.block b (block_lt_of_cell j) (fun R=> ?_));have E:=(I b R hb).cell (off+i);rw[E]at j;cases j
theorem bJ.mono{B':Nat}{a:aN}{xs:aO}(h:bJ w B a xs)(j:B'<=B):bJ w B' a xs:=by grind [bJ]
theorem bJ.ext'{a:aN}{xs:aO}(h:bJ w B a xs)(e:X w w'):bJ w' B a xs:=h.turn (fun k _ hk=>e.block k hk)
theorem bJ.QN{a:aN}{xs:aO}(h:bJ w B a xs)(u:aU w g w')(j:g<B∨jr w g):bJ w' B a xs:=
 h.mut (M:=fun x=>x=g) (gB.QM u F) (fun x E hb=>by
  subst E;rcases j with j|j
  ·omega
  ·exact j)
end
def eX(x:aj):Value:= .agg (x.map Y).toArray
theorem YQ{a b:UInt8}(h:Y a=Y b):a=b:=by
 unfold Y at h;injection h with _ h;exact UInt8.toNat_inj.1 J
theorem xJ{x y:aj}(h:eX x=eX y):x=y:=by
 unfold eX at h;injection h with h;have j:x.map Y=y.map Y:=by simpa using congrArg Array.toList h
 exact(map_inj_right (fun _ _=>YQ)).1 j
theorem KE{α β:Type}(g:α->Option β):∀(l:List α),(∀i∈l,∃y,g i=some y)->∃ys,l.mapM g=some ys
 |[],_=>⟨[],F⟩
 |a::l,h=>by
  obtain⟨y,hy⟩:=h a aF;obtain⟨ys,u⟩:=KE g l (fun i j=>h i (mem_cons_of_mem _ j));exact⟨y::ys,by rw[mapM_cons,hy,u];rfl⟩
theorem YR{m:aj}(j:m.length=32):∃l,keyOf prog 31 (eX m)=some l:=by
 unfold eX;have ht:=underlying31;have hk:prog.keyType 31=true:=au;have hc:prog.cellsOf 31=32:=au;have E:prog.cellsOf 5=1:=au;have hf:(Value.agg (m.map Y).toArray).formed prog 31=true:=by simp[Value.formed,ht,hc,j]
 obtain⟨d,I⟩:∃d,prog.types.size=d+1:=Nat.exists_eq_succ_of_ne_zero (by
  intro h;have:decide (prog.types.size=0)=false:=au;rw[h]at this;simp at this)
 unfold keyOf;rw[ht];simp only[hk,hf,Bool.and_self,if_true];have ac:(Value.agg (m.map Y).toArray).cells.toList=m.map Y:=F;rw[ac,I];unfold Program.keyLits;rw[ht];simp only[length_map,j,hc,if_true,E,Nat.mul_one];obtain⟨ys,ae⟩:=KE (fun i=>prog.keyLits (d+1) 5 (((m.map Y).drop i).take 1)) (List.range 32) (fun i aa=>by
  have ab:i<m.length:=by rw[j];exact mem_range.1 aa
  have R:((m.map Y).drop i).take 1=[Y m[i]]:=by
   rw[<-map_drop,<-map_take,drop_eq_getElem_cons ab];rfl
  refine⟨[.int .u8 (m[i].toNat:Int)],?_⟩;rw[R];unfold Program.keyLits;rw[underlying5];have af:=m[i].toNat_lt;have ad:(Lit.int .u8 (m[i].toNat:Int)).wf=true:=by
   have u:IntKind.u8.min=0:=aX;have e2:IntKind.u8.max=255:=aX;show(decide (IntKind.u8.min<=(m[i].toNat:Int))&&decide ((m[i].toNat:Int)<=IntKind.u8.max))=true;rw[u,e2,aQ J,aQ J];rfl
  simp only[Y,ad,and_self,if_true])
 rw[ae];exact⟨_,F⟩
def Gb(x:aj):Prop:=x.length=32
theorem G_:GY prog 31 eX Gb where
 keyed:=Keyed.of_law (WideMaps.ArrKey.law (e:=5) (n:=32) ⟨underlying31,au,au,au⟩)
 key x h:=YR h
 inj _ _ h:=xJ h
theorem YS{m:aj}(j:m.length=16):∃l,keyOf prog 29 (eX m)=some l:=by
 unfold eX;have ht:=underlying29;have hk:prog.keyType 29=true:=au;have hc:prog.cellsOf 29=16:=au;have E:prog.cellsOf 5=1:=au;have hf:(Value.agg (m.map Y).toArray).formed prog 29=true:=by simp[Value.formed,ht,hc,j]
 obtain⟨d,I⟩:∃d,prog.types.size=d+1:=Nat.exists_eq_succ_of_ne_zero (by
  intro h;have:decide (prog.types.size=0)=false:=au;rw[h]at this;simp at this)
 unfold keyOf;rw[ht];simp only[hk,hf,Bool.and_self,if_true];have ac:(Value.agg (m.map Y).toArray).cells.toList=m.map Y:=F;rw[ac,I];unfold Program.keyLits;rw[ht];simp only[length_map,j,hc,if_true,E,Nat.mul_one];obtain⟨ys,ae⟩:=KE (fun i=>prog.keyLits (d+1) 5 (((m.map Y).drop i).take 1)) (List.range 16) (fun i aa=>by
  have ab:i<m.length:=by rw[j];exact mem_range.1 aa
  have R:((m.map Y).drop i).take 1=[Y m[i]]:=by
   rw[<-map_drop,<-map_take,drop_eq_getElem_cons ab];rfl
  refine⟨[.int .u8 (m[i].toNat:Int)],?_⟩;rw[R];unfold Program.keyLits;rw[underlying5];have af:=m[i].toNat_lt;have ad:(Lit.int .u8 (m[i].toNat:Int)).wf=true:=by
   have u:IntKind.u8.min=0:=aX;have e2:IntKind.u8.max=255:=aX;show(decide (IntKind.u8.min<=(m[i].toNat:Int))&&decide ((m[i].toNat:Int)<=IntKind.u8.max))=true;rw[u,e2,aQ J,aQ J];rfl
  simp only[Y,ad,and_self,if_true])
 rw[ae];exact⟨_,F⟩
def og(x:aj):Prop:=x.length=16
theorem vg:GY prog 29 eX og where
 keyed:=Keyed.of_law (WideMaps.ArrKey.law (e:=5) (n:=16) ⟨underlying29,au,au,au⟩)
 key x h:=YS h
 inj _ _ h:=xJ h
end
section
open Go Go.RowKit Go.Maps Go.MapKept Go.WideShapes
def Aa(w:World)(g:Nat)(ks:aO):Prop:=∃es j,w.heap[g]? =some (.map es j)/\es.toList.map MapEntry.key=ks/\∀x∈es.toList,x.val= .bool true
theorem Aa.lt{w:World}{g:Nat}{ks:aO}(h:Aa w g ks):g<w.heap.size:=by grind [Aa]
theorem Aa.new(w:World):Aa (w.alloc (.map #[] 0)) w.heap.size []:=⟨#[],0,by show(w.heap.push _)[w.heap.size]? =_;simp,F,aF⟩
theorem Aa.ext{w w':World}{g:Nat}{ks:aO}(h:Aa w g ks)(e:X w w'):Aa w' g ks:=by
 obtain⟨es,c,hb,j,u⟩:=h;exact⟨es,c,(e.block g (Array.getElem?_eq_some_iff.1 hb).1).trans hb,j,u⟩
section
variable {P:Program} {t k e:TypeId} {w:World} {g:Nat} {ks:aO} {key:Value} {kl:Lit}
theorem He(t:TypeId)(w:World):(Instr.makeMap t none).run P w= .ok (.map (some w.heap.size)) (w.alloc (.map #[] 0)):=by
 simp[Instr.makeMap,newObj,Sem.run]
end
end
section
open Go Go.RowKit
set_option maxRecDepth 100000
theorem Km{G:Prop}(e:G:=by
 obtain⟨HN,HX,HP⟩:=aW hn hx hp;clear hn hx hp;first|go_enter func212,ntmps212|go_enter func301,ntmps301
 go_wp2;go_loopw [8] (fun i wr=>∃k:Nat,k<=n/\i= .int .i64 (k:Int)/\(ls.take k).any p=false/\X w wr) (fun i _=>n - (intOf i).toNat)
 case atStart=>exact⟨0,J,F,aF,X.refl _⟩
 case round=>
  obtain⟨k,hk,rfl,ou,e1⟩:=hrel;obtain⟨E1,Cu⟩:=aB e1 ou;clear e1 ou;by_cases j3:k<n
  ·obtain⟨x,pQ⟩:∃x,ls[k]? =some x:=⟨ls[k]'(by rw[HN.out];exact j3),aF⟩;first
    |obtain⟨A,rfl,nu⟩:∃A,a=some A/\w.cell? (A.add k)=some (.string x):=by
      obtain⟨g,o,rfl,h⟩:=HX.gQ (by rw[length_map,HN.out];omega);exact⟨_,F,by rw[dn];exact h k _ (DC pQ)⟩
    |obtain⟨A,rfl,nu⟩:∃A,a=some A/\w.cell? (A.add k)=some (.int .i64 x):=by
      obtain⟨g,o,rfl,h⟩:=HX.gQ (by rw[length_map,HN.out];omega);exact⟨_,F,by rw[dn];exact h k _ (KF pQ)⟩
   have hcl:=gW nu E1;have Fj:=O (HP x (mem_of_getElem? pQ) wr E1);have Cr:(ls.take (k+1)).any p=p x:=by rw[take_add_one,pQ,any_append,Cu.out];simp
   have HS:=O Cr;have Gc:p x=true->ls.any p=true:=fun h=>any_eq_true.2 ⟨x,mem_of_getElem? pQ,h⟩;clear nu pQ Cr;cases hq:p x with
   |true=>
    rw[hq]at Fj;have HR:=O (Gc hq);clear Gc hq HS;go_wp2_with fail;refine Fj.mono ?_;rintro e w' ⟨rfl,e2⟩;go_wp2_with fail;go_ret;exact⟨_,F,by rw[HR.out];exact aQ J,E1.ext e2⟩
   |false=>
    rw[hq]at Fj HS;clear Gc hq;go_wp2_with fail;refine Fj.mono ?_;rintro e w' ⟨rfl,e2⟩;go_wp2_with fail;have E2:=O (E1.ext e2);clear e2;go_roundw
    case rel=>exact⟨k+1,J,by go_num,HS,E2⟩
    case measure=>simp[intOf];omega
  ·obtain rfl:k=n:=J;have xL:=Cu.out;rw[take_of_length_le (by rw[HN.out];exact Nat.le_refl _)]at xL;have HR:=O xL;clear xL;go_wp2;go_ret;exact⟨-1,F,by rw[HR.out];rfl,E1⟩):G:=e
theorem YT(p:ByteArray->Bool)(g:Nat)(u:Array Value)(ls:aT)(a:aN)(n c:Nat)(w:World)(I:∀j w,(callFunc g j).run prog w= .ok (.enter g j) w)(hn:ls.length=n)(Cw:n<=4611686018427387904)(hx:aK w a (ls.map bM))
 (hp:∀y∈ls,∀w',X w w'->Calls prog g (#[.string y]++u) w' fun e E=>e= .returned (.bool (p y))/\X w' E):
 Calls prog 212 #[.slice a n c,.func (.func g) #[] u] w fun e w'=>∃z:Int,e= .returned (.int .i64 z)/\decide (0<=z)=ls.any p/\X w w':=Km
theorem Kn{G:Prop}(e:G:=by
 first|have hi:=O (YT p g lb ls a n c w eg hn Cw hx hp)|have hi:=O (YV p g lb ls a n c w eg hn Cw hx hp)
 clear hp hx hn eg;generalize ls.any p=b at*;generalize Value.func (.func g) #[] lb=fv at*;first|go_enter func170,ntmps170|go_enter func241,ntmps241
 go_wp2_with fail;refine hi.mono ?_;rintro e w1 ⟨z,rfl,hz,e1⟩;have E1:=O e1;clear e1 hi;go_wp2_with fail;go_ret;exact⟨by first|rfl|rw[hz],E1⟩):G:=e
theorem QO(p:ByteArray->Bool)(g:Nat)(lb:Array Value)(ls:aT)(a:aN)(n c:Nat)(w:World)(eg:∀j w,(callFunc g j).run prog w= .ok (.enter g j) w)(hn:ls.length=n)(Cw:n<=4611686018427387904)(hx:aK w a (ls.map bM))
 (hp:∀y∈ls,∀w',X w w'->Calls prog g (#[.string y]++lb) w' fun e u=>e= .returned (.bool (p y))/\X w' u):
 Calls prog 170 #[.slice a n c,.func (.func g) #[] lb] w fun e w'=>e= .returned (.bool (ls.any p))/\X w w':=Kn
theorem KM{G:Prop}(e:G:=by
 obtain⟨HN,HX⟩:=aB hn hx;clear hn hx;first|go_enter func174,ntmps174|go_enter func90,ntmps90
 go_wp2
 go_loop [5,8] (fun _ i=>∃k:Nat,k<=n/\i= .int .i64 (k:Int)/\Hid (x∉ls.take k)) (fun _ i=>n - (intOf i).toNat)
 case atStart=>exact⟨0,J,F,O aF⟩
 case round=>
  obtain⟨k,hk,rfl,ou⟩:=hrel;by_cases j3:k<n
  ·obtain⟨y,Ab⟩:∃y,ls[k]? =some y:=⟨ls[k]'(by rw[HN.out];exact j3),aF⟩;first
    |obtain⟨A,rfl,nu⟩:∃A,a=some A/\w.cell? (A.add k)=some (.string y):=by
      obtain⟨g,o,rfl,h⟩:=HX.gQ (by rw[length_map,HN.out];omega);exact⟨_,F,by rw[dn];exact h k _ (DC Ab)⟩
    |obtain⟨A,rfl,nu⟩:∃A,a=some A/\w.cell? (A.add k)=some (.int .i64 y):=by
      obtain⟨g,o,rfl,h⟩:=HX.gQ (by rw[length_map,HN.out];omega);exact⟨_,F,by rw[dn];exact h k _ (KF Ab)⟩
   have tT:=O (mem_of_getElem? Ab);have Cr:y≠x->x∉ls.take (k+1):=by
    intro h hm;rw[take_add_one,Ab,mem_append]at hm;rcases hm with hm|hm
    ·exact ou hm
    ·simp at hm;exact h hm.symm
   have HS:=O Cr;first|have Cx:=(show((x.toList==y.toList)=true↔y=x)from(FQ x y).trans eq_comm)|(have Cx:=(show((x==y)=true↔y=x)from by rw[beq_iff_eq];exact eq_comm))
   clear Ab Cr;by_cases ze:y=x
   ·subst ze;have q:=Cx.2 F;clear Cx;go_wp2;go_ret;exact⟨_,F,⟨fun _=>tT,fun _=>by omega⟩,F⟩
   ·have q:_=false:=Bool.eq_false_iff.2 fun h=>ze (Cx.1 h);have Im:=O (HS ze);clear Cx tT ze HS;go_wp2
    go_round
    case rel=>exact⟨k+1,J,by go_num,Im⟩
    case measure=>simp[intOf];omega
  ·obtain rfl:k=n:=J;have xL:=ou.out;rw[take_of_length_le (by rw[HN.out];exact Nat.le_refl _)]at xL;have HR:=O xL;clear xL ou;go_wp2;go_ret;exact⟨-1,F,⟨fun h=>absurd h aX,fun h=>absurd h HR⟩,F⟩):G:=e
theorem YU(x:ByteArray)(ls:aT)(a:aN)(n c:Nat)(w:World)(hn:ls.length=n)(Cw:n<=4611686018427387904)(hx:aK w a (ls.map bM)):
 Calls prog 174 #[.slice a n c,.string x] w fun e w'=>∃z:Int,e= .returned (.int .i64 z)/\(0<=z↔x∈ls)/\w=w':=KM
theorem KS{G:Prop}(e:G:=by
 first|have hi:=O (YU x ls a n c w hn Cw hx)|have hi:=O (YX x ls a n c w hn Cw hx)
 clear hx hn;first|go_enter func118,ntmps118|go_enter func50,ntmps50
 go_wp2_with fail;refine hi.mono ?_;rintro e w1 ⟨z,rfl,hz,rfl⟩;have HZ:=O hz;clear hi hz;go_wp2_with fail;go_ret;exact⟨_,F,by simpa using HZ.out,F⟩):G:=e
theorem QS(x:ByteArray)(ls:aT)(a:aN)(n c:Nat)(w:World)(hn:ls.length=n)(Cw:n<=4611686018427387904)(hx:aK w a (ls.map bM)):
 Calls prog 118 #[.slice a n c,.string x] w fun e w'=>∃b:Bool,e= .returned (.bool b)/\(b=true↔x∈ls)/\w=w':=KS
end
section
open Go Go.RowKit
set_option maxRecDepth 100000
def lN:Int->Value:= .int .i64
theorem KF{ls:List Int}{k:Nat}{x:Int}(h:ls[k]? =some x):(ls.map lN)[k]? =some (.int .i64 x):=by rw[List.getElem?_map,h];rfl
theorem BR:AX prog 3:=⟨⟨_,underlying3,F⟩,au⟩
theorem YV(p:Int->Bool)(g:Nat)(u:Array Value)(ls:List Int)(a:aN)(n c:Nat)(w:World)(I:∀j w,(callFunc g j).run prog w= .ok (.enter g j) w)(hn:ls.length=n)(Cw:n<=4611686018427387904)(hx:aK w a (ls.map lN))
 (hp:∀y∈ls,∀w',X w w'->Calls prog g (#[.int .i64 y]++u) w' fun e E=>e= .returned (.bool (p y))/\X w' E):
 Calls prog 301 #[.slice a n c,.func (.func g) #[] u] w fun e w'=>∃z:Int,e= .returned (.int .i64 z)/\decide (0<=z)=ls.any p/\X w w':=Km
theorem YW(p:Int->Bool)(g:Nat)(lb:Array Value)(ls:List Int)(a:aN)(n c:Nat)(w:World)(eg:∀j w,(callFunc g j).run prog w= .ok (.enter g j) w)(hn:ls.length=n)(Cw:n<=4611686018427387904)(hx:aK w a (ls.map lN))
 (hp:∀y∈ls,∀w',X w w'->Calls prog g (#[.int .i64 y]++lb) w' fun e u=>e= .returned (.bool (p y))/\X w' u):
 Calls prog 241 #[.slice a n c,.func (.func g) #[] lb] w fun e w'=>e= .returned (.bool (ls.any p))/\X w w':=Kn
theorem YX(x:Int)(ls:List Int)(a:aN)(n c:Nat)(w:World)(hn:ls.length=n)(Cw:n<=4611686018427387904)(hx:aK w a (ls.map lN)):
 Calls prog 90 #[.slice a n c,.int .i64 x] w fun e w'=>∃z:Int,e= .returned (.int .i64 z)/\(0<=z↔x∈ls)/\w=w':=KM
theorem Es(x:Int)(ls:List Int)(a:aN)(n c:Nat)(w:World)(hn:ls.length=n)(Cw:n<=4611686018427387904)(hx:aK w a (ls.map lN)):
 Calls prog 50 #[.slice a n c,.int .i64 x] w fun e w'=>∃b:Bool,e= .returned (.bool b)/\(b=true↔x∈ls)/\w=w':=KS
end
section
open Go Go.RowKit Go.Maps Go.MapKept Go.WideShapes
theorem K3{G:Prop}(e:G:=by
 have ht:ls.take (k+1)=ls.take k++[x]:=by rw[take_add_one,h];rfl
 refine⟨fun hx=> ?_,fun hx hd=> ?_⟩
 ·rw[ht,nodup_append];refine⟨hn,aF,?_⟩;intro a ha b hb;rw[mem_singleton]at hb;subst hb;intro e;subst e;exact hx ha
 ·have h2:(ls.take (k+1)).Nodup:=hd.sublist (take_sublist _ _);rw[ht,nodup_append]at h2;exact h2.2.2 x hx x aF F):G:=e
theorem YZ{ls:aT}{k:Nat}{x:ByteArray}(h:ls[k]? =some x)(hn:(ls.take k).Nodup):(x∉ls.take k->(ls.take (k+1)).Nodup)/\(x∈ls.take k->¬ls.Nodup):=K3
theorem K4{G:Prop}(e:G:=by
 obtain⟨HN,HX⟩:=aB hn hx;clear hn hx;first|go_enter func245,ntmps245|go_enter func246,ntmps246
 go_wp2;go_loopw [7] (fun i wr=>∃k:Nat,k<=n/\i= .int .i64 (k:Int)/\(ls.take k).Nodup/\X w wr) (fun i _=>n - (intOf i).toNat)
 case atStart=>exact⟨0,J,F,aF,X.refl _⟩
 case round=>
  obtain⟨k,hk,rfl,ou,e1⟩:=hrel;obtain⟨E1,Cu⟩:=aB e1 ou;clear e1 ou;by_cases j3:k<n
  ·obtain⟨x,pQ⟩:∃x,ls[k]? =some x:=⟨ls[k]'(by rw[HN.out];exact j3),aF⟩;first
    |obtain⟨A,rfl,nu⟩:∃A,a=some A/\w.cell? (A.add k)=some (.string x):=by
      obtain⟨g,o,rfl,h⟩:=HX.gQ (by rw[length_map,HN.out];omega);exact⟨_,F,by rw[dn];exact h k _ (DC pQ)⟩
    |obtain⟨A,rfl,nu⟩:∃A,a=some A/\w.cell? (A.add k)=some (.int .i64 x):=by
      obtain⟨g,o,rfl,h⟩:=HX.gQ (by rw[length_map,HN.out];omega);exact⟨_,F,by rw[dn];exact h k _ (KF pQ)⟩
   have hcl:=gW nu E1;first|have nA:=O (YZ pQ Cu)|have nA:=O (Y0 pQ Cu)
   first|(have Fu:aK wr (some A) ((ls.take k).map bM):=by rw[map_take];exact(HX.ext E1).take k)|(have Fu:aK wr (some A) ((ls.take k).map lN):=by rw[map_take];exact(HX.ext E1).take k)
   have Cq:(ls.take k).length=k:=by rw[length_take,HN.out];omega
   first|have Ke:=O (QS x (ls.take k) (some A) k c wr Cq J Fu)|have Ke:=O (Es x (ls.take k) (some A) k c wr Cq J Fu)
   have Mh:k<=c:=J;clear nu pQ Fu Cq;go_wp2_with fail;refine Ke.mono ?_;rintro e wU ⟨b,rfl,hb,rfl⟩;have HB:=O hb;clear hb Ke;cases b with
   |true=>
    have HD:=O (nA.2 (HB.1 F));clear HB nA;go_wp2_with fail;go_ret;exact⟨true,F,(by first|exact⟨fun _=>HD,fun _=>rfl⟩|exact⟨fun _=>HD,fun _=>trivial⟩|simpa using HD.out),E1⟩
   |false=>
    have Ct:=O (nA.1 fun h=>by have:=HB.2 h;cases this);clear nA HB Cu;go_wp2_with fail;go_roundw
    case rel=>exact⟨k+1,J,by go_num,Ct,E1⟩
    case measure=>simp[intOf];omega
  ·obtain rfl:k=n:=J;have xL:=Cu.out;rw[take_of_length_le (by rw[HN.out];exact Nat.le_refl _)]at xL;have HR:=O xL;clear xL;go_wp2;go_ret;exact⟨false,F,(by first|exact⟨fun h=>(Bool.noConfusion h),fun h=>absurd HR.out h⟩|exact HR|simpa using HR.out),E1⟩):G:=e
theorem QT(ls:aT)(a:aN)(n c:Nat)(w:World)(hn:ls.length=n)(Cw:n<=4611686018427387904)(j:n<=c)(hx:aK w a (ls.map bM)):
 Calls prog 245 #[.slice a n c] w fun e w'=>∃b:Bool,e= .returned (.bool b)/\(b=true↔¬ls.Nodup)/\X w w':=K4
end
section
open Go Go.RowKit Go.Maps Go.MapKept Go.WideShapes
theorem Y0{ls:List Int}{k:Nat}{x:Int}(h:ls[k]? =some x)(hn:(ls.take k).Nodup):(x∉ls.take k->(ls.take (k+1)).Nodup)/\(x∈ls.take k->¬ls.Nodup):=K3
theorem Y1(ls:List Int)(a:aN)(n c:Nat)(w:World)(hn:ls.length=n)(Cw:n<=4611686018427387904)(j:n<=c)(hx:aK w a (ls.map lN)):
 Calls prog 246 #[.slice a n c] w fun e w'=>∃b:Bool,e= .returned (.bool b)/\(b=true↔¬ls.Nodup)/\X w w':=K4
end
def Gd(l:aj):aj:=Lib.trimSuffix l [42]
def KG(l:aj):Bool:=Lib.hasSuffix l [42]
def BU(l:aj):Bool:=jK (Gd l)||(KG l&&(Gd l).isEmpty)
theorem Y3(s:ByteArray):(⟨(Gd s.data.toList).toArray⟩:ByteArray).size<=s.size:=by
 show(Gd s.data.toList).toArray.size<=s.size;rw[size_toArray,Lib.size_eq];unfold Gd Lib.trimSuffix;split
 ·rw[length_take];omega
 ·exact Nat.le_refl _
theorem Y4(H:ByteArray):H.toList.isEmpty=H.data.toList.isEmpty:=by rw[Lib.toList_data]
theorem Et{P:Program}{f:FuncId}{j:Func}{c:Code}(hf:P.funcs[f]? =some j)(I:(j.name== "runtime.NumGoroutine")=false)(hb:j.body=some c):∀u w,(callFunc f u).run P w= .ok (.enter f u) w:=by
 intro u w;have E:j.name≠ "runtime.NumGoroutine" :=by simpa using I
 simp[callFunc,hf,E,hb,mark]
def Ac(n:Int):Bool:=decide (1<=n)&&decide (n<=12)
theorem Y5(s:ByteArray)(w:World)(hn:s.size<=140737488355328):
 nW 240 #[.string s] w (.bool (!jK s.data.toList)):=by
 have h:=O (Ec s w J);generalize jK s.data.toList=b at*;go_enter func240,ntmps240;go_wp2_with fail;refine h.mono ?_;rintro e E ⟨rfl,j⟩;have u:=O j;clear j h;go_wp2_with fail;go_ret;exact⟨F,u⟩
theorem Y6(n:Int)(w:World):
 Br 242 #[.int .i64 n] w (.bool (!Ac n)):=by
 by_cases h:n<1
 ·have u:decide (n<1)=true:=aQ h;have j:(!Ac n)=true:=by unfold Ac;rw[aP (show¬1<=n by omega)];rfl
  rw[j];clear j;go_enter func242,ntmps242;go_wp2;go_ret;exact⟨by first|rfl|(rw[u];rfl),F⟩
 ·have u:decide (n<1)=false:=aP h;have j:(!Ac n)=decide (12<n):=by
   unfold Ac;rw[aQ (show 1<=n by omega),Bool.true_and,<-decide_not];congr 1;simp only[Int.not_le]
  rw[j];clear j;go_enter func242,ntmps242;go_wp2;go_ret;exact⟨by first|rfl|(rw[u];rfl),F⟩
theorem Y7(s:ByteArray)(w:World)(hn:s.size<=140737488355328):
 nW 244 #[.string s] w (.bool (BU s.data.toList)):=by
 have hcut:=O (fun w'=>Y2 s ⟨#[42]⟩ w' J);have aa:=Y3 s;obtain⟨H,u⟩:=aC ((⟨(Gd s.data.toList).toArray⟩:ByteArray):ByteArray);have I:H=⟨(Lib.trimSuffix s.data.toList [42]).toArray⟩:=u.symm;have E:Hid (∀w',Calls prog 213 #[.string s,.string ⟨#[42]⟩] w' fun e ae=>e= .returned (.tuple #[.string H,.bool (KG s.data.toList)])/\ae=w'):=by
  rw[I];exact hcut
 rw[u]at aa;have tL:=O (fun w'=>Ec H w' J);have R:Gd s.data.toList=H.data.toList:=by rw[<-u]
 unfold BU;rw[R];have ac:=O (Y4 H);clear hcut u I R aa hn;generalize KG s.data.toList=ad at*;generalize jK H.data.toList=nm at*;cases nm with
 |true=>
  go_enter func244,ntmps244;go_wp2_with fail;refine(E w).mono ?_;rintro e ab ⟨rfl,rfl⟩;go_wp2_with fail;refine(tL _).mono ?_;rintro e w2 ⟨rfl,e2⟩;have j:=O e2;clear e2;go_wp2_with fail;go_ret;exact⟨F,j⟩
 |false=>
  cases ad with
  |false=>
   go_enter func244,ntmps244;go_wp2_with fail;refine(E w).mono ?_;rintro e ab ⟨rfl,rfl⟩;go_wp2_with fail;refine(tL _).mono ?_;rintro e w2 ⟨rfl,e2⟩;have j:=O e2;clear e2;go_wp2_with fail;go_ret;exact⟨F,j⟩
  |true=>
   go_enter func244,ntmps244;go_wp2_with fail;refine(E w).mono ?_;rintro e ab ⟨rfl,rfl⟩;go_wp2_with fail;refine(tL _).mono ?_;rintro e w2 ⟨rfl,e2⟩;have j:=O e2;clear e2;go_wp2_with fail;go_ret;exact⟨by show Ending.returned (Value.bool H.toList.isEmpty)=Ending.returned (Value.bool H.data.toList.isEmpty);rw[ac.out],j⟩
theorem Y8(s:ByteArray)(w:World)(hn:s.size<=140737488355328):
 nW 243 #[.string s] w (.bool (!BU s.data.toList)):=by
 have h:=O (Y7 s w hn);generalize BU s.data.toList=b at*;go_enter func243,ntmps243;go_wp2_with fail;refine h.mono ?_;rintro e E ⟨rfl,j⟩;have u:=O j;clear j h;go_wp2_with fail;go_ret;exact⟨F,u⟩
section
open Go Go.RowKit Go.Maps Go.MapKept Go.WideShapes
structure aS where
 deny:Bool
 ra:aN
 rn:Nat
 rc:Nat
 roles:aT
 aa:aN
 an:Nat
 ac:Nat
 acts:List Int
 la:aN
 ln:Nat
 lc:Nat
 labels:aT
 fr:Int
 tt:Int
 nd:Int
 ow:ByteArray
def aS.v(r:aS):aO:=[.bool r.deny,.slice r.ra r.rn r.rc,.slice r.aa r.an r.ac,.slice r.la r.ln r.lc,.int .i64 r.fr,.int .i64 r.tt,.int .i64 r.nd,.string r.ow]
structure aS.Ok(w:World)(r:aS):Prop where
 rl:r.roles.length=r.rn
 qZ:r.rn<=r.rc
 rm:r.rn<=140737488355328
 nU:aK w r.ra (r.roles.map bM)
 rs:∀s∈r.roles,s.size<=140737488355328
 al:r.acts.length=r.an
 Ad:r.an<=r.ac
 am:r.an<=140737488355328
 mF:aK w r.aa (r.acts.map lN)
 Hf:∀z∈r.acts,(Lit.int .i64 z).wf=true
 ll:r.labels.length=r.ln
 Eu:r.ln<=r.lc
 lm:r.ln<=140737488355328
 sN:aK w r.la (r.labels.map bM)
 ls:∀s∈r.labels,s.size<=140737488355328
 os:r.ow.size<=140737488355328
theorem aS.Ok.ext{w w':World}{r:aS}(h:r.Ok w)(e:X w w'):r.Ok w':=
 ⟨h.rl,h.qZ,h.rm,h.nU.ext e,h.rs,h.al,h.Ad,h.am,h.mF.ext e,h.Hf,h.ll,h.Eu,h.lm,h.sN.ext e,h.ls,h.os⟩
theorem aS.len(r:aS):r.v.length=8:=F
noncomputable def Ae{α:Type}(l:List α):Bool:= @decide (¬l.Nodup) (Classical.propDecidable _)
theorem QU{α:Type}{l:List α}:Ae l=true↔¬l.Nodup:=by grind [Ae]
theorem KH{α:Type}{l:List α}{b:Bool}(h:b=true↔¬l.Nodup):b=Ae l:=by grind [QU]
def rJ(s:ByteArray):Bool:= !jK s.data.toList
def yO(s:ByteArray):Bool:= !BU s.data.toList
def Af(z:Int):Bool:= !Ac z
def uq(s:ByteArray):Bool:=s.toList.isEmpty
def k1(r:aS):Bool:=decide ((16:Int)<(r.rn:Int))||decide ((16:Int)<(r.an:Int))||decide ((16:Int)<(r.ln:Int))
def k2(r:aS):Bool:=r.roles.any rJ||(!uq r.ow&&rJ r.ow)
def k3(r:aS):Bool:=r.acts.any Af
def k4(r:aS):Bool:=r.labels.any yO
noncomputable def k5(r:aS):Bool:=Ae r.roles||Ae r.acts||Ae r.labels
def k6(r:aS):Bool:=(decide (r.fr<0)||decide (24<r.fr))||(decide (r.tt<0)||decide (24<r.tt))||(decide (r.fr=r.tt)&&decide (r.fr≠0))||(decide (r.nd<0)||decide (16<r.nd))
def k7(r:aS):Bool:=(decide (r.nd=0) != uq r.ow)||(r.deny&&decide (0<r.nd))
noncomputable def jd(r:aS):Int:=if k1 r then 5 else if k2 r then 6 else if k3 r then 3 else if k4 r then 6 else if k5 r then 8 else if k6 r then 4 else if k7 r then 17 else 0
end
theorem Y9(r:aS)(w:World)(bw:r.Ok w):
 nW 193 #[.agg r.v.toArray] w (.int .i64 (jd r)):=by
 obtain⟨cg,ch,ci,cj,cl,cm,cn,cr⟩:=jg (fun w' (h:r.Ok w')=>QO rJ 240 #[] r.roles r.ra r.rn r.rc w' (Et func240 au F) h.rl (by have:=h.qZ;have:=h.rm;omega) h.nU (fun y bi w2 _=>Y5 y w2 (h.rs y bi))) (fun w'=>Ec r.ow w' (by have:=bw.os;omega)) (fun w' (h:r.Ok w')=>YW Af 242 #[] r.acts r.aa r.an r.ac w' (Et func242 au F) h.al (by have:=h.Ad;have:=h.am;omega) h.mF (fun y bi w2 _=>(Y6 y w2).mono fun e cH ⟨cw,cx⟩=>⟨cw,cx▸X.refl _⟩)) (fun w' (h:r.Ok w')=>QO yO 243 #[] r.labels r.la r.ln r.lc w' (Et func243 au F) h.ll (by have:=h.Eu;have:=h.lm;omega) h.sN (fun y bi w2 _=>Y8 y w2 (h.ls y bi))) (fun w' (h:r.Ok w')=>QT r.roles r.ra r.rn r.rc w' h.rl (by have:=h.qZ;have:=h.rm;omega) h.qZ h.nU) (fun w' (h:r.Ok w')=>Y1 r.acts r.aa r.an r.ac w' h.al (by have:=h.Ad;have:=h.am;omega) h.Ad h.mF) (fun w' (h:r.Ok w')=>QT r.labels r.la r.ln r.lc w' h.ll (by have:=h.Eu;have:=h.lm;omega) h.Eu h.sN) bw;clear bw;go_enter func193,ntmps193;go_upto_region 1 with(fail);generalize iX:World.alloc w _=b6;have b':ah b6 w.heap.size r.v 192:=by rw[<-iX];exact ah.aI F F
 have cb:X w b6:=by rw[<-iX];exact(X.refl w).alloc _
 obtain⟨ar,EA⟩:=aB b' cb;clear iX b' cb;go_cut [13] (fun v wx=>v= .bool (k1 r)/\X b6 wx)
 case first=>
  have a0:=ar.cell' (i:=1) F;have a1:=ar.cell' (i:=2) F;have a2:=ar.cell' (i:=3) F;go_wp2;all_goals
   go_meet;refine⟨?_,X.refl _⟩;refine congrArg Value.bool ?_;unfold k1;rw[Bool.eq_iff_iff];simp only[Bool.or_eq_true,decide_eq_true_eq];split at* <;>omega
 case rest=>
  obtain⟨rfl,bv⟩:=hcut;obtain⟨ax,aE⟩:=aB (ar.ext bv) (EA.ext bv);clear bv ar EA;cases ae:k1 r with
  |true=>
   go_wp2;go_ret;exact⟨by simp[jd,ae],aE⟩
  |false=>
  have bo:=O (cr.ext aE);go_upto_region 3 with(fail);go_cut [27] (fun v wx=>v= .bool (k2 r)/\X wc wx)
  case first=>
   have a0:=ax.cell' (i:=1) F;go_wp2_with fail;refine(cg wc bo).mono ?_;rintro e wD ⟨rfl,ad⟩;generalize aw:r.roles.any rJ=bu;have aq:=O aw;clear aw;have cv:=(ax.ext ad).cell' (i:=7) F;have ai:=O ad;clear ad a0;have y9:=O (show k2 r=(r.roles.any rJ||(!uq r.ow&&rJ r.ow))from F);rw[aq]at y9;have cf:rJ r.ow= !jK r.ow.data.toList:=F;rw[cf]at y9;generalize jK r.ow.data.toList=nm at*;have I:=O (show uq r.ow=r.ow.toList.isEmpty from F);generalize uq r.ow=a6 at*;generalize hk:k2 r=R at*;clear hk cf aq;cases bu with
   |true=>
    have j:R=true:=by rw[y9];rfl
    subst j;clear y9 I;go_wp2;go_meet;exact⟨by first|rfl|simp,ai⟩
   |false=>
   cases a6 with
   |true=>
    have E:r.ow.toList.isEmpty=true:=I.symm;have e2:r.ow.toList=[]:=isEmpty_iff.1 E;have j:R=false:=by rw[y9];rfl
    subst j;clear y9 I;go_wp2;go_meet;exact⟨by first|rfl|simp,ai⟩
   |false=>
    have E:r.ow.toList.isEmpty=false:=I.symm;have e2:r.ow.toList≠[]:=fun h=>by rw[h]at E;cases E
    have j:R= !nm:=by rw[y9];simp
    subst j;clear y9 I;go_wp2_with fail;refine(ch _).mono ?_;rintro e cI ⟨rfl,ca⟩;have co:=O (ai.ext ca);clear ca;go_wp2_with fail;go_meet;exact⟨by first|rfl|simp,co⟩
  case rest=>
   obtain⟨rfl,a4⟩:=hcut;obtain⟨bj,bl,bp⟩:=aW (ax.ext a4) (aE.ext a4) (bo.ext a4);clear a4 ax aE bo cg ch;cases am:k2 r with
   |true=>
    go_wp2;go_ret;exact⟨by simp[jd,ae,am],bl⟩
   |false=>
   have a1:=bj.cell' (i:=2) F;go_wp2_with fail;refine(ci wc bp).mono ?_;rintro e wD ⟨rfl,ad⟩;obtain⟨bk,ai,br⟩:=aW (bj.ext ad) (bl.ext ad) (bp.ext ad);clear ad bj bl bp;clear a1 ci;cases af:k3 r with
   |true=>
    have a7:r.acts.any Af=true:=af;rw[a7];go_wp2;go_ret;exact⟨by simp[jd,ae,am,af],ai⟩
   |false=>
   have a7:r.acts.any Af=false:=af;rw[a7];have a2:=bk.cell' (i:=3) F;go_wp2_with fail;refine(cj wD br).mono ?_;rintro e wE ⟨rfl,a5⟩;obtain⟨az,bm,bt⟩:=aW (bk.ext a5) (ai.ext a5) (br.ext a5);clear a5 bk ai br;clear a2 cj;cases an:k4 r with
   |true=>
    have a8:r.labels.any yO=true:=an;rw[a8];go_wp2;go_ret;exact⟨by simp[jd,ae,am,af,an],bm⟩
   |false=>
   have a8:r.labels.any yO=false:=an;rw[a8];clear a7 a8;go_upto_region 9 with(fail);go_cut [34] (fun v wx=>v= .bool (k5 r)/\X wE wx)
   case first=>
    have a0:=az.cell' (i:=1) F;go_wp2_with fail;refine(cl wE bt).mono ?_;rintro e wF ⟨bu,rfl,aw,eF⟩;obtain⟨aq,ac,b9,al⟩:=bU (KH aw) (az.ext eF) (bt.ext eF) eF;clear aw eF a0;have a1:=ac.cell' (i:=2) F;cases bu with
    |true=>
     go_wp2;go_meet;exact⟨by unfold k5;rw[<-aq];rfl,al⟩
    |false=>
     go_wp2_with fail;refine(cm wF b9).mono ?_;rintro e wG ⟨ct,rfl,u6,eG⟩;obtain⟨b8,BG,cs,b7⟩:=bU (KH u6) (ac.ext eG) (b9.ext eG) (al.ext eG);clear u6 eG a1;have a2:=BG.cell' (i:=3) F;cases ct with
     |true=>
      go_wp2;go_meet;exact⟨by unfold k5;rw[<-aq,<-b8];rfl,b7⟩
     |false=>
      go_wp2_with fail;refine(cn wG cs).mono ?_;rintro e cJ ⟨cC,rfl,ce,cc⟩;obtain⟨cq,cp⟩:=aB (KH ce) (b7.ext cc);clear ce cc a2;go_wp2_with fail;go_meet;exact⟨by unfold k5;rw[<-aq,<-b8,<-cq];first|rfl|simp,cp⟩
   case rest=>
    obtain⟨rfl,eF⟩:=hcut;obtain⟨ac,al⟩:=aB (az.ext eF) (bm.ext eF);clear eF az bm bt cl cm cn;cases a9:k5 r with
    |true=>
     go_wp2;go_ret;exact⟨by simp[jd,ae,am,af,an,a9],al⟩
    |false=>
    have cE:=ac.cell' (i:=4) F;have cF:=ac.cell' (i:=5) F;have cG:=ac.cell' (i:=6) F;have cv:=ac.cell' (i:=7) F;have cD:=ac.cell' (i:=0) F;go_upto_region 11 with(fail);go_cut [48] (fun v wx=>v= .bool (k6 r)/\wx=wc)
    case first=>
     have u:=O (show k6 r=((((decide (r.fr<0)||decide (24<r.fr))||(decide (r.tt<0)||decide (24<r.tt)))||(decide (r.fr=r.tt)&&decide (r.fr≠0)))||(decide (r.nd<0)||decide (16<r.nd)))from F);generalize hk:k6 r=R at*;clear hk;by_cases ba:r.fr<0
     ·have b0:decide (r.fr<0)=true:=aQ ba;rw[b0]at u;clear ba;have j:R=true:=by rw[u];simp
      subst j;clear u;go_wp2;go_meet;exact⟨by first|rfl|simp,F⟩
     have b0:decide (r.fr<0)=false:=aP ba;rw[b0]at u;clear ba;by_cases bc:24<r.fr
     ·have b1:decide (24<r.fr)=true:=aQ bc;rw[b1]at u;clear bc;have j:R=true:=by rw[u];simp
      subst j;clear u;go_wp2;go_meet;exact⟨by first|rfl|simp,F⟩
     have b1:decide (24<r.fr)=false:=aP bc;rw[b1]at u;clear bc;by_cases bd:r.tt<0
     ·have b2:decide (r.tt<0)=true:=aQ bd;rw[b2]at u;clear bd;have j:R=true:=by rw[u];simp
      subst j;clear u;go_wp2;go_meet;exact⟨by first|rfl|simp,F⟩
     have b2:decide (r.tt<0)=false:=aP bd;rw[b2]at u;clear bd;by_cases be:24<r.tt
     ·have b3:decide (24<r.tt)=true:=aQ be;rw[b3]at u;clear be;have j:R=true:=by rw[u];simp
      subst j;clear u;go_wp2;go_meet;exact⟨by first|rfl|simp,F⟩
     have b3:decide (24<r.tt)=false:=aP be;rw[b3]at u;clear be;by_cases ao:r.fr=r.tt
     ·have b4:decide (r.fr=r.tt)=true:=aQ ao;have cy:(r.fr==r.tt)=true:=by simp[ao]
      rw[b4]at u;by_cases ag:r.fr=0
      ·have cz:decide (r.fr=0)=true:=aQ ag;have cA:(r.fr != 0)=false:=by simp[ag]
       have b5:decide (r.fr≠0)=false:=aP (fun h=>h ag);rw[b5]at u;clear ao ag;by_cases ab:r.nd<0
       ·have ap:decide (r.nd<0)=true:=aQ ab;rw[ap]at u;clear ab;have j:R=true:=by rw[u];simp
        subst j;clear u;go_wp2;go_meet;exact⟨by first|rfl|simp,F⟩
       have ap:decide (r.nd<0)=false:=aP ab;rw[ap]at u;clear ab;have j:R=decide (16<r.nd):=by rw[u];simp
       subst j;clear u;go_wp2;go_meet;exact⟨by first|rfl|simp,F⟩
      ·have cz:decide (r.fr=0)=false:=aP ag;have cA:(r.fr != 0)=true:=by simp[ag]
       have b5:decide (r.fr≠0)=true:=aQ ag;rw[b5]at u;clear ao ag;have j:R=true:=by rw[u];simp
       subst j;clear u;go_wp2;go_meet;exact⟨by first|rfl|simp,F⟩
     ·have b4:decide (r.fr=r.tt)=false:=aP ao;have cy:(r.fr==r.tt)=false:=by simp[ao]
      rw[b4]at u;clear ao;by_cases ab:r.nd<0
      ·have ap:decide (r.nd<0)=true:=aQ ab;rw[ap]at u;clear ab;have j:R=true:=by rw[u];simp
       subst j;clear u;go_wp2;go_meet;exact⟨by first|rfl|simp,F⟩
      have ap:decide (r.nd<0)=false:=aP ab;rw[ap]at u;clear ab;have j:R=decide (16<r.nd):=by rw[u];simp
      subst j;clear u;go_wp2;go_meet;exact⟨by first|rfl|simp,F⟩
    case rest=>
     obtain⟨rfl,rfl⟩:=hcut;cases a_:k6 r with
     |true=>
      go_wp2;go_ret;exact⟨by simp[jd,ae,am,af,an,a9,a_],al⟩
     |false=>
     have ck:0<=r.nd:=by
      by_cases h:r.nd<0
      ·exfalso;have:k6 r=true:=by unfold k6;rw[aQ h];simp
       rw[a_]at this;cases this
      ·omega
     go_upto_region 13 with(fail);go_cut [89] (fun v wx=>v= .bool (k7 r)/\wx=wc)
     case first=>
      have aa:=O (show k7 r=((decide (r.nd=0) != uq r.ow)||(r.deny&&decide (0<r.nd)))from F);generalize hk:k7 r=R at*;clear hk;have I:=O (show uq r.ow=r.ow.toList.isEmpty from F);generalize uq r.ow=a6 at*;generalize r.deny=a3 at*;by_cases bh:r.nd=0
      ·have bx:decide (r.nd=0)=true:=aQ bh;have bz:decide (0<r.nd)=false:=aP J;rw[bx,bz]at aa;clear bh ck;cases a6 with
       |true=>
        have E:r.ow.toList.isEmpty=true:=I.symm;have e2:r.ow.toList=[]:=isEmpty_iff.1 E;cases a3;all_goals
         have j:=aa;simp at j;subst j;clear aa I;go_wp2;go_meet;exact⟨by first|rfl|simp,F⟩
       |false=>
        have E:r.ow.toList.isEmpty=false:=I.symm;have e2:r.ow.toList≠[]:=fun h=>by rw[h]at E;cases E
        cases a3;all_goals
         have j:=aa;simp at j;subst j;clear aa I;go_wp2;go_meet;exact⟨by first|rfl|simp,F⟩
      ·have bx:decide (r.nd=0)=false:=aP bh;have bz:decide (0<r.nd)=true:=aQ J;rw[bx,bz]at aa;clear bh ck;cases a6 with
       |true=>
        have E:r.ow.toList.isEmpty=true:=I.symm;have e2:r.ow.toList=[]:=isEmpty_iff.1 E;cases a3;all_goals
         have j:=aa;simp at j;subst j;clear aa I;go_wp2;go_meet;exact⟨by first|rfl|simp,F⟩
       |false=>
        have E:r.ow.toList.isEmpty=false:=I.symm;have e2:r.ow.toList≠[]:=fun h=>by rw[h]at E;cases E
        cases a3;all_goals
         have j:=aa;simp at j;subst j;clear aa I;go_wp2;go_meet;exact⟨by first|rfl|simp,F⟩
     case rest=>
      obtain⟨rfl,rfl⟩:=hcut;cases cd:k7 r with
      |true=>
       go_wp2;go_ret;exact⟨by simp[jd,ae,am,af,an,a9,a_,cd],al⟩
      |false=>
       go_wp2;go_ret;exact⟨by simp[jd,ae,am,af,an,a9,a_,cd],al⟩
end Go.Proofs.YtjlhhnkhcbpnjaaGreatDoor
